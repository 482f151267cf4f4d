/- Texts RPar of this proof, in one. -/
import Derived.Test.YtckjlliobebodaaGreatDoorBd9
import Derived.Deep.RegionHeld3
import Derived.Deep.CutBlock
set_option linter.unusedVariables false
set_option linter.unusedSimpArgs false
namespace Go.Proofs.YtckjlliobebodaaGreatDoor
open Go.RowKit
def RAt (w : World) (b : Nat) (s : ByteArray) (k : Int) (x : ByteArray) (a nest at_ e : Int) : Prop := Blk w b 58 [.string s, .int .i64 k, .string x, .int .i64 a, .int .i64 nest, .int .i64 at_, .int .i64 e]
section
variable {w : World} {b : Nat} {s : ByteArray} {k : Int} {x : ByteArray} {a nest at_ e : Int}
theorem RAt.c0 (h : RAt w b s k x a nest at_ e) : w.cell? ⟨b, 0, none⟩ = some (.string s) := Blk.cell h 0
theorem RAt.c1 (h : RAt w b s k x a nest at_ e) : w.cell? ⟨b, 1, none⟩ = some (.int .i64 k) := Blk.cell h 1
theorem RAt.c2 (h : RAt w b s k x a nest at_ e) : w.cell? ⟨b, 2, none⟩ = some (.string x) := Blk.cell h 2
theorem RAt.c3 (h : RAt w b s k x a nest at_ e) : w.cell? ⟨b, 3, none⟩ = some (.int .i64 a) := Blk.cell h 3
theorem RAt.c4 (h : RAt w b s k x a nest at_ e) : w.cell? ⟨b, 4, none⟩ = some (.int .i64 nest) := Blk.cell h 4
theorem RAt.c5 (h : RAt w b s k x a nest at_ e) : w.cell? ⟨b, 5, none⟩ = some (.int .i64 at_) := Blk.cell h 5
theorem RAt.c6 (h : RAt w b s k x a nest at_ e) : w.cell? ⟨b, 6, none⟩ = some (.int .i64 e) := Blk.cell h 6
theorem RAt.kept {w' : World} {S : Nat → Prop} (h : RAt w b s k x a nest at_ e) (hk : Kept S w w') (hs : ¬ S b) : RAt w' b s k x a nest at_ e := Blk.kept h hk hs
end
theorem RAt.grow {w w' : World} {b : Nat} {s : ByteArray} {k : Int} {x : ByteArray} {a nest at_ e : Int} (h : RAt w b s k x a nest at_ e) (hk : Kept (fun _ => False) w w') : RAt w' b s k x a nest at_ e := h.kept hk id
end Go.Proofs.YtckjlliobebodaaGreatDoor
