/- A part. -/
import Derived.Test.YtdmebjbkccjhbaaGreatDoorU10
import Derived.Lib.AppendIntMem
set_option linter.unusedVariables false
set_option linter.unusedSimpArgs false
set_option maxRecDepth 100000
set_option maxHeartbeats 32000000
namespace Go.Proofs.YtdmebjbkccjhbaaGreatDoor
open Go.RowKit
variable {bz:Nat}
def TB (B : Nat) (w : World) : Prop := Lib.TabBelow Tryz.prog B w "internal/strconv.uint64pow10" .u64 Lib.pow10Tab
theorem KB.below {b B:Nat} {w w':World} (h:KB b B w w') (hb:B≤b) (hB:B≤w.heap.size):Below B w w':=
 ⟨h.os,h.tape,h.output,h.size,fun k hk=>h.block k (by omega) (fun hS=>by
  rcases hS with rfl | ⟨hq,_⟩
  ·omega
  ·omega)⟩
theorem TB.kb {b B:Nat} {w w':World} (h:TB B w) (k:KB b B w w') (hb:B≤b) (hB:B≤w.heap.size):TB B w':=fun w2 h2=>h w2 ((k.below hb hB).trans h2)
def LD (bz:Nat) (kl:List Tm) (out:List UInt8):Prop:=∀ (B b:Nat) (l:List UInt8) (w:World) (kk:Value),TB B w→Bu B b l w→B≤w.heap.size→TmL bz (fun q=>q<B) w kl kk→l.length+out.length≤1000000000 →
 Calls Tryz.prog 130 #[.pointer (some ⟨b,0,none⟩),kk] w (PP B b (l++out) w)
def HD (bz:Nat) (t:Tm) (out:List UInt8):Prop:=∀ (B b:Nat) (l:List UInt8) (w:World) (tk kk:Value),TB B w→Bu B b l w→B≤w.heap.size→TyL bz (fun q=>q<B) w t.ty.kids tk→TmL bz (fun q=>q<B) w t.kids kk→l.length+out.length≤1000000000 →
 Calls Tryz.prog 128 #[.pointer (some ⟨b,0,none⟩),tmVal t tk kk] w (PP B b (l++out) w)
end Go.Proofs.YtdmebjbkccjhbaaGreatDoor
