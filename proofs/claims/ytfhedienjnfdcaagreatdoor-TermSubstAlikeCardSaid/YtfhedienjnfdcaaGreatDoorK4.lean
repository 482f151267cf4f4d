/- Texts Elem of this proof, in one. -/
import Derived.Test.YtfhedienjnfdcaaGreatDoorK3
import Derived.Deep.CutBlock
set_option linter.unusedVariables false
set_option linter.unusedSimpArgs false
set_option maxRecDepth 100000
set_option maxHeartbeats 32000000
namespace Go.Proofs.YtfhedienjnfdcaaGreatDoor
open Go.RowKit
structure Pair (ok : Nat → Prop) (w : World) (x y : Tm) (g off cap : Nat) (k0 m0 k1 m1 : Value) : Prop where
 okg : ok g
 cap2 : 2 ≤ cap
 x0 : w.cell? ⟨g, off, none⟩ = some (.int .i64 x.op)
 x1 : w.cell? ⟨g, off + 1, none⟩ = some (.string x.name)
 y0 : w.cell? ⟨g, off + 7, none⟩ = some (.int .i64 y.op)
 y1 : w.cell? ⟨g, off + 8, none⟩ = some (.string y.name)
 y2 : w.cell? ⟨g, off + 9, none⟩ = some (.int .i64 y.n)
 y3 : w.cell? ⟨g, off + 10, none⟩ = some (.int .i64 y.ty.kind)
 y4 : w.cell? ⟨g, off + 11, none⟩ = some (.string y.ty.name)
 y5 : w.cell? ⟨g, off + 12, none⟩ = some k1
 y6 : w.cell? ⟨g, off + 13, none⟩ = some m1
 ty : TyL ok w y.ty.kids k1
 tm : TmL ok w y.kids m1
theorem kept_grown {w w' : World} {row : Option Nat} (h : w.grownBy w' row) : Kept (fun k => row = some k) w w' := ⟨h.os, h.tape, h.output, h.size, fun k hk hn => h.block k hk (fun e => hn e.symm)⟩
theorem Kept.via {S S' : Nat → Prop} {w w1 w2 : World} (h : Kept S w w1) (k : Kept S' w1 w2) (hS : ∀ x, x < w.heap.size → S' x → S x) : Kept S w w2 :=
 ⟨k.os.trans h.os, k.tape.trans h.tape, k.output.trans h.output, Nat.le_trans h.size k.size, fun i hi hs => (k.block i (Nat.lt_of_lt_of_le hi h.size) (fun q => hs (hS i hi q))).trans (h.block i hi hs)⟩
def ok3 (n0 B R : Nat) (v : Value) (k : Nat) : Prop := n0 ≤ k ∧ k ≠ B ∧ k ≠ R ∧ v.ownBlock ≠ some k
theorem TmL.pair {ok : Nat → Prop} {w : World} {x y : Tm} {v : Value} (h : TmL ok w [x, y] v) : ∃ g off cap k0 m0 k1 m1, v = .slice (some ⟨g, off, none⟩) 2 cap ∧ Pair ok w x y g off cap k0 m0 k1 m1 := by
 generalize hl : [x, y] = l at h
 cases h with
 | nil h => cases hl
 | mk K M hne hb hc hcell hk hm =>
  rename_i g off cap
  subst hl
  have h0 := hcell 0 (by simp)
  have h1 := hcell 1 (by simp)
  refine ⟨g, off, cap, K 0, M 0, K 1, M 1, rfl, hb, hc, ?_, ?_, ?_, ?_, ?_, ?_, ?_, ?_, ?_, hk 1 (by simp), hm 1 (by simp)⟩
  ·simpa using h0.1
  ·simpa using h0.2.1
  ·simpa using h1.1
  ·simpa using h1.2.1
  ·simpa using h1.2.2.1
  ·simpa using h1.2.2.2.1
  ·simpa using h1.2.2.2.2.1
  ·simpa using h1.2.2.2.2.2.1
  ·simpa using h1.2.2.2.2.2.2
end Go.Proofs.YtfhedienjnfdcaaGreatDoor
