/- The relation 'all blocks but one are as they were' and the parser's block: plain facts on worlds. -/
import Derived.Test.YtckjlliobebodaaGreatDoorLeaf
namespace Go.Proofs.YtckjlliobebodaaGreatDoor
open Go.RowKit
/-- Every block that was there is as it was, but for those in S. -/
structure Kept (S : Nat → Prop) (w w' : World) : Prop where
  os : w'.os = w.os
  tape : w'.tape = w.tape
  output : w'.output = w.output
  size : w.heap.size ≤ w'.heap.size
  block : ∀ k, k < w.heap.size → ¬ S k → w'.heap[k]? = w.heap[k]?
theorem Kept.refl (S : Nat → Prop) (w : World) : Kept S w w := ⟨rfl, rfl, rfl, Nat.le_refl _, fun _ _ _ => rfl⟩
theorem Kept.trans {S : Nat → Prop} {a b c : World} (h : Kept S a b) (k : Kept S b c) : Kept S a c :=
  ⟨k.os.trans h.os, k.tape.trans h.tape, k.output.trans h.output, Nat.le_trans h.size k.size, fun i hi hs => (k.block i (Nat.lt_of_lt_of_le hi h.size) hs).trans (h.block i hi hs)⟩
theorem Kept.mono {S T : Nat → Prop} {w w' : World} (h : Kept S w w') (hST : ∀ k, k < w.heap.size → S k → T k) : Kept T w w' :=
  ⟨h.os, h.tape, h.output, h.size, fun k hk hs => h.block k hk fun hS => hs (hST k hk hS)⟩
theorem Kept.of_below {S : Nat → Prop} {w w' : World} (h : Below w.heap.size w w') : Kept S w w' :=
  ⟨h.os, h.tape, h.output, h.size, fun k hk _ => h.block k hk⟩
theorem Kept.below {w w' : World} (h : Kept (fun _ => False) w w') : Below w.heap.size w w' :=
  ⟨h.os, h.tape, h.output, h.size, fun k hk => h.block k hk (fun h => h)⟩
theorem Kept.drew {S : Nat → Prop} {a w : World} (h : Kept S a w) : Kept S a w.drew := ⟨h.os, h.tape, h.output, h.size, h.block⟩
theorem Kept.drewN {S : Nat → Prop} {a w : World} (h : Kept S a w) (n : Nat) : Kept S a (w.drewN n) := ⟨h.os, h.tape, h.output, h.size, h.block⟩
theorem Kept.alloc {S : Nat → Prop} {a w : World} (h : Kept S a w) (o : Obj) : Kept S a (w.alloc o) :=
  h.trans ⟨rfl, rfl, rfl, by simp, fun k hk _ => Below.heap_alloc _ _ _ hk⟩
theorem Kept.setCell {S : Nat → Prop} {a w : World} (h : Kept S a w) {p : Addr} (hp : S p.block ∨ a.heap.size ≤ p.block) (u : Value) : Kept S a (w.setCell p u) := by
  refine ⟨h.os, h.tape, h.output, by simpa [World.setCell] using h.size, fun k hk hs => ?_⟩
  rw [Below.heap_setCell _ _ _ _ (by rintro rfl; rcases hp with hp | hp; exact hs hp; omega)]
  exact h.block k hk hs
theorem Kept.cell {S : Nat → Prop} {w w' : World} (h : Kept S w w') {p : Addr} (hp : p.block < w.heap.size) (hs : ¬ S p.block) : w'.cell? p = w.cell? p := World.cell?_of_block (w := w) (h.block p.block hp hs)
theorem Kept.frozen {S : Nat → Prop} {w w' : World} (h : Kept S w w') {p : Addr} (hp : p.block < w.heap.size) (hs : ¬ S p.block) : w'.frozen? p = w.frozen? p := World.frozen?_of_block (w := w) (h.block p.block hp hs)
/-- A block of cells, whole. -/
def Blk (w : World) (b : Nat) (t : TypeId) (l : List Value) : Prop := w.heap[b]? = some (.cells l.toArray t (0, 0))
theorem Blk.lt {w : World} {b : Nat} {t : TypeId} {l : List Value} (h : Blk w b t l) : b < w.heap.size := by
  have : w.heap[b]? ≠ none := by rw [show w.heap[b]? = _ from h]; simp
  exact Array.getElem?_eq_some_iff.1 (show w.heap[b]? = _ from h) |>.1
theorem Blk.cell {w : World} {b : Nat} {t : TypeId} {l : List Value} (h : Blk w b t l) (i : Nat) : w.cell? ⟨b, i, none⟩ = l[i]? := by
  unfold World.cell?; rw [show w.heap[b]? = _ from h]; simp
theorem Blk.frozen {w : World} {b : Nat} {t : TypeId} {l : List Value} (h : Blk w b t l) (i : Nat) : w.frozen? ⟨b, i, none⟩ = false := by
  unfold World.frozen?; rw [show w.heap[b]? = _ from h]; simp
theorem Blk.set {w : World} {b : Nat} {t : TypeId} {l : List Value} (h : Blk w b t l) (i : Nat) (v : Value) : Blk (w.setCell ⟨b, i, none⟩ v) b t (l.set i v) := by
  unfold Blk World.setCell
  rw [Array.getElem?_modify, if_pos rfl, show w.heap[b]? = _ from h]
  simp
theorem Blk.set_other {w : World} {b : Nat} {t : TypeId} {l : List Value} (h : Blk w b t l) (p : Addr) (v : Value) (hp : b ≠ p.block) : Blk (w.setCell p v) b t l := by
  unfold Blk; rw [Below.heap_setCell _ _ _ _ hp]; exact h
theorem Blk.alloc {w : World} {b : Nat} {t : TypeId} {l : List Value} (h : Blk w b t l) (o : Obj) : Blk (w.alloc o) b t l := by
  unfold Blk; rw [Below.heap_alloc _ _ _ h.lt]; exact h
theorem Blk.new (w : World) (t : TypeId) (l : List Value) : Blk (w.alloc (.cells l.toArray t)) w.heap.size t l := by
  unfold Blk; show (w.heap.push _)[w.heap.size]? = _; simp
theorem Blk.drew {w : World} {b : Nat} {t : TypeId} {l : List Value} (h : Blk w b t l) : Blk w.drew b t l := h
theorem Blk.drewN {w : World} {b : Nat} {t : TypeId} {l : List Value} (h : Blk w b t l) (n : Nat) : Blk (w.drewN n) b t l := h
theorem Blk.kept {S : Nat → Prop} {w w' : World} {b : Nat} {t : TypeId} {l : List Value} (h : Blk w b t l) (hk : Kept S w w') (hs : ¬ S b) : Blk w' b t l := by
  unfold Blk; rw [hk.block b h.lt hs]; exact h
end Go.Proofs.YtckjlliobebodaaGreatDoor
