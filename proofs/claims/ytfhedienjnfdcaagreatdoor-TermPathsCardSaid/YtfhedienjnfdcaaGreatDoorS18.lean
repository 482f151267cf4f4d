/- Texts LwJ of this proof, in one. -/
import Derived.Test.YtfhedienjnfdcaaGreatDoorS16
import Derived.Test.YtfhedienjnfdcaaGreatDoorS17
import Derived.Carry
set_option linter.unusedVariables false
set_option linter.unusedSimpArgs false
namespace Go.Proofs.YtfhedienjnfdcaaGreatDoor
open Go.ChangeShapes Go.WideShapes Go.ChangeAt Go.RowKit
theorem below_of_kept {w w' : World} (k : Kept (fun _ => False) w w') : Below w.heap.size w w' := ⟨k.os, k.tape, k.output, k.size, fun q hq => k.block q hq (fun e => e)⟩
theorem laidOut0 : laidOutB Tryz.prog = true := by kernel_rfl
theorem val_of_cells {v : Value} {l : List Value} (h : v.cells.toList = l) (hl : l.length ≠ 1) : v = .agg l.toArray := by
  cases v
  all_goals first
  | (exfalso; apply hl; rw [← h]; rfl)
  | (rename_i a; have : a.toList = l := h
     rw [← this])
theorem arg_tm {H : Type} {enc : TypeId × Value → H} {W : World} {v : Value} {d : DataW H} {p : List MemPlace} (h : DataW.Trod enc Tryz.prog W 0 (fun _ => true) true 28 v d p) :
    ∃ (t : Tm) (tk kk : Value), v = tmVal t tk kk ∧ TyL (fun _ => True) W t.ty.kids tk ∧ TmL (fun _ => True) W t.kids kk ∧ SmTm big t := by
  obtain ⟨fuel, h⟩ := h
  obtain ⟨t, tk, kk, hc, h1, h2, h3⟩ := open_tm fuel h
  exact ⟨t, tk, kk, val_of_cells hc (by simp [tmCells]), h1, h2, h3⟩
theorem back_of {H : Type} {enc : TypeId × Value → H} {W W' : World} {T : TypeId} {v : Value} {d : DataW H} {p : List MemPlace} (h1 : Tryz.prog.readableRec T = true) (h2 : T < Tryz.prog.types.size) (h : DataW.Trod enc Tryz.prog W 0 (fun _ => true) true T v d p) (k : Kept (fun _ => False) W W') (hlt : ∀ x ∈ p, x.block < W.heap.size) :
    DataW.Trod enc Tryz.prog W' 0 (fun b => decide (b < W.heap.size)) true T v d p := Below.trod laidOut0 h1 h2 h (below_of_kept k) hlt
theorem size_ok {n : Nat} (h : n < 248) : n < Tryz.prog.types.size := Nat.lt_of_lt_of_le h (of_decide_eq_true (by kernel_rfl))
theorem back_tm {H : Type} {enc : TypeId × Value → H} {W W' : World} {v : Value} {d : DataW H} {p : List MemPlace} (h : DataW.Trod enc Tryz.prog W 0 (fun _ => true) true 28 v d p) (k : Kept (fun _ => False) W W') (hlt : ∀ x ∈ p, x.block < W.heap.size) :
    DataW.Trod enc Tryz.prog W' 0 (fun b => decide (b < W.heap.size)) true 28 v d p := back_of (by kernel_rfl) (size_ok (by decide)) h k hlt
theorem back_tms {H : Type} {enc : TypeId × Value → H} {W W' : World} {v : Value} {d : DataW H} {p : List MemPlace} (h : DataW.Trod enc Tryz.prog W 0 (fun _ => true) true 22 v d p) (k : Kept (fun _ => False) W W') (hlt : ∀ x ∈ p, x.block < W.heap.size) :
    DataW.Trod enc Tryz.prog W' 0 (fun b => decide (b < W.heap.size)) true 22 v d p := back_of (by kernel_rfl) (size_ok (by decide)) h k hlt
section
variable {H : Type} {enc : TypeId × Value → H} {w : World} {spare : Nat → Bool} {held : Bool}
theorem open_tms {fuel : Nat} {a : Option Addr} {n c : Nat} {x : DataW H × List MemPlace} (h : DataW.trod enc Tryz.prog w 0 spare held fuel 22 [.slice a n c] = some x) :
    ∃ l : List Tm, TmL (fun _ => True) w l (.slice a n c) ∧ (∀ t, t ∈ l → SmTm big t) ∧ l.length ≤ big := by
  rcases DataW.trod_slice Tryz.underlying22 h with ⟨hc, -⟩ | ⟨a', len, cap, elems, rest, m, rfl, hc, -, -, hl, hm, hel, helt, -, -⟩
  · cases hc
    exact ⟨[], .nil (Or.inl rfl), (fun t h => by cases h), Nat.zero_le _⟩
  · cases hc
    by_cases h0 : n = 0
    · subst h0
      exact ⟨[], .nil (Or.inr ⟨_, _, rfl⟩), (fun t h => by cases h), Nat.zero_le _⟩
    · rw [cells_27] at helt
      obtain ⟨b, o, rfl, hat⟩ := elems_at hel (by decide) helt (by omega)
      have iTm : Inhabited (Tm × Value × Value) := ⟨(.mk 0 ⟨#[]⟩ 0 ty0 [], .slice none 0 0, .slice none 0 0)⟩
      obtain ⟨F, hF⟩ := Go.Deep.choose_lt (α := Tm × Value × Value) (n := n) (p := fun i q => (w.cell? ⟨b, o + i * 7, none⟩ = some (.int .i64 q.1.op) ∧ w.cell? ⟨b, o + i * 7 + 1, none⟩ = some (.string q.1.name) ∧ w.cell? ⟨b, o + i * 7 + 2, none⟩ = some (.int .i64 q.1.n) ∧ w.cell? ⟨b, o + i * 7 + 3, none⟩ = some (.int .i64 q.1.ty.kind) ∧ w.cell? ⟨b, o + i * 7 + 4, none⟩ = some (.string q.1.ty.name) ∧ w.cell? ⟨b, o + i * 7 + 5, none⟩ = some q.2.1 ∧ w.cell? ⟨b, o + i * 7 + 6, none⟩ = some q.2.2) ∧ TyL (fun _ => True) w q.1.ty.kids q.2.1 ∧ TmL (fun _ => True) w q.1.kids q.2.2 ∧ SmTm big q.1) (fun i hi => by
        obtain ⟨cs, y, hcl, hcell, hy⟩ := hat i hi
        obtain ⟨t, tk, kk, rfl, ht, hm, hst⟩ := open_tm m hy
        exact ⟨(t, tk, kk), ⟨hcell 0 (by decide), hcell 1 (by decide), hcell 2 (by decide), hcell 3 (by decide), hcell 4 (by decide), hcell 5 (by decide), hcell 6 (by decide)⟩, ht, hm, hst⟩)
      have hlen2 : ((List.range n).map fun i => (F i).1).length = n := by simp
      have hget : ∀ i (h : i < ((List.range n).map fun i => (F i).1).length), ((List.range n).map fun i => (F i).1)[i] = (F i).1 := by intro i h; simp
      have hT : TmL (fun _ => True) w ((List.range n).map fun i => (F i).1) (.slice (some ⟨b, o, none⟩) ((List.range n).map fun i => (F i).1).length c) := by
        refine TmL.mk (fun i => (F i).2.1) (fun i => (F i).2.2) (by intro e; rw [e] at hlen2; simp at hlen2; omega) trivial (by omega) (fun i h => ?_) (fun i h => ?_) (fun i h => ?_)
        · rw [hget i h]; exact (hF i (by omega)).1
        · rw [hget i h]; exact (hF i (by omega)).2.1
        · rw [hget i h]; exact (hF i (by omega)).2.2.1
      rw [hlen2] at hT
      refine ⟨_, hT, fun t ht => ?_, by rw [hlen2]; unfold maxLen at hm; unfold big; omega⟩
      obtain ⟨i, hi, rfl⟩ := List.mem_map.1 ht
      exact (hF i (List.mem_range.1 hi)).2.2.2
end
set_option maxRecDepth 100000 in
theorem arg_tms {H : Type} {enc : TypeId × Value → H} {W : World} {v : Value} {d : DataW H} {p : List MemPlace} {r : Reach} {b0 : Nat} (hval : Value.okWide Tryz.prog W r b0 22 v) (h : DataW.Trod enc Tryz.prog W 0 (fun _ => true) true 22 v d p) :
    ∃ (l : List Tm) (a : Option Addr) (n c : Nat), v = .slice a n c ∧ TmL (fun _ => True) W l (.slice a n c) ∧ (∀ t, t ∈ l → SmTm big t) ∧ l.length ≤ big := by
  obtain ⟨a, n, c, rfl⟩ := Go.WideShapes.okWide_slice Tryz.underlying22 hval
  obtain ⟨fuel, h⟩ := h
  obtain ⟨l, h1, h2, h3⟩ := open_tms (a := a) (n := n) (c := c) h
  exact ⟨l, a, n, c, rfl, h1, h2, h3⟩
end Go.Proofs.YtfhedienjnfdcaaGreatDoor
