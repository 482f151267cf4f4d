/- Texts LwB of this proof, in one. -/
import Derived.Test.YtfhedienjnfdcaaGreatDoorK23
import Derived.ChangeMaps5
set_option linter.unusedVariables false
set_option linter.unusedSimpArgs false
set_option maxRecDepth 100000
set_option maxHeartbeats 32000000
namespace Go.Proofs.YtfhedienjnfdcaaGreatDoor
open Go.ChangeShapes Go.WideShapes Go.ChangeAt Go.RowKit
section
variable {H : Type} {enc : TypeId × Value → H} {w : World} {spare : Nat → Bool} {held : Bool}
theorem cells_53 : Tryz.prog.cellsOf 53 = 8 := by kernel_rfl
theorem list8 {α : Type} {l : List α} (h : l.length = 8) : ∃ a b, l = a :: b ∧ b.length = 7 := by
 match l, h with
 | a :: b, h => exact ⟨a, b, rfl, by simpa using h⟩
theorem open_bind {fuel : Nat} {cs : List Value} {x : DataW H × List MemPlace} (h : DataW.trod enc Tryz.prog w 0 spare held fuel 53 cs = some x) :
  ∃ (s : ByteArray) (t : Tm) (tk kk : Value), cs = .string s :: tmCells t tk kk ∧ s.size ≤ maxLen ∧ TyL (fun _ => True) w t.ty.kids tk ∧ TmL (fun _ => True) w t.kids kk ∧ SmTm big t := by
 obtain ⟨xs, n, rfl, -, hlen, hxl, hf⟩ := DataW.trod_struct Tryz.underlying53 h
 rw [cells_53] at hlen
 obtain ⟨c0, r, rfl, hr⟩ := list8 hlen
 have hx2 : xs.length = 2 := hxl
 obtain ⟨y0, e0⟩ := at_some (hf 0 _ rfl) (by omega)
 obtain ⟨y1, e1⟩ := at_some (hf 1 _ rfl) (by omega)
 have f0 : DataW.trod enc Tryz.prog w 0 spare held n 9 (((c0 :: r).drop 0).take (Tryz.prog.cellsOf 9)) = some y0 := e0
 have f1 : DataW.trod enc Tryz.prog w 0 spare held n 28 (((c0 :: r).drop 1).take (Tryz.prog.cellsOf 28)) = some y1 := e1
 rw [cells_9] at f0
 rw [cells_27, List.drop_succ_cons, List.drop_zero, List.take_of_length_le (by omega)] at f1
 clear hf e0 e1
 obtain ⟨s, hs, -, hsz⟩ := DataW.trod_string Tryz.underlying9 f0
 obtain rfl : c0 = _ := List.head_eq_of_cons_eq hs
 obtain ⟨t, tk, kk, rfl, h1, h2, h3⟩ := open_tm n f1
 exact ⟨s, t, tk, kk, rfl, hsz, h1, h2, h3⟩
theorem open_binds {fuel : Nat} {a : Option Addr} {n c : Nat} {x : DataW H × List MemPlace} (h : DataW.trod enc Tryz.prog w 0 spare held fuel 48 [.slice a n c] = some x) :
  ∃ l : List (ByteArray × Tm), BnL (fun _ => True) w l (.slice a n c) ∧ (∀ b, b ∈ l → SmTm big b.2) ∧ (∀ b, b ∈ l → b.1.size ≤ maxLen) ∧ l.length ≤ big := by
 rcases DataW.trod_slice Tryz.underlying48 h with ⟨hc, -⟩ | ⟨a', len, cap, elems, rest, m, rfl, hc, hcap, -, hl, hm, hel, helt, -, -⟩
 ·cases hc
  exact ⟨[], .nil, (fun t h => by cases h), (fun t h => by cases h), Nat.zero_le _⟩
 ·cases hc
  by_cases h0 : n = 0
  ·subst h0
   exact ⟨[], ⟨_, _, _, rfl, rfl, Nat.zero_le _, (fun e => by cases e), fun i h => absurd h (Nat.not_lt_zero _)⟩, (fun t h => by cases h), (fun t h => by cases h), Nat.zero_le _⟩
  ·rw [cells_53] at helt
   obtain ⟨b, o, rfl, hat⟩ := elems_at hel (by decide) helt (by omega)
   have iB : Inhabited ((ByteArray × Tm) × Value × Value) := ⟨((⟨#[]⟩, .mk 0 ⟨#[]⟩ 0 ty0 []), .slice none 0 0, .slice none 0 0)⟩
   obtain ⟨F, hF⟩ := Go.Deep.choose_lt (α := (ByteArray × Tm) × Value × Value) (n := n) (p := fun i q => (w.cell? ⟨b, o + i * 8, none⟩ = some (.string q.1.1) ∧ C7 w b (o + i * 8 + 1) q.1.2 q.2.1 q.2.2) ∧ q.1.1.size ≤ maxLen ∧ TyL (fun _ => True) w q.1.2.ty.kids q.2.1 ∧ TmL (fun _ => True) w q.1.2.kids q.2.2 ∧ SmTm big q.1.2) (fun i hi => by
    obtain ⟨cs, y, hcl, hcell, hy⟩ := hat i hi
    obtain ⟨s, t, tk, kk, rfl, hs, ht, hm, hst⟩ := open_bind hy
    exact ⟨((s, t), tk, kk), ⟨hcell 0 (by decide), hcell 1 (by decide), hcell 2 (by decide), hcell 3 (by decide), hcell 4 (by decide), hcell 5 (by decide), hcell 6 (by decide), hcell 7 (by decide)⟩, hs, ht, hm, hst⟩)
   have hlen2 : ((List.range n).map fun i => (F i).1).length = n := by simp
   have hget : ∀ i (h : i < ((List.range n).map fun i => (F i).1).length), ((List.range n).map fun i => (F i).1)[i] = (F i).1 := by intro i h; simp
   refine ⟨(List.range n).map fun i => (F i).1, ⟨_, _, _, rfl, hlen2.symm, by omega, (fun e => by cases e), fun i h => ?_⟩, fun x hx => ?_, fun x hx => ?_, by rw [hlen2]; unfold maxLen at hm; unfold big; omega⟩
   ·have h' : i < n := by omega
    obtain ⟨⟨q1, q2⟩, _, q3, q4, _⟩ := hF i h'
    obtain ⟨ta, tn, tc, e1⟩ := q3.slice
    obtain ⟨ma, mn, mc, e2⟩ := q4.slice
    rw [hget i h]
    rw [e1] at q2 q3
    rw [e2] at q2 q4
    refine ⟨b, o, ta, tn, tc, ma, mn, mc, rfl, trivial, ?_, q1, q2, q3, q4⟩
    exact cell_lt q1
   ·obtain ⟨i, hi, rfl⟩ := List.mem_map.1 hx
    exact (hF i (List.mem_range.1 hi)).2.2.2.2
   ·obtain ⟨i, hi, rfl⟩ := List.mem_map.1 hx
    exact (hF i (List.mem_range.1 hi)).2.1
end
theorem arg_binds {H : Type} {enc : TypeId × Value → H} {W : World} {v : Value} {d : DataW H} {p : List MemPlace} {r : Reach} {b0 : Nat} (hval : Value.okWide Tryz.prog W r b0 48 v) (h : DataW.Trod enc Tryz.prog W 0 (fun _ => true) true 48 v d p) :
  ∃ (l : List (ByteArray × Tm)) (a : Option Addr) (n c : Nat), v = .slice a n c ∧ BnL (fun _ => True) W l (.slice a n c) ∧ (∀ b, b ∈ l → SmTm big b.2) ∧ (∀ b, b ∈ l → b.1.size ≤ maxLen) ∧ l.length ≤ big := by
 obtain ⟨a, n, c, rfl⟩ := Go.WideShapes.okWide_slice Tryz.underlying48 hval
 obtain ⟨fuel, h⟩ := h
 obtain ⟨l, h1, h2, h3, h4⟩ := open_binds (a := a) (n := n) (c := c) h
 exact ⟨l, a, n, c, rfl, h1, h2, h3, h4⟩
theorem back_binds {H : Type} {enc : TypeId × Value → H} {W W' : World} {v : Value} {d : DataW H} {p : List MemPlace} (h : DataW.Trod enc Tryz.prog W 0 (fun _ => true) true 48 v d p) (k : Kept (fun _ => False) W W') (hlt : ∀ x ∈ p, x.block < W.heap.size) :
  DataW.Trod enc Tryz.prog W' 0 (fun b => decide (b < W.heap.size)) true 48 v d p := back_of (by kernel_rfl) (size_ok (by decide)) h k hlt
theorem arg_string {H : Type} {enc : TypeId × Value → H} {W : World} {v : Value} {d : DataW H} {p : List MemPlace} {r : Reach} {b0 : Nat} (hval : Value.okWide Tryz.prog W r b0 9 v) (h : DataW.Trod enc Tryz.prog W 0 (fun _ => true) true 9 v d p) :
  ∃ s : ByteArray, v = .string s ∧ s.size ≤ maxLen := by
 obtain ⟨s, h1, _, _, h2⟩ := ChangeMaps.open_string Tryz.underlying9 hval h
 exact ⟨s, h1, h2⟩
theorem back_string {H : Type} {enc : TypeId × Value → H} {W W' : World} {v : Value} {d : DataW H} {p : List MemPlace} (h : DataW.Trod enc Tryz.prog W 0 (fun _ => true) true 9 v d p) (k : Kept (fun _ => False) W W') (hlt : ∀ x ∈ p, x.block < W.heap.size) :
  DataW.Trod enc Tryz.prog W' 0 (fun b => decide (b < W.heap.size)) true 9 v d p := back_of (by kernel_rfl) (size_ok (by decide)) h k hlt
end Go.Proofs.YtfhedienjnfdcaaGreatDoor
