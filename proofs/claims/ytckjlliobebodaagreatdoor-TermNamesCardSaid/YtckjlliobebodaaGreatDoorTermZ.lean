/- Readers of terms: the walks. Printed by gen_terms2.py. -/
import Derived.Test.YtckjlliobebodaaGreatDoorAtom
import Derived.Test.YtckjlliobebodaaGreatDoorTermL
import Derived.Test.YtckjlliobebodaaGreatDoorTermA
set_option linter.unusedVariables false
set_option linter.unusedSimpArgs false
namespace Go.Proofs.YtckjlliobebodaaGreatDoor
open Go.RowKit
set_option maxHeartbeats 4000000 in
theorem term_at {b : Nat} {s : ByteArray} {f : Nat} {w : World} {σ : PS} (hT : TC b s f (termS f s)) (h : PW w b s σ) (hS : TSm 65536 s (termS f s)) (hf : 14 * mu s σ + (14 - 13) < f + 1) (hi : isS σ kMinus = false) :
    Calls Tryz.prog 33 #[.pointer (some ⟨b, 0, none⟩), .int .i64 13] w (RPost b s (VTm w.heap.size) (termS (f + 1) s 13 σ) w) := by
  have hI := inv_term f s
  have HI := Lib.hid hI
  clear hI
  have HS := Lib.hid hS
  clear hS
  have hlt := h.lt
  have hgl := h.gl.lt
  have h0 := h.alloc (.cells #[.int .i64 0, .string ⟨#[]⟩, .int .i64 0, .int .i64 0, .string ⟨#[]⟩, .slice none 0 0, .slice none 0 0] 27)
  have hR0 : Blk (w.alloc (.cells #[.int .i64 0, .string ⟨#[]⟩, .int .i64 0, .int .i64 0, .string ⟨#[]⟩, .slice none 0 0, .slice none 0 0] 27)) w.heap.size 27 z27 := Blk.new w 27 z27
  have K0 : Kept (· = b) w (w.alloc (.cells #[.int .i64 0, .string ⟨#[]⟩, .int .i64 0, .int .i64 0, .string ⟨#[]⟩, .slice none 0 0, .slice none 0 0] 27)) := (Kept.refl _ _).alloc _
  have zw0 : (w.alloc (.cells #[.int .i64 0, .string ⟨#[]⟩, .int .i64 0, .int .i64 0, .string ⟨#[]⟩, .slice none 0 0, .slice none 0 0] 27)).heap.size = w.heap.size + 1 := by simp
  have Z0 := Lib.hid zw0
  clear zw0
  go_enter Tryz.func33, Tryz.ntmps33
  go_wp2_with fail
  refine (eat_no h0 kMinus hi).mono ?_
  rintro e w' ⟨rfl, rfl⟩
  go_wp2_with fail
  have zz0 := Z0.out
  have lo1 := h0.lt
  refine (atom_any hT HI.out h0 (by omega) HS.out).mono ?_
  rintro e w1 hr
  cases h_1 : atomS (termS f s) s σ with
  | error r =>
    have hq : Hid (termS (f + 1) s 13 σ = .error r) := Lib.hid (by unfold termS; simp only [hi, show ((13 : Nat) == 5) = false from rfl, show ((13 : Nat) == 13) = true from rfl, h_1])
    obtain ⟨rfl, k1⟩ := hr.getErr h_1
    clear hr
    go_wp2_with fail
    exact ⟨rfl, RPost.err hq.out ⟨rfl, K0.trans k1⟩⟩
  | ok q1 =>
    obtain ⟨t1, σ1⟩ := q1
    obtain ⟨v, rfl, ⟨tk1, kk1, rfl, at1, ct1⟩, p1, k1⟩ := hr.getOk h_1
    clear hr
    have j_1 := inv_atom HI.out h0.le h_1
    have i_1 := j_1.1
    try unfold Inv at i_1
    try unfold Inv1 at i_1
    obtain ⟨ta1, tn1, tc1, rfl⟩ := at1.slice
    obtain ⟨ma1, mn1, mc1, rfl⟩ := ct1.slice
    unfold tmVal
    have hR_1 := hR0.kept k1 (by show ¬ w.heap.size = b; omega)
    have K1 := K0.trans k1
    have lb1 := p1.lt
    have zz1 := K1.size
    have zk1 := k1.size
    have lR1 := hR_1.lt
    clear zz0
    go_wp2_with fail
    have zz0 := Z0.out
    have lo2 := p1.lt
    refine (after_any hT HI.out p1 (by omega) t1 ta1 tn1 tc1 ma1 mn1 mc1 (w.alloc (.cells #[.int .i64 0, .string ⟨#[]⟩, .int .i64 0, .int .i64 0, .string ⟨#[]⟩, .slice none 0 0, .slice none 0 0] 27)).heap.size (by omega) (by omega) at1 ct1).mono ?_
    rintro e w2 hr
    cases h_2 : afterS (termS f s) s (s.size + 2) t1 σ1 with
    | error r =>
      have hq : Hid (termS (f + 1) s 13 σ = .error r) := Lib.hid (by unfold termS; simp only [hi, show ((13 : Nat) == 5) = false from rfl, show ((13 : Nat) == 13) = true from rfl, h_1, h_2])
      obtain ⟨rfl, k2⟩ := hr.getErr h_2
      clear hr
      go_wp2_with fail
      exact ⟨rfl, RPost.err hq.out ⟨rfl, K1.trans k2⟩⟩
    | ok q2 =>
      obtain ⟨t2, σ2⟩ := q2
      obtain ⟨v, rfl, ⟨tk2, kk2, rfl, at2, ct2⟩, p2, k2⟩ := hr.getOk h_2
      clear hr
      have j_2 := inv_after HI.out _ j_1.2 p1.le h_2
      have i_2 := j_2.1
      try unfold Inv at i_2
      try unfold Inv1 at i_2
      obtain ⟨ta2, tn2, tc2, rfl⟩ := at2.slice
      obtain ⟨ma2, mn2, mc2, rfl⟩ := ct2.slice
      unfold tmVal
      have hR_2 := hR_1.kept k2 (by show ¬ w.heap.size = b; omega)
      have at1_2 := at1.frame (Same.of_kept k2 (fun k h e => by omega))
      have ct1_2 := ct1.frame (Same.of_kept k2 (fun k h e => by omega))
      have K2 := K1.trans k2
      have lb2 := p2.lt
      have zz2 := K2.size
      have zk2 := k2.size
      have lR2 := hR_2.lt
      have hq : Hid (termS (f + 1) s 13 σ = .ok (t2, σ2)) := Lib.hid (by unfold termS; simp only [hi, show ((13 : Nat) == 5) = false from rfl, show ((13 : Nat) == 13) = true from rfl, h_1, h_2])
      have g0 : w2.cell? ⟨w.heap.size, 0, none⟩ = some (.int .i64 0) := hR_2.cell 0
      have f0 : w2.frozen? ⟨w.heap.size, 0, none⟩ = false := hR_2.frozen 0
      have g1 : w2.cell? ⟨w.heap.size, 1, none⟩ = some (.string ⟨#[]⟩) := hR_2.cell 1
      have f1 : w2.frozen? ⟨w.heap.size, 1, none⟩ = false := hR_2.frozen 1
      have g2 : w2.cell? ⟨w.heap.size, 2, none⟩ = some (.int .i64 0) := hR_2.cell 2
      have f2 : w2.frozen? ⟨w.heap.size, 2, none⟩ = false := hR_2.frozen 2
      have g3 : w2.cell? ⟨w.heap.size, 3, none⟩ = some (.int .i64 0) := hR_2.cell 3
      have f3 : w2.frozen? ⟨w.heap.size, 3, none⟩ = false := hR_2.frozen 3
      have g4 : w2.cell? ⟨w.heap.size, 4, none⟩ = some (.string ⟨#[]⟩) := hR_2.cell 4
      have f4 : w2.frozen? ⟨w.heap.size, 4, none⟩ = false := hR_2.frozen 4
      have g5 : w2.cell? ⟨w.heap.size, 5, none⟩ = some (.slice none 0 0) := hR_2.cell 5
      have f5 : w2.frozen? ⟨w.heap.size, 5, none⟩ = false := hR_2.frozen 5
      have g6 : w2.cell? ⟨w.heap.size, 6, none⟩ = some (.slice none 0 0) := hR_2.cell 6
      have f6 : w2.frozen? ⟨w.heap.size, 6, none⟩ = false := hR_2.frozen 6
      have l9 : w.heap.size < w2.heap.size := hR_2.lt
      clear zz0
      go_wp2_with fail
      have zz0 := Z0.out
      refine ret_tm Tryz.results33 hq.out rfl rfl ((r7 hR_2 rfl)) ?_ ?_ ((p7w p2 (by omega) (by omega))) ((k7w K2 (Or.inr (Nat.le_refl _))))
      · exact (at2.frame (same7 (R := w.heap.size) (by omega))).mono (fun k _ h => by omega)
      · exact (ct2.frame (same7 (R := w.heap.size) (by omega))).mono (fun k _ h => by omega)
theorem term_any {b : Nat} {s : ByteArray} (hs : s.size ≤ 65536) (f : Nat) : TC b s f (termS f s) := by
  induction f with
  | zero => intro n m _ σ w _ _ _ h; omega
  | succ f ih =>
    intro n m hm σ w h1 h13 h hf
    subst hm
    have hS := sm_term hs f
    rcases (show n = 1 ∨ n = 2 ∨ n = 3 ∨ n = 4 ∨ n = 5 ∨ n = 6 ∨ n = 7 ∨ n = 8 ∨ n = 9 ∨ n = 10 ∨ n = 11 ∨ n = 12 ∨ n = 13 by omega) with rfl | rfl | rfl | rfl | rfl | rfl | rfl | rfl | rfl | rfl | rfl | rfl | rfl
    · exact term_l1 ih h hf
    · exact term_l2 ih h hf
    · exact term_l3 ih h hf
    · exact term_l4 ih h hf
    · cases hi : isS σ kNot
      · exact term_six ih h hf hi
      · exact term_not ih h hf hi
    · exact term_l6 ih h hf
    · exact term_l7 ih h hf
    · exact term_l8 ih h hf
    · exact term_l9 ih h hf
    · exact term_l10 ih h hf
    · exact term_l11 ih h hf
    · exact term_l12 ih h hf
    · cases hi : isS σ kMinus
      · exact term_at ih h hS hf hi
      · exact term_neg ih h hf hi
end Go.Proofs.YtckjlliobebodaaGreatDoor
