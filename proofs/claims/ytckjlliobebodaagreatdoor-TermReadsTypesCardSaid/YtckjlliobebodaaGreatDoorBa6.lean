/- Texts TermL TermZ Stay of this proof, in one. -/
import Derived.Test.YtckjlliobebodaaGreatDoorBa3
import Derived.Test.YtckjlliobebodaaGreatDoorBa4
import Derived.Test.YtckjlliobebodaaGreatDoorBa5
/- Readers of terms: the walks. Printed by gen_terms2.py. -/
set_option linter.unusedVariables false
set_option linter.unusedSimpArgs false
namespace Go.Proofs.YtckjlliobebodaaGreatDoor
open Go.RowKit
set_option maxHeartbeats 4000000 in
theorem term_l1 {b : Nat} {s : ByteArray} {f : Nat} {w : World} {σ : PS} (hT : TC b s f (termS f s)) (h : PW w b s σ) (hf : 14 * mu s σ + (14 - 1) < f + 1) :
    Calls Tryz.prog 33 #[.pointer (some ⟨b, 0, none⟩), .int .i64 1] w (RPost b s (VTm w.heap.size) (termS (f + 1) s 1 σ) w) := by
  have hI := inv_term f s
  have HI := Lib.hid hI
  clear hI
  have hlt := h.lt
  have hgl := h.gl.lt
  have h0 := h.alloc (.cells #[.int .i64 0, .string ⟨#[]⟩, .int .i64 0, .int .i64 0, .string ⟨#[]⟩, .slice none 0 0, .slice none 0 0] 27)
  have hR0 : Blk (w.alloc (.cells #[.int .i64 0, .string ⟨#[]⟩, .int .i64 0, .int .i64 0, .string ⟨#[]⟩, .slice none 0 0, .slice none 0 0] 27)) w.heap.size 27 z27 := Blk.new w 27 z27
  have K0 : Kept (· = b) w (w.alloc (.cells #[.int .i64 0, .string ⟨#[]⟩, .int .i64 0, .int .i64 0, .string ⟨#[]⟩, .slice none 0 0, .slice none 0 0] 27)) := (Kept.refl _ _).alloc _
  have zw0 : (w.alloc (.cells #[.int .i64 0, .string ⟨#[]⟩, .int .i64 0, .int .i64 0, .string ⟨#[]⟩, .slice none 0 0, .slice none 0 0] 27)).heap.size = w.heap.size + 1 := by simp
  have Z0 := Lib.hid zw0
  clear zw0
  go_enter Tryz.func33, Tryz.ntmps33
  go_wp2_with fail
  have lo1 := h0.lt
  have zz0 := Z0.out
  refine (hT 2 2 rfl σ _ (by decide) (by decide) h0 (by omega)).mono ?_
  clear zz0
  rintro e w1 hr
  cases h_1 : termS f s 2 σ with
  | error r =>
    have hq : Hid (termS (f + 1) s 1 σ = .error r) := Lib.hid (by unfold termS; simp only [show ((1 : Nat) == 5) = false from rfl, show ((1 : Nat) == 13) = false from rfl, show (1 + 1 : Nat) = 2 from rfl, h_1])
    obtain ⟨rfl, k1⟩ := hr.getErr h_1
    clear hr
    go_wp2_with fail
    exact ⟨rfl, RPost.err hq.out ⟨rfl, K0.trans k1⟩⟩
  | ok q1 =>
    obtain ⟨t1, σ1⟩ := q1
    obtain ⟨v, rfl, ⟨tk1, kk1, rfl, at1, ct1⟩, p1, k1⟩ := hr.getOk h_1
    clear hr
    have j_1 := HI.out _ _ _ _ h0.le h_1
    have i_1 := j_1.1
    try unfold Inv at i_1
    try unfold Inv1 at i_1
    obtain ⟨ta1, tn1, tc1, rfl⟩ := at1.slice
    obtain ⟨ma1, mn1, mc1, rfl⟩ := ct1.slice
    unfold tmVal
    have hR_1 := hR0.kept k1 (by show ¬ w.heap.size = b; omega)
    have K1 := K0.trans k1
    have lb1 := p1.lt
    have zz1 := K1.size
    have zk1 := k1.size
    have lR1 := hR_1.lt
    have h0_1 := p1.alloc (.cells #[.int .i64 t1.op, .string t1.name, .int .i64 t1.n, .int .i64 t1.ty.kind, .string t1.ty.name, .slice ta1 tn1 tc1, .slice ma1 mn1 mc1] 27)
    have K0_1 := K1.alloc (.cells #[.int .i64 t1.op, .string t1.name, .int .i64 t1.n, .int .i64 t1.ty.kind, .string t1.ty.name, .slice ta1 tn1 tc1, .slice ma1 mn1 mc1] 27)
    have hxR_1 := hR_1.alloc (.cells #[.int .i64 t1.op, .string t1.name, .int .i64 t1.n, .int .i64 t1.ty.kind, .string t1.ty.name, .slice ta1 tn1 tc1, .slice ma1 mn1 mc1] 27)
    have hLt1_1 : Blk (w1.alloc (.cells #[.int .i64 t1.op, .string t1.name, .int .i64 t1.n, .int .i64 t1.ty.kind, .string t1.ty.name, .slice ta1 tn1 tc1, .slice ma1 mn1 mc1] 27)) w1.heap.size 27 (tmCells t1 (.slice ta1 tn1 tc1) (.slice ma1 mn1 mc1)) := Blk.new w1 27 _
    have axt1_1 := at1.frame (Same.alloc _ (.cells #[.int .i64 t1.op, .string t1.name, .int .i64 t1.n, .int .i64 t1.ty.kind, .string t1.ty.name, .slice ta1 tn1 tc1, .slice ma1 mn1 mc1] 27))
    have cxt1_1 := ct1.frame (Same.alloc _ (.cells #[.int .i64 t1.op, .string t1.name, .int .i64 t1.n, .int .i64 t1.ty.kind, .string t1.ty.name, .slice ta1 tn1 tc1, .slice ma1 mn1 mc1] 27))
    have zw1 : (w1.alloc (.cells #[.int .i64 t1.op, .string t1.name, .int .i64 t1.n, .int .i64 t1.ty.kind, .string t1.ty.name, .slice ta1 tn1 tc1, .slice ma1 mn1 mc1] 27)).heap.size = w1.heap.size + 1 := by simp
    have Z1 := Lib.hid zw1
    clear zw1
    go_wp2_with fail
    have zz0 := Z0.out
    have lo2 := h0_1.lt
    refine (rest_any hT HI.out h0_1 (by omega) (n := 1) (by unfold lvOK; omega) t1 ta1 tn1 tc1 ma1 mn1 mc1 (w.alloc (.cells #[.int .i64 0, .string ⟨#[]⟩, .int .i64 0, .int .i64 0, .string ⟨#[]⟩, .slice none 0 0, .slice none 0 0] 27)).heap.size (by omega) (by have := Z1.out; omega) axt1_1 cxt1_1).mono ?_
    rintro e w2 hr
    cases h_2 : restS (termS f s) s 1 (s.size + 2) t1 σ1 with
    | error r =>
      have hq : Hid (termS (f + 1) s 1 σ = .error r) := Lib.hid (by unfold termS; simp only [show ((1 : Nat) == 5) = false from rfl, show ((1 : Nat) == 13) = false from rfl, show (1 + 1 : Nat) = 2 from rfl, h_1, h_2])
      obtain ⟨rfl, k2⟩ := hr.getErr h_2
      clear hr
      go_wp2_with fail
      exact ⟨rfl, RPost.err hq.out ⟨rfl, K0_1.trans k2⟩⟩
    | ok q2 =>
      obtain ⟨t2, σ2⟩ := q2
      obtain ⟨v, rfl, ⟨tk2, kk2, rfl, at2, ct2⟩, p2, k2⟩ := hr.getOk h_2
      clear hr
      have j_2 := inv_rest HI.out _ j_1.2 h0_1.le h_2
      have i_2 := j_2.1
      try unfold Inv at i_2
      try unfold Inv1 at i_2
      obtain ⟨ta2, tn2, tc2, rfl⟩ := at2.slice
      obtain ⟨ma2, mn2, mc2, rfl⟩ := ct2.slice
      unfold tmVal
      have hR_2 := hxR_1.kept k2 (by show ¬ w.heap.size = b; omega)
      have hLt1_2 := hLt1_1.kept k2 (by show ¬ w1.heap.size = b; omega)
      have at1_2 := axt1_1.frame (Same.of_kept k2 (fun k h e => by omega))
      have ct1_2 := cxt1_1.frame (Same.of_kept k2 (fun k h e => by omega))
      have K2 := K0_1.trans k2
      have lb2 := p2.lt
      have zz2 := K2.size
      have zk2 := k2.size
      have lR2 := hR_2.lt
      have lLt12 := hLt1_2.lt
      have hq : Hid (termS (f + 1) s 1 σ = .ok (t2, σ2)) := Lib.hid (by unfold termS; simp only [show ((1 : Nat) == 5) = false from rfl, show ((1 : Nat) == 13) = false from rfl, show (1 + 1 : Nat) = 2 from rfl, h_1, h_2])
      have g0 : w2.cell? ⟨w.heap.size, 0, none⟩ = some (.int .i64 0) := hR_2.cell 0
      have f0 : w2.frozen? ⟨w.heap.size, 0, none⟩ = false := hR_2.frozen 0
      have g1 : w2.cell? ⟨w.heap.size, 1, none⟩ = some (.string ⟨#[]⟩) := hR_2.cell 1
      have f1 : w2.frozen? ⟨w.heap.size, 1, none⟩ = false := hR_2.frozen 1
      have g2 : w2.cell? ⟨w.heap.size, 2, none⟩ = some (.int .i64 0) := hR_2.cell 2
      have f2 : w2.frozen? ⟨w.heap.size, 2, none⟩ = false := hR_2.frozen 2
      have g3 : w2.cell? ⟨w.heap.size, 3, none⟩ = some (.int .i64 0) := hR_2.cell 3
      have f3 : w2.frozen? ⟨w.heap.size, 3, none⟩ = false := hR_2.frozen 3
      have g4 : w2.cell? ⟨w.heap.size, 4, none⟩ = some (.string ⟨#[]⟩) := hR_2.cell 4
      have f4 : w2.frozen? ⟨w.heap.size, 4, none⟩ = false := hR_2.frozen 4
      have g5 : w2.cell? ⟨w.heap.size, 5, none⟩ = some (.slice none 0 0) := hR_2.cell 5
      have f5 : w2.frozen? ⟨w.heap.size, 5, none⟩ = false := hR_2.frozen 5
      have g6 : w2.cell? ⟨w.heap.size, 6, none⟩ = some (.slice none 0 0) := hR_2.cell 6
      have f6 : w2.frozen? ⟨w.heap.size, 6, none⟩ = false := hR_2.frozen 6
      have yt10 : w2.cell? ⟨w1.heap.size, 0, none⟩ = some (.int .i64 t1.op) := hLt1_2.cell 0
      have yt11 : w2.cell? ⟨w1.heap.size, 1, none⟩ = some (.string t1.name) := hLt1_2.cell 1
      have yt12 : w2.cell? ⟨w1.heap.size, 2, none⟩ = some (.int .i64 t1.n) := hLt1_2.cell 2
      have yt13 : w2.cell? ⟨w1.heap.size, 3, none⟩ = some (.int .i64 t1.ty.kind) := hLt1_2.cell 3
      have yt14 : w2.cell? ⟨w1.heap.size, 4, none⟩ = some (.string t1.ty.name) := hLt1_2.cell 4
      have yt15 : w2.cell? ⟨w1.heap.size, 5, none⟩ = some (.slice ta1 tn1 tc1) := hLt1_2.cell 5
      have yt16 : w2.cell? ⟨w1.heap.size, 6, none⟩ = some (.slice ma1 mn1 mc1) := hLt1_2.cell 6
      have l9 : w.heap.size < w2.heap.size := hR_2.lt
      clear zz0
      go_wp2_with fail
      have zz0 := Z0.out
      refine ret_tm Tryz.results33 hq.out rfl rfl ((r7 hR_2 rfl)) ?_ ?_ ((p7w p2 (by omega) (by omega))) ((k7w K2 (Or.inr (Nat.le_refl _))))
      · exact (at2.frame (same7 (R := w.heap.size) (by omega))).mono (fun k _ h => by omega)
      · exact (ct2.frame (same7 (R := w.heap.size) (by omega))).mono (fun k _ h => by omega)
set_option maxHeartbeats 4000000 in
theorem term_l2 {b : Nat} {s : ByteArray} {f : Nat} {w : World} {σ : PS} (hT : TC b s f (termS f s)) (h : PW w b s σ) (hf : 14 * mu s σ + (14 - 2) < f + 1) :
    Calls Tryz.prog 33 #[.pointer (some ⟨b, 0, none⟩), .int .i64 2] w (RPost b s (VTm w.heap.size) (termS (f + 1) s 2 σ) w) := by
  have hI := inv_term f s
  have HI := Lib.hid hI
  clear hI
  have hlt := h.lt
  have hgl := h.gl.lt
  have h0 := h.alloc (.cells #[.int .i64 0, .string ⟨#[]⟩, .int .i64 0, .int .i64 0, .string ⟨#[]⟩, .slice none 0 0, .slice none 0 0] 27)
  have hR0 : Blk (w.alloc (.cells #[.int .i64 0, .string ⟨#[]⟩, .int .i64 0, .int .i64 0, .string ⟨#[]⟩, .slice none 0 0, .slice none 0 0] 27)) w.heap.size 27 z27 := Blk.new w 27 z27
  have K0 : Kept (· = b) w (w.alloc (.cells #[.int .i64 0, .string ⟨#[]⟩, .int .i64 0, .int .i64 0, .string ⟨#[]⟩, .slice none 0 0, .slice none 0 0] 27)) := (Kept.refl _ _).alloc _
  have zw0 : (w.alloc (.cells #[.int .i64 0, .string ⟨#[]⟩, .int .i64 0, .int .i64 0, .string ⟨#[]⟩, .slice none 0 0, .slice none 0 0] 27)).heap.size = w.heap.size + 1 := by simp
  have Z0 := Lib.hid zw0
  clear zw0
  go_enter Tryz.func33, Tryz.ntmps33
  go_wp2_with fail
  have lo1 := h0.lt
  have zz0 := Z0.out
  refine (hT 3 3 rfl σ _ (by decide) (by decide) h0 (by omega)).mono ?_
  clear zz0
  rintro e w1 hr
  cases h_1 : termS f s 3 σ with
  | error r =>
    have hq : Hid (termS (f + 1) s 2 σ = .error r) := Lib.hid (by unfold termS; simp only [show ((2 : Nat) == 5) = false from rfl, show ((2 : Nat) == 13) = false from rfl, show (2 + 1 : Nat) = 3 from rfl, h_1])
    obtain ⟨rfl, k1⟩ := hr.getErr h_1
    clear hr
    go_wp2_with fail
    exact ⟨rfl, RPost.err hq.out ⟨rfl, K0.trans k1⟩⟩
  | ok q1 =>
    obtain ⟨t1, σ1⟩ := q1
    obtain ⟨v, rfl, ⟨tk1, kk1, rfl, at1, ct1⟩, p1, k1⟩ := hr.getOk h_1
    clear hr
    have j_1 := HI.out _ _ _ _ h0.le h_1
    have i_1 := j_1.1
    try unfold Inv at i_1
    try unfold Inv1 at i_1
    obtain ⟨ta1, tn1, tc1, rfl⟩ := at1.slice
    obtain ⟨ma1, mn1, mc1, rfl⟩ := ct1.slice
    unfold tmVal
    have hR_1 := hR0.kept k1 (by show ¬ w.heap.size = b; omega)
    have K1 := K0.trans k1
    have lb1 := p1.lt
    have zz1 := K1.size
    have zk1 := k1.size
    have lR1 := hR_1.lt
    have h0_1 := p1.alloc (.cells #[.int .i64 t1.op, .string t1.name, .int .i64 t1.n, .int .i64 t1.ty.kind, .string t1.ty.name, .slice ta1 tn1 tc1, .slice ma1 mn1 mc1] 27)
    have K0_1 := K1.alloc (.cells #[.int .i64 t1.op, .string t1.name, .int .i64 t1.n, .int .i64 t1.ty.kind, .string t1.ty.name, .slice ta1 tn1 tc1, .slice ma1 mn1 mc1] 27)
    have hxR_1 := hR_1.alloc (.cells #[.int .i64 t1.op, .string t1.name, .int .i64 t1.n, .int .i64 t1.ty.kind, .string t1.ty.name, .slice ta1 tn1 tc1, .slice ma1 mn1 mc1] 27)
    have hLt1_1 : Blk (w1.alloc (.cells #[.int .i64 t1.op, .string t1.name, .int .i64 t1.n, .int .i64 t1.ty.kind, .string t1.ty.name, .slice ta1 tn1 tc1, .slice ma1 mn1 mc1] 27)) w1.heap.size 27 (tmCells t1 (.slice ta1 tn1 tc1) (.slice ma1 mn1 mc1)) := Blk.new w1 27 _
    have axt1_1 := at1.frame (Same.alloc _ (.cells #[.int .i64 t1.op, .string t1.name, .int .i64 t1.n, .int .i64 t1.ty.kind, .string t1.ty.name, .slice ta1 tn1 tc1, .slice ma1 mn1 mc1] 27))
    have cxt1_1 := ct1.frame (Same.alloc _ (.cells #[.int .i64 t1.op, .string t1.name, .int .i64 t1.n, .int .i64 t1.ty.kind, .string t1.ty.name, .slice ta1 tn1 tc1, .slice ma1 mn1 mc1] 27))
    have zw1 : (w1.alloc (.cells #[.int .i64 t1.op, .string t1.name, .int .i64 t1.n, .int .i64 t1.ty.kind, .string t1.ty.name, .slice ta1 tn1 tc1, .slice ma1 mn1 mc1] 27)).heap.size = w1.heap.size + 1 := by simp
    have Z1 := Lib.hid zw1
    clear zw1
    go_wp2_with fail
    have zz0 := Z0.out
    have lo2 := h0_1.lt
    refine (rest_any hT HI.out h0_1 (by omega) (n := 2) (by unfold lvOK; omega) t1 ta1 tn1 tc1 ma1 mn1 mc1 (w.alloc (.cells #[.int .i64 0, .string ⟨#[]⟩, .int .i64 0, .int .i64 0, .string ⟨#[]⟩, .slice none 0 0, .slice none 0 0] 27)).heap.size (by omega) (by have := Z1.out; omega) axt1_1 cxt1_1).mono ?_
    rintro e w2 hr
    cases h_2 : restS (termS f s) s 2 (s.size + 2) t1 σ1 with
    | error r =>
      have hq : Hid (termS (f + 1) s 2 σ = .error r) := Lib.hid (by unfold termS; simp only [show ((2 : Nat) == 5) = false from rfl, show ((2 : Nat) == 13) = false from rfl, show (2 + 1 : Nat) = 3 from rfl, h_1, h_2])
      obtain ⟨rfl, k2⟩ := hr.getErr h_2
      clear hr
      go_wp2_with fail
      exact ⟨rfl, RPost.err hq.out ⟨rfl, K0_1.trans k2⟩⟩
    | ok q2 =>
      obtain ⟨t2, σ2⟩ := q2
      obtain ⟨v, rfl, ⟨tk2, kk2, rfl, at2, ct2⟩, p2, k2⟩ := hr.getOk h_2
      clear hr
      have j_2 := inv_rest HI.out _ j_1.2 h0_1.le h_2
      have i_2 := j_2.1
      try unfold Inv at i_2
      try unfold Inv1 at i_2
      obtain ⟨ta2, tn2, tc2, rfl⟩ := at2.slice
      obtain ⟨ma2, mn2, mc2, rfl⟩ := ct2.slice
      unfold tmVal
      have hR_2 := hxR_1.kept k2 (by show ¬ w.heap.size = b; omega)
      have hLt1_2 := hLt1_1.kept k2 (by show ¬ w1.heap.size = b; omega)
      have at1_2 := axt1_1.frame (Same.of_kept k2 (fun k h e => by omega))
      have ct1_2 := cxt1_1.frame (Same.of_kept k2 (fun k h e => by omega))
      have K2 := K0_1.trans k2
      have lb2 := p2.lt
      have zz2 := K2.size
      have zk2 := k2.size
      have lR2 := hR_2.lt
      have lLt12 := hLt1_2.lt
      have hq : Hid (termS (f + 1) s 2 σ = .ok (t2, σ2)) := Lib.hid (by unfold termS; simp only [show ((2 : Nat) == 5) = false from rfl, show ((2 : Nat) == 13) = false from rfl, show (2 + 1 : Nat) = 3 from rfl, h_1, h_2])
      have g0 : w2.cell? ⟨w.heap.size, 0, none⟩ = some (.int .i64 0) := hR_2.cell 0
      have f0 : w2.frozen? ⟨w.heap.size, 0, none⟩ = false := hR_2.frozen 0
      have g1 : w2.cell? ⟨w.heap.size, 1, none⟩ = some (.string ⟨#[]⟩) := hR_2.cell 1
      have f1 : w2.frozen? ⟨w.heap.size, 1, none⟩ = false := hR_2.frozen 1
      have g2 : w2.cell? ⟨w.heap.size, 2, none⟩ = some (.int .i64 0) := hR_2.cell 2
      have f2 : w2.frozen? ⟨w.heap.size, 2, none⟩ = false := hR_2.frozen 2
      have g3 : w2.cell? ⟨w.heap.size, 3, none⟩ = some (.int .i64 0) := hR_2.cell 3
      have f3 : w2.frozen? ⟨w.heap.size, 3, none⟩ = false := hR_2.frozen 3
      have g4 : w2.cell? ⟨w.heap.size, 4, none⟩ = some (.string ⟨#[]⟩) := hR_2.cell 4
      have f4 : w2.frozen? ⟨w.heap.size, 4, none⟩ = false := hR_2.frozen 4
      have g5 : w2.cell? ⟨w.heap.size, 5, none⟩ = some (.slice none 0 0) := hR_2.cell 5
      have f5 : w2.frozen? ⟨w.heap.size, 5, none⟩ = false := hR_2.frozen 5
      have g6 : w2.cell? ⟨w.heap.size, 6, none⟩ = some (.slice none 0 0) := hR_2.cell 6
      have f6 : w2.frozen? ⟨w.heap.size, 6, none⟩ = false := hR_2.frozen 6
      have yt10 : w2.cell? ⟨w1.heap.size, 0, none⟩ = some (.int .i64 t1.op) := hLt1_2.cell 0
      have yt11 : w2.cell? ⟨w1.heap.size, 1, none⟩ = some (.string t1.name) := hLt1_2.cell 1
      have yt12 : w2.cell? ⟨w1.heap.size, 2, none⟩ = some (.int .i64 t1.n) := hLt1_2.cell 2
      have yt13 : w2.cell? ⟨w1.heap.size, 3, none⟩ = some (.int .i64 t1.ty.kind) := hLt1_2.cell 3
      have yt14 : w2.cell? ⟨w1.heap.size, 4, none⟩ = some (.string t1.ty.name) := hLt1_2.cell 4
      have yt15 : w2.cell? ⟨w1.heap.size, 5, none⟩ = some (.slice ta1 tn1 tc1) := hLt1_2.cell 5
      have yt16 : w2.cell? ⟨w1.heap.size, 6, none⟩ = some (.slice ma1 mn1 mc1) := hLt1_2.cell 6
      have l9 : w.heap.size < w2.heap.size := hR_2.lt
      clear zz0
      go_wp2_with fail
      have zz0 := Z0.out
      refine ret_tm Tryz.results33 hq.out rfl rfl ((r7 hR_2 rfl)) ?_ ?_ ((p7w p2 (by omega) (by omega))) ((k7w K2 (Or.inr (Nat.le_refl _))))
      · exact (at2.frame (same7 (R := w.heap.size) (by omega))).mono (fun k _ h => by omega)
      · exact (ct2.frame (same7 (R := w.heap.size) (by omega))).mono (fun k _ h => by omega)
set_option maxHeartbeats 4000000 in
theorem term_l3 {b : Nat} {s : ByteArray} {f : Nat} {w : World} {σ : PS} (hT : TC b s f (termS f s)) (h : PW w b s σ) (hf : 14 * mu s σ + (14 - 3) < f + 1) :
    Calls Tryz.prog 33 #[.pointer (some ⟨b, 0, none⟩), .int .i64 3] w (RPost b s (VTm w.heap.size) (termS (f + 1) s 3 σ) w) := by
  have hI := inv_term f s
  have HI := Lib.hid hI
  clear hI
  have hlt := h.lt
  have hgl := h.gl.lt
  have h0 := h.alloc (.cells #[.int .i64 0, .string ⟨#[]⟩, .int .i64 0, .int .i64 0, .string ⟨#[]⟩, .slice none 0 0, .slice none 0 0] 27)
  have hR0 : Blk (w.alloc (.cells #[.int .i64 0, .string ⟨#[]⟩, .int .i64 0, .int .i64 0, .string ⟨#[]⟩, .slice none 0 0, .slice none 0 0] 27)) w.heap.size 27 z27 := Blk.new w 27 z27
  have K0 : Kept (· = b) w (w.alloc (.cells #[.int .i64 0, .string ⟨#[]⟩, .int .i64 0, .int .i64 0, .string ⟨#[]⟩, .slice none 0 0, .slice none 0 0] 27)) := (Kept.refl _ _).alloc _
  have zw0 : (w.alloc (.cells #[.int .i64 0, .string ⟨#[]⟩, .int .i64 0, .int .i64 0, .string ⟨#[]⟩, .slice none 0 0, .slice none 0 0] 27)).heap.size = w.heap.size + 1 := by simp
  have Z0 := Lib.hid zw0
  clear zw0
  go_enter Tryz.func33, Tryz.ntmps33
  go_wp2_with fail
  have lo1 := h0.lt
  have zz0 := Z0.out
  refine (hT 4 4 rfl σ _ (by decide) (by decide) h0 (by omega)).mono ?_
  clear zz0
  rintro e w1 hr
  cases h_1 : termS f s 4 σ with
  | error r =>
    have hq : Hid (termS (f + 1) s 3 σ = .error r) := Lib.hid (by unfold termS; simp only [show ((3 : Nat) == 5) = false from rfl, show ((3 : Nat) == 13) = false from rfl, show (3 + 1 : Nat) = 4 from rfl, h_1])
    obtain ⟨rfl, k1⟩ := hr.getErr h_1
    clear hr
    go_wp2_with fail
    exact ⟨rfl, RPost.err hq.out ⟨rfl, K0.trans k1⟩⟩
  | ok q1 =>
    obtain ⟨t1, σ1⟩ := q1
    obtain ⟨v, rfl, ⟨tk1, kk1, rfl, at1, ct1⟩, p1, k1⟩ := hr.getOk h_1
    clear hr
    have j_1 := HI.out _ _ _ _ h0.le h_1
    have i_1 := j_1.1
    try unfold Inv at i_1
    try unfold Inv1 at i_1
    obtain ⟨ta1, tn1, tc1, rfl⟩ := at1.slice
    obtain ⟨ma1, mn1, mc1, rfl⟩ := ct1.slice
    unfold tmVal
    have hR_1 := hR0.kept k1 (by show ¬ w.heap.size = b; omega)
    have K1 := K0.trans k1
    have lb1 := p1.lt
    have zz1 := K1.size
    have zk1 := k1.size
    have lR1 := hR_1.lt
    have h0_1 := p1.alloc (.cells #[.int .i64 t1.op, .string t1.name, .int .i64 t1.n, .int .i64 t1.ty.kind, .string t1.ty.name, .slice ta1 tn1 tc1, .slice ma1 mn1 mc1] 27)
    have K0_1 := K1.alloc (.cells #[.int .i64 t1.op, .string t1.name, .int .i64 t1.n, .int .i64 t1.ty.kind, .string t1.ty.name, .slice ta1 tn1 tc1, .slice ma1 mn1 mc1] 27)
    have hxR_1 := hR_1.alloc (.cells #[.int .i64 t1.op, .string t1.name, .int .i64 t1.n, .int .i64 t1.ty.kind, .string t1.ty.name, .slice ta1 tn1 tc1, .slice ma1 mn1 mc1] 27)
    have hLt1_1 : Blk (w1.alloc (.cells #[.int .i64 t1.op, .string t1.name, .int .i64 t1.n, .int .i64 t1.ty.kind, .string t1.ty.name, .slice ta1 tn1 tc1, .slice ma1 mn1 mc1] 27)) w1.heap.size 27 (tmCells t1 (.slice ta1 tn1 tc1) (.slice ma1 mn1 mc1)) := Blk.new w1 27 _
    have axt1_1 := at1.frame (Same.alloc _ (.cells #[.int .i64 t1.op, .string t1.name, .int .i64 t1.n, .int .i64 t1.ty.kind, .string t1.ty.name, .slice ta1 tn1 tc1, .slice ma1 mn1 mc1] 27))
    have cxt1_1 := ct1.frame (Same.alloc _ (.cells #[.int .i64 t1.op, .string t1.name, .int .i64 t1.n, .int .i64 t1.ty.kind, .string t1.ty.name, .slice ta1 tn1 tc1, .slice ma1 mn1 mc1] 27))
    have zw1 : (w1.alloc (.cells #[.int .i64 t1.op, .string t1.name, .int .i64 t1.n, .int .i64 t1.ty.kind, .string t1.ty.name, .slice ta1 tn1 tc1, .slice ma1 mn1 mc1] 27)).heap.size = w1.heap.size + 1 := by simp
    have Z1 := Lib.hid zw1
    clear zw1
    go_wp2_with fail
    have zz0 := Z0.out
    have lo2 := h0_1.lt
    refine (rest_any hT HI.out h0_1 (by omega) (n := 3) (by unfold lvOK; omega) t1 ta1 tn1 tc1 ma1 mn1 mc1 (w.alloc (.cells #[.int .i64 0, .string ⟨#[]⟩, .int .i64 0, .int .i64 0, .string ⟨#[]⟩, .slice none 0 0, .slice none 0 0] 27)).heap.size (by omega) (by have := Z1.out; omega) axt1_1 cxt1_1).mono ?_
    rintro e w2 hr
    cases h_2 : restS (termS f s) s 3 (s.size + 2) t1 σ1 with
    | error r =>
      have hq : Hid (termS (f + 1) s 3 σ = .error r) := Lib.hid (by unfold termS; simp only [show ((3 : Nat) == 5) = false from rfl, show ((3 : Nat) == 13) = false from rfl, show (3 + 1 : Nat) = 4 from rfl, h_1, h_2])
      obtain ⟨rfl, k2⟩ := hr.getErr h_2
      clear hr
      go_wp2_with fail
      exact ⟨rfl, RPost.err hq.out ⟨rfl, K0_1.trans k2⟩⟩
    | ok q2 =>
      obtain ⟨t2, σ2⟩ := q2
      obtain ⟨v, rfl, ⟨tk2, kk2, rfl, at2, ct2⟩, p2, k2⟩ := hr.getOk h_2
      clear hr
      have j_2 := inv_rest HI.out _ j_1.2 h0_1.le h_2
      have i_2 := j_2.1
      try unfold Inv at i_2
      try unfold Inv1 at i_2
      obtain ⟨ta2, tn2, tc2, rfl⟩ := at2.slice
      obtain ⟨ma2, mn2, mc2, rfl⟩ := ct2.slice
      unfold tmVal
      have hR_2 := hxR_1.kept k2 (by show ¬ w.heap.size = b; omega)
      have hLt1_2 := hLt1_1.kept k2 (by show ¬ w1.heap.size = b; omega)
      have at1_2 := axt1_1.frame (Same.of_kept k2 (fun k h e => by omega))
      have ct1_2 := cxt1_1.frame (Same.of_kept k2 (fun k h e => by omega))
      have K2 := K0_1.trans k2
      have lb2 := p2.lt
      have zz2 := K2.size
      have zk2 := k2.size
      have lR2 := hR_2.lt
      have lLt12 := hLt1_2.lt
      have hq : Hid (termS (f + 1) s 3 σ = .ok (t2, σ2)) := Lib.hid (by unfold termS; simp only [show ((3 : Nat) == 5) = false from rfl, show ((3 : Nat) == 13) = false from rfl, show (3 + 1 : Nat) = 4 from rfl, h_1, h_2])
      have g0 : w2.cell? ⟨w.heap.size, 0, none⟩ = some (.int .i64 0) := hR_2.cell 0
      have f0 : w2.frozen? ⟨w.heap.size, 0, none⟩ = false := hR_2.frozen 0
      have g1 : w2.cell? ⟨w.heap.size, 1, none⟩ = some (.string ⟨#[]⟩) := hR_2.cell 1
      have f1 : w2.frozen? ⟨w.heap.size, 1, none⟩ = false := hR_2.frozen 1
      have g2 : w2.cell? ⟨w.heap.size, 2, none⟩ = some (.int .i64 0) := hR_2.cell 2
      have f2 : w2.frozen? ⟨w.heap.size, 2, none⟩ = false := hR_2.frozen 2
      have g3 : w2.cell? ⟨w.heap.size, 3, none⟩ = some (.int .i64 0) := hR_2.cell 3
      have f3 : w2.frozen? ⟨w.heap.size, 3, none⟩ = false := hR_2.frozen 3
      have g4 : w2.cell? ⟨w.heap.size, 4, none⟩ = some (.string ⟨#[]⟩) := hR_2.cell 4
      have f4 : w2.frozen? ⟨w.heap.size, 4, none⟩ = false := hR_2.frozen 4
      have g5 : w2.cell? ⟨w.heap.size, 5, none⟩ = some (.slice none 0 0) := hR_2.cell 5
      have f5 : w2.frozen? ⟨w.heap.size, 5, none⟩ = false := hR_2.frozen 5
      have g6 : w2.cell? ⟨w.heap.size, 6, none⟩ = some (.slice none 0 0) := hR_2.cell 6
      have f6 : w2.frozen? ⟨w.heap.size, 6, none⟩ = false := hR_2.frozen 6
      have yt10 : w2.cell? ⟨w1.heap.size, 0, none⟩ = some (.int .i64 t1.op) := hLt1_2.cell 0
      have yt11 : w2.cell? ⟨w1.heap.size, 1, none⟩ = some (.string t1.name) := hLt1_2.cell 1
      have yt12 : w2.cell? ⟨w1.heap.size, 2, none⟩ = some (.int .i64 t1.n) := hLt1_2.cell 2
      have yt13 : w2.cell? ⟨w1.heap.size, 3, none⟩ = some (.int .i64 t1.ty.kind) := hLt1_2.cell 3
      have yt14 : w2.cell? ⟨w1.heap.size, 4, none⟩ = some (.string t1.ty.name) := hLt1_2.cell 4
      have yt15 : w2.cell? ⟨w1.heap.size, 5, none⟩ = some (.slice ta1 tn1 tc1) := hLt1_2.cell 5
      have yt16 : w2.cell? ⟨w1.heap.size, 6, none⟩ = some (.slice ma1 mn1 mc1) := hLt1_2.cell 6
      have l9 : w.heap.size < w2.heap.size := hR_2.lt
      clear zz0
      go_wp2_with fail
      have zz0 := Z0.out
      refine ret_tm Tryz.results33 hq.out rfl rfl ((r7 hR_2 rfl)) ?_ ?_ ((p7w p2 (by omega) (by omega))) ((k7w K2 (Or.inr (Nat.le_refl _))))
      · exact (at2.frame (same7 (R := w.heap.size) (by omega))).mono (fun k _ h => by omega)
      · exact (ct2.frame (same7 (R := w.heap.size) (by omega))).mono (fun k _ h => by omega)
set_option maxHeartbeats 4000000 in
theorem term_l4 {b : Nat} {s : ByteArray} {f : Nat} {w : World} {σ : PS} (hT : TC b s f (termS f s)) (h : PW w b s σ) (hf : 14 * mu s σ + (14 - 4) < f + 1) :
    Calls Tryz.prog 33 #[.pointer (some ⟨b, 0, none⟩), .int .i64 4] w (RPost b s (VTm w.heap.size) (termS (f + 1) s 4 σ) w) := by
  have hI := inv_term f s
  have HI := Lib.hid hI
  clear hI
  have hlt := h.lt
  have hgl := h.gl.lt
  have h0 := h.alloc (.cells #[.int .i64 0, .string ⟨#[]⟩, .int .i64 0, .int .i64 0, .string ⟨#[]⟩, .slice none 0 0, .slice none 0 0] 27)
  have hR0 : Blk (w.alloc (.cells #[.int .i64 0, .string ⟨#[]⟩, .int .i64 0, .int .i64 0, .string ⟨#[]⟩, .slice none 0 0, .slice none 0 0] 27)) w.heap.size 27 z27 := Blk.new w 27 z27
  have K0 : Kept (· = b) w (w.alloc (.cells #[.int .i64 0, .string ⟨#[]⟩, .int .i64 0, .int .i64 0, .string ⟨#[]⟩, .slice none 0 0, .slice none 0 0] 27)) := (Kept.refl _ _).alloc _
  have zw0 : (w.alloc (.cells #[.int .i64 0, .string ⟨#[]⟩, .int .i64 0, .int .i64 0, .string ⟨#[]⟩, .slice none 0 0, .slice none 0 0] 27)).heap.size = w.heap.size + 1 := by simp
  have Z0 := Lib.hid zw0
  clear zw0
  go_enter Tryz.func33, Tryz.ntmps33
  go_wp2_with fail
  have lo1 := h0.lt
  have zz0 := Z0.out
  refine (hT 5 5 rfl σ _ (by decide) (by decide) h0 (by omega)).mono ?_
  clear zz0
  rintro e w1 hr
  cases h_1 : termS f s 5 σ with
  | error r =>
    have hq : Hid (termS (f + 1) s 4 σ = .error r) := Lib.hid (by unfold termS; simp only [show ((4 : Nat) == 5) = false from rfl, show ((4 : Nat) == 13) = false from rfl, show (4 + 1 : Nat) = 5 from rfl, h_1])
    obtain ⟨rfl, k1⟩ := hr.getErr h_1
    clear hr
    go_wp2_with fail
    exact ⟨rfl, RPost.err hq.out ⟨rfl, K0.trans k1⟩⟩
  | ok q1 =>
    obtain ⟨t1, σ1⟩ := q1
    obtain ⟨v, rfl, ⟨tk1, kk1, rfl, at1, ct1⟩, p1, k1⟩ := hr.getOk h_1
    clear hr
    have j_1 := HI.out _ _ _ _ h0.le h_1
    have i_1 := j_1.1
    try unfold Inv at i_1
    try unfold Inv1 at i_1
    obtain ⟨ta1, tn1, tc1, rfl⟩ := at1.slice
    obtain ⟨ma1, mn1, mc1, rfl⟩ := ct1.slice
    unfold tmVal
    have hR_1 := hR0.kept k1 (by show ¬ w.heap.size = b; omega)
    have K1 := K0.trans k1
    have lb1 := p1.lt
    have zz1 := K1.size
    have zk1 := k1.size
    have lR1 := hR_1.lt
    have h0_1 := p1.alloc (.cells #[.int .i64 t1.op, .string t1.name, .int .i64 t1.n, .int .i64 t1.ty.kind, .string t1.ty.name, .slice ta1 tn1 tc1, .slice ma1 mn1 mc1] 27)
    have K0_1 := K1.alloc (.cells #[.int .i64 t1.op, .string t1.name, .int .i64 t1.n, .int .i64 t1.ty.kind, .string t1.ty.name, .slice ta1 tn1 tc1, .slice ma1 mn1 mc1] 27)
    have hxR_1 := hR_1.alloc (.cells #[.int .i64 t1.op, .string t1.name, .int .i64 t1.n, .int .i64 t1.ty.kind, .string t1.ty.name, .slice ta1 tn1 tc1, .slice ma1 mn1 mc1] 27)
    have hLt1_1 : Blk (w1.alloc (.cells #[.int .i64 t1.op, .string t1.name, .int .i64 t1.n, .int .i64 t1.ty.kind, .string t1.ty.name, .slice ta1 tn1 tc1, .slice ma1 mn1 mc1] 27)) w1.heap.size 27 (tmCells t1 (.slice ta1 tn1 tc1) (.slice ma1 mn1 mc1)) := Blk.new w1 27 _
    have axt1_1 := at1.frame (Same.alloc _ (.cells #[.int .i64 t1.op, .string t1.name, .int .i64 t1.n, .int .i64 t1.ty.kind, .string t1.ty.name, .slice ta1 tn1 tc1, .slice ma1 mn1 mc1] 27))
    have cxt1_1 := ct1.frame (Same.alloc _ (.cells #[.int .i64 t1.op, .string t1.name, .int .i64 t1.n, .int .i64 t1.ty.kind, .string t1.ty.name, .slice ta1 tn1 tc1, .slice ma1 mn1 mc1] 27))
    have zw1 : (w1.alloc (.cells #[.int .i64 t1.op, .string t1.name, .int .i64 t1.n, .int .i64 t1.ty.kind, .string t1.ty.name, .slice ta1 tn1 tc1, .slice ma1 mn1 mc1] 27)).heap.size = w1.heap.size + 1 := by simp
    have Z1 := Lib.hid zw1
    clear zw1
    go_wp2_with fail
    have zz0 := Z0.out
    have lo2 := h0_1.lt
    refine (rest_any hT HI.out h0_1 (by omega) (n := 4) (by unfold lvOK; omega) t1 ta1 tn1 tc1 ma1 mn1 mc1 (w.alloc (.cells #[.int .i64 0, .string ⟨#[]⟩, .int .i64 0, .int .i64 0, .string ⟨#[]⟩, .slice none 0 0, .slice none 0 0] 27)).heap.size (by omega) (by have := Z1.out; omega) axt1_1 cxt1_1).mono ?_
    rintro e w2 hr
    cases h_2 : restS (termS f s) s 4 (s.size + 2) t1 σ1 with
    | error r =>
      have hq : Hid (termS (f + 1) s 4 σ = .error r) := Lib.hid (by unfold termS; simp only [show ((4 : Nat) == 5) = false from rfl, show ((4 : Nat) == 13) = false from rfl, show (4 + 1 : Nat) = 5 from rfl, h_1, h_2])
      obtain ⟨rfl, k2⟩ := hr.getErr h_2
      clear hr
      go_wp2_with fail
      exact ⟨rfl, RPost.err hq.out ⟨rfl, K0_1.trans k2⟩⟩
    | ok q2 =>
      obtain ⟨t2, σ2⟩ := q2
      obtain ⟨v, rfl, ⟨tk2, kk2, rfl, at2, ct2⟩, p2, k2⟩ := hr.getOk h_2
      clear hr
      have j_2 := inv_rest HI.out _ j_1.2 h0_1.le h_2
      have i_2 := j_2.1
      try unfold Inv at i_2
      try unfold Inv1 at i_2
      obtain ⟨ta2, tn2, tc2, rfl⟩ := at2.slice
      obtain ⟨ma2, mn2, mc2, rfl⟩ := ct2.slice
      unfold tmVal
      have hR_2 := hxR_1.kept k2 (by show ¬ w.heap.size = b; omega)
      have hLt1_2 := hLt1_1.kept k2 (by show ¬ w1.heap.size = b; omega)
      have at1_2 := axt1_1.frame (Same.of_kept k2 (fun k h e => by omega))
      have ct1_2 := cxt1_1.frame (Same.of_kept k2 (fun k h e => by omega))
      have K2 := K0_1.trans k2
      have lb2 := p2.lt
      have zz2 := K2.size
      have zk2 := k2.size
      have lR2 := hR_2.lt
      have lLt12 := hLt1_2.lt
      have hq : Hid (termS (f + 1) s 4 σ = .ok (t2, σ2)) := Lib.hid (by unfold termS; simp only [show ((4 : Nat) == 5) = false from rfl, show ((4 : Nat) == 13) = false from rfl, show (4 + 1 : Nat) = 5 from rfl, h_1, h_2])
      have g0 : w2.cell? ⟨w.heap.size, 0, none⟩ = some (.int .i64 0) := hR_2.cell 0
      have f0 : w2.frozen? ⟨w.heap.size, 0, none⟩ = false := hR_2.frozen 0
      have g1 : w2.cell? ⟨w.heap.size, 1, none⟩ = some (.string ⟨#[]⟩) := hR_2.cell 1
      have f1 : w2.frozen? ⟨w.heap.size, 1, none⟩ = false := hR_2.frozen 1
      have g2 : w2.cell? ⟨w.heap.size, 2, none⟩ = some (.int .i64 0) := hR_2.cell 2
      have f2 : w2.frozen? ⟨w.heap.size, 2, none⟩ = false := hR_2.frozen 2
      have g3 : w2.cell? ⟨w.heap.size, 3, none⟩ = some (.int .i64 0) := hR_2.cell 3
      have f3 : w2.frozen? ⟨w.heap.size, 3, none⟩ = false := hR_2.frozen 3
      have g4 : w2.cell? ⟨w.heap.size, 4, none⟩ = some (.string ⟨#[]⟩) := hR_2.cell 4
      have f4 : w2.frozen? ⟨w.heap.size, 4, none⟩ = false := hR_2.frozen 4
      have g5 : w2.cell? ⟨w.heap.size, 5, none⟩ = some (.slice none 0 0) := hR_2.cell 5
      have f5 : w2.frozen? ⟨w.heap.size, 5, none⟩ = false := hR_2.frozen 5
      have g6 : w2.cell? ⟨w.heap.size, 6, none⟩ = some (.slice none 0 0) := hR_2.cell 6
      have f6 : w2.frozen? ⟨w.heap.size, 6, none⟩ = false := hR_2.frozen 6
      have yt10 : w2.cell? ⟨w1.heap.size, 0, none⟩ = some (.int .i64 t1.op) := hLt1_2.cell 0
      have yt11 : w2.cell? ⟨w1.heap.size, 1, none⟩ = some (.string t1.name) := hLt1_2.cell 1
      have yt12 : w2.cell? ⟨w1.heap.size, 2, none⟩ = some (.int .i64 t1.n) := hLt1_2.cell 2
      have yt13 : w2.cell? ⟨w1.heap.size, 3, none⟩ = some (.int .i64 t1.ty.kind) := hLt1_2.cell 3
      have yt14 : w2.cell? ⟨w1.heap.size, 4, none⟩ = some (.string t1.ty.name) := hLt1_2.cell 4
      have yt15 : w2.cell? ⟨w1.heap.size, 5, none⟩ = some (.slice ta1 tn1 tc1) := hLt1_2.cell 5
      have yt16 : w2.cell? ⟨w1.heap.size, 6, none⟩ = some (.slice ma1 mn1 mc1) := hLt1_2.cell 6
      have l9 : w.heap.size < w2.heap.size := hR_2.lt
      clear zz0
      go_wp2_with fail
      have zz0 := Z0.out
      refine ret_tm Tryz.results33 hq.out rfl rfl ((r7 hR_2 rfl)) ?_ ?_ ((p7w p2 (by omega) (by omega))) ((k7w K2 (Or.inr (Nat.le_refl _))))
      · exact (at2.frame (same7 (R := w.heap.size) (by omega))).mono (fun k _ h => by omega)
      · exact (ct2.frame (same7 (R := w.heap.size) (by omega))).mono (fun k _ h => by omega)
set_option maxHeartbeats 4000000 in
theorem term_l6 {b : Nat} {s : ByteArray} {f : Nat} {w : World} {σ : PS} (hT : TC b s f (termS f s)) (h : PW w b s σ) (hf : 14 * mu s σ + (14 - 6) < f + 1) :
    Calls Tryz.prog 33 #[.pointer (some ⟨b, 0, none⟩), .int .i64 6] w (RPost b s (VTm w.heap.size) (termS (f + 1) s 6 σ) w) := by
  have hI := inv_term f s
  have HI := Lib.hid hI
  clear hI
  have hlt := h.lt
  have hgl := h.gl.lt
  have h0 := h.alloc (.cells #[.int .i64 0, .string ⟨#[]⟩, .int .i64 0, .int .i64 0, .string ⟨#[]⟩, .slice none 0 0, .slice none 0 0] 27)
  have hR0 : Blk (w.alloc (.cells #[.int .i64 0, .string ⟨#[]⟩, .int .i64 0, .int .i64 0, .string ⟨#[]⟩, .slice none 0 0, .slice none 0 0] 27)) w.heap.size 27 z27 := Blk.new w 27 z27
  have K0 : Kept (· = b) w (w.alloc (.cells #[.int .i64 0, .string ⟨#[]⟩, .int .i64 0, .int .i64 0, .string ⟨#[]⟩, .slice none 0 0, .slice none 0 0] 27)) := (Kept.refl _ _).alloc _
  have zw0 : (w.alloc (.cells #[.int .i64 0, .string ⟨#[]⟩, .int .i64 0, .int .i64 0, .string ⟨#[]⟩, .slice none 0 0, .slice none 0 0] 27)).heap.size = w.heap.size + 1 := by simp
  have Z0 := Lib.hid zw0
  clear zw0
  go_enter Tryz.func33, Tryz.ntmps33
  go_wp2_with fail
  have lo1 := h0.lt
  have zz0 := Z0.out
  refine (hT 7 7 rfl σ _ (by decide) (by decide) h0 (by omega)).mono ?_
  clear zz0
  rintro e w1 hr
  cases h_1 : termS f s 7 σ with
  | error r =>
    have hq : Hid (termS (f + 1) s 6 σ = .error r) := Lib.hid (by unfold termS; simp only [show ((6 : Nat) == 5) = false from rfl, show ((6 : Nat) == 13) = false from rfl, show (6 + 1 : Nat) = 7 from rfl, h_1])
    obtain ⟨rfl, k1⟩ := hr.getErr h_1
    clear hr
    go_wp2_with fail
    exact ⟨rfl, RPost.err hq.out ⟨rfl, K0.trans k1⟩⟩
  | ok q1 =>
    obtain ⟨t1, σ1⟩ := q1
    obtain ⟨v, rfl, ⟨tk1, kk1, rfl, at1, ct1⟩, p1, k1⟩ := hr.getOk h_1
    clear hr
    have j_1 := HI.out _ _ _ _ h0.le h_1
    have i_1 := j_1.1
    try unfold Inv at i_1
    try unfold Inv1 at i_1
    obtain ⟨ta1, tn1, tc1, rfl⟩ := at1.slice
    obtain ⟨ma1, mn1, mc1, rfl⟩ := ct1.slice
    unfold tmVal
    have hR_1 := hR0.kept k1 (by show ¬ w.heap.size = b; omega)
    have K1 := K0.trans k1
    have lb1 := p1.lt
    have zz1 := K1.size
    have zk1 := k1.size
    have lR1 := hR_1.lt
    have h0_1 := p1.alloc (.cells #[.int .i64 t1.op, .string t1.name, .int .i64 t1.n, .int .i64 t1.ty.kind, .string t1.ty.name, .slice ta1 tn1 tc1, .slice ma1 mn1 mc1] 27)
    have K0_1 := K1.alloc (.cells #[.int .i64 t1.op, .string t1.name, .int .i64 t1.n, .int .i64 t1.ty.kind, .string t1.ty.name, .slice ta1 tn1 tc1, .slice ma1 mn1 mc1] 27)
    have hxR_1 := hR_1.alloc (.cells #[.int .i64 t1.op, .string t1.name, .int .i64 t1.n, .int .i64 t1.ty.kind, .string t1.ty.name, .slice ta1 tn1 tc1, .slice ma1 mn1 mc1] 27)
    have hLt1_1 : Blk (w1.alloc (.cells #[.int .i64 t1.op, .string t1.name, .int .i64 t1.n, .int .i64 t1.ty.kind, .string t1.ty.name, .slice ta1 tn1 tc1, .slice ma1 mn1 mc1] 27)) w1.heap.size 27 (tmCells t1 (.slice ta1 tn1 tc1) (.slice ma1 mn1 mc1)) := Blk.new w1 27 _
    have axt1_1 := at1.frame (Same.alloc _ (.cells #[.int .i64 t1.op, .string t1.name, .int .i64 t1.n, .int .i64 t1.ty.kind, .string t1.ty.name, .slice ta1 tn1 tc1, .slice ma1 mn1 mc1] 27))
    have cxt1_1 := ct1.frame (Same.alloc _ (.cells #[.int .i64 t1.op, .string t1.name, .int .i64 t1.n, .int .i64 t1.ty.kind, .string t1.ty.name, .slice ta1 tn1 tc1, .slice ma1 mn1 mc1] 27))
    have zw1 : (w1.alloc (.cells #[.int .i64 t1.op, .string t1.name, .int .i64 t1.n, .int .i64 t1.ty.kind, .string t1.ty.name, .slice ta1 tn1 tc1, .slice ma1 mn1 mc1] 27)).heap.size = w1.heap.size + 1 := by simp
    have Z1 := Lib.hid zw1
    clear zw1
    go_wp2_with fail
    have zz0 := Z0.out
    have lo2 := h0_1.lt
    refine (rest_any hT HI.out h0_1 (by omega) (n := 6) (by unfold lvOK; omega) t1 ta1 tn1 tc1 ma1 mn1 mc1 (w.alloc (.cells #[.int .i64 0, .string ⟨#[]⟩, .int .i64 0, .int .i64 0, .string ⟨#[]⟩, .slice none 0 0, .slice none 0 0] 27)).heap.size (by omega) (by have := Z1.out; omega) axt1_1 cxt1_1).mono ?_
    rintro e w2 hr
    cases h_2 : restS (termS f s) s 6 (s.size + 2) t1 σ1 with
    | error r =>
      have hq : Hid (termS (f + 1) s 6 σ = .error r) := Lib.hid (by unfold termS; simp only [show ((6 : Nat) == 5) = false from rfl, show ((6 : Nat) == 13) = false from rfl, show (6 + 1 : Nat) = 7 from rfl, h_1, h_2])
      obtain ⟨rfl, k2⟩ := hr.getErr h_2
      clear hr
      go_wp2_with fail
      exact ⟨rfl, RPost.err hq.out ⟨rfl, K0_1.trans k2⟩⟩
    | ok q2 =>
      obtain ⟨t2, σ2⟩ := q2
      obtain ⟨v, rfl, ⟨tk2, kk2, rfl, at2, ct2⟩, p2, k2⟩ := hr.getOk h_2
      clear hr
      have j_2 := inv_rest HI.out _ j_1.2 h0_1.le h_2
      have i_2 := j_2.1
      try unfold Inv at i_2
      try unfold Inv1 at i_2
      obtain ⟨ta2, tn2, tc2, rfl⟩ := at2.slice
      obtain ⟨ma2, mn2, mc2, rfl⟩ := ct2.slice
      unfold tmVal
      have hR_2 := hxR_1.kept k2 (by show ¬ w.heap.size = b; omega)
      have hLt1_2 := hLt1_1.kept k2 (by show ¬ w1.heap.size = b; omega)
      have at1_2 := axt1_1.frame (Same.of_kept k2 (fun k h e => by omega))
      have ct1_2 := cxt1_1.frame (Same.of_kept k2 (fun k h e => by omega))
      have K2 := K0_1.trans k2
      have lb2 := p2.lt
      have zz2 := K2.size
      have zk2 := k2.size
      have lR2 := hR_2.lt
      have lLt12 := hLt1_2.lt
      have hq : Hid (termS (f + 1) s 6 σ = .ok (t2, σ2)) := Lib.hid (by unfold termS; simp only [show ((6 : Nat) == 5) = false from rfl, show ((6 : Nat) == 13) = false from rfl, show (6 + 1 : Nat) = 7 from rfl, h_1, h_2])
      have g0 : w2.cell? ⟨w.heap.size, 0, none⟩ = some (.int .i64 0) := hR_2.cell 0
      have f0 : w2.frozen? ⟨w.heap.size, 0, none⟩ = false := hR_2.frozen 0
      have g1 : w2.cell? ⟨w.heap.size, 1, none⟩ = some (.string ⟨#[]⟩) := hR_2.cell 1
      have f1 : w2.frozen? ⟨w.heap.size, 1, none⟩ = false := hR_2.frozen 1
      have g2 : w2.cell? ⟨w.heap.size, 2, none⟩ = some (.int .i64 0) := hR_2.cell 2
      have f2 : w2.frozen? ⟨w.heap.size, 2, none⟩ = false := hR_2.frozen 2
      have g3 : w2.cell? ⟨w.heap.size, 3, none⟩ = some (.int .i64 0) := hR_2.cell 3
      have f3 : w2.frozen? ⟨w.heap.size, 3, none⟩ = false := hR_2.frozen 3
      have g4 : w2.cell? ⟨w.heap.size, 4, none⟩ = some (.string ⟨#[]⟩) := hR_2.cell 4
      have f4 : w2.frozen? ⟨w.heap.size, 4, none⟩ = false := hR_2.frozen 4
      have g5 : w2.cell? ⟨w.heap.size, 5, none⟩ = some (.slice none 0 0) := hR_2.cell 5
      have f5 : w2.frozen? ⟨w.heap.size, 5, none⟩ = false := hR_2.frozen 5
      have g6 : w2.cell? ⟨w.heap.size, 6, none⟩ = some (.slice none 0 0) := hR_2.cell 6
      have f6 : w2.frozen? ⟨w.heap.size, 6, none⟩ = false := hR_2.frozen 6
      have yt10 : w2.cell? ⟨w1.heap.size, 0, none⟩ = some (.int .i64 t1.op) := hLt1_2.cell 0
      have yt11 : w2.cell? ⟨w1.heap.size, 1, none⟩ = some (.string t1.name) := hLt1_2.cell 1
      have yt12 : w2.cell? ⟨w1.heap.size, 2, none⟩ = some (.int .i64 t1.n) := hLt1_2.cell 2
      have yt13 : w2.cell? ⟨w1.heap.size, 3, none⟩ = some (.int .i64 t1.ty.kind) := hLt1_2.cell 3
      have yt14 : w2.cell? ⟨w1.heap.size, 4, none⟩ = some (.string t1.ty.name) := hLt1_2.cell 4
      have yt15 : w2.cell? ⟨w1.heap.size, 5, none⟩ = some (.slice ta1 tn1 tc1) := hLt1_2.cell 5
      have yt16 : w2.cell? ⟨w1.heap.size, 6, none⟩ = some (.slice ma1 mn1 mc1) := hLt1_2.cell 6
      have l9 : w.heap.size < w2.heap.size := hR_2.lt
      clear zz0
      go_wp2_with fail
      have zz0 := Z0.out
      refine ret_tm Tryz.results33 hq.out rfl rfl ((r7 hR_2 rfl)) ?_ ?_ ((p7w p2 (by omega) (by omega))) ((k7w K2 (Or.inr (Nat.le_refl _))))
      · exact (at2.frame (same7 (R := w.heap.size) (by omega))).mono (fun k _ h => by omega)
      · exact (ct2.frame (same7 (R := w.heap.size) (by omega))).mono (fun k _ h => by omega)
set_option maxHeartbeats 4000000 in
theorem term_l7 {b : Nat} {s : ByteArray} {f : Nat} {w : World} {σ : PS} (hT : TC b s f (termS f s)) (h : PW w b s σ) (hf : 14 * mu s σ + (14 - 7) < f + 1) :
    Calls Tryz.prog 33 #[.pointer (some ⟨b, 0, none⟩), .int .i64 7] w (RPost b s (VTm w.heap.size) (termS (f + 1) s 7 σ) w) := by
  have hI := inv_term f s
  have HI := Lib.hid hI
  clear hI
  have hlt := h.lt
  have hgl := h.gl.lt
  have h0 := h.alloc (.cells #[.int .i64 0, .string ⟨#[]⟩, .int .i64 0, .int .i64 0, .string ⟨#[]⟩, .slice none 0 0, .slice none 0 0] 27)
  have hR0 : Blk (w.alloc (.cells #[.int .i64 0, .string ⟨#[]⟩, .int .i64 0, .int .i64 0, .string ⟨#[]⟩, .slice none 0 0, .slice none 0 0] 27)) w.heap.size 27 z27 := Blk.new w 27 z27
  have K0 : Kept (· = b) w (w.alloc (.cells #[.int .i64 0, .string ⟨#[]⟩, .int .i64 0, .int .i64 0, .string ⟨#[]⟩, .slice none 0 0, .slice none 0 0] 27)) := (Kept.refl _ _).alloc _
  have zw0 : (w.alloc (.cells #[.int .i64 0, .string ⟨#[]⟩, .int .i64 0, .int .i64 0, .string ⟨#[]⟩, .slice none 0 0, .slice none 0 0] 27)).heap.size = w.heap.size + 1 := by simp
  have Z0 := Lib.hid zw0
  clear zw0
  go_enter Tryz.func33, Tryz.ntmps33
  go_wp2_with fail
  have lo1 := h0.lt
  have zz0 := Z0.out
  refine (hT 8 8 rfl σ _ (by decide) (by decide) h0 (by omega)).mono ?_
  clear zz0
  rintro e w1 hr
  cases h_1 : termS f s 8 σ with
  | error r =>
    have hq : Hid (termS (f + 1) s 7 σ = .error r) := Lib.hid (by unfold termS; simp only [show ((7 : Nat) == 5) = false from rfl, show ((7 : Nat) == 13) = false from rfl, show (7 + 1 : Nat) = 8 from rfl, h_1])
    obtain ⟨rfl, k1⟩ := hr.getErr h_1
    clear hr
    go_wp2_with fail
    exact ⟨rfl, RPost.err hq.out ⟨rfl, K0.trans k1⟩⟩
  | ok q1 =>
    obtain ⟨t1, σ1⟩ := q1
    obtain ⟨v, rfl, ⟨tk1, kk1, rfl, at1, ct1⟩, p1, k1⟩ := hr.getOk h_1
    clear hr
    have j_1 := HI.out _ _ _ _ h0.le h_1
    have i_1 := j_1.1
    try unfold Inv at i_1
    try unfold Inv1 at i_1
    obtain ⟨ta1, tn1, tc1, rfl⟩ := at1.slice
    obtain ⟨ma1, mn1, mc1, rfl⟩ := ct1.slice
    unfold tmVal
    have hR_1 := hR0.kept k1 (by show ¬ w.heap.size = b; omega)
    have K1 := K0.trans k1
    have lb1 := p1.lt
    have zz1 := K1.size
    have zk1 := k1.size
    have lR1 := hR_1.lt
    have h0_1 := p1.alloc (.cells #[.int .i64 t1.op, .string t1.name, .int .i64 t1.n, .int .i64 t1.ty.kind, .string t1.ty.name, .slice ta1 tn1 tc1, .slice ma1 mn1 mc1] 27)
    have K0_1 := K1.alloc (.cells #[.int .i64 t1.op, .string t1.name, .int .i64 t1.n, .int .i64 t1.ty.kind, .string t1.ty.name, .slice ta1 tn1 tc1, .slice ma1 mn1 mc1] 27)
    have hxR_1 := hR_1.alloc (.cells #[.int .i64 t1.op, .string t1.name, .int .i64 t1.n, .int .i64 t1.ty.kind, .string t1.ty.name, .slice ta1 tn1 tc1, .slice ma1 mn1 mc1] 27)
    have hLt1_1 : Blk (w1.alloc (.cells #[.int .i64 t1.op, .string t1.name, .int .i64 t1.n, .int .i64 t1.ty.kind, .string t1.ty.name, .slice ta1 tn1 tc1, .slice ma1 mn1 mc1] 27)) w1.heap.size 27 (tmCells t1 (.slice ta1 tn1 tc1) (.slice ma1 mn1 mc1)) := Blk.new w1 27 _
    have axt1_1 := at1.frame (Same.alloc _ (.cells #[.int .i64 t1.op, .string t1.name, .int .i64 t1.n, .int .i64 t1.ty.kind, .string t1.ty.name, .slice ta1 tn1 tc1, .slice ma1 mn1 mc1] 27))
    have cxt1_1 := ct1.frame (Same.alloc _ (.cells #[.int .i64 t1.op, .string t1.name, .int .i64 t1.n, .int .i64 t1.ty.kind, .string t1.ty.name, .slice ta1 tn1 tc1, .slice ma1 mn1 mc1] 27))
    have zw1 : (w1.alloc (.cells #[.int .i64 t1.op, .string t1.name, .int .i64 t1.n, .int .i64 t1.ty.kind, .string t1.ty.name, .slice ta1 tn1 tc1, .slice ma1 mn1 mc1] 27)).heap.size = w1.heap.size + 1 := by simp
    have Z1 := Lib.hid zw1
    clear zw1
    go_wp2_with fail
    have zz0 := Z0.out
    have lo2 := h0_1.lt
    refine (rest_any hT HI.out h0_1 (by omega) (n := 7) (by unfold lvOK; omega) t1 ta1 tn1 tc1 ma1 mn1 mc1 (w.alloc (.cells #[.int .i64 0, .string ⟨#[]⟩, .int .i64 0, .int .i64 0, .string ⟨#[]⟩, .slice none 0 0, .slice none 0 0] 27)).heap.size (by omega) (by have := Z1.out; omega) axt1_1 cxt1_1).mono ?_
    rintro e w2 hr
    cases h_2 : restS (termS f s) s 7 (s.size + 2) t1 σ1 with
    | error r =>
      have hq : Hid (termS (f + 1) s 7 σ = .error r) := Lib.hid (by unfold termS; simp only [show ((7 : Nat) == 5) = false from rfl, show ((7 : Nat) == 13) = false from rfl, show (7 + 1 : Nat) = 8 from rfl, h_1, h_2])
      obtain ⟨rfl, k2⟩ := hr.getErr h_2
      clear hr
      go_wp2_with fail
      exact ⟨rfl, RPost.err hq.out ⟨rfl, K0_1.trans k2⟩⟩
    | ok q2 =>
      obtain ⟨t2, σ2⟩ := q2
      obtain ⟨v, rfl, ⟨tk2, kk2, rfl, at2, ct2⟩, p2, k2⟩ := hr.getOk h_2
      clear hr
      have j_2 := inv_rest HI.out _ j_1.2 h0_1.le h_2
      have i_2 := j_2.1
      try unfold Inv at i_2
      try unfold Inv1 at i_2
      obtain ⟨ta2, tn2, tc2, rfl⟩ := at2.slice
      obtain ⟨ma2, mn2, mc2, rfl⟩ := ct2.slice
      unfold tmVal
      have hR_2 := hxR_1.kept k2 (by show ¬ w.heap.size = b; omega)
      have hLt1_2 := hLt1_1.kept k2 (by show ¬ w1.heap.size = b; omega)
      have at1_2 := axt1_1.frame (Same.of_kept k2 (fun k h e => by omega))
      have ct1_2 := cxt1_1.frame (Same.of_kept k2 (fun k h e => by omega))
      have K2 := K0_1.trans k2
      have lb2 := p2.lt
      have zz2 := K2.size
      have zk2 := k2.size
      have lR2 := hR_2.lt
      have lLt12 := hLt1_2.lt
      have hq : Hid (termS (f + 1) s 7 σ = .ok (t2, σ2)) := Lib.hid (by unfold termS; simp only [show ((7 : Nat) == 5) = false from rfl, show ((7 : Nat) == 13) = false from rfl, show (7 + 1 : Nat) = 8 from rfl, h_1, h_2])
      have g0 : w2.cell? ⟨w.heap.size, 0, none⟩ = some (.int .i64 0) := hR_2.cell 0
      have f0 : w2.frozen? ⟨w.heap.size, 0, none⟩ = false := hR_2.frozen 0
      have g1 : w2.cell? ⟨w.heap.size, 1, none⟩ = some (.string ⟨#[]⟩) := hR_2.cell 1
      have f1 : w2.frozen? ⟨w.heap.size, 1, none⟩ = false := hR_2.frozen 1
      have g2 : w2.cell? ⟨w.heap.size, 2, none⟩ = some (.int .i64 0) := hR_2.cell 2
      have f2 : w2.frozen? ⟨w.heap.size, 2, none⟩ = false := hR_2.frozen 2
      have g3 : w2.cell? ⟨w.heap.size, 3, none⟩ = some (.int .i64 0) := hR_2.cell 3
      have f3 : w2.frozen? ⟨w.heap.size, 3, none⟩ = false := hR_2.frozen 3
      have g4 : w2.cell? ⟨w.heap.size, 4, none⟩ = some (.string ⟨#[]⟩) := hR_2.cell 4
      have f4 : w2.frozen? ⟨w.heap.size, 4, none⟩ = false := hR_2.frozen 4
      have g5 : w2.cell? ⟨w.heap.size, 5, none⟩ = some (.slice none 0 0) := hR_2.cell 5
      have f5 : w2.frozen? ⟨w.heap.size, 5, none⟩ = false := hR_2.frozen 5
      have g6 : w2.cell? ⟨w.heap.size, 6, none⟩ = some (.slice none 0 0) := hR_2.cell 6
      have f6 : w2.frozen? ⟨w.heap.size, 6, none⟩ = false := hR_2.frozen 6
      have yt10 : w2.cell? ⟨w1.heap.size, 0, none⟩ = some (.int .i64 t1.op) := hLt1_2.cell 0
      have yt11 : w2.cell? ⟨w1.heap.size, 1, none⟩ = some (.string t1.name) := hLt1_2.cell 1
      have yt12 : w2.cell? ⟨w1.heap.size, 2, none⟩ = some (.int .i64 t1.n) := hLt1_2.cell 2
      have yt13 : w2.cell? ⟨w1.heap.size, 3, none⟩ = some (.int .i64 t1.ty.kind) := hLt1_2.cell 3
      have yt14 : w2.cell? ⟨w1.heap.size, 4, none⟩ = some (.string t1.ty.name) := hLt1_2.cell 4
      have yt15 : w2.cell? ⟨w1.heap.size, 5, none⟩ = some (.slice ta1 tn1 tc1) := hLt1_2.cell 5
      have yt16 : w2.cell? ⟨w1.heap.size, 6, none⟩ = some (.slice ma1 mn1 mc1) := hLt1_2.cell 6
      have l9 : w.heap.size < w2.heap.size := hR_2.lt
      clear zz0
      go_wp2_with fail
      have zz0 := Z0.out
      refine ret_tm Tryz.results33 hq.out rfl rfl ((r7 hR_2 rfl)) ?_ ?_ ((p7w p2 (by omega) (by omega))) ((k7w K2 (Or.inr (Nat.le_refl _))))
      · exact (at2.frame (same7 (R := w.heap.size) (by omega))).mono (fun k _ h => by omega)
      · exact (ct2.frame (same7 (R := w.heap.size) (by omega))).mono (fun k _ h => by omega)
set_option maxHeartbeats 4000000 in
theorem term_l8 {b : Nat} {s : ByteArray} {f : Nat} {w : World} {σ : PS} (hT : TC b s f (termS f s)) (h : PW w b s σ) (hf : 14 * mu s σ + (14 - 8) < f + 1) :
    Calls Tryz.prog 33 #[.pointer (some ⟨b, 0, none⟩), .int .i64 8] w (RPost b s (VTm w.heap.size) (termS (f + 1) s 8 σ) w) := by
  have hI := inv_term f s
  have HI := Lib.hid hI
  clear hI
  have hlt := h.lt
  have hgl := h.gl.lt
  have h0 := h.alloc (.cells #[.int .i64 0, .string ⟨#[]⟩, .int .i64 0, .int .i64 0, .string ⟨#[]⟩, .slice none 0 0, .slice none 0 0] 27)
  have hR0 : Blk (w.alloc (.cells #[.int .i64 0, .string ⟨#[]⟩, .int .i64 0, .int .i64 0, .string ⟨#[]⟩, .slice none 0 0, .slice none 0 0] 27)) w.heap.size 27 z27 := Blk.new w 27 z27
  have K0 : Kept (· = b) w (w.alloc (.cells #[.int .i64 0, .string ⟨#[]⟩, .int .i64 0, .int .i64 0, .string ⟨#[]⟩, .slice none 0 0, .slice none 0 0] 27)) := (Kept.refl _ _).alloc _
  have zw0 : (w.alloc (.cells #[.int .i64 0, .string ⟨#[]⟩, .int .i64 0, .int .i64 0, .string ⟨#[]⟩, .slice none 0 0, .slice none 0 0] 27)).heap.size = w.heap.size + 1 := by simp
  have Z0 := Lib.hid zw0
  clear zw0
  go_enter Tryz.func33, Tryz.ntmps33
  go_wp2_with fail
  have lo1 := h0.lt
  have zz0 := Z0.out
  refine (hT 9 9 rfl σ _ (by decide) (by decide) h0 (by omega)).mono ?_
  clear zz0
  rintro e w1 hr
  cases h_1 : termS f s 9 σ with
  | error r =>
    have hq : Hid (termS (f + 1) s 8 σ = .error r) := Lib.hid (by unfold termS; simp only [show ((8 : Nat) == 5) = false from rfl, show ((8 : Nat) == 13) = false from rfl, show (8 + 1 : Nat) = 9 from rfl, h_1])
    obtain ⟨rfl, k1⟩ := hr.getErr h_1
    clear hr
    go_wp2_with fail
    exact ⟨rfl, RPost.err hq.out ⟨rfl, K0.trans k1⟩⟩
  | ok q1 =>
    obtain ⟨t1, σ1⟩ := q1
    obtain ⟨v, rfl, ⟨tk1, kk1, rfl, at1, ct1⟩, p1, k1⟩ := hr.getOk h_1
    clear hr
    have j_1 := HI.out _ _ _ _ h0.le h_1
    have i_1 := j_1.1
    try unfold Inv at i_1
    try unfold Inv1 at i_1
    obtain ⟨ta1, tn1, tc1, rfl⟩ := at1.slice
    obtain ⟨ma1, mn1, mc1, rfl⟩ := ct1.slice
    unfold tmVal
    have hR_1 := hR0.kept k1 (by show ¬ w.heap.size = b; omega)
    have K1 := K0.trans k1
    have lb1 := p1.lt
    have zz1 := K1.size
    have zk1 := k1.size
    have lR1 := hR_1.lt
    have h0_1 := p1.alloc (.cells #[.int .i64 t1.op, .string t1.name, .int .i64 t1.n, .int .i64 t1.ty.kind, .string t1.ty.name, .slice ta1 tn1 tc1, .slice ma1 mn1 mc1] 27)
    have K0_1 := K1.alloc (.cells #[.int .i64 t1.op, .string t1.name, .int .i64 t1.n, .int .i64 t1.ty.kind, .string t1.ty.name, .slice ta1 tn1 tc1, .slice ma1 mn1 mc1] 27)
    have hxR_1 := hR_1.alloc (.cells #[.int .i64 t1.op, .string t1.name, .int .i64 t1.n, .int .i64 t1.ty.kind, .string t1.ty.name, .slice ta1 tn1 tc1, .slice ma1 mn1 mc1] 27)
    have hLt1_1 : Blk (w1.alloc (.cells #[.int .i64 t1.op, .string t1.name, .int .i64 t1.n, .int .i64 t1.ty.kind, .string t1.ty.name, .slice ta1 tn1 tc1, .slice ma1 mn1 mc1] 27)) w1.heap.size 27 (tmCells t1 (.slice ta1 tn1 tc1) (.slice ma1 mn1 mc1)) := Blk.new w1 27 _
    have axt1_1 := at1.frame (Same.alloc _ (.cells #[.int .i64 t1.op, .string t1.name, .int .i64 t1.n, .int .i64 t1.ty.kind, .string t1.ty.name, .slice ta1 tn1 tc1, .slice ma1 mn1 mc1] 27))
    have cxt1_1 := ct1.frame (Same.alloc _ (.cells #[.int .i64 t1.op, .string t1.name, .int .i64 t1.n, .int .i64 t1.ty.kind, .string t1.ty.name, .slice ta1 tn1 tc1, .slice ma1 mn1 mc1] 27))
    have zw1 : (w1.alloc (.cells #[.int .i64 t1.op, .string t1.name, .int .i64 t1.n, .int .i64 t1.ty.kind, .string t1.ty.name, .slice ta1 tn1 tc1, .slice ma1 mn1 mc1] 27)).heap.size = w1.heap.size + 1 := by simp
    have Z1 := Lib.hid zw1
    clear zw1
    go_wp2_with fail
    have zz0 := Z0.out
    have lo2 := h0_1.lt
    refine (rest_any hT HI.out h0_1 (by omega) (n := 8) (by unfold lvOK; omega) t1 ta1 tn1 tc1 ma1 mn1 mc1 (w.alloc (.cells #[.int .i64 0, .string ⟨#[]⟩, .int .i64 0, .int .i64 0, .string ⟨#[]⟩, .slice none 0 0, .slice none 0 0] 27)).heap.size (by omega) (by have := Z1.out; omega) axt1_1 cxt1_1).mono ?_
    rintro e w2 hr
    cases h_2 : restS (termS f s) s 8 (s.size + 2) t1 σ1 with
    | error r =>
      have hq : Hid (termS (f + 1) s 8 σ = .error r) := Lib.hid (by unfold termS; simp only [show ((8 : Nat) == 5) = false from rfl, show ((8 : Nat) == 13) = false from rfl, show (8 + 1 : Nat) = 9 from rfl, h_1, h_2])
      obtain ⟨rfl, k2⟩ := hr.getErr h_2
      clear hr
      go_wp2_with fail
      exact ⟨rfl, RPost.err hq.out ⟨rfl, K0_1.trans k2⟩⟩
    | ok q2 =>
      obtain ⟨t2, σ2⟩ := q2
      obtain ⟨v, rfl, ⟨tk2, kk2, rfl, at2, ct2⟩, p2, k2⟩ := hr.getOk h_2
      clear hr
      have j_2 := inv_rest HI.out _ j_1.2 h0_1.le h_2
      have i_2 := j_2.1
      try unfold Inv at i_2
      try unfold Inv1 at i_2
      obtain ⟨ta2, tn2, tc2, rfl⟩ := at2.slice
      obtain ⟨ma2, mn2, mc2, rfl⟩ := ct2.slice
      unfold tmVal
      have hR_2 := hxR_1.kept k2 (by show ¬ w.heap.size = b; omega)
      have hLt1_2 := hLt1_1.kept k2 (by show ¬ w1.heap.size = b; omega)
      have at1_2 := axt1_1.frame (Same.of_kept k2 (fun k h e => by omega))
      have ct1_2 := cxt1_1.frame (Same.of_kept k2 (fun k h e => by omega))
      have K2 := K0_1.trans k2
      have lb2 := p2.lt
      have zz2 := K2.size
      have zk2 := k2.size
      have lR2 := hR_2.lt
      have lLt12 := hLt1_2.lt
      have hq : Hid (termS (f + 1) s 8 σ = .ok (t2, σ2)) := Lib.hid (by unfold termS; simp only [show ((8 : Nat) == 5) = false from rfl, show ((8 : Nat) == 13) = false from rfl, show (8 + 1 : Nat) = 9 from rfl, h_1, h_2])
      have g0 : w2.cell? ⟨w.heap.size, 0, none⟩ = some (.int .i64 0) := hR_2.cell 0
      have f0 : w2.frozen? ⟨w.heap.size, 0, none⟩ = false := hR_2.frozen 0
      have g1 : w2.cell? ⟨w.heap.size, 1, none⟩ = some (.string ⟨#[]⟩) := hR_2.cell 1
      have f1 : w2.frozen? ⟨w.heap.size, 1, none⟩ = false := hR_2.frozen 1
      have g2 : w2.cell? ⟨w.heap.size, 2, none⟩ = some (.int .i64 0) := hR_2.cell 2
      have f2 : w2.frozen? ⟨w.heap.size, 2, none⟩ = false := hR_2.frozen 2
      have g3 : w2.cell? ⟨w.heap.size, 3, none⟩ = some (.int .i64 0) := hR_2.cell 3
      have f3 : w2.frozen? ⟨w.heap.size, 3, none⟩ = false := hR_2.frozen 3
      have g4 : w2.cell? ⟨w.heap.size, 4, none⟩ = some (.string ⟨#[]⟩) := hR_2.cell 4
      have f4 : w2.frozen? ⟨w.heap.size, 4, none⟩ = false := hR_2.frozen 4
      have g5 : w2.cell? ⟨w.heap.size, 5, none⟩ = some (.slice none 0 0) := hR_2.cell 5
      have f5 : w2.frozen? ⟨w.heap.size, 5, none⟩ = false := hR_2.frozen 5
      have g6 : w2.cell? ⟨w.heap.size, 6, none⟩ = some (.slice none 0 0) := hR_2.cell 6
      have f6 : w2.frozen? ⟨w.heap.size, 6, none⟩ = false := hR_2.frozen 6
      have yt10 : w2.cell? ⟨w1.heap.size, 0, none⟩ = some (.int .i64 t1.op) := hLt1_2.cell 0
      have yt11 : w2.cell? ⟨w1.heap.size, 1, none⟩ = some (.string t1.name) := hLt1_2.cell 1
      have yt12 : w2.cell? ⟨w1.heap.size, 2, none⟩ = some (.int .i64 t1.n) := hLt1_2.cell 2
      have yt13 : w2.cell? ⟨w1.heap.size, 3, none⟩ = some (.int .i64 t1.ty.kind) := hLt1_2.cell 3
      have yt14 : w2.cell? ⟨w1.heap.size, 4, none⟩ = some (.string t1.ty.name) := hLt1_2.cell 4
      have yt15 : w2.cell? ⟨w1.heap.size, 5, none⟩ = some (.slice ta1 tn1 tc1) := hLt1_2.cell 5
      have yt16 : w2.cell? ⟨w1.heap.size, 6, none⟩ = some (.slice ma1 mn1 mc1) := hLt1_2.cell 6
      have l9 : w.heap.size < w2.heap.size := hR_2.lt
      clear zz0
      go_wp2_with fail
      have zz0 := Z0.out
      refine ret_tm Tryz.results33 hq.out rfl rfl ((r7 hR_2 rfl)) ?_ ?_ ((p7w p2 (by omega) (by omega))) ((k7w K2 (Or.inr (Nat.le_refl _))))
      · exact (at2.frame (same7 (R := w.heap.size) (by omega))).mono (fun k _ h => by omega)
      · exact (ct2.frame (same7 (R := w.heap.size) (by omega))).mono (fun k _ h => by omega)
set_option maxHeartbeats 4000000 in
theorem term_l9 {b : Nat} {s : ByteArray} {f : Nat} {w : World} {σ : PS} (hT : TC b s f (termS f s)) (h : PW w b s σ) (hf : 14 * mu s σ + (14 - 9) < f + 1) :
    Calls Tryz.prog 33 #[.pointer (some ⟨b, 0, none⟩), .int .i64 9] w (RPost b s (VTm w.heap.size) (termS (f + 1) s 9 σ) w) := by
  have hI := inv_term f s
  have HI := Lib.hid hI
  clear hI
  have hlt := h.lt
  have hgl := h.gl.lt
  have h0 := h.alloc (.cells #[.int .i64 0, .string ⟨#[]⟩, .int .i64 0, .int .i64 0, .string ⟨#[]⟩, .slice none 0 0, .slice none 0 0] 27)
  have hR0 : Blk (w.alloc (.cells #[.int .i64 0, .string ⟨#[]⟩, .int .i64 0, .int .i64 0, .string ⟨#[]⟩, .slice none 0 0, .slice none 0 0] 27)) w.heap.size 27 z27 := Blk.new w 27 z27
  have K0 : Kept (· = b) w (w.alloc (.cells #[.int .i64 0, .string ⟨#[]⟩, .int .i64 0, .int .i64 0, .string ⟨#[]⟩, .slice none 0 0, .slice none 0 0] 27)) := (Kept.refl _ _).alloc _
  have zw0 : (w.alloc (.cells #[.int .i64 0, .string ⟨#[]⟩, .int .i64 0, .int .i64 0, .string ⟨#[]⟩, .slice none 0 0, .slice none 0 0] 27)).heap.size = w.heap.size + 1 := by simp
  have Z0 := Lib.hid zw0
  clear zw0
  go_enter Tryz.func33, Tryz.ntmps33
  go_wp2_with fail
  have lo1 := h0.lt
  have zz0 := Z0.out
  refine (hT 10 10 rfl σ _ (by decide) (by decide) h0 (by omega)).mono ?_
  clear zz0
  rintro e w1 hr
  cases h_1 : termS f s 10 σ with
  | error r =>
    have hq : Hid (termS (f + 1) s 9 σ = .error r) := Lib.hid (by unfold termS; simp only [show ((9 : Nat) == 5) = false from rfl, show ((9 : Nat) == 13) = false from rfl, show (9 + 1 : Nat) = 10 from rfl, h_1])
    obtain ⟨rfl, k1⟩ := hr.getErr h_1
    clear hr
    go_wp2_with fail
    exact ⟨rfl, RPost.err hq.out ⟨rfl, K0.trans k1⟩⟩
  | ok q1 =>
    obtain ⟨t1, σ1⟩ := q1
    obtain ⟨v, rfl, ⟨tk1, kk1, rfl, at1, ct1⟩, p1, k1⟩ := hr.getOk h_1
    clear hr
    have j_1 := HI.out _ _ _ _ h0.le h_1
    have i_1 := j_1.1
    try unfold Inv at i_1
    try unfold Inv1 at i_1
    obtain ⟨ta1, tn1, tc1, rfl⟩ := at1.slice
    obtain ⟨ma1, mn1, mc1, rfl⟩ := ct1.slice
    unfold tmVal
    have hR_1 := hR0.kept k1 (by show ¬ w.heap.size = b; omega)
    have K1 := K0.trans k1
    have lb1 := p1.lt
    have zz1 := K1.size
    have zk1 := k1.size
    have lR1 := hR_1.lt
    have h0_1 := p1.alloc (.cells #[.int .i64 t1.op, .string t1.name, .int .i64 t1.n, .int .i64 t1.ty.kind, .string t1.ty.name, .slice ta1 tn1 tc1, .slice ma1 mn1 mc1] 27)
    have K0_1 := K1.alloc (.cells #[.int .i64 t1.op, .string t1.name, .int .i64 t1.n, .int .i64 t1.ty.kind, .string t1.ty.name, .slice ta1 tn1 tc1, .slice ma1 mn1 mc1] 27)
    have hxR_1 := hR_1.alloc (.cells #[.int .i64 t1.op, .string t1.name, .int .i64 t1.n, .int .i64 t1.ty.kind, .string t1.ty.name, .slice ta1 tn1 tc1, .slice ma1 mn1 mc1] 27)
    have hLt1_1 : Blk (w1.alloc (.cells #[.int .i64 t1.op, .string t1.name, .int .i64 t1.n, .int .i64 t1.ty.kind, .string t1.ty.name, .slice ta1 tn1 tc1, .slice ma1 mn1 mc1] 27)) w1.heap.size 27 (tmCells t1 (.slice ta1 tn1 tc1) (.slice ma1 mn1 mc1)) := Blk.new w1 27 _
    have axt1_1 := at1.frame (Same.alloc _ (.cells #[.int .i64 t1.op, .string t1.name, .int .i64 t1.n, .int .i64 t1.ty.kind, .string t1.ty.name, .slice ta1 tn1 tc1, .slice ma1 mn1 mc1] 27))
    have cxt1_1 := ct1.frame (Same.alloc _ (.cells #[.int .i64 t1.op, .string t1.name, .int .i64 t1.n, .int .i64 t1.ty.kind, .string t1.ty.name, .slice ta1 tn1 tc1, .slice ma1 mn1 mc1] 27))
    have zw1 : (w1.alloc (.cells #[.int .i64 t1.op, .string t1.name, .int .i64 t1.n, .int .i64 t1.ty.kind, .string t1.ty.name, .slice ta1 tn1 tc1, .slice ma1 mn1 mc1] 27)).heap.size = w1.heap.size + 1 := by simp
    have Z1 := Lib.hid zw1
    clear zw1
    go_wp2_with fail
    have zz0 := Z0.out
    have lo2 := h0_1.lt
    refine (rest_any hT HI.out h0_1 (by omega) (n := 9) (by unfold lvOK; omega) t1 ta1 tn1 tc1 ma1 mn1 mc1 (w.alloc (.cells #[.int .i64 0, .string ⟨#[]⟩, .int .i64 0, .int .i64 0, .string ⟨#[]⟩, .slice none 0 0, .slice none 0 0] 27)).heap.size (by omega) (by have := Z1.out; omega) axt1_1 cxt1_1).mono ?_
    rintro e w2 hr
    cases h_2 : restS (termS f s) s 9 (s.size + 2) t1 σ1 with
    | error r =>
      have hq : Hid (termS (f + 1) s 9 σ = .error r) := Lib.hid (by unfold termS; simp only [show ((9 : Nat) == 5) = false from rfl, show ((9 : Nat) == 13) = false from rfl, show (9 + 1 : Nat) = 10 from rfl, h_1, h_2])
      obtain ⟨rfl, k2⟩ := hr.getErr h_2
      clear hr
      go_wp2_with fail
      exact ⟨rfl, RPost.err hq.out ⟨rfl, K0_1.trans k2⟩⟩
    | ok q2 =>
      obtain ⟨t2, σ2⟩ := q2
      obtain ⟨v, rfl, ⟨tk2, kk2, rfl, at2, ct2⟩, p2, k2⟩ := hr.getOk h_2
      clear hr
      have j_2 := inv_rest HI.out _ j_1.2 h0_1.le h_2
      have i_2 := j_2.1
      try unfold Inv at i_2
      try unfold Inv1 at i_2
      obtain ⟨ta2, tn2, tc2, rfl⟩ := at2.slice
      obtain ⟨ma2, mn2, mc2, rfl⟩ := ct2.slice
      unfold tmVal
      have hR_2 := hxR_1.kept k2 (by show ¬ w.heap.size = b; omega)
      have hLt1_2 := hLt1_1.kept k2 (by show ¬ w1.heap.size = b; omega)
      have at1_2 := axt1_1.frame (Same.of_kept k2 (fun k h e => by omega))
      have ct1_2 := cxt1_1.frame (Same.of_kept k2 (fun k h e => by omega))
      have K2 := K0_1.trans k2
      have lb2 := p2.lt
      have zz2 := K2.size
      have zk2 := k2.size
      have lR2 := hR_2.lt
      have lLt12 := hLt1_2.lt
      have hq : Hid (termS (f + 1) s 9 σ = .ok (t2, σ2)) := Lib.hid (by unfold termS; simp only [show ((9 : Nat) == 5) = false from rfl, show ((9 : Nat) == 13) = false from rfl, show (9 + 1 : Nat) = 10 from rfl, h_1, h_2])
      have g0 : w2.cell? ⟨w.heap.size, 0, none⟩ = some (.int .i64 0) := hR_2.cell 0
      have f0 : w2.frozen? ⟨w.heap.size, 0, none⟩ = false := hR_2.frozen 0
      have g1 : w2.cell? ⟨w.heap.size, 1, none⟩ = some (.string ⟨#[]⟩) := hR_2.cell 1
      have f1 : w2.frozen? ⟨w.heap.size, 1, none⟩ = false := hR_2.frozen 1
      have g2 : w2.cell? ⟨w.heap.size, 2, none⟩ = some (.int .i64 0) := hR_2.cell 2
      have f2 : w2.frozen? ⟨w.heap.size, 2, none⟩ = false := hR_2.frozen 2
      have g3 : w2.cell? ⟨w.heap.size, 3, none⟩ = some (.int .i64 0) := hR_2.cell 3
      have f3 : w2.frozen? ⟨w.heap.size, 3, none⟩ = false := hR_2.frozen 3
      have g4 : w2.cell? ⟨w.heap.size, 4, none⟩ = some (.string ⟨#[]⟩) := hR_2.cell 4
      have f4 : w2.frozen? ⟨w.heap.size, 4, none⟩ = false := hR_2.frozen 4
      have g5 : w2.cell? ⟨w.heap.size, 5, none⟩ = some (.slice none 0 0) := hR_2.cell 5
      have f5 : w2.frozen? ⟨w.heap.size, 5, none⟩ = false := hR_2.frozen 5
      have g6 : w2.cell? ⟨w.heap.size, 6, none⟩ = some (.slice none 0 0) := hR_2.cell 6
      have f6 : w2.frozen? ⟨w.heap.size, 6, none⟩ = false := hR_2.frozen 6
      have yt10 : w2.cell? ⟨w1.heap.size, 0, none⟩ = some (.int .i64 t1.op) := hLt1_2.cell 0
      have yt11 : w2.cell? ⟨w1.heap.size, 1, none⟩ = some (.string t1.name) := hLt1_2.cell 1
      have yt12 : w2.cell? ⟨w1.heap.size, 2, none⟩ = some (.int .i64 t1.n) := hLt1_2.cell 2
      have yt13 : w2.cell? ⟨w1.heap.size, 3, none⟩ = some (.int .i64 t1.ty.kind) := hLt1_2.cell 3
      have yt14 : w2.cell? ⟨w1.heap.size, 4, none⟩ = some (.string t1.ty.name) := hLt1_2.cell 4
      have yt15 : w2.cell? ⟨w1.heap.size, 5, none⟩ = some (.slice ta1 tn1 tc1) := hLt1_2.cell 5
      have yt16 : w2.cell? ⟨w1.heap.size, 6, none⟩ = some (.slice ma1 mn1 mc1) := hLt1_2.cell 6
      have l9 : w.heap.size < w2.heap.size := hR_2.lt
      clear zz0
      go_wp2_with fail
      have zz0 := Z0.out
      refine ret_tm Tryz.results33 hq.out rfl rfl ((r7 hR_2 rfl)) ?_ ?_ ((p7w p2 (by omega) (by omega))) ((k7w K2 (Or.inr (Nat.le_refl _))))
      · exact (at2.frame (same7 (R := w.heap.size) (by omega))).mono (fun k _ h => by omega)
      · exact (ct2.frame (same7 (R := w.heap.size) (by omega))).mono (fun k _ h => by omega)
set_option maxHeartbeats 4000000 in
theorem term_l10 {b : Nat} {s : ByteArray} {f : Nat} {w : World} {σ : PS} (hT : TC b s f (termS f s)) (h : PW w b s σ) (hf : 14 * mu s σ + (14 - 10) < f + 1) :
    Calls Tryz.prog 33 #[.pointer (some ⟨b, 0, none⟩), .int .i64 10] w (RPost b s (VTm w.heap.size) (termS (f + 1) s 10 σ) w) := by
  have hI := inv_term f s
  have HI := Lib.hid hI
  clear hI
  have hlt := h.lt
  have hgl := h.gl.lt
  have h0 := h.alloc (.cells #[.int .i64 0, .string ⟨#[]⟩, .int .i64 0, .int .i64 0, .string ⟨#[]⟩, .slice none 0 0, .slice none 0 0] 27)
  have hR0 : Blk (w.alloc (.cells #[.int .i64 0, .string ⟨#[]⟩, .int .i64 0, .int .i64 0, .string ⟨#[]⟩, .slice none 0 0, .slice none 0 0] 27)) w.heap.size 27 z27 := Blk.new w 27 z27
  have K0 : Kept (· = b) w (w.alloc (.cells #[.int .i64 0, .string ⟨#[]⟩, .int .i64 0, .int .i64 0, .string ⟨#[]⟩, .slice none 0 0, .slice none 0 0] 27)) := (Kept.refl _ _).alloc _
  have zw0 : (w.alloc (.cells #[.int .i64 0, .string ⟨#[]⟩, .int .i64 0, .int .i64 0, .string ⟨#[]⟩, .slice none 0 0, .slice none 0 0] 27)).heap.size = w.heap.size + 1 := by simp
  have Z0 := Lib.hid zw0
  clear zw0
  go_enter Tryz.func33, Tryz.ntmps33
  go_wp2_with fail
  have lo1 := h0.lt
  have zz0 := Z0.out
  refine (hT 11 11 rfl σ _ (by decide) (by decide) h0 (by omega)).mono ?_
  clear zz0
  rintro e w1 hr
  cases h_1 : termS f s 11 σ with
  | error r =>
    have hq : Hid (termS (f + 1) s 10 σ = .error r) := Lib.hid (by unfold termS; simp only [show ((10 : Nat) == 5) = false from rfl, show ((10 : Nat) == 13) = false from rfl, show (10 + 1 : Nat) = 11 from rfl, h_1])
    obtain ⟨rfl, k1⟩ := hr.getErr h_1
    clear hr
    go_wp2_with fail
    exact ⟨rfl, RPost.err hq.out ⟨rfl, K0.trans k1⟩⟩
  | ok q1 =>
    obtain ⟨t1, σ1⟩ := q1
    obtain ⟨v, rfl, ⟨tk1, kk1, rfl, at1, ct1⟩, p1, k1⟩ := hr.getOk h_1
    clear hr
    have j_1 := HI.out _ _ _ _ h0.le h_1
    have i_1 := j_1.1
    try unfold Inv at i_1
    try unfold Inv1 at i_1
    obtain ⟨ta1, tn1, tc1, rfl⟩ := at1.slice
    obtain ⟨ma1, mn1, mc1, rfl⟩ := ct1.slice
    unfold tmVal
    have hR_1 := hR0.kept k1 (by show ¬ w.heap.size = b; omega)
    have K1 := K0.trans k1
    have lb1 := p1.lt
    have zz1 := K1.size
    have zk1 := k1.size
    have lR1 := hR_1.lt
    have h0_1 := p1.alloc (.cells #[.int .i64 t1.op, .string t1.name, .int .i64 t1.n, .int .i64 t1.ty.kind, .string t1.ty.name, .slice ta1 tn1 tc1, .slice ma1 mn1 mc1] 27)
    have K0_1 := K1.alloc (.cells #[.int .i64 t1.op, .string t1.name, .int .i64 t1.n, .int .i64 t1.ty.kind, .string t1.ty.name, .slice ta1 tn1 tc1, .slice ma1 mn1 mc1] 27)
    have hxR_1 := hR_1.alloc (.cells #[.int .i64 t1.op, .string t1.name, .int .i64 t1.n, .int .i64 t1.ty.kind, .string t1.ty.name, .slice ta1 tn1 tc1, .slice ma1 mn1 mc1] 27)
    have hLt1_1 : Blk (w1.alloc (.cells #[.int .i64 t1.op, .string t1.name, .int .i64 t1.n, .int .i64 t1.ty.kind, .string t1.ty.name, .slice ta1 tn1 tc1, .slice ma1 mn1 mc1] 27)) w1.heap.size 27 (tmCells t1 (.slice ta1 tn1 tc1) (.slice ma1 mn1 mc1)) := Blk.new w1 27 _
    have axt1_1 := at1.frame (Same.alloc _ (.cells #[.int .i64 t1.op, .string t1.name, .int .i64 t1.n, .int .i64 t1.ty.kind, .string t1.ty.name, .slice ta1 tn1 tc1, .slice ma1 mn1 mc1] 27))
    have cxt1_1 := ct1.frame (Same.alloc _ (.cells #[.int .i64 t1.op, .string t1.name, .int .i64 t1.n, .int .i64 t1.ty.kind, .string t1.ty.name, .slice ta1 tn1 tc1, .slice ma1 mn1 mc1] 27))
    have zw1 : (w1.alloc (.cells #[.int .i64 t1.op, .string t1.name, .int .i64 t1.n, .int .i64 t1.ty.kind, .string t1.ty.name, .slice ta1 tn1 tc1, .slice ma1 mn1 mc1] 27)).heap.size = w1.heap.size + 1 := by simp
    have Z1 := Lib.hid zw1
    clear zw1
    go_wp2_with fail
    have zz0 := Z0.out
    have lo2 := h0_1.lt
    refine (rest_any hT HI.out h0_1 (by omega) (n := 10) (by unfold lvOK; omega) t1 ta1 tn1 tc1 ma1 mn1 mc1 (w.alloc (.cells #[.int .i64 0, .string ⟨#[]⟩, .int .i64 0, .int .i64 0, .string ⟨#[]⟩, .slice none 0 0, .slice none 0 0] 27)).heap.size (by omega) (by have := Z1.out; omega) axt1_1 cxt1_1).mono ?_
    rintro e w2 hr
    cases h_2 : restS (termS f s) s 10 (s.size + 2) t1 σ1 with
    | error r =>
      have hq : Hid (termS (f + 1) s 10 σ = .error r) := Lib.hid (by unfold termS; simp only [show ((10 : Nat) == 5) = false from rfl, show ((10 : Nat) == 13) = false from rfl, show (10 + 1 : Nat) = 11 from rfl, h_1, h_2])
      obtain ⟨rfl, k2⟩ := hr.getErr h_2
      clear hr
      go_wp2_with fail
      exact ⟨rfl, RPost.err hq.out ⟨rfl, K0_1.trans k2⟩⟩
    | ok q2 =>
      obtain ⟨t2, σ2⟩ := q2
      obtain ⟨v, rfl, ⟨tk2, kk2, rfl, at2, ct2⟩, p2, k2⟩ := hr.getOk h_2
      clear hr
      have j_2 := inv_rest HI.out _ j_1.2 h0_1.le h_2
      have i_2 := j_2.1
      try unfold Inv at i_2
      try unfold Inv1 at i_2
      obtain ⟨ta2, tn2, tc2, rfl⟩ := at2.slice
      obtain ⟨ma2, mn2, mc2, rfl⟩ := ct2.slice
      unfold tmVal
      have hR_2 := hxR_1.kept k2 (by show ¬ w.heap.size = b; omega)
      have hLt1_2 := hLt1_1.kept k2 (by show ¬ w1.heap.size = b; omega)
      have at1_2 := axt1_1.frame (Same.of_kept k2 (fun k h e => by omega))
      have ct1_2 := cxt1_1.frame (Same.of_kept k2 (fun k h e => by omega))
      have K2 := K0_1.trans k2
      have lb2 := p2.lt
      have zz2 := K2.size
      have zk2 := k2.size
      have lR2 := hR_2.lt
      have lLt12 := hLt1_2.lt
      have hq : Hid (termS (f + 1) s 10 σ = .ok (t2, σ2)) := Lib.hid (by unfold termS; simp only [show ((10 : Nat) == 5) = false from rfl, show ((10 : Nat) == 13) = false from rfl, show (10 + 1 : Nat) = 11 from rfl, h_1, h_2])
      have g0 : w2.cell? ⟨w.heap.size, 0, none⟩ = some (.int .i64 0) := hR_2.cell 0
      have f0 : w2.frozen? ⟨w.heap.size, 0, none⟩ = false := hR_2.frozen 0
      have g1 : w2.cell? ⟨w.heap.size, 1, none⟩ = some (.string ⟨#[]⟩) := hR_2.cell 1
      have f1 : w2.frozen? ⟨w.heap.size, 1, none⟩ = false := hR_2.frozen 1
      have g2 : w2.cell? ⟨w.heap.size, 2, none⟩ = some (.int .i64 0) := hR_2.cell 2
      have f2 : w2.frozen? ⟨w.heap.size, 2, none⟩ = false := hR_2.frozen 2
      have g3 : w2.cell? ⟨w.heap.size, 3, none⟩ = some (.int .i64 0) := hR_2.cell 3
      have f3 : w2.frozen? ⟨w.heap.size, 3, none⟩ = false := hR_2.frozen 3
      have g4 : w2.cell? ⟨w.heap.size, 4, none⟩ = some (.string ⟨#[]⟩) := hR_2.cell 4
      have f4 : w2.frozen? ⟨w.heap.size, 4, none⟩ = false := hR_2.frozen 4
      have g5 : w2.cell? ⟨w.heap.size, 5, none⟩ = some (.slice none 0 0) := hR_2.cell 5
      have f5 : w2.frozen? ⟨w.heap.size, 5, none⟩ = false := hR_2.frozen 5
      have g6 : w2.cell? ⟨w.heap.size, 6, none⟩ = some (.slice none 0 0) := hR_2.cell 6
      have f6 : w2.frozen? ⟨w.heap.size, 6, none⟩ = false := hR_2.frozen 6
      have yt10 : w2.cell? ⟨w1.heap.size, 0, none⟩ = some (.int .i64 t1.op) := hLt1_2.cell 0
      have yt11 : w2.cell? ⟨w1.heap.size, 1, none⟩ = some (.string t1.name) := hLt1_2.cell 1
      have yt12 : w2.cell? ⟨w1.heap.size, 2, none⟩ = some (.int .i64 t1.n) := hLt1_2.cell 2
      have yt13 : w2.cell? ⟨w1.heap.size, 3, none⟩ = some (.int .i64 t1.ty.kind) := hLt1_2.cell 3
      have yt14 : w2.cell? ⟨w1.heap.size, 4, none⟩ = some (.string t1.ty.name) := hLt1_2.cell 4
      have yt15 : w2.cell? ⟨w1.heap.size, 5, none⟩ = some (.slice ta1 tn1 tc1) := hLt1_2.cell 5
      have yt16 : w2.cell? ⟨w1.heap.size, 6, none⟩ = some (.slice ma1 mn1 mc1) := hLt1_2.cell 6
      have l9 : w.heap.size < w2.heap.size := hR_2.lt
      clear zz0
      go_wp2_with fail
      have zz0 := Z0.out
      refine ret_tm Tryz.results33 hq.out rfl rfl ((r7 hR_2 rfl)) ?_ ?_ ((p7w p2 (by omega) (by omega))) ((k7w K2 (Or.inr (Nat.le_refl _))))
      · exact (at2.frame (same7 (R := w.heap.size) (by omega))).mono (fun k _ h => by omega)
      · exact (ct2.frame (same7 (R := w.heap.size) (by omega))).mono (fun k _ h => by omega)
set_option maxHeartbeats 4000000 in
theorem term_l11 {b : Nat} {s : ByteArray} {f : Nat} {w : World} {σ : PS} (hT : TC b s f (termS f s)) (h : PW w b s σ) (hf : 14 * mu s σ + (14 - 11) < f + 1) :
    Calls Tryz.prog 33 #[.pointer (some ⟨b, 0, none⟩), .int .i64 11] w (RPost b s (VTm w.heap.size) (termS (f + 1) s 11 σ) w) := by
  have hI := inv_term f s
  have HI := Lib.hid hI
  clear hI
  have hlt := h.lt
  have hgl := h.gl.lt
  have h0 := h.alloc (.cells #[.int .i64 0, .string ⟨#[]⟩, .int .i64 0, .int .i64 0, .string ⟨#[]⟩, .slice none 0 0, .slice none 0 0] 27)
  have hR0 : Blk (w.alloc (.cells #[.int .i64 0, .string ⟨#[]⟩, .int .i64 0, .int .i64 0, .string ⟨#[]⟩, .slice none 0 0, .slice none 0 0] 27)) w.heap.size 27 z27 := Blk.new w 27 z27
  have K0 : Kept (· = b) w (w.alloc (.cells #[.int .i64 0, .string ⟨#[]⟩, .int .i64 0, .int .i64 0, .string ⟨#[]⟩, .slice none 0 0, .slice none 0 0] 27)) := (Kept.refl _ _).alloc _
  have zw0 : (w.alloc (.cells #[.int .i64 0, .string ⟨#[]⟩, .int .i64 0, .int .i64 0, .string ⟨#[]⟩, .slice none 0 0, .slice none 0 0] 27)).heap.size = w.heap.size + 1 := by simp
  have Z0 := Lib.hid zw0
  clear zw0
  go_enter Tryz.func33, Tryz.ntmps33
  go_wp2_with fail
  have lo1 := h0.lt
  have zz0 := Z0.out
  refine (hT 12 12 rfl σ _ (by decide) (by decide) h0 (by omega)).mono ?_
  clear zz0
  rintro e w1 hr
  cases h_1 : termS f s 12 σ with
  | error r =>
    have hq : Hid (termS (f + 1) s 11 σ = .error r) := Lib.hid (by unfold termS; simp only [show ((11 : Nat) == 5) = false from rfl, show ((11 : Nat) == 13) = false from rfl, show (11 + 1 : Nat) = 12 from rfl, h_1])
    obtain ⟨rfl, k1⟩ := hr.getErr h_1
    clear hr
    go_wp2_with fail
    exact ⟨rfl, RPost.err hq.out ⟨rfl, K0.trans k1⟩⟩
  | ok q1 =>
    obtain ⟨t1, σ1⟩ := q1
    obtain ⟨v, rfl, ⟨tk1, kk1, rfl, at1, ct1⟩, p1, k1⟩ := hr.getOk h_1
    clear hr
    have j_1 := HI.out _ _ _ _ h0.le h_1
    have i_1 := j_1.1
    try unfold Inv at i_1
    try unfold Inv1 at i_1
    obtain ⟨ta1, tn1, tc1, rfl⟩ := at1.slice
    obtain ⟨ma1, mn1, mc1, rfl⟩ := ct1.slice
    unfold tmVal
    have hR_1 := hR0.kept k1 (by show ¬ w.heap.size = b; omega)
    have K1 := K0.trans k1
    have lb1 := p1.lt
    have zz1 := K1.size
    have zk1 := k1.size
    have lR1 := hR_1.lt
    have h0_1 := p1.alloc (.cells #[.int .i64 t1.op, .string t1.name, .int .i64 t1.n, .int .i64 t1.ty.kind, .string t1.ty.name, .slice ta1 tn1 tc1, .slice ma1 mn1 mc1] 27)
    have K0_1 := K1.alloc (.cells #[.int .i64 t1.op, .string t1.name, .int .i64 t1.n, .int .i64 t1.ty.kind, .string t1.ty.name, .slice ta1 tn1 tc1, .slice ma1 mn1 mc1] 27)
    have hxR_1 := hR_1.alloc (.cells #[.int .i64 t1.op, .string t1.name, .int .i64 t1.n, .int .i64 t1.ty.kind, .string t1.ty.name, .slice ta1 tn1 tc1, .slice ma1 mn1 mc1] 27)
    have hLt1_1 : Blk (w1.alloc (.cells #[.int .i64 t1.op, .string t1.name, .int .i64 t1.n, .int .i64 t1.ty.kind, .string t1.ty.name, .slice ta1 tn1 tc1, .slice ma1 mn1 mc1] 27)) w1.heap.size 27 (tmCells t1 (.slice ta1 tn1 tc1) (.slice ma1 mn1 mc1)) := Blk.new w1 27 _
    have axt1_1 := at1.frame (Same.alloc _ (.cells #[.int .i64 t1.op, .string t1.name, .int .i64 t1.n, .int .i64 t1.ty.kind, .string t1.ty.name, .slice ta1 tn1 tc1, .slice ma1 mn1 mc1] 27))
    have cxt1_1 := ct1.frame (Same.alloc _ (.cells #[.int .i64 t1.op, .string t1.name, .int .i64 t1.n, .int .i64 t1.ty.kind, .string t1.ty.name, .slice ta1 tn1 tc1, .slice ma1 mn1 mc1] 27))
    have zw1 : (w1.alloc (.cells #[.int .i64 t1.op, .string t1.name, .int .i64 t1.n, .int .i64 t1.ty.kind, .string t1.ty.name, .slice ta1 tn1 tc1, .slice ma1 mn1 mc1] 27)).heap.size = w1.heap.size + 1 := by simp
    have Z1 := Lib.hid zw1
    clear zw1
    go_wp2_with fail
    have zz0 := Z0.out
    have lo2 := h0_1.lt
    refine (rest_any hT HI.out h0_1 (by omega) (n := 11) (by unfold lvOK; omega) t1 ta1 tn1 tc1 ma1 mn1 mc1 (w.alloc (.cells #[.int .i64 0, .string ⟨#[]⟩, .int .i64 0, .int .i64 0, .string ⟨#[]⟩, .slice none 0 0, .slice none 0 0] 27)).heap.size (by omega) (by have := Z1.out; omega) axt1_1 cxt1_1).mono ?_
    rintro e w2 hr
    cases h_2 : restS (termS f s) s 11 (s.size + 2) t1 σ1 with
    | error r =>
      have hq : Hid (termS (f + 1) s 11 σ = .error r) := Lib.hid (by unfold termS; simp only [show ((11 : Nat) == 5) = false from rfl, show ((11 : Nat) == 13) = false from rfl, show (11 + 1 : Nat) = 12 from rfl, h_1, h_2])
      obtain ⟨rfl, k2⟩ := hr.getErr h_2
      clear hr
      go_wp2_with fail
      exact ⟨rfl, RPost.err hq.out ⟨rfl, K0_1.trans k2⟩⟩
    | ok q2 =>
      obtain ⟨t2, σ2⟩ := q2
      obtain ⟨v, rfl, ⟨tk2, kk2, rfl, at2, ct2⟩, p2, k2⟩ := hr.getOk h_2
      clear hr
      have j_2 := inv_rest HI.out _ j_1.2 h0_1.le h_2
      have i_2 := j_2.1
      try unfold Inv at i_2
      try unfold Inv1 at i_2
      obtain ⟨ta2, tn2, tc2, rfl⟩ := at2.slice
      obtain ⟨ma2, mn2, mc2, rfl⟩ := ct2.slice
      unfold tmVal
      have hR_2 := hxR_1.kept k2 (by show ¬ w.heap.size = b; omega)
      have hLt1_2 := hLt1_1.kept k2 (by show ¬ w1.heap.size = b; omega)
      have at1_2 := axt1_1.frame (Same.of_kept k2 (fun k h e => by omega))
      have ct1_2 := cxt1_1.frame (Same.of_kept k2 (fun k h e => by omega))
      have K2 := K0_1.trans k2
      have lb2 := p2.lt
      have zz2 := K2.size
      have zk2 := k2.size
      have lR2 := hR_2.lt
      have lLt12 := hLt1_2.lt
      have hq : Hid (termS (f + 1) s 11 σ = .ok (t2, σ2)) := Lib.hid (by unfold termS; simp only [show ((11 : Nat) == 5) = false from rfl, show ((11 : Nat) == 13) = false from rfl, show (11 + 1 : Nat) = 12 from rfl, h_1, h_2])
      have g0 : w2.cell? ⟨w.heap.size, 0, none⟩ = some (.int .i64 0) := hR_2.cell 0
      have f0 : w2.frozen? ⟨w.heap.size, 0, none⟩ = false := hR_2.frozen 0
      have g1 : w2.cell? ⟨w.heap.size, 1, none⟩ = some (.string ⟨#[]⟩) := hR_2.cell 1
      have f1 : w2.frozen? ⟨w.heap.size, 1, none⟩ = false := hR_2.frozen 1
      have g2 : w2.cell? ⟨w.heap.size, 2, none⟩ = some (.int .i64 0) := hR_2.cell 2
      have f2 : w2.frozen? ⟨w.heap.size, 2, none⟩ = false := hR_2.frozen 2
      have g3 : w2.cell? ⟨w.heap.size, 3, none⟩ = some (.int .i64 0) := hR_2.cell 3
      have f3 : w2.frozen? ⟨w.heap.size, 3, none⟩ = false := hR_2.frozen 3
      have g4 : w2.cell? ⟨w.heap.size, 4, none⟩ = some (.string ⟨#[]⟩) := hR_2.cell 4
      have f4 : w2.frozen? ⟨w.heap.size, 4, none⟩ = false := hR_2.frozen 4
      have g5 : w2.cell? ⟨w.heap.size, 5, none⟩ = some (.slice none 0 0) := hR_2.cell 5
      have f5 : w2.frozen? ⟨w.heap.size, 5, none⟩ = false := hR_2.frozen 5
      have g6 : w2.cell? ⟨w.heap.size, 6, none⟩ = some (.slice none 0 0) := hR_2.cell 6
      have f6 : w2.frozen? ⟨w.heap.size, 6, none⟩ = false := hR_2.frozen 6
      have yt10 : w2.cell? ⟨w1.heap.size, 0, none⟩ = some (.int .i64 t1.op) := hLt1_2.cell 0
      have yt11 : w2.cell? ⟨w1.heap.size, 1, none⟩ = some (.string t1.name) := hLt1_2.cell 1
      have yt12 : w2.cell? ⟨w1.heap.size, 2, none⟩ = some (.int .i64 t1.n) := hLt1_2.cell 2
      have yt13 : w2.cell? ⟨w1.heap.size, 3, none⟩ = some (.int .i64 t1.ty.kind) := hLt1_2.cell 3
      have yt14 : w2.cell? ⟨w1.heap.size, 4, none⟩ = some (.string t1.ty.name) := hLt1_2.cell 4
      have yt15 : w2.cell? ⟨w1.heap.size, 5, none⟩ = some (.slice ta1 tn1 tc1) := hLt1_2.cell 5
      have yt16 : w2.cell? ⟨w1.heap.size, 6, none⟩ = some (.slice ma1 mn1 mc1) := hLt1_2.cell 6
      have l9 : w.heap.size < w2.heap.size := hR_2.lt
      clear zz0
      go_wp2_with fail
      have zz0 := Z0.out
      refine ret_tm Tryz.results33 hq.out rfl rfl ((r7 hR_2 rfl)) ?_ ?_ ((p7w p2 (by omega) (by omega))) ((k7w K2 (Or.inr (Nat.le_refl _))))
      · exact (at2.frame (same7 (R := w.heap.size) (by omega))).mono (fun k _ h => by omega)
      · exact (ct2.frame (same7 (R := w.heap.size) (by omega))).mono (fun k _ h => by omega)
set_option maxHeartbeats 4000000 in
theorem term_l12 {b : Nat} {s : ByteArray} {f : Nat} {w : World} {σ : PS} (hT : TC b s f (termS f s)) (h : PW w b s σ) (hf : 14 * mu s σ + (14 - 12) < f + 1) :
    Calls Tryz.prog 33 #[.pointer (some ⟨b, 0, none⟩), .int .i64 12] w (RPost b s (VTm w.heap.size) (termS (f + 1) s 12 σ) w) := by
  have hI := inv_term f s
  have HI := Lib.hid hI
  clear hI
  have hlt := h.lt
  have hgl := h.gl.lt
  have h0 := h.alloc (.cells #[.int .i64 0, .string ⟨#[]⟩, .int .i64 0, .int .i64 0, .string ⟨#[]⟩, .slice none 0 0, .slice none 0 0] 27)
  have hR0 : Blk (w.alloc (.cells #[.int .i64 0, .string ⟨#[]⟩, .int .i64 0, .int .i64 0, .string ⟨#[]⟩, .slice none 0 0, .slice none 0 0] 27)) w.heap.size 27 z27 := Blk.new w 27 z27
  have K0 : Kept (· = b) w (w.alloc (.cells #[.int .i64 0, .string ⟨#[]⟩, .int .i64 0, .int .i64 0, .string ⟨#[]⟩, .slice none 0 0, .slice none 0 0] 27)) := (Kept.refl _ _).alloc _
  have zw0 : (w.alloc (.cells #[.int .i64 0, .string ⟨#[]⟩, .int .i64 0, .int .i64 0, .string ⟨#[]⟩, .slice none 0 0, .slice none 0 0] 27)).heap.size = w.heap.size + 1 := by simp
  have Z0 := Lib.hid zw0
  clear zw0
  go_enter Tryz.func33, Tryz.ntmps33
  go_wp2_with fail
  have lo1 := h0.lt
  have zz0 := Z0.out
  refine (hT 13 13 rfl σ _ (by decide) (by decide) h0 (by omega)).mono ?_
  clear zz0
  rintro e w1 hr
  cases h_1 : termS f s 13 σ with
  | error r =>
    have hq : Hid (termS (f + 1) s 12 σ = .error r) := Lib.hid (by unfold termS; simp only [show ((12 : Nat) == 5) = false from rfl, show ((12 : Nat) == 13) = false from rfl, show (12 + 1 : Nat) = 13 from rfl, h_1])
    obtain ⟨rfl, k1⟩ := hr.getErr h_1
    clear hr
    go_wp2_with fail
    exact ⟨rfl, RPost.err hq.out ⟨rfl, K0.trans k1⟩⟩
  | ok q1 =>
    obtain ⟨t1, σ1⟩ := q1
    obtain ⟨v, rfl, ⟨tk1, kk1, rfl, at1, ct1⟩, p1, k1⟩ := hr.getOk h_1
    clear hr
    have j_1 := HI.out _ _ _ _ h0.le h_1
    have i_1 := j_1.1
    try unfold Inv at i_1
    try unfold Inv1 at i_1
    obtain ⟨ta1, tn1, tc1, rfl⟩ := at1.slice
    obtain ⟨ma1, mn1, mc1, rfl⟩ := ct1.slice
    unfold tmVal
    have hR_1 := hR0.kept k1 (by show ¬ w.heap.size = b; omega)
    have K1 := K0.trans k1
    have lb1 := p1.lt
    have zz1 := K1.size
    have zk1 := k1.size
    have lR1 := hR_1.lt
    have h0_1 := p1.alloc (.cells #[.int .i64 t1.op, .string t1.name, .int .i64 t1.n, .int .i64 t1.ty.kind, .string t1.ty.name, .slice ta1 tn1 tc1, .slice ma1 mn1 mc1] 27)
    have K0_1 := K1.alloc (.cells #[.int .i64 t1.op, .string t1.name, .int .i64 t1.n, .int .i64 t1.ty.kind, .string t1.ty.name, .slice ta1 tn1 tc1, .slice ma1 mn1 mc1] 27)
    have hxR_1 := hR_1.alloc (.cells #[.int .i64 t1.op, .string t1.name, .int .i64 t1.n, .int .i64 t1.ty.kind, .string t1.ty.name, .slice ta1 tn1 tc1, .slice ma1 mn1 mc1] 27)
    have hLt1_1 : Blk (w1.alloc (.cells #[.int .i64 t1.op, .string t1.name, .int .i64 t1.n, .int .i64 t1.ty.kind, .string t1.ty.name, .slice ta1 tn1 tc1, .slice ma1 mn1 mc1] 27)) w1.heap.size 27 (tmCells t1 (.slice ta1 tn1 tc1) (.slice ma1 mn1 mc1)) := Blk.new w1 27 _
    have axt1_1 := at1.frame (Same.alloc _ (.cells #[.int .i64 t1.op, .string t1.name, .int .i64 t1.n, .int .i64 t1.ty.kind, .string t1.ty.name, .slice ta1 tn1 tc1, .slice ma1 mn1 mc1] 27))
    have cxt1_1 := ct1.frame (Same.alloc _ (.cells #[.int .i64 t1.op, .string t1.name, .int .i64 t1.n, .int .i64 t1.ty.kind, .string t1.ty.name, .slice ta1 tn1 tc1, .slice ma1 mn1 mc1] 27))
    have zw1 : (w1.alloc (.cells #[.int .i64 t1.op, .string t1.name, .int .i64 t1.n, .int .i64 t1.ty.kind, .string t1.ty.name, .slice ta1 tn1 tc1, .slice ma1 mn1 mc1] 27)).heap.size = w1.heap.size + 1 := by simp
    have Z1 := Lib.hid zw1
    clear zw1
    go_wp2_with fail
    have zz0 := Z0.out
    have lo2 := h0_1.lt
    refine (rest_any hT HI.out h0_1 (by omega) (n := 12) (by unfold lvOK; omega) t1 ta1 tn1 tc1 ma1 mn1 mc1 (w.alloc (.cells #[.int .i64 0, .string ⟨#[]⟩, .int .i64 0, .int .i64 0, .string ⟨#[]⟩, .slice none 0 0, .slice none 0 0] 27)).heap.size (by omega) (by have := Z1.out; omega) axt1_1 cxt1_1).mono ?_
    rintro e w2 hr
    cases h_2 : restS (termS f s) s 12 (s.size + 2) t1 σ1 with
    | error r =>
      have hq : Hid (termS (f + 1) s 12 σ = .error r) := Lib.hid (by unfold termS; simp only [show ((12 : Nat) == 5) = false from rfl, show ((12 : Nat) == 13) = false from rfl, show (12 + 1 : Nat) = 13 from rfl, h_1, h_2])
      obtain ⟨rfl, k2⟩ := hr.getErr h_2
      clear hr
      go_wp2_with fail
      exact ⟨rfl, RPost.err hq.out ⟨rfl, K0_1.trans k2⟩⟩
    | ok q2 =>
      obtain ⟨t2, σ2⟩ := q2
      obtain ⟨v, rfl, ⟨tk2, kk2, rfl, at2, ct2⟩, p2, k2⟩ := hr.getOk h_2
      clear hr
      have j_2 := inv_rest HI.out _ j_1.2 h0_1.le h_2
      have i_2 := j_2.1
      try unfold Inv at i_2
      try unfold Inv1 at i_2
      obtain ⟨ta2, tn2, tc2, rfl⟩ := at2.slice
      obtain ⟨ma2, mn2, mc2, rfl⟩ := ct2.slice
      unfold tmVal
      have hR_2 := hxR_1.kept k2 (by show ¬ w.heap.size = b; omega)
      have hLt1_2 := hLt1_1.kept k2 (by show ¬ w1.heap.size = b; omega)
      have at1_2 := axt1_1.frame (Same.of_kept k2 (fun k h e => by omega))
      have ct1_2 := cxt1_1.frame (Same.of_kept k2 (fun k h e => by omega))
      have K2 := K0_1.trans k2
      have lb2 := p2.lt
      have zz2 := K2.size
      have zk2 := k2.size
      have lR2 := hR_2.lt
      have lLt12 := hLt1_2.lt
      have hq : Hid (termS (f + 1) s 12 σ = .ok (t2, σ2)) := Lib.hid (by unfold termS; simp only [show ((12 : Nat) == 5) = false from rfl, show ((12 : Nat) == 13) = false from rfl, show (12 + 1 : Nat) = 13 from rfl, h_1, h_2])
      have g0 : w2.cell? ⟨w.heap.size, 0, none⟩ = some (.int .i64 0) := hR_2.cell 0
      have f0 : w2.frozen? ⟨w.heap.size, 0, none⟩ = false := hR_2.frozen 0
      have g1 : w2.cell? ⟨w.heap.size, 1, none⟩ = some (.string ⟨#[]⟩) := hR_2.cell 1
      have f1 : w2.frozen? ⟨w.heap.size, 1, none⟩ = false := hR_2.frozen 1
      have g2 : w2.cell? ⟨w.heap.size, 2, none⟩ = some (.int .i64 0) := hR_2.cell 2
      have f2 : w2.frozen? ⟨w.heap.size, 2, none⟩ = false := hR_2.frozen 2
      have g3 : w2.cell? ⟨w.heap.size, 3, none⟩ = some (.int .i64 0) := hR_2.cell 3
      have f3 : w2.frozen? ⟨w.heap.size, 3, none⟩ = false := hR_2.frozen 3
      have g4 : w2.cell? ⟨w.heap.size, 4, none⟩ = some (.string ⟨#[]⟩) := hR_2.cell 4
      have f4 : w2.frozen? ⟨w.heap.size, 4, none⟩ = false := hR_2.frozen 4
      have g5 : w2.cell? ⟨w.heap.size, 5, none⟩ = some (.slice none 0 0) := hR_2.cell 5
      have f5 : w2.frozen? ⟨w.heap.size, 5, none⟩ = false := hR_2.frozen 5
      have g6 : w2.cell? ⟨w.heap.size, 6, none⟩ = some (.slice none 0 0) := hR_2.cell 6
      have f6 : w2.frozen? ⟨w.heap.size, 6, none⟩ = false := hR_2.frozen 6
      have yt10 : w2.cell? ⟨w1.heap.size, 0, none⟩ = some (.int .i64 t1.op) := hLt1_2.cell 0
      have yt11 : w2.cell? ⟨w1.heap.size, 1, none⟩ = some (.string t1.name) := hLt1_2.cell 1
      have yt12 : w2.cell? ⟨w1.heap.size, 2, none⟩ = some (.int .i64 t1.n) := hLt1_2.cell 2
      have yt13 : w2.cell? ⟨w1.heap.size, 3, none⟩ = some (.int .i64 t1.ty.kind) := hLt1_2.cell 3
      have yt14 : w2.cell? ⟨w1.heap.size, 4, none⟩ = some (.string t1.ty.name) := hLt1_2.cell 4
      have yt15 : w2.cell? ⟨w1.heap.size, 5, none⟩ = some (.slice ta1 tn1 tc1) := hLt1_2.cell 5
      have yt16 : w2.cell? ⟨w1.heap.size, 6, none⟩ = some (.slice ma1 mn1 mc1) := hLt1_2.cell 6
      have l9 : w.heap.size < w2.heap.size := hR_2.lt
      clear zz0
      go_wp2_with fail
      have zz0 := Z0.out
      refine ret_tm Tryz.results33 hq.out rfl rfl ((r7 hR_2 rfl)) ?_ ?_ ((p7w p2 (by omega) (by omega))) ((k7w K2 (Or.inr (Nat.le_refl _))))
      · exact (at2.frame (same7 (R := w.heap.size) (by omega))).mono (fun k _ h => by omega)
      · exact (ct2.frame (same7 (R := w.heap.size) (by omega))).mono (fun k _ h => by omega)
end Go.Proofs.YtckjlliobebodaaGreatDoor
/- Readers of terms: the walks. Printed by gen_terms2.py. -/
set_option linter.unusedVariables false
set_option linter.unusedSimpArgs false
namespace Go.Proofs.YtckjlliobebodaaGreatDoor
open Go.RowKit
set_option maxHeartbeats 4000000 in
theorem term_at {b : Nat} {s : ByteArray} {f : Nat} {w : World} {σ : PS} (hT : TC b s f (termS f s)) (h : PW w b s σ) (hS : TSm 65536 s (termS f s)) (hf : 14 * mu s σ + (14 - 13) < f + 1) (hi : isS σ kMinus = false) :
    Calls Tryz.prog 33 #[.pointer (some ⟨b, 0, none⟩), .int .i64 13] w (RPost b s (VTm w.heap.size) (termS (f + 1) s 13 σ) w) := by
  have hI := inv_term f s
  have HI := Lib.hid hI
  clear hI
  have HS := Lib.hid hS
  clear hS
  have hlt := h.lt
  have hgl := h.gl.lt
  have h0 := h.alloc (.cells #[.int .i64 0, .string ⟨#[]⟩, .int .i64 0, .int .i64 0, .string ⟨#[]⟩, .slice none 0 0, .slice none 0 0] 27)
  have hR0 : Blk (w.alloc (.cells #[.int .i64 0, .string ⟨#[]⟩, .int .i64 0, .int .i64 0, .string ⟨#[]⟩, .slice none 0 0, .slice none 0 0] 27)) w.heap.size 27 z27 := Blk.new w 27 z27
  have K0 : Kept (· = b) w (w.alloc (.cells #[.int .i64 0, .string ⟨#[]⟩, .int .i64 0, .int .i64 0, .string ⟨#[]⟩, .slice none 0 0, .slice none 0 0] 27)) := (Kept.refl _ _).alloc _
  have zw0 : (w.alloc (.cells #[.int .i64 0, .string ⟨#[]⟩, .int .i64 0, .int .i64 0, .string ⟨#[]⟩, .slice none 0 0, .slice none 0 0] 27)).heap.size = w.heap.size + 1 := by simp
  have Z0 := Lib.hid zw0
  clear zw0
  go_enter Tryz.func33, Tryz.ntmps33
  go_wp2_with fail
  refine (eat_no h0 kMinus hi).mono ?_
  rintro e w' ⟨rfl, rfl⟩
  go_wp2_with fail
  have zz0 := Z0.out
  have lo1 := h0.lt
  refine (atom_any hT HI.out h0 (by omega) HS.out).mono ?_
  rintro e w1 hr
  cases h_1 : atomS (termS f s) s σ with
  | error r =>
    have hq : Hid (termS (f + 1) s 13 σ = .error r) := Lib.hid (by unfold termS; simp only [hi, show ((13 : Nat) == 5) = false from rfl, show ((13 : Nat) == 13) = true from rfl, h_1])
    obtain ⟨rfl, k1⟩ := hr.getErr h_1
    clear hr
    go_wp2_with fail
    exact ⟨rfl, RPost.err hq.out ⟨rfl, K0.trans k1⟩⟩
  | ok q1 =>
    obtain ⟨t1, σ1⟩ := q1
    obtain ⟨v, rfl, ⟨tk1, kk1, rfl, at1, ct1⟩, p1, k1⟩ := hr.getOk h_1
    clear hr
    have j_1 := inv_atom HI.out h0.le h_1
    have i_1 := j_1.1
    try unfold Inv at i_1
    try unfold Inv1 at i_1
    obtain ⟨ta1, tn1, tc1, rfl⟩ := at1.slice
    obtain ⟨ma1, mn1, mc1, rfl⟩ := ct1.slice
    unfold tmVal
    have hR_1 := hR0.kept k1 (by show ¬ w.heap.size = b; omega)
    have K1 := K0.trans k1
    have lb1 := p1.lt
    have zz1 := K1.size
    have zk1 := k1.size
    have lR1 := hR_1.lt
    clear zz0
    go_wp2_with fail
    have zz0 := Z0.out
    have lo2 := p1.lt
    refine (after_any hT HI.out p1 (by omega) t1 ta1 tn1 tc1 ma1 mn1 mc1 (w.alloc (.cells #[.int .i64 0, .string ⟨#[]⟩, .int .i64 0, .int .i64 0, .string ⟨#[]⟩, .slice none 0 0, .slice none 0 0] 27)).heap.size (by omega) (by omega) at1 ct1).mono ?_
    rintro e w2 hr
    cases h_2 : afterS (termS f s) s (s.size + 2) t1 σ1 with
    | error r =>
      have hq : Hid (termS (f + 1) s 13 σ = .error r) := Lib.hid (by unfold termS; simp only [hi, show ((13 : Nat) == 5) = false from rfl, show ((13 : Nat) == 13) = true from rfl, h_1, h_2])
      obtain ⟨rfl, k2⟩ := hr.getErr h_2
      clear hr
      go_wp2_with fail
      exact ⟨rfl, RPost.err hq.out ⟨rfl, K1.trans k2⟩⟩
    | ok q2 =>
      obtain ⟨t2, σ2⟩ := q2
      obtain ⟨v, rfl, ⟨tk2, kk2, rfl, at2, ct2⟩, p2, k2⟩ := hr.getOk h_2
      clear hr
      have j_2 := inv_after HI.out _ j_1.2 p1.le h_2
      have i_2 := j_2.1
      try unfold Inv at i_2
      try unfold Inv1 at i_2
      obtain ⟨ta2, tn2, tc2, rfl⟩ := at2.slice
      obtain ⟨ma2, mn2, mc2, rfl⟩ := ct2.slice
      unfold tmVal
      have hR_2 := hR_1.kept k2 (by show ¬ w.heap.size = b; omega)
      have at1_2 := at1.frame (Same.of_kept k2 (fun k h e => by omega))
      have ct1_2 := ct1.frame (Same.of_kept k2 (fun k h e => by omega))
      have K2 := K1.trans k2
      have lb2 := p2.lt
      have zz2 := K2.size
      have zk2 := k2.size
      have lR2 := hR_2.lt
      have hq : Hid (termS (f + 1) s 13 σ = .ok (t2, σ2)) := Lib.hid (by unfold termS; simp only [hi, show ((13 : Nat) == 5) = false from rfl, show ((13 : Nat) == 13) = true from rfl, h_1, h_2])
      have g0 : w2.cell? ⟨w.heap.size, 0, none⟩ = some (.int .i64 0) := hR_2.cell 0
      have f0 : w2.frozen? ⟨w.heap.size, 0, none⟩ = false := hR_2.frozen 0
      have g1 : w2.cell? ⟨w.heap.size, 1, none⟩ = some (.string ⟨#[]⟩) := hR_2.cell 1
      have f1 : w2.frozen? ⟨w.heap.size, 1, none⟩ = false := hR_2.frozen 1
      have g2 : w2.cell? ⟨w.heap.size, 2, none⟩ = some (.int .i64 0) := hR_2.cell 2
      have f2 : w2.frozen? ⟨w.heap.size, 2, none⟩ = false := hR_2.frozen 2
      have g3 : w2.cell? ⟨w.heap.size, 3, none⟩ = some (.int .i64 0) := hR_2.cell 3
      have f3 : w2.frozen? ⟨w.heap.size, 3, none⟩ = false := hR_2.frozen 3
      have g4 : w2.cell? ⟨w.heap.size, 4, none⟩ = some (.string ⟨#[]⟩) := hR_2.cell 4
      have f4 : w2.frozen? ⟨w.heap.size, 4, none⟩ = false := hR_2.frozen 4
      have g5 : w2.cell? ⟨w.heap.size, 5, none⟩ = some (.slice none 0 0) := hR_2.cell 5
      have f5 : w2.frozen? ⟨w.heap.size, 5, none⟩ = false := hR_2.frozen 5
      have g6 : w2.cell? ⟨w.heap.size, 6, none⟩ = some (.slice none 0 0) := hR_2.cell 6
      have f6 : w2.frozen? ⟨w.heap.size, 6, none⟩ = false := hR_2.frozen 6
      have l9 : w.heap.size < w2.heap.size := hR_2.lt
      clear zz0
      go_wp2_with fail
      have zz0 := Z0.out
      refine ret_tm Tryz.results33 hq.out rfl rfl ((r7 hR_2 rfl)) ?_ ?_ ((p7w p2 (by omega) (by omega))) ((k7w K2 (Or.inr (Nat.le_refl _))))
      · exact (at2.frame (same7 (R := w.heap.size) (by omega))).mono (fun k _ h => by omega)
      · exact (ct2.frame (same7 (R := w.heap.size) (by omega))).mono (fun k _ h => by omega)
theorem term_any {b : Nat} {s : ByteArray} (hs : s.size ≤ 65536) (f : Nat) : TC b s f (termS f s) := by
  induction f with
  | zero => intro n m _ σ w _ _ _ h; omega
  | succ f ih =>
    intro n m hm σ w h1 h13 h hf
    subst hm
    have hS := sm_term hs f
    rcases (show n = 1 ∨ n = 2 ∨ n = 3 ∨ n = 4 ∨ n = 5 ∨ n = 6 ∨ n = 7 ∨ n = 8 ∨ n = 9 ∨ n = 10 ∨ n = 11 ∨ n = 12 ∨ n = 13 by omega) with rfl | rfl | rfl | rfl | rfl | rfl | rfl | rfl | rfl | rfl | rfl | rfl | rfl
    · exact term_l1 ih h hf
    · exact term_l2 ih h hf
    · exact term_l3 ih h hf
    · exact term_l4 ih h hf
    · cases hi : isS σ kNot
      · exact term_six ih h hf hi
      · exact term_not ih h hf hi
    · exact term_l6 ih h hf
    · exact term_l7 ih h hf
    · exact term_l8 ih h hf
    · exact term_l9 ih h hf
    · exact term_l10 ih h hf
    · exact term_l11 ih h hf
    · exact term_l12 ih h hf
    · cases hi : isS σ kMinus
      · exact term_at ih h hS hf hi
      · exact term_neg ih h hf hi
end Go.Proofs.YtckjlliobebodaaGreatDoor
/- A source and the same source with a blank and more behind it: the parser does the same on both until the first one ends. Plain Lean, no program. -/
set_option linter.unusedVariables false
set_option linter.unusedSimpArgs false
namespace Go.Proofs.YtckjlliobebodaaGreatDoor
open Go.RowKit
structure Ext (s s' : ByteArray) : Prop where
  lt : s.size < s'.size
  get : ∀ (p : Nat) (h : p < s.size) (h' : p < s'.size), s'[p] = s[p]
  sep : s'[s.size]'lt = 32
  pre : ∃ m, s'.data.toList = s.data.toList ++ (32 :: m)
theorem Ext.scan {s s' : ByteArray} (h : Ext s s') {P : Int → Bool} (hP : P 32 = false) (p : Nat) (hp : p ≤ s.size) : scan P s' p = scan P s p := by
  generalize hn : s.size - p = n
  induction n generalizing p with
  | zero =>
    have : p = s.size := by omega
    subst this
    rw [scan_end P s _ (Nat.le_refl _), scan_no P s' _ h.lt (by rw [h.sep]; exact hP)]
  | succ n ih =>
    have h1 : p < s.size := by omega
    have h2 : p < s'.size := Nat.lt_trans h1 h.lt
    have e := h.get p h1 h2
    cases hc : P s[p].toNat
    · rw [scan_no P s p h1 hc, scan_no P s' p h2 (by rw [e]; exact hc)]
    · rw [scan_yes P s p h1 hc, scan_yes P s' p h2 (by rw [e]; exact hc), ih (p + 1) (by omega) (by omega)]
theorem Ext.wend {s s' : ByteArray} (h : Ext s s') (p : Nat) (hp : p ≤ s.size) : wend s' p = wend s p := h.scan (by decide) p hp
theorem Ext.skip {s s' : ByteArray} (h : Ext s s') (p : Nat) (hp : p ≤ s.size) (hs : skip s p < s.size) : skip s' p = skip s p := by
  generalize hn : s.size - p = n
  induction n generalizing p with
  | zero =>
    have : p = s.size := by omega
    subst this
    unfold Go.Proofs.YtckjlliobebodaaGreatDoor.skip at hs
    rw [scan_end _ s _ (Nat.le_refl _)] at hs; omega
  | succ n ih =>
    have h1 : p < s.size := by omega
    have h2 : p < s'.size := Nat.lt_trans h1 h.lt
    have e := h.get p h1 h2
    unfold Go.Proofs.YtckjlliobebodaaGreatDoor.skip at *
    cases hc : blankB s[p].toNat
    · rw [scan_no blankB s p h1 hc, scan_no blankB s' p h2 (by rw [e]; exact hc)]
    · rw [scan_yes blankB s p h1 hc] at hs
      rw [scan_yes blankB s p h1 hc, scan_yes blankB s' p h2 (by rw [e]; exact hc), ih (p + 1) (by omega) hs (by omega)]
theorem ba_ext {a b : ByteArray} (h : a.data.toList = b.data.toList) : a = b := by
  obtain ⟨⟨a⟩⟩ := a; obtain ⟨⟨b⟩⟩ := b; simp at h; subst h; rfl
theorem ext_list (s : ByteArray) (a c : Nat) : (s.extract a c).data.toList = (s.data.toList.take c).drop a := by
  rw [ByteArray.data_extract]; simp [List.extract_eq_take_drop, List.take_drop]
  by_cases h : a ≤ c
  · rw [show a + (c - a) = c by omega]
  · rw [show a + (c - a) = a by omega, List.drop_eq_nil_of_le (by simp; omega), List.drop_eq_nil_of_le (by simp; omega)]
theorem Ext.extract {s s' : ByteArray} (h : Ext s s') (a c : Nat) (hc : c ≤ s.size) : s'.extract a c = s.extract a c := by
  obtain ⟨m, hm⟩ := h.pre
  apply ba_ext
  rw [ext_list, ext_list, hm, List.take_append_of_le_length (by simpa using hc)]
theorem pre_ext (l m x : List UInt8) (hx : 32 ∉ x) : Lib.hasPrefix (l ++ (32 :: m)) x = Lib.hasPrefix l x := by
  unfold Lib.hasPrefix
  induction x generalizing l with
  | nil => cases l <;> rfl
  | cons c x ih =>
    cases l with
    | nil =>
      have : (c == 32) = false := beq_false_of_ne (fun e => hx (by simp [e]))
      show ((c == 32) && x.isPrefixOf m) = false
      rw [this]; rfl
    | cons d l =>
      have := ih l (fun h => hx (List.mem_cons_of_mem _ h))
      show ((c == d) && x.isPrefixOf (l ++ 32 :: m)) = ((c == d) && x.isPrefixOf l)
      rw [this]
theorem signs_no : ∀ x ∈ signs, (32 : UInt8) ∉ x.data.toList := by decide
theorem sIdx_ext (l m : List UInt8) (xs : List ByteArray) (hx : ∀ x ∈ xs, (32 : UInt8) ∉ x.data.toList) : sIdx (l ++ (32 :: m)) xs = sIdx l xs := by
  unfold sIdx
  have : xs.findIdx? (fun x => Lib.hasPrefix (l ++ (32 :: m)) x.data.toList) = xs.findIdx? (fun x => Lib.hasPrefix l x.data.toList) := by
    induction xs with
    | nil => rfl
    | cons x xs ih =>
      rw [List.findIdx?_cons, List.findIdx?_cons, pre_ext l m _ (hx x (by simp)), ih (fun y hy => hx y (by simp [hy]))]
  rw [this]
theorem Ext.sIdx {s s' : ByteArray} (h : Ext s s') (fr : Nat) (hf : fr ≤ s.size) : sIdx (s'.data.toList.drop fr) signs = sIdx (s.data.toList.drop fr) signs := by
  obtain ⟨m, hm⟩ := h.pre
  rw [hm, List.drop_append_of_le_length (by simpa using hf)]
  exact sIdx_ext _ _ _ signs_no
theorem Ext.wordTo {s s' : ByteArray} (h : Ext s s') (fr : Nat) (hf : fr ≤ s.size) : wordTo s' fr = wordTo s fr := by
  have hw := h.wend fr hf
  have hl := (scan_spec inWordB s fr hf).2.1
  unfold Go.Proofs.YtckjlliobebodaaGreatDoor.wordTo
  rw [hw, h.extract fr (Go.Proofs.YtckjlliobebodaaGreatDoor.wend s fr) hl]
  split
  · rfl
  · have h2 : Go.Proofs.YtckjlliobebodaaGreatDoor.wend s fr < s'.size := Nat.lt_of_le_of_lt hl h.lt
    rw [dif_pos h2]
    by_cases hc : Go.Proofs.YtckjlliobebodaaGreatDoor.wend s fr < s.size
    · rw [dif_pos hc, h.get _ hc h2]
    · rw [dif_neg hc]
      have e : ∀ (r : Nat) (hr : r < s'.size), r = s.size → s'[r].toNat ≠ 39 := by
        intro r hr e; subst e; rw [h.sep]; decide
      rw [if_neg (e _ h2 (Nat.le_antisymm hl (Nat.le_of_not_lt hc)))]
theorem Ext.tokAt {s s' : ByteArray} (h : Ext s s') (fr : Nat) (hf : fr < s.size) : tokAt s' fr = tokAt s fr := by
  have h2 : fr < s'.size := Nat.lt_trans hf h.lt
  unfold Go.Proofs.YtckjlliobebodaaGreatDoor.tokAt
  rw [dif_pos hf, dif_pos h2, h.get fr hf h2, h.wend fr (by omega), h.wordTo fr (by omega), h.sIdx fr (by omega), h.extract fr (Go.Proofs.YtckjlliobebodaaGreatDoor.wend s fr) (scan_spec inWordB s fr (by omega)).2.1, h.extract fr _ (wordTo_le s fr (by omega))]
  split
  · rfl
  · split
    · rfl
    · split
      · rfl
      · rename_i hi; rw [h.extract fr _ (sign_le s fr (by omega) hi)]
/-- The source has ended. -/
def AtEnd (s : ByteArray) (σ : PS) : Prop := σ.k = 0 ∧ s.size ≤ σ.ta ∧ σ.p = s.size
def EndE (s : ByteArray) (r : ER) : Prop := r.1 = false ∧ s.size ≤ r.2
def EndP (s : ByteArray) : Except ER PS → Prop
  | .ok σ => AtEnd s σ
  | .error r => EndE s r
def EndT {α : Type} (s : ByteArray) : Except ER (α × PS) → Prop
  | .ok q => AtEnd s q.2
  | .error r => EndE s r
def RelP (s : ByteArray) (q q' : Except ER PS) : Prop := EndP s q ∨ (q = q' ∧ ∀ σ, q = .ok σ → σ.k ≠ 0)
def RelT {α : Type} (s : ByteArray) (q q' : Except ER (α × PS)) : Prop := EndT s q ∨ (q = q' ∧ ∀ a, q = .ok a → a.2.k ≠ 0)
theorem tok_kind {s : ByteArray} {fr : Nat} {t : Nat × Int × ByteArray × Int} (h : fr < s.size) (ht : tokAt s fr = some t) : t.2.1 ≠ 0 := by
  unfold tokAt at ht
  rw [dif_pos h] at ht
  split at ht
  · split at ht
    · cases ht
    · cases ht; exact (by decide : (1 : Int) ≠ 0)
  · split at ht
    · cases hn : numTok (s.extract fr (wend s fr)) with
      | none => rw [hn] at ht; cases ht
      | some v => rw [hn] at ht; cases ht; exact (by decide : (2 : Int) ≠ 0)
    · split at ht
      · cases ht
      · cases ht; exact (by decide : (3 : Int) ≠ 0)
theorem adv_end {s : ByteArray} {σ : PS} (h : AtEnd s σ) : EndP s (advS s σ) := by
  have hs : skip s σ.p = s.size := by rw [h.2.2]; exact scan_end _ _ _ (Nat.le_refl _)
  unfold advS
  rw [hs]
  unfold tokAt
  rw [dif_neg (by omega)]
  exact ⟨rfl, Nat.le_refl _, rfl⟩
theorem adv_rel {s s' : ByteArray} (hx : Ext s s') {σ : PS} (hp : σ.p ≤ s.size) : RelP s (advS s σ) (advS s' σ) := by
  by_cases hs : skip s σ.p < s.size
  · right
    have e : advS s' σ = advS s σ := by unfold advS; rw [hx.skip _ hp hs, hx.tokAt _ hs]
    refine ⟨e.symm, fun σ' h' => ?_⟩
    unfold advS at h'
    cases ht : tokAt s (skip s σ.p) with
    | none => rw [ht] at h'; cases h'
    | some t => rw [ht] at h'; cases h'; exact tok_kind hs ht
  · left
    have hs' : skip s σ.p = s.size := Nat.le_antisymm (skip_le s _ hp) (Nat.le_of_not_lt hs)
    unfold advS
    rw [hs']
    unfold tokAt
    rw [dif_neg (by omega)]
    exact ⟨rfl, Nat.le_refl _, rfl⟩
theorem is_end {s : ByteArray} {σ : PS} (h : AtEnd s σ) (t : ByteArray) : isS σ t = false := by
  unfold isS isB; rw [h.1]; rfl
theorem isS_dec {σ : PS} {t : ByteArray} {s : ByteArray} (h : isS σ t = true) : ¬ AtEnd s σ := fun e => by rw [is_end e] at h; cases h
theorem want_end {s : ByteArray} {σ : PS} (h : AtEnd s σ) (t : ByteArray) : EndP s (wantS s σ t) := by
  unfold wantS eatS; rw [is_end h]; exact ⟨rfl, h.2.1⟩
theorem eat_rel {s s' : ByteArray} (hx : Ext s s') {σ : PS} (hp : σ.p ≤ s.size) (hk : σ.k ≠ 0) (t : ByteArray) : RelT s (eatS s σ t) (eatS s' σ t) := by
  unfold eatS
  cases hi : isS σ t
  · right; exact ⟨rfl, fun a h => by cases h; exact hk⟩
  · simp only [if_true]
    rcases adv_rel hx hp with h | ⟨h, h'⟩
    · left
      cases ha : advS s σ with
      | ok σ1 => rw [ha] at h; exact h
      | error r => rw [ha] at h; exact h
    · right
      rw [← h]
      refine ⟨rfl, fun a e => ?_⟩
      cases ha : advS s σ with
      | ok σ1 => rw [ha] at e; cases e; exact h' _ ha
      | error r => rw [ha] at e; cases e
theorem want_rel {s s' : ByteArray} (hx : Ext s s') {σ : PS} (hp : σ.p ≤ s.size) (hk : σ.k ≠ 0) (t : ByteArray) : RelP s (wantS s σ t) (wantS s' σ t) := by
  unfold wantS eatS
  cases hi : isS σ t
  · right; exact ⟨rfl, fun a h => by cases h⟩
  · simp only [if_true]
    rcases adv_rel hx hp with h | ⟨h, h'⟩
    · left
      cases ha : advS s σ with
      | ok σ1 => rw [ha] at h; exact h
      | error r => rw [ha] at h; exact h
    · right
      rw [← h]
      refine ⟨rfl, fun a e => ?_⟩
      cases ha : advS s σ with
      | ok σ1 => rw [ha] at e; cases e; exact h' _ ha
      | error r => rw [ha] at e; cases e
theorem shut_end {s : ByteArray} {σ : PS} (h : AtEnd s σ) (t : ByteArray) : EndP s (shutS s σ t) := by
  have := want_end h t
  unfold shutS
  cases e : wantS s σ t with
  | ok σ1 => rw [e] at this; exact this
  | error r => rw [e] at this; exact this
theorem shut_rel {s s' : ByteArray} (hx : Ext s s') {σ : PS} (hp : σ.p ≤ s.size) (hk : σ.k ≠ 0) (t : ByteArray) : RelP s (shutS s σ t) (shutS s' σ t) := by
  unfold shutS
  rcases want_rel hx hp hk t with h | ⟨h, h'⟩
  · left
    cases e : wantS s σ t with
    | ok σ1 => rw [e] at h; exact h
    | error r => rw [e] at h; exact h
  · right
    rw [← h]
    refine ⟨rfl, fun a q => ?_⟩
    cases e : wantS s σ t with
    | ok σ1 => rw [e] at q; cases q; exact (h' _ e : σ1.k ≠ 0)
    | error r => rw [e] at q; cases q
theorem open_end {s : ByteArray} {σ : PS} (h : AtEnd s σ) (t : ByteArray) : EndP s (openS s σ t) := by
  unfold openS; rw [is_end h]; exact ⟨rfl, h.2.1⟩
theorem open_rel {s s' : ByteArray} (hx : Ext s s') {σ : PS} (hp : σ.p ≤ s.size) (t : ByteArray) : RelP s (openS s σ t) (openS s' σ t) := by
  unfold openS
  split
  · split
    · right; exact ⟨rfl, fun a h => by cases h⟩
    · exact adv_rel hx (σ := { σ with nest := σ.nest + 1 }) hp
  · right; exact ⟨rfl, fun a h => by cases h⟩
theorem name_end {s : ByteArray} {σ : PS} (h : AtEnd s σ) : EndT s (nameS s σ) := by
  unfold nameS; rw [if_neg (by rw [h.1]; intro e; exact absurd e.1 (by decide))]; exact ⟨rfl, h.2.1⟩
theorem name_rel {s s' : ByteArray} (hx : Ext s s') {σ : PS} (hp : σ.p ≤ s.size) : RelT s (nameS s σ) (nameS s' σ) := by
  unfold nameS
  split
  · rcases adv_rel hx hp with h | ⟨h, h'⟩
    · left
      cases ha : advS s σ with
      | ok σ1 => rw [ha] at h; exact h
      | error r => rw [ha] at h; exact h
    · right
      rw [← h]
      refine ⟨rfl, fun a e => ?_⟩
      cases ha : advS s σ with
      | ok σ1 => rw [ha] at e; cases e; exact h' _ ha
      | error r => rw [ha] at e; cases e
  · right; exact ⟨rfl, fun a h => by cases h⟩
end Go.Proofs.YtckjlliobebodaaGreatDoor
