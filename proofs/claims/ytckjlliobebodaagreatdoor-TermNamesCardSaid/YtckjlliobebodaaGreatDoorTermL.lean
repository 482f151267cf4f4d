/- Readers of terms: the walks. Printed by gen_terms2.py. -/
import Derived.Test.YtckjlliobebodaaGreatDoorRest
import Derived.Test.YtckjlliobebodaaGreatDoorSm
set_option linter.unusedVariables false
set_option linter.unusedSimpArgs false
namespace Go.Proofs.YtckjlliobebodaaGreatDoor
open Go.RowKit
set_option maxHeartbeats 4000000 in
theorem term_l1 {b : Nat} {s : ByteArray} {f : Nat} {w : World} {σ : PS} (hT : TC b s f (termS f s)) (h : PW w b s σ) (hf : 14 * mu s σ + (14 - 1) < f + 1) :
    Calls Tryz.prog 33 #[.pointer (some ⟨b, 0, none⟩), .int .i64 1] w (RPost b s (VTm w.heap.size) (termS (f + 1) s 1 σ) w) := by
  have hI := inv_term f s
  have HI := Lib.hid hI
  clear hI
  have hlt := h.lt
  have hgl := h.gl.lt
  have h0 := h.alloc (.cells #[.int .i64 0, .string ⟨#[]⟩, .int .i64 0, .int .i64 0, .string ⟨#[]⟩, .slice none 0 0, .slice none 0 0] 27)
  have hR0 : Blk (w.alloc (.cells #[.int .i64 0, .string ⟨#[]⟩, .int .i64 0, .int .i64 0, .string ⟨#[]⟩, .slice none 0 0, .slice none 0 0] 27)) w.heap.size 27 z27 := Blk.new w 27 z27
  have K0 : Kept (· = b) w (w.alloc (.cells #[.int .i64 0, .string ⟨#[]⟩, .int .i64 0, .int .i64 0, .string ⟨#[]⟩, .slice none 0 0, .slice none 0 0] 27)) := (Kept.refl _ _).alloc _
  have zw0 : (w.alloc (.cells #[.int .i64 0, .string ⟨#[]⟩, .int .i64 0, .int .i64 0, .string ⟨#[]⟩, .slice none 0 0, .slice none 0 0] 27)).heap.size = w.heap.size + 1 := by simp
  have Z0 := Lib.hid zw0
  clear zw0
  go_enter Tryz.func33, Tryz.ntmps33
  go_wp2_with fail
  have lo1 := h0.lt
  have zz0 := Z0.out
  refine (hT 2 2 rfl σ _ (by decide) (by decide) h0 (by omega)).mono ?_
  clear zz0
  rintro e w1 hr
  cases h_1 : termS f s 2 σ with
  | error r =>
    have hq : Hid (termS (f + 1) s 1 σ = .error r) := Lib.hid (by unfold termS; simp only [show ((1 : Nat) == 5) = false from rfl, show ((1 : Nat) == 13) = false from rfl, show (1 + 1 : Nat) = 2 from rfl, h_1])
    obtain ⟨rfl, k1⟩ := hr.getErr h_1
    clear hr
    go_wp2_with fail
    exact ⟨rfl, RPost.err hq.out ⟨rfl, K0.trans k1⟩⟩
  | ok q1 =>
    obtain ⟨t1, σ1⟩ := q1
    obtain ⟨v, rfl, ⟨tk1, kk1, rfl, at1, ct1⟩, p1, k1⟩ := hr.getOk h_1
    clear hr
    have j_1 := HI.out _ _ _ _ h0.le h_1
    have i_1 := j_1.1
    try unfold Inv at i_1
    try unfold Inv1 at i_1
    obtain ⟨ta1, tn1, tc1, rfl⟩ := at1.slice
    obtain ⟨ma1, mn1, mc1, rfl⟩ := ct1.slice
    unfold tmVal
    have hR_1 := hR0.kept k1 (by show ¬ w.heap.size = b; omega)
    have K1 := K0.trans k1
    have lb1 := p1.lt
    have zz1 := K1.size
    have zk1 := k1.size
    have lR1 := hR_1.lt
    have h0_1 := p1.alloc (.cells #[.int .i64 t1.op, .string t1.name, .int .i64 t1.n, .int .i64 t1.ty.kind, .string t1.ty.name, .slice ta1 tn1 tc1, .slice ma1 mn1 mc1] 27)
    have K0_1 := K1.alloc (.cells #[.int .i64 t1.op, .string t1.name, .int .i64 t1.n, .int .i64 t1.ty.kind, .string t1.ty.name, .slice ta1 tn1 tc1, .slice ma1 mn1 mc1] 27)
    have hxR_1 := hR_1.alloc (.cells #[.int .i64 t1.op, .string t1.name, .int .i64 t1.n, .int .i64 t1.ty.kind, .string t1.ty.name, .slice ta1 tn1 tc1, .slice ma1 mn1 mc1] 27)
    have hLt1_1 : Blk (w1.alloc (.cells #[.int .i64 t1.op, .string t1.name, .int .i64 t1.n, .int .i64 t1.ty.kind, .string t1.ty.name, .slice ta1 tn1 tc1, .slice ma1 mn1 mc1] 27)) w1.heap.size 27 (tmCells t1 (.slice ta1 tn1 tc1) (.slice ma1 mn1 mc1)) := Blk.new w1 27 _
    have axt1_1 := at1.frame (Same.alloc _ (.cells #[.int .i64 t1.op, .string t1.name, .int .i64 t1.n, .int .i64 t1.ty.kind, .string t1.ty.name, .slice ta1 tn1 tc1, .slice ma1 mn1 mc1] 27))
    have cxt1_1 := ct1.frame (Same.alloc _ (.cells #[.int .i64 t1.op, .string t1.name, .int .i64 t1.n, .int .i64 t1.ty.kind, .string t1.ty.name, .slice ta1 tn1 tc1, .slice ma1 mn1 mc1] 27))
    have zw1 : (w1.alloc (.cells #[.int .i64 t1.op, .string t1.name, .int .i64 t1.n, .int .i64 t1.ty.kind, .string t1.ty.name, .slice ta1 tn1 tc1, .slice ma1 mn1 mc1] 27)).heap.size = w1.heap.size + 1 := by simp
    have Z1 := Lib.hid zw1
    clear zw1
    go_wp2_with fail
    have zz0 := Z0.out
    have lo2 := h0_1.lt
    refine (rest_any hT HI.out h0_1 (by omega) (n := 1) (by unfold lvOK; omega) t1 ta1 tn1 tc1 ma1 mn1 mc1 (w.alloc (.cells #[.int .i64 0, .string ⟨#[]⟩, .int .i64 0, .int .i64 0, .string ⟨#[]⟩, .slice none 0 0, .slice none 0 0] 27)).heap.size (by omega) (by have := Z1.out; omega) axt1_1 cxt1_1).mono ?_
    rintro e w2 hr
    cases h_2 : restS (termS f s) s 1 (s.size + 2) t1 σ1 with
    | error r =>
      have hq : Hid (termS (f + 1) s 1 σ = .error r) := Lib.hid (by unfold termS; simp only [show ((1 : Nat) == 5) = false from rfl, show ((1 : Nat) == 13) = false from rfl, show (1 + 1 : Nat) = 2 from rfl, h_1, h_2])
      obtain ⟨rfl, k2⟩ := hr.getErr h_2
      clear hr
      go_wp2_with fail
      exact ⟨rfl, RPost.err hq.out ⟨rfl, K0_1.trans k2⟩⟩
    | ok q2 =>
      obtain ⟨t2, σ2⟩ := q2
      obtain ⟨v, rfl, ⟨tk2, kk2, rfl, at2, ct2⟩, p2, k2⟩ := hr.getOk h_2
      clear hr
      have j_2 := inv_rest HI.out _ j_1.2 h0_1.le h_2
      have i_2 := j_2.1
      try unfold Inv at i_2
      try unfold Inv1 at i_2
      obtain ⟨ta2, tn2, tc2, rfl⟩ := at2.slice
      obtain ⟨ma2, mn2, mc2, rfl⟩ := ct2.slice
      unfold tmVal
      have hR_2 := hxR_1.kept k2 (by show ¬ w.heap.size = b; omega)
      have hLt1_2 := hLt1_1.kept k2 (by show ¬ w1.heap.size = b; omega)
      have at1_2 := axt1_1.frame (Same.of_kept k2 (fun k h e => by omega))
      have ct1_2 := cxt1_1.frame (Same.of_kept k2 (fun k h e => by omega))
      have K2 := K0_1.trans k2
      have lb2 := p2.lt
      have zz2 := K2.size
      have zk2 := k2.size
      have lR2 := hR_2.lt
      have lLt12 := hLt1_2.lt
      have hq : Hid (termS (f + 1) s 1 σ = .ok (t2, σ2)) := Lib.hid (by unfold termS; simp only [show ((1 : Nat) == 5) = false from rfl, show ((1 : Nat) == 13) = false from rfl, show (1 + 1 : Nat) = 2 from rfl, h_1, h_2])
      have g0 : w2.cell? ⟨w.heap.size, 0, none⟩ = some (.int .i64 0) := hR_2.cell 0
      have f0 : w2.frozen? ⟨w.heap.size, 0, none⟩ = false := hR_2.frozen 0
      have g1 : w2.cell? ⟨w.heap.size, 1, none⟩ = some (.string ⟨#[]⟩) := hR_2.cell 1
      have f1 : w2.frozen? ⟨w.heap.size, 1, none⟩ = false := hR_2.frozen 1
      have g2 : w2.cell? ⟨w.heap.size, 2, none⟩ = some (.int .i64 0) := hR_2.cell 2
      have f2 : w2.frozen? ⟨w.heap.size, 2, none⟩ = false := hR_2.frozen 2
      have g3 : w2.cell? ⟨w.heap.size, 3, none⟩ = some (.int .i64 0) := hR_2.cell 3
      have f3 : w2.frozen? ⟨w.heap.size, 3, none⟩ = false := hR_2.frozen 3
      have g4 : w2.cell? ⟨w.heap.size, 4, none⟩ = some (.string ⟨#[]⟩) := hR_2.cell 4
      have f4 : w2.frozen? ⟨w.heap.size, 4, none⟩ = false := hR_2.frozen 4
      have g5 : w2.cell? ⟨w.heap.size, 5, none⟩ = some (.slice none 0 0) := hR_2.cell 5
      have f5 : w2.frozen? ⟨w.heap.size, 5, none⟩ = false := hR_2.frozen 5
      have g6 : w2.cell? ⟨w.heap.size, 6, none⟩ = some (.slice none 0 0) := hR_2.cell 6
      have f6 : w2.frozen? ⟨w.heap.size, 6, none⟩ = false := hR_2.frozen 6
      have yt10 : w2.cell? ⟨w1.heap.size, 0, none⟩ = some (.int .i64 t1.op) := hLt1_2.cell 0
      have yt11 : w2.cell? ⟨w1.heap.size, 1, none⟩ = some (.string t1.name) := hLt1_2.cell 1
      have yt12 : w2.cell? ⟨w1.heap.size, 2, none⟩ = some (.int .i64 t1.n) := hLt1_2.cell 2
      have yt13 : w2.cell? ⟨w1.heap.size, 3, none⟩ = some (.int .i64 t1.ty.kind) := hLt1_2.cell 3
      have yt14 : w2.cell? ⟨w1.heap.size, 4, none⟩ = some (.string t1.ty.name) := hLt1_2.cell 4
      have yt15 : w2.cell? ⟨w1.heap.size, 5, none⟩ = some (.slice ta1 tn1 tc1) := hLt1_2.cell 5
      have yt16 : w2.cell? ⟨w1.heap.size, 6, none⟩ = some (.slice ma1 mn1 mc1) := hLt1_2.cell 6
      have l9 : w.heap.size < w2.heap.size := hR_2.lt
      clear zz0
      go_wp2_with fail
      have zz0 := Z0.out
      refine ret_tm Tryz.results33 hq.out rfl rfl ((r7 hR_2 rfl)) ?_ ?_ ((p7w p2 (by omega) (by omega))) ((k7w K2 (Or.inr (Nat.le_refl _))))
      · exact (at2.frame (same7 (R := w.heap.size) (by omega))).mono (fun k _ h => by omega)
      · exact (ct2.frame (same7 (R := w.heap.size) (by omega))).mono (fun k _ h => by omega)
set_option maxHeartbeats 4000000 in
theorem term_l2 {b : Nat} {s : ByteArray} {f : Nat} {w : World} {σ : PS} (hT : TC b s f (termS f s)) (h : PW w b s σ) (hf : 14 * mu s σ + (14 - 2) < f + 1) :
    Calls Tryz.prog 33 #[.pointer (some ⟨b, 0, none⟩), .int .i64 2] w (RPost b s (VTm w.heap.size) (termS (f + 1) s 2 σ) w) := by
  have hI := inv_term f s
  have HI := Lib.hid hI
  clear hI
  have hlt := h.lt
  have hgl := h.gl.lt
  have h0 := h.alloc (.cells #[.int .i64 0, .string ⟨#[]⟩, .int .i64 0, .int .i64 0, .string ⟨#[]⟩, .slice none 0 0, .slice none 0 0] 27)
  have hR0 : Blk (w.alloc (.cells #[.int .i64 0, .string ⟨#[]⟩, .int .i64 0, .int .i64 0, .string ⟨#[]⟩, .slice none 0 0, .slice none 0 0] 27)) w.heap.size 27 z27 := Blk.new w 27 z27
  have K0 : Kept (· = b) w (w.alloc (.cells #[.int .i64 0, .string ⟨#[]⟩, .int .i64 0, .int .i64 0, .string ⟨#[]⟩, .slice none 0 0, .slice none 0 0] 27)) := (Kept.refl _ _).alloc _
  have zw0 : (w.alloc (.cells #[.int .i64 0, .string ⟨#[]⟩, .int .i64 0, .int .i64 0, .string ⟨#[]⟩, .slice none 0 0, .slice none 0 0] 27)).heap.size = w.heap.size + 1 := by simp
  have Z0 := Lib.hid zw0
  clear zw0
  go_enter Tryz.func33, Tryz.ntmps33
  go_wp2_with fail
  have lo1 := h0.lt
  have zz0 := Z0.out
  refine (hT 3 3 rfl σ _ (by decide) (by decide) h0 (by omega)).mono ?_
  clear zz0
  rintro e w1 hr
  cases h_1 : termS f s 3 σ with
  | error r =>
    have hq : Hid (termS (f + 1) s 2 σ = .error r) := Lib.hid (by unfold termS; simp only [show ((2 : Nat) == 5) = false from rfl, show ((2 : Nat) == 13) = false from rfl, show (2 + 1 : Nat) = 3 from rfl, h_1])
    obtain ⟨rfl, k1⟩ := hr.getErr h_1
    clear hr
    go_wp2_with fail
    exact ⟨rfl, RPost.err hq.out ⟨rfl, K0.trans k1⟩⟩
  | ok q1 =>
    obtain ⟨t1, σ1⟩ := q1
    obtain ⟨v, rfl, ⟨tk1, kk1, rfl, at1, ct1⟩, p1, k1⟩ := hr.getOk h_1
    clear hr
    have j_1 := HI.out _ _ _ _ h0.le h_1
    have i_1 := j_1.1
    try unfold Inv at i_1
    try unfold Inv1 at i_1
    obtain ⟨ta1, tn1, tc1, rfl⟩ := at1.slice
    obtain ⟨ma1, mn1, mc1, rfl⟩ := ct1.slice
    unfold tmVal
    have hR_1 := hR0.kept k1 (by show ¬ w.heap.size = b; omega)
    have K1 := K0.trans k1
    have lb1 := p1.lt
    have zz1 := K1.size
    have zk1 := k1.size
    have lR1 := hR_1.lt
    have h0_1 := p1.alloc (.cells #[.int .i64 t1.op, .string t1.name, .int .i64 t1.n, .int .i64 t1.ty.kind, .string t1.ty.name, .slice ta1 tn1 tc1, .slice ma1 mn1 mc1] 27)
    have K0_1 := K1.alloc (.cells #[.int .i64 t1.op, .string t1.name, .int .i64 t1.n, .int .i64 t1.ty.kind, .string t1.ty.name, .slice ta1 tn1 tc1, .slice ma1 mn1 mc1] 27)
    have hxR_1 := hR_1.alloc (.cells #[.int .i64 t1.op, .string t1.name, .int .i64 t1.n, .int .i64 t1.ty.kind, .string t1.ty.name, .slice ta1 tn1 tc1, .slice ma1 mn1 mc1] 27)
    have hLt1_1 : Blk (w1.alloc (.cells #[.int .i64 t1.op, .string t1.name, .int .i64 t1.n, .int .i64 t1.ty.kind, .string t1.ty.name, .slice ta1 tn1 tc1, .slice ma1 mn1 mc1] 27)) w1.heap.size 27 (tmCells t1 (.slice ta1 tn1 tc1) (.slice ma1 mn1 mc1)) := Blk.new w1 27 _
    have axt1_1 := at1.frame (Same.alloc _ (.cells #[.int .i64 t1.op, .string t1.name, .int .i64 t1.n, .int .i64 t1.ty.kind, .string t1.ty.name, .slice ta1 tn1 tc1, .slice ma1 mn1 mc1] 27))
    have cxt1_1 := ct1.frame (Same.alloc _ (.cells #[.int .i64 t1.op, .string t1.name, .int .i64 t1.n, .int .i64 t1.ty.kind, .string t1.ty.name, .slice ta1 tn1 tc1, .slice ma1 mn1 mc1] 27))
    have zw1 : (w1.alloc (.cells #[.int .i64 t1.op, .string t1.name, .int .i64 t1.n, .int .i64 t1.ty.kind, .string t1.ty.name, .slice ta1 tn1 tc1, .slice ma1 mn1 mc1] 27)).heap.size = w1.heap.size + 1 := by simp
    have Z1 := Lib.hid zw1
    clear zw1
    go_wp2_with fail
    have zz0 := Z0.out
    have lo2 := h0_1.lt
    refine (rest_any hT HI.out h0_1 (by omega) (n := 2) (by unfold lvOK; omega) t1 ta1 tn1 tc1 ma1 mn1 mc1 (w.alloc (.cells #[.int .i64 0, .string ⟨#[]⟩, .int .i64 0, .int .i64 0, .string ⟨#[]⟩, .slice none 0 0, .slice none 0 0] 27)).heap.size (by omega) (by have := Z1.out; omega) axt1_1 cxt1_1).mono ?_
    rintro e w2 hr
    cases h_2 : restS (termS f s) s 2 (s.size + 2) t1 σ1 with
    | error r =>
      have hq : Hid (termS (f + 1) s 2 σ = .error r) := Lib.hid (by unfold termS; simp only [show ((2 : Nat) == 5) = false from rfl, show ((2 : Nat) == 13) = false from rfl, show (2 + 1 : Nat) = 3 from rfl, h_1, h_2])
      obtain ⟨rfl, k2⟩ := hr.getErr h_2
      clear hr
      go_wp2_with fail
      exact ⟨rfl, RPost.err hq.out ⟨rfl, K0_1.trans k2⟩⟩
    | ok q2 =>
      obtain ⟨t2, σ2⟩ := q2
      obtain ⟨v, rfl, ⟨tk2, kk2, rfl, at2, ct2⟩, p2, k2⟩ := hr.getOk h_2
      clear hr
      have j_2 := inv_rest HI.out _ j_1.2 h0_1.le h_2
      have i_2 := j_2.1
      try unfold Inv at i_2
      try unfold Inv1 at i_2
      obtain ⟨ta2, tn2, tc2, rfl⟩ := at2.slice
      obtain ⟨ma2, mn2, mc2, rfl⟩ := ct2.slice
      unfold tmVal
      have hR_2 := hxR_1.kept k2 (by show ¬ w.heap.size = b; omega)
      have hLt1_2 := hLt1_1.kept k2 (by show ¬ w1.heap.size = b; omega)
      have at1_2 := axt1_1.frame (Same.of_kept k2 (fun k h e => by omega))
      have ct1_2 := cxt1_1.frame (Same.of_kept k2 (fun k h e => by omega))
      have K2 := K0_1.trans k2
      have lb2 := p2.lt
      have zz2 := K2.size
      have zk2 := k2.size
      have lR2 := hR_2.lt
      have lLt12 := hLt1_2.lt
      have hq : Hid (termS (f + 1) s 2 σ = .ok (t2, σ2)) := Lib.hid (by unfold termS; simp only [show ((2 : Nat) == 5) = false from rfl, show ((2 : Nat) == 13) = false from rfl, show (2 + 1 : Nat) = 3 from rfl, h_1, h_2])
      have g0 : w2.cell? ⟨w.heap.size, 0, none⟩ = some (.int .i64 0) := hR_2.cell 0
      have f0 : w2.frozen? ⟨w.heap.size, 0, none⟩ = false := hR_2.frozen 0
      have g1 : w2.cell? ⟨w.heap.size, 1, none⟩ = some (.string ⟨#[]⟩) := hR_2.cell 1
      have f1 : w2.frozen? ⟨w.heap.size, 1, none⟩ = false := hR_2.frozen 1
      have g2 : w2.cell? ⟨w.heap.size, 2, none⟩ = some (.int .i64 0) := hR_2.cell 2
      have f2 : w2.frozen? ⟨w.heap.size, 2, none⟩ = false := hR_2.frozen 2
      have g3 : w2.cell? ⟨w.heap.size, 3, none⟩ = some (.int .i64 0) := hR_2.cell 3
      have f3 : w2.frozen? ⟨w.heap.size, 3, none⟩ = false := hR_2.frozen 3
      have g4 : w2.cell? ⟨w.heap.size, 4, none⟩ = some (.string ⟨#[]⟩) := hR_2.cell 4
      have f4 : w2.frozen? ⟨w.heap.size, 4, none⟩ = false := hR_2.frozen 4
      have g5 : w2.cell? ⟨w.heap.size, 5, none⟩ = some (.slice none 0 0) := hR_2.cell 5
      have f5 : w2.frozen? ⟨w.heap.size, 5, none⟩ = false := hR_2.frozen 5
      have g6 : w2.cell? ⟨w.heap.size, 6, none⟩ = some (.slice none 0 0) := hR_2.cell 6
      have f6 : w2.frozen? ⟨w.heap.size, 6, none⟩ = false := hR_2.frozen 6
      have yt10 : w2.cell? ⟨w1.heap.size, 0, none⟩ = some (.int .i64 t1.op) := hLt1_2.cell 0
      have yt11 : w2.cell? ⟨w1.heap.size, 1, none⟩ = some (.string t1.name) := hLt1_2.cell 1
      have yt12 : w2.cell? ⟨w1.heap.size, 2, none⟩ = some (.int .i64 t1.n) := hLt1_2.cell 2
      have yt13 : w2.cell? ⟨w1.heap.size, 3, none⟩ = some (.int .i64 t1.ty.kind) := hLt1_2.cell 3
      have yt14 : w2.cell? ⟨w1.heap.size, 4, none⟩ = some (.string t1.ty.name) := hLt1_2.cell 4
      have yt15 : w2.cell? ⟨w1.heap.size, 5, none⟩ = some (.slice ta1 tn1 tc1) := hLt1_2.cell 5
      have yt16 : w2.cell? ⟨w1.heap.size, 6, none⟩ = some (.slice ma1 mn1 mc1) := hLt1_2.cell 6
      have l9 : w.heap.size < w2.heap.size := hR_2.lt
      clear zz0
      go_wp2_with fail
      have zz0 := Z0.out
      refine ret_tm Tryz.results33 hq.out rfl rfl ((r7 hR_2 rfl)) ?_ ?_ ((p7w p2 (by omega) (by omega))) ((k7w K2 (Or.inr (Nat.le_refl _))))
      · exact (at2.frame (same7 (R := w.heap.size) (by omega))).mono (fun k _ h => by omega)
      · exact (ct2.frame (same7 (R := w.heap.size) (by omega))).mono (fun k _ h => by omega)
set_option maxHeartbeats 4000000 in
theorem term_l3 {b : Nat} {s : ByteArray} {f : Nat} {w : World} {σ : PS} (hT : TC b s f (termS f s)) (h : PW w b s σ) (hf : 14 * mu s σ + (14 - 3) < f + 1) :
    Calls Tryz.prog 33 #[.pointer (some ⟨b, 0, none⟩), .int .i64 3] w (RPost b s (VTm w.heap.size) (termS (f + 1) s 3 σ) w) := by
  have hI := inv_term f s
  have HI := Lib.hid hI
  clear hI
  have hlt := h.lt
  have hgl := h.gl.lt
  have h0 := h.alloc (.cells #[.int .i64 0, .string ⟨#[]⟩, .int .i64 0, .int .i64 0, .string ⟨#[]⟩, .slice none 0 0, .slice none 0 0] 27)
  have hR0 : Blk (w.alloc (.cells #[.int .i64 0, .string ⟨#[]⟩, .int .i64 0, .int .i64 0, .string ⟨#[]⟩, .slice none 0 0, .slice none 0 0] 27)) w.heap.size 27 z27 := Blk.new w 27 z27
  have K0 : Kept (· = b) w (w.alloc (.cells #[.int .i64 0, .string ⟨#[]⟩, .int .i64 0, .int .i64 0, .string ⟨#[]⟩, .slice none 0 0, .slice none 0 0] 27)) := (Kept.refl _ _).alloc _
  have zw0 : (w.alloc (.cells #[.int .i64 0, .string ⟨#[]⟩, .int .i64 0, .int .i64 0, .string ⟨#[]⟩, .slice none 0 0, .slice none 0 0] 27)).heap.size = w.heap.size + 1 := by simp
  have Z0 := Lib.hid zw0
  clear zw0
  go_enter Tryz.func33, Tryz.ntmps33
  go_wp2_with fail
  have lo1 := h0.lt
  have zz0 := Z0.out
  refine (hT 4 4 rfl σ _ (by decide) (by decide) h0 (by omega)).mono ?_
  clear zz0
  rintro e w1 hr
  cases h_1 : termS f s 4 σ with
  | error r =>
    have hq : Hid (termS (f + 1) s 3 σ = .error r) := Lib.hid (by unfold termS; simp only [show ((3 : Nat) == 5) = false from rfl, show ((3 : Nat) == 13) = false from rfl, show (3 + 1 : Nat) = 4 from rfl, h_1])
    obtain ⟨rfl, k1⟩ := hr.getErr h_1
    clear hr
    go_wp2_with fail
    exact ⟨rfl, RPost.err hq.out ⟨rfl, K0.trans k1⟩⟩
  | ok q1 =>
    obtain ⟨t1, σ1⟩ := q1
    obtain ⟨v, rfl, ⟨tk1, kk1, rfl, at1, ct1⟩, p1, k1⟩ := hr.getOk h_1
    clear hr
    have j_1 := HI.out _ _ _ _ h0.le h_1
    have i_1 := j_1.1
    try unfold Inv at i_1
    try unfold Inv1 at i_1
    obtain ⟨ta1, tn1, tc1, rfl⟩ := at1.slice
    obtain ⟨ma1, mn1, mc1, rfl⟩ := ct1.slice
    unfold tmVal
    have hR_1 := hR0.kept k1 (by show ¬ w.heap.size = b; omega)
    have K1 := K0.trans k1
    have lb1 := p1.lt
    have zz1 := K1.size
    have zk1 := k1.size
    have lR1 := hR_1.lt
    have h0_1 := p1.alloc (.cells #[.int .i64 t1.op, .string t1.name, .int .i64 t1.n, .int .i64 t1.ty.kind, .string t1.ty.name, .slice ta1 tn1 tc1, .slice ma1 mn1 mc1] 27)
    have K0_1 := K1.alloc (.cells #[.int .i64 t1.op, .string t1.name, .int .i64 t1.n, .int .i64 t1.ty.kind, .string t1.ty.name, .slice ta1 tn1 tc1, .slice ma1 mn1 mc1] 27)
    have hxR_1 := hR_1.alloc (.cells #[.int .i64 t1.op, .string t1.name, .int .i64 t1.n, .int .i64 t1.ty.kind, .string t1.ty.name, .slice ta1 tn1 tc1, .slice ma1 mn1 mc1] 27)
    have hLt1_1 : Blk (w1.alloc (.cells #[.int .i64 t1.op, .string t1.name, .int .i64 t1.n, .int .i64 t1.ty.kind, .string t1.ty.name, .slice ta1 tn1 tc1, .slice ma1 mn1 mc1] 27)) w1.heap.size 27 (tmCells t1 (.slice ta1 tn1 tc1) (.slice ma1 mn1 mc1)) := Blk.new w1 27 _
    have axt1_1 := at1.frame (Same.alloc _ (.cells #[.int .i64 t1.op, .string t1.name, .int .i64 t1.n, .int .i64 t1.ty.kind, .string t1.ty.name, .slice ta1 tn1 tc1, .slice ma1 mn1 mc1] 27))
    have cxt1_1 := ct1.frame (Same.alloc _ (.cells #[.int .i64 t1.op, .string t1.name, .int .i64 t1.n, .int .i64 t1.ty.kind, .string t1.ty.name, .slice ta1 tn1 tc1, .slice ma1 mn1 mc1] 27))
    have zw1 : (w1.alloc (.cells #[.int .i64 t1.op, .string t1.name, .int .i64 t1.n, .int .i64 t1.ty.kind, .string t1.ty.name, .slice ta1 tn1 tc1, .slice ma1 mn1 mc1] 27)).heap.size = w1.heap.size + 1 := by simp
    have Z1 := Lib.hid zw1
    clear zw1
    go_wp2_with fail
    have zz0 := Z0.out
    have lo2 := h0_1.lt
    refine (rest_any hT HI.out h0_1 (by omega) (n := 3) (by unfold lvOK; omega) t1 ta1 tn1 tc1 ma1 mn1 mc1 (w.alloc (.cells #[.int .i64 0, .string ⟨#[]⟩, .int .i64 0, .int .i64 0, .string ⟨#[]⟩, .slice none 0 0, .slice none 0 0] 27)).heap.size (by omega) (by have := Z1.out; omega) axt1_1 cxt1_1).mono ?_
    rintro e w2 hr
    cases h_2 : restS (termS f s) s 3 (s.size + 2) t1 σ1 with
    | error r =>
      have hq : Hid (termS (f + 1) s 3 σ = .error r) := Lib.hid (by unfold termS; simp only [show ((3 : Nat) == 5) = false from rfl, show ((3 : Nat) == 13) = false from rfl, show (3 + 1 : Nat) = 4 from rfl, h_1, h_2])
      obtain ⟨rfl, k2⟩ := hr.getErr h_2
      clear hr
      go_wp2_with fail
      exact ⟨rfl, RPost.err hq.out ⟨rfl, K0_1.trans k2⟩⟩
    | ok q2 =>
      obtain ⟨t2, σ2⟩ := q2
      obtain ⟨v, rfl, ⟨tk2, kk2, rfl, at2, ct2⟩, p2, k2⟩ := hr.getOk h_2
      clear hr
      have j_2 := inv_rest HI.out _ j_1.2 h0_1.le h_2
      have i_2 := j_2.1
      try unfold Inv at i_2
      try unfold Inv1 at i_2
      obtain ⟨ta2, tn2, tc2, rfl⟩ := at2.slice
      obtain ⟨ma2, mn2, mc2, rfl⟩ := ct2.slice
      unfold tmVal
      have hR_2 := hxR_1.kept k2 (by show ¬ w.heap.size = b; omega)
      have hLt1_2 := hLt1_1.kept k2 (by show ¬ w1.heap.size = b; omega)
      have at1_2 := axt1_1.frame (Same.of_kept k2 (fun k h e => by omega))
      have ct1_2 := cxt1_1.frame (Same.of_kept k2 (fun k h e => by omega))
      have K2 := K0_1.trans k2
      have lb2 := p2.lt
      have zz2 := K2.size
      have zk2 := k2.size
      have lR2 := hR_2.lt
      have lLt12 := hLt1_2.lt
      have hq : Hid (termS (f + 1) s 3 σ = .ok (t2, σ2)) := Lib.hid (by unfold termS; simp only [show ((3 : Nat) == 5) = false from rfl, show ((3 : Nat) == 13) = false from rfl, show (3 + 1 : Nat) = 4 from rfl, h_1, h_2])
      have g0 : w2.cell? ⟨w.heap.size, 0, none⟩ = some (.int .i64 0) := hR_2.cell 0
      have f0 : w2.frozen? ⟨w.heap.size, 0, none⟩ = false := hR_2.frozen 0
      have g1 : w2.cell? ⟨w.heap.size, 1, none⟩ = some (.string ⟨#[]⟩) := hR_2.cell 1
      have f1 : w2.frozen? ⟨w.heap.size, 1, none⟩ = false := hR_2.frozen 1
      have g2 : w2.cell? ⟨w.heap.size, 2, none⟩ = some (.int .i64 0) := hR_2.cell 2
      have f2 : w2.frozen? ⟨w.heap.size, 2, none⟩ = false := hR_2.frozen 2
      have g3 : w2.cell? ⟨w.heap.size, 3, none⟩ = some (.int .i64 0) := hR_2.cell 3
      have f3 : w2.frozen? ⟨w.heap.size, 3, none⟩ = false := hR_2.frozen 3
      have g4 : w2.cell? ⟨w.heap.size, 4, none⟩ = some (.string ⟨#[]⟩) := hR_2.cell 4
      have f4 : w2.frozen? ⟨w.heap.size, 4, none⟩ = false := hR_2.frozen 4
      have g5 : w2.cell? ⟨w.heap.size, 5, none⟩ = some (.slice none 0 0) := hR_2.cell 5
      have f5 : w2.frozen? ⟨w.heap.size, 5, none⟩ = false := hR_2.frozen 5
      have g6 : w2.cell? ⟨w.heap.size, 6, none⟩ = some (.slice none 0 0) := hR_2.cell 6
      have f6 : w2.frozen? ⟨w.heap.size, 6, none⟩ = false := hR_2.frozen 6
      have yt10 : w2.cell? ⟨w1.heap.size, 0, none⟩ = some (.int .i64 t1.op) := hLt1_2.cell 0
      have yt11 : w2.cell? ⟨w1.heap.size, 1, none⟩ = some (.string t1.name) := hLt1_2.cell 1
      have yt12 : w2.cell? ⟨w1.heap.size, 2, none⟩ = some (.int .i64 t1.n) := hLt1_2.cell 2
      have yt13 : w2.cell? ⟨w1.heap.size, 3, none⟩ = some (.int .i64 t1.ty.kind) := hLt1_2.cell 3
      have yt14 : w2.cell? ⟨w1.heap.size, 4, none⟩ = some (.string t1.ty.name) := hLt1_2.cell 4
      have yt15 : w2.cell? ⟨w1.heap.size, 5, none⟩ = some (.slice ta1 tn1 tc1) := hLt1_2.cell 5
      have yt16 : w2.cell? ⟨w1.heap.size, 6, none⟩ = some (.slice ma1 mn1 mc1) := hLt1_2.cell 6
      have l9 : w.heap.size < w2.heap.size := hR_2.lt
      clear zz0
      go_wp2_with fail
      have zz0 := Z0.out
      refine ret_tm Tryz.results33 hq.out rfl rfl ((r7 hR_2 rfl)) ?_ ?_ ((p7w p2 (by omega) (by omega))) ((k7w K2 (Or.inr (Nat.le_refl _))))
      · exact (at2.frame (same7 (R := w.heap.size) (by omega))).mono (fun k _ h => by omega)
      · exact (ct2.frame (same7 (R := w.heap.size) (by omega))).mono (fun k _ h => by omega)
set_option maxHeartbeats 4000000 in
theorem term_l4 {b : Nat} {s : ByteArray} {f : Nat} {w : World} {σ : PS} (hT : TC b s f (termS f s)) (h : PW w b s σ) (hf : 14 * mu s σ + (14 - 4) < f + 1) :
    Calls Tryz.prog 33 #[.pointer (some ⟨b, 0, none⟩), .int .i64 4] w (RPost b s (VTm w.heap.size) (termS (f + 1) s 4 σ) w) := by
  have hI := inv_term f s
  have HI := Lib.hid hI
  clear hI
  have hlt := h.lt
  have hgl := h.gl.lt
  have h0 := h.alloc (.cells #[.int .i64 0, .string ⟨#[]⟩, .int .i64 0, .int .i64 0, .string ⟨#[]⟩, .slice none 0 0, .slice none 0 0] 27)
  have hR0 : Blk (w.alloc (.cells #[.int .i64 0, .string ⟨#[]⟩, .int .i64 0, .int .i64 0, .string ⟨#[]⟩, .slice none 0 0, .slice none 0 0] 27)) w.heap.size 27 z27 := Blk.new w 27 z27
  have K0 : Kept (· = b) w (w.alloc (.cells #[.int .i64 0, .string ⟨#[]⟩, .int .i64 0, .int .i64 0, .string ⟨#[]⟩, .slice none 0 0, .slice none 0 0] 27)) := (Kept.refl _ _).alloc _
  have zw0 : (w.alloc (.cells #[.int .i64 0, .string ⟨#[]⟩, .int .i64 0, .int .i64 0, .string ⟨#[]⟩, .slice none 0 0, .slice none 0 0] 27)).heap.size = w.heap.size + 1 := by simp
  have Z0 := Lib.hid zw0
  clear zw0
  go_enter Tryz.func33, Tryz.ntmps33
  go_wp2_with fail
  have lo1 := h0.lt
  have zz0 := Z0.out
  refine (hT 5 5 rfl σ _ (by decide) (by decide) h0 (by omega)).mono ?_
  clear zz0
  rintro e w1 hr
  cases h_1 : termS f s 5 σ with
  | error r =>
    have hq : Hid (termS (f + 1) s 4 σ = .error r) := Lib.hid (by unfold termS; simp only [show ((4 : Nat) == 5) = false from rfl, show ((4 : Nat) == 13) = false from rfl, show (4 + 1 : Nat) = 5 from rfl, h_1])
    obtain ⟨rfl, k1⟩ := hr.getErr h_1
    clear hr
    go_wp2_with fail
    exact ⟨rfl, RPost.err hq.out ⟨rfl, K0.trans k1⟩⟩
  | ok q1 =>
    obtain ⟨t1, σ1⟩ := q1
    obtain ⟨v, rfl, ⟨tk1, kk1, rfl, at1, ct1⟩, p1, k1⟩ := hr.getOk h_1
    clear hr
    have j_1 := HI.out _ _ _ _ h0.le h_1
    have i_1 := j_1.1
    try unfold Inv at i_1
    try unfold Inv1 at i_1
    obtain ⟨ta1, tn1, tc1, rfl⟩ := at1.slice
    obtain ⟨ma1, mn1, mc1, rfl⟩ := ct1.slice
    unfold tmVal
    have hR_1 := hR0.kept k1 (by show ¬ w.heap.size = b; omega)
    have K1 := K0.trans k1
    have lb1 := p1.lt
    have zz1 := K1.size
    have zk1 := k1.size
    have lR1 := hR_1.lt
    have h0_1 := p1.alloc (.cells #[.int .i64 t1.op, .string t1.name, .int .i64 t1.n, .int .i64 t1.ty.kind, .string t1.ty.name, .slice ta1 tn1 tc1, .slice ma1 mn1 mc1] 27)
    have K0_1 := K1.alloc (.cells #[.int .i64 t1.op, .string t1.name, .int .i64 t1.n, .int .i64 t1.ty.kind, .string t1.ty.name, .slice ta1 tn1 tc1, .slice ma1 mn1 mc1] 27)
    have hxR_1 := hR_1.alloc (.cells #[.int .i64 t1.op, .string t1.name, .int .i64 t1.n, .int .i64 t1.ty.kind, .string t1.ty.name, .slice ta1 tn1 tc1, .slice ma1 mn1 mc1] 27)
    have hLt1_1 : Blk (w1.alloc (.cells #[.int .i64 t1.op, .string t1.name, .int .i64 t1.n, .int .i64 t1.ty.kind, .string t1.ty.name, .slice ta1 tn1 tc1, .slice ma1 mn1 mc1] 27)) w1.heap.size 27 (tmCells t1 (.slice ta1 tn1 tc1) (.slice ma1 mn1 mc1)) := Blk.new w1 27 _
    have axt1_1 := at1.frame (Same.alloc _ (.cells #[.int .i64 t1.op, .string t1.name, .int .i64 t1.n, .int .i64 t1.ty.kind, .string t1.ty.name, .slice ta1 tn1 tc1, .slice ma1 mn1 mc1] 27))
    have cxt1_1 := ct1.frame (Same.alloc _ (.cells #[.int .i64 t1.op, .string t1.name, .int .i64 t1.n, .int .i64 t1.ty.kind, .string t1.ty.name, .slice ta1 tn1 tc1, .slice ma1 mn1 mc1] 27))
    have zw1 : (w1.alloc (.cells #[.int .i64 t1.op, .string t1.name, .int .i64 t1.n, .int .i64 t1.ty.kind, .string t1.ty.name, .slice ta1 tn1 tc1, .slice ma1 mn1 mc1] 27)).heap.size = w1.heap.size + 1 := by simp
    have Z1 := Lib.hid zw1
    clear zw1
    go_wp2_with fail
    have zz0 := Z0.out
    have lo2 := h0_1.lt
    refine (rest_any hT HI.out h0_1 (by omega) (n := 4) (by unfold lvOK; omega) t1 ta1 tn1 tc1 ma1 mn1 mc1 (w.alloc (.cells #[.int .i64 0, .string ⟨#[]⟩, .int .i64 0, .int .i64 0, .string ⟨#[]⟩, .slice none 0 0, .slice none 0 0] 27)).heap.size (by omega) (by have := Z1.out; omega) axt1_1 cxt1_1).mono ?_
    rintro e w2 hr
    cases h_2 : restS (termS f s) s 4 (s.size + 2) t1 σ1 with
    | error r =>
      have hq : Hid (termS (f + 1) s 4 σ = .error r) := Lib.hid (by unfold termS; simp only [show ((4 : Nat) == 5) = false from rfl, show ((4 : Nat) == 13) = false from rfl, show (4 + 1 : Nat) = 5 from rfl, h_1, h_2])
      obtain ⟨rfl, k2⟩ := hr.getErr h_2
      clear hr
      go_wp2_with fail
      exact ⟨rfl, RPost.err hq.out ⟨rfl, K0_1.trans k2⟩⟩
    | ok q2 =>
      obtain ⟨t2, σ2⟩ := q2
      obtain ⟨v, rfl, ⟨tk2, kk2, rfl, at2, ct2⟩, p2, k2⟩ := hr.getOk h_2
      clear hr
      have j_2 := inv_rest HI.out _ j_1.2 h0_1.le h_2
      have i_2 := j_2.1
      try unfold Inv at i_2
      try unfold Inv1 at i_2
      obtain ⟨ta2, tn2, tc2, rfl⟩ := at2.slice
      obtain ⟨ma2, mn2, mc2, rfl⟩ := ct2.slice
      unfold tmVal
      have hR_2 := hxR_1.kept k2 (by show ¬ w.heap.size = b; omega)
      have hLt1_2 := hLt1_1.kept k2 (by show ¬ w1.heap.size = b; omega)
      have at1_2 := axt1_1.frame (Same.of_kept k2 (fun k h e => by omega))
      have ct1_2 := cxt1_1.frame (Same.of_kept k2 (fun k h e => by omega))
      have K2 := K0_1.trans k2
      have lb2 := p2.lt
      have zz2 := K2.size
      have zk2 := k2.size
      have lR2 := hR_2.lt
      have lLt12 := hLt1_2.lt
      have hq : Hid (termS (f + 1) s 4 σ = .ok (t2, σ2)) := Lib.hid (by unfold termS; simp only [show ((4 : Nat) == 5) = false from rfl, show ((4 : Nat) == 13) = false from rfl, show (4 + 1 : Nat) = 5 from rfl, h_1, h_2])
      have g0 : w2.cell? ⟨w.heap.size, 0, none⟩ = some (.int .i64 0) := hR_2.cell 0
      have f0 : w2.frozen? ⟨w.heap.size, 0, none⟩ = false := hR_2.frozen 0
      have g1 : w2.cell? ⟨w.heap.size, 1, none⟩ = some (.string ⟨#[]⟩) := hR_2.cell 1
      have f1 : w2.frozen? ⟨w.heap.size, 1, none⟩ = false := hR_2.frozen 1
      have g2 : w2.cell? ⟨w.heap.size, 2, none⟩ = some (.int .i64 0) := hR_2.cell 2
      have f2 : w2.frozen? ⟨w.heap.size, 2, none⟩ = false := hR_2.frozen 2
      have g3 : w2.cell? ⟨w.heap.size, 3, none⟩ = some (.int .i64 0) := hR_2.cell 3
      have f3 : w2.frozen? ⟨w.heap.size, 3, none⟩ = false := hR_2.frozen 3
      have g4 : w2.cell? ⟨w.heap.size, 4, none⟩ = some (.string ⟨#[]⟩) := hR_2.cell 4
      have f4 : w2.frozen? ⟨w.heap.size, 4, none⟩ = false := hR_2.frozen 4
      have g5 : w2.cell? ⟨w.heap.size, 5, none⟩ = some (.slice none 0 0) := hR_2.cell 5
      have f5 : w2.frozen? ⟨w.heap.size, 5, none⟩ = false := hR_2.frozen 5
      have g6 : w2.cell? ⟨w.heap.size, 6, none⟩ = some (.slice none 0 0) := hR_2.cell 6
      have f6 : w2.frozen? ⟨w.heap.size, 6, none⟩ = false := hR_2.frozen 6
      have yt10 : w2.cell? ⟨w1.heap.size, 0, none⟩ = some (.int .i64 t1.op) := hLt1_2.cell 0
      have yt11 : w2.cell? ⟨w1.heap.size, 1, none⟩ = some (.string t1.name) := hLt1_2.cell 1
      have yt12 : w2.cell? ⟨w1.heap.size, 2, none⟩ = some (.int .i64 t1.n) := hLt1_2.cell 2
      have yt13 : w2.cell? ⟨w1.heap.size, 3, none⟩ = some (.int .i64 t1.ty.kind) := hLt1_2.cell 3
      have yt14 : w2.cell? ⟨w1.heap.size, 4, none⟩ = some (.string t1.ty.name) := hLt1_2.cell 4
      have yt15 : w2.cell? ⟨w1.heap.size, 5, none⟩ = some (.slice ta1 tn1 tc1) := hLt1_2.cell 5
      have yt16 : w2.cell? ⟨w1.heap.size, 6, none⟩ = some (.slice ma1 mn1 mc1) := hLt1_2.cell 6
      have l9 : w.heap.size < w2.heap.size := hR_2.lt
      clear zz0
      go_wp2_with fail
      have zz0 := Z0.out
      refine ret_tm Tryz.results33 hq.out rfl rfl ((r7 hR_2 rfl)) ?_ ?_ ((p7w p2 (by omega) (by omega))) ((k7w K2 (Or.inr (Nat.le_refl _))))
      · exact (at2.frame (same7 (R := w.heap.size) (by omega))).mono (fun k _ h => by omega)
      · exact (ct2.frame (same7 (R := w.heap.size) (by omega))).mono (fun k _ h => by omega)
set_option maxHeartbeats 4000000 in
theorem term_l6 {b : Nat} {s : ByteArray} {f : Nat} {w : World} {σ : PS} (hT : TC b s f (termS f s)) (h : PW w b s σ) (hf : 14 * mu s σ + (14 - 6) < f + 1) :
    Calls Tryz.prog 33 #[.pointer (some ⟨b, 0, none⟩), .int .i64 6] w (RPost b s (VTm w.heap.size) (termS (f + 1) s 6 σ) w) := by
  have hI := inv_term f s
  have HI := Lib.hid hI
  clear hI
  have hlt := h.lt
  have hgl := h.gl.lt
  have h0 := h.alloc (.cells #[.int .i64 0, .string ⟨#[]⟩, .int .i64 0, .int .i64 0, .string ⟨#[]⟩, .slice none 0 0, .slice none 0 0] 27)
  have hR0 : Blk (w.alloc (.cells #[.int .i64 0, .string ⟨#[]⟩, .int .i64 0, .int .i64 0, .string ⟨#[]⟩, .slice none 0 0, .slice none 0 0] 27)) w.heap.size 27 z27 := Blk.new w 27 z27
  have K0 : Kept (· = b) w (w.alloc (.cells #[.int .i64 0, .string ⟨#[]⟩, .int .i64 0, .int .i64 0, .string ⟨#[]⟩, .slice none 0 0, .slice none 0 0] 27)) := (Kept.refl _ _).alloc _
  have zw0 : (w.alloc (.cells #[.int .i64 0, .string ⟨#[]⟩, .int .i64 0, .int .i64 0, .string ⟨#[]⟩, .slice none 0 0, .slice none 0 0] 27)).heap.size = w.heap.size + 1 := by simp
  have Z0 := Lib.hid zw0
  clear zw0
  go_enter Tryz.func33, Tryz.ntmps33
  go_wp2_with fail
  have lo1 := h0.lt
  have zz0 := Z0.out
  refine (hT 7 7 rfl σ _ (by decide) (by decide) h0 (by omega)).mono ?_
  clear zz0
  rintro e w1 hr
  cases h_1 : termS f s 7 σ with
  | error r =>
    have hq : Hid (termS (f + 1) s 6 σ = .error r) := Lib.hid (by unfold termS; simp only [show ((6 : Nat) == 5) = false from rfl, show ((6 : Nat) == 13) = false from rfl, show (6 + 1 : Nat) = 7 from rfl, h_1])
    obtain ⟨rfl, k1⟩ := hr.getErr h_1
    clear hr
    go_wp2_with fail
    exact ⟨rfl, RPost.err hq.out ⟨rfl, K0.trans k1⟩⟩
  | ok q1 =>
    obtain ⟨t1, σ1⟩ := q1
    obtain ⟨v, rfl, ⟨tk1, kk1, rfl, at1, ct1⟩, p1, k1⟩ := hr.getOk h_1
    clear hr
    have j_1 := HI.out _ _ _ _ h0.le h_1
    have i_1 := j_1.1
    try unfold Inv at i_1
    try unfold Inv1 at i_1
    obtain ⟨ta1, tn1, tc1, rfl⟩ := at1.slice
    obtain ⟨ma1, mn1, mc1, rfl⟩ := ct1.slice
    unfold tmVal
    have hR_1 := hR0.kept k1 (by show ¬ w.heap.size = b; omega)
    have K1 := K0.trans k1
    have lb1 := p1.lt
    have zz1 := K1.size
    have zk1 := k1.size
    have lR1 := hR_1.lt
    have h0_1 := p1.alloc (.cells #[.int .i64 t1.op, .string t1.name, .int .i64 t1.n, .int .i64 t1.ty.kind, .string t1.ty.name, .slice ta1 tn1 tc1, .slice ma1 mn1 mc1] 27)
    have K0_1 := K1.alloc (.cells #[.int .i64 t1.op, .string t1.name, .int .i64 t1.n, .int .i64 t1.ty.kind, .string t1.ty.name, .slice ta1 tn1 tc1, .slice ma1 mn1 mc1] 27)
    have hxR_1 := hR_1.alloc (.cells #[.int .i64 t1.op, .string t1.name, .int .i64 t1.n, .int .i64 t1.ty.kind, .string t1.ty.name, .slice ta1 tn1 tc1, .slice ma1 mn1 mc1] 27)
    have hLt1_1 : Blk (w1.alloc (.cells #[.int .i64 t1.op, .string t1.name, .int .i64 t1.n, .int .i64 t1.ty.kind, .string t1.ty.name, .slice ta1 tn1 tc1, .slice ma1 mn1 mc1] 27)) w1.heap.size 27 (tmCells t1 (.slice ta1 tn1 tc1) (.slice ma1 mn1 mc1)) := Blk.new w1 27 _
    have axt1_1 := at1.frame (Same.alloc _ (.cells #[.int .i64 t1.op, .string t1.name, .int .i64 t1.n, .int .i64 t1.ty.kind, .string t1.ty.name, .slice ta1 tn1 tc1, .slice ma1 mn1 mc1] 27))
    have cxt1_1 := ct1.frame (Same.alloc _ (.cells #[.int .i64 t1.op, .string t1.name, .int .i64 t1.n, .int .i64 t1.ty.kind, .string t1.ty.name, .slice ta1 tn1 tc1, .slice ma1 mn1 mc1] 27))
    have zw1 : (w1.alloc (.cells #[.int .i64 t1.op, .string t1.name, .int .i64 t1.n, .int .i64 t1.ty.kind, .string t1.ty.name, .slice ta1 tn1 tc1, .slice ma1 mn1 mc1] 27)).heap.size = w1.heap.size + 1 := by simp
    have Z1 := Lib.hid zw1
    clear zw1
    go_wp2_with fail
    have zz0 := Z0.out
    have lo2 := h0_1.lt
    refine (rest_any hT HI.out h0_1 (by omega) (n := 6) (by unfold lvOK; omega) t1 ta1 tn1 tc1 ma1 mn1 mc1 (w.alloc (.cells #[.int .i64 0, .string ⟨#[]⟩, .int .i64 0, .int .i64 0, .string ⟨#[]⟩, .slice none 0 0, .slice none 0 0] 27)).heap.size (by omega) (by have := Z1.out; omega) axt1_1 cxt1_1).mono ?_
    rintro e w2 hr
    cases h_2 : restS (termS f s) s 6 (s.size + 2) t1 σ1 with
    | error r =>
      have hq : Hid (termS (f + 1) s 6 σ = .error r) := Lib.hid (by unfold termS; simp only [show ((6 : Nat) == 5) = false from rfl, show ((6 : Nat) == 13) = false from rfl, show (6 + 1 : Nat) = 7 from rfl, h_1, h_2])
      obtain ⟨rfl, k2⟩ := hr.getErr h_2
      clear hr
      go_wp2_with fail
      exact ⟨rfl, RPost.err hq.out ⟨rfl, K0_1.trans k2⟩⟩
    | ok q2 =>
      obtain ⟨t2, σ2⟩ := q2
      obtain ⟨v, rfl, ⟨tk2, kk2, rfl, at2, ct2⟩, p2, k2⟩ := hr.getOk h_2
      clear hr
      have j_2 := inv_rest HI.out _ j_1.2 h0_1.le h_2
      have i_2 := j_2.1
      try unfold Inv at i_2
      try unfold Inv1 at i_2
      obtain ⟨ta2, tn2, tc2, rfl⟩ := at2.slice
      obtain ⟨ma2, mn2, mc2, rfl⟩ := ct2.slice
      unfold tmVal
      have hR_2 := hxR_1.kept k2 (by show ¬ w.heap.size = b; omega)
      have hLt1_2 := hLt1_1.kept k2 (by show ¬ w1.heap.size = b; omega)
      have at1_2 := axt1_1.frame (Same.of_kept k2 (fun k h e => by omega))
      have ct1_2 := cxt1_1.frame (Same.of_kept k2 (fun k h e => by omega))
      have K2 := K0_1.trans k2
      have lb2 := p2.lt
      have zz2 := K2.size
      have zk2 := k2.size
      have lR2 := hR_2.lt
      have lLt12 := hLt1_2.lt
      have hq : Hid (termS (f + 1) s 6 σ = .ok (t2, σ2)) := Lib.hid (by unfold termS; simp only [show ((6 : Nat) == 5) = false from rfl, show ((6 : Nat) == 13) = false from rfl, show (6 + 1 : Nat) = 7 from rfl, h_1, h_2])
      have g0 : w2.cell? ⟨w.heap.size, 0, none⟩ = some (.int .i64 0) := hR_2.cell 0
      have f0 : w2.frozen? ⟨w.heap.size, 0, none⟩ = false := hR_2.frozen 0
      have g1 : w2.cell? ⟨w.heap.size, 1, none⟩ = some (.string ⟨#[]⟩) := hR_2.cell 1
      have f1 : w2.frozen? ⟨w.heap.size, 1, none⟩ = false := hR_2.frozen 1
      have g2 : w2.cell? ⟨w.heap.size, 2, none⟩ = some (.int .i64 0) := hR_2.cell 2
      have f2 : w2.frozen? ⟨w.heap.size, 2, none⟩ = false := hR_2.frozen 2
      have g3 : w2.cell? ⟨w.heap.size, 3, none⟩ = some (.int .i64 0) := hR_2.cell 3
      have f3 : w2.frozen? ⟨w.heap.size, 3, none⟩ = false := hR_2.frozen 3
      have g4 : w2.cell? ⟨w.heap.size, 4, none⟩ = some (.string ⟨#[]⟩) := hR_2.cell 4
      have f4 : w2.frozen? ⟨w.heap.size, 4, none⟩ = false := hR_2.frozen 4
      have g5 : w2.cell? ⟨w.heap.size, 5, none⟩ = some (.slice none 0 0) := hR_2.cell 5
      have f5 : w2.frozen? ⟨w.heap.size, 5, none⟩ = false := hR_2.frozen 5
      have g6 : w2.cell? ⟨w.heap.size, 6, none⟩ = some (.slice none 0 0) := hR_2.cell 6
      have f6 : w2.frozen? ⟨w.heap.size, 6, none⟩ = false := hR_2.frozen 6
      have yt10 : w2.cell? ⟨w1.heap.size, 0, none⟩ = some (.int .i64 t1.op) := hLt1_2.cell 0
      have yt11 : w2.cell? ⟨w1.heap.size, 1, none⟩ = some (.string t1.name) := hLt1_2.cell 1
      have yt12 : w2.cell? ⟨w1.heap.size, 2, none⟩ = some (.int .i64 t1.n) := hLt1_2.cell 2
      have yt13 : w2.cell? ⟨w1.heap.size, 3, none⟩ = some (.int .i64 t1.ty.kind) := hLt1_2.cell 3
      have yt14 : w2.cell? ⟨w1.heap.size, 4, none⟩ = some (.string t1.ty.name) := hLt1_2.cell 4
      have yt15 : w2.cell? ⟨w1.heap.size, 5, none⟩ = some (.slice ta1 tn1 tc1) := hLt1_2.cell 5
      have yt16 : w2.cell? ⟨w1.heap.size, 6, none⟩ = some (.slice ma1 mn1 mc1) := hLt1_2.cell 6
      have l9 : w.heap.size < w2.heap.size := hR_2.lt
      clear zz0
      go_wp2_with fail
      have zz0 := Z0.out
      refine ret_tm Tryz.results33 hq.out rfl rfl ((r7 hR_2 rfl)) ?_ ?_ ((p7w p2 (by omega) (by omega))) ((k7w K2 (Or.inr (Nat.le_refl _))))
      · exact (at2.frame (same7 (R := w.heap.size) (by omega))).mono (fun k _ h => by omega)
      · exact (ct2.frame (same7 (R := w.heap.size) (by omega))).mono (fun k _ h => by omega)
set_option maxHeartbeats 4000000 in
theorem term_l7 {b : Nat} {s : ByteArray} {f : Nat} {w : World} {σ : PS} (hT : TC b s f (termS f s)) (h : PW w b s σ) (hf : 14 * mu s σ + (14 - 7) < f + 1) :
    Calls Tryz.prog 33 #[.pointer (some ⟨b, 0, none⟩), .int .i64 7] w (RPost b s (VTm w.heap.size) (termS (f + 1) s 7 σ) w) := by
  have hI := inv_term f s
  have HI := Lib.hid hI
  clear hI
  have hlt := h.lt
  have hgl := h.gl.lt
  have h0 := h.alloc (.cells #[.int .i64 0, .string ⟨#[]⟩, .int .i64 0, .int .i64 0, .string ⟨#[]⟩, .slice none 0 0, .slice none 0 0] 27)
  have hR0 : Blk (w.alloc (.cells #[.int .i64 0, .string ⟨#[]⟩, .int .i64 0, .int .i64 0, .string ⟨#[]⟩, .slice none 0 0, .slice none 0 0] 27)) w.heap.size 27 z27 := Blk.new w 27 z27
  have K0 : Kept (· = b) w (w.alloc (.cells #[.int .i64 0, .string ⟨#[]⟩, .int .i64 0, .int .i64 0, .string ⟨#[]⟩, .slice none 0 0, .slice none 0 0] 27)) := (Kept.refl _ _).alloc _
  have zw0 : (w.alloc (.cells #[.int .i64 0, .string ⟨#[]⟩, .int .i64 0, .int .i64 0, .string ⟨#[]⟩, .slice none 0 0, .slice none 0 0] 27)).heap.size = w.heap.size + 1 := by simp
  have Z0 := Lib.hid zw0
  clear zw0
  go_enter Tryz.func33, Tryz.ntmps33
  go_wp2_with fail
  have lo1 := h0.lt
  have zz0 := Z0.out
  refine (hT 8 8 rfl σ _ (by decide) (by decide) h0 (by omega)).mono ?_
  clear zz0
  rintro e w1 hr
  cases h_1 : termS f s 8 σ with
  | error r =>
    have hq : Hid (termS (f + 1) s 7 σ = .error r) := Lib.hid (by unfold termS; simp only [show ((7 : Nat) == 5) = false from rfl, show ((7 : Nat) == 13) = false from rfl, show (7 + 1 : Nat) = 8 from rfl, h_1])
    obtain ⟨rfl, k1⟩ := hr.getErr h_1
    clear hr
    go_wp2_with fail
    exact ⟨rfl, RPost.err hq.out ⟨rfl, K0.trans k1⟩⟩
  | ok q1 =>
    obtain ⟨t1, σ1⟩ := q1
    obtain ⟨v, rfl, ⟨tk1, kk1, rfl, at1, ct1⟩, p1, k1⟩ := hr.getOk h_1
    clear hr
    have j_1 := HI.out _ _ _ _ h0.le h_1
    have i_1 := j_1.1
    try unfold Inv at i_1
    try unfold Inv1 at i_1
    obtain ⟨ta1, tn1, tc1, rfl⟩ := at1.slice
    obtain ⟨ma1, mn1, mc1, rfl⟩ := ct1.slice
    unfold tmVal
    have hR_1 := hR0.kept k1 (by show ¬ w.heap.size = b; omega)
    have K1 := K0.trans k1
    have lb1 := p1.lt
    have zz1 := K1.size
    have zk1 := k1.size
    have lR1 := hR_1.lt
    have h0_1 := p1.alloc (.cells #[.int .i64 t1.op, .string t1.name, .int .i64 t1.n, .int .i64 t1.ty.kind, .string t1.ty.name, .slice ta1 tn1 tc1, .slice ma1 mn1 mc1] 27)
    have K0_1 := K1.alloc (.cells #[.int .i64 t1.op, .string t1.name, .int .i64 t1.n, .int .i64 t1.ty.kind, .string t1.ty.name, .slice ta1 tn1 tc1, .slice ma1 mn1 mc1] 27)
    have hxR_1 := hR_1.alloc (.cells #[.int .i64 t1.op, .string t1.name, .int .i64 t1.n, .int .i64 t1.ty.kind, .string t1.ty.name, .slice ta1 tn1 tc1, .slice ma1 mn1 mc1] 27)
    have hLt1_1 : Blk (w1.alloc (.cells #[.int .i64 t1.op, .string t1.name, .int .i64 t1.n, .int .i64 t1.ty.kind, .string t1.ty.name, .slice ta1 tn1 tc1, .slice ma1 mn1 mc1] 27)) w1.heap.size 27 (tmCells t1 (.slice ta1 tn1 tc1) (.slice ma1 mn1 mc1)) := Blk.new w1 27 _
    have axt1_1 := at1.frame (Same.alloc _ (.cells #[.int .i64 t1.op, .string t1.name, .int .i64 t1.n, .int .i64 t1.ty.kind, .string t1.ty.name, .slice ta1 tn1 tc1, .slice ma1 mn1 mc1] 27))
    have cxt1_1 := ct1.frame (Same.alloc _ (.cells #[.int .i64 t1.op, .string t1.name, .int .i64 t1.n, .int .i64 t1.ty.kind, .string t1.ty.name, .slice ta1 tn1 tc1, .slice ma1 mn1 mc1] 27))
    have zw1 : (w1.alloc (.cells #[.int .i64 t1.op, .string t1.name, .int .i64 t1.n, .int .i64 t1.ty.kind, .string t1.ty.name, .slice ta1 tn1 tc1, .slice ma1 mn1 mc1] 27)).heap.size = w1.heap.size + 1 := by simp
    have Z1 := Lib.hid zw1
    clear zw1
    go_wp2_with fail
    have zz0 := Z0.out
    have lo2 := h0_1.lt
    refine (rest_any hT HI.out h0_1 (by omega) (n := 7) (by unfold lvOK; omega) t1 ta1 tn1 tc1 ma1 mn1 mc1 (w.alloc (.cells #[.int .i64 0, .string ⟨#[]⟩, .int .i64 0, .int .i64 0, .string ⟨#[]⟩, .slice none 0 0, .slice none 0 0] 27)).heap.size (by omega) (by have := Z1.out; omega) axt1_1 cxt1_1).mono ?_
    rintro e w2 hr
    cases h_2 : restS (termS f s) s 7 (s.size + 2) t1 σ1 with
    | error r =>
      have hq : Hid (termS (f + 1) s 7 σ = .error r) := Lib.hid (by unfold termS; simp only [show ((7 : Nat) == 5) = false from rfl, show ((7 : Nat) == 13) = false from rfl, show (7 + 1 : Nat) = 8 from rfl, h_1, h_2])
      obtain ⟨rfl, k2⟩ := hr.getErr h_2
      clear hr
      go_wp2_with fail
      exact ⟨rfl, RPost.err hq.out ⟨rfl, K0_1.trans k2⟩⟩
    | ok q2 =>
      obtain ⟨t2, σ2⟩ := q2
      obtain ⟨v, rfl, ⟨tk2, kk2, rfl, at2, ct2⟩, p2, k2⟩ := hr.getOk h_2
      clear hr
      have j_2 := inv_rest HI.out _ j_1.2 h0_1.le h_2
      have i_2 := j_2.1
      try unfold Inv at i_2
      try unfold Inv1 at i_2
      obtain ⟨ta2, tn2, tc2, rfl⟩ := at2.slice
      obtain ⟨ma2, mn2, mc2, rfl⟩ := ct2.slice
      unfold tmVal
      have hR_2 := hxR_1.kept k2 (by show ¬ w.heap.size = b; omega)
      have hLt1_2 := hLt1_1.kept k2 (by show ¬ w1.heap.size = b; omega)
      have at1_2 := axt1_1.frame (Same.of_kept k2 (fun k h e => by omega))
      have ct1_2 := cxt1_1.frame (Same.of_kept k2 (fun k h e => by omega))
      have K2 := K0_1.trans k2
      have lb2 := p2.lt
      have zz2 := K2.size
      have zk2 := k2.size
      have lR2 := hR_2.lt
      have lLt12 := hLt1_2.lt
      have hq : Hid (termS (f + 1) s 7 σ = .ok (t2, σ2)) := Lib.hid (by unfold termS; simp only [show ((7 : Nat) == 5) = false from rfl, show ((7 : Nat) == 13) = false from rfl, show (7 + 1 : Nat) = 8 from rfl, h_1, h_2])
      have g0 : w2.cell? ⟨w.heap.size, 0, none⟩ = some (.int .i64 0) := hR_2.cell 0
      have f0 : w2.frozen? ⟨w.heap.size, 0, none⟩ = false := hR_2.frozen 0
      have g1 : w2.cell? ⟨w.heap.size, 1, none⟩ = some (.string ⟨#[]⟩) := hR_2.cell 1
      have f1 : w2.frozen? ⟨w.heap.size, 1, none⟩ = false := hR_2.frozen 1
      have g2 : w2.cell? ⟨w.heap.size, 2, none⟩ = some (.int .i64 0) := hR_2.cell 2
      have f2 : w2.frozen? ⟨w.heap.size, 2, none⟩ = false := hR_2.frozen 2
      have g3 : w2.cell? ⟨w.heap.size, 3, none⟩ = some (.int .i64 0) := hR_2.cell 3
      have f3 : w2.frozen? ⟨w.heap.size, 3, none⟩ = false := hR_2.frozen 3
      have g4 : w2.cell? ⟨w.heap.size, 4, none⟩ = some (.string ⟨#[]⟩) := hR_2.cell 4
      have f4 : w2.frozen? ⟨w.heap.size, 4, none⟩ = false := hR_2.frozen 4
      have g5 : w2.cell? ⟨w.heap.size, 5, none⟩ = some (.slice none 0 0) := hR_2.cell 5
      have f5 : w2.frozen? ⟨w.heap.size, 5, none⟩ = false := hR_2.frozen 5
      have g6 : w2.cell? ⟨w.heap.size, 6, none⟩ = some (.slice none 0 0) := hR_2.cell 6
      have f6 : w2.frozen? ⟨w.heap.size, 6, none⟩ = false := hR_2.frozen 6
      have yt10 : w2.cell? ⟨w1.heap.size, 0, none⟩ = some (.int .i64 t1.op) := hLt1_2.cell 0
      have yt11 : w2.cell? ⟨w1.heap.size, 1, none⟩ = some (.string t1.name) := hLt1_2.cell 1
      have yt12 : w2.cell? ⟨w1.heap.size, 2, none⟩ = some (.int .i64 t1.n) := hLt1_2.cell 2
      have yt13 : w2.cell? ⟨w1.heap.size, 3, none⟩ = some (.int .i64 t1.ty.kind) := hLt1_2.cell 3
      have yt14 : w2.cell? ⟨w1.heap.size, 4, none⟩ = some (.string t1.ty.name) := hLt1_2.cell 4
      have yt15 : w2.cell? ⟨w1.heap.size, 5, none⟩ = some (.slice ta1 tn1 tc1) := hLt1_2.cell 5
      have yt16 : w2.cell? ⟨w1.heap.size, 6, none⟩ = some (.slice ma1 mn1 mc1) := hLt1_2.cell 6
      have l9 : w.heap.size < w2.heap.size := hR_2.lt
      clear zz0
      go_wp2_with fail
      have zz0 := Z0.out
      refine ret_tm Tryz.results33 hq.out rfl rfl ((r7 hR_2 rfl)) ?_ ?_ ((p7w p2 (by omega) (by omega))) ((k7w K2 (Or.inr (Nat.le_refl _))))
      · exact (at2.frame (same7 (R := w.heap.size) (by omega))).mono (fun k _ h => by omega)
      · exact (ct2.frame (same7 (R := w.heap.size) (by omega))).mono (fun k _ h => by omega)
set_option maxHeartbeats 4000000 in
theorem term_l8 {b : Nat} {s : ByteArray} {f : Nat} {w : World} {σ : PS} (hT : TC b s f (termS f s)) (h : PW w b s σ) (hf : 14 * mu s σ + (14 - 8) < f + 1) :
    Calls Tryz.prog 33 #[.pointer (some ⟨b, 0, none⟩), .int .i64 8] w (RPost b s (VTm w.heap.size) (termS (f + 1) s 8 σ) w) := by
  have hI := inv_term f s
  have HI := Lib.hid hI
  clear hI
  have hlt := h.lt
  have hgl := h.gl.lt
  have h0 := h.alloc (.cells #[.int .i64 0, .string ⟨#[]⟩, .int .i64 0, .int .i64 0, .string ⟨#[]⟩, .slice none 0 0, .slice none 0 0] 27)
  have hR0 : Blk (w.alloc (.cells #[.int .i64 0, .string ⟨#[]⟩, .int .i64 0, .int .i64 0, .string ⟨#[]⟩, .slice none 0 0, .slice none 0 0] 27)) w.heap.size 27 z27 := Blk.new w 27 z27
  have K0 : Kept (· = b) w (w.alloc (.cells #[.int .i64 0, .string ⟨#[]⟩, .int .i64 0, .int .i64 0, .string ⟨#[]⟩, .slice none 0 0, .slice none 0 0] 27)) := (Kept.refl _ _).alloc _
  have zw0 : (w.alloc (.cells #[.int .i64 0, .string ⟨#[]⟩, .int .i64 0, .int .i64 0, .string ⟨#[]⟩, .slice none 0 0, .slice none 0 0] 27)).heap.size = w.heap.size + 1 := by simp
  have Z0 := Lib.hid zw0
  clear zw0
  go_enter Tryz.func33, Tryz.ntmps33
  go_wp2_with fail
  have lo1 := h0.lt
  have zz0 := Z0.out
  refine (hT 9 9 rfl σ _ (by decide) (by decide) h0 (by omega)).mono ?_
  clear zz0
  rintro e w1 hr
  cases h_1 : termS f s 9 σ with
  | error r =>
    have hq : Hid (termS (f + 1) s 8 σ = .error r) := Lib.hid (by unfold termS; simp only [show ((8 : Nat) == 5) = false from rfl, show ((8 : Nat) == 13) = false from rfl, show (8 + 1 : Nat) = 9 from rfl, h_1])
    obtain ⟨rfl, k1⟩ := hr.getErr h_1
    clear hr
    go_wp2_with fail
    exact ⟨rfl, RPost.err hq.out ⟨rfl, K0.trans k1⟩⟩
  | ok q1 =>
    obtain ⟨t1, σ1⟩ := q1
    obtain ⟨v, rfl, ⟨tk1, kk1, rfl, at1, ct1⟩, p1, k1⟩ := hr.getOk h_1
    clear hr
    have j_1 := HI.out _ _ _ _ h0.le h_1
    have i_1 := j_1.1
    try unfold Inv at i_1
    try unfold Inv1 at i_1
    obtain ⟨ta1, tn1, tc1, rfl⟩ := at1.slice
    obtain ⟨ma1, mn1, mc1, rfl⟩ := ct1.slice
    unfold tmVal
    have hR_1 := hR0.kept k1 (by show ¬ w.heap.size = b; omega)
    have K1 := K0.trans k1
    have lb1 := p1.lt
    have zz1 := K1.size
    have zk1 := k1.size
    have lR1 := hR_1.lt
    have h0_1 := p1.alloc (.cells #[.int .i64 t1.op, .string t1.name, .int .i64 t1.n, .int .i64 t1.ty.kind, .string t1.ty.name, .slice ta1 tn1 tc1, .slice ma1 mn1 mc1] 27)
    have K0_1 := K1.alloc (.cells #[.int .i64 t1.op, .string t1.name, .int .i64 t1.n, .int .i64 t1.ty.kind, .string t1.ty.name, .slice ta1 tn1 tc1, .slice ma1 mn1 mc1] 27)
    have hxR_1 := hR_1.alloc (.cells #[.int .i64 t1.op, .string t1.name, .int .i64 t1.n, .int .i64 t1.ty.kind, .string t1.ty.name, .slice ta1 tn1 tc1, .slice ma1 mn1 mc1] 27)
    have hLt1_1 : Blk (w1.alloc (.cells #[.int .i64 t1.op, .string t1.name, .int .i64 t1.n, .int .i64 t1.ty.kind, .string t1.ty.name, .slice ta1 tn1 tc1, .slice ma1 mn1 mc1] 27)) w1.heap.size 27 (tmCells t1 (.slice ta1 tn1 tc1) (.slice ma1 mn1 mc1)) := Blk.new w1 27 _
    have axt1_1 := at1.frame (Same.alloc _ (.cells #[.int .i64 t1.op, .string t1.name, .int .i64 t1.n, .int .i64 t1.ty.kind, .string t1.ty.name, .slice ta1 tn1 tc1, .slice ma1 mn1 mc1] 27))
    have cxt1_1 := ct1.frame (Same.alloc _ (.cells #[.int .i64 t1.op, .string t1.name, .int .i64 t1.n, .int .i64 t1.ty.kind, .string t1.ty.name, .slice ta1 tn1 tc1, .slice ma1 mn1 mc1] 27))
    have zw1 : (w1.alloc (.cells #[.int .i64 t1.op, .string t1.name, .int .i64 t1.n, .int .i64 t1.ty.kind, .string t1.ty.name, .slice ta1 tn1 tc1, .slice ma1 mn1 mc1] 27)).heap.size = w1.heap.size + 1 := by simp
    have Z1 := Lib.hid zw1
    clear zw1
    go_wp2_with fail
    have zz0 := Z0.out
    have lo2 := h0_1.lt
    refine (rest_any hT HI.out h0_1 (by omega) (n := 8) (by unfold lvOK; omega) t1 ta1 tn1 tc1 ma1 mn1 mc1 (w.alloc (.cells #[.int .i64 0, .string ⟨#[]⟩, .int .i64 0, .int .i64 0, .string ⟨#[]⟩, .slice none 0 0, .slice none 0 0] 27)).heap.size (by omega) (by have := Z1.out; omega) axt1_1 cxt1_1).mono ?_
    rintro e w2 hr
    cases h_2 : restS (termS f s) s 8 (s.size + 2) t1 σ1 with
    | error r =>
      have hq : Hid (termS (f + 1) s 8 σ = .error r) := Lib.hid (by unfold termS; simp only [show ((8 : Nat) == 5) = false from rfl, show ((8 : Nat) == 13) = false from rfl, show (8 + 1 : Nat) = 9 from rfl, h_1, h_2])
      obtain ⟨rfl, k2⟩ := hr.getErr h_2
      clear hr
      go_wp2_with fail
      exact ⟨rfl, RPost.err hq.out ⟨rfl, K0_1.trans k2⟩⟩
    | ok q2 =>
      obtain ⟨t2, σ2⟩ := q2
      obtain ⟨v, rfl, ⟨tk2, kk2, rfl, at2, ct2⟩, p2, k2⟩ := hr.getOk h_2
      clear hr
      have j_2 := inv_rest HI.out _ j_1.2 h0_1.le h_2
      have i_2 := j_2.1
      try unfold Inv at i_2
      try unfold Inv1 at i_2
      obtain ⟨ta2, tn2, tc2, rfl⟩ := at2.slice
      obtain ⟨ma2, mn2, mc2, rfl⟩ := ct2.slice
      unfold tmVal
      have hR_2 := hxR_1.kept k2 (by show ¬ w.heap.size = b; omega)
      have hLt1_2 := hLt1_1.kept k2 (by show ¬ w1.heap.size = b; omega)
      have at1_2 := axt1_1.frame (Same.of_kept k2 (fun k h e => by omega))
      have ct1_2 := cxt1_1.frame (Same.of_kept k2 (fun k h e => by omega))
      have K2 := K0_1.trans k2
      have lb2 := p2.lt
      have zz2 := K2.size
      have zk2 := k2.size
      have lR2 := hR_2.lt
      have lLt12 := hLt1_2.lt
      have hq : Hid (termS (f + 1) s 8 σ = .ok (t2, σ2)) := Lib.hid (by unfold termS; simp only [show ((8 : Nat) == 5) = false from rfl, show ((8 : Nat) == 13) = false from rfl, show (8 + 1 : Nat) = 9 from rfl, h_1, h_2])
      have g0 : w2.cell? ⟨w.heap.size, 0, none⟩ = some (.int .i64 0) := hR_2.cell 0
      have f0 : w2.frozen? ⟨w.heap.size, 0, none⟩ = false := hR_2.frozen 0
      have g1 : w2.cell? ⟨w.heap.size, 1, none⟩ = some (.string ⟨#[]⟩) := hR_2.cell 1
      have f1 : w2.frozen? ⟨w.heap.size, 1, none⟩ = false := hR_2.frozen 1
      have g2 : w2.cell? ⟨w.heap.size, 2, none⟩ = some (.int .i64 0) := hR_2.cell 2
      have f2 : w2.frozen? ⟨w.heap.size, 2, none⟩ = false := hR_2.frozen 2
      have g3 : w2.cell? ⟨w.heap.size, 3, none⟩ = some (.int .i64 0) := hR_2.cell 3
      have f3 : w2.frozen? ⟨w.heap.size, 3, none⟩ = false := hR_2.frozen 3
      have g4 : w2.cell? ⟨w.heap.size, 4, none⟩ = some (.string ⟨#[]⟩) := hR_2.cell 4
      have f4 : w2.frozen? ⟨w.heap.size, 4, none⟩ = false := hR_2.frozen 4
      have g5 : w2.cell? ⟨w.heap.size, 5, none⟩ = some (.slice none 0 0) := hR_2.cell 5
      have f5 : w2.frozen? ⟨w.heap.size, 5, none⟩ = false := hR_2.frozen 5
      have g6 : w2.cell? ⟨w.heap.size, 6, none⟩ = some (.slice none 0 0) := hR_2.cell 6
      have f6 : w2.frozen? ⟨w.heap.size, 6, none⟩ = false := hR_2.frozen 6
      have yt10 : w2.cell? ⟨w1.heap.size, 0, none⟩ = some (.int .i64 t1.op) := hLt1_2.cell 0
      have yt11 : w2.cell? ⟨w1.heap.size, 1, none⟩ = some (.string t1.name) := hLt1_2.cell 1
      have yt12 : w2.cell? ⟨w1.heap.size, 2, none⟩ = some (.int .i64 t1.n) := hLt1_2.cell 2
      have yt13 : w2.cell? ⟨w1.heap.size, 3, none⟩ = some (.int .i64 t1.ty.kind) := hLt1_2.cell 3
      have yt14 : w2.cell? ⟨w1.heap.size, 4, none⟩ = some (.string t1.ty.name) := hLt1_2.cell 4
      have yt15 : w2.cell? ⟨w1.heap.size, 5, none⟩ = some (.slice ta1 tn1 tc1) := hLt1_2.cell 5
      have yt16 : w2.cell? ⟨w1.heap.size, 6, none⟩ = some (.slice ma1 mn1 mc1) := hLt1_2.cell 6
      have l9 : w.heap.size < w2.heap.size := hR_2.lt
      clear zz0
      go_wp2_with fail
      have zz0 := Z0.out
      refine ret_tm Tryz.results33 hq.out rfl rfl ((r7 hR_2 rfl)) ?_ ?_ ((p7w p2 (by omega) (by omega))) ((k7w K2 (Or.inr (Nat.le_refl _))))
      · exact (at2.frame (same7 (R := w.heap.size) (by omega))).mono (fun k _ h => by omega)
      · exact (ct2.frame (same7 (R := w.heap.size) (by omega))).mono (fun k _ h => by omega)
set_option maxHeartbeats 4000000 in
theorem term_l9 {b : Nat} {s : ByteArray} {f : Nat} {w : World} {σ : PS} (hT : TC b s f (termS f s)) (h : PW w b s σ) (hf : 14 * mu s σ + (14 - 9) < f + 1) :
    Calls Tryz.prog 33 #[.pointer (some ⟨b, 0, none⟩), .int .i64 9] w (RPost b s (VTm w.heap.size) (termS (f + 1) s 9 σ) w) := by
  have hI := inv_term f s
  have HI := Lib.hid hI
  clear hI
  have hlt := h.lt
  have hgl := h.gl.lt
  have h0 := h.alloc (.cells #[.int .i64 0, .string ⟨#[]⟩, .int .i64 0, .int .i64 0, .string ⟨#[]⟩, .slice none 0 0, .slice none 0 0] 27)
  have hR0 : Blk (w.alloc (.cells #[.int .i64 0, .string ⟨#[]⟩, .int .i64 0, .int .i64 0, .string ⟨#[]⟩, .slice none 0 0, .slice none 0 0] 27)) w.heap.size 27 z27 := Blk.new w 27 z27
  have K0 : Kept (· = b) w (w.alloc (.cells #[.int .i64 0, .string ⟨#[]⟩, .int .i64 0, .int .i64 0, .string ⟨#[]⟩, .slice none 0 0, .slice none 0 0] 27)) := (Kept.refl _ _).alloc _
  have zw0 : (w.alloc (.cells #[.int .i64 0, .string ⟨#[]⟩, .int .i64 0, .int .i64 0, .string ⟨#[]⟩, .slice none 0 0, .slice none 0 0] 27)).heap.size = w.heap.size + 1 := by simp
  have Z0 := Lib.hid zw0
  clear zw0
  go_enter Tryz.func33, Tryz.ntmps33
  go_wp2_with fail
  have lo1 := h0.lt
  have zz0 := Z0.out
  refine (hT 10 10 rfl σ _ (by decide) (by decide) h0 (by omega)).mono ?_
  clear zz0
  rintro e w1 hr
  cases h_1 : termS f s 10 σ with
  | error r =>
    have hq : Hid (termS (f + 1) s 9 σ = .error r) := Lib.hid (by unfold termS; simp only [show ((9 : Nat) == 5) = false from rfl, show ((9 : Nat) == 13) = false from rfl, show (9 + 1 : Nat) = 10 from rfl, h_1])
    obtain ⟨rfl, k1⟩ := hr.getErr h_1
    clear hr
    go_wp2_with fail
    exact ⟨rfl, RPost.err hq.out ⟨rfl, K0.trans k1⟩⟩
  | ok q1 =>
    obtain ⟨t1, σ1⟩ := q1
    obtain ⟨v, rfl, ⟨tk1, kk1, rfl, at1, ct1⟩, p1, k1⟩ := hr.getOk h_1
    clear hr
    have j_1 := HI.out _ _ _ _ h0.le h_1
    have i_1 := j_1.1
    try unfold Inv at i_1
    try unfold Inv1 at i_1
    obtain ⟨ta1, tn1, tc1, rfl⟩ := at1.slice
    obtain ⟨ma1, mn1, mc1, rfl⟩ := ct1.slice
    unfold tmVal
    have hR_1 := hR0.kept k1 (by show ¬ w.heap.size = b; omega)
    have K1 := K0.trans k1
    have lb1 := p1.lt
    have zz1 := K1.size
    have zk1 := k1.size
    have lR1 := hR_1.lt
    have h0_1 := p1.alloc (.cells #[.int .i64 t1.op, .string t1.name, .int .i64 t1.n, .int .i64 t1.ty.kind, .string t1.ty.name, .slice ta1 tn1 tc1, .slice ma1 mn1 mc1] 27)
    have K0_1 := K1.alloc (.cells #[.int .i64 t1.op, .string t1.name, .int .i64 t1.n, .int .i64 t1.ty.kind, .string t1.ty.name, .slice ta1 tn1 tc1, .slice ma1 mn1 mc1] 27)
    have hxR_1 := hR_1.alloc (.cells #[.int .i64 t1.op, .string t1.name, .int .i64 t1.n, .int .i64 t1.ty.kind, .string t1.ty.name, .slice ta1 tn1 tc1, .slice ma1 mn1 mc1] 27)
    have hLt1_1 : Blk (w1.alloc (.cells #[.int .i64 t1.op, .string t1.name, .int .i64 t1.n, .int .i64 t1.ty.kind, .string t1.ty.name, .slice ta1 tn1 tc1, .slice ma1 mn1 mc1] 27)) w1.heap.size 27 (tmCells t1 (.slice ta1 tn1 tc1) (.slice ma1 mn1 mc1)) := Blk.new w1 27 _
    have axt1_1 := at1.frame (Same.alloc _ (.cells #[.int .i64 t1.op, .string t1.name, .int .i64 t1.n, .int .i64 t1.ty.kind, .string t1.ty.name, .slice ta1 tn1 tc1, .slice ma1 mn1 mc1] 27))
    have cxt1_1 := ct1.frame (Same.alloc _ (.cells #[.int .i64 t1.op, .string t1.name, .int .i64 t1.n, .int .i64 t1.ty.kind, .string t1.ty.name, .slice ta1 tn1 tc1, .slice ma1 mn1 mc1] 27))
    have zw1 : (w1.alloc (.cells #[.int .i64 t1.op, .string t1.name, .int .i64 t1.n, .int .i64 t1.ty.kind, .string t1.ty.name, .slice ta1 tn1 tc1, .slice ma1 mn1 mc1] 27)).heap.size = w1.heap.size + 1 := by simp
    have Z1 := Lib.hid zw1
    clear zw1
    go_wp2_with fail
    have zz0 := Z0.out
    have lo2 := h0_1.lt
    refine (rest_any hT HI.out h0_1 (by omega) (n := 9) (by unfold lvOK; omega) t1 ta1 tn1 tc1 ma1 mn1 mc1 (w.alloc (.cells #[.int .i64 0, .string ⟨#[]⟩, .int .i64 0, .int .i64 0, .string ⟨#[]⟩, .slice none 0 0, .slice none 0 0] 27)).heap.size (by omega) (by have := Z1.out; omega) axt1_1 cxt1_1).mono ?_
    rintro e w2 hr
    cases h_2 : restS (termS f s) s 9 (s.size + 2) t1 σ1 with
    | error r =>
      have hq : Hid (termS (f + 1) s 9 σ = .error r) := Lib.hid (by unfold termS; simp only [show ((9 : Nat) == 5) = false from rfl, show ((9 : Nat) == 13) = false from rfl, show (9 + 1 : Nat) = 10 from rfl, h_1, h_2])
      obtain ⟨rfl, k2⟩ := hr.getErr h_2
      clear hr
      go_wp2_with fail
      exact ⟨rfl, RPost.err hq.out ⟨rfl, K0_1.trans k2⟩⟩
    | ok q2 =>
      obtain ⟨t2, σ2⟩ := q2
      obtain ⟨v, rfl, ⟨tk2, kk2, rfl, at2, ct2⟩, p2, k2⟩ := hr.getOk h_2
      clear hr
      have j_2 := inv_rest HI.out _ j_1.2 h0_1.le h_2
      have i_2 := j_2.1
      try unfold Inv at i_2
      try unfold Inv1 at i_2
      obtain ⟨ta2, tn2, tc2, rfl⟩ := at2.slice
      obtain ⟨ma2, mn2, mc2, rfl⟩ := ct2.slice
      unfold tmVal
      have hR_2 := hxR_1.kept k2 (by show ¬ w.heap.size = b; omega)
      have hLt1_2 := hLt1_1.kept k2 (by show ¬ w1.heap.size = b; omega)
      have at1_2 := axt1_1.frame (Same.of_kept k2 (fun k h e => by omega))
      have ct1_2 := cxt1_1.frame (Same.of_kept k2 (fun k h e => by omega))
      have K2 := K0_1.trans k2
      have lb2 := p2.lt
      have zz2 := K2.size
      have zk2 := k2.size
      have lR2 := hR_2.lt
      have lLt12 := hLt1_2.lt
      have hq : Hid (termS (f + 1) s 9 σ = .ok (t2, σ2)) := Lib.hid (by unfold termS; simp only [show ((9 : Nat) == 5) = false from rfl, show ((9 : Nat) == 13) = false from rfl, show (9 + 1 : Nat) = 10 from rfl, h_1, h_2])
      have g0 : w2.cell? ⟨w.heap.size, 0, none⟩ = some (.int .i64 0) := hR_2.cell 0
      have f0 : w2.frozen? ⟨w.heap.size, 0, none⟩ = false := hR_2.frozen 0
      have g1 : w2.cell? ⟨w.heap.size, 1, none⟩ = some (.string ⟨#[]⟩) := hR_2.cell 1
      have f1 : w2.frozen? ⟨w.heap.size, 1, none⟩ = false := hR_2.frozen 1
      have g2 : w2.cell? ⟨w.heap.size, 2, none⟩ = some (.int .i64 0) := hR_2.cell 2
      have f2 : w2.frozen? ⟨w.heap.size, 2, none⟩ = false := hR_2.frozen 2
      have g3 : w2.cell? ⟨w.heap.size, 3, none⟩ = some (.int .i64 0) := hR_2.cell 3
      have f3 : w2.frozen? ⟨w.heap.size, 3, none⟩ = false := hR_2.frozen 3
      have g4 : w2.cell? ⟨w.heap.size, 4, none⟩ = some (.string ⟨#[]⟩) := hR_2.cell 4
      have f4 : w2.frozen? ⟨w.heap.size, 4, none⟩ = false := hR_2.frozen 4
      have g5 : w2.cell? ⟨w.heap.size, 5, none⟩ = some (.slice none 0 0) := hR_2.cell 5
      have f5 : w2.frozen? ⟨w.heap.size, 5, none⟩ = false := hR_2.frozen 5
      have g6 : w2.cell? ⟨w.heap.size, 6, none⟩ = some (.slice none 0 0) := hR_2.cell 6
      have f6 : w2.frozen? ⟨w.heap.size, 6, none⟩ = false := hR_2.frozen 6
      have yt10 : w2.cell? ⟨w1.heap.size, 0, none⟩ = some (.int .i64 t1.op) := hLt1_2.cell 0
      have yt11 : w2.cell? ⟨w1.heap.size, 1, none⟩ = some (.string t1.name) := hLt1_2.cell 1
      have yt12 : w2.cell? ⟨w1.heap.size, 2, none⟩ = some (.int .i64 t1.n) := hLt1_2.cell 2
      have yt13 : w2.cell? ⟨w1.heap.size, 3, none⟩ = some (.int .i64 t1.ty.kind) := hLt1_2.cell 3
      have yt14 : w2.cell? ⟨w1.heap.size, 4, none⟩ = some (.string t1.ty.name) := hLt1_2.cell 4
      have yt15 : w2.cell? ⟨w1.heap.size, 5, none⟩ = some (.slice ta1 tn1 tc1) := hLt1_2.cell 5
      have yt16 : w2.cell? ⟨w1.heap.size, 6, none⟩ = some (.slice ma1 mn1 mc1) := hLt1_2.cell 6
      have l9 : w.heap.size < w2.heap.size := hR_2.lt
      clear zz0
      go_wp2_with fail
      have zz0 := Z0.out
      refine ret_tm Tryz.results33 hq.out rfl rfl ((r7 hR_2 rfl)) ?_ ?_ ((p7w p2 (by omega) (by omega))) ((k7w K2 (Or.inr (Nat.le_refl _))))
      · exact (at2.frame (same7 (R := w.heap.size) (by omega))).mono (fun k _ h => by omega)
      · exact (ct2.frame (same7 (R := w.heap.size) (by omega))).mono (fun k _ h => by omega)
set_option maxHeartbeats 4000000 in
theorem term_l10 {b : Nat} {s : ByteArray} {f : Nat} {w : World} {σ : PS} (hT : TC b s f (termS f s)) (h : PW w b s σ) (hf : 14 * mu s σ + (14 - 10) < f + 1) :
    Calls Tryz.prog 33 #[.pointer (some ⟨b, 0, none⟩), .int .i64 10] w (RPost b s (VTm w.heap.size) (termS (f + 1) s 10 σ) w) := by
  have hI := inv_term f s
  have HI := Lib.hid hI
  clear hI
  have hlt := h.lt
  have hgl := h.gl.lt
  have h0 := h.alloc (.cells #[.int .i64 0, .string ⟨#[]⟩, .int .i64 0, .int .i64 0, .string ⟨#[]⟩, .slice none 0 0, .slice none 0 0] 27)
  have hR0 : Blk (w.alloc (.cells #[.int .i64 0, .string ⟨#[]⟩, .int .i64 0, .int .i64 0, .string ⟨#[]⟩, .slice none 0 0, .slice none 0 0] 27)) w.heap.size 27 z27 := Blk.new w 27 z27
  have K0 : Kept (· = b) w (w.alloc (.cells #[.int .i64 0, .string ⟨#[]⟩, .int .i64 0, .int .i64 0, .string ⟨#[]⟩, .slice none 0 0, .slice none 0 0] 27)) := (Kept.refl _ _).alloc _
  have zw0 : (w.alloc (.cells #[.int .i64 0, .string ⟨#[]⟩, .int .i64 0, .int .i64 0, .string ⟨#[]⟩, .slice none 0 0, .slice none 0 0] 27)).heap.size = w.heap.size + 1 := by simp
  have Z0 := Lib.hid zw0
  clear zw0
  go_enter Tryz.func33, Tryz.ntmps33
  go_wp2_with fail
  have lo1 := h0.lt
  have zz0 := Z0.out
  refine (hT 11 11 rfl σ _ (by decide) (by decide) h0 (by omega)).mono ?_
  clear zz0
  rintro e w1 hr
  cases h_1 : termS f s 11 σ with
  | error r =>
    have hq : Hid (termS (f + 1) s 10 σ = .error r) := Lib.hid (by unfold termS; simp only [show ((10 : Nat) == 5) = false from rfl, show ((10 : Nat) == 13) = false from rfl, show (10 + 1 : Nat) = 11 from rfl, h_1])
    obtain ⟨rfl, k1⟩ := hr.getErr h_1
    clear hr
    go_wp2_with fail
    exact ⟨rfl, RPost.err hq.out ⟨rfl, K0.trans k1⟩⟩
  | ok q1 =>
    obtain ⟨t1, σ1⟩ := q1
    obtain ⟨v, rfl, ⟨tk1, kk1, rfl, at1, ct1⟩, p1, k1⟩ := hr.getOk h_1
    clear hr
    have j_1 := HI.out _ _ _ _ h0.le h_1
    have i_1 := j_1.1
    try unfold Inv at i_1
    try unfold Inv1 at i_1
    obtain ⟨ta1, tn1, tc1, rfl⟩ := at1.slice
    obtain ⟨ma1, mn1, mc1, rfl⟩ := ct1.slice
    unfold tmVal
    have hR_1 := hR0.kept k1 (by show ¬ w.heap.size = b; omega)
    have K1 := K0.trans k1
    have lb1 := p1.lt
    have zz1 := K1.size
    have zk1 := k1.size
    have lR1 := hR_1.lt
    have h0_1 := p1.alloc (.cells #[.int .i64 t1.op, .string t1.name, .int .i64 t1.n, .int .i64 t1.ty.kind, .string t1.ty.name, .slice ta1 tn1 tc1, .slice ma1 mn1 mc1] 27)
    have K0_1 := K1.alloc (.cells #[.int .i64 t1.op, .string t1.name, .int .i64 t1.n, .int .i64 t1.ty.kind, .string t1.ty.name, .slice ta1 tn1 tc1, .slice ma1 mn1 mc1] 27)
    have hxR_1 := hR_1.alloc (.cells #[.int .i64 t1.op, .string t1.name, .int .i64 t1.n, .int .i64 t1.ty.kind, .string t1.ty.name, .slice ta1 tn1 tc1, .slice ma1 mn1 mc1] 27)
    have hLt1_1 : Blk (w1.alloc (.cells #[.int .i64 t1.op, .string t1.name, .int .i64 t1.n, .int .i64 t1.ty.kind, .string t1.ty.name, .slice ta1 tn1 tc1, .slice ma1 mn1 mc1] 27)) w1.heap.size 27 (tmCells t1 (.slice ta1 tn1 tc1) (.slice ma1 mn1 mc1)) := Blk.new w1 27 _
    have axt1_1 := at1.frame (Same.alloc _ (.cells #[.int .i64 t1.op, .string t1.name, .int .i64 t1.n, .int .i64 t1.ty.kind, .string t1.ty.name, .slice ta1 tn1 tc1, .slice ma1 mn1 mc1] 27))
    have cxt1_1 := ct1.frame (Same.alloc _ (.cells #[.int .i64 t1.op, .string t1.name, .int .i64 t1.n, .int .i64 t1.ty.kind, .string t1.ty.name, .slice ta1 tn1 tc1, .slice ma1 mn1 mc1] 27))
    have zw1 : (w1.alloc (.cells #[.int .i64 t1.op, .string t1.name, .int .i64 t1.n, .int .i64 t1.ty.kind, .string t1.ty.name, .slice ta1 tn1 tc1, .slice ma1 mn1 mc1] 27)).heap.size = w1.heap.size + 1 := by simp
    have Z1 := Lib.hid zw1
    clear zw1
    go_wp2_with fail
    have zz0 := Z0.out
    have lo2 := h0_1.lt
    refine (rest_any hT HI.out h0_1 (by omega) (n := 10) (by unfold lvOK; omega) t1 ta1 tn1 tc1 ma1 mn1 mc1 (w.alloc (.cells #[.int .i64 0, .string ⟨#[]⟩, .int .i64 0, .int .i64 0, .string ⟨#[]⟩, .slice none 0 0, .slice none 0 0] 27)).heap.size (by omega) (by have := Z1.out; omega) axt1_1 cxt1_1).mono ?_
    rintro e w2 hr
    cases h_2 : restS (termS f s) s 10 (s.size + 2) t1 σ1 with
    | error r =>
      have hq : Hid (termS (f + 1) s 10 σ = .error r) := Lib.hid (by unfold termS; simp only [show ((10 : Nat) == 5) = false from rfl, show ((10 : Nat) == 13) = false from rfl, show (10 + 1 : Nat) = 11 from rfl, h_1, h_2])
      obtain ⟨rfl, k2⟩ := hr.getErr h_2
      clear hr
      go_wp2_with fail
      exact ⟨rfl, RPost.err hq.out ⟨rfl, K0_1.trans k2⟩⟩
    | ok q2 =>
      obtain ⟨t2, σ2⟩ := q2
      obtain ⟨v, rfl, ⟨tk2, kk2, rfl, at2, ct2⟩, p2, k2⟩ := hr.getOk h_2
      clear hr
      have j_2 := inv_rest HI.out _ j_1.2 h0_1.le h_2
      have i_2 := j_2.1
      try unfold Inv at i_2
      try unfold Inv1 at i_2
      obtain ⟨ta2, tn2, tc2, rfl⟩ := at2.slice
      obtain ⟨ma2, mn2, mc2, rfl⟩ := ct2.slice
      unfold tmVal
      have hR_2 := hxR_1.kept k2 (by show ¬ w.heap.size = b; omega)
      have hLt1_2 := hLt1_1.kept k2 (by show ¬ w1.heap.size = b; omega)
      have at1_2 := axt1_1.frame (Same.of_kept k2 (fun k h e => by omega))
      have ct1_2 := cxt1_1.frame (Same.of_kept k2 (fun k h e => by omega))
      have K2 := K0_1.trans k2
      have lb2 := p2.lt
      have zz2 := K2.size
      have zk2 := k2.size
      have lR2 := hR_2.lt
      have lLt12 := hLt1_2.lt
      have hq : Hid (termS (f + 1) s 10 σ = .ok (t2, σ2)) := Lib.hid (by unfold termS; simp only [show ((10 : Nat) == 5) = false from rfl, show ((10 : Nat) == 13) = false from rfl, show (10 + 1 : Nat) = 11 from rfl, h_1, h_2])
      have g0 : w2.cell? ⟨w.heap.size, 0, none⟩ = some (.int .i64 0) := hR_2.cell 0
      have f0 : w2.frozen? ⟨w.heap.size, 0, none⟩ = false := hR_2.frozen 0
      have g1 : w2.cell? ⟨w.heap.size, 1, none⟩ = some (.string ⟨#[]⟩) := hR_2.cell 1
      have f1 : w2.frozen? ⟨w.heap.size, 1, none⟩ = false := hR_2.frozen 1
      have g2 : w2.cell? ⟨w.heap.size, 2, none⟩ = some (.int .i64 0) := hR_2.cell 2
      have f2 : w2.frozen? ⟨w.heap.size, 2, none⟩ = false := hR_2.frozen 2
      have g3 : w2.cell? ⟨w.heap.size, 3, none⟩ = some (.int .i64 0) := hR_2.cell 3
      have f3 : w2.frozen? ⟨w.heap.size, 3, none⟩ = false := hR_2.frozen 3
      have g4 : w2.cell? ⟨w.heap.size, 4, none⟩ = some (.string ⟨#[]⟩) := hR_2.cell 4
      have f4 : w2.frozen? ⟨w.heap.size, 4, none⟩ = false := hR_2.frozen 4
      have g5 : w2.cell? ⟨w.heap.size, 5, none⟩ = some (.slice none 0 0) := hR_2.cell 5
      have f5 : w2.frozen? ⟨w.heap.size, 5, none⟩ = false := hR_2.frozen 5
      have g6 : w2.cell? ⟨w.heap.size, 6, none⟩ = some (.slice none 0 0) := hR_2.cell 6
      have f6 : w2.frozen? ⟨w.heap.size, 6, none⟩ = false := hR_2.frozen 6
      have yt10 : w2.cell? ⟨w1.heap.size, 0, none⟩ = some (.int .i64 t1.op) := hLt1_2.cell 0
      have yt11 : w2.cell? ⟨w1.heap.size, 1, none⟩ = some (.string t1.name) := hLt1_2.cell 1
      have yt12 : w2.cell? ⟨w1.heap.size, 2, none⟩ = some (.int .i64 t1.n) := hLt1_2.cell 2
      have yt13 : w2.cell? ⟨w1.heap.size, 3, none⟩ = some (.int .i64 t1.ty.kind) := hLt1_2.cell 3
      have yt14 : w2.cell? ⟨w1.heap.size, 4, none⟩ = some (.string t1.ty.name) := hLt1_2.cell 4
      have yt15 : w2.cell? ⟨w1.heap.size, 5, none⟩ = some (.slice ta1 tn1 tc1) := hLt1_2.cell 5
      have yt16 : w2.cell? ⟨w1.heap.size, 6, none⟩ = some (.slice ma1 mn1 mc1) := hLt1_2.cell 6
      have l9 : w.heap.size < w2.heap.size := hR_2.lt
      clear zz0
      go_wp2_with fail
      have zz0 := Z0.out
      refine ret_tm Tryz.results33 hq.out rfl rfl ((r7 hR_2 rfl)) ?_ ?_ ((p7w p2 (by omega) (by omega))) ((k7w K2 (Or.inr (Nat.le_refl _))))
      · exact (at2.frame (same7 (R := w.heap.size) (by omega))).mono (fun k _ h => by omega)
      · exact (ct2.frame (same7 (R := w.heap.size) (by omega))).mono (fun k _ h => by omega)
set_option maxHeartbeats 4000000 in
theorem term_l11 {b : Nat} {s : ByteArray} {f : Nat} {w : World} {σ : PS} (hT : TC b s f (termS f s)) (h : PW w b s σ) (hf : 14 * mu s σ + (14 - 11) < f + 1) :
    Calls Tryz.prog 33 #[.pointer (some ⟨b, 0, none⟩), .int .i64 11] w (RPost b s (VTm w.heap.size) (termS (f + 1) s 11 σ) w) := by
  have hI := inv_term f s
  have HI := Lib.hid hI
  clear hI
  have hlt := h.lt
  have hgl := h.gl.lt
  have h0 := h.alloc (.cells #[.int .i64 0, .string ⟨#[]⟩, .int .i64 0, .int .i64 0, .string ⟨#[]⟩, .slice none 0 0, .slice none 0 0] 27)
  have hR0 : Blk (w.alloc (.cells #[.int .i64 0, .string ⟨#[]⟩, .int .i64 0, .int .i64 0, .string ⟨#[]⟩, .slice none 0 0, .slice none 0 0] 27)) w.heap.size 27 z27 := Blk.new w 27 z27
  have K0 : Kept (· = b) w (w.alloc (.cells #[.int .i64 0, .string ⟨#[]⟩, .int .i64 0, .int .i64 0, .string ⟨#[]⟩, .slice none 0 0, .slice none 0 0] 27)) := (Kept.refl _ _).alloc _
  have zw0 : (w.alloc (.cells #[.int .i64 0, .string ⟨#[]⟩, .int .i64 0, .int .i64 0, .string ⟨#[]⟩, .slice none 0 0, .slice none 0 0] 27)).heap.size = w.heap.size + 1 := by simp
  have Z0 := Lib.hid zw0
  clear zw0
  go_enter Tryz.func33, Tryz.ntmps33
  go_wp2_with fail
  have lo1 := h0.lt
  have zz0 := Z0.out
  refine (hT 12 12 rfl σ _ (by decide) (by decide) h0 (by omega)).mono ?_
  clear zz0
  rintro e w1 hr
  cases h_1 : termS f s 12 σ with
  | error r =>
    have hq : Hid (termS (f + 1) s 11 σ = .error r) := Lib.hid (by unfold termS; simp only [show ((11 : Nat) == 5) = false from rfl, show ((11 : Nat) == 13) = false from rfl, show (11 + 1 : Nat) = 12 from rfl, h_1])
    obtain ⟨rfl, k1⟩ := hr.getErr h_1
    clear hr
    go_wp2_with fail
    exact ⟨rfl, RPost.err hq.out ⟨rfl, K0.trans k1⟩⟩
  | ok q1 =>
    obtain ⟨t1, σ1⟩ := q1
    obtain ⟨v, rfl, ⟨tk1, kk1, rfl, at1, ct1⟩, p1, k1⟩ := hr.getOk h_1
    clear hr
    have j_1 := HI.out _ _ _ _ h0.le h_1
    have i_1 := j_1.1
    try unfold Inv at i_1
    try unfold Inv1 at i_1
    obtain ⟨ta1, tn1, tc1, rfl⟩ := at1.slice
    obtain ⟨ma1, mn1, mc1, rfl⟩ := ct1.slice
    unfold tmVal
    have hR_1 := hR0.kept k1 (by show ¬ w.heap.size = b; omega)
    have K1 := K0.trans k1
    have lb1 := p1.lt
    have zz1 := K1.size
    have zk1 := k1.size
    have lR1 := hR_1.lt
    have h0_1 := p1.alloc (.cells #[.int .i64 t1.op, .string t1.name, .int .i64 t1.n, .int .i64 t1.ty.kind, .string t1.ty.name, .slice ta1 tn1 tc1, .slice ma1 mn1 mc1] 27)
    have K0_1 := K1.alloc (.cells #[.int .i64 t1.op, .string t1.name, .int .i64 t1.n, .int .i64 t1.ty.kind, .string t1.ty.name, .slice ta1 tn1 tc1, .slice ma1 mn1 mc1] 27)
    have hxR_1 := hR_1.alloc (.cells #[.int .i64 t1.op, .string t1.name, .int .i64 t1.n, .int .i64 t1.ty.kind, .string t1.ty.name, .slice ta1 tn1 tc1, .slice ma1 mn1 mc1] 27)
    have hLt1_1 : Blk (w1.alloc (.cells #[.int .i64 t1.op, .string t1.name, .int .i64 t1.n, .int .i64 t1.ty.kind, .string t1.ty.name, .slice ta1 tn1 tc1, .slice ma1 mn1 mc1] 27)) w1.heap.size 27 (tmCells t1 (.slice ta1 tn1 tc1) (.slice ma1 mn1 mc1)) := Blk.new w1 27 _
    have axt1_1 := at1.frame (Same.alloc _ (.cells #[.int .i64 t1.op, .string t1.name, .int .i64 t1.n, .int .i64 t1.ty.kind, .string t1.ty.name, .slice ta1 tn1 tc1, .slice ma1 mn1 mc1] 27))
    have cxt1_1 := ct1.frame (Same.alloc _ (.cells #[.int .i64 t1.op, .string t1.name, .int .i64 t1.n, .int .i64 t1.ty.kind, .string t1.ty.name, .slice ta1 tn1 tc1, .slice ma1 mn1 mc1] 27))
    have zw1 : (w1.alloc (.cells #[.int .i64 t1.op, .string t1.name, .int .i64 t1.n, .int .i64 t1.ty.kind, .string t1.ty.name, .slice ta1 tn1 tc1, .slice ma1 mn1 mc1] 27)).heap.size = w1.heap.size + 1 := by simp
    have Z1 := Lib.hid zw1
    clear zw1
    go_wp2_with fail
    have zz0 := Z0.out
    have lo2 := h0_1.lt
    refine (rest_any hT HI.out h0_1 (by omega) (n := 11) (by unfold lvOK; omega) t1 ta1 tn1 tc1 ma1 mn1 mc1 (w.alloc (.cells #[.int .i64 0, .string ⟨#[]⟩, .int .i64 0, .int .i64 0, .string ⟨#[]⟩, .slice none 0 0, .slice none 0 0] 27)).heap.size (by omega) (by have := Z1.out; omega) axt1_1 cxt1_1).mono ?_
    rintro e w2 hr
    cases h_2 : restS (termS f s) s 11 (s.size + 2) t1 σ1 with
    | error r =>
      have hq : Hid (termS (f + 1) s 11 σ = .error r) := Lib.hid (by unfold termS; simp only [show ((11 : Nat) == 5) = false from rfl, show ((11 : Nat) == 13) = false from rfl, show (11 + 1 : Nat) = 12 from rfl, h_1, h_2])
      obtain ⟨rfl, k2⟩ := hr.getErr h_2
      clear hr
      go_wp2_with fail
      exact ⟨rfl, RPost.err hq.out ⟨rfl, K0_1.trans k2⟩⟩
    | ok q2 =>
      obtain ⟨t2, σ2⟩ := q2
      obtain ⟨v, rfl, ⟨tk2, kk2, rfl, at2, ct2⟩, p2, k2⟩ := hr.getOk h_2
      clear hr
      have j_2 := inv_rest HI.out _ j_1.2 h0_1.le h_2
      have i_2 := j_2.1
      try unfold Inv at i_2
      try unfold Inv1 at i_2
      obtain ⟨ta2, tn2, tc2, rfl⟩ := at2.slice
      obtain ⟨ma2, mn2, mc2, rfl⟩ := ct2.slice
      unfold tmVal
      have hR_2 := hxR_1.kept k2 (by show ¬ w.heap.size = b; omega)
      have hLt1_2 := hLt1_1.kept k2 (by show ¬ w1.heap.size = b; omega)
      have at1_2 := axt1_1.frame (Same.of_kept k2 (fun k h e => by omega))
      have ct1_2 := cxt1_1.frame (Same.of_kept k2 (fun k h e => by omega))
      have K2 := K0_1.trans k2
      have lb2 := p2.lt
      have zz2 := K2.size
      have zk2 := k2.size
      have lR2 := hR_2.lt
      have lLt12 := hLt1_2.lt
      have hq : Hid (termS (f + 1) s 11 σ = .ok (t2, σ2)) := Lib.hid (by unfold termS; simp only [show ((11 : Nat) == 5) = false from rfl, show ((11 : Nat) == 13) = false from rfl, show (11 + 1 : Nat) = 12 from rfl, h_1, h_2])
      have g0 : w2.cell? ⟨w.heap.size, 0, none⟩ = some (.int .i64 0) := hR_2.cell 0
      have f0 : w2.frozen? ⟨w.heap.size, 0, none⟩ = false := hR_2.frozen 0
      have g1 : w2.cell? ⟨w.heap.size, 1, none⟩ = some (.string ⟨#[]⟩) := hR_2.cell 1
      have f1 : w2.frozen? ⟨w.heap.size, 1, none⟩ = false := hR_2.frozen 1
      have g2 : w2.cell? ⟨w.heap.size, 2, none⟩ = some (.int .i64 0) := hR_2.cell 2
      have f2 : w2.frozen? ⟨w.heap.size, 2, none⟩ = false := hR_2.frozen 2
      have g3 : w2.cell? ⟨w.heap.size, 3, none⟩ = some (.int .i64 0) := hR_2.cell 3
      have f3 : w2.frozen? ⟨w.heap.size, 3, none⟩ = false := hR_2.frozen 3
      have g4 : w2.cell? ⟨w.heap.size, 4, none⟩ = some (.string ⟨#[]⟩) := hR_2.cell 4
      have f4 : w2.frozen? ⟨w.heap.size, 4, none⟩ = false := hR_2.frozen 4
      have g5 : w2.cell? ⟨w.heap.size, 5, none⟩ = some (.slice none 0 0) := hR_2.cell 5
      have f5 : w2.frozen? ⟨w.heap.size, 5, none⟩ = false := hR_2.frozen 5
      have g6 : w2.cell? ⟨w.heap.size, 6, none⟩ = some (.slice none 0 0) := hR_2.cell 6
      have f6 : w2.frozen? ⟨w.heap.size, 6, none⟩ = false := hR_2.frozen 6
      have yt10 : w2.cell? ⟨w1.heap.size, 0, none⟩ = some (.int .i64 t1.op) := hLt1_2.cell 0
      have yt11 : w2.cell? ⟨w1.heap.size, 1, none⟩ = some (.string t1.name) := hLt1_2.cell 1
      have yt12 : w2.cell? ⟨w1.heap.size, 2, none⟩ = some (.int .i64 t1.n) := hLt1_2.cell 2
      have yt13 : w2.cell? ⟨w1.heap.size, 3, none⟩ = some (.int .i64 t1.ty.kind) := hLt1_2.cell 3
      have yt14 : w2.cell? ⟨w1.heap.size, 4, none⟩ = some (.string t1.ty.name) := hLt1_2.cell 4
      have yt15 : w2.cell? ⟨w1.heap.size, 5, none⟩ = some (.slice ta1 tn1 tc1) := hLt1_2.cell 5
      have yt16 : w2.cell? ⟨w1.heap.size, 6, none⟩ = some (.slice ma1 mn1 mc1) := hLt1_2.cell 6
      have l9 : w.heap.size < w2.heap.size := hR_2.lt
      clear zz0
      go_wp2_with fail
      have zz0 := Z0.out
      refine ret_tm Tryz.results33 hq.out rfl rfl ((r7 hR_2 rfl)) ?_ ?_ ((p7w p2 (by omega) (by omega))) ((k7w K2 (Or.inr (Nat.le_refl _))))
      · exact (at2.frame (same7 (R := w.heap.size) (by omega))).mono (fun k _ h => by omega)
      · exact (ct2.frame (same7 (R := w.heap.size) (by omega))).mono (fun k _ h => by omega)
set_option maxHeartbeats 4000000 in
theorem term_l12 {b : Nat} {s : ByteArray} {f : Nat} {w : World} {σ : PS} (hT : TC b s f (termS f s)) (h : PW w b s σ) (hf : 14 * mu s σ + (14 - 12) < f + 1) :
    Calls Tryz.prog 33 #[.pointer (some ⟨b, 0, none⟩), .int .i64 12] w (RPost b s (VTm w.heap.size) (termS (f + 1) s 12 σ) w) := by
  have hI := inv_term f s
  have HI := Lib.hid hI
  clear hI
  have hlt := h.lt
  have hgl := h.gl.lt
  have h0 := h.alloc (.cells #[.int .i64 0, .string ⟨#[]⟩, .int .i64 0, .int .i64 0, .string ⟨#[]⟩, .slice none 0 0, .slice none 0 0] 27)
  have hR0 : Blk (w.alloc (.cells #[.int .i64 0, .string ⟨#[]⟩, .int .i64 0, .int .i64 0, .string ⟨#[]⟩, .slice none 0 0, .slice none 0 0] 27)) w.heap.size 27 z27 := Blk.new w 27 z27
  have K0 : Kept (· = b) w (w.alloc (.cells #[.int .i64 0, .string ⟨#[]⟩, .int .i64 0, .int .i64 0, .string ⟨#[]⟩, .slice none 0 0, .slice none 0 0] 27)) := (Kept.refl _ _).alloc _
  have zw0 : (w.alloc (.cells #[.int .i64 0, .string ⟨#[]⟩, .int .i64 0, .int .i64 0, .string ⟨#[]⟩, .slice none 0 0, .slice none 0 0] 27)).heap.size = w.heap.size + 1 := by simp
  have Z0 := Lib.hid zw0
  clear zw0
  go_enter Tryz.func33, Tryz.ntmps33
  go_wp2_with fail
  have lo1 := h0.lt
  have zz0 := Z0.out
  refine (hT 13 13 rfl σ _ (by decide) (by decide) h0 (by omega)).mono ?_
  clear zz0
  rintro e w1 hr
  cases h_1 : termS f s 13 σ with
  | error r =>
    have hq : Hid (termS (f + 1) s 12 σ = .error r) := Lib.hid (by unfold termS; simp only [show ((12 : Nat) == 5) = false from rfl, show ((12 : Nat) == 13) = false from rfl, show (12 + 1 : Nat) = 13 from rfl, h_1])
    obtain ⟨rfl, k1⟩ := hr.getErr h_1
    clear hr
    go_wp2_with fail
    exact ⟨rfl, RPost.err hq.out ⟨rfl, K0.trans k1⟩⟩
  | ok q1 =>
    obtain ⟨t1, σ1⟩ := q1
    obtain ⟨v, rfl, ⟨tk1, kk1, rfl, at1, ct1⟩, p1, k1⟩ := hr.getOk h_1
    clear hr
    have j_1 := HI.out _ _ _ _ h0.le h_1
    have i_1 := j_1.1
    try unfold Inv at i_1
    try unfold Inv1 at i_1
    obtain ⟨ta1, tn1, tc1, rfl⟩ := at1.slice
    obtain ⟨ma1, mn1, mc1, rfl⟩ := ct1.slice
    unfold tmVal
    have hR_1 := hR0.kept k1 (by show ¬ w.heap.size = b; omega)
    have K1 := K0.trans k1
    have lb1 := p1.lt
    have zz1 := K1.size
    have zk1 := k1.size
    have lR1 := hR_1.lt
    have h0_1 := p1.alloc (.cells #[.int .i64 t1.op, .string t1.name, .int .i64 t1.n, .int .i64 t1.ty.kind, .string t1.ty.name, .slice ta1 tn1 tc1, .slice ma1 mn1 mc1] 27)
    have K0_1 := K1.alloc (.cells #[.int .i64 t1.op, .string t1.name, .int .i64 t1.n, .int .i64 t1.ty.kind, .string t1.ty.name, .slice ta1 tn1 tc1, .slice ma1 mn1 mc1] 27)
    have hxR_1 := hR_1.alloc (.cells #[.int .i64 t1.op, .string t1.name, .int .i64 t1.n, .int .i64 t1.ty.kind, .string t1.ty.name, .slice ta1 tn1 tc1, .slice ma1 mn1 mc1] 27)
    have hLt1_1 : Blk (w1.alloc (.cells #[.int .i64 t1.op, .string t1.name, .int .i64 t1.n, .int .i64 t1.ty.kind, .string t1.ty.name, .slice ta1 tn1 tc1, .slice ma1 mn1 mc1] 27)) w1.heap.size 27 (tmCells t1 (.slice ta1 tn1 tc1) (.slice ma1 mn1 mc1)) := Blk.new w1 27 _
    have axt1_1 := at1.frame (Same.alloc _ (.cells #[.int .i64 t1.op, .string t1.name, .int .i64 t1.n, .int .i64 t1.ty.kind, .string t1.ty.name, .slice ta1 tn1 tc1, .slice ma1 mn1 mc1] 27))
    have cxt1_1 := ct1.frame (Same.alloc _ (.cells #[.int .i64 t1.op, .string t1.name, .int .i64 t1.n, .int .i64 t1.ty.kind, .string t1.ty.name, .slice ta1 tn1 tc1, .slice ma1 mn1 mc1] 27))
    have zw1 : (w1.alloc (.cells #[.int .i64 t1.op, .string t1.name, .int .i64 t1.n, .int .i64 t1.ty.kind, .string t1.ty.name, .slice ta1 tn1 tc1, .slice ma1 mn1 mc1] 27)).heap.size = w1.heap.size + 1 := by simp
    have Z1 := Lib.hid zw1
    clear zw1
    go_wp2_with fail
    have zz0 := Z0.out
    have lo2 := h0_1.lt
    refine (rest_any hT HI.out h0_1 (by omega) (n := 12) (by unfold lvOK; omega) t1 ta1 tn1 tc1 ma1 mn1 mc1 (w.alloc (.cells #[.int .i64 0, .string ⟨#[]⟩, .int .i64 0, .int .i64 0, .string ⟨#[]⟩, .slice none 0 0, .slice none 0 0] 27)).heap.size (by omega) (by have := Z1.out; omega) axt1_1 cxt1_1).mono ?_
    rintro e w2 hr
    cases h_2 : restS (termS f s) s 12 (s.size + 2) t1 σ1 with
    | error r =>
      have hq : Hid (termS (f + 1) s 12 σ = .error r) := Lib.hid (by unfold termS; simp only [show ((12 : Nat) == 5) = false from rfl, show ((12 : Nat) == 13) = false from rfl, show (12 + 1 : Nat) = 13 from rfl, h_1, h_2])
      obtain ⟨rfl, k2⟩ := hr.getErr h_2
      clear hr
      go_wp2_with fail
      exact ⟨rfl, RPost.err hq.out ⟨rfl, K0_1.trans k2⟩⟩
    | ok q2 =>
      obtain ⟨t2, σ2⟩ := q2
      obtain ⟨v, rfl, ⟨tk2, kk2, rfl, at2, ct2⟩, p2, k2⟩ := hr.getOk h_2
      clear hr
      have j_2 := inv_rest HI.out _ j_1.2 h0_1.le h_2
      have i_2 := j_2.1
      try unfold Inv at i_2
      try unfold Inv1 at i_2
      obtain ⟨ta2, tn2, tc2, rfl⟩ := at2.slice
      obtain ⟨ma2, mn2, mc2, rfl⟩ := ct2.slice
      unfold tmVal
      have hR_2 := hxR_1.kept k2 (by show ¬ w.heap.size = b; omega)
      have hLt1_2 := hLt1_1.kept k2 (by show ¬ w1.heap.size = b; omega)
      have at1_2 := axt1_1.frame (Same.of_kept k2 (fun k h e => by omega))
      have ct1_2 := cxt1_1.frame (Same.of_kept k2 (fun k h e => by omega))
      have K2 := K0_1.trans k2
      have lb2 := p2.lt
      have zz2 := K2.size
      have zk2 := k2.size
      have lR2 := hR_2.lt
      have lLt12 := hLt1_2.lt
      have hq : Hid (termS (f + 1) s 12 σ = .ok (t2, σ2)) := Lib.hid (by unfold termS; simp only [show ((12 : Nat) == 5) = false from rfl, show ((12 : Nat) == 13) = false from rfl, show (12 + 1 : Nat) = 13 from rfl, h_1, h_2])
      have g0 : w2.cell? ⟨w.heap.size, 0, none⟩ = some (.int .i64 0) := hR_2.cell 0
      have f0 : w2.frozen? ⟨w.heap.size, 0, none⟩ = false := hR_2.frozen 0
      have g1 : w2.cell? ⟨w.heap.size, 1, none⟩ = some (.string ⟨#[]⟩) := hR_2.cell 1
      have f1 : w2.frozen? ⟨w.heap.size, 1, none⟩ = false := hR_2.frozen 1
      have g2 : w2.cell? ⟨w.heap.size, 2, none⟩ = some (.int .i64 0) := hR_2.cell 2
      have f2 : w2.frozen? ⟨w.heap.size, 2, none⟩ = false := hR_2.frozen 2
      have g3 : w2.cell? ⟨w.heap.size, 3, none⟩ = some (.int .i64 0) := hR_2.cell 3
      have f3 : w2.frozen? ⟨w.heap.size, 3, none⟩ = false := hR_2.frozen 3
      have g4 : w2.cell? ⟨w.heap.size, 4, none⟩ = some (.string ⟨#[]⟩) := hR_2.cell 4
      have f4 : w2.frozen? ⟨w.heap.size, 4, none⟩ = false := hR_2.frozen 4
      have g5 : w2.cell? ⟨w.heap.size, 5, none⟩ = some (.slice none 0 0) := hR_2.cell 5
      have f5 : w2.frozen? ⟨w.heap.size, 5, none⟩ = false := hR_2.frozen 5
      have g6 : w2.cell? ⟨w.heap.size, 6, none⟩ = some (.slice none 0 0) := hR_2.cell 6
      have f6 : w2.frozen? ⟨w.heap.size, 6, none⟩ = false := hR_2.frozen 6
      have yt10 : w2.cell? ⟨w1.heap.size, 0, none⟩ = some (.int .i64 t1.op) := hLt1_2.cell 0
      have yt11 : w2.cell? ⟨w1.heap.size, 1, none⟩ = some (.string t1.name) := hLt1_2.cell 1
      have yt12 : w2.cell? ⟨w1.heap.size, 2, none⟩ = some (.int .i64 t1.n) := hLt1_2.cell 2
      have yt13 : w2.cell? ⟨w1.heap.size, 3, none⟩ = some (.int .i64 t1.ty.kind) := hLt1_2.cell 3
      have yt14 : w2.cell? ⟨w1.heap.size, 4, none⟩ = some (.string t1.ty.name) := hLt1_2.cell 4
      have yt15 : w2.cell? ⟨w1.heap.size, 5, none⟩ = some (.slice ta1 tn1 tc1) := hLt1_2.cell 5
      have yt16 : w2.cell? ⟨w1.heap.size, 6, none⟩ = some (.slice ma1 mn1 mc1) := hLt1_2.cell 6
      have l9 : w.heap.size < w2.heap.size := hR_2.lt
      clear zz0
      go_wp2_with fail
      have zz0 := Z0.out
      refine ret_tm Tryz.results33 hq.out rfl rfl ((r7 hR_2 rfl)) ?_ ?_ ((p7w p2 (by omega) (by omega))) ((k7w K2 (Or.inr (Nat.le_refl _))))
      · exact (at2.frame (same7 (R := w.heap.size) (by omega))).mono (fun k _ h => by omega)
      · exact (ct2.frame (same7 (R := w.heap.size) (by omega))).mono (fun k _ h => by omega)
end Go.Proofs.YtckjlliobebodaaGreatDoor
