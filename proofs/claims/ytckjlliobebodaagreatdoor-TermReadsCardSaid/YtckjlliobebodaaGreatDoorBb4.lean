/- Texts TermL TermZ Stay Stay2 Read En of this proof, in one. -/
import Derived.Test.YtckjlliobebodaaGreatDoorBb1
import Derived.Test.YtckjlliobebodaaGreatDoorBb2
import Derived.Test.YtckjlliobebodaaGreatDoorBb3
import Derived.Test.YtckjlliobebodaaGreatDoorBb0
set_option linter.unusedVariables false
set_option linter.unusedSimpArgs false
namespace Go.Proofs.YtckjlliobebodaaGreatDoor
open Go.RowKit
set_option maxHeartbeats 4000000 in
theorem term_l1 {b : Nat} {s : ByteArray} {f : Nat} {w : World} {σ : PS} (hT : TC b s f (termS f s)) (h : PW w b s σ) (hf : 14 * mu s σ + (14 - 1) < f + 1) :
    Calls Tryz.prog 33 #[.pointer (some ⟨b, 0, none⟩), .int .i64 1] w (RPost b s (VTm w.heap.size) (termS (f + 1) s 1 σ) w) := by
  have hI := inv_term f s
  have HI := Lib.hid hI
  clear hI
  have hlt := h.lt
  have hgl := h.gl.lt
  have h0 := h.alloc (.cells #[.int .i64 0, .string ⟨#[]⟩, .int .i64 0, .int .i64 0, .string ⟨#[]⟩, .slice none 0 0, .slice none 0 0] 27)
  have hR0 : Blk (w.alloc (.cells #[.int .i64 0, .string ⟨#[]⟩, .int .i64 0, .int .i64 0, .string ⟨#[]⟩, .slice none 0 0, .slice none 0 0] 27)) w.heap.size 27 z27 := Blk.new w 27 z27
  have K0 : Kept (· = b) w (w.alloc (.cells #[.int .i64 0, .string ⟨#[]⟩, .int .i64 0, .int .i64 0, .string ⟨#[]⟩, .slice none 0 0, .slice none 0 0] 27)) := (Kept.refl _ _).alloc _
  have zw0 : (w.alloc (.cells #[.int .i64 0, .string ⟨#[]⟩, .int .i64 0, .int .i64 0, .string ⟨#[]⟩, .slice none 0 0, .slice none 0 0] 27)).heap.size = w.heap.size + 1 := by simp
  have Z0 := Lib.hid zw0
  clear zw0
  go_enter Tryz.func33, Tryz.ntmps33
  go_wp2_with fail
  have lo1 := h0.lt
  have zz0 := Z0.out
  refine (hT 2 2 rfl σ _ (by decide) (by decide) h0 (by omega)).mono ?_
  clear zz0
  rintro e w1 hr
  cases h_1 : termS f s 2 σ with
  | error r =>
    have hq : Hid (termS (f + 1) s 1 σ = .error r) := Lib.hid (by unfold termS; simp only [show ((1 : Nat) == 5) = false from rfl, show ((1 : Nat) == 13) = false from rfl, show (1 + 1 : Nat) = 2 from rfl, h_1])
    obtain ⟨rfl, k1⟩ := hr.getErr h_1
    clear hr
    go_wp2_with fail
    exact ⟨rfl, RPost.err hq.out ⟨rfl, K0.trans k1⟩⟩
  | ok q1 =>
    obtain ⟨t1, σ1⟩ := q1
    obtain ⟨v, rfl, ⟨tk1, kk1, rfl, at1, ct1⟩, p1, k1⟩ := hr.getOk h_1
    clear hr
    have j_1 := HI.out _ _ _ _ h0.le h_1
    have i_1 := j_1.1
    try unfold Inv at i_1
    try unfold Inv1 at i_1
    obtain ⟨ta1, tn1, tc1, rfl⟩ := at1.slice
    obtain ⟨ma1, mn1, mc1, rfl⟩ := ct1.slice
    unfold tmVal
    have hR_1 := hR0.kept k1 (by show ¬ w.heap.size = b; omega)
    have K1 := K0.trans k1
    have lb1 := p1.lt
    have zz1 := K1.size
    have zk1 := k1.size
    have lR1 := hR_1.lt
    have h0_1 := p1.alloc (.cells #[.int .i64 t1.op, .string t1.name, .int .i64 t1.n, .int .i64 t1.ty.kind, .string t1.ty.name, .slice ta1 tn1 tc1, .slice ma1 mn1 mc1] 27)
    have K0_1 := K1.alloc (.cells #[.int .i64 t1.op, .string t1.name, .int .i64 t1.n, .int .i64 t1.ty.kind, .string t1.ty.name, .slice ta1 tn1 tc1, .slice ma1 mn1 mc1] 27)
    have hxR_1 := hR_1.alloc (.cells #[.int .i64 t1.op, .string t1.name, .int .i64 t1.n, .int .i64 t1.ty.kind, .string t1.ty.name, .slice ta1 tn1 tc1, .slice ma1 mn1 mc1] 27)
    have hLt1_1 : Blk (w1.alloc (.cells #[.int .i64 t1.op, .string t1.name, .int .i64 t1.n, .int .i64 t1.ty.kind, .string t1.ty.name, .slice ta1 tn1 tc1, .slice ma1 mn1 mc1] 27)) w1.heap.size 27 (tmCells t1 (.slice ta1 tn1 tc1) (.slice ma1 mn1 mc1)) := Blk.new w1 27 _
    have axt1_1 := at1.frame (Same.alloc _ (.cells #[.int .i64 t1.op, .string t1.name, .int .i64 t1.n, .int .i64 t1.ty.kind, .string t1.ty.name, .slice ta1 tn1 tc1, .slice ma1 mn1 mc1] 27))
    have cxt1_1 := ct1.frame (Same.alloc _ (.cells #[.int .i64 t1.op, .string t1.name, .int .i64 t1.n, .int .i64 t1.ty.kind, .string t1.ty.name, .slice ta1 tn1 tc1, .slice ma1 mn1 mc1] 27))
    have zw1 : (w1.alloc (.cells #[.int .i64 t1.op, .string t1.name, .int .i64 t1.n, .int .i64 t1.ty.kind, .string t1.ty.name, .slice ta1 tn1 tc1, .slice ma1 mn1 mc1] 27)).heap.size = w1.heap.size + 1 := by simp
    have Z1 := Lib.hid zw1
    clear zw1
    go_wp2_with fail
    have zz0 := Z0.out
    have lo2 := h0_1.lt
    refine (rest_any hT HI.out h0_1 (by omega) (n := 1) (by unfold lvOK; omega) t1 ta1 tn1 tc1 ma1 mn1 mc1 (w.alloc (.cells #[.int .i64 0, .string ⟨#[]⟩, .int .i64 0, .int .i64 0, .string ⟨#[]⟩, .slice none 0 0, .slice none 0 0] 27)).heap.size (by omega) (by have := Z1.out; omega) axt1_1 cxt1_1).mono ?_
    rintro e w2 hr
    cases h_2 : restS (termS f s) s 1 (s.size + 2) t1 σ1 with
    | error r =>
      have hq : Hid (termS (f + 1) s 1 σ = .error r) := Lib.hid (by unfold termS; simp only [show ((1 : Nat) == 5) = false from rfl, show ((1 : Nat) == 13) = false from rfl, show (1 + 1 : Nat) = 2 from rfl, h_1, h_2])
      obtain ⟨rfl, k2⟩ := hr.getErr h_2
      clear hr
      go_wp2_with fail
      exact ⟨rfl, RPost.err hq.out ⟨rfl, K0_1.trans k2⟩⟩
    | ok q2 =>
      obtain ⟨t2, σ2⟩ := q2
      obtain ⟨v, rfl, ⟨tk2, kk2, rfl, at2, ct2⟩, p2, k2⟩ := hr.getOk h_2
      clear hr
      have j_2 := inv_rest HI.out _ j_1.2 h0_1.le h_2
      have i_2 := j_2.1
      try unfold Inv at i_2
      try unfold Inv1 at i_2
      obtain ⟨ta2, tn2, tc2, rfl⟩ := at2.slice
      obtain ⟨ma2, mn2, mc2, rfl⟩ := ct2.slice
      unfold tmVal
      have hR_2 := hxR_1.kept k2 (by show ¬ w.heap.size = b; omega)
      have hLt1_2 := hLt1_1.kept k2 (by show ¬ w1.heap.size = b; omega)
      have at1_2 := axt1_1.frame (Same.of_kept k2 (fun k h e => by omega))
      have ct1_2 := cxt1_1.frame (Same.of_kept k2 (fun k h e => by omega))
      have K2 := K0_1.trans k2
      have lb2 := p2.lt
      have zz2 := K2.size
      have zk2 := k2.size
      have lR2 := hR_2.lt
      have lLt12 := hLt1_2.lt
      have hq : Hid (termS (f + 1) s 1 σ = .ok (t2, σ2)) := Lib.hid (by unfold termS; simp only [show ((1 : Nat) == 5) = false from rfl, show ((1 : Nat) == 13) = false from rfl, show (1 + 1 : Nat) = 2 from rfl, h_1, h_2])
      have gA : ∀ i, w2.cell? ⟨w.heap.size, i, none⟩ = [Value.int .i64 0, .string ⟨#[]⟩, .int .i64 0, .int .i64 0, .string ⟨#[]⟩, .slice none 0 0, .slice none 0 0][i]? := hR_2.cell
      have fA : ∀ i, w2.frozen? ⟨w.heap.size, i, none⟩ = false := hR_2.frozen
      have yt1A : ∀ i, w2.cell? ⟨w1.heap.size, i, none⟩ = [Value.int .i64 t1.op, .string t1.name, .int .i64 t1.n, .int .i64 t1.ty.kind, .string t1.ty.name, .slice ta1 tn1 tc1, .slice ma1 mn1 mc1][i]? := hLt1_2.cell
      have l9 : w.heap.size < w2.heap.size := hR_2.lt
      clear zz0
      go_wp2_with fail
      have zz0 := Z0.out
      refine ret_tm Tryz.results33 hq.out rfl rfl ((r7 hR_2 rfl)) ?_ ?_ ((p7w p2 (by omega) (by omega))) ((k7w K2 (Or.inr (Nat.le_refl _))))
      · exact (at2.frame (same7 (R := w.heap.size) (by omega))).mono (fun k _ h => by omega)
      · exact (ct2.frame (same7 (R := w.heap.size) (by omega))).mono (fun k _ h => by omega)
set_option maxHeartbeats 4000000 in
theorem term_l2 {b : Nat} {s : ByteArray} {f : Nat} {w : World} {σ : PS} (hT : TC b s f (termS f s)) (h : PW w b s σ) (hf : 14 * mu s σ + (14 - 2) < f + 1) :
    Calls Tryz.prog 33 #[.pointer (some ⟨b, 0, none⟩), .int .i64 2] w (RPost b s (VTm w.heap.size) (termS (f + 1) s 2 σ) w) := by
  have hI := inv_term f s
  have HI := Lib.hid hI
  clear hI
  have hlt := h.lt
  have hgl := h.gl.lt
  have h0 := h.alloc (.cells #[.int .i64 0, .string ⟨#[]⟩, .int .i64 0, .int .i64 0, .string ⟨#[]⟩, .slice none 0 0, .slice none 0 0] 27)
  have hR0 : Blk (w.alloc (.cells #[.int .i64 0, .string ⟨#[]⟩, .int .i64 0, .int .i64 0, .string ⟨#[]⟩, .slice none 0 0, .slice none 0 0] 27)) w.heap.size 27 z27 := Blk.new w 27 z27
  have K0 : Kept (· = b) w (w.alloc (.cells #[.int .i64 0, .string ⟨#[]⟩, .int .i64 0, .int .i64 0, .string ⟨#[]⟩, .slice none 0 0, .slice none 0 0] 27)) := (Kept.refl _ _).alloc _
  have zw0 : (w.alloc (.cells #[.int .i64 0, .string ⟨#[]⟩, .int .i64 0, .int .i64 0, .string ⟨#[]⟩, .slice none 0 0, .slice none 0 0] 27)).heap.size = w.heap.size + 1 := by simp
  have Z0 := Lib.hid zw0
  clear zw0
  go_enter Tryz.func33, Tryz.ntmps33
  go_wp2_with fail
  have lo1 := h0.lt
  have zz0 := Z0.out
  refine (hT 3 3 rfl σ _ (by decide) (by decide) h0 (by omega)).mono ?_
  clear zz0
  rintro e w1 hr
  cases h_1 : termS f s 3 σ with
  | error r =>
    have hq : Hid (termS (f + 1) s 2 σ = .error r) := Lib.hid (by unfold termS; simp only [show ((2 : Nat) == 5) = false from rfl, show ((2 : Nat) == 13) = false from rfl, show (2 + 1 : Nat) = 3 from rfl, h_1])
    obtain ⟨rfl, k1⟩ := hr.getErr h_1
    clear hr
    go_wp2_with fail
    exact ⟨rfl, RPost.err hq.out ⟨rfl, K0.trans k1⟩⟩
  | ok q1 =>
    obtain ⟨t1, σ1⟩ := q1
    obtain ⟨v, rfl, ⟨tk1, kk1, rfl, at1, ct1⟩, p1, k1⟩ := hr.getOk h_1
    clear hr
    have j_1 := HI.out _ _ _ _ h0.le h_1
    have i_1 := j_1.1
    try unfold Inv at i_1
    try unfold Inv1 at i_1
    obtain ⟨ta1, tn1, tc1, rfl⟩ := at1.slice
    obtain ⟨ma1, mn1, mc1, rfl⟩ := ct1.slice
    unfold tmVal
    have hR_1 := hR0.kept k1 (by show ¬ w.heap.size = b; omega)
    have K1 := K0.trans k1
    have lb1 := p1.lt
    have zz1 := K1.size
    have zk1 := k1.size
    have lR1 := hR_1.lt
    have h0_1 := p1.alloc (.cells #[.int .i64 t1.op, .string t1.name, .int .i64 t1.n, .int .i64 t1.ty.kind, .string t1.ty.name, .slice ta1 tn1 tc1, .slice ma1 mn1 mc1] 27)
    have K0_1 := K1.alloc (.cells #[.int .i64 t1.op, .string t1.name, .int .i64 t1.n, .int .i64 t1.ty.kind, .string t1.ty.name, .slice ta1 tn1 tc1, .slice ma1 mn1 mc1] 27)
    have hxR_1 := hR_1.alloc (.cells #[.int .i64 t1.op, .string t1.name, .int .i64 t1.n, .int .i64 t1.ty.kind, .string t1.ty.name, .slice ta1 tn1 tc1, .slice ma1 mn1 mc1] 27)
    have hLt1_1 : Blk (w1.alloc (.cells #[.int .i64 t1.op, .string t1.name, .int .i64 t1.n, .int .i64 t1.ty.kind, .string t1.ty.name, .slice ta1 tn1 tc1, .slice ma1 mn1 mc1] 27)) w1.heap.size 27 (tmCells t1 (.slice ta1 tn1 tc1) (.slice ma1 mn1 mc1)) := Blk.new w1 27 _
    have axt1_1 := at1.frame (Same.alloc _ (.cells #[.int .i64 t1.op, .string t1.name, .int .i64 t1.n, .int .i64 t1.ty.kind, .string t1.ty.name, .slice ta1 tn1 tc1, .slice ma1 mn1 mc1] 27))
    have cxt1_1 := ct1.frame (Same.alloc _ (.cells #[.int .i64 t1.op, .string t1.name, .int .i64 t1.n, .int .i64 t1.ty.kind, .string t1.ty.name, .slice ta1 tn1 tc1, .slice ma1 mn1 mc1] 27))
    have zw1 : (w1.alloc (.cells #[.int .i64 t1.op, .string t1.name, .int .i64 t1.n, .int .i64 t1.ty.kind, .string t1.ty.name, .slice ta1 tn1 tc1, .slice ma1 mn1 mc1] 27)).heap.size = w1.heap.size + 1 := by simp
    have Z1 := Lib.hid zw1
    clear zw1
    go_wp2_with fail
    have zz0 := Z0.out
    have lo2 := h0_1.lt
    refine (rest_any hT HI.out h0_1 (by omega) (n := 2) (by unfold lvOK; omega) t1 ta1 tn1 tc1 ma1 mn1 mc1 (w.alloc (.cells #[.int .i64 0, .string ⟨#[]⟩, .int .i64 0, .int .i64 0, .string ⟨#[]⟩, .slice none 0 0, .slice none 0 0] 27)).heap.size (by omega) (by have := Z1.out; omega) axt1_1 cxt1_1).mono ?_
    rintro e w2 hr
    cases h_2 : restS (termS f s) s 2 (s.size + 2) t1 σ1 with
    | error r =>
      have hq : Hid (termS (f + 1) s 2 σ = .error r) := Lib.hid (by unfold termS; simp only [show ((2 : Nat) == 5) = false from rfl, show ((2 : Nat) == 13) = false from rfl, show (2 + 1 : Nat) = 3 from rfl, h_1, h_2])
      obtain ⟨rfl, k2⟩ := hr.getErr h_2
      clear hr
      go_wp2_with fail
      exact ⟨rfl, RPost.err hq.out ⟨rfl, K0_1.trans k2⟩⟩
    | ok q2 =>
      obtain ⟨t2, σ2⟩ := q2
      obtain ⟨v, rfl, ⟨tk2, kk2, rfl, at2, ct2⟩, p2, k2⟩ := hr.getOk h_2
      clear hr
      have j_2 := inv_rest HI.out _ j_1.2 h0_1.le h_2
      have i_2 := j_2.1
      try unfold Inv at i_2
      try unfold Inv1 at i_2
      obtain ⟨ta2, tn2, tc2, rfl⟩ := at2.slice
      obtain ⟨ma2, mn2, mc2, rfl⟩ := ct2.slice
      unfold tmVal
      have hR_2 := hxR_1.kept k2 (by show ¬ w.heap.size = b; omega)
      have hLt1_2 := hLt1_1.kept k2 (by show ¬ w1.heap.size = b; omega)
      have at1_2 := axt1_1.frame (Same.of_kept k2 (fun k h e => by omega))
      have ct1_2 := cxt1_1.frame (Same.of_kept k2 (fun k h e => by omega))
      have K2 := K0_1.trans k2
      have lb2 := p2.lt
      have zz2 := K2.size
      have zk2 := k2.size
      have lR2 := hR_2.lt
      have lLt12 := hLt1_2.lt
      have hq : Hid (termS (f + 1) s 2 σ = .ok (t2, σ2)) := Lib.hid (by unfold termS; simp only [show ((2 : Nat) == 5) = false from rfl, show ((2 : Nat) == 13) = false from rfl, show (2 + 1 : Nat) = 3 from rfl, h_1, h_2])
      have gA : ∀ i, w2.cell? ⟨w.heap.size, i, none⟩ = [Value.int .i64 0, .string ⟨#[]⟩, .int .i64 0, .int .i64 0, .string ⟨#[]⟩, .slice none 0 0, .slice none 0 0][i]? := hR_2.cell
      have fA : ∀ i, w2.frozen? ⟨w.heap.size, i, none⟩ = false := hR_2.frozen
      have yt1A : ∀ i, w2.cell? ⟨w1.heap.size, i, none⟩ = [Value.int .i64 t1.op, .string t1.name, .int .i64 t1.n, .int .i64 t1.ty.kind, .string t1.ty.name, .slice ta1 tn1 tc1, .slice ma1 mn1 mc1][i]? := hLt1_2.cell
      have l9 : w.heap.size < w2.heap.size := hR_2.lt
      clear zz0
      go_wp2_with fail
      have zz0 := Z0.out
      refine ret_tm Tryz.results33 hq.out rfl rfl ((r7 hR_2 rfl)) ?_ ?_ ((p7w p2 (by omega) (by omega))) ((k7w K2 (Or.inr (Nat.le_refl _))))
      · exact (at2.frame (same7 (R := w.heap.size) (by omega))).mono (fun k _ h => by omega)
      · exact (ct2.frame (same7 (R := w.heap.size) (by omega))).mono (fun k _ h => by omega)
set_option maxHeartbeats 4000000 in
theorem term_l3 {b : Nat} {s : ByteArray} {f : Nat} {w : World} {σ : PS} (hT : TC b s f (termS f s)) (h : PW w b s σ) (hf : 14 * mu s σ + (14 - 3) < f + 1) :
    Calls Tryz.prog 33 #[.pointer (some ⟨b, 0, none⟩), .int .i64 3] w (RPost b s (VTm w.heap.size) (termS (f + 1) s 3 σ) w) := by
  have hI := inv_term f s
  have HI := Lib.hid hI
  clear hI
  have hlt := h.lt
  have hgl := h.gl.lt
  have h0 := h.alloc (.cells #[.int .i64 0, .string ⟨#[]⟩, .int .i64 0, .int .i64 0, .string ⟨#[]⟩, .slice none 0 0, .slice none 0 0] 27)
  have hR0 : Blk (w.alloc (.cells #[.int .i64 0, .string ⟨#[]⟩, .int .i64 0, .int .i64 0, .string ⟨#[]⟩, .slice none 0 0, .slice none 0 0] 27)) w.heap.size 27 z27 := Blk.new w 27 z27
  have K0 : Kept (· = b) w (w.alloc (.cells #[.int .i64 0, .string ⟨#[]⟩, .int .i64 0, .int .i64 0, .string ⟨#[]⟩, .slice none 0 0, .slice none 0 0] 27)) := (Kept.refl _ _).alloc _
  have zw0 : (w.alloc (.cells #[.int .i64 0, .string ⟨#[]⟩, .int .i64 0, .int .i64 0, .string ⟨#[]⟩, .slice none 0 0, .slice none 0 0] 27)).heap.size = w.heap.size + 1 := by simp
  have Z0 := Lib.hid zw0
  clear zw0
  go_enter Tryz.func33, Tryz.ntmps33
  go_wp2_with fail
  have lo1 := h0.lt
  have zz0 := Z0.out
  refine (hT 4 4 rfl σ _ (by decide) (by decide) h0 (by omega)).mono ?_
  clear zz0
  rintro e w1 hr
  cases h_1 : termS f s 4 σ with
  | error r =>
    have hq : Hid (termS (f + 1) s 3 σ = .error r) := Lib.hid (by unfold termS; simp only [show ((3 : Nat) == 5) = false from rfl, show ((3 : Nat) == 13) = false from rfl, show (3 + 1 : Nat) = 4 from rfl, h_1])
    obtain ⟨rfl, k1⟩ := hr.getErr h_1
    clear hr
    go_wp2_with fail
    exact ⟨rfl, RPost.err hq.out ⟨rfl, K0.trans k1⟩⟩
  | ok q1 =>
    obtain ⟨t1, σ1⟩ := q1
    obtain ⟨v, rfl, ⟨tk1, kk1, rfl, at1, ct1⟩, p1, k1⟩ := hr.getOk h_1
    clear hr
    have j_1 := HI.out _ _ _ _ h0.le h_1
    have i_1 := j_1.1
    try unfold Inv at i_1
    try unfold Inv1 at i_1
    obtain ⟨ta1, tn1, tc1, rfl⟩ := at1.slice
    obtain ⟨ma1, mn1, mc1, rfl⟩ := ct1.slice
    unfold tmVal
    have hR_1 := hR0.kept k1 (by show ¬ w.heap.size = b; omega)
    have K1 := K0.trans k1
    have lb1 := p1.lt
    have zz1 := K1.size
    have zk1 := k1.size
    have lR1 := hR_1.lt
    have h0_1 := p1.alloc (.cells #[.int .i64 t1.op, .string t1.name, .int .i64 t1.n, .int .i64 t1.ty.kind, .string t1.ty.name, .slice ta1 tn1 tc1, .slice ma1 mn1 mc1] 27)
    have K0_1 := K1.alloc (.cells #[.int .i64 t1.op, .string t1.name, .int .i64 t1.n, .int .i64 t1.ty.kind, .string t1.ty.name, .slice ta1 tn1 tc1, .slice ma1 mn1 mc1] 27)
    have hxR_1 := hR_1.alloc (.cells #[.int .i64 t1.op, .string t1.name, .int .i64 t1.n, .int .i64 t1.ty.kind, .string t1.ty.name, .slice ta1 tn1 tc1, .slice ma1 mn1 mc1] 27)
    have hLt1_1 : Blk (w1.alloc (.cells #[.int .i64 t1.op, .string t1.name, .int .i64 t1.n, .int .i64 t1.ty.kind, .string t1.ty.name, .slice ta1 tn1 tc1, .slice ma1 mn1 mc1] 27)) w1.heap.size 27 (tmCells t1 (.slice ta1 tn1 tc1) (.slice ma1 mn1 mc1)) := Blk.new w1 27 _
    have axt1_1 := at1.frame (Same.alloc _ (.cells #[.int .i64 t1.op, .string t1.name, .int .i64 t1.n, .int .i64 t1.ty.kind, .string t1.ty.name, .slice ta1 tn1 tc1, .slice ma1 mn1 mc1] 27))
    have cxt1_1 := ct1.frame (Same.alloc _ (.cells #[.int .i64 t1.op, .string t1.name, .int .i64 t1.n, .int .i64 t1.ty.kind, .string t1.ty.name, .slice ta1 tn1 tc1, .slice ma1 mn1 mc1] 27))
    have zw1 : (w1.alloc (.cells #[.int .i64 t1.op, .string t1.name, .int .i64 t1.n, .int .i64 t1.ty.kind, .string t1.ty.name, .slice ta1 tn1 tc1, .slice ma1 mn1 mc1] 27)).heap.size = w1.heap.size + 1 := by simp
    have Z1 := Lib.hid zw1
    clear zw1
    go_wp2_with fail
    have zz0 := Z0.out
    have lo2 := h0_1.lt
    refine (rest_any hT HI.out h0_1 (by omega) (n := 3) (by unfold lvOK; omega) t1 ta1 tn1 tc1 ma1 mn1 mc1 (w.alloc (.cells #[.int .i64 0, .string ⟨#[]⟩, .int .i64 0, .int .i64 0, .string ⟨#[]⟩, .slice none 0 0, .slice none 0 0] 27)).heap.size (by omega) (by have := Z1.out; omega) axt1_1 cxt1_1).mono ?_
    rintro e w2 hr
    cases h_2 : restS (termS f s) s 3 (s.size + 2) t1 σ1 with
    | error r =>
      have hq : Hid (termS (f + 1) s 3 σ = .error r) := Lib.hid (by unfold termS; simp only [show ((3 : Nat) == 5) = false from rfl, show ((3 : Nat) == 13) = false from rfl, show (3 + 1 : Nat) = 4 from rfl, h_1, h_2])
      obtain ⟨rfl, k2⟩ := hr.getErr h_2
      clear hr
      go_wp2_with fail
      exact ⟨rfl, RPost.err hq.out ⟨rfl, K0_1.trans k2⟩⟩
    | ok q2 =>
      obtain ⟨t2, σ2⟩ := q2
      obtain ⟨v, rfl, ⟨tk2, kk2, rfl, at2, ct2⟩, p2, k2⟩ := hr.getOk h_2
      clear hr
      have j_2 := inv_rest HI.out _ j_1.2 h0_1.le h_2
      have i_2 := j_2.1
      try unfold Inv at i_2
      try unfold Inv1 at i_2
      obtain ⟨ta2, tn2, tc2, rfl⟩ := at2.slice
      obtain ⟨ma2, mn2, mc2, rfl⟩ := ct2.slice
      unfold tmVal
      have hR_2 := hxR_1.kept k2 (by show ¬ w.heap.size = b; omega)
      have hLt1_2 := hLt1_1.kept k2 (by show ¬ w1.heap.size = b; omega)
      have at1_2 := axt1_1.frame (Same.of_kept k2 (fun k h e => by omega))
      have ct1_2 := cxt1_1.frame (Same.of_kept k2 (fun k h e => by omega))
      have K2 := K0_1.trans k2
      have lb2 := p2.lt
      have zz2 := K2.size
      have zk2 := k2.size
      have lR2 := hR_2.lt
      have lLt12 := hLt1_2.lt
      have hq : Hid (termS (f + 1) s 3 σ = .ok (t2, σ2)) := Lib.hid (by unfold termS; simp only [show ((3 : Nat) == 5) = false from rfl, show ((3 : Nat) == 13) = false from rfl, show (3 + 1 : Nat) = 4 from rfl, h_1, h_2])
      have gA : ∀ i, w2.cell? ⟨w.heap.size, i, none⟩ = [Value.int .i64 0, .string ⟨#[]⟩, .int .i64 0, .int .i64 0, .string ⟨#[]⟩, .slice none 0 0, .slice none 0 0][i]? := hR_2.cell
      have fA : ∀ i, w2.frozen? ⟨w.heap.size, i, none⟩ = false := hR_2.frozen
      have yt1A : ∀ i, w2.cell? ⟨w1.heap.size, i, none⟩ = [Value.int .i64 t1.op, .string t1.name, .int .i64 t1.n, .int .i64 t1.ty.kind, .string t1.ty.name, .slice ta1 tn1 tc1, .slice ma1 mn1 mc1][i]? := hLt1_2.cell
      have l9 : w.heap.size < w2.heap.size := hR_2.lt
      clear zz0
      go_wp2_with fail
      have zz0 := Z0.out
      refine ret_tm Tryz.results33 hq.out rfl rfl ((r7 hR_2 rfl)) ?_ ?_ ((p7w p2 (by omega) (by omega))) ((k7w K2 (Or.inr (Nat.le_refl _))))
      · exact (at2.frame (same7 (R := w.heap.size) (by omega))).mono (fun k _ h => by omega)
      · exact (ct2.frame (same7 (R := w.heap.size) (by omega))).mono (fun k _ h => by omega)
set_option maxHeartbeats 4000000 in
theorem term_l4 {b : Nat} {s : ByteArray} {f : Nat} {w : World} {σ : PS} (hT : TC b s f (termS f s)) (h : PW w b s σ) (hf : 14 * mu s σ + (14 - 4) < f + 1) :
    Calls Tryz.prog 33 #[.pointer (some ⟨b, 0, none⟩), .int .i64 4] w (RPost b s (VTm w.heap.size) (termS (f + 1) s 4 σ) w) := by
  have hI := inv_term f s
  have HI := Lib.hid hI
  clear hI
  have hlt := h.lt
  have hgl := h.gl.lt
  have h0 := h.alloc (.cells #[.int .i64 0, .string ⟨#[]⟩, .int .i64 0, .int .i64 0, .string ⟨#[]⟩, .slice none 0 0, .slice none 0 0] 27)
  have hR0 : Blk (w.alloc (.cells #[.int .i64 0, .string ⟨#[]⟩, .int .i64 0, .int .i64 0, .string ⟨#[]⟩, .slice none 0 0, .slice none 0 0] 27)) w.heap.size 27 z27 := Blk.new w 27 z27
  have K0 : Kept (· = b) w (w.alloc (.cells #[.int .i64 0, .string ⟨#[]⟩, .int .i64 0, .int .i64 0, .string ⟨#[]⟩, .slice none 0 0, .slice none 0 0] 27)) := (Kept.refl _ _).alloc _
  have zw0 : (w.alloc (.cells #[.int .i64 0, .string ⟨#[]⟩, .int .i64 0, .int .i64 0, .string ⟨#[]⟩, .slice none 0 0, .slice none 0 0] 27)).heap.size = w.heap.size + 1 := by simp
  have Z0 := Lib.hid zw0
  clear zw0
  go_enter Tryz.func33, Tryz.ntmps33
  go_wp2_with fail
  have lo1 := h0.lt
  have zz0 := Z0.out
  refine (hT 5 5 rfl σ _ (by decide) (by decide) h0 (by omega)).mono ?_
  clear zz0
  rintro e w1 hr
  cases h_1 : termS f s 5 σ with
  | error r =>
    have hq : Hid (termS (f + 1) s 4 σ = .error r) := Lib.hid (by unfold termS; simp only [show ((4 : Nat) == 5) = false from rfl, show ((4 : Nat) == 13) = false from rfl, show (4 + 1 : Nat) = 5 from rfl, h_1])
    obtain ⟨rfl, k1⟩ := hr.getErr h_1
    clear hr
    go_wp2_with fail
    exact ⟨rfl, RPost.err hq.out ⟨rfl, K0.trans k1⟩⟩
  | ok q1 =>
    obtain ⟨t1, σ1⟩ := q1
    obtain ⟨v, rfl, ⟨tk1, kk1, rfl, at1, ct1⟩, p1, k1⟩ := hr.getOk h_1
    clear hr
    have j_1 := HI.out _ _ _ _ h0.le h_1
    have i_1 := j_1.1
    try unfold Inv at i_1
    try unfold Inv1 at i_1
    obtain ⟨ta1, tn1, tc1, rfl⟩ := at1.slice
    obtain ⟨ma1, mn1, mc1, rfl⟩ := ct1.slice
    unfold tmVal
    have hR_1 := hR0.kept k1 (by show ¬ w.heap.size = b; omega)
    have K1 := K0.trans k1
    have lb1 := p1.lt
    have zz1 := K1.size
    have zk1 := k1.size
    have lR1 := hR_1.lt
    have h0_1 := p1.alloc (.cells #[.int .i64 t1.op, .string t1.name, .int .i64 t1.n, .int .i64 t1.ty.kind, .string t1.ty.name, .slice ta1 tn1 tc1, .slice ma1 mn1 mc1] 27)
    have K0_1 := K1.alloc (.cells #[.int .i64 t1.op, .string t1.name, .int .i64 t1.n, .int .i64 t1.ty.kind, .string t1.ty.name, .slice ta1 tn1 tc1, .slice ma1 mn1 mc1] 27)
    have hxR_1 := hR_1.alloc (.cells #[.int .i64 t1.op, .string t1.name, .int .i64 t1.n, .int .i64 t1.ty.kind, .string t1.ty.name, .slice ta1 tn1 tc1, .slice ma1 mn1 mc1] 27)
    have hLt1_1 : Blk (w1.alloc (.cells #[.int .i64 t1.op, .string t1.name, .int .i64 t1.n, .int .i64 t1.ty.kind, .string t1.ty.name, .slice ta1 tn1 tc1, .slice ma1 mn1 mc1] 27)) w1.heap.size 27 (tmCells t1 (.slice ta1 tn1 tc1) (.slice ma1 mn1 mc1)) := Blk.new w1 27 _
    have axt1_1 := at1.frame (Same.alloc _ (.cells #[.int .i64 t1.op, .string t1.name, .int .i64 t1.n, .int .i64 t1.ty.kind, .string t1.ty.name, .slice ta1 tn1 tc1, .slice ma1 mn1 mc1] 27))
    have cxt1_1 := ct1.frame (Same.alloc _ (.cells #[.int .i64 t1.op, .string t1.name, .int .i64 t1.n, .int .i64 t1.ty.kind, .string t1.ty.name, .slice ta1 tn1 tc1, .slice ma1 mn1 mc1] 27))
    have zw1 : (w1.alloc (.cells #[.int .i64 t1.op, .string t1.name, .int .i64 t1.n, .int .i64 t1.ty.kind, .string t1.ty.name, .slice ta1 tn1 tc1, .slice ma1 mn1 mc1] 27)).heap.size = w1.heap.size + 1 := by simp
    have Z1 := Lib.hid zw1
    clear zw1
    go_wp2_with fail
    have zz0 := Z0.out
    have lo2 := h0_1.lt
    refine (rest_any hT HI.out h0_1 (by omega) (n := 4) (by unfold lvOK; omega) t1 ta1 tn1 tc1 ma1 mn1 mc1 (w.alloc (.cells #[.int .i64 0, .string ⟨#[]⟩, .int .i64 0, .int .i64 0, .string ⟨#[]⟩, .slice none 0 0, .slice none 0 0] 27)).heap.size (by omega) (by have := Z1.out; omega) axt1_1 cxt1_1).mono ?_
    rintro e w2 hr
    cases h_2 : restS (termS f s) s 4 (s.size + 2) t1 σ1 with
    | error r =>
      have hq : Hid (termS (f + 1) s 4 σ = .error r) := Lib.hid (by unfold termS; simp only [show ((4 : Nat) == 5) = false from rfl, show ((4 : Nat) == 13) = false from rfl, show (4 + 1 : Nat) = 5 from rfl, h_1, h_2])
      obtain ⟨rfl, k2⟩ := hr.getErr h_2
      clear hr
      go_wp2_with fail
      exact ⟨rfl, RPost.err hq.out ⟨rfl, K0_1.trans k2⟩⟩
    | ok q2 =>
      obtain ⟨t2, σ2⟩ := q2
      obtain ⟨v, rfl, ⟨tk2, kk2, rfl, at2, ct2⟩, p2, k2⟩ := hr.getOk h_2
      clear hr
      have j_2 := inv_rest HI.out _ j_1.2 h0_1.le h_2
      have i_2 := j_2.1
      try unfold Inv at i_2
      try unfold Inv1 at i_2
      obtain ⟨ta2, tn2, tc2, rfl⟩ := at2.slice
      obtain ⟨ma2, mn2, mc2, rfl⟩ := ct2.slice
      unfold tmVal
      have hR_2 := hxR_1.kept k2 (by show ¬ w.heap.size = b; omega)
      have hLt1_2 := hLt1_1.kept k2 (by show ¬ w1.heap.size = b; omega)
      have at1_2 := axt1_1.frame (Same.of_kept k2 (fun k h e => by omega))
      have ct1_2 := cxt1_1.frame (Same.of_kept k2 (fun k h e => by omega))
      have K2 := K0_1.trans k2
      have lb2 := p2.lt
      have zz2 := K2.size
      have zk2 := k2.size
      have lR2 := hR_2.lt
      have lLt12 := hLt1_2.lt
      have hq : Hid (termS (f + 1) s 4 σ = .ok (t2, σ2)) := Lib.hid (by unfold termS; simp only [show ((4 : Nat) == 5) = false from rfl, show ((4 : Nat) == 13) = false from rfl, show (4 + 1 : Nat) = 5 from rfl, h_1, h_2])
      have gA : ∀ i, w2.cell? ⟨w.heap.size, i, none⟩ = [Value.int .i64 0, .string ⟨#[]⟩, .int .i64 0, .int .i64 0, .string ⟨#[]⟩, .slice none 0 0, .slice none 0 0][i]? := hR_2.cell
      have fA : ∀ i, w2.frozen? ⟨w.heap.size, i, none⟩ = false := hR_2.frozen
      have yt1A : ∀ i, w2.cell? ⟨w1.heap.size, i, none⟩ = [Value.int .i64 t1.op, .string t1.name, .int .i64 t1.n, .int .i64 t1.ty.kind, .string t1.ty.name, .slice ta1 tn1 tc1, .slice ma1 mn1 mc1][i]? := hLt1_2.cell
      have l9 : w.heap.size < w2.heap.size := hR_2.lt
      clear zz0
      go_wp2_with fail
      have zz0 := Z0.out
      refine ret_tm Tryz.results33 hq.out rfl rfl ((r7 hR_2 rfl)) ?_ ?_ ((p7w p2 (by omega) (by omega))) ((k7w K2 (Or.inr (Nat.le_refl _))))
      · exact (at2.frame (same7 (R := w.heap.size) (by omega))).mono (fun k _ h => by omega)
      · exact (ct2.frame (same7 (R := w.heap.size) (by omega))).mono (fun k _ h => by omega)
set_option maxHeartbeats 4000000 in
theorem term_l6 {b : Nat} {s : ByteArray} {f : Nat} {w : World} {σ : PS} (hT : TC b s f (termS f s)) (h : PW w b s σ) (hf : 14 * mu s σ + (14 - 6) < f + 1) :
    Calls Tryz.prog 33 #[.pointer (some ⟨b, 0, none⟩), .int .i64 6] w (RPost b s (VTm w.heap.size) (termS (f + 1) s 6 σ) w) := by
  have hI := inv_term f s
  have HI := Lib.hid hI
  clear hI
  have hlt := h.lt
  have hgl := h.gl.lt
  have h0 := h.alloc (.cells #[.int .i64 0, .string ⟨#[]⟩, .int .i64 0, .int .i64 0, .string ⟨#[]⟩, .slice none 0 0, .slice none 0 0] 27)
  have hR0 : Blk (w.alloc (.cells #[.int .i64 0, .string ⟨#[]⟩, .int .i64 0, .int .i64 0, .string ⟨#[]⟩, .slice none 0 0, .slice none 0 0] 27)) w.heap.size 27 z27 := Blk.new w 27 z27
  have K0 : Kept (· = b) w (w.alloc (.cells #[.int .i64 0, .string ⟨#[]⟩, .int .i64 0, .int .i64 0, .string ⟨#[]⟩, .slice none 0 0, .slice none 0 0] 27)) := (Kept.refl _ _).alloc _
  have zw0 : (w.alloc (.cells #[.int .i64 0, .string ⟨#[]⟩, .int .i64 0, .int .i64 0, .string ⟨#[]⟩, .slice none 0 0, .slice none 0 0] 27)).heap.size = w.heap.size + 1 := by simp
  have Z0 := Lib.hid zw0
  clear zw0
  go_enter Tryz.func33, Tryz.ntmps33
  go_wp2_with fail
  have lo1 := h0.lt
  have zz0 := Z0.out
  refine (hT 7 7 rfl σ _ (by decide) (by decide) h0 (by omega)).mono ?_
  clear zz0
  rintro e w1 hr
  cases h_1 : termS f s 7 σ with
  | error r =>
    have hq : Hid (termS (f + 1) s 6 σ = .error r) := Lib.hid (by unfold termS; simp only [show ((6 : Nat) == 5) = false from rfl, show ((6 : Nat) == 13) = false from rfl, show (6 + 1 : Nat) = 7 from rfl, h_1])
    obtain ⟨rfl, k1⟩ := hr.getErr h_1
    clear hr
    go_wp2_with fail
    exact ⟨rfl, RPost.err hq.out ⟨rfl, K0.trans k1⟩⟩
  | ok q1 =>
    obtain ⟨t1, σ1⟩ := q1
    obtain ⟨v, rfl, ⟨tk1, kk1, rfl, at1, ct1⟩, p1, k1⟩ := hr.getOk h_1
    clear hr
    have j_1 := HI.out _ _ _ _ h0.le h_1
    have i_1 := j_1.1
    try unfold Inv at i_1
    try unfold Inv1 at i_1
    obtain ⟨ta1, tn1, tc1, rfl⟩ := at1.slice
    obtain ⟨ma1, mn1, mc1, rfl⟩ := ct1.slice
    unfold tmVal
    have hR_1 := hR0.kept k1 (by show ¬ w.heap.size = b; omega)
    have K1 := K0.trans k1
    have lb1 := p1.lt
    have zz1 := K1.size
    have zk1 := k1.size
    have lR1 := hR_1.lt
    have h0_1 := p1.alloc (.cells #[.int .i64 t1.op, .string t1.name, .int .i64 t1.n, .int .i64 t1.ty.kind, .string t1.ty.name, .slice ta1 tn1 tc1, .slice ma1 mn1 mc1] 27)
    have K0_1 := K1.alloc (.cells #[.int .i64 t1.op, .string t1.name, .int .i64 t1.n, .int .i64 t1.ty.kind, .string t1.ty.name, .slice ta1 tn1 tc1, .slice ma1 mn1 mc1] 27)
    have hxR_1 := hR_1.alloc (.cells #[.int .i64 t1.op, .string t1.name, .int .i64 t1.n, .int .i64 t1.ty.kind, .string t1.ty.name, .slice ta1 tn1 tc1, .slice ma1 mn1 mc1] 27)
    have hLt1_1 : Blk (w1.alloc (.cells #[.int .i64 t1.op, .string t1.name, .int .i64 t1.n, .int .i64 t1.ty.kind, .string t1.ty.name, .slice ta1 tn1 tc1, .slice ma1 mn1 mc1] 27)) w1.heap.size 27 (tmCells t1 (.slice ta1 tn1 tc1) (.slice ma1 mn1 mc1)) := Blk.new w1 27 _
    have axt1_1 := at1.frame (Same.alloc _ (.cells #[.int .i64 t1.op, .string t1.name, .int .i64 t1.n, .int .i64 t1.ty.kind, .string t1.ty.name, .slice ta1 tn1 tc1, .slice ma1 mn1 mc1] 27))
    have cxt1_1 := ct1.frame (Same.alloc _ (.cells #[.int .i64 t1.op, .string t1.name, .int .i64 t1.n, .int .i64 t1.ty.kind, .string t1.ty.name, .slice ta1 tn1 tc1, .slice ma1 mn1 mc1] 27))
    have zw1 : (w1.alloc (.cells #[.int .i64 t1.op, .string t1.name, .int .i64 t1.n, .int .i64 t1.ty.kind, .string t1.ty.name, .slice ta1 tn1 tc1, .slice ma1 mn1 mc1] 27)).heap.size = w1.heap.size + 1 := by simp
    have Z1 := Lib.hid zw1
    clear zw1
    go_wp2_with fail
    have zz0 := Z0.out
    have lo2 := h0_1.lt
    refine (rest_any hT HI.out h0_1 (by omega) (n := 6) (by unfold lvOK; omega) t1 ta1 tn1 tc1 ma1 mn1 mc1 (w.alloc (.cells #[.int .i64 0, .string ⟨#[]⟩, .int .i64 0, .int .i64 0, .string ⟨#[]⟩, .slice none 0 0, .slice none 0 0] 27)).heap.size (by omega) (by have := Z1.out; omega) axt1_1 cxt1_1).mono ?_
    rintro e w2 hr
    cases h_2 : restS (termS f s) s 6 (s.size + 2) t1 σ1 with
    | error r =>
      have hq : Hid (termS (f + 1) s 6 σ = .error r) := Lib.hid (by unfold termS; simp only [show ((6 : Nat) == 5) = false from rfl, show ((6 : Nat) == 13) = false from rfl, show (6 + 1 : Nat) = 7 from rfl, h_1, h_2])
      obtain ⟨rfl, k2⟩ := hr.getErr h_2
      clear hr
      go_wp2_with fail
      exact ⟨rfl, RPost.err hq.out ⟨rfl, K0_1.trans k2⟩⟩
    | ok q2 =>
      obtain ⟨t2, σ2⟩ := q2
      obtain ⟨v, rfl, ⟨tk2, kk2, rfl, at2, ct2⟩, p2, k2⟩ := hr.getOk h_2
      clear hr
      have j_2 := inv_rest HI.out _ j_1.2 h0_1.le h_2
      have i_2 := j_2.1
      try unfold Inv at i_2
      try unfold Inv1 at i_2
      obtain ⟨ta2, tn2, tc2, rfl⟩ := at2.slice
      obtain ⟨ma2, mn2, mc2, rfl⟩ := ct2.slice
      unfold tmVal
      have hR_2 := hxR_1.kept k2 (by show ¬ w.heap.size = b; omega)
      have hLt1_2 := hLt1_1.kept k2 (by show ¬ w1.heap.size = b; omega)
      have at1_2 := axt1_1.frame (Same.of_kept k2 (fun k h e => by omega))
      have ct1_2 := cxt1_1.frame (Same.of_kept k2 (fun k h e => by omega))
      have K2 := K0_1.trans k2
      have lb2 := p2.lt
      have zz2 := K2.size
      have zk2 := k2.size
      have lR2 := hR_2.lt
      have lLt12 := hLt1_2.lt
      have hq : Hid (termS (f + 1) s 6 σ = .ok (t2, σ2)) := Lib.hid (by unfold termS; simp only [show ((6 : Nat) == 5) = false from rfl, show ((6 : Nat) == 13) = false from rfl, show (6 + 1 : Nat) = 7 from rfl, h_1, h_2])
      have gA : ∀ i, w2.cell? ⟨w.heap.size, i, none⟩ = [Value.int .i64 0, .string ⟨#[]⟩, .int .i64 0, .int .i64 0, .string ⟨#[]⟩, .slice none 0 0, .slice none 0 0][i]? := hR_2.cell
      have fA : ∀ i, w2.frozen? ⟨w.heap.size, i, none⟩ = false := hR_2.frozen
      have yt1A : ∀ i, w2.cell? ⟨w1.heap.size, i, none⟩ = [Value.int .i64 t1.op, .string t1.name, .int .i64 t1.n, .int .i64 t1.ty.kind, .string t1.ty.name, .slice ta1 tn1 tc1, .slice ma1 mn1 mc1][i]? := hLt1_2.cell
      have l9 : w.heap.size < w2.heap.size := hR_2.lt
      clear zz0
      go_wp2_with fail
      have zz0 := Z0.out
      refine ret_tm Tryz.results33 hq.out rfl rfl ((r7 hR_2 rfl)) ?_ ?_ ((p7w p2 (by omega) (by omega))) ((k7w K2 (Or.inr (Nat.le_refl _))))
      · exact (at2.frame (same7 (R := w.heap.size) (by omega))).mono (fun k _ h => by omega)
      · exact (ct2.frame (same7 (R := w.heap.size) (by omega))).mono (fun k _ h => by omega)
set_option maxHeartbeats 4000000 in
theorem term_l7 {b : Nat} {s : ByteArray} {f : Nat} {w : World} {σ : PS} (hT : TC b s f (termS f s)) (h : PW w b s σ) (hf : 14 * mu s σ + (14 - 7) < f + 1) :
    Calls Tryz.prog 33 #[.pointer (some ⟨b, 0, none⟩), .int .i64 7] w (RPost b s (VTm w.heap.size) (termS (f + 1) s 7 σ) w) := by
  have hI := inv_term f s
  have HI := Lib.hid hI
  clear hI
  have hlt := h.lt
  have hgl := h.gl.lt
  have h0 := h.alloc (.cells #[.int .i64 0, .string ⟨#[]⟩, .int .i64 0, .int .i64 0, .string ⟨#[]⟩, .slice none 0 0, .slice none 0 0] 27)
  have hR0 : Blk (w.alloc (.cells #[.int .i64 0, .string ⟨#[]⟩, .int .i64 0, .int .i64 0, .string ⟨#[]⟩, .slice none 0 0, .slice none 0 0] 27)) w.heap.size 27 z27 := Blk.new w 27 z27
  have K0 : Kept (· = b) w (w.alloc (.cells #[.int .i64 0, .string ⟨#[]⟩, .int .i64 0, .int .i64 0, .string ⟨#[]⟩, .slice none 0 0, .slice none 0 0] 27)) := (Kept.refl _ _).alloc _
  have zw0 : (w.alloc (.cells #[.int .i64 0, .string ⟨#[]⟩, .int .i64 0, .int .i64 0, .string ⟨#[]⟩, .slice none 0 0, .slice none 0 0] 27)).heap.size = w.heap.size + 1 := by simp
  have Z0 := Lib.hid zw0
  clear zw0
  go_enter Tryz.func33, Tryz.ntmps33
  go_wp2_with fail
  have lo1 := h0.lt
  have zz0 := Z0.out
  refine (hT 8 8 rfl σ _ (by decide) (by decide) h0 (by omega)).mono ?_
  clear zz0
  rintro e w1 hr
  cases h_1 : termS f s 8 σ with
  | error r =>
    have hq : Hid (termS (f + 1) s 7 σ = .error r) := Lib.hid (by unfold termS; simp only [show ((7 : Nat) == 5) = false from rfl, show ((7 : Nat) == 13) = false from rfl, show (7 + 1 : Nat) = 8 from rfl, h_1])
    obtain ⟨rfl, k1⟩ := hr.getErr h_1
    clear hr
    go_wp2_with fail
    exact ⟨rfl, RPost.err hq.out ⟨rfl, K0.trans k1⟩⟩
  | ok q1 =>
    obtain ⟨t1, σ1⟩ := q1
    obtain ⟨v, rfl, ⟨tk1, kk1, rfl, at1, ct1⟩, p1, k1⟩ := hr.getOk h_1
    clear hr
    have j_1 := HI.out _ _ _ _ h0.le h_1
    have i_1 := j_1.1
    try unfold Inv at i_1
    try unfold Inv1 at i_1
    obtain ⟨ta1, tn1, tc1, rfl⟩ := at1.slice
    obtain ⟨ma1, mn1, mc1, rfl⟩ := ct1.slice
    unfold tmVal
    have hR_1 := hR0.kept k1 (by show ¬ w.heap.size = b; omega)
    have K1 := K0.trans k1
    have lb1 := p1.lt
    have zz1 := K1.size
    have zk1 := k1.size
    have lR1 := hR_1.lt
    have h0_1 := p1.alloc (.cells #[.int .i64 t1.op, .string t1.name, .int .i64 t1.n, .int .i64 t1.ty.kind, .string t1.ty.name, .slice ta1 tn1 tc1, .slice ma1 mn1 mc1] 27)
    have K0_1 := K1.alloc (.cells #[.int .i64 t1.op, .string t1.name, .int .i64 t1.n, .int .i64 t1.ty.kind, .string t1.ty.name, .slice ta1 tn1 tc1, .slice ma1 mn1 mc1] 27)
    have hxR_1 := hR_1.alloc (.cells #[.int .i64 t1.op, .string t1.name, .int .i64 t1.n, .int .i64 t1.ty.kind, .string t1.ty.name, .slice ta1 tn1 tc1, .slice ma1 mn1 mc1] 27)
    have hLt1_1 : Blk (w1.alloc (.cells #[.int .i64 t1.op, .string t1.name, .int .i64 t1.n, .int .i64 t1.ty.kind, .string t1.ty.name, .slice ta1 tn1 tc1, .slice ma1 mn1 mc1] 27)) w1.heap.size 27 (tmCells t1 (.slice ta1 tn1 tc1) (.slice ma1 mn1 mc1)) := Blk.new w1 27 _
    have axt1_1 := at1.frame (Same.alloc _ (.cells #[.int .i64 t1.op, .string t1.name, .int .i64 t1.n, .int .i64 t1.ty.kind, .string t1.ty.name, .slice ta1 tn1 tc1, .slice ma1 mn1 mc1] 27))
    have cxt1_1 := ct1.frame (Same.alloc _ (.cells #[.int .i64 t1.op, .string t1.name, .int .i64 t1.n, .int .i64 t1.ty.kind, .string t1.ty.name, .slice ta1 tn1 tc1, .slice ma1 mn1 mc1] 27))
    have zw1 : (w1.alloc (.cells #[.int .i64 t1.op, .string t1.name, .int .i64 t1.n, .int .i64 t1.ty.kind, .string t1.ty.name, .slice ta1 tn1 tc1, .slice ma1 mn1 mc1] 27)).heap.size = w1.heap.size + 1 := by simp
    have Z1 := Lib.hid zw1
    clear zw1
    go_wp2_with fail
    have zz0 := Z0.out
    have lo2 := h0_1.lt
    refine (rest_any hT HI.out h0_1 (by omega) (n := 7) (by unfold lvOK; omega) t1 ta1 tn1 tc1 ma1 mn1 mc1 (w.alloc (.cells #[.int .i64 0, .string ⟨#[]⟩, .int .i64 0, .int .i64 0, .string ⟨#[]⟩, .slice none 0 0, .slice none 0 0] 27)).heap.size (by omega) (by have := Z1.out; omega) axt1_1 cxt1_1).mono ?_
    rintro e w2 hr
    cases h_2 : restS (termS f s) s 7 (s.size + 2) t1 σ1 with
    | error r =>
      have hq : Hid (termS (f + 1) s 7 σ = .error r) := Lib.hid (by unfold termS; simp only [show ((7 : Nat) == 5) = false from rfl, show ((7 : Nat) == 13) = false from rfl, show (7 + 1 : Nat) = 8 from rfl, h_1, h_2])
      obtain ⟨rfl, k2⟩ := hr.getErr h_2
      clear hr
      go_wp2_with fail
      exact ⟨rfl, RPost.err hq.out ⟨rfl, K0_1.trans k2⟩⟩
    | ok q2 =>
      obtain ⟨t2, σ2⟩ := q2
      obtain ⟨v, rfl, ⟨tk2, kk2, rfl, at2, ct2⟩, p2, k2⟩ := hr.getOk h_2
      clear hr
      have j_2 := inv_rest HI.out _ j_1.2 h0_1.le h_2
      have i_2 := j_2.1
      try unfold Inv at i_2
      try unfold Inv1 at i_2
      obtain ⟨ta2, tn2, tc2, rfl⟩ := at2.slice
      obtain ⟨ma2, mn2, mc2, rfl⟩ := ct2.slice
      unfold tmVal
      have hR_2 := hxR_1.kept k2 (by show ¬ w.heap.size = b; omega)
      have hLt1_2 := hLt1_1.kept k2 (by show ¬ w1.heap.size = b; omega)
      have at1_2 := axt1_1.frame (Same.of_kept k2 (fun k h e => by omega))
      have ct1_2 := cxt1_1.frame (Same.of_kept k2 (fun k h e => by omega))
      have K2 := K0_1.trans k2
      have lb2 := p2.lt
      have zz2 := K2.size
      have zk2 := k2.size
      have lR2 := hR_2.lt
      have lLt12 := hLt1_2.lt
      have hq : Hid (termS (f + 1) s 7 σ = .ok (t2, σ2)) := Lib.hid (by unfold termS; simp only [show ((7 : Nat) == 5) = false from rfl, show ((7 : Nat) == 13) = false from rfl, show (7 + 1 : Nat) = 8 from rfl, h_1, h_2])
      have gA : ∀ i, w2.cell? ⟨w.heap.size, i, none⟩ = [Value.int .i64 0, .string ⟨#[]⟩, .int .i64 0, .int .i64 0, .string ⟨#[]⟩, .slice none 0 0, .slice none 0 0][i]? := hR_2.cell
      have fA : ∀ i, w2.frozen? ⟨w.heap.size, i, none⟩ = false := hR_2.frozen
      have yt1A : ∀ i, w2.cell? ⟨w1.heap.size, i, none⟩ = [Value.int .i64 t1.op, .string t1.name, .int .i64 t1.n, .int .i64 t1.ty.kind, .string t1.ty.name, .slice ta1 tn1 tc1, .slice ma1 mn1 mc1][i]? := hLt1_2.cell
      have l9 : w.heap.size < w2.heap.size := hR_2.lt
      clear zz0
      go_wp2_with fail
      have zz0 := Z0.out
      refine ret_tm Tryz.results33 hq.out rfl rfl ((r7 hR_2 rfl)) ?_ ?_ ((p7w p2 (by omega) (by omega))) ((k7w K2 (Or.inr (Nat.le_refl _))))
      · exact (at2.frame (same7 (R := w.heap.size) (by omega))).mono (fun k _ h => by omega)
      · exact (ct2.frame (same7 (R := w.heap.size) (by omega))).mono (fun k _ h => by omega)
set_option maxHeartbeats 4000000 in
theorem term_l8 {b : Nat} {s : ByteArray} {f : Nat} {w : World} {σ : PS} (hT : TC b s f (termS f s)) (h : PW w b s σ) (hf : 14 * mu s σ + (14 - 8) < f + 1) :
    Calls Tryz.prog 33 #[.pointer (some ⟨b, 0, none⟩), .int .i64 8] w (RPost b s (VTm w.heap.size) (termS (f + 1) s 8 σ) w) := by
  have hI := inv_term f s
  have HI := Lib.hid hI
  clear hI
  have hlt := h.lt
  have hgl := h.gl.lt
  have h0 := h.alloc (.cells #[.int .i64 0, .string ⟨#[]⟩, .int .i64 0, .int .i64 0, .string ⟨#[]⟩, .slice none 0 0, .slice none 0 0] 27)
  have hR0 : Blk (w.alloc (.cells #[.int .i64 0, .string ⟨#[]⟩, .int .i64 0, .int .i64 0, .string ⟨#[]⟩, .slice none 0 0, .slice none 0 0] 27)) w.heap.size 27 z27 := Blk.new w 27 z27
  have K0 : Kept (· = b) w (w.alloc (.cells #[.int .i64 0, .string ⟨#[]⟩, .int .i64 0, .int .i64 0, .string ⟨#[]⟩, .slice none 0 0, .slice none 0 0] 27)) := (Kept.refl _ _).alloc _
  have zw0 : (w.alloc (.cells #[.int .i64 0, .string ⟨#[]⟩, .int .i64 0, .int .i64 0, .string ⟨#[]⟩, .slice none 0 0, .slice none 0 0] 27)).heap.size = w.heap.size + 1 := by simp
  have Z0 := Lib.hid zw0
  clear zw0
  go_enter Tryz.func33, Tryz.ntmps33
  go_wp2_with fail
  have lo1 := h0.lt
  have zz0 := Z0.out
  refine (hT 9 9 rfl σ _ (by decide) (by decide) h0 (by omega)).mono ?_
  clear zz0
  rintro e w1 hr
  cases h_1 : termS f s 9 σ with
  | error r =>
    have hq : Hid (termS (f + 1) s 8 σ = .error r) := Lib.hid (by unfold termS; simp only [show ((8 : Nat) == 5) = false from rfl, show ((8 : Nat) == 13) = false from rfl, show (8 + 1 : Nat) = 9 from rfl, h_1])
    obtain ⟨rfl, k1⟩ := hr.getErr h_1
    clear hr
    go_wp2_with fail
    exact ⟨rfl, RPost.err hq.out ⟨rfl, K0.trans k1⟩⟩
  | ok q1 =>
    obtain ⟨t1, σ1⟩ := q1
    obtain ⟨v, rfl, ⟨tk1, kk1, rfl, at1, ct1⟩, p1, k1⟩ := hr.getOk h_1
    clear hr
    have j_1 := HI.out _ _ _ _ h0.le h_1
    have i_1 := j_1.1
    try unfold Inv at i_1
    try unfold Inv1 at i_1
    obtain ⟨ta1, tn1, tc1, rfl⟩ := at1.slice
    obtain ⟨ma1, mn1, mc1, rfl⟩ := ct1.slice
    unfold tmVal
    have hR_1 := hR0.kept k1 (by show ¬ w.heap.size = b; omega)
    have K1 := K0.trans k1
    have lb1 := p1.lt
    have zz1 := K1.size
    have zk1 := k1.size
    have lR1 := hR_1.lt
    have h0_1 := p1.alloc (.cells #[.int .i64 t1.op, .string t1.name, .int .i64 t1.n, .int .i64 t1.ty.kind, .string t1.ty.name, .slice ta1 tn1 tc1, .slice ma1 mn1 mc1] 27)
    have K0_1 := K1.alloc (.cells #[.int .i64 t1.op, .string t1.name, .int .i64 t1.n, .int .i64 t1.ty.kind, .string t1.ty.name, .slice ta1 tn1 tc1, .slice ma1 mn1 mc1] 27)
    have hxR_1 := hR_1.alloc (.cells #[.int .i64 t1.op, .string t1.name, .int .i64 t1.n, .int .i64 t1.ty.kind, .string t1.ty.name, .slice ta1 tn1 tc1, .slice ma1 mn1 mc1] 27)
    have hLt1_1 : Blk (w1.alloc (.cells #[.int .i64 t1.op, .string t1.name, .int .i64 t1.n, .int .i64 t1.ty.kind, .string t1.ty.name, .slice ta1 tn1 tc1, .slice ma1 mn1 mc1] 27)) w1.heap.size 27 (tmCells t1 (.slice ta1 tn1 tc1) (.slice ma1 mn1 mc1)) := Blk.new w1 27 _
    have axt1_1 := at1.frame (Same.alloc _ (.cells #[.int .i64 t1.op, .string t1.name, .int .i64 t1.n, .int .i64 t1.ty.kind, .string t1.ty.name, .slice ta1 tn1 tc1, .slice ma1 mn1 mc1] 27))
    have cxt1_1 := ct1.frame (Same.alloc _ (.cells #[.int .i64 t1.op, .string t1.name, .int .i64 t1.n, .int .i64 t1.ty.kind, .string t1.ty.name, .slice ta1 tn1 tc1, .slice ma1 mn1 mc1] 27))
    have zw1 : (w1.alloc (.cells #[.int .i64 t1.op, .string t1.name, .int .i64 t1.n, .int .i64 t1.ty.kind, .string t1.ty.name, .slice ta1 tn1 tc1, .slice ma1 mn1 mc1] 27)).heap.size = w1.heap.size + 1 := by simp
    have Z1 := Lib.hid zw1
    clear zw1
    go_wp2_with fail
    have zz0 := Z0.out
    have lo2 := h0_1.lt
    refine (rest_any hT HI.out h0_1 (by omega) (n := 8) (by unfold lvOK; omega) t1 ta1 tn1 tc1 ma1 mn1 mc1 (w.alloc (.cells #[.int .i64 0, .string ⟨#[]⟩, .int .i64 0, .int .i64 0, .string ⟨#[]⟩, .slice none 0 0, .slice none 0 0] 27)).heap.size (by omega) (by have := Z1.out; omega) axt1_1 cxt1_1).mono ?_
    rintro e w2 hr
    cases h_2 : restS (termS f s) s 8 (s.size + 2) t1 σ1 with
    | error r =>
      have hq : Hid (termS (f + 1) s 8 σ = .error r) := Lib.hid (by unfold termS; simp only [show ((8 : Nat) == 5) = false from rfl, show ((8 : Nat) == 13) = false from rfl, show (8 + 1 : Nat) = 9 from rfl, h_1, h_2])
      obtain ⟨rfl, k2⟩ := hr.getErr h_2
      clear hr
      go_wp2_with fail
      exact ⟨rfl, RPost.err hq.out ⟨rfl, K0_1.trans k2⟩⟩
    | ok q2 =>
      obtain ⟨t2, σ2⟩ := q2
      obtain ⟨v, rfl, ⟨tk2, kk2, rfl, at2, ct2⟩, p2, k2⟩ := hr.getOk h_2
      clear hr
      have j_2 := inv_rest HI.out _ j_1.2 h0_1.le h_2
      have i_2 := j_2.1
      try unfold Inv at i_2
      try unfold Inv1 at i_2
      obtain ⟨ta2, tn2, tc2, rfl⟩ := at2.slice
      obtain ⟨ma2, mn2, mc2, rfl⟩ := ct2.slice
      unfold tmVal
      have hR_2 := hxR_1.kept k2 (by show ¬ w.heap.size = b; omega)
      have hLt1_2 := hLt1_1.kept k2 (by show ¬ w1.heap.size = b; omega)
      have at1_2 := axt1_1.frame (Same.of_kept k2 (fun k h e => by omega))
      have ct1_2 := cxt1_1.frame (Same.of_kept k2 (fun k h e => by omega))
      have K2 := K0_1.trans k2
      have lb2 := p2.lt
      have zz2 := K2.size
      have zk2 := k2.size
      have lR2 := hR_2.lt
      have lLt12 := hLt1_2.lt
      have hq : Hid (termS (f + 1) s 8 σ = .ok (t2, σ2)) := Lib.hid (by unfold termS; simp only [show ((8 : Nat) == 5) = false from rfl, show ((8 : Nat) == 13) = false from rfl, show (8 + 1 : Nat) = 9 from rfl, h_1, h_2])
      have gA : ∀ i, w2.cell? ⟨w.heap.size, i, none⟩ = [Value.int .i64 0, .string ⟨#[]⟩, .int .i64 0, .int .i64 0, .string ⟨#[]⟩, .slice none 0 0, .slice none 0 0][i]? := hR_2.cell
      have fA : ∀ i, w2.frozen? ⟨w.heap.size, i, none⟩ = false := hR_2.frozen
      have yt1A : ∀ i, w2.cell? ⟨w1.heap.size, i, none⟩ = [Value.int .i64 t1.op, .string t1.name, .int .i64 t1.n, .int .i64 t1.ty.kind, .string t1.ty.name, .slice ta1 tn1 tc1, .slice ma1 mn1 mc1][i]? := hLt1_2.cell
      have l9 : w.heap.size < w2.heap.size := hR_2.lt
      clear zz0
      go_wp2_with fail
      have zz0 := Z0.out
      refine ret_tm Tryz.results33 hq.out rfl rfl ((r7 hR_2 rfl)) ?_ ?_ ((p7w p2 (by omega) (by omega))) ((k7w K2 (Or.inr (Nat.le_refl _))))
      · exact (at2.frame (same7 (R := w.heap.size) (by omega))).mono (fun k _ h => by omega)
      · exact (ct2.frame (same7 (R := w.heap.size) (by omega))).mono (fun k _ h => by omega)
set_option maxHeartbeats 4000000 in
theorem term_l9 {b : Nat} {s : ByteArray} {f : Nat} {w : World} {σ : PS} (hT : TC b s f (termS f s)) (h : PW w b s σ) (hf : 14 * mu s σ + (14 - 9) < f + 1) :
    Calls Tryz.prog 33 #[.pointer (some ⟨b, 0, none⟩), .int .i64 9] w (RPost b s (VTm w.heap.size) (termS (f + 1) s 9 σ) w) := by
  have hI := inv_term f s
  have HI := Lib.hid hI
  clear hI
  have hlt := h.lt
  have hgl := h.gl.lt
  have h0 := h.alloc (.cells #[.int .i64 0, .string ⟨#[]⟩, .int .i64 0, .int .i64 0, .string ⟨#[]⟩, .slice none 0 0, .slice none 0 0] 27)
  have hR0 : Blk (w.alloc (.cells #[.int .i64 0, .string ⟨#[]⟩, .int .i64 0, .int .i64 0, .string ⟨#[]⟩, .slice none 0 0, .slice none 0 0] 27)) w.heap.size 27 z27 := Blk.new w 27 z27
  have K0 : Kept (· = b) w (w.alloc (.cells #[.int .i64 0, .string ⟨#[]⟩, .int .i64 0, .int .i64 0, .string ⟨#[]⟩, .slice none 0 0, .slice none 0 0] 27)) := (Kept.refl _ _).alloc _
  have zw0 : (w.alloc (.cells #[.int .i64 0, .string ⟨#[]⟩, .int .i64 0, .int .i64 0, .string ⟨#[]⟩, .slice none 0 0, .slice none 0 0] 27)).heap.size = w.heap.size + 1 := by simp
  have Z0 := Lib.hid zw0
  clear zw0
  go_enter Tryz.func33, Tryz.ntmps33
  go_wp2_with fail
  have lo1 := h0.lt
  have zz0 := Z0.out
  refine (hT 10 10 rfl σ _ (by decide) (by decide) h0 (by omega)).mono ?_
  clear zz0
  rintro e w1 hr
  cases h_1 : termS f s 10 σ with
  | error r =>
    have hq : Hid (termS (f + 1) s 9 σ = .error r) := Lib.hid (by unfold termS; simp only [show ((9 : Nat) == 5) = false from rfl, show ((9 : Nat) == 13) = false from rfl, show (9 + 1 : Nat) = 10 from rfl, h_1])
    obtain ⟨rfl, k1⟩ := hr.getErr h_1
    clear hr
    go_wp2_with fail
    exact ⟨rfl, RPost.err hq.out ⟨rfl, K0.trans k1⟩⟩
  | ok q1 =>
    obtain ⟨t1, σ1⟩ := q1
    obtain ⟨v, rfl, ⟨tk1, kk1, rfl, at1, ct1⟩, p1, k1⟩ := hr.getOk h_1
    clear hr
    have j_1 := HI.out _ _ _ _ h0.le h_1
    have i_1 := j_1.1
    try unfold Inv at i_1
    try unfold Inv1 at i_1
    obtain ⟨ta1, tn1, tc1, rfl⟩ := at1.slice
    obtain ⟨ma1, mn1, mc1, rfl⟩ := ct1.slice
    unfold tmVal
    have hR_1 := hR0.kept k1 (by show ¬ w.heap.size = b; omega)
    have K1 := K0.trans k1
    have lb1 := p1.lt
    have zz1 := K1.size
    have zk1 := k1.size
    have lR1 := hR_1.lt
    have h0_1 := p1.alloc (.cells #[.int .i64 t1.op, .string t1.name, .int .i64 t1.n, .int .i64 t1.ty.kind, .string t1.ty.name, .slice ta1 tn1 tc1, .slice ma1 mn1 mc1] 27)
    have K0_1 := K1.alloc (.cells #[.int .i64 t1.op, .string t1.name, .int .i64 t1.n, .int .i64 t1.ty.kind, .string t1.ty.name, .slice ta1 tn1 tc1, .slice ma1 mn1 mc1] 27)
    have hxR_1 := hR_1.alloc (.cells #[.int .i64 t1.op, .string t1.name, .int .i64 t1.n, .int .i64 t1.ty.kind, .string t1.ty.name, .slice ta1 tn1 tc1, .slice ma1 mn1 mc1] 27)
    have hLt1_1 : Blk (w1.alloc (.cells #[.int .i64 t1.op, .string t1.name, .int .i64 t1.n, .int .i64 t1.ty.kind, .string t1.ty.name, .slice ta1 tn1 tc1, .slice ma1 mn1 mc1] 27)) w1.heap.size 27 (tmCells t1 (.slice ta1 tn1 tc1) (.slice ma1 mn1 mc1)) := Blk.new w1 27 _
    have axt1_1 := at1.frame (Same.alloc _ (.cells #[.int .i64 t1.op, .string t1.name, .int .i64 t1.n, .int .i64 t1.ty.kind, .string t1.ty.name, .slice ta1 tn1 tc1, .slice ma1 mn1 mc1] 27))
    have cxt1_1 := ct1.frame (Same.alloc _ (.cells #[.int .i64 t1.op, .string t1.name, .int .i64 t1.n, .int .i64 t1.ty.kind, .string t1.ty.name, .slice ta1 tn1 tc1, .slice ma1 mn1 mc1] 27))
    have zw1 : (w1.alloc (.cells #[.int .i64 t1.op, .string t1.name, .int .i64 t1.n, .int .i64 t1.ty.kind, .string t1.ty.name, .slice ta1 tn1 tc1, .slice ma1 mn1 mc1] 27)).heap.size = w1.heap.size + 1 := by simp
    have Z1 := Lib.hid zw1
    clear zw1
    go_wp2_with fail
    have zz0 := Z0.out
    have lo2 := h0_1.lt
    refine (rest_any hT HI.out h0_1 (by omega) (n := 9) (by unfold lvOK; omega) t1 ta1 tn1 tc1 ma1 mn1 mc1 (w.alloc (.cells #[.int .i64 0, .string ⟨#[]⟩, .int .i64 0, .int .i64 0, .string ⟨#[]⟩, .slice none 0 0, .slice none 0 0] 27)).heap.size (by omega) (by have := Z1.out; omega) axt1_1 cxt1_1).mono ?_
    rintro e w2 hr
    cases h_2 : restS (termS f s) s 9 (s.size + 2) t1 σ1 with
    | error r =>
      have hq : Hid (termS (f + 1) s 9 σ = .error r) := Lib.hid (by unfold termS; simp only [show ((9 : Nat) == 5) = false from rfl, show ((9 : Nat) == 13) = false from rfl, show (9 + 1 : Nat) = 10 from rfl, h_1, h_2])
      obtain ⟨rfl, k2⟩ := hr.getErr h_2
      clear hr
      go_wp2_with fail
      exact ⟨rfl, RPost.err hq.out ⟨rfl, K0_1.trans k2⟩⟩
    | ok q2 =>
      obtain ⟨t2, σ2⟩ := q2
      obtain ⟨v, rfl, ⟨tk2, kk2, rfl, at2, ct2⟩, p2, k2⟩ := hr.getOk h_2
      clear hr
      have j_2 := inv_rest HI.out _ j_1.2 h0_1.le h_2
      have i_2 := j_2.1
      try unfold Inv at i_2
      try unfold Inv1 at i_2
      obtain ⟨ta2, tn2, tc2, rfl⟩ := at2.slice
      obtain ⟨ma2, mn2, mc2, rfl⟩ := ct2.slice
      unfold tmVal
      have hR_2 := hxR_1.kept k2 (by show ¬ w.heap.size = b; omega)
      have hLt1_2 := hLt1_1.kept k2 (by show ¬ w1.heap.size = b; omega)
      have at1_2 := axt1_1.frame (Same.of_kept k2 (fun k h e => by omega))
      have ct1_2 := cxt1_1.frame (Same.of_kept k2 (fun k h e => by omega))
      have K2 := K0_1.trans k2
      have lb2 := p2.lt
      have zz2 := K2.size
      have zk2 := k2.size
      have lR2 := hR_2.lt
      have lLt12 := hLt1_2.lt
      have hq : Hid (termS (f + 1) s 9 σ = .ok (t2, σ2)) := Lib.hid (by unfold termS; simp only [show ((9 : Nat) == 5) = false from rfl, show ((9 : Nat) == 13) = false from rfl, show (9 + 1 : Nat) = 10 from rfl, h_1, h_2])
      have gA : ∀ i, w2.cell? ⟨w.heap.size, i, none⟩ = [Value.int .i64 0, .string ⟨#[]⟩, .int .i64 0, .int .i64 0, .string ⟨#[]⟩, .slice none 0 0, .slice none 0 0][i]? := hR_2.cell
      have fA : ∀ i, w2.frozen? ⟨w.heap.size, i, none⟩ = false := hR_2.frozen
      have yt1A : ∀ i, w2.cell? ⟨w1.heap.size, i, none⟩ = [Value.int .i64 t1.op, .string t1.name, .int .i64 t1.n, .int .i64 t1.ty.kind, .string t1.ty.name, .slice ta1 tn1 tc1, .slice ma1 mn1 mc1][i]? := hLt1_2.cell
      have l9 : w.heap.size < w2.heap.size := hR_2.lt
      clear zz0
      go_wp2_with fail
      have zz0 := Z0.out
      refine ret_tm Tryz.results33 hq.out rfl rfl ((r7 hR_2 rfl)) ?_ ?_ ((p7w p2 (by omega) (by omega))) ((k7w K2 (Or.inr (Nat.le_refl _))))
      · exact (at2.frame (same7 (R := w.heap.size) (by omega))).mono (fun k _ h => by omega)
      · exact (ct2.frame (same7 (R := w.heap.size) (by omega))).mono (fun k _ h => by omega)
set_option maxHeartbeats 4000000 in
theorem term_l10 {b : Nat} {s : ByteArray} {f : Nat} {w : World} {σ : PS} (hT : TC b s f (termS f s)) (h : PW w b s σ) (hf : 14 * mu s σ + (14 - 10) < f + 1) :
    Calls Tryz.prog 33 #[.pointer (some ⟨b, 0, none⟩), .int .i64 10] w (RPost b s (VTm w.heap.size) (termS (f + 1) s 10 σ) w) := by
  have hI := inv_term f s
  have HI := Lib.hid hI
  clear hI
  have hlt := h.lt
  have hgl := h.gl.lt
  have h0 := h.alloc (.cells #[.int .i64 0, .string ⟨#[]⟩, .int .i64 0, .int .i64 0, .string ⟨#[]⟩, .slice none 0 0, .slice none 0 0] 27)
  have hR0 : Blk (w.alloc (.cells #[.int .i64 0, .string ⟨#[]⟩, .int .i64 0, .int .i64 0, .string ⟨#[]⟩, .slice none 0 0, .slice none 0 0] 27)) w.heap.size 27 z27 := Blk.new w 27 z27
  have K0 : Kept (· = b) w (w.alloc (.cells #[.int .i64 0, .string ⟨#[]⟩, .int .i64 0, .int .i64 0, .string ⟨#[]⟩, .slice none 0 0, .slice none 0 0] 27)) := (Kept.refl _ _).alloc _
  have zw0 : (w.alloc (.cells #[.int .i64 0, .string ⟨#[]⟩, .int .i64 0, .int .i64 0, .string ⟨#[]⟩, .slice none 0 0, .slice none 0 0] 27)).heap.size = w.heap.size + 1 := by simp
  have Z0 := Lib.hid zw0
  clear zw0
  go_enter Tryz.func33, Tryz.ntmps33
  go_wp2_with fail
  have lo1 := h0.lt
  have zz0 := Z0.out
  refine (hT 11 11 rfl σ _ (by decide) (by decide) h0 (by omega)).mono ?_
  clear zz0
  rintro e w1 hr
  cases h_1 : termS f s 11 σ with
  | error r =>
    have hq : Hid (termS (f + 1) s 10 σ = .error r) := Lib.hid (by unfold termS; simp only [show ((10 : Nat) == 5) = false from rfl, show ((10 : Nat) == 13) = false from rfl, show (10 + 1 : Nat) = 11 from rfl, h_1])
    obtain ⟨rfl, k1⟩ := hr.getErr h_1
    clear hr
    go_wp2_with fail
    exact ⟨rfl, RPost.err hq.out ⟨rfl, K0.trans k1⟩⟩
  | ok q1 =>
    obtain ⟨t1, σ1⟩ := q1
    obtain ⟨v, rfl, ⟨tk1, kk1, rfl, at1, ct1⟩, p1, k1⟩ := hr.getOk h_1
    clear hr
    have j_1 := HI.out _ _ _ _ h0.le h_1
    have i_1 := j_1.1
    try unfold Inv at i_1
    try unfold Inv1 at i_1
    obtain ⟨ta1, tn1, tc1, rfl⟩ := at1.slice
    obtain ⟨ma1, mn1, mc1, rfl⟩ := ct1.slice
    unfold tmVal
    have hR_1 := hR0.kept k1 (by show ¬ w.heap.size = b; omega)
    have K1 := K0.trans k1
    have lb1 := p1.lt
    have zz1 := K1.size
    have zk1 := k1.size
    have lR1 := hR_1.lt
    have h0_1 := p1.alloc (.cells #[.int .i64 t1.op, .string t1.name, .int .i64 t1.n, .int .i64 t1.ty.kind, .string t1.ty.name, .slice ta1 tn1 tc1, .slice ma1 mn1 mc1] 27)
    have K0_1 := K1.alloc (.cells #[.int .i64 t1.op, .string t1.name, .int .i64 t1.n, .int .i64 t1.ty.kind, .string t1.ty.name, .slice ta1 tn1 tc1, .slice ma1 mn1 mc1] 27)
    have hxR_1 := hR_1.alloc (.cells #[.int .i64 t1.op, .string t1.name, .int .i64 t1.n, .int .i64 t1.ty.kind, .string t1.ty.name, .slice ta1 tn1 tc1, .slice ma1 mn1 mc1] 27)
    have hLt1_1 : Blk (w1.alloc (.cells #[.int .i64 t1.op, .string t1.name, .int .i64 t1.n, .int .i64 t1.ty.kind, .string t1.ty.name, .slice ta1 tn1 tc1, .slice ma1 mn1 mc1] 27)) w1.heap.size 27 (tmCells t1 (.slice ta1 tn1 tc1) (.slice ma1 mn1 mc1)) := Blk.new w1 27 _
    have axt1_1 := at1.frame (Same.alloc _ (.cells #[.int .i64 t1.op, .string t1.name, .int .i64 t1.n, .int .i64 t1.ty.kind, .string t1.ty.name, .slice ta1 tn1 tc1, .slice ma1 mn1 mc1] 27))
    have cxt1_1 := ct1.frame (Same.alloc _ (.cells #[.int .i64 t1.op, .string t1.name, .int .i64 t1.n, .int .i64 t1.ty.kind, .string t1.ty.name, .slice ta1 tn1 tc1, .slice ma1 mn1 mc1] 27))
    have zw1 : (w1.alloc (.cells #[.int .i64 t1.op, .string t1.name, .int .i64 t1.n, .int .i64 t1.ty.kind, .string t1.ty.name, .slice ta1 tn1 tc1, .slice ma1 mn1 mc1] 27)).heap.size = w1.heap.size + 1 := by simp
    have Z1 := Lib.hid zw1
    clear zw1
    go_wp2_with fail
    have zz0 := Z0.out
    have lo2 := h0_1.lt
    refine (rest_any hT HI.out h0_1 (by omega) (n := 10) (by unfold lvOK; omega) t1 ta1 tn1 tc1 ma1 mn1 mc1 (w.alloc (.cells #[.int .i64 0, .string ⟨#[]⟩, .int .i64 0, .int .i64 0, .string ⟨#[]⟩, .slice none 0 0, .slice none 0 0] 27)).heap.size (by omega) (by have := Z1.out; omega) axt1_1 cxt1_1).mono ?_
    rintro e w2 hr
    cases h_2 : restS (termS f s) s 10 (s.size + 2) t1 σ1 with
    | error r =>
      have hq : Hid (termS (f + 1) s 10 σ = .error r) := Lib.hid (by unfold termS; simp only [show ((10 : Nat) == 5) = false from rfl, show ((10 : Nat) == 13) = false from rfl, show (10 + 1 : Nat) = 11 from rfl, h_1, h_2])
      obtain ⟨rfl, k2⟩ := hr.getErr h_2
      clear hr
      go_wp2_with fail
      exact ⟨rfl, RPost.err hq.out ⟨rfl, K0_1.trans k2⟩⟩
    | ok q2 =>
      obtain ⟨t2, σ2⟩ := q2
      obtain ⟨v, rfl, ⟨tk2, kk2, rfl, at2, ct2⟩, p2, k2⟩ := hr.getOk h_2
      clear hr
      have j_2 := inv_rest HI.out _ j_1.2 h0_1.le h_2
      have i_2 := j_2.1
      try unfold Inv at i_2
      try unfold Inv1 at i_2
      obtain ⟨ta2, tn2, tc2, rfl⟩ := at2.slice
      obtain ⟨ma2, mn2, mc2, rfl⟩ := ct2.slice
      unfold tmVal
      have hR_2 := hxR_1.kept k2 (by show ¬ w.heap.size = b; omega)
      have hLt1_2 := hLt1_1.kept k2 (by show ¬ w1.heap.size = b; omega)
      have at1_2 := axt1_1.frame (Same.of_kept k2 (fun k h e => by omega))
      have ct1_2 := cxt1_1.frame (Same.of_kept k2 (fun k h e => by omega))
      have K2 := K0_1.trans k2
      have lb2 := p2.lt
      have zz2 := K2.size
      have zk2 := k2.size
      have lR2 := hR_2.lt
      have lLt12 := hLt1_2.lt
      have hq : Hid (termS (f + 1) s 10 σ = .ok (t2, σ2)) := Lib.hid (by unfold termS; simp only [show ((10 : Nat) == 5) = false from rfl, show ((10 : Nat) == 13) = false from rfl, show (10 + 1 : Nat) = 11 from rfl, h_1, h_2])
      have gA : ∀ i, w2.cell? ⟨w.heap.size, i, none⟩ = [Value.int .i64 0, .string ⟨#[]⟩, .int .i64 0, .int .i64 0, .string ⟨#[]⟩, .slice none 0 0, .slice none 0 0][i]? := hR_2.cell
      have fA : ∀ i, w2.frozen? ⟨w.heap.size, i, none⟩ = false := hR_2.frozen
      have yt1A : ∀ i, w2.cell? ⟨w1.heap.size, i, none⟩ = [Value.int .i64 t1.op, .string t1.name, .int .i64 t1.n, .int .i64 t1.ty.kind, .string t1.ty.name, .slice ta1 tn1 tc1, .slice ma1 mn1 mc1][i]? := hLt1_2.cell
      have l9 : w.heap.size < w2.heap.size := hR_2.lt
      clear zz0
      go_wp2_with fail
      have zz0 := Z0.out
      refine ret_tm Tryz.results33 hq.out rfl rfl ((r7 hR_2 rfl)) ?_ ?_ ((p7w p2 (by omega) (by omega))) ((k7w K2 (Or.inr (Nat.le_refl _))))
      · exact (at2.frame (same7 (R := w.heap.size) (by omega))).mono (fun k _ h => by omega)
      · exact (ct2.frame (same7 (R := w.heap.size) (by omega))).mono (fun k _ h => by omega)
set_option maxHeartbeats 4000000 in
theorem term_l11 {b : Nat} {s : ByteArray} {f : Nat} {w : World} {σ : PS} (hT : TC b s f (termS f s)) (h : PW w b s σ) (hf : 14 * mu s σ + (14 - 11) < f + 1) :
    Calls Tryz.prog 33 #[.pointer (some ⟨b, 0, none⟩), .int .i64 11] w (RPost b s (VTm w.heap.size) (termS (f + 1) s 11 σ) w) := by
  have hI := inv_term f s
  have HI := Lib.hid hI
  clear hI
  have hlt := h.lt
  have hgl := h.gl.lt
  have h0 := h.alloc (.cells #[.int .i64 0, .string ⟨#[]⟩, .int .i64 0, .int .i64 0, .string ⟨#[]⟩, .slice none 0 0, .slice none 0 0] 27)
  have hR0 : Blk (w.alloc (.cells #[.int .i64 0, .string ⟨#[]⟩, .int .i64 0, .int .i64 0, .string ⟨#[]⟩, .slice none 0 0, .slice none 0 0] 27)) w.heap.size 27 z27 := Blk.new w 27 z27
  have K0 : Kept (· = b) w (w.alloc (.cells #[.int .i64 0, .string ⟨#[]⟩, .int .i64 0, .int .i64 0, .string ⟨#[]⟩, .slice none 0 0, .slice none 0 0] 27)) := (Kept.refl _ _).alloc _
  have zw0 : (w.alloc (.cells #[.int .i64 0, .string ⟨#[]⟩, .int .i64 0, .int .i64 0, .string ⟨#[]⟩, .slice none 0 0, .slice none 0 0] 27)).heap.size = w.heap.size + 1 := by simp
  have Z0 := Lib.hid zw0
  clear zw0
  go_enter Tryz.func33, Tryz.ntmps33
  go_wp2_with fail
  have lo1 := h0.lt
  have zz0 := Z0.out
  refine (hT 12 12 rfl σ _ (by decide) (by decide) h0 (by omega)).mono ?_
  clear zz0
  rintro e w1 hr
  cases h_1 : termS f s 12 σ with
  | error r =>
    have hq : Hid (termS (f + 1) s 11 σ = .error r) := Lib.hid (by unfold termS; simp only [show ((11 : Nat) == 5) = false from rfl, show ((11 : Nat) == 13) = false from rfl, show (11 + 1 : Nat) = 12 from rfl, h_1])
    obtain ⟨rfl, k1⟩ := hr.getErr h_1
    clear hr
    go_wp2_with fail
    exact ⟨rfl, RPost.err hq.out ⟨rfl, K0.trans k1⟩⟩
  | ok q1 =>
    obtain ⟨t1, σ1⟩ := q1
    obtain ⟨v, rfl, ⟨tk1, kk1, rfl, at1, ct1⟩, p1, k1⟩ := hr.getOk h_1
    clear hr
    have j_1 := HI.out _ _ _ _ h0.le h_1
    have i_1 := j_1.1
    try unfold Inv at i_1
    try unfold Inv1 at i_1
    obtain ⟨ta1, tn1, tc1, rfl⟩ := at1.slice
    obtain ⟨ma1, mn1, mc1, rfl⟩ := ct1.slice
    unfold tmVal
    have hR_1 := hR0.kept k1 (by show ¬ w.heap.size = b; omega)
    have K1 := K0.trans k1
    have lb1 := p1.lt
    have zz1 := K1.size
    have zk1 := k1.size
    have lR1 := hR_1.lt
    have h0_1 := p1.alloc (.cells #[.int .i64 t1.op, .string t1.name, .int .i64 t1.n, .int .i64 t1.ty.kind, .string t1.ty.name, .slice ta1 tn1 tc1, .slice ma1 mn1 mc1] 27)
    have K0_1 := K1.alloc (.cells #[.int .i64 t1.op, .string t1.name, .int .i64 t1.n, .int .i64 t1.ty.kind, .string t1.ty.name, .slice ta1 tn1 tc1, .slice ma1 mn1 mc1] 27)
    have hxR_1 := hR_1.alloc (.cells #[.int .i64 t1.op, .string t1.name, .int .i64 t1.n, .int .i64 t1.ty.kind, .string t1.ty.name, .slice ta1 tn1 tc1, .slice ma1 mn1 mc1] 27)
    have hLt1_1 : Blk (w1.alloc (.cells #[.int .i64 t1.op, .string t1.name, .int .i64 t1.n, .int .i64 t1.ty.kind, .string t1.ty.name, .slice ta1 tn1 tc1, .slice ma1 mn1 mc1] 27)) w1.heap.size 27 (tmCells t1 (.slice ta1 tn1 tc1) (.slice ma1 mn1 mc1)) := Blk.new w1 27 _
    have axt1_1 := at1.frame (Same.alloc _ (.cells #[.int .i64 t1.op, .string t1.name, .int .i64 t1.n, .int .i64 t1.ty.kind, .string t1.ty.name, .slice ta1 tn1 tc1, .slice ma1 mn1 mc1] 27))
    have cxt1_1 := ct1.frame (Same.alloc _ (.cells #[.int .i64 t1.op, .string t1.name, .int .i64 t1.n, .int .i64 t1.ty.kind, .string t1.ty.name, .slice ta1 tn1 tc1, .slice ma1 mn1 mc1] 27))
    have zw1 : (w1.alloc (.cells #[.int .i64 t1.op, .string t1.name, .int .i64 t1.n, .int .i64 t1.ty.kind, .string t1.ty.name, .slice ta1 tn1 tc1, .slice ma1 mn1 mc1] 27)).heap.size = w1.heap.size + 1 := by simp
    have Z1 := Lib.hid zw1
    clear zw1
    go_wp2_with fail
    have zz0 := Z0.out
    have lo2 := h0_1.lt
    refine (rest_any hT HI.out h0_1 (by omega) (n := 11) (by unfold lvOK; omega) t1 ta1 tn1 tc1 ma1 mn1 mc1 (w.alloc (.cells #[.int .i64 0, .string ⟨#[]⟩, .int .i64 0, .int .i64 0, .string ⟨#[]⟩, .slice none 0 0, .slice none 0 0] 27)).heap.size (by omega) (by have := Z1.out; omega) axt1_1 cxt1_1).mono ?_
    rintro e w2 hr
    cases h_2 : restS (termS f s) s 11 (s.size + 2) t1 σ1 with
    | error r =>
      have hq : Hid (termS (f + 1) s 11 σ = .error r) := Lib.hid (by unfold termS; simp only [show ((11 : Nat) == 5) = false from rfl, show ((11 : Nat) == 13) = false from rfl, show (11 + 1 : Nat) = 12 from rfl, h_1, h_2])
      obtain ⟨rfl, k2⟩ := hr.getErr h_2
      clear hr
      go_wp2_with fail
      exact ⟨rfl, RPost.err hq.out ⟨rfl, K0_1.trans k2⟩⟩
    | ok q2 =>
      obtain ⟨t2, σ2⟩ := q2
      obtain ⟨v, rfl, ⟨tk2, kk2, rfl, at2, ct2⟩, p2, k2⟩ := hr.getOk h_2
      clear hr
      have j_2 := inv_rest HI.out _ j_1.2 h0_1.le h_2
      have i_2 := j_2.1
      try unfold Inv at i_2
      try unfold Inv1 at i_2
      obtain ⟨ta2, tn2, tc2, rfl⟩ := at2.slice
      obtain ⟨ma2, mn2, mc2, rfl⟩ := ct2.slice
      unfold tmVal
      have hR_2 := hxR_1.kept k2 (by show ¬ w.heap.size = b; omega)
      have hLt1_2 := hLt1_1.kept k2 (by show ¬ w1.heap.size = b; omega)
      have at1_2 := axt1_1.frame (Same.of_kept k2 (fun k h e => by omega))
      have ct1_2 := cxt1_1.frame (Same.of_kept k2 (fun k h e => by omega))
      have K2 := K0_1.trans k2
      have lb2 := p2.lt
      have zz2 := K2.size
      have zk2 := k2.size
      have lR2 := hR_2.lt
      have lLt12 := hLt1_2.lt
      have hq : Hid (termS (f + 1) s 11 σ = .ok (t2, σ2)) := Lib.hid (by unfold termS; simp only [show ((11 : Nat) == 5) = false from rfl, show ((11 : Nat) == 13) = false from rfl, show (11 + 1 : Nat) = 12 from rfl, h_1, h_2])
      have gA : ∀ i, w2.cell? ⟨w.heap.size, i, none⟩ = [Value.int .i64 0, .string ⟨#[]⟩, .int .i64 0, .int .i64 0, .string ⟨#[]⟩, .slice none 0 0, .slice none 0 0][i]? := hR_2.cell
      have fA : ∀ i, w2.frozen? ⟨w.heap.size, i, none⟩ = false := hR_2.frozen
      have yt1A : ∀ i, w2.cell? ⟨w1.heap.size, i, none⟩ = [Value.int .i64 t1.op, .string t1.name, .int .i64 t1.n, .int .i64 t1.ty.kind, .string t1.ty.name, .slice ta1 tn1 tc1, .slice ma1 mn1 mc1][i]? := hLt1_2.cell
      have l9 : w.heap.size < w2.heap.size := hR_2.lt
      clear zz0
      go_wp2_with fail
      have zz0 := Z0.out
      refine ret_tm Tryz.results33 hq.out rfl rfl ((r7 hR_2 rfl)) ?_ ?_ ((p7w p2 (by omega) (by omega))) ((k7w K2 (Or.inr (Nat.le_refl _))))
      · exact (at2.frame (same7 (R := w.heap.size) (by omega))).mono (fun k _ h => by omega)
      · exact (ct2.frame (same7 (R := w.heap.size) (by omega))).mono (fun k _ h => by omega)
set_option maxHeartbeats 4000000 in
theorem term_l12 {b : Nat} {s : ByteArray} {f : Nat} {w : World} {σ : PS} (hT : TC b s f (termS f s)) (h : PW w b s σ) (hf : 14 * mu s σ + (14 - 12) < f + 1) :
    Calls Tryz.prog 33 #[.pointer (some ⟨b, 0, none⟩), .int .i64 12] w (RPost b s (VTm w.heap.size) (termS (f + 1) s 12 σ) w) := by
  have hI := inv_term f s
  have HI := Lib.hid hI
  clear hI
  have hlt := h.lt
  have hgl := h.gl.lt
  have h0 := h.alloc (.cells #[.int .i64 0, .string ⟨#[]⟩, .int .i64 0, .int .i64 0, .string ⟨#[]⟩, .slice none 0 0, .slice none 0 0] 27)
  have hR0 : Blk (w.alloc (.cells #[.int .i64 0, .string ⟨#[]⟩, .int .i64 0, .int .i64 0, .string ⟨#[]⟩, .slice none 0 0, .slice none 0 0] 27)) w.heap.size 27 z27 := Blk.new w 27 z27
  have K0 : Kept (· = b) w (w.alloc (.cells #[.int .i64 0, .string ⟨#[]⟩, .int .i64 0, .int .i64 0, .string ⟨#[]⟩, .slice none 0 0, .slice none 0 0] 27)) := (Kept.refl _ _).alloc _
  have zw0 : (w.alloc (.cells #[.int .i64 0, .string ⟨#[]⟩, .int .i64 0, .int .i64 0, .string ⟨#[]⟩, .slice none 0 0, .slice none 0 0] 27)).heap.size = w.heap.size + 1 := by simp
  have Z0 := Lib.hid zw0
  clear zw0
  go_enter Tryz.func33, Tryz.ntmps33
  go_wp2_with fail
  have lo1 := h0.lt
  have zz0 := Z0.out
  refine (hT 13 13 rfl σ _ (by decide) (by decide) h0 (by omega)).mono ?_
  clear zz0
  rintro e w1 hr
  cases h_1 : termS f s 13 σ with
  | error r =>
    have hq : Hid (termS (f + 1) s 12 σ = .error r) := Lib.hid (by unfold termS; simp only [show ((12 : Nat) == 5) = false from rfl, show ((12 : Nat) == 13) = false from rfl, show (12 + 1 : Nat) = 13 from rfl, h_1])
    obtain ⟨rfl, k1⟩ := hr.getErr h_1
    clear hr
    go_wp2_with fail
    exact ⟨rfl, RPost.err hq.out ⟨rfl, K0.trans k1⟩⟩
  | ok q1 =>
    obtain ⟨t1, σ1⟩ := q1
    obtain ⟨v, rfl, ⟨tk1, kk1, rfl, at1, ct1⟩, p1, k1⟩ := hr.getOk h_1
    clear hr
    have j_1 := HI.out _ _ _ _ h0.le h_1
    have i_1 := j_1.1
    try unfold Inv at i_1
    try unfold Inv1 at i_1
    obtain ⟨ta1, tn1, tc1, rfl⟩ := at1.slice
    obtain ⟨ma1, mn1, mc1, rfl⟩ := ct1.slice
    unfold tmVal
    have hR_1 := hR0.kept k1 (by show ¬ w.heap.size = b; omega)
    have K1 := K0.trans k1
    have lb1 := p1.lt
    have zz1 := K1.size
    have zk1 := k1.size
    have lR1 := hR_1.lt
    have h0_1 := p1.alloc (.cells #[.int .i64 t1.op, .string t1.name, .int .i64 t1.n, .int .i64 t1.ty.kind, .string t1.ty.name, .slice ta1 tn1 tc1, .slice ma1 mn1 mc1] 27)
    have K0_1 := K1.alloc (.cells #[.int .i64 t1.op, .string t1.name, .int .i64 t1.n, .int .i64 t1.ty.kind, .string t1.ty.name, .slice ta1 tn1 tc1, .slice ma1 mn1 mc1] 27)
    have hxR_1 := hR_1.alloc (.cells #[.int .i64 t1.op, .string t1.name, .int .i64 t1.n, .int .i64 t1.ty.kind, .string t1.ty.name, .slice ta1 tn1 tc1, .slice ma1 mn1 mc1] 27)
    have hLt1_1 : Blk (w1.alloc (.cells #[.int .i64 t1.op, .string t1.name, .int .i64 t1.n, .int .i64 t1.ty.kind, .string t1.ty.name, .slice ta1 tn1 tc1, .slice ma1 mn1 mc1] 27)) w1.heap.size 27 (tmCells t1 (.slice ta1 tn1 tc1) (.slice ma1 mn1 mc1)) := Blk.new w1 27 _
    have axt1_1 := at1.frame (Same.alloc _ (.cells #[.int .i64 t1.op, .string t1.name, .int .i64 t1.n, .int .i64 t1.ty.kind, .string t1.ty.name, .slice ta1 tn1 tc1, .slice ma1 mn1 mc1] 27))
    have cxt1_1 := ct1.frame (Same.alloc _ (.cells #[.int .i64 t1.op, .string t1.name, .int .i64 t1.n, .int .i64 t1.ty.kind, .string t1.ty.name, .slice ta1 tn1 tc1, .slice ma1 mn1 mc1] 27))
    have zw1 : (w1.alloc (.cells #[.int .i64 t1.op, .string t1.name, .int .i64 t1.n, .int .i64 t1.ty.kind, .string t1.ty.name, .slice ta1 tn1 tc1, .slice ma1 mn1 mc1] 27)).heap.size = w1.heap.size + 1 := by simp
    have Z1 := Lib.hid zw1
    clear zw1
    go_wp2_with fail
    have zz0 := Z0.out
    have lo2 := h0_1.lt
    refine (rest_any hT HI.out h0_1 (by omega) (n := 12) (by unfold lvOK; omega) t1 ta1 tn1 tc1 ma1 mn1 mc1 (w.alloc (.cells #[.int .i64 0, .string ⟨#[]⟩, .int .i64 0, .int .i64 0, .string ⟨#[]⟩, .slice none 0 0, .slice none 0 0] 27)).heap.size (by omega) (by have := Z1.out; omega) axt1_1 cxt1_1).mono ?_
    rintro e w2 hr
    cases h_2 : restS (termS f s) s 12 (s.size + 2) t1 σ1 with
    | error r =>
      have hq : Hid (termS (f + 1) s 12 σ = .error r) := Lib.hid (by unfold termS; simp only [show ((12 : Nat) == 5) = false from rfl, show ((12 : Nat) == 13) = false from rfl, show (12 + 1 : Nat) = 13 from rfl, h_1, h_2])
      obtain ⟨rfl, k2⟩ := hr.getErr h_2
      clear hr
      go_wp2_with fail
      exact ⟨rfl, RPost.err hq.out ⟨rfl, K0_1.trans k2⟩⟩
    | ok q2 =>
      obtain ⟨t2, σ2⟩ := q2
      obtain ⟨v, rfl, ⟨tk2, kk2, rfl, at2, ct2⟩, p2, k2⟩ := hr.getOk h_2
      clear hr
      have j_2 := inv_rest HI.out _ j_1.2 h0_1.le h_2
      have i_2 := j_2.1
      try unfold Inv at i_2
      try unfold Inv1 at i_2
      obtain ⟨ta2, tn2, tc2, rfl⟩ := at2.slice
      obtain ⟨ma2, mn2, mc2, rfl⟩ := ct2.slice
      unfold tmVal
      have hR_2 := hxR_1.kept k2 (by show ¬ w.heap.size = b; omega)
      have hLt1_2 := hLt1_1.kept k2 (by show ¬ w1.heap.size = b; omega)
      have at1_2 := axt1_1.frame (Same.of_kept k2 (fun k h e => by omega))
      have ct1_2 := cxt1_1.frame (Same.of_kept k2 (fun k h e => by omega))
      have K2 := K0_1.trans k2
      have lb2 := p2.lt
      have zz2 := K2.size
      have zk2 := k2.size
      have lR2 := hR_2.lt
      have lLt12 := hLt1_2.lt
      have hq : Hid (termS (f + 1) s 12 σ = .ok (t2, σ2)) := Lib.hid (by unfold termS; simp only [show ((12 : Nat) == 5) = false from rfl, show ((12 : Nat) == 13) = false from rfl, show (12 + 1 : Nat) = 13 from rfl, h_1, h_2])
      have gA : ∀ i, w2.cell? ⟨w.heap.size, i, none⟩ = [Value.int .i64 0, .string ⟨#[]⟩, .int .i64 0, .int .i64 0, .string ⟨#[]⟩, .slice none 0 0, .slice none 0 0][i]? := hR_2.cell
      have fA : ∀ i, w2.frozen? ⟨w.heap.size, i, none⟩ = false := hR_2.frozen
      have yt1A : ∀ i, w2.cell? ⟨w1.heap.size, i, none⟩ = [Value.int .i64 t1.op, .string t1.name, .int .i64 t1.n, .int .i64 t1.ty.kind, .string t1.ty.name, .slice ta1 tn1 tc1, .slice ma1 mn1 mc1][i]? := hLt1_2.cell
      have l9 : w.heap.size < w2.heap.size := hR_2.lt
      clear zz0
      go_wp2_with fail
      have zz0 := Z0.out
      refine ret_tm Tryz.results33 hq.out rfl rfl ((r7 hR_2 rfl)) ?_ ?_ ((p7w p2 (by omega) (by omega))) ((k7w K2 (Or.inr (Nat.le_refl _))))
      · exact (at2.frame (same7 (R := w.heap.size) (by omega))).mono (fun k _ h => by omega)
      · exact (ct2.frame (same7 (R := w.heap.size) (by omega))).mono (fun k _ h => by omega)
set_option maxHeartbeats 4000000 in
theorem term_at {b : Nat} {s : ByteArray} {f : Nat} {w : World} {σ : PS} (hT : TC b s f (termS f s)) (h : PW w b s σ) (hS : TSm 65536 s (termS f s)) (hf : 14 * mu s σ + (14 - 13) < f + 1) (hi : isS σ kMinus = false) :
    Calls Tryz.prog 33 #[.pointer (some ⟨b, 0, none⟩), .int .i64 13] w (RPost b s (VTm w.heap.size) (termS (f + 1) s 13 σ) w) := by
  have hI := inv_term f s
  have HI := Lib.hid hI
  clear hI
  have HS := Lib.hid hS
  clear hS
  have hlt := h.lt
  have hgl := h.gl.lt
  have h0 := h.alloc (.cells #[.int .i64 0, .string ⟨#[]⟩, .int .i64 0, .int .i64 0, .string ⟨#[]⟩, .slice none 0 0, .slice none 0 0] 27)
  have hR0 : Blk (w.alloc (.cells #[.int .i64 0, .string ⟨#[]⟩, .int .i64 0, .int .i64 0, .string ⟨#[]⟩, .slice none 0 0, .slice none 0 0] 27)) w.heap.size 27 z27 := Blk.new w 27 z27
  have K0 : Kept (· = b) w (w.alloc (.cells #[.int .i64 0, .string ⟨#[]⟩, .int .i64 0, .int .i64 0, .string ⟨#[]⟩, .slice none 0 0, .slice none 0 0] 27)) := (Kept.refl _ _).alloc _
  have zw0 : (w.alloc (.cells #[.int .i64 0, .string ⟨#[]⟩, .int .i64 0, .int .i64 0, .string ⟨#[]⟩, .slice none 0 0, .slice none 0 0] 27)).heap.size = w.heap.size + 1 := by simp
  have Z0 := Lib.hid zw0
  clear zw0
  go_enter Tryz.func33, Tryz.ntmps33
  go_wp2_with fail
  refine (eat_no h0 kMinus hi).mono ?_
  rintro e w' ⟨rfl, rfl⟩
  go_wp2_with fail
  have zz0 := Z0.out
  have lo1 := h0.lt
  refine (atom_any hT HI.out h0 (by omega) HS.out).mono ?_
  rintro e w1 hr
  cases h_1 : atomS (termS f s) s σ with
  | error r =>
    have hq : Hid (termS (f + 1) s 13 σ = .error r) := Lib.hid (by unfold termS; simp only [hi, show ((13 : Nat) == 5) = false from rfl, show ((13 : Nat) == 13) = true from rfl, h_1])
    obtain ⟨rfl, k1⟩ := hr.getErr h_1
    clear hr
    go_wp2_with fail
    exact ⟨rfl, RPost.err hq.out ⟨rfl, K0.trans k1⟩⟩
  | ok q1 =>
    obtain ⟨t1, σ1⟩ := q1
    obtain ⟨v, rfl, ⟨tk1, kk1, rfl, at1, ct1⟩, p1, k1⟩ := hr.getOk h_1
    clear hr
    have j_1 := inv_atom HI.out h0.le h_1
    have i_1 := j_1.1
    try unfold Inv at i_1
    try unfold Inv1 at i_1
    obtain ⟨ta1, tn1, tc1, rfl⟩ := at1.slice
    obtain ⟨ma1, mn1, mc1, rfl⟩ := ct1.slice
    unfold tmVal
    have hR_1 := hR0.kept k1 (by show ¬ w.heap.size = b; omega)
    have K1 := K0.trans k1
    have lb1 := p1.lt
    have zz1 := K1.size
    have zk1 := k1.size
    have lR1 := hR_1.lt
    clear zz0
    go_wp2_with fail
    have zz0 := Z0.out
    have lo2 := p1.lt
    refine (after_any hT HI.out p1 (by omega) t1 ta1 tn1 tc1 ma1 mn1 mc1 (w.alloc (.cells #[.int .i64 0, .string ⟨#[]⟩, .int .i64 0, .int .i64 0, .string ⟨#[]⟩, .slice none 0 0, .slice none 0 0] 27)).heap.size (by omega) (by omega) at1 ct1).mono ?_
    rintro e w2 hr
    cases h_2 : afterS (termS f s) s (s.size + 2) t1 σ1 with
    | error r =>
      have hq : Hid (termS (f + 1) s 13 σ = .error r) := Lib.hid (by unfold termS; simp only [hi, show ((13 : Nat) == 5) = false from rfl, show ((13 : Nat) == 13) = true from rfl, h_1, h_2])
      obtain ⟨rfl, k2⟩ := hr.getErr h_2
      clear hr
      go_wp2_with fail
      exact ⟨rfl, RPost.err hq.out ⟨rfl, K1.trans k2⟩⟩
    | ok q2 =>
      obtain ⟨t2, σ2⟩ := q2
      obtain ⟨v, rfl, ⟨tk2, kk2, rfl, at2, ct2⟩, p2, k2⟩ := hr.getOk h_2
      clear hr
      have j_2 := inv_after HI.out _ j_1.2 p1.le h_2
      have i_2 := j_2.1
      try unfold Inv at i_2
      try unfold Inv1 at i_2
      obtain ⟨ta2, tn2, tc2, rfl⟩ := at2.slice
      obtain ⟨ma2, mn2, mc2, rfl⟩ := ct2.slice
      unfold tmVal
      have hR_2 := hR_1.kept k2 (by show ¬ w.heap.size = b; omega)
      have at1_2 := at1.frame (Same.of_kept k2 (fun k h e => by omega))
      have ct1_2 := ct1.frame (Same.of_kept k2 (fun k h e => by omega))
      have K2 := K1.trans k2
      have lb2 := p2.lt
      have zz2 := K2.size
      have zk2 := k2.size
      have lR2 := hR_2.lt
      have hq : Hid (termS (f + 1) s 13 σ = .ok (t2, σ2)) := Lib.hid (by unfold termS; simp only [hi, show ((13 : Nat) == 5) = false from rfl, show ((13 : Nat) == 13) = true from rfl, h_1, h_2])
      have g0 : w2.cell? ⟨w.heap.size, 0, none⟩ = some (.int .i64 0) := hR_2.cell 0
      have f0 : w2.frozen? ⟨w.heap.size, 0, none⟩ = false := hR_2.frozen 0
      have g1 : w2.cell? ⟨w.heap.size, 1, none⟩ = some (.string ⟨#[]⟩) := hR_2.cell 1
      have f1 : w2.frozen? ⟨w.heap.size, 1, none⟩ = false := hR_2.frozen 1
      have g2 : w2.cell? ⟨w.heap.size, 2, none⟩ = some (.int .i64 0) := hR_2.cell 2
      have f2 : w2.frozen? ⟨w.heap.size, 2, none⟩ = false := hR_2.frozen 2
      have g3 : w2.cell? ⟨w.heap.size, 3, none⟩ = some (.int .i64 0) := hR_2.cell 3
      have f3 : w2.frozen? ⟨w.heap.size, 3, none⟩ = false := hR_2.frozen 3
      have g4 : w2.cell? ⟨w.heap.size, 4, none⟩ = some (.string ⟨#[]⟩) := hR_2.cell 4
      have f4 : w2.frozen? ⟨w.heap.size, 4, none⟩ = false := hR_2.frozen 4
      have g5 : w2.cell? ⟨w.heap.size, 5, none⟩ = some (.slice none 0 0) := hR_2.cell 5
      have f5 : w2.frozen? ⟨w.heap.size, 5, none⟩ = false := hR_2.frozen 5
      have g6 : w2.cell? ⟨w.heap.size, 6, none⟩ = some (.slice none 0 0) := hR_2.cell 6
      have f6 : w2.frozen? ⟨w.heap.size, 6, none⟩ = false := hR_2.frozen 6
      have l9 : w.heap.size < w2.heap.size := hR_2.lt
      clear zz0
      go_wp2_with fail
      have zz0 := Z0.out
      refine ret_tm Tryz.results33 hq.out rfl rfl ((r7 hR_2 rfl)) ?_ ?_ ((p7w p2 (by omega) (by omega))) ((k7w K2 (Or.inr (Nat.le_refl _))))
      · exact (at2.frame (same7 (R := w.heap.size) (by omega))).mono (fun k _ h => by omega)
      · exact (ct2.frame (same7 (R := w.heap.size) (by omega))).mono (fun k _ h => by omega)
theorem term_any {b : Nat} {s : ByteArray} (hs : s.size ≤ 65536) (f : Nat) : TC b s f (termS f s) := by
  induction f with
  | zero => intro n m _ σ w _ _ _ h; omega
  | succ f ih =>
    intro n m hm σ w h1 h13 h hf
    subst hm
    have hS := sm_term hs f
    rcases (show n = 1 ∨ n = 2 ∨ n = 3 ∨ n = 4 ∨ n = 5 ∨ n = 6 ∨ n = 7 ∨ n = 8 ∨ n = 9 ∨ n = 10 ∨ n = 11 ∨ n = 12 ∨ n = 13 by omega) with rfl | rfl | rfl | rfl | rfl | rfl | rfl | rfl | rfl | rfl | rfl | rfl | rfl
    · exact term_l1 ih h hf
    · exact term_l2 ih h hf
    · exact term_l3 ih h hf
    · exact term_l4 ih h hf
    · cases hi : isS σ kNot
      · exact term_six ih h hf hi
      · exact term_not ih h hf hi
    · exact term_l6 ih h hf
    · exact term_l7 ih h hf
    · exact term_l8 ih h hf
    · exact term_l9 ih h hf
    · exact term_l10 ih h hf
    · exact term_l11 ih h hf
    · exact term_l12 ih h hf
    · cases hi : isS σ kMinus
      · exact term_at ih h hS hf hi
      · exact term_neg ih h hf hi
structure Ext (s s' : ByteArray) : Prop where
  lt : s.size < s'.size
  get : ∀ (p : Nat) (h : p < s.size) (h' : p < s'.size), s'[p] = s[p]
  sep : s'[s.size]'lt = 32
  pre : ∃ m, s'.data.toList = s.data.toList ++ (32 :: m)
theorem Ext.scan {s s' : ByteArray} (h : Ext s s') {P : Int → Bool} (hP : P 32 = false) (p : Nat) (hp : p ≤ s.size) : scan P s' p = scan P s p := by
  generalize hn : s.size - p = n
  induction n generalizing p with
  | zero =>
    have : p = s.size := by omega
    subst this
    rw [scan_end P s _ (Nat.le_refl _), scan_no P s' _ h.lt (by rw [h.sep]; exact hP)]
  | succ n ih =>
    have h1 : p < s.size := by omega
    have h2 : p < s'.size := Nat.lt_trans h1 h.lt
    have e := h.get p h1 h2
    cases hc : P s[p].toNat
    · rw [scan_no P s p h1 hc, scan_no P s' p h2 (by rw [e]; exact hc)]
    · rw [scan_yes P s p h1 hc, scan_yes P s' p h2 (by rw [e]; exact hc), ih (p + 1) (by omega) (by omega)]
theorem Ext.wend {s s' : ByteArray} (h : Ext s s') (p : Nat) (hp : p ≤ s.size) : wend s' p = wend s p := h.scan (by decide) p hp
theorem Ext.skip {s s' : ByteArray} (h : Ext s s') (p : Nat) (hp : p ≤ s.size) (hs : skip s p < s.size) : skip s' p = skip s p := by
  generalize hn : s.size - p = n
  induction n generalizing p with
  | zero =>
    have : p = s.size := by omega
    subst this
    unfold Go.Proofs.YtckjlliobebodaaGreatDoor.skip at hs
    rw [scan_end _ s _ (Nat.le_refl _)] at hs; omega
  | succ n ih =>
    have h1 : p < s.size := by omega
    have h2 : p < s'.size := Nat.lt_trans h1 h.lt
    have e := h.get p h1 h2
    unfold Go.Proofs.YtckjlliobebodaaGreatDoor.skip at *
    cases hc : blankB s[p].toNat
    · rw [scan_no blankB s p h1 hc, scan_no blankB s' p h2 (by rw [e]; exact hc)]
    · rw [scan_yes blankB s p h1 hc] at hs
      rw [scan_yes blankB s p h1 hc, scan_yes blankB s' p h2 (by rw [e]; exact hc), ih (p + 1) (by omega) hs (by omega)]
theorem ba_ext {a b : ByteArray} (h : a.data.toList = b.data.toList) : a = b := by
  obtain ⟨⟨a⟩⟩ := a; obtain ⟨⟨b⟩⟩ := b; simp at h; subst h; rfl
theorem ext_list (s : ByteArray) (a c : Nat) : (s.extract a c).data.toList = (s.data.toList.take c).drop a := by
  rw [ByteArray.data_extract]; simp [List.extract_eq_take_drop, List.take_drop]
  by_cases h : a ≤ c
  · rw [show a + (c - a) = c by omega]
  · rw [show a + (c - a) = a by omega, List.drop_eq_nil_of_le (by simp; omega), List.drop_eq_nil_of_le (by simp; omega)]
theorem Ext.extract {s s' : ByteArray} (h : Ext s s') (a c : Nat) (hc : c ≤ s.size) : s'.extract a c = s.extract a c := by
  obtain ⟨m, hm⟩ := h.pre
  apply ba_ext
  rw [ext_list, ext_list, hm, List.take_append_of_le_length (by simpa using hc)]
theorem pre_ext (l m x : List UInt8) (hx : 32 ∉ x) : Lib.hasPrefix (l ++ (32 :: m)) x = Lib.hasPrefix l x := by
  unfold Lib.hasPrefix
  induction x generalizing l with
  | nil => cases l <;> rfl
  | cons c x ih =>
    cases l with
    | nil =>
      have : (c == 32) = false := beq_false_of_ne (fun e => hx (by simp [e]))
      show ((c == 32) && x.isPrefixOf m) = false
      rw [this]; rfl
    | cons d l =>
      have := ih l (fun h => hx (List.mem_cons_of_mem _ h))
      show ((c == d) && x.isPrefixOf (l ++ 32 :: m)) = ((c == d) && x.isPrefixOf l)
      rw [this]
theorem signs_no : ∀ x ∈ signs, (32 : UInt8) ∉ x.data.toList := by decide
theorem sIdx_ext (l m : List UInt8) (xs : List ByteArray) (hx : ∀ x ∈ xs, (32 : UInt8) ∉ x.data.toList) : sIdx (l ++ (32 :: m)) xs = sIdx l xs := by
  unfold sIdx
  have : xs.findIdx? (fun x => Lib.hasPrefix (l ++ (32 :: m)) x.data.toList) = xs.findIdx? (fun x => Lib.hasPrefix l x.data.toList) := by
    induction xs with
    | nil => rfl
    | cons x xs ih =>
      rw [List.findIdx?_cons, List.findIdx?_cons, pre_ext l m _ (hx x (by simp)), ih (fun y hy => hx y (by simp [hy]))]
  rw [this]
theorem Ext.sIdx {s s' : ByteArray} (h : Ext s s') (fr : Nat) (hf : fr ≤ s.size) : sIdx (s'.data.toList.drop fr) signs = sIdx (s.data.toList.drop fr) signs := by
  obtain ⟨m, hm⟩ := h.pre
  rw [hm, List.drop_append_of_le_length (by simpa using hf)]
  exact sIdx_ext _ _ _ signs_no
theorem Ext.wordTo {s s' : ByteArray} (h : Ext s s') (fr : Nat) (hf : fr ≤ s.size) : wordTo s' fr = wordTo s fr := by
  have hw := h.wend fr hf
  have hl := (scan_spec inWordB s fr hf).2.1
  unfold Go.Proofs.YtckjlliobebodaaGreatDoor.wordTo
  rw [hw, h.extract fr (Go.Proofs.YtckjlliobebodaaGreatDoor.wend s fr) hl]
  split
  · rfl
  · have h2 : Go.Proofs.YtckjlliobebodaaGreatDoor.wend s fr < s'.size := Nat.lt_of_le_of_lt hl h.lt
    rw [dif_pos h2]
    by_cases hc : Go.Proofs.YtckjlliobebodaaGreatDoor.wend s fr < s.size
    · rw [dif_pos hc, h.get _ hc h2]
    · rw [dif_neg hc]
      have e : ∀ (r : Nat) (hr : r < s'.size), r = s.size → s'[r].toNat ≠ 39 := by
        intro r hr e; subst e; rw [h.sep]; decide
      rw [if_neg (e _ h2 (Nat.le_antisymm hl (Nat.le_of_not_lt hc)))]
theorem Ext.tokAt {s s' : ByteArray} (h : Ext s s') (fr : Nat) (hf : fr < s.size) : tokAt s' fr = tokAt s fr := by
  have h2 : fr < s'.size := Nat.lt_trans hf h.lt
  unfold Go.Proofs.YtckjlliobebodaaGreatDoor.tokAt
  rw [dif_pos hf, dif_pos h2, h.get fr hf h2, h.wend fr (by omega), h.wordTo fr (by omega), h.sIdx fr (by omega), h.extract fr (Go.Proofs.YtckjlliobebodaaGreatDoor.wend s fr) (scan_spec inWordB s fr (by omega)).2.1, h.extract fr _ (wordTo_le s fr (by omega))]
  split
  · rfl
  · split
    · rfl
    · split
      · rfl
      · rename_i hi; rw [h.extract fr _ (sign_le s fr (by omega) hi)]
def bP {β : Type} (q : Except ER PS) (k : PS → Except ER β) : Except ER β := match q with | .error r => .error r | .ok σ => k σ
def bT {α β : Type} (q : Except ER (α × PS)) (k : α → PS → Except ER β) : Except ER β := match q with | .error r => .error r | .ok (a, σ) => k a σ
section
variable {α β : Type} {s s' : ByteArray}
end
section
variable {s s' : ByteArray} {T T' : TF} {f : Nat}
theorem inside_eq (T : TF) (s o c : ByteArray) (σ : PS) : insideS T s o c σ = bP (openS s σ o) fun σ1 => bT (T 1 σ1) fun t σ2 => bP (shutS s σ2 c) fun σ3 => .ok (t, σ3) := by
  unfold insideS bP bT
  cases openS s σ o with
  | error r => rfl
  | ok σ1 =>
    simp only
    cases T 1 σ1 with
    | error r => rfl
    | ok q =>
      obtain ⟨x2, σ2⟩ := q
      simp only
      cases shutS s σ2 c <;> rfl
theorem bound_eq (T : TF) (s : ByteArray) (op : Int) (σ : PS) : boundS T s op σ = bT (nameS s σ) fun x σ1 => bP (wantS s σ1 kIn) fun σ2 => bT (T 7 σ2) fun d σ3 => bP (wantS s σ3 kDot) fun σ4 => bT (T 1 σ4) fun c σ5 => .ok (.mk op x 0 ty0 [d, c], σ5) := by
  unfold boundS bP bT
  cases nameS s σ with
  | error r => rfl
  | ok q =>
    obtain ⟨x1, σ1⟩ := q
    simp only
    cases wantS s σ1 kIn with
    | error r => rfl
    | ok σ2 =>
      simp only
      cases T 7 σ2 with
      | error r => rfl
      | ok q =>
        obtain ⟨x3, σ3⟩ := q
        simp only
        cases wantS s σ3 kDot with
        | error r => rfl
        | ok σ4 =>
          simp only
          cases T 1 σ4 with
          | error r => rfl
          | ok q =>
            obtain ⟨x5, σ5⟩ := q
            rfl
theorem leaf_eq (s : ByteArray) (t : Tm) (σ : PS) : leafS s t σ = bP (advS s σ) fun σ1 => .ok (t, σ1) := by
  unfold leafS bP; cases advS s σ <;> rfl
theorem binder_eq (T : TF) (s : ByteArray) (op : Int) (σ : PS) : binderS T s op σ = bP (advS s σ) fun σ1 => boundS T s op σ1 := by
  unfold binderS bP; cases advS s σ <;> rfl
def funK (T : TF) (s : ByteArray) (op : Int) (σ : PS) : RT := bP (advS s σ) fun σ1 => bT (insideS T s kLpar kRpar σ1) fun t σ2 => .ok (nd op [t], σ2)
theorem worded_eq (T : TF) (s : ByteArray) (σ : PS) : wordedS T s σ = if keywordB σ.tx = true then (if (functionN σ.tx != 0) = true then funK T s (functionN σ.tx) σ else if isS σ kTrue = true then leafS s (nd 1 []) σ else if isS σ kFalse = true then leafS s (nd 2 []) σ else if isS σ kForall = true then binderS T s 8 σ else if isS σ kExists = true then binderS T s 9 σ else if isS σ kFun = true then binderS T s 56 σ else .error (false, σ.ta)) else leafS s (.mk 20 σ.tx 0 ty0 []) σ := by
  unfold wordedS
  cases keywordB σ.tx
  · rfl
  cases (functionN σ.tx != 0)
  · cases isS σ kTrue <;> cases isS σ kFalse <;> cases isS σ kForall <;> cases isS σ kExists <;> cases isS σ kFun <;> rfl
  · simp only [if_true]
    unfold funK bP bT
    cases advS s σ with
    | error r => rfl
    | ok σ1 =>
      simp only
      cases insideS T s kLpar kRpar σ1 with
      | error r => rfl
      | ok q =>
        obtain ⟨x2, σ2⟩ := q
        rfl
theorem elems_eq (T : TF) (s : ByteArray) (g : Nat) (l : List Tm) (σ : PS) (h : isS σ kComma = true) : elemsS T s (g + 1) l σ = bP (advS s σ) fun σ1 => bT (T 1 σ1) fun t σ2 => elemsS T s g (l ++ [t]) σ2 := by
  rw [elemsS, h]
  unfold bP bT
  cases advS s σ with
  | error r => rfl
  | ok σ1 =>
    simp only
    cases T 1 σ1 with
    | error r => rfl
    | ok q =>
      obtain ⟨x2, σ2⟩ := q
      rfl
def elemsK (T : TF) (s : ByteArray) (first : Tm) (σ : PS) : RT := bT (elemsS T s (s.size + 2) [first] σ) fun l σ1 => bP (shutS s σ1 kRcu) fun σ2 => .ok (nd 28 l, σ2)
theorem elements_eq (T : TF) (s : ByteArray) (first : Tm) (bare : Bool) (σ : PS) : elementsS T s first bare σ = if (isS σ kBar && bare && headB first) = true then bP (advS s σ) fun σ1 => bT (T 1 σ1) fun c σ2 => bP (shutS s σ2 kRcu) fun σ3 => .ok (.mk 55 ((first.kids.getD 0 first).name) 0 ty0 [first.kids.getD 1 first, c], σ3) else elemsK T s first σ := by
  unfold elementsS
  cases (isS σ kBar && bare && headB first)
  · unfold elemsK bP bT
    simp only [Bool.false_eq_true, if_false]
    cases elemsS T s (s.size + 2) [first] σ with
    | error r => rfl
    | ok q =>
      obtain ⟨x1, σ1⟩ := q
      simp only
      cases shutS s σ1 kRcu <;> rfl
  · unfold bP bT
    simp only [if_true]
    cases advS s σ with
    | error r => rfl
    | ok σ1 =>
      simp only
      cases T 1 σ1 with
      | error r => rfl
      | ok q =>
        obtain ⟨x2, σ2⟩ := q
        simp only
        cases shutS s σ2 kRcu <;> rfl
def emptyK (s : ByteArray) (σ1 : PS) : RT := bP (advS s σ1) fun σ2 => bP (openS s { σ2 with nest := σ2.nest - 1 } kLbr) fun σ3 => bT (typedS (s.size + 2) s σ3) fun t σ4 => bP (shutS s σ4 kRbr) fun σ5 => .ok (.mk 29 nil0 0 t [], σ5)
theorem braces_eq (T : TF) (s : ByteArray) (σ : PS) : bracesS T s σ = bP (openS s σ kLcu) fun σ1 => if isS σ1 kRcu = true then emptyK s σ1 else bT (T 1 σ1) fun t σ2 => elementsS T s t (σ1.k == 1) σ2 := by
  unfold bracesS
  cases openS s σ kLcu with
  | error r => rfl
  | ok σ1 =>
    simp only [bP]
    cases isS σ1 kRcu
    · simp only [Bool.false_eq_true, if_false]
      unfold bT
      cases T 1 σ1 with
      | error r => rfl
      | ok q => rfl
    · simp only [if_true]
      unfold emptyK bP bT
      cases advS s σ1 with
      | error r => rfl
      | ok σ1 =>
        simp only
        cases openS s { σ1 with nest := σ1.nest - 1 } kLbr with
        | error r => rfl
        | ok σ2 =>
          simp only
          cases typedS (s.size + 2) s σ2 with
          | error r => rfl
          | ok q =>
            obtain ⟨x3, σ3⟩ := q
            simp only
            cases shutS s σ3 kRbr <;> rfl
theorem after_eq (T : TF) (s : ByteArray) (g : Nat) (t : Tm) (σ : PS) : afterS T s (g + 1) t σ = if isS σ kLpar = true then bT (insideS T s kLpar kRpar σ) fun u σ1 => afterS T s g (nd 54 [t, u]) σ1 else if isS σ kLbr = true then bT (insideS T s kLbr kRbr σ) fun u σ1 => afterS T s g (nd 53 [t, u]) σ1 else if isS σ kTilde = true then bP (advS s σ) fun σ1 => afterS T s g (nd 52 [t]) σ1 else .ok (t, σ) := by
  rw [afterS]
  cases isS σ kLpar
  · cases isS σ kLbr
    · cases isS σ kTilde
      · rfl
      · simp only [Bool.false_eq_true, if_false, if_true]
        unfold bP; cases advS s σ <;> rfl
    · simp only [Bool.false_eq_true, if_false, if_true]
      unfold bT; cases insideS T s kLbr kRbr σ <;> rfl
  · simp only [if_true]
    unfold bT; cases insideS T s kLpar kRpar σ <;> rfl
theorem rest_eq (T : TF) (s : ByteArray) (n g : Nat) (t : Tm) (σ : PS) : restS T s n (g + 1) t σ = if (opOf n σ == 0) = true then .ok (t, σ) else bP (advS s σ) fun σ1 => bT (T (if lvGroup n = 2 then n else n + 1) σ1) fun u σ2 => if (lvGroup n != 1) = true then .ok (nd (opOf n σ) [t, u], σ2) else restS T s n g (nd (opOf n σ) [t, u]) σ2 := by
  rw [restS]
  cases (opOf n σ == 0)
  · simp only [Bool.false_eq_true, if_false]
    unfold bP bT
    cases advS s σ with
    | error r => rfl
    | ok σ1 =>
      simp only
      cases T (if lvGroup n = 2 then n else n + 1) σ1 with
      | error r => rfl
      | ok q => cases (lvGroup n != 1) <;> rfl
  · rfl
end
theorem term5_eq (f : Nat) (s : ByteArray) (σ : PS) : termS (f + 1) s 5 σ = if isS σ kNot = true then bP (advS s σ) fun σ1 => bT (termS f s 5 σ1) fun t σ2 => .ok (nd 3 [t], σ2) else termS f s 6 σ := by
  rw [termS]; simp only [show ((5 : Nat) == 5) = true from rfl]
  cases isS σ kNot
  · rfl
  · simp only [if_true]
    unfold bP bT
    cases advS s σ with
    | error r => rfl
    | ok σ1 =>
      simp only
      cases termS f s 5 σ1 with
      | error r => rfl
      | ok q =>
        obtain ⟨x2, σ2⟩ := q
        rfl
theorem term13_eq (f : Nat) (s : ByteArray) (σ : PS) : termS (f + 1) s 13 σ = if isS σ kMinus = true then bP (advS s σ) fun σ1 => bT (termS f s 13 σ1) fun t σ2 => .ok (nd 21 [t], σ2) else bT (atomS (termS f s) s σ) fun t σ1 => afterS (termS f s) s (s.size + 2) t σ1 := by
  rw [termS]; simp only [show ((13 : Nat) == 5) = false from rfl, show ((13 : Nat) == 13) = true from rfl]
  cases isS σ kMinus
  · simp only [Bool.false_eq_true, if_false]
    unfold bT
    cases atomS (termS f s) s σ <;> rfl
  · simp only [if_true]
    unfold bP bT
    cases advS s σ with
    | error r => rfl
    | ok σ1 =>
      simp only
      cases termS f s 13 σ1 with
      | error r => rfl
      | ok q =>
        obtain ⟨x2, σ2⟩ := q
        rfl
theorem termn_eq (f : Nat) (s : ByteArray) (n : Nat) (σ : PS) (h5 : n ≠ 5) (h13 : n ≠ 13) : termS (f + 1) s n σ = bT (termS f s (n + 1) σ) fun t σ1 => restS (termS f s) s n (s.size + 2) t σ1 := by
  rw [termS]; simp only [beq_false_of_ne h5, beq_false_of_ne h13]
  unfold bT
  cases termS f s (n + 1) σ <;> rfl
theorem lv_next (N : Nat) (h1 : 1 ≤ N) (h2 : N ≤ 12) : ∀ n, n = (if lvGroup N = 2 then N else N + 1) → 1 ≤ n ∧ n ≤ 13 := by
  rintro n rfl; split <;> omega
def ps0 : PS := ⟨0, 0, nil0, 0, 0, 0⟩
def CPost {α : Type} (b : Nat) (s : ByteArray) (S : Nat → Prop) (V : α → World → Prop) (q : Except ER (α × PS)) (w : World) (e : Ending) (w' : World) : Prop :=
  match q with
  | .ok (a, σ') => e = .returned (.tuple #[]) ∧ V a w' ∧ PW w' b s σ' ∧ Kept S w w'
  | .error r => e = .panicked [pan r.1 r.2] ∧ Kept S w w'
section
variable {α : Type} {b : Nat} {s : ByteArray} {S : Nat → Prop} {V : α → World → Prop} {q : Except ER (α × PS)} {w w' : World} {e : Ending}
theorem CPost.ok {a : α} {σ' : PS} (hq : q = .ok (a, σ')) (h : e = .returned (.tuple #[]) ∧ V a w' ∧ PW w' b s σ' ∧ Kept S w w') : CPost b s S V q w e w' := by subst hq; exact h
theorem CPost.err {r : ER} (hq : q = .error r) (h : e = .panicked [pan r.1 r.2] ∧ Kept S w w') : CPost b s S V q w e w' := by subst hq; exact h
theorem CPost.getOk {a : α} {σ' : PS} (h : CPost b s S V q w e w') (hq : q = .ok (a, σ')) : e = .returned (.tuple #[]) ∧ V a w' ∧ PW w' b s σ' ∧ Kept S w w' := by subst hq; exact h
theorem CPost.getErr {r : ER} (h : CPost b s S V q w e w') (hq : q = .error r) : e = .panicked [pan r.1 r.2] ∧ Kept S w w' := by subst hq; exact h
end
def Lies (o n : Nat) (t : Tm) (w : World) : Prop := ∃ tk kk, Blk w o 27 (tmCells t tk kk) ∧ TyL (fun k => n ≤ k) w t.ty.kids tk ∧ TmL (fun k => n ≤ k) w t.kids kk
set_option maxRecDepth 100000 in
set_option maxHeartbeats 4000000 in
theorem parse1_any {b o f : Nat} {s : ByteArray} {σ : PS} {w : World} {z : List Value} (hs : s.size ≤ 65536) (h : PW w b s σ) (hf : 14 * mu s σ + 13 < f) (hz : z.length = 7) (ho : Blk w o 27 z) (hob : o ≠ b) (ho2 : 2 ≤ o) :
    Calls Tryz.prog 32 #[.pointer (some ⟨b, 0, none⟩), .pointer (some ⟨o, 0, none⟩)] w (CPost b s (fun k => k = b ∨ k = o) (Lies o w.heap.size) (termS f s 1 σ) w) := by
  have hlt := h.lt
  have holt := ho.lt
  go_enter Tryz.func32, Tryz.ntmps32
  go_wp2_with fail
  refine (term_any hs f 1 1 rfl σ w (by decide) (by decide) h (by omega)).mono ?_
  rintro e w1 hr
  cases h_1 : termS f s 1 σ with
  | error r =>
    obtain ⟨rfl, k1⟩ := hr.getErr h_1
    go_wp2_with fail
    exact ⟨rfl, CPost.err h_1 ⟨rfl, k1.mono (fun _ _ h => Or.inl h)⟩⟩
  | ok q =>
    obtain ⟨t, σ1⟩ := q
    obtain ⟨v, rfl, ⟨tk, kk, rfl, at1, ct1⟩, p1, k1⟩ := hr.getOk h_1
    clear hr
    obtain ⟨ta1, tn1, tc1, rfl⟩ := at1.slice
    obtain ⟨ma1, mn1, mc1, rfl⟩ := ct1.slice
    unfold tmVal
    have hO := ho.kept k1 (by show ¬ o = b; exact hob)
    have HZ := Lib.hid hz
    clear hz
    have g : ∀ i, i < 7 → ∃ u, w1.cell? ⟨o, i, none⟩ = some u := by
      intro i hi
      exact ⟨z[i]'(by rw [HZ.out]; exact hi), by rw [hO.cell i]; exact List.getElem?_eq_getElem _⟩
    obtain ⟨u0, g0⟩ := g 0 (by decide)
    obtain ⟨u1, g1⟩ := g 1 (by decide)
    obtain ⟨u2, g2⟩ := g 2 (by decide)
    obtain ⟨u3, g3⟩ := g 3 (by decide)
    obtain ⟨u4, g4⟩ := g 4 (by decide)
    obtain ⟨u5, g5⟩ := g 5 (by decide)
    obtain ⟨u6, g6⟩ := g 6 (by decide)
    clear g
    have f0 := hO.frozen 0
    have f1 := hO.frozen 1
    have f2 := hO.frozen 2
    have f3 := hO.frozen 3
    have f4 := hO.frozen 4
    have f5 := hO.frozen 5
    have f6 := hO.frozen 6
    go_wp2_with fail
    go_end0
    have hR := r7 (x0 := .int .i64 t.op) (x1 := .string t.name) (x2 := .int .i64 t.n) (x3 := .int .i64 t.ty.kind) (x4 := .string t.ty.name) (x5 := .slice ta1 tn1 tc1) (x6 := .slice ma1 mn1 mc1) hO HZ.out
    exact CPost.ok h_1 ⟨rfl, ⟨_, _, hR, at1.frame (same7 holt), ct1.frame (same7 holt)⟩, p7w p1 hob ho2, k7w (k1.mono (fun _ _ h => Or.inl h)) (Or.inl (Or.inr rfl))⟩
theorem results_cc {P : Program} {fn : Func} {p q : Tmp} {ty tz : TypeId} (h : fn.results = #[.cell p ty, .cell q tz]) {tmps : Array Value} {a b : Addr} (ha : tmps.getD p undef = .pointer (some a)) (hb : tmps.getD q undef = .pointer (some b)) {v u : Value} {W : World}
    (hl : (loadVar ty a).run P W = .ok v W) (hm : (loadVar tz b).run P W = .ok u W) : (results fn tmps).run P W = .ok (.tuple #[v, u]) W := by
  have e : results fn tmps = (do let v ← (do loadVar ty (← asAddr (tmps.getD p undef))); let u ← (do loadVar tz (← asAddr (tmps.getD q undef))); pure (Value.tuple #[v, u])) := by
    unfold results; rw [h]; simp
  rw [e, ha, hb]
  show (loadVar ty a >>= fun v => loadVar tz b >>= fun u => pure (Value.tuple #[v, u])).run P W = _
  rw [Sem.run_bind, hl]
  show (loadVar tz b >>= fun u => pure (Value.tuple #[v, u])).run P W = _
  rw [Sem.run_bind, hm]
  rfl
theorem results_ctt {P : Program} {fn : Func} {p q r : Tmp} {ty : TypeId} (h : fn.results = #[.cell p ty, .tmp q, .tmp r]) {tmps : Array Value} {a : Addr} (ha : tmps.getD p undef = .pointer (some a)) {v : Value} {W : World}
    (hl : (loadVar ty a).run P W = .ok v W) : (results fn tmps).run P W = .ok (.tuple #[v, tmps.getD q undef, tmps.getD r undef]) W := by
  have e : results fn tmps = (do let v ← (do loadVar ty (← asAddr (tmps.getD p undef))); pure (Value.tuple #[v, tmps.getD q undef, tmps.getD r undef])) := by
    unfold results; rw [h]; simp
  rw [e, ha]
  show (loadVar ty a >>= fun v => pure (Value.tuple #[v, tmps.getD q undef, tmps.getD r undef])).run P W = _
  rw [Sem.run_bind, hl]
  rfl
def wholeF {α : Type} (s : ByteArray) (F : PS → Except ER (α × PS)) : Except ER (α × PS) := bP (advS s ps0) fun σ1 => bT (F σ1) fun a σ2 => if σ2.k = 0 then .ok (a, σ2) else .error (false, σ2.ta)
theorem load_i {W : World} {A : Nat} {x : Int} (h : Blk W A 3 [.int .i64 x]) : (loadVar 3 ⟨A, 0, none⟩).run Tryz.prog W = .ok (.int .i64 x) W := by
  have := h.cell 0
  simp [go_sem, this]
theorem load_e {W : World} {A : Nat} {x : Int} (h : Blk W A 28 [.int .i64 x]) : (loadVar 28 ⟨A, 0, none⟩).run Tryz.prog W = .ok (.int .i64 x) W := by
  have := h.cell 0
  simp [go_sem, this]
def rdAt {α : Type} : Except ER (α × PS) → Int
  | .ok _ => 0
  | .error r => r.2
def rdE {α : Type} : Except ER (α × PS) → Int
  | .ok _ => 0
  | .error r => if r.1 then 4 else 2
theorem rd_err {r : ER} (A E : Nat) (x y : Int) (w : World) (lA : A < w.heap.size) (lE : E < w.heap.size) (hAE : A ≠ E) (hA : w.cell? ⟨A, 0, none⟩ = some (.int .i64 x)) (hE : w.cell? ⟨E, 0, none⟩ = some (.int .i64 y)) (fA : w.frozen? ⟨A, 0, none⟩ = false) (fE : w.frozen? ⟨E, 0, none⟩ = false) :
    CallsD Tryz.prog 62 #[.pointer (some ⟨A, 0, none⟩), .pointer (some ⟨E, 0, none⟩)] (.panicking [pan r.1 r.2]) w fun e u' w' =>
      e = .returned (.tuple #[]) ∧ (∃ v, u' = .panicking [{ v := v, recovered := true }]) ∧ ∃ ob, w' = ((w.setCell ⟨A, 0, none⟩ (.int .i64 r.2)).setCell ⟨E, 0, none⟩ (.int .i64 (if r.1 then 4 else 2))).alloc ob := by
  obtain ⟨d, p⟩ := r
  cases d
  · exact (rd_mal A E p x y [] w lA lE hAE hA hE fA fE).mono fun e u' w' ⟨h1, h2, h3⟩ => ⟨h1, ⟨_, h2⟩, _, h3⟩
  · exact (rd_deep A E p x y [] w lA lE hAE hA hE fA fE).mono fun e u' w' ⟨h1, h2, h3⟩ => ⟨h1, ⟨_, h2⟩, _, h3⟩
set_option maxRecDepth 100000 in
set_option maxHeartbeats 4000000 in
theorem read_any {α : Type} {o : Nat} {s : ByteArray} {F : PS → Except ER (α × PS)} {V : α → World → Prop} {w : World} (hs : s.size ≤ 65536) (hgl : Gl w) (ho : o < w.heap.size) (ho2 : 2 ≤ o)
    (hC : ∀ σ1 w1, PW w1 (w.heap.size + 2) s σ1 → Kept (fun _ => False) w w1 → w.heap.size + 3 ≤ w1.heap.size → advS s ps0 = .ok σ1 → Calls Tryz.prog 32 #[.pointer (some ⟨w.heap.size + 2, 0, none⟩), .pointer (some ⟨o, 0, none⟩)] w1 (CPost (w.heap.size + 2) s (fun k => k = w.heap.size + 2 ∨ k = o) V (F σ1) w1))
    (hV : ∀ a w2 w3, V a w2 → w.heap.size + 3 ≤ w2.heap.size → Kept (fun k => k = w.heap.size ∨ k = w.heap.size + 1) w2 w3 → V a w3) :
    Calls Tryz.prog 31 #[.string s, .func (.func 32) #[] #[.pointer (some ⟨o, 0, none⟩)]] w fun e w' =>
      e = .returned (.tuple #[.int .i64 (rdAt (wholeF s F)), .int .i64 (rdE (wholeF s F))]) ∧ Kept (· = o) w w' ∧ ∀ a σ2, wholeF s F = .ok (a, σ2) → V a w' := by
  have hmf : ∀ (fn : Fn) (first cap : Array Value) (w : World), (Instr.makeFunc fn first cap).run Tryz.prog w = .ok (.func fn first cap) w := fun _ _ _ _ => rfl
  have HC := Lib.hid hC
  have HV := Lib.hid hV
  clear hC hV
  have hgt := hgl.lt
  have i1 : (s.size : Int) ≤ 65536 := by omega
  have h0 : PW (((w.alloc (.cells #[.int .i64 0] 3)).alloc (.cells #[.int .i64 0] 28)).alloc (.cells #[.string s, .int .i64 0, .int .i64 0, .string ⟨#[]⟩, .int .i64 0, .int .i64 0, .int .i64 0] 86)) (w.heap.size + 2) s ps0 :=
    ⟨Blk.new' 86 _ (by simp), Nat.zero_le _, Nat.zero_le _, hs, by omega, ((hgl.alloc _).alloc _).alloc _, Nat.zero_le _⟩
  have K0 : Kept (fun _ => False) w (((w.alloc (.cells #[.int .i64 0] 3)).alloc (.cells #[.int .i64 0] 28)).alloc (.cells #[.string s, .int .i64 0, .int .i64 0, .string ⟨#[]⟩, .int .i64 0, .int .i64 0, .int .i64 0] 86)) := (((Kept.refl _ _).alloc _).alloc _).alloc _
  have bA : Blk (((w.alloc (.cells #[.int .i64 0] 3)).alloc (.cells #[.int .i64 0] 28)).alloc (.cells #[.string s, .int .i64 0, .int .i64 0, .string ⟨#[]⟩, .int .i64 0, .int .i64 0, .int .i64 0] 86)) w.heap.size 3 [.int .i64 0] := ((Blk.new w 3 [.int .i64 0]).alloc _).alloc _
  have bE : Blk (((w.alloc (.cells #[.int .i64 0] 3)).alloc (.cells #[.int .i64 0] 28)).alloc (.cells #[.string s, .int .i64 0, .int .i64 0, .string ⟨#[]⟩, .int .i64 0, .int .i64 0, .int .i64 0] 86)) (w.heap.size + 1) 28 [.int .i64 0] := (Blk.new' 28 [.int .i64 0] (by simp)).alloc _
  go_enter_defers Tryz.func31, Tryz.ntmps31
  go_wp2_with fail
  cases hadv : advS s ps0 with
  | error r =>
    have hw : Hid (wholeF s F = .error r) := Lib.hid (by unfold wholeF; rw [hadv]; rfl)
    refine (adv_err h0 hadv).mono ?_
    rintro e w1 ⟨rfl, k1⟩
    have a1 := bA.kept k1 (by show ¬ w.heap.size = w.heap.size + 2; omega)
    have e1 := bE.kept k1 (by show ¬ w.heap.size + 1 = w.heap.size + 2; omega)
    have K1 : Kept (· = o) w w1 := (K0.mono (T := (· = o)) (fun _ _ h => h.elim)).via k1 (fun x hx h => by omega)
    go_wp2_with fail
    refine leaves_cons (f := 62) (args := #[.pointer (some ⟨w.heap.size, 0, none⟩), .pointer (some ⟨w.heap.size + 1, 0, none⟩)]) (by simp) (by simp [go_sem]) ?_
    refine (rd_err (r := r) w.heap.size (w.heap.size + 1) 0 0 _ a1.lt e1.lt (by omega) (a1.cell 0) (e1.cell 0) (a1.frozen 0) (e1.frozen 0)).mono ?_
    rintro e u' w'' ⟨rfl, ⟨v, rfl⟩, ob, rfl⟩
    have a2 := ((a1.set 0 (.int .i64 r.2)).set_other ⟨w.heap.size + 1, 0, none⟩ (.int .i64 (if r.1 then 4 else 2)) (by show w.heap.size ≠ w.heap.size + 1; omega)).alloc ob
    have e2 := ((e1.set_other ⟨w.heap.size, 0, none⟩ (.int .i64 r.2) (by show w.heap.size + 1 ≠ w.heap.size; omega)).set 0 (.int .i64 (if r.1 then 4 else 2))).alloc ob
    refine ⟨_, results_cc Tryz.results31 rfl rfl (load_i a2) (load_e e2), ?_, ?_, ?_⟩
    · rw [hw.out]; rfl
    · exact ((K1.setCell (p := ⟨w.heap.size, 0, none⟩) (Or.inr (Nat.le_refl _)) _).setCell (p := ⟨w.heap.size + 1, 0, none⟩) (Or.inr (by show w.heap.size ≤ w.heap.size + 1; omega)) _).alloc ob
    · intro a σ2 h; rw [hw.out] at h; cases h
  | ok σ1 =>
    refine (adv_ok h0 hadv).mono ?_
    rintro e w1 ⟨rfl, p1, k1⟩
    have a1 := bA.kept k1 (by show ¬ w.heap.size = w.heap.size + 2; omega)
    have e1 := bE.kept k1 (by show ¬ w.heap.size + 1 = w.heap.size + 2; omega)
    have K1 : Kept (fun _ => False) w w1 := K0.via k1 (fun x hx h => by omega)
    have z1 := p1.lt
    go_wp2_with fail
    refine (HC.out σ1 w1 p1 K1 z1 hadv).mono ?_
    rintro e w2 hr
    cases hF : F σ1 with
    | error r =>
      have hw : Hid (wholeF s F = .error r) := Lib.hid (by unfold wholeF; rw [hadv]; show bT (F σ1) _ = _; rw [hF]; rfl)
      obtain ⟨rfl, k2⟩ := hr.getErr hF
      clear hr
      have a2 := a1.kept k2 (by show ¬ (w.heap.size = w.heap.size + 2 ∨ w.heap.size = o); omega)
      have e2 := e1.kept k2 (by show ¬ (w.heap.size + 1 = w.heap.size + 2 ∨ w.heap.size + 1 = o); omega)
      have K2 : Kept (· = o) w w2 := (K1.mono (T := (· = o)) (fun _ _ h => h.elim)).via k2 (fun x hx h => by omega)
      go_wp2_with fail
      refine leaves_cons (f := 62) (args := #[.pointer (some ⟨w.heap.size, 0, none⟩), .pointer (some ⟨w.heap.size + 1, 0, none⟩)]) (by simp) (by simp [go_sem]) ?_
      refine (rd_err (r := r) w.heap.size (w.heap.size + 1) 0 0 _ a2.lt e2.lt (by omega) (a2.cell 0) (e2.cell 0) (a2.frozen 0) (e2.frozen 0)).mono ?_
      rintro e u' w'' ⟨rfl, ⟨v, rfl⟩, ob, rfl⟩
      have a3 := ((a2.set 0 (.int .i64 r.2)).set_other ⟨w.heap.size + 1, 0, none⟩ (.int .i64 (if r.1 then 4 else 2)) (by show w.heap.size ≠ w.heap.size + 1; omega)).alloc ob
      have e3 := ((e2.set_other ⟨w.heap.size, 0, none⟩ (.int .i64 r.2) (by show w.heap.size + 1 ≠ w.heap.size; omega)).set 0 (.int .i64 (if r.1 then 4 else 2))).alloc ob
      refine ⟨_, results_cc Tryz.results31 rfl rfl (load_i a3) (load_e e3), ?_, ?_, ?_⟩
      · rw [hw.out]; rfl
      · exact ((K2.setCell (p := ⟨w.heap.size, 0, none⟩) (Or.inr (Nat.le_refl _)) _).setCell (p := ⟨w.heap.size + 1, 0, none⟩) (Or.inr (by show w.heap.size ≤ w.heap.size + 1; omega)) _).alloc ob
      · intro a σ2 h; rw [hw.out] at h; cases h
    | ok q =>
      obtain ⟨a, σ2⟩ := q
      obtain ⟨rfl, v2, p2, k2⟩ := hr.getOk hF
      clear hr
      have a2 := a1.kept k2 (by show ¬ (w.heap.size = w.heap.size + 2 ∨ w.heap.size = o); omega)
      have e2 := e1.kept k2 (by show ¬ (w.heap.size + 1 = w.heap.size + 2 ∨ w.heap.size + 1 = o); omega)
      have K2 : Kept (· = o) w w2 := (K1.mono (T := (· = o)) (fun _ _ h => h.elim)).via k2 (fun x hx h => by omega)
      have c2 := p2.kd
      have z2 := p2.lt
      cases hk : (σ2.k == 0)
      · have hw : Hid (wholeF s F = .error (false, σ2.ta)) := Lib.hid (by unfold wholeF; rw [hadv]; show bT (F σ1) _ = _; rw [hF]; exact if_neg (ne_of_beq_false hk))
        go_wp2_with fail
        refine (fail_any p2).mono ?_
        rintro e w' ⟨rfl, rfl⟩
        go_wp2_with fail
        refine leaves_cons (f := 62) (args := #[.pointer (some ⟨w.heap.size, 0, none⟩), .pointer (some ⟨w.heap.size + 1, 0, none⟩)]) (by simp) (by simp [go_sem]) ?_
        refine (rd_err (r := (false, σ2.ta)) w.heap.size (w.heap.size + 1) 0 0 _ a2.lt e2.lt (by omega) (a2.cell 0) (e2.cell 0) (a2.frozen 0) (e2.frozen 0)).mono ?_
        rintro e u' w'' ⟨rfl, ⟨v, rfl⟩, ob, rfl⟩
        have a3 := ((a2.set 0 (.int .i64 σ2.ta)).set_other ⟨w.heap.size + 1, 0, none⟩ (.int .i64 (if false then 4 else 2)) (by show w.heap.size ≠ w.heap.size + 1; omega)).alloc ob
        have e3 := ((e2.set_other ⟨w.heap.size, 0, none⟩ (.int .i64 σ2.ta) (by show w.heap.size + 1 ≠ w.heap.size; omega)).set 0 (.int .i64 (if false then 4 else 2))).alloc ob
        refine ⟨_, results_cc Tryz.results31 rfl rfl (load_i a3) (load_e e3), ?_, ?_, ?_⟩
        · rw [hw.out]; rfl
        · exact ((K2.setCell (p := ⟨w.heap.size, 0, none⟩) (Or.inr (Nat.le_refl _)) _).setCell (p := ⟨w.heap.size + 1, 0, none⟩) (Or.inr (by show w.heap.size ≤ w.heap.size + 1; omega)) _).alloc ob
        · intro a σ2 h; rw [hw.out] at h; cases h
      · have hw : Hid (wholeF s F = .ok (a, σ2)) := Lib.hid (by unfold wholeF; rw [hadv]; show bT (F σ1) _ = _; rw [hF]; exact if_pos (eq_of_beq hk))
        have ca := a2.cell 0
        have ce := e2.cell 0
        have fa := a2.frozen 0
        have fe := e2.frozen 0
        go_wp2_with fail
        refine leaves_cons (f := 62) (args := #[.pointer (some ⟨w.heap.size, 0, none⟩), .pointer (some ⟨w.heap.size + 1, 0, none⟩)]) (by simp) (by simp [go_sem]) ?_
        refine (rd_idle w.heap.size (w.heap.size + 1) _).mono ?_
        rintro e u' w'' ⟨rfl, rfl, rfl⟩
        have a3 := (a2.set 0 (.int .i64 0)).set_other ⟨w.heap.size + 1, 0, none⟩ (.int .i64 0) (by show w.heap.size ≠ w.heap.size + 1; omega)
        have e3 := (e2.set_other ⟨w.heap.size, 0, none⟩ (.int .i64 0) (by show w.heap.size + 1 ≠ w.heap.size; omega)).set 0 (.int .i64 0)
        refine ⟨_, results_cc Tryz.results31 rfl rfl (load_i a3) (load_e e3), ?_, ?_, ?_⟩
        · rw [hw.out]; rfl
        · exact (K2.setCell (p := ⟨w.heap.size, 0, none⟩) (Or.inr (Nat.le_refl _)) _).setCell (p := ⟨w.heap.size + 1, 0, none⟩) (Or.inr (by show w.heap.size ≤ w.heap.size + 1; omega)) _
        · intro a' σ' h
          rw [hw.out] at h
          cases h
          exact HV.out a w2 _ v2 z2 (((Kept.refl _ _).setCell (p := ⟨w.heap.size, 0, none⟩) (Or.inl (Or.inl rfl)) _).setCell (p := ⟨w.heap.size + 1, 0, none⟩) (Or.inl (Or.inr rfl)) _)
def mcells (c most deep : Nat) : List Value := [.int .i64 c, .int .i64 most, .int .i64 deep]
set_option maxHeartbeats 1000000 in
theorem enter_any {w : World} {m c most deep d : Nat} (hb : Blk w m 76 (mcells c most deep)) (hc : c ≤ 1000000) {v : Bool} (hv : (decide (c + 1 ≤ most) && decide (d ≤ deep)) = v) :
    Calls Tryz.prog 105 #[.pointer (some ⟨m, 0, none⟩), .int .i64 d] w fun e w' => e = .returned (.bool v) ∧ Blk w' m 76 (mcells (c + 1) most deep) ∧ Kept (· = m) w w' := by
  have g0 : w.cell? ⟨m, 0, none⟩ = some (.int .i64 c) := hb.cell 0
  have g1 : w.cell? ⟨m, 1, none⟩ = some (.int .i64 most) := hb.cell 1
  have g2 : w.cell? ⟨m, 2, none⟩ = some (.int .i64 deep) := hb.cell 2
  have f0 : w.frozen? ⟨m, 0, none⟩ = false := hb.frozen 0
  have h1 := hb.set 0 (.int .i64 ((c : Int) + 1))
  have k1 : Kept (· = m) w (w.setCell ⟨m, 0, none⟩ (.int .i64 ((c : Int) + 1))) := (Kept.refl (fun x => x = m) w).setCell (p := ⟨m, 0, none⟩) (Or.inl rfl) _
  by_cases a : c + 1 ≤ most
  · by_cases e : d ≤ deep
    · have i1 : (c : Int) + 1 ≤ most := by omega
      have i2 : (d : Int) ≤ deep := by omega
      have HV : Hid (v = true) := Lib.hid (by rw [← hv, decide_eq_true a, decide_eq_true e]; rfl)
      clear hv
      go_enter Tryz.func105, Tryz.ntmps105
      go_wp2_with fail
      go_quiet (fail)
      go_wp2_with fail
      go_ret
      exact ⟨by rw [HV.out]; rfl, h1.drewN nq, k1.drewN nq⟩
    · have i1 : (c : Int) + 1 ≤ most := by omega
      have i2 : decide ((d : Int) ≤ deep) = false := by simp; omega
      have HV : Hid (v = false) := Lib.hid (by rw [← hv, decide_eq_false e]; simp)
      clear hv
      go_enter Tryz.func105, Tryz.ntmps105
      go_wp2_with fail
      go_quiet (fail)
      go_wp2_with fail
      go_ret
      exact ⟨by rw [HV.out]; rfl, h1.drewN nq, k1.drewN nq⟩
  · have i1 : decide ((c : Int) + 1 ≤ most) = false := by simp; omega
    have HV : Hid (v = false) := Lib.hid (by rw [← hv, decide_eq_false a]; simp)
    clear hv
    go_enter Tryz.func105, Tryz.ntmps105
    go_wp2_with fail
    go_quiet (fail)
    go_wp2_with fail
    go_ret
    exact ⟨by rw [HV.out]; rfl, h1.drewN nq, k1.drewN nq⟩
def zeroTyB (t : Ty) : Bool := t.kind == 0 && (t.name.toList == []) && t.kids.isEmpty
theorem TyL.len {ok : Nat → Prop} {w : World} {l : List Ty} {a : Option Addr} {n c : Nat} (h : TyL ok w l (.slice a n c)) : n = l.length := by
  cases h with
  | nil h => rcases h with h | ⟨a, c, h⟩ <;> cases h <;> rfl
  | mk => rfl
theorem TmL.len {ok : Nat → Prop} {w : World} {l : List Tm} {a : Option Addr} {n c : Nat} (h : TmL ok w l (.slice a n c)) : n = l.length := by
  cases h with
  | nil h => rcases h with h | ⟨a, c, h⟩ <;> cases h <;> rfl
  | mk => rfl
set_option maxHeartbeats 1000000 in
theorem zeroTy_any {w : World} (k : Int) (nm : ByteArray) (a : Option Addr) (n c : Nat) {v : Bool} (hv : ((k == 0) && (nm.toList == []) && decide (n = 0)) = v) :
    Calls Tryz.prog 143 #[.agg #[.int .i64 k, .string nm, .slice a n c]] w fun e w' => e = .returned (.bool v) ∧ w' = w.alloc (.cells #[.int .i64 k, .string nm, .slice a n c] 24) := by
  cases h1 : (k == 0) <;> cases h2 : (nm.toList == []) <;> by_cases h3 : n = 0
  all_goals
    (rw [h1, h2] at hv)
    (first | subst h3 | have h4 : decide ((n : Int) = 0) = false := by simp; omega)
    have HV := Lib.hid hv
    clear hv
    go_enter Tryz.func143, Tryz.ntmps143
    go_wp2_with fail
    go_ret
    exact ⟨by rw [← HV.out]; simp [*], rfl⟩
def trimQ (s : ByteArray) : ByteArray := ⟨(Lib.trimSuffix s.data.toList [39]).toArray⟩
def namedB (s : ByteArray) : Bool := identB (trimQ s)
theorem trimQ_le (s : ByteArray) : (trimQ s).size ≤ s.size := by
  unfold trimQ Lib.trimSuffix
  show (if _ then _ else _ : List UInt8).toArray.size ≤ s.data.size
  split <;> simp
set_option maxHeartbeats 1000000 in
theorem named_any (s : ByteArray) (w : World) (hs : s.size ≤ 9223372036854775807) :
    Calls Tryz.prog 79 #[.string s] w fun e w' => e = .returned (.bool (namedB s)) ∧ w = w' := by
  have hq := trimQ_le s
  go_enter Tryz.func79, Tryz.ntmps79
  go_wp2_with (first | (go_at_call 82; refine (Tryz.strings_TrimSuffix s _ _ hs).mono ?_; rintro e w' ⟨rfl, rfl⟩) | (go_at_call 18; refine (ident_any (trimQ s) _ (by omega)).mono ?_; rintro e w' ⟨rfl, rfl⟩))
  go_ret
  exact ⟨rfl, rfl⟩
end Go.Proofs.YtckjlliobebodaaGreatDoor
