/- Readers of terms: the walks. Printed by gen_terms.py. -/
import Derived.Test.YtckjlliobebodaaGreatDoorTermA
set_option linter.unusedVariables false
set_option linter.unusedSimpArgs false
namespace Go.Proofs.YtckjlliobebodaaGreatDoor
open Go.RowKit
set_option maxHeartbeats 4000000 in
theorem worded_name {b : Nat} {s : ByteArray} {f : Nat} {T : TF} {w : World} {σ : PS} (hT : TC b s f T) (hI : TInv s T) (h : PW w b s σ) (hf : 14 * mu s σ ≤ f) (hk0 : σ.k ≠ 0) (hkw : keywordB σ.tx = false) :
    Calls Tryz.prog 118 #[.pointer (some ⟨b, 0, none⟩), .string σ.tx] w (RPost b s (VTm w.heap.size) (wordedS T s σ) w) := by
  have hlt := h.lt
  have hgl := h.gl.lt
  have h0 := h.alloc (.cells #[.int .i64 0, .string ⟨#[]⟩, .int .i64 0, .int .i64 0, .string ⟨#[]⟩, .slice none 0 0, .slice none 0 0] 27)
  have hR0 : Blk (w.alloc (.cells #[.int .i64 0, .string ⟨#[]⟩, .int .i64 0, .int .i64 0, .string ⟨#[]⟩, .slice none 0 0, .slice none 0 0] 27)) w.heap.size 27 z27 := Blk.new w 27 z27
  have K0 : Kept (· = b) w (w.alloc (.cells #[.int .i64 0, .string ⟨#[]⟩, .int .i64 0, .int .i64 0, .string ⟨#[]⟩, .slice none 0 0, .slice none 0 0] 27)) := (Kept.refl _ _).alloc _
  have zw0 : (w.alloc (.cells #[.int .i64 0, .string ⟨#[]⟩, .int .i64 0, .int .i64 0, .string ⟨#[]⟩, .slice none 0 0, .slice none 0 0] 27)).heap.size = w.heap.size + 1 := by simp
  have Z0 := Lib.hid zw0
  clear zw0
  go_enter Tryz.func118, Tryz.ntmps118
  go_wp2_with (first | (go_at_call 46; refine (keyword_t hkw _).mono ?_; rintro e w' ⟨rfl, rfl⟩) | (go_at_call 149; refine (function_any _ _).mono ?_; rintro e w' ⟨rfl, rfl⟩))
  cases h_1 : advS s σ with
  | error r =>
    have hq : Hid (wordedS T s σ = .error r) := Lib.hid (by unfold wordedS leafS; simp only [hkw, h_1])
    refine (adv_err h0 h_1).mono ?_
    rintro e w1 ⟨rfl, k1⟩
    go_wp2_with fail
    exact ⟨rfl, RPost.err hq.out ⟨rfl, K0.trans k1⟩⟩
  | ok σ1 =>
    have i_1 := inv_adv h0.le hk0 h_1
    refine (adv_ok h0 h_1).mono ?_
    rintro e w1 ⟨rfl, p1, k1⟩
    have hR_1 := hR0.kept k1 (by show ¬ w.heap.size = b; omega)
    have K1 := K0.trans k1
    have lb1 := p1.lt
    have zz1 := K1.size
    have zk1 := k1.size
    have lR1 := hR_1.lt
    have hq : Hid (wordedS T s σ = .ok (.mk 20 σ.tx 0 ty0 [], σ1)) := Lib.hid (by unfold wordedS leafS; simp only [hkw, h_1])
    have g0 : w1.cell? ⟨w.heap.size, 0, none⟩ = some (.int .i64 0) := hR_1.cell 0
    have f0 : w1.frozen? ⟨w.heap.size, 0, none⟩ = false := hR_1.frozen 0
    have g1 : w1.cell? ⟨w.heap.size, 1, none⟩ = some (.string ⟨#[]⟩) := hR_1.cell 1
    have f1 : w1.frozen? ⟨w.heap.size, 1, none⟩ = false := hR_1.frozen 1
    have g2 : w1.cell? ⟨w.heap.size, 2, none⟩ = some (.int .i64 0) := hR_1.cell 2
    have f2 : w1.frozen? ⟨w.heap.size, 2, none⟩ = false := hR_1.frozen 2
    have g3 : w1.cell? ⟨w.heap.size, 3, none⟩ = some (.int .i64 0) := hR_1.cell 3
    have f3 : w1.frozen? ⟨w.heap.size, 3, none⟩ = false := hR_1.frozen 3
    have g4 : w1.cell? ⟨w.heap.size, 4, none⟩ = some (.string ⟨#[]⟩) := hR_1.cell 4
    have f4 : w1.frozen? ⟨w.heap.size, 4, none⟩ = false := hR_1.frozen 4
    have g5 : w1.cell? ⟨w.heap.size, 5, none⟩ = some (.slice none 0 0) := hR_1.cell 5
    have f5 : w1.frozen? ⟨w.heap.size, 5, none⟩ = false := hR_1.frozen 5
    have g6 : w1.cell? ⟨w.heap.size, 6, none⟩ = some (.slice none 0 0) := hR_1.cell 6
    have f6 : w1.frozen? ⟨w.heap.size, 6, none⟩ = false := hR_1.frozen 6
    have l9 : w.heap.size < w1.heap.size := hR_1.lt
    go_wp2_with fail
    refine ret_tm Tryz.results118 hq.out rfl rfl ((r7 hR_1 rfl)) ?_ ?_ ((p7w p1 (by omega) (by omega))) ((k7w K1 (Or.inr (Nat.le_refl _))))
    · exact .nil0
    · exact .nil0
set_option maxHeartbeats 4000000 in
theorem worded_fun {b : Nat} {s : ByteArray} {f : Nat} {T : TF} {w : World} {σ : PS} (hT : TC b s f T) (hI : TInv s T) (h : PW w b s σ) (hf : 14 * mu s σ ≤ f) (hk0 : σ.k ≠ 0) (hkw : keywordB σ.tx = true) (hfn : (functionN σ.tx != 0) = true) :
    Calls Tryz.prog 118 #[.pointer (some ⟨b, 0, none⟩), .string σ.tx] w (RPost b s (VTm w.heap.size) (wordedS T s σ) w) := by
  have hlt := h.lt
  have hgl := h.gl.lt
  have h0 := h.alloc (.cells #[.int .i64 0, .string ⟨#[]⟩, .int .i64 0, .int .i64 0, .string ⟨#[]⟩, .slice none 0 0, .slice none 0 0] 27)
  have hR0 : Blk (w.alloc (.cells #[.int .i64 0, .string ⟨#[]⟩, .int .i64 0, .int .i64 0, .string ⟨#[]⟩, .slice none 0 0, .slice none 0 0] 27)) w.heap.size 27 z27 := Blk.new w 27 z27
  have K0 : Kept (· = b) w (w.alloc (.cells #[.int .i64 0, .string ⟨#[]⟩, .int .i64 0, .int .i64 0, .string ⟨#[]⟩, .slice none 0 0, .slice none 0 0] 27)) := (Kept.refl _ _).alloc _
  have zw0 : (w.alloc (.cells #[.int .i64 0, .string ⟨#[]⟩, .int .i64 0, .int .i64 0, .string ⟨#[]⟩, .slice none 0 0, .slice none 0 0] 27)).heap.size = w.heap.size + 1 := by simp
  have Z0 := Lib.hid zw0
  clear zw0
  go_enter Tryz.func118, Tryz.ntmps118
  go_wp2_with (first | (go_at_call 46; refine (keyword_t hkw _).mono ?_; rintro e w' ⟨rfl, rfl⟩) | (go_at_call 149; refine (function_any _ _).mono ?_; rintro e w' ⟨rfl, rfl⟩))
  cases h_1 : advS s σ with
  | error r =>
    have hq : Hid (wordedS T s σ = .error r) := Lib.hid (by unfold wordedS; simp only [hkw, hfn, h_1])
    refine (adv_err h0 h_1).mono ?_
    rintro e w1 ⟨rfl, k1⟩
    go_wp2_with fail
    exact ⟨rfl, RPost.err hq.out ⟨rfl, K0.trans k1⟩⟩
  | ok σ1 =>
    have i_1 := inv_adv h0.le hk0 h_1
    refine (adv_ok h0 h_1).mono ?_
    rintro e w1 ⟨rfl, p1, k1⟩
    have hR_1 := hR0.kept k1 (by show ¬ w.heap.size = b; omega)
    have K1 := K0.trans k1
    have lb1 := p1.lt
    have zz1 := K1.size
    have zk1 := k1.size
    have lR1 := hR_1.lt
    go_wp2_with fail
    have lo2 := p1.lt
    refine (inside_any hT hI p1 (by omega) kLpar kRpar).mono ?_
    rintro e w2 hr
    cases h_2 : insideS T s kLpar kRpar σ1 with
    | error r =>
      have hq : Hid (wordedS T s σ = .error r) := Lib.hid (by unfold wordedS; simp only [hkw, hfn, h_1, h_2])
      obtain ⟨rfl, k2⟩ := hr.getErr h_2
      clear hr
      go_wp2_with fail
      exact ⟨rfl, RPost.err hq.out ⟨rfl, K1.trans k2⟩⟩
    | ok q2 =>
      obtain ⟨t2, σ2⟩ := q2
      obtain ⟨v, rfl, ⟨tk2, kk2, rfl, at2, ct2⟩, p2, k2⟩ := hr.getOk h_2
      clear hr
      have j_2 := inv_inside hI p1.le h_2
      have i_2 := j_2.1
      try unfold Inv at i_2
      try unfold Inv1 at i_2
      obtain ⟨ta2, tn2, tc2, rfl⟩ := at2.slice
      obtain ⟨ma2, mn2, mc2, rfl⟩ := ct2.slice
      unfold tmVal
      have hR_2 := hR_1.kept k2 (by show ¬ w.heap.size = b; omega)
      have K2 := K1.trans k2
      have lb2 := p2.lt
      have zz2 := K2.size
      have zk2 := k2.size
      have lR2 := hR_2.lt
      have hq : Hid (wordedS T s σ = .ok (nd (functionN σ.tx) [t2], σ2)) := Lib.hid (by unfold wordedS; simp only [hkw, hfn, h_1, h_2])
      have g0 : w2.cell? ⟨w.heap.size, 0, none⟩ = some (.int .i64 0) := hR_2.cell 0
      have f0 : w2.frozen? ⟨w.heap.size, 0, none⟩ = false := hR_2.frozen 0
      have g1 : w2.cell? ⟨w.heap.size, 1, none⟩ = some (.string ⟨#[]⟩) := hR_2.cell 1
      have f1 : w2.frozen? ⟨w.heap.size, 1, none⟩ = false := hR_2.frozen 1
      have g2 : w2.cell? ⟨w.heap.size, 2, none⟩ = some (.int .i64 0) := hR_2.cell 2
      have f2 : w2.frozen? ⟨w.heap.size, 2, none⟩ = false := hR_2.frozen 2
      have g3 : w2.cell? ⟨w.heap.size, 3, none⟩ = some (.int .i64 0) := hR_2.cell 3
      have f3 : w2.frozen? ⟨w.heap.size, 3, none⟩ = false := hR_2.frozen 3
      have g4 : w2.cell? ⟨w.heap.size, 4, none⟩ = some (.string ⟨#[]⟩) := hR_2.cell 4
      have f4 : w2.frozen? ⟨w.heap.size, 4, none⟩ = false := hR_2.frozen 4
      have g5 : w2.cell? ⟨w.heap.size, 5, none⟩ = some (.slice none 0 0) := hR_2.cell 5
      have f5 : w2.frozen? ⟨w.heap.size, 5, none⟩ = false := hR_2.frozen 5
      have g6 : w2.cell? ⟨w.heap.size, 6, none⟩ = some (.slice none 0 0) := hR_2.cell 6
      have f6 : w2.frozen? ⟨w.heap.size, 6, none⟩ = false := hR_2.frozen 6
      have l9 : w.heap.size < w2.heap.size := hR_2.lt
      go_wp2_with fail
      refine ret_tm Tryz.results118 hq.out rfl rfl (((r7 hR_2 rfl)).alloc _) ?_ ?_ (((p7w p2 (by omega) (by omega))).alloc _) (((k7w K2 (Or.inr (Nat.le_refl _)))).alloc _)
      · exact .nil0
      · exact TmL.one (ty := 27) (by omega) (Nat.le_refl _) (Blk.new' 27 _ (by simp)) (((at2.frame (same7 (R := w.heap.size) (by omega))).frame (Same.alloc _ _)).mono (fun k _ h => by omega)) (((ct2.frame (same7 (R := w.heap.size) (by omega))).frame (Same.alloc _ _)).mono (fun k _ h => by omega))
set_option maxHeartbeats 4000000 in
theorem worded_true {b : Nat} {s : ByteArray} {f : Nat} {T : TF} {w : World} {σ : PS} (hT : TC b s f T) (hI : TInv s T) (h : PW w b s σ) (hf : 14 * mu s σ ≤ f) (hk0 : σ.k ≠ 0) (hkw : keywordB σ.tx = true) (hfn : (functionN σ.tx != 0) = false)  (hi : isS σ kTrue = true) :
    Calls Tryz.prog 118 #[.pointer (some ⟨b, 0, none⟩), .string σ.tx] w (RPost b s (VTm w.heap.size) (wordedS T s σ) w) := by
  have hlt := h.lt
  have hgl := h.gl.lt
  have h0 := h.alloc (.cells #[.int .i64 0, .string ⟨#[]⟩, .int .i64 0, .int .i64 0, .string ⟨#[]⟩, .slice none 0 0, .slice none 0 0] 27)
  have hR0 : Blk (w.alloc (.cells #[.int .i64 0, .string ⟨#[]⟩, .int .i64 0, .int .i64 0, .string ⟨#[]⟩, .slice none 0 0, .slice none 0 0] 27)) w.heap.size 27 z27 := Blk.new w 27 z27
  have K0 : Kept (· = b) w (w.alloc (.cells #[.int .i64 0, .string ⟨#[]⟩, .int .i64 0, .int .i64 0, .string ⟨#[]⟩, .slice none 0 0, .slice none 0 0] 27)) := (Kept.refl _ _).alloc _
  have zw0 : (w.alloc (.cells #[.int .i64 0, .string ⟨#[]⟩, .int .i64 0, .int .i64 0, .string ⟨#[]⟩, .slice none 0 0, .slice none 0 0] 27)).heap.size = w.heap.size + 1 := by simp
  have Z0 := Lib.hid zw0
  clear zw0
  go_enter Tryz.func118, Tryz.ntmps118
  go_wp2_with (first | (go_at_call 46; refine (keyword_t hkw _).mono ?_; rintro e w' ⟨rfl, rfl⟩) | (go_at_call 149; refine (function_any _ _).mono ?_; rintro e w' ⟨rfl, rfl⟩))
  cases h_1 : advS s σ with
  | error r =>
    have hq : Hid (wordedS T s σ = .error r) := Lib.hid (by unfold wordedS leafS; simp only [hkw, hfn, hi, h_1])
    refine (eat_bad h0 kTrue hi h_1).mono ?_
    rintro e w1 ⟨rfl, k1⟩
    go_wp2_with fail
    exact ⟨rfl, RPost.err hq.out ⟨rfl, K0.trans k1⟩⟩
  | ok σ1 =>
    have i_1 := inv_adv h0.le (isS_ne hi) h_1
    refine (eat_yes h0 kTrue hi h_1).mono ?_
    rintro e w1 ⟨rfl, p1, k1⟩
    have hR_1 := hR0.kept k1 (by show ¬ w.heap.size = b; omega)
    have K1 := K0.trans k1
    have lb1 := p1.lt
    have zz1 := K1.size
    have zk1 := k1.size
    have lR1 := hR_1.lt
    have hq : Hid (wordedS T s σ = .ok (nd 1 [], σ1)) := Lib.hid (by unfold wordedS leafS; simp only [hkw, hfn, hi, h_1])
    have g0 : w1.cell? ⟨w.heap.size, 0, none⟩ = some (.int .i64 0) := hR_1.cell 0
    have f0 : w1.frozen? ⟨w.heap.size, 0, none⟩ = false := hR_1.frozen 0
    have g1 : w1.cell? ⟨w.heap.size, 1, none⟩ = some (.string ⟨#[]⟩) := hR_1.cell 1
    have f1 : w1.frozen? ⟨w.heap.size, 1, none⟩ = false := hR_1.frozen 1
    have g2 : w1.cell? ⟨w.heap.size, 2, none⟩ = some (.int .i64 0) := hR_1.cell 2
    have f2 : w1.frozen? ⟨w.heap.size, 2, none⟩ = false := hR_1.frozen 2
    have g3 : w1.cell? ⟨w.heap.size, 3, none⟩ = some (.int .i64 0) := hR_1.cell 3
    have f3 : w1.frozen? ⟨w.heap.size, 3, none⟩ = false := hR_1.frozen 3
    have g4 : w1.cell? ⟨w.heap.size, 4, none⟩ = some (.string ⟨#[]⟩) := hR_1.cell 4
    have f4 : w1.frozen? ⟨w.heap.size, 4, none⟩ = false := hR_1.frozen 4
    have g5 : w1.cell? ⟨w.heap.size, 5, none⟩ = some (.slice none 0 0) := hR_1.cell 5
    have f5 : w1.frozen? ⟨w.heap.size, 5, none⟩ = false := hR_1.frozen 5
    have g6 : w1.cell? ⟨w.heap.size, 6, none⟩ = some (.slice none 0 0) := hR_1.cell 6
    have f6 : w1.frozen? ⟨w.heap.size, 6, none⟩ = false := hR_1.frozen 6
    have l9 : w.heap.size < w1.heap.size := hR_1.lt
    go_wp2_with fail
    refine ret_tm Tryz.results118 hq.out rfl rfl ((r7 hR_1 rfl)) ?_ ?_ ((p7w p1 (by omega) (by omega))) ((k7w K1 (Or.inr (Nat.le_refl _))))
    · exact .nil0
    · exact .nil0
set_option maxHeartbeats 4000000 in
theorem worded_false {b : Nat} {s : ByteArray} {f : Nat} {T : TF} {w : World} {σ : PS} (hT : TC b s f T) (hI : TInv s T) (h : PW w b s σ) (hf : 14 * mu s σ ≤ f) (hk0 : σ.k ≠ 0) (hkw : keywordB σ.tx = true) (hfn : (functionN σ.tx != 0) = false) (hn0 : isS σ kTrue = false) (hi : isS σ kFalse = true) :
    Calls Tryz.prog 118 #[.pointer (some ⟨b, 0, none⟩), .string σ.tx] w (RPost b s (VTm w.heap.size) (wordedS T s σ) w) := by
  have hlt := h.lt
  have hgl := h.gl.lt
  have h0 := h.alloc (.cells #[.int .i64 0, .string ⟨#[]⟩, .int .i64 0, .int .i64 0, .string ⟨#[]⟩, .slice none 0 0, .slice none 0 0] 27)
  have hR0 : Blk (w.alloc (.cells #[.int .i64 0, .string ⟨#[]⟩, .int .i64 0, .int .i64 0, .string ⟨#[]⟩, .slice none 0 0, .slice none 0 0] 27)) w.heap.size 27 z27 := Blk.new w 27 z27
  have K0 : Kept (· = b) w (w.alloc (.cells #[.int .i64 0, .string ⟨#[]⟩, .int .i64 0, .int .i64 0, .string ⟨#[]⟩, .slice none 0 0, .slice none 0 0] 27)) := (Kept.refl _ _).alloc _
  have zw0 : (w.alloc (.cells #[.int .i64 0, .string ⟨#[]⟩, .int .i64 0, .int .i64 0, .string ⟨#[]⟩, .slice none 0 0, .slice none 0 0] 27)).heap.size = w.heap.size + 1 := by simp
  have Z0 := Lib.hid zw0
  clear zw0
  go_enter Tryz.func118, Tryz.ntmps118
  go_wp2_with (first | (go_at_call 46; refine (keyword_t hkw _).mono ?_; rintro e w' ⟨rfl, rfl⟩) | (go_at_call 149; refine (function_any _ _).mono ?_; rintro e w' ⟨rfl, rfl⟩))
  refine (eat_no h0 kTrue hn0).mono ?_
  rintro e w' ⟨rfl, rfl⟩
  go_wp2_with fail
  cases h_1 : advS s σ with
  | error r =>
    have hq : Hid (wordedS T s σ = .error r) := Lib.hid (by unfold wordedS leafS; simp only [hkw, hfn, hn0, hi, h_1])
    refine (eat_bad h0 kFalse hi h_1).mono ?_
    rintro e w1 ⟨rfl, k1⟩
    go_wp2_with fail
    exact ⟨rfl, RPost.err hq.out ⟨rfl, K0.trans k1⟩⟩
  | ok σ1 =>
    have i_1 := inv_adv h0.le (isS_ne hi) h_1
    refine (eat_yes h0 kFalse hi h_1).mono ?_
    rintro e w1 ⟨rfl, p1, k1⟩
    have hR_1 := hR0.kept k1 (by show ¬ w.heap.size = b; omega)
    have K1 := K0.trans k1
    have lb1 := p1.lt
    have zz1 := K1.size
    have zk1 := k1.size
    have lR1 := hR_1.lt
    have hq : Hid (wordedS T s σ = .ok (nd 2 [], σ1)) := Lib.hid (by unfold wordedS leafS; simp only [hkw, hfn, hn0, hi, h_1])
    have g0 : w1.cell? ⟨w.heap.size, 0, none⟩ = some (.int .i64 0) := hR_1.cell 0
    have f0 : w1.frozen? ⟨w.heap.size, 0, none⟩ = false := hR_1.frozen 0
    have g1 : w1.cell? ⟨w.heap.size, 1, none⟩ = some (.string ⟨#[]⟩) := hR_1.cell 1
    have f1 : w1.frozen? ⟨w.heap.size, 1, none⟩ = false := hR_1.frozen 1
    have g2 : w1.cell? ⟨w.heap.size, 2, none⟩ = some (.int .i64 0) := hR_1.cell 2
    have f2 : w1.frozen? ⟨w.heap.size, 2, none⟩ = false := hR_1.frozen 2
    have g3 : w1.cell? ⟨w.heap.size, 3, none⟩ = some (.int .i64 0) := hR_1.cell 3
    have f3 : w1.frozen? ⟨w.heap.size, 3, none⟩ = false := hR_1.frozen 3
    have g4 : w1.cell? ⟨w.heap.size, 4, none⟩ = some (.string ⟨#[]⟩) := hR_1.cell 4
    have f4 : w1.frozen? ⟨w.heap.size, 4, none⟩ = false := hR_1.frozen 4
    have g5 : w1.cell? ⟨w.heap.size, 5, none⟩ = some (.slice none 0 0) := hR_1.cell 5
    have f5 : w1.frozen? ⟨w.heap.size, 5, none⟩ = false := hR_1.frozen 5
    have g6 : w1.cell? ⟨w.heap.size, 6, none⟩ = some (.slice none 0 0) := hR_1.cell 6
    have f6 : w1.frozen? ⟨w.heap.size, 6, none⟩ = false := hR_1.frozen 6
    have l9 : w.heap.size < w1.heap.size := hR_1.lt
    go_wp2_with fail
    refine ret_tm Tryz.results118 hq.out rfl rfl ((r7 hR_1 rfl)) ?_ ?_ ((p7w p1 (by omega) (by omega))) ((k7w K1 (Or.inr (Nat.le_refl _))))
    · exact .nil0
    · exact .nil0
set_option maxHeartbeats 4000000 in
theorem worded_forall {b : Nat} {s : ByteArray} {f : Nat} {T : TF} {w : World} {σ : PS} (hT : TC b s f T) (hI : TInv s T) (h : PW w b s σ) (hf : 14 * mu s σ ≤ f) (hk0 : σ.k ≠ 0) (hkw : keywordB σ.tx = true) (hfn : (functionN σ.tx != 0) = false) (hn0 : isS σ kTrue = false) (hn1 : isS σ kFalse = false) (hi : isS σ kForall = true) :
    Calls Tryz.prog 118 #[.pointer (some ⟨b, 0, none⟩), .string σ.tx] w (RPost b s (VTm w.heap.size) (wordedS T s σ) w) := by
  have hlt := h.lt
  have hgl := h.gl.lt
  have h0 := h.alloc (.cells #[.int .i64 0, .string ⟨#[]⟩, .int .i64 0, .int .i64 0, .string ⟨#[]⟩, .slice none 0 0, .slice none 0 0] 27)
  have hR0 : Blk (w.alloc (.cells #[.int .i64 0, .string ⟨#[]⟩, .int .i64 0, .int .i64 0, .string ⟨#[]⟩, .slice none 0 0, .slice none 0 0] 27)) w.heap.size 27 z27 := Blk.new w 27 z27
  have K0 : Kept (· = b) w (w.alloc (.cells #[.int .i64 0, .string ⟨#[]⟩, .int .i64 0, .int .i64 0, .string ⟨#[]⟩, .slice none 0 0, .slice none 0 0] 27)) := (Kept.refl _ _).alloc _
  have zw0 : (w.alloc (.cells #[.int .i64 0, .string ⟨#[]⟩, .int .i64 0, .int .i64 0, .string ⟨#[]⟩, .slice none 0 0, .slice none 0 0] 27)).heap.size = w.heap.size + 1 := by simp
  have Z0 := Lib.hid zw0
  clear zw0
  go_enter Tryz.func118, Tryz.ntmps118
  go_wp2_with (first | (go_at_call 46; refine (keyword_t hkw _).mono ?_; rintro e w' ⟨rfl, rfl⟩) | (go_at_call 149; refine (function_any _ _).mono ?_; rintro e w' ⟨rfl, rfl⟩))
  refine (eat_no h0 kTrue hn0).mono ?_
  rintro e w' ⟨rfl, rfl⟩
  go_wp2_with fail
  refine (eat_no h0 kFalse hn1).mono ?_
  rintro e w' ⟨rfl, rfl⟩
  go_wp2_with fail
  cases h_1 : advS s σ with
  | error r =>
    have hq : Hid (wordedS T s σ = .error r) := Lib.hid (by unfold wordedS binderS; simp only [hkw, hfn, hn0, hn1, hi, h_1])
    refine (eat_bad h0 kForall hi h_1).mono ?_
    rintro e w1 ⟨rfl, k1⟩
    go_wp2_with fail
    exact ⟨rfl, RPost.err hq.out ⟨rfl, K0.trans k1⟩⟩
  | ok σ1 =>
    have i_1 := inv_adv h0.le (isS_ne hi) h_1
    refine (eat_yes h0 kForall hi h_1).mono ?_
    rintro e w1 ⟨rfl, p1, k1⟩
    have hR_1 := hR0.kept k1 (by show ¬ w.heap.size = b; omega)
    have K1 := K0.trans k1
    have lb1 := p1.lt
    have zz1 := K1.size
    have zk1 := k1.size
    have lR1 := hR_1.lt
    go_wp2_with fail
    have lo2 := p1.lt
    refine (bound_any hT hI p1 (by omega) 8).mono ?_
    rintro e w2 hr
    cases h_2 : boundS T s 8 σ1 with
    | error r =>
      have hq : Hid (wordedS T s σ = .error r) := Lib.hid (by unfold wordedS binderS; simp only [hkw, hfn, hn0, hn1, hi, h_1, h_2])
      obtain ⟨rfl, k2⟩ := hr.getErr h_2
      clear hr
      go_wp2_with fail
      exact ⟨rfl, RPost.err hq.out ⟨rfl, K1.trans k2⟩⟩
    | ok q2 =>
      obtain ⟨t2, σ2⟩ := q2
      obtain ⟨v, rfl, ⟨tk2, kk2, rfl, at2, ct2⟩, p2, k2⟩ := hr.getOk h_2
      clear hr
      have j_2 := inv_bound hI (by decide) p1.le h_2
      have i_2 := j_2.1
      try unfold Inv at i_2
      try unfold Inv1 at i_2
      obtain ⟨ta2, tn2, tc2, rfl⟩ := at2.slice
      obtain ⟨ma2, mn2, mc2, rfl⟩ := ct2.slice
      unfold tmVal
      have hR_2 := hR_1.kept k2 (by show ¬ w.heap.size = b; omega)
      have K2 := K1.trans k2
      have lb2 := p2.lt
      have zz2 := K2.size
      have zk2 := k2.size
      have lR2 := hR_2.lt
      have hq : Hid (wordedS T s σ = .ok (t2, σ2)) := Lib.hid (by unfold wordedS binderS; simp only [hkw, hfn, hn0, hn1, hi, h_1, h_2])
      have g0 : w2.cell? ⟨w.heap.size, 0, none⟩ = some (.int .i64 0) := hR_2.cell 0
      have f0 : w2.frozen? ⟨w.heap.size, 0, none⟩ = false := hR_2.frozen 0
      have g1 : w2.cell? ⟨w.heap.size, 1, none⟩ = some (.string ⟨#[]⟩) := hR_2.cell 1
      have f1 : w2.frozen? ⟨w.heap.size, 1, none⟩ = false := hR_2.frozen 1
      have g2 : w2.cell? ⟨w.heap.size, 2, none⟩ = some (.int .i64 0) := hR_2.cell 2
      have f2 : w2.frozen? ⟨w.heap.size, 2, none⟩ = false := hR_2.frozen 2
      have g3 : w2.cell? ⟨w.heap.size, 3, none⟩ = some (.int .i64 0) := hR_2.cell 3
      have f3 : w2.frozen? ⟨w.heap.size, 3, none⟩ = false := hR_2.frozen 3
      have g4 : w2.cell? ⟨w.heap.size, 4, none⟩ = some (.string ⟨#[]⟩) := hR_2.cell 4
      have f4 : w2.frozen? ⟨w.heap.size, 4, none⟩ = false := hR_2.frozen 4
      have g5 : w2.cell? ⟨w.heap.size, 5, none⟩ = some (.slice none 0 0) := hR_2.cell 5
      have f5 : w2.frozen? ⟨w.heap.size, 5, none⟩ = false := hR_2.frozen 5
      have g6 : w2.cell? ⟨w.heap.size, 6, none⟩ = some (.slice none 0 0) := hR_2.cell 6
      have f6 : w2.frozen? ⟨w.heap.size, 6, none⟩ = false := hR_2.frozen 6
      have l9 : w.heap.size < w2.heap.size := hR_2.lt
      go_wp2_with fail
      refine ret_tm Tryz.results118 hq.out rfl rfl ((r7 hR_2 rfl)) ?_ ?_ ((p7w p2 (by omega) (by omega))) ((k7w K2 (Or.inr (Nat.le_refl _))))
      · exact (at2.frame (same7 (R := w.heap.size) (by omega))).mono (fun k _ h => by omega)
      · exact (ct2.frame (same7 (R := w.heap.size) (by omega))).mono (fun k _ h => by omega)
set_option maxHeartbeats 4000000 in
theorem worded_exists {b : Nat} {s : ByteArray} {f : Nat} {T : TF} {w : World} {σ : PS} (hT : TC b s f T) (hI : TInv s T) (h : PW w b s σ) (hf : 14 * mu s σ ≤ f) (hk0 : σ.k ≠ 0) (hkw : keywordB σ.tx = true) (hfn : (functionN σ.tx != 0) = false) (hn0 : isS σ kTrue = false) (hn1 : isS σ kFalse = false) (hn2 : isS σ kForall = false) (hi : isS σ kExists = true) :
    Calls Tryz.prog 118 #[.pointer (some ⟨b, 0, none⟩), .string σ.tx] w (RPost b s (VTm w.heap.size) (wordedS T s σ) w) := by
  have hlt := h.lt
  have hgl := h.gl.lt
  have h0 := h.alloc (.cells #[.int .i64 0, .string ⟨#[]⟩, .int .i64 0, .int .i64 0, .string ⟨#[]⟩, .slice none 0 0, .slice none 0 0] 27)
  have hR0 : Blk (w.alloc (.cells #[.int .i64 0, .string ⟨#[]⟩, .int .i64 0, .int .i64 0, .string ⟨#[]⟩, .slice none 0 0, .slice none 0 0] 27)) w.heap.size 27 z27 := Blk.new w 27 z27
  have K0 : Kept (· = b) w (w.alloc (.cells #[.int .i64 0, .string ⟨#[]⟩, .int .i64 0, .int .i64 0, .string ⟨#[]⟩, .slice none 0 0, .slice none 0 0] 27)) := (Kept.refl _ _).alloc _
  have zw0 : (w.alloc (.cells #[.int .i64 0, .string ⟨#[]⟩, .int .i64 0, .int .i64 0, .string ⟨#[]⟩, .slice none 0 0, .slice none 0 0] 27)).heap.size = w.heap.size + 1 := by simp
  have Z0 := Lib.hid zw0
  clear zw0
  go_enter Tryz.func118, Tryz.ntmps118
  go_wp2_with (first | (go_at_call 46; refine (keyword_t hkw _).mono ?_; rintro e w' ⟨rfl, rfl⟩) | (go_at_call 149; refine (function_any _ _).mono ?_; rintro e w' ⟨rfl, rfl⟩))
  refine (eat_no h0 kTrue hn0).mono ?_
  rintro e w' ⟨rfl, rfl⟩
  go_wp2_with fail
  refine (eat_no h0 kFalse hn1).mono ?_
  rintro e w' ⟨rfl, rfl⟩
  go_wp2_with fail
  refine (eat_no h0 kForall hn2).mono ?_
  rintro e w' ⟨rfl, rfl⟩
  go_wp2_with fail
  cases h_1 : advS s σ with
  | error r =>
    have hq : Hid (wordedS T s σ = .error r) := Lib.hid (by unfold wordedS binderS; simp only [hkw, hfn, hn0, hn1, hn2, hi, h_1])
    refine (eat_bad h0 kExists hi h_1).mono ?_
    rintro e w1 ⟨rfl, k1⟩
    go_wp2_with fail
    exact ⟨rfl, RPost.err hq.out ⟨rfl, K0.trans k1⟩⟩
  | ok σ1 =>
    have i_1 := inv_adv h0.le (isS_ne hi) h_1
    refine (eat_yes h0 kExists hi h_1).mono ?_
    rintro e w1 ⟨rfl, p1, k1⟩
    have hR_1 := hR0.kept k1 (by show ¬ w.heap.size = b; omega)
    have K1 := K0.trans k1
    have lb1 := p1.lt
    have zz1 := K1.size
    have zk1 := k1.size
    have lR1 := hR_1.lt
    go_wp2_with fail
    have lo2 := p1.lt
    refine (bound_any hT hI p1 (by omega) 9).mono ?_
    rintro e w2 hr
    cases h_2 : boundS T s 9 σ1 with
    | error r =>
      have hq : Hid (wordedS T s σ = .error r) := Lib.hid (by unfold wordedS binderS; simp only [hkw, hfn, hn0, hn1, hn2, hi, h_1, h_2])
      obtain ⟨rfl, k2⟩ := hr.getErr h_2
      clear hr
      go_wp2_with fail
      exact ⟨rfl, RPost.err hq.out ⟨rfl, K1.trans k2⟩⟩
    | ok q2 =>
      obtain ⟨t2, σ2⟩ := q2
      obtain ⟨v, rfl, ⟨tk2, kk2, rfl, at2, ct2⟩, p2, k2⟩ := hr.getOk h_2
      clear hr
      have j_2 := inv_bound hI (by decide) p1.le h_2
      have i_2 := j_2.1
      try unfold Inv at i_2
      try unfold Inv1 at i_2
      obtain ⟨ta2, tn2, tc2, rfl⟩ := at2.slice
      obtain ⟨ma2, mn2, mc2, rfl⟩ := ct2.slice
      unfold tmVal
      have hR_2 := hR_1.kept k2 (by show ¬ w.heap.size = b; omega)
      have K2 := K1.trans k2
      have lb2 := p2.lt
      have zz2 := K2.size
      have zk2 := k2.size
      have lR2 := hR_2.lt
      have hq : Hid (wordedS T s σ = .ok (t2, σ2)) := Lib.hid (by unfold wordedS binderS; simp only [hkw, hfn, hn0, hn1, hn2, hi, h_1, h_2])
      have g0 : w2.cell? ⟨w.heap.size, 0, none⟩ = some (.int .i64 0) := hR_2.cell 0
      have f0 : w2.frozen? ⟨w.heap.size, 0, none⟩ = false := hR_2.frozen 0
      have g1 : w2.cell? ⟨w.heap.size, 1, none⟩ = some (.string ⟨#[]⟩) := hR_2.cell 1
      have f1 : w2.frozen? ⟨w.heap.size, 1, none⟩ = false := hR_2.frozen 1
      have g2 : w2.cell? ⟨w.heap.size, 2, none⟩ = some (.int .i64 0) := hR_2.cell 2
      have f2 : w2.frozen? ⟨w.heap.size, 2, none⟩ = false := hR_2.frozen 2
      have g3 : w2.cell? ⟨w.heap.size, 3, none⟩ = some (.int .i64 0) := hR_2.cell 3
      have f3 : w2.frozen? ⟨w.heap.size, 3, none⟩ = false := hR_2.frozen 3
      have g4 : w2.cell? ⟨w.heap.size, 4, none⟩ = some (.string ⟨#[]⟩) := hR_2.cell 4
      have f4 : w2.frozen? ⟨w.heap.size, 4, none⟩ = false := hR_2.frozen 4
      have g5 : w2.cell? ⟨w.heap.size, 5, none⟩ = some (.slice none 0 0) := hR_2.cell 5
      have f5 : w2.frozen? ⟨w.heap.size, 5, none⟩ = false := hR_2.frozen 5
      have g6 : w2.cell? ⟨w.heap.size, 6, none⟩ = some (.slice none 0 0) := hR_2.cell 6
      have f6 : w2.frozen? ⟨w.heap.size, 6, none⟩ = false := hR_2.frozen 6
      have l9 : w.heap.size < w2.heap.size := hR_2.lt
      go_wp2_with fail
      refine ret_tm Tryz.results118 hq.out rfl rfl ((r7 hR_2 rfl)) ?_ ?_ ((p7w p2 (by omega) (by omega))) ((k7w K2 (Or.inr (Nat.le_refl _))))
      · exact (at2.frame (same7 (R := w.heap.size) (by omega))).mono (fun k _ h => by omega)
      · exact (ct2.frame (same7 (R := w.heap.size) (by omega))).mono (fun k _ h => by omega)
set_option maxHeartbeats 4000000 in
theorem worded_funb {b : Nat} {s : ByteArray} {f : Nat} {T : TF} {w : World} {σ : PS} (hT : TC b s f T) (hI : TInv s T) (h : PW w b s σ) (hf : 14 * mu s σ ≤ f) (hk0 : σ.k ≠ 0) (hkw : keywordB σ.tx = true) (hfn : (functionN σ.tx != 0) = false) (hn0 : isS σ kTrue = false) (hn1 : isS σ kFalse = false) (hn2 : isS σ kForall = false) (hn3 : isS σ kExists = false) (hi : isS σ kFun = true) :
    Calls Tryz.prog 118 #[.pointer (some ⟨b, 0, none⟩), .string σ.tx] w (RPost b s (VTm w.heap.size) (wordedS T s σ) w) := by
  have hlt := h.lt
  have hgl := h.gl.lt
  have h0 := h.alloc (.cells #[.int .i64 0, .string ⟨#[]⟩, .int .i64 0, .int .i64 0, .string ⟨#[]⟩, .slice none 0 0, .slice none 0 0] 27)
  have hR0 : Blk (w.alloc (.cells #[.int .i64 0, .string ⟨#[]⟩, .int .i64 0, .int .i64 0, .string ⟨#[]⟩, .slice none 0 0, .slice none 0 0] 27)) w.heap.size 27 z27 := Blk.new w 27 z27
  have K0 : Kept (· = b) w (w.alloc (.cells #[.int .i64 0, .string ⟨#[]⟩, .int .i64 0, .int .i64 0, .string ⟨#[]⟩, .slice none 0 0, .slice none 0 0] 27)) := (Kept.refl _ _).alloc _
  have zw0 : (w.alloc (.cells #[.int .i64 0, .string ⟨#[]⟩, .int .i64 0, .int .i64 0, .string ⟨#[]⟩, .slice none 0 0, .slice none 0 0] 27)).heap.size = w.heap.size + 1 := by simp
  have Z0 := Lib.hid zw0
  clear zw0
  go_enter Tryz.func118, Tryz.ntmps118
  go_wp2_with (first | (go_at_call 46; refine (keyword_t hkw _).mono ?_; rintro e w' ⟨rfl, rfl⟩) | (go_at_call 149; refine (function_any _ _).mono ?_; rintro e w' ⟨rfl, rfl⟩))
  refine (eat_no h0 kTrue hn0).mono ?_
  rintro e w' ⟨rfl, rfl⟩
  go_wp2_with fail
  refine (eat_no h0 kFalse hn1).mono ?_
  rintro e w' ⟨rfl, rfl⟩
  go_wp2_with fail
  refine (eat_no h0 kForall hn2).mono ?_
  rintro e w' ⟨rfl, rfl⟩
  go_wp2_with fail
  refine (eat_no h0 kExists hn3).mono ?_
  rintro e w' ⟨rfl, rfl⟩
  go_wp2_with fail
  cases h_1 : advS s σ with
  | error r =>
    have hq : Hid (wordedS T s σ = .error r) := Lib.hid (by unfold wordedS binderS; simp only [hkw, hfn, hn0, hn1, hn2, hn3, hi, h_1])
    refine (eat_bad h0 kFun hi h_1).mono ?_
    rintro e w1 ⟨rfl, k1⟩
    go_wp2_with fail
    exact ⟨rfl, RPost.err hq.out ⟨rfl, K0.trans k1⟩⟩
  | ok σ1 =>
    have i_1 := inv_adv h0.le (isS_ne hi) h_1
    refine (eat_yes h0 kFun hi h_1).mono ?_
    rintro e w1 ⟨rfl, p1, k1⟩
    have hR_1 := hR0.kept k1 (by show ¬ w.heap.size = b; omega)
    have K1 := K0.trans k1
    have lb1 := p1.lt
    have zz1 := K1.size
    have zk1 := k1.size
    have lR1 := hR_1.lt
    go_wp2_with fail
    have lo2 := p1.lt
    refine (bound_any hT hI p1 (by omega) 56).mono ?_
    rintro e w2 hr
    cases h_2 : boundS T s 56 σ1 with
    | error r =>
      have hq : Hid (wordedS T s σ = .error r) := Lib.hid (by unfold wordedS binderS; simp only [hkw, hfn, hn0, hn1, hn2, hn3, hi, h_1, h_2])
      obtain ⟨rfl, k2⟩ := hr.getErr h_2
      clear hr
      go_wp2_with fail
      exact ⟨rfl, RPost.err hq.out ⟨rfl, K1.trans k2⟩⟩
    | ok q2 =>
      obtain ⟨t2, σ2⟩ := q2
      obtain ⟨v, rfl, ⟨tk2, kk2, rfl, at2, ct2⟩, p2, k2⟩ := hr.getOk h_2
      clear hr
      have j_2 := inv_bound hI (by decide) p1.le h_2
      have i_2 := j_2.1
      try unfold Inv at i_2
      try unfold Inv1 at i_2
      obtain ⟨ta2, tn2, tc2, rfl⟩ := at2.slice
      obtain ⟨ma2, mn2, mc2, rfl⟩ := ct2.slice
      unfold tmVal
      have hR_2 := hR_1.kept k2 (by show ¬ w.heap.size = b; omega)
      have K2 := K1.trans k2
      have lb2 := p2.lt
      have zz2 := K2.size
      have zk2 := k2.size
      have lR2 := hR_2.lt
      have hq : Hid (wordedS T s σ = .ok (t2, σ2)) := Lib.hid (by unfold wordedS binderS; simp only [hkw, hfn, hn0, hn1, hn2, hn3, hi, h_1, h_2])
      have g0 : w2.cell? ⟨w.heap.size, 0, none⟩ = some (.int .i64 0) := hR_2.cell 0
      have f0 : w2.frozen? ⟨w.heap.size, 0, none⟩ = false := hR_2.frozen 0
      have g1 : w2.cell? ⟨w.heap.size, 1, none⟩ = some (.string ⟨#[]⟩) := hR_2.cell 1
      have f1 : w2.frozen? ⟨w.heap.size, 1, none⟩ = false := hR_2.frozen 1
      have g2 : w2.cell? ⟨w.heap.size, 2, none⟩ = some (.int .i64 0) := hR_2.cell 2
      have f2 : w2.frozen? ⟨w.heap.size, 2, none⟩ = false := hR_2.frozen 2
      have g3 : w2.cell? ⟨w.heap.size, 3, none⟩ = some (.int .i64 0) := hR_2.cell 3
      have f3 : w2.frozen? ⟨w.heap.size, 3, none⟩ = false := hR_2.frozen 3
      have g4 : w2.cell? ⟨w.heap.size, 4, none⟩ = some (.string ⟨#[]⟩) := hR_2.cell 4
      have f4 : w2.frozen? ⟨w.heap.size, 4, none⟩ = false := hR_2.frozen 4
      have g5 : w2.cell? ⟨w.heap.size, 5, none⟩ = some (.slice none 0 0) := hR_2.cell 5
      have f5 : w2.frozen? ⟨w.heap.size, 5, none⟩ = false := hR_2.frozen 5
      have g6 : w2.cell? ⟨w.heap.size, 6, none⟩ = some (.slice none 0 0) := hR_2.cell 6
      have f6 : w2.frozen? ⟨w.heap.size, 6, none⟩ = false := hR_2.frozen 6
      have l9 : w.heap.size < w2.heap.size := hR_2.lt
      go_wp2_with fail
      refine ret_tm Tryz.results118 hq.out rfl rfl ((r7 hR_2 rfl)) ?_ ?_ ((p7w p2 (by omega) (by omega))) ((k7w K2 (Or.inr (Nat.le_refl _))))
      · exact (at2.frame (same7 (R := w.heap.size) (by omega))).mono (fun k _ h => by omega)
      · exact (ct2.frame (same7 (R := w.heap.size) (by omega))).mono (fun k _ h => by omega)
set_option maxHeartbeats 4000000 in
theorem worded_none {b : Nat} {s : ByteArray} {f : Nat} {T : TF} {w : World} {σ : PS} (hT : TC b s f T) (hI : TInv s T) (h : PW w b s σ) (hf : 14 * mu s σ ≤ f) (hk0 : σ.k ≠ 0) (hkw : keywordB σ.tx = true) (hfn : (functionN σ.tx != 0) = false) (hn0 : isS σ kTrue = false) (hn1 : isS σ kFalse = false) (hn2 : isS σ kForall = false) (hn3 : isS σ kExists = false) (hn4 : isS σ kFun = false) :
    Calls Tryz.prog 118 #[.pointer (some ⟨b, 0, none⟩), .string σ.tx] w (RPost b s (VTm w.heap.size) (wordedS T s σ) w) := by
  have hlt := h.lt
  have hgl := h.gl.lt
  have h0 := h.alloc (.cells #[.int .i64 0, .string ⟨#[]⟩, .int .i64 0, .int .i64 0, .string ⟨#[]⟩, .slice none 0 0, .slice none 0 0] 27)
  have hR0 : Blk (w.alloc (.cells #[.int .i64 0, .string ⟨#[]⟩, .int .i64 0, .int .i64 0, .string ⟨#[]⟩, .slice none 0 0, .slice none 0 0] 27)) w.heap.size 27 z27 := Blk.new w 27 z27
  have K0 : Kept (· = b) w (w.alloc (.cells #[.int .i64 0, .string ⟨#[]⟩, .int .i64 0, .int .i64 0, .string ⟨#[]⟩, .slice none 0 0, .slice none 0 0] 27)) := (Kept.refl _ _).alloc _
  have zw0 : (w.alloc (.cells #[.int .i64 0, .string ⟨#[]⟩, .int .i64 0, .int .i64 0, .string ⟨#[]⟩, .slice none 0 0, .slice none 0 0] 27)).heap.size = w.heap.size + 1 := by simp
  have Z0 := Lib.hid zw0
  clear zw0
  go_enter Tryz.func118, Tryz.ntmps118
  go_wp2_with (first | (go_at_call 46; refine (keyword_t hkw _).mono ?_; rintro e w' ⟨rfl, rfl⟩) | (go_at_call 149; refine (function_any _ _).mono ?_; rintro e w' ⟨rfl, rfl⟩))
  refine (eat_no h0 kTrue hn0).mono ?_
  rintro e w' ⟨rfl, rfl⟩
  go_wp2_with fail
  refine (eat_no h0 kFalse hn1).mono ?_
  rintro e w' ⟨rfl, rfl⟩
  go_wp2_with fail
  refine (eat_no h0 kForall hn2).mono ?_
  rintro e w' ⟨rfl, rfl⟩
  go_wp2_with fail
  refine (eat_no h0 kExists hn3).mono ?_
  rintro e w' ⟨rfl, rfl⟩
  go_wp2_with fail
  refine (eat_no h0 kFun hn4).mono ?_
  rintro e w' ⟨rfl, rfl⟩
  go_wp2_with fail
  have hq : Hid (wordedS T s σ = .error (false, σ.ta)) := Lib.hid (by unfold wordedS; simp only [hkw, hfn, hn0, hn1, hn2, hn3, hn4])
  refine (fail_any h0).mono ?_
  rintro e w' ⟨rfl, rfl⟩
  go_wp2_with fail
  exact ⟨rfl, RPost.err hq.out ⟨rfl, K0⟩⟩
theorem worded_any {b : Nat} {s : ByteArray} {f : Nat} {T : TF} {w : World} {σ : PS} (hT : TC b s f T) (hI : TInv s T) (h : PW w b s σ) (hf : 14 * mu s σ ≤ f) (hk0 : σ.k ≠ 0) :
    Calls Tryz.prog 118 #[.pointer (some ⟨b, 0, none⟩), .string σ.tx] w (RPost b s (VTm w.heap.size) (wordedS T s σ) w) := by
  cases hkw : keywordB σ.tx
  · exact worded_name hT hI h hf hk0 hkw
  cases hfn : (functionN σ.tx != 0)
  case true => exact worded_fun hT hI h hf hk0 hkw hfn
  cases hn0 : isS σ kTrue
  case true => exact worded_true hT hI h hf hk0 hkw hfn hn0
  cases hn1 : isS σ kFalse
  case true => exact worded_false hT hI h hf hk0 hkw hfn hn0 hn1
  cases hn2 : isS σ kForall
  case true => exact worded_forall hT hI h hf hk0 hkw hfn hn0 hn1 hn2
  cases hn3 : isS σ kExists
  case true => exact worded_exists hT hI h hf hk0 hkw hfn hn0 hn1 hn2 hn3
  cases hn4 : isS σ kFun
  case true => exact worded_funb hT hI h hf hk0 hkw hfn hn0 hn1 hn2 hn3 hn4
  exact worded_none hT hI h hf hk0 hkw hfn hn0 hn1 hn2 hn3 hn4
end Go.Proofs.YtckjlliobebodaaGreatDoor
