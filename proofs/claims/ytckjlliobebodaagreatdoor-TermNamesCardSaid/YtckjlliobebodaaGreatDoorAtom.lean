/- Readers of terms: the walks. Printed by gen_terms2.py. -/
import Derived.Test.YtckjlliobebodaaGreatDoorBrac
import Derived.Test.YtckjlliobebodaaGreatDoorWorded
set_option linter.unusedVariables false
set_option linter.unusedSimpArgs false
namespace Go.Proofs.YtckjlliobebodaaGreatDoor
open Go.RowKit
set_option maxHeartbeats 4000000 in
theorem atom_num {b : Nat} {s : ByteArray} {f : Nat} {T : TF} {w : World} {σ : PS} (hT : TC b s f T) (hI : TInv s T) (h : PW w b s σ) (hf : 14 * mu s σ ≤ f) (hk2 : (σ.k == 2) = true) :
    Calls Tryz.prog 67 #[.pointer (some ⟨b, 0, none⟩)] w (RPost b s (VTm w.heap.size) (atomS T s σ) w) := by
  have hk0 : σ.k ≠ 0 := by rw [eq_of_beq hk2]; decide
  have HK0 := Lib.hid hk0
  clear hk0
  have hlt := h.lt
  have hgl := h.gl.lt
  have h0 := h.alloc (.cells #[.int .i64 0, .string ⟨#[]⟩, .int .i64 0, .int .i64 0, .string ⟨#[]⟩, .slice none 0 0, .slice none 0 0] 27)
  have hR0 : Blk (w.alloc (.cells #[.int .i64 0, .string ⟨#[]⟩, .int .i64 0, .int .i64 0, .string ⟨#[]⟩, .slice none 0 0, .slice none 0 0] 27)) w.heap.size 27 z27 := Blk.new w 27 z27
  have K0 : Kept (· = b) w (w.alloc (.cells #[.int .i64 0, .string ⟨#[]⟩, .int .i64 0, .int .i64 0, .string ⟨#[]⟩, .slice none 0 0, .slice none 0 0] 27)) := (Kept.refl _ _).alloc _
  have zw0 : (w.alloc (.cells #[.int .i64 0, .string ⟨#[]⟩, .int .i64 0, .int .i64 0, .string ⟨#[]⟩, .slice none 0 0, .slice none 0 0] 27)).heap.size = w.heap.size + 1 := by simp
  have Z0 := Lib.hid zw0
  clear zw0
  have c2 := h0.kd
  have c3 := h0.txt
  have c4 := h0.num
  have c5 := h0.tat
  have h1 := h0.alloc (.cells #[.int .i64 σ.k, .string σ.tx, .int .i64 σ.n, .int .i64 σ.ta] 84)
  have K1 := K0.alloc (.cells #[.int .i64 σ.k, .string σ.tx, .int .i64 σ.n, .int .i64 σ.ta] 84)
  have hR1 := hR0.alloc (.cells #[.int .i64 σ.k, .string σ.tx, .int .i64 σ.n, .int .i64 σ.ta] 84)
  have hX1 : Blk ((w.alloc (.cells #[.int .i64 0, .string ⟨#[]⟩, .int .i64 0, .int .i64 0, .string ⟨#[]⟩, .slice none 0 0, .slice none 0 0] 27)).alloc (.cells #[.int .i64 σ.k, .string σ.tx, .int .i64 σ.n, .int .i64 σ.ta] 84)) (w.heap.size + 1) 84 [.int .i64 σ.k, .string σ.tx, .int .i64 σ.n, .int .i64 σ.ta] := Blk.new' 84 _ (by simp)
  have zw1 : ((w.alloc (.cells #[.int .i64 0, .string ⟨#[]⟩, .int .i64 0, .int .i64 0, .string ⟨#[]⟩, .slice none 0 0, .slice none 0 0] 27)).alloc (.cells #[.int .i64 σ.k, .string σ.tx, .int .i64 σ.n, .int .i64 σ.ta] 84)).heap.size = w.heap.size + 2 := by simp
  have Z1 := Lib.hid zw1
  clear zw1
  go_enter Tryz.func67, Tryz.ntmps67
  go_wp2_with fail
  have hk0 := HK0.out
  cases h_2 : advS s σ with
  | error r =>
    have hq : Hid (atomS T s σ = .error r) := Lib.hid (by unfold atomS leafS; simp only [hk2, h_2])
    refine (adv_err h1 h_2).mono ?_
    rintro e w2 ⟨rfl, k2⟩
    go_wp2_with fail
    exact ⟨rfl, RPost.err hq.out ⟨rfl, K1.trans k2⟩⟩
  | ok σ2 =>
    have i_2 := inv_adv h1.le hk0 h_2
    refine (adv_ok h1 h_2).mono ?_
    rintro e w2 ⟨rfl, p2, k2⟩
    have hR_2 := hR1.kept k2 (by show ¬ w.heap.size = b; omega)
    have hX_2 := hX1.kept k2 (by show ¬ (w.heap.size + 1) = b; omega)
    have K2 := K1.trans k2
    have lb2 := p2.lt
    have zz2 := K2.size
    have zk2 := k2.size
    have lR2 := hR_2.lt
    have lX2 := hX_2.lt
    clear hk0
    have hq : Hid (atomS T s σ = .ok (.mk 19 nil0 σ.n ty0 [], σ2)) := Lib.hid (by unfold atomS leafS; simp only [hk2, h_2])
    have g0 : w2.cell? ⟨w.heap.size, 0, none⟩ = some (.int .i64 0) := hR_2.cell 0
    have f0 : w2.frozen? ⟨w.heap.size, 0, none⟩ = false := hR_2.frozen 0
    have g1 : w2.cell? ⟨w.heap.size, 1, none⟩ = some (.string ⟨#[]⟩) := hR_2.cell 1
    have f1 : w2.frozen? ⟨w.heap.size, 1, none⟩ = false := hR_2.frozen 1
    have g2 : w2.cell? ⟨w.heap.size, 2, none⟩ = some (.int .i64 0) := hR_2.cell 2
    have f2 : w2.frozen? ⟨w.heap.size, 2, none⟩ = false := hR_2.frozen 2
    have g3 : w2.cell? ⟨w.heap.size, 3, none⟩ = some (.int .i64 0) := hR_2.cell 3
    have f3 : w2.frozen? ⟨w.heap.size, 3, none⟩ = false := hR_2.frozen 3
    have g4 : w2.cell? ⟨w.heap.size, 4, none⟩ = some (.string ⟨#[]⟩) := hR_2.cell 4
    have f4 : w2.frozen? ⟨w.heap.size, 4, none⟩ = false := hR_2.frozen 4
    have g5 : w2.cell? ⟨w.heap.size, 5, none⟩ = some (.slice none 0 0) := hR_2.cell 5
    have f5 : w2.frozen? ⟨w.heap.size, 5, none⟩ = false := hR_2.frozen 5
    have g6 : w2.cell? ⟨w.heap.size, 6, none⟩ = some (.slice none 0 0) := hR_2.cell 6
    have f6 : w2.frozen? ⟨w.heap.size, 6, none⟩ = false := hR_2.frozen 6
    have l9 : w.heap.size < w2.heap.size := hR_2.lt
    have y2 : w2.cell? ⟨w.heap.size + 1, 2, none⟩ = some (.int .i64 σ.n) := hX_2.cell 2
    go_wp2_with fail
    refine ret_tm Tryz.results67 hq.out rfl rfl ((r7 hR_2 rfl)) ?_ ?_ ((p7w p2 (by omega) (by omega))) ((k7w K2 (Or.inr (Nat.le_refl _))))
    · exact .nil0
    · exact .nil0
set_option maxHeartbeats 4000000 in
theorem atom_word {b : Nat} {s : ByteArray} {f : Nat} {T : TF} {w : World} {σ : PS} (hT : TC b s f T) (hI : TInv s T) (h : PW w b s σ) (hf : 14 * mu s σ ≤ f) (hk2 : (σ.k == 2) = false) (hk1 : (σ.k == 1) = true) :
    Calls Tryz.prog 67 #[.pointer (some ⟨b, 0, none⟩)] w (RPost b s (VTm w.heap.size) (atomS T s σ) w) := by
  have hlt := h.lt
  have hgl := h.gl.lt
  have h0 := h.alloc (.cells #[.int .i64 0, .string ⟨#[]⟩, .int .i64 0, .int .i64 0, .string ⟨#[]⟩, .slice none 0 0, .slice none 0 0] 27)
  have hR0 : Blk (w.alloc (.cells #[.int .i64 0, .string ⟨#[]⟩, .int .i64 0, .int .i64 0, .string ⟨#[]⟩, .slice none 0 0, .slice none 0 0] 27)) w.heap.size 27 z27 := Blk.new w 27 z27
  have K0 : Kept (· = b) w (w.alloc (.cells #[.int .i64 0, .string ⟨#[]⟩, .int .i64 0, .int .i64 0, .string ⟨#[]⟩, .slice none 0 0, .slice none 0 0] 27)) := (Kept.refl _ _).alloc _
  have zw0 : (w.alloc (.cells #[.int .i64 0, .string ⟨#[]⟩, .int .i64 0, .int .i64 0, .string ⟨#[]⟩, .slice none 0 0, .slice none 0 0] 27)).heap.size = w.heap.size + 1 := by simp
  have Z0 := Lib.hid zw0
  clear zw0
  have c2 := h0.kd
  have c3 := h0.txt
  have c4 := h0.num
  have c5 := h0.tat
  have h1 := h0.alloc (.cells #[.int .i64 σ.k, .string σ.tx, .int .i64 σ.n, .int .i64 σ.ta] 84)
  have K1 := K0.alloc (.cells #[.int .i64 σ.k, .string σ.tx, .int .i64 σ.n, .int .i64 σ.ta] 84)
  have hR1 := hR0.alloc (.cells #[.int .i64 σ.k, .string σ.tx, .int .i64 σ.n, .int .i64 σ.ta] 84)
  have hX1 : Blk ((w.alloc (.cells #[.int .i64 0, .string ⟨#[]⟩, .int .i64 0, .int .i64 0, .string ⟨#[]⟩, .slice none 0 0, .slice none 0 0] 27)).alloc (.cells #[.int .i64 σ.k, .string σ.tx, .int .i64 σ.n, .int .i64 σ.ta] 84)) (w.heap.size + 1) 84 [.int .i64 σ.k, .string σ.tx, .int .i64 σ.n, .int .i64 σ.ta] := Blk.new' 84 _ (by simp)
  have zw1 : ((w.alloc (.cells #[.int .i64 0, .string ⟨#[]⟩, .int .i64 0, .int .i64 0, .string ⟨#[]⟩, .slice none 0 0, .slice none 0 0] 27)).alloc (.cells #[.int .i64 σ.k, .string σ.tx, .int .i64 σ.n, .int .i64 σ.ta] 84)).heap.size = w.heap.size + 2 := by simp
  have Z1 := Lib.hid zw1
  clear zw1
  go_enter Tryz.func67, Tryz.ntmps67
  go_wp2_with fail
  have zz1 := Z1.out
  have lo2 := h1.lt
  refine (worded_any hT hI h1 hf (by rw [eq_of_beq hk1]; decide)).mono ?_
  rintro e w2 hr
  cases h_2 : wordedS T s σ with
  | error r =>
    have hq : Hid (atomS T s σ = .error r) := Lib.hid (by unfold atomS; simp only [hk2, hk1, h_2])
    obtain ⟨rfl, k2⟩ := hr.getErr h_2
    clear hr
    go_wp2_with fail
    exact ⟨rfl, RPost.err hq.out ⟨rfl, K1.trans k2⟩⟩
  | ok q2 =>
    obtain ⟨t2, σ2⟩ := q2
    obtain ⟨v, rfl, ⟨tk2, kk2, rfl, at2, ct2⟩, p2, k2⟩ := hr.getOk h_2
    clear hr
    have j_2 := inv_worded hI h1.le (by rw [eq_of_beq hk1]; decide) h_2
    have i_2 := j_2.1
    try unfold Inv at i_2
    try unfold Inv1 at i_2
    obtain ⟨ta2, tn2, tc2, rfl⟩ := at2.slice
    obtain ⟨ma2, mn2, mc2, rfl⟩ := ct2.slice
    unfold tmVal
    have hR_2 := hR1.kept k2 (by show ¬ w.heap.size = b; omega)
    have hX_2 := hX1.kept k2 (by show ¬ (w.heap.size + 1) = b; omega)
    have K2 := K1.trans k2
    have lb2 := p2.lt
    have zz2 := K2.size
    have zk2 := k2.size
    have lR2 := hR_2.lt
    have lX2 := hX_2.lt
    have hq : Hid (atomS T s σ = .ok (t2, σ2)) := Lib.hid (by unfold atomS; simp only [hk2, hk1, h_2])
    have g0 : w2.cell? ⟨w.heap.size, 0, none⟩ = some (.int .i64 0) := hR_2.cell 0
    have f0 : w2.frozen? ⟨w.heap.size, 0, none⟩ = false := hR_2.frozen 0
    have g1 : w2.cell? ⟨w.heap.size, 1, none⟩ = some (.string ⟨#[]⟩) := hR_2.cell 1
    have f1 : w2.frozen? ⟨w.heap.size, 1, none⟩ = false := hR_2.frozen 1
    have g2 : w2.cell? ⟨w.heap.size, 2, none⟩ = some (.int .i64 0) := hR_2.cell 2
    have f2 : w2.frozen? ⟨w.heap.size, 2, none⟩ = false := hR_2.frozen 2
    have g3 : w2.cell? ⟨w.heap.size, 3, none⟩ = some (.int .i64 0) := hR_2.cell 3
    have f3 : w2.frozen? ⟨w.heap.size, 3, none⟩ = false := hR_2.frozen 3
    have g4 : w2.cell? ⟨w.heap.size, 4, none⟩ = some (.string ⟨#[]⟩) := hR_2.cell 4
    have f4 : w2.frozen? ⟨w.heap.size, 4, none⟩ = false := hR_2.frozen 4
    have g5 : w2.cell? ⟨w.heap.size, 5, none⟩ = some (.slice none 0 0) := hR_2.cell 5
    have f5 : w2.frozen? ⟨w.heap.size, 5, none⟩ = false := hR_2.frozen 5
    have g6 : w2.cell? ⟨w.heap.size, 6, none⟩ = some (.slice none 0 0) := hR_2.cell 6
    have f6 : w2.frozen? ⟨w.heap.size, 6, none⟩ = false := hR_2.frozen 6
    have l9 : w.heap.size < w2.heap.size := hR_2.lt
    clear zz1
    go_wp2_with fail
    have zz1 := Z1.out
    refine ret_tm Tryz.results67 hq.out rfl rfl ((r7 hR_2 rfl)) ?_ ?_ ((p7w p2 (by omega) (by omega))) ((k7w K2 (Or.inr (Nat.le_refl _))))
    · exact (at2.frame (same7 (R := w.heap.size) (by omega))).mono (fun k _ h => by omega)
    · exact (ct2.frame (same7 (R := w.heap.size) (by omega))).mono (fun k _ h => by omega)
set_option maxHeartbeats 4000000 in
theorem atom_par {b : Nat} {s : ByteArray} {f : Nat} {T : TF} {w : World} {σ : PS} (hT : TC b s f T) (hI : TInv s T) (h : PW w b s σ) (hf : 14 * mu s σ ≤ f) (hk2 : (σ.k == 2) = false) (hk1 : (σ.k == 1) = false) (hp : isS σ kLpar = true) :
    Calls Tryz.prog 67 #[.pointer (some ⟨b, 0, none⟩)] w (RPost b s (VTm w.heap.size) (atomS T s σ) w) := by
  have hlt := h.lt
  have hgl := h.gl.lt
  have h0 := h.alloc (.cells #[.int .i64 0, .string ⟨#[]⟩, .int .i64 0, .int .i64 0, .string ⟨#[]⟩, .slice none 0 0, .slice none 0 0] 27)
  have hR0 : Blk (w.alloc (.cells #[.int .i64 0, .string ⟨#[]⟩, .int .i64 0, .int .i64 0, .string ⟨#[]⟩, .slice none 0 0, .slice none 0 0] 27)) w.heap.size 27 z27 := Blk.new w 27 z27
  have K0 : Kept (· = b) w (w.alloc (.cells #[.int .i64 0, .string ⟨#[]⟩, .int .i64 0, .int .i64 0, .string ⟨#[]⟩, .slice none 0 0, .slice none 0 0] 27)) := (Kept.refl _ _).alloc _
  have zw0 : (w.alloc (.cells #[.int .i64 0, .string ⟨#[]⟩, .int .i64 0, .int .i64 0, .string ⟨#[]⟩, .slice none 0 0, .slice none 0 0] 27)).heap.size = w.heap.size + 1 := by simp
  have Z0 := Lib.hid zw0
  clear zw0
  have c2 := h0.kd
  have c3 := h0.txt
  have c4 := h0.num
  have c5 := h0.tat
  have h1 := h0.alloc (.cells #[.int .i64 σ.k, .string σ.tx, .int .i64 σ.n, .int .i64 σ.ta] 84)
  have K1 := K0.alloc (.cells #[.int .i64 σ.k, .string σ.tx, .int .i64 σ.n, .int .i64 σ.ta] 84)
  have hR1 := hR0.alloc (.cells #[.int .i64 σ.k, .string σ.tx, .int .i64 σ.n, .int .i64 σ.ta] 84)
  have hX1 : Blk ((w.alloc (.cells #[.int .i64 0, .string ⟨#[]⟩, .int .i64 0, .int .i64 0, .string ⟨#[]⟩, .slice none 0 0, .slice none 0 0] 27)).alloc (.cells #[.int .i64 σ.k, .string σ.tx, .int .i64 σ.n, .int .i64 σ.ta] 84)) (w.heap.size + 1) 84 [.int .i64 σ.k, .string σ.tx, .int .i64 σ.n, .int .i64 σ.ta] := Blk.new' 84 _ (by simp)
  have zw1 : ((w.alloc (.cells #[.int .i64 0, .string ⟨#[]⟩, .int .i64 0, .int .i64 0, .string ⟨#[]⟩, .slice none 0 0, .slice none 0 0] 27)).alloc (.cells #[.int .i64 σ.k, .string σ.tx, .int .i64 σ.n, .int .i64 σ.ta] 84)).heap.size = w.heap.size + 2 := by simp
  have Z1 := Lib.hid zw1
  clear zw1
  go_enter Tryz.func67, Tryz.ntmps67
  go_wp2_with fail
  refine (is_any h1 kLpar hp).mono ?_
  rintro e w' ⟨rfl, rfl⟩
  go_wp2_with fail
  have zz1 := Z1.out
  have lo2 := h1.lt
  refine (inside_any hT hI h1 hf kLpar kRpar).mono ?_
  rintro e w2 hr
  cases h_2 : insideS T s kLpar kRpar σ with
  | error r =>
    have hq : Hid (atomS T s σ = .error r) := Lib.hid (by unfold atomS; simp only [hk2, hk1, hp, h_2])
    obtain ⟨rfl, k2⟩ := hr.getErr h_2
    clear hr
    go_wp2_with fail
    exact ⟨rfl, RPost.err hq.out ⟨rfl, K1.trans k2⟩⟩
  | ok q2 =>
    obtain ⟨t2, σ2⟩ := q2
    obtain ⟨v, rfl, ⟨tk2, kk2, rfl, at2, ct2⟩, p2, k2⟩ := hr.getOk h_2
    clear hr
    have j_2 := inv_inside hI h1.le h_2
    have i_2 := j_2.1
    try unfold Inv at i_2
    try unfold Inv1 at i_2
    obtain ⟨ta2, tn2, tc2, rfl⟩ := at2.slice
    obtain ⟨ma2, mn2, mc2, rfl⟩ := ct2.slice
    unfold tmVal
    have hR_2 := hR1.kept k2 (by show ¬ w.heap.size = b; omega)
    have hX_2 := hX1.kept k2 (by show ¬ (w.heap.size + 1) = b; omega)
    have K2 := K1.trans k2
    have lb2 := p2.lt
    have zz2 := K2.size
    have zk2 := k2.size
    have lR2 := hR_2.lt
    have lX2 := hX_2.lt
    have hq : Hid (atomS T s σ = .ok (t2, σ2)) := Lib.hid (by unfold atomS; simp only [hk2, hk1, hp, h_2])
    have g0 : w2.cell? ⟨w.heap.size, 0, none⟩ = some (.int .i64 0) := hR_2.cell 0
    have f0 : w2.frozen? ⟨w.heap.size, 0, none⟩ = false := hR_2.frozen 0
    have g1 : w2.cell? ⟨w.heap.size, 1, none⟩ = some (.string ⟨#[]⟩) := hR_2.cell 1
    have f1 : w2.frozen? ⟨w.heap.size, 1, none⟩ = false := hR_2.frozen 1
    have g2 : w2.cell? ⟨w.heap.size, 2, none⟩ = some (.int .i64 0) := hR_2.cell 2
    have f2 : w2.frozen? ⟨w.heap.size, 2, none⟩ = false := hR_2.frozen 2
    have g3 : w2.cell? ⟨w.heap.size, 3, none⟩ = some (.int .i64 0) := hR_2.cell 3
    have f3 : w2.frozen? ⟨w.heap.size, 3, none⟩ = false := hR_2.frozen 3
    have g4 : w2.cell? ⟨w.heap.size, 4, none⟩ = some (.string ⟨#[]⟩) := hR_2.cell 4
    have f4 : w2.frozen? ⟨w.heap.size, 4, none⟩ = false := hR_2.frozen 4
    have g5 : w2.cell? ⟨w.heap.size, 5, none⟩ = some (.slice none 0 0) := hR_2.cell 5
    have f5 : w2.frozen? ⟨w.heap.size, 5, none⟩ = false := hR_2.frozen 5
    have g6 : w2.cell? ⟨w.heap.size, 6, none⟩ = some (.slice none 0 0) := hR_2.cell 6
    have f6 : w2.frozen? ⟨w.heap.size, 6, none⟩ = false := hR_2.frozen 6
    have l9 : w.heap.size < w2.heap.size := hR_2.lt
    clear zz1
    go_wp2_with fail
    have zz1 := Z1.out
    refine ret_tm Tryz.results67 hq.out rfl rfl ((r7 hR_2 rfl)) ?_ ?_ ((p7w p2 (by omega) (by omega))) ((k7w K2 (Or.inr (Nat.le_refl _))))
    · exact (at2.frame (same7 (R := w.heap.size) (by omega))).mono (fun k _ h => by omega)
    · exact (ct2.frame (same7 (R := w.heap.size) (by omega))).mono (fun k _ h => by omega)
set_option maxHeartbeats 4000000 in
theorem atom_cur {b : Nat} {s : ByteArray} {f : Nat} {T : TF} {w : World} {σ : PS} (hT : TC b s f T) (hI : TInv s T) (h : PW w b s σ) (hf : 14 * mu s σ ≤ f) (hS : TSm 65536 s T) (hk2 : (σ.k == 2) = false) (hk1 : (σ.k == 1) = false) (hp : isS σ kLpar = false) (hc : isS σ kLcu = true) :
    Calls Tryz.prog 67 #[.pointer (some ⟨b, 0, none⟩)] w (RPost b s (VTm w.heap.size) (atomS T s σ) w) := by
  have hlt := h.lt
  have hgl := h.gl.lt
  have h0 := h.alloc (.cells #[.int .i64 0, .string ⟨#[]⟩, .int .i64 0, .int .i64 0, .string ⟨#[]⟩, .slice none 0 0, .slice none 0 0] 27)
  have hR0 : Blk (w.alloc (.cells #[.int .i64 0, .string ⟨#[]⟩, .int .i64 0, .int .i64 0, .string ⟨#[]⟩, .slice none 0 0, .slice none 0 0] 27)) w.heap.size 27 z27 := Blk.new w 27 z27
  have K0 : Kept (· = b) w (w.alloc (.cells #[.int .i64 0, .string ⟨#[]⟩, .int .i64 0, .int .i64 0, .string ⟨#[]⟩, .slice none 0 0, .slice none 0 0] 27)) := (Kept.refl _ _).alloc _
  have zw0 : (w.alloc (.cells #[.int .i64 0, .string ⟨#[]⟩, .int .i64 0, .int .i64 0, .string ⟨#[]⟩, .slice none 0 0, .slice none 0 0] 27)).heap.size = w.heap.size + 1 := by simp
  have Z0 := Lib.hid zw0
  clear zw0
  have c2 := h0.kd
  have c3 := h0.txt
  have c4 := h0.num
  have c5 := h0.tat
  have h1 := h0.alloc (.cells #[.int .i64 σ.k, .string σ.tx, .int .i64 σ.n, .int .i64 σ.ta] 84)
  have K1 := K0.alloc (.cells #[.int .i64 σ.k, .string σ.tx, .int .i64 σ.n, .int .i64 σ.ta] 84)
  have hR1 := hR0.alloc (.cells #[.int .i64 σ.k, .string σ.tx, .int .i64 σ.n, .int .i64 σ.ta] 84)
  have hX1 : Blk ((w.alloc (.cells #[.int .i64 0, .string ⟨#[]⟩, .int .i64 0, .int .i64 0, .string ⟨#[]⟩, .slice none 0 0, .slice none 0 0] 27)).alloc (.cells #[.int .i64 σ.k, .string σ.tx, .int .i64 σ.n, .int .i64 σ.ta] 84)) (w.heap.size + 1) 84 [.int .i64 σ.k, .string σ.tx, .int .i64 σ.n, .int .i64 σ.ta] := Blk.new' 84 _ (by simp)
  have zw1 : ((w.alloc (.cells #[.int .i64 0, .string ⟨#[]⟩, .int .i64 0, .int .i64 0, .string ⟨#[]⟩, .slice none 0 0, .slice none 0 0] 27)).alloc (.cells #[.int .i64 σ.k, .string σ.tx, .int .i64 σ.n, .int .i64 σ.ta] 84)).heap.size = w.heap.size + 2 := by simp
  have Z1 := Lib.hid zw1
  clear zw1
  go_enter Tryz.func67, Tryz.ntmps67
  go_wp2_with fail
  refine (is_any h1 kLpar hp).mono ?_
  rintro e w' ⟨rfl, rfl⟩
  go_wp2_with fail
  refine (is_any h1 kLcu hc).mono ?_
  rintro e w' ⟨rfl, rfl⟩
  go_wp2_with fail
  have zz1 := Z1.out
  have lo2 := h1.lt
  refine (braces_any hT hI h1 hf hS).mono ?_
  rintro e w2 hr
  cases h_2 : bracesS T s σ with
  | error r =>
    have hq : Hid (atomS T s σ = .error r) := Lib.hid (by unfold atomS; simp only [hk2, hk1, hp, hc, h_2])
    obtain ⟨rfl, k2⟩ := hr.getErr h_2
    clear hr
    go_wp2_with fail
    exact ⟨rfl, RPost.err hq.out ⟨rfl, K1.trans k2⟩⟩
  | ok q2 =>
    obtain ⟨t2, σ2⟩ := q2
    obtain ⟨v, rfl, ⟨tk2, kk2, rfl, at2, ct2⟩, p2, k2⟩ := hr.getOk h_2
    clear hr
    have j_2 := inv_braces hI h1.le h_2
    have i_2 := j_2.1
    try unfold Inv at i_2
    try unfold Inv1 at i_2
    obtain ⟨ta2, tn2, tc2, rfl⟩ := at2.slice
    obtain ⟨ma2, mn2, mc2, rfl⟩ := ct2.slice
    unfold tmVal
    have hR_2 := hR1.kept k2 (by show ¬ w.heap.size = b; omega)
    have hX_2 := hX1.kept k2 (by show ¬ (w.heap.size + 1) = b; omega)
    have K2 := K1.trans k2
    have lb2 := p2.lt
    have zz2 := K2.size
    have zk2 := k2.size
    have lR2 := hR_2.lt
    have lX2 := hX_2.lt
    have hq : Hid (atomS T s σ = .ok (t2, σ2)) := Lib.hid (by unfold atomS; simp only [hk2, hk1, hp, hc, h_2])
    have g0 : w2.cell? ⟨w.heap.size, 0, none⟩ = some (.int .i64 0) := hR_2.cell 0
    have f0 : w2.frozen? ⟨w.heap.size, 0, none⟩ = false := hR_2.frozen 0
    have g1 : w2.cell? ⟨w.heap.size, 1, none⟩ = some (.string ⟨#[]⟩) := hR_2.cell 1
    have f1 : w2.frozen? ⟨w.heap.size, 1, none⟩ = false := hR_2.frozen 1
    have g2 : w2.cell? ⟨w.heap.size, 2, none⟩ = some (.int .i64 0) := hR_2.cell 2
    have f2 : w2.frozen? ⟨w.heap.size, 2, none⟩ = false := hR_2.frozen 2
    have g3 : w2.cell? ⟨w.heap.size, 3, none⟩ = some (.int .i64 0) := hR_2.cell 3
    have f3 : w2.frozen? ⟨w.heap.size, 3, none⟩ = false := hR_2.frozen 3
    have g4 : w2.cell? ⟨w.heap.size, 4, none⟩ = some (.string ⟨#[]⟩) := hR_2.cell 4
    have f4 : w2.frozen? ⟨w.heap.size, 4, none⟩ = false := hR_2.frozen 4
    have g5 : w2.cell? ⟨w.heap.size, 5, none⟩ = some (.slice none 0 0) := hR_2.cell 5
    have f5 : w2.frozen? ⟨w.heap.size, 5, none⟩ = false := hR_2.frozen 5
    have g6 : w2.cell? ⟨w.heap.size, 6, none⟩ = some (.slice none 0 0) := hR_2.cell 6
    have f6 : w2.frozen? ⟨w.heap.size, 6, none⟩ = false := hR_2.frozen 6
    have l9 : w.heap.size < w2.heap.size := hR_2.lt
    clear zz1
    go_wp2_with fail
    have zz1 := Z1.out
    refine ret_tm Tryz.results67 hq.out rfl rfl ((r7 hR_2 rfl)) ?_ ?_ ((p7w p2 (by omega) (by omega))) ((k7w K2 (Or.inr (Nat.le_refl _))))
    · exact (at2.frame (same7 (R := w.heap.size) (by omega))).mono (fun k _ h => by omega)
    · exact (ct2.frame (same7 (R := w.heap.size) (by omega))).mono (fun k _ h => by omega)
set_option maxHeartbeats 4000000 in
theorem atom_none {b : Nat} {s : ByteArray} {f : Nat} {T : TF} {w : World} {σ : PS} (hT : TC b s f T) (hI : TInv s T) (h : PW w b s σ) (hf : 14 * mu s σ ≤ f) (hk2 : (σ.k == 2) = false) (hk1 : (σ.k == 1) = false) (hp : isS σ kLpar = false) (hc : isS σ kLcu = false) :
    Calls Tryz.prog 67 #[.pointer (some ⟨b, 0, none⟩)] w (RPost b s (VTm w.heap.size) (atomS T s σ) w) := by
  have hlt := h.lt
  have hgl := h.gl.lt
  have h0 := h.alloc (.cells #[.int .i64 0, .string ⟨#[]⟩, .int .i64 0, .int .i64 0, .string ⟨#[]⟩, .slice none 0 0, .slice none 0 0] 27)
  have hR0 : Blk (w.alloc (.cells #[.int .i64 0, .string ⟨#[]⟩, .int .i64 0, .int .i64 0, .string ⟨#[]⟩, .slice none 0 0, .slice none 0 0] 27)) w.heap.size 27 z27 := Blk.new w 27 z27
  have K0 : Kept (· = b) w (w.alloc (.cells #[.int .i64 0, .string ⟨#[]⟩, .int .i64 0, .int .i64 0, .string ⟨#[]⟩, .slice none 0 0, .slice none 0 0] 27)) := (Kept.refl _ _).alloc _
  have zw0 : (w.alloc (.cells #[.int .i64 0, .string ⟨#[]⟩, .int .i64 0, .int .i64 0, .string ⟨#[]⟩, .slice none 0 0, .slice none 0 0] 27)).heap.size = w.heap.size + 1 := by simp
  have Z0 := Lib.hid zw0
  clear zw0
  have c2 := h0.kd
  have c3 := h0.txt
  have c4 := h0.num
  have c5 := h0.tat
  have h1 := h0.alloc (.cells #[.int .i64 σ.k, .string σ.tx, .int .i64 σ.n, .int .i64 σ.ta] 84)
  have K1 := K0.alloc (.cells #[.int .i64 σ.k, .string σ.tx, .int .i64 σ.n, .int .i64 σ.ta] 84)
  have hR1 := hR0.alloc (.cells #[.int .i64 σ.k, .string σ.tx, .int .i64 σ.n, .int .i64 σ.ta] 84)
  have hX1 : Blk ((w.alloc (.cells #[.int .i64 0, .string ⟨#[]⟩, .int .i64 0, .int .i64 0, .string ⟨#[]⟩, .slice none 0 0, .slice none 0 0] 27)).alloc (.cells #[.int .i64 σ.k, .string σ.tx, .int .i64 σ.n, .int .i64 σ.ta] 84)) (w.heap.size + 1) 84 [.int .i64 σ.k, .string σ.tx, .int .i64 σ.n, .int .i64 σ.ta] := Blk.new' 84 _ (by simp)
  have zw1 : ((w.alloc (.cells #[.int .i64 0, .string ⟨#[]⟩, .int .i64 0, .int .i64 0, .string ⟨#[]⟩, .slice none 0 0, .slice none 0 0] 27)).alloc (.cells #[.int .i64 σ.k, .string σ.tx, .int .i64 σ.n, .int .i64 σ.ta] 84)).heap.size = w.heap.size + 2 := by simp
  have Z1 := Lib.hid zw1
  clear zw1
  go_enter Tryz.func67, Tryz.ntmps67
  go_wp2_with fail
  refine (is_any h1 kLpar hp).mono ?_
  rintro e w' ⟨rfl, rfl⟩
  go_wp2_with fail
  refine (is_any h1 kLcu hc).mono ?_
  rintro e w' ⟨rfl, rfl⟩
  go_wp2_with fail
  have hq : Hid (atomS T s σ = .error (false, σ.ta)) := Lib.hid (by unfold atomS; simp only [hk2, hk1, hp, hc])
  refine (fail_any h1).mono ?_
  rintro e w' ⟨rfl, rfl⟩
  go_wp2_with fail
  exact ⟨rfl, RPost.err hq.out ⟨rfl, K1⟩⟩
theorem atom_any {b : Nat} {s : ByteArray} {f : Nat} {T : TF} {w : World} {σ : PS} (hT : TC b s f T) (hI : TInv s T) (h : PW w b s σ) (hf : 14 * mu s σ ≤ f) (hS : TSm 65536 s T) :
    Calls Tryz.prog 67 #[.pointer (some ⟨b, 0, none⟩)] w (RPost b s (VTm w.heap.size) (atomS T s σ) w) := by
  cases hk2 : (σ.k == 2)
  case true => exact atom_num hT hI h hf hk2
  cases hk1 : (σ.k == 1)
  case true => exact atom_word hT hI h hf hk2 hk1
  cases hp : isS σ kLpar
  case true => exact atom_par hT hI h hf hk2 hk1 hp
  cases hc : isS σ kLcu
  case true => exact atom_cur hT hI h hf hS hk2 hk1 hp hc
  exact atom_none hT hI h hf hk2 hk1 hp hc
end Go.Proofs.YtckjlliobebodaaGreatDoor
