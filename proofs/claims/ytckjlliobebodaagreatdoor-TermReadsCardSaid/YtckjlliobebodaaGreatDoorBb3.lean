/- Texts Brac Worded Atom of this proof, in one. -/
import Derived.Test.YtckjlliobebodaaGreatDoorBb2
set_option linter.unusedVariables false
set_option linter.unusedSimpArgs false
namespace Go.Proofs.YtckjlliobebodaaGreatDoor
open Go.RowKit
set_option maxHeartbeats 4000000 in
theorem braces_err {b : Nat} {s : ByteArray} {f : Nat} {T : TF} {w : World} {σ : PS} (hT : TC b s f T) (hI : TInv s T) (h : PW w b s σ) (hf : 14 * mu s σ ≤ f) {r : ER} (h_1 : openS s σ kLcu = .error r) :
    Calls Tryz.prog 119 #[.pointer (some ⟨b, 0, none⟩)] w (RPost b s (VTm w.heap.size) (bracesS T s σ) w) := by
  have hlt := h.lt
  have hgl := h.gl.lt
  have h0 := h.alloc (.cells #[.int .i64 0, .string ⟨#[]⟩, .int .i64 0, .int .i64 0, .string ⟨#[]⟩, .slice none 0 0, .slice none 0 0] 27)
  have hR0 : Blk (w.alloc (.cells #[.int .i64 0, .string ⟨#[]⟩, .int .i64 0, .int .i64 0, .string ⟨#[]⟩, .slice none 0 0, .slice none 0 0] 27)) w.heap.size 27 z27 := Blk.new w 27 z27
  have K0 : Kept (· = b) w (w.alloc (.cells #[.int .i64 0, .string ⟨#[]⟩, .int .i64 0, .int .i64 0, .string ⟨#[]⟩, .slice none 0 0, .slice none 0 0] 27)) := (Kept.refl _ _).alloc _
  have zw0 : (w.alloc (.cells #[.int .i64 0, .string ⟨#[]⟩, .int .i64 0, .int .i64 0, .string ⟨#[]⟩, .slice none 0 0, .slice none 0 0] 27)).heap.size = w.heap.size + 1 := by simp
  have Z0 := Lib.hid zw0
  clear zw0
  go_enter Tryz.func119, Tryz.ntmps119
  go_wp2_with fail
  have hq : Hid (bracesS T s σ = .error r) := Lib.hid (by unfold bracesS; simp only [h_1])
  refine (open_err h0 kLcu h_1).mono ?_
  rintro e w1 ⟨rfl, k1⟩
  go_wp2_with fail
  exact ⟨rfl, RPost.err hq.out ⟨rfl, K0.trans k1⟩⟩
set_option maxHeartbeats 4000000 in
theorem braces_empty {b : Nat} {s : ByteArray} {f : Nat} {T : TF} {w : World} {σ : PS} (hT : TC b s f T) (hI : TInv s T) (h : PW w b s σ) (hf : 14 * mu s σ ≤ f) {σ1 : PS} (h_1 : openS s σ kLcu = .ok σ1) (hi : isS σ1 kRcu = true) :
    Calls Tryz.prog 119 #[.pointer (some ⟨b, 0, none⟩)] w (RPost b s (VTm w.heap.size) (bracesS T s σ) w) := by
  have hlt := h.lt
  have hgl := h.gl.lt
  have h0 := h.alloc (.cells #[.int .i64 0, .string ⟨#[]⟩, .int .i64 0, .int .i64 0, .string ⟨#[]⟩, .slice none 0 0, .slice none 0 0] 27)
  have hR0 : Blk (w.alloc (.cells #[.int .i64 0, .string ⟨#[]⟩, .int .i64 0, .int .i64 0, .string ⟨#[]⟩, .slice none 0 0, .slice none 0 0] 27)) w.heap.size 27 z27 := Blk.new w 27 z27
  have K0 : Kept (· = b) w (w.alloc (.cells #[.int .i64 0, .string ⟨#[]⟩, .int .i64 0, .int .i64 0, .string ⟨#[]⟩, .slice none 0 0, .slice none 0 0] 27)) := (Kept.refl _ _).alloc _
  have zw0 : (w.alloc (.cells #[.int .i64 0, .string ⟨#[]⟩, .int .i64 0, .int .i64 0, .string ⟨#[]⟩, .slice none 0 0, .slice none 0 0] 27)).heap.size = w.heap.size + 1 := by simp
  have Z0 := Lib.hid zw0
  clear zw0
  go_enter Tryz.func119, Tryz.ntmps119
  go_wp2_with fail
  have i_1 := inv_open h0.le h_1
  refine (open_ok h0 kLcu h_1).mono ?_
  rintro e w1 ⟨rfl, p1, k1⟩
  have hR_1 := hR0.kept k1 (by show ¬ w.heap.size = b; omega)
  have K1 := K0.trans k1
  have lb1 := p1.lt
  have zz1 := K1.size
  have zk1 := k1.size
  have lR1 := hR_1.lt
  go_wp2_with fail
  cases h_2 : advS s σ1 with
  | error r =>
    have hq : Hid (bracesS T s σ = .error r) := Lib.hid (by unfold bracesS; simp only [h_1, hi, h_2])
    refine (eat_bad p1 kRcu hi h_2).mono ?_
    rintro e w2 ⟨rfl, k2⟩
    go_wp2_with fail
    exact ⟨rfl, RPost.err hq.out ⟨rfl, K1.trans k2⟩⟩
  | ok σ2 =>
    have i_2 := inv_adv p1.le (isS_ne hi) h_2
    refine (eat_yes p1 kRcu hi h_2).mono ?_
    rintro e w2 ⟨rfl, p2, k2⟩
    have hR_2 := hR_1.kept k2 (by show ¬ w.heap.size = b; omega)
    have K2 := K1.trans k2
    have lb2 := p2.lt
    have zz2 := K2.size
    have zk2 := k2.size
    have lR2 := hR_2.lt
    have c6 := p2.nst
    have f6 := p2.nfr
    have hle := p2.nest
    have hn2 : 1 ≤ σ2.nest := by omega
    have hN := p2.nested (σ2.nest - 1) (by omega)
    rw [show ((σ2.nest - 1 : Nat) : Int) = (σ2.nest : Int) - 1 by omega] at hN
    have KN := K2.setCell (p := ⟨b, 6, none⟩) (Or.inl rfl) (.int .i64 ((σ2.nest : Int) - 1))
    have hRN := hR_2.set_other ⟨b, 6, none⟩ (.int .i64 ((σ2.nest : Int) - 1)) (by show w.heap.size ≠ b; omega)
    have J1 := Lib.hid i_1
    have J2 := Lib.hid i_2
    clear i_1 i_2
    go_wp2_with fail
    have i_1 := J1.out
    have i_2 := J2.out
    have nn : ({ σ2 with nest := σ2.nest - 1 } : PS).nest = σ2.nest - 1 := rfl
    have mn : mu s ({ σ2 with nest := σ2.nest - 1 } : PS) = mu s σ2 := rfl
    cases h_3 : openS s ({ σ2 with nest := σ2.nest - 1 } : PS) kLbr with
    | error r =>
      have hq : Hid (bracesS T s σ = .error r) := Lib.hid (by unfold bracesS; simp only [h_1, hi, h_2, h_3])
      refine (open_err hN kLbr h_3).mono ?_
      rintro e w3 ⟨rfl, k3⟩
      go_wp2_with fail
      exact ⟨rfl, RPost.err hq.out ⟨rfl, KN.trans k3⟩⟩
    | ok σ3 =>
      have i_3 := inv_open hN.le h_3
      refine (open_ok hN kLbr h_3).mono ?_
      rintro e w3 ⟨rfl, p3, k3⟩
      have hR_3 := hRN.kept k3 (by show ¬ w.heap.size = b; omega)
      have K3 := KN.trans k3
      have lb3 := p3.lt
      have zz3 := K3.size
      have zk3 := k3.size
      have lR3 := hR_3.lt
      go_wp2_with fail
      have lo4 := p3.lt
      refine (typed_any (s.size + 2) σ3 _ p3 (by have := mu_le s σ3; omega)).mono ?_
      rintro e w4 hr
      cases h_4 : typedS (s.size + 2) s σ3 with
      | error r =>
        have hq : Hid (bracesS T s σ = .error r) := Lib.hid (by unfold bracesS; simp only [h_1, hi, h_2, h_3, h_4])
        obtain ⟨rfl, k4⟩ := hr.getErr h_4
        clear hr
        go_wp2_with fail
        exact ⟨rfl, RPost.err hq.out ⟨rfl, K3.trans k4⟩⟩
      | ok q4 =>
        obtain ⟨t4, σ4⟩ := q4
        obtain ⟨v, rfl, ⟨tk4, rfl, at4⟩, p4, k4⟩ := hr.getOk h_4
        clear hr
        have i_4 := typed_mu _ p3.le h_4
        have n_4 := typed_nest _ h_4
        obtain ⟨ta4, tn4, tc4, rfl⟩ := at4.slice
        unfold tyVal
        have hR_4 := hR_3.kept k4 (by show ¬ w.heap.size = b; omega)
        have K4 := K3.trans k4
        have lb4 := p4.lt
        have zz4 := K4.size
        have zk4 := k4.size
        have lR4 := hR_4.lt
        have h0_4 := p4.alloc (.cells #[.int .i64 t4.kind, .string t4.name, .slice ta4 tn4 tc4] 24)
        have K0_4 := K4.alloc (.cells #[.int .i64 t4.kind, .string t4.name, .slice ta4 tn4 tc4] 24)
        have hxR_4 := hR_4.alloc (.cells #[.int .i64 t4.kind, .string t4.name, .slice ta4 tn4 tc4] 24)
        have hLt4 : Blk (w4.alloc (.cells #[.int .i64 t4.kind, .string t4.name, .slice ta4 tn4 tc4] 24)) w4.heap.size 24 [.int .i64 t4.kind, .string t4.name, .slice ta4 tn4 tc4] := Blk.new w4 24 _
        have axt4 := at4.frame (Same.alloc _ (.cells #[.int .i64 t4.kind, .string t4.name, .slice ta4 tn4 tc4] 24))
        go_wp2_with fail
        cases h_5 : shutS s σ4 kRbr with
        | error r =>
          have hq : Hid (bracesS T s σ = .error r) := Lib.hid (by unfold bracesS; simp only [h_1, hi, h_2, h_3, h_4, h_5])
          refine (shut_err h0_4 kRbr h_5).mono ?_
          rintro e w5 ⟨rfl, k5⟩
          go_wp2_with fail
          exact ⟨rfl, RPost.err hq.out ⟨rfl, K0_4.trans k5⟩⟩
        | ok σ5 =>
          have i_5 := inv_shut h0_4.le h_5
          have HN5 := Lib.hid (show 1 ≤ σ4.nest by omega)
          refine (shut_ok h0_4 (HN5).out kRbr h_5).mono ?_
          rintro e w5 ⟨rfl, p5, k5⟩
          have hR_5 := hxR_4.kept k5 (by show ¬ w.heap.size = b; omega)
          have hXt4_5 := hLt4.kept k5 (by show ¬ w4.heap.size = b; omega)
          have at4_5 := axt4.frame (Same.of_kept k5 (fun k h e => by omega))
          have K5 := K0_4.trans k5
          have lb5 := p5.lt
          have zz5 := K5.size
          have zk5 := k5.size
          have lR5 := hR_5.lt
          have lXt45 := hXt4_5.lt
          have hq : Hid (bracesS T s σ = .ok (.mk 29 nil0 0 t4 [], σ5)) := Lib.hid (by unfold bracesS; simp only [h_1, hi, h_2, h_3, h_4, h_5])
          have g0 : w5.cell? ⟨w.heap.size, 0, none⟩ = some (.int .i64 0) := hR_5.cell 0
          have f0 : w5.frozen? ⟨w.heap.size, 0, none⟩ = false := hR_5.frozen 0
          have g1 : w5.cell? ⟨w.heap.size, 1, none⟩ = some (.string ⟨#[]⟩) := hR_5.cell 1
          have f1 : w5.frozen? ⟨w.heap.size, 1, none⟩ = false := hR_5.frozen 1
          have g2 : w5.cell? ⟨w.heap.size, 2, none⟩ = some (.int .i64 0) := hR_5.cell 2
          have f2 : w5.frozen? ⟨w.heap.size, 2, none⟩ = false := hR_5.frozen 2
          have g3 : w5.cell? ⟨w.heap.size, 3, none⟩ = some (.int .i64 0) := hR_5.cell 3
          have f3 : w5.frozen? ⟨w.heap.size, 3, none⟩ = false := hR_5.frozen 3
          have g4 : w5.cell? ⟨w.heap.size, 4, none⟩ = some (.string ⟨#[]⟩) := hR_5.cell 4
          have f4 : w5.frozen? ⟨w.heap.size, 4, none⟩ = false := hR_5.frozen 4
          have g5 : w5.cell? ⟨w.heap.size, 5, none⟩ = some (.slice none 0 0) := hR_5.cell 5
          have f5 : w5.frozen? ⟨w.heap.size, 5, none⟩ = false := hR_5.frozen 5
          have g6 : w5.cell? ⟨w.heap.size, 6, none⟩ = some (.slice none 0 0) := hR_5.cell 6
          have f6 : w5.frozen? ⟨w.heap.size, 6, none⟩ = false := hR_5.frozen 6
          have l9 : w.heap.size < w5.heap.size := hR_5.lt
          have y0 : w5.cell? ⟨w4.heap.size, 0, none⟩ = some (.int .i64 t4.kind) := hXt4_5.cell 0
          have y1 : w5.cell? ⟨w4.heap.size, 1, none⟩ = some (.string t4.name) := hXt4_5.cell 1
          have y2 : w5.cell? ⟨w4.heap.size, 2, none⟩ = some (.slice ta4 tn4 tc4) := hXt4_5.cell 2
          go_wp2_with fail
          refine ret_tm Tryz.results119 hq.out rfl rfl ((r7 hR_5 rfl)) ?_ ?_ ((p7w p5 (by omega) (by omega))) ((k7w K5 (Or.inr (Nat.le_refl _))))
          · exact (at4_5.frame (same7 (R := w.heap.size) (by omega))).mono (fun k _ h => by omega)
          · exact .nil0
set_option maxHeartbeats 4000000 in
theorem braces_full {b : Nat} {s : ByteArray} {f : Nat} {T : TF} {w : World} {σ : PS} (hT : TC b s f T) (hI : TInv s T) (h : PW w b s σ) (hf : 14 * mu s σ ≤ f) (hS : TSm 65536 s T) {σ1 : PS} (h_1 : openS s σ kLcu = .ok σ1) (hi : isS σ1 kRcu = false) {bare : Bool} (hb : (σ1.k == 1) = bare) :
    Calls Tryz.prog 119 #[.pointer (some ⟨b, 0, none⟩)] w (RPost b s (VTm w.heap.size) (bracesS T s σ) w) := by
  have HS := Lib.hid hS
  clear hS
  have hlt := h.lt
  have hgl := h.gl.lt
  have h0 := h.alloc (.cells #[.int .i64 0, .string ⟨#[]⟩, .int .i64 0, .int .i64 0, .string ⟨#[]⟩, .slice none 0 0, .slice none 0 0] 27)
  have hR0 : Blk (w.alloc (.cells #[.int .i64 0, .string ⟨#[]⟩, .int .i64 0, .int .i64 0, .string ⟨#[]⟩, .slice none 0 0, .slice none 0 0] 27)) w.heap.size 27 z27 := Blk.new w 27 z27
  have K0 : Kept (· = b) w (w.alloc (.cells #[.int .i64 0, .string ⟨#[]⟩, .int .i64 0, .int .i64 0, .string ⟨#[]⟩, .slice none 0 0, .slice none 0 0] 27)) := (Kept.refl _ _).alloc _
  have zw0 : (w.alloc (.cells #[.int .i64 0, .string ⟨#[]⟩, .int .i64 0, .int .i64 0, .string ⟨#[]⟩, .slice none 0 0, .slice none 0 0] 27)).heap.size = w.heap.size + 1 := by simp
  have Z0 := Lib.hid zw0
  clear zw0
  go_enter Tryz.func119, Tryz.ntmps119
  go_wp2_with fail
  have i_1 := inv_open h0.le h_1
  refine (open_ok h0 kLcu h_1).mono ?_
  rintro e w1 ⟨rfl, p1, k1⟩
  have hR_1 := hR0.kept k1 (by show ¬ w.heap.size = b; omega)
  have K1 := K0.trans k1
  have lb1 := p1.lt
  have zz1 := K1.size
  have zk1 := k1.size
  have lR1 := hR_1.lt
  go_wp2_with fail
  refine (eat_no p1 kRcu hi).mono ?_
  rintro e w' ⟨rfl, rfl⟩
  have c2 := p1.kd
  go_wp2_with fail
  have lo2 := p1.lt
  refine (hT 1 1 rfl σ1 _ (by decide) (by decide) p1 (by omega)).mono ?_
  rintro e w2 hr
  cases h_2 : T 1 σ1 with
  | error r =>
    have hq : Hid (bracesS T s σ = .error r) := Lib.hid (by unfold bracesS; simp only [h_1, hi, hb, h_2])
    obtain ⟨rfl, k2⟩ := hr.getErr h_2
    clear hr
    go_wp2_with fail
    exact ⟨rfl, RPost.err hq.out ⟨rfl, K1.trans k2⟩⟩
  | ok q2 =>
    obtain ⟨t2, σ2⟩ := q2
    obtain ⟨v, rfl, ⟨tk2, kk2, rfl, at2, ct2⟩, p2, k2⟩ := hr.getOk h_2
    clear hr
    have j_2 := hI _ _ _ _ p1.le h_2
    have i_2 := j_2.1
    try unfold Inv at i_2
    try unfold Inv1 at i_2
    obtain ⟨ta2, tn2, tc2, rfl⟩ := at2.slice
    obtain ⟨ma2, mn2, mc2, rfl⟩ := ct2.slice
    unfold tmVal
    have hR_2 := hR_1.kept k2 (by show ¬ w.heap.size = b; omega)
    have K2 := K1.trans k2
    have lb2 := p2.lt
    have zz2 := K2.size
    have zk2 := k2.size
    have lR2 := hR_2.lt
    have h0_2 := p2.alloc (.cells #[.int .i64 t2.op, .string t2.name, .int .i64 t2.n, .int .i64 t2.ty.kind, .string t2.ty.name, .slice ta2 tn2 tc2, .slice ma2 mn2 mc2] 27)
    have K0_2 := K2.alloc (.cells #[.int .i64 t2.op, .string t2.name, .int .i64 t2.n, .int .i64 t2.ty.kind, .string t2.ty.name, .slice ta2 tn2 tc2, .slice ma2 mn2 mc2] 27)
    have hxR_2 := hR_2.alloc (.cells #[.int .i64 t2.op, .string t2.name, .int .i64 t2.n, .int .i64 t2.ty.kind, .string t2.ty.name, .slice ta2 tn2 tc2, .slice ma2 mn2 mc2] 27)
    have hLt2_2 : Blk (w2.alloc (.cells #[.int .i64 t2.op, .string t2.name, .int .i64 t2.n, .int .i64 t2.ty.kind, .string t2.ty.name, .slice ta2 tn2 tc2, .slice ma2 mn2 mc2] 27)) w2.heap.size 27 (tmCells t2 (.slice ta2 tn2 tc2) (.slice ma2 mn2 mc2)) := Blk.new w2 27 _
    have axt2_2 := at2.frame (Same.alloc _ (.cells #[.int .i64 t2.op, .string t2.name, .int .i64 t2.n, .int .i64 t2.ty.kind, .string t2.ty.name, .slice ta2 tn2 tc2, .slice ma2 mn2 mc2] 27))
    have cxt2_2 := ct2.frame (Same.alloc _ (.cells #[.int .i64 t2.op, .string t2.name, .int .i64 t2.n, .int .i64 t2.ty.kind, .string t2.ty.name, .slice ta2 tn2 tc2, .slice ma2 mn2 mc2] 27))
    have zw2 : (w2.alloc (.cells #[.int .i64 t2.op, .string t2.name, .int .i64 t2.n, .int .i64 t2.ty.kind, .string t2.ty.name, .slice ta2 tn2 tc2, .slice ma2 mn2 mc2] 27)).heap.size = w2.heap.size + 1 := by simp
    have Z2 := Lib.hid zw2
    clear zw2
    go_wp2_with fail
    have HM : Hid (∀ k ∈ t2.kids, k.name.size ≤ 65536) := Lib.hid (fun k hk => ((HS.out _ _ _ _ ⟨p1.le, p1.tx⟩ h_2).1.kids k hk).name)
    have HNe := Lib.hid (show 1 ≤ σ2.nest by omega)
    have lo3 := h0_2.lt
    refine (elements_any hT hI h0_2 HNe.out (by omega) t2 j_2.2 HM.out bare ta2 tn2 tc2 ma2 mn2 mc2 w1.heap.size (by omega) (by have := Z2.out; omega) axt2_2 cxt2_2).mono ?_
    rintro e w3 hr
    cases h_3 : elementsS T s t2 bare σ2 with
    | error r =>
      have hq : Hid (bracesS T s σ = .error r) := Lib.hid (by unfold bracesS; simp only [h_1, hi, hb, h_2, h_3])
      obtain ⟨rfl, k3⟩ := hr.getErr h_3
      clear hr
      go_wp2_with fail
      exact ⟨rfl, RPost.err hq.out ⟨rfl, K0_2.trans k3⟩⟩
    | ok q3 =>
      obtain ⟨t3, σ3⟩ := q3
      obtain ⟨v, rfl, ⟨tk3, kk3, rfl, at3, ct3⟩, p3, k3⟩ := hr.getOk h_3
      clear hr
      have j_3 := inv_elements hI h0_2.le h_3
      have i_3 := j_3.1
      try unfold Inv at i_3
      try unfold Inv1 at i_3
      obtain ⟨ta3, tn3, tc3, rfl⟩ := at3.slice
      obtain ⟨ma3, mn3, mc3, rfl⟩ := ct3.slice
      unfold tmVal
      have hR_3 := hxR_2.kept k3 (by show ¬ w.heap.size = b; omega)
      have hLt2_3 := hLt2_2.kept k3 (by show ¬ w2.heap.size = b; omega)
      have at2_3 := axt2_2.frame (Same.of_kept k3 (fun k h e => by omega))
      have ct2_3 := cxt2_2.frame (Same.of_kept k3 (fun k h e => by omega))
      have K3 := K0_2.trans k3
      have lb3 := p3.lt
      have zz3 := K3.size
      have zk3 := k3.size
      have lR3 := hR_3.lt
      have lLt23 := hLt2_3.lt
      have hq : Hid (bracesS T s σ = .ok (t3, σ3)) := Lib.hid (by unfold bracesS; simp only [h_1, hi, hb, h_2, h_3])
      have g0 : w3.cell? ⟨w.heap.size, 0, none⟩ = some (.int .i64 0) := hR_3.cell 0
      have f0 : w3.frozen? ⟨w.heap.size, 0, none⟩ = false := hR_3.frozen 0
      have g1 : w3.cell? ⟨w.heap.size, 1, none⟩ = some (.string ⟨#[]⟩) := hR_3.cell 1
      have f1 : w3.frozen? ⟨w.heap.size, 1, none⟩ = false := hR_3.frozen 1
      have g2 : w3.cell? ⟨w.heap.size, 2, none⟩ = some (.int .i64 0) := hR_3.cell 2
      have f2 : w3.frozen? ⟨w.heap.size, 2, none⟩ = false := hR_3.frozen 2
      have g3 : w3.cell? ⟨w.heap.size, 3, none⟩ = some (.int .i64 0) := hR_3.cell 3
      have f3 : w3.frozen? ⟨w.heap.size, 3, none⟩ = false := hR_3.frozen 3
      have g4 : w3.cell? ⟨w.heap.size, 4, none⟩ = some (.string ⟨#[]⟩) := hR_3.cell 4
      have f4 : w3.frozen? ⟨w.heap.size, 4, none⟩ = false := hR_3.frozen 4
      have g5 : w3.cell? ⟨w.heap.size, 5, none⟩ = some (.slice none 0 0) := hR_3.cell 5
      have f5 : w3.frozen? ⟨w.heap.size, 5, none⟩ = false := hR_3.frozen 5
      have g6 : w3.cell? ⟨w.heap.size, 6, none⟩ = some (.slice none 0 0) := hR_3.cell 6
      have f6 : w3.frozen? ⟨w.heap.size, 6, none⟩ = false := hR_3.frozen 6
      have yt20 : w3.cell? ⟨w2.heap.size, 0, none⟩ = some (.int .i64 t2.op) := hLt2_3.cell 0
      have yt21 : w3.cell? ⟨w2.heap.size, 1, none⟩ = some (.string t2.name) := hLt2_3.cell 1
      have yt22 : w3.cell? ⟨w2.heap.size, 2, none⟩ = some (.int .i64 t2.n) := hLt2_3.cell 2
      have yt23 : w3.cell? ⟨w2.heap.size, 3, none⟩ = some (.int .i64 t2.ty.kind) := hLt2_3.cell 3
      have yt24 : w3.cell? ⟨w2.heap.size, 4, none⟩ = some (.string t2.ty.name) := hLt2_3.cell 4
      have yt25 : w3.cell? ⟨w2.heap.size, 5, none⟩ = some (.slice ta2 tn2 tc2) := hLt2_3.cell 5
      have yt26 : w3.cell? ⟨w2.heap.size, 6, none⟩ = some (.slice ma2 mn2 mc2) := hLt2_3.cell 6
      have l9 : w.heap.size < w3.heap.size := hR_3.lt
      go_wp2_with fail
      refine ret_tm Tryz.results119 hq.out rfl rfl ((r7 hR_3 rfl)) ?_ ?_ ((p7w p3 (by omega) (by omega))) ((k7w K3 (Or.inr (Nat.le_refl _))))
      · exact (at3.frame (same7 (R := w.heap.size) (by omega))).mono (fun k _ h => by omega)
      · exact (ct3.frame (same7 (R := w.heap.size) (by omega))).mono (fun k _ h => by omega)
theorem braces_any {b : Nat} {s : ByteArray} {f : Nat} {T : TF} {w : World} {σ : PS} (hT : TC b s f T) (hI : TInv s T) (h : PW w b s σ) (hf : 14 * mu s σ ≤ f) (hS : TSm 65536 s T) :
    Calls Tryz.prog 119 #[.pointer (some ⟨b, 0, none⟩)] w (RPost b s (VTm w.heap.size) (bracesS T s σ) w) := by
  cases h_1 : openS s σ kLcu with
  | error r => exact braces_err hT hI h hf h_1
  | ok σ1 =>
    cases hi : isS σ1 kRcu
    · exact braces_full hT hI h hf hS h_1 hi rfl
    · exact braces_empty hT hI h hf h_1 hi
set_option maxHeartbeats 4000000 in
theorem worded_name {b : Nat} {s : ByteArray} {f : Nat} {T : TF} {w : World} {σ : PS} (hT : TC b s f T) (hI : TInv s T) (h : PW w b s σ) (hf : 14 * mu s σ ≤ f) (hk0 : σ.k ≠ 0) (hkw : keywordB σ.tx = false) :
    Calls Tryz.prog 118 #[.pointer (some ⟨b, 0, none⟩), .string σ.tx] w (RPost b s (VTm w.heap.size) (wordedS T s σ) w) := by
  have hlt := h.lt
  have hgl := h.gl.lt
  have h0 := h.alloc (.cells #[.int .i64 0, .string ⟨#[]⟩, .int .i64 0, .int .i64 0, .string ⟨#[]⟩, .slice none 0 0, .slice none 0 0] 27)
  have hR0 : Blk (w.alloc (.cells #[.int .i64 0, .string ⟨#[]⟩, .int .i64 0, .int .i64 0, .string ⟨#[]⟩, .slice none 0 0, .slice none 0 0] 27)) w.heap.size 27 z27 := Blk.new w 27 z27
  have K0 : Kept (· = b) w (w.alloc (.cells #[.int .i64 0, .string ⟨#[]⟩, .int .i64 0, .int .i64 0, .string ⟨#[]⟩, .slice none 0 0, .slice none 0 0] 27)) := (Kept.refl _ _).alloc _
  have zw0 : (w.alloc (.cells #[.int .i64 0, .string ⟨#[]⟩, .int .i64 0, .int .i64 0, .string ⟨#[]⟩, .slice none 0 0, .slice none 0 0] 27)).heap.size = w.heap.size + 1 := by simp
  have Z0 := Lib.hid zw0
  clear zw0
  go_enter Tryz.func118, Tryz.ntmps118
  go_wp2_with (first | (go_at_call 46; refine (keyword_t hkw _).mono ?_; rintro e w' ⟨rfl, rfl⟩) | (go_at_call 149; refine (function_any _ _).mono ?_; rintro e w' ⟨rfl, rfl⟩))
  cases h_1 : advS s σ with
  | error r =>
    have hq : Hid (wordedS T s σ = .error r) := Lib.hid (by unfold wordedS leafS; simp only [hkw, h_1])
    refine (adv_err h0 h_1).mono ?_
    rintro e w1 ⟨rfl, k1⟩
    go_wp2_with fail
    exact ⟨rfl, RPost.err hq.out ⟨rfl, K0.trans k1⟩⟩
  | ok σ1 =>
    have i_1 := inv_adv h0.le hk0 h_1
    refine (adv_ok h0 h_1).mono ?_
    rintro e w1 ⟨rfl, p1, k1⟩
    have hR_1 := hR0.kept k1 (by show ¬ w.heap.size = b; omega)
    have K1 := K0.trans k1
    have lb1 := p1.lt
    have zz1 := K1.size
    have zk1 := k1.size
    have lR1 := hR_1.lt
    have hq : Hid (wordedS T s σ = .ok (.mk 20 σ.tx 0 ty0 [], σ1)) := Lib.hid (by unfold wordedS leafS; simp only [hkw, h_1])
    have gA : ∀ i, w1.cell? ⟨w.heap.size, i, none⟩ = [Value.int .i64 0, .string ⟨#[]⟩, .int .i64 0, .int .i64 0, .string ⟨#[]⟩, .slice none 0 0, .slice none 0 0][i]? := hR_1.cell
    have fA : ∀ i, w1.frozen? ⟨w.heap.size, i, none⟩ = false := hR_1.frozen
    have l9 : w.heap.size < w1.heap.size := hR_1.lt
    go_wp2_with fail
    refine ret_tm Tryz.results118 hq.out rfl rfl ((r7 hR_1 rfl)) ?_ ?_ ((p7w p1 (by omega) (by omega))) ((k7w K1 (Or.inr (Nat.le_refl _))))
    · exact .nil0
    · exact .nil0
set_option maxHeartbeats 4000000 in
theorem worded_fun {b : Nat} {s : ByteArray} {f : Nat} {T : TF} {w : World} {σ : PS} (hT : TC b s f T) (hI : TInv s T) (h : PW w b s σ) (hf : 14 * mu s σ ≤ f) (hk0 : σ.k ≠ 0) (hkw : keywordB σ.tx = true) (hfn : (functionN σ.tx != 0) = true) :
    Calls Tryz.prog 118 #[.pointer (some ⟨b, 0, none⟩), .string σ.tx] w (RPost b s (VTm w.heap.size) (wordedS T s σ) w) := by
  have hlt := h.lt
  have hgl := h.gl.lt
  have h0 := h.alloc (.cells #[.int .i64 0, .string ⟨#[]⟩, .int .i64 0, .int .i64 0, .string ⟨#[]⟩, .slice none 0 0, .slice none 0 0] 27)
  have hR0 : Blk (w.alloc (.cells #[.int .i64 0, .string ⟨#[]⟩, .int .i64 0, .int .i64 0, .string ⟨#[]⟩, .slice none 0 0, .slice none 0 0] 27)) w.heap.size 27 z27 := Blk.new w 27 z27
  have K0 : Kept (· = b) w (w.alloc (.cells #[.int .i64 0, .string ⟨#[]⟩, .int .i64 0, .int .i64 0, .string ⟨#[]⟩, .slice none 0 0, .slice none 0 0] 27)) := (Kept.refl _ _).alloc _
  have zw0 : (w.alloc (.cells #[.int .i64 0, .string ⟨#[]⟩, .int .i64 0, .int .i64 0, .string ⟨#[]⟩, .slice none 0 0, .slice none 0 0] 27)).heap.size = w.heap.size + 1 := by simp
  have Z0 := Lib.hid zw0
  clear zw0
  go_enter Tryz.func118, Tryz.ntmps118
  go_wp2_with (first | (go_at_call 46; refine (keyword_t hkw _).mono ?_; rintro e w' ⟨rfl, rfl⟩) | (go_at_call 149; refine (function_any _ _).mono ?_; rintro e w' ⟨rfl, rfl⟩))
  cases h_1 : advS s σ with
  | error r =>
    have hq : Hid (wordedS T s σ = .error r) := Lib.hid (by unfold wordedS; simp only [hkw, hfn, h_1])
    refine (adv_err h0 h_1).mono ?_
    rintro e w1 ⟨rfl, k1⟩
    go_wp2_with fail
    exact ⟨rfl, RPost.err hq.out ⟨rfl, K0.trans k1⟩⟩
  | ok σ1 =>
    have i_1 := inv_adv h0.le hk0 h_1
    refine (adv_ok h0 h_1).mono ?_
    rintro e w1 ⟨rfl, p1, k1⟩
    have hR_1 := hR0.kept k1 (by show ¬ w.heap.size = b; omega)
    have K1 := K0.trans k1
    have lb1 := p1.lt
    have zz1 := K1.size
    have zk1 := k1.size
    have lR1 := hR_1.lt
    go_wp2_with fail
    have lo2 := p1.lt
    refine (inside_any hT hI p1 (by omega) kLpar kRpar).mono ?_
    rintro e w2 hr
    cases h_2 : insideS T s kLpar kRpar σ1 with
    | error r =>
      have hq : Hid (wordedS T s σ = .error r) := Lib.hid (by unfold wordedS; simp only [hkw, hfn, h_1, h_2])
      obtain ⟨rfl, k2⟩ := hr.getErr h_2
      clear hr
      go_wp2_with fail
      exact ⟨rfl, RPost.err hq.out ⟨rfl, K1.trans k2⟩⟩
    | ok q2 =>
      obtain ⟨t2, σ2⟩ := q2
      obtain ⟨v, rfl, ⟨tk2, kk2, rfl, at2, ct2⟩, p2, k2⟩ := hr.getOk h_2
      clear hr
      have j_2 := inv_inside hI p1.le h_2
      have i_2 := j_2.1
      try unfold Inv at i_2
      try unfold Inv1 at i_2
      obtain ⟨ta2, tn2, tc2, rfl⟩ := at2.slice
      obtain ⟨ma2, mn2, mc2, rfl⟩ := ct2.slice
      unfold tmVal
      have hR_2 := hR_1.kept k2 (by show ¬ w.heap.size = b; omega)
      have K2 := K1.trans k2
      have lb2 := p2.lt
      have zz2 := K2.size
      have zk2 := k2.size
      have lR2 := hR_2.lt
      have hq : Hid (wordedS T s σ = .ok (nd (functionN σ.tx) [t2], σ2)) := Lib.hid (by unfold wordedS; simp only [hkw, hfn, h_1, h_2])
      have gA : ∀ i, w2.cell? ⟨w.heap.size, i, none⟩ = [Value.int .i64 0, .string ⟨#[]⟩, .int .i64 0, .int .i64 0, .string ⟨#[]⟩, .slice none 0 0, .slice none 0 0][i]? := hR_2.cell
      have fA : ∀ i, w2.frozen? ⟨w.heap.size, i, none⟩ = false := hR_2.frozen
      have l9 : w.heap.size < w2.heap.size := hR_2.lt
      go_wp2_with fail
      refine ret_tm Tryz.results118 hq.out rfl rfl (((r7 hR_2 rfl)).alloc _) ?_ ?_ (((p7w p2 (by omega) (by omega))).alloc _) (((k7w K2 (Or.inr (Nat.le_refl _)))).alloc _)
      · exact .nil0
      · exact TmL.one (ty := 27) (by omega) (Nat.le_refl _) (Blk.new' 27 _ (by simp)) (((at2.frame (same7 (R := w.heap.size) (by omega))).frame (Same.alloc _ _)).mono (fun k _ h => by omega)) (((ct2.frame (same7 (R := w.heap.size) (by omega))).frame (Same.alloc _ _)).mono (fun k _ h => by omega))
set_option maxHeartbeats 4000000 in
theorem worded_true {b : Nat} {s : ByteArray} {f : Nat} {T : TF} {w : World} {σ : PS} (hT : TC b s f T) (hI : TInv s T) (h : PW w b s σ) (hf : 14 * mu s σ ≤ f) (hk0 : σ.k ≠ 0) (hkw : keywordB σ.tx = true) (hfn : (functionN σ.tx != 0) = false)  (hi : isS σ kTrue = true) :
    Calls Tryz.prog 118 #[.pointer (some ⟨b, 0, none⟩), .string σ.tx] w (RPost b s (VTm w.heap.size) (wordedS T s σ) w) := by
  have hlt := h.lt
  have hgl := h.gl.lt
  have h0 := h.alloc (.cells #[.int .i64 0, .string ⟨#[]⟩, .int .i64 0, .int .i64 0, .string ⟨#[]⟩, .slice none 0 0, .slice none 0 0] 27)
  have hR0 : Blk (w.alloc (.cells #[.int .i64 0, .string ⟨#[]⟩, .int .i64 0, .int .i64 0, .string ⟨#[]⟩, .slice none 0 0, .slice none 0 0] 27)) w.heap.size 27 z27 := Blk.new w 27 z27
  have K0 : Kept (· = b) w (w.alloc (.cells #[.int .i64 0, .string ⟨#[]⟩, .int .i64 0, .int .i64 0, .string ⟨#[]⟩, .slice none 0 0, .slice none 0 0] 27)) := (Kept.refl _ _).alloc _
  have zw0 : (w.alloc (.cells #[.int .i64 0, .string ⟨#[]⟩, .int .i64 0, .int .i64 0, .string ⟨#[]⟩, .slice none 0 0, .slice none 0 0] 27)).heap.size = w.heap.size + 1 := by simp
  have Z0 := Lib.hid zw0
  clear zw0
  go_enter Tryz.func118, Tryz.ntmps118
  go_wp2_with (first | (go_at_call 46; refine (keyword_t hkw _).mono ?_; rintro e w' ⟨rfl, rfl⟩) | (go_at_call 149; refine (function_any _ _).mono ?_; rintro e w' ⟨rfl, rfl⟩))
  cases h_1 : advS s σ with
  | error r =>
    have hq : Hid (wordedS T s σ = .error r) := Lib.hid (by unfold wordedS leafS; simp only [hkw, hfn, hi, h_1])
    refine (eat_bad h0 kTrue hi h_1).mono ?_
    rintro e w1 ⟨rfl, k1⟩
    go_wp2_with fail
    exact ⟨rfl, RPost.err hq.out ⟨rfl, K0.trans k1⟩⟩
  | ok σ1 =>
    have i_1 := inv_adv h0.le (isS_ne hi) h_1
    refine (eat_yes h0 kTrue hi h_1).mono ?_
    rintro e w1 ⟨rfl, p1, k1⟩
    have hR_1 := hR0.kept k1 (by show ¬ w.heap.size = b; omega)
    have K1 := K0.trans k1
    have lb1 := p1.lt
    have zz1 := K1.size
    have zk1 := k1.size
    have lR1 := hR_1.lt
    have hq : Hid (wordedS T s σ = .ok (nd 1 [], σ1)) := Lib.hid (by unfold wordedS leafS; simp only [hkw, hfn, hi, h_1])
    have gA : ∀ i, w1.cell? ⟨w.heap.size, i, none⟩ = [Value.int .i64 0, .string ⟨#[]⟩, .int .i64 0, .int .i64 0, .string ⟨#[]⟩, .slice none 0 0, .slice none 0 0][i]? := hR_1.cell
    have fA : ∀ i, w1.frozen? ⟨w.heap.size, i, none⟩ = false := hR_1.frozen
    have l9 : w.heap.size < w1.heap.size := hR_1.lt
    go_wp2_with fail
    refine ret_tm Tryz.results118 hq.out rfl rfl ((r7 hR_1 rfl)) ?_ ?_ ((p7w p1 (by omega) (by omega))) ((k7w K1 (Or.inr (Nat.le_refl _))))
    · exact .nil0
    · exact .nil0
set_option maxHeartbeats 4000000 in
theorem worded_false {b : Nat} {s : ByteArray} {f : Nat} {T : TF} {w : World} {σ : PS} (hT : TC b s f T) (hI : TInv s T) (h : PW w b s σ) (hf : 14 * mu s σ ≤ f) (hk0 : σ.k ≠ 0) (hkw : keywordB σ.tx = true) (hfn : (functionN σ.tx != 0) = false) (hn0 : isS σ kTrue = false) (hi : isS σ kFalse = true) :
    Calls Tryz.prog 118 #[.pointer (some ⟨b, 0, none⟩), .string σ.tx] w (RPost b s (VTm w.heap.size) (wordedS T s σ) w) := by
  have hlt := h.lt
  have hgl := h.gl.lt
  have h0 := h.alloc (.cells #[.int .i64 0, .string ⟨#[]⟩, .int .i64 0, .int .i64 0, .string ⟨#[]⟩, .slice none 0 0, .slice none 0 0] 27)
  have hR0 : Blk (w.alloc (.cells #[.int .i64 0, .string ⟨#[]⟩, .int .i64 0, .int .i64 0, .string ⟨#[]⟩, .slice none 0 0, .slice none 0 0] 27)) w.heap.size 27 z27 := Blk.new w 27 z27
  have K0 : Kept (· = b) w (w.alloc (.cells #[.int .i64 0, .string ⟨#[]⟩, .int .i64 0, .int .i64 0, .string ⟨#[]⟩, .slice none 0 0, .slice none 0 0] 27)) := (Kept.refl _ _).alloc _
  have zw0 : (w.alloc (.cells #[.int .i64 0, .string ⟨#[]⟩, .int .i64 0, .int .i64 0, .string ⟨#[]⟩, .slice none 0 0, .slice none 0 0] 27)).heap.size = w.heap.size + 1 := by simp
  have Z0 := Lib.hid zw0
  clear zw0
  go_enter Tryz.func118, Tryz.ntmps118
  go_wp2_with (first | (go_at_call 46; refine (keyword_t hkw _).mono ?_; rintro e w' ⟨rfl, rfl⟩) | (go_at_call 149; refine (function_any _ _).mono ?_; rintro e w' ⟨rfl, rfl⟩))
  refine (eat_no h0 kTrue hn0).mono ?_
  rintro e w' ⟨rfl, rfl⟩
  go_wp2_with fail
  cases h_1 : advS s σ with
  | error r =>
    have hq : Hid (wordedS T s σ = .error r) := Lib.hid (by unfold wordedS leafS; simp only [hkw, hfn, hn0, hi, h_1])
    refine (eat_bad h0 kFalse hi h_1).mono ?_
    rintro e w1 ⟨rfl, k1⟩
    go_wp2_with fail
    exact ⟨rfl, RPost.err hq.out ⟨rfl, K0.trans k1⟩⟩
  | ok σ1 =>
    have i_1 := inv_adv h0.le (isS_ne hi) h_1
    refine (eat_yes h0 kFalse hi h_1).mono ?_
    rintro e w1 ⟨rfl, p1, k1⟩
    have hR_1 := hR0.kept k1 (by show ¬ w.heap.size = b; omega)
    have K1 := K0.trans k1
    have lb1 := p1.lt
    have zz1 := K1.size
    have zk1 := k1.size
    have lR1 := hR_1.lt
    have hq : Hid (wordedS T s σ = .ok (nd 2 [], σ1)) := Lib.hid (by unfold wordedS leafS; simp only [hkw, hfn, hn0, hi, h_1])
    have gA : ∀ i, w1.cell? ⟨w.heap.size, i, none⟩ = [Value.int .i64 0, .string ⟨#[]⟩, .int .i64 0, .int .i64 0, .string ⟨#[]⟩, .slice none 0 0, .slice none 0 0][i]? := hR_1.cell
    have fA : ∀ i, w1.frozen? ⟨w.heap.size, i, none⟩ = false := hR_1.frozen
    have l9 : w.heap.size < w1.heap.size := hR_1.lt
    go_wp2_with fail
    refine ret_tm Tryz.results118 hq.out rfl rfl ((r7 hR_1 rfl)) ?_ ?_ ((p7w p1 (by omega) (by omega))) ((k7w K1 (Or.inr (Nat.le_refl _))))
    · exact .nil0
    · exact .nil0
set_option maxHeartbeats 4000000 in
theorem worded_forall {b : Nat} {s : ByteArray} {f : Nat} {T : TF} {w : World} {σ : PS} (hT : TC b s f T) (hI : TInv s T) (h : PW w b s σ) (hf : 14 * mu s σ ≤ f) (hk0 : σ.k ≠ 0) (hkw : keywordB σ.tx = true) (hfn : (functionN σ.tx != 0) = false) (hn0 : isS σ kTrue = false) (hn1 : isS σ kFalse = false) (hi : isS σ kForall = true) :
    Calls Tryz.prog 118 #[.pointer (some ⟨b, 0, none⟩), .string σ.tx] w (RPost b s (VTm w.heap.size) (wordedS T s σ) w) := by
  have hlt := h.lt
  have hgl := h.gl.lt
  have h0 := h.alloc (.cells #[.int .i64 0, .string ⟨#[]⟩, .int .i64 0, .int .i64 0, .string ⟨#[]⟩, .slice none 0 0, .slice none 0 0] 27)
  have hR0 : Blk (w.alloc (.cells #[.int .i64 0, .string ⟨#[]⟩, .int .i64 0, .int .i64 0, .string ⟨#[]⟩, .slice none 0 0, .slice none 0 0] 27)) w.heap.size 27 z27 := Blk.new w 27 z27
  have K0 : Kept (· = b) w (w.alloc (.cells #[.int .i64 0, .string ⟨#[]⟩, .int .i64 0, .int .i64 0, .string ⟨#[]⟩, .slice none 0 0, .slice none 0 0] 27)) := (Kept.refl _ _).alloc _
  have zw0 : (w.alloc (.cells #[.int .i64 0, .string ⟨#[]⟩, .int .i64 0, .int .i64 0, .string ⟨#[]⟩, .slice none 0 0, .slice none 0 0] 27)).heap.size = w.heap.size + 1 := by simp
  have Z0 := Lib.hid zw0
  clear zw0
  go_enter Tryz.func118, Tryz.ntmps118
  go_wp2_with (first | (go_at_call 46; refine (keyword_t hkw _).mono ?_; rintro e w' ⟨rfl, rfl⟩) | (go_at_call 149; refine (function_any _ _).mono ?_; rintro e w' ⟨rfl, rfl⟩))
  refine (eat_no h0 kTrue hn0).mono ?_
  rintro e w' ⟨rfl, rfl⟩
  go_wp2_with fail
  refine (eat_no h0 kFalse hn1).mono ?_
  rintro e w' ⟨rfl, rfl⟩
  go_wp2_with fail
  cases h_1 : advS s σ with
  | error r =>
    have hq : Hid (wordedS T s σ = .error r) := Lib.hid (by unfold wordedS binderS; simp only [hkw, hfn, hn0, hn1, hi, h_1])
    refine (eat_bad h0 kForall hi h_1).mono ?_
    rintro e w1 ⟨rfl, k1⟩
    go_wp2_with fail
    exact ⟨rfl, RPost.err hq.out ⟨rfl, K0.trans k1⟩⟩
  | ok σ1 =>
    have i_1 := inv_adv h0.le (isS_ne hi) h_1
    refine (eat_yes h0 kForall hi h_1).mono ?_
    rintro e w1 ⟨rfl, p1, k1⟩
    have hR_1 := hR0.kept k1 (by show ¬ w.heap.size = b; omega)
    have K1 := K0.trans k1
    have lb1 := p1.lt
    have zz1 := K1.size
    have zk1 := k1.size
    have lR1 := hR_1.lt
    go_wp2_with fail
    have lo2 := p1.lt
    refine (bound_any hT hI p1 (by omega) 8).mono ?_
    rintro e w2 hr
    cases h_2 : boundS T s 8 σ1 with
    | error r =>
      have hq : Hid (wordedS T s σ = .error r) := Lib.hid (by unfold wordedS binderS; simp only [hkw, hfn, hn0, hn1, hi, h_1, h_2])
      obtain ⟨rfl, k2⟩ := hr.getErr h_2
      clear hr
      go_wp2_with fail
      exact ⟨rfl, RPost.err hq.out ⟨rfl, K1.trans k2⟩⟩
    | ok q2 =>
      obtain ⟨t2, σ2⟩ := q2
      obtain ⟨v, rfl, ⟨tk2, kk2, rfl, at2, ct2⟩, p2, k2⟩ := hr.getOk h_2
      clear hr
      have j_2 := inv_bound hI (by decide) p1.le h_2
      have i_2 := j_2.1
      try unfold Inv at i_2
      try unfold Inv1 at i_2
      obtain ⟨ta2, tn2, tc2, rfl⟩ := at2.slice
      obtain ⟨ma2, mn2, mc2, rfl⟩ := ct2.slice
      unfold tmVal
      have hR_2 := hR_1.kept k2 (by show ¬ w.heap.size = b; omega)
      have K2 := K1.trans k2
      have lb2 := p2.lt
      have zz2 := K2.size
      have zk2 := k2.size
      have lR2 := hR_2.lt
      have hq : Hid (wordedS T s σ = .ok (t2, σ2)) := Lib.hid (by unfold wordedS binderS; simp only [hkw, hfn, hn0, hn1, hi, h_1, h_2])
      have gA : ∀ i, w2.cell? ⟨w.heap.size, i, none⟩ = [Value.int .i64 0, .string ⟨#[]⟩, .int .i64 0, .int .i64 0, .string ⟨#[]⟩, .slice none 0 0, .slice none 0 0][i]? := hR_2.cell
      have fA : ∀ i, w2.frozen? ⟨w.heap.size, i, none⟩ = false := hR_2.frozen
      have l9 : w.heap.size < w2.heap.size := hR_2.lt
      go_wp2_with fail
      refine ret_tm Tryz.results118 hq.out rfl rfl ((r7 hR_2 rfl)) ?_ ?_ ((p7w p2 (by omega) (by omega))) ((k7w K2 (Or.inr (Nat.le_refl _))))
      · exact (at2.frame (same7 (R := w.heap.size) (by omega))).mono (fun k _ h => by omega)
      · exact (ct2.frame (same7 (R := w.heap.size) (by omega))).mono (fun k _ h => by omega)
set_option maxHeartbeats 4000000 in
theorem worded_exists {b : Nat} {s : ByteArray} {f : Nat} {T : TF} {w : World} {σ : PS} (hT : TC b s f T) (hI : TInv s T) (h : PW w b s σ) (hf : 14 * mu s σ ≤ f) (hk0 : σ.k ≠ 0) (hkw : keywordB σ.tx = true) (hfn : (functionN σ.tx != 0) = false) (hn0 : isS σ kTrue = false) (hn1 : isS σ kFalse = false) (hn2 : isS σ kForall = false) (hi : isS σ kExists = true) :
    Calls Tryz.prog 118 #[.pointer (some ⟨b, 0, none⟩), .string σ.tx] w (RPost b s (VTm w.heap.size) (wordedS T s σ) w) := by
  have hlt := h.lt
  have hgl := h.gl.lt
  have h0 := h.alloc (.cells #[.int .i64 0, .string ⟨#[]⟩, .int .i64 0, .int .i64 0, .string ⟨#[]⟩, .slice none 0 0, .slice none 0 0] 27)
  have hR0 : Blk (w.alloc (.cells #[.int .i64 0, .string ⟨#[]⟩, .int .i64 0, .int .i64 0, .string ⟨#[]⟩, .slice none 0 0, .slice none 0 0] 27)) w.heap.size 27 z27 := Blk.new w 27 z27
  have K0 : Kept (· = b) w (w.alloc (.cells #[.int .i64 0, .string ⟨#[]⟩, .int .i64 0, .int .i64 0, .string ⟨#[]⟩, .slice none 0 0, .slice none 0 0] 27)) := (Kept.refl _ _).alloc _
  have zw0 : (w.alloc (.cells #[.int .i64 0, .string ⟨#[]⟩, .int .i64 0, .int .i64 0, .string ⟨#[]⟩, .slice none 0 0, .slice none 0 0] 27)).heap.size = w.heap.size + 1 := by simp
  have Z0 := Lib.hid zw0
  clear zw0
  go_enter Tryz.func118, Tryz.ntmps118
  go_wp2_with (first | (go_at_call 46; refine (keyword_t hkw _).mono ?_; rintro e w' ⟨rfl, rfl⟩) | (go_at_call 149; refine (function_any _ _).mono ?_; rintro e w' ⟨rfl, rfl⟩))
  refine (eat_no h0 kTrue hn0).mono ?_
  rintro e w' ⟨rfl, rfl⟩
  go_wp2_with fail
  refine (eat_no h0 kFalse hn1).mono ?_
  rintro e w' ⟨rfl, rfl⟩
  go_wp2_with fail
  refine (eat_no h0 kForall hn2).mono ?_
  rintro e w' ⟨rfl, rfl⟩
  go_wp2_with fail
  cases h_1 : advS s σ with
  | error r =>
    have hq : Hid (wordedS T s σ = .error r) := Lib.hid (by unfold wordedS binderS; simp only [hkw, hfn, hn0, hn1, hn2, hi, h_1])
    refine (eat_bad h0 kExists hi h_1).mono ?_
    rintro e w1 ⟨rfl, k1⟩
    go_wp2_with fail
    exact ⟨rfl, RPost.err hq.out ⟨rfl, K0.trans k1⟩⟩
  | ok σ1 =>
    have i_1 := inv_adv h0.le (isS_ne hi) h_1
    refine (eat_yes h0 kExists hi h_1).mono ?_
    rintro e w1 ⟨rfl, p1, k1⟩
    have hR_1 := hR0.kept k1 (by show ¬ w.heap.size = b; omega)
    have K1 := K0.trans k1
    have lb1 := p1.lt
    have zz1 := K1.size
    have zk1 := k1.size
    have lR1 := hR_1.lt
    go_wp2_with fail
    have lo2 := p1.lt
    refine (bound_any hT hI p1 (by omega) 9).mono ?_
    rintro e w2 hr
    cases h_2 : boundS T s 9 σ1 with
    | error r =>
      have hq : Hid (wordedS T s σ = .error r) := Lib.hid (by unfold wordedS binderS; simp only [hkw, hfn, hn0, hn1, hn2, hi, h_1, h_2])
      obtain ⟨rfl, k2⟩ := hr.getErr h_2
      clear hr
      go_wp2_with fail
      exact ⟨rfl, RPost.err hq.out ⟨rfl, K1.trans k2⟩⟩
    | ok q2 =>
      obtain ⟨t2, σ2⟩ := q2
      obtain ⟨v, rfl, ⟨tk2, kk2, rfl, at2, ct2⟩, p2, k2⟩ := hr.getOk h_2
      clear hr
      have j_2 := inv_bound hI (by decide) p1.le h_2
      have i_2 := j_2.1
      try unfold Inv at i_2
      try unfold Inv1 at i_2
      obtain ⟨ta2, tn2, tc2, rfl⟩ := at2.slice
      obtain ⟨ma2, mn2, mc2, rfl⟩ := ct2.slice
      unfold tmVal
      have hR_2 := hR_1.kept k2 (by show ¬ w.heap.size = b; omega)
      have K2 := K1.trans k2
      have lb2 := p2.lt
      have zz2 := K2.size
      have zk2 := k2.size
      have lR2 := hR_2.lt
      have hq : Hid (wordedS T s σ = .ok (t2, σ2)) := Lib.hid (by unfold wordedS binderS; simp only [hkw, hfn, hn0, hn1, hn2, hi, h_1, h_2])
      have gA : ∀ i, w2.cell? ⟨w.heap.size, i, none⟩ = [Value.int .i64 0, .string ⟨#[]⟩, .int .i64 0, .int .i64 0, .string ⟨#[]⟩, .slice none 0 0, .slice none 0 0][i]? := hR_2.cell
      have fA : ∀ i, w2.frozen? ⟨w.heap.size, i, none⟩ = false := hR_2.frozen
      have l9 : w.heap.size < w2.heap.size := hR_2.lt
      go_wp2_with fail
      refine ret_tm Tryz.results118 hq.out rfl rfl ((r7 hR_2 rfl)) ?_ ?_ ((p7w p2 (by omega) (by omega))) ((k7w K2 (Or.inr (Nat.le_refl _))))
      · exact (at2.frame (same7 (R := w.heap.size) (by omega))).mono (fun k _ h => by omega)
      · exact (ct2.frame (same7 (R := w.heap.size) (by omega))).mono (fun k _ h => by omega)
set_option maxHeartbeats 4000000 in
theorem worded_funb {b : Nat} {s : ByteArray} {f : Nat} {T : TF} {w : World} {σ : PS} (hT : TC b s f T) (hI : TInv s T) (h : PW w b s σ) (hf : 14 * mu s σ ≤ f) (hk0 : σ.k ≠ 0) (hkw : keywordB σ.tx = true) (hfn : (functionN σ.tx != 0) = false) (hn0 : isS σ kTrue = false) (hn1 : isS σ kFalse = false) (hn2 : isS σ kForall = false) (hn3 : isS σ kExists = false) (hi : isS σ kFun = true) :
    Calls Tryz.prog 118 #[.pointer (some ⟨b, 0, none⟩), .string σ.tx] w (RPost b s (VTm w.heap.size) (wordedS T s σ) w) := by
  have hlt := h.lt
  have hgl := h.gl.lt
  have h0 := h.alloc (.cells #[.int .i64 0, .string ⟨#[]⟩, .int .i64 0, .int .i64 0, .string ⟨#[]⟩, .slice none 0 0, .slice none 0 0] 27)
  have hR0 : Blk (w.alloc (.cells #[.int .i64 0, .string ⟨#[]⟩, .int .i64 0, .int .i64 0, .string ⟨#[]⟩, .slice none 0 0, .slice none 0 0] 27)) w.heap.size 27 z27 := Blk.new w 27 z27
  have K0 : Kept (· = b) w (w.alloc (.cells #[.int .i64 0, .string ⟨#[]⟩, .int .i64 0, .int .i64 0, .string ⟨#[]⟩, .slice none 0 0, .slice none 0 0] 27)) := (Kept.refl _ _).alloc _
  have zw0 : (w.alloc (.cells #[.int .i64 0, .string ⟨#[]⟩, .int .i64 0, .int .i64 0, .string ⟨#[]⟩, .slice none 0 0, .slice none 0 0] 27)).heap.size = w.heap.size + 1 := by simp
  have Z0 := Lib.hid zw0
  clear zw0
  go_enter Tryz.func118, Tryz.ntmps118
  go_wp2_with (first | (go_at_call 46; refine (keyword_t hkw _).mono ?_; rintro e w' ⟨rfl, rfl⟩) | (go_at_call 149; refine (function_any _ _).mono ?_; rintro e w' ⟨rfl, rfl⟩))
  refine (eat_no h0 kTrue hn0).mono ?_
  rintro e w' ⟨rfl, rfl⟩
  go_wp2_with fail
  refine (eat_no h0 kFalse hn1).mono ?_
  rintro e w' ⟨rfl, rfl⟩
  go_wp2_with fail
  refine (eat_no h0 kForall hn2).mono ?_
  rintro e w' ⟨rfl, rfl⟩
  go_wp2_with fail
  refine (eat_no h0 kExists hn3).mono ?_
  rintro e w' ⟨rfl, rfl⟩
  go_wp2_with fail
  cases h_1 : advS s σ with
  | error r =>
    have hq : Hid (wordedS T s σ = .error r) := Lib.hid (by unfold wordedS binderS; simp only [hkw, hfn, hn0, hn1, hn2, hn3, hi, h_1])
    refine (eat_bad h0 kFun hi h_1).mono ?_
    rintro e w1 ⟨rfl, k1⟩
    go_wp2_with fail
    exact ⟨rfl, RPost.err hq.out ⟨rfl, K0.trans k1⟩⟩
  | ok σ1 =>
    have i_1 := inv_adv h0.le (isS_ne hi) h_1
    refine (eat_yes h0 kFun hi h_1).mono ?_
    rintro e w1 ⟨rfl, p1, k1⟩
    have hR_1 := hR0.kept k1 (by show ¬ w.heap.size = b; omega)
    have K1 := K0.trans k1
    have lb1 := p1.lt
    have zz1 := K1.size
    have zk1 := k1.size
    have lR1 := hR_1.lt
    go_wp2_with fail
    have lo2 := p1.lt
    refine (bound_any hT hI p1 (by omega) 56).mono ?_
    rintro e w2 hr
    cases h_2 : boundS T s 56 σ1 with
    | error r =>
      have hq : Hid (wordedS T s σ = .error r) := Lib.hid (by unfold wordedS binderS; simp only [hkw, hfn, hn0, hn1, hn2, hn3, hi, h_1, h_2])
      obtain ⟨rfl, k2⟩ := hr.getErr h_2
      clear hr
      go_wp2_with fail
      exact ⟨rfl, RPost.err hq.out ⟨rfl, K1.trans k2⟩⟩
    | ok q2 =>
      obtain ⟨t2, σ2⟩ := q2
      obtain ⟨v, rfl, ⟨tk2, kk2, rfl, at2, ct2⟩, p2, k2⟩ := hr.getOk h_2
      clear hr
      have j_2 := inv_bound hI (by decide) p1.le h_2
      have i_2 := j_2.1
      try unfold Inv at i_2
      try unfold Inv1 at i_2
      obtain ⟨ta2, tn2, tc2, rfl⟩ := at2.slice
      obtain ⟨ma2, mn2, mc2, rfl⟩ := ct2.slice
      unfold tmVal
      have hR_2 := hR_1.kept k2 (by show ¬ w.heap.size = b; omega)
      have K2 := K1.trans k2
      have lb2 := p2.lt
      have zz2 := K2.size
      have zk2 := k2.size
      have lR2 := hR_2.lt
      have hq : Hid (wordedS T s σ = .ok (t2, σ2)) := Lib.hid (by unfold wordedS binderS; simp only [hkw, hfn, hn0, hn1, hn2, hn3, hi, h_1, h_2])
      have gA : ∀ i, w2.cell? ⟨w.heap.size, i, none⟩ = [Value.int .i64 0, .string ⟨#[]⟩, .int .i64 0, .int .i64 0, .string ⟨#[]⟩, .slice none 0 0, .slice none 0 0][i]? := hR_2.cell
      have fA : ∀ i, w2.frozen? ⟨w.heap.size, i, none⟩ = false := hR_2.frozen
      have l9 : w.heap.size < w2.heap.size := hR_2.lt
      go_wp2_with fail
      refine ret_tm Tryz.results118 hq.out rfl rfl ((r7 hR_2 rfl)) ?_ ?_ ((p7w p2 (by omega) (by omega))) ((k7w K2 (Or.inr (Nat.le_refl _))))
      · exact (at2.frame (same7 (R := w.heap.size) (by omega))).mono (fun k _ h => by omega)
      · exact (ct2.frame (same7 (R := w.heap.size) (by omega))).mono (fun k _ h => by omega)
set_option maxHeartbeats 4000000 in
theorem worded_none {b : Nat} {s : ByteArray} {f : Nat} {T : TF} {w : World} {σ : PS} (hT : TC b s f T) (hI : TInv s T) (h : PW w b s σ) (hf : 14 * mu s σ ≤ f) (hk0 : σ.k ≠ 0) (hkw : keywordB σ.tx = true) (hfn : (functionN σ.tx != 0) = false) (hn0 : isS σ kTrue = false) (hn1 : isS σ kFalse = false) (hn2 : isS σ kForall = false) (hn3 : isS σ kExists = false) (hn4 : isS σ kFun = false) :
    Calls Tryz.prog 118 #[.pointer (some ⟨b, 0, none⟩), .string σ.tx] w (RPost b s (VTm w.heap.size) (wordedS T s σ) w) := by
  have hlt := h.lt
  have hgl := h.gl.lt
  have h0 := h.alloc (.cells #[.int .i64 0, .string ⟨#[]⟩, .int .i64 0, .int .i64 0, .string ⟨#[]⟩, .slice none 0 0, .slice none 0 0] 27)
  have hR0 : Blk (w.alloc (.cells #[.int .i64 0, .string ⟨#[]⟩, .int .i64 0, .int .i64 0, .string ⟨#[]⟩, .slice none 0 0, .slice none 0 0] 27)) w.heap.size 27 z27 := Blk.new w 27 z27
  have K0 : Kept (· = b) w (w.alloc (.cells #[.int .i64 0, .string ⟨#[]⟩, .int .i64 0, .int .i64 0, .string ⟨#[]⟩, .slice none 0 0, .slice none 0 0] 27)) := (Kept.refl _ _).alloc _
  have zw0 : (w.alloc (.cells #[.int .i64 0, .string ⟨#[]⟩, .int .i64 0, .int .i64 0, .string ⟨#[]⟩, .slice none 0 0, .slice none 0 0] 27)).heap.size = w.heap.size + 1 := by simp
  have Z0 := Lib.hid zw0
  clear zw0
  go_enter Tryz.func118, Tryz.ntmps118
  go_wp2_with (first | (go_at_call 46; refine (keyword_t hkw _).mono ?_; rintro e w' ⟨rfl, rfl⟩) | (go_at_call 149; refine (function_any _ _).mono ?_; rintro e w' ⟨rfl, rfl⟩))
  refine (eat_no h0 kTrue hn0).mono ?_
  rintro e w' ⟨rfl, rfl⟩
  go_wp2_with fail
  refine (eat_no h0 kFalse hn1).mono ?_
  rintro e w' ⟨rfl, rfl⟩
  go_wp2_with fail
  refine (eat_no h0 kForall hn2).mono ?_
  rintro e w' ⟨rfl, rfl⟩
  go_wp2_with fail
  refine (eat_no h0 kExists hn3).mono ?_
  rintro e w' ⟨rfl, rfl⟩
  go_wp2_with fail
  refine (eat_no h0 kFun hn4).mono ?_
  rintro e w' ⟨rfl, rfl⟩
  go_wp2_with fail
  have hq : Hid (wordedS T s σ = .error (false, σ.ta)) := Lib.hid (by unfold wordedS; simp only [hkw, hfn, hn0, hn1, hn2, hn3, hn4])
  refine (fail_any h0).mono ?_
  rintro e w' ⟨rfl, rfl⟩
  go_wp2_with fail
  exact ⟨rfl, RPost.err hq.out ⟨rfl, K0⟩⟩
theorem worded_any {b : Nat} {s : ByteArray} {f : Nat} {T : TF} {w : World} {σ : PS} (hT : TC b s f T) (hI : TInv s T) (h : PW w b s σ) (hf : 14 * mu s σ ≤ f) (hk0 : σ.k ≠ 0) :
    Calls Tryz.prog 118 #[.pointer (some ⟨b, 0, none⟩), .string σ.tx] w (RPost b s (VTm w.heap.size) (wordedS T s σ) w) := by
  cases hkw : keywordB σ.tx
  · exact worded_name hT hI h hf hk0 hkw
  cases hfn : (functionN σ.tx != 0)
  case true => exact worded_fun hT hI h hf hk0 hkw hfn
  cases hn0 : isS σ kTrue
  case true => exact worded_true hT hI h hf hk0 hkw hfn hn0
  cases hn1 : isS σ kFalse
  case true => exact worded_false hT hI h hf hk0 hkw hfn hn0 hn1
  cases hn2 : isS σ kForall
  case true => exact worded_forall hT hI h hf hk0 hkw hfn hn0 hn1 hn2
  cases hn3 : isS σ kExists
  case true => exact worded_exists hT hI h hf hk0 hkw hfn hn0 hn1 hn2 hn3
  cases hn4 : isS σ kFun
  case true => exact worded_funb hT hI h hf hk0 hkw hfn hn0 hn1 hn2 hn3 hn4
  exact worded_none hT hI h hf hk0 hkw hfn hn0 hn1 hn2 hn3 hn4
set_option maxHeartbeats 4000000 in
theorem atom_num {b : Nat} {s : ByteArray} {f : Nat} {T : TF} {w : World} {σ : PS} (hT : TC b s f T) (hI : TInv s T) (h : PW w b s σ) (hf : 14 * mu s σ ≤ f) (hk2 : (σ.k == 2) = true) :
    Calls Tryz.prog 67 #[.pointer (some ⟨b, 0, none⟩)] w (RPost b s (VTm w.heap.size) (atomS T s σ) w) := by
  have hk0 : σ.k ≠ 0 := by rw [eq_of_beq hk2]; decide
  have HK0 := Lib.hid hk0
  clear hk0
  have hlt := h.lt
  have hgl := h.gl.lt
  have h0 := h.alloc (.cells #[.int .i64 0, .string ⟨#[]⟩, .int .i64 0, .int .i64 0, .string ⟨#[]⟩, .slice none 0 0, .slice none 0 0] 27)
  have hR0 : Blk (w.alloc (.cells #[.int .i64 0, .string ⟨#[]⟩, .int .i64 0, .int .i64 0, .string ⟨#[]⟩, .slice none 0 0, .slice none 0 0] 27)) w.heap.size 27 z27 := Blk.new w 27 z27
  have K0 : Kept (· = b) w (w.alloc (.cells #[.int .i64 0, .string ⟨#[]⟩, .int .i64 0, .int .i64 0, .string ⟨#[]⟩, .slice none 0 0, .slice none 0 0] 27)) := (Kept.refl _ _).alloc _
  have zw0 : (w.alloc (.cells #[.int .i64 0, .string ⟨#[]⟩, .int .i64 0, .int .i64 0, .string ⟨#[]⟩, .slice none 0 0, .slice none 0 0] 27)).heap.size = w.heap.size + 1 := by simp
  have Z0 := Lib.hid zw0
  clear zw0
  have c2 := h0.kd
  have c3 := h0.txt
  have c4 := h0.num
  have c5 := h0.tat
  have h1 := h0.alloc (.cells #[.int .i64 σ.k, .string σ.tx, .int .i64 σ.n, .int .i64 σ.ta] 84)
  have K1 := K0.alloc (.cells #[.int .i64 σ.k, .string σ.tx, .int .i64 σ.n, .int .i64 σ.ta] 84)
  have hR1 := hR0.alloc (.cells #[.int .i64 σ.k, .string σ.tx, .int .i64 σ.n, .int .i64 σ.ta] 84)
  have hX1 : Blk ((w.alloc (.cells #[.int .i64 0, .string ⟨#[]⟩, .int .i64 0, .int .i64 0, .string ⟨#[]⟩, .slice none 0 0, .slice none 0 0] 27)).alloc (.cells #[.int .i64 σ.k, .string σ.tx, .int .i64 σ.n, .int .i64 σ.ta] 84)) (w.heap.size + 1) 84 [.int .i64 σ.k, .string σ.tx, .int .i64 σ.n, .int .i64 σ.ta] := Blk.new' 84 _ (by simp)
  have zw1 : ((w.alloc (.cells #[.int .i64 0, .string ⟨#[]⟩, .int .i64 0, .int .i64 0, .string ⟨#[]⟩, .slice none 0 0, .slice none 0 0] 27)).alloc (.cells #[.int .i64 σ.k, .string σ.tx, .int .i64 σ.n, .int .i64 σ.ta] 84)).heap.size = w.heap.size + 2 := by simp
  have Z1 := Lib.hid zw1
  clear zw1
  go_enter Tryz.func67, Tryz.ntmps67
  go_wp2_with fail
  have hk0 := HK0.out
  cases h_2 : advS s σ with
  | error r =>
    have hq : Hid (atomS T s σ = .error r) := Lib.hid (by unfold atomS leafS; simp only [hk2, h_2])
    refine (adv_err h1 h_2).mono ?_
    rintro e w2 ⟨rfl, k2⟩
    go_wp2_with fail
    exact ⟨rfl, RPost.err hq.out ⟨rfl, K1.trans k2⟩⟩
  | ok σ2 =>
    have i_2 := inv_adv h1.le hk0 h_2
    refine (adv_ok h1 h_2).mono ?_
    rintro e w2 ⟨rfl, p2, k2⟩
    have hR_2 := hR1.kept k2 (by show ¬ w.heap.size = b; omega)
    have hX_2 := hX1.kept k2 (by show ¬ (w.heap.size + 1) = b; omega)
    have K2 := K1.trans k2
    have lb2 := p2.lt
    have zz2 := K2.size
    have zk2 := k2.size
    have lR2 := hR_2.lt
    have lX2 := hX_2.lt
    clear hk0
    have hq : Hid (atomS T s σ = .ok (.mk 19 nil0 σ.n ty0 [], σ2)) := Lib.hid (by unfold atomS leafS; simp only [hk2, h_2])
    have gA : ∀ i, w2.cell? ⟨w.heap.size, i, none⟩ = [Value.int .i64 0, .string ⟨#[]⟩, .int .i64 0, .int .i64 0, .string ⟨#[]⟩, .slice none 0 0, .slice none 0 0][i]? := hR_2.cell
    have fA : ∀ i, w2.frozen? ⟨w.heap.size, i, none⟩ = false := hR_2.frozen
    have l9 : w.heap.size < w2.heap.size := hR_2.lt
    have y2 : w2.cell? ⟨w.heap.size + 1, 2, none⟩ = some (.int .i64 σ.n) := hX_2.cell 2
    go_wp2_with fail
    refine ret_tm Tryz.results67 hq.out rfl rfl ((r7 hR_2 rfl)) ?_ ?_ ((p7w p2 (by omega) (by omega))) ((k7w K2 (Or.inr (Nat.le_refl _))))
    · exact .nil0
    · exact .nil0
set_option maxHeartbeats 4000000 in
theorem atom_word {b : Nat} {s : ByteArray} {f : Nat} {T : TF} {w : World} {σ : PS} (hT : TC b s f T) (hI : TInv s T) (h : PW w b s σ) (hf : 14 * mu s σ ≤ f) (hk2 : (σ.k == 2) = false) (hk1 : (σ.k == 1) = true) :
    Calls Tryz.prog 67 #[.pointer (some ⟨b, 0, none⟩)] w (RPost b s (VTm w.heap.size) (atomS T s σ) w) := by
  have hlt := h.lt
  have hgl := h.gl.lt
  have h0 := h.alloc (.cells #[.int .i64 0, .string ⟨#[]⟩, .int .i64 0, .int .i64 0, .string ⟨#[]⟩, .slice none 0 0, .slice none 0 0] 27)
  have hR0 : Blk (w.alloc (.cells #[.int .i64 0, .string ⟨#[]⟩, .int .i64 0, .int .i64 0, .string ⟨#[]⟩, .slice none 0 0, .slice none 0 0] 27)) w.heap.size 27 z27 := Blk.new w 27 z27
  have K0 : Kept (· = b) w (w.alloc (.cells #[.int .i64 0, .string ⟨#[]⟩, .int .i64 0, .int .i64 0, .string ⟨#[]⟩, .slice none 0 0, .slice none 0 0] 27)) := (Kept.refl _ _).alloc _
  have zw0 : (w.alloc (.cells #[.int .i64 0, .string ⟨#[]⟩, .int .i64 0, .int .i64 0, .string ⟨#[]⟩, .slice none 0 0, .slice none 0 0] 27)).heap.size = w.heap.size + 1 := by simp
  have Z0 := Lib.hid zw0
  clear zw0
  have c2 := h0.kd
  have c3 := h0.txt
  have c4 := h0.num
  have c5 := h0.tat
  have h1 := h0.alloc (.cells #[.int .i64 σ.k, .string σ.tx, .int .i64 σ.n, .int .i64 σ.ta] 84)
  have K1 := K0.alloc (.cells #[.int .i64 σ.k, .string σ.tx, .int .i64 σ.n, .int .i64 σ.ta] 84)
  have hR1 := hR0.alloc (.cells #[.int .i64 σ.k, .string σ.tx, .int .i64 σ.n, .int .i64 σ.ta] 84)
  have hX1 : Blk ((w.alloc (.cells #[.int .i64 0, .string ⟨#[]⟩, .int .i64 0, .int .i64 0, .string ⟨#[]⟩, .slice none 0 0, .slice none 0 0] 27)).alloc (.cells #[.int .i64 σ.k, .string σ.tx, .int .i64 σ.n, .int .i64 σ.ta] 84)) (w.heap.size + 1) 84 [.int .i64 σ.k, .string σ.tx, .int .i64 σ.n, .int .i64 σ.ta] := Blk.new' 84 _ (by simp)
  have zw1 : ((w.alloc (.cells #[.int .i64 0, .string ⟨#[]⟩, .int .i64 0, .int .i64 0, .string ⟨#[]⟩, .slice none 0 0, .slice none 0 0] 27)).alloc (.cells #[.int .i64 σ.k, .string σ.tx, .int .i64 σ.n, .int .i64 σ.ta] 84)).heap.size = w.heap.size + 2 := by simp
  have Z1 := Lib.hid zw1
  clear zw1
  go_enter Tryz.func67, Tryz.ntmps67
  go_wp2_with fail
  have zz1 := Z1.out
  have lo2 := h1.lt
  refine (worded_any hT hI h1 hf (by rw [eq_of_beq hk1]; decide)).mono ?_
  rintro e w2 hr
  cases h_2 : wordedS T s σ with
  | error r =>
    have hq : Hid (atomS T s σ = .error r) := Lib.hid (by unfold atomS; simp only [hk2, hk1, h_2])
    obtain ⟨rfl, k2⟩ := hr.getErr h_2
    clear hr
    go_wp2_with fail
    exact ⟨rfl, RPost.err hq.out ⟨rfl, K1.trans k2⟩⟩
  | ok q2 =>
    obtain ⟨t2, σ2⟩ := q2
    obtain ⟨v, rfl, ⟨tk2, kk2, rfl, at2, ct2⟩, p2, k2⟩ := hr.getOk h_2
    clear hr
    have j_2 := inv_worded hI h1.le (by rw [eq_of_beq hk1]; decide) h_2
    have i_2 := j_2.1
    try unfold Inv at i_2
    try unfold Inv1 at i_2
    obtain ⟨ta2, tn2, tc2, rfl⟩ := at2.slice
    obtain ⟨ma2, mn2, mc2, rfl⟩ := ct2.slice
    unfold tmVal
    have hR_2 := hR1.kept k2 (by show ¬ w.heap.size = b; omega)
    have hX_2 := hX1.kept k2 (by show ¬ (w.heap.size + 1) = b; omega)
    have K2 := K1.trans k2
    have lb2 := p2.lt
    have zz2 := K2.size
    have zk2 := k2.size
    have lR2 := hR_2.lt
    have lX2 := hX_2.lt
    have hq : Hid (atomS T s σ = .ok (t2, σ2)) := Lib.hid (by unfold atomS; simp only [hk2, hk1, h_2])
    have gA : ∀ i, w2.cell? ⟨w.heap.size, i, none⟩ = [Value.int .i64 0, .string ⟨#[]⟩, .int .i64 0, .int .i64 0, .string ⟨#[]⟩, .slice none 0 0, .slice none 0 0][i]? := hR_2.cell
    have fA : ∀ i, w2.frozen? ⟨w.heap.size, i, none⟩ = false := hR_2.frozen
    have l9 : w.heap.size < w2.heap.size := hR_2.lt
    clear zz1
    go_wp2_with fail
    have zz1 := Z1.out
    refine ret_tm Tryz.results67 hq.out rfl rfl ((r7 hR_2 rfl)) ?_ ?_ ((p7w p2 (by omega) (by omega))) ((k7w K2 (Or.inr (Nat.le_refl _))))
    · exact (at2.frame (same7 (R := w.heap.size) (by omega))).mono (fun k _ h => by omega)
    · exact (ct2.frame (same7 (R := w.heap.size) (by omega))).mono (fun k _ h => by omega)
set_option maxHeartbeats 4000000 in
theorem atom_par {b : Nat} {s : ByteArray} {f : Nat} {T : TF} {w : World} {σ : PS} (hT : TC b s f T) (hI : TInv s T) (h : PW w b s σ) (hf : 14 * mu s σ ≤ f) (hk2 : (σ.k == 2) = false) (hk1 : (σ.k == 1) = false) (hp : isS σ kLpar = true) :
    Calls Tryz.prog 67 #[.pointer (some ⟨b, 0, none⟩)] w (RPost b s (VTm w.heap.size) (atomS T s σ) w) := by
  have hlt := h.lt
  have hgl := h.gl.lt
  have h0 := h.alloc (.cells #[.int .i64 0, .string ⟨#[]⟩, .int .i64 0, .int .i64 0, .string ⟨#[]⟩, .slice none 0 0, .slice none 0 0] 27)
  have hR0 : Blk (w.alloc (.cells #[.int .i64 0, .string ⟨#[]⟩, .int .i64 0, .int .i64 0, .string ⟨#[]⟩, .slice none 0 0, .slice none 0 0] 27)) w.heap.size 27 z27 := Blk.new w 27 z27
  have K0 : Kept (· = b) w (w.alloc (.cells #[.int .i64 0, .string ⟨#[]⟩, .int .i64 0, .int .i64 0, .string ⟨#[]⟩, .slice none 0 0, .slice none 0 0] 27)) := (Kept.refl _ _).alloc _
  have zw0 : (w.alloc (.cells #[.int .i64 0, .string ⟨#[]⟩, .int .i64 0, .int .i64 0, .string ⟨#[]⟩, .slice none 0 0, .slice none 0 0] 27)).heap.size = w.heap.size + 1 := by simp
  have Z0 := Lib.hid zw0
  clear zw0
  have c2 := h0.kd
  have c3 := h0.txt
  have c4 := h0.num
  have c5 := h0.tat
  have h1 := h0.alloc (.cells #[.int .i64 σ.k, .string σ.tx, .int .i64 σ.n, .int .i64 σ.ta] 84)
  have K1 := K0.alloc (.cells #[.int .i64 σ.k, .string σ.tx, .int .i64 σ.n, .int .i64 σ.ta] 84)
  have hR1 := hR0.alloc (.cells #[.int .i64 σ.k, .string σ.tx, .int .i64 σ.n, .int .i64 σ.ta] 84)
  have hX1 : Blk ((w.alloc (.cells #[.int .i64 0, .string ⟨#[]⟩, .int .i64 0, .int .i64 0, .string ⟨#[]⟩, .slice none 0 0, .slice none 0 0] 27)).alloc (.cells #[.int .i64 σ.k, .string σ.tx, .int .i64 σ.n, .int .i64 σ.ta] 84)) (w.heap.size + 1) 84 [.int .i64 σ.k, .string σ.tx, .int .i64 σ.n, .int .i64 σ.ta] := Blk.new' 84 _ (by simp)
  have zw1 : ((w.alloc (.cells #[.int .i64 0, .string ⟨#[]⟩, .int .i64 0, .int .i64 0, .string ⟨#[]⟩, .slice none 0 0, .slice none 0 0] 27)).alloc (.cells #[.int .i64 σ.k, .string σ.tx, .int .i64 σ.n, .int .i64 σ.ta] 84)).heap.size = w.heap.size + 2 := by simp
  have Z1 := Lib.hid zw1
  clear zw1
  go_enter Tryz.func67, Tryz.ntmps67
  go_wp2_with fail
  refine (is_any h1 kLpar hp).mono ?_
  rintro e w' ⟨rfl, rfl⟩
  go_wp2_with fail
  have zz1 := Z1.out
  have lo2 := h1.lt
  refine (inside_any hT hI h1 hf kLpar kRpar).mono ?_
  rintro e w2 hr
  cases h_2 : insideS T s kLpar kRpar σ with
  | error r =>
    have hq : Hid (atomS T s σ = .error r) := Lib.hid (by unfold atomS; simp only [hk2, hk1, hp, h_2])
    obtain ⟨rfl, k2⟩ := hr.getErr h_2
    clear hr
    go_wp2_with fail
    exact ⟨rfl, RPost.err hq.out ⟨rfl, K1.trans k2⟩⟩
  | ok q2 =>
    obtain ⟨t2, σ2⟩ := q2
    obtain ⟨v, rfl, ⟨tk2, kk2, rfl, at2, ct2⟩, p2, k2⟩ := hr.getOk h_2
    clear hr
    have j_2 := inv_inside hI h1.le h_2
    have i_2 := j_2.1
    try unfold Inv at i_2
    try unfold Inv1 at i_2
    obtain ⟨ta2, tn2, tc2, rfl⟩ := at2.slice
    obtain ⟨ma2, mn2, mc2, rfl⟩ := ct2.slice
    unfold tmVal
    have hR_2 := hR1.kept k2 (by show ¬ w.heap.size = b; omega)
    have hX_2 := hX1.kept k2 (by show ¬ (w.heap.size + 1) = b; omega)
    have K2 := K1.trans k2
    have lb2 := p2.lt
    have zz2 := K2.size
    have zk2 := k2.size
    have lR2 := hR_2.lt
    have lX2 := hX_2.lt
    have hq : Hid (atomS T s σ = .ok (t2, σ2)) := Lib.hid (by unfold atomS; simp only [hk2, hk1, hp, h_2])
    have gA : ∀ i, w2.cell? ⟨w.heap.size, i, none⟩ = [Value.int .i64 0, .string ⟨#[]⟩, .int .i64 0, .int .i64 0, .string ⟨#[]⟩, .slice none 0 0, .slice none 0 0][i]? := hR_2.cell
    have fA : ∀ i, w2.frozen? ⟨w.heap.size, i, none⟩ = false := hR_2.frozen
    have l9 : w.heap.size < w2.heap.size := hR_2.lt
    clear zz1
    go_wp2_with fail
    have zz1 := Z1.out
    refine ret_tm Tryz.results67 hq.out rfl rfl ((r7 hR_2 rfl)) ?_ ?_ ((p7w p2 (by omega) (by omega))) ((k7w K2 (Or.inr (Nat.le_refl _))))
    · exact (at2.frame (same7 (R := w.heap.size) (by omega))).mono (fun k _ h => by omega)
    · exact (ct2.frame (same7 (R := w.heap.size) (by omega))).mono (fun k _ h => by omega)
set_option maxHeartbeats 4000000 in
theorem atom_cur {b : Nat} {s : ByteArray} {f : Nat} {T : TF} {w : World} {σ : PS} (hT : TC b s f T) (hI : TInv s T) (h : PW w b s σ) (hf : 14 * mu s σ ≤ f) (hS : TSm 65536 s T) (hk2 : (σ.k == 2) = false) (hk1 : (σ.k == 1) = false) (hp : isS σ kLpar = false) (hc : isS σ kLcu = true) :
    Calls Tryz.prog 67 #[.pointer (some ⟨b, 0, none⟩)] w (RPost b s (VTm w.heap.size) (atomS T s σ) w) := by
  have hlt := h.lt
  have hgl := h.gl.lt
  have h0 := h.alloc (.cells #[.int .i64 0, .string ⟨#[]⟩, .int .i64 0, .int .i64 0, .string ⟨#[]⟩, .slice none 0 0, .slice none 0 0] 27)
  have hR0 : Blk (w.alloc (.cells #[.int .i64 0, .string ⟨#[]⟩, .int .i64 0, .int .i64 0, .string ⟨#[]⟩, .slice none 0 0, .slice none 0 0] 27)) w.heap.size 27 z27 := Blk.new w 27 z27
  have K0 : Kept (· = b) w (w.alloc (.cells #[.int .i64 0, .string ⟨#[]⟩, .int .i64 0, .int .i64 0, .string ⟨#[]⟩, .slice none 0 0, .slice none 0 0] 27)) := (Kept.refl _ _).alloc _
  have zw0 : (w.alloc (.cells #[.int .i64 0, .string ⟨#[]⟩, .int .i64 0, .int .i64 0, .string ⟨#[]⟩, .slice none 0 0, .slice none 0 0] 27)).heap.size = w.heap.size + 1 := by simp
  have Z0 := Lib.hid zw0
  clear zw0
  have c2 := h0.kd
  have c3 := h0.txt
  have c4 := h0.num
  have c5 := h0.tat
  have h1 := h0.alloc (.cells #[.int .i64 σ.k, .string σ.tx, .int .i64 σ.n, .int .i64 σ.ta] 84)
  have K1 := K0.alloc (.cells #[.int .i64 σ.k, .string σ.tx, .int .i64 σ.n, .int .i64 σ.ta] 84)
  have hR1 := hR0.alloc (.cells #[.int .i64 σ.k, .string σ.tx, .int .i64 σ.n, .int .i64 σ.ta] 84)
  have hX1 : Blk ((w.alloc (.cells #[.int .i64 0, .string ⟨#[]⟩, .int .i64 0, .int .i64 0, .string ⟨#[]⟩, .slice none 0 0, .slice none 0 0] 27)).alloc (.cells #[.int .i64 σ.k, .string σ.tx, .int .i64 σ.n, .int .i64 σ.ta] 84)) (w.heap.size + 1) 84 [.int .i64 σ.k, .string σ.tx, .int .i64 σ.n, .int .i64 σ.ta] := Blk.new' 84 _ (by simp)
  have zw1 : ((w.alloc (.cells #[.int .i64 0, .string ⟨#[]⟩, .int .i64 0, .int .i64 0, .string ⟨#[]⟩, .slice none 0 0, .slice none 0 0] 27)).alloc (.cells #[.int .i64 σ.k, .string σ.tx, .int .i64 σ.n, .int .i64 σ.ta] 84)).heap.size = w.heap.size + 2 := by simp
  have Z1 := Lib.hid zw1
  clear zw1
  go_enter Tryz.func67, Tryz.ntmps67
  go_wp2_with fail
  refine (is_any h1 kLpar hp).mono ?_
  rintro e w' ⟨rfl, rfl⟩
  go_wp2_with fail
  refine (is_any h1 kLcu hc).mono ?_
  rintro e w' ⟨rfl, rfl⟩
  go_wp2_with fail
  have zz1 := Z1.out
  have lo2 := h1.lt
  refine (braces_any hT hI h1 hf hS).mono ?_
  rintro e w2 hr
  cases h_2 : bracesS T s σ with
  | error r =>
    have hq : Hid (atomS T s σ = .error r) := Lib.hid (by unfold atomS; simp only [hk2, hk1, hp, hc, h_2])
    obtain ⟨rfl, k2⟩ := hr.getErr h_2
    clear hr
    go_wp2_with fail
    exact ⟨rfl, RPost.err hq.out ⟨rfl, K1.trans k2⟩⟩
  | ok q2 =>
    obtain ⟨t2, σ2⟩ := q2
    obtain ⟨v, rfl, ⟨tk2, kk2, rfl, at2, ct2⟩, p2, k2⟩ := hr.getOk h_2
    clear hr
    have j_2 := inv_braces hI h1.le h_2
    have i_2 := j_2.1
    try unfold Inv at i_2
    try unfold Inv1 at i_2
    obtain ⟨ta2, tn2, tc2, rfl⟩ := at2.slice
    obtain ⟨ma2, mn2, mc2, rfl⟩ := ct2.slice
    unfold tmVal
    have hR_2 := hR1.kept k2 (by show ¬ w.heap.size = b; omega)
    have hX_2 := hX1.kept k2 (by show ¬ (w.heap.size + 1) = b; omega)
    have K2 := K1.trans k2
    have lb2 := p2.lt
    have zz2 := K2.size
    have zk2 := k2.size
    have lR2 := hR_2.lt
    have lX2 := hX_2.lt
    have hq : Hid (atomS T s σ = .ok (t2, σ2)) := Lib.hid (by unfold atomS; simp only [hk2, hk1, hp, hc, h_2])
    have gA : ∀ i, w2.cell? ⟨w.heap.size, i, none⟩ = [Value.int .i64 0, .string ⟨#[]⟩, .int .i64 0, .int .i64 0, .string ⟨#[]⟩, .slice none 0 0, .slice none 0 0][i]? := hR_2.cell
    have fA : ∀ i, w2.frozen? ⟨w.heap.size, i, none⟩ = false := hR_2.frozen
    have l9 : w.heap.size < w2.heap.size := hR_2.lt
    clear zz1
    go_wp2_with fail
    have zz1 := Z1.out
    refine ret_tm Tryz.results67 hq.out rfl rfl ((r7 hR_2 rfl)) ?_ ?_ ((p7w p2 (by omega) (by omega))) ((k7w K2 (Or.inr (Nat.le_refl _))))
    · exact (at2.frame (same7 (R := w.heap.size) (by omega))).mono (fun k _ h => by omega)
    · exact (ct2.frame (same7 (R := w.heap.size) (by omega))).mono (fun k _ h => by omega)
set_option maxHeartbeats 4000000 in
theorem atom_none {b : Nat} {s : ByteArray} {f : Nat} {T : TF} {w : World} {σ : PS} (hT : TC b s f T) (hI : TInv s T) (h : PW w b s σ) (hf : 14 * mu s σ ≤ f) (hk2 : (σ.k == 2) = false) (hk1 : (σ.k == 1) = false) (hp : isS σ kLpar = false) (hc : isS σ kLcu = false) :
    Calls Tryz.prog 67 #[.pointer (some ⟨b, 0, none⟩)] w (RPost b s (VTm w.heap.size) (atomS T s σ) w) := by
  have hlt := h.lt
  have hgl := h.gl.lt
  have h0 := h.alloc (.cells #[.int .i64 0, .string ⟨#[]⟩, .int .i64 0, .int .i64 0, .string ⟨#[]⟩, .slice none 0 0, .slice none 0 0] 27)
  have hR0 : Blk (w.alloc (.cells #[.int .i64 0, .string ⟨#[]⟩, .int .i64 0, .int .i64 0, .string ⟨#[]⟩, .slice none 0 0, .slice none 0 0] 27)) w.heap.size 27 z27 := Blk.new w 27 z27
  have K0 : Kept (· = b) w (w.alloc (.cells #[.int .i64 0, .string ⟨#[]⟩, .int .i64 0, .int .i64 0, .string ⟨#[]⟩, .slice none 0 0, .slice none 0 0] 27)) := (Kept.refl _ _).alloc _
  have zw0 : (w.alloc (.cells #[.int .i64 0, .string ⟨#[]⟩, .int .i64 0, .int .i64 0, .string ⟨#[]⟩, .slice none 0 0, .slice none 0 0] 27)).heap.size = w.heap.size + 1 := by simp
  have Z0 := Lib.hid zw0
  clear zw0
  have c2 := h0.kd
  have c3 := h0.txt
  have c4 := h0.num
  have c5 := h0.tat
  have h1 := h0.alloc (.cells #[.int .i64 σ.k, .string σ.tx, .int .i64 σ.n, .int .i64 σ.ta] 84)
  have K1 := K0.alloc (.cells #[.int .i64 σ.k, .string σ.tx, .int .i64 σ.n, .int .i64 σ.ta] 84)
  have hR1 := hR0.alloc (.cells #[.int .i64 σ.k, .string σ.tx, .int .i64 σ.n, .int .i64 σ.ta] 84)
  have hX1 : Blk ((w.alloc (.cells #[.int .i64 0, .string ⟨#[]⟩, .int .i64 0, .int .i64 0, .string ⟨#[]⟩, .slice none 0 0, .slice none 0 0] 27)).alloc (.cells #[.int .i64 σ.k, .string σ.tx, .int .i64 σ.n, .int .i64 σ.ta] 84)) (w.heap.size + 1) 84 [.int .i64 σ.k, .string σ.tx, .int .i64 σ.n, .int .i64 σ.ta] := Blk.new' 84 _ (by simp)
  have zw1 : ((w.alloc (.cells #[.int .i64 0, .string ⟨#[]⟩, .int .i64 0, .int .i64 0, .string ⟨#[]⟩, .slice none 0 0, .slice none 0 0] 27)).alloc (.cells #[.int .i64 σ.k, .string σ.tx, .int .i64 σ.n, .int .i64 σ.ta] 84)).heap.size = w.heap.size + 2 := by simp
  have Z1 := Lib.hid zw1
  clear zw1
  go_enter Tryz.func67, Tryz.ntmps67
  go_wp2_with fail
  refine (is_any h1 kLpar hp).mono ?_
  rintro e w' ⟨rfl, rfl⟩
  go_wp2_with fail
  refine (is_any h1 kLcu hc).mono ?_
  rintro e w' ⟨rfl, rfl⟩
  go_wp2_with fail
  have hq : Hid (atomS T s σ = .error (false, σ.ta)) := Lib.hid (by unfold atomS; simp only [hk2, hk1, hp, hc])
  refine (fail_any h1).mono ?_
  rintro e w' ⟨rfl, rfl⟩
  go_wp2_with fail
  exact ⟨rfl, RPost.err hq.out ⟨rfl, K1⟩⟩
theorem atom_any {b : Nat} {s : ByteArray} {f : Nat} {T : TF} {w : World} {σ : PS} (hT : TC b s f T) (hI : TInv s T) (h : PW w b s σ) (hf : 14 * mu s σ ≤ f) (hS : TSm 65536 s T) :
    Calls Tryz.prog 67 #[.pointer (some ⟨b, 0, none⟩)] w (RPost b s (VTm w.heap.size) (atomS T s σ) w) := by
  cases hk2 : (σ.k == 2)
  case true => exact atom_num hT hI h hf hk2
  cases hk1 : (σ.k == 1)
  case true => exact atom_word hT hI h hf hk2 hk1
  cases hp : isS σ kLpar
  case true => exact atom_par hT hI h hf hk2 hk1 hp
  cases hc : isS σ kLcu
  case true => exact atom_cur hT hI h hf hS hk2 hk1 hp hc
  exact atom_none hT hI h hf hk2 hk1 hp hc
end Go.Proofs.YtckjlliobebodaaGreatDoor
