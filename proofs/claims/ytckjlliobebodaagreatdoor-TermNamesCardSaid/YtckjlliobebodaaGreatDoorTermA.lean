/- Readers of terms: the walks. Printed by gen_terms.py. -/
import Derived.Test.YtckjlliobebodaaGreatDoorSeven
namespace Go.Proofs.YtckjlliobebodaaGreatDoor
open Go.RowKit
set_option maxHeartbeats 4000000 in
theorem inside_any {b : Nat} {s : ByteArray} {f : Nat} {T : TF} {w : World} {σ : PS} (hT : TC b s f T) (hI : TInv s T) (h : PW w b s σ) (hf : 14 * mu s σ ≤ f) (o c : ByteArray) :
    Calls Tryz.prog 117 #[.pointer (some ⟨b, 0, none⟩), .string o, .string c] w (RPost b s (VTm w.heap.size) (insideS T s o c σ) w) := by
  have hlt := h.lt
  have hgl := h.gl.lt
  have h0 := h.alloc (.cells #[.int .i64 0, .string ⟨#[]⟩, .int .i64 0, .int .i64 0, .string ⟨#[]⟩, .slice none 0 0, .slice none 0 0] 27)
  have hR0 : Blk (w.alloc (.cells #[.int .i64 0, .string ⟨#[]⟩, .int .i64 0, .int .i64 0, .string ⟨#[]⟩, .slice none 0 0, .slice none 0 0] 27)) w.heap.size 27 z27 := Blk.new w 27 z27
  have K0 : Kept (· = b) w (w.alloc (.cells #[.int .i64 0, .string ⟨#[]⟩, .int .i64 0, .int .i64 0, .string ⟨#[]⟩, .slice none 0 0, .slice none 0 0] 27)) := (Kept.refl _ _).alloc _
  have zw0 : (w.alloc (.cells #[.int .i64 0, .string ⟨#[]⟩, .int .i64 0, .int .i64 0, .string ⟨#[]⟩, .slice none 0 0, .slice none 0 0] 27)).heap.size = w.heap.size + 1 := by simp
  have Z0 := Lib.hid zw0
  clear zw0
  go_enter Tryz.func117, Tryz.ntmps117
  go_wp2_with fail
  cases h_1 : openS s σ o with
  | error r =>
    have hq : Hid (insideS T s o c σ = .error r) := Lib.hid (by unfold insideS; simp only [h_1])
    refine (open_err h0 o h_1).mono ?_
    rintro e w1 ⟨rfl, k1⟩
    go_wp2_with fail
    exact ⟨rfl, RPost.err hq.out ⟨rfl, K0.trans k1⟩⟩
  | ok σ1 =>
    have i_1 := inv_open h0.le h_1
    refine (open_ok h0 o h_1).mono ?_
    rintro e w1 ⟨rfl, p1, k1⟩
    have hR_1 := hR0.kept k1 (by show ¬ w.heap.size = b; omega)
    have K1 := K0.trans k1
    have lb1 := p1.lt
    have zz1 := K1.size
    have zk1 := k1.size
    have lR1 := hR_1.lt
    go_wp2_with fail
    have lo2 := p1.lt
    refine (hT 1 1 rfl σ1 _ (by decide) (by decide) p1 (by omega)).mono ?_
    rintro e w2 hr
    cases h_2 : T 1 σ1 with
    | error r =>
      have hq : Hid (insideS T s o c σ = .error r) := Lib.hid (by unfold insideS; simp only [h_1, h_2])
      obtain ⟨rfl, k2⟩ := hr.getErr h_2
      clear hr
      go_wp2_with fail
      exact ⟨rfl, RPost.err hq.out ⟨rfl, K1.trans k2⟩⟩
    | ok q2 =>
      obtain ⟨t2, σ2⟩ := q2
      obtain ⟨v, rfl, ⟨tk2, kk2, rfl, at2, ct2⟩, p2, k2⟩ := hr.getOk h_2
      clear hr
      have j_2 := hI _ _ _ _ p1.le h_2
      have i_2 := j_2.1
      try unfold Inv at i_2
      try unfold Inv1 at i_2
      obtain ⟨ta2, tn2, tc2, rfl⟩ := at2.slice
      obtain ⟨ma2, mn2, mc2, rfl⟩ := ct2.slice
      unfold tmVal
      have hR_2 := hR_1.kept k2 (by show ¬ w.heap.size = b; omega)
      have K2 := K1.trans k2
      have lb2 := p2.lt
      have zz2 := K2.size
      have zk2 := k2.size
      have lR2 := hR_2.lt
      have h0_2 := p2.alloc (.cells #[.int .i64 t2.op, .string t2.name, .int .i64 t2.n, .int .i64 t2.ty.kind, .string t2.ty.name, .slice ta2 tn2 tc2, .slice ma2 mn2 mc2] 27)
      have K0_2 := K2.alloc (.cells #[.int .i64 t2.op, .string t2.name, .int .i64 t2.n, .int .i64 t2.ty.kind, .string t2.ty.name, .slice ta2 tn2 tc2, .slice ma2 mn2 mc2] 27)
      have hxR_2 := hR_2.alloc (.cells #[.int .i64 t2.op, .string t2.name, .int .i64 t2.n, .int .i64 t2.ty.kind, .string t2.ty.name, .slice ta2 tn2 tc2, .slice ma2 mn2 mc2] 27)
      have hLt2_2 : Blk (w2.alloc (.cells #[.int .i64 t2.op, .string t2.name, .int .i64 t2.n, .int .i64 t2.ty.kind, .string t2.ty.name, .slice ta2 tn2 tc2, .slice ma2 mn2 mc2] 27)) w2.heap.size 27 (tmCells t2 (.slice ta2 tn2 tc2) (.slice ma2 mn2 mc2)) := Blk.new w2 27 _
      have axt2_2 := at2.frame (Same.alloc _ (.cells #[.int .i64 t2.op, .string t2.name, .int .i64 t2.n, .int .i64 t2.ty.kind, .string t2.ty.name, .slice ta2 tn2 tc2, .slice ma2 mn2 mc2] 27))
      have cxt2_2 := ct2.frame (Same.alloc _ (.cells #[.int .i64 t2.op, .string t2.name, .int .i64 t2.n, .int .i64 t2.ty.kind, .string t2.ty.name, .slice ta2 tn2 tc2, .slice ma2 mn2 mc2] 27))
      have zw2 : (w2.alloc (.cells #[.int .i64 t2.op, .string t2.name, .int .i64 t2.n, .int .i64 t2.ty.kind, .string t2.ty.name, .slice ta2 tn2 tc2, .slice ma2 mn2 mc2] 27)).heap.size = w2.heap.size + 1 := by simp
      have Z2 := Lib.hid zw2
      clear zw2
      go_wp2_with fail
      cases h_3 : shutS s σ2 c with
      | error r =>
        have hq : Hid (insideS T s o c σ = .error r) := Lib.hid (by unfold insideS; simp only [h_1, h_2, h_3])
        refine (shut_err h0_2 c h_3).mono ?_
        rintro e w3 ⟨rfl, k3⟩
        go_wp2_with fail
        exact ⟨rfl, RPost.err hq.out ⟨rfl, K0_2.trans k3⟩⟩
      | ok σ3 =>
        have i_3 := inv_shut h0_2.le h_3
        have HN3 := Lib.hid (show 1 ≤ σ2.nest by omega)
        refine (shut_ok h0_2 (HN3).out c h_3).mono ?_
        rintro e w3 ⟨rfl, p3, k3⟩
        have hR_3 := hxR_2.kept k3 (by show ¬ w.heap.size = b; omega)
        have hLt2_3 := hLt2_2.kept k3 (by show ¬ w2.heap.size = b; omega)
        have at2_3 := axt2_2.frame (Same.of_kept k3 (fun k h e => by omega))
        have ct2_3 := cxt2_2.frame (Same.of_kept k3 (fun k h e => by omega))
        have K3 := K0_2.trans k3
        have lb3 := p3.lt
        have zz3 := K3.size
        have zk3 := k3.size
        have lR3 := hR_3.lt
        have lLt23 := hLt2_3.lt
        have hq : Hid (insideS T s o c σ = .ok (t2, σ3)) := Lib.hid (by unfold insideS; simp only [h_1, h_2, h_3])
        have g0 : w3.cell? ⟨w.heap.size, 0, none⟩ = some (.int .i64 0) := hR_3.cell 0
        have f0 : w3.frozen? ⟨w.heap.size, 0, none⟩ = false := hR_3.frozen 0
        have g1 : w3.cell? ⟨w.heap.size, 1, none⟩ = some (.string ⟨#[]⟩) := hR_3.cell 1
        have f1 : w3.frozen? ⟨w.heap.size, 1, none⟩ = false := hR_3.frozen 1
        have g2 : w3.cell? ⟨w.heap.size, 2, none⟩ = some (.int .i64 0) := hR_3.cell 2
        have f2 : w3.frozen? ⟨w.heap.size, 2, none⟩ = false := hR_3.frozen 2
        have g3 : w3.cell? ⟨w.heap.size, 3, none⟩ = some (.int .i64 0) := hR_3.cell 3
        have f3 : w3.frozen? ⟨w.heap.size, 3, none⟩ = false := hR_3.frozen 3
        have g4 : w3.cell? ⟨w.heap.size, 4, none⟩ = some (.string ⟨#[]⟩) := hR_3.cell 4
        have f4 : w3.frozen? ⟨w.heap.size, 4, none⟩ = false := hR_3.frozen 4
        have g5 : w3.cell? ⟨w.heap.size, 5, none⟩ = some (.slice none 0 0) := hR_3.cell 5
        have f5 : w3.frozen? ⟨w.heap.size, 5, none⟩ = false := hR_3.frozen 5
        have g6 : w3.cell? ⟨w.heap.size, 6, none⟩ = some (.slice none 0 0) := hR_3.cell 6
        have f6 : w3.frozen? ⟨w.heap.size, 6, none⟩ = false := hR_3.frozen 6
        have yt20 : w3.cell? ⟨w2.heap.size, 0, none⟩ = some (.int .i64 t2.op) := hLt2_3.cell 0
        have yt21 : w3.cell? ⟨w2.heap.size, 1, none⟩ = some (.string t2.name) := hLt2_3.cell 1
        have yt22 : w3.cell? ⟨w2.heap.size, 2, none⟩ = some (.int .i64 t2.n) := hLt2_3.cell 2
        have yt23 : w3.cell? ⟨w2.heap.size, 3, none⟩ = some (.int .i64 t2.ty.kind) := hLt2_3.cell 3
        have yt24 : w3.cell? ⟨w2.heap.size, 4, none⟩ = some (.string t2.ty.name) := hLt2_3.cell 4
        have yt25 : w3.cell? ⟨w2.heap.size, 5, none⟩ = some (.slice ta2 tn2 tc2) := hLt2_3.cell 5
        have yt26 : w3.cell? ⟨w2.heap.size, 6, none⟩ = some (.slice ma2 mn2 mc2) := hLt2_3.cell 6
        have l9 : w.heap.size < w3.heap.size := hR_3.lt
        go_wp2_with fail
        refine ret_tm Tryz.results117 hq.out rfl rfl ((r7 hR_3 rfl)) ?_ ?_ ((p7w p3 (by omega) (by omega))) ((k7w K3 (Or.inr (Nat.le_refl _))))
        · exact (at2_3.frame (same7 (R := w.heap.size) (by omega))).mono (fun k _ h => by omega)
        · exact (ct2_3.frame (same7 (R := w.heap.size) (by omega))).mono (fun k _ h => by omega)
set_option maxHeartbeats 4000000 in
theorem bound_any {b : Nat} {s : ByteArray} {f : Nat} {T : TF} {w : World} {σ : PS} (hT : TC b s f T) (hI : TInv s T) (h : PW w b s σ) (hf : 14 * mu s σ ≤ f) (op : Int) :
    Calls Tryz.prog 150 #[.pointer (some ⟨b, 0, none⟩), .int .i64 op] w (RPost b s (VTm w.heap.size) (boundS T s op σ) w) := by
  have hlt := h.lt
  have hgl := h.gl.lt
  have h0 := h.alloc (.cells #[.int .i64 0, .string ⟨#[]⟩, .int .i64 0, .int .i64 0, .string ⟨#[]⟩, .slice none 0 0, .slice none 0 0] 27)
  have hR0 : Blk (w.alloc (.cells #[.int .i64 0, .string ⟨#[]⟩, .int .i64 0, .int .i64 0, .string ⟨#[]⟩, .slice none 0 0, .slice none 0 0] 27)) w.heap.size 27 z27 := Blk.new w 27 z27
  have K0 : Kept (· = b) w (w.alloc (.cells #[.int .i64 0, .string ⟨#[]⟩, .int .i64 0, .int .i64 0, .string ⟨#[]⟩, .slice none 0 0, .slice none 0 0] 27)) := (Kept.refl _ _).alloc _
  have zw0 : (w.alloc (.cells #[.int .i64 0, .string ⟨#[]⟩, .int .i64 0, .int .i64 0, .string ⟨#[]⟩, .slice none 0 0, .slice none 0 0] 27)).heap.size = w.heap.size + 1 := by simp
  have Z0 := Lib.hid zw0
  clear zw0
  go_enter Tryz.func150, Tryz.ntmps150
  go_wp2_with fail
  cases h_1 : nameS s σ with
  | error r =>
    have hq : Hid (boundS T s op σ = .error r) := Lib.hid (by unfold boundS; simp only [h_1])
    refine (name_err h0 h_1).mono ?_
    rintro e w1 ⟨rfl, k1⟩
    go_wp2_with fail
    exact ⟨rfl, RPost.err hq.out ⟨rfl, K0.trans k1⟩⟩
  | ok q1 =>
    obtain ⟨x1, σ1⟩ := q1
    have i_1 := inv_name h0.le h_1
    refine (name_ok h0 h_1).mono ?_
    rintro e w1 ⟨rfl, p1, k1⟩
    have hR_1 := hR0.kept k1 (by show ¬ w.heap.size = b; omega)
    have K1 := K0.trans k1
    have lb1 := p1.lt
    have zz1 := K1.size
    have zk1 := k1.size
    have lR1 := hR_1.lt
    go_wp2_with fail
    cases h_2 : wantS s σ1 kIn with
    | error r =>
      have hq : Hid (boundS T s op σ = .error r) := Lib.hid (by unfold boundS; simp only [h_1, h_2])
      refine (want_err p1 kIn h_2).mono ?_
      rintro e w2 ⟨rfl, k2⟩
      go_wp2_with fail
      exact ⟨rfl, RPost.err hq.out ⟨rfl, K1.trans k2⟩⟩
    | ok σ2 =>
      have i_2 := inv_want p1.le h_2
      refine (want_ok p1 kIn h_2).mono ?_
      rintro e w2 ⟨rfl, p2, k2⟩
      have hR_2 := hR_1.kept k2 (by show ¬ w.heap.size = b; omega)
      have K2 := K1.trans k2
      have lb2 := p2.lt
      have zz2 := K2.size
      have zk2 := k2.size
      have lR2 := hR_2.lt
      go_wp2_with fail
      have lo3 := p2.lt
      refine (hT 7 7 rfl σ2 _ (by decide) (by decide) p2 (by omega)).mono ?_
      rintro e w3 hr
      cases h_3 : T 7 σ2 with
      | error r =>
        have hq : Hid (boundS T s op σ = .error r) := Lib.hid (by unfold boundS; simp only [h_1, h_2, h_3])
        obtain ⟨rfl, k3⟩ := hr.getErr h_3
        clear hr
        go_wp2_with fail
        exact ⟨rfl, RPost.err hq.out ⟨rfl, K2.trans k3⟩⟩
      | ok q3 =>
        obtain ⟨t3, σ3⟩ := q3
        obtain ⟨v, rfl, ⟨tk3, kk3, rfl, at3, ct3⟩, p3, k3⟩ := hr.getOk h_3
        clear hr
        have j_3 := hI _ _ _ _ p2.le h_3
        have i_3 := j_3.1
        try unfold Inv at i_3
        try unfold Inv1 at i_3
        obtain ⟨ta3, tn3, tc3, rfl⟩ := at3.slice
        obtain ⟨ma3, mn3, mc3, rfl⟩ := ct3.slice
        unfold tmVal
        have hR_3 := hR_2.kept k3 (by show ¬ w.heap.size = b; omega)
        have K3 := K2.trans k3
        have lb3 := p3.lt
        have zz3 := K3.size
        have zk3 := k3.size
        have lR3 := hR_3.lt
        have h0_3 := p3.alloc (.cells #[.int .i64 t3.op, .string t3.name, .int .i64 t3.n, .int .i64 t3.ty.kind, .string t3.ty.name, .slice ta3 tn3 tc3, .slice ma3 mn3 mc3] 27)
        have K0_3 := K3.alloc (.cells #[.int .i64 t3.op, .string t3.name, .int .i64 t3.n, .int .i64 t3.ty.kind, .string t3.ty.name, .slice ta3 tn3 tc3, .slice ma3 mn3 mc3] 27)
        have hxR_3 := hR_3.alloc (.cells #[.int .i64 t3.op, .string t3.name, .int .i64 t3.n, .int .i64 t3.ty.kind, .string t3.ty.name, .slice ta3 tn3 tc3, .slice ma3 mn3 mc3] 27)
        have hLt3_3 : Blk (w3.alloc (.cells #[.int .i64 t3.op, .string t3.name, .int .i64 t3.n, .int .i64 t3.ty.kind, .string t3.ty.name, .slice ta3 tn3 tc3, .slice ma3 mn3 mc3] 27)) w3.heap.size 27 (tmCells t3 (.slice ta3 tn3 tc3) (.slice ma3 mn3 mc3)) := Blk.new w3 27 _
        have axt3_3 := at3.frame (Same.alloc _ (.cells #[.int .i64 t3.op, .string t3.name, .int .i64 t3.n, .int .i64 t3.ty.kind, .string t3.ty.name, .slice ta3 tn3 tc3, .slice ma3 mn3 mc3] 27))
        have cxt3_3 := ct3.frame (Same.alloc _ (.cells #[.int .i64 t3.op, .string t3.name, .int .i64 t3.n, .int .i64 t3.ty.kind, .string t3.ty.name, .slice ta3 tn3 tc3, .slice ma3 mn3 mc3] 27))
        have zw3 : (w3.alloc (.cells #[.int .i64 t3.op, .string t3.name, .int .i64 t3.n, .int .i64 t3.ty.kind, .string t3.ty.name, .slice ta3 tn3 tc3, .slice ma3 mn3 mc3] 27)).heap.size = w3.heap.size + 1 := by simp
        have Z3 := Lib.hid zw3
        clear zw3
        go_wp2_with fail
        cases h_4 : wantS s σ3 kDot with
        | error r =>
          have hq : Hid (boundS T s op σ = .error r) := Lib.hid (by unfold boundS; simp only [h_1, h_2, h_3, h_4])
          refine (want_err h0_3 kDot h_4).mono ?_
          rintro e w4 ⟨rfl, k4⟩
          go_wp2_with fail
          exact ⟨rfl, RPost.err hq.out ⟨rfl, K0_3.trans k4⟩⟩
        | ok σ4 =>
          have i_4 := inv_want h0_3.le h_4
          refine (want_ok h0_3 kDot h_4).mono ?_
          rintro e w4 ⟨rfl, p4, k4⟩
          have hR_4 := hxR_3.kept k4 (by show ¬ w.heap.size = b; omega)
          have hLt3_4 := hLt3_3.kept k4 (by show ¬ w3.heap.size = b; omega)
          have at3_4 := axt3_3.frame (Same.of_kept k4 (fun k h e => by omega))
          have ct3_4 := cxt3_3.frame (Same.of_kept k4 (fun k h e => by omega))
          have K4 := K0_3.trans k4
          have lb4 := p4.lt
          have zz4 := K4.size
          have zk4 := k4.size
          have lR4 := hR_4.lt
          have lLt34 := hLt3_4.lt
          go_wp2_with fail
          have lo5 := p4.lt
          refine (hT 1 1 rfl σ4 _ (by decide) (by decide) p4 (by omega)).mono ?_
          rintro e w5 hr
          cases h_5 : T 1 σ4 with
          | error r =>
            have hq : Hid (boundS T s op σ = .error r) := Lib.hid (by unfold boundS; simp only [h_1, h_2, h_3, h_4, h_5])
            obtain ⟨rfl, k5⟩ := hr.getErr h_5
            clear hr
            go_wp2_with fail
            exact ⟨rfl, RPost.err hq.out ⟨rfl, K4.trans k5⟩⟩
          | ok q5 =>
            obtain ⟨t5, σ5⟩ := q5
            obtain ⟨v, rfl, ⟨tk5, kk5, rfl, at5, ct5⟩, p5, k5⟩ := hr.getOk h_5
            clear hr
            have j_5 := hI _ _ _ _ p4.le h_5
            have i_5 := j_5.1
            try unfold Inv at i_5
            try unfold Inv1 at i_5
            obtain ⟨ta5, tn5, tc5, rfl⟩ := at5.slice
            obtain ⟨ma5, mn5, mc5, rfl⟩ := ct5.slice
            unfold tmVal
            have hR_5 := hR_4.kept k5 (by show ¬ w.heap.size = b; omega)
            have hLt3_5 := hLt3_4.kept k5 (by show ¬ w3.heap.size = b; omega)
            have at3_5 := at3_4.frame (Same.of_kept k5 (fun k h e => by omega))
            have ct3_5 := ct3_4.frame (Same.of_kept k5 (fun k h e => by omega))
            have K5 := K4.trans k5
            have lb5 := p5.lt
            have zz5 := K5.size
            have zk5 := k5.size
            have lR5 := hR_5.lt
            have lLt35 := hLt3_5.lt
            have hq : Hid (boundS T s op σ = .ok (.mk op x1 0 ty0 [t3, t5], σ5)) := Lib.hid (by unfold boundS; simp only [h_1, h_2, h_3, h_4, h_5])
            have g0 : w5.cell? ⟨w.heap.size, 0, none⟩ = some (.int .i64 0) := hR_5.cell 0
            have f0 : w5.frozen? ⟨w.heap.size, 0, none⟩ = false := hR_5.frozen 0
            have g1 : w5.cell? ⟨w.heap.size, 1, none⟩ = some (.string ⟨#[]⟩) := hR_5.cell 1
            have f1 : w5.frozen? ⟨w.heap.size, 1, none⟩ = false := hR_5.frozen 1
            have g2 : w5.cell? ⟨w.heap.size, 2, none⟩ = some (.int .i64 0) := hR_5.cell 2
            have f2 : w5.frozen? ⟨w.heap.size, 2, none⟩ = false := hR_5.frozen 2
            have g3 : w5.cell? ⟨w.heap.size, 3, none⟩ = some (.int .i64 0) := hR_5.cell 3
            have f3 : w5.frozen? ⟨w.heap.size, 3, none⟩ = false := hR_5.frozen 3
            have g4 : w5.cell? ⟨w.heap.size, 4, none⟩ = some (.string ⟨#[]⟩) := hR_5.cell 4
            have f4 : w5.frozen? ⟨w.heap.size, 4, none⟩ = false := hR_5.frozen 4
            have g5 : w5.cell? ⟨w.heap.size, 5, none⟩ = some (.slice none 0 0) := hR_5.cell 5
            have f5 : w5.frozen? ⟨w.heap.size, 5, none⟩ = false := hR_5.frozen 5
            have g6 : w5.cell? ⟨w.heap.size, 6, none⟩ = some (.slice none 0 0) := hR_5.cell 6
            have f6 : w5.frozen? ⟨w.heap.size, 6, none⟩ = false := hR_5.frozen 6
            have yt30 : w5.cell? ⟨w3.heap.size, 0, none⟩ = some (.int .i64 t3.op) := hLt3_5.cell 0
            have yt31 : w5.cell? ⟨w3.heap.size, 1, none⟩ = some (.string t3.name) := hLt3_5.cell 1
            have yt32 : w5.cell? ⟨w3.heap.size, 2, none⟩ = some (.int .i64 t3.n) := hLt3_5.cell 2
            have yt33 : w5.cell? ⟨w3.heap.size, 3, none⟩ = some (.int .i64 t3.ty.kind) := hLt3_5.cell 3
            have yt34 : w5.cell? ⟨w3.heap.size, 4, none⟩ = some (.string t3.ty.name) := hLt3_5.cell 4
            have yt35 : w5.cell? ⟨w3.heap.size, 5, none⟩ = some (.slice ta3 tn3 tc3) := hLt3_5.cell 5
            have yt36 : w5.cell? ⟨w3.heap.size, 6, none⟩ = some (.slice ma3 mn3 mc3) := hLt3_5.cell 6
            have l9 : w.heap.size < w5.heap.size := hR_5.lt
            go_wp2_with fail
            refine ret_tm Tryz.results150 hq.out rfl rfl ((((r7 hR_5 rfl)).alloc _).alloc _) ?_ ?_ ((((p7w p5 (by omega) (by omega))).alloc _).alloc _) ((((k7w K5 (Or.inr (Nat.le_refl _)))).alloc _).alloc _)
            · exact .nil0
            · exact TmL.two (ty := 27) (by omega) (Nat.le_refl _) (Blk.new' 27 _ (by simp)) ((((at3_5.frame (same7 (R := w.heap.size) (by omega))).frame (Same.alloc _ _)).frame (Same.alloc _ _)).mono (fun k _ h => by omega)) ((((ct3_5.frame (same7 (R := w.heap.size) (by omega))).frame (Same.alloc _ _)).frame (Same.alloc _ _)).mono (fun k _ h => by omega)) ((((at5.frame (same7 (R := w.heap.size) (by omega))).frame (Same.alloc _ _)).frame (Same.alloc _ _)).mono (fun k _ h => by omega)) ((((ct5.frame (same7 (R := w.heap.size) (by omega))).frame (Same.alloc _ _)).frame (Same.alloc _ _)).mono (fun k _ h => by omega))
set_option maxHeartbeats 4000000 in
theorem term_not {b : Nat} {s : ByteArray} {f : Nat} {w : World} {σ : PS} (hT : TC b s f (termS f s)) (h : PW w b s σ) (hf : 14 * mu s σ + (14 - 5) < f + 1) (hi : isS σ kNot = true) :
    Calls Tryz.prog 33 #[.pointer (some ⟨b, 0, none⟩), .int .i64 5] w (RPost b s (VTm w.heap.size) (termS (f + 1) s 5 σ) w) := by
  have hI := inv_term f s
  have HI := Lib.hid hI
  clear hI
  have hlt := h.lt
  have hgl := h.gl.lt
  have h0 := h.alloc (.cells #[.int .i64 0, .string ⟨#[]⟩, .int .i64 0, .int .i64 0, .string ⟨#[]⟩, .slice none 0 0, .slice none 0 0] 27)
  have hR0 : Blk (w.alloc (.cells #[.int .i64 0, .string ⟨#[]⟩, .int .i64 0, .int .i64 0, .string ⟨#[]⟩, .slice none 0 0, .slice none 0 0] 27)) w.heap.size 27 z27 := Blk.new w 27 z27
  have K0 : Kept (· = b) w (w.alloc (.cells #[.int .i64 0, .string ⟨#[]⟩, .int .i64 0, .int .i64 0, .string ⟨#[]⟩, .slice none 0 0, .slice none 0 0] 27)) := (Kept.refl _ _).alloc _
  have zw0 : (w.alloc (.cells #[.int .i64 0, .string ⟨#[]⟩, .int .i64 0, .int .i64 0, .string ⟨#[]⟩, .slice none 0 0, .slice none 0 0] 27)).heap.size = w.heap.size + 1 := by simp
  have Z0 := Lib.hid zw0
  clear zw0
  go_enter Tryz.func33, Tryz.ntmps33
  go_wp2_with fail
  cases h_1 : advS s σ with
  | error r =>
    have hq : Hid (termS (f + 1) s 5 σ = .error r) := Lib.hid (by unfold termS; simp only [hi, show ((5 : Nat) == 5) = true from rfl, show ((5 : Nat) == 13) = false from rfl, h_1])
    refine (eat_bad h0 kNot hi h_1).mono ?_
    rintro e w1 ⟨rfl, k1⟩
    go_wp2_with fail
    exact ⟨rfl, RPost.err hq.out ⟨rfl, K0.trans k1⟩⟩
  | ok σ1 =>
    have i_1 := inv_adv h0.le (isS_ne hi) h_1
    refine (eat_yes h0 kNot hi h_1).mono ?_
    rintro e w1 ⟨rfl, p1, k1⟩
    have hR_1 := hR0.kept k1 (by show ¬ w.heap.size = b; omega)
    have K1 := K0.trans k1
    have lb1 := p1.lt
    have zz1 := K1.size
    have zk1 := k1.size
    have lR1 := hR_1.lt
    go_wp2_with fail
    have lo2 := p1.lt
    refine (hT 5 5 rfl σ1 _ (by decide) (by decide) p1 (by omega)).mono ?_
    rintro e w2 hr
    cases h_2 : termS f s 5 σ1 with
    | error r =>
      have hq : Hid (termS (f + 1) s 5 σ = .error r) := Lib.hid (by unfold termS; simp only [hi, show ((5 : Nat) == 5) = true from rfl, show ((5 : Nat) == 13) = false from rfl, h_1, h_2])
      obtain ⟨rfl, k2⟩ := hr.getErr h_2
      clear hr
      go_wp2_with fail
      exact ⟨rfl, RPost.err hq.out ⟨rfl, K1.trans k2⟩⟩
    | ok q2 =>
      obtain ⟨t2, σ2⟩ := q2
      obtain ⟨v, rfl, ⟨tk2, kk2, rfl, at2, ct2⟩, p2, k2⟩ := hr.getOk h_2
      clear hr
      have j_2 := HI.out _ _ _ _ p1.le h_2
      have i_2 := j_2.1
      try unfold Inv at i_2
      try unfold Inv1 at i_2
      obtain ⟨ta2, tn2, tc2, rfl⟩ := at2.slice
      obtain ⟨ma2, mn2, mc2, rfl⟩ := ct2.slice
      unfold tmVal
      have hR_2 := hR_1.kept k2 (by show ¬ w.heap.size = b; omega)
      have K2 := K1.trans k2
      have lb2 := p2.lt
      have zz2 := K2.size
      have zk2 := k2.size
      have lR2 := hR_2.lt
      have hq : Hid (termS (f + 1) s 5 σ = .ok (nd 3 [t2], σ2)) := Lib.hid (by unfold termS; simp only [hi, show ((5 : Nat) == 5) = true from rfl, show ((5 : Nat) == 13) = false from rfl, h_1, h_2])
      have g0 : w2.cell? ⟨w.heap.size, 0, none⟩ = some (.int .i64 0) := hR_2.cell 0
      have f0 : w2.frozen? ⟨w.heap.size, 0, none⟩ = false := hR_2.frozen 0
      have g1 : w2.cell? ⟨w.heap.size, 1, none⟩ = some (.string ⟨#[]⟩) := hR_2.cell 1
      have f1 : w2.frozen? ⟨w.heap.size, 1, none⟩ = false := hR_2.frozen 1
      have g2 : w2.cell? ⟨w.heap.size, 2, none⟩ = some (.int .i64 0) := hR_2.cell 2
      have f2 : w2.frozen? ⟨w.heap.size, 2, none⟩ = false := hR_2.frozen 2
      have g3 : w2.cell? ⟨w.heap.size, 3, none⟩ = some (.int .i64 0) := hR_2.cell 3
      have f3 : w2.frozen? ⟨w.heap.size, 3, none⟩ = false := hR_2.frozen 3
      have g4 : w2.cell? ⟨w.heap.size, 4, none⟩ = some (.string ⟨#[]⟩) := hR_2.cell 4
      have f4 : w2.frozen? ⟨w.heap.size, 4, none⟩ = false := hR_2.frozen 4
      have g5 : w2.cell? ⟨w.heap.size, 5, none⟩ = some (.slice none 0 0) := hR_2.cell 5
      have f5 : w2.frozen? ⟨w.heap.size, 5, none⟩ = false := hR_2.frozen 5
      have g6 : w2.cell? ⟨w.heap.size, 6, none⟩ = some (.slice none 0 0) := hR_2.cell 6
      have f6 : w2.frozen? ⟨w.heap.size, 6, none⟩ = false := hR_2.frozen 6
      have l9 : w.heap.size < w2.heap.size := hR_2.lt
      go_wp2_with fail
      refine ret_tm Tryz.results33 hq.out rfl rfl (((r7 hR_2 rfl)).alloc _) ?_ ?_ (((p7w p2 (by omega) (by omega))).alloc _) (((k7w K2 (Or.inr (Nat.le_refl _)))).alloc _)
      · exact .nil0
      · exact TmL.one (ty := 27) (by omega) (Nat.le_refl _) (Blk.new' 27 _ (by simp)) (((at2.frame (same7 (R := w.heap.size) (by omega))).frame (Same.alloc _ _)).mono (fun k _ h => by omega)) (((ct2.frame (same7 (R := w.heap.size) (by omega))).frame (Same.alloc _ _)).mono (fun k _ h => by omega))
set_option maxHeartbeats 4000000 in
theorem term_neg {b : Nat} {s : ByteArray} {f : Nat} {w : World} {σ : PS} (hT : TC b s f (termS f s)) (h : PW w b s σ) (hf : 14 * mu s σ + (14 - 13) < f + 1) (hi : isS σ kMinus = true) :
    Calls Tryz.prog 33 #[.pointer (some ⟨b, 0, none⟩), .int .i64 13] w (RPost b s (VTm w.heap.size) (termS (f + 1) s 13 σ) w) := by
  have hI := inv_term f s
  have HI := Lib.hid hI
  clear hI
  have hlt := h.lt
  have hgl := h.gl.lt
  have h0 := h.alloc (.cells #[.int .i64 0, .string ⟨#[]⟩, .int .i64 0, .int .i64 0, .string ⟨#[]⟩, .slice none 0 0, .slice none 0 0] 27)
  have hR0 : Blk (w.alloc (.cells #[.int .i64 0, .string ⟨#[]⟩, .int .i64 0, .int .i64 0, .string ⟨#[]⟩, .slice none 0 0, .slice none 0 0] 27)) w.heap.size 27 z27 := Blk.new w 27 z27
  have K0 : Kept (· = b) w (w.alloc (.cells #[.int .i64 0, .string ⟨#[]⟩, .int .i64 0, .int .i64 0, .string ⟨#[]⟩, .slice none 0 0, .slice none 0 0] 27)) := (Kept.refl _ _).alloc _
  have zw0 : (w.alloc (.cells #[.int .i64 0, .string ⟨#[]⟩, .int .i64 0, .int .i64 0, .string ⟨#[]⟩, .slice none 0 0, .slice none 0 0] 27)).heap.size = w.heap.size + 1 := by simp
  have Z0 := Lib.hid zw0
  clear zw0
  go_enter Tryz.func33, Tryz.ntmps33
  go_wp2_with fail
  cases h_1 : advS s σ with
  | error r =>
    have hq : Hid (termS (f + 1) s 13 σ = .error r) := Lib.hid (by unfold termS; simp only [hi, show ((13 : Nat) == 5) = false from rfl, show ((13 : Nat) == 13) = true from rfl, h_1])
    refine (eat_bad h0 kMinus hi h_1).mono ?_
    rintro e w1 ⟨rfl, k1⟩
    go_wp2_with fail
    exact ⟨rfl, RPost.err hq.out ⟨rfl, K0.trans k1⟩⟩
  | ok σ1 =>
    have i_1 := inv_adv h0.le (isS_ne hi) h_1
    refine (eat_yes h0 kMinus hi h_1).mono ?_
    rintro e w1 ⟨rfl, p1, k1⟩
    have hR_1 := hR0.kept k1 (by show ¬ w.heap.size = b; omega)
    have K1 := K0.trans k1
    have lb1 := p1.lt
    have zz1 := K1.size
    have zk1 := k1.size
    have lR1 := hR_1.lt
    go_wp2_with fail
    have lo2 := p1.lt
    refine (hT 13 13 rfl σ1 _ (by decide) (by decide) p1 (by omega)).mono ?_
    rintro e w2 hr
    cases h_2 : termS f s 13 σ1 with
    | error r =>
      have hq : Hid (termS (f + 1) s 13 σ = .error r) := Lib.hid (by unfold termS; simp only [hi, show ((13 : Nat) == 5) = false from rfl, show ((13 : Nat) == 13) = true from rfl, h_1, h_2])
      obtain ⟨rfl, k2⟩ := hr.getErr h_2
      clear hr
      go_wp2_with fail
      exact ⟨rfl, RPost.err hq.out ⟨rfl, K1.trans k2⟩⟩
    | ok q2 =>
      obtain ⟨t2, σ2⟩ := q2
      obtain ⟨v, rfl, ⟨tk2, kk2, rfl, at2, ct2⟩, p2, k2⟩ := hr.getOk h_2
      clear hr
      have j_2 := HI.out _ _ _ _ p1.le h_2
      have i_2 := j_2.1
      try unfold Inv at i_2
      try unfold Inv1 at i_2
      obtain ⟨ta2, tn2, tc2, rfl⟩ := at2.slice
      obtain ⟨ma2, mn2, mc2, rfl⟩ := ct2.slice
      unfold tmVal
      have hR_2 := hR_1.kept k2 (by show ¬ w.heap.size = b; omega)
      have K2 := K1.trans k2
      have lb2 := p2.lt
      have zz2 := K2.size
      have zk2 := k2.size
      have lR2 := hR_2.lt
      have hq : Hid (termS (f + 1) s 13 σ = .ok (nd 21 [t2], σ2)) := Lib.hid (by unfold termS; simp only [hi, show ((13 : Nat) == 5) = false from rfl, show ((13 : Nat) == 13) = true from rfl, h_1, h_2])
      have g0 : w2.cell? ⟨w.heap.size, 0, none⟩ = some (.int .i64 0) := hR_2.cell 0
      have f0 : w2.frozen? ⟨w.heap.size, 0, none⟩ = false := hR_2.frozen 0
      have g1 : w2.cell? ⟨w.heap.size, 1, none⟩ = some (.string ⟨#[]⟩) := hR_2.cell 1
      have f1 : w2.frozen? ⟨w.heap.size, 1, none⟩ = false := hR_2.frozen 1
      have g2 : w2.cell? ⟨w.heap.size, 2, none⟩ = some (.int .i64 0) := hR_2.cell 2
      have f2 : w2.frozen? ⟨w.heap.size, 2, none⟩ = false := hR_2.frozen 2
      have g3 : w2.cell? ⟨w.heap.size, 3, none⟩ = some (.int .i64 0) := hR_2.cell 3
      have f3 : w2.frozen? ⟨w.heap.size, 3, none⟩ = false := hR_2.frozen 3
      have g4 : w2.cell? ⟨w.heap.size, 4, none⟩ = some (.string ⟨#[]⟩) := hR_2.cell 4
      have f4 : w2.frozen? ⟨w.heap.size, 4, none⟩ = false := hR_2.frozen 4
      have g5 : w2.cell? ⟨w.heap.size, 5, none⟩ = some (.slice none 0 0) := hR_2.cell 5
      have f5 : w2.frozen? ⟨w.heap.size, 5, none⟩ = false := hR_2.frozen 5
      have g6 : w2.cell? ⟨w.heap.size, 6, none⟩ = some (.slice none 0 0) := hR_2.cell 6
      have f6 : w2.frozen? ⟨w.heap.size, 6, none⟩ = false := hR_2.frozen 6
      have l9 : w.heap.size < w2.heap.size := hR_2.lt
      go_wp2_with fail
      refine ret_tm Tryz.results33 hq.out rfl rfl (((r7 hR_2 rfl)).alloc _) ?_ ?_ (((p7w p2 (by omega) (by omega))).alloc _) (((k7w K2 (Or.inr (Nat.le_refl _)))).alloc _)
      · exact .nil0
      · exact TmL.one (ty := 27) (by omega) (Nat.le_refl _) (Blk.new' 27 _ (by simp)) (((at2.frame (same7 (R := w.heap.size) (by omega))).frame (Same.alloc _ _)).mono (fun k _ h => by omega)) (((ct2.frame (same7 (R := w.heap.size) (by omega))).frame (Same.alloc _ _)).mono (fun k _ h => by omega))
set_option maxHeartbeats 4000000 in
theorem term_six {b : Nat} {s : ByteArray} {f : Nat} {w : World} {σ : PS} (hT : TC b s f (termS f s)) (h : PW w b s σ) (hf : 14 * mu s σ + (14 - 5) < f + 1) (hi : isS σ kNot = false) :
    Calls Tryz.prog 33 #[.pointer (some ⟨b, 0, none⟩), .int .i64 5] w (RPost b s (VTm w.heap.size) (termS (f + 1) s 5 σ) w) := by
  have hI := inv_term f s
  have HI := Lib.hid hI
  clear hI
  have hlt := h.lt
  have hgl := h.gl.lt
  have h0 := h.alloc (.cells #[.int .i64 0, .string ⟨#[]⟩, .int .i64 0, .int .i64 0, .string ⟨#[]⟩, .slice none 0 0, .slice none 0 0] 27)
  have hR0 : Blk (w.alloc (.cells #[.int .i64 0, .string ⟨#[]⟩, .int .i64 0, .int .i64 0, .string ⟨#[]⟩, .slice none 0 0, .slice none 0 0] 27)) w.heap.size 27 z27 := Blk.new w 27 z27
  have K0 : Kept (· = b) w (w.alloc (.cells #[.int .i64 0, .string ⟨#[]⟩, .int .i64 0, .int .i64 0, .string ⟨#[]⟩, .slice none 0 0, .slice none 0 0] 27)) := (Kept.refl _ _).alloc _
  have zw0 : (w.alloc (.cells #[.int .i64 0, .string ⟨#[]⟩, .int .i64 0, .int .i64 0, .string ⟨#[]⟩, .slice none 0 0, .slice none 0 0] 27)).heap.size = w.heap.size + 1 := by simp
  have Z0 := Lib.hid zw0
  clear zw0
  go_enter Tryz.func33, Tryz.ntmps33
  go_wp2_with fail
  refine (eat_no h0 kNot hi).mono ?_
  rintro e w' ⟨rfl, rfl⟩
  go_wp2_with fail
  have lo1 := h0.lt
  have zz0 := Z0.out
  refine (hT 6 6 rfl σ _ (by decide) (by decide) h0 (by omega)).mono ?_
  clear zz0
  rintro e w1 hr
  cases h_1 : termS f s 6 σ with
  | error r =>
    have hq : Hid (termS (f + 1) s 5 σ = .error r) := Lib.hid (by unfold termS; simp only [hi, show ((5 : Nat) == 5) = true from rfl, show ((5 : Nat) == 13) = false from rfl, h_1])
    obtain ⟨rfl, k1⟩ := hr.getErr h_1
    clear hr
    go_wp2_with fail
    exact ⟨rfl, RPost.err hq.out ⟨rfl, K0.trans k1⟩⟩
  | ok q1 =>
    obtain ⟨t1, σ1⟩ := q1
    obtain ⟨v, rfl, ⟨tk1, kk1, rfl, at1, ct1⟩, p1, k1⟩ := hr.getOk h_1
    clear hr
    have j_1 := HI.out _ _ _ _ h0.le h_1
    have i_1 := j_1.1
    try unfold Inv at i_1
    try unfold Inv1 at i_1
    obtain ⟨ta1, tn1, tc1, rfl⟩ := at1.slice
    obtain ⟨ma1, mn1, mc1, rfl⟩ := ct1.slice
    unfold tmVal
    have hR_1 := hR0.kept k1 (by show ¬ w.heap.size = b; omega)
    have K1 := K0.trans k1
    have lb1 := p1.lt
    have zz1 := K1.size
    have zk1 := k1.size
    have lR1 := hR_1.lt
    have hq : Hid (termS (f + 1) s 5 σ = .ok (t1, σ1)) := Lib.hid (by unfold termS; simp only [hi, show ((5 : Nat) == 5) = true from rfl, show ((5 : Nat) == 13) = false from rfl, h_1])
    have g0 : w1.cell? ⟨w.heap.size, 0, none⟩ = some (.int .i64 0) := hR_1.cell 0
    have f0 : w1.frozen? ⟨w.heap.size, 0, none⟩ = false := hR_1.frozen 0
    have g1 : w1.cell? ⟨w.heap.size, 1, none⟩ = some (.string ⟨#[]⟩) := hR_1.cell 1
    have f1 : w1.frozen? ⟨w.heap.size, 1, none⟩ = false := hR_1.frozen 1
    have g2 : w1.cell? ⟨w.heap.size, 2, none⟩ = some (.int .i64 0) := hR_1.cell 2
    have f2 : w1.frozen? ⟨w.heap.size, 2, none⟩ = false := hR_1.frozen 2
    have g3 : w1.cell? ⟨w.heap.size, 3, none⟩ = some (.int .i64 0) := hR_1.cell 3
    have f3 : w1.frozen? ⟨w.heap.size, 3, none⟩ = false := hR_1.frozen 3
    have g4 : w1.cell? ⟨w.heap.size, 4, none⟩ = some (.string ⟨#[]⟩) := hR_1.cell 4
    have f4 : w1.frozen? ⟨w.heap.size, 4, none⟩ = false := hR_1.frozen 4
    have g5 : w1.cell? ⟨w.heap.size, 5, none⟩ = some (.slice none 0 0) := hR_1.cell 5
    have f5 : w1.frozen? ⟨w.heap.size, 5, none⟩ = false := hR_1.frozen 5
    have g6 : w1.cell? ⟨w.heap.size, 6, none⟩ = some (.slice none 0 0) := hR_1.cell 6
    have f6 : w1.frozen? ⟨w.heap.size, 6, none⟩ = false := hR_1.frozen 6
    have l9 : w.heap.size < w1.heap.size := hR_1.lt
    go_wp2_with fail
    have zz0 := Z0.out
    refine ret_tm Tryz.results33 hq.out rfl rfl ((r7 hR_1 rfl)) ?_ ?_ ((p7w p1 (by omega) (by omega))) ((k7w K1 (Or.inr (Nat.le_refl _))))
    · exact (at1.frame (same7 (R := w.heap.size) (by omega))).mono (fun k _ h => by omega)
    · exact (ct1.frame (same7 (R := w.heap.size) (by omega))).mono (fun k _ h => by omega)
end Go.Proofs.YtckjlliobebodaaGreatDoor
