/- Texts RErr ROp RTyp RIns of this proof, in one. -/
import Derived.Test.YtckjlliobebodaaGreatDoorBb8
import Derived.Test.YtckjlliobebodaaGreatDoorBb1
set_option linter.unusedVariables false
set_option linter.unusedSimpArgs false
namespace Go.Proofs.YtckjlliobebodaaGreatDoor
open Go.RowKit
def tm00 : Tm := .mk 0 ⟨#[]⟩ 0 ty0 []
set_option maxHeartbeats 1000000 in
theorem rop_err {w : World} {b : Nat} {s x : ByteArray} {a nest at_ e : Int} (h : RAt w b s 5 x a nest at_ e) (m : Int) : Calls Tryz.prog 125 #[.pointer (some ⟨b, 0, none⟩), .int .i64 m] w fun r w' => r = .returned (.int .i64 0) ∧ w = w' := by
  have c1 := h.c1
  go_enter Tryz.func125, Tryz.ntmps125
  go_wp2_with fail
  go_ret
  exact ⟨rfl, rfl⟩
set_option maxHeartbeats 4000000 in
theorem rtyp_err {w : World} {b : Nat} {s : ByteArray} {r : ER} (h : RR w b s (.error r)) : Calls Tryz.prog 44 #[.pointer (some ⟨b, 0, none⟩)] w (LV b s (VTy w.heap.size) (.error r) w) := by
  have hs := h.src
  have hlt := h.lt
  have hR0 : Blk (w.alloc (.cells #[.int .i64 0, .string ⟨#[]⟩, .slice none 0 0] 24)) w.heap.size 24 z24 := Blk.new w 24 z24
  rcases h.err with ⟨hd, x, nest, hat⟩ | ⟨k, x, a, nest, hat⟩
  · have hat0 := hat.grow (((Kept.refl _ _).alloc (.cells #[.int .i64 0, .string ⟨#[]⟩, .slice none 0 0] 24)).alloc (.cells #[.int .i64 5, .string x, .int .i64 r.2] 55))
    have hR1 := hR0.alloc (.cells #[.int .i64 5, .string x, .int .i64 r.2] 55)
    have K1 : Kept (· = b) w ((w.alloc (.cells #[.int .i64 0, .string ⟨#[]⟩, .slice none 0 0] 24)).alloc (.cells #[.int .i64 5, .string x, .int .i64 r.2] 55)) := ((Kept.refl _ _).alloc _).alloc _
    have hT1 : Blk ((w.alloc (.cells #[.int .i64 0, .string ⟨#[]⟩, .slice none 0 0] 24)).alloc (.cells #[.int .i64 5, .string x, .int .i64 r.2] 55)) (w.heap.size + 1) 55 [.int .i64 5, .string x, .int .i64 r.2] := Blk.new' 55 _ (by simp)
    have hat1 := hat.grow ((Kept.refl _ _).alloc (.cells #[.int .i64 0, .string ⟨#[]⟩, .slice none 0 0] 24))
    have c1 := hat1.c1
    have c2 := hat1.c2
    have c3 := hat1.c3
    go_enter Tryz.func44, Tryz.ntmps44
    go_wp2_with fail
    generalize ((w.alloc (.cells #[.int .i64 0, .string ⟨#[]⟩, .slice none 0 0] 24)).alloc (.cells #[.int .i64 5, .string x, .int .i64 r.2] 55)) = w1 at *
    refine (rok_any hat0 rfl).mono ?_
    rintro e w' ⟨rfl, rfl⟩
    have t0 : w1.cell? ⟨w.heap.size + 1, 0, none⟩ = some (.int .i64 5) := hT1.cell 0
    have t1 : w1.cell? ⟨w.heap.size + 1, 1, none⟩ = some (.string x) := hT1.cell 1
    go_wp2_with (go_at_call 74; refine (ris_any hat0 _ (v := false) rfl).mono ?_; rintro e w' ⟨rfl, rfl⟩)
    refine (rwrong_live hat0 rfl).mono ?_
    rintro e w2 ⟨rfl, h2, k2⟩
    have hR2 := hR1.kept k2 (by show ¬ w.heap.size = b; omega)
    have ag0 : w2.cell? ⟨w.heap.size, 0, none⟩ = some (.int .i64 0) := hR2.cell 0
    have af0 : w2.frozen? ⟨w.heap.size, 0, none⟩ = false := hR2.frozen 0
    have ag1 : w2.cell? ⟨w.heap.size, 1, none⟩ = some (.string ⟨#[]⟩) := hR2.cell 1
    have af1 : w2.frozen? ⟨w.heap.size, 1, none⟩ = false := hR2.frozen 1
    have ag2 : w2.cell? ⟨w.heap.size, 2, none⟩ = some (.slice none 0 0) := hR2.cell 2
    have af2 : w2.frozen? ⟨w.heap.size, 2, none⟩ = false := hR2.frozen 2
    go_wp2_with fail
    have LL : LE b s (.error r : Except ER (Ty × PS)) ty0 w2 := RR.wrong hs hd h2
    exact ret_lty Tryz.results44 (t := ty0) rfl rfl (r3 hR2 rfl) (.nil (Or.inl rfl)) (LL.s3 (by omega)) (k3w (K1.trans k2) (Nat.le_refl _))
  · have hat0 := hat.grow (((Kept.refl _ _).alloc (.cells #[.int .i64 0, .string ⟨#[]⟩, .slice none 0 0] 24)).alloc (.cells #[.int .i64 k, .string x, .int .i64 a] 55))
    have hR1 := hR0.alloc (.cells #[.int .i64 k, .string x, .int .i64 a] 55)
    have K1 : Kept (· = b) w ((w.alloc (.cells #[.int .i64 0, .string ⟨#[]⟩, .slice none 0 0] 24)).alloc (.cells #[.int .i64 k, .string x, .int .i64 a] 55)) := ((Kept.refl _ _).alloc _).alloc _
    have hT1 : Blk ((w.alloc (.cells #[.int .i64 0, .string ⟨#[]⟩, .slice none 0 0] 24)).alloc (.cells #[.int .i64 k, .string x, .int .i64 a] 55)) (w.heap.size + 1) 55 [.int .i64 k, .string x, .int .i64 a] := Blk.new' 55 _ (by simp)
    have hat1 := hat.grow ((Kept.refl _ _).alloc (.cells #[.int .i64 0, .string ⟨#[]⟩, .slice none 0 0] 24))
    have c1 := hat1.c1
    have c2 := hat1.c2
    have c3 := hat1.c3
    go_enter Tryz.func44, Tryz.ntmps44
    go_wp2_with fail
    generalize ((w.alloc (.cells #[.int .i64 0, .string ⟨#[]⟩, .slice none 0 0] 24)).alloc (.cells #[.int .i64 k, .string x, .int .i64 a] 55)) = w1 at *
    refine (rok_any hat0 (e_dead _)).mono ?_
    rintro e w' ⟨rfl, rfl⟩
    have ag0 : w1.cell? ⟨w.heap.size, 0, none⟩ = some (.int .i64 0) := hR1.cell 0
    have af0 : w1.frozen? ⟨w.heap.size, 0, none⟩ = false := hR1.frozen 0
    have ag1 : w1.cell? ⟨w.heap.size, 1, none⟩ = some (.string ⟨#[]⟩) := hR1.cell 1
    have af1 : w1.frozen? ⟨w.heap.size, 1, none⟩ = false := hR1.frozen 1
    have ag2 : w1.cell? ⟨w.heap.size, 2, none⟩ = some (.slice none 0 0) := hR1.cell 2
    have af2 : w1.frozen? ⟨w.heap.size, 2, none⟩ = false := hR1.frozen 2
    go_wp2_with fail
    have LL : LE b s (.error r : Except ER (Ty × PS)) ty0 _ := RR.known hs hat0
    exact ret_lty Tryz.results44 (t := ty0) rfl rfl (r3 hR1 rfl) (.nil (Or.inl rfl)) (LL.s3 (by omega)) (k3w K1 (Nat.le_refl _))
set_option maxHeartbeats 4000000 in
theorem ratom_err {w : World} {b : Nat} {s : ByteArray} {r : ER} (h : RR w b s (.error r)) : Calls Tryz.prog 123 #[.pointer (some ⟨b, 0, none⟩)] w (LV b s (VTm w.heap.size) (.error r) w) := by
  have hs := h.src
  have hlt := h.lt
  have hR0 : Blk (w.alloc (.cells #[.int .i64 0, .string ⟨#[]⟩, .int .i64 0, .int .i64 0, .string ⟨#[]⟩, .slice none 0 0, .slice none 0 0] 27)) w.heap.size 27 z27 := Blk.new w 27 z27
  rcases h.err with ⟨hd, x, nest, hat⟩ | ⟨k, x, a, nest, hat⟩
  · have hat0 := hat.grow (((Kept.refl _ _).alloc (.cells #[.int .i64 0, .string ⟨#[]⟩, .int .i64 0, .int .i64 0, .string ⟨#[]⟩, .slice none 0 0, .slice none 0 0] 27)).alloc (.cells #[.int .i64 5, .string x, .int .i64 r.2] 55))
    have hR1 := hR0.alloc (.cells #[.int .i64 5, .string x, .int .i64 r.2] 55)
    have K1 : Kept (· = b) w ((w.alloc (.cells #[.int .i64 0, .string ⟨#[]⟩, .int .i64 0, .int .i64 0, .string ⟨#[]⟩, .slice none 0 0, .slice none 0 0] 27)).alloc (.cells #[.int .i64 5, .string x, .int .i64 r.2] 55)) := ((Kept.refl _ _).alloc _).alloc _
    have hT1 : Blk ((w.alloc (.cells #[.int .i64 0, .string ⟨#[]⟩, .int .i64 0, .int .i64 0, .string ⟨#[]⟩, .slice none 0 0, .slice none 0 0] 27)).alloc (.cells #[.int .i64 5, .string x, .int .i64 r.2] 55)) (w.heap.size + 1) 55 [.int .i64 5, .string x, .int .i64 r.2] := Blk.new' 55 _ (by simp)
    have hat1 := hat.grow ((Kept.refl _ _).alloc (.cells #[.int .i64 0, .string ⟨#[]⟩, .int .i64 0, .int .i64 0, .string ⟨#[]⟩, .slice none 0 0, .slice none 0 0] 27))
    have c1 := hat1.c1
    have c2 := hat1.c2
    have c3 := hat1.c3
    go_enter Tryz.func123, Tryz.ntmps123
    go_wp2_with fail
    generalize ((w.alloc (.cells #[.int .i64 0, .string ⟨#[]⟩, .int .i64 0, .int .i64 0, .string ⟨#[]⟩, .slice none 0 0, .slice none 0 0] 27)).alloc (.cells #[.int .i64 5, .string x, .int .i64 r.2] 55)) = w1 at *
    refine (rok_any hat0 rfl).mono ?_
    rintro e w' ⟨rfl, rfl⟩
    have t0 : w1.cell? ⟨w.heap.size + 1, 0, none⟩ = some (.int .i64 5) := hT1.cell 0
    have t1 : w1.cell? ⟨w.heap.size + 1, 1, none⟩ = some (.string x) := hT1.cell 1
    go_wp2_with (go_at_call 74; refine (ris_any hat0 _ (v := false) rfl).mono ?_; rintro e w' ⟨rfl, rfl⟩)
    refine (rwrong_live hat0 rfl).mono ?_
    rintro e w2 ⟨rfl, h2, k2⟩
    have hR2 := hR1.kept k2 (by show ¬ w.heap.size = b; omega)
    have agA : ∀ i, w2.cell? ⟨w.heap.size, i, none⟩ = [Value.int .i64 0, .string ⟨#[]⟩, .int .i64 0, .int .i64 0, .string ⟨#[]⟩, .slice none 0 0, .slice none 0 0][i]? := hR2.cell
    have afA : ∀ i, w2.frozen? ⟨w.heap.size, i, none⟩ = false := hR2.frozen
    go_wp2_with fail
    have LL : LE b s (.error r : Except ER (Tm × PS)) tm00 w2 := RR.wrong hs hd h2
    exact ret_lv Tryz.results123 (t := tm00) rfl rfl (r7 hR2 rfl) (.nil (Or.inl rfl)) (.nil (Or.inl rfl)) (LL.s7 (by omega)) (k7w (K1.trans k2) (Or.inr (Nat.le_refl _)))
  · have hat0 := hat.grow (((Kept.refl _ _).alloc (.cells #[.int .i64 0, .string ⟨#[]⟩, .int .i64 0, .int .i64 0, .string ⟨#[]⟩, .slice none 0 0, .slice none 0 0] 27)).alloc (.cells #[.int .i64 k, .string x, .int .i64 a] 55))
    have hR1 := hR0.alloc (.cells #[.int .i64 k, .string x, .int .i64 a] 55)
    have K1 : Kept (· = b) w ((w.alloc (.cells #[.int .i64 0, .string ⟨#[]⟩, .int .i64 0, .int .i64 0, .string ⟨#[]⟩, .slice none 0 0, .slice none 0 0] 27)).alloc (.cells #[.int .i64 k, .string x, .int .i64 a] 55)) := ((Kept.refl _ _).alloc _).alloc _
    have hT1 : Blk ((w.alloc (.cells #[.int .i64 0, .string ⟨#[]⟩, .int .i64 0, .int .i64 0, .string ⟨#[]⟩, .slice none 0 0, .slice none 0 0] 27)).alloc (.cells #[.int .i64 k, .string x, .int .i64 a] 55)) (w.heap.size + 1) 55 [.int .i64 k, .string x, .int .i64 a] := Blk.new' 55 _ (by simp)
    have hat1 := hat.grow ((Kept.refl _ _).alloc (.cells #[.int .i64 0, .string ⟨#[]⟩, .int .i64 0, .int .i64 0, .string ⟨#[]⟩, .slice none 0 0, .slice none 0 0] 27))
    have c1 := hat1.c1
    have c2 := hat1.c2
    have c3 := hat1.c3
    go_enter Tryz.func123, Tryz.ntmps123
    go_wp2_with fail
    generalize ((w.alloc (.cells #[.int .i64 0, .string ⟨#[]⟩, .int .i64 0, .int .i64 0, .string ⟨#[]⟩, .slice none 0 0, .slice none 0 0] 27)).alloc (.cells #[.int .i64 k, .string x, .int .i64 a] 55)) = w1 at *
    refine (rok_any hat0 (e_dead _)).mono ?_
    rintro e w' ⟨rfl, rfl⟩
    have agA : ∀ i, w1.cell? ⟨w.heap.size, i, none⟩ = [Value.int .i64 0, .string ⟨#[]⟩, .int .i64 0, .int .i64 0, .string ⟨#[]⟩, .slice none 0 0, .slice none 0 0][i]? := hR1.cell
    have afA : ∀ i, w1.frozen? ⟨w.heap.size, i, none⟩ = false := hR1.frozen
    go_wp2_with fail
    have LL : LE b s (.error r : Except ER (Tm × PS)) tm00 _ := RR.known hs hat0
    exact ret_lv Tryz.results123 (t := tm00) rfl rfl (r7 hR1 rfl) (.nil (Or.inl rfl)) (.nil (Or.inl rfl)) (LL.s7 (by omega)) (k7w K1 (Or.inr (Nat.le_refl _)))
set_option maxHeartbeats 4000000 in
theorem rpost_err {w : World} {b : Nat} {s : ByteArray} {r : ER} (h : RR w b s (.error r)) : Calls Tryz.prog 76 #[.pointer (some ⟨b, 0, none⟩)] w (LV b s (VTm w.heap.size) (.error r) w) := by
  have hlt := h.lt
  have h0 := h.alloc (.cells #[.int .i64 0, .string ⟨#[]⟩, .int .i64 0, .int .i64 0, .string ⟨#[]⟩, .slice none 0 0, .slice none 0 0] 27)
  have hR0 : Blk (w.alloc (.cells #[.int .i64 0, .string ⟨#[]⟩, .int .i64 0, .int .i64 0, .string ⟨#[]⟩, .slice none 0 0, .slice none 0 0] 27)) w.heap.size 27 z27 := Blk.new w 27 z27
  have K0 : Kept (· = b) w (w.alloc (.cells #[.int .i64 0, .string ⟨#[]⟩, .int .i64 0, .int .i64 0, .string ⟨#[]⟩, .slice none 0 0, .slice none 0 0] 27)) := (Kept.refl _ _).alloc _
  have zw0 : (w.alloc (.cells #[.int .i64 0, .string ⟨#[]⟩, .int .i64 0, .int .i64 0, .string ⟨#[]⟩, .slice none 0 0, .slice none 0 0] 27)).heap.size = w.heap.size + 1 := by simp
  have Z0 := Lib.hid zw0
  clear zw0
  go_enter Tryz.func76, Tryz.ntmps76
  go_wp2_with fail
  refine (ratom_err h0).mono ?_
  rintro e w1 ⟨t, v, rfl, ⟨tk, kk, rfl, at1, ct1⟩, le1, k1⟩
  obtain ⟨ta, tn, tc, rfl⟩ := at1.slice
  obtain ⟨ma, mn, mc, rfl⟩ := ct1.slice
  unfold tmVal
  have hR1 := (hR0.kept k1 (by show ¬ w.heap.size = b; omega)).alloc (.cells #[.int .i64 t.op, .string t.name, .int .i64 t.n, .int .i64 t.ty.kind, .string t.ty.name, .slice ta tn tc, .slice ma mn mc] 27)
  have lR := (hR0.kept k1 (by show ¬ w.heap.size = b; omega)).lt
  have K1 := (K0.trans k1).alloc (.cells #[.int .i64 t.op, .string t.name, .int .i64 t.n, .int .i64 t.ty.kind, .string t.ty.name, .slice ta tn tc, .slice ma mn mc] 27)
  have L1 := le1.alloc (.cells #[.int .i64 t.op, .string t.name, .int .i64 t.n, .int .i64 t.ty.kind, .string t.ty.name, .slice ta tn tc, .slice ma mn mc] 27)
  have R1 : RR _ b s (.error r) := L1
  have hT : Blk (w1.alloc (.cells #[.int .i64 t.op, .string t.name, .int .i64 t.n, .int .i64 t.ty.kind, .string t.ty.name, .slice ta tn tc, .slice ma mn mc] 27)) w1.heap.size 27 (tmCells t (.slice ta tn tc) (.slice ma mn mc)) := Blk.new _ 27 _
  have a1 := at1.frame (Same.alloc _ (.cells #[.int .i64 t.op, .string t.name, .int .i64 t.n, .int .i64 t.ty.kind, .string t.ty.name, .slice ta tn tc, .slice ma mn mc] 27))
  have c1 := ct1.frame (Same.alloc _ (.cells #[.int .i64 t.op, .string t.name, .int .i64 t.n, .int .i64 t.ty.kind, .string t.ty.name, .slice ta tn tc, .slice ma mn mc] 27))
  have ha : w.heap.size + 1 = (w.alloc (.cells #[.int .i64 0, .string ⟨#[]⟩, .int .i64 0, .int .i64 0, .string ⟨#[]⟩, .slice none 0 0, .slice none 0 0] 27)).heap.size := Z0.out.symm
  have HA := Lib.hid ha
  clear ha
  have zk := k1.size
  go_wp2_with fail
  generalize (w1.alloc (.cells #[.int .i64 t.op, .string t.name, .int .i64 t.n, .int .i64 t.ty.kind, .string t.ty.name, .slice ta tn tc, .slice ma mn mc] 27)) = w2 at *
  rcases R1.err with ⟨hd, x, nest, hat⟩ | ⟨k, x, a, nest, hat⟩
  · have ag0 : w2.cell? ⟨w.heap.size, 0, none⟩ = some (.int .i64 0) := hR1.cell 0
    have af0 : w2.frozen? ⟨w.heap.size, 0, none⟩ = false := hR1.frozen 0
    have ag1 : w2.cell? ⟨w.heap.size, 1, none⟩ = some (.string ⟨#[]⟩) := hR1.cell 1
    have af1 : w2.frozen? ⟨w.heap.size, 1, none⟩ = false := hR1.frozen 1
    have ag2 : w2.cell? ⟨w.heap.size, 2, none⟩ = some (.int .i64 0) := hR1.cell 2
    have af2 : w2.frozen? ⟨w.heap.size, 2, none⟩ = false := hR1.frozen 2
    have ag3 : w2.cell? ⟨w.heap.size, 3, none⟩ = some (.int .i64 0) := hR1.cell 3
    have af3 : w2.frozen? ⟨w.heap.size, 3, none⟩ = false := hR1.frozen 3
    have ag4 : w2.cell? ⟨w.heap.size, 4, none⟩ = some (.string ⟨#[]⟩) := hR1.cell 4
    have af4 : w2.frozen? ⟨w.heap.size, 4, none⟩ = false := hR1.frozen 4
    have ag5 : w2.cell? ⟨w.heap.size, 5, none⟩ = some (.slice none 0 0) := hR1.cell 5
    have af5 : w2.frozen? ⟨w.heap.size, 5, none⟩ = false := hR1.frozen 5
    have ag6 : w2.cell? ⟨w.heap.size, 6, none⟩ = some (.slice none 0 0) := hR1.cell 6
    have af6 : w2.frozen? ⟨w.heap.size, 6, none⟩ = false := hR1.frozen 6
    have tgA : ∀ i, w2.cell? ⟨w1.heap.size, i, none⟩ = [Value.int .i64 t.op, .string t.name, .int .i64 t.n, .int .i64 t.ty.kind, .string t.ty.name, .slice ta tn tc, .slice ma mn mc][i]? := hT.cell
    go_loopg [4] 1 (fun m _ wr => wr = w2)
    case atStart => rfl
    case round =>
     obtain rfl := hrel
     go_wp2_with (first | (go_at_call 38; refine (rok_any hat rfl).mono ?_; rintro e w' ⟨rfl, rfl⟩) | (go_at_call 74; refine (ris_any hat _ (v := false) rfl).mono ?_; rintro e w' ⟨rfl, rfl⟩))
     have LL : LE b s (.error r : RT) t _ := L1
     refine ret_lv Tryz.results76 (t := t) rfl rfl (r7 hR1 rfl) ?_ ?_ (LL.s7 (by omega)) (k7w K1 (Or.inr (Nat.le_refl _)))
     · exact (a1.frame (same7 (R := w.heap.size) (by have := HA.out; omega))).mono (fun k _ h => by have := HA.out; omega)
     · exact (c1.frame (same7 (R := w.heap.size) (by have := HA.out; omega))).mono (fun k _ h => by have := HA.out; omega)
  · have ag0 : w2.cell? ⟨w.heap.size, 0, none⟩ = some (.int .i64 0) := hR1.cell 0
    have af0 : w2.frozen? ⟨w.heap.size, 0, none⟩ = false := hR1.frozen 0
    have ag1 : w2.cell? ⟨w.heap.size, 1, none⟩ = some (.string ⟨#[]⟩) := hR1.cell 1
    have af1 : w2.frozen? ⟨w.heap.size, 1, none⟩ = false := hR1.frozen 1
    have ag2 : w2.cell? ⟨w.heap.size, 2, none⟩ = some (.int .i64 0) := hR1.cell 2
    have af2 : w2.frozen? ⟨w.heap.size, 2, none⟩ = false := hR1.frozen 2
    have ag3 : w2.cell? ⟨w.heap.size, 3, none⟩ = some (.int .i64 0) := hR1.cell 3
    have af3 : w2.frozen? ⟨w.heap.size, 3, none⟩ = false := hR1.frozen 3
    have ag4 : w2.cell? ⟨w.heap.size, 4, none⟩ = some (.string ⟨#[]⟩) := hR1.cell 4
    have af4 : w2.frozen? ⟨w.heap.size, 4, none⟩ = false := hR1.frozen 4
    have ag5 : w2.cell? ⟨w.heap.size, 5, none⟩ = some (.slice none 0 0) := hR1.cell 5
    have af5 : w2.frozen? ⟨w.heap.size, 5, none⟩ = false := hR1.frozen 5
    have ag6 : w2.cell? ⟨w.heap.size, 6, none⟩ = some (.slice none 0 0) := hR1.cell 6
    have af6 : w2.frozen? ⟨w.heap.size, 6, none⟩ = false := hR1.frozen 6
    have tgA : ∀ i, w2.cell? ⟨w1.heap.size, i, none⟩ = [Value.int .i64 t.op, .string t.name, .int .i64 t.n, .int .i64 t.ty.kind, .string t.ty.name, .slice ta tn tc, .slice ma mn mc][i]? := hT.cell
    go_loopg [4] 1 (fun m _ wr => wr = w2)
    case atStart => rfl
    case round =>
     obtain rfl := hrel
     go_wp2_with ((go_at_call 38; refine (rok_any hat (e_dead _)).mono ?_; rintro e w' ⟨rfl, rfl⟩))
     have LL : LE b s (.error r : RT) t _ := L1
     refine ret_lv Tryz.results76 (t := t) rfl rfl (r7 hR1 rfl) ?_ ?_ (LL.s7 (by omega)) (k7w K1 (Or.inr (Nat.le_refl _)))
     · exact (a1.frame (same7 (R := w.heap.size) (by have := HA.out; omega))).mono (fun k _ h => by have := HA.out; omega)
     · exact (c1.frame (same7 (R := w.heap.size) (by have := HA.out; omega))).mono (fun k _ h => by have := HA.out; omega)
set_option maxHeartbeats 4000000 in
theorem rmore_err {w : World} {b : Nat} {s : ByteArray} {r : ER} (h : RR w b s (.error r)) {t : Tm} {tk kk : Value} {n0 : Nat} (hn0 : n0 ≤ w.heap.size) (at1 : TyL (fun k => n0 ≤ k) w t.ty.kids tk) (ct1 : TmL (fun k => n0 ≤ k) w t.kids kk) (m : Int) : Calls Tryz.prog 77 #[.pointer (some ⟨b, 0, none⟩), tmVal t tk kk, .int .i64 m] w (LV b s (VTm n0) (.error r) w) := by
  have hlt := h.lt
  obtain ⟨ta, tn, tc, rfl⟩ := at1.slice
  obtain ⟨ma, mn, mc, rfl⟩ := ct1.slice
  unfold tmVal
  have h0 := (h.alloc (.cells #[.int .i64 t.op, .string t.name, .int .i64 t.n, .int .i64 t.ty.kind, .string t.ty.name, .slice ta tn tc, .slice ma mn mc] 27)).alloc (.cells #[.int .i64 0, .string ⟨#[]⟩, .int .i64 0, .int .i64 0, .string ⟨#[]⟩, .slice none 0 0, .slice none 0 0] 27)
  have hT : Blk ((w.alloc (.cells #[.int .i64 t.op, .string t.name, .int .i64 t.n, .int .i64 t.ty.kind, .string t.ty.name, .slice ta tn tc, .slice ma mn mc] 27)).alloc (.cells #[.int .i64 0, .string ⟨#[]⟩, .int .i64 0, .int .i64 0, .string ⟨#[]⟩, .slice none 0 0, .slice none 0 0] 27)) w.heap.size 27 (tmCells t (.slice ta tn tc) (.slice ma mn mc)) := (Blk.new w 27 _).alloc _
  have hR1 : Blk ((w.alloc (.cells #[.int .i64 t.op, .string t.name, .int .i64 t.n, .int .i64 t.ty.kind, .string t.ty.name, .slice ta tn tc, .slice ma mn mc] 27)).alloc (.cells #[.int .i64 0, .string ⟨#[]⟩, .int .i64 0, .int .i64 0, .string ⟨#[]⟩, .slice none 0 0, .slice none 0 0] 27)) (w.heap.size + 1) 27 z27 := Blk.new' 27 z27 (by simp)
  have K1 : Kept (· = b) w ((w.alloc (.cells #[.int .i64 t.op, .string t.name, .int .i64 t.n, .int .i64 t.ty.kind, .string t.ty.name, .slice ta tn tc, .slice ma mn mc] 27)).alloc (.cells #[.int .i64 0, .string ⟨#[]⟩, .int .i64 0, .int .i64 0, .string ⟨#[]⟩, .slice none 0 0, .slice none 0 0] 27)) := ((Kept.refl _ _).alloc _).alloc _
  have a1 := ((at1.mono (ok' := okk n0 w.heap.size (w.heap.size + 1)) (fun k hk h => ⟨h, by omega, by omega⟩)).frame (Same.alloc _ (.cells #[.int .i64 t.op, .string t.name, .int .i64 t.n, .int .i64 t.ty.kind, .string t.ty.name, .slice ta tn tc, .slice ma mn mc] 27))).frame (Same.alloc _ (.cells #[.int .i64 0, .string ⟨#[]⟩, .int .i64 0, .int .i64 0, .string ⟨#[]⟩, .slice none 0 0, .slice none 0 0] 27))
  have c1 := ((ct1.mono (ok' := okk n0 w.heap.size (w.heap.size + 1)) (fun k hk h => ⟨h, by omega, by omega⟩)).frame (Same.alloc _ (.cells #[.int .i64 t.op, .string t.name, .int .i64 t.n, .int .i64 t.ty.kind, .string t.ty.name, .slice ta tn tc, .slice ma mn mc] 27))).frame (Same.alloc _ (.cells #[.int .i64 0, .string ⟨#[]⟩, .int .i64 0, .int .i64 0, .string ⟨#[]⟩, .slice none 0 0, .slice none 0 0] 27))
  go_enter Tryz.func77, Tryz.ntmps77
  go_upto_region 1 with (fail)
  generalize ((w.alloc (.cells #[.int .i64 t.op, .string t.name, .int .i64 t.n, .int .i64 t.ty.kind, .string t.ty.name, .slice ta tn tc, .slice ma mn mc] 27)).alloc (.cells #[.int .i64 0, .string ⟨#[]⟩, .int .i64 0, .int .i64 0, .string ⟨#[]⟩, .slice none 0 0, .slice none 0 0] 27)) = w2 at *
  have L1 : LE b s (.error r : RT) t w2 := h0
  rcases h0.err with ⟨hd, x, nest, hat⟩ | ⟨k, x, a, nest, hat⟩
  · have ag0 : w2.cell? ⟨w.heap.size + 1, 0, none⟩ = some (.int .i64 0) := hR1.cell 0
    have af0 : w2.frozen? ⟨w.heap.size + 1, 0, none⟩ = false := hR1.frozen 0
    have ag1 : w2.cell? ⟨w.heap.size + 1, 1, none⟩ = some (.string ⟨#[]⟩) := hR1.cell 1
    have af1 : w2.frozen? ⟨w.heap.size + 1, 1, none⟩ = false := hR1.frozen 1
    have ag2 : w2.cell? ⟨w.heap.size + 1, 2, none⟩ = some (.int .i64 0) := hR1.cell 2
    have af2 : w2.frozen? ⟨w.heap.size + 1, 2, none⟩ = false := hR1.frozen 2
    have ag3 : w2.cell? ⟨w.heap.size + 1, 3, none⟩ = some (.int .i64 0) := hR1.cell 3
    have af3 : w2.frozen? ⟨w.heap.size + 1, 3, none⟩ = false := hR1.frozen 3
    have ag4 : w2.cell? ⟨w.heap.size + 1, 4, none⟩ = some (.string ⟨#[]⟩) := hR1.cell 4
    have af4 : w2.frozen? ⟨w.heap.size + 1, 4, none⟩ = false := hR1.frozen 4
    have ag5 : w2.cell? ⟨w.heap.size + 1, 5, none⟩ = some (.slice none 0 0) := hR1.cell 5
    have af5 : w2.frozen? ⟨w.heap.size + 1, 5, none⟩ = false := hR1.frozen 5
    have ag6 : w2.cell? ⟨w.heap.size + 1, 6, none⟩ = some (.slice none 0 0) := hR1.cell 6
    have af6 : w2.frozen? ⟨w.heap.size + 1, 6, none⟩ = false := hR1.frozen 6
    have tgA : ∀ i, w2.cell? ⟨w.heap.size, i, none⟩ = [Value.int .i64 t.op, .string t.name, .int .i64 t.n, .int .i64 t.ty.kind, .string t.ty.name, .slice ta tn tc, .slice ma mn mc][i]? := hT.cell
    go_loopg [8] 1 (fun m _ wr => wr = w2)
    case atStart => rfl
    case round =>
     obtain rfl := hrel
     go_wp2_with (first | (go_at_call 38; refine (rok_any hat rfl).mono ?_; rintro e w' ⟨rfl, rfl⟩) | (go_at_call 125; refine (rop_err hat _).mono ?_; rintro e w' ⟨rfl, rfl⟩))
     refine ret_lv Tryz.results77 (t := t) rfl rfl (r7 hR1 rfl) ?_ ?_ (L1.s7 (by omega)) (k7w K1 (Or.inr (by omega)))
     · exact (a1.frame (same7k (Or.inr rfl))).mono (fun k _ h => h.1)
     · exact (c1.frame (same7k (Or.inr rfl))).mono (fun k _ h => h.1)
  · have ag0 : w2.cell? ⟨w.heap.size + 1, 0, none⟩ = some (.int .i64 0) := hR1.cell 0
    have af0 : w2.frozen? ⟨w.heap.size + 1, 0, none⟩ = false := hR1.frozen 0
    have ag1 : w2.cell? ⟨w.heap.size + 1, 1, none⟩ = some (.string ⟨#[]⟩) := hR1.cell 1
    have af1 : w2.frozen? ⟨w.heap.size + 1, 1, none⟩ = false := hR1.frozen 1
    have ag2 : w2.cell? ⟨w.heap.size + 1, 2, none⟩ = some (.int .i64 0) := hR1.cell 2
    have af2 : w2.frozen? ⟨w.heap.size + 1, 2, none⟩ = false := hR1.frozen 2
    have ag3 : w2.cell? ⟨w.heap.size + 1, 3, none⟩ = some (.int .i64 0) := hR1.cell 3
    have af3 : w2.frozen? ⟨w.heap.size + 1, 3, none⟩ = false := hR1.frozen 3
    have ag4 : w2.cell? ⟨w.heap.size + 1, 4, none⟩ = some (.string ⟨#[]⟩) := hR1.cell 4
    have af4 : w2.frozen? ⟨w.heap.size + 1, 4, none⟩ = false := hR1.frozen 4
    have ag5 : w2.cell? ⟨w.heap.size + 1, 5, none⟩ = some (.slice none 0 0) := hR1.cell 5
    have af5 : w2.frozen? ⟨w.heap.size + 1, 5, none⟩ = false := hR1.frozen 5
    have ag6 : w2.cell? ⟨w.heap.size + 1, 6, none⟩ = some (.slice none 0 0) := hR1.cell 6
    have af6 : w2.frozen? ⟨w.heap.size + 1, 6, none⟩ = false := hR1.frozen 6
    have tgA : ∀ i, w2.cell? ⟨w.heap.size, i, none⟩ = [Value.int .i64 t.op, .string t.name, .int .i64 t.n, .int .i64 t.ty.kind, .string t.ty.name, .slice ta tn tc, .slice ma mn mc][i]? := hT.cell
    go_loopg [8] 1 (fun m _ wr => wr = w2)
    case atStart => rfl
    case round =>
     obtain rfl := hrel
     go_wp2_with ((go_at_call 38; refine (rok_any hat (e_dead _)).mono ?_; rintro e w' ⟨rfl, rfl⟩))
     refine ret_lv Tryz.results77 (t := t) rfl rfl (r7 hR1 rfl) ?_ ?_ (L1.s7 (by omega)) (k7w K1 (Or.inr (by omega)))
     · exact (a1.frame (same7k (Or.inr rfl))).mono (fun k _ h => h.1)
     · exact (c1.frame (same7k (Or.inr rfl))).mono (fun k _ h => h.1)
set_option maxRecDepth 10000 in
set_option maxHeartbeats 4000000 in
theorem rterm_err (d : Nat) : ∀ (w : World) (b : Nat) (s : ByteArray) (r : ER) (h : RR w b s (.error r)) (n : Nat) (m : Int) (hm : m = n) (hn : n + d = 14), Calls Tryz.prog 36 #[.pointer (some ⟨b, 0, none⟩), .int .i64 m] w (LV b s (VTm w.heap.size) (.error r) w) := by
  induction d with
  | zero =>
    intro w b s r h n m hm hn
    obtain rfl : n = 14 := by omega
    subst hm
    have hs := h.src
    have hlt := h.lt
    have h0 := h.alloc (.cells #[.int .i64 0, .string ⟨#[]⟩, .int .i64 0, .int .i64 0, .string ⟨#[]⟩, .slice none 0 0, .slice none 0 0] 27)
    have hR0 : Blk (w.alloc (.cells #[.int .i64 0, .string ⟨#[]⟩, .int .i64 0, .int .i64 0, .string ⟨#[]⟩, .slice none 0 0, .slice none 0 0] 27)) w.heap.size 27 z27 := Blk.new w 27 z27
    have K0 : Kept (· = b) w (w.alloc (.cells #[.int .i64 0, .string ⟨#[]⟩, .int .i64 0, .int .i64 0, .string ⟨#[]⟩, .slice none 0 0, .slice none 0 0] 27)) := (Kept.refl _ _).alloc _
    have HZ : Hid ((w.alloc (.cells #[.int .i64 0, .string ⟨#[]⟩, .int .i64 0, .int .i64 0, .string ⟨#[]⟩, .slice none 0 0, .slice none 0 0] 27)).heap.size = w.heap.size + 1) := Lib.hid (by simp)
    go_enter Tryz.func36, Tryz.ntmps36
    go_wp2_with fail
    generalize (w.alloc (.cells #[.int .i64 0, .string ⟨#[]⟩, .int .i64 0, .int .i64 0, .string ⟨#[]⟩, .slice none 0 0, .slice none 0 0] 27)) = w1 at *
    have agA : ∀ i, w1.cell? ⟨w.heap.size, i, none⟩ = [Value.int .i64 0, .string ⟨#[]⟩, .int .i64 0, .int .i64 0, .string ⟨#[]⟩, .slice none 0 0, .slice none 0 0][i]? := hR0.cell
    have afA : ∀ i, w1.frozen? ⟨w.heap.size, i, none⟩ = false := hR0.frozen
    rcases h0.err with ⟨hd, x, nest, hat⟩ | ⟨k, x, a, nest, hat⟩
    · refine (rok_any hat rfl).mono ?_
      rintro e w' ⟨rfl, rfl⟩
      go_wp2_with fail
      refine (rpost_err h0).mono ?_
      rintro e w4 ⟨t, v, rfl, ⟨tk, kk, rfl, at1, ct1⟩, le1, k1⟩
      have zz := HZ.out
      have HY := Lib.hid zz
      have hR4 := hR0.kept k1 (by show ¬ w.heap.size = b; omega)
      clear zz
      obtain ⟨ta, tn, tc, rfl⟩ := at1.slice
      obtain ⟨ma, mn, mc, rfl⟩ := ct1.slice
      unfold tmVal
      have bgA : ∀ i, w4.cell? ⟨w.heap.size, i, none⟩ = [Value.int .i64 0, .string ⟨#[]⟩, .int .i64 0, .int .i64 0, .string ⟨#[]⟩, .slice none 0 0, .slice none 0 0][i]? := hR4.cell
      have bfA : ∀ i, w4.frozen? ⟨w.heap.size, i, none⟩ = false := hR4.frozen
      go_wp2_with fail
      refine ret_lv Tryz.results36 (t := t) rfl rfl (r7 hR4 rfl) ?_ ?_ (le1.s7 (by omega)) (k7w (K0.trans k1) (Or.inr (Nat.le_refl _)))
      · exact (at1.frame (same7 (R := w.heap.size) (by have := HY.out; omega))).mono (fun k _ h => by have := HY.out; omega)
      · exact (ct1.frame (same7 (R := w.heap.size) (by have := HY.out; omega))).mono (fun k _ h => by have := HY.out; omega)
    · refine (rok_any hat (e_dead _)).mono ?_
      rintro e w' ⟨rfl, rfl⟩
      go_wp2_with fail
      have LL : LE b s (.error r : RT) tm00 _ := RR.known hs hat
      exact ret_lv Tryz.results36 (t := tm00) rfl rfl (r7 hR0 rfl) (.nil (Or.inl rfl)) (.nil (Or.inl rfl)) (LL.s7 (by omega)) (k7w K0 (Or.inr (Nat.le_refl _)))
  | succ d ih =>
    intro w b s r h n m hm hn
    have hn14 : ((n : Int) == 14) = false := by rw [beq_eq_false_iff_ne]; omega
    have hn' : n + 1 + d = 14 := by omega
    clear hn
    subst hm
    have IH := Lib.hid ih
    clear ih
    have hs := h.src
    have hlt := h.lt
    have h0 := h.alloc (.cells #[.int .i64 0, .string ⟨#[]⟩, .int .i64 0, .int .i64 0, .string ⟨#[]⟩, .slice none 0 0, .slice none 0 0] 27)
    have hR0 : Blk (w.alloc (.cells #[.int .i64 0, .string ⟨#[]⟩, .int .i64 0, .int .i64 0, .string ⟨#[]⟩, .slice none 0 0, .slice none 0 0] 27)) w.heap.size 27 z27 := Blk.new w 27 z27
    have K0 : Kept (· = b) w (w.alloc (.cells #[.int .i64 0, .string ⟨#[]⟩, .int .i64 0, .int .i64 0, .string ⟨#[]⟩, .slice none 0 0, .slice none 0 0] 27)) := (Kept.refl _ _).alloc _
    have HZ : Hid ((w.alloc (.cells #[.int .i64 0, .string ⟨#[]⟩, .int .i64 0, .int .i64 0, .string ⟨#[]⟩, .slice none 0 0, .slice none 0 0] 27)).heap.size = w.heap.size + 1) := Lib.hid (by simp)
    go_enter Tryz.func36, Tryz.ntmps36
    go_wp2_with fail
    generalize (w.alloc (.cells #[.int .i64 0, .string ⟨#[]⟩, .int .i64 0, .int .i64 0, .string ⟨#[]⟩, .slice none 0 0, .slice none 0 0] 27)) = w1 at *
    have agA : ∀ i, w1.cell? ⟨w.heap.size, i, none⟩ = [Value.int .i64 0, .string ⟨#[]⟩, .int .i64 0, .int .i64 0, .string ⟨#[]⟩, .slice none 0 0, .slice none 0 0][i]? := hR0.cell
    have afA : ∀ i, w1.frozen? ⟨w.heap.size, i, none⟩ = false := hR0.frozen
    rcases h0.err with ⟨hd, x, nest, hat⟩ | ⟨k, x, a, nest, hat⟩
    · cases h5 : ((n : Int) == 5) <;> cases h13 : ((n : Int) == 13)
      all_goals
        refine (rok_any hat rfl).mono ?_
        rintro e w' ⟨rfl, rfl⟩
        go_wp2_with (go_at_call 74; refine (ris_any hat _ (v := false) rfl).mono ?_; rintro e w' ⟨rfl, rfl⟩)
        refine (IH.out _ _ _ _ h0 (n + 1) ((n : Int) + 1) (by omega) hn').mono ?_
        rintro e w3 ⟨t, v, rfl, ⟨tk, kk, rfl, at1, ct1⟩, le1, k1⟩
        have zz := HZ.out
        have HY := Lib.hid zz
        have zk := k1.size
        have hR3 := hR0.kept k1 (by show ¬ w.heap.size = b; omega)
        clear zz
        obtain ⟨ta, tn, tc, rfl⟩ := at1.slice
        obtain ⟨ma, mn, mc, rfl⟩ := ct1.slice
        go_wp2_with fail
        refine (rmore_err (show RR w3 b s (.error r) from le1) zk at1 ct1 _).mono ?_
        rintro e w4 ⟨t2, v, rfl, ⟨tk2, kk2, rfl, at2, ct2⟩, le2, k2⟩
        have hR4 := hR3.kept k2 (by show ¬ w.heap.size = b; omega)
        obtain ⟨ta2, tn2, tc2, rfl⟩ := at2.slice
        obtain ⟨ma2, mn2, mc2, rfl⟩ := ct2.slice
        unfold tmVal
        have bgA : ∀ i, w4.cell? ⟨w.heap.size, i, none⟩ = [Value.int .i64 0, .string ⟨#[]⟩, .int .i64 0, .int .i64 0, .string ⟨#[]⟩, .slice none 0 0, .slice none 0 0][i]? := hR4.cell
        have bfA : ∀ i, w4.frozen? ⟨w.heap.size, i, none⟩ = false := hR4.frozen
        go_wp2_with fail
        refine ret_lv Tryz.results36 (t := t2) rfl rfl (r7 hR4 rfl) ?_ ?_ (le2.s7 (by omega)) (k7w ((K0.trans k1).trans k2) (Or.inr (Nat.le_refl _)))
        · exact (at2.frame (same7 (R := w.heap.size) (by have := HY.out; omega))).mono (fun k _ h => by have := HY.out; omega)
        · exact (ct2.frame (same7 (R := w.heap.size) (by have := HY.out; omega))).mono (fun k _ h => by have := HY.out; omega)
    · refine (rok_any hat (e_dead _)).mono ?_
      rintro e w' ⟨rfl, rfl⟩
      go_wp2_with fail
      have LL : LE b s (.error r : RT) tm00 _ := RR.known hs hat
      exact ret_lv Tryz.results36 (t := tm00) rfl rfl (r7 hR0 rfl) (.nil (Or.inl rfl)) (.nil (Or.inl rfl)) (LL.s7 (by omega)) (k7w K0 (Or.inr (Nat.le_refl _)))
def lookB {β : Type} (x : List UInt8) (d : β) : List (List UInt8 × β) → β
  | [] => d
  | e :: l => if x == e.1 then e.2 else lookB x d l
theorem look_not {β : Type} {x : List UInt8} {d : β} {l : List (List UInt8 × β)} (h : ∀ e, e ∈ l → (x == e.1) = false) : lookB x d l = d := by
  induction l with
  | nil => rfl
  | cons e l ih => unfold lookB; rw [h e (List.mem_cons_self ..)]; exact ih (fun e' he => h e' (List.mem_cons_of_mem _ he))
def cmpTab : List (List UInt8 × Int) := [([61], 10), ([47, 61], 11), ([60], 12), ([60, 61], 13), ([62], 14), ([62, 61], 15), ([105, 110], 16), ([110, 111, 116, 105, 110], 17), ([115, 117, 98], 18)]
set_option maxHeartbeats 4000000 in
theorem rcmp_any (s : ByteArray) (w : World) : Calls Tryz.prog 170 #[.string s] w fun e w' => e = .returned (.int .i64 (lookB s.toList 0 cmpTab)) ∧ w = w' := by
  cases h0 : (s.toList == [61])
  case true =>
    have hk := Lib.hid (show lookB s.toList 0 cmpTab = 10 by rw [eq_of_beq h0]; rfl)
    go_enter Tryz.func170, Tryz.ntmps170
    go_wp2_with fail
    go_ret
    exact ⟨by rw [hk.out]; rfl, rfl⟩
  cases h1 : (s.toList == [47, 61])
  case true =>
    have hk := Lib.hid (show lookB s.toList 0 cmpTab = 11 by rw [eq_of_beq h1]; rfl)
    go_enter Tryz.func170, Tryz.ntmps170
    go_wp2_with fail
    go_ret
    exact ⟨by rw [hk.out]; rfl, rfl⟩
  cases h2 : (s.toList == [60])
  case true =>
    have hk := Lib.hid (show lookB s.toList 0 cmpTab = 12 by rw [eq_of_beq h2]; rfl)
    go_enter Tryz.func170, Tryz.ntmps170
    go_wp2_with fail
    go_ret
    exact ⟨by rw [hk.out]; rfl, rfl⟩
  cases h3 : (s.toList == [60, 61])
  case true =>
    have hk := Lib.hid (show lookB s.toList 0 cmpTab = 13 by rw [eq_of_beq h3]; rfl)
    go_enter Tryz.func170, Tryz.ntmps170
    go_wp2_with fail
    go_ret
    exact ⟨by rw [hk.out]; rfl, rfl⟩
  cases h4 : (s.toList == [62])
  case true =>
    have hk := Lib.hid (show lookB s.toList 0 cmpTab = 14 by rw [eq_of_beq h4]; rfl)
    go_enter Tryz.func170, Tryz.ntmps170
    go_wp2_with fail
    go_ret
    exact ⟨by rw [hk.out]; rfl, rfl⟩
  cases h5 : (s.toList == [62, 61])
  case true =>
    have hk := Lib.hid (show lookB s.toList 0 cmpTab = 15 by rw [eq_of_beq h5]; rfl)
    go_enter Tryz.func170, Tryz.ntmps170
    go_wp2_with fail
    go_ret
    exact ⟨by rw [hk.out]; rfl, rfl⟩
  cases h6 : (s.toList == [105, 110])
  case true =>
    have hk := Lib.hid (show lookB s.toList 0 cmpTab = 16 by rw [eq_of_beq h6]; rfl)
    go_enter Tryz.func170, Tryz.ntmps170
    go_wp2_with fail
    go_ret
    exact ⟨by rw [hk.out]; rfl, rfl⟩
  cases h7 : (s.toList == [110, 111, 116, 105, 110])
  case true =>
    have hk := Lib.hid (show lookB s.toList 0 cmpTab = 17 by rw [eq_of_beq h7]; rfl)
    go_enter Tryz.func170, Tryz.ntmps170
    go_wp2_with fail
    go_ret
    exact ⟨by rw [hk.out]; rfl, rfl⟩
  cases h8 : (s.toList == [115, 117, 98])
  case true =>
    have hk := Lib.hid (show lookB s.toList 0 cmpTab = 18 by rw [eq_of_beq h8]; rfl)
    go_enter Tryz.func170, Tryz.ntmps170
    go_wp2_with fail
    go_ret
    exact ⟨by rw [hk.out]; rfl, rfl⟩
  have hk := Lib.hid (show lookB s.toList 0 cmpTab = 0 by simp only [lookB, cmpTab, h0, h1, h2, h3, h4, h5, h6, h7, h8]; rfl)
  go_enter Tryz.func170, Tryz.ntmps170
  go_wp2_with fail
  go_ret
  exact ⟨by rw [hk.out]; rfl, rfl⟩
theorem rcmp_t {s : ByteArray} {v : Int} (h : lookB s.toList 0 cmpTab = v) (w : World) : Calls Tryz.prog 170 #[.string s] w fun e w' => e = .returned (.int .i64 v) ∧ w = w' := by rw [← h]; exact rcmp_any s w
def funTab : List (List UInt8 × Int) := [([60, 45, 62], 41), ([43, 45, 62], 42), ([45, 45, 62], 43), ([62, 45, 62], 44), ([62, 45, 62, 62], 45)]
set_option maxHeartbeats 4000000 in
theorem rfun_any (s : ByteArray) (w : World) : Calls Tryz.prog 171 #[.string s] w fun e w' => e = .returned (.int .i64 (lookB s.toList 0 funTab)) ∧ w = w' := by
  cases h0 : (s.toList == [60, 45, 62])
  case true =>
    have hk := Lib.hid (show lookB s.toList 0 funTab = 41 by rw [eq_of_beq h0]; rfl)
    go_enter Tryz.func171, Tryz.ntmps171
    go_wp2_with fail
    go_ret
    exact ⟨by rw [hk.out]; rfl, rfl⟩
  cases h1 : (s.toList == [43, 45, 62])
  case true =>
    have hk := Lib.hid (show lookB s.toList 0 funTab = 42 by rw [eq_of_beq h1]; rfl)
    go_enter Tryz.func171, Tryz.ntmps171
    go_wp2_with fail
    go_ret
    exact ⟨by rw [hk.out]; rfl, rfl⟩
  cases h2 : (s.toList == [45, 45, 62])
  case true =>
    have hk := Lib.hid (show lookB s.toList 0 funTab = 43 by rw [eq_of_beq h2]; rfl)
    go_enter Tryz.func171, Tryz.ntmps171
    go_wp2_with fail
    go_ret
    exact ⟨by rw [hk.out]; rfl, rfl⟩
  cases h3 : (s.toList == [62, 45, 62])
  case true =>
    have hk := Lib.hid (show lookB s.toList 0 funTab = 44 by rw [eq_of_beq h3]; rfl)
    go_enter Tryz.func171, Tryz.ntmps171
    go_wp2_with fail
    go_ret
    exact ⟨by rw [hk.out]; rfl, rfl⟩
  cases h4 : (s.toList == [62, 45, 62, 62])
  case true =>
    have hk := Lib.hid (show lookB s.toList 0 funTab = 45 by rw [eq_of_beq h4]; rfl)
    go_enter Tryz.func171, Tryz.ntmps171
    go_wp2_with fail
    go_ret
    exact ⟨by rw [hk.out]; rfl, rfl⟩
  have hk := Lib.hid (show lookB s.toList 0 funTab = 0 by simp only [lookB, funTab, h0, h1, h2, h3, h4]; rfl)
  go_enter Tryz.func171, Tryz.ntmps171
  go_wp2_with fail
  go_ret
  exact ⟨by rw [hk.out]; rfl, rfl⟩
theorem rfun_t {s : ByteArray} {v : Int} (h : lookB s.toList 0 funTab = v) (w : World) : Calls Tryz.prog 171 #[.string s] w fun e w' => e = .returned (.int .i64 v) ∧ w = w' := by rw [← h]; exact rfun_any s w
def setTab : List (List UInt8 × Int) := [([92, 47], 31), ([47, 92], 32), ([92], 33), ([62, 60], 34), ([60, 43], 35), ([59], 36), ([60, 124], 37), ([60, 60, 124], 38), ([124, 62], 39), ([124, 62, 62], 40)]
set_option maxHeartbeats 4000000 in
theorem rset_any (s : ByteArray) (w : World) : Calls Tryz.prog 172 #[.string s] w fun e w' => e = .returned (.int .i64 (lookB s.toList 0 setTab)) ∧ w = w' := by
  cases h0 : (s.toList == [92, 47])
  case true =>
    have hk := Lib.hid (show lookB s.toList 0 setTab = 31 by rw [eq_of_beq h0]; rfl)
    go_enter Tryz.func172, Tryz.ntmps172
    go_wp2_with fail
    go_ret
    exact ⟨by rw [hk.out]; rfl, rfl⟩
  cases h1 : (s.toList == [47, 92])
  case true =>
    have hk := Lib.hid (show lookB s.toList 0 setTab = 32 by rw [eq_of_beq h1]; rfl)
    go_enter Tryz.func172, Tryz.ntmps172
    go_wp2_with fail
    go_ret
    exact ⟨by rw [hk.out]; rfl, rfl⟩
  cases h2 : (s.toList == [92])
  case true =>
    have hk := Lib.hid (show lookB s.toList 0 setTab = 33 by rw [eq_of_beq h2]; rfl)
    go_enter Tryz.func172, Tryz.ntmps172
    go_wp2_with fail
    go_ret
    exact ⟨by rw [hk.out]; rfl, rfl⟩
  cases h3 : (s.toList == [62, 60])
  case true =>
    have hk := Lib.hid (show lookB s.toList 0 setTab = 34 by rw [eq_of_beq h3]; rfl)
    go_enter Tryz.func172, Tryz.ntmps172
    go_wp2_with fail
    go_ret
    exact ⟨by rw [hk.out]; rfl, rfl⟩
  cases h4 : (s.toList == [60, 43])
  case true =>
    have hk := Lib.hid (show lookB s.toList 0 setTab = 35 by rw [eq_of_beq h4]; rfl)
    go_enter Tryz.func172, Tryz.ntmps172
    go_wp2_with fail
    go_ret
    exact ⟨by rw [hk.out]; rfl, rfl⟩
  cases h5 : (s.toList == [59])
  case true =>
    have hk := Lib.hid (show lookB s.toList 0 setTab = 36 by rw [eq_of_beq h5]; rfl)
    go_enter Tryz.func172, Tryz.ntmps172
    go_wp2_with fail
    go_ret
    exact ⟨by rw [hk.out]; rfl, rfl⟩
  cases h6 : (s.toList == [60, 124])
  case true =>
    have hk := Lib.hid (show lookB s.toList 0 setTab = 37 by rw [eq_of_beq h6]; rfl)
    go_enter Tryz.func172, Tryz.ntmps172
    go_wp2_with fail
    go_ret
    exact ⟨by rw [hk.out]; rfl, rfl⟩
  cases h7 : (s.toList == [60, 60, 124])
  case true =>
    have hk := Lib.hid (show lookB s.toList 0 setTab = 38 by rw [eq_of_beq h7]; rfl)
    go_enter Tryz.func172, Tryz.ntmps172
    go_wp2_with fail
    go_ret
    exact ⟨by rw [hk.out]; rfl, rfl⟩
  cases h8 : (s.toList == [124, 62])
  case true =>
    have hk := Lib.hid (show lookB s.toList 0 setTab = 39 by rw [eq_of_beq h8]; rfl)
    go_enter Tryz.func172, Tryz.ntmps172
    go_wp2_with fail
    go_ret
    exact ⟨by rw [hk.out]; rfl, rfl⟩
  cases h9 : (s.toList == [124, 62, 62])
  case true =>
    have hk := Lib.hid (show lookB s.toList 0 setTab = 40 by rw [eq_of_beq h9]; rfl)
    go_enter Tryz.func172, Tryz.ntmps172
    go_wp2_with fail
    go_ret
    exact ⟨by rw [hk.out]; rfl, rfl⟩
  have hk := Lib.hid (show lookB s.toList 0 setTab = 0 by simp only [lookB, setTab, h0, h1, h2, h3, h4, h5, h6, h7, h8, h9]; rfl)
  go_enter Tryz.func172, Tryz.ntmps172
  go_wp2_with fail
  go_ret
  exact ⟨by rw [hk.out]; rfl, rfl⟩
theorem rset_t {s : ByteArray} {v : Int} (h : lookB s.toList 0 setTab = v) (w : World) : Calls Tryz.prog 172 #[.string s] w fun e w' => e = .returned (.int .i64 v) ∧ w = w' := by rw [← h]; exact rset_any s w
def binTab : List (List UInt8 × Int × Int) := [([60, 61, 62], 1, 7), ([61, 62], 2, 6), ([111, 114], 3, 5), ([38], 4, 4), ([124, 45, 62], 8, 27), ([46, 46], 10, 30), ([43], 11, 22), ([45], 11, 23), ([42], 12, 24), ([47], 12, 25), ([109, 111, 100], 12, 26), ([61], 6, 10), ([47, 61], 6, 11), ([60], 6, 12), ([60, 61], 6, 13), ([62], 6, 14), ([62, 61], 6, 15), ([105, 110], 6, 16), ([110, 111, 116, 105, 110], 6, 17), ([115, 117, 98], 6, 18), ([60, 45, 62], 7, 41), ([43, 45, 62], 7, 42), ([45, 45, 62], 7, 43), ([62, 45, 62], 7, 44), ([62, 45, 62, 62], 7, 45), ([92, 47], 9, 31), ([47, 92], 9, 32), ([92], 9, 33), ([62, 60], 9, 34), ([60, 43], 9, 35), ([59], 9, 36), ([60, 124], 9, 37), ([60, 60, 124], 9, 38), ([124, 62], 9, 39), ([124, 62, 62], 9, 40)]
def binL (x : List UInt8) : Int × Int := lookB x (0, 0) binTab
set_option maxHeartbeats 8000000 in
theorem rbin_any (s : ByteArray) (w : World) : Calls Tryz.prog 155 #[.string s] w fun e w' => e = .returned (.tuple #[.int .i64 (binL s.toList).1, .int .i64 (binL s.toList).2]) ∧ w = w' := by
  cases h0 : (s.toList == [60, 61, 62])
  case true =>
    have hk := Lib.hid (show binL s.toList = (1, 7) by rw [eq_of_beq h0]; rfl)
    go_enter Tryz.func155, Tryz.ntmps155
    go_wp2_with fail
    go_ret2
    exact ⟨by rw [hk.out]; rfl, rfl⟩
  cases h1 : (s.toList == [61, 62])
  case true =>
    have hk := Lib.hid (show binL s.toList = (2, 6) by rw [eq_of_beq h1]; rfl)
    go_enter Tryz.func155, Tryz.ntmps155
    go_wp2_with fail
    go_ret2
    exact ⟨by rw [hk.out]; rfl, rfl⟩
  cases h2 : (s.toList == [111, 114])
  case true =>
    have hk := Lib.hid (show binL s.toList = (3, 5) by rw [eq_of_beq h2]; rfl)
    go_enter Tryz.func155, Tryz.ntmps155
    go_wp2_with fail
    go_ret2
    exact ⟨by rw [hk.out]; rfl, rfl⟩
  cases h3 : (s.toList == [38])
  case true =>
    have hk := Lib.hid (show binL s.toList = (4, 4) by rw [eq_of_beq h3]; rfl)
    go_enter Tryz.func155, Tryz.ntmps155
    go_wp2_with fail
    go_ret2
    exact ⟨by rw [hk.out]; rfl, rfl⟩
  cases h4 : (s.toList == [124, 45, 62])
  case true =>
    have hk := Lib.hid (show binL s.toList = (8, 27) by rw [eq_of_beq h4]; rfl)
    go_enter Tryz.func155, Tryz.ntmps155
    go_wp2_with fail
    go_ret2
    exact ⟨by rw [hk.out]; rfl, rfl⟩
  cases h5 : (s.toList == [46, 46])
  case true =>
    have hk := Lib.hid (show binL s.toList = (10, 30) by rw [eq_of_beq h5]; rfl)
    go_enter Tryz.func155, Tryz.ntmps155
    go_wp2_with fail
    go_ret2
    exact ⟨by rw [hk.out]; rfl, rfl⟩
  cases h6 : (s.toList == [43])
  case true =>
    have hk := Lib.hid (show binL s.toList = (11, 22) by rw [eq_of_beq h6]; rfl)
    go_enter Tryz.func155, Tryz.ntmps155
    go_wp2_with fail
    go_ret2
    exact ⟨by rw [hk.out]; rfl, rfl⟩
  cases h7 : (s.toList == [45])
  case true =>
    have hk := Lib.hid (show binL s.toList = (11, 23) by rw [eq_of_beq h7]; rfl)
    go_enter Tryz.func155, Tryz.ntmps155
    go_wp2_with fail
    go_ret2
    exact ⟨by rw [hk.out]; rfl, rfl⟩
  cases h8 : (s.toList == [42])
  case true =>
    have hk := Lib.hid (show binL s.toList = (12, 24) by rw [eq_of_beq h8]; rfl)
    go_enter Tryz.func155, Tryz.ntmps155
    go_wp2_with fail
    go_ret2
    exact ⟨by rw [hk.out]; rfl, rfl⟩
  cases h9 : (s.toList == [47])
  case true =>
    have hk := Lib.hid (show binL s.toList = (12, 25) by rw [eq_of_beq h9]; rfl)
    go_enter Tryz.func155, Tryz.ntmps155
    go_wp2_with fail
    go_ret2
    exact ⟨by rw [hk.out]; rfl, rfl⟩
  cases h10 : (s.toList == [109, 111, 100])
  case true =>
    have hk := Lib.hid (show binL s.toList = (12, 26) by rw [eq_of_beq h10]; rfl)
    go_enter Tryz.func155, Tryz.ntmps155
    go_wp2_with fail
    go_ret2
    exact ⟨by rw [hk.out]; rfl, rfl⟩
  cases h11 : (s.toList == [61])
  case true =>
    have hk := Lib.hid (show binL s.toList = (6, 10) by rw [eq_of_beq h11]; rfl)
    have q0 := Lib.hid (show lookB s.toList 0 cmpTab = 10 by rw [eq_of_beq h11]; rfl)
    have q1 := Lib.hid (show lookB s.toList 0 funTab = 0 by rw [eq_of_beq h11]; rfl)
    have q2 := Lib.hid (show lookB s.toList 0 setTab = 0 by rw [eq_of_beq h11]; rfl)
    go_enter Tryz.func155, Tryz.ntmps155
    go_wp2_with (first | (go_at_call 170; refine (rcmp_t q0.out _).mono ?_; rintro e w' ⟨rfl, rfl⟩) | (go_at_call 171; refine (rfun_t q1.out _).mono ?_; rintro e w' ⟨rfl, rfl⟩) | (go_at_call 172; refine (rset_t q2.out _).mono ?_; rintro e w' ⟨rfl, rfl⟩))
    go_ret2
    exact ⟨by rw [hk.out]; rfl, rfl⟩
  cases h12 : (s.toList == [47, 61])
  case true =>
    have hk := Lib.hid (show binL s.toList = (6, 11) by rw [eq_of_beq h12]; rfl)
    have q0 := Lib.hid (show lookB s.toList 0 cmpTab = 11 by rw [eq_of_beq h12]; rfl)
    have q1 := Lib.hid (show lookB s.toList 0 funTab = 0 by rw [eq_of_beq h12]; rfl)
    have q2 := Lib.hid (show lookB s.toList 0 setTab = 0 by rw [eq_of_beq h12]; rfl)
    go_enter Tryz.func155, Tryz.ntmps155
    go_wp2_with (first | (go_at_call 170; refine (rcmp_t q0.out _).mono ?_; rintro e w' ⟨rfl, rfl⟩) | (go_at_call 171; refine (rfun_t q1.out _).mono ?_; rintro e w' ⟨rfl, rfl⟩) | (go_at_call 172; refine (rset_t q2.out _).mono ?_; rintro e w' ⟨rfl, rfl⟩))
    go_ret2
    exact ⟨by rw [hk.out]; rfl, rfl⟩
  cases h13 : (s.toList == [60])
  case true =>
    have hk := Lib.hid (show binL s.toList = (6, 12) by rw [eq_of_beq h13]; rfl)
    have q0 := Lib.hid (show lookB s.toList 0 cmpTab = 12 by rw [eq_of_beq h13]; rfl)
    have q1 := Lib.hid (show lookB s.toList 0 funTab = 0 by rw [eq_of_beq h13]; rfl)
    have q2 := Lib.hid (show lookB s.toList 0 setTab = 0 by rw [eq_of_beq h13]; rfl)
    go_enter Tryz.func155, Tryz.ntmps155
    go_wp2_with (first | (go_at_call 170; refine (rcmp_t q0.out _).mono ?_; rintro e w' ⟨rfl, rfl⟩) | (go_at_call 171; refine (rfun_t q1.out _).mono ?_; rintro e w' ⟨rfl, rfl⟩) | (go_at_call 172; refine (rset_t q2.out _).mono ?_; rintro e w' ⟨rfl, rfl⟩))
    go_ret2
    exact ⟨by rw [hk.out]; rfl, rfl⟩
  cases h14 : (s.toList == [60, 61])
  case true =>
    have hk := Lib.hid (show binL s.toList = (6, 13) by rw [eq_of_beq h14]; rfl)
    have q0 := Lib.hid (show lookB s.toList 0 cmpTab = 13 by rw [eq_of_beq h14]; rfl)
    have q1 := Lib.hid (show lookB s.toList 0 funTab = 0 by rw [eq_of_beq h14]; rfl)
    have q2 := Lib.hid (show lookB s.toList 0 setTab = 0 by rw [eq_of_beq h14]; rfl)
    go_enter Tryz.func155, Tryz.ntmps155
    go_wp2_with (first | (go_at_call 170; refine (rcmp_t q0.out _).mono ?_; rintro e w' ⟨rfl, rfl⟩) | (go_at_call 171; refine (rfun_t q1.out _).mono ?_; rintro e w' ⟨rfl, rfl⟩) | (go_at_call 172; refine (rset_t q2.out _).mono ?_; rintro e w' ⟨rfl, rfl⟩))
    go_ret2
    exact ⟨by rw [hk.out]; rfl, rfl⟩
  cases h15 : (s.toList == [62])
  case true =>
    have hk := Lib.hid (show binL s.toList = (6, 14) by rw [eq_of_beq h15]; rfl)
    have q0 := Lib.hid (show lookB s.toList 0 cmpTab = 14 by rw [eq_of_beq h15]; rfl)
    have q1 := Lib.hid (show lookB s.toList 0 funTab = 0 by rw [eq_of_beq h15]; rfl)
    have q2 := Lib.hid (show lookB s.toList 0 setTab = 0 by rw [eq_of_beq h15]; rfl)
    go_enter Tryz.func155, Tryz.ntmps155
    go_wp2_with (first | (go_at_call 170; refine (rcmp_t q0.out _).mono ?_; rintro e w' ⟨rfl, rfl⟩) | (go_at_call 171; refine (rfun_t q1.out _).mono ?_; rintro e w' ⟨rfl, rfl⟩) | (go_at_call 172; refine (rset_t q2.out _).mono ?_; rintro e w' ⟨rfl, rfl⟩))
    go_ret2
    exact ⟨by rw [hk.out]; rfl, rfl⟩
  cases h16 : (s.toList == [62, 61])
  case true =>
    have hk := Lib.hid (show binL s.toList = (6, 15) by rw [eq_of_beq h16]; rfl)
    have q0 := Lib.hid (show lookB s.toList 0 cmpTab = 15 by rw [eq_of_beq h16]; rfl)
    have q1 := Lib.hid (show lookB s.toList 0 funTab = 0 by rw [eq_of_beq h16]; rfl)
    have q2 := Lib.hid (show lookB s.toList 0 setTab = 0 by rw [eq_of_beq h16]; rfl)
    go_enter Tryz.func155, Tryz.ntmps155
    go_wp2_with (first | (go_at_call 170; refine (rcmp_t q0.out _).mono ?_; rintro e w' ⟨rfl, rfl⟩) | (go_at_call 171; refine (rfun_t q1.out _).mono ?_; rintro e w' ⟨rfl, rfl⟩) | (go_at_call 172; refine (rset_t q2.out _).mono ?_; rintro e w' ⟨rfl, rfl⟩))
    go_ret2
    exact ⟨by rw [hk.out]; rfl, rfl⟩
  cases h17 : (s.toList == [105, 110])
  case true =>
    have hk := Lib.hid (show binL s.toList = (6, 16) by rw [eq_of_beq h17]; rfl)
    have q0 := Lib.hid (show lookB s.toList 0 cmpTab = 16 by rw [eq_of_beq h17]; rfl)
    have q1 := Lib.hid (show lookB s.toList 0 funTab = 0 by rw [eq_of_beq h17]; rfl)
    have q2 := Lib.hid (show lookB s.toList 0 setTab = 0 by rw [eq_of_beq h17]; rfl)
    go_enter Tryz.func155, Tryz.ntmps155
    go_wp2_with (first | (go_at_call 170; refine (rcmp_t q0.out _).mono ?_; rintro e w' ⟨rfl, rfl⟩) | (go_at_call 171; refine (rfun_t q1.out _).mono ?_; rintro e w' ⟨rfl, rfl⟩) | (go_at_call 172; refine (rset_t q2.out _).mono ?_; rintro e w' ⟨rfl, rfl⟩))
    go_ret2
    exact ⟨by rw [hk.out]; rfl, rfl⟩
  cases h18 : (s.toList == [110, 111, 116, 105, 110])
  case true =>
    have hk := Lib.hid (show binL s.toList = (6, 17) by rw [eq_of_beq h18]; rfl)
    have q0 := Lib.hid (show lookB s.toList 0 cmpTab = 17 by rw [eq_of_beq h18]; rfl)
    have q1 := Lib.hid (show lookB s.toList 0 funTab = 0 by rw [eq_of_beq h18]; rfl)
    have q2 := Lib.hid (show lookB s.toList 0 setTab = 0 by rw [eq_of_beq h18]; rfl)
    go_enter Tryz.func155, Tryz.ntmps155
    go_wp2_with (first | (go_at_call 170; refine (rcmp_t q0.out _).mono ?_; rintro e w' ⟨rfl, rfl⟩) | (go_at_call 171; refine (rfun_t q1.out _).mono ?_; rintro e w' ⟨rfl, rfl⟩) | (go_at_call 172; refine (rset_t q2.out _).mono ?_; rintro e w' ⟨rfl, rfl⟩))
    go_ret2
    exact ⟨by rw [hk.out]; rfl, rfl⟩
  cases h19 : (s.toList == [115, 117, 98])
  case true =>
    have hk := Lib.hid (show binL s.toList = (6, 18) by rw [eq_of_beq h19]; rfl)
    have q0 := Lib.hid (show lookB s.toList 0 cmpTab = 18 by rw [eq_of_beq h19]; rfl)
    have q1 := Lib.hid (show lookB s.toList 0 funTab = 0 by rw [eq_of_beq h19]; rfl)
    have q2 := Lib.hid (show lookB s.toList 0 setTab = 0 by rw [eq_of_beq h19]; rfl)
    go_enter Tryz.func155, Tryz.ntmps155
    go_wp2_with (first | (go_at_call 170; refine (rcmp_t q0.out _).mono ?_; rintro e w' ⟨rfl, rfl⟩) | (go_at_call 171; refine (rfun_t q1.out _).mono ?_; rintro e w' ⟨rfl, rfl⟩) | (go_at_call 172; refine (rset_t q2.out _).mono ?_; rintro e w' ⟨rfl, rfl⟩))
    go_ret2
    exact ⟨by rw [hk.out]; rfl, rfl⟩
  cases h20 : (s.toList == [60, 45, 62])
  case true =>
    have hk := Lib.hid (show binL s.toList = (7, 41) by rw [eq_of_beq h20]; rfl)
    have q0 := Lib.hid (show lookB s.toList 0 cmpTab = 0 by rw [eq_of_beq h20]; rfl)
    have q1 := Lib.hid (show lookB s.toList 0 funTab = 41 by rw [eq_of_beq h20]; rfl)
    have q2 := Lib.hid (show lookB s.toList 0 setTab = 0 by rw [eq_of_beq h20]; rfl)
    go_enter Tryz.func155, Tryz.ntmps155
    go_wp2_with (first | (go_at_call 170; refine (rcmp_t q0.out _).mono ?_; rintro e w' ⟨rfl, rfl⟩) | (go_at_call 171; refine (rfun_t q1.out _).mono ?_; rintro e w' ⟨rfl, rfl⟩) | (go_at_call 172; refine (rset_t q2.out _).mono ?_; rintro e w' ⟨rfl, rfl⟩))
    go_ret2
    exact ⟨by rw [hk.out]; rfl, rfl⟩
  cases h21 : (s.toList == [43, 45, 62])
  case true =>
    have hk := Lib.hid (show binL s.toList = (7, 42) by rw [eq_of_beq h21]; rfl)
    have q0 := Lib.hid (show lookB s.toList 0 cmpTab = 0 by rw [eq_of_beq h21]; rfl)
    have q1 := Lib.hid (show lookB s.toList 0 funTab = 42 by rw [eq_of_beq h21]; rfl)
    have q2 := Lib.hid (show lookB s.toList 0 setTab = 0 by rw [eq_of_beq h21]; rfl)
    go_enter Tryz.func155, Tryz.ntmps155
    go_wp2_with (first | (go_at_call 170; refine (rcmp_t q0.out _).mono ?_; rintro e w' ⟨rfl, rfl⟩) | (go_at_call 171; refine (rfun_t q1.out _).mono ?_; rintro e w' ⟨rfl, rfl⟩) | (go_at_call 172; refine (rset_t q2.out _).mono ?_; rintro e w' ⟨rfl, rfl⟩))
    go_ret2
    exact ⟨by rw [hk.out]; rfl, rfl⟩
  cases h22 : (s.toList == [45, 45, 62])
  case true =>
    have hk := Lib.hid (show binL s.toList = (7, 43) by rw [eq_of_beq h22]; rfl)
    have q0 := Lib.hid (show lookB s.toList 0 cmpTab = 0 by rw [eq_of_beq h22]; rfl)
    have q1 := Lib.hid (show lookB s.toList 0 funTab = 43 by rw [eq_of_beq h22]; rfl)
    have q2 := Lib.hid (show lookB s.toList 0 setTab = 0 by rw [eq_of_beq h22]; rfl)
    go_enter Tryz.func155, Tryz.ntmps155
    go_wp2_with (first | (go_at_call 170; refine (rcmp_t q0.out _).mono ?_; rintro e w' ⟨rfl, rfl⟩) | (go_at_call 171; refine (rfun_t q1.out _).mono ?_; rintro e w' ⟨rfl, rfl⟩) | (go_at_call 172; refine (rset_t q2.out _).mono ?_; rintro e w' ⟨rfl, rfl⟩))
    go_ret2
    exact ⟨by rw [hk.out]; rfl, rfl⟩
  cases h23 : (s.toList == [62, 45, 62])
  case true =>
    have hk := Lib.hid (show binL s.toList = (7, 44) by rw [eq_of_beq h23]; rfl)
    have q0 := Lib.hid (show lookB s.toList 0 cmpTab = 0 by rw [eq_of_beq h23]; rfl)
    have q1 := Lib.hid (show lookB s.toList 0 funTab = 44 by rw [eq_of_beq h23]; rfl)
    have q2 := Lib.hid (show lookB s.toList 0 setTab = 0 by rw [eq_of_beq h23]; rfl)
    go_enter Tryz.func155, Tryz.ntmps155
    go_wp2_with (first | (go_at_call 170; refine (rcmp_t q0.out _).mono ?_; rintro e w' ⟨rfl, rfl⟩) | (go_at_call 171; refine (rfun_t q1.out _).mono ?_; rintro e w' ⟨rfl, rfl⟩) | (go_at_call 172; refine (rset_t q2.out _).mono ?_; rintro e w' ⟨rfl, rfl⟩))
    go_ret2
    exact ⟨by rw [hk.out]; rfl, rfl⟩
  cases h24 : (s.toList == [62, 45, 62, 62])
  case true =>
    have hk := Lib.hid (show binL s.toList = (7, 45) by rw [eq_of_beq h24]; rfl)
    have q0 := Lib.hid (show lookB s.toList 0 cmpTab = 0 by rw [eq_of_beq h24]; rfl)
    have q1 := Lib.hid (show lookB s.toList 0 funTab = 45 by rw [eq_of_beq h24]; rfl)
    have q2 := Lib.hid (show lookB s.toList 0 setTab = 0 by rw [eq_of_beq h24]; rfl)
    go_enter Tryz.func155, Tryz.ntmps155
    go_wp2_with (first | (go_at_call 170; refine (rcmp_t q0.out _).mono ?_; rintro e w' ⟨rfl, rfl⟩) | (go_at_call 171; refine (rfun_t q1.out _).mono ?_; rintro e w' ⟨rfl, rfl⟩) | (go_at_call 172; refine (rset_t q2.out _).mono ?_; rintro e w' ⟨rfl, rfl⟩))
    go_ret2
    exact ⟨by rw [hk.out]; rfl, rfl⟩
  cases h25 : (s.toList == [92, 47])
  case true =>
    have hk := Lib.hid (show binL s.toList = (9, 31) by rw [eq_of_beq h25]; rfl)
    have q0 := Lib.hid (show lookB s.toList 0 cmpTab = 0 by rw [eq_of_beq h25]; rfl)
    have q1 := Lib.hid (show lookB s.toList 0 funTab = 0 by rw [eq_of_beq h25]; rfl)
    have q2 := Lib.hid (show lookB s.toList 0 setTab = 31 by rw [eq_of_beq h25]; rfl)
    go_enter Tryz.func155, Tryz.ntmps155
    go_wp2_with (first | (go_at_call 170; refine (rcmp_t q0.out _).mono ?_; rintro e w' ⟨rfl, rfl⟩) | (go_at_call 171; refine (rfun_t q1.out _).mono ?_; rintro e w' ⟨rfl, rfl⟩) | (go_at_call 172; refine (rset_t q2.out _).mono ?_; rintro e w' ⟨rfl, rfl⟩))
    go_ret2
    exact ⟨by rw [hk.out]; rfl, rfl⟩
  cases h26 : (s.toList == [47, 92])
  case true =>
    have hk := Lib.hid (show binL s.toList = (9, 32) by rw [eq_of_beq h26]; rfl)
    have q0 := Lib.hid (show lookB s.toList 0 cmpTab = 0 by rw [eq_of_beq h26]; rfl)
    have q1 := Lib.hid (show lookB s.toList 0 funTab = 0 by rw [eq_of_beq h26]; rfl)
    have q2 := Lib.hid (show lookB s.toList 0 setTab = 32 by rw [eq_of_beq h26]; rfl)
    go_enter Tryz.func155, Tryz.ntmps155
    go_wp2_with (first | (go_at_call 170; refine (rcmp_t q0.out _).mono ?_; rintro e w' ⟨rfl, rfl⟩) | (go_at_call 171; refine (rfun_t q1.out _).mono ?_; rintro e w' ⟨rfl, rfl⟩) | (go_at_call 172; refine (rset_t q2.out _).mono ?_; rintro e w' ⟨rfl, rfl⟩))
    go_ret2
    exact ⟨by rw [hk.out]; rfl, rfl⟩
  cases h27 : (s.toList == [92])
  case true =>
    have hk := Lib.hid (show binL s.toList = (9, 33) by rw [eq_of_beq h27]; rfl)
    have q0 := Lib.hid (show lookB s.toList 0 cmpTab = 0 by rw [eq_of_beq h27]; rfl)
    have q1 := Lib.hid (show lookB s.toList 0 funTab = 0 by rw [eq_of_beq h27]; rfl)
    have q2 := Lib.hid (show lookB s.toList 0 setTab = 33 by rw [eq_of_beq h27]; rfl)
    go_enter Tryz.func155, Tryz.ntmps155
    go_wp2_with (first | (go_at_call 170; refine (rcmp_t q0.out _).mono ?_; rintro e w' ⟨rfl, rfl⟩) | (go_at_call 171; refine (rfun_t q1.out _).mono ?_; rintro e w' ⟨rfl, rfl⟩) | (go_at_call 172; refine (rset_t q2.out _).mono ?_; rintro e w' ⟨rfl, rfl⟩))
    go_ret2
    exact ⟨by rw [hk.out]; rfl, rfl⟩
  cases h28 : (s.toList == [62, 60])
  case true =>
    have hk := Lib.hid (show binL s.toList = (9, 34) by rw [eq_of_beq h28]; rfl)
    have q0 := Lib.hid (show lookB s.toList 0 cmpTab = 0 by rw [eq_of_beq h28]; rfl)
    have q1 := Lib.hid (show lookB s.toList 0 funTab = 0 by rw [eq_of_beq h28]; rfl)
    have q2 := Lib.hid (show lookB s.toList 0 setTab = 34 by rw [eq_of_beq h28]; rfl)
    go_enter Tryz.func155, Tryz.ntmps155
    go_wp2_with (first | (go_at_call 170; refine (rcmp_t q0.out _).mono ?_; rintro e w' ⟨rfl, rfl⟩) | (go_at_call 171; refine (rfun_t q1.out _).mono ?_; rintro e w' ⟨rfl, rfl⟩) | (go_at_call 172; refine (rset_t q2.out _).mono ?_; rintro e w' ⟨rfl, rfl⟩))
    go_ret2
    exact ⟨by rw [hk.out]; rfl, rfl⟩
  cases h29 : (s.toList == [60, 43])
  case true =>
    have hk := Lib.hid (show binL s.toList = (9, 35) by rw [eq_of_beq h29]; rfl)
    have q0 := Lib.hid (show lookB s.toList 0 cmpTab = 0 by rw [eq_of_beq h29]; rfl)
    have q1 := Lib.hid (show lookB s.toList 0 funTab = 0 by rw [eq_of_beq h29]; rfl)
    have q2 := Lib.hid (show lookB s.toList 0 setTab = 35 by rw [eq_of_beq h29]; rfl)
    go_enter Tryz.func155, Tryz.ntmps155
    go_wp2_with (first | (go_at_call 170; refine (rcmp_t q0.out _).mono ?_; rintro e w' ⟨rfl, rfl⟩) | (go_at_call 171; refine (rfun_t q1.out _).mono ?_; rintro e w' ⟨rfl, rfl⟩) | (go_at_call 172; refine (rset_t q2.out _).mono ?_; rintro e w' ⟨rfl, rfl⟩))
    go_ret2
    exact ⟨by rw [hk.out]; rfl, rfl⟩
  cases h30 : (s.toList == [59])
  case true =>
    have hk := Lib.hid (show binL s.toList = (9, 36) by rw [eq_of_beq h30]; rfl)
    have q0 := Lib.hid (show lookB s.toList 0 cmpTab = 0 by rw [eq_of_beq h30]; rfl)
    have q1 := Lib.hid (show lookB s.toList 0 funTab = 0 by rw [eq_of_beq h30]; rfl)
    have q2 := Lib.hid (show lookB s.toList 0 setTab = 36 by rw [eq_of_beq h30]; rfl)
    go_enter Tryz.func155, Tryz.ntmps155
    go_wp2_with (first | (go_at_call 170; refine (rcmp_t q0.out _).mono ?_; rintro e w' ⟨rfl, rfl⟩) | (go_at_call 171; refine (rfun_t q1.out _).mono ?_; rintro e w' ⟨rfl, rfl⟩) | (go_at_call 172; refine (rset_t q2.out _).mono ?_; rintro e w' ⟨rfl, rfl⟩))
    go_ret2
    exact ⟨by rw [hk.out]; rfl, rfl⟩
  cases h31 : (s.toList == [60, 124])
  case true =>
    have hk := Lib.hid (show binL s.toList = (9, 37) by rw [eq_of_beq h31]; rfl)
    have q0 := Lib.hid (show lookB s.toList 0 cmpTab = 0 by rw [eq_of_beq h31]; rfl)
    have q1 := Lib.hid (show lookB s.toList 0 funTab = 0 by rw [eq_of_beq h31]; rfl)
    have q2 := Lib.hid (show lookB s.toList 0 setTab = 37 by rw [eq_of_beq h31]; rfl)
    go_enter Tryz.func155, Tryz.ntmps155
    go_wp2_with (first | (go_at_call 170; refine (rcmp_t q0.out _).mono ?_; rintro e w' ⟨rfl, rfl⟩) | (go_at_call 171; refine (rfun_t q1.out _).mono ?_; rintro e w' ⟨rfl, rfl⟩) | (go_at_call 172; refine (rset_t q2.out _).mono ?_; rintro e w' ⟨rfl, rfl⟩))
    go_ret2
    exact ⟨by rw [hk.out]; rfl, rfl⟩
  cases h32 : (s.toList == [60, 60, 124])
  case true =>
    have hk := Lib.hid (show binL s.toList = (9, 38) by rw [eq_of_beq h32]; rfl)
    have q0 := Lib.hid (show lookB s.toList 0 cmpTab = 0 by rw [eq_of_beq h32]; rfl)
    have q1 := Lib.hid (show lookB s.toList 0 funTab = 0 by rw [eq_of_beq h32]; rfl)
    have q2 := Lib.hid (show lookB s.toList 0 setTab = 38 by rw [eq_of_beq h32]; rfl)
    go_enter Tryz.func155, Tryz.ntmps155
    go_wp2_with (first | (go_at_call 170; refine (rcmp_t q0.out _).mono ?_; rintro e w' ⟨rfl, rfl⟩) | (go_at_call 171; refine (rfun_t q1.out _).mono ?_; rintro e w' ⟨rfl, rfl⟩) | (go_at_call 172; refine (rset_t q2.out _).mono ?_; rintro e w' ⟨rfl, rfl⟩))
    go_ret2
    exact ⟨by rw [hk.out]; rfl, rfl⟩
  cases h33 : (s.toList == [124, 62])
  case true =>
    have hk := Lib.hid (show binL s.toList = (9, 39) by rw [eq_of_beq h33]; rfl)
    have q0 := Lib.hid (show lookB s.toList 0 cmpTab = 0 by rw [eq_of_beq h33]; rfl)
    have q1 := Lib.hid (show lookB s.toList 0 funTab = 0 by rw [eq_of_beq h33]; rfl)
    have q2 := Lib.hid (show lookB s.toList 0 setTab = 39 by rw [eq_of_beq h33]; rfl)
    go_enter Tryz.func155, Tryz.ntmps155
    go_wp2_with (first | (go_at_call 170; refine (rcmp_t q0.out _).mono ?_; rintro e w' ⟨rfl, rfl⟩) | (go_at_call 171; refine (rfun_t q1.out _).mono ?_; rintro e w' ⟨rfl, rfl⟩) | (go_at_call 172; refine (rset_t q2.out _).mono ?_; rintro e w' ⟨rfl, rfl⟩))
    go_ret2
    exact ⟨by rw [hk.out]; rfl, rfl⟩
  cases h34 : (s.toList == [124, 62, 62])
  case true =>
    have hk := Lib.hid (show binL s.toList = (9, 40) by rw [eq_of_beq h34]; rfl)
    have q0 := Lib.hid (show lookB s.toList 0 cmpTab = 0 by rw [eq_of_beq h34]; rfl)
    have q1 := Lib.hid (show lookB s.toList 0 funTab = 0 by rw [eq_of_beq h34]; rfl)
    have q2 := Lib.hid (show lookB s.toList 0 setTab = 40 by rw [eq_of_beq h34]; rfl)
    go_enter Tryz.func155, Tryz.ntmps155
    go_wp2_with (first | (go_at_call 170; refine (rcmp_t q0.out _).mono ?_; rintro e w' ⟨rfl, rfl⟩) | (go_at_call 171; refine (rfun_t q1.out _).mono ?_; rintro e w' ⟨rfl, rfl⟩) | (go_at_call 172; refine (rset_t q2.out _).mono ?_; rintro e w' ⟨rfl, rfl⟩))
    go_ret2
    exact ⟨by rw [hk.out]; rfl, rfl⟩
  have hk := Lib.hid (show binL s.toList = (0, 0) by simp only [binL, lookB, binTab, h0, h1, h2, h3, h4, h5, h6, h7, h8, h9, h10, h11, h12, h13, h14, h15, h16, h17, h18, h19, h20, h21, h22, h23, h24, h25, h26, h27, h28, h29, h30, h31, h32, h33, h34]; rfl)
  have q0 := Lib.hid (show lookB s.toList 0 cmpTab = 0 by simp only [lookB, cmpTab, h0, h1, h2, h3, h4, h5, h6, h7, h8, h9, h10, h11, h12, h13, h14, h15, h16, h17, h18, h19, h20, h21, h22, h23, h24, h25, h26, h27, h28, h29, h30, h31, h32, h33, h34]; rfl)
  have q1 := Lib.hid (show lookB s.toList 0 funTab = 0 by simp only [lookB, funTab, h0, h1, h2, h3, h4, h5, h6, h7, h8, h9, h10, h11, h12, h13, h14, h15, h16, h17, h18, h19, h20, h21, h22, h23, h24, h25, h26, h27, h28, h29, h30, h31, h32, h33, h34]; rfl)
  have q2 := Lib.hid (show lookB s.toList 0 setTab = 0 by simp only [lookB, setTab, h0, h1, h2, h3, h4, h5, h6, h7, h8, h9, h10, h11, h12, h13, h14, h15, h16, h17, h18, h19, h20, h21, h22, h23, h24, h25, h26, h27, h28, h29, h30, h31, h32, h33, h34]; rfl)
  go_enter Tryz.func155, Tryz.ntmps155
  go_wp2_with (first | (go_at_call 170; refine (rcmp_t q0.out _).mono ?_; rintro e w' ⟨rfl, rfl⟩) | (go_at_call 171; refine (rfun_t q1.out _).mono ?_; rintro e w' ⟨rfl, rfl⟩) | (go_at_call 172; refine (rset_t q2.out _).mono ?_; rintro e w' ⟨rfl, rfl⟩))
  go_ret2
  exact ⟨by rw [hk.out]; rfl, rfl⟩
def opX (x : List UInt8) : List ByteArray → List Int → Int
  | y :: ys, v :: vs => if x == y.data.toList then v else opX x ys vs
  | _, _ => 0
theorem ba_toList (y : ByteArray) : y.toList = y.data.toList := by
  rw [Go.ByteArray.toList_eq]
theorem opGo_x {s : ByteArray} {σ : PS} (h : Tk s σ) : ∀ (ys : List ByteArray) (vs : List Int), opGo σ ys vs = if ((lexW s σ.ta).1 == 4 || (lexW s σ.ta).1 == 2) = true then opX (lexW s σ.ta).2.data.toList ys vs else 0
  | [], vs => by unfold opGo opX; split <;> rfl
  | y :: ys, [] => by unfold opGo opX; split <;> rfl
  | y :: ys, v :: vs => by
    rw [opGo, opGo_x h ys vs, ← is_lex h y, isR, opX, ba_toList, ba_toList]
    cases ((lexW s σ.ta).1 == 4 || (lexW s σ.ta).1 == 2)
    · rfl
    · cases ((lexW s σ.ta).2.data.toList == y.data.toList) <;> rfl
theorem lv_keys : ∀ n, n ≤ 13 → ∀ y, y ∈ lvSigns n → y.data.toList ∈ binTab.map (·.1) := by decide +kernel
theorem opX_not {x : List UInt8} : ∀ {ys : List ByteArray} {vs : List Int}, (∀ y, y ∈ ys → x ≠ y.data.toList) → opX x ys vs = 0
  | [], _, _ => by unfold opX; rfl
  | _ :: _, [], _ => by unfold opX; rfl
  | y :: ys, v :: vs, h => by
    rw [opX, if_neg (by rw [beq_iff_eq]; exact h y (List.mem_cons_self ..))]
    exact opX_not (fun y' hy => h y' (List.mem_cons_of_mem _ hy))
theorem opX_keys : ∀ x, x ∈ binTab.map (·.1) → ∀ n, n ≤ 13 → opX x (lvSigns n) (lvOps n) = if (binL x).1 = (n : Int) then (binL x).2 else 0 := by decide +kernel
theorem opX_bin (x : List UInt8) (n : Nat) (hn : n ≤ 13) : opX x (lvSigns n) (lvOps n) = if (binL x).1 = (n : Int) then (binL x).2 else 0 := by
  by_cases hx : x ∈ binTab.map (·.1)
  · exact opX_keys x hx n hn
  · rw [opX_not (fun y hy e => hx (by rw [e]; exact lv_keys n hn y hy))]
    have : binL x = (0, 0) := look_not (fun e he => by rw [beq_eq_false_iff_ne]; intro h; exact hx (by rw [h]; exact List.mem_map_of_mem he))
    rw [this]; split <;> rfl
theorem opOf_lex {s : ByteArray} {σ : PS} (h : Tk s σ) (n : Nat) (hn : n ≤ 13) : opOf n σ = if ((lexW s σ.ta).1 == 4 || (lexW s σ.ta).1 == 2) = true then (if (binL (lexW s σ.ta).2.toList).1 = (n : Int) then (binL (lexW s σ.ta).2.toList).2 else 0) else 0 := by
  unfold opOf
  rw [opGo_x h, opX_bin _ _ hn, ba_toList]
set_option maxHeartbeats 2000000 in
theorem rop_any {w : World} {b : Nat} {s : ByteArray} {σ : PS} (h : RR w b s (.ok σ)) (n : Nat) (m : Int) (hm : m = n) (hn : n ≤ 13) {v : Int} (hv : opOf n σ = v) : Calls Tryz.prog 125 #[.pointer (some ⟨b, 0, none⟩), .int .i64 m] w fun r w' => r = .returned (.int .i64 v) ∧ w = w' := by
  obtain ⟨hat, tk⟩ := h.st
  rw [opOf_lex tk n hn] at hv
  have HB := Lib.hid (rbin_any (lexW s σ.ta).2 w)
  have c1 := hat.c1
  have c2 := hat.c2
  clear hat tk h
  subst hm
  generalize (lexW s σ.ta).2 = x at *
  generalize (lexW s σ.ta).1 = k at *
  generalize binL x.toList = r at *
  obtain ⟨l, op⟩ := r
  have hl : l = (n : Int) ∨ l ≠ n := Classical.em _
  cases h4 : (k != 4) <;> cases h2 : (k != 2)
  case true.true =>
    have e4 : (k == 4) = false := by simpa using h4
    have e2 : (k == 2) = false := by simpa using h2
    rw [e4, e2] at hv
    have HV := Lib.hid hv
    clear hv e4 e2
    go_enter Tryz.func125, Tryz.ntmps125
    go_wp2_with fail
    go_ret
    exact ⟨by rw [← HV.out]; rfl, rfl⟩
  all_goals
    have e0 : (k == 4 || k == 2) = true := by
      cases hx : (k == 4)
      · cases hy : (k == 2)
        · simp_all
        · rfl
      · rfl
    rw [if_pos e0] at hv
    clear e0
    rcases hl with rfl | hl
    · rw [if_pos rfl] at hv
      have HV := Lib.hid hv
      clear hv
      go_enter Tryz.func125, Tryz.ntmps125
      go_wp2_with (go_at_call 155; refine HB.out.mono ?_; rintro e w' ⟨rfl, rfl⟩)
      go_ret
      exact ⟨by rw [← HV.out]; rfl, rfl⟩
    · rw [if_neg hl] at hv
      have HV := Lib.hid hv
      have hl' : (l != (n : Int)) = true := by rw [bne_iff_ne]; exact hl
      clear hv hl
      go_enter Tryz.func125, Tryz.ntmps125
      go_wp2_with (go_at_call 155; refine HB.out.mono ?_; rintro e w' ⟨rfl, rfl⟩)
      go_ret
      exact ⟨by rw [← HV.out]; rfl, rfl⟩
theorem typed_c {s : ByteArray} {σ : PS} {f : Nat} (hc : σ.k = 1 ∧ identB σ.tx = true) : typedS (f + 1) s σ = bP (advS s σ) fun σ1 => .ok (.mk 3 σ.tx [], σ1) := by
  unfold typedS; rw [if_pos hc]; cases advS s σ <;> rfl
theorem typed_i {s : ByteArray} {σ : PS} {f : Nat} (hn : ¬ (σ.k = 1 ∧ identB σ.tx = true)) (hI : isS σ kInt = true) : typedS (f + 1) s σ = bP (advS s σ) fun σ1 => .ok (.mk 1 ⟨#[]⟩ [], σ1) := by
  unfold typedS; rw [if_neg hn, if_pos hI]; cases advS s σ <;> rfl
theorem typed_n {s : ByteArray} {σ : PS} {f : Nat} (hn : ¬ (σ.k = 1 ∧ identB σ.tx = true)) (hI : isS σ kInt = false) (hS : isS σ kSet = false) (hP : isS σ kPair = false) : typedS (f + 1) s σ = .error (false, σ.ta) := by
  unfold typedS; rw [if_neg hn, hI, hS, hP]; rfl
theorem pass_is {b : Nat} {s : ByteArray} {σ : PS} {t : ByteArray} (tk : Tk s σ) (hi : isS σ t = true) (ho : inB t openers = false) (hc : inB t closers = false) (W : World) (h : RR W b s (.ok σ)) : Calls Tryz.prog 75 #[.pointer (some ⟨b, 0, none⟩)] W (RU b s (advS s σ) W) := by
  rw [← pass_want tk hi ho hc]
  exact pass_ok h (fun e => by rw [is_tx tk hi, hc] at e; cases e)
theorem pass_nm {b : Nat} {s : ByteArray} {σ : PS} (hn : noBr (lexW s σ.ta).2) (W : World) (h : RR W b s (.ok σ)) : Calls Tryz.prog 75 #[.pointer (some ⟨b, 0, none⟩)] W (RU b s (advS s σ) W) := by
  have e : passS s σ = advS s σ := by unfold passS; rw [hn.1, hn.2]; rfl
  rw [← e]
  exact pass_ok h (fun e => by rw [hn.2] at e; cases e)
theorem pass_op {b : Nat} {s : ByteArray} {σ : PS} {t : ByteArray} (tk : Tk s σ) (hi : isS σ t = true) (ho : inB t openers = true) (W : World) (h : RR W b s (.ok σ)) : Calls Tryz.prog 75 #[.pointer (some ⟨b, 0, none⟩)] W (RU b s (openS s σ t) W) := by
  rw [← pass_open tk hi ho]
  exact pass_ok h (fun e => by rw [is_tx tk hi, op_cl ho] at e; cases e)
theorem pass_sh {b : Nat} {s : ByteArray} {σ : PS} {t : ByteArray} (tk : Tk s σ) (hi : isS σ t = true) (hc : inB t closers = true) (hn : 1 ≤ σ.nest) (W : World) (h : RR W b s (.ok σ)) : Calls Tryz.prog 75 #[.pointer (some ⟨b, 0, none⟩)] W (RU b s (shutS s σ t) W) := by
  rw [← pass_shut tk hi hc]
  exact pass_ok h (fun _ => hn)
theorem LE.set {b : Nat} {s : ByteArray} {w : World} {α : Type} {q : Except ER PS} (h : RR w b s q) (a : α) : LE b s (bP q fun σ => .ok (a, σ)) a w := by
  match q, h with
  | .error _, h => exact h
  | .ok _, h => exact ⟨rfl, h⟩
set_option maxHeartbeats 8000000 in
theorem rtyp_car {w : World} {b : Nat} {s : ByteArray} {σ : PS} {f : Nat} (h : RR w b s (.ok σ)) (hc : σ.k = 1 ∧ identB σ.tx = true) : Calls Tryz.prog 44 #[.pointer (some ⟨b, 0, none⟩)] w (LV b s (VTy w.heap.size) (typedS (f + 1) s σ) w) := by
  obtain ⟨hat, tk⟩ := h.st
  have hz := lex_le tk h.src
  obtain ⟨u1, u2, u3, u4⟩ := tok_yes tk hc.1 hc.2
  have HP := Lib.hid (pass_nm (b := b) (s := s) (σ := σ) (by rw [u1]; exact ⟨u3, u4⟩))
  have HQ := Lib.hid (typed_c (s := s) (f := f) hc)
  rw [u1] at hat hz
  have U2 := Lib.hid u2
  clear u2 u3 u4 hc u1
  have hs := h.src
  have hlt := h.lt
  have hR0 : Blk (w.alloc (.cells #[.int .i64 0, .string ⟨#[]⟩, .slice none 0 0] 24)) w.heap.size 24 z24 := Blk.new w 24 z24
  have hat0 := hat.grow (((Kept.refl _ _).alloc (.cells #[.int .i64 0, .string ⟨#[]⟩, .slice none 0 0] 24)).alloc (.cells #[.int .i64 1, .string σ.tx, .int .i64 σ.ta] 55))
  have h1 := (h.alloc (.cells #[.int .i64 0, .string ⟨#[]⟩, .slice none 0 0] 24)).alloc (.cells #[.int .i64 1, .string σ.tx, .int .i64 σ.ta] 55)
  have hR1 := hR0.alloc (.cells #[.int .i64 1, .string σ.tx, .int .i64 σ.ta] 55)
  have K1 : Kept (· = b) w ((w.alloc (.cells #[.int .i64 0, .string ⟨#[]⟩, .slice none 0 0] 24)).alloc (.cells #[.int .i64 1, .string σ.tx, .int .i64 σ.ta] 55)) := ((Kept.refl _ _).alloc _).alloc _
  have hT1 : Blk ((w.alloc (.cells #[.int .i64 0, .string ⟨#[]⟩, .slice none 0 0] 24)).alloc (.cells #[.int .i64 1, .string σ.tx, .int .i64 σ.ta] 55)) (w.heap.size + 1) 55 [.int .i64 1, .string σ.tx, .int .i64 σ.ta] := Blk.new' 55 _ (by simp)
  have hat1 := hat.grow ((Kept.refl _ _).alloc (.cells #[.int .i64 0, .string ⟨#[]⟩, .slice none 0 0] 24))
  have c1 := hat1.c1
  have c2 := hat1.c2
  have c3 := hat1.c3
  go_enter Tryz.func44, Tryz.ntmps44
  go_wp2_with fail
  generalize ((w.alloc (.cells #[.int .i64 0, .string ⟨#[]⟩, .slice none 0 0] 24)).alloc (.cells #[.int .i64 1, .string σ.tx, .int .i64 σ.ta] 55)) = w1 at *
  refine (rok_any hat0 rfl).mono ?_
  rintro e w' ⟨rfl, rfl⟩
  have t0 : w1.cell? ⟨w.heap.size + 1, 0, none⟩ = some (.int .i64 1) := hT1.cell 0
  have t1 : w1.cell? ⟨w.heap.size + 1, 1, none⟩ = some (.string σ.tx) := hT1.cell 1
  have z1 := h1.lt
  have zT := hT1.lt
  go_wp2_with fail
  refine (primed_any σ.tx w1 hz U2.out).mono ?_
  rintro e w2 ⟨rfl, k2⟩
  have h2 := h1.kept k2 id
  have K2 := K1.trans (k2.mono (fun _ _ h => h.elim))
  have hR2 := hR1.kept k2 id
  have hT2 := hT1.kept k2 id
  go_wp2_with fail
  refine (HP.out _ h2).mono ?_
  rintro e w3 ⟨rfl, h3, k3⟩
  have hR3 := hR2.kept k3 (by show ¬ w.heap.size = b; omega)
  have hT3 := hT2.kept k3 (by show ¬ w.heap.size + 1 = b; omega)
  have t2 : w3.cell? ⟨w.heap.size + 1, 1, none⟩ = some (.string σ.tx) := hT3.cell 1
  have LL : LE b s (typedS (f + 1) s σ) (.mk 3 σ.tx []) w3 := (LE.set h3 _).eq HQ.out.symm
  have ag0 : w3.cell? ⟨w.heap.size, 0, none⟩ = some (.int .i64 0) := hR3.cell 0
  have af0 : w3.frozen? ⟨w.heap.size, 0, none⟩ = false := hR3.frozen 0
  have ag1 : w3.cell? ⟨w.heap.size, 1, none⟩ = some (.string ⟨#[]⟩) := hR3.cell 1
  have af1 : w3.frozen? ⟨w.heap.size, 1, none⟩ = false := hR3.frozen 1
  have ag2 : w3.cell? ⟨w.heap.size, 2, none⟩ = some (.slice none 0 0) := hR3.cell 2
  have af2 : w3.frozen? ⟨w.heap.size, 2, none⟩ = false := hR3.frozen 2
  go_wp2_with fail
  exact ret_lty Tryz.results44 (t := Ty.mk 3 σ.tx []) rfl rfl (r3 hR3 rfl) (.nil (Or.inl rfl)) (LL.s3 (by omega)) (k3w (K2.trans k3) (Nat.le_refl _))
set_option maxHeartbeats 8000000 in
theorem rtyp_int {w : World} {b : Nat} {s : ByteArray} {σ : PS} {f : Nat} (h : RR w b s (.ok σ)) (hn : ¬ (σ.k = 1 ∧ identB σ.tx = true)) (h1k : ((lexW s σ.ta).1 == 1) = false) (hI : isS σ kInt = true) : Calls Tryz.prog 44 #[.pointer (some ⟨b, 0, none⟩)] w (LV b s (VTy w.heap.size) (typedS (f + 1) s σ) w) := by
  obtain ⟨hat, tk⟩ := h.st
  have hz := lex_le tk h.src
  have HP := Lib.hid (pass_is (b := b) tk hI (by decide +kernel) (by decide +kernel))
  have HI := Lib.hid ((is_lex tk kInt).trans hI)
  have HQ := Lib.hid (typed_i (s := s) (f := f) hn hI)
  clear hn hI
  generalize hkk : (lexW s σ.ta).1 = k at *
  generalize hxx : (lexW s σ.ta).2 = x at *
  clear hkk hxx
  have hs := h.src
  have hlt := h.lt
  have hR0 : Blk (w.alloc (.cells #[.int .i64 0, .string ⟨#[]⟩, .slice none 0 0] 24)) w.heap.size 24 z24 := Blk.new w 24 z24
  have hat0 := hat.grow (((Kept.refl _ _).alloc (.cells #[.int .i64 0, .string ⟨#[]⟩, .slice none 0 0] 24)).alloc (.cells #[.int .i64 k, .string x, .int .i64 σ.ta] 55))
  have h1 := (h.alloc (.cells #[.int .i64 0, .string ⟨#[]⟩, .slice none 0 0] 24)).alloc (.cells #[.int .i64 k, .string x, .int .i64 σ.ta] 55)
  have hR1 := hR0.alloc (.cells #[.int .i64 k, .string x, .int .i64 σ.ta] 55)
  have K1 : Kept (· = b) w ((w.alloc (.cells #[.int .i64 0, .string ⟨#[]⟩, .slice none 0 0] 24)).alloc (.cells #[.int .i64 k, .string x, .int .i64 σ.ta] 55)) := ((Kept.refl _ _).alloc _).alloc _
  have hT1 : Blk ((w.alloc (.cells #[.int .i64 0, .string ⟨#[]⟩, .slice none 0 0] 24)).alloc (.cells #[.int .i64 k, .string x, .int .i64 σ.ta] 55)) (w.heap.size + 1) 55 [.int .i64 k, .string x, .int .i64 σ.ta] := Blk.new' 55 _ (by simp)
  have hat1 := hat.grow ((Kept.refl _ _).alloc (.cells #[.int .i64 0, .string ⟨#[]⟩, .slice none 0 0] 24))
  have c1 := hat1.c1
  have c2 := hat1.c2
  have c3 := hat1.c3
  go_enter Tryz.func44, Tryz.ntmps44
  go_wp2_with fail
  generalize ((w.alloc (.cells #[.int .i64 0, .string ⟨#[]⟩, .slice none 0 0] 24)).alloc (.cells #[.int .i64 k, .string x, .int .i64 σ.ta] 55)) = w1 at *
  refine (rok_any hat0 rfl).mono ?_
  rintro e w' ⟨rfl, rfl⟩
  have t0 : w1.cell? ⟨w.heap.size + 1, 0, none⟩ = some (.int .i64 k) := hT1.cell 0
  have t1 : w1.cell? ⟨w.heap.size + 1, 1, none⟩ = some (.string x) := hT1.cell 1
  have z1 := h1.lt
  have zT := hT1.lt
  go_wp2_with fail
  refine (ris_any hat0 kInt HI.out).mono ?_
  rintro e w' ⟨rfl, rfl⟩
  go_wp2_with fail
  refine (HP.out _ h1).mono ?_
  rintro e w3 ⟨rfl, h3, k3⟩
  have hR3 := hR1.kept k3 (by show ¬ w.heap.size = b; omega)
  have LL : LE b s (typedS (f + 1) s σ) (.mk 1 ⟨#[]⟩ []) w3 := (LE.set h3 _).eq HQ.out.symm
  have ag0 : w3.cell? ⟨w.heap.size, 0, none⟩ = some (.int .i64 0) := hR3.cell 0
  have af0 : w3.frozen? ⟨w.heap.size, 0, none⟩ = false := hR3.frozen 0
  have ag1 : w3.cell? ⟨w.heap.size, 1, none⟩ = some (.string ⟨#[]⟩) := hR3.cell 1
  have af1 : w3.frozen? ⟨w.heap.size, 1, none⟩ = false := hR3.frozen 1
  have ag2 : w3.cell? ⟨w.heap.size, 2, none⟩ = some (.slice none 0 0) := hR3.cell 2
  have af2 : w3.frozen? ⟨w.heap.size, 2, none⟩ = false := hR3.frozen 2
  go_wp2_with fail
  exact ret_lty Tryz.results44 (t := Ty.mk 1 ⟨#[]⟩ []) rfl rfl (r3 hR3 rfl) (.nil (Or.inl rfl)) (LL.s3 (by omega)) (k3w (K1.trans k3) (Nat.le_refl _))
set_option maxHeartbeats 8000000 in
theorem rtyp_none {w : World} {b : Nat} {s : ByteArray} {σ : PS} {f : Nat} (h : RR w b s (.ok σ)) (hn : ¬ (σ.k = 1 ∧ identB σ.tx = true)) (h1k : ((lexW s σ.ta).1 == 1) = false) (hI : isS σ kInt = false) (hS : isS σ kSet = false) (hP : isS σ kPair = false) : Calls Tryz.prog 44 #[.pointer (some ⟨b, 0, none⟩)] w (LV b s (VTy w.heap.size) (typedS (f + 1) s σ) w) := by
  obtain ⟨hat, tk⟩ := h.st
  have hz := lex_le tk h.src
  have HI := Lib.hid ((is_lex tk kInt).trans hI)
  have HS := Lib.hid ((is_lex tk kSet).trans hS)
  have HPP := Lib.hid ((is_lex tk kPair).trans hP)
  have HQ := Lib.hid (typed_n (s := s) (f := f) hn hI hS hP)
  clear hn hI hS hP
  generalize hkk : (lexW s σ.ta).1 = k at *
  generalize hxx : (lexW s σ.ta).2 = x at *
  clear hkk hxx
  have hs := h.src
  have hlt := h.lt
  have hR0 : Blk (w.alloc (.cells #[.int .i64 0, .string ⟨#[]⟩, .slice none 0 0] 24)) w.heap.size 24 z24 := Blk.new w 24 z24
  have hat0 := hat.grow (((Kept.refl _ _).alloc (.cells #[.int .i64 0, .string ⟨#[]⟩, .slice none 0 0] 24)).alloc (.cells #[.int .i64 k, .string x, .int .i64 σ.ta] 55))
  have h1 := (h.alloc (.cells #[.int .i64 0, .string ⟨#[]⟩, .slice none 0 0] 24)).alloc (.cells #[.int .i64 k, .string x, .int .i64 σ.ta] 55)
  have hR1 := hR0.alloc (.cells #[.int .i64 k, .string x, .int .i64 σ.ta] 55)
  have K1 : Kept (· = b) w ((w.alloc (.cells #[.int .i64 0, .string ⟨#[]⟩, .slice none 0 0] 24)).alloc (.cells #[.int .i64 k, .string x, .int .i64 σ.ta] 55)) := ((Kept.refl _ _).alloc _).alloc _
  have hT1 : Blk ((w.alloc (.cells #[.int .i64 0, .string ⟨#[]⟩, .slice none 0 0] 24)).alloc (.cells #[.int .i64 k, .string x, .int .i64 σ.ta] 55)) (w.heap.size + 1) 55 [.int .i64 k, .string x, .int .i64 σ.ta] := Blk.new' 55 _ (by simp)
  have hat1 := hat.grow ((Kept.refl _ _).alloc (.cells #[.int .i64 0, .string ⟨#[]⟩, .slice none 0 0] 24))
  have c1 := hat1.c1
  have c2 := hat1.c2
  have c3 := hat1.c3
  go_enter Tryz.func44, Tryz.ntmps44
  go_wp2_with fail
  generalize ((w.alloc (.cells #[.int .i64 0, .string ⟨#[]⟩, .slice none 0 0] 24)).alloc (.cells #[.int .i64 k, .string x, .int .i64 σ.ta] 55)) = w1 at *
  refine (rok_any hat0 rfl).mono ?_
  rintro e w' ⟨rfl, rfl⟩
  have t0 : w1.cell? ⟨w.heap.size + 1, 0, none⟩ = some (.int .i64 k) := hT1.cell 0
  have t1 : w1.cell? ⟨w.heap.size + 1, 1, none⟩ = some (.string x) := hT1.cell 1
  have z1 := h1.lt
  have zT := hT1.lt
  go_wp2_with fail
  refine (ris_any hat0 kInt HI.out).mono ?_
  rintro e w' ⟨rfl, rfl⟩
  go_wp2_with fail
  refine (ris_any hat0 kSet HS.out).mono ?_
  rintro e w' ⟨rfl, rfl⟩
  go_wp2_with fail
  refine (ris_any hat0 kPair HPP.out).mono ?_
  rintro e w' ⟨rfl, rfl⟩
  go_wp2_with fail
  refine (rwrong_live hat0 rfl).mono ?_
  rintro e w3 ⟨rfl, h3, k3⟩
  have hR3 := hR1.kept k3 (by show ¬ w.heap.size = b; omega)
  have LL : LE b s (typedS (f + 1) s σ) ty0 w3 := by rw [HQ.out]; exact RR.wrong (r := (false, σ.ta)) hs rfl h3
  have ag0 : w3.cell? ⟨w.heap.size, 0, none⟩ = some (.int .i64 0) := hR3.cell 0
  have af0 : w3.frozen? ⟨w.heap.size, 0, none⟩ = false := hR3.frozen 0
  have ag1 : w3.cell? ⟨w.heap.size, 1, none⟩ = some (.string ⟨#[]⟩) := hR3.cell 1
  have af1 : w3.frozen? ⟨w.heap.size, 1, none⟩ = false := hR3.frozen 1
  have ag2 : w3.cell? ⟨w.heap.size, 2, none⟩ = some (.slice none 0 0) := hR3.cell 2
  have af2 : w3.frozen? ⟨w.heap.size, 2, none⟩ = false := hR3.frozen 2
  go_wp2_with fail
  exact ret_lty Tryz.results44 (t := ty0) rfl rfl (r3 hR3 rfl) (.nil (Or.inl rfl)) (LL.s3 (by omega)) (k3w (K1.trans k3) (Nat.le_refl _))
set_option maxHeartbeats 8000000 in
theorem rtyp_prim {w : World} {b : Nat} {s : ByteArray} {σ : PS} {f : Nat} (h : RR w b s (.ok σ)) (hn : ¬ (σ.k = 1 ∧ identB σ.tx = true)) (h1k : (lexW s σ.ta).1 = 1) (hpr : primB (lexW s σ.ta).2 = true) : Calls Tryz.prog 44 #[.pointer (some ⟨b, 0, none⟩)] w (LV b s (VTy w.heap.size) (typedS (f + 1) s σ) w) := by
  obtain ⟨hat, tk⟩ := h.st
  have hz := lex_le tk h.src
  have nI : ∀ t, isS σ t = false := fun t => by rw [← is_lex tk t, isR, h1k]; rfl
  have hI := nI kInt
  have hS := nI kSet
  have hP := nI kPair
  clear nI
  have HI := Lib.hid ((is_lex tk kInt).trans hI)
  have HS := Lib.hid ((is_lex tk kSet).trans hS)
  have HPP := Lib.hid ((is_lex tk kPair).trans hP)
  have HQ := Lib.hid (typed_n (s := s) (f := f) hn hI hS hP)
  clear hn hI hS hP
  rw [h1k] at hat HI HS HPP
  have HPR := Lib.hid hpr
  clear hpr h1k
  generalize hxx : (lexW s σ.ta).2 = x at *
  clear hxx
  have hs := h.src
  have hlt := h.lt
  have hR0 : Blk (w.alloc (.cells #[.int .i64 0, .string ⟨#[]⟩, .slice none 0 0] 24)) w.heap.size 24 z24 := Blk.new w 24 z24
  have hat0 := hat.grow (((Kept.refl _ _).alloc (.cells #[.int .i64 0, .string ⟨#[]⟩, .slice none 0 0] 24)).alloc (.cells #[.int .i64 1, .string x, .int .i64 σ.ta] 55))
  have h1 := (h.alloc (.cells #[.int .i64 0, .string ⟨#[]⟩, .slice none 0 0] 24)).alloc (.cells #[.int .i64 1, .string x, .int .i64 σ.ta] 55)
  have hR1 := hR0.alloc (.cells #[.int .i64 1, .string x, .int .i64 σ.ta] 55)
  have K1 : Kept (· = b) w ((w.alloc (.cells #[.int .i64 0, .string ⟨#[]⟩, .slice none 0 0] 24)).alloc (.cells #[.int .i64 1, .string x, .int .i64 σ.ta] 55)) := ((Kept.refl _ _).alloc _).alloc _
  have hT1 : Blk ((w.alloc (.cells #[.int .i64 0, .string ⟨#[]⟩, .slice none 0 0] 24)).alloc (.cells #[.int .i64 1, .string x, .int .i64 σ.ta] 55)) (w.heap.size + 1) 55 [.int .i64 1, .string x, .int .i64 σ.ta] := Blk.new' 55 _ (by simp)
  have hat1 := hat.grow ((Kept.refl _ _).alloc (.cells #[.int .i64 0, .string ⟨#[]⟩, .slice none 0 0] 24))
  have c1 := hat1.c1
  have c2 := hat1.c2
  have c3 := hat1.c3
  go_enter Tryz.func44, Tryz.ntmps44
  go_wp2_with fail
  generalize ((w.alloc (.cells #[.int .i64 0, .string ⟨#[]⟩, .slice none 0 0] 24)).alloc (.cells #[.int .i64 1, .string x, .int .i64 σ.ta] 55)) = w1 at *
  refine (rok_any hat0 rfl).mono ?_
  rintro e w' ⟨rfl, rfl⟩
  have t0 : w1.cell? ⟨w.heap.size + 1, 0, none⟩ = some (.int .i64 1) := hT1.cell 0
  have t1 : w1.cell? ⟨w.heap.size + 1, 1, none⟩ = some (.string x) := hT1.cell 1
  have z1 := h1.lt
  have zT := hT1.lt
  go_wp2_with fail
  refine (primed_any x w1 hz HPR.out).mono ?_
  rintro e w2 ⟨rfl, k2⟩
  have h2 := h1.kept k2 id
  have hat2 := hat0.kept k2 id
  have K2 := K1.trans (k2.mono (fun _ _ h => h.elim))
  have hR2 := hR1.kept k2 id
  clear hat0 hR1 K1 hat1 hT1 t0 t1
  go_wp2_with fail
  refine (ris_any hat2 kInt HI.out).mono ?_
  rintro e w' ⟨rfl, rfl⟩
  go_wp2_with fail
  refine (ris_any hat2 kSet HS.out).mono ?_
  rintro e w' ⟨rfl, rfl⟩
  go_wp2_with fail
  refine (ris_any hat2 kPair HPP.out).mono ?_
  rintro e w' ⟨rfl, rfl⟩
  go_wp2_with fail
  refine (rwrong_live hat2 rfl).mono ?_
  rintro e w3 ⟨rfl, h3, k3⟩
  have hR3 := hR2.kept k3 (by show ¬ w.heap.size = b; omega)
  have LL : LE b s (typedS (f + 1) s σ) ty0 w3 := by rw [HQ.out]; exact RR.wrong (r := (false, σ.ta)) hs rfl h3
  have ag0 : w3.cell? ⟨w.heap.size, 0, none⟩ = some (.int .i64 0) := hR3.cell 0
  have af0 : w3.frozen? ⟨w.heap.size, 0, none⟩ = false := hR3.frozen 0
  have ag1 : w3.cell? ⟨w.heap.size, 1, none⟩ = some (.string ⟨#[]⟩) := hR3.cell 1
  have af1 : w3.frozen? ⟨w.heap.size, 1, none⟩ = false := hR3.frozen 1
  have ag2 : w3.cell? ⟨w.heap.size, 2, none⟩ = some (.slice none 0 0) := hR3.cell 2
  have af2 : w3.frozen? ⟨w.heap.size, 2, none⟩ = false := hR3.frozen 2
  go_wp2_with fail
  exact ret_lty Tryz.results44 (t := ty0) rfl rfl (r3 hR3 rfl) (.nil (Or.inl rfl)) (LL.s3 (by omega)) (k3w (K2.trans k3) (Nat.le_refl _))
theorem typed_s {s : ByteArray} {σ : PS} {f : Nat} (hn : ¬ (σ.k = 1 ∧ identB σ.tx = true)) (hI : isS σ kInt = false) (hS : isS σ kSet = true) :
    typedS (f + 1) s σ = bT (bT (bP (bP (advS s σ) fun σ => openS s σ kLpar) (typedS f s)) fun a' σ => bP (shutS s σ kRpar) fun σ' => .ok (a', σ')) fun a' σ => .ok (Ty.mk 5 ⟨#[]⟩ [a'], σ) := by
  rw [typedS, if_neg hn, if_neg (by rw [hI]; simp), if_pos hS]
  cases advS s σ with
  | error _ => rfl
  | ok σ1 =>
    dsimp only [bP]
    cases openS s σ1 kLpar with
    | error _ => rfl
    | ok σ2 =>
      dsimp only
      cases typedS f s σ2 with
      | error _ => rfl
      | ok q =>
        obtain ⟨t, σ3⟩ := q
        dsimp only [bT]
        cases shutS s σ3 kRpar <;> rfl
theorem typed_p {s : ByteArray} {σ : PS} {f : Nat} (hn : ¬ (σ.k = 1 ∧ identB σ.tx = true)) (hI : isS σ kInt = false) (hS : isS σ kSet = false) (hP : isS σ kPair = true) :
    typedS (f + 1) s σ = bT (bT (bT (bT (bP (bP (advS s σ) fun σ => openS s σ kLpar) (typedS f s)) fun a' σ => bP (wantS s σ kComma) fun σ' => .ok (a', σ')) fun a' σ => bT (typedS f s σ) fun a2' σ' => .ok ((a', a2'), σ')) fun a' σ => bP (shutS s σ kRpar) fun σ' => .ok (a', σ')) fun a' σ => .ok (Ty.mk 4 ⟨#[]⟩ [a'.1, a'.2], σ) := by
  rw [typedS, if_neg hn, if_neg (by rw [hI]; simp), if_neg (by rw [hS]; simp), if_pos hP]
  cases advS s σ with
  | error _ => rfl
  | ok σ1 =>
    dsimp only [bP]
    cases openS s σ1 kLpar with
    | error _ => rfl
    | ok σ2 =>
      dsimp only
      cases typedS f s σ2 with
      | error _ => rfl
      | ok q =>
        obtain ⟨t, σ3⟩ := q
        dsimp only [bT]
        cases wantS s σ3 kComma with
        | error _ => rfl
        | ok σ4 =>
          dsimp only
          cases typedS f s σ4 with
          | error _ => rfl
          | ok q =>
            obtain ⟨u, σ5⟩ := q
            dsimp only
            cases shutS s σ5 kRpar <;> rfl
set_option maxHeartbeats 8000000 in
theorem rtyp_set {w : World} {b : Nat} {s : ByteArray} {σ : PS} {f : Nat} (h : RR w b s (.ok σ)) (ih : RTY b s f) (hp : σ.p ≤ s.size) (hm : mu s σ < f + 1) (hn : ¬ (σ.k = 1 ∧ identB σ.tx = true)) (h1k : ((lexW s σ.ta).1 == 1) = false) (hI : isS σ kInt = false) (hS : isS σ kSet = true) : Calls Tryz.prog 44 #[.pointer (some ⟨b, 0, none⟩)] w (LV b s (VTy w.heap.size) (typedS (f + 1) s σ) w) := by
  obtain ⟨hat, tk⟩ := h.st
  have hz := lex_le tk h.src
  have HP := Lib.hid (pass_is (b := b) tk hS (by decide +kernel) (by decide +kernel))
  have HI := Lib.hid ((is_lex tk kInt).trans hI)
  have HS := Lib.hid ((is_lex tk kSet).trans hS)
  have HQ := Lib.hid (typed_s (s := s) (f := f) hn hI hS)
  have QA := Lib.hid (qb_adv hp (isS_ne hS))
  have mpos : 1 ≤ mu s σ := by have := isS_ne hS; unfold mu; rw [if_neg this]; omega
  have HM := Lib.hid (show mu s σ - 1 - 1 < f by omega)
  have HM2 := Lib.hid (show mu s σ - 1 - 1 - 1 < f by omega)
  have IH := Lib.hid ih
  clear ih hm mpos hn hI hS
  generalize hkk : (lexW s σ.ta).1 = k at *
  generalize hxx : (lexW s σ.ta).2 = x at *
  clear hkk hxx
  have hs := h.src
  have hlt := h.lt
  have hR0 : Blk (w.alloc (.cells #[.int .i64 0, .string ⟨#[]⟩, .slice none 0 0] 24)) w.heap.size 24 z24 := Blk.new w 24 z24
  have hat0 := hat.grow (((Kept.refl _ _).alloc (.cells #[.int .i64 0, .string ⟨#[]⟩, .slice none 0 0] 24)).alloc (.cells #[.int .i64 k, .string x, .int .i64 σ.ta] 55))
  have h1 := (h.alloc (.cells #[.int .i64 0, .string ⟨#[]⟩, .slice none 0 0] 24)).alloc (.cells #[.int .i64 k, .string x, .int .i64 σ.ta] 55)
  have hR1 := hR0.alloc (.cells #[.int .i64 k, .string x, .int .i64 σ.ta] 55)
  have K1 : Kept (· = b) w ((w.alloc (.cells #[.int .i64 0, .string ⟨#[]⟩, .slice none 0 0] 24)).alloc (.cells #[.int .i64 k, .string x, .int .i64 σ.ta] 55)) := ((Kept.refl _ _).alloc _).alloc _
  have hT1 : Blk ((w.alloc (.cells #[.int .i64 0, .string ⟨#[]⟩, .slice none 0 0] 24)).alloc (.cells #[.int .i64 k, .string x, .int .i64 σ.ta] 55)) (w.heap.size + 1) 55 [.int .i64 k, .string x, .int .i64 σ.ta] := Blk.new' 55 _ (by simp)
  have hat1 := hat.grow ((Kept.refl _ _).alloc (.cells #[.int .i64 0, .string ⟨#[]⟩, .slice none 0 0] 24))
  have c1 := hat1.c1
  have c2 := hat1.c2
  have c3 := hat1.c3
  go_enter Tryz.func44, Tryz.ntmps44
  go_wp2_with fail
  generalize ((w.alloc (.cells #[.int .i64 0, .string ⟨#[]⟩, .slice none 0 0] 24)).alloc (.cells #[.int .i64 k, .string x, .int .i64 σ.ta] 55)) = w1 at *
  refine (rok_any hat0 rfl).mono ?_
  rintro e w' ⟨rfl, rfl⟩
  have t0 : w1.cell? ⟨w.heap.size + 1, 0, none⟩ = some (.int .i64 k) := hT1.cell 0
  have t1 : w1.cell? ⟨w.heap.size + 1, 1, none⟩ = some (.string x) := hT1.cell 1
  have z1 := h1.lt
  have zT := hT1.lt
  go_wp2_with fail
  refine (ris_any hat0 kInt HI.out).mono ?_
  rintro e w' ⟨rfl, rfl⟩
  go_wp2_with fail
  refine (ris_any hat0 kSet HS.out).mono ?_
  rintro e w' ⟨rfl, rfl⟩
  go_wp2_with fail
  refine (HP.out _ h1).mono ?_
  rintro e w2 ⟨rfl, h2, k2⟩
  have hR2 := hR1.kept k2 (by show ¬ w.heap.size = b; omega)
  have K2 := K1.trans k2
  go_wp2_with fail
  refine (rmust_open h2 kLpar (by decide +kernel)).mono ?_
  rintro e w3 ⟨rfl, h3, k3⟩
  have hR3 := hR2.kept k3 (by show ¬ w.heap.size = b; omega)
  have K3 := K2.trans k3
  have q3 := qb_open QA.out kLpar
  have Q3 := Lib.hid q3
  have l3 := hR3.lt
  have b3 := h3.lt
  go_wp2_with fail
  refine (IH.out.at h3 q3 HM.out).mono ?_
  rintro e w4 ⟨t, v, rfl, ⟨tk4, rfl, at4⟩, le4, k4⟩
  clear q3
  obtain ⟨ta, tn, tc, rfl⟩ := at4.slice
  unfold tyVal
  have hR4 := hR3.kept k4 (by show ¬ w.heap.size = b; omega)
  have K4 := K3.trans k4
  have Q4 := Lib.hid (qb_ty f Q3.out)
  have hR5 := hR4.alloc (.cells #[.int .i64 t.kind, .string t.name, .slice ta tn tc] 24)
  have K5 := K4.alloc (.cells #[.int .i64 t.kind, .string t.name, .slice ta tn tc] 24)
  have L5 := le4.alloc (.cells #[.int .i64 t.kind, .string t.name, .slice ta tn tc] 24)
  have hA5 : Blk (w4.alloc (.cells #[.int .i64 t.kind, .string t.name, .slice ta tn tc] 24)) w4.heap.size 24 [.int .i64 t.kind, .string t.name, .slice ta tn tc] := Blk.new w4 24 _
  have a5 := at4.frame (Same.alloc _ (.cells #[.int .i64 t.kind, .string t.name, .slice ta tn tc] 24))
  have z4 := k4.size
  have l4 := hR4.lt
  have b4 := le4.rr.lt
  go_wp2_with fail
  refine (rmust_shut L5.rr kRpar (by decide +kernel) (fun σ e => by have := (Q4.out σ e).2.2; omega)).mono ?_
  rintro e w6 ⟨rfl, h6, k6⟩
  have L6 := (L5.then_u h6).map (fun a => Ty.mk 5 ⟨#[]⟩ [a])
  have hR6 := hR5.kept k6 (by show ¬ w.heap.size = b; omega)
  have hA6 := hA5.kept k6 (by show ¬ w4.heap.size = b; omega)
  have a6 := a5.frame (Same.of_kept k6 (fun k h e => by omega))
  have K6 := K5.trans k6
  have y0 : w6.cell? ⟨w4.heap.size, 0, none⟩ = some (.int .i64 t.kind) := hA6.cell 0
  have y1 : w6.cell? ⟨w4.heap.size, 1, none⟩ = some (.string t.name) := hA6.cell 1
  have y2 : w6.cell? ⟨w4.heap.size, 2, none⟩ = some (.slice ta tn tc) := hA6.cell 2
  have l6 : w.heap.size < w6.heap.size := hR6.lt
  have z6 := K6.size
  have ag0 : w6.cell? ⟨w.heap.size, 0, none⟩ = some (.int .i64 0) := hR6.cell 0
  have af0 : w6.frozen? ⟨w.heap.size, 0, none⟩ = false := hR6.frozen 0
  have ag1 : w6.cell? ⟨w.heap.size, 1, none⟩ = some (.string ⟨#[]⟩) := hR6.cell 1
  have af1 : w6.frozen? ⟨w.heap.size, 1, none⟩ = false := hR6.frozen 1
  have ag2 : w6.cell? ⟨w.heap.size, 2, none⟩ = some (.slice none 0 0) := hR6.cell 2
  have af2 : w6.frozen? ⟨w.heap.size, 2, none⟩ = false := hR6.frozen 2
  go_wp2_with fail
  refine ret_lty Tryz.results44 (t := Ty.mk 5 ⟨#[]⟩ [t]) rfl rfl ((r3 hR6 rfl).alloc _) ?_ (((L6.eq HQ.out.symm).s3 (by omega)).alloc _) ((k3w K6 (Nat.le_refl _)).alloc _)
  refine TyL.one (r := []) (ty := 24) (by omega) (Nat.le_refl _) (Blk.new' 24 _ (by simp)) ?_
  exact ((a6.frame (same3 (R := w.heap.size) (by omega))).frame (Same.alloc _ _)).mono (fun k _ h => by omega)
set_option maxHeartbeats 8000000 in
theorem rtyp_pair {w : World} {b : Nat} {s : ByteArray} {σ : PS} {f : Nat} (h : RR w b s (.ok σ)) (ih : RTY b s f) (hp : σ.p ≤ s.size) (hm : mu s σ < f + 1) (hn : ¬ (σ.k = 1 ∧ identB σ.tx = true)) (h1k : ((lexW s σ.ta).1 == 1) = false) (hI : isS σ kInt = false) (hS : isS σ kSet = false) (hP : isS σ kPair = true) : Calls Tryz.prog 44 #[.pointer (some ⟨b, 0, none⟩)] w (LV b s (VTy w.heap.size) (typedS (f + 1) s σ) w) := by
  obtain ⟨hat, tk⟩ := h.st
  have hz := lex_le tk h.src
  have HP := Lib.hid (pass_is (b := b) tk hP (by decide +kernel) (by decide +kernel))
  have HI := Lib.hid ((is_lex tk kInt).trans hI)
  have HS := Lib.hid ((is_lex tk kSet).trans hS)
  have HPP := Lib.hid ((is_lex tk kPair).trans hP)
  have HQ := Lib.hid (typed_p (s := s) (f := f) hn hI hS hP)
  have QA := Lib.hid (qb_adv hp (isS_ne hP))
  have mpos : 1 ≤ mu s σ := by have := isS_ne hP; unfold mu; rw [if_neg this]; omega
  have HM := Lib.hid (show mu s σ - 1 - 1 < f by omega)
  have HM2 := Lib.hid (show mu s σ - 1 - 1 - 1 < f by omega)
  have IH := Lib.hid ih
  clear ih hm mpos hn hI hS hP
  generalize hkk : (lexW s σ.ta).1 = k at *
  generalize hxx : (lexW s σ.ta).2 = x at *
  clear hkk hxx
  have hs := h.src
  have hlt := h.lt
  have hR0 : Blk (w.alloc (.cells #[.int .i64 0, .string ⟨#[]⟩, .slice none 0 0] 24)) w.heap.size 24 z24 := Blk.new w 24 z24
  have hat0 := hat.grow (((Kept.refl _ _).alloc (.cells #[.int .i64 0, .string ⟨#[]⟩, .slice none 0 0] 24)).alloc (.cells #[.int .i64 k, .string x, .int .i64 σ.ta] 55))
  have h1 := (h.alloc (.cells #[.int .i64 0, .string ⟨#[]⟩, .slice none 0 0] 24)).alloc (.cells #[.int .i64 k, .string x, .int .i64 σ.ta] 55)
  have hR1 := hR0.alloc (.cells #[.int .i64 k, .string x, .int .i64 σ.ta] 55)
  have K1 : Kept (· = b) w ((w.alloc (.cells #[.int .i64 0, .string ⟨#[]⟩, .slice none 0 0] 24)).alloc (.cells #[.int .i64 k, .string x, .int .i64 σ.ta] 55)) := ((Kept.refl _ _).alloc _).alloc _
  have hT1 : Blk ((w.alloc (.cells #[.int .i64 0, .string ⟨#[]⟩, .slice none 0 0] 24)).alloc (.cells #[.int .i64 k, .string x, .int .i64 σ.ta] 55)) (w.heap.size + 1) 55 [.int .i64 k, .string x, .int .i64 σ.ta] := Blk.new' 55 _ (by simp)
  have hat1 := hat.grow ((Kept.refl _ _).alloc (.cells #[.int .i64 0, .string ⟨#[]⟩, .slice none 0 0] 24))
  have c1 := hat1.c1
  have c2 := hat1.c2
  have c3 := hat1.c3
  go_enter Tryz.func44, Tryz.ntmps44
  go_wp2_with fail
  generalize ((w.alloc (.cells #[.int .i64 0, .string ⟨#[]⟩, .slice none 0 0] 24)).alloc (.cells #[.int .i64 k, .string x, .int .i64 σ.ta] 55)) = w1 at *
  refine (rok_any hat0 rfl).mono ?_
  rintro e w' ⟨rfl, rfl⟩
  have t0 : w1.cell? ⟨w.heap.size + 1, 0, none⟩ = some (.int .i64 k) := hT1.cell 0
  have t1 : w1.cell? ⟨w.heap.size + 1, 1, none⟩ = some (.string x) := hT1.cell 1
  have z1 := h1.lt
  have zT := hT1.lt
  go_wp2_with fail
  refine (ris_any hat0 kInt HI.out).mono ?_
  rintro e w' ⟨rfl, rfl⟩
  go_wp2_with fail
  refine (ris_any hat0 kSet HS.out).mono ?_
  rintro e w' ⟨rfl, rfl⟩
  go_wp2_with fail
  refine (ris_any hat0 kPair HPP.out).mono ?_
  rintro e w' ⟨rfl, rfl⟩
  go_wp2_with fail
  refine (HP.out _ h1).mono ?_
  rintro e w2 ⟨rfl, h2, k2⟩
  have hR2 := hR1.kept k2 (by show ¬ w.heap.size = b; omega)
  have K2 := K1.trans k2
  go_wp2_with fail
  refine (rmust_open h2 kLpar (by decide +kernel)).mono ?_
  rintro e w3 ⟨rfl, h3, k3⟩
  have hR3 := hR2.kept k3 (by show ¬ w.heap.size = b; omega)
  have K3 := K2.trans k3
  have q3 := qb_open QA.out kLpar
  have Q3 := Lib.hid q3
  have l3 := hR3.lt
  have b3 := h3.lt
  go_wp2_with fail
  refine (IH.out.at h3 q3 HM.out).mono ?_
  rintro e w4 ⟨t, v, rfl, ⟨tk4, rfl, at4⟩, le4, k4⟩
  clear q3
  obtain ⟨ta, tn, tc, rfl⟩ := at4.slice
  unfold tyVal
  have hR4 := hR3.kept k4 (by show ¬ w.heap.size = b; omega)
  have K4 := K3.trans k4
  have Q4 := Lib.hid (qb_ty f Q3.out)
  have hR5 := hR4.alloc (.cells #[.int .i64 t.kind, .string t.name, .slice ta tn tc] 24)
  have K5 := K4.alloc (.cells #[.int .i64 t.kind, .string t.name, .slice ta tn tc] 24)
  have L5 := le4.alloc (.cells #[.int .i64 t.kind, .string t.name, .slice ta tn tc] 24)
  have hA5 : Blk (w4.alloc (.cells #[.int .i64 t.kind, .string t.name, .slice ta tn tc] 24)) w4.heap.size 24 [.int .i64 t.kind, .string t.name, .slice ta tn tc] := Blk.new w4 24 _
  have a5 := at4.frame (Same.alloc _ (.cells #[.int .i64 t.kind, .string t.name, .slice ta tn tc] 24))
  have z4 := k4.size
  have l4 := hR4.lt
  have b4 := le4.rr.lt
  go_wp2_with fail
  refine (rmust_want L5.rr kComma (by decide +kernel) (by decide +kernel)).mono ?_
  rintro e w6 ⟨rfl, h6, k6⟩
  have L6 := L5.then_u h6
  have hR6 := hR5.kept k6 (by show ¬ w.heap.size = b; omega)
  have hA6 := hA5.kept k6 (by show ¬ w4.heap.size = b; omega)
  have a6 := a5.frame (Same.of_kept k6 (fun k h e => by omega))
  have K6 := K5.trans k6
  have q6 := qb_u (qb_want Q4.out kComma)
  have Q6 := Lib.hid q6
  have z6 := k6.size
  have lA6 := hA6.lt
  have b6 := L6.rr.lt
  have l6 := hR6.lt
  go_wp2_with fail
  refine (IH.out.at L6.rr q6 HM2.out).mono ?_
  rintro e w7 ⟨u, v, rfl, ⟨tk7, rfl, at7⟩, le7, k7⟩
  clear q6
  obtain ⟨ua, un, uc, rfl⟩ := at7.slice
  unfold tyVal
  have L7 := L6.then_v le7
  have hR7 := (hR6.kept k7 (by show ¬ w.heap.size = b; omega)).alloc (.cells #[.int .i64 u.kind, .string u.name, .slice ua un uc] 24)
  have hA7 := (hA6.kept k7 (by show ¬ w4.heap.size = b; omega)).alloc (.cells #[.int .i64 u.kind, .string u.name, .slice ua un uc] 24)
  have a7 := (a6.frame (Same.of_kept k7 (fun k h e => by omega))).frame (Same.alloc _ (.cells #[.int .i64 u.kind, .string u.name, .slice ua un uc] 24))
  have K7 := (K6.trans k7).alloc (.cells #[.int .i64 u.kind, .string u.name, .slice ua un uc] 24)
  have Q7 := Lib.hid (qb_v (qb_ty f Q6.out))
  have L8 := L7.alloc (.cells #[.int .i64 u.kind, .string u.name, .slice ua un uc] 24)
  have hB7 : Blk (w7.alloc (.cells #[.int .i64 u.kind, .string u.name, .slice ua un uc] 24)) w7.heap.size 24 [.int .i64 u.kind, .string u.name, .slice ua un uc] := Blk.new w7 24 _
  have u7 := at7.frame (Same.alloc _ (.cells #[.int .i64 u.kind, .string u.name, .slice ua un uc] 24))
  have z7 := k7.size
  have b7 := L7.rr.lt
  go_wp2_with fail
  refine (rmust_shut L8.rr kRpar (by decide +kernel) (fun σ e => by have := (Q7.out σ e).2.2; omega)).mono ?_
  rintro e w8 ⟨rfl, h8, k8⟩
  have L9 := (L8.then_u h8).map (fun a => Ty.mk 4 ⟨#[]⟩ [a.1, a.2])
  have hR8 := hR7.kept k8 (by show ¬ w.heap.size = b; omega)
  have hA8 := hA7.kept k8 (by show ¬ w4.heap.size = b; omega)
  have hB8 := hB7.kept k8 (by show ¬ w7.heap.size = b; omega)
  have a8 := a7.frame (Same.of_kept k8 (fun k h e => by omega))
  have u8 := u7.frame (Same.of_kept k8 (fun k h e => by omega))
  have K8 := K7.trans k8
  have y0 : w8.cell? ⟨w4.heap.size, 0, none⟩ = some (.int .i64 t.kind) := hA8.cell 0
  have y1 : w8.cell? ⟨w4.heap.size, 1, none⟩ = some (.string t.name) := hA8.cell 1
  have y2 : w8.cell? ⟨w4.heap.size, 2, none⟩ = some (.slice ta tn tc) := hA8.cell 2
  have x0 : w8.cell? ⟨w7.heap.size, 0, none⟩ = some (.int .i64 u.kind) := hB8.cell 0
  have x1 : w8.cell? ⟨w7.heap.size, 1, none⟩ = some (.string u.name) := hB8.cell 1
  have x2 : w8.cell? ⟨w7.heap.size, 2, none⟩ = some (.slice ua un uc) := hB8.cell 2
  have l8 : w.heap.size < w8.heap.size := hR8.lt
  have z8 := K8.size
  have ag0 : w8.cell? ⟨w.heap.size, 0, none⟩ = some (.int .i64 0) := hR8.cell 0
  have af0 : w8.frozen? ⟨w.heap.size, 0, none⟩ = false := hR8.frozen 0
  have ag1 : w8.cell? ⟨w.heap.size, 1, none⟩ = some (.string ⟨#[]⟩) := hR8.cell 1
  have af1 : w8.frozen? ⟨w.heap.size, 1, none⟩ = false := hR8.frozen 1
  have ag2 : w8.cell? ⟨w.heap.size, 2, none⟩ = some (.slice none 0 0) := hR8.cell 2
  have af2 : w8.frozen? ⟨w.heap.size, 2, none⟩ = false := hR8.frozen 2
  go_wp2_with fail
  refine ret_lty Tryz.results44 (t := Ty.mk 4 ⟨#[]⟩ [t, u]) rfl rfl ((r3 hR8 rfl).alloc _) ?_ (((L9.eq HQ.out.symm).s3 (by omega)).alloc _) ((k3w K8 (Nat.le_refl _)).alloc _)
  refine TyL.two (ty := 24) (by omega) (Nat.le_refl _) (Blk.new' 24 _ (by simp)) ?_ ?_
  · exact ((a8.frame (same3 (R := w.heap.size) (by omega))).frame (Same.alloc _ _)).mono (fun k _ h => by omega)
  · exact ((u8.frame (same3 (R := w.heap.size) (by omega))).frame (Same.alloc _ _)).mono (fun k _ h => by omega)
theorem rtyp_any {b : Nat} {s : ByteArray} (f : Nat) : RTY b s f := by
  induction f with
  | zero =>
    intro q w h hq
    match q, h with
    | .error r, h => exact rtyp_err h
    | .ok σ, h => have := (hq σ rfl).1; omega
  | succ f ih =>
    intro q w h hq
    match q, h with
    | .error r, h => exact rtyp_err h
    | .ok σ, h =>
      obtain ⟨hm, hp⟩ := hq σ rfl
      show Calls _ _ _ _ (LV b s _ (typedS (f + 1) s σ) w)
      by_cases hc : σ.k = 1 ∧ identB σ.tx = true
      · exact rtyp_car h hc
      · rcases tok_no (h.tk rfl) hc with h1 | ⟨h1, h2⟩
        · cases hI : isS σ kInt
          · cases hS : isS σ kSet
            · cases hP : isS σ kPair
              · exact rtyp_none h hc h1 hI hS hP
              · exact rtyp_pair h ih hp hm hc h1 hI hS hP
            · exact rtyp_set h ih hp hm hc h1 hI hS
          · exact rtyp_int h hc h1 hI
        · exact rtyp_prim h hc h1 h2
set_option maxHeartbeats 8000000 in
theorem rinside_any {b f : Nat} {s : ByteArray} {T : TF} (hT : RTC b s f T) (hI : TInv s T) {w : World} {q : Except ER PS} (h : RR w b s q) (c : ByteArray) (hc : inB c closers = true) {M N : Nat} (hq : QB s q M N) (hN : 1 ≤ N) (hf : 14 * M + 13 < f) :
    Calls Tryz.prog 124 #[.pointer (some ⟨b, 0, none⟩), .string c] w (LV b s (VTm w.heap.size) (bT (bP q (T 1)) fun t σ => bP (shutS s σ c) fun σ' => .ok (t, σ')) w) := by
  have hlt := h.lt
  have hR0 : Blk (w.alloc (.cells #[.int .i64 0, .string ⟨#[]⟩, .int .i64 0, .int .i64 0, .string ⟨#[]⟩, .slice none 0 0, .slice none 0 0] 27)) w.heap.size 27 z27 := Blk.new w 27 z27
  have h0 := h.alloc (.cells #[.int .i64 0, .string ⟨#[]⟩, .int .i64 0, .int .i64 0, .string ⟨#[]⟩, .slice none 0 0, .slice none 0 0] 27)
  have K0 : Kept (· = b) w (w.alloc (.cells #[.int .i64 0, .string ⟨#[]⟩, .int .i64 0, .int .i64 0, .string ⟨#[]⟩, .slice none 0 0, .slice none 0 0] 27)) := (Kept.refl _ _).alloc _
  have Q0 := Lib.hid hq
  have HC := Lib.hid hc
  clear hq hc
  go_enter Tryz.func124, Tryz.ntmps124
  go_wp2_with fail
  generalize (w.alloc (.cells #[.int .i64 0, .string ⟨#[]⟩, .int .i64 0, .int .i64 0, .string ⟨#[]⟩, .slice none 0 0, .slice none 0 0] 27)) = w1 at *
  refine (hT.at 1 1 rfl (by decide) (by decide) h0 Q0.out (by omega)).mono ?_
  rintro e w2 ⟨t, v, rfl, ⟨tk2, kk2, rfl, a2, c2⟩, L2, k2⟩
  obtain ⟨ta, tn, tc, rfl⟩ := a2.slice
  obtain ⟨td, te, tf, rfl⟩ := c2.slice
  unfold tmVal
  have l1 := hR0.lt
  have z2 := k2.size
  have hR3 := (hR0.kept k2 (by show ¬ w.heap.size = b; omega)).alloc (.cells #[.int .i64 t.op, .string t.name, .int .i64 t.n, .int .i64 t.ty.kind, .string t.ty.name, .slice ta tn tc, .slice td te tf] 27)
  have hT3 : Blk (w2.alloc (.cells #[.int .i64 t.op, .string t.name, .int .i64 t.n, .int .i64 t.ty.kind, .string t.ty.name, .slice ta tn tc, .slice td te tf] 27)) w2.heap.size 27 (tmCells t (.slice ta tn tc) (.slice td te tf)) := Blk.new w2 27 _
  have L3 := L2.alloc (.cells #[.int .i64 t.op, .string t.name, .int .i64 t.n, .int .i64 t.ty.kind, .string t.ty.name, .slice ta tn tc, .slice td te tf] 27)
  have K3 := (K0.trans k2).alloc (.cells #[.int .i64 t.op, .string t.name, .int .i64 t.n, .int .i64 t.ty.kind, .string t.ty.name, .slice ta tn tc, .slice td te tf] 27)
  have a3 := a2.frame (Same.alloc _ (.cells #[.int .i64 t.op, .string t.name, .int .i64 t.n, .int .i64 t.ty.kind, .string t.ty.name, .slice ta tn tc, .slice td te tf] 27))
  have c3 := c2.frame (Same.alloc _ (.cells #[.int .i64 t.op, .string t.name, .int .i64 t.n, .int .i64 t.ty.kind, .string t.ty.name, .slice ta tn tc, .slice td te tf] 27))
  go_wp2_with fail
  generalize (w2.alloc (.cells #[.int .i64 t.op, .string t.name, .int .i64 t.n, .int .i64 t.ty.kind, .string t.ty.name, .slice ta tn tc, .slice td te tf] 27)) = w3 at *
  have b3 := L3.rr.lt
  refine (rmust_shut L3.rr c HC.out (fun σ e => by have := (qb_T hI 1 Q0.out σ e).2.2; omega)).mono ?_
  rintro e w4 ⟨rfl, h4, k4⟩
  have L4 := L3.then_u h4
  have hR4 := hR3.kept k4 (by show ¬ w.heap.size = b; omega)
  have hT4 := hT3.kept k4 (by show ¬ w2.heap.size = b; omega)
  have a4 := a3.frame (Same.of_kept k4 (fun k h e => by omega))
  have c4 := c3.frame (Same.of_kept k4 (fun k h e => by omega))
  have K4 := K3.trans k4
  have gT : ∀ i, w4.cell? ⟨w2.heap.size, i, none⟩ = [Value.int .i64 t.op, .string t.name, .int .i64 t.n, .int .i64 t.ty.kind, .string t.ty.name, .slice ta tn tc, .slice td te tf][i]? := hT4.cell
  have gR : ∀ i, w4.cell? ⟨w.heap.size, i, none⟩ = [Value.int .i64 0, .string ⟨#[]⟩, .int .i64 0, .int .i64 0, .string ⟨#[]⟩, .slice none 0 0, .slice none 0 0][i]? := hR4.cell
  have fR : ∀ i, w4.frozen? ⟨w.heap.size, i, none⟩ = false := hR4.frozen
  go_wp2_with fail
  refine ret_lv Tryz.results124 (t := t) rfl rfl (r7 hR4 rfl) ?_ ?_ (L4.s7 (by omega)) (k7w K4 (Or.inr (Nat.le_refl _)))
  · exact (a4.frame (same7 (R := w.heap.size) (by omega))).mono (fun k _ h => by omega)
  · exact (c4.frame (same7 (R := w.heap.size) (by omega))).mono (fun k _ h => by omega)
theorem same1 {W : World} {ok : Nat → Prop} {p : Addr} {x : Value} (h : ∀ k, ok k → k ≠ p.block) : Same ok W (W.setCell p x) := fun k hk _ => Below.heap_setCell _ _ _ _ (h k hk)
theorem binder_ch {T : TF} {s : ByteArray} {op : Int} {σ : PS} : binderS T s op σ = bT (bT (bT (bT (bT (bP (advS s σ) (nameS s)) fun a' σ => bP (wantS s σ kIn) fun σ' => .ok (a', σ')) fun a' σ => bT (T 7 σ) fun a2' σ' => .ok ((a', a2'), σ')) fun a' σ => bP (wantS s σ kDot) fun σ' => .ok (a', σ')) fun a' σ => bT (T 1 σ) fun a2' σ' => .ok ((a', a2'), σ')) fun a σ => .ok (Tm.mk op a.1.1 0 ty0 [a.1.2, a.2], σ) := by
  rw [binder_eq]
  simp only [bP_assoc, bT_assoc]
  refine bP_congr fun σ1 _ => ?_
  rw [bound_eq]
  refine bT_congr rfl fun x σ2 _ => ?_
  refine bP_congr fun σ3 _ => ?_
  simp only [bT_pure]
  done
set_option maxHeartbeats 16000000 in
theorem rbinder_any {b f : Nat} {s : ByteArray} {T : TF} (hT : RTC b s f T) (hI : TInv s T) {w : World} {σ : PS} (h : RR w b s (.ok σ)) (op : Int) (hp : σ.p ≤ s.size) (hk : σ.k ≠ 0) (hf : 14 * mu s σ ≤ f)
    (hP : ∀ W, RR W b s (.ok σ) → Calls Tryz.prog 75 #[.pointer (some ⟨b, 0, none⟩)] W (RU b s (advS s σ) W)) :
    Calls Tryz.prog 153 #[.pointer (some ⟨b, 0, none⟩), .int .i64 op] w (LV b s (VTm w.heap.size) (binderS T s op σ) w) := by
  have hlt := h.lt
  have hR0 : Blk (w.alloc (.cells #[.int .i64 0, .string ⟨#[]⟩, .int .i64 0, .int .i64 0, .string ⟨#[]⟩, .slice none 0 0, .slice none 0 0] 27)) w.heap.size 27 z27 := Blk.new w 27 z27
  have h0 := h.alloc (.cells #[.int .i64 0, .string ⟨#[]⟩, .int .i64 0, .int .i64 0, .string ⟨#[]⟩, .slice none 0 0, .slice none 0 0] 27)
  have K0 : Kept (· = b) w (w.alloc (.cells #[.int .i64 0, .string ⟨#[]⟩, .int .i64 0, .int .i64 0, .string ⟨#[]⟩, .slice none 0 0, .slice none 0 0] 27)) := (Kept.refl _ _).alloc _
  have Q0 := Lib.hid (qb_adv hp hk)
  have mpos : 1 ≤ mu s σ := by unfold mu; rw [if_neg hk]; omega
  have HP := Lib.hid hP
  clear hP
  go_enter Tryz.func153, Tryz.ntmps153
  go_wp2_with fail
  generalize (w.alloc (.cells #[.int .i64 0, .string ⟨#[]⟩, .int .i64 0, .int .i64 0, .string ⟨#[]⟩, .slice none 0 0, .slice none 0 0] 27)) = w1 at *
  have l1 := hR0.lt
  refine (HP.out _ h0).mono ?_
  rintro e w2 ⟨rfl, h2, k2⟩
  have hR2 := hR0.kept k2 (by show ¬ w.heap.size = b; omega)
  have K2 := K0.trans k2
  have z2 := k2.size
  have b2 := h2.lt
  go_wp2_with fail
  refine (rname_any h2).mono ?_
  rintro e w3 ⟨x, v, rfl, ⟨rfl, hzx⟩, L3, k3⟩
  have hR3 := (hR2.kept k3 (by show ¬ w.heap.size = b; omega)).alloc (.cells #[.int .i64 op, .string x, .int .i64 0, .int .i64 0, .string ⟨#[]⟩, .slice none 0 0, .slice none 0 0] 27)
  have hT3 : Blk (w3.alloc (.cells #[.int .i64 op, .string x, .int .i64 0, .int .i64 0, .string ⟨#[]⟩, .slice none 0 0, .slice none 0 0] 27)) w3.heap.size 27 [.int .i64 op, .string x, .int .i64 0, .int .i64 0, .string ⟨#[]⟩, .slice none 0 0, .slice none 0 0] := Blk.new w3 27 _
  have K3 := (K2.trans k3).alloc (.cells #[.int .i64 op, .string x, .int .i64 0, .int .i64 0, .string ⟨#[]⟩, .slice none 0 0, .slice none 0 0] 27)
  have L4 := L3.alloc (.cells #[.int .i64 op, .string x, .int .i64 0, .int .i64 0, .string ⟨#[]⟩, .slice none 0 0, .slice none 0 0] 27)
  have z3 := k3.size
  have Q3 := Lib.hid (qb_name Q0.out)
  have b3 := L3.rr.lt
  go_wp2_with fail
  generalize (w3.alloc (.cells #[.int .i64 op, .string x, .int .i64 0, .int .i64 0, .string ⟨#[]⟩, .slice none 0 0, .slice none 0 0] 27)) = w4 at *
  refine (rmust_want L4.rr kIn (by decide +kernel) (by decide +kernel)).mono ?_
  rintro e w5 ⟨rfl, h5, k5⟩
  have L5 := L4.then_u h5
  have hR5 := hR3.kept k5 (by show ¬ w.heap.size = b; omega)
  have hT5 := hT3.kept k5 (by show ¬ w3.heap.size = b; omega)
  have K5 := K3.trans k5
  have Q5 := Lib.hid (qb_u (qb_want Q3.out kIn))
  have l5 := hT5.lt
  have b5 := L5.rr.lt
  go_wp2_with fail
  refine (hT.at 7 7 rfl (by decide) (by decide) L5.rr Q5.out (by omega)).mono ?_
  rintro e w6 ⟨d, v, rfl, ⟨tk6, kk6, rfl, a6, c6⟩, L6, k6⟩
  obtain ⟨da, dn, dc, rfl⟩ := a6.slice
  obtain ⟨dd, de, df, rfl⟩ := c6.slice
  unfold tmVal
  have L7 := (L5.then_v L6).alloc (.cells #[.int .i64 d.op, .string d.name, .int .i64 d.n, .int .i64 d.ty.kind, .string d.ty.name, .slice da dn dc, .slice dd de df] 27)
  have Q7 := Lib.hid (qb_v (qb_T hI 7 Q5.out))
  have z6 := k6.size
  have hR7 := (hR5.kept k6 (by show ¬ w.heap.size = b; omega)).alloc (.cells #[.int .i64 d.op, .string d.name, .int .i64 d.n, .int .i64 d.ty.kind, .string d.ty.name, .slice da dn dc, .slice dd de df] 27)
  have hT7 := (hT5.kept k6 (by show ¬ w3.heap.size = b; omega)).alloc (.cells #[.int .i64 d.op, .string d.name, .int .i64 d.n, .int .i64 d.ty.kind, .string d.ty.name, .slice da dn dc, .slice dd de df] 27)
  have hD7 : Blk (w6.alloc (.cells #[.int .i64 d.op, .string d.name, .int .i64 d.n, .int .i64 d.ty.kind, .string d.ty.name, .slice da dn dc, .slice dd de df] 27)) w6.heap.size 27 (tmCells d (.slice da dn dc) (.slice dd de df)) := Blk.new w6 27 _
  have K7 := (K5.trans k6).alloc (.cells #[.int .i64 d.op, .string d.name, .int .i64 d.n, .int .i64 d.ty.kind, .string d.ty.name, .slice da dn dc, .slice dd de df] 27)
  have a7 := a6.frame (Same.alloc _ (.cells #[.int .i64 d.op, .string d.name, .int .i64 d.n, .int .i64 d.ty.kind, .string d.ty.name, .slice da dn dc, .slice dd de df] 27))
  have c7 := c6.frame (Same.alloc _ (.cells #[.int .i64 d.op, .string d.name, .int .i64 d.n, .int .i64 d.ty.kind, .string d.ty.name, .slice da dn dc, .slice dd de df] 27))
  have b6 := L6.rr.lt
  go_wp2_with fail
  generalize (w6.alloc (.cells #[.int .i64 d.op, .string d.name, .int .i64 d.n, .int .i64 d.ty.kind, .string d.ty.name, .slice da dn dc, .slice dd de df] 27)) = w7 at *
  refine (rmust_want L7.rr kDot (by decide +kernel) (by decide +kernel)).mono ?_
  rintro e w8 ⟨rfl, h8, k8⟩
  have L8 := L7.then_u h8
  have hR8 := hR7.kept k8 (by show ¬ w.heap.size = b; omega)
  have hT8 := hT7.kept k8 (by show ¬ w3.heap.size = b; omega)
  have hD8 := hD7.kept k8 (by show ¬ w6.heap.size = b; omega)
  have a8 := a7.frame (Same.of_kept k8 (fun k h e => by omega))
  have c8 := c7.frame (Same.of_kept k8 (fun k h e => by omega))
  have K8 := K7.trans k8
  have Q8 := Lib.hid (qb_u (qb_want Q7.out kDot))
  have l8 := hD8.lt
  have b8 := L8.rr.lt
  go_wp2_with fail
  refine (hT.at 1 1 rfl (by decide) (by decide) L8.rr Q8.out (by omega)).mono ?_
  rintro e w9 ⟨u, v, rfl, ⟨tk9, kk9, rfl, a9, c9⟩, L9, k9⟩
  obtain ⟨ua, un, uc, rfl⟩ := a9.slice
  obtain ⟨ud, ue, uf, rfl⟩ := c9.slice
  unfold tmVal
  have LX := (((L8.then_v L9).map (fun a => Tm.mk op a.1.1 0 ty0 [a.1.2, a.2])).eq binder_ch.symm).alloc (.cells #[.int .i64 u.op, .string u.name, .int .i64 u.n, .int .i64 u.ty.kind, .string u.ty.name, .slice ua un uc, .slice ud ue uf] 27)
  have z9 := k9.size
  have hRX := (hR8.kept k9 (by show ¬ w.heap.size = b; omega)).alloc (.cells #[.int .i64 u.op, .string u.name, .int .i64 u.n, .int .i64 u.ty.kind, .string u.ty.name, .slice ua un uc, .slice ud ue uf] 27)
  have hTX := (hT8.kept k9 (by show ¬ w3.heap.size = b; omega)).alloc (.cells #[.int .i64 u.op, .string u.name, .int .i64 u.n, .int .i64 u.ty.kind, .string u.ty.name, .slice ua un uc, .slice ud ue uf] 27)
  have hDX := (hD8.kept k9 (by show ¬ w6.heap.size = b; omega)).alloc (.cells #[.int .i64 u.op, .string u.name, .int .i64 u.n, .int .i64 u.ty.kind, .string u.ty.name, .slice ua un uc, .slice ud ue uf] 27)
  have hUX : Blk (w9.alloc (.cells #[.int .i64 u.op, .string u.name, .int .i64 u.n, .int .i64 u.ty.kind, .string u.ty.name, .slice ua un uc, .slice ud ue uf] 27)) w9.heap.size 27 (tmCells u (.slice ua un uc) (.slice ud ue uf)) := Blk.new w9 27 _
  have KX := (K8.trans k9).alloc (.cells #[.int .i64 u.op, .string u.name, .int .i64 u.n, .int .i64 u.ty.kind, .string u.ty.name, .slice ua un uc, .slice ud ue uf] 27)
  have aX := (a8.frame (Same.of_kept k9 (fun k h e => by omega))).frame (Same.alloc _ (.cells #[.int .i64 u.op, .string u.name, .int .i64 u.n, .int .i64 u.ty.kind, .string u.ty.name, .slice ua un uc, .slice ud ue uf] 27))
  have cX := (c8.frame (Same.of_kept k9 (fun k h e => by omega))).frame (Same.alloc _ (.cells #[.int .i64 u.op, .string u.name, .int .i64 u.n, .int .i64 u.ty.kind, .string u.ty.name, .slice ua un uc, .slice ud ue uf] 27))
  have eX := a9.frame (Same.alloc _ (.cells #[.int .i64 u.op, .string u.name, .int .i64 u.n, .int .i64 u.ty.kind, .string u.ty.name, .slice ua un uc, .slice ud ue uf] 27))
  have fX := c9.frame (Same.alloc _ (.cells #[.int .i64 u.op, .string u.name, .int .i64 u.n, .int .i64 u.ty.kind, .string u.ty.name, .slice ua un uc, .slice ud ue uf] 27))
  have l9 := (hD8.kept k9 (by show ¬ w6.heap.size = b; omega)).lt
  have zX : (w9.alloc (.cells #[.int .i64 u.op, .string u.name, .int .i64 u.n, .int .i64 u.ty.kind, .string u.ty.name, .slice ua un uc, .slice ud ue uf] 27)).heap.size = w9.heap.size + 1 := by simp
  have HZX := Lib.hid zX
  clear zX
  go_upto_region 7 with (fail)
  generalize (w9.alloc (.cells #[.int .i64 u.op, .string u.name, .int .i64 u.n, .int .i64 u.ty.kind, .string u.ty.name, .slice ua un uc, .slice ud ue uf] 27)) = wX at *
  have gD : ∀ i, wX.cell? ⟨w6.heap.size, i, none⟩ = [Value.int .i64 d.op, .string d.name, .int .i64 d.n, .int .i64 d.ty.kind, .string d.ty.name, .slice da dn dc, .slice dd de df][i]? := hDX.cell
  have gU : ∀ i, wX.cell? ⟨w9.heap.size, i, none⟩ = [Value.int .i64 u.op, .string u.name, .int .i64 u.n, .int .i64 u.ty.kind, .string u.ty.name, .slice ua un uc, .slice ud ue uf][i]? := hUX.cell
  have gTX : ∀ i, wX.cell? ⟨w3.heap.size, i, none⟩ = [Value.int .i64 op, .string x, .int .i64 0, .int .i64 0, .string ⟨#[]⟩, .slice none 0 0, .slice none 0 0][i]? := hTX.cell
  have fTX : ∀ i, wX.frozen? ⟨w3.heap.size, i, none⟩ = false := hTX.frozen
  have lX := hRX.lt
  have lTX := hTX.lt
  go_upto_region 8 with (fail)
  refine wp_gen (fun wY => Blk wY w.heap.size 27 z27 ∧ Blk wY w3.heap.size 27 (tmCells (Tm.mk op x 0 ty0 [d, u]) (.slice none 0 0) (.slice (some ⟨wX.heap.size, 0, none⟩) 2 2)) ∧ TmL (fun k => w3.heap.size < k) wY [d, u] (.slice (some ⟨wX.heap.size, 0, none⟩) 2 2) ∧ LE b s (binderS T s op σ) (Tm.mk op x 0 ty0 [d, u]) wY ∧ Kept (· = b) w wY) ⟨?_, ?_, ?_, ?_, ?_⟩ ?_
  · exact (hRX.set_other ⟨w3.heap.size, 6, none⟩ _ (by show w.heap.size ≠ w3.heap.size; omega)).alloc _
  · exact (hTX.set 6 _).alloc _
  · refine TmL.two (ty := 27) (by have := HZX.out; omega) (Nat.le_refl _) (Blk.new' 27 _ (by simp)) ?_ ?_ ?_ ?_
    · exact ((aX.mono (ok' := fun k => w3.heap.size < k) (fun k _ h => by omega)).frame (same1 (p := ⟨w3.heap.size, 6, none⟩) (fun k h => by show k ≠ w3.heap.size; omega))).frame (Same.alloc _ _)
    · exact ((cX.mono (ok' := fun k => w3.heap.size < k) (fun k _ h => by omega)).frame (same1 (p := ⟨w3.heap.size, 6, none⟩) (fun k h => by show k ≠ w3.heap.size; omega))).frame (Same.alloc _ _)
    · exact ((eX.mono (ok' := fun k => w3.heap.size < k) (fun k _ h => by omega)).frame (same1 (p := ⟨w3.heap.size, 6, none⟩) (fun k h => by show k ≠ w3.heap.size; omega))).frame (Same.alloc _ _)
    · exact ((fX.mono (ok' := fun k => w3.heap.size < k) (fun k _ h => by omega)).frame (same1 (p := ⟨w3.heap.size, 6, none⟩) (fun k h => by show k ≠ w3.heap.size; omega))).frame (Same.alloc _ _)
  · exact (LX.kept (S := (· = w3.heap.size)) ((Kept.refl (fun x => x = w3.heap.size) _).setCell (p := ⟨w3.heap.size, 6, none⟩) (Or.inl rfl) _) (by show ¬ b = w3.heap.size; omega)).alloc _
  · exact (KX.setCell (p := ⟨w3.heap.size, 6, none⟩) (Or.inr (by show w.heap.size ≤ w3.heap.size; omega)) _).alloc _
  rintro wY ⟨hRY, hTY, mY, LY, KY⟩
  clear gD gU gTX
  have gTY : ∀ i, wY.cell? ⟨w3.heap.size, i, none⟩ = [Value.int .i64 op, .string x, .int .i64 0, .int .i64 0, .string ⟨#[]⟩, .slice none 0 0, .slice (some ⟨wX.heap.size, 0, none⟩) 2 2][i]? := hTY.cell
  have gRY : ∀ i, wY.cell? ⟨w.heap.size, i, none⟩ = [Value.int .i64 0, .string ⟨#[]⟩, .int .i64 0, .int .i64 0, .string ⟨#[]⟩, .slice none 0 0, .slice none 0 0][i]? := hRY.cell
  have fRY : ∀ i, wY.frozen? ⟨w.heap.size, i, none⟩ = false := hRY.frozen
  go_wp2_with fail
  refine ret_lv Tryz.results153 (t := Tm.mk op x 0 ty0 [d, u]) rfl rfl (r7 hRY rfl) .nil0 ?_ (LY.s7 (by omega)) (k7w KY (Or.inr (Nat.le_refl _)))
  exact (mY.frame (same7 (n := w3.heap.size + 1) (R := w.heap.size) (by omega))).mono (fun k _ h => by omega)
end Go.Proofs.YtckjlliobebodaaGreatDoor
