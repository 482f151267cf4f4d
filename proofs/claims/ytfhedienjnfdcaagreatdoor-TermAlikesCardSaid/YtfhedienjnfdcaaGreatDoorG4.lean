/- Texts After of this proof, in one. -/
import Derived.Test.YtfhedienjnfdcaaGreatDoorG3
set_option linter.unusedVariables false
set_option linter.unusedSimpArgs false
set_option maxRecDepth 100000
set_option maxHeartbeats 32000000
namespace Go.Proofs.YtfhedienjnfdcaaGreatDoor
open Go.RowKit
theorem PW.drew {w : World} {b : Nat} {s : ByteArray} {σ : PS} (h : PW w b s σ) : PW w.drew b s σ := h.grow (S := fun _ => False) ((Kept.refl _ _).drew) id id id
theorem Same.drew {ok : Nat → Prop} (W : World) : Same ok W W.drew := fun _ _ _ => rfl
theorem after_any {b : Nat} {s : ByteArray} {f : Nat} {T : TF} {w : World} {σ : PS} (hT : TC b s f T) (hI : TInv s T) (h : PW w b s σ) (hf : 14 * mu s σ ≤ f) (t : Tm) (ta : Option Addr) (tn tc : Nat) (ma : Option Addr) (mn mc n0 : Nat) (hb0 : b < n0) (hn0 : n0 ≤ w.heap.size)
  (a : TyL (fun k => n0 ≤ k) w t.ty.kids (.slice ta tn tc)) (c : TmL (fun k => n0 ≤ k) w t.kids (.slice ma mn mc)) :
  Calls Tryz.prog 149 #[.pointer (some ⟨b, 0, none⟩), tmVal t (.slice ta tn tc) (.slice ma mn mc)] w (RPost b s (VTm n0) (afterS T s (s.size + 2) t σ) w) := by
 have hlt := h.lt
 have hgl := h.gl.lt
 unfold tmVal
 have K2 : Kept (· = b) w ((w.alloc (.cells #[.int .i64 t.op, .string t.name, .int .i64 t.n, .int .i64 t.ty.kind, .string t.ty.name, .slice ta tn tc, .slice ma mn mc] 28)).alloc Z7) := ((Kept.refl _ _).alloc _).alloc _
 have p2 := (h.alloc (.cells #[.int .i64 t.op, .string t.name, .int .i64 t.n, .int .i64 t.ty.kind, .string t.ty.name, .slice ta tn tc, .slice ma mn mc] 28)).alloc Z7
 have hB2 : Blk ((w.alloc (.cells #[.int .i64 t.op, .string t.name, .int .i64 t.n, .int .i64 t.ty.kind, .string t.ty.name, .slice ta tn tc, .slice ma mn mc] 28)).alloc Z7) w.heap.size 28 (tmCells t (.slice ta tn tc) (.slice ma mn mc)) := (Blk.new w 28 (tmCells t (.slice ta tn tc) (.slice ma mn mc))).alloc Z7
 have hR2 : Blk ((w.alloc (.cells #[.int .i64 t.op, .string t.name, .int .i64 t.n, .int .i64 t.ty.kind, .string t.ty.name, .slice ta tn tc, .slice ma mn mc] 28)).alloc Z7) (w.heap.size + 1) 28 z27 := Blk.new' 28 z27 (by simp)
 have a2 := ((a.mono (ok' := okk n0 w.heap.size (w.heap.size + 1)) (fun k hk h => ⟨h, by omega, by omega⟩)).frame (Same.alloc _ (.cells #[.int .i64 t.op, .string t.name, .int .i64 t.n, .int .i64 t.ty.kind, .string t.ty.name, .slice ta tn tc, .slice ma mn mc] 28))).frame (Same.alloc _ Z7)
 have c2 := ((c.mono (ok' := okk n0 w.heap.size (w.heap.size + 1)) (fun k hk h => ⟨h, by omega, by omega⟩)).frame (Same.alloc _ (.cells #[.int .i64 t.op, .string t.name, .int .i64 t.n, .int .i64 t.ty.kind, .string t.ty.name, .slice ta tn tc, .slice ma mn mc] 28))).frame (Same.alloc _ Z7)
 go_enter Tryz.func149, Tryz.ntmps149
 go_wp2_with fail
 generalize hW : (w.alloc (.cells #[.int .i64 t.op, .string t.name, .int .i64 t.n, .int .i64 t.ty.kind, .string t.ty.name, .slice ta tn tc, .slice ma mn mc] 28)).alloc Z7 = w2 at *
 clear hW
 go_loopg [5] (s.size + 2) (fun m _ wr => ∃ (t' : Tm) (σ' : PS) (ua : Option Addr) (un uc : Nat) (va : Option Addr) (vn vc : Nat), Hid (afterS T s m t' σ' = afterS T s (s.size + 2) t σ) ∧ mu s σ' < m ∧ mu s σ' ≤ mu s σ ∧ PW wr b s σ' ∧ Blk wr w.heap.size 28 (tmCells t' (.slice ua un uc) (.slice va vn vc)) ∧ Blk wr (w.heap.size + 1) 28 z27 ∧ TyL (okk n0 w.heap.size (w.heap.size + 1)) wr t'.ty.kids (.slice ua un uc) ∧ TmL (okk n0 w.heap.size (w.heap.size + 1)) wr t'.kids (.slice va vn vc) ∧ Kept (· = b) w wr)
 case atStart => exact ⟨t, σ, ta, tn, tc, ma, mn, mc, Ld rfl, by have := mu_le s σ; omega, Nat.le_refl _, p2, hB2, hR2, a2, c2, K2⟩
 case round =>
  clear p2 hB2 hR2 a2 c2 K2
  obtain ⟨t', σ', ua, un, uc, va, vn, vc, hq, hm, hmm, p, hB, hR, ka, kc, K⟩ := hrel
  obtain ⟨q, rfl⟩ : ∃ q, gk = q + 1 := ⟨gk - 1, by omega⟩
  have y0 : wr.cell? ⟨w.heap.size, 0, none⟩ = some (.int .i64 t'.op) := hB.cell 0
  have y1 : wr.cell? ⟨w.heap.size, 1, none⟩ = some (.string t'.name) := hB.cell 1
  have y2 : wr.cell? ⟨w.heap.size, 2, none⟩ = some (.int .i64 t'.n) := hB.cell 2
  have y3 : wr.cell? ⟨w.heap.size, 3, none⟩ = some (.int .i64 t'.ty.kind) := hB.cell 3
  have y4 : wr.cell? ⟨w.heap.size, 4, none⟩ = some (.string t'.ty.name) := hB.cell 4
  have y5 : wr.cell? ⟨w.heap.size, 5, none⟩ = some (.slice ua un uc) := hB.cell 5
  have y6 : wr.cell? ⟨w.heap.size, 6, none⟩ = some (.slice va vn vc) := hB.cell 6
  have hb := p.lt
  have lR := hR.lt
  have lB := hB.lt
  go_wp2_with fail
  have p1 := p.alloc (.cells #[.int .i64 t'.op, .string t'.name, .int .i64 t'.n, .int .i64 t'.ty.kind, .string t'.ty.name, .slice ua un uc, .slice va vn vc] 28)
  have hB1 := hB.alloc (.cells #[.int .i64 t'.op, .string t'.name, .int .i64 t'.n, .int .i64 t'.ty.kind, .string t'.ty.name, .slice ua un uc, .slice va vn vc] 28)
  have hR1 := hR.alloc (.cells #[.int .i64 t'.op, .string t'.name, .int .i64 t'.n, .int .i64 t'.ty.kind, .string t'.ty.name, .slice ua un uc, .slice va vn vc] 28)
  have hC1 : Blk (wr.alloc (.cells #[.int .i64 t'.op, .string t'.name, .int .i64 t'.n, .int .i64 t'.ty.kind, .string t'.ty.name, .slice ua un uc, .slice va vn vc] 28)) wr.heap.size 28 (tmCells t' (.slice ua un uc) (.slice va vn vc)) := Blk.new wr 28 _
  have ka1 := ka.frame (Same.alloc _ (.cells #[.int .i64 t'.op, .string t'.name, .int .i64 t'.n, .int .i64 t'.ty.kind, .string t'.ty.name, .slice ua un uc, .slice va vn vc] 28))
  have kc1 := kc.frame (Same.alloc _ (.cells #[.int .i64 t'.op, .string t'.name, .int .i64 t'.n, .int .i64 t'.ty.kind, .string t'.ty.name, .slice ua un uc, .slice va vn vc] 28))
  have K1 := K.alloc (.cells #[.int .i64 t'.op, .string t'.name, .int .i64 t'.n, .int .i64 t'.ty.kind, .string t'.ty.name, .slice ua un uc, .slice va vn vc] 28)
  have z1 : (wr.alloc (.cells #[.int .i64 t'.op, .string t'.name, .int .i64 t'.n, .int .i64 t'.ty.kind, .string t'.ty.name, .slice ua un uc, .slice va vn vc] 28)).heap.size = wr.heap.size + 1 := by simp
  generalize hW : wr.alloc (.cells #[.int .i64 t'.op, .string t'.name, .int .i64 t'.n, .int .i64 t'.ty.kind, .string t'.ty.name, .slice ua un uc, .slice va vn vc] 28) = w1 at *
  generalize wr.heap.size = l5 at *
  clear hW p hB hR ka kc K y0 y1 y2 y3 y4 y5 y6
  have Z1 := Ld z1
  clear z1
  cases hi1 : isS σ' kLpar
  case true =>
   refine (is_any p1 kLpar hi1).mono ?_
   rintro e w' ⟨rfl, rfl⟩
   have y0 : w1.cell? ⟨l5, 0, none⟩ = some (.int .i64 t'.op) := hC1.cell 0
   have y1 : w1.cell? ⟨l5, 1, none⟩ = some (.string t'.name) := hC1.cell 1
   have y2 : w1.cell? ⟨l5, 2, none⟩ = some (.int .i64 t'.n) := hC1.cell 2
   have y3 : w1.cell? ⟨l5, 3, none⟩ = some (.int .i64 t'.ty.kind) := hC1.cell 3
   have y4 : w1.cell? ⟨l5, 4, none⟩ = some (.string t'.ty.name) := hC1.cell 4
   have y5 : w1.cell? ⟨l5, 5, none⟩ = some (.slice ua un uc) := hC1.cell 5
   have y6 : w1.cell? ⟨l5, 6, none⟩ = some (.slice va vn vc) := hC1.cell 6
   cases hin : insideS T s kLpar kRpar σ' with
   | error r =>
    have hres : Hid (afterS T s (s.size + 2) t σ = .error r) := Ld (hq.out.symm.trans (by unfold afterS; simp only [hi1, hin]))
    go_wp2_with fail
    refine wp_region_lmc (.tmp 0) (by kernel_rfl) rfl rfl (by kernel_rfl) (by kernel_rfl) (by kernel_rfl) (by kernel_rfl) (by kernel_rfl) (by kernel_rfl) ?_ ?_ ?_
    all_goals
     go_wp2_with fail
     refine (inside_any hT hI p1.drew (by omega) kLpar kRpar).mono ?_
     rintro e w3 hr
     obtain ⟨rfl, k3⟩ := hr.getErr hin
     clear hr
     go_wp2_with fail
     exact ⟨rfl, RPost.err hres.out ⟨rfl, K1.drew.trans k3⟩⟩
   | ok q5 =>
    obtain ⟨u, σ2⟩ := q5
    have hres : Hid (afterS T s q (nd 54 [t', u]) σ2 = afterS T s (s.size + 2) t σ) := Ld (Eq.trans (by conv => rhs; unfold afterS; simp only [hi1, hin]) hq.out)
    have i2 := (inv_inside hI p1.le hin).1
    unfold Inv1 at i2
    have hb1 := p1.lt
    have lB1 := hB1.lt
    have lC1 := hC1.lt
    go_wp2_with fail
    refine wp_region_lmc (.tmp 0) (by kernel_rfl) rfl rfl (by kernel_rfl) (by kernel_rfl) (by kernel_rfl) (by kernel_rfl) (by kernel_rfl) (by kernel_rfl) ?_ ?_ ?_
    all_goals
     go_wp2_with fail
     refine (inside_any hT hI p1.drew (by omega) kLpar kRpar).mono ?_
     rintro e w3 hr
     obtain ⟨v, rfl, ⟨tk5, kk5, rfl, au, cu⟩, p3, k3⟩ := hr.getOk hin
     clear hr
     obtain ⟨ta5, tn5, tc5, rfl⟩ := au.slice
     obtain ⟨ma5, mn5, mc5, rfl⟩ := cu.slice
     unfold tmVal
     have hB3 := hB1.drew.kept k3 (by show ¬ w.heap.size = b; omega)
     have hR3 := hR1.drew.kept k3 (by show ¬ w.heap.size + 1 = b; omega)
     have hC3 := hC1.drew.kept k3 (by show ¬ l5 = b; omega)
     have ka3 := (ka1.frame (Same.drew _)).frame (Same.of_kept k3 (fun k h e => by have := h.1; omega))
     have kc3 := (kc1.frame (Same.drew _)).frame (Same.of_kept k3 (fun k h e => by have := h.1; omega))
     have K3 := K1.drew.trans k3
     have z3 : w1.heap.size ≤ w3.heap.size := k3.size
     have lR3 := hR3.lt
     have lB3 := hB3.lt
     have y'0 : w3.cell? ⟨l5, 0, none⟩ = some (.int .i64 t'.op) := hC3.cell 0
     have y'1 : w3.cell? ⟨l5, 1, none⟩ = some (.string t'.name) := hC3.cell 1
     have y'2 : w3.cell? ⟨l5, 2, none⟩ = some (.int .i64 t'.n) := hC3.cell 2
     have y'3 : w3.cell? ⟨l5, 3, none⟩ = some (.int .i64 t'.ty.kind) := hC3.cell 3
     have y'4 : w3.cell? ⟨l5, 4, none⟩ = some (.string t'.ty.name) := hC3.cell 4
     have y'5 : w3.cell? ⟨l5, 5, none⟩ = some (.slice ua un uc) := hC3.cell 5
     have y'6 : w3.cell? ⟨l5, 6, none⟩ = some (.slice va vn vc) := hC3.cell 6
     have x0 : w3.cell? ⟨w.heap.size, 0, none⟩ = some (.int .i64 t'.op) := hB3.cell 0
     have f0 : w3.frozen? ⟨w.heap.size, 0, none⟩ = false := hB3.frozen 0
     have x1 : w3.cell? ⟨w.heap.size, 1, none⟩ = some (.string t'.name) := hB3.cell 1
     have f1 : w3.frozen? ⟨w.heap.size, 1, none⟩ = false := hB3.frozen 1
     have x2 : w3.cell? ⟨w.heap.size, 2, none⟩ = some (.int .i64 t'.n) := hB3.cell 2
     have f2 : w3.frozen? ⟨w.heap.size, 2, none⟩ = false := hB3.frozen 2
     have x3 : w3.cell? ⟨w.heap.size, 3, none⟩ = some (.int .i64 t'.ty.kind) := hB3.cell 3
     have f3 : w3.frozen? ⟨w.heap.size, 3, none⟩ = false := hB3.frozen 3
     have x4 : w3.cell? ⟨w.heap.size, 4, none⟩ = some (.string t'.ty.name) := hB3.cell 4
     have f4 : w3.frozen? ⟨w.heap.size, 4, none⟩ = false := hB3.frozen 4
     have x5 : w3.cell? ⟨w.heap.size, 5, none⟩ = some (.slice ua un uc) := hB3.cell 5
     have f5 : w3.frozen? ⟨w.heap.size, 5, none⟩ = false := hB3.frozen 5
     have x6 : w3.cell? ⟨w.heap.size, 6, none⟩ = some (.slice va vn vc) := hB3.cell 6
     have f6 : w3.frozen? ⟨w.heap.size, 6, none⟩ = false := hB3.frozen 6
     go_wp2_with fail
     go_roundg q
     case measure => omega
     case rel =>
      refine ⟨nd 54 [t', u], σ2, none, 0, 0, _, 2, 2, hres, by omega, by omega, (p7w p3 (by omega) (by omega)).alloc _, (r7 hB3 rfl).alloc _, (b7w hR3 (by omega)).alloc _, .nil0, ?_, (k7w K3 (Or.inr (Nat.le_refl _))).alloc _⟩
      exact TmL.two (ty := 28) ⟨by omega, by omega, by omega⟩ (Nat.le_refl _) (Blk.new' 28 _ (by simp)) ((ka3.frame (same7k (Or.inl rfl))).frame (Same.alloc _ _)) ((kc3.frame (same7k (Or.inl rfl))).frame (Same.alloc _ _)) (((au.mono (ok' := okk n0 w.heap.size (w.heap.size + 1)) (fun k _ (h : w1.heap.size ≤ k) => ⟨by omega, by omega, by omega⟩)).frame (same7k (Or.inl rfl))).frame (Same.alloc _ _)) (((cu.mono (ok' := okk n0 w.heap.size (w.heap.size + 1)) (fun k _ (h : w1.heap.size ≤ k) => ⟨by omega, by omega, by omega⟩)).frame (same7k (Or.inl rfl))).frame (Same.alloc _ _))
  case false =>
   refine (is_any p1 kLpar hi1).mono ?_
   rintro e w' ⟨rfl, rfl⟩
   go_wp2_with fail
   cases hi2 : isS σ' kLbr
   case true =>
    refine (is_any p1 kLbr hi2).mono ?_
    rintro e w' ⟨rfl, rfl⟩
    have y0 : w1.cell? ⟨l5, 0, none⟩ = some (.int .i64 t'.op) := hC1.cell 0
    have y1 : w1.cell? ⟨l5, 1, none⟩ = some (.string t'.name) := hC1.cell 1
    have y2 : w1.cell? ⟨l5, 2, none⟩ = some (.int .i64 t'.n) := hC1.cell 2
    have y3 : w1.cell? ⟨l5, 3, none⟩ = some (.int .i64 t'.ty.kind) := hC1.cell 3
    have y4 : w1.cell? ⟨l5, 4, none⟩ = some (.string t'.ty.name) := hC1.cell 4
    have y5 : w1.cell? ⟨l5, 5, none⟩ = some (.slice ua un uc) := hC1.cell 5
    have y6 : w1.cell? ⟨l5, 6, none⟩ = some (.slice va vn vc) := hC1.cell 6
    cases hin : insideS T s kLbr kRbr σ' with
    | error r =>
     have hres : Hid (afterS T s (s.size + 2) t σ = .error r) := Ld (hq.out.symm.trans (by unfold afterS; simp only [hi1, hi2, hin]))
     go_wp2_with fail
     refine wp_region_lmc (.tmp 0) (by kernel_rfl) rfl rfl (by kernel_rfl) (by kernel_rfl) (by kernel_rfl) (by kernel_rfl) (by kernel_rfl) (by kernel_rfl) ?_ ?_ ?_
     all_goals
      go_wp2_with fail
      refine (inside_any hT hI p1.drew (by omega) kLbr kRbr).mono ?_
      rintro e w3 hr
      obtain ⟨rfl, k3⟩ := hr.getErr hin
      clear hr
      go_wp2_with fail
      exact ⟨rfl, RPost.err hres.out ⟨rfl, K1.drew.trans k3⟩⟩
    | ok q5 =>
     obtain ⟨u, σ2⟩ := q5
     have hres : Hid (afterS T s q (nd 53 [t', u]) σ2 = afterS T s (s.size + 2) t σ) := Ld (Eq.trans (by conv => rhs; unfold afterS; simp only [hi1, hi2, hin]) hq.out)
     have i2 := (inv_inside hI p1.le hin).1
     unfold Inv1 at i2
     have hb1 := p1.lt
     have lB1 := hB1.lt
     have lC1 := hC1.lt
     go_wp2_with fail
     refine wp_region_lmc (.tmp 0) (by kernel_rfl) rfl rfl (by kernel_rfl) (by kernel_rfl) (by kernel_rfl) (by kernel_rfl) (by kernel_rfl) (by kernel_rfl) ?_ ?_ ?_
     all_goals
      go_wp2_with fail
      refine (inside_any hT hI p1.drew (by omega) kLbr kRbr).mono ?_
      rintro e w3 hr
      obtain ⟨v, rfl, ⟨tk5, kk5, rfl, au, cu⟩, p3, k3⟩ := hr.getOk hin
      clear hr
      obtain ⟨ta5, tn5, tc5, rfl⟩ := au.slice
      obtain ⟨ma5, mn5, mc5, rfl⟩ := cu.slice
      unfold tmVal
      have hB3 := hB1.drew.kept k3 (by show ¬ w.heap.size = b; omega)
      have hR3 := hR1.drew.kept k3 (by show ¬ w.heap.size + 1 = b; omega)
      have hC3 := hC1.drew.kept k3 (by show ¬ l5 = b; omega)
      have ka3 := (ka1.frame (Same.drew _)).frame (Same.of_kept k3 (fun k h e => by have := h.1; omega))
      have kc3 := (kc1.frame (Same.drew _)).frame (Same.of_kept k3 (fun k h e => by have := h.1; omega))
      have K3 := K1.drew.trans k3
      have z3 : w1.heap.size ≤ w3.heap.size := k3.size
      have lR3 := hR3.lt
      have lB3 := hB3.lt
      have y'0 : w3.cell? ⟨l5, 0, none⟩ = some (.int .i64 t'.op) := hC3.cell 0
      have y'1 : w3.cell? ⟨l5, 1, none⟩ = some (.string t'.name) := hC3.cell 1
      have y'2 : w3.cell? ⟨l5, 2, none⟩ = some (.int .i64 t'.n) := hC3.cell 2
      have y'3 : w3.cell? ⟨l5, 3, none⟩ = some (.int .i64 t'.ty.kind) := hC3.cell 3
      have y'4 : w3.cell? ⟨l5, 4, none⟩ = some (.string t'.ty.name) := hC3.cell 4
      have y'5 : w3.cell? ⟨l5, 5, none⟩ = some (.slice ua un uc) := hC3.cell 5
      have y'6 : w3.cell? ⟨l5, 6, none⟩ = some (.slice va vn vc) := hC3.cell 6
      have x0 : w3.cell? ⟨w.heap.size, 0, none⟩ = some (.int .i64 t'.op) := hB3.cell 0
      have f0 : w3.frozen? ⟨w.heap.size, 0, none⟩ = false := hB3.frozen 0
      have x1 : w3.cell? ⟨w.heap.size, 1, none⟩ = some (.string t'.name) := hB3.cell 1
      have f1 : w3.frozen? ⟨w.heap.size, 1, none⟩ = false := hB3.frozen 1
      have x2 : w3.cell? ⟨w.heap.size, 2, none⟩ = some (.int .i64 t'.n) := hB3.cell 2
      have f2 : w3.frozen? ⟨w.heap.size, 2, none⟩ = false := hB3.frozen 2
      have x3 : w3.cell? ⟨w.heap.size, 3, none⟩ = some (.int .i64 t'.ty.kind) := hB3.cell 3
      have f3 : w3.frozen? ⟨w.heap.size, 3, none⟩ = false := hB3.frozen 3
      have x4 : w3.cell? ⟨w.heap.size, 4, none⟩ = some (.string t'.ty.name) := hB3.cell 4
      have f4 : w3.frozen? ⟨w.heap.size, 4, none⟩ = false := hB3.frozen 4
      have x5 : w3.cell? ⟨w.heap.size, 5, none⟩ = some (.slice ua un uc) := hB3.cell 5
      have f5 : w3.frozen? ⟨w.heap.size, 5, none⟩ = false := hB3.frozen 5
      have x6 : w3.cell? ⟨w.heap.size, 6, none⟩ = some (.slice va vn vc) := hB3.cell 6
      have f6 : w3.frozen? ⟨w.heap.size, 6, none⟩ = false := hB3.frozen 6
      go_wp2_with fail
      go_roundg q
      case measure => omega
      case rel =>
       refine ⟨nd 53 [t', u], σ2, none, 0, 0, _, 2, 2, hres, by omega, by omega, (p7w p3 (by omega) (by omega)).alloc _, (r7 hB3 rfl).alloc _, (b7w hR3 (by omega)).alloc _, .nil0, ?_, (k7w K3 (Or.inr (Nat.le_refl _))).alloc _⟩
       exact TmL.two (ty := 28) ⟨by omega, by omega, by omega⟩ (Nat.le_refl _) (Blk.new' 28 _ (by simp)) ((ka3.frame (same7k (Or.inl rfl))).frame (Same.alloc _ _)) ((kc3.frame (same7k (Or.inl rfl))).frame (Same.alloc _ _)) (((au.mono (ok' := okk n0 w.heap.size (w.heap.size + 1)) (fun k _ (h : w1.heap.size ≤ k) => ⟨by omega, by omega, by omega⟩)).frame (same7k (Or.inl rfl))).frame (Same.alloc _ _)) (((cu.mono (ok' := okk n0 w.heap.size (w.heap.size + 1)) (fun k _ (h : w1.heap.size ≤ k) => ⟨by omega, by omega, by omega⟩)).frame (same7k (Or.inl rfl))).frame (Same.alloc _ _))
   case false =>
    refine (is_any p1 kLbr hi2).mono ?_
    rintro e w' ⟨rfl, rfl⟩
    go_wp2_with fail
    cases hi3 : isS σ' kTilde
    case true =>
     cases ha : advS s σ' with
     | error r =>
      have hres : Hid (afterS T s (s.size + 2) t σ = .error r) := Ld (hq.out.symm.trans (by unfold afterS; simp only [hi1, hi2, hi3, ha]))
      refine (eat_bad p1 kTilde hi3 ha).mono ?_
      rintro e w3 ⟨rfl, k3⟩
      go_wp2_with fail
      exact ⟨rfl, RPost.err hres.out ⟨rfl, K1.trans k3⟩⟩
     | ok σ2 =>
      have hres : Hid (afterS T s q (nd 52 [t']) σ2 = afterS T s (s.size + 2) t σ) := Ld (Eq.trans (by conv => rhs; unfold afterS; simp only [hi1, hi2, hi3, ha]) hq.out)
      have i2 := inv_adv p1.le (isS_ne hi3) ha
      have hb1 := p1.lt
      have lB1 := hB1.lt
      have lC1 := hC1.lt
      refine (eat_yes p1 kTilde hi3 ha).mono ?_
      rintro e w3 ⟨rfl, p3, k3⟩
      have hB3 := hB1.kept k3 (by show ¬ w.heap.size = b; omega)
      have hR3 := hR1.kept k3 (by show ¬ w.heap.size + 1 = b; omega)
      have hC3 := hC1.kept k3 (by show ¬ l5 = b; omega)
      have ka3 := ka1.frame (Same.of_kept k3 (fun k h e => by have := h.1; omega))
      have kc3 := kc1.frame (Same.of_kept k3 (fun k h e => by have := h.1; omega))
      have K3 := K1.trans k3
      have z3 : w1.heap.size ≤ w3.heap.size := k3.size
      have lR3 := hR3.lt
      have lB3 := hB3.lt
      have y0 : w3.cell? ⟨l5, 0, none⟩ = some (.int .i64 t'.op) := hC3.cell 0
      have y1 : w3.cell? ⟨l5, 1, none⟩ = some (.string t'.name) := hC3.cell 1
      have y2 : w3.cell? ⟨l5, 2, none⟩ = some (.int .i64 t'.n) := hC3.cell 2
      have y3 : w3.cell? ⟨l5, 3, none⟩ = some (.int .i64 t'.ty.kind) := hC3.cell 3
      have y4 : w3.cell? ⟨l5, 4, none⟩ = some (.string t'.ty.name) := hC3.cell 4
      have y5 : w3.cell? ⟨l5, 5, none⟩ = some (.slice ua un uc) := hC3.cell 5
      have y6 : w3.cell? ⟨l5, 6, none⟩ = some (.slice va vn vc) := hC3.cell 6
      have x0 : w3.cell? ⟨w.heap.size, 0, none⟩ = some (.int .i64 t'.op) := hB3.cell 0
      have f0 : w3.frozen? ⟨w.heap.size, 0, none⟩ = false := hB3.frozen 0
      have x1 : w3.cell? ⟨w.heap.size, 1, none⟩ = some (.string t'.name) := hB3.cell 1
      have f1 : w3.frozen? ⟨w.heap.size, 1, none⟩ = false := hB3.frozen 1
      have x2 : w3.cell? ⟨w.heap.size, 2, none⟩ = some (.int .i64 t'.n) := hB3.cell 2
      have f2 : w3.frozen? ⟨w.heap.size, 2, none⟩ = false := hB3.frozen 2
      have x3 : w3.cell? ⟨w.heap.size, 3, none⟩ = some (.int .i64 t'.ty.kind) := hB3.cell 3
      have f3 : w3.frozen? ⟨w.heap.size, 3, none⟩ = false := hB3.frozen 3
      have x4 : w3.cell? ⟨w.heap.size, 4, none⟩ = some (.string t'.ty.name) := hB3.cell 4
      have f4 : w3.frozen? ⟨w.heap.size, 4, none⟩ = false := hB3.frozen 4
      have x5 : w3.cell? ⟨w.heap.size, 5, none⟩ = some (.slice ua un uc) := hB3.cell 5
      have f5 : w3.frozen? ⟨w.heap.size, 5, none⟩ = false := hB3.frozen 5
      have x6 : w3.cell? ⟨w.heap.size, 6, none⟩ = some (.slice va vn vc) := hB3.cell 6
      have f6 : w3.frozen? ⟨w.heap.size, 6, none⟩ = false := hB3.frozen 6
      go_wp2_with fail
      go_roundg q
      case measure => omega
      case rel =>
       refine ⟨nd 52 [t'], σ2, none, 0, 0, _, 1, 1, hres, by omega, by omega, (p7w p3 (by omega) (by omega)).alloc _, (r7 hB3 rfl).alloc _, (b7w hR3 (by omega)).alloc _, .nil0, ?_, (k7w K3 (Or.inr (Nat.le_refl _))).alloc _⟩
       exact TmL.one (ty := 28) ⟨by omega, by omega, by omega⟩ (Nat.le_refl _) (Blk.new' 28 _ (by simp)) ((ka3.frame (same7k (Or.inl rfl))).frame (Same.alloc _ _)) ((kc3.frame (same7k (Or.inl rfl))).frame (Same.alloc _ _))
    case false =>
     have hres : Hid (afterS T s (s.size + 2) t σ = .ok (t', σ')) := Ld (hq.out.symm.trans (by unfold afterS; simp only [hi1, hi2, hi3]))
     refine (eat_no p1 kTilde hi3).mono ?_
     rintro e w' ⟨rfl, rfl⟩
     have y0 : w1.cell? ⟨w.heap.size, 0, none⟩ = some (.int .i64 t'.op) := hB1.cell 0
     have y1 : w1.cell? ⟨w.heap.size, 1, none⟩ = some (.string t'.name) := hB1.cell 1
     have y2 : w1.cell? ⟨w.heap.size, 2, none⟩ = some (.int .i64 t'.n) := hB1.cell 2
     have y3 : w1.cell? ⟨w.heap.size, 3, none⟩ = some (.int .i64 t'.ty.kind) := hB1.cell 3
     have y4 : w1.cell? ⟨w.heap.size, 4, none⟩ = some (.string t'.ty.name) := hB1.cell 4
     have y5 : w1.cell? ⟨w.heap.size, 5, none⟩ = some (.slice ua un uc) := hB1.cell 5
     have y6 : w1.cell? ⟨w.heap.size, 6, none⟩ = some (.slice va vn vc) := hB1.cell 6
     have g0 : w1.cell? ⟨w.heap.size + 1, 0, none⟩ = some (.int .i64 0) := hR1.cell 0
     have f0 : w1.frozen? ⟨w.heap.size + 1, 0, none⟩ = false := hR1.frozen 0
     have g1 : w1.cell? ⟨w.heap.size + 1, 1, none⟩ = some (.string ⟨#[]⟩) := hR1.cell 1
     have f1 : w1.frozen? ⟨w.heap.size + 1, 1, none⟩ = false := hR1.frozen 1
     have g2 : w1.cell? ⟨w.heap.size + 1, 2, none⟩ = some (.int .i64 0) := hR1.cell 2
     have f2 : w1.frozen? ⟨w.heap.size + 1, 2, none⟩ = false := hR1.frozen 2
     have g3 : w1.cell? ⟨w.heap.size + 1, 3, none⟩ = some (.int .i64 0) := hR1.cell 3
     have f3 : w1.frozen? ⟨w.heap.size + 1, 3, none⟩ = false := hR1.frozen 3
     have g4 : w1.cell? ⟨w.heap.size + 1, 4, none⟩ = some (.string ⟨#[]⟩) := hR1.cell 4
     have f4 : w1.frozen? ⟨w.heap.size + 1, 4, none⟩ = false := hR1.frozen 4
     have g5 : w1.cell? ⟨w.heap.size + 1, 5, none⟩ = some (.slice none 0 0) := hR1.cell 5
     have f5 : w1.frozen? ⟨w.heap.size + 1, 5, none⟩ = false := hR1.frozen 5
     have g6 : w1.cell? ⟨w.heap.size + 1, 6, none⟩ = some (.slice none 0 0) := hR1.cell 6
     have f6 : w1.frozen? ⟨w.heap.size + 1, 6, none⟩ = false := hR1.frozen 6
     go_wp2_with fail
     refine ret_tm Tryz.results149 hres.out rfl rfl (r7 hR1 rfl) ?_ ?_ (p7w p1 (by omega) (by omega)) (k7w K1 (Or.inr (by omega)))
     ·exact (ka1.frame (same7k (Or.inr rfl))).mono (fun k _ h => h.1)
     ·exact (kc1.frame (same7k (Or.inr rfl))).mono (fun k _ h => h.1)
end Go.Proofs.YtfhedienjnfdcaaGreatDoor
