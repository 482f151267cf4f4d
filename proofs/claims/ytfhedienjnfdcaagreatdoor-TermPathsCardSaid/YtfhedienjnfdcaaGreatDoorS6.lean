/- Texts After Elem Sm Brac of this proof, in one. -/
import Derived.Test.YtfhedienjnfdcaaGreatDoorS4
import Derived.Test.YtfhedienjnfdcaaGreatDoorS5
import Derived.Deep.CutBlock
set_option linter.unusedVariables false
set_option linter.unusedSimpArgs false
namespace Go.Proofs.YtfhedienjnfdcaaGreatDoor
open Go.RowKit
theorem PW.drew {w : World} {b : Nat} {s : ByteArray} {σ : PS} (h : PW w b s σ) : PW w.drew b s σ := h.grow (S := fun _ => False) ((Kept.refl _ _).drew) id id id
theorem Same.drew {ok : Nat → Prop} (W : World) : Same ok W W.drew := fun _ _ _ => rfl
set_option maxHeartbeats 8000000 in
theorem after_any {b : Nat} {s : ByteArray} {f : Nat} {T : TF} {w : World} {σ : PS} (hT : TC b s f T) (hI : TInv s T) (h : PW w b s σ) (hf : 14 * mu s σ ≤ f) (t : Tm) (ta : Option Addr) (tn tc : Nat) (ma : Option Addr) (mn mc n0 : Nat) (hb0 : b < n0) (hn0 : n0 ≤ w.heap.size)
    (a : TyL (fun k => n0 ≤ k) w t.ty.kids (.slice ta tn tc)) (c : TmL (fun k => n0 ≤ k) w t.kids (.slice ma mn mc)) :
    Calls Tryz.prog 149 #[.pointer (some ⟨b, 0, none⟩), tmVal t (.slice ta tn tc) (.slice ma mn mc)] w (RPost b s (VTm n0) (afterS T s (s.size + 2) t σ) w) := by
  have hlt := h.lt
  have hgl := h.gl.lt
  unfold tmVal
  have K2 : Kept (· = b) w ((w.alloc (.cells #[.int .i64 t.op, .string t.name, .int .i64 t.n, .int .i64 t.ty.kind, .string t.ty.name, .slice ta tn tc, .slice ma mn mc] 28)).alloc (.cells #[.int .i64 0, .string ⟨#[]⟩, .int .i64 0, .int .i64 0, .string ⟨#[]⟩, .slice none 0 0, .slice none 0 0] 28)) := ((Kept.refl _ _).alloc _).alloc _
  have p2 := (h.alloc (.cells #[.int .i64 t.op, .string t.name, .int .i64 t.n, .int .i64 t.ty.kind, .string t.ty.name, .slice ta tn tc, .slice ma mn mc] 28)).alloc (.cells #[.int .i64 0, .string ⟨#[]⟩, .int .i64 0, .int .i64 0, .string ⟨#[]⟩, .slice none 0 0, .slice none 0 0] 28)
  have hB2 : Blk ((w.alloc (.cells #[.int .i64 t.op, .string t.name, .int .i64 t.n, .int .i64 t.ty.kind, .string t.ty.name, .slice ta tn tc, .slice ma mn mc] 28)).alloc (.cells #[.int .i64 0, .string ⟨#[]⟩, .int .i64 0, .int .i64 0, .string ⟨#[]⟩, .slice none 0 0, .slice none 0 0] 28)) w.heap.size 28 (tmCells t (.slice ta tn tc) (.slice ma mn mc)) := (Blk.new w 28 (tmCells t (.slice ta tn tc) (.slice ma mn mc))).alloc (.cells #[.int .i64 0, .string ⟨#[]⟩, .int .i64 0, .int .i64 0, .string ⟨#[]⟩, .slice none 0 0, .slice none 0 0] 28)
  have hR2 : Blk ((w.alloc (.cells #[.int .i64 t.op, .string t.name, .int .i64 t.n, .int .i64 t.ty.kind, .string t.ty.name, .slice ta tn tc, .slice ma mn mc] 28)).alloc (.cells #[.int .i64 0, .string ⟨#[]⟩, .int .i64 0, .int .i64 0, .string ⟨#[]⟩, .slice none 0 0, .slice none 0 0] 28)) (w.heap.size + 1) 28 z27 := Blk.new' 28 z27 (by simp)
  have a2 := ((a.mono (ok' := okk n0 w.heap.size (w.heap.size + 1)) (fun k hk h => ⟨h, by omega, by omega⟩)).frame (Same.alloc _ (.cells #[.int .i64 t.op, .string t.name, .int .i64 t.n, .int .i64 t.ty.kind, .string t.ty.name, .slice ta tn tc, .slice ma mn mc] 28))).frame (Same.alloc _ (.cells #[.int .i64 0, .string ⟨#[]⟩, .int .i64 0, .int .i64 0, .string ⟨#[]⟩, .slice none 0 0, .slice none 0 0] 28))
  have c2 := ((c.mono (ok' := okk n0 w.heap.size (w.heap.size + 1)) (fun k hk h => ⟨h, by omega, by omega⟩)).frame (Same.alloc _ (.cells #[.int .i64 t.op, .string t.name, .int .i64 t.n, .int .i64 t.ty.kind, .string t.ty.name, .slice ta tn tc, .slice ma mn mc] 28))).frame (Same.alloc _ (.cells #[.int .i64 0, .string ⟨#[]⟩, .int .i64 0, .int .i64 0, .string ⟨#[]⟩, .slice none 0 0, .slice none 0 0] 28))
  go_enter Tryz.func149, Tryz.ntmps149
  go_wp2_with fail
  generalize hW : (w.alloc (.cells #[.int .i64 t.op, .string t.name, .int .i64 t.n, .int .i64 t.ty.kind, .string t.ty.name, .slice ta tn tc, .slice ma mn mc] 28)).alloc (.cells #[.int .i64 0, .string ⟨#[]⟩, .int .i64 0, .int .i64 0, .string ⟨#[]⟩, .slice none 0 0, .slice none 0 0] 28) = w2 at *
  clear hW
  go_loopg [5] (s.size + 2) (fun m _ wr => ∃ (t' : Tm) (σ' : PS) (ua : Option Addr) (un uc : Nat) (va : Option Addr) (vn vc : Nat), Hid (afterS T s m t' σ' = afterS T s (s.size + 2) t σ) ∧ mu s σ' < m ∧ mu s σ' ≤ mu s σ ∧ PW wr b s σ' ∧ Blk wr w.heap.size 28 (tmCells t' (.slice ua un uc) (.slice va vn vc)) ∧ Blk wr (w.heap.size + 1) 28 z27 ∧ TyL (okk n0 w.heap.size (w.heap.size + 1)) wr t'.ty.kids (.slice ua un uc) ∧ TmL (okk n0 w.heap.size (w.heap.size + 1)) wr t'.kids (.slice va vn vc) ∧ Kept (· = b) w wr)
  case atStart => exact ⟨t, σ, ta, tn, tc, ma, mn, mc, Lib.hid rfl, by have := mu_le s σ; omega, Nat.le_refl _, p2, hB2, hR2, a2, c2, K2⟩
  case round =>
    clear p2 hB2 hR2 a2 c2 K2
    obtain ⟨t', σ', ua, un, uc, va, vn, vc, hq, hm, hmm, p, hB, hR, ka, kc, K⟩ := hrel
    obtain ⟨q, rfl⟩ : ∃ q, gk = q + 1 := ⟨gk - 1, by omega⟩
    have y0 : wr.cell? ⟨w.heap.size, 0, none⟩ = some (.int .i64 t'.op) := hB.cell 0
    have y1 : wr.cell? ⟨w.heap.size, 1, none⟩ = some (.string t'.name) := hB.cell 1
    have y2 : wr.cell? ⟨w.heap.size, 2, none⟩ = some (.int .i64 t'.n) := hB.cell 2
    have y3 : wr.cell? ⟨w.heap.size, 3, none⟩ = some (.int .i64 t'.ty.kind) := hB.cell 3
    have y4 : wr.cell? ⟨w.heap.size, 4, none⟩ = some (.string t'.ty.name) := hB.cell 4
    have y5 : wr.cell? ⟨w.heap.size, 5, none⟩ = some (.slice ua un uc) := hB.cell 5
    have y6 : wr.cell? ⟨w.heap.size, 6, none⟩ = some (.slice va vn vc) := hB.cell 6
    have hb := p.lt
    have lR := hR.lt
    have lB := hB.lt
    go_wp2_with fail
    have p1 := p.alloc (.cells #[.int .i64 t'.op, .string t'.name, .int .i64 t'.n, .int .i64 t'.ty.kind, .string t'.ty.name, .slice ua un uc, .slice va vn vc] 28)
    have hB1 := hB.alloc (.cells #[.int .i64 t'.op, .string t'.name, .int .i64 t'.n, .int .i64 t'.ty.kind, .string t'.ty.name, .slice ua un uc, .slice va vn vc] 28)
    have hR1 := hR.alloc (.cells #[.int .i64 t'.op, .string t'.name, .int .i64 t'.n, .int .i64 t'.ty.kind, .string t'.ty.name, .slice ua un uc, .slice va vn vc] 28)
    have hC1 : Blk (wr.alloc (.cells #[.int .i64 t'.op, .string t'.name, .int .i64 t'.n, .int .i64 t'.ty.kind, .string t'.ty.name, .slice ua un uc, .slice va vn vc] 28)) wr.heap.size 28 (tmCells t' (.slice ua un uc) (.slice va vn vc)) := Blk.new wr 28 _
    have ka1 := ka.frame (Same.alloc _ (.cells #[.int .i64 t'.op, .string t'.name, .int .i64 t'.n, .int .i64 t'.ty.kind, .string t'.ty.name, .slice ua un uc, .slice va vn vc] 28))
    have kc1 := kc.frame (Same.alloc _ (.cells #[.int .i64 t'.op, .string t'.name, .int .i64 t'.n, .int .i64 t'.ty.kind, .string t'.ty.name, .slice ua un uc, .slice va vn vc] 28))
    have K1 := K.alloc (.cells #[.int .i64 t'.op, .string t'.name, .int .i64 t'.n, .int .i64 t'.ty.kind, .string t'.ty.name, .slice ua un uc, .slice va vn vc] 28)
    have z1 : (wr.alloc (.cells #[.int .i64 t'.op, .string t'.name, .int .i64 t'.n, .int .i64 t'.ty.kind, .string t'.ty.name, .slice ua un uc, .slice va vn vc] 28)).heap.size = wr.heap.size + 1 := by simp
    generalize hW : wr.alloc (.cells #[.int .i64 t'.op, .string t'.name, .int .i64 t'.n, .int .i64 t'.ty.kind, .string t'.ty.name, .slice ua un uc, .slice va vn vc] 28) = w1 at *
    generalize wr.heap.size = l5 at *
    clear hW p hB hR ka kc K y0 y1 y2 y3 y4 y5 y6
    have Z1 := Lib.hid z1
    clear z1
    cases hi1 : isS σ' kLpar
    case true =>
      refine (is_any p1 kLpar hi1).mono ?_
      rintro e w' ⟨rfl, rfl⟩
      have y0 : w1.cell? ⟨l5, 0, none⟩ = some (.int .i64 t'.op) := hC1.cell 0
      have y1 : w1.cell? ⟨l5, 1, none⟩ = some (.string t'.name) := hC1.cell 1
      have y2 : w1.cell? ⟨l5, 2, none⟩ = some (.int .i64 t'.n) := hC1.cell 2
      have y3 : w1.cell? ⟨l5, 3, none⟩ = some (.int .i64 t'.ty.kind) := hC1.cell 3
      have y4 : w1.cell? ⟨l5, 4, none⟩ = some (.string t'.ty.name) := hC1.cell 4
      have y5 : w1.cell? ⟨l5, 5, none⟩ = some (.slice ua un uc) := hC1.cell 5
      have y6 : w1.cell? ⟨l5, 6, none⟩ = some (.slice va vn vc) := hC1.cell 6
      cases hin : insideS T s kLpar kRpar σ' with
      | error r =>
        have hres : Hid (afterS T s (s.size + 2) t σ = .error r) := Lib.hid (hq.out.symm.trans (by unfold afterS; simp only [hi1, hin]))
        go_wp2_with fail
        refine wp_region_lmc (.tmp 0) (by kernel_rfl) rfl rfl (by kernel_rfl) (by kernel_rfl) (by kernel_rfl) (by kernel_rfl) (by kernel_rfl) (by kernel_rfl) ?_ ?_ ?_
        all_goals
          go_wp2_with fail
          refine (inside_any hT hI p1.drew (by omega) kLpar kRpar).mono ?_
          rintro e w3 hr
          obtain ⟨rfl, k3⟩ := hr.getErr hin
          clear hr
          go_wp2_with fail
          exact ⟨rfl, RPost.err hres.out ⟨rfl, K1.drew.trans k3⟩⟩
      | ok q5 =>
        obtain ⟨u, σ2⟩ := q5
        have hres : Hid (afterS T s q (nd 54 [t', u]) σ2 = afterS T s (s.size + 2) t σ) := Lib.hid (Eq.trans (by conv => rhs; unfold afterS; simp only [hi1, hin]) hq.out)
        have i2 := (inv_inside hI p1.le hin).1
        unfold Inv1 at i2
        have hb1 := p1.lt
        have lB1 := hB1.lt
        have lC1 := hC1.lt
        go_wp2_with fail
        refine wp_region_lmc (.tmp 0) (by kernel_rfl) rfl rfl (by kernel_rfl) (by kernel_rfl) (by kernel_rfl) (by kernel_rfl) (by kernel_rfl) (by kernel_rfl) ?_ ?_ ?_
        all_goals
          go_wp2_with fail
          refine (inside_any hT hI p1.drew (by omega) kLpar kRpar).mono ?_
          rintro e w3 hr
          obtain ⟨v, rfl, ⟨tk5, kk5, rfl, au, cu⟩, p3, k3⟩ := hr.getOk hin
          clear hr
          obtain ⟨ta5, tn5, tc5, rfl⟩ := au.slice
          obtain ⟨ma5, mn5, mc5, rfl⟩ := cu.slice
          unfold tmVal
          have hB3 := hB1.drew.kept k3 (by show ¬ w.heap.size = b; omega)
          have hR3 := hR1.drew.kept k3 (by show ¬ w.heap.size + 1 = b; omega)
          have hC3 := hC1.drew.kept k3 (by show ¬ l5 = b; omega)
          have ka3 := (ka1.frame (Same.drew _)).frame (Same.of_kept k3 (fun k h e => by have := h.1; omega))
          have kc3 := (kc1.frame (Same.drew _)).frame (Same.of_kept k3 (fun k h e => by have := h.1; omega))
          have K3 := K1.drew.trans k3
          have z3 : w1.heap.size ≤ w3.heap.size := k3.size
          have lR3 := hR3.lt
          have lB3 := hB3.lt
          have y'0 : w3.cell? ⟨l5, 0, none⟩ = some (.int .i64 t'.op) := hC3.cell 0
          have y'1 : w3.cell? ⟨l5, 1, none⟩ = some (.string t'.name) := hC3.cell 1
          have y'2 : w3.cell? ⟨l5, 2, none⟩ = some (.int .i64 t'.n) := hC3.cell 2
          have y'3 : w3.cell? ⟨l5, 3, none⟩ = some (.int .i64 t'.ty.kind) := hC3.cell 3
          have y'4 : w3.cell? ⟨l5, 4, none⟩ = some (.string t'.ty.name) := hC3.cell 4
          have y'5 : w3.cell? ⟨l5, 5, none⟩ = some (.slice ua un uc) := hC3.cell 5
          have y'6 : w3.cell? ⟨l5, 6, none⟩ = some (.slice va vn vc) := hC3.cell 6
          have x0 : w3.cell? ⟨w.heap.size, 0, none⟩ = some (.int .i64 t'.op) := hB3.cell 0
          have f0 : w3.frozen? ⟨w.heap.size, 0, none⟩ = false := hB3.frozen 0
          have x1 : w3.cell? ⟨w.heap.size, 1, none⟩ = some (.string t'.name) := hB3.cell 1
          have f1 : w3.frozen? ⟨w.heap.size, 1, none⟩ = false := hB3.frozen 1
          have x2 : w3.cell? ⟨w.heap.size, 2, none⟩ = some (.int .i64 t'.n) := hB3.cell 2
          have f2 : w3.frozen? ⟨w.heap.size, 2, none⟩ = false := hB3.frozen 2
          have x3 : w3.cell? ⟨w.heap.size, 3, none⟩ = some (.int .i64 t'.ty.kind) := hB3.cell 3
          have f3 : w3.frozen? ⟨w.heap.size, 3, none⟩ = false := hB3.frozen 3
          have x4 : w3.cell? ⟨w.heap.size, 4, none⟩ = some (.string t'.ty.name) := hB3.cell 4
          have f4 : w3.frozen? ⟨w.heap.size, 4, none⟩ = false := hB3.frozen 4
          have x5 : w3.cell? ⟨w.heap.size, 5, none⟩ = some (.slice ua un uc) := hB3.cell 5
          have f5 : w3.frozen? ⟨w.heap.size, 5, none⟩ = false := hB3.frozen 5
          have x6 : w3.cell? ⟨w.heap.size, 6, none⟩ = some (.slice va vn vc) := hB3.cell 6
          have f6 : w3.frozen? ⟨w.heap.size, 6, none⟩ = false := hB3.frozen 6
          go_wp2_with fail
          go_roundg q
          case measure => omega
          case rel =>
            refine ⟨nd 54 [t', u], σ2, none, 0, 0, _, 2, 2, hres, by omega, by omega, (p7w p3 (by omega) (by omega)).alloc _, (r7 hB3 rfl).alloc _, (b7w hR3 (by omega)).alloc _, .nil0, ?_, (k7w K3 (Or.inr (Nat.le_refl _))).alloc _⟩
            exact TmL.two (ty := 28) ⟨by omega, by omega, by omega⟩ (Nat.le_refl _) (Blk.new' 28 _ (by simp)) ((ka3.frame (same7k (Or.inl rfl))).frame (Same.alloc _ _)) ((kc3.frame (same7k (Or.inl rfl))).frame (Same.alloc _ _)) (((au.mono (ok' := okk n0 w.heap.size (w.heap.size + 1)) (fun k _ (h : w1.heap.size ≤ k) => ⟨by omega, by omega, by omega⟩)).frame (same7k (Or.inl rfl))).frame (Same.alloc _ _)) (((cu.mono (ok' := okk n0 w.heap.size (w.heap.size + 1)) (fun k _ (h : w1.heap.size ≤ k) => ⟨by omega, by omega, by omega⟩)).frame (same7k (Or.inl rfl))).frame (Same.alloc _ _))
    case false =>
      refine (is_any p1 kLpar hi1).mono ?_
      rintro e w' ⟨rfl, rfl⟩
      go_wp2_with fail
      cases hi2 : isS σ' kLbr
      case true =>
        refine (is_any p1 kLbr hi2).mono ?_
        rintro e w' ⟨rfl, rfl⟩
        have y0 : w1.cell? ⟨l5, 0, none⟩ = some (.int .i64 t'.op) := hC1.cell 0
        have y1 : w1.cell? ⟨l5, 1, none⟩ = some (.string t'.name) := hC1.cell 1
        have y2 : w1.cell? ⟨l5, 2, none⟩ = some (.int .i64 t'.n) := hC1.cell 2
        have y3 : w1.cell? ⟨l5, 3, none⟩ = some (.int .i64 t'.ty.kind) := hC1.cell 3
        have y4 : w1.cell? ⟨l5, 4, none⟩ = some (.string t'.ty.name) := hC1.cell 4
        have y5 : w1.cell? ⟨l5, 5, none⟩ = some (.slice ua un uc) := hC1.cell 5
        have y6 : w1.cell? ⟨l5, 6, none⟩ = some (.slice va vn vc) := hC1.cell 6
        cases hin : insideS T s kLbr kRbr σ' with
        | error r =>
          have hres : Hid (afterS T s (s.size + 2) t σ = .error r) := Lib.hid (hq.out.symm.trans (by unfold afterS; simp only [hi1, hi2, hin]))
          go_wp2_with fail
          refine wp_region_lmc (.tmp 0) (by kernel_rfl) rfl rfl (by kernel_rfl) (by kernel_rfl) (by kernel_rfl) (by kernel_rfl) (by kernel_rfl) (by kernel_rfl) ?_ ?_ ?_
          all_goals
            go_wp2_with fail
            refine (inside_any hT hI p1.drew (by omega) kLbr kRbr).mono ?_
            rintro e w3 hr
            obtain ⟨rfl, k3⟩ := hr.getErr hin
            clear hr
            go_wp2_with fail
            exact ⟨rfl, RPost.err hres.out ⟨rfl, K1.drew.trans k3⟩⟩
        | ok q5 =>
          obtain ⟨u, σ2⟩ := q5
          have hres : Hid (afterS T s q (nd 53 [t', u]) σ2 = afterS T s (s.size + 2) t σ) := Lib.hid (Eq.trans (by conv => rhs; unfold afterS; simp only [hi1, hi2, hin]) hq.out)
          have i2 := (inv_inside hI p1.le hin).1
          unfold Inv1 at i2
          have hb1 := p1.lt
          have lB1 := hB1.lt
          have lC1 := hC1.lt
          go_wp2_with fail
          refine wp_region_lmc (.tmp 0) (by kernel_rfl) rfl rfl (by kernel_rfl) (by kernel_rfl) (by kernel_rfl) (by kernel_rfl) (by kernel_rfl) (by kernel_rfl) ?_ ?_ ?_
          all_goals
            go_wp2_with fail
            refine (inside_any hT hI p1.drew (by omega) kLbr kRbr).mono ?_
            rintro e w3 hr
            obtain ⟨v, rfl, ⟨tk5, kk5, rfl, au, cu⟩, p3, k3⟩ := hr.getOk hin
            clear hr
            obtain ⟨ta5, tn5, tc5, rfl⟩ := au.slice
            obtain ⟨ma5, mn5, mc5, rfl⟩ := cu.slice
            unfold tmVal
            have hB3 := hB1.drew.kept k3 (by show ¬ w.heap.size = b; omega)
            have hR3 := hR1.drew.kept k3 (by show ¬ w.heap.size + 1 = b; omega)
            have hC3 := hC1.drew.kept k3 (by show ¬ l5 = b; omega)
            have ka3 := (ka1.frame (Same.drew _)).frame (Same.of_kept k3 (fun k h e => by have := h.1; omega))
            have kc3 := (kc1.frame (Same.drew _)).frame (Same.of_kept k3 (fun k h e => by have := h.1; omega))
            have K3 := K1.drew.trans k3
            have z3 : w1.heap.size ≤ w3.heap.size := k3.size
            have lR3 := hR3.lt
            have lB3 := hB3.lt
            have y'0 : w3.cell? ⟨l5, 0, none⟩ = some (.int .i64 t'.op) := hC3.cell 0
            have y'1 : w3.cell? ⟨l5, 1, none⟩ = some (.string t'.name) := hC3.cell 1
            have y'2 : w3.cell? ⟨l5, 2, none⟩ = some (.int .i64 t'.n) := hC3.cell 2
            have y'3 : w3.cell? ⟨l5, 3, none⟩ = some (.int .i64 t'.ty.kind) := hC3.cell 3
            have y'4 : w3.cell? ⟨l5, 4, none⟩ = some (.string t'.ty.name) := hC3.cell 4
            have y'5 : w3.cell? ⟨l5, 5, none⟩ = some (.slice ua un uc) := hC3.cell 5
            have y'6 : w3.cell? ⟨l5, 6, none⟩ = some (.slice va vn vc) := hC3.cell 6
            have x0 : w3.cell? ⟨w.heap.size, 0, none⟩ = some (.int .i64 t'.op) := hB3.cell 0
            have f0 : w3.frozen? ⟨w.heap.size, 0, none⟩ = false := hB3.frozen 0
            have x1 : w3.cell? ⟨w.heap.size, 1, none⟩ = some (.string t'.name) := hB3.cell 1
            have f1 : w3.frozen? ⟨w.heap.size, 1, none⟩ = false := hB3.frozen 1
            have x2 : w3.cell? ⟨w.heap.size, 2, none⟩ = some (.int .i64 t'.n) := hB3.cell 2
            have f2 : w3.frozen? ⟨w.heap.size, 2, none⟩ = false := hB3.frozen 2
            have x3 : w3.cell? ⟨w.heap.size, 3, none⟩ = some (.int .i64 t'.ty.kind) := hB3.cell 3
            have f3 : w3.frozen? ⟨w.heap.size, 3, none⟩ = false := hB3.frozen 3
            have x4 : w3.cell? ⟨w.heap.size, 4, none⟩ = some (.string t'.ty.name) := hB3.cell 4
            have f4 : w3.frozen? ⟨w.heap.size, 4, none⟩ = false := hB3.frozen 4
            have x5 : w3.cell? ⟨w.heap.size, 5, none⟩ = some (.slice ua un uc) := hB3.cell 5
            have f5 : w3.frozen? ⟨w.heap.size, 5, none⟩ = false := hB3.frozen 5
            have x6 : w3.cell? ⟨w.heap.size, 6, none⟩ = some (.slice va vn vc) := hB3.cell 6
            have f6 : w3.frozen? ⟨w.heap.size, 6, none⟩ = false := hB3.frozen 6
            go_wp2_with fail
            go_roundg q
            case measure => omega
            case rel =>
              refine ⟨nd 53 [t', u], σ2, none, 0, 0, _, 2, 2, hres, by omega, by omega, (p7w p3 (by omega) (by omega)).alloc _, (r7 hB3 rfl).alloc _, (b7w hR3 (by omega)).alloc _, .nil0, ?_, (k7w K3 (Or.inr (Nat.le_refl _))).alloc _⟩
              exact TmL.two (ty := 28) ⟨by omega, by omega, by omega⟩ (Nat.le_refl _) (Blk.new' 28 _ (by simp)) ((ka3.frame (same7k (Or.inl rfl))).frame (Same.alloc _ _)) ((kc3.frame (same7k (Or.inl rfl))).frame (Same.alloc _ _)) (((au.mono (ok' := okk n0 w.heap.size (w.heap.size + 1)) (fun k _ (h : w1.heap.size ≤ k) => ⟨by omega, by omega, by omega⟩)).frame (same7k (Or.inl rfl))).frame (Same.alloc _ _)) (((cu.mono (ok' := okk n0 w.heap.size (w.heap.size + 1)) (fun k _ (h : w1.heap.size ≤ k) => ⟨by omega, by omega, by omega⟩)).frame (same7k (Or.inl rfl))).frame (Same.alloc _ _))
      case false =>
        refine (is_any p1 kLbr hi2).mono ?_
        rintro e w' ⟨rfl, rfl⟩
        go_wp2_with fail
        cases hi3 : isS σ' kTilde
        case true =>
          cases ha : advS s σ' with
          | error r =>
            have hres : Hid (afterS T s (s.size + 2) t σ = .error r) := Lib.hid (hq.out.symm.trans (by unfold afterS; simp only [hi1, hi2, hi3, ha]))
            refine (eat_bad p1 kTilde hi3 ha).mono ?_
            rintro e w3 ⟨rfl, k3⟩
            go_wp2_with fail
            exact ⟨rfl, RPost.err hres.out ⟨rfl, K1.trans k3⟩⟩
          | ok σ2 =>
            have hres : Hid (afterS T s q (nd 52 [t']) σ2 = afterS T s (s.size + 2) t σ) := Lib.hid (Eq.trans (by conv => rhs; unfold afterS; simp only [hi1, hi2, hi3, ha]) hq.out)
            have i2 := inv_adv p1.le (isS_ne hi3) ha
            have hb1 := p1.lt
            have lB1 := hB1.lt
            have lC1 := hC1.lt
            refine (eat_yes p1 kTilde hi3 ha).mono ?_
            rintro e w3 ⟨rfl, p3, k3⟩
            have hB3 := hB1.kept k3 (by show ¬ w.heap.size = b; omega)
            have hR3 := hR1.kept k3 (by show ¬ w.heap.size + 1 = b; omega)
            have hC3 := hC1.kept k3 (by show ¬ l5 = b; omega)
            have ka3 := ka1.frame (Same.of_kept k3 (fun k h e => by have := h.1; omega))
            have kc3 := kc1.frame (Same.of_kept k3 (fun k h e => by have := h.1; omega))
            have K3 := K1.trans k3
            have z3 : w1.heap.size ≤ w3.heap.size := k3.size
            have lR3 := hR3.lt
            have lB3 := hB3.lt
            have y0 : w3.cell? ⟨l5, 0, none⟩ = some (.int .i64 t'.op) := hC3.cell 0
            have y1 : w3.cell? ⟨l5, 1, none⟩ = some (.string t'.name) := hC3.cell 1
            have y2 : w3.cell? ⟨l5, 2, none⟩ = some (.int .i64 t'.n) := hC3.cell 2
            have y3 : w3.cell? ⟨l5, 3, none⟩ = some (.int .i64 t'.ty.kind) := hC3.cell 3
            have y4 : w3.cell? ⟨l5, 4, none⟩ = some (.string t'.ty.name) := hC3.cell 4
            have y5 : w3.cell? ⟨l5, 5, none⟩ = some (.slice ua un uc) := hC3.cell 5
            have y6 : w3.cell? ⟨l5, 6, none⟩ = some (.slice va vn vc) := hC3.cell 6
            have x0 : w3.cell? ⟨w.heap.size, 0, none⟩ = some (.int .i64 t'.op) := hB3.cell 0
            have f0 : w3.frozen? ⟨w.heap.size, 0, none⟩ = false := hB3.frozen 0
            have x1 : w3.cell? ⟨w.heap.size, 1, none⟩ = some (.string t'.name) := hB3.cell 1
            have f1 : w3.frozen? ⟨w.heap.size, 1, none⟩ = false := hB3.frozen 1
            have x2 : w3.cell? ⟨w.heap.size, 2, none⟩ = some (.int .i64 t'.n) := hB3.cell 2
            have f2 : w3.frozen? ⟨w.heap.size, 2, none⟩ = false := hB3.frozen 2
            have x3 : w3.cell? ⟨w.heap.size, 3, none⟩ = some (.int .i64 t'.ty.kind) := hB3.cell 3
            have f3 : w3.frozen? ⟨w.heap.size, 3, none⟩ = false := hB3.frozen 3
            have x4 : w3.cell? ⟨w.heap.size, 4, none⟩ = some (.string t'.ty.name) := hB3.cell 4
            have f4 : w3.frozen? ⟨w.heap.size, 4, none⟩ = false := hB3.frozen 4
            have x5 : w3.cell? ⟨w.heap.size, 5, none⟩ = some (.slice ua un uc) := hB3.cell 5
            have f5 : w3.frozen? ⟨w.heap.size, 5, none⟩ = false := hB3.frozen 5
            have x6 : w3.cell? ⟨w.heap.size, 6, none⟩ = some (.slice va vn vc) := hB3.cell 6
            have f6 : w3.frozen? ⟨w.heap.size, 6, none⟩ = false := hB3.frozen 6
            go_wp2_with fail
            go_roundg q
            case measure => omega
            case rel =>
              refine ⟨nd 52 [t'], σ2, none, 0, 0, _, 1, 1, hres, by omega, by omega, (p7w p3 (by omega) (by omega)).alloc _, (r7 hB3 rfl).alloc _, (b7w hR3 (by omega)).alloc _, .nil0, ?_, (k7w K3 (Or.inr (Nat.le_refl _))).alloc _⟩
              exact TmL.one (ty := 28) ⟨by omega, by omega, by omega⟩ (Nat.le_refl _) (Blk.new' 28 _ (by simp)) ((ka3.frame (same7k (Or.inl rfl))).frame (Same.alloc _ _)) ((kc3.frame (same7k (Or.inl rfl))).frame (Same.alloc _ _))
        case false =>
          have hres : Hid (afterS T s (s.size + 2) t σ = .ok (t', σ')) := Lib.hid (hq.out.symm.trans (by unfold afterS; simp only [hi1, hi2, hi3]))
          refine (eat_no p1 kTilde hi3).mono ?_
          rintro e w' ⟨rfl, rfl⟩
          have y0 : w1.cell? ⟨w.heap.size, 0, none⟩ = some (.int .i64 t'.op) := hB1.cell 0
          have y1 : w1.cell? ⟨w.heap.size, 1, none⟩ = some (.string t'.name) := hB1.cell 1
          have y2 : w1.cell? ⟨w.heap.size, 2, none⟩ = some (.int .i64 t'.n) := hB1.cell 2
          have y3 : w1.cell? ⟨w.heap.size, 3, none⟩ = some (.int .i64 t'.ty.kind) := hB1.cell 3
          have y4 : w1.cell? ⟨w.heap.size, 4, none⟩ = some (.string t'.ty.name) := hB1.cell 4
          have y5 : w1.cell? ⟨w.heap.size, 5, none⟩ = some (.slice ua un uc) := hB1.cell 5
          have y6 : w1.cell? ⟨w.heap.size, 6, none⟩ = some (.slice va vn vc) := hB1.cell 6
          have g0 : w1.cell? ⟨w.heap.size + 1, 0, none⟩ = some (.int .i64 0) := hR1.cell 0
          have f0 : w1.frozen? ⟨w.heap.size + 1, 0, none⟩ = false := hR1.frozen 0
          have g1 : w1.cell? ⟨w.heap.size + 1, 1, none⟩ = some (.string ⟨#[]⟩) := hR1.cell 1
          have f1 : w1.frozen? ⟨w.heap.size + 1, 1, none⟩ = false := hR1.frozen 1
          have g2 : w1.cell? ⟨w.heap.size + 1, 2, none⟩ = some (.int .i64 0) := hR1.cell 2
          have f2 : w1.frozen? ⟨w.heap.size + 1, 2, none⟩ = false := hR1.frozen 2
          have g3 : w1.cell? ⟨w.heap.size + 1, 3, none⟩ = some (.int .i64 0) := hR1.cell 3
          have f3 : w1.frozen? ⟨w.heap.size + 1, 3, none⟩ = false := hR1.frozen 3
          have g4 : w1.cell? ⟨w.heap.size + 1, 4, none⟩ = some (.string ⟨#[]⟩) := hR1.cell 4
          have f4 : w1.frozen? ⟨w.heap.size + 1, 4, none⟩ = false := hR1.frozen 4
          have g5 : w1.cell? ⟨w.heap.size + 1, 5, none⟩ = some (.slice none 0 0) := hR1.cell 5
          have f5 : w1.frozen? ⟨w.heap.size + 1, 5, none⟩ = false := hR1.frozen 5
          have g6 : w1.cell? ⟨w.heap.size + 1, 6, none⟩ = some (.slice none 0 0) := hR1.cell 6
          have f6 : w1.frozen? ⟨w.heap.size + 1, 6, none⟩ = false := hR1.frozen 6
          go_wp2_with fail
          refine ret_tm Tryz.results149 hres.out rfl rfl (r7 hR1 rfl) ?_ ?_ (p7w p1 (by omega) (by omega)) (k7w K1 (Or.inr (by omega)))
          · exact (ka1.frame (same7k (Or.inr rfl))).mono (fun k _ h => h.1)
          · exact (kc1.frame (same7k (Or.inr rfl))).mono (fun k _ h => h.1)
structure Pair (ok : Nat → Prop) (w : World) (x y : Tm) (g off cap : Nat) (k0 m0 k1 m1 : Value) : Prop where
  okg : ok g
  cap2 : 2 ≤ cap
  x0 : w.cell? ⟨g, off, none⟩ = some (.int .i64 x.op)
  x1 : w.cell? ⟨g, off + 1, none⟩ = some (.string x.name)
  y0 : w.cell? ⟨g, off + 7, none⟩ = some (.int .i64 y.op)
  y1 : w.cell? ⟨g, off + 8, none⟩ = some (.string y.name)
  y2 : w.cell? ⟨g, off + 9, none⟩ = some (.int .i64 y.n)
  y3 : w.cell? ⟨g, off + 10, none⟩ = some (.int .i64 y.ty.kind)
  y4 : w.cell? ⟨g, off + 11, none⟩ = some (.string y.ty.name)
  y5 : w.cell? ⟨g, off + 12, none⟩ = some k1
  y6 : w.cell? ⟨g, off + 13, none⟩ = some m1
  ty : TyL ok w y.ty.kids k1
  tm : TmL ok w y.kids m1
theorem kept_grown {w w' : World} {row : Option Nat} (h : w.grownBy w' row) : Kept (fun k => row = some k) w w' := ⟨h.os, h.tape, h.output, h.size, fun k hk hn => h.block k hk (fun e => hn e.symm)⟩
theorem Kept.via {S S' : Nat → Prop} {w w1 w2 : World} (h : Kept S w w1) (k : Kept S' w1 w2) (hS : ∀ x, x < w.heap.size → S' x → S x) : Kept S w w2 :=
  ⟨k.os.trans h.os, k.tape.trans h.tape, k.output.trans h.output, Nat.le_trans h.size k.size, fun i hi hs => (k.block i (Nat.lt_of_lt_of_le hi h.size) (fun q => hs (hS i hi q))).trans (h.block i hi hs)⟩
def ok3 (n0 B R : Nat) (v : Value) (k : Nat) : Prop := n0 ≤ k ∧ k ≠ B ∧ k ≠ R ∧ v.ownBlock ≠ some k
theorem TmL.pair {ok : Nat → Prop} {w : World} {x y : Tm} {v : Value} (h : TmL ok w [x, y] v) : ∃ g off cap k0 m0 k1 m1, v = .slice (some ⟨g, off, none⟩) 2 cap ∧ Pair ok w x y g off cap k0 m0 k1 m1 := by
  generalize hl : [x, y] = l at h
  cases h with
  | nil h => cases hl
  | mk K M hne hb hc hcell hk hm =>
    rename_i g off cap
    subst hl
    have h0 := hcell 0 (by simp)
    have h1 := hcell 1 (by simp)
    refine ⟨g, off, cap, K 0, M 0, K 1, M 1, rfl, hb, hc, ?_, ?_, ?_, ?_, ?_, ?_, ?_, ?_, ?_, hk 1 (by simp), hm 1 (by simp)⟩
    · simpa using h0.1
    · simpa using h0.2.1
    · simpa using h1.1
    · simpa using h1.2.1
    · simpa using h1.2.2.1
    · simpa using h1.2.2.2.1
    · simpa using h1.2.2.2.2.1
    · simpa using h1.2.2.2.2.2.1
    · simpa using h1.2.2.2.2.2.2
set_option maxRecDepth 100000 in
set_option maxHeartbeats 8000000 in
theorem elements_any {b : Nat} {s : ByteArray} {f : Nat} {T : TF} {w : World} {σ : PS} (hT : TC b s f T) (hI : TInv s T) (h : PW w b s σ) (hnest : 1 ≤ σ.nest) (hf : 14 * mu s σ ≤ f) (t : Tm) (hgo : good t) (hnm : ∀ k ∈ t.kids, k.name.size ≤ 65536) (bare : Bool) (ta : Option Addr) (tn tc : Nat) (ma : Option Addr) (mn mc n0 : Nat) (hb0 : b < n0) (hn0 : n0 ≤ w.heap.size)
    (a : TyL (fun k => n0 ≤ k) w t.ty.kids (.slice ta tn tc)) (c : TmL (fun k => n0 ≤ k) w t.kids (.slice ma mn mc)) :
    Calls Tryz.prog 223 #[.pointer (some ⟨b, 0, none⟩), tmVal t (.slice ta tn tc) (.slice ma mn mc), .bool bare] w (RPost b s (VTm n0) (elementsS T s t bare σ) w) := by
  have hlt := h.lt
  have hgl := h.gl.lt
  unfold tmVal
  have K0 : Kept (· = b) w ((w.alloc (.cells #[.int .i64 t.op, .string t.name, .int .i64 t.n, .int .i64 t.ty.kind, .string t.ty.name, .slice ta tn tc, .slice ma mn mc] 28)).alloc (.cells #[.int .i64 0, .string ⟨#[]⟩, .int .i64 0, .int .i64 0, .string ⟨#[]⟩, .slice none 0 0, .slice none 0 0] 28)) := ((Kept.refl _ _).alloc _).alloc _
  have h0 := (h.alloc (.cells #[.int .i64 t.op, .string t.name, .int .i64 t.n, .int .i64 t.ty.kind, .string t.ty.name, .slice ta tn tc, .slice ma mn mc] 28)).alloc (.cells #[.int .i64 0, .string ⟨#[]⟩, .int .i64 0, .int .i64 0, .string ⟨#[]⟩, .slice none 0 0, .slice none 0 0] 28)
  have hB0 : Blk ((w.alloc (.cells #[.int .i64 t.op, .string t.name, .int .i64 t.n, .int .i64 t.ty.kind, .string t.ty.name, .slice ta tn tc, .slice ma mn mc] 28)).alloc (.cells #[.int .i64 0, .string ⟨#[]⟩, .int .i64 0, .int .i64 0, .string ⟨#[]⟩, .slice none 0 0, .slice none 0 0] 28)) w.heap.size 28 (tmCells t (.slice ta tn tc) (.slice ma mn mc)) := (Blk.new w 28 (tmCells t (.slice ta tn tc) (.slice ma mn mc))).alloc (.cells #[.int .i64 0, .string ⟨#[]⟩, .int .i64 0, .int .i64 0, .string ⟨#[]⟩, .slice none 0 0, .slice none 0 0] 28)
  have hR0 : Blk ((w.alloc (.cells #[.int .i64 t.op, .string t.name, .int .i64 t.n, .int .i64 t.ty.kind, .string t.ty.name, .slice ta tn tc, .slice ma mn mc] 28)).alloc (.cells #[.int .i64 0, .string ⟨#[]⟩, .int .i64 0, .int .i64 0, .string ⟨#[]⟩, .slice none 0 0, .slice none 0 0] 28)) (w.heap.size + 1) 28 z27 := Blk.new' 28 z27 (by simp)
  have a0 := ((a.mono (ok' := okk n0 w.heap.size (w.heap.size + 1)) (fun k hk h => ⟨h, by omega, by omega⟩)).frame (Same.alloc _ (.cells #[.int .i64 t.op, .string t.name, .int .i64 t.n, .int .i64 t.ty.kind, .string t.ty.name, .slice ta tn tc, .slice ma mn mc] 28))).frame (Same.alloc _ (.cells #[.int .i64 0, .string ⟨#[]⟩, .int .i64 0, .int .i64 0, .string ⟨#[]⟩, .slice none 0 0, .slice none 0 0] 28))
  have c0 := ((c.mono (ok' := okk n0 w.heap.size (w.heap.size + 1)) (fun k hk h => ⟨h, by omega, by omega⟩)).frame (Same.alloc _ (.cells #[.int .i64 t.op, .string t.name, .int .i64 t.n, .int .i64 t.ty.kind, .string t.ty.name, .slice ta tn tc, .slice ma mn mc] 28))).frame (Same.alloc _ (.cells #[.int .i64 0, .string ⟨#[]⟩, .int .i64 0, .int .i64 0, .string ⟨#[]⟩, .slice none 0 0, .slice none 0 0] 28))
  have lw : ((w.alloc (.cells #[.int .i64 t.op, .string t.name, .int .i64 t.n, .int .i64 t.ty.kind, .string t.ty.name, .slice ta tn tc, .slice ma mn mc] 28)).alloc (.cells #[.int .i64 0, .string ⟨#[]⟩, .int .i64 0, .int .i64 0, .string ⟨#[]⟩, .slice none 0 0, .slice none 0 0] 28)).heap.size = w.heap.size + 2 := by simp
  go_enter Tryz.func223, Tryz.ntmps223
  go_upto_region 1 with (fail)
  generalize ((w.alloc (.cells #[.int .i64 t.op, .string t.name, .int .i64 t.n, .int .i64 t.ty.kind, .string t.ty.name, .slice ta tn tc, .slice ma mn mc] 28)).alloc (.cells #[.int .i64 0, .string ⟨#[]⟩, .int .i64 0, .int .i64 0, .string ⟨#[]⟩, .slice none 0 0, .slice none 0 0] 28)) = w1 at *
  have y0 : w1.cell? ⟨w.heap.size, 0, none⟩ = some (.int .i64 t.op) := hB0.cell 0
  have y1 : w1.cell? ⟨w.heap.size, 1, none⟩ = some (.string t.name) := hB0.cell 1
  have y2 : w1.cell? ⟨w.heap.size, 2, none⟩ = some (.int .i64 t.n) := hB0.cell 2
  have y3 : w1.cell? ⟨w.heap.size, 3, none⟩ = some (.int .i64 t.ty.kind) := hB0.cell 3
  have y4 : w1.cell? ⟨w.heap.size, 4, none⟩ = some (.string t.ty.name) := hB0.cell 4
  have y5 : w1.cell? ⟨w.heap.size, 5, none⟩ = some (.slice ta tn tc) := hB0.cell 5
  have y6 : w1.cell? ⟨w.heap.size, 6, none⟩ = some (.slice ma mn mc) := hB0.cell 6
  go_cut [1, 2, 35] (fun _ _ v wx => v = .bool (isS σ kBar && bare && headB t) ∧ wx = w1)
  case first =>
    cases hi : isS σ kBar
    case false =>
      go_wp2_with fail
      refine (is_any h0 kBar hi).mono ?_
      rintro e w' ⟨rfl, rfl⟩
      go_wp2_with fail
      go_meet
      case rel => exact ⟨by simp [hi], rfl⟩
    case true =>
      cases hb : bare
      case false =>
        go_wp2_with fail
        refine (is_any h0 kBar hi).mono ?_
        rintro e w' ⟨rfl, rfl⟩
        go_wp2_with fail
        go_meet
        case rel => exact ⟨by simp [hi, hb], rfl⟩
      case true =>
        cases ho : (t.op == 16)
        case false =>
          go_wp2_with fail
          refine (is_any h0 kBar hi).mono ?_
          rintro e w' ⟨rfl, rfl⟩
          go_wp2_with fail
          go_meet
          case rel => exact ⟨by simp [hi, hb, headB, ho], rfl⟩
        case true =>
          obtain ⟨x, y, hxy⟩ : ∃ x y, t.kids = [x, y] := by
            have := hgo (by simpa using ho)
            match hh : t.kids, this with
            | [x, y], _ => exact ⟨x, y, rfl⟩
          have HXY := Lib.hid hxy
          rw [hxy] at c0
          clear hxy
          obtain ⟨g, off, cap, k0, m0, k1, m1, hv, pr⟩ := c0.pair
          cases hv
          have q0 := pr.x0
          have q1 := pr.x1
          have q2 := pr.cap2
          have hxn : x.name.size ≤ 65536 := hnm x (by rw [HXY.out]; simp)
          cases hx : (x.op == 20)
          case false =>
            go_wp2_with fail
            refine (is_any h0 kBar hi).mono ?_
            rintro e w' ⟨rfl, rfl⟩
            go_wp2_with fail
            go_meet
            case rel => exact ⟨by simp [hi, hb, headB, ho, HXY.out, hx], rfl⟩
          case true =>
            cases hn : identB x.name
            all_goals
              go_wp2_with fail
              refine (is_any h0 kBar hi).mono ?_
              rintro e w' ⟨rfl, rfl⟩
              go_wp2_with fail
              refine (ident_t hn hxn _).mono ?_
              rintro e w' ⟨rfl, rfl⟩
              go_wp2_with fail
              go_meet
              case rel => exact ⟨by simp [hi, hb, headB, ho, HXY.out, hx, hn], rfl⟩
  case rest =>
    obtain ⟨rfl, hw⟩ := hcut
    obtain rfl := hw.symm
    have L1 := Lib.hid lw
    have hlo : w.heap.size + 2 ≤ w1.heap.size := by omega
    clear lw
    cases hd : (isS σ kBar && bare && headB t)
    case false =>
      go_upto_block 0 with (fail)
      have bk : Blk (w1.alloc (.cells #[.int .i64 t.op, .string t.name, .int .i64 t.n, .int .i64 t.ty.kind, .string t.ty.name, .slice ta tn tc, .slice ma mn mc] 28)) w1.heap.size 28 (tmCells t (.slice ta tn tc) (.slice ma mn mc)) := Blk.new w1 28 _
      have kk1 : Kept (fun _ => False) w1 (w1.alloc (.cells #[.int .i64 t.op, .string t.name, .int .i64 t.n, .int .i64 t.ty.kind, .string t.ty.name, .slice ta tn tc, .slice ma mn mc] 28)) := (Kept.refl _ _).alloc _
      generalize hW : w1.alloc (.cells #[.int .i64 t.op, .string t.name, .int .i64 t.n, .int .i64 t.ty.kind, .string t.ty.name, .slice ta tn tc, .slice ma mn mc] 28) = w2 at *
      clear hW
      have p2 := h0.grow kk1 id id id
      have hR2 := hR0.kept kk1 id
      have K2 : Kept (· = b) w w2 := K0.trans (kk1.mono (fun _ _ h => h.elim))
      have own2 := own_one (base := w.heap.size + 2) bk (by omega)
      have a2 := (a0.mono (ok' := ok3 n0 w.heap.size (w.heap.size + 1) (.slice (some ⟨w1.heap.size, 0, none⟩) 1 1)) (fun k hk h => ⟨h.1, h.2.1, h.2.2, fun e => by have e' : w1.heap.size = k := Option.some.inj e; omega⟩)).frame (Same.of_kept kk1 (fun _ _ => id))
      have c2 := (c0.mono (ok' := ok3 n0 w.heap.size (w.heap.size + 1) (.slice (some ⟨w1.heap.size, 0, none⟩) 1 1)) (fun k hk h => ⟨h.1, h.2.1, h.2.2, fun e => by have e' : w1.heap.size = k := Option.some.inj e; omega⟩)).frame (Same.of_kept kk1 (fun _ _ => id))
      have mu0 := mu_le s σ
      go_wp2_with fail
      go_loopg [8] (s.size + 2) (fun m v wr => ∃ (E : List E3) (σ' : PS), Hid (elemsS T s m (E.map (·.1)) σ' = elemsS T s (s.size + 2) [t] σ) ∧ mu s σ' < m ∧ mu s σ' ≤ mu s σ ∧ σ'.nest = σ.nest ∧ E ≠ [] ∧ E.length + mu s σ' ≤ s.size + 2 ∧ PW wr b s σ' ∧ Blk wr (w.heap.size + 1) 28 z27 ∧ wr.ownsRow (w.heap.size + 2) 28 7 v E.length (flat E) ∧ EL (ok3 n0 w.heap.size (w.heap.size + 1) v) wr E ∧ Kept (· = b) w wr)
      case atStart => exact ⟨[(t, .slice ta tn tc, .slice ma mn mc)], σ, Lib.hid rfl, by omega, Nat.le_refl _, rfl, by simp, by simp; omega, p2, hR2, own2, fun e he => by rw [List.mem_singleton.1 he]; exact ⟨a2, c2⟩, K2⟩
      case round =>
        clear p2 hR2 K2 own2 a2 c2 bk y0 y1 y2 y3 y4 y5 y6
        obtain ⟨E, σ', hq, hm, hmm, hns, hE, hle, p, hR, hown, hel, K⟩ := hrel
        have HNS := Lib.hid hns
        have hn1 : 1 ≤ σ'.nest := by omega
        clear hns
        obtain ⟨q, rfl⟩ : ∃ q, gk = q + 1 := ⟨gk - 1, by omega⟩
        have hsl := tml_of_row hE hown (hel.mono (ok' := fun k => n0 ≤ k) (fun k _ h => h.1)) (fun g hg => by have := (hown.lt g hg).1; omega)
        obtain ⟨va, vn, vc, hv⟩ := hsl.slice
        cases hv
        cases hc : isS σ' kComma
        case false =>
          have hel' : Hid (elemsS T s (s.size + 2) [t] σ = .ok (E.map (·.1), σ')) := Lib.hid (hq.out.symm.trans (by unfold elemsS; simp only [hc]))
          go_wp2_with fail
          refine (eat_no p kComma hc).mono ?_
          rintro e w3 ⟨rfl, rfl⟩
          go_wp2_with fail
          cases hs : shutS s σ' kRcu with
          | error r =>
            have hres : Hid (elementsS T s t bare σ = .error r) := Lib.hid (by unfold elementsS; simp only [hd, hel'.out, hs])
            refine (shut_err p kRcu hs).mono ?_
            rintro e w7 ⟨rfl, k7⟩
            go_wp2_with fail
            exact ⟨rfl, RPost.err hres.out ⟨rfl, K.trans k7⟩⟩
          | ok σ3 =>
            have hres : Hid (elementsS T s t bare σ = .ok (nd 28 (E.map (·.1)), σ3)) := Lib.hid (by unfold elementsS; simp only [hd, hel'.out, hs])
            refine (shut_ok p hn1 kRcu hs).mono ?_
            rintro e w7 ⟨rfl, p7, k7⟩
            have hR7 := hR.kept k7 (by show ¬ w.heap.size + 1 = b; omega)
            have own7 := own_kept hown k7 (fun g hg e => by have := (hown.lt g hg).1; have e' : g = b := e; omega)
            have el7 := hel.frame (Same.of_kept k7 (fun k h e => by have := h.1; have e' : k = b := e; omega))
            have K7 := K.trans k7
            have row7 := tml_of_row (ok := okk n0 w.heap.size (w.heap.size + 1)) hE own7 (el7.mono (fun k _ h => ⟨h.1, h.2.1, h.2.2.1⟩)) (fun g hg => by have := (hown.lt g hg).1; exact ⟨by omega, by omega, by omega⟩)
            have g0 : w7.cell? ⟨w.heap.size + 1, 0, none⟩ = some (.int .i64 0) := hR7.cell 0
            have g1 : w7.cell? ⟨w.heap.size + 1, 1, none⟩ = some (.string ⟨#[]⟩) := hR7.cell 1
            have g2 : w7.cell? ⟨w.heap.size + 1, 2, none⟩ = some (.int .i64 0) := hR7.cell 2
            have g3 : w7.cell? ⟨w.heap.size + 1, 3, none⟩ = some (.int .i64 0) := hR7.cell 3
            have g4 : w7.cell? ⟨w.heap.size + 1, 4, none⟩ = some (.string ⟨#[]⟩) := hR7.cell 4
            have g5 : w7.cell? ⟨w.heap.size + 1, 5, none⟩ = some (.slice none 0 0) := hR7.cell 5
            have g6 : w7.cell? ⟨w.heap.size + 1, 6, none⟩ = some (.slice none 0 0) := hR7.cell 6
            have f0 : w7.frozen? ⟨w.heap.size + 1, 0, none⟩ = false := hR7.frozen 0
            have f1 : w7.frozen? ⟨w.heap.size + 1, 1, none⟩ = false := hR7.frozen 1
            have f2 : w7.frozen? ⟨w.heap.size + 1, 2, none⟩ = false := hR7.frozen 2
            have f3 : w7.frozen? ⟨w.heap.size + 1, 3, none⟩ = false := hR7.frozen 3
            have f4 : w7.frozen? ⟨w.heap.size + 1, 4, none⟩ = false := hR7.frozen 4
            have f5 : w7.frozen? ⟨w.heap.size + 1, 5, none⟩ = false := hR7.frozen 5
            have f6 : w7.frozen? ⟨w.heap.size + 1, 6, none⟩ = false := hR7.frozen 6
            go_wp2_with fail
            refine ret_tm Tryz.results223 (t := nd 28 (E.map (·.1))) hres.out rfl rfl (r7 hR7 rfl) .nil0 ?_ (p7w p7 (by omega) (by omega)) (k7w K7 (Or.inr (by omega)))
            exact (row7.frame (same7k (Or.inr rfl))).mono (fun k _ h => h.1)
        case true =>
          have hne := isS_ne hc
          go_wp2_with fail
          cases ha : advS s σ' with
          | error r =>
            have hres : Hid (elementsS T s t bare σ = .error r) := Lib.hid (by unfold elementsS; simp only [hd]; rw [← hq.out]; unfold elemsS; simp only [hc, ha])
            refine (eat_bad p kComma hc ha).mono ?_
            rintro e w4 ⟨rfl, k4⟩
            go_wp2_with fail
            exact ⟨rfl, RPost.err hres.out ⟨rfl, K.trans k4⟩⟩
          | ok σ1 =>
            have i1 := inv_adv p.le hne ha
            refine (eat_yes p kComma hc ha).mono ?_
            rintro e w4 ⟨rfl, p4, k4⟩
            have hR4 := hR.kept k4 (by show ¬ w.heap.size + 1 = b; omega)
            have own4 := own_kept hown k4 (fun g hg e => by have := (hown.lt g hg).1; have e' : g = b := e; omega)
            have el4 := hel.frame (Same.of_kept k4 (fun k h e => by have := h.1; have e' : k = b := e; omega))
            have K4 := K.trans k4
            clear k4 p hR hown hel K
            go_wp2_with fail
            refine (hT 1 1 rfl σ1 _ (by omega) (by omega) p4 (by omega)).mono ?_
            rintro e w5 hr
            cases htt : T 1 σ1 with
            | error r =>
              have hres : Hid (elementsS T s t bare σ = .error r) := Lib.hid (by unfold elementsS; simp only [hd]; rw [← hq.out]; unfold elemsS; simp only [hc, ha, htt])
              obtain ⟨rfl, k5⟩ := hr.getErr htt
              clear hr
              go_wp2_with fail
              exact ⟨rfl, RPost.err hres.out ⟨rfl, K4.trans k5⟩⟩
            | ok q5 =>
              obtain ⟨u, σ2⟩ := q5
              have hres : Hid (elemsS T s q (E.map (·.1) ++ [u]) σ2 = elemsS T s (s.size + 2) [t] σ) := Lib.hid (Eq.trans (by conv => rhs; unfold elemsS; simp only [hc, ha, htt]) hq.out)
              obtain ⟨v, rfl, ⟨tk5, kk5, rfl, au, cu⟩, p5, k5⟩ := hr.getOk htt
              clear hr
              have i2 := (hI _ _ _ _ p4.le htt).1
              unfold Inv at i2
              obtain ⟨ta5, tn5, tc5, rfl⟩ := au.slice
              obtain ⟨ma5, mn5, mc5, rfl⟩ := cu.slice
              unfold tmVal
              have hR5 := hR4.kept k5 (by show ¬ w.heap.size + 1 = b; omega)
              have own5 := own_kept own4 k5 (fun g hg e => by have := (own4.lt g hg).1; have e' : g = b := e; omega)
              have el5 := el4.frame (Same.of_kept k5 (fun k h e => by have := h.1; have e' : k = b := e; omega))
              have K5 := K4.trans k5
              have z4 := K4.size
              have z5 := k5.size
              have zR := hR4.lt
              have au5 := au.mono (ok' := ok3 n0 w.heap.size (w.heap.size + 1) (.slice va vn vc)) (fun k _ h => ⟨by omega, by omega, by omega, fun e => by have := (own4.lt k e).2; omega⟩)
              have cu5 := cu.mono (ok' := ok3 n0 w.heap.size (w.heap.size + 1) (.slice va vn vc)) (fun k _ h => ⟨by omega, by omega, by omega, fun e => by have := (own4.lt k e).2; omega⟩)
              have el5' := el5.snoc (e := (u, .slice ta5 tn5 tc5, .slice ma5 mn5 mc5)) au5 cu5
              have hsz : s.size ≤ 65536 := p5.src
              have HN := Lib.hid HNS.out
              obtain ⟨i27, hi27, hz27, hs27, hb27⟩ : ∃ i, Tryz.prog.info? 28 = some i ∧ i.zero = some (.agg #[.int .i64 0, .string ⟨#[]⟩, .int .i64 0, .int .i64 0, .string ⟨#[]⟩, .slice none 0 0, .slice none 0 0]) ∧ i.size = 7 ∧ i.bytes = 104 := by
                have := info27
                cases hh : Tryz.prog.info? 28 with
                | none => rw [hh] at this; cases this
                | some i => rw [hh] at this; simp only [Option.map_some, Option.some.injEq, Prod.mk.injEq] at this; exact ⟨i, rfl, this.1, this.2.1, this.2.2⟩
              have HI := Lib.hid hi27
              have HZ := Lib.hid hz27
              have HS := Lib.hid hs27
              have HBY := Lib.hid hb27
              clear hi27 hz27 hs27 hb27
              have hnews : Hid (∀ j x, (tmCells u (.slice ta5 tn5 tc5) (.slice ma5 mn5 mc5))[j]? = some x → ((w5.alloc (.cells #[.int .i64 u.op, .string u.name, .int .i64 u.n, .int .i64 u.ty.kind, .string u.ty.name, .slice ta5 tn5 tc5, .slice ma5 mn5 mc5] 28)).alloc (.cells #[.int .i64 u.op, .string u.name, .int .i64 u.n, .int .i64 u.ty.kind, .string u.ty.name, .slice ta5 tn5 tc5, .slice ma5 mn5 mc5] 28)).cell? ((⟨w5.heap.size + 1, 0, none⟩ : Addr).add j) = some x) := Lib.hid (fun j x hx => by
                have hb : Blk ((w5.alloc (.cells #[.int .i64 u.op, .string u.name, .int .i64 u.n, .int .i64 u.ty.kind, .string u.ty.name, .slice ta5 tn5 tc5, .slice ma5 mn5 mc5] 28)).alloc (.cells #[.int .i64 u.op, .string u.name, .int .i64 u.n, .int .i64 u.ty.kind, .string u.ty.name, .slice ta5 tn5 tc5, .slice ma5 mn5 mc5] 28)) (w5.heap.size + 1) 28 (tmCells u (.slice ta5 tn5 tc5) (.slice ma5 mn5 mc5)) := Blk.new' 28 _ (by simp)
                have := hb.cell j
                rw [← hx, ← this]; cases j <;> simp [Addr.add])
              go_wp2_with (at_builtin; refine wpList_append_own_at _ rfl (.tmp 60) (.tmp 62) 22 rfl (w.heap.size + 2) 28 i27 _ 7 104 Tryz.underlying22 HI.out HZ.out HS.out HBY.out rfl (by decide) _ _ _ rfl ((own5.alloc _).alloc _) ⟨w5.heap.size + 1, 0, none⟩ 1 1 (tmCells u (.slice ta5 tn5 tc5) (.slice ma5 mn5 mc5)) rfl rfl hnews.out ?_ ?_ ?_ ?_ ?_)
              · intro x hx
                unfold tmCells at hx
                simp only [List.mem_cons, List.not_mem_nil, or_false] at hx
                rcases hx with rfl | rfl | rfl | rfl | rfl | rfl | rfl <;> rfl
              · unfold maxLen; omega
              · omega
              · simp; omega
              · intro v' w6 own6 gr6 _ hat
                have kA := kept_grown gr6
                have kB : Kept (fun _ => False) w5 ((w5.alloc (.cells #[.int .i64 u.op, .string u.name, .int .i64 u.n, .int .i64 u.ty.kind, .string u.ty.name, .slice ta5 tn5 tc5, .slice ma5 mn5 mc5] 28)).alloc (.cells #[.int .i64 u.op, .string u.name, .int .i64 u.n, .int .i64 u.ty.kind, .string u.ty.name, .slice ta5 tn5 tc5, .slice ma5 mn5 mc5] 28)) := ((Kept.refl _ _).alloc _).alloc _
                have p6 := (p5.grow kB id id id).grow kA (fun e => by have := (own5.lt _ e).1; omega) (fun e => by have := (own5.lt _ e).1; omega) (fun e => by have := (own5.lt _ e).1; omega)
                have hR6 := (hR5.kept kB id).kept kA (fun e => by have := (own5.lt _ e).1; omega)
                have K6 := (K5.trans (kB.mono (fun _ _ h => h.elim))).via kA (fun x hx e => by have := (own5.lt x e).1; omega)
                have elA := el5'.frame (Same.of_kept kB (fun _ _ => id))
                have elB := elA.mono (ok' := fun k => ok3 n0 w.heap.size (w.heap.size + 1) (.slice va vn vc) k ∧ ok3 n0 w.heap.size (w.heap.size + 1) v' k) (fun k hk h => ⟨h, h.1, h.2.1, h.2.2.1, fun e => by
                  rcases hat with hat | hat
                  · exact h.2.2.2 (hat ▸ e)
                  · rw [hat] at e; have e1 := Option.some.inj e; simp at e1 hk; omega⟩)
                have elC := (elB.frame (Same.of_kept kA (fun k h e => h.1.2.2.2 e))).mono (ok' := ok3 n0 w.heap.size (w.heap.size + 1) v') (fun k _ h => h.2)
                have own7 : w6.ownsRow (w.heap.size + 2) 28 7 v' (E ++ [((u, Value.slice ta5 tn5 tc5, Value.slice ma5 mn5 mc5) : E3)]).length (flat (E ++ [((u, Value.slice ta5 tn5 tc5, Value.slice ma5 mn5 mc5) : E3)])) := by
                  rw [flat_snoc, List.length_append]; exact own6
                clear kA kB gr6 hat elA elB own6
                go_wp2_with fail
                go_roundg q
                case measure => omega
                case rel => exact ⟨E ++ [(u, .slice ta5 tn5 tc5, .slice ma5 mn5 mc5)], σ2, Lib.hid (by rw [List.map_append]; exact hres.out), by omega, by omega, by have := HNS.out; omega, by simp, by simp; omega, p6, hR6, own7, elC, K6⟩
    case true =>
      clear y0 y1 y2 y3 y4 y5 y6
      have hi : isS σ kBar = true := by cases hh : isS σ kBar; simp [hh] at hd; rfl
      have hne := isS_ne hi
      go_wp2_with fail
      cases ha : advS s σ with
      | error r =>
        have hres : Hid (elementsS T s t bare σ = .error r) := Lib.hid (by unfold elementsS; simp only [hd, ha])
        refine (adv_err h0 ha).mono ?_
        rintro e w4 ⟨rfl, k4⟩
        go_wp2_with fail
        exact ⟨rfl, RPost.err hres.out ⟨rfl, K0.trans k4⟩⟩
      | ok σ1 =>
        have i1 := inv_adv h0.le hne ha
        refine (adv_ok h0 ha).mono ?_
        rintro e w4 ⟨rfl, p4, k4⟩
        have hB4 := hB0.kept k4 (by show ¬ w.heap.size = b; omega)
        have hR4 := hR0.kept k4 (by show ¬ w.heap.size + 1 = b; omega)
        have c4 := c0.frame (Same.of_kept k4 (fun k h e => by have := h.1; omega))
        have K4 := K0.trans k4
        have z4 := k4.size
        have hb4 := p4.lt
        clear k4 
        go_wp2_with fail
        refine (hT 1 1 rfl σ1 _ (by omega) (by omega) p4 (by omega)).mono ?_
        rintro e w5 hr
        cases htt : T 1 σ1 with
        | error r =>
          have hres : Hid (elementsS T s t bare σ = .error r) := Lib.hid (by unfold elementsS; simp only [hd, ha, htt])
          obtain ⟨rfl, k5⟩ := hr.getErr htt
          clear hr
          go_wp2_with fail
          exact ⟨rfl, RPost.err hres.out ⟨rfl, K4.trans k5⟩⟩
        | ok q5 =>
          obtain ⟨u, σ2⟩ := q5
          obtain ⟨v, rfl, ⟨tk5, kk5, rfl, au, cu⟩, p5, k5⟩ := hr.getOk htt
          clear hr
          have i2 := (hI _ _ _ _ p4.le htt).1
          unfold Inv at i2
          obtain ⟨ta5, tn5, tc5, rfl⟩ := au.slice
          obtain ⟨ma5, mn5, mc5, rfl⟩ := cu.slice
          unfold tmVal
          have hB5 := hB4.kept k5 (by show ¬ w.heap.size = b; omega)
          have hR5 := hR4.kept k5 (by show ¬ w.heap.size + 1 = b; omega)
          have c5 := c4.frame (Same.of_kept k5 (fun k h e => by have := h.1; omega))
          have K5 := K4.trans k5
          have z5 := k5.size
          have lB5 := hB5.lt
          have hh : headB t = true := by cases hh : headB t; simp [hh] at hd; rfl
          unfold headB at hh
          rw [Bool.and_eq_true] at hh
          obtain ⟨x, y, hxy⟩ : ∃ x y, t.kids = [x, y] := by
            have := hgo (by simpa using hh.1)
            match hh : t.kids, this with
            | [x, y], _ => exact ⟨x, y, rfl⟩
          have HXY := Lib.hid hxy
          clear hh
          rw [hxy] at c5
          clear hxy
          obtain ⟨g, off, cap, k0, m0, k1, m1, hv, pr0⟩ := c5.pair
          cases hv
          obtain ⟨xa, xn, xc, rfl⟩ := pr0.ty.slice
          obtain ⟨ya, yn, yc, rfl⟩ := pr0.tm.slice
          go_wp2_with fail
          have hU : Blk (w5.alloc (.cells #[.int .i64 u.op, .string u.name, .int .i64 u.n, .int .i64 u.ty.kind, .string u.ty.name, .slice ta5 tn5 tc5, .slice ma5 mn5 mc5] 28)) w5.heap.size 28 (tmCells u (.slice ta5 tn5 tc5) (.slice ma5 mn5 mc5)) := Blk.new w5 28 _
          have p6 := p5.alloc (.cells #[.int .i64 u.op, .string u.name, .int .i64 u.n, .int .i64 u.ty.kind, .string u.ty.name, .slice ta5 tn5 tc5, .slice ma5 mn5 mc5] 28)
          have k6 : Kept (fun _ => False) w5 (w5.alloc (.cells #[.int .i64 u.op, .string u.name, .int .i64 u.n, .int .i64 u.ty.kind, .string u.ty.name, .slice ta5 tn5 tc5, .slice ma5 mn5 mc5] 28)) := (Kept.refl _ _).alloc _
          generalize hW : w5.alloc (.cells #[.int .i64 u.op, .string u.name, .int .i64 u.n, .int .i64 u.ty.kind, .string u.ty.name, .slice ta5 tn5 tc5, .slice ma5 mn5 mc5] 28) = w6 at *
          clear hW
          cases hs : shutS s σ2 kRcu with
          | error r =>
            have hres : Hid (elementsS T s t bare σ = .error r) := Lib.hid (by unfold elementsS; simp only [hd, ha, htt, hs])
            refine (shut_err p6 kRcu hs).mono ?_
            rintro e w7 ⟨rfl, k7⟩
            go_wp2_with fail
            exact ⟨rfl, RPost.err hres.out ⟨rfl, (K5.via k6 (fun _ _ h => h.elim)).trans k7⟩⟩
          | ok σ3 =>
            have hres : Hid (elementsS T s t bare σ = .ok (.mk 55 x.name 0 ty0 [y, u], σ3)) := Lib.hid (by unfold elementsS; simp only [hd, ha, htt, hs, HXY.out]; rfl)
            refine (shut_ok p6 (by omega) kRcu hs).mono ?_
            rintro e w7 ⟨rfl, p7, k7⟩
            have z6 := k6.size
            have z7 := k7.size
            have k67 : Kept (· = b) w5 w7 := (k6.mono (fun _ _ h => h.elim)).trans k7
            have hB7 := hB5.kept k67 (by show ¬ w.heap.size = b; omega)
            have hR7 := hR5.kept k67 (by show ¬ w.heap.size + 1 = b; omega)
            have hU7 := hU.kept k7 (by show ¬ w5.heap.size = b; omega)
            have c7 := c5.frame (Same.of_kept k67 (fun k h e => by have := h.1; omega))
            have K7 := K5.trans k67
            have au7 := (au.mono (ok' := okk n0 w.heap.size (w.heap.size + 1)) (fun k _ h => ⟨by omega, by omega, by omega⟩)).frame (Same.of_kept k67 (fun k h e => by have := h.1; omega))
            have cu7 := (cu.mono (ok' := okk n0 w.heap.size (w.heap.size + 1)) (fun k _ h => ⟨by omega, by omega, by omega⟩)).frame (Same.of_kept k67 (fun k h e => by have := h.1; omega))
            have HK := Lib.hid (c5.pair)
            have S7 : Same (okk n0 w.heap.size (w.heap.size + 1)) w5 w7 := Same.of_kept k67 (fun k h e => by have := h.1; omega)
            have ea := pr0.ty.frame S7
            have ec := pr0.tm.frame S7
            have cg := S7 g pr0.okg (cell_lt pr0.x0)
            have q2 := pr0.cap2
            have d1 : w7.cell? ⟨g, off + 1, none⟩ = some (.string x.name) := (World.cell?_of_block cg).trans pr0.x1
            have e0 : w7.cell? ⟨g, off + 7, none⟩ = some (.int .i64 y.op) := (World.cell?_of_block cg).trans pr0.y0
            have e1 : w7.cell? ⟨g, off + 7 + 1, none⟩ = some (.string y.name) := (World.cell?_of_block cg).trans pr0.y1
            have e2 : w7.cell? ⟨g, off + 7 + 2, none⟩ = some (.int .i64 y.n) := (World.cell?_of_block cg).trans pr0.y2
            have e3 : w7.cell? ⟨g, off + 7 + 3, none⟩ = some (.int .i64 y.ty.kind) := (World.cell?_of_block cg).trans pr0.y3
            have e4 : w7.cell? ⟨g, off + 7 + 4, none⟩ = some (.string y.ty.name) := (World.cell?_of_block cg).trans pr0.y4
            have e5 : w7.cell? ⟨g, off + 7 + 5, none⟩ = some (.slice xa xn xc) := (World.cell?_of_block cg).trans pr0.y5
            have e6 : w7.cell? ⟨g, off + 7 + 6, none⟩ = some (.slice ya yn yc) := (World.cell?_of_block cg).trans pr0.y6
            have y6 : w7.cell? ⟨w.heap.size, 6, none⟩ = some (.slice (some ⟨g, off, none⟩) 2 mc) := hB7.cell 6
            have v0 : w7.cell? ⟨w5.heap.size, 0, none⟩ = some (.int .i64 u.op) := hU7.cell 0
            have v1 : w7.cell? ⟨w5.heap.size, 1, none⟩ = some (.string u.name) := hU7.cell 1
            have v2 : w7.cell? ⟨w5.heap.size, 2, none⟩ = some (.int .i64 u.n) := hU7.cell 2
            have v3 : w7.cell? ⟨w5.heap.size, 3, none⟩ = some (.int .i64 u.ty.kind) := hU7.cell 3
            have v4 : w7.cell? ⟨w5.heap.size, 4, none⟩ = some (.string u.ty.name) := hU7.cell 4
            have v5 : w7.cell? ⟨w5.heap.size, 5, none⟩ = some (.slice ta5 tn5 tc5) := hU7.cell 5
            have v6 : w7.cell? ⟨w5.heap.size, 6, none⟩ = some (.slice ma5 mn5 mc5) := hU7.cell 6
            have g0 : w7.cell? ⟨w.heap.size + 1, 0, none⟩ = some (.int .i64 0) := hR7.cell 0
            have g1 : w7.cell? ⟨w.heap.size + 1, 1, none⟩ = some (.string ⟨#[]⟩) := hR7.cell 1
            have g2 : w7.cell? ⟨w.heap.size + 1, 2, none⟩ = some (.int .i64 0) := hR7.cell 2
            have g3 : w7.cell? ⟨w.heap.size + 1, 3, none⟩ = some (.int .i64 0) := hR7.cell 3
            have g4 : w7.cell? ⟨w.heap.size + 1, 4, none⟩ = some (.string ⟨#[]⟩) := hR7.cell 4
            have g5 : w7.cell? ⟨w.heap.size + 1, 5, none⟩ = some (.slice none 0 0) := hR7.cell 5
            have g6 : w7.cell? ⟨w.heap.size + 1, 6, none⟩ = some (.slice none 0 0) := hR7.cell 6
            have f0 : w7.frozen? ⟨w.heap.size + 1, 0, none⟩ = false := hR7.frozen 0
            have f1 : w7.frozen? ⟨w.heap.size + 1, 1, none⟩ = false := hR7.frozen 1
            have f2 : w7.frozen? ⟨w.heap.size + 1, 2, none⟩ = false := hR7.frozen 2
            have f3 : w7.frozen? ⟨w.heap.size + 1, 3, none⟩ = false := hR7.frozen 3
            have f4 : w7.frozen? ⟨w.heap.size + 1, 4, none⟩ = false := hR7.frozen 4
            have f5 : w7.frozen? ⟨w.heap.size + 1, 5, none⟩ = false := hR7.frozen 5
            have f6 : w7.frozen? ⟨w.heap.size + 1, 6, none⟩ = false := hR7.frozen 6
            have lR := hR7.lt
            have lB := hB7.lt
            have lU := hU7.lt
            have lg := cell_lt d1
            clear pr0 cg S7 HK
            go_wp2_with fail
            go_region
            go_wp2_with fail
            refine ret_tm Tryz.results223 (t := .mk 55 x.name 0 ty0 [y, u]) (tk := .slice none 0 0) (kk := .slice (some ⟨w7.heap.size, 0, none⟩) 2 2) (R := w.heap.size + 1) hres.out rfl rfl ((r7 hR7 rfl).alloc _).drew .nil0 ?_ (((p7w p7 (by omega) (by omega)).alloc _).drew) (((k7w K7 (Or.inr (by omega))).alloc _).drew)
            have tw : ∀ W : World, Blk W w7.heap.size 28 (tmCells y (.slice xa xn xc) (.slice ya yn yc) ++ tmCells u (.slice ta5 tn5 tc5) (.slice ma5 mn5 mc5)) → Same (okk n0 w.heap.size (w.heap.size + 1)) w7 W → TmL (fun k => n0 ≤ k) W [y, u] (.slice (some ⟨w7.heap.size, 0, none⟩) 2 2) := fun W hb hsm => (TmL.two (ok := okk n0 w.heap.size (w.heap.size + 1)) (ty := 28) ⟨by omega, by omega, by omega⟩ (Nat.le_refl _) hb (ea.frame hsm) (ec.frame hsm) (au7.frame hsm) (cu7.frame hsm)).mono (fun k _ h => h.1)
            exact tw _ (Blk.new' 28 _ (by simp)).drew (Same.of_kept (S := (· = w.heap.size + 1)) (((k7w (Kept.refl (fun x => x = w.heap.size + 1) w7) (Or.inl rfl)).alloc _).drew) (fun k h e => h.2.2 e))
inductive SmTy (N : Nat) : Ty → Prop
  | mk {k : Int} {n : ByteArray} {l : List Ty} (hn : n.size ≤ N) (hl : ∀ t, t ∈ l → SmTy N t) : SmTy N (.mk k n l)
inductive SmTm (N : Nat) : Tm → Prop
  | mk {o : Int} {n : ByteArray} {i : Int} {t : Ty} {l : List Tm} (hn : n.size ≤ N) (ht : SmTy N t) (hl : ∀ k, k ∈ l → SmTm N k) : SmTm N (.mk o n i t l)
theorem SmTm.name {N : Nat} {t : Tm} (h : SmTm N t) : t.name.size ≤ N := by cases h; assumption
theorem SmTm.kids {N : Nat} {t : Tm} (h : SmTm N t) : ∀ k, k ∈ t.kids → SmTm N k := by cases h; assumption
theorem SmTm.ty {N : Nat} {t : Tm} (h : SmTm N t) : SmTy N t.ty := by cases h; assumption
theorem SmTy.name {N : Nat} {t : Ty} (h : SmTy N t) : t.name.size ≤ N := by cases h; assumption
theorem SmTy.kids {N : Nat} {t : Ty} (h : SmTy N t) : ∀ k, k ∈ t.kids → SmTy N k := by cases h; assumption
theorem sm_ty0 (N : Nat) : SmTy N ty0 := .mk (Nat.zero_le _) (fun t h => by cases h)
theorem sm_nd {N : Nat} {op : Int} {l : List Tm} (hl : ∀ k, k ∈ l → SmTm N k) : SmTm N (nd op l) := .mk (Nat.zero_le _) (sm_ty0 N) hl
theorem all1 {α : Type} {P : α → Prop} {x : α} (h : P x) : ∀ k, k ∈ [x] → P k := by intro k hk; cases List.mem_singleton.1 hk; exact h
theorem all2 {α : Type} {P : α → Prop} {x y : α} (h : P x) (h' : P y) : ∀ k, k ∈ [x, y] → P k := by
  intro k hk; simp only [List.mem_cons, List.not_mem_nil, or_false] at hk; rcases hk with rfl | rfl <;> assumption
def St (N : Nat) (s : ByteArray) (σ : PS) : Prop := σ.p ≤ s.size ∧ σ.tx.size ≤ N
def TSm (N : Nat) (s : ByteArray) (T : TF) : Prop := ∀ n σ t σ', St N s σ → T n σ = .ok (t, σ') → SmTm N t ∧ St N s σ'
theorem st_adv {N : Nat} {s : ByteArray} {σ σ' : PS} (hN : s.size ≤ N) (h : St N s σ) (ha : advS s σ = .ok σ') : St N s σ' := by
  unfold advS at ha
  cases ht : tokAt s (skip s σ.p) with
  | none => rw [ht] at ha; cases ha
  | some t => rw [ht] at ha; cases ha; have := tokAt_le (skip_le s σ.p h.1) ht; exact ⟨this.1, Nat.le_trans this.2 hN⟩
theorem st_eat {N : Nat} {s : ByteArray} {σ σ' : PS} {t : ByteArray} {v : Bool} (hN : s.size ≤ N) (h : St N s σ) (ha : eatS s σ t = .ok (v, σ')) : St N s σ' := by
  unfold eatS at ha
  split at ha
  · cases h1 : advS s σ with
    | ok σ1 => rw [h1] at ha; cases ha; exact st_adv hN h h1
    | error r => rw [h1] at ha; cases ha
  · cases ha; exact h
theorem st_want {N : Nat} {s : ByteArray} {σ σ' : PS} {t : ByteArray} (hN : s.size ≤ N) (h : St N s σ) (ha : wantS s σ t = .ok σ') : St N s σ' := by
  unfold wantS at ha
  cases he : eatS s σ t with
  | error r => rw [he] at ha; cases ha
  | ok q =>
    obtain ⟨v, σ1⟩ := q
    rw [he] at ha
    cases v
    · cases ha
    · cases ha; exact st_eat hN h he
theorem st_shut {N : Nat} {s : ByteArray} {σ σ' : PS} {t : ByteArray} (hN : s.size ≤ N) (h : St N s σ) (ha : shutS s σ t = .ok σ') : St N s σ' := by
  unfold shutS at ha
  cases he : wantS s σ t with
  | error r => rw [he] at ha; cases ha
  | ok σ1 => rw [he] at ha; cases ha; exact (st_want hN h he : St N s σ1)
theorem st_open {N : Nat} {s : ByteArray} {σ σ' : PS} {t : ByteArray} (hN : s.size ≤ N) (h : St N s σ) (ha : openS s σ t = .ok σ') : St N s σ' := by
  unfold openS at ha
  repeat' split at ha
  all_goals first | (cases ha; done) | exact st_adv hN (σ := { σ with nest := σ.nest + 1 }) h ha
theorem st_name {N : Nat} {s : ByteArray} {σ σ' : PS} {x : ByteArray} (hN : s.size ≤ N) (h : St N s σ) (ha : nameS s σ = .ok (x, σ')) : St N s σ' ∧ x.size ≤ N := by
  unfold nameS at ha
  split at ha
  · cases h1 : advS s σ with
    | error r => rw [h1] at ha; cases ha
    | ok σ1 => rw [h1] at ha; cases ha; exact ⟨st_adv hN h h1, h.2⟩
  · cases ha
theorem sm_typed {N : Nat} {s : ByteArray} (hN : s.size ≤ N) (f : Nat) : ∀ {σ σ' : PS} {t : Ty}, St N s σ → typedS f s σ = .ok (t, σ') → SmTy N t ∧ St N s σ' := by
  induction f with
  | zero => intro σ σ' t _ h; cases h
  | succ f ih =>
    intro σ σ' t hs h
    unfold typedS at h
    repeat' split at h
    all_goals try (cases h; done)
    · rename_i _ _ σ1 h1; cases h; exact ⟨.mk hs.2 (fun t h => by cases h), st_adv hN hs h1⟩
    · rename_i _ _ σ1 h1; cases h; exact ⟨.mk (Nat.zero_le _) (fun t h => by cases h), st_adv hN hs h1⟩
    · rename_i _ _ σ1 h1 _ σ2 h2 _ t3 σ3 h3 _ σ4 h4
      cases h
      have a := ih (st_open hN (st_adv hN hs h1) h2) h3
      exact ⟨.mk (Nat.zero_le _) (all1 a.1), st_shut hN a.2 h4⟩
    · rename_i _ _ σ1 h1 _ σ2 h2 _ t3 σ3 h3 _ σ4 h4 _ t5 σ5 h5 _ σ6 h6
      cases h
      have a := ih (st_open hN (st_adv hN hs h1) h2) h3
      have c := ih (st_want hN a.2 h4) h5
      exact ⟨.mk (Nat.zero_le _) (all2 a.1 c.1), st_shut hN c.2 h6⟩
theorem sm_inside {N : Nat} {T : TF} {s o c : ByteArray} {σ σ' : PS} {t : Tm} (hN : s.size ≤ N) (hT : TSm N s T) (hs : St N s σ) (h : insideS T s o c σ = .ok (t, σ')) : SmTm N t ∧ St N s σ' := by
  unfold insideS at h
  repeat' split at h
  all_goals try (cases h; done)
  rename_i σ1 h1 _ t2 σ2 h2 _ σ3 h3
  cases h
  have a := hT _ _ _ _ (st_open hN hs h1) h2
  exact ⟨a.1, st_shut hN a.2 h3⟩
theorem sm_bound {N : Nat} {T : TF} {s : ByteArray} {op : Int} {σ σ' : PS} {t : Tm} (hN : s.size ≤ N) (hT : TSm N s T) (hs : St N s σ) (h : boundS T s op σ = .ok (t, σ')) : SmTm N t ∧ St N s σ' := by
  unfold boundS at h
  repeat' split at h
  all_goals try (cases h; done)
  rename_i x σ1 h1 _ σ2 h2 _ t3 σ3 h3 _ σ4 h4 _ t5 σ5 h5
  cases h
  have a1 := st_name hN hs h1
  have a3 := hT _ _ _ _ (st_want hN a1.1 h2) h3
  have a5 := hT _ _ _ _ (st_want hN a3.2 h4) h5
  exact ⟨.mk a1.2 (sm_ty0 N) (all2 a3.1 a5.1), a5.2⟩
theorem sm_leaf {N : Nat} {s : ByteArray} {σ σ' : PS} {t t' : Tm} (hN : s.size ≤ N) (ht : SmTm N t) (hs : St N s σ) (h : leafS s t σ = .ok (t', σ')) : SmTm N t' ∧ St N s σ' := by
  unfold leafS at h
  split at h
  · cases h
  · rename_i h1; cases h; exact ⟨ht, st_adv hN hs h1⟩
theorem sm_binder {N : Nat} {T : TF} {s : ByteArray} {op : Int} {σ σ' : PS} {t : Tm} (hN : s.size ≤ N) (hT : TSm N s T) (hs : St N s σ) (h : binderS T s op σ = .ok (t, σ')) : SmTm N t ∧ St N s σ' := by
  unfold binderS at h
  split at h
  · cases h
  · rename_i σ1 h1; exact sm_bound hN hT (st_adv hN hs h1) h
theorem sm_nil {N : Nat} {op : Int} : SmTm N (nd op []) := sm_nd (fun k h => by cases h)
theorem sm_worded {N : Nat} {T : TF} {s : ByteArray} {σ σ' : PS} {t : Tm} (hN : s.size ≤ N) (hT : TSm N s T) (hs : St N s σ) (h : wordedS T s σ = .ok (t, σ')) : SmTm N t ∧ St N s σ' := by
  unfold wordedS at h
  repeat' split at h
  all_goals try (cases h; done)
  · exact sm_leaf hN (.mk hs.2 (sm_ty0 N) (fun k h => by cases h)) hs h
  · rename_i _ σ1 h1 _ t2 σ2 h2
    cases h
    have a := sm_inside hN hT (st_adv hN hs h1) h2
    exact ⟨sm_nd (all1 a.1), a.2⟩
  · exact sm_leaf hN sm_nil hs h
  · exact sm_leaf hN sm_nil hs h
  · exact sm_binder hN hT hs h
  · exact sm_binder hN hT hs h
  · exact sm_binder hN hT hs h
theorem sm_elems {N : Nat} {T : TF} {s : ByteArray} (hN : s.size ≤ N) (hT : TSm N s T) (g : Nat) : ∀ {l l' : List Tm} {σ σ' : PS}, (∀ k, k ∈ l → SmTm N k) → St N s σ → elemsS T s g l σ = .ok (l', σ') → (∀ k, k ∈ l' → SmTm N k) ∧ St N s σ' := by
  induction g with
  | zero => intro l l' σ σ' _ _ h; cases h
  | succ g ih =>
    intro l l' σ σ' hl hs h
    unfold elemsS at h
    repeat' split at h
    all_goals try (cases h; done)
    · cases h; exact ⟨hl, hs⟩
    · rename_i hi _ σ1 h1 _ t2 σ2 h2
      have a := hT _ _ _ _ (st_adv hN hs h1) h2
      refine ih (fun k hk => ?_) a.2 h
      rcases List.mem_append.1 hk with hk | hk
      · exact hl k hk
      · exact all1 a.1 k hk
theorem sm_elements {N : Nat} {T : TF} {s : ByteArray} {first : Tm} {bare : Bool} {σ σ' : PS} {t : Tm} (hN : s.size ≤ N) (hT : TSm N s T) (hfirst : SmTm N first) (hs : St N s σ) (h : elementsS T s first bare σ = .ok (t, σ')) : SmTm N t ∧ St N s σ' := by
  have hg : ∀ i, SmTm N (first.kids.getD i first) := by
    intro i
    rw [List.getD_eq_getElem?_getD]
    cases hi : first.kids[i]? with
    | none => exact hfirst
    | some k => exact hfirst.kids k (List.mem_of_getElem? hi)
  unfold elementsS at h
  repeat' split at h
  all_goals try (cases h; done)
  · rename_i hc _ σ1 h1 _ c2 σ2 h2 _ σ3 h3
    cases h
    have a := hT _ _ _ _ (st_adv hN hs h1) h2
    exact ⟨.mk (hg 0).name (sm_ty0 N) (all2 (hg 1) a.1), st_shut hN a.2 h3⟩
  · rename_i _ _ l1 σ1 h1 _ σ2 h2
    cases h
    have a := sm_elems hN hT _ (all1 hfirst) hs h1
    exact ⟨sm_nd a.1, st_shut hN a.2 h2⟩
theorem sm_braces {N : Nat} {T : TF} {s : ByteArray} {σ σ' : PS} {t : Tm} (hN : s.size ≤ N) (hT : TSm N s T) (hs : St N s σ) (h : bracesS T s σ = .ok (t, σ')) : SmTm N t ∧ St N s σ' := by
  unfold bracesS at h
  repeat' split at h
  all_goals try (cases h; done)
  · rename_i _ σ1 h1 _ hi _ σ2 h2 _ σ3 h3 _ t4 σ4 h4 _ σ5 h5
    cases h
    have a2 := st_adv hN (st_open hN hs h1) h2
    have a4 := sm_typed hN _ (st_open hN (σ := { σ2 with nest := σ2.nest - 1 }) a2 h3) h4
    exact ⟨.mk (Nat.zero_le _) a4.1 (fun k h => by cases h), st_shut hN a4.2 h5⟩
  · rename_i _ σ1 h1 _ hi _ t2 σ2 h2
    have a2 := hT _ _ _ _ (st_open hN hs h1) h2
    exact sm_elements hN hT a2.1 a2.2 h
theorem sm_atom {N : Nat} {T : TF} {s : ByteArray} {σ σ' : PS} {t : Tm} (hN : s.size ≤ N) (hT : TSm N s T) (hs : St N s σ) (h : atomS T s σ = .ok (t, σ')) : SmTm N t ∧ St N s σ' := by
  unfold atomS at h
  repeat' split at h
  all_goals try (cases h; done)
  · exact sm_leaf hN (.mk (Nat.zero_le _) (sm_ty0 N) (fun k h => by cases h)) hs h
  · exact sm_worded hN hT hs h
  · exact sm_inside hN hT hs h
  · exact sm_braces hN hT hs h
theorem sm_after {N : Nat} {T : TF} {s : ByteArray} (hN : s.size ≤ N) (hT : TSm N s T) (g : Nat) : ∀ {t t' : Tm} {σ σ' : PS}, SmTm N t → St N s σ → afterS T s g t σ = .ok (t', σ') → SmTm N t' ∧ St N s σ' := by
  induction g with
  | zero => intro t t' σ σ' _ _ h; cases h
  | succ g ih =>
    intro t t' σ σ' ht hs h
    unfold afterS at h
    repeat' split at h
    all_goals try (cases h; done)
    · rename_i _ u σ1 h1
      have a := sm_inside hN hT hs h1
      exact ih (sm_nd (all2 ht a.1)) a.2 h
    · rename_i _ u σ1 h1
      have a := sm_inside hN hT hs h1
      exact ih (sm_nd (all2 ht a.1)) a.2 h
    · rename_i hi _ σ1 h1
      exact ih (sm_nd (all1 ht)) (st_adv hN hs h1) h
    · cases h; exact ⟨ht, hs⟩
theorem sm_rest {N : Nat} {T : TF} {s : ByteArray} {n : Nat} (hN : s.size ≤ N) (hT : TSm N s T) (g : Nat) : ∀ {t t' : Tm} {σ σ' : PS}, SmTm N t → St N s σ → restS T s n g t σ = .ok (t', σ') → SmTm N t' ∧ St N s σ' := by
  induction g with
  | zero => intro t t' σ σ' _ _ h; cases h
  | succ g ih =>
    intro t t' σ σ' ht hs h
    unfold restS at h
    repeat' split at h
    all_goals try (cases h; done)
    · cases h; exact ⟨ht, hs⟩
    · rename_i hk _ σ1 h1 _ u σ2 h2 _ _
      cases h
      have a := hT _ _ _ _ (st_adv hN hs h1) h2
      exact ⟨sm_nd (all2 ht a.1), a.2⟩
    · rename_i hk _ σ1 h1 _ u σ2 h2 _ _
      have a := hT _ _ _ _ (st_adv hN hs h1) h2
      exact ih (sm_nd (all2 ht a.1)) a.2 h
theorem sm_term {N : Nat} {s : ByteArray} (hN : s.size ≤ N) (f : Nat) : TSm N s (termS f s) := by
  induction f with
  | zero => intro n σ t σ' _ h; cases h
  | succ f ih =>
    intro n σ t σ' hs h
    unfold termS at h
    repeat' split at h
    all_goals try (cases h; done)
    · rename_i hi _ σ1 h1 _ u σ2 h2
      cases h
      have a := ih _ _ _ _ (st_adv hN hs h1) h2
      exact ⟨sm_nd (all1 a.1), a.2⟩
    · exact ih _ _ _ _ hs h
    · rename_i hi _ σ1 h1 _ u σ2 h2
      cases h
      have a := ih _ _ _ _ (st_adv hN hs h1) h2
      exact ⟨sm_nd (all1 a.1), a.2⟩
    · rename_i _ u σ1 h1
      have a := sm_atom hN ih hs h1
      exact sm_after hN ih _ a.1 a.2 h
    · rename_i _ u σ1 h1
      have a := ih _ _ _ _ hs h1
      exact sm_rest hN ih _ a.1 a.2 h
set_option maxHeartbeats 4000000 in
theorem braces_err {b : Nat} {s : ByteArray} {f : Nat} {T : TF} {w : World} {σ : PS} (hT : TC b s f T) (hI : TInv s T) (h : PW w b s σ) (hf : 14 * mu s σ ≤ f) {r : ER} (h_1 : openS s σ kLcu = .error r) :
    Calls Tryz.prog 198 #[.pointer (some ⟨b, 0, none⟩)] w (RPost b s (VTm w.heap.size) (bracesS T s σ) w) := by
  have hlt := h.lt
  have hgl := h.gl.lt
  have h0 := h.alloc (.cells #[.int .i64 0, .string ⟨#[]⟩, .int .i64 0, .int .i64 0, .string ⟨#[]⟩, .slice none 0 0, .slice none 0 0] 28)
  have hR0 : Blk (w.alloc (.cells #[.int .i64 0, .string ⟨#[]⟩, .int .i64 0, .int .i64 0, .string ⟨#[]⟩, .slice none 0 0, .slice none 0 0] 28)) w.heap.size 28 z27 := Blk.new w 28 z27
  have K0 : Kept (· = b) w (w.alloc (.cells #[.int .i64 0, .string ⟨#[]⟩, .int .i64 0, .int .i64 0, .string ⟨#[]⟩, .slice none 0 0, .slice none 0 0] 28)) := (Kept.refl _ _).alloc _
  have zw0 : (w.alloc (.cells #[.int .i64 0, .string ⟨#[]⟩, .int .i64 0, .int .i64 0, .string ⟨#[]⟩, .slice none 0 0, .slice none 0 0] 28)).heap.size = w.heap.size + 1 := by simp
  have Z0 := Lib.hid zw0
  clear zw0
  go_enter Tryz.func198, Tryz.ntmps198
  go_wp2_with fail
  have hq : Hid (bracesS T s σ = .error r) := Lib.hid (by unfold bracesS; simp only [h_1])
  refine (open_err h0 kLcu h_1).mono ?_
  rintro e w1 ⟨rfl, k1⟩
  go_wp2_with fail
  exact ⟨rfl, RPost.err hq.out ⟨rfl, K0.trans k1⟩⟩
set_option maxHeartbeats 4000000 in
theorem braces_empty {b : Nat} {s : ByteArray} {f : Nat} {T : TF} {w : World} {σ : PS} (hT : TC b s f T) (hI : TInv s T) (h : PW w b s σ) (hf : 14 * mu s σ ≤ f) {σ1 : PS} (h_1 : openS s σ kLcu = .ok σ1) (hi : isS σ1 kRcu = true) :
    Calls Tryz.prog 198 #[.pointer (some ⟨b, 0, none⟩)] w (RPost b s (VTm w.heap.size) (bracesS T s σ) w) := by
  have hlt := h.lt
  have hgl := h.gl.lt
  have h0 := h.alloc (.cells #[.int .i64 0, .string ⟨#[]⟩, .int .i64 0, .int .i64 0, .string ⟨#[]⟩, .slice none 0 0, .slice none 0 0] 28)
  have hR0 : Blk (w.alloc (.cells #[.int .i64 0, .string ⟨#[]⟩, .int .i64 0, .int .i64 0, .string ⟨#[]⟩, .slice none 0 0, .slice none 0 0] 28)) w.heap.size 28 z27 := Blk.new w 28 z27
  have K0 : Kept (· = b) w (w.alloc (.cells #[.int .i64 0, .string ⟨#[]⟩, .int .i64 0, .int .i64 0, .string ⟨#[]⟩, .slice none 0 0, .slice none 0 0] 28)) := (Kept.refl _ _).alloc _
  have zw0 : (w.alloc (.cells #[.int .i64 0, .string ⟨#[]⟩, .int .i64 0, .int .i64 0, .string ⟨#[]⟩, .slice none 0 0, .slice none 0 0] 28)).heap.size = w.heap.size + 1 := by simp
  have Z0 := Lib.hid zw0
  clear zw0
  go_enter Tryz.func198, Tryz.ntmps198
  go_wp2_with fail
  have i_1 := inv_open h0.le h_1
  refine (open_ok h0 kLcu h_1).mono ?_
  rintro e w1 ⟨rfl, p1, k1⟩
  have hR_1 := hR0.kept k1 (by show ¬ w.heap.size = b; omega)
  have K1 := K0.trans k1
  have lb1 := p1.lt
  have zz1 := K1.size
  have zk1 := k1.size
  have lR1 := hR_1.lt
  go_wp2_with fail
  cases h_2 : advS s σ1 with
  | error r =>
    have hq : Hid (bracesS T s σ = .error r) := Lib.hid (by unfold bracesS; simp only [h_1, hi, h_2])
    refine (eat_bad p1 kRcu hi h_2).mono ?_
    rintro e w2 ⟨rfl, k2⟩
    go_wp2_with fail
    exact ⟨rfl, RPost.err hq.out ⟨rfl, K1.trans k2⟩⟩
  | ok σ2 =>
    have i_2 := inv_adv p1.le (isS_ne hi) h_2
    refine (eat_yes p1 kRcu hi h_2).mono ?_
    rintro e w2 ⟨rfl, p2, k2⟩
    have hR_2 := hR_1.kept k2 (by show ¬ w.heap.size = b; omega)
    have K2 := K1.trans k2
    have lb2 := p2.lt
    have zz2 := K2.size
    have zk2 := k2.size
    have lR2 := hR_2.lt
    have c6 := p2.nst
    have f6 := p2.nfr
    have hle := p2.nest
    have hn2 : 1 ≤ σ2.nest := by omega
    have hN := p2.nested (σ2.nest - 1) (by omega)
    rw [show ((σ2.nest - 1 : Nat) : Int) = (σ2.nest : Int) - 1 by omega] at hN
    have KN := K2.setCell (p := ⟨b, 6, none⟩) (Or.inl rfl) (.int .i64 ((σ2.nest : Int) - 1))
    have hRN := hR_2.set_other ⟨b, 6, none⟩ (.int .i64 ((σ2.nest : Int) - 1)) (by show w.heap.size ≠ b; omega)
    have J1 := Lib.hid i_1
    have J2 := Lib.hid i_2
    clear i_1 i_2
    go_wp2_with fail
    have i_1 := J1.out
    have i_2 := J2.out
    have nn : ({ σ2 with nest := σ2.nest - 1 } : PS).nest = σ2.nest - 1 := rfl
    have mn : mu s ({ σ2 with nest := σ2.nest - 1 } : PS) = mu s σ2 := rfl
    cases h_3 : openS s ({ σ2 with nest := σ2.nest - 1 } : PS) kLbr with
    | error r =>
      have hq : Hid (bracesS T s σ = .error r) := Lib.hid (by unfold bracesS; simp only [h_1, hi, h_2, h_3])
      refine (open_err hN kLbr h_3).mono ?_
      rintro e w3 ⟨rfl, k3⟩
      go_wp2_with fail
      exact ⟨rfl, RPost.err hq.out ⟨rfl, KN.trans k3⟩⟩
    | ok σ3 =>
      have i_3 := inv_open hN.le h_3
      refine (open_ok hN kLbr h_3).mono ?_
      rintro e w3 ⟨rfl, p3, k3⟩
      have hR_3 := hRN.kept k3 (by show ¬ w.heap.size = b; omega)
      have K3 := KN.trans k3
      have lb3 := p3.lt
      have zz3 := K3.size
      have zk3 := k3.size
      have lR3 := hR_3.lt
      go_wp2_with fail
      have lo4 := p3.lt
      refine (typed_any (s.size + 2) σ3 _ p3 (by have := mu_le s σ3; omega)).mono ?_
      rintro e w4 hr
      cases h_4 : typedS (s.size + 2) s σ3 with
      | error r =>
        have hq : Hid (bracesS T s σ = .error r) := Lib.hid (by unfold bracesS; simp only [h_1, hi, h_2, h_3, h_4])
        obtain ⟨rfl, k4⟩ := hr.getErr h_4
        clear hr
        go_wp2_with fail
        exact ⟨rfl, RPost.err hq.out ⟨rfl, K3.trans k4⟩⟩
      | ok q4 =>
        obtain ⟨t4, σ4⟩ := q4
        obtain ⟨v, rfl, ⟨tk4, rfl, at4⟩, p4, k4⟩ := hr.getOk h_4
        clear hr
        have i_4 := typed_mu _ p3.le h_4
        have n_4 := typed_nest _ h_4
        obtain ⟨ta4, tn4, tc4, rfl⟩ := at4.slice
        unfold tyVal
        have hR_4 := hR_3.kept k4 (by show ¬ w.heap.size = b; omega)
        have K4 := K3.trans k4
        have lb4 := p4.lt
        have zz4 := K4.size
        have zk4 := k4.size
        have lR4 := hR_4.lt
        have h0_4 := p4.alloc (.cells #[.int .i64 t4.kind, .string t4.name, .slice ta4 tn4 tc4] 26)
        have K0_4 := K4.alloc (.cells #[.int .i64 t4.kind, .string t4.name, .slice ta4 tn4 tc4] 26)
        have hxR_4 := hR_4.alloc (.cells #[.int .i64 t4.kind, .string t4.name, .slice ta4 tn4 tc4] 26)
        have hLt4 : Blk (w4.alloc (.cells #[.int .i64 t4.kind, .string t4.name, .slice ta4 tn4 tc4] 26)) w4.heap.size 26 [.int .i64 t4.kind, .string t4.name, .slice ta4 tn4 tc4] := Blk.new w4 26 _
        have axt4 := at4.frame (Same.alloc _ (.cells #[.int .i64 t4.kind, .string t4.name, .slice ta4 tn4 tc4] 26))
        go_wp2_with fail
        cases h_5 : shutS s σ4 kRbr with
        | error r =>
          have hq : Hid (bracesS T s σ = .error r) := Lib.hid (by unfold bracesS; simp only [h_1, hi, h_2, h_3, h_4, h_5])
          refine (shut_err h0_4 kRbr h_5).mono ?_
          rintro e w5 ⟨rfl, k5⟩
          go_wp2_with fail
          exact ⟨rfl, RPost.err hq.out ⟨rfl, K0_4.trans k5⟩⟩
        | ok σ5 =>
          have i_5 := inv_shut h0_4.le h_5
          have HN5 := Lib.hid (show 1 ≤ σ4.nest by omega)
          refine (shut_ok h0_4 (HN5).out kRbr h_5).mono ?_
          rintro e w5 ⟨rfl, p5, k5⟩
          have hR_5 := hxR_4.kept k5 (by show ¬ w.heap.size = b; omega)
          have hXt4_5 := hLt4.kept k5 (by show ¬ w4.heap.size = b; omega)
          have at4_5 := axt4.frame (Same.of_kept k5 (fun k h e => by omega))
          have K5 := K0_4.trans k5
          have lb5 := p5.lt
          have zz5 := K5.size
          have zk5 := k5.size
          have lR5 := hR_5.lt
          have lXt45 := hXt4_5.lt
          have hq : Hid (bracesS T s σ = .ok (.mk 29 nil0 0 t4 [], σ5)) := Lib.hid (by unfold bracesS; simp only [h_1, hi, h_2, h_3, h_4, h_5])
          have g0 : w5.cell? ⟨w.heap.size, 0, none⟩ = some (.int .i64 0) := hR_5.cell 0
          have f0 : w5.frozen? ⟨w.heap.size, 0, none⟩ = false := hR_5.frozen 0
          have g1 : w5.cell? ⟨w.heap.size, 1, none⟩ = some (.string ⟨#[]⟩) := hR_5.cell 1
          have f1 : w5.frozen? ⟨w.heap.size, 1, none⟩ = false := hR_5.frozen 1
          have g2 : w5.cell? ⟨w.heap.size, 2, none⟩ = some (.int .i64 0) := hR_5.cell 2
          have f2 : w5.frozen? ⟨w.heap.size, 2, none⟩ = false := hR_5.frozen 2
          have g3 : w5.cell? ⟨w.heap.size, 3, none⟩ = some (.int .i64 0) := hR_5.cell 3
          have f3 : w5.frozen? ⟨w.heap.size, 3, none⟩ = false := hR_5.frozen 3
          have g4 : w5.cell? ⟨w.heap.size, 4, none⟩ = some (.string ⟨#[]⟩) := hR_5.cell 4
          have f4 : w5.frozen? ⟨w.heap.size, 4, none⟩ = false := hR_5.frozen 4
          have g5 : w5.cell? ⟨w.heap.size, 5, none⟩ = some (.slice none 0 0) := hR_5.cell 5
          have f5 : w5.frozen? ⟨w.heap.size, 5, none⟩ = false := hR_5.frozen 5
          have g6 : w5.cell? ⟨w.heap.size, 6, none⟩ = some (.slice none 0 0) := hR_5.cell 6
          have f6 : w5.frozen? ⟨w.heap.size, 6, none⟩ = false := hR_5.frozen 6
          have l9 : w.heap.size < w5.heap.size := hR_5.lt
          have y0 : w5.cell? ⟨w4.heap.size, 0, none⟩ = some (.int .i64 t4.kind) := hXt4_5.cell 0
          have y1 : w5.cell? ⟨w4.heap.size, 1, none⟩ = some (.string t4.name) := hXt4_5.cell 1
          have y2 : w5.cell? ⟨w4.heap.size, 2, none⟩ = some (.slice ta4 tn4 tc4) := hXt4_5.cell 2
          go_wp2_with fail
          refine ret_tm Tryz.results198 hq.out rfl rfl ((r7 hR_5 rfl)) ?_ ?_ ((p7w p5 (by omega) (by omega))) ((k7w K5 (Or.inr (Nat.le_refl _))))
          · exact (at4_5.frame (same7 (R := w.heap.size) (by omega))).mono (fun k _ h => by omega)
          · exact .nil0
set_option maxHeartbeats 4000000 in
theorem braces_full {b : Nat} {s : ByteArray} {f : Nat} {T : TF} {w : World} {σ : PS} (hT : TC b s f T) (hI : TInv s T) (h : PW w b s σ) (hf : 14 * mu s σ ≤ f) (hS : TSm 65536 s T) {σ1 : PS} (h_1 : openS s σ kLcu = .ok σ1) (hi : isS σ1 kRcu = false) {bare : Bool} (hb : (σ1.k == 1) = bare) :
    Calls Tryz.prog 198 #[.pointer (some ⟨b, 0, none⟩)] w (RPost b s (VTm w.heap.size) (bracesS T s σ) w) := by
  have HS := Lib.hid hS
  clear hS
  have hlt := h.lt
  have hgl := h.gl.lt
  have h0 := h.alloc (.cells #[.int .i64 0, .string ⟨#[]⟩, .int .i64 0, .int .i64 0, .string ⟨#[]⟩, .slice none 0 0, .slice none 0 0] 28)
  have hR0 : Blk (w.alloc (.cells #[.int .i64 0, .string ⟨#[]⟩, .int .i64 0, .int .i64 0, .string ⟨#[]⟩, .slice none 0 0, .slice none 0 0] 28)) w.heap.size 28 z27 := Blk.new w 28 z27
  have K0 : Kept (· = b) w (w.alloc (.cells #[.int .i64 0, .string ⟨#[]⟩, .int .i64 0, .int .i64 0, .string ⟨#[]⟩, .slice none 0 0, .slice none 0 0] 28)) := (Kept.refl _ _).alloc _
  have zw0 : (w.alloc (.cells #[.int .i64 0, .string ⟨#[]⟩, .int .i64 0, .int .i64 0, .string ⟨#[]⟩, .slice none 0 0, .slice none 0 0] 28)).heap.size = w.heap.size + 1 := by simp
  have Z0 := Lib.hid zw0
  clear zw0
  go_enter Tryz.func198, Tryz.ntmps198
  go_wp2_with fail
  have i_1 := inv_open h0.le h_1
  refine (open_ok h0 kLcu h_1).mono ?_
  rintro e w1 ⟨rfl, p1, k1⟩
  have hR_1 := hR0.kept k1 (by show ¬ w.heap.size = b; omega)
  have K1 := K0.trans k1
  have lb1 := p1.lt
  have zz1 := K1.size
  have zk1 := k1.size
  have lR1 := hR_1.lt
  go_wp2_with fail
  refine (eat_no p1 kRcu hi).mono ?_
  rintro e w' ⟨rfl, rfl⟩
  have c2 := p1.kd
  go_wp2_with fail
  have lo2 := p1.lt
  refine (hT 1 1 rfl σ1 _ (by decide) (by decide) p1 (by omega)).mono ?_
  rintro e w2 hr
  cases h_2 : T 1 σ1 with
  | error r =>
    have hq : Hid (bracesS T s σ = .error r) := Lib.hid (by unfold bracesS; simp only [h_1, hi, hb, h_2])
    obtain ⟨rfl, k2⟩ := hr.getErr h_2
    clear hr
    go_wp2_with fail
    exact ⟨rfl, RPost.err hq.out ⟨rfl, K1.trans k2⟩⟩
  | ok q2 =>
    obtain ⟨t2, σ2⟩ := q2
    obtain ⟨v, rfl, ⟨tk2, kk2, rfl, at2, ct2⟩, p2, k2⟩ := hr.getOk h_2
    clear hr
    have j_2 := hI _ _ _ _ p1.le h_2
    have i_2 := j_2.1
    try unfold Inv at i_2
    try unfold Inv1 at i_2
    obtain ⟨ta2, tn2, tc2, rfl⟩ := at2.slice
    obtain ⟨ma2, mn2, mc2, rfl⟩ := ct2.slice
    unfold tmVal
    have hR_2 := hR_1.kept k2 (by show ¬ w.heap.size = b; omega)
    have K2 := K1.trans k2
    have lb2 := p2.lt
    have zz2 := K2.size
    have zk2 := k2.size
    have lR2 := hR_2.lt
    have h0_2 := p2.alloc (.cells #[.int .i64 t2.op, .string t2.name, .int .i64 t2.n, .int .i64 t2.ty.kind, .string t2.ty.name, .slice ta2 tn2 tc2, .slice ma2 mn2 mc2] 28)
    have K0_2 := K2.alloc (.cells #[.int .i64 t2.op, .string t2.name, .int .i64 t2.n, .int .i64 t2.ty.kind, .string t2.ty.name, .slice ta2 tn2 tc2, .slice ma2 mn2 mc2] 28)
    have hxR_2 := hR_2.alloc (.cells #[.int .i64 t2.op, .string t2.name, .int .i64 t2.n, .int .i64 t2.ty.kind, .string t2.ty.name, .slice ta2 tn2 tc2, .slice ma2 mn2 mc2] 28)
    have hLt2_2 : Blk (w2.alloc (.cells #[.int .i64 t2.op, .string t2.name, .int .i64 t2.n, .int .i64 t2.ty.kind, .string t2.ty.name, .slice ta2 tn2 tc2, .slice ma2 mn2 mc2] 28)) w2.heap.size 28 (tmCells t2 (.slice ta2 tn2 tc2) (.slice ma2 mn2 mc2)) := Blk.new w2 28 _
    have axt2_2 := at2.frame (Same.alloc _ (.cells #[.int .i64 t2.op, .string t2.name, .int .i64 t2.n, .int .i64 t2.ty.kind, .string t2.ty.name, .slice ta2 tn2 tc2, .slice ma2 mn2 mc2] 28))
    have cxt2_2 := ct2.frame (Same.alloc _ (.cells #[.int .i64 t2.op, .string t2.name, .int .i64 t2.n, .int .i64 t2.ty.kind, .string t2.ty.name, .slice ta2 tn2 tc2, .slice ma2 mn2 mc2] 28))
    have zw2 : (w2.alloc (.cells #[.int .i64 t2.op, .string t2.name, .int .i64 t2.n, .int .i64 t2.ty.kind, .string t2.ty.name, .slice ta2 tn2 tc2, .slice ma2 mn2 mc2] 28)).heap.size = w2.heap.size + 1 := by simp
    have Z2 := Lib.hid zw2
    clear zw2
    go_wp2_with fail
    have HM : Hid (∀ k ∈ t2.kids, k.name.size ≤ 65536) := Lib.hid (fun k hk => ((HS.out _ _ _ _ ⟨p1.le, p1.tx⟩ h_2).1.kids k hk).name)
    have HNe := Lib.hid (show 1 ≤ σ2.nest by omega)
    have lo3 := h0_2.lt
    refine (elements_any hT hI h0_2 HNe.out (by omega) t2 j_2.2 HM.out bare ta2 tn2 tc2 ma2 mn2 mc2 w1.heap.size (by omega) (by have := Z2.out; omega) axt2_2 cxt2_2).mono ?_
    rintro e w3 hr
    cases h_3 : elementsS T s t2 bare σ2 with
    | error r =>
      have hq : Hid (bracesS T s σ = .error r) := Lib.hid (by unfold bracesS; simp only [h_1, hi, hb, h_2, h_3])
      obtain ⟨rfl, k3⟩ := hr.getErr h_3
      clear hr
      go_wp2_with fail
      exact ⟨rfl, RPost.err hq.out ⟨rfl, K0_2.trans k3⟩⟩
    | ok q3 =>
      obtain ⟨t3, σ3⟩ := q3
      obtain ⟨v, rfl, ⟨tk3, kk3, rfl, at3, ct3⟩, p3, k3⟩ := hr.getOk h_3
      clear hr
      have j_3 := inv_elements hI h0_2.le h_3
      have i_3 := j_3.1
      try unfold Inv at i_3
      try unfold Inv1 at i_3
      obtain ⟨ta3, tn3, tc3, rfl⟩ := at3.slice
      obtain ⟨ma3, mn3, mc3, rfl⟩ := ct3.slice
      unfold tmVal
      have hR_3 := hxR_2.kept k3 (by show ¬ w.heap.size = b; omega)
      have hLt2_3 := hLt2_2.kept k3 (by show ¬ w2.heap.size = b; omega)
      have at2_3 := axt2_2.frame (Same.of_kept k3 (fun k h e => by omega))
      have ct2_3 := cxt2_2.frame (Same.of_kept k3 (fun k h e => by omega))
      have K3 := K0_2.trans k3
      have lb3 := p3.lt
      have zz3 := K3.size
      have zk3 := k3.size
      have lR3 := hR_3.lt
      have lLt23 := hLt2_3.lt
      have hq : Hid (bracesS T s σ = .ok (t3, σ3)) := Lib.hid (by unfold bracesS; simp only [h_1, hi, hb, h_2, h_3])
      have g0 : w3.cell? ⟨w.heap.size, 0, none⟩ = some (.int .i64 0) := hR_3.cell 0
      have f0 : w3.frozen? ⟨w.heap.size, 0, none⟩ = false := hR_3.frozen 0
      have g1 : w3.cell? ⟨w.heap.size, 1, none⟩ = some (.string ⟨#[]⟩) := hR_3.cell 1
      have f1 : w3.frozen? ⟨w.heap.size, 1, none⟩ = false := hR_3.frozen 1
      have g2 : w3.cell? ⟨w.heap.size, 2, none⟩ = some (.int .i64 0) := hR_3.cell 2
      have f2 : w3.frozen? ⟨w.heap.size, 2, none⟩ = false := hR_3.frozen 2
      have g3 : w3.cell? ⟨w.heap.size, 3, none⟩ = some (.int .i64 0) := hR_3.cell 3
      have f3 : w3.frozen? ⟨w.heap.size, 3, none⟩ = false := hR_3.frozen 3
      have g4 : w3.cell? ⟨w.heap.size, 4, none⟩ = some (.string ⟨#[]⟩) := hR_3.cell 4
      have f4 : w3.frozen? ⟨w.heap.size, 4, none⟩ = false := hR_3.frozen 4
      have g5 : w3.cell? ⟨w.heap.size, 5, none⟩ = some (.slice none 0 0) := hR_3.cell 5
      have f5 : w3.frozen? ⟨w.heap.size, 5, none⟩ = false := hR_3.frozen 5
      have g6 : w3.cell? ⟨w.heap.size, 6, none⟩ = some (.slice none 0 0) := hR_3.cell 6
      have f6 : w3.frozen? ⟨w.heap.size, 6, none⟩ = false := hR_3.frozen 6
      have yt20 : w3.cell? ⟨w2.heap.size, 0, none⟩ = some (.int .i64 t2.op) := hLt2_3.cell 0
      have yt21 : w3.cell? ⟨w2.heap.size, 1, none⟩ = some (.string t2.name) := hLt2_3.cell 1
      have yt22 : w3.cell? ⟨w2.heap.size, 2, none⟩ = some (.int .i64 t2.n) := hLt2_3.cell 2
      have yt23 : w3.cell? ⟨w2.heap.size, 3, none⟩ = some (.int .i64 t2.ty.kind) := hLt2_3.cell 3
      have yt24 : w3.cell? ⟨w2.heap.size, 4, none⟩ = some (.string t2.ty.name) := hLt2_3.cell 4
      have yt25 : w3.cell? ⟨w2.heap.size, 5, none⟩ = some (.slice ta2 tn2 tc2) := hLt2_3.cell 5
      have yt26 : w3.cell? ⟨w2.heap.size, 6, none⟩ = some (.slice ma2 mn2 mc2) := hLt2_3.cell 6
      have l9 : w.heap.size < w3.heap.size := hR_3.lt
      go_wp2_with fail
      refine ret_tm Tryz.results198 hq.out rfl rfl ((r7 hR_3 rfl)) ?_ ?_ ((p7w p3 (by omega) (by omega))) ((k7w K3 (Or.inr (Nat.le_refl _))))
      · exact (at3.frame (same7 (R := w.heap.size) (by omega))).mono (fun k _ h => by omega)
      · exact (ct3.frame (same7 (R := w.heap.size) (by omega))).mono (fun k _ h => by omega)
theorem braces_any {b : Nat} {s : ByteArray} {f : Nat} {T : TF} {w : World} {σ : PS} (hT : TC b s f T) (hI : TInv s T) (h : PW w b s σ) (hf : 14 * mu s σ ≤ f) (hS : TSm 65536 s T) :
    Calls Tryz.prog 198 #[.pointer (some ⟨b, 0, none⟩)] w (RPost b s (VTm w.heap.size) (bracesS T s σ) w) := by
  cases h_1 : openS s σ kLcu with
  | error r => exact braces_err hT hI h hf h_1
  | ok σ1 =>
    cases hi : isS σ1 kRcu
    · exact braces_full hT hI h hf hS h_1 hi rfl
    · exact braces_empty hT hI h hf h_1 hi
end Go.Proofs.YtfhedienjnfdcaaGreatDoor
