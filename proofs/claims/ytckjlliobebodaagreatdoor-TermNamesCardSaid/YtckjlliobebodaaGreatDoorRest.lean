/- The parser's method rest. -/
import Derived.Test.YtckjlliobebodaaGreatDoorOper
import Derived.Deep.CutBlock
set_option linter.unusedVariables false
set_option linter.unusedSimpArgs false
namespace Go.Proofs.YtckjlliobebodaaGreatDoor
open Go.RowKit
theorem mu_le (s : ByteArray) (σ : PS) : mu s σ ≤ s.size + 1 := by unfold mu; split <;> omega
/-- From n0 on, but neither of two blocks. -/
def okk (n0 B R : Nat) (k : Nat) : Prop := n0 ≤ k ∧ k ≠ B ∧ k ≠ R
theorem same7k {W : World} {n0 B R c : Nat} {x0 x1 x2 x3 x4 x5 x6 : Value} (h : c = B ∨ c = R) : Same (okk n0 B R) W (((((((W.setCell ⟨c, 0, none⟩ x0).setCell ⟨c, 1, none⟩ x1).setCell ⟨c, 2, none⟩ x2).setCell ⟨c, 3, none⟩ x3).setCell ⟨c, 4, none⟩ x4).setCell ⟨c, 5, none⟩ x5).setCell ⟨c, 6, none⟩ x6) := by
  intro k hk hl
  exact (k7w (S := (· = c)) (Kept.refl _ _) (Or.inl rfl)).block k hl (by rcases h with rfl | rfl; exact hk.2.1; exact hk.2.2)
theorem wp_gen {P : Program} {c : Code} {Q : Exit → Act → World → Prop} {a : Act} {W : World} (F : World → Prop) (hF : F W) (h : ∀ w6, F w6 → Code.wp P c Q a w6) : Code.wp P c Q a W := h W hF
set_option maxHeartbeats 8000000 in
theorem rest_any {b : Nat} {s : ByteArray} {f : Nat} {T : TF} {w : World} {σ : PS} (hT : TC b s f T) (hI : TInv s T) (h : PW w b s σ) (hf : 14 * mu s σ ≤ f) {n : Nat} (hn : lvOK n) (t : Tm) (ta : Option Addr) (tn tc : Nat) (ma : Option Addr) (mn mc n0 : Nat) (hb0 : b < n0) (hn0 : n0 ≤ w.heap.size)
    (a : TyL (fun k => n0 ≤ k) w t.ty.kids (.slice ta tn tc)) (c : TmL (fun k => n0 ≤ k) w t.kids (.slice ma mn mc)) :
    Calls Tryz.prog 68 #[.pointer (some ⟨b, 0, none⟩), tmVal t (.slice ta tn tc) (.slice ma mn mc), .int .i64 n] w (RPost b s (VTm n0) (restS T s n (s.size + 2) t σ) w) := by
  have hlt := h.lt
  have hgl := h.gl.lt
  have hlen := lv_lens hn
  have HLEN := Lib.hid hlen
  clear hlen
  have hn1 : 1 ≤ n := by unfold lvOK at hn; omega
  have hn12 : n ≤ 12 := by unfold lvOK at hn; omega
  unfold tmVal
  have K0 : Kept (· = b) w ((w.alloc (.cells #[.int .i64 t.op, .string t.name, .int .i64 t.n, .int .i64 t.ty.kind, .string t.ty.name, .slice ta tn tc, .slice ma mn mc] 27)).alloc (.cells #[.int .i64 0, .string ⟨#[]⟩, .int .i64 0, .int .i64 0, .string ⟨#[]⟩, .slice none 0 0, .slice none 0 0] 27)) := ((Kept.refl _ _).alloc _).alloc _
  have h0 := (h.alloc (.cells #[.int .i64 t.op, .string t.name, .int .i64 t.n, .int .i64 t.ty.kind, .string t.ty.name, .slice ta tn tc, .slice ma mn mc] 27)).alloc (.cells #[.int .i64 0, .string ⟨#[]⟩, .int .i64 0, .int .i64 0, .string ⟨#[]⟩, .slice none 0 0, .slice none 0 0] 27)
  have hB0 := (Blk.new w 27 (tmCells t (.slice ta tn tc) (.slice ma mn mc))).alloc (.cells #[.int .i64 0, .string ⟨#[]⟩, .int .i64 0, .int .i64 0, .string ⟨#[]⟩, .slice none 0 0, .slice none 0 0] 27)
  have hR0 : Blk ((w.alloc (.cells #[.int .i64 t.op, .string t.name, .int .i64 t.n, .int .i64 t.ty.kind, .string t.ty.name, .slice ta tn tc, .slice ma mn mc] 27)).alloc (.cells #[.int .i64 0, .string ⟨#[]⟩, .int .i64 0, .int .i64 0, .string ⟨#[]⟩, .slice none 0 0, .slice none 0 0] 27)) (w.heap.size + 1) 27 z27 := Blk.new' 27 z27 (by simp)
  have a0 := ((a.mono (ok' := okk n0 w.heap.size (w.heap.size + 1)) (fun k hk h => ⟨h, by omega, by omega⟩)).frame (Same.alloc _ (.cells #[.int .i64 t.op, .string t.name, .int .i64 t.n, .int .i64 t.ty.kind, .string t.ty.name, .slice ta tn tc, .slice ma mn mc] 27))).frame (Same.alloc _ (.cells #[.int .i64 0, .string ⟨#[]⟩, .int .i64 0, .int .i64 0, .string ⟨#[]⟩, .slice none 0 0, .slice none 0 0] 27))
  have c0 := ((c.mono (ok' := okk n0 w.heap.size (w.heap.size + 1)) (fun k hk h => ⟨h, by omega, by omega⟩)).frame (Same.alloc _ (.cells #[.int .i64 t.op, .string t.name, .int .i64 t.n, .int .i64 t.ty.kind, .string t.ty.name, .slice ta tn tc, .slice ma mn mc] 27))).frame (Same.alloc _ (.cells #[.int .i64 0, .string ⟨#[]⟩, .int .i64 0, .int .i64 0, .string ⟨#[]⟩, .slice none 0 0, .slice none 0 0] 27))
  go_enter Tryz.func68, Tryz.ntmps68
  go_wp2_with fail
  refine (levels_at hn _).mono ?_
  rintro e w1 ⟨A, rfl, ⟨g, g', hgg, hgg', hix, hx, ho⟩, hbw⟩
  have k1 : Kept (· = b) _ w1 := Kept.of_below hbw
  have kF : Kept (fun _ => False) _ w1 := Kept.of_below hbw
  have p1 := h0.grow kF id id id
  have hB1 := hB0.kept kF id
  have hR1 := hR0.kept kF id
  have a1 := a0.frame (Same.of_kept kF (fun _ _ => id))
  have c1 := c0.frame (Same.of_kept kF (fun _ _ => id))
  have K1 := K0.trans k1
  have lg := hx.lt
  have lg' := ho.lt
  have lR := hR1.lt
  have zW : ((w.alloc (.cells #[.int .i64 t.op, .string t.name, .int .i64 t.n, .int .i64 t.ty.kind, .string t.ty.name, .slice ta tn tc, .slice ma mn mc] 27)).alloc (.cells #[.int .i64 0, .string ⟨#[]⟩, .int .i64 0, .int .i64 0, .string ⟨#[]⟩, .slice none 0 0, .slice none 0 0] 27)).heap.size = w.heap.size + 2 := by simp
  rw [zW] at hgg hgg'
  clear kF k1 hbw h0 hB0 hR0 a0 c0 K0 zW
  go_wp2_with fail
  have hL2 : Blk (w1.alloc (.cells #[.int .i64 (lvGroup n), .slice (some ⟨g, 0, none⟩) (lvSigns n).length (lvSigns n).length, .slice (some ⟨g', 0, none⟩) (lvOps n).length (lvOps n).length] 117)) w1.heap.size 117 [.int .i64 (lvGroup n), .slice (some ⟨g, 0, none⟩) (lvSigns n).length (lvSigns n).length, .slice (some ⟨g', 0, none⟩) (lvOps n).length (lvOps n).length] := Blk.new w1 117 _
  have p2 := p1.alloc (.cells #[.int .i64 (lvGroup n), .slice (some ⟨g, 0, none⟩) (lvSigns n).length (lvSigns n).length, .slice (some ⟨g', 0, none⟩) (lvOps n).length (lvOps n).length] 117)
  have hB2 := hB1.alloc (.cells #[.int .i64 (lvGroup n), .slice (some ⟨g, 0, none⟩) (lvSigns n).length (lvSigns n).length, .slice (some ⟨g', 0, none⟩) (lvOps n).length (lvOps n).length] 117)
  have hR2 := hR1.alloc (.cells #[.int .i64 (lvGroup n), .slice (some ⟨g, 0, none⟩) (lvSigns n).length (lvSigns n).length, .slice (some ⟨g', 0, none⟩) (lvOps n).length (lvOps n).length] 117)
  have hx2 := hx.alloc (.cells #[.int .i64 (lvGroup n), .slice (some ⟨g, 0, none⟩) (lvSigns n).length (lvSigns n).length, .slice (some ⟨g', 0, none⟩) (lvOps n).length (lvOps n).length] 117)
  have ho2 := ho.alloc (.cells #[.int .i64 (lvGroup n), .slice (some ⟨g, 0, none⟩) (lvSigns n).length (lvSigns n).length, .slice (some ⟨g', 0, none⟩) (lvOps n).length (lvOps n).length] 117)
  have a2 := a1.frame (Same.alloc _ (.cells #[.int .i64 (lvGroup n), .slice (some ⟨g, 0, none⟩) (lvSigns n).length (lvSigns n).length, .slice (some ⟨g', 0, none⟩) (lvOps n).length (lvOps n).length] 117))
  have c2 := c1.frame (Same.alloc _ (.cells #[.int .i64 (lvGroup n), .slice (some ⟨g, 0, none⟩) (lvSigns n).length (lvSigns n).length, .slice (some ⟨g', 0, none⟩) (lvOps n).length (lvOps n).length] 117))
  have K2 := K1.alloc (.cells #[.int .i64 (lvGroup n), .slice (some ⟨g, 0, none⟩) (lvSigns n).length (lvSigns n).length, .slice (some ⟨g', 0, none⟩) (lvOps n).length (lvOps n).length] 117)
  generalize hW : w1.alloc (.cells #[.int .i64 (lvGroup n), .slice (some ⟨g, 0, none⟩) (lvSigns n).length (lvSigns n).length, .slice (some ⟨g', 0, none⟩) (lvOps n).length (lvOps n).length] 117) = w2 at *
  generalize w1.heap.size = L at *
  clear hW hix p1 hB1 hR1 hx ho a1 c1 K1
  go_loopg [8] (s.size + 2) (fun m _ wr => ∃ (t' : Tm) (σ' : PS) (ua : Option Addr) (un uc : Nat) (va : Option Addr) (vn vc : Nat), Hid (restS T s n m t' σ' = restS T s n (s.size + 2) t σ) ∧ mu s σ' < m ∧ mu s σ' ≤ mu s σ ∧ PW wr b s σ' ∧ Blk wr w.heap.size 27 (tmCells t' (.slice ua un uc) (.slice va vn vc)) ∧ Blk wr (w.heap.size + 1) 27 z27 ∧ Blk wr L 117 [.int .i64 (lvGroup n), .slice (some ⟨g, 0, none⟩) (lvSigns n).length (lvSigns n).length, .slice (some ⟨g', 0, none⟩) (lvOps n).length (lvOps n).length] ∧ Blk wr g 9 ((lvSigns n).map Value.string) ∧ Blk wr g' 3 ((lvOps n).map (Value.int .i64)) ∧ TyL (okk n0 w.heap.size (w.heap.size + 1)) wr t'.ty.kids (.slice ua un uc) ∧ TmL (okk n0 w.heap.size (w.heap.size + 1)) wr t'.kids (.slice va vn vc) ∧ Kept (· = b) w wr)
  case atStart => exact ⟨t, σ, ta, tn, tc, ma, mn, mc, Lib.hid rfl, by have := mu_le s σ; omega, Nat.le_refl _, p2, hB2, hR2, hL2, hx2, ho2, a2, c2, K2⟩
  case round =>
    clear p2 hB2 hR2 hL2 hx2 ho2 a2 c2 K2
    obtain ⟨t', σ', ua, un, uc, va, vn, vc, hq, hm, hmm, p, hB, hR, hL, hX, hO, ka, kc, K⟩ := hrel
    obtain ⟨q, rfl⟩ : ∃ q, gk = q + 1 := ⟨gk - 1, by omega⟩
    have l0 : wr.cell? ⟨L, 0, none⟩ = some (.int .i64 (lvGroup n)) := hL.cell 0
    have l1 : wr.cell? ⟨L, 1, none⟩ = some (.slice (some ⟨g, 0, none⟩) (lvSigns n).length (lvSigns n).length) := hL.cell 1
    have l2 : wr.cell? ⟨L, 2, none⟩ = some (.slice (some ⟨g', 0, none⟩) (lvOps n).length (lvOps n).length) := hL.cell 2
    go_wp2_with fail
    refine (operator_any p (lvGroup n) (lvSigns n) (lvOps n) g g' HLEN.out.1 HLEN.out.2 hX hO).mono ?_
    rintro e w3 ⟨rfl, hb3⟩
    have kF : Kept (fun _ => False) wr w3 := Kept.of_below hb3
    have p3 := p.grow kF id id id
    have hB3 := hB.kept kF id
    have hR3 := hR.kept kF id
    have hL3 := hL.kept kF id
    have hX3 := hX.kept kF id
    have hO3 := hO.kept kF id
    have ka3 := ka.frame (Same.of_kept kF (fun _ _ => id))
    have kc3 := kc.frame (Same.of_kept kF (fun _ _ => id))
    have K3 := K.trans (Kept.of_below hb3)
    clear kF p hB hR hL hX hO ka kc K hb3 l0 l1 l2
    have HO : Hid (opOf n σ' = opGo σ' (lvSigns n) (lvOps n)) := Lib.hid rfl
    have HNE : Hid (opGo σ' (lvSigns n) (lvOps n) ≠ 0 → σ'.k ≠ 0) := Lib.hid opGo_ne
    generalize opGo σ' (lvSigns n) (lvOps n) = o at *
    have g0 : w3.cell? ⟨w.heap.size + 1, 0, none⟩ = some (.int .i64 0) := hR3.cell 0
    have g1 : w3.cell? ⟨w.heap.size + 1, 1, none⟩ = some (.string ⟨#[]⟩) := hR3.cell 1
    have g2 : w3.cell? ⟨w.heap.size + 1, 2, none⟩ = some (.int .i64 0) := hR3.cell 2
    have g3 : w3.cell? ⟨w.heap.size + 1, 3, none⟩ = some (.int .i64 0) := hR3.cell 3
    have g4 : w3.cell? ⟨w.heap.size + 1, 4, none⟩ = some (.string ⟨#[]⟩) := hR3.cell 4
    have g5 : w3.cell? ⟨w.heap.size + 1, 5, none⟩ = some (.slice none 0 0) := hR3.cell 5
    have g6 : w3.cell? ⟨w.heap.size + 1, 6, none⟩ = some (.slice none 0 0) := hR3.cell 6
    have f0 : w3.frozen? ⟨w.heap.size + 1, 0, none⟩ = false := hR3.frozen 0
    have f1 : w3.frozen? ⟨w.heap.size + 1, 1, none⟩ = false := hR3.frozen 1
    have f2 : w3.frozen? ⟨w.heap.size + 1, 2, none⟩ = false := hR3.frozen 2
    have f3 : w3.frozen? ⟨w.heap.size + 1, 3, none⟩ = false := hR3.frozen 3
    have f4 : w3.frozen? ⟨w.heap.size + 1, 4, none⟩ = false := hR3.frozen 4
    have f5 : w3.frozen? ⟨w.heap.size + 1, 5, none⟩ = false := hR3.frozen 5
    have f6 : w3.frozen? ⟨w.heap.size + 1, 6, none⟩ = false := hR3.frozen 6
    have y0 : w3.cell? ⟨w.heap.size, 0, none⟩ = some (.int .i64 t'.op) := hB3.cell 0
    have y1 : w3.cell? ⟨w.heap.size, 1, none⟩ = some (.string t'.name) := hB3.cell 1
    have y2 : w3.cell? ⟨w.heap.size, 2, none⟩ = some (.int .i64 t'.n) := hB3.cell 2
    have y3 : w3.cell? ⟨w.heap.size, 3, none⟩ = some (.int .i64 t'.ty.kind) := hB3.cell 3
    have y4 : w3.cell? ⟨w.heap.size, 4, none⟩ = some (.string t'.ty.name) := hB3.cell 4
    have y5 : w3.cell? ⟨w.heap.size, 5, none⟩ = some (.slice ua un uc) := hB3.cell 5
    have y6 : w3.cell? ⟨w.heap.size, 6, none⟩ = some (.slice va vn vc) := hB3.cell 6
    cases hz : (o == 0)
    case true =>
      have hres : Hid (restS T s n (s.size + 2) t σ = .ok (t', σ')) := Lib.hid (hq.out.symm.trans (by unfold restS; simp only [HO.out, hz]))
      go_wp2_with fail
      refine ret_tm Tryz.results68 hres.out rfl rfl (r7 hR3 rfl) ?_ ?_ (p7w p3 (by omega) (by omega)) (k7w K3 (Or.inr (by omega)))
      · exact (ka3.frame (same7k (Or.inr rfl))).mono (fun k _ h => h.1)
      · exact (kc3.frame (same7k (Or.inr rfl))).mono (fun k _ h => h.1)
    case false =>
      clear g0 g1 g2 g3 g4 g5 g6 f0 f1 f2 f3 f4 f5 f6 y0 y1 y2 y3 y4 y5 y6
      have hne := HNE.out (ne_of_beq_false hz)
      go_wp2_with fail
      cases ha : advS s σ' with
      | error r =>
        have hres : Hid (restS T s n (s.size + 2) t σ = .error r) := Lib.hid (hq.out.symm.trans (by unfold restS; simp only [HO.out, hz, ha]))
        refine (adv_err p3 ha).mono ?_
        rintro e w4 ⟨rfl, k4⟩
        go_wp2_with fail
        exact ⟨rfl, RPost.err hres.out ⟨rfl, K3.trans k4⟩⟩
      | ok σ1 =>
        have i1 := inv_adv p3.le hne ha
        refine (adv_ok p3 ha).mono ?_
        rintro e w4 ⟨rfl, p4, k4⟩
        have hB4 := hB3.kept k4 (by show ¬ w.heap.size = b; omega)
        have hR4 := hR3.kept k4 (by show ¬ w.heap.size + 1 = b; omega)
        have hL4 := hL3.kept k4 (by show ¬ L = b; omega)
        have hX4 := hX3.kept k4 (by show ¬ g = b; omega)
        have hO4 := hO3.kept k4 (by show ¬ g' = b; omega)
        have ka4 := ka3.frame (Same.of_kept k4 (fun k h e => by have := h.1; omega))
        have kc4 := kc3.frame (Same.of_kept k4 (fun k h e => by have := h.1; omega))
        have K4 := K3.trans k4
        have l0 : w4.cell? ⟨L, 0, none⟩ = some (.int .i64 (lvGroup n)) := hL4.cell 0
        have hb4 := p4.lt
        have lL4 := hL4.lt
        have lR4 := hR4.lt
        clear k4 p3 hB3 hR3 hL3 hX3 hO3 ka3 kc3 K3
        cases hg2 : (lvGroup n == 2)
        case true =>
          have HIF : Hid ((if lvGroup n = 2 then n else n + 1) = n) := Lib.hid (if_pos (eq_of_beq hg2))
          go_wp2_with fail
          refine (hT n (n : Int) rfl σ1 _ (by omega) (by omega) p4 (by omega)).mono ?_
          rintro e w5 hr
          cases htt : T n σ1 with
          | error r =>
            have hres : Hid (restS T s n (s.size + 2) t σ = .error r) := Lib.hid (hq.out.symm.trans (by unfold restS; simp only [HO.out, hz, ha, HIF.out, htt]))
            obtain ⟨rfl, k5⟩ := hr.getErr htt
            clear hr
            go_wp2_with fail
            exact ⟨rfl, RPost.err hres.out ⟨rfl, K4.trans k5⟩⟩
          | ok q5 =>
            obtain ⟨u, σ2⟩ := q5
            obtain ⟨v, rfl, ⟨tk5, kk5, rfl, au, cu⟩, p5, k5⟩ := hr.getOk htt
            clear hr
            have i2 := (hI _ _ _ _ p4.le htt).1
            unfold Inv at i2
            obtain ⟨ta5, tn5, tc5, rfl⟩ := au.slice
            obtain ⟨ma5, mn5, mc5, rfl⟩ := cu.slice
            unfold tmVal
            have hB5 := hB4.kept k5 (by show ¬ w.heap.size = b; omega)
            have hR5 := hR4.kept k5 (by show ¬ w.heap.size + 1 = b; omega)
            have hL5 := hL4.kept k5 (by show ¬ L = b; omega)
            have hX5 := hX4.kept k5 (by show ¬ g = b; omega)
            have hO5 := hO4.kept k5 (by show ¬ g' = b; omega)
            have ka5 := ka4.frame (Same.of_kept k5 (fun k h e => by have := h.1; omega))
            have kc5 := kc4.frame (Same.of_kept k5 (fun k h e => by have := h.1; omega))
            have K5 := K4.trans k5
            have lB5 := hB5.lt
            have y0 : w5.cell? ⟨w.heap.size, 0, none⟩ = some (.int .i64 t'.op) := hB5.cell 0
            have y1 : w5.cell? ⟨w.heap.size, 1, none⟩ = some (.string t'.name) := hB5.cell 1
            have y2 : w5.cell? ⟨w.heap.size, 2, none⟩ = some (.int .i64 t'.n) := hB5.cell 2
            have y3 : w5.cell? ⟨w.heap.size, 3, none⟩ = some (.int .i64 t'.ty.kind) := hB5.cell 3
            have y4 : w5.cell? ⟨w.heap.size, 4, none⟩ = some (.string t'.ty.name) := hB5.cell 4
            have y5 : w5.cell? ⟨w.heap.size, 5, none⟩ = some (.slice ua un uc) := hB5.cell 5
            have y6 : w5.cell? ⟨w.heap.size, 6, none⟩ = some (.slice va vn vc) := hB5.cell 6
            have f0 : w5.frozen? ⟨w.heap.size, 0, none⟩ = false := hB5.frozen 0
            have f1 : w5.frozen? ⟨w.heap.size, 1, none⟩ = false := hB5.frozen 1
            have f2 : w5.frozen? ⟨w.heap.size, 2, none⟩ = false := hB5.frozen 2
            have f3 : w5.frozen? ⟨w.heap.size, 3, none⟩ = false := hB5.frozen 3
            have f4 : w5.frozen? ⟨w.heap.size, 4, none⟩ = false := hB5.frozen 4
            have f5 : w5.frozen? ⟨w.heap.size, 5, none⟩ = false := hB5.frozen 5
            have f6 : w5.frozen? ⟨w.heap.size, 6, none⟩ = false := hB5.frozen 6
            go_upto_region 11 with (fail)
            have ilo := p4.lt
            have z54 := k5.size
            refine wp_gen (fun w6 => PW w6 b s σ2 ∧ Blk w6 w.heap.size 27 (tmCells (nd o [t', u]) (.slice none 0 0) (.slice (some ⟨w5.heap.size + 1, 0, none⟩) 2 2)) ∧ Blk w6 (w.heap.size + 1) 27 z27 ∧ Blk w6 L 117 [.int .i64 (lvGroup n), .slice (some ⟨g, 0, none⟩) (lvSigns n).length (lvSigns n).length, .slice (some ⟨g', 0, none⟩) (lvOps n).length (lvOps n).length] ∧ Blk w6 g 9 ((lvSigns n).map Value.string) ∧ Blk w6 g' 3 ((lvOps n).map (Value.int .i64)) ∧ TmL (okk n0 w.heap.size (w.heap.size + 1)) w6 [t', u] (.slice (some ⟨w5.heap.size + 1, 0, none⟩) 2 2) ∧ Kept (· = b) w w6) ⟨((p7w p5 (by omega) (by omega)).alloc _).alloc _, ((r7 hB5 rfl).alloc _).alloc _, ((b7w hR5 (by omega)).alloc _).alloc _, ((b7w hL5 (by omega)).alloc _).alloc _, ((b7w hX5 (by omega)).alloc _).alloc _, ((b7w hO5 (by omega)).alloc _).alloc _, TmL.two (ty := 27) ⟨by omega, by omega, by omega⟩ (Nat.le_refl _) (Blk.new' 27 _ (by simp)) (((ka5.frame (same7k (Or.inl rfl))).frame (Same.alloc _ _)).frame (Same.alloc _ _)) (((kc5.frame (same7k (Or.inl rfl))).frame (Same.alloc _ _)).frame (Same.alloc _ _)) ((((au.mono (ok' := okk n0 w.heap.size (w.heap.size + 1)) (fun k _ h => ⟨by omega, by omega, by omega⟩)).frame (same7k (Or.inl rfl))).frame (Same.alloc _ _)).frame (Same.alloc _ _)) ((((cu.mono (ok' := okk n0 w.heap.size (w.heap.size + 1)) (fun k _ h => ⟨by omega, by omega, by omega⟩)).frame (same7k (Or.inl rfl))).frame (Same.alloc _ _)).frame (Same.alloc _ _)), ((k7w K5 (Or.inr (Nat.le_refl _))).alloc _).alloc _⟩ ?_
            clear y0 y1 y2 y3 y4 y5 y6 f0 f1 f2 f3 f4 f5 f6
            rintro w6 ⟨p6, hB6, hR6, hL6, hX6, hO6, kc6, K6⟩
            have l0' : w6.cell? ⟨L, 0, none⟩ = some (.int .i64 (lvGroup n)) := hL6.cell 0
            cases hg1 : (lvGroup n != 1)
            case true =>
              have hres : Hid (restS T s n (s.size + 2) t σ = .ok (nd o [t', u], σ2)) := Lib.hid (hq.out.symm.trans (by unfold restS; simp only [HO.out, hz, ha, HIF.out, htt, hg1]))
              have g0 : w6.cell? ⟨w.heap.size + 1, 0, none⟩ = some (.int .i64 0) := hR6.cell 0
              have f0 : w6.frozen? ⟨w.heap.size + 1, 0, none⟩ = false := hR6.frozen 0
              have y0 : w6.cell? ⟨w.heap.size, 0, none⟩ = some (.int .i64 o) := hB6.cell 0
              have g1 : w6.cell? ⟨w.heap.size + 1, 1, none⟩ = some (.string ⟨#[]⟩) := hR6.cell 1
              have f1 : w6.frozen? ⟨w.heap.size + 1, 1, none⟩ = false := hR6.frozen 1
              have y1 : w6.cell? ⟨w.heap.size, 1, none⟩ = some (.string ⟨#[]⟩) := hB6.cell 1
              have g2 : w6.cell? ⟨w.heap.size + 1, 2, none⟩ = some (.int .i64 0) := hR6.cell 2
              have f2 : w6.frozen? ⟨w.heap.size + 1, 2, none⟩ = false := hR6.frozen 2
              have y2 : w6.cell? ⟨w.heap.size, 2, none⟩ = some (.int .i64 0) := hB6.cell 2
              have g3 : w6.cell? ⟨w.heap.size + 1, 3, none⟩ = some (.int .i64 0) := hR6.cell 3
              have f3 : w6.frozen? ⟨w.heap.size + 1, 3, none⟩ = false := hR6.frozen 3
              have y3 : w6.cell? ⟨w.heap.size, 3, none⟩ = some (.int .i64 0) := hB6.cell 3
              have g4 : w6.cell? ⟨w.heap.size + 1, 4, none⟩ = some (.string ⟨#[]⟩) := hR6.cell 4
              have f4 : w6.frozen? ⟨w.heap.size + 1, 4, none⟩ = false := hR6.frozen 4
              have y4 : w6.cell? ⟨w.heap.size, 4, none⟩ = some (.string ⟨#[]⟩) := hB6.cell 4
              have g5 : w6.cell? ⟨w.heap.size + 1, 5, none⟩ = some (.slice none 0 0) := hR6.cell 5
              have f5 : w6.frozen? ⟨w.heap.size + 1, 5, none⟩ = false := hR6.frozen 5
              have y5 : w6.cell? ⟨w.heap.size, 5, none⟩ = some (.slice none 0 0) := hB6.cell 5
              have g6 : w6.cell? ⟨w.heap.size + 1, 6, none⟩ = some (.slice none 0 0) := hR6.cell 6
              have f6 : w6.frozen? ⟨w.heap.size + 1, 6, none⟩ = false := hR6.frozen 6
              have y6 : w6.cell? ⟨w.heap.size, 6, none⟩ = some (.slice (some ⟨w5.heap.size + 1, 0, none⟩) 2 2) := hB6.cell 6
              go_wp2_with fail
              refine ret_tm Tryz.results68 hres.out rfl rfl (r7 hR6 rfl) .nil0 ?_ (p7w p6 (by omega) (by omega)) (k7w K6 (Or.inr (by omega)))
              exact (kc6.frame (same7k (Or.inr rfl))).mono (fun k _ h => h.1)
            case false =>
              have hres : Hid (restS T s n q (nd o [t', u]) σ2 = restS T s n (s.size + 2) t σ) := Lib.hid (Eq.trans (by conv => rhs; unfold restS; simp only [HO.out, hz, ha, HIF.out, htt, hg1]) hq.out)
              go_wp2_with fail
              go_roundg q
              case measure => omega
              case rel => exact ⟨nd o [t', u], σ2, none, 0, 0, _, 2, 2, hres, by omega, by omega, p6, hB6, hR6, hL6, hX6, hO6, .nil0, kc6, K6⟩
        case false =>
          have HIF : Hid ((if lvGroup n = 2 then n else n + 1) = n + 1) := Lib.hid (if_neg (ne_of_beq_false hg2))
          go_wp2_with fail
          refine (hT (n + 1) ((n : Int) + 1) (by omega) σ1 _ (by omega) (by omega) p4 (by omega)).mono ?_
          rintro e w5 hr
          cases htt : T (n + 1) σ1 with
          | error r =>
            have hres : Hid (restS T s n (s.size + 2) t σ = .error r) := Lib.hid (hq.out.symm.trans (by unfold restS; simp only [HO.out, hz, ha, HIF.out, htt]))
            obtain ⟨rfl, k5⟩ := hr.getErr htt
            clear hr
            go_wp2_with fail
            exact ⟨rfl, RPost.err hres.out ⟨rfl, K4.trans k5⟩⟩
          | ok q5 =>
            obtain ⟨u, σ2⟩ := q5
            obtain ⟨v, rfl, ⟨tk5, kk5, rfl, au, cu⟩, p5, k5⟩ := hr.getOk htt
            clear hr
            have i2 := (hI _ _ _ _ p4.le htt).1
            unfold Inv at i2
            obtain ⟨ta5, tn5, tc5, rfl⟩ := au.slice
            obtain ⟨ma5, mn5, mc5, rfl⟩ := cu.slice
            unfold tmVal
            have hB5 := hB4.kept k5 (by show ¬ w.heap.size = b; omega)
            have hR5 := hR4.kept k5 (by show ¬ w.heap.size + 1 = b; omega)
            have hL5 := hL4.kept k5 (by show ¬ L = b; omega)
            have hX5 := hX4.kept k5 (by show ¬ g = b; omega)
            have hO5 := hO4.kept k5 (by show ¬ g' = b; omega)
            have ka5 := ka4.frame (Same.of_kept k5 (fun k h e => by have := h.1; omega))
            have kc5 := kc4.frame (Same.of_kept k5 (fun k h e => by have := h.1; omega))
            have K5 := K4.trans k5
            have lB5 := hB5.lt
            have y0 : w5.cell? ⟨w.heap.size, 0, none⟩ = some (.int .i64 t'.op) := hB5.cell 0
            have y1 : w5.cell? ⟨w.heap.size, 1, none⟩ = some (.string t'.name) := hB5.cell 1
            have y2 : w5.cell? ⟨w.heap.size, 2, none⟩ = some (.int .i64 t'.n) := hB5.cell 2
            have y3 : w5.cell? ⟨w.heap.size, 3, none⟩ = some (.int .i64 t'.ty.kind) := hB5.cell 3
            have y4 : w5.cell? ⟨w.heap.size, 4, none⟩ = some (.string t'.ty.name) := hB5.cell 4
            have y5 : w5.cell? ⟨w.heap.size, 5, none⟩ = some (.slice ua un uc) := hB5.cell 5
            have y6 : w5.cell? ⟨w.heap.size, 6, none⟩ = some (.slice va vn vc) := hB5.cell 6
            have f0 : w5.frozen? ⟨w.heap.size, 0, none⟩ = false := hB5.frozen 0
            have f1 : w5.frozen? ⟨w.heap.size, 1, none⟩ = false := hB5.frozen 1
            have f2 : w5.frozen? ⟨w.heap.size, 2, none⟩ = false := hB5.frozen 2
            have f3 : w5.frozen? ⟨w.heap.size, 3, none⟩ = false := hB5.frozen 3
            have f4 : w5.frozen? ⟨w.heap.size, 4, none⟩ = false := hB5.frozen 4
            have f5 : w5.frozen? ⟨w.heap.size, 5, none⟩ = false := hB5.frozen 5
            have f6 : w5.frozen? ⟨w.heap.size, 6, none⟩ = false := hB5.frozen 6
            go_upto_region 11 with (fail)
            have ilo := p4.lt
            have z54 := k5.size
            refine wp_gen (fun w6 => PW w6 b s σ2 ∧ Blk w6 w.heap.size 27 (tmCells (nd o [t', u]) (.slice none 0 0) (.slice (some ⟨w5.heap.size + 1, 0, none⟩) 2 2)) ∧ Blk w6 (w.heap.size + 1) 27 z27 ∧ Blk w6 L 117 [.int .i64 (lvGroup n), .slice (some ⟨g, 0, none⟩) (lvSigns n).length (lvSigns n).length, .slice (some ⟨g', 0, none⟩) (lvOps n).length (lvOps n).length] ∧ Blk w6 g 9 ((lvSigns n).map Value.string) ∧ Blk w6 g' 3 ((lvOps n).map (Value.int .i64)) ∧ TmL (okk n0 w.heap.size (w.heap.size + 1)) w6 [t', u] (.slice (some ⟨w5.heap.size + 1, 0, none⟩) 2 2) ∧ Kept (· = b) w w6) ⟨((p7w p5 (by omega) (by omega)).alloc _).alloc _, ((r7 hB5 rfl).alloc _).alloc _, ((b7w hR5 (by omega)).alloc _).alloc _, ((b7w hL5 (by omega)).alloc _).alloc _, ((b7w hX5 (by omega)).alloc _).alloc _, ((b7w hO5 (by omega)).alloc _).alloc _, TmL.two (ty := 27) ⟨by omega, by omega, by omega⟩ (Nat.le_refl _) (Blk.new' 27 _ (by simp)) (((ka5.frame (same7k (Or.inl rfl))).frame (Same.alloc _ _)).frame (Same.alloc _ _)) (((kc5.frame (same7k (Or.inl rfl))).frame (Same.alloc _ _)).frame (Same.alloc _ _)) ((((au.mono (ok' := okk n0 w.heap.size (w.heap.size + 1)) (fun k _ h => ⟨by omega, by omega, by omega⟩)).frame (same7k (Or.inl rfl))).frame (Same.alloc _ _)).frame (Same.alloc _ _)) ((((cu.mono (ok' := okk n0 w.heap.size (w.heap.size + 1)) (fun k _ h => ⟨by omega, by omega, by omega⟩)).frame (same7k (Or.inl rfl))).frame (Same.alloc _ _)).frame (Same.alloc _ _)), ((k7w K5 (Or.inr (Nat.le_refl _))).alloc _).alloc _⟩ ?_
            clear y0 y1 y2 y3 y4 y5 y6 f0 f1 f2 f3 f4 f5 f6
            rintro w6 ⟨p6, hB6, hR6, hL6, hX6, hO6, kc6, K6⟩
            have l0' : w6.cell? ⟨L, 0, none⟩ = some (.int .i64 (lvGroup n)) := hL6.cell 0
            cases hg1 : (lvGroup n != 1)
            case true =>
              have hres : Hid (restS T s n (s.size + 2) t σ = .ok (nd o [t', u], σ2)) := Lib.hid (hq.out.symm.trans (by unfold restS; simp only [HO.out, hz, ha, HIF.out, htt, hg1]))
              have g0 : w6.cell? ⟨w.heap.size + 1, 0, none⟩ = some (.int .i64 0) := hR6.cell 0
              have f0 : w6.frozen? ⟨w.heap.size + 1, 0, none⟩ = false := hR6.frozen 0
              have y0 : w6.cell? ⟨w.heap.size, 0, none⟩ = some (.int .i64 o) := hB6.cell 0
              have g1 : w6.cell? ⟨w.heap.size + 1, 1, none⟩ = some (.string ⟨#[]⟩) := hR6.cell 1
              have f1 : w6.frozen? ⟨w.heap.size + 1, 1, none⟩ = false := hR6.frozen 1
              have y1 : w6.cell? ⟨w.heap.size, 1, none⟩ = some (.string ⟨#[]⟩) := hB6.cell 1
              have g2 : w6.cell? ⟨w.heap.size + 1, 2, none⟩ = some (.int .i64 0) := hR6.cell 2
              have f2 : w6.frozen? ⟨w.heap.size + 1, 2, none⟩ = false := hR6.frozen 2
              have y2 : w6.cell? ⟨w.heap.size, 2, none⟩ = some (.int .i64 0) := hB6.cell 2
              have g3 : w6.cell? ⟨w.heap.size + 1, 3, none⟩ = some (.int .i64 0) := hR6.cell 3
              have f3 : w6.frozen? ⟨w.heap.size + 1, 3, none⟩ = false := hR6.frozen 3
              have y3 : w6.cell? ⟨w.heap.size, 3, none⟩ = some (.int .i64 0) := hB6.cell 3
              have g4 : w6.cell? ⟨w.heap.size + 1, 4, none⟩ = some (.string ⟨#[]⟩) := hR6.cell 4
              have f4 : w6.frozen? ⟨w.heap.size + 1, 4, none⟩ = false := hR6.frozen 4
              have y4 : w6.cell? ⟨w.heap.size, 4, none⟩ = some (.string ⟨#[]⟩) := hB6.cell 4
              have g5 : w6.cell? ⟨w.heap.size + 1, 5, none⟩ = some (.slice none 0 0) := hR6.cell 5
              have f5 : w6.frozen? ⟨w.heap.size + 1, 5, none⟩ = false := hR6.frozen 5
              have y5 : w6.cell? ⟨w.heap.size, 5, none⟩ = some (.slice none 0 0) := hB6.cell 5
              have g6 : w6.cell? ⟨w.heap.size + 1, 6, none⟩ = some (.slice none 0 0) := hR6.cell 6
              have f6 : w6.frozen? ⟨w.heap.size + 1, 6, none⟩ = false := hR6.frozen 6
              have y6 : w6.cell? ⟨w.heap.size, 6, none⟩ = some (.slice (some ⟨w5.heap.size + 1, 0, none⟩) 2 2) := hB6.cell 6
              go_wp2_with fail
              refine ret_tm Tryz.results68 hres.out rfl rfl (r7 hR6 rfl) .nil0 ?_ (p7w p6 (by omega) (by omega)) (k7w K6 (Or.inr (by omega)))
              exact (kc6.frame (same7k (Or.inr rfl))).mono (fun k _ h => h.1)
            case false =>
              have hres : Hid (restS T s n q (nd o [t', u]) σ2 = restS T s n (s.size + 2) t σ) := Lib.hid (Eq.trans (by conv => rhs; unfold restS; simp only [HO.out, hz, ha, HIF.out, htt, hg1]) hq.out)
              go_wp2_with fail
              go_roundg q
              case measure => omega
              case rel => exact ⟨nd o [t', u], σ2, none, 0, 0, _, 2, 2, hres, by omega, by omega, p6, hB6, hR6, hL6, hX6, hO6, .nil0, kc6, K6⟩
end Go.Proofs.YtckjlliobebodaaGreatDoor
