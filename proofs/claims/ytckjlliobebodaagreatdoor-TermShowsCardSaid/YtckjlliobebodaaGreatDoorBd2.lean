/- Texts Rest TermA Lmc After Elem of this proof, in one. -/
import Derived.Test.YtckjlliobebodaaGreatDoorBd1
import Derived.Deep.CutBlock
import Derived.Test.YtckjlliobebodaaGreatDoorBd0
import Derived.StillTail
set_option linter.unusedVariables false
set_option linter.unusedSimpArgs false
namespace Go.Proofs.YtckjlliobebodaaGreatDoor
open Go.RowKit
theorem mu_le (s : ByteArray) (σ : PS) : mu s σ ≤ s.size + 1 := by unfold mu; split <;> omega
def okk (n0 B R : Nat) (k : Nat) : Prop := n0 ≤ k ∧ k ≠ B ∧ k ≠ R
theorem same7k {W : World} {n0 B R c : Nat} {x0 x1 x2 x3 x4 x5 x6 : Value} (h : c = B ∨ c = R) : Same (okk n0 B R) W (((((((W.setCell ⟨c, 0, none⟩ x0).setCell ⟨c, 1, none⟩ x1).setCell ⟨c, 2, none⟩ x2).setCell ⟨c, 3, none⟩ x3).setCell ⟨c, 4, none⟩ x4).setCell ⟨c, 5, none⟩ x5).setCell ⟨c, 6, none⟩ x6) := by
  intro k hk hl
  exact (k7w (S := (· = c)) (Kept.refl _ _) (Or.inl rfl)).block k hl (by rcases h with rfl | rfl; exact hk.2.1; exact hk.2.2)
theorem wp_gen {P : Program} {c : Code} {Q : Exit → Act → World → Prop} {a : Act} {W : World} (F : World → Prop) (hF : F W) (h : ∀ w6, F w6 → Code.wp P c Q a w6) : Code.wp P c Q a W := h W hF
set_option maxHeartbeats 8000000 in
theorem rest_any {b : Nat} {s : ByteArray} {f : Nat} {T : TF} {w : World} {σ : PS} (hT : TC b s f T) (hI : TInv s T) (h : PW w b s σ) (hf : 14 * mu s σ ≤ f) {n : Nat} (hn : lvOK n) (t : Tm) (ta : Option Addr) (tn tc : Nat) (ma : Option Addr) (mn mc n0 : Nat) (hb0 : b < n0) (hn0 : n0 ≤ w.heap.size)
    (a : TyL (fun k => n0 ≤ k) w t.ty.kids (.slice ta tn tc)) (c : TmL (fun k => n0 ≤ k) w t.kids (.slice ma mn mc)) :
    Calls Tryz.prog 68 #[.pointer (some ⟨b, 0, none⟩), tmVal t (.slice ta tn tc) (.slice ma mn mc), .int .i64 n] w (RPost b s (VTm n0) (restS T s n (s.size + 2) t σ) w) := by
  have hlt := h.lt
  have hgl := h.gl.lt
  have hlen := lv_lens hn
  have HLEN := Lib.hid hlen
  clear hlen
  have hn1 : 1 ≤ n := by unfold lvOK at hn; omega
  have hn12 : n ≤ 12 := by unfold lvOK at hn; omega
  unfold tmVal
  have K0 : Kept (· = b) w ((w.alloc (.cells #[.int .i64 t.op, .string t.name, .int .i64 t.n, .int .i64 t.ty.kind, .string t.ty.name, .slice ta tn tc, .slice ma mn mc] 27)).alloc (.cells #[.int .i64 0, .string ⟨#[]⟩, .int .i64 0, .int .i64 0, .string ⟨#[]⟩, .slice none 0 0, .slice none 0 0] 27)) := ((Kept.refl _ _).alloc _).alloc _
  have h0 := (h.alloc (.cells #[.int .i64 t.op, .string t.name, .int .i64 t.n, .int .i64 t.ty.kind, .string t.ty.name, .slice ta tn tc, .slice ma mn mc] 27)).alloc (.cells #[.int .i64 0, .string ⟨#[]⟩, .int .i64 0, .int .i64 0, .string ⟨#[]⟩, .slice none 0 0, .slice none 0 0] 27)
  have hB0 := (Blk.new w 27 (tmCells t (.slice ta tn tc) (.slice ma mn mc))).alloc (.cells #[.int .i64 0, .string ⟨#[]⟩, .int .i64 0, .int .i64 0, .string ⟨#[]⟩, .slice none 0 0, .slice none 0 0] 27)
  have hR0 : Blk ((w.alloc (.cells #[.int .i64 t.op, .string t.name, .int .i64 t.n, .int .i64 t.ty.kind, .string t.ty.name, .slice ta tn tc, .slice ma mn mc] 27)).alloc (.cells #[.int .i64 0, .string ⟨#[]⟩, .int .i64 0, .int .i64 0, .string ⟨#[]⟩, .slice none 0 0, .slice none 0 0] 27)) (w.heap.size + 1) 27 z27 := Blk.new' 27 z27 (by simp)
  have a0 := ((a.mono (ok' := okk n0 w.heap.size (w.heap.size + 1)) (fun k hk h => ⟨h, by omega, by omega⟩)).frame (Same.alloc _ (.cells #[.int .i64 t.op, .string t.name, .int .i64 t.n, .int .i64 t.ty.kind, .string t.ty.name, .slice ta tn tc, .slice ma mn mc] 27))).frame (Same.alloc _ (.cells #[.int .i64 0, .string ⟨#[]⟩, .int .i64 0, .int .i64 0, .string ⟨#[]⟩, .slice none 0 0, .slice none 0 0] 27))
  have c0 := ((c.mono (ok' := okk n0 w.heap.size (w.heap.size + 1)) (fun k hk h => ⟨h, by omega, by omega⟩)).frame (Same.alloc _ (.cells #[.int .i64 t.op, .string t.name, .int .i64 t.n, .int .i64 t.ty.kind, .string t.ty.name, .slice ta tn tc, .slice ma mn mc] 27))).frame (Same.alloc _ (.cells #[.int .i64 0, .string ⟨#[]⟩, .int .i64 0, .int .i64 0, .string ⟨#[]⟩, .slice none 0 0, .slice none 0 0] 27))
  go_enter Tryz.func68, Tryz.ntmps68
  go_wp2_with fail
  refine (levels_at hn _).mono ?_
  rintro e w1 ⟨A, rfl, ⟨g, g', hgg, hgg', hix, hx, ho⟩, hbw⟩
  have k1 : Kept (· = b) _ w1 := Kept.of_below hbw
  have kF : Kept (fun _ => False) _ w1 := Kept.of_below hbw
  have p1 := h0.grow kF id id id
  have hB1 := hB0.kept kF id
  have hR1 := hR0.kept kF id
  have a1 := a0.frame (Same.of_kept kF (fun _ _ => id))
  have c1 := c0.frame (Same.of_kept kF (fun _ _ => id))
  have K1 := K0.trans k1
  have lg := hx.lt
  have lg' := ho.lt
  have lR := hR1.lt
  have zW : ((w.alloc (.cells #[.int .i64 t.op, .string t.name, .int .i64 t.n, .int .i64 t.ty.kind, .string t.ty.name, .slice ta tn tc, .slice ma mn mc] 27)).alloc (.cells #[.int .i64 0, .string ⟨#[]⟩, .int .i64 0, .int .i64 0, .string ⟨#[]⟩, .slice none 0 0, .slice none 0 0] 27)).heap.size = w.heap.size + 2 := by simp
  rw [zW] at hgg hgg'
  clear kF k1 hbw h0 hB0 hR0 a0 c0 K0 zW
  go_wp2_with fail
  have hL2 : Blk (w1.alloc (.cells #[.int .i64 (lvGroup n), .slice (some ⟨g, 0, none⟩) (lvSigns n).length (lvSigns n).length, .slice (some ⟨g', 0, none⟩) (lvOps n).length (lvOps n).length] 117)) w1.heap.size 117 [.int .i64 (lvGroup n), .slice (some ⟨g, 0, none⟩) (lvSigns n).length (lvSigns n).length, .slice (some ⟨g', 0, none⟩) (lvOps n).length (lvOps n).length] := Blk.new w1 117 _
  have p2 := p1.alloc (.cells #[.int .i64 (lvGroup n), .slice (some ⟨g, 0, none⟩) (lvSigns n).length (lvSigns n).length, .slice (some ⟨g', 0, none⟩) (lvOps n).length (lvOps n).length] 117)
  have hB2 := hB1.alloc (.cells #[.int .i64 (lvGroup n), .slice (some ⟨g, 0, none⟩) (lvSigns n).length (lvSigns n).length, .slice (some ⟨g', 0, none⟩) (lvOps n).length (lvOps n).length] 117)
  have hR2 := hR1.alloc (.cells #[.int .i64 (lvGroup n), .slice (some ⟨g, 0, none⟩) (lvSigns n).length (lvSigns n).length, .slice (some ⟨g', 0, none⟩) (lvOps n).length (lvOps n).length] 117)
  have hx2 := hx.alloc (.cells #[.int .i64 (lvGroup n), .slice (some ⟨g, 0, none⟩) (lvSigns n).length (lvSigns n).length, .slice (some ⟨g', 0, none⟩) (lvOps n).length (lvOps n).length] 117)
  have ho2 := ho.alloc (.cells #[.int .i64 (lvGroup n), .slice (some ⟨g, 0, none⟩) (lvSigns n).length (lvSigns n).length, .slice (some ⟨g', 0, none⟩) (lvOps n).length (lvOps n).length] 117)
  have a2 := a1.frame (Same.alloc _ (.cells #[.int .i64 (lvGroup n), .slice (some ⟨g, 0, none⟩) (lvSigns n).length (lvSigns n).length, .slice (some ⟨g', 0, none⟩) (lvOps n).length (lvOps n).length] 117))
  have c2 := c1.frame (Same.alloc _ (.cells #[.int .i64 (lvGroup n), .slice (some ⟨g, 0, none⟩) (lvSigns n).length (lvSigns n).length, .slice (some ⟨g', 0, none⟩) (lvOps n).length (lvOps n).length] 117))
  have K2 := K1.alloc (.cells #[.int .i64 (lvGroup n), .slice (some ⟨g, 0, none⟩) (lvSigns n).length (lvSigns n).length, .slice (some ⟨g', 0, none⟩) (lvOps n).length (lvOps n).length] 117)
  generalize hW : w1.alloc (.cells #[.int .i64 (lvGroup n), .slice (some ⟨g, 0, none⟩) (lvSigns n).length (lvSigns n).length, .slice (some ⟨g', 0, none⟩) (lvOps n).length (lvOps n).length] 117) = w2 at *
  generalize w1.heap.size = L at *
  clear hW hix p1 hB1 hR1 hx ho a1 c1 K1
  go_loopg [8] (s.size + 2) (fun m _ wr => ∃ (t' : Tm) (σ' : PS) (ua : Option Addr) (un uc : Nat) (va : Option Addr) (vn vc : Nat), Hid (restS T s n m t' σ' = restS T s n (s.size + 2) t σ) ∧ mu s σ' < m ∧ mu s σ' ≤ mu s σ ∧ PW wr b s σ' ∧ Blk wr w.heap.size 27 (tmCells t' (.slice ua un uc) (.slice va vn vc)) ∧ Blk wr (w.heap.size + 1) 27 z27 ∧ Blk wr L 117 [.int .i64 (lvGroup n), .slice (some ⟨g, 0, none⟩) (lvSigns n).length (lvSigns n).length, .slice (some ⟨g', 0, none⟩) (lvOps n).length (lvOps n).length] ∧ Blk wr g 9 ((lvSigns n).map Value.string) ∧ Blk wr g' 3 ((lvOps n).map (Value.int .i64)) ∧ TyL (okk n0 w.heap.size (w.heap.size + 1)) wr t'.ty.kids (.slice ua un uc) ∧ TmL (okk n0 w.heap.size (w.heap.size + 1)) wr t'.kids (.slice va vn vc) ∧ Kept (· = b) w wr)
  case atStart => exact ⟨t, σ, ta, tn, tc, ma, mn, mc, Lib.hid rfl, by have := mu_le s σ; omega, Nat.le_refl _, p2, hB2, hR2, hL2, hx2, ho2, a2, c2, K2⟩
  case round =>
    clear p2 hB2 hR2 hL2 hx2 ho2 a2 c2 K2
    obtain ⟨t', σ', ua, un, uc, va, vn, vc, hq, hm, hmm, p, hB, hR, hL, hX, hO, ka, kc, K⟩ := hrel
    obtain ⟨q, rfl⟩ : ∃ q, gk = q + 1 := ⟨gk - 1, by omega⟩
    have l0 : wr.cell? ⟨L, 0, none⟩ = some (.int .i64 (lvGroup n)) := hL.cell 0
    have l1 : wr.cell? ⟨L, 1, none⟩ = some (.slice (some ⟨g, 0, none⟩) (lvSigns n).length (lvSigns n).length) := hL.cell 1
    have l2 : wr.cell? ⟨L, 2, none⟩ = some (.slice (some ⟨g', 0, none⟩) (lvOps n).length (lvOps n).length) := hL.cell 2
    go_wp2_with fail
    refine (operator_any p (lvGroup n) (lvSigns n) (lvOps n) g g' HLEN.out.1 HLEN.out.2 hX hO).mono ?_
    rintro e w3 ⟨rfl, hb3⟩
    have kF : Kept (fun _ => False) wr w3 := Kept.of_below hb3
    have p3 := p.grow kF id id id
    have hB3 := hB.kept kF id
    have hR3 := hR.kept kF id
    have hL3 := hL.kept kF id
    have hX3 := hX.kept kF id
    have hO3 := hO.kept kF id
    have ka3 := ka.frame (Same.of_kept kF (fun _ _ => id))
    have kc3 := kc.frame (Same.of_kept kF (fun _ _ => id))
    have K3 := K.trans (Kept.of_below hb3)
    clear kF p hB hR hL hX hO ka kc K hb3 l0 l1 l2
    have HO : Hid (opOf n σ' = opGo σ' (lvSigns n) (lvOps n)) := Lib.hid rfl
    have HNE : Hid (opGo σ' (lvSigns n) (lvOps n) ≠ 0 → σ'.k ≠ 0) := Lib.hid opGo_ne
    generalize opGo σ' (lvSigns n) (lvOps n) = o at *
    have g0 : w3.cell? ⟨w.heap.size + 1, 0, none⟩ = some (.int .i64 0) := hR3.cell 0
    have g1 : w3.cell? ⟨w.heap.size + 1, 1, none⟩ = some (.string ⟨#[]⟩) := hR3.cell 1
    have g2 : w3.cell? ⟨w.heap.size + 1, 2, none⟩ = some (.int .i64 0) := hR3.cell 2
    have g3 : w3.cell? ⟨w.heap.size + 1, 3, none⟩ = some (.int .i64 0) := hR3.cell 3
    have g4 : w3.cell? ⟨w.heap.size + 1, 4, none⟩ = some (.string ⟨#[]⟩) := hR3.cell 4
    have g5 : w3.cell? ⟨w.heap.size + 1, 5, none⟩ = some (.slice none 0 0) := hR3.cell 5
    have g6 : w3.cell? ⟨w.heap.size + 1, 6, none⟩ = some (.slice none 0 0) := hR3.cell 6
    have f0 : w3.frozen? ⟨w.heap.size + 1, 0, none⟩ = false := hR3.frozen 0
    have f1 : w3.frozen? ⟨w.heap.size + 1, 1, none⟩ = false := hR3.frozen 1
    have f2 : w3.frozen? ⟨w.heap.size + 1, 2, none⟩ = false := hR3.frozen 2
    have f3 : w3.frozen? ⟨w.heap.size + 1, 3, none⟩ = false := hR3.frozen 3
    have f4 : w3.frozen? ⟨w.heap.size + 1, 4, none⟩ = false := hR3.frozen 4
    have f5 : w3.frozen? ⟨w.heap.size + 1, 5, none⟩ = false := hR3.frozen 5
    have f6 : w3.frozen? ⟨w.heap.size + 1, 6, none⟩ = false := hR3.frozen 6
    have y0 : w3.cell? ⟨w.heap.size, 0, none⟩ = some (.int .i64 t'.op) := hB3.cell 0
    have y1 : w3.cell? ⟨w.heap.size, 1, none⟩ = some (.string t'.name) := hB3.cell 1
    have y2 : w3.cell? ⟨w.heap.size, 2, none⟩ = some (.int .i64 t'.n) := hB3.cell 2
    have y3 : w3.cell? ⟨w.heap.size, 3, none⟩ = some (.int .i64 t'.ty.kind) := hB3.cell 3
    have y4 : w3.cell? ⟨w.heap.size, 4, none⟩ = some (.string t'.ty.name) := hB3.cell 4
    have y5 : w3.cell? ⟨w.heap.size, 5, none⟩ = some (.slice ua un uc) := hB3.cell 5
    have y6 : w3.cell? ⟨w.heap.size, 6, none⟩ = some (.slice va vn vc) := hB3.cell 6
    cases hz : (o == 0)
    case true =>
      have hres : Hid (restS T s n (s.size + 2) t σ = .ok (t', σ')) := Lib.hid (hq.out.symm.trans (by unfold restS; simp only [HO.out, hz]))
      go_wp2_with fail
      refine ret_tm Tryz.results68 hres.out rfl rfl (r7 hR3 rfl) ?_ ?_ (p7w p3 (by omega) (by omega)) (k7w K3 (Or.inr (by omega)))
      · exact (ka3.frame (same7k (Or.inr rfl))).mono (fun k _ h => h.1)
      · exact (kc3.frame (same7k (Or.inr rfl))).mono (fun k _ h => h.1)
    case false =>
      clear g0 g1 g2 g3 g4 g5 g6 f0 f1 f2 f3 f4 f5 f6 y0 y1 y2 y3 y4 y5 y6
      have hne := HNE.out (ne_of_beq_false hz)
      go_wp2_with fail
      cases ha : advS s σ' with
      | error r =>
        have hres : Hid (restS T s n (s.size + 2) t σ = .error r) := Lib.hid (hq.out.symm.trans (by unfold restS; simp only [HO.out, hz, ha]))
        refine (adv_err p3 ha).mono ?_
        rintro e w4 ⟨rfl, k4⟩
        go_wp2_with fail
        exact ⟨rfl, RPost.err hres.out ⟨rfl, K3.trans k4⟩⟩
      | ok σ1 =>
        have i1 := inv_adv p3.le hne ha
        refine (adv_ok p3 ha).mono ?_
        rintro e w4 ⟨rfl, p4, k4⟩
        have hB4 := hB3.kept k4 (by show ¬ w.heap.size = b; omega)
        have hR4 := hR3.kept k4 (by show ¬ w.heap.size + 1 = b; omega)
        have hL4 := hL3.kept k4 (by show ¬ L = b; omega)
        have hX4 := hX3.kept k4 (by show ¬ g = b; omega)
        have hO4 := hO3.kept k4 (by show ¬ g' = b; omega)
        have ka4 := ka3.frame (Same.of_kept k4 (fun k h e => by have := h.1; omega))
        have kc4 := kc3.frame (Same.of_kept k4 (fun k h e => by have := h.1; omega))
        have K4 := K3.trans k4
        have l0 : w4.cell? ⟨L, 0, none⟩ = some (.int .i64 (lvGroup n)) := hL4.cell 0
        have hb4 := p4.lt
        have lL4 := hL4.lt
        have lR4 := hR4.lt
        clear k4 p3 hB3 hR3 hL3 hX3 hO3 ka3 kc3 K3
        cases hg2 : (lvGroup n == 2)
        case true =>
          have HIF : Hid ((if lvGroup n = 2 then n else n + 1) = n) := Lib.hid (if_pos (eq_of_beq hg2))
          go_wp2_with fail
          refine (hT n (n : Int) rfl σ1 _ (by omega) (by omega) p4 (by omega)).mono ?_
          rintro e w5 hr
          cases htt : T n σ1 with
          | error r =>
            have hres : Hid (restS T s n (s.size + 2) t σ = .error r) := Lib.hid (hq.out.symm.trans (by unfold restS; simp only [HO.out, hz, ha, HIF.out, htt]))
            obtain ⟨rfl, k5⟩ := hr.getErr htt
            clear hr
            go_wp2_with fail
            exact ⟨rfl, RPost.err hres.out ⟨rfl, K4.trans k5⟩⟩
          | ok q5 =>
            obtain ⟨u, σ2⟩ := q5
            obtain ⟨v, rfl, ⟨tk5, kk5, rfl, au, cu⟩, p5, k5⟩ := hr.getOk htt
            clear hr
            have i2 := (hI _ _ _ _ p4.le htt).1
            unfold Inv at i2
            obtain ⟨ta5, tn5, tc5, rfl⟩ := au.slice
            obtain ⟨ma5, mn5, mc5, rfl⟩ := cu.slice
            unfold tmVal
            have hB5 := hB4.kept k5 (by show ¬ w.heap.size = b; omega)
            have hR5 := hR4.kept k5 (by show ¬ w.heap.size + 1 = b; omega)
            have hL5 := hL4.kept k5 (by show ¬ L = b; omega)
            have hX5 := hX4.kept k5 (by show ¬ g = b; omega)
            have hO5 := hO4.kept k5 (by show ¬ g' = b; omega)
            have ka5 := ka4.frame (Same.of_kept k5 (fun k h e => by have := h.1; omega))
            have kc5 := kc4.frame (Same.of_kept k5 (fun k h e => by have := h.1; omega))
            have K5 := K4.trans k5
            have lB5 := hB5.lt
            have y0 : w5.cell? ⟨w.heap.size, 0, none⟩ = some (.int .i64 t'.op) := hB5.cell 0
            have y1 : w5.cell? ⟨w.heap.size, 1, none⟩ = some (.string t'.name) := hB5.cell 1
            have y2 : w5.cell? ⟨w.heap.size, 2, none⟩ = some (.int .i64 t'.n) := hB5.cell 2
            have y3 : w5.cell? ⟨w.heap.size, 3, none⟩ = some (.int .i64 t'.ty.kind) := hB5.cell 3
            have y4 : w5.cell? ⟨w.heap.size, 4, none⟩ = some (.string t'.ty.name) := hB5.cell 4
            have y5 : w5.cell? ⟨w.heap.size, 5, none⟩ = some (.slice ua un uc) := hB5.cell 5
            have y6 : w5.cell? ⟨w.heap.size, 6, none⟩ = some (.slice va vn vc) := hB5.cell 6
            have f0 : w5.frozen? ⟨w.heap.size, 0, none⟩ = false := hB5.frozen 0
            have f1 : w5.frozen? ⟨w.heap.size, 1, none⟩ = false := hB5.frozen 1
            have f2 : w5.frozen? ⟨w.heap.size, 2, none⟩ = false := hB5.frozen 2
            have f3 : w5.frozen? ⟨w.heap.size, 3, none⟩ = false := hB5.frozen 3
            have f4 : w5.frozen? ⟨w.heap.size, 4, none⟩ = false := hB5.frozen 4
            have f5 : w5.frozen? ⟨w.heap.size, 5, none⟩ = false := hB5.frozen 5
            have f6 : w5.frozen? ⟨w.heap.size, 6, none⟩ = false := hB5.frozen 6
            go_upto_region 11 with (fail)
            have ilo := p4.lt
            have z54 := k5.size
            refine wp_gen (fun w6 => PW w6 b s σ2 ∧ Blk w6 w.heap.size 27 (tmCells (nd o [t', u]) (.slice none 0 0) (.slice (some ⟨w5.heap.size + 1, 0, none⟩) 2 2)) ∧ Blk w6 (w.heap.size + 1) 27 z27 ∧ Blk w6 L 117 [.int .i64 (lvGroup n), .slice (some ⟨g, 0, none⟩) (lvSigns n).length (lvSigns n).length, .slice (some ⟨g', 0, none⟩) (lvOps n).length (lvOps n).length] ∧ Blk w6 g 9 ((lvSigns n).map Value.string) ∧ Blk w6 g' 3 ((lvOps n).map (Value.int .i64)) ∧ TmL (okk n0 w.heap.size (w.heap.size + 1)) w6 [t', u] (.slice (some ⟨w5.heap.size + 1, 0, none⟩) 2 2) ∧ Kept (· = b) w w6) ⟨((p7w p5 (by omega) (by omega)).alloc _).alloc _, ((r7 hB5 rfl).alloc _).alloc _, ((b7w hR5 (by omega)).alloc _).alloc _, ((b7w hL5 (by omega)).alloc _).alloc _, ((b7w hX5 (by omega)).alloc _).alloc _, ((b7w hO5 (by omega)).alloc _).alloc _, TmL.two (ty := 27) ⟨by omega, by omega, by omega⟩ (Nat.le_refl _) (Blk.new' 27 _ (by simp)) (((ka5.frame (same7k (Or.inl rfl))).frame (Same.alloc _ _)).frame (Same.alloc _ _)) (((kc5.frame (same7k (Or.inl rfl))).frame (Same.alloc _ _)).frame (Same.alloc _ _)) ((((au.mono (ok' := okk n0 w.heap.size (w.heap.size + 1)) (fun k _ h => ⟨by omega, by omega, by omega⟩)).frame (same7k (Or.inl rfl))).frame (Same.alloc _ _)).frame (Same.alloc _ _)) ((((cu.mono (ok' := okk n0 w.heap.size (w.heap.size + 1)) (fun k _ h => ⟨by omega, by omega, by omega⟩)).frame (same7k (Or.inl rfl))).frame (Same.alloc _ _)).frame (Same.alloc _ _)), ((k7w K5 (Or.inr (Nat.le_refl _))).alloc _).alloc _⟩ ?_
            clear y0 y1 y2 y3 y4 y5 y6 f0 f1 f2 f3 f4 f5 f6
            rintro w6 ⟨p6, hB6, hR6, hL6, hX6, hO6, kc6, K6⟩
            have l0' : w6.cell? ⟨L, 0, none⟩ = some (.int .i64 (lvGroup n)) := hL6.cell 0
            cases hg1 : (lvGroup n != 1)
            case true =>
              have hres : Hid (restS T s n (s.size + 2) t σ = .ok (nd o [t', u], σ2)) := Lib.hid (hq.out.symm.trans (by unfold restS; simp only [HO.out, hz, ha, HIF.out, htt, hg1]))
              have g0 : w6.cell? ⟨w.heap.size + 1, 0, none⟩ = some (.int .i64 0) := hR6.cell 0
              have f0 : w6.frozen? ⟨w.heap.size + 1, 0, none⟩ = false := hR6.frozen 0
              have y0 : w6.cell? ⟨w.heap.size, 0, none⟩ = some (.int .i64 o) := hB6.cell 0
              have g1 : w6.cell? ⟨w.heap.size + 1, 1, none⟩ = some (.string ⟨#[]⟩) := hR6.cell 1
              have f1 : w6.frozen? ⟨w.heap.size + 1, 1, none⟩ = false := hR6.frozen 1
              have y1 : w6.cell? ⟨w.heap.size, 1, none⟩ = some (.string ⟨#[]⟩) := hB6.cell 1
              have g2 : w6.cell? ⟨w.heap.size + 1, 2, none⟩ = some (.int .i64 0) := hR6.cell 2
              have f2 : w6.frozen? ⟨w.heap.size + 1, 2, none⟩ = false := hR6.frozen 2
              have y2 : w6.cell? ⟨w.heap.size, 2, none⟩ = some (.int .i64 0) := hB6.cell 2
              have g3 : w6.cell? ⟨w.heap.size + 1, 3, none⟩ = some (.int .i64 0) := hR6.cell 3
              have f3 : w6.frozen? ⟨w.heap.size + 1, 3, none⟩ = false := hR6.frozen 3
              have y3 : w6.cell? ⟨w.heap.size, 3, none⟩ = some (.int .i64 0) := hB6.cell 3
              have g4 : w6.cell? ⟨w.heap.size + 1, 4, none⟩ = some (.string ⟨#[]⟩) := hR6.cell 4
              have f4 : w6.frozen? ⟨w.heap.size + 1, 4, none⟩ = false := hR6.frozen 4
              have y4 : w6.cell? ⟨w.heap.size, 4, none⟩ = some (.string ⟨#[]⟩) := hB6.cell 4
              have g5 : w6.cell? ⟨w.heap.size + 1, 5, none⟩ = some (.slice none 0 0) := hR6.cell 5
              have f5 : w6.frozen? ⟨w.heap.size + 1, 5, none⟩ = false := hR6.frozen 5
              have y5 : w6.cell? ⟨w.heap.size, 5, none⟩ = some (.slice none 0 0) := hB6.cell 5
              have g6 : w6.cell? ⟨w.heap.size + 1, 6, none⟩ = some (.slice none 0 0) := hR6.cell 6
              have f6 : w6.frozen? ⟨w.heap.size + 1, 6, none⟩ = false := hR6.frozen 6
              have y6 : w6.cell? ⟨w.heap.size, 6, none⟩ = some (.slice (some ⟨w5.heap.size + 1, 0, none⟩) 2 2) := hB6.cell 6
              go_wp2_with fail
              refine ret_tm Tryz.results68 hres.out rfl rfl (r7 hR6 rfl) .nil0 ?_ (p7w p6 (by omega) (by omega)) (k7w K6 (Or.inr (by omega)))
              exact (kc6.frame (same7k (Or.inr rfl))).mono (fun k _ h => h.1)
            case false =>
              have hres : Hid (restS T s n q (nd o [t', u]) σ2 = restS T s n (s.size + 2) t σ) := Lib.hid (Eq.trans (by conv => rhs; unfold restS; simp only [HO.out, hz, ha, HIF.out, htt, hg1]) hq.out)
              go_wp2_with fail
              go_roundg q
              case measure => omega
              case rel => exact ⟨nd o [t', u], σ2, none, 0, 0, _, 2, 2, hres, by omega, by omega, p6, hB6, hR6, hL6, hX6, hO6, .nil0, kc6, K6⟩
        case false =>
          have HIF : Hid ((if lvGroup n = 2 then n else n + 1) = n + 1) := Lib.hid (if_neg (ne_of_beq_false hg2))
          go_wp2_with fail
          refine (hT (n + 1) ((n : Int) + 1) (by omega) σ1 _ (by omega) (by omega) p4 (by omega)).mono ?_
          rintro e w5 hr
          cases htt : T (n + 1) σ1 with
          | error r =>
            have hres : Hid (restS T s n (s.size + 2) t σ = .error r) := Lib.hid (hq.out.symm.trans (by unfold restS; simp only [HO.out, hz, ha, HIF.out, htt]))
            obtain ⟨rfl, k5⟩ := hr.getErr htt
            clear hr
            go_wp2_with fail
            exact ⟨rfl, RPost.err hres.out ⟨rfl, K4.trans k5⟩⟩
          | ok q5 =>
            obtain ⟨u, σ2⟩ := q5
            obtain ⟨v, rfl, ⟨tk5, kk5, rfl, au, cu⟩, p5, k5⟩ := hr.getOk htt
            clear hr
            have i2 := (hI _ _ _ _ p4.le htt).1
            unfold Inv at i2
            obtain ⟨ta5, tn5, tc5, rfl⟩ := au.slice
            obtain ⟨ma5, mn5, mc5, rfl⟩ := cu.slice
            unfold tmVal
            have hB5 := hB4.kept k5 (by show ¬ w.heap.size = b; omega)
            have hR5 := hR4.kept k5 (by show ¬ w.heap.size + 1 = b; omega)
            have hL5 := hL4.kept k5 (by show ¬ L = b; omega)
            have hX5 := hX4.kept k5 (by show ¬ g = b; omega)
            have hO5 := hO4.kept k5 (by show ¬ g' = b; omega)
            have ka5 := ka4.frame (Same.of_kept k5 (fun k h e => by have := h.1; omega))
            have kc5 := kc4.frame (Same.of_kept k5 (fun k h e => by have := h.1; omega))
            have K5 := K4.trans k5
            have lB5 := hB5.lt
            have y0 : w5.cell? ⟨w.heap.size, 0, none⟩ = some (.int .i64 t'.op) := hB5.cell 0
            have y1 : w5.cell? ⟨w.heap.size, 1, none⟩ = some (.string t'.name) := hB5.cell 1
            have y2 : w5.cell? ⟨w.heap.size, 2, none⟩ = some (.int .i64 t'.n) := hB5.cell 2
            have y3 : w5.cell? ⟨w.heap.size, 3, none⟩ = some (.int .i64 t'.ty.kind) := hB5.cell 3
            have y4 : w5.cell? ⟨w.heap.size, 4, none⟩ = some (.string t'.ty.name) := hB5.cell 4
            have y5 : w5.cell? ⟨w.heap.size, 5, none⟩ = some (.slice ua un uc) := hB5.cell 5
            have y6 : w5.cell? ⟨w.heap.size, 6, none⟩ = some (.slice va vn vc) := hB5.cell 6
            have f0 : w5.frozen? ⟨w.heap.size, 0, none⟩ = false := hB5.frozen 0
            have f1 : w5.frozen? ⟨w.heap.size, 1, none⟩ = false := hB5.frozen 1
            have f2 : w5.frozen? ⟨w.heap.size, 2, none⟩ = false := hB5.frozen 2
            have f3 : w5.frozen? ⟨w.heap.size, 3, none⟩ = false := hB5.frozen 3
            have f4 : w5.frozen? ⟨w.heap.size, 4, none⟩ = false := hB5.frozen 4
            have f5 : w5.frozen? ⟨w.heap.size, 5, none⟩ = false := hB5.frozen 5
            have f6 : w5.frozen? ⟨w.heap.size, 6, none⟩ = false := hB5.frozen 6
            go_upto_region 11 with (fail)
            have ilo := p4.lt
            have z54 := k5.size
            refine wp_gen (fun w6 => PW w6 b s σ2 ∧ Blk w6 w.heap.size 27 (tmCells (nd o [t', u]) (.slice none 0 0) (.slice (some ⟨w5.heap.size + 1, 0, none⟩) 2 2)) ∧ Blk w6 (w.heap.size + 1) 27 z27 ∧ Blk w6 L 117 [.int .i64 (lvGroup n), .slice (some ⟨g, 0, none⟩) (lvSigns n).length (lvSigns n).length, .slice (some ⟨g', 0, none⟩) (lvOps n).length (lvOps n).length] ∧ Blk w6 g 9 ((lvSigns n).map Value.string) ∧ Blk w6 g' 3 ((lvOps n).map (Value.int .i64)) ∧ TmL (okk n0 w.heap.size (w.heap.size + 1)) w6 [t', u] (.slice (some ⟨w5.heap.size + 1, 0, none⟩) 2 2) ∧ Kept (· = b) w w6) ⟨((p7w p5 (by omega) (by omega)).alloc _).alloc _, ((r7 hB5 rfl).alloc _).alloc _, ((b7w hR5 (by omega)).alloc _).alloc _, ((b7w hL5 (by omega)).alloc _).alloc _, ((b7w hX5 (by omega)).alloc _).alloc _, ((b7w hO5 (by omega)).alloc _).alloc _, TmL.two (ty := 27) ⟨by omega, by omega, by omega⟩ (Nat.le_refl _) (Blk.new' 27 _ (by simp)) (((ka5.frame (same7k (Or.inl rfl))).frame (Same.alloc _ _)).frame (Same.alloc _ _)) (((kc5.frame (same7k (Or.inl rfl))).frame (Same.alloc _ _)).frame (Same.alloc _ _)) ((((au.mono (ok' := okk n0 w.heap.size (w.heap.size + 1)) (fun k _ h => ⟨by omega, by omega, by omega⟩)).frame (same7k (Or.inl rfl))).frame (Same.alloc _ _)).frame (Same.alloc _ _)) ((((cu.mono (ok' := okk n0 w.heap.size (w.heap.size + 1)) (fun k _ h => ⟨by omega, by omega, by omega⟩)).frame (same7k (Or.inl rfl))).frame (Same.alloc _ _)).frame (Same.alloc _ _)), ((k7w K5 (Or.inr (Nat.le_refl _))).alloc _).alloc _⟩ ?_
            clear y0 y1 y2 y3 y4 y5 y6 f0 f1 f2 f3 f4 f5 f6
            rintro w6 ⟨p6, hB6, hR6, hL6, hX6, hO6, kc6, K6⟩
            have l0' : w6.cell? ⟨L, 0, none⟩ = some (.int .i64 (lvGroup n)) := hL6.cell 0
            cases hg1 : (lvGroup n != 1)
            case true =>
              have hres : Hid (restS T s n (s.size + 2) t σ = .ok (nd o [t', u], σ2)) := Lib.hid (hq.out.symm.trans (by unfold restS; simp only [HO.out, hz, ha, HIF.out, htt, hg1]))
              have g0 : w6.cell? ⟨w.heap.size + 1, 0, none⟩ = some (.int .i64 0) := hR6.cell 0
              have f0 : w6.frozen? ⟨w.heap.size + 1, 0, none⟩ = false := hR6.frozen 0
              have y0 : w6.cell? ⟨w.heap.size, 0, none⟩ = some (.int .i64 o) := hB6.cell 0
              have g1 : w6.cell? ⟨w.heap.size + 1, 1, none⟩ = some (.string ⟨#[]⟩) := hR6.cell 1
              have f1 : w6.frozen? ⟨w.heap.size + 1, 1, none⟩ = false := hR6.frozen 1
              have y1 : w6.cell? ⟨w.heap.size, 1, none⟩ = some (.string ⟨#[]⟩) := hB6.cell 1
              have g2 : w6.cell? ⟨w.heap.size + 1, 2, none⟩ = some (.int .i64 0) := hR6.cell 2
              have f2 : w6.frozen? ⟨w.heap.size + 1, 2, none⟩ = false := hR6.frozen 2
              have y2 : w6.cell? ⟨w.heap.size, 2, none⟩ = some (.int .i64 0) := hB6.cell 2
              have g3 : w6.cell? ⟨w.heap.size + 1, 3, none⟩ = some (.int .i64 0) := hR6.cell 3
              have f3 : w6.frozen? ⟨w.heap.size + 1, 3, none⟩ = false := hR6.frozen 3
              have y3 : w6.cell? ⟨w.heap.size, 3, none⟩ = some (.int .i64 0) := hB6.cell 3
              have g4 : w6.cell? ⟨w.heap.size + 1, 4, none⟩ = some (.string ⟨#[]⟩) := hR6.cell 4
              have f4 : w6.frozen? ⟨w.heap.size + 1, 4, none⟩ = false := hR6.frozen 4
              have y4 : w6.cell? ⟨w.heap.size, 4, none⟩ = some (.string ⟨#[]⟩) := hB6.cell 4
              have g5 : w6.cell? ⟨w.heap.size + 1, 5, none⟩ = some (.slice none 0 0) := hR6.cell 5
              have f5 : w6.frozen? ⟨w.heap.size + 1, 5, none⟩ = false := hR6.frozen 5
              have y5 : w6.cell? ⟨w.heap.size, 5, none⟩ = some (.slice none 0 0) := hB6.cell 5
              have g6 : w6.cell? ⟨w.heap.size + 1, 6, none⟩ = some (.slice none 0 0) := hR6.cell 6
              have f6 : w6.frozen? ⟨w.heap.size + 1, 6, none⟩ = false := hR6.frozen 6
              have y6 : w6.cell? ⟨w.heap.size, 6, none⟩ = some (.slice (some ⟨w5.heap.size + 1, 0, none⟩) 2 2) := hB6.cell 6
              go_wp2_with fail
              refine ret_tm Tryz.results68 hres.out rfl rfl (r7 hR6 rfl) .nil0 ?_ (p7w p6 (by omega) (by omega)) (k7w K6 (Or.inr (by omega)))
              exact (kc6.frame (same7k (Or.inr rfl))).mono (fun k _ h => h.1)
            case false =>
              have hres : Hid (restS T s n q (nd o [t', u]) σ2 = restS T s n (s.size + 2) t σ) := Lib.hid (Eq.trans (by conv => rhs; unfold restS; simp only [HO.out, hz, ha, HIF.out, htt, hg1]) hq.out)
              go_wp2_with fail
              go_roundg q
              case measure => omega
              case rel => exact ⟨nd o [t', u], σ2, none, 0, 0, _, 2, 2, hres, by omega, by omega, p6, hB6, hR6, hL6, hX6, hO6, .nil0, kc6, K6⟩
set_option maxHeartbeats 4000000 in
theorem inside_any {b : Nat} {s : ByteArray} {f : Nat} {T : TF} {w : World} {σ : PS} (hT : TC b s f T) (hI : TInv s T) (h : PW w b s σ) (hf : 14 * mu s σ ≤ f) (o c : ByteArray) :
    Calls Tryz.prog 117 #[.pointer (some ⟨b, 0, none⟩), .string o, .string c] w (RPost b s (VTm w.heap.size) (insideS T s o c σ) w) := by
  have hlt := h.lt
  have hgl := h.gl.lt
  have h0 := h.alloc (.cells #[.int .i64 0, .string ⟨#[]⟩, .int .i64 0, .int .i64 0, .string ⟨#[]⟩, .slice none 0 0, .slice none 0 0] 27)
  have hR0 : Blk (w.alloc (.cells #[.int .i64 0, .string ⟨#[]⟩, .int .i64 0, .int .i64 0, .string ⟨#[]⟩, .slice none 0 0, .slice none 0 0] 27)) w.heap.size 27 z27 := Blk.new w 27 z27
  have K0 : Kept (· = b) w (w.alloc (.cells #[.int .i64 0, .string ⟨#[]⟩, .int .i64 0, .int .i64 0, .string ⟨#[]⟩, .slice none 0 0, .slice none 0 0] 27)) := (Kept.refl _ _).alloc _
  have zw0 : (w.alloc (.cells #[.int .i64 0, .string ⟨#[]⟩, .int .i64 0, .int .i64 0, .string ⟨#[]⟩, .slice none 0 0, .slice none 0 0] 27)).heap.size = w.heap.size + 1 := by simp
  have Z0 := Lib.hid zw0
  clear zw0
  go_enter Tryz.func117, Tryz.ntmps117
  go_wp2_with fail
  cases h_1 : openS s σ o with
  | error r =>
    have hq : Hid (insideS T s o c σ = .error r) := Lib.hid (by unfold insideS; simp only [h_1])
    refine (open_err h0 o h_1).mono ?_
    rintro e w1 ⟨rfl, k1⟩
    go_wp2_with fail
    exact ⟨rfl, RPost.err hq.out ⟨rfl, K0.trans k1⟩⟩
  | ok σ1 =>
    have i_1 := inv_open h0.le h_1
    refine (open_ok h0 o h_1).mono ?_
    rintro e w1 ⟨rfl, p1, k1⟩
    have hR_1 := hR0.kept k1 (by show ¬ w.heap.size = b; omega)
    have K1 := K0.trans k1
    have lb1 := p1.lt
    have zz1 := K1.size
    have zk1 := k1.size
    have lR1 := hR_1.lt
    go_wp2_with fail
    have lo2 := p1.lt
    refine (hT 1 1 rfl σ1 _ (by decide) (by decide) p1 (by omega)).mono ?_
    rintro e w2 hr
    cases h_2 : T 1 σ1 with
    | error r =>
      have hq : Hid (insideS T s o c σ = .error r) := Lib.hid (by unfold insideS; simp only [h_1, h_2])
      obtain ⟨rfl, k2⟩ := hr.getErr h_2
      clear hr
      go_wp2_with fail
      exact ⟨rfl, RPost.err hq.out ⟨rfl, K1.trans k2⟩⟩
    | ok q2 =>
      obtain ⟨t2, σ2⟩ := q2
      obtain ⟨v, rfl, ⟨tk2, kk2, rfl, at2, ct2⟩, p2, k2⟩ := hr.getOk h_2
      clear hr
      have j_2 := hI _ _ _ _ p1.le h_2
      have i_2 := j_2.1
      try unfold Inv at i_2
      try unfold Inv1 at i_2
      obtain ⟨ta2, tn2, tc2, rfl⟩ := at2.slice
      obtain ⟨ma2, mn2, mc2, rfl⟩ := ct2.slice
      unfold tmVal
      have hR_2 := hR_1.kept k2 (by show ¬ w.heap.size = b; omega)
      have K2 := K1.trans k2
      have lb2 := p2.lt
      have zz2 := K2.size
      have zk2 := k2.size
      have lR2 := hR_2.lt
      have h0_2 := p2.alloc (.cells #[.int .i64 t2.op, .string t2.name, .int .i64 t2.n, .int .i64 t2.ty.kind, .string t2.ty.name, .slice ta2 tn2 tc2, .slice ma2 mn2 mc2] 27)
      have K0_2 := K2.alloc (.cells #[.int .i64 t2.op, .string t2.name, .int .i64 t2.n, .int .i64 t2.ty.kind, .string t2.ty.name, .slice ta2 tn2 tc2, .slice ma2 mn2 mc2] 27)
      have hxR_2 := hR_2.alloc (.cells #[.int .i64 t2.op, .string t2.name, .int .i64 t2.n, .int .i64 t2.ty.kind, .string t2.ty.name, .slice ta2 tn2 tc2, .slice ma2 mn2 mc2] 27)
      have hLt2_2 : Blk (w2.alloc (.cells #[.int .i64 t2.op, .string t2.name, .int .i64 t2.n, .int .i64 t2.ty.kind, .string t2.ty.name, .slice ta2 tn2 tc2, .slice ma2 mn2 mc2] 27)) w2.heap.size 27 (tmCells t2 (.slice ta2 tn2 tc2) (.slice ma2 mn2 mc2)) := Blk.new w2 27 _
      have axt2_2 := at2.frame (Same.alloc _ (.cells #[.int .i64 t2.op, .string t2.name, .int .i64 t2.n, .int .i64 t2.ty.kind, .string t2.ty.name, .slice ta2 tn2 tc2, .slice ma2 mn2 mc2] 27))
      have cxt2_2 := ct2.frame (Same.alloc _ (.cells #[.int .i64 t2.op, .string t2.name, .int .i64 t2.n, .int .i64 t2.ty.kind, .string t2.ty.name, .slice ta2 tn2 tc2, .slice ma2 mn2 mc2] 27))
      have zw2 : (w2.alloc (.cells #[.int .i64 t2.op, .string t2.name, .int .i64 t2.n, .int .i64 t2.ty.kind, .string t2.ty.name, .slice ta2 tn2 tc2, .slice ma2 mn2 mc2] 27)).heap.size = w2.heap.size + 1 := by simp
      have Z2 := Lib.hid zw2
      clear zw2
      go_wp2_with fail
      cases h_3 : shutS s σ2 c with
      | error r =>
        have hq : Hid (insideS T s o c σ = .error r) := Lib.hid (by unfold insideS; simp only [h_1, h_2, h_3])
        refine (shut_err h0_2 c h_3).mono ?_
        rintro e w3 ⟨rfl, k3⟩
        go_wp2_with fail
        exact ⟨rfl, RPost.err hq.out ⟨rfl, K0_2.trans k3⟩⟩
      | ok σ3 =>
        have i_3 := inv_shut h0_2.le h_3
        have HN3 := Lib.hid (show 1 ≤ σ2.nest by omega)
        refine (shut_ok h0_2 (HN3).out c h_3).mono ?_
        rintro e w3 ⟨rfl, p3, k3⟩
        have hR_3 := hxR_2.kept k3 (by show ¬ w.heap.size = b; omega)
        have hLt2_3 := hLt2_2.kept k3 (by show ¬ w2.heap.size = b; omega)
        have at2_3 := axt2_2.frame (Same.of_kept k3 (fun k h e => by omega))
        have ct2_3 := cxt2_2.frame (Same.of_kept k3 (fun k h e => by omega))
        have K3 := K0_2.trans k3
        have lb3 := p3.lt
        have zz3 := K3.size
        have zk3 := k3.size
        have lR3 := hR_3.lt
        have lLt23 := hLt2_3.lt
        have hq : Hid (insideS T s o c σ = .ok (t2, σ3)) := Lib.hid (by unfold insideS; simp only [h_1, h_2, h_3])
        have gA : ∀ i, w3.cell? ⟨w.heap.size, i, none⟩ = [Value.int .i64 0, .string ⟨#[]⟩, .int .i64 0, .int .i64 0, .string ⟨#[]⟩, .slice none 0 0, .slice none 0 0][i]? := hR_3.cell
        have fA : ∀ i, w3.frozen? ⟨w.heap.size, i, none⟩ = false := hR_3.frozen
        have yt2A : ∀ i, w3.cell? ⟨w2.heap.size, i, none⟩ = [Value.int .i64 t2.op, .string t2.name, .int .i64 t2.n, .int .i64 t2.ty.kind, .string t2.ty.name, .slice ta2 tn2 tc2, .slice ma2 mn2 mc2][i]? := hLt2_3.cell
        have l9 : w.heap.size < w3.heap.size := hR_3.lt
        go_wp2_with fail
        refine ret_tm Tryz.results117 hq.out rfl rfl ((r7 hR_3 rfl)) ?_ ?_ ((p7w p3 (by omega) (by omega))) ((k7w K3 (Or.inr (Nat.le_refl _))))
        · exact (at2_3.frame (same7 (R := w.heap.size) (by omega))).mono (fun k _ h => by omega)
        · exact (ct2_3.frame (same7 (R := w.heap.size) (by omega))).mono (fun k _ h => by omega)
set_option maxHeartbeats 4000000 in
theorem bound_any {b : Nat} {s : ByteArray} {f : Nat} {T : TF} {w : World} {σ : PS} (hT : TC b s f T) (hI : TInv s T) (h : PW w b s σ) (hf : 14 * mu s σ ≤ f) (op : Int) :
    Calls Tryz.prog 150 #[.pointer (some ⟨b, 0, none⟩), .int .i64 op] w (RPost b s (VTm w.heap.size) (boundS T s op σ) w) := by
  have hlt := h.lt
  have hgl := h.gl.lt
  have h0 := h.alloc (.cells #[.int .i64 0, .string ⟨#[]⟩, .int .i64 0, .int .i64 0, .string ⟨#[]⟩, .slice none 0 0, .slice none 0 0] 27)
  have hR0 : Blk (w.alloc (.cells #[.int .i64 0, .string ⟨#[]⟩, .int .i64 0, .int .i64 0, .string ⟨#[]⟩, .slice none 0 0, .slice none 0 0] 27)) w.heap.size 27 z27 := Blk.new w 27 z27
  have K0 : Kept (· = b) w (w.alloc (.cells #[.int .i64 0, .string ⟨#[]⟩, .int .i64 0, .int .i64 0, .string ⟨#[]⟩, .slice none 0 0, .slice none 0 0] 27)) := (Kept.refl _ _).alloc _
  have zw0 : (w.alloc (.cells #[.int .i64 0, .string ⟨#[]⟩, .int .i64 0, .int .i64 0, .string ⟨#[]⟩, .slice none 0 0, .slice none 0 0] 27)).heap.size = w.heap.size + 1 := by simp
  have Z0 := Lib.hid zw0
  clear zw0
  go_enter Tryz.func150, Tryz.ntmps150
  go_wp2_with fail
  cases h_1 : nameS s σ with
  | error r =>
    have hq : Hid (boundS T s op σ = .error r) := Lib.hid (by unfold boundS; simp only [h_1])
    refine (name_err h0 h_1).mono ?_
    rintro e w1 ⟨rfl, k1⟩
    go_wp2_with fail
    exact ⟨rfl, RPost.err hq.out ⟨rfl, K0.trans k1⟩⟩
  | ok q1 =>
    obtain ⟨x1, σ1⟩ := q1
    have i_1 := inv_name h0.le h_1
    refine (name_ok h0 h_1).mono ?_
    rintro e w1 ⟨rfl, p1, k1⟩
    have hR_1 := hR0.kept k1 (by show ¬ w.heap.size = b; omega)
    have K1 := K0.trans k1
    have lb1 := p1.lt
    have zz1 := K1.size
    have zk1 := k1.size
    have lR1 := hR_1.lt
    go_wp2_with fail
    cases h_2 : wantS s σ1 kIn with
    | error r =>
      have hq : Hid (boundS T s op σ = .error r) := Lib.hid (by unfold boundS; simp only [h_1, h_2])
      refine (want_err p1 kIn h_2).mono ?_
      rintro e w2 ⟨rfl, k2⟩
      go_wp2_with fail
      exact ⟨rfl, RPost.err hq.out ⟨rfl, K1.trans k2⟩⟩
    | ok σ2 =>
      have i_2 := inv_want p1.le h_2
      refine (want_ok p1 kIn h_2).mono ?_
      rintro e w2 ⟨rfl, p2, k2⟩
      have hR_2 := hR_1.kept k2 (by show ¬ w.heap.size = b; omega)
      have K2 := K1.trans k2
      have lb2 := p2.lt
      have zz2 := K2.size
      have zk2 := k2.size
      have lR2 := hR_2.lt
      go_wp2_with fail
      have lo3 := p2.lt
      refine (hT 7 7 rfl σ2 _ (by decide) (by decide) p2 (by omega)).mono ?_
      rintro e w3 hr
      cases h_3 : T 7 σ2 with
      | error r =>
        have hq : Hid (boundS T s op σ = .error r) := Lib.hid (by unfold boundS; simp only [h_1, h_2, h_3])
        obtain ⟨rfl, k3⟩ := hr.getErr h_3
        clear hr
        go_wp2_with fail
        exact ⟨rfl, RPost.err hq.out ⟨rfl, K2.trans k3⟩⟩
      | ok q3 =>
        obtain ⟨t3, σ3⟩ := q3
        obtain ⟨v, rfl, ⟨tk3, kk3, rfl, at3, ct3⟩, p3, k3⟩ := hr.getOk h_3
        clear hr
        have j_3 := hI _ _ _ _ p2.le h_3
        have i_3 := j_3.1
        try unfold Inv at i_3
        try unfold Inv1 at i_3
        obtain ⟨ta3, tn3, tc3, rfl⟩ := at3.slice
        obtain ⟨ma3, mn3, mc3, rfl⟩ := ct3.slice
        unfold tmVal
        have hR_3 := hR_2.kept k3 (by show ¬ w.heap.size = b; omega)
        have K3 := K2.trans k3
        have lb3 := p3.lt
        have zz3 := K3.size
        have zk3 := k3.size
        have lR3 := hR_3.lt
        have h0_3 := p3.alloc (.cells #[.int .i64 t3.op, .string t3.name, .int .i64 t3.n, .int .i64 t3.ty.kind, .string t3.ty.name, .slice ta3 tn3 tc3, .slice ma3 mn3 mc3] 27)
        have K0_3 := K3.alloc (.cells #[.int .i64 t3.op, .string t3.name, .int .i64 t3.n, .int .i64 t3.ty.kind, .string t3.ty.name, .slice ta3 tn3 tc3, .slice ma3 mn3 mc3] 27)
        have hxR_3 := hR_3.alloc (.cells #[.int .i64 t3.op, .string t3.name, .int .i64 t3.n, .int .i64 t3.ty.kind, .string t3.ty.name, .slice ta3 tn3 tc3, .slice ma3 mn3 mc3] 27)
        have hLt3_3 : Blk (w3.alloc (.cells #[.int .i64 t3.op, .string t3.name, .int .i64 t3.n, .int .i64 t3.ty.kind, .string t3.ty.name, .slice ta3 tn3 tc3, .slice ma3 mn3 mc3] 27)) w3.heap.size 27 (tmCells t3 (.slice ta3 tn3 tc3) (.slice ma3 mn3 mc3)) := Blk.new w3 27 _
        have axt3_3 := at3.frame (Same.alloc _ (.cells #[.int .i64 t3.op, .string t3.name, .int .i64 t3.n, .int .i64 t3.ty.kind, .string t3.ty.name, .slice ta3 tn3 tc3, .slice ma3 mn3 mc3] 27))
        have cxt3_3 := ct3.frame (Same.alloc _ (.cells #[.int .i64 t3.op, .string t3.name, .int .i64 t3.n, .int .i64 t3.ty.kind, .string t3.ty.name, .slice ta3 tn3 tc3, .slice ma3 mn3 mc3] 27))
        have zw3 : (w3.alloc (.cells #[.int .i64 t3.op, .string t3.name, .int .i64 t3.n, .int .i64 t3.ty.kind, .string t3.ty.name, .slice ta3 tn3 tc3, .slice ma3 mn3 mc3] 27)).heap.size = w3.heap.size + 1 := by simp
        have Z3 := Lib.hid zw3
        clear zw3
        go_wp2_with fail
        cases h_4 : wantS s σ3 kDot with
        | error r =>
          have hq : Hid (boundS T s op σ = .error r) := Lib.hid (by unfold boundS; simp only [h_1, h_2, h_3, h_4])
          refine (want_err h0_3 kDot h_4).mono ?_
          rintro e w4 ⟨rfl, k4⟩
          go_wp2_with fail
          exact ⟨rfl, RPost.err hq.out ⟨rfl, K0_3.trans k4⟩⟩
        | ok σ4 =>
          have i_4 := inv_want h0_3.le h_4
          refine (want_ok h0_3 kDot h_4).mono ?_
          rintro e w4 ⟨rfl, p4, k4⟩
          have hR_4 := hxR_3.kept k4 (by show ¬ w.heap.size = b; omega)
          have hLt3_4 := hLt3_3.kept k4 (by show ¬ w3.heap.size = b; omega)
          have at3_4 := axt3_3.frame (Same.of_kept k4 (fun k h e => by omega))
          have ct3_4 := cxt3_3.frame (Same.of_kept k4 (fun k h e => by omega))
          have K4 := K0_3.trans k4
          have lb4 := p4.lt
          have zz4 := K4.size
          have zk4 := k4.size
          have lR4 := hR_4.lt
          have lLt34 := hLt3_4.lt
          go_wp2_with fail
          have lo5 := p4.lt
          refine (hT 1 1 rfl σ4 _ (by decide) (by decide) p4 (by omega)).mono ?_
          rintro e w5 hr
          cases h_5 : T 1 σ4 with
          | error r =>
            have hq : Hid (boundS T s op σ = .error r) := Lib.hid (by unfold boundS; simp only [h_1, h_2, h_3, h_4, h_5])
            obtain ⟨rfl, k5⟩ := hr.getErr h_5
            clear hr
            go_wp2_with fail
            exact ⟨rfl, RPost.err hq.out ⟨rfl, K4.trans k5⟩⟩
          | ok q5 =>
            obtain ⟨t5, σ5⟩ := q5
            obtain ⟨v, rfl, ⟨tk5, kk5, rfl, at5, ct5⟩, p5, k5⟩ := hr.getOk h_5
            clear hr
            have j_5 := hI _ _ _ _ p4.le h_5
            have i_5 := j_5.1
            try unfold Inv at i_5
            try unfold Inv1 at i_5
            obtain ⟨ta5, tn5, tc5, rfl⟩ := at5.slice
            obtain ⟨ma5, mn5, mc5, rfl⟩ := ct5.slice
            unfold tmVal
            have hR_5 := hR_4.kept k5 (by show ¬ w.heap.size = b; omega)
            have hLt3_5 := hLt3_4.kept k5 (by show ¬ w3.heap.size = b; omega)
            have at3_5 := at3_4.frame (Same.of_kept k5 (fun k h e => by omega))
            have ct3_5 := ct3_4.frame (Same.of_kept k5 (fun k h e => by omega))
            have K5 := K4.trans k5
            have lb5 := p5.lt
            have zz5 := K5.size
            have zk5 := k5.size
            have lR5 := hR_5.lt
            have lLt35 := hLt3_5.lt
            have hq : Hid (boundS T s op σ = .ok (.mk op x1 0 ty0 [t3, t5], σ5)) := Lib.hid (by unfold boundS; simp only [h_1, h_2, h_3, h_4, h_5])
            have gA : ∀ i, w5.cell? ⟨w.heap.size, i, none⟩ = [Value.int .i64 0, .string ⟨#[]⟩, .int .i64 0, .int .i64 0, .string ⟨#[]⟩, .slice none 0 0, .slice none 0 0][i]? := hR_5.cell
            have fA : ∀ i, w5.frozen? ⟨w.heap.size, i, none⟩ = false := hR_5.frozen
            have yt3A : ∀ i, w5.cell? ⟨w3.heap.size, i, none⟩ = [Value.int .i64 t3.op, .string t3.name, .int .i64 t3.n, .int .i64 t3.ty.kind, .string t3.ty.name, .slice ta3 tn3 tc3, .slice ma3 mn3 mc3][i]? := hLt3_5.cell
            have l9 : w.heap.size < w5.heap.size := hR_5.lt
            go_wp2_with fail
            refine ret_tm Tryz.results150 hq.out rfl rfl ((((r7 hR_5 rfl)).alloc _).alloc _) ?_ ?_ ((((p7w p5 (by omega) (by omega))).alloc _).alloc _) ((((k7w K5 (Or.inr (Nat.le_refl _)))).alloc _).alloc _)
            · exact .nil0
            · exact TmL.two (ty := 27) (by omega) (Nat.le_refl _) (Blk.new' 27 _ (by simp)) ((((at3_5.frame (same7 (R := w.heap.size) (by omega))).frame (Same.alloc _ _)).frame (Same.alloc _ _)).mono (fun k _ h => by omega)) ((((ct3_5.frame (same7 (R := w.heap.size) (by omega))).frame (Same.alloc _ _)).frame (Same.alloc _ _)).mono (fun k _ h => by omega)) ((((at5.frame (same7 (R := w.heap.size) (by omega))).frame (Same.alloc _ _)).frame (Same.alloc _ _)).mono (fun k _ h => by omega)) ((((ct5.frame (same7 (R := w.heap.size) (by omega))).frame (Same.alloc _ _)).frame (Same.alloc _ _)).mono (fun k _ h => by omega))
set_option maxHeartbeats 4000000 in
theorem term_not {b : Nat} {s : ByteArray} {f : Nat} {w : World} {σ : PS} (hT : TC b s f (termS f s)) (h : PW w b s σ) (hf : 14 * mu s σ + (14 - 5) < f + 1) (hi : isS σ kNot = true) :
    Calls Tryz.prog 33 #[.pointer (some ⟨b, 0, none⟩), .int .i64 5] w (RPost b s (VTm w.heap.size) (termS (f + 1) s 5 σ) w) := by
  have hI := inv_term f s
  have HI := Lib.hid hI
  clear hI
  have hlt := h.lt
  have hgl := h.gl.lt
  have h0 := h.alloc (.cells #[.int .i64 0, .string ⟨#[]⟩, .int .i64 0, .int .i64 0, .string ⟨#[]⟩, .slice none 0 0, .slice none 0 0] 27)
  have hR0 : Blk (w.alloc (.cells #[.int .i64 0, .string ⟨#[]⟩, .int .i64 0, .int .i64 0, .string ⟨#[]⟩, .slice none 0 0, .slice none 0 0] 27)) w.heap.size 27 z27 := Blk.new w 27 z27
  have K0 : Kept (· = b) w (w.alloc (.cells #[.int .i64 0, .string ⟨#[]⟩, .int .i64 0, .int .i64 0, .string ⟨#[]⟩, .slice none 0 0, .slice none 0 0] 27)) := (Kept.refl _ _).alloc _
  have zw0 : (w.alloc (.cells #[.int .i64 0, .string ⟨#[]⟩, .int .i64 0, .int .i64 0, .string ⟨#[]⟩, .slice none 0 0, .slice none 0 0] 27)).heap.size = w.heap.size + 1 := by simp
  have Z0 := Lib.hid zw0
  clear zw0
  go_enter Tryz.func33, Tryz.ntmps33
  go_wp2_with fail
  cases h_1 : advS s σ with
  | error r =>
    have hq : Hid (termS (f + 1) s 5 σ = .error r) := Lib.hid (by unfold termS; simp only [hi, show ((5 : Nat) == 5) = true from rfl, show ((5 : Nat) == 13) = false from rfl, h_1])
    refine (eat_bad h0 kNot hi h_1).mono ?_
    rintro e w1 ⟨rfl, k1⟩
    go_wp2_with fail
    exact ⟨rfl, RPost.err hq.out ⟨rfl, K0.trans k1⟩⟩
  | ok σ1 =>
    have i_1 := inv_adv h0.le (isS_ne hi) h_1
    refine (eat_yes h0 kNot hi h_1).mono ?_
    rintro e w1 ⟨rfl, p1, k1⟩
    have hR_1 := hR0.kept k1 (by show ¬ w.heap.size = b; omega)
    have K1 := K0.trans k1
    have lb1 := p1.lt
    have zz1 := K1.size
    have zk1 := k1.size
    have lR1 := hR_1.lt
    go_wp2_with fail
    have lo2 := p1.lt
    refine (hT 5 5 rfl σ1 _ (by decide) (by decide) p1 (by omega)).mono ?_
    rintro e w2 hr
    cases h_2 : termS f s 5 σ1 with
    | error r =>
      have hq : Hid (termS (f + 1) s 5 σ = .error r) := Lib.hid (by unfold termS; simp only [hi, show ((5 : Nat) == 5) = true from rfl, show ((5 : Nat) == 13) = false from rfl, h_1, h_2])
      obtain ⟨rfl, k2⟩ := hr.getErr h_2
      clear hr
      go_wp2_with fail
      exact ⟨rfl, RPost.err hq.out ⟨rfl, K1.trans k2⟩⟩
    | ok q2 =>
      obtain ⟨t2, σ2⟩ := q2
      obtain ⟨v, rfl, ⟨tk2, kk2, rfl, at2, ct2⟩, p2, k2⟩ := hr.getOk h_2
      clear hr
      have j_2 := HI.out _ _ _ _ p1.le h_2
      have i_2 := j_2.1
      try unfold Inv at i_2
      try unfold Inv1 at i_2
      obtain ⟨ta2, tn2, tc2, rfl⟩ := at2.slice
      obtain ⟨ma2, mn2, mc2, rfl⟩ := ct2.slice
      unfold tmVal
      have hR_2 := hR_1.kept k2 (by show ¬ w.heap.size = b; omega)
      have K2 := K1.trans k2
      have lb2 := p2.lt
      have zz2 := K2.size
      have zk2 := k2.size
      have lR2 := hR_2.lt
      have hq : Hid (termS (f + 1) s 5 σ = .ok (nd 3 [t2], σ2)) := Lib.hid (by unfold termS; simp only [hi, show ((5 : Nat) == 5) = true from rfl, show ((5 : Nat) == 13) = false from rfl, h_1, h_2])
      have gA : ∀ i, w2.cell? ⟨w.heap.size, i, none⟩ = [Value.int .i64 0, .string ⟨#[]⟩, .int .i64 0, .int .i64 0, .string ⟨#[]⟩, .slice none 0 0, .slice none 0 0][i]? := hR_2.cell
      have fA : ∀ i, w2.frozen? ⟨w.heap.size, i, none⟩ = false := hR_2.frozen
      have l9 : w.heap.size < w2.heap.size := hR_2.lt
      go_wp2_with fail
      refine ret_tm Tryz.results33 hq.out rfl rfl (((r7 hR_2 rfl)).alloc _) ?_ ?_ (((p7w p2 (by omega) (by omega))).alloc _) (((k7w K2 (Or.inr (Nat.le_refl _)))).alloc _)
      · exact .nil0
      · exact TmL.one (ty := 27) (by omega) (Nat.le_refl _) (Blk.new' 27 _ (by simp)) (((at2.frame (same7 (R := w.heap.size) (by omega))).frame (Same.alloc _ _)).mono (fun k _ h => by omega)) (((ct2.frame (same7 (R := w.heap.size) (by omega))).frame (Same.alloc _ _)).mono (fun k _ h => by omega))
set_option maxHeartbeats 4000000 in
theorem term_neg {b : Nat} {s : ByteArray} {f : Nat} {w : World} {σ : PS} (hT : TC b s f (termS f s)) (h : PW w b s σ) (hf : 14 * mu s σ + (14 - 13) < f + 1) (hi : isS σ kMinus = true) :
    Calls Tryz.prog 33 #[.pointer (some ⟨b, 0, none⟩), .int .i64 13] w (RPost b s (VTm w.heap.size) (termS (f + 1) s 13 σ) w) := by
  have hI := inv_term f s
  have HI := Lib.hid hI
  clear hI
  have hlt := h.lt
  have hgl := h.gl.lt
  have h0 := h.alloc (.cells #[.int .i64 0, .string ⟨#[]⟩, .int .i64 0, .int .i64 0, .string ⟨#[]⟩, .slice none 0 0, .slice none 0 0] 27)
  have hR0 : Blk (w.alloc (.cells #[.int .i64 0, .string ⟨#[]⟩, .int .i64 0, .int .i64 0, .string ⟨#[]⟩, .slice none 0 0, .slice none 0 0] 27)) w.heap.size 27 z27 := Blk.new w 27 z27
  have K0 : Kept (· = b) w (w.alloc (.cells #[.int .i64 0, .string ⟨#[]⟩, .int .i64 0, .int .i64 0, .string ⟨#[]⟩, .slice none 0 0, .slice none 0 0] 27)) := (Kept.refl _ _).alloc _
  have zw0 : (w.alloc (.cells #[.int .i64 0, .string ⟨#[]⟩, .int .i64 0, .int .i64 0, .string ⟨#[]⟩, .slice none 0 0, .slice none 0 0] 27)).heap.size = w.heap.size + 1 := by simp
  have Z0 := Lib.hid zw0
  clear zw0
  go_enter Tryz.func33, Tryz.ntmps33
  go_wp2_with fail
  cases h_1 : advS s σ with
  | error r =>
    have hq : Hid (termS (f + 1) s 13 σ = .error r) := Lib.hid (by unfold termS; simp only [hi, show ((13 : Nat) == 5) = false from rfl, show ((13 : Nat) == 13) = true from rfl, h_1])
    refine (eat_bad h0 kMinus hi h_1).mono ?_
    rintro e w1 ⟨rfl, k1⟩
    go_wp2_with fail
    exact ⟨rfl, RPost.err hq.out ⟨rfl, K0.trans k1⟩⟩
  | ok σ1 =>
    have i_1 := inv_adv h0.le (isS_ne hi) h_1
    refine (eat_yes h0 kMinus hi h_1).mono ?_
    rintro e w1 ⟨rfl, p1, k1⟩
    have hR_1 := hR0.kept k1 (by show ¬ w.heap.size = b; omega)
    have K1 := K0.trans k1
    have lb1 := p1.lt
    have zz1 := K1.size
    have zk1 := k1.size
    have lR1 := hR_1.lt
    go_wp2_with fail
    have lo2 := p1.lt
    refine (hT 13 13 rfl σ1 _ (by decide) (by decide) p1 (by omega)).mono ?_
    rintro e w2 hr
    cases h_2 : termS f s 13 σ1 with
    | error r =>
      have hq : Hid (termS (f + 1) s 13 σ = .error r) := Lib.hid (by unfold termS; simp only [hi, show ((13 : Nat) == 5) = false from rfl, show ((13 : Nat) == 13) = true from rfl, h_1, h_2])
      obtain ⟨rfl, k2⟩ := hr.getErr h_2
      clear hr
      go_wp2_with fail
      exact ⟨rfl, RPost.err hq.out ⟨rfl, K1.trans k2⟩⟩
    | ok q2 =>
      obtain ⟨t2, σ2⟩ := q2
      obtain ⟨v, rfl, ⟨tk2, kk2, rfl, at2, ct2⟩, p2, k2⟩ := hr.getOk h_2
      clear hr
      have j_2 := HI.out _ _ _ _ p1.le h_2
      have i_2 := j_2.1
      try unfold Inv at i_2
      try unfold Inv1 at i_2
      obtain ⟨ta2, tn2, tc2, rfl⟩ := at2.slice
      obtain ⟨ma2, mn2, mc2, rfl⟩ := ct2.slice
      unfold tmVal
      have hR_2 := hR_1.kept k2 (by show ¬ w.heap.size = b; omega)
      have K2 := K1.trans k2
      have lb2 := p2.lt
      have zz2 := K2.size
      have zk2 := k2.size
      have lR2 := hR_2.lt
      have hq : Hid (termS (f + 1) s 13 σ = .ok (nd 21 [t2], σ2)) := Lib.hid (by unfold termS; simp only [hi, show ((13 : Nat) == 5) = false from rfl, show ((13 : Nat) == 13) = true from rfl, h_1, h_2])
      have gA : ∀ i, w2.cell? ⟨w.heap.size, i, none⟩ = [Value.int .i64 0, .string ⟨#[]⟩, .int .i64 0, .int .i64 0, .string ⟨#[]⟩, .slice none 0 0, .slice none 0 0][i]? := hR_2.cell
      have fA : ∀ i, w2.frozen? ⟨w.heap.size, i, none⟩ = false := hR_2.frozen
      have l9 : w.heap.size < w2.heap.size := hR_2.lt
      go_wp2_with fail
      refine ret_tm Tryz.results33 hq.out rfl rfl (((r7 hR_2 rfl)).alloc _) ?_ ?_ (((p7w p2 (by omega) (by omega))).alloc _) (((k7w K2 (Or.inr (Nat.le_refl _)))).alloc _)
      · exact .nil0
      · exact TmL.one (ty := 27) (by omega) (Nat.le_refl _) (Blk.new' 27 _ (by simp)) (((at2.frame (same7 (R := w.heap.size) (by omega))).frame (Same.alloc _ _)).mono (fun k _ h => by omega)) (((ct2.frame (same7 (R := w.heap.size) (by omega))).frame (Same.alloc _ _)).mono (fun k _ h => by omega))
set_option maxHeartbeats 4000000 in
theorem term_six {b : Nat} {s : ByteArray} {f : Nat} {w : World} {σ : PS} (hT : TC b s f (termS f s)) (h : PW w b s σ) (hf : 14 * mu s σ + (14 - 5) < f + 1) (hi : isS σ kNot = false) :
    Calls Tryz.prog 33 #[.pointer (some ⟨b, 0, none⟩), .int .i64 5] w (RPost b s (VTm w.heap.size) (termS (f + 1) s 5 σ) w) := by
  have hI := inv_term f s
  have HI := Lib.hid hI
  clear hI
  have hlt := h.lt
  have hgl := h.gl.lt
  have h0 := h.alloc (.cells #[.int .i64 0, .string ⟨#[]⟩, .int .i64 0, .int .i64 0, .string ⟨#[]⟩, .slice none 0 0, .slice none 0 0] 27)
  have hR0 : Blk (w.alloc (.cells #[.int .i64 0, .string ⟨#[]⟩, .int .i64 0, .int .i64 0, .string ⟨#[]⟩, .slice none 0 0, .slice none 0 0] 27)) w.heap.size 27 z27 := Blk.new w 27 z27
  have K0 : Kept (· = b) w (w.alloc (.cells #[.int .i64 0, .string ⟨#[]⟩, .int .i64 0, .int .i64 0, .string ⟨#[]⟩, .slice none 0 0, .slice none 0 0] 27)) := (Kept.refl _ _).alloc _
  have zw0 : (w.alloc (.cells #[.int .i64 0, .string ⟨#[]⟩, .int .i64 0, .int .i64 0, .string ⟨#[]⟩, .slice none 0 0, .slice none 0 0] 27)).heap.size = w.heap.size + 1 := by simp
  have Z0 := Lib.hid zw0
  clear zw0
  go_enter Tryz.func33, Tryz.ntmps33
  go_wp2_with fail
  refine (eat_no h0 kNot hi).mono ?_
  rintro e w' ⟨rfl, rfl⟩
  go_wp2_with fail
  have lo1 := h0.lt
  have zz0 := Z0.out
  refine (hT 6 6 rfl σ _ (by decide) (by decide) h0 (by omega)).mono ?_
  clear zz0
  rintro e w1 hr
  cases h_1 : termS f s 6 σ with
  | error r =>
    have hq : Hid (termS (f + 1) s 5 σ = .error r) := Lib.hid (by unfold termS; simp only [hi, show ((5 : Nat) == 5) = true from rfl, show ((5 : Nat) == 13) = false from rfl, h_1])
    obtain ⟨rfl, k1⟩ := hr.getErr h_1
    clear hr
    go_wp2_with fail
    exact ⟨rfl, RPost.err hq.out ⟨rfl, K0.trans k1⟩⟩
  | ok q1 =>
    obtain ⟨t1, σ1⟩ := q1
    obtain ⟨v, rfl, ⟨tk1, kk1, rfl, at1, ct1⟩, p1, k1⟩ := hr.getOk h_1
    clear hr
    have j_1 := HI.out _ _ _ _ h0.le h_1
    have i_1 := j_1.1
    try unfold Inv at i_1
    try unfold Inv1 at i_1
    obtain ⟨ta1, tn1, tc1, rfl⟩ := at1.slice
    obtain ⟨ma1, mn1, mc1, rfl⟩ := ct1.slice
    unfold tmVal
    have hR_1 := hR0.kept k1 (by show ¬ w.heap.size = b; omega)
    have K1 := K0.trans k1
    have lb1 := p1.lt
    have zz1 := K1.size
    have zk1 := k1.size
    have lR1 := hR_1.lt
    have hq : Hid (termS (f + 1) s 5 σ = .ok (t1, σ1)) := Lib.hid (by unfold termS; simp only [hi, show ((5 : Nat) == 5) = true from rfl, show ((5 : Nat) == 13) = false from rfl, h_1])
    have gA : ∀ i, w1.cell? ⟨w.heap.size, i, none⟩ = [Value.int .i64 0, .string ⟨#[]⟩, .int .i64 0, .int .i64 0, .string ⟨#[]⟩, .slice none 0 0, .slice none 0 0][i]? := hR_1.cell
    have fA : ∀ i, w1.frozen? ⟨w.heap.size, i, none⟩ = false := hR_1.frozen
    have l9 : w.heap.size < w1.heap.size := hR_1.lt
    go_wp2_with fail
    have zz0 := Z0.out
    refine ret_tm Tryz.results33 hq.out rfl rfl ((r7 hR_1 rfl)) ?_ ?_ ((p7w p1 (by omega) (by omega))) ((k7w K1 (Or.inr (Nat.le_refl _))))
    · exact (at1.frame (same7 (R := w.heap.size) (by omega))).mono (fun k _ h => by omega)
    · exact (ct1.frame (same7 (R := w.heap.size) (by omega))).mono (fun k _ h => by omega)
theorem wp_region_lmc {P : Program} {id : Nat} {o0 o1 o2 : Oper} {tl : List Oper} {Q : Exit → Act → World → Prop} {a : Act} {w : World} (x1 : Operand) (hm : P.follows .mixedOrders = true) (h1 : o1.op = .move x1) (hg1 : o1.guard = none)
    (r0 : Region.ready .any (o0 :: o1 :: o2 :: tl).toArray (Array.replicate (tl.length + 3) false) = [0, 1])
    (s0 : Region.seqB .any (o0 :: o1 :: o2 :: tl).toArray (tl.length + 2) 1 ((Array.replicate (tl.length + 3) false).setIfInBounds 0 true) = true)
    (r1 : Region.ready .any (o0 :: o1 :: o2 :: tl).toArray ((Array.replicate (tl.length + 3) false).setIfInBounds 1 true) = [0, 2])
    (s10 : Region.seqB .any (o0 :: o1 :: o2 :: tl).toArray (tl.length + 1) 2 (((Array.replicate (tl.length + 3) false).setIfInBounds 1 true).setIfInBounds 0 true) = true)
    (r12 : Region.ready .any (o0 :: o1 :: o2 :: tl).toArray (((Array.replicate (tl.length + 3) false).setIfInBounds 1 true).setIfInBounds 2 true) = [0])
    (s120 : Region.seqB .any (o0 :: o1 :: o2 :: tl).toArray tl.length 3 ((((Array.replicate (tl.length + 3) false).setIfInBounds 1 true).setIfInBounds 2 true).setIfInBounds 0 true) = true)
    (hA : wpList P (o0 :: o1 :: o2 :: tl).toArray Q (o0 :: o1 :: o2 :: tl) a w.drew)
    (hB0 : wpList P (o0 :: o1 :: o2 :: tl).toArray Q (o0 :: o2 :: tl) (a.put o1.dst (a.eval x1)) w.drew)
    (hB2 : wpList P (o0 :: o1 :: o2 :: tl).toArray Q (o2 :: o0 :: tl) (a.put o1.dst (a.eval x1)) w.drew) : (Code.region id (o0 :: o1 :: o2 :: tl).toArray true).wp P Q a w := by
  refine wp_region_any hm ?_
  have hsz : (o0 :: o1 :: o2 :: tl).toArray.size = tl.length + 3 := by simp
  rw [hsz]
  generalize hops : (o0 :: o1 :: o2 :: tl).toArray = ops at *
  have e0 : ops[0]? = some o0 := by rw [← hops]; rfl
  have e1 : ops[1]? = some o1 := by rw [← hops]; rfl
  have e2 : ops[2]? = some o2 := by rw [← hops]; rfl
  have et : ∀ k j, (o0 :: o1 :: o2 :: tl)[k + j]? = ops[k + j]? := fun k j => by subst hops; exact List.getElem?_toArray.symm
  refine ⟨fun h => (by rw [r0] at h; cases h), fun i hi => ?_⟩
  rw [r0] at hi
  have hi' : i = 0 ∨ i = 1 := by simpa using hi
  rcases hi' with rfl | rfl
  · have hw : wpOp P ops Q 0 (wpList P ops Q (o1 :: o2 :: tl)) a w.drew := by unfold wpOp; simp only [e0]; exact hA
    exact wpOp_mono (fun a' w' h' => wpAny_of_seq (o1 :: o2 :: tl) 1 _ a' w' (fun j => by have := et 1 j; rw [← this, Nat.add_comm]; rfl) s0 h') hw
  · have hw : wpOp P ops Q 1 (fun a' w' => wpAny P .any ops Q (tl.length + 2) ((Array.replicate (tl.length + 3) false).setIfInBounds 1 true) a' w') a w.drew := by
      unfold wpOp
      simp only [e1]
      rw [if_pos (by unfold Region.wanted; rw [hg1])]
      refine Or.inl (BigFrame.wp_move x1 h1 ?_)
      refine ⟨fun h => (by rw [r1] at h; cases h), fun j hj => ?_⟩
      rw [r1] at hj
      have hj' : j = 0 ∨ j = 2 := by simpa using hj
      rcases hj' with rfl | rfl
      · have hw : wpOp P ops Q 0 (wpList P ops Q (o2 :: tl)) (a.put o1.dst (a.eval x1)) w.drew := by unfold wpOp; simp only [e0]; exact hB0
        exact wpOp_mono (fun a' w' h' => wpAny_of_seq (o2 :: tl) 2 _ a' w' (fun j => by have := et 2 j; rw [← this, Nat.add_comm]; rfl) s10 h') hw
      · have hw : wpOp P ops Q 2 (wpList P ops Q (o0 :: tl)) (a.put o1.dst (a.eval x1)) w.drew := by unfold wpOp; simp only [e2]; exact hB2
        refine wpOp_mono (fun a' w' h' => ?_) hw
        refine ⟨fun h => (by rw [r12] at h; cases h), fun k hk => ?_⟩
        rw [r12] at hk
        have hk' : k = 0 := by simpa using hk
        subst hk'
        have hw : wpOp P ops Q 0 (wpList P ops Q tl) a' w' := by unfold wpOp; simp only [e0]; exact h'
        exact wpOp_mono (fun a' w' h' => wpAny_of_seq tl 3 _ a' w' (fun j => by have := et 3 j; rw [← this, Nat.add_comm]; rfl) s120 h') hw
    exact hw
theorem PW.drew {w : World} {b : Nat} {s : ByteArray} {σ : PS} (h : PW w b s σ) : PW w.drew b s σ := h.grow (S := fun _ => False) ((Kept.refl _ _).drew) id id id
theorem Same.drew {ok : Nat → Prop} (W : World) : Same ok W W.drew := fun _ _ _ => rfl
set_option maxHeartbeats 8000000 in
theorem after_any {b : Nat} {s : ByteArray} {f : Nat} {T : TF} {w : World} {σ : PS} (hT : TC b s f T) (hI : TInv s T) (h : PW w b s σ) (hf : 14 * mu s σ ≤ f) (t : Tm) (ta : Option Addr) (tn tc : Nat) (ma : Option Addr) (mn mc n0 : Nat) (hb0 : b < n0) (hn0 : n0 ≤ w.heap.size)
    (a : TyL (fun k => n0 ≤ k) w t.ty.kids (.slice ta tn tc)) (c : TmL (fun k => n0 ≤ k) w t.kids (.slice ma mn mc)) :
    Calls Tryz.prog 66 #[.pointer (some ⟨b, 0, none⟩), tmVal t (.slice ta tn tc) (.slice ma mn mc)] w (RPost b s (VTm n0) (afterS T s (s.size + 2) t σ) w) := by
  have hlt := h.lt
  have hgl := h.gl.lt
  unfold tmVal
  have K2 : Kept (· = b) w ((w.alloc (.cells #[.int .i64 t.op, .string t.name, .int .i64 t.n, .int .i64 t.ty.kind, .string t.ty.name, .slice ta tn tc, .slice ma mn mc] 27)).alloc (.cells #[.int .i64 0, .string ⟨#[]⟩, .int .i64 0, .int .i64 0, .string ⟨#[]⟩, .slice none 0 0, .slice none 0 0] 27)) := ((Kept.refl _ _).alloc _).alloc _
  have p2 := (h.alloc (.cells #[.int .i64 t.op, .string t.name, .int .i64 t.n, .int .i64 t.ty.kind, .string t.ty.name, .slice ta tn tc, .slice ma mn mc] 27)).alloc (.cells #[.int .i64 0, .string ⟨#[]⟩, .int .i64 0, .int .i64 0, .string ⟨#[]⟩, .slice none 0 0, .slice none 0 0] 27)
  have hB2 : Blk ((w.alloc (.cells #[.int .i64 t.op, .string t.name, .int .i64 t.n, .int .i64 t.ty.kind, .string t.ty.name, .slice ta tn tc, .slice ma mn mc] 27)).alloc (.cells #[.int .i64 0, .string ⟨#[]⟩, .int .i64 0, .int .i64 0, .string ⟨#[]⟩, .slice none 0 0, .slice none 0 0] 27)) w.heap.size 27 (tmCells t (.slice ta tn tc) (.slice ma mn mc)) := (Blk.new w 27 (tmCells t (.slice ta tn tc) (.slice ma mn mc))).alloc (.cells #[.int .i64 0, .string ⟨#[]⟩, .int .i64 0, .int .i64 0, .string ⟨#[]⟩, .slice none 0 0, .slice none 0 0] 27)
  have hR2 : Blk ((w.alloc (.cells #[.int .i64 t.op, .string t.name, .int .i64 t.n, .int .i64 t.ty.kind, .string t.ty.name, .slice ta tn tc, .slice ma mn mc] 27)).alloc (.cells #[.int .i64 0, .string ⟨#[]⟩, .int .i64 0, .int .i64 0, .string ⟨#[]⟩, .slice none 0 0, .slice none 0 0] 27)) (w.heap.size + 1) 27 z27 := Blk.new' 27 z27 (by simp)
  have a2 := ((a.mono (ok' := okk n0 w.heap.size (w.heap.size + 1)) (fun k hk h => ⟨h, by omega, by omega⟩)).frame (Same.alloc _ (.cells #[.int .i64 t.op, .string t.name, .int .i64 t.n, .int .i64 t.ty.kind, .string t.ty.name, .slice ta tn tc, .slice ma mn mc] 27))).frame (Same.alloc _ (.cells #[.int .i64 0, .string ⟨#[]⟩, .int .i64 0, .int .i64 0, .string ⟨#[]⟩, .slice none 0 0, .slice none 0 0] 27))
  have c2 := ((c.mono (ok' := okk n0 w.heap.size (w.heap.size + 1)) (fun k hk h => ⟨h, by omega, by omega⟩)).frame (Same.alloc _ (.cells #[.int .i64 t.op, .string t.name, .int .i64 t.n, .int .i64 t.ty.kind, .string t.ty.name, .slice ta tn tc, .slice ma mn mc] 27))).frame (Same.alloc _ (.cells #[.int .i64 0, .string ⟨#[]⟩, .int .i64 0, .int .i64 0, .string ⟨#[]⟩, .slice none 0 0, .slice none 0 0] 27))
  go_enter Tryz.func66, Tryz.ntmps66
  go_wp2_with fail
  generalize hW : (w.alloc (.cells #[.int .i64 t.op, .string t.name, .int .i64 t.n, .int .i64 t.ty.kind, .string t.ty.name, .slice ta tn tc, .slice ma mn mc] 27)).alloc (.cells #[.int .i64 0, .string ⟨#[]⟩, .int .i64 0, .int .i64 0, .string ⟨#[]⟩, .slice none 0 0, .slice none 0 0] 27) = w2 at *
  clear hW
  go_loopg [5] (s.size + 2) (fun m _ wr => ∃ (t' : Tm) (σ' : PS) (ua : Option Addr) (un uc : Nat) (va : Option Addr) (vn vc : Nat), Hid (afterS T s m t' σ' = afterS T s (s.size + 2) t σ) ∧ mu s σ' < m ∧ mu s σ' ≤ mu s σ ∧ PW wr b s σ' ∧ Blk wr w.heap.size 27 (tmCells t' (.slice ua un uc) (.slice va vn vc)) ∧ Blk wr (w.heap.size + 1) 27 z27 ∧ TyL (okk n0 w.heap.size (w.heap.size + 1)) wr t'.ty.kids (.slice ua un uc) ∧ TmL (okk n0 w.heap.size (w.heap.size + 1)) wr t'.kids (.slice va vn vc) ∧ Kept (· = b) w wr)
  case atStart => exact ⟨t, σ, ta, tn, tc, ma, mn, mc, Lib.hid rfl, by have := mu_le s σ; omega, Nat.le_refl _, p2, hB2, hR2, a2, c2, K2⟩
  case round =>
    clear p2 hB2 hR2 a2 c2 K2
    obtain ⟨t', σ', ua, un, uc, va, vn, vc, hq, hm, hmm, p, hB, hR, ka, kc, K⟩ := hrel
    obtain ⟨q, rfl⟩ : ∃ q, gk = q + 1 := ⟨gk - 1, by omega⟩
    have y0 : wr.cell? ⟨w.heap.size, 0, none⟩ = some (.int .i64 t'.op) := hB.cell 0
    have y1 : wr.cell? ⟨w.heap.size, 1, none⟩ = some (.string t'.name) := hB.cell 1
    have y2 : wr.cell? ⟨w.heap.size, 2, none⟩ = some (.int .i64 t'.n) := hB.cell 2
    have y3 : wr.cell? ⟨w.heap.size, 3, none⟩ = some (.int .i64 t'.ty.kind) := hB.cell 3
    have y4 : wr.cell? ⟨w.heap.size, 4, none⟩ = some (.string t'.ty.name) := hB.cell 4
    have y5 : wr.cell? ⟨w.heap.size, 5, none⟩ = some (.slice ua un uc) := hB.cell 5
    have y6 : wr.cell? ⟨w.heap.size, 6, none⟩ = some (.slice va vn vc) := hB.cell 6
    have hb := p.lt
    have lR := hR.lt
    have lB := hB.lt
    go_wp2_with fail
    have p1 := p.alloc (.cells #[.int .i64 t'.op, .string t'.name, .int .i64 t'.n, .int .i64 t'.ty.kind, .string t'.ty.name, .slice ua un uc, .slice va vn vc] 27)
    have hB1 := hB.alloc (.cells #[.int .i64 t'.op, .string t'.name, .int .i64 t'.n, .int .i64 t'.ty.kind, .string t'.ty.name, .slice ua un uc, .slice va vn vc] 27)
    have hR1 := hR.alloc (.cells #[.int .i64 t'.op, .string t'.name, .int .i64 t'.n, .int .i64 t'.ty.kind, .string t'.ty.name, .slice ua un uc, .slice va vn vc] 27)
    have hC1 : Blk (wr.alloc (.cells #[.int .i64 t'.op, .string t'.name, .int .i64 t'.n, .int .i64 t'.ty.kind, .string t'.ty.name, .slice ua un uc, .slice va vn vc] 27)) wr.heap.size 27 (tmCells t' (.slice ua un uc) (.slice va vn vc)) := Blk.new wr 27 _
    have ka1 := ka.frame (Same.alloc _ (.cells #[.int .i64 t'.op, .string t'.name, .int .i64 t'.n, .int .i64 t'.ty.kind, .string t'.ty.name, .slice ua un uc, .slice va vn vc] 27))
    have kc1 := kc.frame (Same.alloc _ (.cells #[.int .i64 t'.op, .string t'.name, .int .i64 t'.n, .int .i64 t'.ty.kind, .string t'.ty.name, .slice ua un uc, .slice va vn vc] 27))
    have K1 := K.alloc (.cells #[.int .i64 t'.op, .string t'.name, .int .i64 t'.n, .int .i64 t'.ty.kind, .string t'.ty.name, .slice ua un uc, .slice va vn vc] 27)
    have z1 : (wr.alloc (.cells #[.int .i64 t'.op, .string t'.name, .int .i64 t'.n, .int .i64 t'.ty.kind, .string t'.ty.name, .slice ua un uc, .slice va vn vc] 27)).heap.size = wr.heap.size + 1 := by simp
    generalize hW : wr.alloc (.cells #[.int .i64 t'.op, .string t'.name, .int .i64 t'.n, .int .i64 t'.ty.kind, .string t'.ty.name, .slice ua un uc, .slice va vn vc] 27) = w1 at *
    generalize wr.heap.size = l5 at *
    clear hW p hB hR ka kc K y0 y1 y2 y3 y4 y5 y6
    have Z1 := Lib.hid z1
    clear z1
    cases hi1 : isS σ' kLpar
    case true =>
      refine (is_any p1 kLpar hi1).mono ?_
      rintro e w' ⟨rfl, rfl⟩
      have y0 : w1.cell? ⟨l5, 0, none⟩ = some (.int .i64 t'.op) := hC1.cell 0
      have y1 : w1.cell? ⟨l5, 1, none⟩ = some (.string t'.name) := hC1.cell 1
      have y2 : w1.cell? ⟨l5, 2, none⟩ = some (.int .i64 t'.n) := hC1.cell 2
      have y3 : w1.cell? ⟨l5, 3, none⟩ = some (.int .i64 t'.ty.kind) := hC1.cell 3
      have y4 : w1.cell? ⟨l5, 4, none⟩ = some (.string t'.ty.name) := hC1.cell 4
      have y5 : w1.cell? ⟨l5, 5, none⟩ = some (.slice ua un uc) := hC1.cell 5
      have y6 : w1.cell? ⟨l5, 6, none⟩ = some (.slice va vn vc) := hC1.cell 6
      cases hin : insideS T s kLpar kRpar σ' with
      | error r =>
        have hres : Hid (afterS T s (s.size + 2) t σ = .error r) := Lib.hid (hq.out.symm.trans (by unfold afterS; simp only [hi1, hin]))
        go_wp2_with fail
        refine wp_region_lmc (.tmp 0) (by kernel_rfl) rfl rfl (by kernel_rfl) (by kernel_rfl) (by kernel_rfl) (by kernel_rfl) (by kernel_rfl) (by kernel_rfl) ?_ ?_ ?_
        all_goals
          go_wp2_with fail
          refine (inside_any hT hI p1.drew (by omega) kLpar kRpar).mono ?_
          rintro e w3 hr
          obtain ⟨rfl, k3⟩ := hr.getErr hin
          clear hr
          go_wp2_with fail
          exact ⟨rfl, RPost.err hres.out ⟨rfl, K1.drew.trans k3⟩⟩
      | ok q5 =>
        obtain ⟨u, σ2⟩ := q5
        have hres : Hid (afterS T s q (nd 54 [t', u]) σ2 = afterS T s (s.size + 2) t σ) := Lib.hid (Eq.trans (by conv => rhs; unfold afterS; simp only [hi1, hin]) hq.out)
        have i2 := (inv_inside hI p1.le hin).1
        unfold Inv1 at i2
        have hb1 := p1.lt
        have lB1 := hB1.lt
        have lC1 := hC1.lt
        go_wp2_with fail
        refine wp_region_lmc (.tmp 0) (by kernel_rfl) rfl rfl (by kernel_rfl) (by kernel_rfl) (by kernel_rfl) (by kernel_rfl) (by kernel_rfl) (by kernel_rfl) ?_ ?_ ?_
        all_goals
          go_wp2_with fail
          refine (inside_any hT hI p1.drew (by omega) kLpar kRpar).mono ?_
          rintro e w3 hr
          obtain ⟨v, rfl, ⟨tk5, kk5, rfl, au, cu⟩, p3, k3⟩ := hr.getOk hin
          clear hr
          obtain ⟨ta5, tn5, tc5, rfl⟩ := au.slice
          obtain ⟨ma5, mn5, mc5, rfl⟩ := cu.slice
          unfold tmVal
          have hB3 := hB1.drew.kept k3 (by show ¬ w.heap.size = b; omega)
          have hR3 := hR1.drew.kept k3 (by show ¬ w.heap.size + 1 = b; omega)
          have hC3 := hC1.drew.kept k3 (by show ¬ l5 = b; omega)
          have ka3 := (ka1.frame (Same.drew _)).frame (Same.of_kept k3 (fun k h e => by have := h.1; omega))
          have kc3 := (kc1.frame (Same.drew _)).frame (Same.of_kept k3 (fun k h e => by have := h.1; omega))
          have K3 := K1.drew.trans k3
          have z3 : w1.heap.size ≤ w3.heap.size := k3.size
          have lR3 := hR3.lt
          have lB3 := hB3.lt
          have y'0 : w3.cell? ⟨l5, 0, none⟩ = some (.int .i64 t'.op) := hC3.cell 0
          have y'1 : w3.cell? ⟨l5, 1, none⟩ = some (.string t'.name) := hC3.cell 1
          have y'2 : w3.cell? ⟨l5, 2, none⟩ = some (.int .i64 t'.n) := hC3.cell 2
          have y'3 : w3.cell? ⟨l5, 3, none⟩ = some (.int .i64 t'.ty.kind) := hC3.cell 3
          have y'4 : w3.cell? ⟨l5, 4, none⟩ = some (.string t'.ty.name) := hC3.cell 4
          have y'5 : w3.cell? ⟨l5, 5, none⟩ = some (.slice ua un uc) := hC3.cell 5
          have y'6 : w3.cell? ⟨l5, 6, none⟩ = some (.slice va vn vc) := hC3.cell 6
          have x0 : w3.cell? ⟨w.heap.size, 0, none⟩ = some (.int .i64 t'.op) := hB3.cell 0
          have f0 : w3.frozen? ⟨w.heap.size, 0, none⟩ = false := hB3.frozen 0
          have x1 : w3.cell? ⟨w.heap.size, 1, none⟩ = some (.string t'.name) := hB3.cell 1
          have f1 : w3.frozen? ⟨w.heap.size, 1, none⟩ = false := hB3.frozen 1
          have x2 : w3.cell? ⟨w.heap.size, 2, none⟩ = some (.int .i64 t'.n) := hB3.cell 2
          have f2 : w3.frozen? ⟨w.heap.size, 2, none⟩ = false := hB3.frozen 2
          have x3 : w3.cell? ⟨w.heap.size, 3, none⟩ = some (.int .i64 t'.ty.kind) := hB3.cell 3
          have f3 : w3.frozen? ⟨w.heap.size, 3, none⟩ = false := hB3.frozen 3
          have x4 : w3.cell? ⟨w.heap.size, 4, none⟩ = some (.string t'.ty.name) := hB3.cell 4
          have f4 : w3.frozen? ⟨w.heap.size, 4, none⟩ = false := hB3.frozen 4
          have x5 : w3.cell? ⟨w.heap.size, 5, none⟩ = some (.slice ua un uc) := hB3.cell 5
          have f5 : w3.frozen? ⟨w.heap.size, 5, none⟩ = false := hB3.frozen 5
          have x6 : w3.cell? ⟨w.heap.size, 6, none⟩ = some (.slice va vn vc) := hB3.cell 6
          have f6 : w3.frozen? ⟨w.heap.size, 6, none⟩ = false := hB3.frozen 6
          go_wp2_with fail
          go_roundg q
          case measure => omega
          case rel =>
            refine ⟨nd 54 [t', u], σ2, none, 0, 0, _, 2, 2, hres, by omega, by omega, (p7w p3 (by omega) (by omega)).alloc _, (r7 hB3 rfl).alloc _, (b7w hR3 (by omega)).alloc _, .nil0, ?_, (k7w K3 (Or.inr (Nat.le_refl _))).alloc _⟩
            exact TmL.two (ty := 27) ⟨by omega, by omega, by omega⟩ (Nat.le_refl _) (Blk.new' 27 _ (by simp)) ((ka3.frame (same7k (Or.inl rfl))).frame (Same.alloc _ _)) ((kc3.frame (same7k (Or.inl rfl))).frame (Same.alloc _ _)) (((au.mono (ok' := okk n0 w.heap.size (w.heap.size + 1)) (fun k _ (h : w1.heap.size ≤ k) => ⟨by omega, by omega, by omega⟩)).frame (same7k (Or.inl rfl))).frame (Same.alloc _ _)) (((cu.mono (ok' := okk n0 w.heap.size (w.heap.size + 1)) (fun k _ (h : w1.heap.size ≤ k) => ⟨by omega, by omega, by omega⟩)).frame (same7k (Or.inl rfl))).frame (Same.alloc _ _))
    case false =>
      refine (is_any p1 kLpar hi1).mono ?_
      rintro e w' ⟨rfl, rfl⟩
      go_wp2_with fail
      cases hi2 : isS σ' kLbr
      case true =>
        refine (is_any p1 kLbr hi2).mono ?_
        rintro e w' ⟨rfl, rfl⟩
        have y0 : w1.cell? ⟨l5, 0, none⟩ = some (.int .i64 t'.op) := hC1.cell 0
        have y1 : w1.cell? ⟨l5, 1, none⟩ = some (.string t'.name) := hC1.cell 1
        have y2 : w1.cell? ⟨l5, 2, none⟩ = some (.int .i64 t'.n) := hC1.cell 2
        have y3 : w1.cell? ⟨l5, 3, none⟩ = some (.int .i64 t'.ty.kind) := hC1.cell 3
        have y4 : w1.cell? ⟨l5, 4, none⟩ = some (.string t'.ty.name) := hC1.cell 4
        have y5 : w1.cell? ⟨l5, 5, none⟩ = some (.slice ua un uc) := hC1.cell 5
        have y6 : w1.cell? ⟨l5, 6, none⟩ = some (.slice va vn vc) := hC1.cell 6
        cases hin : insideS T s kLbr kRbr σ' with
        | error r =>
          have hres : Hid (afterS T s (s.size + 2) t σ = .error r) := Lib.hid (hq.out.symm.trans (by unfold afterS; simp only [hi1, hi2, hin]))
          go_wp2_with fail
          refine wp_region_lmc (.tmp 0) (by kernel_rfl) rfl rfl (by kernel_rfl) (by kernel_rfl) (by kernel_rfl) (by kernel_rfl) (by kernel_rfl) (by kernel_rfl) ?_ ?_ ?_
          all_goals
            go_wp2_with fail
            refine (inside_any hT hI p1.drew (by omega) kLbr kRbr).mono ?_
            rintro e w3 hr
            obtain ⟨rfl, k3⟩ := hr.getErr hin
            clear hr
            go_wp2_with fail
            exact ⟨rfl, RPost.err hres.out ⟨rfl, K1.drew.trans k3⟩⟩
        | ok q5 =>
          obtain ⟨u, σ2⟩ := q5
          have hres : Hid (afterS T s q (nd 53 [t', u]) σ2 = afterS T s (s.size + 2) t σ) := Lib.hid (Eq.trans (by conv => rhs; unfold afterS; simp only [hi1, hi2, hin]) hq.out)
          have i2 := (inv_inside hI p1.le hin).1
          unfold Inv1 at i2
          have hb1 := p1.lt
          have lB1 := hB1.lt
          have lC1 := hC1.lt
          go_wp2_with fail
          refine wp_region_lmc (.tmp 0) (by kernel_rfl) rfl rfl (by kernel_rfl) (by kernel_rfl) (by kernel_rfl) (by kernel_rfl) (by kernel_rfl) (by kernel_rfl) ?_ ?_ ?_
          all_goals
            go_wp2_with fail
            refine (inside_any hT hI p1.drew (by omega) kLbr kRbr).mono ?_
            rintro e w3 hr
            obtain ⟨v, rfl, ⟨tk5, kk5, rfl, au, cu⟩, p3, k3⟩ := hr.getOk hin
            clear hr
            obtain ⟨ta5, tn5, tc5, rfl⟩ := au.slice
            obtain ⟨ma5, mn5, mc5, rfl⟩ := cu.slice
            unfold tmVal
            have hB3 := hB1.drew.kept k3 (by show ¬ w.heap.size = b; omega)
            have hR3 := hR1.drew.kept k3 (by show ¬ w.heap.size + 1 = b; omega)
            have hC3 := hC1.drew.kept k3 (by show ¬ l5 = b; omega)
            have ka3 := (ka1.frame (Same.drew _)).frame (Same.of_kept k3 (fun k h e => by have := h.1; omega))
            have kc3 := (kc1.frame (Same.drew _)).frame (Same.of_kept k3 (fun k h e => by have := h.1; omega))
            have K3 := K1.drew.trans k3
            have z3 : w1.heap.size ≤ w3.heap.size := k3.size
            have lR3 := hR3.lt
            have lB3 := hB3.lt
            have y'0 : w3.cell? ⟨l5, 0, none⟩ = some (.int .i64 t'.op) := hC3.cell 0
            have y'1 : w3.cell? ⟨l5, 1, none⟩ = some (.string t'.name) := hC3.cell 1
            have y'2 : w3.cell? ⟨l5, 2, none⟩ = some (.int .i64 t'.n) := hC3.cell 2
            have y'3 : w3.cell? ⟨l5, 3, none⟩ = some (.int .i64 t'.ty.kind) := hC3.cell 3
            have y'4 : w3.cell? ⟨l5, 4, none⟩ = some (.string t'.ty.name) := hC3.cell 4
            have y'5 : w3.cell? ⟨l5, 5, none⟩ = some (.slice ua un uc) := hC3.cell 5
            have y'6 : w3.cell? ⟨l5, 6, none⟩ = some (.slice va vn vc) := hC3.cell 6
            have x0 : w3.cell? ⟨w.heap.size, 0, none⟩ = some (.int .i64 t'.op) := hB3.cell 0
            have f0 : w3.frozen? ⟨w.heap.size, 0, none⟩ = false := hB3.frozen 0
            have x1 : w3.cell? ⟨w.heap.size, 1, none⟩ = some (.string t'.name) := hB3.cell 1
            have f1 : w3.frozen? ⟨w.heap.size, 1, none⟩ = false := hB3.frozen 1
            have x2 : w3.cell? ⟨w.heap.size, 2, none⟩ = some (.int .i64 t'.n) := hB3.cell 2
            have f2 : w3.frozen? ⟨w.heap.size, 2, none⟩ = false := hB3.frozen 2
            have x3 : w3.cell? ⟨w.heap.size, 3, none⟩ = some (.int .i64 t'.ty.kind) := hB3.cell 3
            have f3 : w3.frozen? ⟨w.heap.size, 3, none⟩ = false := hB3.frozen 3
            have x4 : w3.cell? ⟨w.heap.size, 4, none⟩ = some (.string t'.ty.name) := hB3.cell 4
            have f4 : w3.frozen? ⟨w.heap.size, 4, none⟩ = false := hB3.frozen 4
            have x5 : w3.cell? ⟨w.heap.size, 5, none⟩ = some (.slice ua un uc) := hB3.cell 5
            have f5 : w3.frozen? ⟨w.heap.size, 5, none⟩ = false := hB3.frozen 5
            have x6 : w3.cell? ⟨w.heap.size, 6, none⟩ = some (.slice va vn vc) := hB3.cell 6
            have f6 : w3.frozen? ⟨w.heap.size, 6, none⟩ = false := hB3.frozen 6
            go_wp2_with fail
            go_roundg q
            case measure => omega
            case rel =>
              refine ⟨nd 53 [t', u], σ2, none, 0, 0, _, 2, 2, hres, by omega, by omega, (p7w p3 (by omega) (by omega)).alloc _, (r7 hB3 rfl).alloc _, (b7w hR3 (by omega)).alloc _, .nil0, ?_, (k7w K3 (Or.inr (Nat.le_refl _))).alloc _⟩
              exact TmL.two (ty := 27) ⟨by omega, by omega, by omega⟩ (Nat.le_refl _) (Blk.new' 27 _ (by simp)) ((ka3.frame (same7k (Or.inl rfl))).frame (Same.alloc _ _)) ((kc3.frame (same7k (Or.inl rfl))).frame (Same.alloc _ _)) (((au.mono (ok' := okk n0 w.heap.size (w.heap.size + 1)) (fun k _ (h : w1.heap.size ≤ k) => ⟨by omega, by omega, by omega⟩)).frame (same7k (Or.inl rfl))).frame (Same.alloc _ _)) (((cu.mono (ok' := okk n0 w.heap.size (w.heap.size + 1)) (fun k _ (h : w1.heap.size ≤ k) => ⟨by omega, by omega, by omega⟩)).frame (same7k (Or.inl rfl))).frame (Same.alloc _ _))
      case false =>
        refine (is_any p1 kLbr hi2).mono ?_
        rintro e w' ⟨rfl, rfl⟩
        go_wp2_with fail
        cases hi3 : isS σ' kTilde
        case true =>
          cases ha : advS s σ' with
          | error r =>
            have hres : Hid (afterS T s (s.size + 2) t σ = .error r) := Lib.hid (hq.out.symm.trans (by unfold afterS; simp only [hi1, hi2, hi3, ha]))
            refine (eat_bad p1 kTilde hi3 ha).mono ?_
            rintro e w3 ⟨rfl, k3⟩
            go_wp2_with fail
            exact ⟨rfl, RPost.err hres.out ⟨rfl, K1.trans k3⟩⟩
          | ok σ2 =>
            have hres : Hid (afterS T s q (nd 52 [t']) σ2 = afterS T s (s.size + 2) t σ) := Lib.hid (Eq.trans (by conv => rhs; unfold afterS; simp only [hi1, hi2, hi3, ha]) hq.out)
            have i2 := inv_adv p1.le (isS_ne hi3) ha
            have hb1 := p1.lt
            have lB1 := hB1.lt
            have lC1 := hC1.lt
            refine (eat_yes p1 kTilde hi3 ha).mono ?_
            rintro e w3 ⟨rfl, p3, k3⟩
            have hB3 := hB1.kept k3 (by show ¬ w.heap.size = b; omega)
            have hR3 := hR1.kept k3 (by show ¬ w.heap.size + 1 = b; omega)
            have hC3 := hC1.kept k3 (by show ¬ l5 = b; omega)
            have ka3 := ka1.frame (Same.of_kept k3 (fun k h e => by have := h.1; omega))
            have kc3 := kc1.frame (Same.of_kept k3 (fun k h e => by have := h.1; omega))
            have K3 := K1.trans k3
            have z3 : w1.heap.size ≤ w3.heap.size := k3.size
            have lR3 := hR3.lt
            have lB3 := hB3.lt
            have y0 : w3.cell? ⟨l5, 0, none⟩ = some (.int .i64 t'.op) := hC3.cell 0
            have y1 : w3.cell? ⟨l5, 1, none⟩ = some (.string t'.name) := hC3.cell 1
            have y2 : w3.cell? ⟨l5, 2, none⟩ = some (.int .i64 t'.n) := hC3.cell 2
            have y3 : w3.cell? ⟨l5, 3, none⟩ = some (.int .i64 t'.ty.kind) := hC3.cell 3
            have y4 : w3.cell? ⟨l5, 4, none⟩ = some (.string t'.ty.name) := hC3.cell 4
            have y5 : w3.cell? ⟨l5, 5, none⟩ = some (.slice ua un uc) := hC3.cell 5
            have y6 : w3.cell? ⟨l5, 6, none⟩ = some (.slice va vn vc) := hC3.cell 6
            have x0 : w3.cell? ⟨w.heap.size, 0, none⟩ = some (.int .i64 t'.op) := hB3.cell 0
            have f0 : w3.frozen? ⟨w.heap.size, 0, none⟩ = false := hB3.frozen 0
            have x1 : w3.cell? ⟨w.heap.size, 1, none⟩ = some (.string t'.name) := hB3.cell 1
            have f1 : w3.frozen? ⟨w.heap.size, 1, none⟩ = false := hB3.frozen 1
            have x2 : w3.cell? ⟨w.heap.size, 2, none⟩ = some (.int .i64 t'.n) := hB3.cell 2
            have f2 : w3.frozen? ⟨w.heap.size, 2, none⟩ = false := hB3.frozen 2
            have x3 : w3.cell? ⟨w.heap.size, 3, none⟩ = some (.int .i64 t'.ty.kind) := hB3.cell 3
            have f3 : w3.frozen? ⟨w.heap.size, 3, none⟩ = false := hB3.frozen 3
            have x4 : w3.cell? ⟨w.heap.size, 4, none⟩ = some (.string t'.ty.name) := hB3.cell 4
            have f4 : w3.frozen? ⟨w.heap.size, 4, none⟩ = false := hB3.frozen 4
            have x5 : w3.cell? ⟨w.heap.size, 5, none⟩ = some (.slice ua un uc) := hB3.cell 5
            have f5 : w3.frozen? ⟨w.heap.size, 5, none⟩ = false := hB3.frozen 5
            have x6 : w3.cell? ⟨w.heap.size, 6, none⟩ = some (.slice va vn vc) := hB3.cell 6
            have f6 : w3.frozen? ⟨w.heap.size, 6, none⟩ = false := hB3.frozen 6
            go_wp2_with fail
            go_roundg q
            case measure => omega
            case rel =>
              refine ⟨nd 52 [t'], σ2, none, 0, 0, _, 1, 1, hres, by omega, by omega, (p7w p3 (by omega) (by omega)).alloc _, (r7 hB3 rfl).alloc _, (b7w hR3 (by omega)).alloc _, .nil0, ?_, (k7w K3 (Or.inr (Nat.le_refl _))).alloc _⟩
              exact TmL.one (ty := 27) ⟨by omega, by omega, by omega⟩ (Nat.le_refl _) (Blk.new' 27 _ (by simp)) ((ka3.frame (same7k (Or.inl rfl))).frame (Same.alloc _ _)) ((kc3.frame (same7k (Or.inl rfl))).frame (Same.alloc _ _))
        case false =>
          have hres : Hid (afterS T s (s.size + 2) t σ = .ok (t', σ')) := Lib.hid (hq.out.symm.trans (by unfold afterS; simp only [hi1, hi2, hi3]))
          refine (eat_no p1 kTilde hi3).mono ?_
          rintro e w' ⟨rfl, rfl⟩
          have y0 : w1.cell? ⟨w.heap.size, 0, none⟩ = some (.int .i64 t'.op) := hB1.cell 0
          have y1 : w1.cell? ⟨w.heap.size, 1, none⟩ = some (.string t'.name) := hB1.cell 1
          have y2 : w1.cell? ⟨w.heap.size, 2, none⟩ = some (.int .i64 t'.n) := hB1.cell 2
          have y3 : w1.cell? ⟨w.heap.size, 3, none⟩ = some (.int .i64 t'.ty.kind) := hB1.cell 3
          have y4 : w1.cell? ⟨w.heap.size, 4, none⟩ = some (.string t'.ty.name) := hB1.cell 4
          have y5 : w1.cell? ⟨w.heap.size, 5, none⟩ = some (.slice ua un uc) := hB1.cell 5
          have y6 : w1.cell? ⟨w.heap.size, 6, none⟩ = some (.slice va vn vc) := hB1.cell 6
          have g0 : w1.cell? ⟨w.heap.size + 1, 0, none⟩ = some (.int .i64 0) := hR1.cell 0
          have f0 : w1.frozen? ⟨w.heap.size + 1, 0, none⟩ = false := hR1.frozen 0
          have g1 : w1.cell? ⟨w.heap.size + 1, 1, none⟩ = some (.string ⟨#[]⟩) := hR1.cell 1
          have f1 : w1.frozen? ⟨w.heap.size + 1, 1, none⟩ = false := hR1.frozen 1
          have g2 : w1.cell? ⟨w.heap.size + 1, 2, none⟩ = some (.int .i64 0) := hR1.cell 2
          have f2 : w1.frozen? ⟨w.heap.size + 1, 2, none⟩ = false := hR1.frozen 2
          have g3 : w1.cell? ⟨w.heap.size + 1, 3, none⟩ = some (.int .i64 0) := hR1.cell 3
          have f3 : w1.frozen? ⟨w.heap.size + 1, 3, none⟩ = false := hR1.frozen 3
          have g4 : w1.cell? ⟨w.heap.size + 1, 4, none⟩ = some (.string ⟨#[]⟩) := hR1.cell 4
          have f4 : w1.frozen? ⟨w.heap.size + 1, 4, none⟩ = false := hR1.frozen 4
          have g5 : w1.cell? ⟨w.heap.size + 1, 5, none⟩ = some (.slice none 0 0) := hR1.cell 5
          have f5 : w1.frozen? ⟨w.heap.size + 1, 5, none⟩ = false := hR1.frozen 5
          have g6 : w1.cell? ⟨w.heap.size + 1, 6, none⟩ = some (.slice none 0 0) := hR1.cell 6
          have f6 : w1.frozen? ⟨w.heap.size + 1, 6, none⟩ = false := hR1.frozen 6
          go_wp2_with fail
          refine ret_tm Tryz.results66 hres.out rfl rfl (r7 hR1 rfl) ?_ ?_ (p7w p1 (by omega) (by omega)) (k7w K1 (Or.inr (by omega)))
          · exact (ka1.frame (same7k (Or.inr rfl))).mono (fun k _ h => h.1)
          · exact (kc1.frame (same7k (Or.inr rfl))).mono (fun k _ h => h.1)
structure Pair (ok : Nat → Prop) (w : World) (x y : Tm) (g off cap : Nat) (k0 m0 k1 m1 : Value) : Prop where
  okg : ok g
  cap2 : 2 ≤ cap
  x0 : w.cell? ⟨g, off, none⟩ = some (.int .i64 x.op)
  x1 : w.cell? ⟨g, off + 1, none⟩ = some (.string x.name)
  y0 : w.cell? ⟨g, off + 7, none⟩ = some (.int .i64 y.op)
  y1 : w.cell? ⟨g, off + 8, none⟩ = some (.string y.name)
  y2 : w.cell? ⟨g, off + 9, none⟩ = some (.int .i64 y.n)
  y3 : w.cell? ⟨g, off + 10, none⟩ = some (.int .i64 y.ty.kind)
  y4 : w.cell? ⟨g, off + 11, none⟩ = some (.string y.ty.name)
  y5 : w.cell? ⟨g, off + 12, none⟩ = some k1
  y6 : w.cell? ⟨g, off + 13, none⟩ = some m1
  ty : TyL ok w y.ty.kids k1
  tm : TmL ok w y.kids m1
theorem kept_grown {w w' : World} {row : Option Nat} (h : w.grownBy w' row) : Kept (fun k => row = some k) w w' := ⟨h.os, h.tape, h.output, h.size, fun k hk hn => h.block k hk (fun e => hn e.symm)⟩
theorem Kept.via {S S' : Nat → Prop} {w w1 w2 : World} (h : Kept S w w1) (k : Kept S' w1 w2) (hS : ∀ x, x < w.heap.size → S' x → S x) : Kept S w w2 :=
  ⟨k.os.trans h.os, k.tape.trans h.tape, k.output.trans h.output, Nat.le_trans h.size k.size, fun i hi hs => (k.block i (Nat.lt_of_lt_of_le hi h.size) (fun q => hs (hS i hi q))).trans (h.block i hi hs)⟩
def ok3 (n0 B R : Nat) (v : Value) (k : Nat) : Prop := n0 ≤ k ∧ k ≠ B ∧ k ≠ R ∧ v.ownBlock ≠ some k
theorem TmL.pair {ok : Nat → Prop} {w : World} {x y : Tm} {v : Value} (h : TmL ok w [x, y] v) : ∃ g off cap k0 m0 k1 m1, v = .slice (some ⟨g, off, none⟩) 2 cap ∧ Pair ok w x y g off cap k0 m0 k1 m1 := by
  generalize hl : [x, y] = l at h
  cases h with
  | nil h => cases hl
  | mk K M hne hb hc hcell hk hm =>
    rename_i g off cap
    subst hl
    have h0 := hcell 0 (by simp)
    have h1 := hcell 1 (by simp)
    refine ⟨g, off, cap, K 0, M 0, K 1, M 1, rfl, hb, hc, ?_, ?_, ?_, ?_, ?_, ?_, ?_, ?_, ?_, hk 1 (by simp), hm 1 (by simp)⟩
    · simpa using h0.1
    · simpa using h0.2.1
    · simpa using h1.1
    · simpa using h1.2.1
    · simpa using h1.2.2.1
    · simpa using h1.2.2.2.1
    · simpa using h1.2.2.2.2.1
    · simpa using h1.2.2.2.2.2.1
    · simpa using h1.2.2.2.2.2.2
set_option maxRecDepth 100000 in
set_option maxHeartbeats 8000000 in
theorem elements_any {b : Nat} {s : ByteArray} {f : Nat} {T : TF} {w : World} {σ : PS} (hT : TC b s f T) (hI : TInv s T) (h : PW w b s σ) (hnest : 1 ≤ σ.nest) (hf : 14 * mu s σ ≤ f) (t : Tm) (hgo : good t) (hnm : ∀ k ∈ t.kids, k.name.size ≤ 65536) (bare : Bool) (ta : Option Addr) (tn tc : Nat) (ma : Option Addr) (mn mc n0 : Nat) (hb0 : b < n0) (hn0 : n0 ≤ w.heap.size)
    (a : TyL (fun k => n0 ≤ k) w t.ty.kids (.slice ta tn tc)) (c : TmL (fun k => n0 ≤ k) w t.kids (.slice ma mn mc)) :
    Calls Tryz.prog 151 #[.pointer (some ⟨b, 0, none⟩), tmVal t (.slice ta tn tc) (.slice ma mn mc), .bool bare] w (RPost b s (VTm n0) (elementsS T s t bare σ) w) := by
  have hlt := h.lt
  have hgl := h.gl.lt
  unfold tmVal
  have K0 : Kept (· = b) w ((w.alloc (.cells #[.int .i64 t.op, .string t.name, .int .i64 t.n, .int .i64 t.ty.kind, .string t.ty.name, .slice ta tn tc, .slice ma mn mc] 27)).alloc (.cells #[.int .i64 0, .string ⟨#[]⟩, .int .i64 0, .int .i64 0, .string ⟨#[]⟩, .slice none 0 0, .slice none 0 0] 27)) := ((Kept.refl _ _).alloc _).alloc _
  have h0 := (h.alloc (.cells #[.int .i64 t.op, .string t.name, .int .i64 t.n, .int .i64 t.ty.kind, .string t.ty.name, .slice ta tn tc, .slice ma mn mc] 27)).alloc (.cells #[.int .i64 0, .string ⟨#[]⟩, .int .i64 0, .int .i64 0, .string ⟨#[]⟩, .slice none 0 0, .slice none 0 0] 27)
  have hB0 : Blk ((w.alloc (.cells #[.int .i64 t.op, .string t.name, .int .i64 t.n, .int .i64 t.ty.kind, .string t.ty.name, .slice ta tn tc, .slice ma mn mc] 27)).alloc (.cells #[.int .i64 0, .string ⟨#[]⟩, .int .i64 0, .int .i64 0, .string ⟨#[]⟩, .slice none 0 0, .slice none 0 0] 27)) w.heap.size 27 (tmCells t (.slice ta tn tc) (.slice ma mn mc)) := (Blk.new w 27 (tmCells t (.slice ta tn tc) (.slice ma mn mc))).alloc (.cells #[.int .i64 0, .string ⟨#[]⟩, .int .i64 0, .int .i64 0, .string ⟨#[]⟩, .slice none 0 0, .slice none 0 0] 27)
  have hR0 : Blk ((w.alloc (.cells #[.int .i64 t.op, .string t.name, .int .i64 t.n, .int .i64 t.ty.kind, .string t.ty.name, .slice ta tn tc, .slice ma mn mc] 27)).alloc (.cells #[.int .i64 0, .string ⟨#[]⟩, .int .i64 0, .int .i64 0, .string ⟨#[]⟩, .slice none 0 0, .slice none 0 0] 27)) (w.heap.size + 1) 27 z27 := Blk.new' 27 z27 (by simp)
  have a0 := ((a.mono (ok' := okk n0 w.heap.size (w.heap.size + 1)) (fun k hk h => ⟨h, by omega, by omega⟩)).frame (Same.alloc _ (.cells #[.int .i64 t.op, .string t.name, .int .i64 t.n, .int .i64 t.ty.kind, .string t.ty.name, .slice ta tn tc, .slice ma mn mc] 27))).frame (Same.alloc _ (.cells #[.int .i64 0, .string ⟨#[]⟩, .int .i64 0, .int .i64 0, .string ⟨#[]⟩, .slice none 0 0, .slice none 0 0] 27))
  have c0 := ((c.mono (ok' := okk n0 w.heap.size (w.heap.size + 1)) (fun k hk h => ⟨h, by omega, by omega⟩)).frame (Same.alloc _ (.cells #[.int .i64 t.op, .string t.name, .int .i64 t.n, .int .i64 t.ty.kind, .string t.ty.name, .slice ta tn tc, .slice ma mn mc] 27))).frame (Same.alloc _ (.cells #[.int .i64 0, .string ⟨#[]⟩, .int .i64 0, .int .i64 0, .string ⟨#[]⟩, .slice none 0 0, .slice none 0 0] 27))
  have lw : ((w.alloc (.cells #[.int .i64 t.op, .string t.name, .int .i64 t.n, .int .i64 t.ty.kind, .string t.ty.name, .slice ta tn tc, .slice ma mn mc] 27)).alloc (.cells #[.int .i64 0, .string ⟨#[]⟩, .int .i64 0, .int .i64 0, .string ⟨#[]⟩, .slice none 0 0, .slice none 0 0] 27)).heap.size = w.heap.size + 2 := by simp
  go_enter Tryz.func151, Tryz.ntmps151
  go_upto_region 1 with (fail)
  generalize ((w.alloc (.cells #[.int .i64 t.op, .string t.name, .int .i64 t.n, .int .i64 t.ty.kind, .string t.ty.name, .slice ta tn tc, .slice ma mn mc] 27)).alloc (.cells #[.int .i64 0, .string ⟨#[]⟩, .int .i64 0, .int .i64 0, .string ⟨#[]⟩, .slice none 0 0, .slice none 0 0] 27)) = w1 at *
  have y0 : w1.cell? ⟨w.heap.size, 0, none⟩ = some (.int .i64 t.op) := hB0.cell 0
  have y1 : w1.cell? ⟨w.heap.size, 1, none⟩ = some (.string t.name) := hB0.cell 1
  have y2 : w1.cell? ⟨w.heap.size, 2, none⟩ = some (.int .i64 t.n) := hB0.cell 2
  have y3 : w1.cell? ⟨w.heap.size, 3, none⟩ = some (.int .i64 t.ty.kind) := hB0.cell 3
  have y4 : w1.cell? ⟨w.heap.size, 4, none⟩ = some (.string t.ty.name) := hB0.cell 4
  have y5 : w1.cell? ⟨w.heap.size, 5, none⟩ = some (.slice ta tn tc) := hB0.cell 5
  have y6 : w1.cell? ⟨w.heap.size, 6, none⟩ = some (.slice ma mn mc) := hB0.cell 6
  go_cut [1, 2, 35] (fun _ _ v wx => v = .bool (isS σ kBar && bare && headB t) ∧ wx = w1)
  case first =>
    cases hi : isS σ kBar
    case false =>
      go_wp2_with fail
      refine (is_any h0 kBar hi).mono ?_
      rintro e w' ⟨rfl, rfl⟩
      go_wp2_with fail
      go_meet
      case rel => exact ⟨by simp [hi], rfl⟩
    case true =>
      cases hb : bare
      case false =>
        go_wp2_with fail
        refine (is_any h0 kBar hi).mono ?_
        rintro e w' ⟨rfl, rfl⟩
        go_wp2_with fail
        go_meet
        case rel => exact ⟨by simp [hi, hb], rfl⟩
      case true =>
        cases ho : (t.op == 16)
        case false =>
          go_wp2_with fail
          refine (is_any h0 kBar hi).mono ?_
          rintro e w' ⟨rfl, rfl⟩
          go_wp2_with fail
          go_meet
          case rel => exact ⟨by simp [hi, hb, headB, ho], rfl⟩
        case true =>
          obtain ⟨x, y, hxy⟩ : ∃ x y, t.kids = [x, y] := by
            have := hgo (by simpa using ho)
            match hh : t.kids, this with
            | [x, y], _ => exact ⟨x, y, rfl⟩
          have HXY := Lib.hid hxy
          rw [hxy] at c0
          clear hxy
          obtain ⟨g, off, cap, k0, m0, k1, m1, hv, pr⟩ := c0.pair
          cases hv
          have q0 := pr.x0
          have q1 := pr.x1
          have q2 := pr.cap2
          have hxn : x.name.size ≤ 65536 := hnm x (by rw [HXY.out]; simp)
          cases hx : (x.op == 20)
          case false =>
            go_wp2_with fail
            refine (is_any h0 kBar hi).mono ?_
            rintro e w' ⟨rfl, rfl⟩
            go_wp2_with fail
            go_meet
            case rel => exact ⟨by simp [hi, hb, headB, ho, HXY.out, hx], rfl⟩
          case true =>
            cases hn : identB x.name
            all_goals
              go_wp2_with fail
              refine (is_any h0 kBar hi).mono ?_
              rintro e w' ⟨rfl, rfl⟩
              go_wp2_with fail
              refine (ident_t hn hxn _).mono ?_
              rintro e w' ⟨rfl, rfl⟩
              go_wp2_with fail
              go_meet
              case rel => exact ⟨by simp [hi, hb, headB, ho, HXY.out, hx, hn], rfl⟩
  case rest =>
    obtain ⟨rfl, hw⟩ := hcut
    obtain rfl := hw.symm
    have L1 := Lib.hid lw
    have hlo : w.heap.size + 2 ≤ w1.heap.size := by omega
    clear lw
    cases hd : (isS σ kBar && bare && headB t)
    case false =>
      go_upto_block 0 with (fail)
      have bk : Blk (w1.alloc (.cells #[.int .i64 t.op, .string t.name, .int .i64 t.n, .int .i64 t.ty.kind, .string t.ty.name, .slice ta tn tc, .slice ma mn mc] 27)) w1.heap.size 27 (tmCells t (.slice ta tn tc) (.slice ma mn mc)) := Blk.new w1 27 _
      have kk1 : Kept (fun _ => False) w1 (w1.alloc (.cells #[.int .i64 t.op, .string t.name, .int .i64 t.n, .int .i64 t.ty.kind, .string t.ty.name, .slice ta tn tc, .slice ma mn mc] 27)) := (Kept.refl _ _).alloc _
      generalize hW : w1.alloc (.cells #[.int .i64 t.op, .string t.name, .int .i64 t.n, .int .i64 t.ty.kind, .string t.ty.name, .slice ta tn tc, .slice ma mn mc] 27) = w2 at *
      clear hW
      have p2 := h0.grow kk1 id id id
      have hR2 := hR0.kept kk1 id
      have K2 : Kept (· = b) w w2 := K0.trans (kk1.mono (fun _ _ h => h.elim))
      have own2 := own_one (base := w.heap.size + 2) bk (by omega)
      have a2 := (a0.mono (ok' := ok3 n0 w.heap.size (w.heap.size + 1) (.slice (some ⟨w1.heap.size, 0, none⟩) 1 1)) (fun k hk h => ⟨h.1, h.2.1, h.2.2, fun e => by have e' : w1.heap.size = k := Option.some.inj e; omega⟩)).frame (Same.of_kept kk1 (fun _ _ => id))
      have c2 := (c0.mono (ok' := ok3 n0 w.heap.size (w.heap.size + 1) (.slice (some ⟨w1.heap.size, 0, none⟩) 1 1)) (fun k hk h => ⟨h.1, h.2.1, h.2.2, fun e => by have e' : w1.heap.size = k := Option.some.inj e; omega⟩)).frame (Same.of_kept kk1 (fun _ _ => id))
      have mu0 := mu_le s σ
      go_wp2_with fail
      go_loopg [8] (s.size + 2) (fun m v wr => ∃ (E : List E3) (σ' : PS), Hid (elemsS T s m (E.map (·.1)) σ' = elemsS T s (s.size + 2) [t] σ) ∧ mu s σ' < m ∧ mu s σ' ≤ mu s σ ∧ σ'.nest = σ.nest ∧ E ≠ [] ∧ E.length + mu s σ' ≤ s.size + 2 ∧ PW wr b s σ' ∧ Blk wr (w.heap.size + 1) 27 z27 ∧ wr.ownsRow (w.heap.size + 2) 27 7 v E.length (flat E) ∧ EL (ok3 n0 w.heap.size (w.heap.size + 1) v) wr E ∧ Kept (· = b) w wr)
      case atStart => exact ⟨[(t, .slice ta tn tc, .slice ma mn mc)], σ, Lib.hid rfl, by omega, Nat.le_refl _, rfl, by simp, by simp; omega, p2, hR2, own2, fun e he => by rw [List.mem_singleton.1 he]; exact ⟨a2, c2⟩, K2⟩
      case round =>
        clear p2 hR2 K2 own2 a2 c2 bk y0 y1 y2 y3 y4 y5 y6
        obtain ⟨E, σ', hq, hm, hmm, hns, hE, hle, p, hR, hown, hel, K⟩ := hrel
        have HNS := Lib.hid hns
        have hn1 : 1 ≤ σ'.nest := by omega
        clear hns
        obtain ⟨q, rfl⟩ : ∃ q, gk = q + 1 := ⟨gk - 1, by omega⟩
        have hsl := tml_of_row hE hown (hel.mono (ok' := fun k => n0 ≤ k) (fun k _ h => h.1)) (fun g hg => by have := (hown.lt g hg).1; omega)
        obtain ⟨va, vn, vc, hv⟩ := hsl.slice
        cases hv
        cases hc : isS σ' kComma
        case false =>
          have hel' : Hid (elemsS T s (s.size + 2) [t] σ = .ok (E.map (·.1), σ')) := Lib.hid (hq.out.symm.trans (by unfold elemsS; simp only [hc]))
          go_wp2_with fail
          refine (eat_no p kComma hc).mono ?_
          rintro e w3 ⟨rfl, rfl⟩
          go_wp2_with fail
          cases hs : shutS s σ' kRcu with
          | error r =>
            have hres : Hid (elementsS T s t bare σ = .error r) := Lib.hid (by unfold elementsS; simp only [hd, hel'.out, hs])
            refine (shut_err p kRcu hs).mono ?_
            rintro e w7 ⟨rfl, k7⟩
            go_wp2_with fail
            exact ⟨rfl, RPost.err hres.out ⟨rfl, K.trans k7⟩⟩
          | ok σ3 =>
            have hres : Hid (elementsS T s t bare σ = .ok (nd 28 (E.map (·.1)), σ3)) := Lib.hid (by unfold elementsS; simp only [hd, hel'.out, hs])
            refine (shut_ok p hn1 kRcu hs).mono ?_
            rintro e w7 ⟨rfl, p7, k7⟩
            have hR7 := hR.kept k7 (by show ¬ w.heap.size + 1 = b; omega)
            have own7 := own_kept hown k7 (fun g hg e => by have := (hown.lt g hg).1; have e' : g = b := e; omega)
            have el7 := hel.frame (Same.of_kept k7 (fun k h e => by have := h.1; have e' : k = b := e; omega))
            have K7 := K.trans k7
            have row7 := tml_of_row (ok := okk n0 w.heap.size (w.heap.size + 1)) hE own7 (el7.mono (fun k _ h => ⟨h.1, h.2.1, h.2.2.1⟩)) (fun g hg => by have := (hown.lt g hg).1; exact ⟨by omega, by omega, by omega⟩)
            have g0 : w7.cell? ⟨w.heap.size + 1, 0, none⟩ = some (.int .i64 0) := hR7.cell 0
            have g1 : w7.cell? ⟨w.heap.size + 1, 1, none⟩ = some (.string ⟨#[]⟩) := hR7.cell 1
            have g2 : w7.cell? ⟨w.heap.size + 1, 2, none⟩ = some (.int .i64 0) := hR7.cell 2
            have g3 : w7.cell? ⟨w.heap.size + 1, 3, none⟩ = some (.int .i64 0) := hR7.cell 3
            have g4 : w7.cell? ⟨w.heap.size + 1, 4, none⟩ = some (.string ⟨#[]⟩) := hR7.cell 4
            have g5 : w7.cell? ⟨w.heap.size + 1, 5, none⟩ = some (.slice none 0 0) := hR7.cell 5
            have g6 : w7.cell? ⟨w.heap.size + 1, 6, none⟩ = some (.slice none 0 0) := hR7.cell 6
            have f0 : w7.frozen? ⟨w.heap.size + 1, 0, none⟩ = false := hR7.frozen 0
            have f1 : w7.frozen? ⟨w.heap.size + 1, 1, none⟩ = false := hR7.frozen 1
            have f2 : w7.frozen? ⟨w.heap.size + 1, 2, none⟩ = false := hR7.frozen 2
            have f3 : w7.frozen? ⟨w.heap.size + 1, 3, none⟩ = false := hR7.frozen 3
            have f4 : w7.frozen? ⟨w.heap.size + 1, 4, none⟩ = false := hR7.frozen 4
            have f5 : w7.frozen? ⟨w.heap.size + 1, 5, none⟩ = false := hR7.frozen 5
            have f6 : w7.frozen? ⟨w.heap.size + 1, 6, none⟩ = false := hR7.frozen 6
            go_wp2_with fail
            refine ret_tm Tryz.results151 (t := nd 28 (E.map (·.1))) hres.out rfl rfl (r7 hR7 rfl) .nil0 ?_ (p7w p7 (by omega) (by omega)) (k7w K7 (Or.inr (by omega)))
            exact (row7.frame (same7k (Or.inr rfl))).mono (fun k _ h => h.1)
        case true =>
          have hne := isS_ne hc
          go_wp2_with fail
          cases ha : advS s σ' with
          | error r =>
            have hres : Hid (elementsS T s t bare σ = .error r) := Lib.hid (by unfold elementsS; simp only [hd]; rw [← hq.out]; unfold elemsS; simp only [hc, ha])
            refine (eat_bad p kComma hc ha).mono ?_
            rintro e w4 ⟨rfl, k4⟩
            go_wp2_with fail
            exact ⟨rfl, RPost.err hres.out ⟨rfl, K.trans k4⟩⟩
          | ok σ1 =>
            have i1 := inv_adv p.le hne ha
            refine (eat_yes p kComma hc ha).mono ?_
            rintro e w4 ⟨rfl, p4, k4⟩
            have hR4 := hR.kept k4 (by show ¬ w.heap.size + 1 = b; omega)
            have own4 := own_kept hown k4 (fun g hg e => by have := (hown.lt g hg).1; have e' : g = b := e; omega)
            have el4 := hel.frame (Same.of_kept k4 (fun k h e => by have := h.1; have e' : k = b := e; omega))
            have K4 := K.trans k4
            clear k4 p hR hown hel K
            go_wp2_with fail
            refine (hT 1 1 rfl σ1 _ (by omega) (by omega) p4 (by omega)).mono ?_
            rintro e w5 hr
            cases htt : T 1 σ1 with
            | error r =>
              have hres : Hid (elementsS T s t bare σ = .error r) := Lib.hid (by unfold elementsS; simp only [hd]; rw [← hq.out]; unfold elemsS; simp only [hc, ha, htt])
              obtain ⟨rfl, k5⟩ := hr.getErr htt
              clear hr
              go_wp2_with fail
              exact ⟨rfl, RPost.err hres.out ⟨rfl, K4.trans k5⟩⟩
            | ok q5 =>
              obtain ⟨u, σ2⟩ := q5
              have hres : Hid (elemsS T s q (E.map (·.1) ++ [u]) σ2 = elemsS T s (s.size + 2) [t] σ) := Lib.hid (Eq.trans (by conv => rhs; unfold elemsS; simp only [hc, ha, htt]) hq.out)
              obtain ⟨v, rfl, ⟨tk5, kk5, rfl, au, cu⟩, p5, k5⟩ := hr.getOk htt
              clear hr
              have i2 := (hI _ _ _ _ p4.le htt).1
              unfold Inv at i2
              obtain ⟨ta5, tn5, tc5, rfl⟩ := au.slice
              obtain ⟨ma5, mn5, mc5, rfl⟩ := cu.slice
              unfold tmVal
              have hR5 := hR4.kept k5 (by show ¬ w.heap.size + 1 = b; omega)
              have own5 := own_kept own4 k5 (fun g hg e => by have := (own4.lt g hg).1; have e' : g = b := e; omega)
              have el5 := el4.frame (Same.of_kept k5 (fun k h e => by have := h.1; have e' : k = b := e; omega))
              have K5 := K4.trans k5
              have z4 := K4.size
              have z5 := k5.size
              have zR := hR4.lt
              have au5 := au.mono (ok' := ok3 n0 w.heap.size (w.heap.size + 1) (.slice va vn vc)) (fun k _ h => ⟨by omega, by omega, by omega, fun e => by have := (own4.lt k e).2; omega⟩)
              have cu5 := cu.mono (ok' := ok3 n0 w.heap.size (w.heap.size + 1) (.slice va vn vc)) (fun k _ h => ⟨by omega, by omega, by omega, fun e => by have := (own4.lt k e).2; omega⟩)
              have el5' := el5.snoc (e := (u, .slice ta5 tn5 tc5, .slice ma5 mn5 mc5)) au5 cu5
              have hsz : s.size ≤ 65536 := p5.src
              have HN := Lib.hid HNS.out
              obtain ⟨i27, hi27, hz27, hs27, hb27⟩ : ∃ i, Tryz.prog.info? 27 = some i ∧ i.zero = some (.agg #[.int .i64 0, .string ⟨#[]⟩, .int .i64 0, .int .i64 0, .string ⟨#[]⟩, .slice none 0 0, .slice none 0 0]) ∧ i.size = 7 ∧ i.bytes = 104 := by
                have := info27
                cases hh : Tryz.prog.info? 27 with
                | none => rw [hh] at this; cases this
                | some i => rw [hh] at this; simp only [Option.map_some, Option.some.injEq, Prod.mk.injEq] at this; exact ⟨i, rfl, this.1, this.2.1, this.2.2⟩
              have HI := Lib.hid hi27
              have HZ := Lib.hid hz27
              have HS := Lib.hid hs27
              have HBY := Lib.hid hb27
              clear hi27 hz27 hs27 hb27
              have hnews : Hid (∀ j x, (tmCells u (.slice ta5 tn5 tc5) (.slice ma5 mn5 mc5))[j]? = some x → ((w5.alloc (.cells #[.int .i64 u.op, .string u.name, .int .i64 u.n, .int .i64 u.ty.kind, .string u.ty.name, .slice ta5 tn5 tc5, .slice ma5 mn5 mc5] 27)).alloc (.cells #[.int .i64 u.op, .string u.name, .int .i64 u.n, .int .i64 u.ty.kind, .string u.ty.name, .slice ta5 tn5 tc5, .slice ma5 mn5 mc5] 27)).cell? ((⟨w5.heap.size + 1, 0, none⟩ : Addr).add j) = some x) := Lib.hid (fun j x hx => by
                have hb : Blk ((w5.alloc (.cells #[.int .i64 u.op, .string u.name, .int .i64 u.n, .int .i64 u.ty.kind, .string u.ty.name, .slice ta5 tn5 tc5, .slice ma5 mn5 mc5] 27)).alloc (.cells #[.int .i64 u.op, .string u.name, .int .i64 u.n, .int .i64 u.ty.kind, .string u.ty.name, .slice ta5 tn5 tc5, .slice ma5 mn5 mc5] 27)) (w5.heap.size + 1) 27 (tmCells u (.slice ta5 tn5 tc5) (.slice ma5 mn5 mc5)) := Blk.new' 27 _ (by simp)
                have := hb.cell j
                rw [← hx, ← this]; cases j <;> simp [Addr.add])
              go_wp2_with (at_builtin; refine wpList_append_own_at _ rfl (.tmp 60) (.tmp 62) 25 rfl (w.heap.size + 2) 27 i27 _ 7 104 Tryz.underlying25 HI.out HZ.out HS.out HBY.out rfl (by decide) _ _ _ rfl ((own5.alloc _).alloc _) ⟨w5.heap.size + 1, 0, none⟩ 1 1 (tmCells u (.slice ta5 tn5 tc5) (.slice ma5 mn5 mc5)) rfl rfl hnews.out ?_ ?_ ?_ ?_ ?_)
              · intro x hx
                unfold tmCells at hx
                simp only [List.mem_cons, List.not_mem_nil, or_false] at hx
                rcases hx with rfl | rfl | rfl | rfl | rfl | rfl | rfl <;> rfl
              · unfold maxLen; omega
              · omega
              · simp; omega
              · intro v' w6 own6 gr6 _ hat
                have kA := kept_grown gr6
                have kB : Kept (fun _ => False) w5 ((w5.alloc (.cells #[.int .i64 u.op, .string u.name, .int .i64 u.n, .int .i64 u.ty.kind, .string u.ty.name, .slice ta5 tn5 tc5, .slice ma5 mn5 mc5] 27)).alloc (.cells #[.int .i64 u.op, .string u.name, .int .i64 u.n, .int .i64 u.ty.kind, .string u.ty.name, .slice ta5 tn5 tc5, .slice ma5 mn5 mc5] 27)) := ((Kept.refl _ _).alloc _).alloc _
                have p6 := (p5.grow kB id id id).grow kA (fun e => by have := (own5.lt _ e).1; omega) (fun e => by have := (own5.lt _ e).1; omega) (fun e => by have := (own5.lt _ e).1; omega)
                have hR6 := (hR5.kept kB id).kept kA (fun e => by have := (own5.lt _ e).1; omega)
                have K6 := (K5.trans (kB.mono (fun _ _ h => h.elim))).via kA (fun x hx e => by have := (own5.lt x e).1; omega)
                have elA := el5'.frame (Same.of_kept kB (fun _ _ => id))
                have elB := elA.mono (ok' := fun k => ok3 n0 w.heap.size (w.heap.size + 1) (.slice va vn vc) k ∧ ok3 n0 w.heap.size (w.heap.size + 1) v' k) (fun k hk h => ⟨h, h.1, h.2.1, h.2.2.1, fun e => by
                  rcases hat with hat | hat
                  · exact h.2.2.2 (hat ▸ e)
                  · rw [hat] at e; have e1 := Option.some.inj e; simp at e1 hk; omega⟩)
                have elC := (elB.frame (Same.of_kept kA (fun k h e => h.1.2.2.2 e))).mono (ok' := ok3 n0 w.heap.size (w.heap.size + 1) v') (fun k _ h => h.2)
                have own7 : w6.ownsRow (w.heap.size + 2) 27 7 v' (E ++ [((u, Value.slice ta5 tn5 tc5, Value.slice ma5 mn5 mc5) : E3)]).length (flat (E ++ [((u, Value.slice ta5 tn5 tc5, Value.slice ma5 mn5 mc5) : E3)])) := by
                  rw [flat_snoc, List.length_append]; exact own6
                clear kA kB gr6 hat elA elB own6
                go_wp2_with fail
                go_roundg q
                case measure => omega
                case rel => exact ⟨E ++ [(u, .slice ta5 tn5 tc5, .slice ma5 mn5 mc5)], σ2, Lib.hid (by rw [List.map_append]; exact hres.out), by omega, by omega, by have := HNS.out; omega, by simp, by simp; omega, p6, hR6, own7, elC, K6⟩
    case true =>
      clear y0 y1 y2 y3 y4 y5 y6
      have hi : isS σ kBar = true := by cases hh : isS σ kBar; simp [hh] at hd; rfl
      have hne := isS_ne hi
      go_wp2_with fail
      cases ha : advS s σ with
      | error r =>
        have hres : Hid (elementsS T s t bare σ = .error r) := Lib.hid (by unfold elementsS; simp only [hd, ha])
        refine (adv_err h0 ha).mono ?_
        rintro e w4 ⟨rfl, k4⟩
        go_wp2_with fail
        exact ⟨rfl, RPost.err hres.out ⟨rfl, K0.trans k4⟩⟩
      | ok σ1 =>
        have i1 := inv_adv h0.le hne ha
        refine (adv_ok h0 ha).mono ?_
        rintro e w4 ⟨rfl, p4, k4⟩
        have hB4 := hB0.kept k4 (by show ¬ w.heap.size = b; omega)
        have hR4 := hR0.kept k4 (by show ¬ w.heap.size + 1 = b; omega)
        have c4 := c0.frame (Same.of_kept k4 (fun k h e => by have := h.1; omega))
        have K4 := K0.trans k4
        have z4 := k4.size
        have hb4 := p4.lt
        clear k4 
        go_wp2_with fail
        refine (hT 1 1 rfl σ1 _ (by omega) (by omega) p4 (by omega)).mono ?_
        rintro e w5 hr
        cases htt : T 1 σ1 with
        | error r =>
          have hres : Hid (elementsS T s t bare σ = .error r) := Lib.hid (by unfold elementsS; simp only [hd, ha, htt])
          obtain ⟨rfl, k5⟩ := hr.getErr htt
          clear hr
          go_wp2_with fail
          exact ⟨rfl, RPost.err hres.out ⟨rfl, K4.trans k5⟩⟩
        | ok q5 =>
          obtain ⟨u, σ2⟩ := q5
          obtain ⟨v, rfl, ⟨tk5, kk5, rfl, au, cu⟩, p5, k5⟩ := hr.getOk htt
          clear hr
          have i2 := (hI _ _ _ _ p4.le htt).1
          unfold Inv at i2
          obtain ⟨ta5, tn5, tc5, rfl⟩ := au.slice
          obtain ⟨ma5, mn5, mc5, rfl⟩ := cu.slice
          unfold tmVal
          have hB5 := hB4.kept k5 (by show ¬ w.heap.size = b; omega)
          have hR5 := hR4.kept k5 (by show ¬ w.heap.size + 1 = b; omega)
          have c5 := c4.frame (Same.of_kept k5 (fun k h e => by have := h.1; omega))
          have K5 := K4.trans k5
          have z5 := k5.size
          have lB5 := hB5.lt
          have hh : headB t = true := by cases hh : headB t; simp [hh] at hd; rfl
          unfold headB at hh
          rw [Bool.and_eq_true] at hh
          obtain ⟨x, y, hxy⟩ : ∃ x y, t.kids = [x, y] := by
            have := hgo (by simpa using hh.1)
            match hh : t.kids, this with
            | [x, y], _ => exact ⟨x, y, rfl⟩
          have HXY := Lib.hid hxy
          clear hh
          rw [hxy] at c5
          clear hxy
          obtain ⟨g, off, cap, k0, m0, k1, m1, hv, pr0⟩ := c5.pair
          cases hv
          obtain ⟨xa, xn, xc, rfl⟩ := pr0.ty.slice
          obtain ⟨ya, yn, yc, rfl⟩ := pr0.tm.slice
          go_wp2_with fail
          have hU : Blk (w5.alloc (.cells #[.int .i64 u.op, .string u.name, .int .i64 u.n, .int .i64 u.ty.kind, .string u.ty.name, .slice ta5 tn5 tc5, .slice ma5 mn5 mc5] 27)) w5.heap.size 27 (tmCells u (.slice ta5 tn5 tc5) (.slice ma5 mn5 mc5)) := Blk.new w5 27 _
          have p6 := p5.alloc (.cells #[.int .i64 u.op, .string u.name, .int .i64 u.n, .int .i64 u.ty.kind, .string u.ty.name, .slice ta5 tn5 tc5, .slice ma5 mn5 mc5] 27)
          have k6 : Kept (fun _ => False) w5 (w5.alloc (.cells #[.int .i64 u.op, .string u.name, .int .i64 u.n, .int .i64 u.ty.kind, .string u.ty.name, .slice ta5 tn5 tc5, .slice ma5 mn5 mc5] 27)) := (Kept.refl _ _).alloc _
          generalize hW : w5.alloc (.cells #[.int .i64 u.op, .string u.name, .int .i64 u.n, .int .i64 u.ty.kind, .string u.ty.name, .slice ta5 tn5 tc5, .slice ma5 mn5 mc5] 27) = w6 at *
          clear hW
          cases hs : shutS s σ2 kRcu with
          | error r =>
            have hres : Hid (elementsS T s t bare σ = .error r) := Lib.hid (by unfold elementsS; simp only [hd, ha, htt, hs])
            refine (shut_err p6 kRcu hs).mono ?_
            rintro e w7 ⟨rfl, k7⟩
            go_wp2_with fail
            exact ⟨rfl, RPost.err hres.out ⟨rfl, (K5.via k6 (fun _ _ h => h.elim)).trans k7⟩⟩
          | ok σ3 =>
            have hres : Hid (elementsS T s t bare σ = .ok (.mk 55 x.name 0 ty0 [y, u], σ3)) := Lib.hid (by unfold elementsS; simp only [hd, ha, htt, hs, HXY.out]; rfl)
            refine (shut_ok p6 (by omega) kRcu hs).mono ?_
            rintro e w7 ⟨rfl, p7, k7⟩
            have z6 := k6.size
            have z7 := k7.size
            have k67 : Kept (· = b) w5 w7 := (k6.mono (fun _ _ h => h.elim)).trans k7
            have hB7 := hB5.kept k67 (by show ¬ w.heap.size = b; omega)
            have hR7 := hR5.kept k67 (by show ¬ w.heap.size + 1 = b; omega)
            have hU7 := hU.kept k7 (by show ¬ w5.heap.size = b; omega)
            have c7 := c5.frame (Same.of_kept k67 (fun k h e => by have := h.1; omega))
            have K7 := K5.trans k67
            have au7 := (au.mono (ok' := okk n0 w.heap.size (w.heap.size + 1)) (fun k _ h => ⟨by omega, by omega, by omega⟩)).frame (Same.of_kept k67 (fun k h e => by have := h.1; omega))
            have cu7 := (cu.mono (ok' := okk n0 w.heap.size (w.heap.size + 1)) (fun k _ h => ⟨by omega, by omega, by omega⟩)).frame (Same.of_kept k67 (fun k h e => by have := h.1; omega))
            have HK := Lib.hid (c5.pair)
            have S7 : Same (okk n0 w.heap.size (w.heap.size + 1)) w5 w7 := Same.of_kept k67 (fun k h e => by have := h.1; omega)
            have ea := pr0.ty.frame S7
            have ec := pr0.tm.frame S7
            have cg := S7 g pr0.okg (cell_lt pr0.x0)
            have q2 := pr0.cap2
            have d1 : w7.cell? ⟨g, off + 1, none⟩ = some (.string x.name) := (World.cell?_of_block cg).trans pr0.x1
            have e0 : w7.cell? ⟨g, off + 7, none⟩ = some (.int .i64 y.op) := (World.cell?_of_block cg).trans pr0.y0
            have e1 : w7.cell? ⟨g, off + 7 + 1, none⟩ = some (.string y.name) := (World.cell?_of_block cg).trans pr0.y1
            have e2 : w7.cell? ⟨g, off + 7 + 2, none⟩ = some (.int .i64 y.n) := (World.cell?_of_block cg).trans pr0.y2
            have e3 : w7.cell? ⟨g, off + 7 + 3, none⟩ = some (.int .i64 y.ty.kind) := (World.cell?_of_block cg).trans pr0.y3
            have e4 : w7.cell? ⟨g, off + 7 + 4, none⟩ = some (.string y.ty.name) := (World.cell?_of_block cg).trans pr0.y4
            have e5 : w7.cell? ⟨g, off + 7 + 5, none⟩ = some (.slice xa xn xc) := (World.cell?_of_block cg).trans pr0.y5
            have e6 : w7.cell? ⟨g, off + 7 + 6, none⟩ = some (.slice ya yn yc) := (World.cell?_of_block cg).trans pr0.y6
            have y6 : w7.cell? ⟨w.heap.size, 6, none⟩ = some (.slice (some ⟨g, off, none⟩) 2 mc) := hB7.cell 6
            have v0 : w7.cell? ⟨w5.heap.size, 0, none⟩ = some (.int .i64 u.op) := hU7.cell 0
            have v1 : w7.cell? ⟨w5.heap.size, 1, none⟩ = some (.string u.name) := hU7.cell 1
            have v2 : w7.cell? ⟨w5.heap.size, 2, none⟩ = some (.int .i64 u.n) := hU7.cell 2
            have v3 : w7.cell? ⟨w5.heap.size, 3, none⟩ = some (.int .i64 u.ty.kind) := hU7.cell 3
            have v4 : w7.cell? ⟨w5.heap.size, 4, none⟩ = some (.string u.ty.name) := hU7.cell 4
            have v5 : w7.cell? ⟨w5.heap.size, 5, none⟩ = some (.slice ta5 tn5 tc5) := hU7.cell 5
            have v6 : w7.cell? ⟨w5.heap.size, 6, none⟩ = some (.slice ma5 mn5 mc5) := hU7.cell 6
            have g0 : w7.cell? ⟨w.heap.size + 1, 0, none⟩ = some (.int .i64 0) := hR7.cell 0
            have g1 : w7.cell? ⟨w.heap.size + 1, 1, none⟩ = some (.string ⟨#[]⟩) := hR7.cell 1
            have g2 : w7.cell? ⟨w.heap.size + 1, 2, none⟩ = some (.int .i64 0) := hR7.cell 2
            have g3 : w7.cell? ⟨w.heap.size + 1, 3, none⟩ = some (.int .i64 0) := hR7.cell 3
            have g4 : w7.cell? ⟨w.heap.size + 1, 4, none⟩ = some (.string ⟨#[]⟩) := hR7.cell 4
            have g5 : w7.cell? ⟨w.heap.size + 1, 5, none⟩ = some (.slice none 0 0) := hR7.cell 5
            have g6 : w7.cell? ⟨w.heap.size + 1, 6, none⟩ = some (.slice none 0 0) := hR7.cell 6
            have f0 : w7.frozen? ⟨w.heap.size + 1, 0, none⟩ = false := hR7.frozen 0
            have f1 : w7.frozen? ⟨w.heap.size + 1, 1, none⟩ = false := hR7.frozen 1
            have f2 : w7.frozen? ⟨w.heap.size + 1, 2, none⟩ = false := hR7.frozen 2
            have f3 : w7.frozen? ⟨w.heap.size + 1, 3, none⟩ = false := hR7.frozen 3
            have f4 : w7.frozen? ⟨w.heap.size + 1, 4, none⟩ = false := hR7.frozen 4
            have f5 : w7.frozen? ⟨w.heap.size + 1, 5, none⟩ = false := hR7.frozen 5
            have f6 : w7.frozen? ⟨w.heap.size + 1, 6, none⟩ = false := hR7.frozen 6
            have lR := hR7.lt
            have lB := hB7.lt
            have lU := hU7.lt
            have lg := cell_lt d1
            clear pr0 cg S7 HK
            go_wp2_with fail
            go_region
            go_wp2_with fail
            refine ret_tm Tryz.results151 (t := .mk 55 x.name 0 ty0 [y, u]) (tk := .slice none 0 0) (kk := .slice (some ⟨w7.heap.size, 0, none⟩) 2 2) (R := w.heap.size + 1) hres.out rfl rfl ((r7 hR7 rfl).alloc _).drew .nil0 ?_ (((p7w p7 (by omega) (by omega)).alloc _).drew) (((k7w K7 (Or.inr (by omega))).alloc _).drew)
            have tw : ∀ W : World, Blk W w7.heap.size 27 (tmCells y (.slice xa xn xc) (.slice ya yn yc) ++ tmCells u (.slice ta5 tn5 tc5) (.slice ma5 mn5 mc5)) → Same (okk n0 w.heap.size (w.heap.size + 1)) w7 W → TmL (fun k => n0 ≤ k) W [y, u] (.slice (some ⟨w7.heap.size, 0, none⟩) 2 2) := fun W hb hsm => (TmL.two (ok := okk n0 w.heap.size (w.heap.size + 1)) (ty := 27) ⟨by omega, by omega, by omega⟩ (Nat.le_refl _) hb (ea.frame hsm) (ec.frame hsm) (au7.frame hsm) (cu7.frame hsm)).mono (fun k _ h => h.1)
            exact tw _ (Blk.new' 27 _ (by simp)).drew (Same.of_kept (S := (· = w.heap.size + 1)) (((k7w (Kept.refl (fun x => x = w.heap.size + 1) w7) (Or.inl rfl)).alloc _).drew) (fun k h e => h.2.2 e))
end Go.Proofs.YtckjlliobebodaaGreatDoor
