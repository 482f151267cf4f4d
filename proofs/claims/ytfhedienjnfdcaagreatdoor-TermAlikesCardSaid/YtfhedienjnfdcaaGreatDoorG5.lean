/- Texts Elem of this proof, in one. -/
import Derived.Test.YtfhedienjnfdcaaGreatDoorG4
import Derived.Deep.CutBlock
set_option linter.unusedVariables false
set_option linter.unusedSimpArgs false
set_option maxRecDepth 100000
set_option maxHeartbeats 32000000
namespace Go.Proofs.YtfhedienjnfdcaaGreatDoor
open Go.RowKit
structure Pair (ok : Nat → Prop) (w : World) (x y : Tm) (g off cap : Nat) (k0 m0 k1 m1 : Value) : Prop where
 okg : ok g
 cap2 : 2 ≤ cap
 x0 : w.cell? ⟨g, off, none⟩ = some (.int .i64 x.op)
 x1 : w.cell? ⟨g, off + 1, none⟩ = some (.string x.name)
 y0 : w.cell? ⟨g, off + 7, none⟩ = some (.int .i64 y.op)
 y1 : w.cell? ⟨g, off + 8, none⟩ = some (.string y.name)
 y2 : w.cell? ⟨g, off + 9, none⟩ = some (.int .i64 y.n)
 y3 : w.cell? ⟨g, off + 10, none⟩ = some (.int .i64 y.ty.kind)
 y4 : w.cell? ⟨g, off + 11, none⟩ = some (.string y.ty.name)
 y5 : w.cell? ⟨g, off + 12, none⟩ = some k1
 y6 : w.cell? ⟨g, off + 13, none⟩ = some m1
 ty : TyL ok w y.ty.kids k1
 tm : TmL ok w y.kids m1
theorem kept_grown {w w' : World} {row : Option Nat} (h : w.grownBy w' row) : Kept (fun k => row = some k) w w' := ⟨h.os, h.tape, h.output, h.size, fun k hk hn => h.block k hk (fun e => hn e.symm)⟩
theorem Kept.via {S S' : Nat → Prop} {w w1 w2 : World} (h : Kept S w w1) (k : Kept S' w1 w2) (hS : ∀ x, x < w.heap.size → S' x → S x) : Kept S w w2 :=
 ⟨k.os.trans h.os, k.tape.trans h.tape, k.output.trans h.output, Nat.le_trans h.size k.size, fun i hi hs => (k.block i (Nat.lt_of_lt_of_le hi h.size) (fun q => hs (hS i hi q))).trans (h.block i hi hs)⟩
def ok3 (n0 B R : Nat) (v : Value) (k : Nat) : Prop := n0 ≤ k ∧ k ≠ B ∧ k ≠ R ∧ v.ownBlock ≠ some k
theorem TmL.pair {ok : Nat → Prop} {w : World} {x y : Tm} {v : Value} (h : TmL ok w [x, y] v) : ∃ g off cap k0 m0 k1 m1, v = .slice (some ⟨g, off, none⟩) 2 cap ∧ Pair ok w x y g off cap k0 m0 k1 m1 := by
 generalize hl : [x, y] = l at h
 cases h with
 | nil h => cases hl
 | mk K M hne hb hc hcell hk hm =>
  rename_i g off cap
  subst hl
  have h0 := hcell 0 (by simp)
  have h1 := hcell 1 (by simp)
  refine ⟨g, off, cap, K 0, M 0, K 1, M 1, rfl, hb, hc, ?_, ?_, ?_, ?_, ?_, ?_, ?_, ?_, ?_, hk 1 (by simp), hm 1 (by simp)⟩
  ·simpa using h0.1
  ·simpa using h0.2.1
  ·simpa using h1.1
  ·simpa using h1.2.1
  ·simpa using h1.2.2.1
  ·simpa using h1.2.2.2.1
  ·simpa using h1.2.2.2.2.1
  ·simpa using h1.2.2.2.2.2.1
  ·simpa using h1.2.2.2.2.2.2
theorem elements_any {b : Nat} {s : ByteArray} {f : Nat} {T : TF} {w : World} {σ : PS} (hT : TC b s f T) (hI : TInv s T) (h : PW w b s σ) (hnest : 1 ≤ σ.nest) (hf : 14 * mu s σ ≤ f) (t : Tm) (hgo : good t) (hnm : ∀ k ∈ t.kids, k.name.size ≤ 65536) (bare : Bool) (ta : Option Addr) (tn tc : Nat) (ma : Option Addr) (mn mc n0 : Nat) (hb0 : b < n0) (hn0 : n0 ≤ w.heap.size)
  (a : TyL (fun k => n0 ≤ k) w t.ty.kids (.slice ta tn tc)) (c : TmL (fun k => n0 ≤ k) w t.kids (.slice ma mn mc)) :
  Calls Tryz.prog 223 #[.pointer (some ⟨b, 0, none⟩), tmVal t (.slice ta tn tc) (.slice ma mn mc), .bool bare] w (RPost b s (VTm n0) (elementsS T s t bare σ) w) := by
 have hlt := h.lt
 have hgl := h.gl.lt
 unfold tmVal
 have K0 : Kept (· = b) w ((w.alloc (.cells #[.int .i64 t.op, .string t.name, .int .i64 t.n, .int .i64 t.ty.kind, .string t.ty.name, .slice ta tn tc, .slice ma mn mc] 28)).alloc Z7) := ((Kept.refl _ _).alloc _).alloc _
 have h0 := (h.alloc (.cells #[.int .i64 t.op, .string t.name, .int .i64 t.n, .int .i64 t.ty.kind, .string t.ty.name, .slice ta tn tc, .slice ma mn mc] 28)).alloc Z7
 have hB0 : Blk ((w.alloc (.cells #[.int .i64 t.op, .string t.name, .int .i64 t.n, .int .i64 t.ty.kind, .string t.ty.name, .slice ta tn tc, .slice ma mn mc] 28)).alloc Z7) w.heap.size 28 (tmCells t (.slice ta tn tc) (.slice ma mn mc)) := (Blk.new w 28 (tmCells t (.slice ta tn tc) (.slice ma mn mc))).alloc Z7
 have hR0 : Blk ((w.alloc (.cells #[.int .i64 t.op, .string t.name, .int .i64 t.n, .int .i64 t.ty.kind, .string t.ty.name, .slice ta tn tc, .slice ma mn mc] 28)).alloc Z7) (w.heap.size + 1) 28 z27 := Blk.new' 28 z27 (by simp)
 have a0 := ((a.mono (ok' := okk n0 w.heap.size (w.heap.size + 1)) (fun k hk h => ⟨h, by omega, by omega⟩)).frame (Same.alloc _ (.cells #[.int .i64 t.op, .string t.name, .int .i64 t.n, .int .i64 t.ty.kind, .string t.ty.name, .slice ta tn tc, .slice ma mn mc] 28))).frame (Same.alloc _ Z7)
 have c0 := ((c.mono (ok' := okk n0 w.heap.size (w.heap.size + 1)) (fun k hk h => ⟨h, by omega, by omega⟩)).frame (Same.alloc _ (.cells #[.int .i64 t.op, .string t.name, .int .i64 t.n, .int .i64 t.ty.kind, .string t.ty.name, .slice ta tn tc, .slice ma mn mc] 28))).frame (Same.alloc _ Z7)
 have lw : ((w.alloc (.cells #[.int .i64 t.op, .string t.name, .int .i64 t.n, .int .i64 t.ty.kind, .string t.ty.name, .slice ta tn tc, .slice ma mn mc] 28)).alloc Z7).heap.size = w.heap.size + 2 := by simp
 go_enter Tryz.func223, Tryz.ntmps223
 go_upto_region 1 with (fail)
 generalize ((w.alloc (.cells #[.int .i64 t.op, .string t.name, .int .i64 t.n, .int .i64 t.ty.kind, .string t.ty.name, .slice ta tn tc, .slice ma mn mc] 28)).alloc Z7) = w1 at *
 have y0 : w1.cell? ⟨w.heap.size, 0, none⟩ = some (.int .i64 t.op) := hB0.cell 0
 have y1 : w1.cell? ⟨w.heap.size, 1, none⟩ = some (.string t.name) := hB0.cell 1
 have y2 : w1.cell? ⟨w.heap.size, 2, none⟩ = some (.int .i64 t.n) := hB0.cell 2
 have y3 : w1.cell? ⟨w.heap.size, 3, none⟩ = some (.int .i64 t.ty.kind) := hB0.cell 3
 have y4 : w1.cell? ⟨w.heap.size, 4, none⟩ = some (.string t.ty.name) := hB0.cell 4
 have y5 : w1.cell? ⟨w.heap.size, 5, none⟩ = some (.slice ta tn tc) := hB0.cell 5
 have y6 : w1.cell? ⟨w.heap.size, 6, none⟩ = some (.slice ma mn mc) := hB0.cell 6
 go_cut [1, 2, 35] (fun _ _ v wx => v = .bool (isS σ kBar && bare && headB t) ∧ wx = w1)
 case first =>
  cases hi : isS σ kBar
  case false =>
   go_wp2_with fail
   refine (is_any h0 kBar hi).mono ?_
   rintro e w' ⟨rfl, rfl⟩
   go_wp2_with fail
   go_meet
   case rel => exact ⟨by simp [hi], rfl⟩
  case true =>
   cases hb : bare
   case false =>
    go_wp2_with fail
    refine (is_any h0 kBar hi).mono ?_
    rintro e w' ⟨rfl, rfl⟩
    go_wp2_with fail
    go_meet
    case rel => exact ⟨by simp [hi, hb], rfl⟩
   case true =>
    cases ho : (t.op == 16)
    case false =>
     go_wp2_with fail
     refine (is_any h0 kBar hi).mono ?_
     rintro e w' ⟨rfl, rfl⟩
     go_wp2_with fail
     go_meet
     case rel => exact ⟨by simp [hi, hb, headB, ho], rfl⟩
    case true =>
     obtain ⟨x, y, hxy⟩ : ∃ x y, t.kids = [x, y] := by
      have := hgo (by simpa using ho)
      match hh : t.kids, this with
      | [x, y], _ => exact ⟨x, y, rfl⟩
     have HXY := Ld hxy
     rw [hxy] at c0
     clear hxy
     obtain ⟨g, off, cap, k0, m0, k1, m1, hv, pr⟩ := c0.pair
     cases hv
     have q0 := pr.x0
     have q1 := pr.x1
     have q2 := pr.cap2
     have hxn : x.name.size ≤ 65536 := hnm x (by rw [HXY.out]; simp)
     cases hx : (x.op == 20)
     case false =>
      go_wp2_with fail
      refine (is_any h0 kBar hi).mono ?_
      rintro e w' ⟨rfl, rfl⟩
      go_wp2_with fail
      go_meet
      case rel => exact ⟨by simp [hi, hb, headB, ho, HXY.out, hx], rfl⟩
     case true =>
      cases hn : identB x.name
      all_goals
       go_wp2_with fail
       refine (is_any h0 kBar hi).mono ?_
       rintro e w' ⟨rfl, rfl⟩
       go_wp2_with fail
       refine (ident_t hn hxn _).mono ?_
       rintro e w' ⟨rfl, rfl⟩
       go_wp2_with fail
       go_meet
       case rel => exact ⟨by simp [hi, hb, headB, ho, HXY.out, hx, hn], rfl⟩
 case rest =>
  obtain ⟨rfl, hw⟩ := hcut
  obtain rfl := hw.symm
  have L1 := Ld lw
  have hlo : w.heap.size + 2 ≤ w1.heap.size := by omega
  clear lw
  cases hd : (isS σ kBar && bare && headB t)
  case false =>
   go_upto_block 0 with (fail)
   have bk : Blk (w1.alloc (.cells #[.int .i64 t.op, .string t.name, .int .i64 t.n, .int .i64 t.ty.kind, .string t.ty.name, .slice ta tn tc, .slice ma mn mc] 28)) w1.heap.size 28 (tmCells t (.slice ta tn tc) (.slice ma mn mc)) := Blk.new w1 28 _
   have kk1 : Kept (fun _ => False) w1 (w1.alloc (.cells #[.int .i64 t.op, .string t.name, .int .i64 t.n, .int .i64 t.ty.kind, .string t.ty.name, .slice ta tn tc, .slice ma mn mc] 28)) := (Kept.refl _ _).alloc _
   generalize hW : w1.alloc (.cells #[.int .i64 t.op, .string t.name, .int .i64 t.n, .int .i64 t.ty.kind, .string t.ty.name, .slice ta tn tc, .slice ma mn mc] 28) = w2 at *
   clear hW
   have p2 := h0.grow kk1 id id id
   have hR2 := hR0.kept kk1 id
   have K2 : Kept (· = b) w w2 := K0.trans (kk1.mono (fun _ _ h => h.elim))
   have own2 := own_one (base := w.heap.size + 2) bk (by omega)
   have a2 := (a0.mono (ok' := ok3 n0 w.heap.size (w.heap.size + 1) (.slice (some ⟨w1.heap.size, 0, none⟩) 1 1)) (fun k hk h => ⟨h.1, h.2.1, h.2.2, fun e => by have e' : w1.heap.size = k := Option.some.inj e; omega⟩)).frame (Same.of_kept kk1 (fun _ _ => id))
   have c2 := (c0.mono (ok' := ok3 n0 w.heap.size (w.heap.size + 1) (.slice (some ⟨w1.heap.size, 0, none⟩) 1 1)) (fun k hk h => ⟨h.1, h.2.1, h.2.2, fun e => by have e' : w1.heap.size = k := Option.some.inj e; omega⟩)).frame (Same.of_kept kk1 (fun _ _ => id))
   have mu0 := mu_le s σ
   go_wp2_with fail
   go_loopg [8] (s.size + 2) (fun m v wr => ∃ (E : List E3) (σ' : PS), Hid (elemsS T s m (E.map (·.1)) σ' = elemsS T s (s.size + 2) [t] σ) ∧ mu s σ' < m ∧ mu s σ' ≤ mu s σ ∧ σ'.nest = σ.nest ∧ E ≠ [] ∧ E.length + mu s σ' ≤ s.size + 2 ∧ PW wr b s σ' ∧ Blk wr (w.heap.size + 1) 28 z27 ∧ wr.ownsRow (w.heap.size + 2) 28 7 v E.length (flat E) ∧ EL (ok3 n0 w.heap.size (w.heap.size + 1) v) wr E ∧ Kept (· = b) w wr)
   case atStart => exact ⟨[(t, .slice ta tn tc, .slice ma mn mc)], σ, Ld rfl, by omega, Nat.le_refl _, rfl, by simp, by simp; omega, p2, hR2, own2, fun e he => by rw [List.mem_singleton.1 he]; exact ⟨a2, c2⟩, K2⟩
   case round =>
    clear p2 hR2 K2 own2 a2 c2 bk y0 y1 y2 y3 y4 y5 y6
    obtain ⟨E, σ', hq, hm, hmm, hns, hE, hle, p, hR, hown, hel, K⟩ := hrel
    have HNS := Ld hns
    have hn1 : 1 ≤ σ'.nest := by omega
    clear hns
    obtain ⟨q, rfl⟩ : ∃ q, gk = q + 1 := ⟨gk - 1, by omega⟩
    have hsl := tml_of_row hE hown (hel.mono (ok' := fun k => n0 ≤ k) (fun k _ h => h.1)) (fun g hg => by have := (hown.lt g hg).1; omega)
    obtain ⟨va, vn, vc, hv⟩ := hsl.slice
    cases hv
    cases hc : isS σ' kComma
    case false =>
     have hel' : Hid (elemsS T s (s.size + 2) [t] σ = .ok (E.map (·.1), σ')) := Ld (hq.out.symm.trans (by unfold elemsS; simp only [hc]))
     go_wp2_with fail
     refine (eat_no p kComma hc).mono ?_
     rintro e w3 ⟨rfl, rfl⟩
     go_wp2_with fail
     cases hs : shutS s σ' kRcu with
     | error r =>
      have hres : Hid (elementsS T s t bare σ = .error r) := Ld (by unfold elementsS; simp only [hd, hel'.out, hs])
      refine (shut_err p kRcu hs).mono ?_
      rintro e w7 ⟨rfl, k7⟩
      go_wp2_with fail
      exact ⟨rfl, RPost.err hres.out ⟨rfl, K.trans k7⟩⟩
     | ok σ3 =>
      have hres : Hid (elementsS T s t bare σ = .ok (nd 28 (E.map (·.1)), σ3)) := Ld (by unfold elementsS; simp only [hd, hel'.out, hs])
      refine (shut_ok p hn1 kRcu hs).mono ?_
      rintro e w7 ⟨rfl, p7, k7⟩
      have hR7 := hR.kept k7 (by show ¬ w.heap.size + 1 = b; omega)
      have own7 := own_kept hown k7 (fun g hg e => by have := (hown.lt g hg).1; have e' : g = b := e; omega)
      have el7 := hel.frame (Same.of_kept k7 (fun k h e => by have := h.1; have e' : k = b := e; omega))
      have K7 := K.trans k7
      have row7 := tml_of_row (ok := okk n0 w.heap.size (w.heap.size + 1)) hE own7 (el7.mono (fun k _ h => ⟨h.1, h.2.1, h.2.2.1⟩)) (fun g hg => by have := (hown.lt g hg).1; exact ⟨by omega, by omega, by omega⟩)
      have g0 : w7.cell? ⟨w.heap.size + 1, 0, none⟩ = some (.int .i64 0) := hR7.cell 0
      have g1 : w7.cell? ⟨w.heap.size + 1, 1, none⟩ = some (.string ⟨#[]⟩) := hR7.cell 1
      have g2 : w7.cell? ⟨w.heap.size + 1, 2, none⟩ = some (.int .i64 0) := hR7.cell 2
      have g3 : w7.cell? ⟨w.heap.size + 1, 3, none⟩ = some (.int .i64 0) := hR7.cell 3
      have g4 : w7.cell? ⟨w.heap.size + 1, 4, none⟩ = some (.string ⟨#[]⟩) := hR7.cell 4
      have g5 : w7.cell? ⟨w.heap.size + 1, 5, none⟩ = some (.slice none 0 0) := hR7.cell 5
      have g6 : w7.cell? ⟨w.heap.size + 1, 6, none⟩ = some (.slice none 0 0) := hR7.cell 6
      have f0 : w7.frozen? ⟨w.heap.size + 1, 0, none⟩ = false := hR7.frozen 0
      have f1 : w7.frozen? ⟨w.heap.size + 1, 1, none⟩ = false := hR7.frozen 1
      have f2 : w7.frozen? ⟨w.heap.size + 1, 2, none⟩ = false := hR7.frozen 2
      have f3 : w7.frozen? ⟨w.heap.size + 1, 3, none⟩ = false := hR7.frozen 3
      have f4 : w7.frozen? ⟨w.heap.size + 1, 4, none⟩ = false := hR7.frozen 4
      have f5 : w7.frozen? ⟨w.heap.size + 1, 5, none⟩ = false := hR7.frozen 5
      have f6 : w7.frozen? ⟨w.heap.size + 1, 6, none⟩ = false := hR7.frozen 6
      go_wp2_with fail
      refine ret_tm Tryz.results223 (t := nd 28 (E.map (·.1))) hres.out rfl rfl (r7 hR7 rfl) .nil0 ?_ (p7w p7 (by omega) (by omega)) (k7w K7 (Or.inr (by omega)))
      exact (row7.frame (same7k (Or.inr rfl))).mono (fun k _ h => h.1)
    case true =>
     have hne := isS_ne hc
     go_wp2_with fail
     cases ha : advS s σ' with
     | error r =>
      have hres : Hid (elementsS T s t bare σ = .error r) := Ld (by unfold elementsS; simp only [hd]; rw [← hq.out]; unfold elemsS; simp only [hc, ha])
      refine (eat_bad p kComma hc ha).mono ?_
      rintro e w4 ⟨rfl, k4⟩
      go_wp2_with fail
      exact ⟨rfl, RPost.err hres.out ⟨rfl, K.trans k4⟩⟩
     | ok σ1 =>
      have i1 := inv_adv p.le hne ha
      refine (eat_yes p kComma hc ha).mono ?_
      rintro e w4 ⟨rfl, p4, k4⟩
      have hR4 := hR.kept k4 (by show ¬ w.heap.size + 1 = b; omega)
      have own4 := own_kept hown k4 (fun g hg e => by have := (hown.lt g hg).1; have e' : g = b := e; omega)
      have el4 := hel.frame (Same.of_kept k4 (fun k h e => by have := h.1; have e' : k = b := e; omega))
      have K4 := K.trans k4
      clear k4 p hR hown hel K
      go_wp2_with fail
      refine (hT 1 1 rfl σ1 _ (by omega) (by omega) p4 (by omega)).mono ?_
      rintro e w5 hr
      cases htt : T 1 σ1 with
      | error r =>
       have hres : Hid (elementsS T s t bare σ = .error r) := Ld (by unfold elementsS; simp only [hd]; rw [← hq.out]; unfold elemsS; simp only [hc, ha, htt])
       obtain ⟨rfl, k5⟩ := hr.getErr htt
       clear hr
       go_wp2_with fail
       exact ⟨rfl, RPost.err hres.out ⟨rfl, K4.trans k5⟩⟩
      | ok q5 =>
       obtain ⟨u, σ2⟩ := q5
       have hres : Hid (elemsS T s q (E.map (·.1) ++ [u]) σ2 = elemsS T s (s.size + 2) [t] σ) := Ld (Eq.trans (by conv => rhs; unfold elemsS; simp only [hc, ha, htt]) hq.out)
       obtain ⟨v, rfl, ⟨tk5, kk5, rfl, au, cu⟩, p5, k5⟩ := hr.getOk htt
       clear hr
       have i2 := (hI _ _ _ _ p4.le htt).1
       unfold Inv at i2
       obtain ⟨ta5, tn5, tc5, rfl⟩ := au.slice
       obtain ⟨ma5, mn5, mc5, rfl⟩ := cu.slice
       unfold tmVal
       have hR5 := hR4.kept k5 (by show ¬ w.heap.size + 1 = b; omega)
       have own5 := own_kept own4 k5 (fun g hg e => by have := (own4.lt g hg).1; have e' : g = b := e; omega)
       have el5 := el4.frame (Same.of_kept k5 (fun k h e => by have := h.1; have e' : k = b := e; omega))
       have K5 := K4.trans k5
       have z4 := K4.size
       have z5 := k5.size
       have zR := hR4.lt
       have au5 := au.mono (ok' := ok3 n0 w.heap.size (w.heap.size + 1) (.slice va vn vc)) (fun k _ h => ⟨by omega, by omega, by omega, fun e => by have := (own4.lt k e).2; omega⟩)
       have cu5 := cu.mono (ok' := ok3 n0 w.heap.size (w.heap.size + 1) (.slice va vn vc)) (fun k _ h => ⟨by omega, by omega, by omega, fun e => by have := (own4.lt k e).2; omega⟩)
       have el5' := el5.snoc (e := (u, .slice ta5 tn5 tc5, .slice ma5 mn5 mc5)) au5 cu5
       have hsz : s.size ≤ 65536 := p5.src
       have HN := Ld HNS.out
       obtain ⟨i27, hi27, hz27, hs27, hb27⟩ : ∃ i, Tryz.prog.info? 28 = some i ∧ i.zero = some (.agg #[.int .i64 0, .string ⟨#[]⟩, .int .i64 0, .int .i64 0, .string ⟨#[]⟩, .slice none 0 0, .slice none 0 0]) ∧ i.size = 7 ∧ i.bytes = 104 := by
        have := info27
        cases hh : Tryz.prog.info? 28 with
        | none => rw [hh] at this; cases this
        | some i => rw [hh] at this; simp only [Option.map_some, Option.some.injEq, Prod.mk.injEq] at this; exact ⟨i, rfl, this.1, this.2.1, this.2.2⟩
       have HI := Ld hi27
       have HZ := Ld hz27
       have HS := Ld hs27
       have HBY := Ld hb27
       clear hi27 hz27 hs27 hb27
       have hnews : Hid (∀ j x, (tmCells u (.slice ta5 tn5 tc5) (.slice ma5 mn5 mc5))[j]? = some x → ((w5.alloc (.cells #[.int .i64 u.op, .string u.name, .int .i64 u.n, .int .i64 u.ty.kind, .string u.ty.name, .slice ta5 tn5 tc5, .slice ma5 mn5 mc5] 28)).alloc (.cells #[.int .i64 u.op, .string u.name, .int .i64 u.n, .int .i64 u.ty.kind, .string u.ty.name, .slice ta5 tn5 tc5, .slice ma5 mn5 mc5] 28)).cell? ((⟨w5.heap.size + 1, 0, none⟩ : Addr).add j) = some x) := Ld (fun j x hx => by
        have hb : Blk ((w5.alloc (.cells #[.int .i64 u.op, .string u.name, .int .i64 u.n, .int .i64 u.ty.kind, .string u.ty.name, .slice ta5 tn5 tc5, .slice ma5 mn5 mc5] 28)).alloc (.cells #[.int .i64 u.op, .string u.name, .int .i64 u.n, .int .i64 u.ty.kind, .string u.ty.name, .slice ta5 tn5 tc5, .slice ma5 mn5 mc5] 28)) (w5.heap.size + 1) 28 (tmCells u (.slice ta5 tn5 tc5) (.slice ma5 mn5 mc5)) := Blk.new' 28 _ (by simp)
        have := hb.cell j
        rw [← hx, ← this]; cases j <;> simp [Addr.add])
       go_wp2_with (at_builtin; refine wpList_append_own_at _ rfl (.tmp 60) (.tmp 62) 22 rfl (w.heap.size + 2) 28 i27 _ 7 104 Tryz.underlying22 HI.out HZ.out HS.out HBY.out rfl (by decide) _ _ _ rfl ((own5.alloc _).alloc _) ⟨w5.heap.size + 1, 0, none⟩ 1 1 (tmCells u (.slice ta5 tn5 tc5) (.slice ma5 mn5 mc5)) rfl rfl hnews.out ?_ ?_ ?_ ?_ ?_)
       ·intro x hx
        unfold tmCells at hx
        simp only [List.mem_cons, List.not_mem_nil, or_false] at hx
        rcases hx with rfl | rfl | rfl | rfl | rfl | rfl | rfl <;> rfl
       ·unfold maxLen; omega
       ·omega
       ·simp; omega
       ·intro v' w6 own6 gr6 _ hat
        have kA := kept_grown gr6
        have kB : Kept (fun _ => False) w5 ((w5.alloc (.cells #[.int .i64 u.op, .string u.name, .int .i64 u.n, .int .i64 u.ty.kind, .string u.ty.name, .slice ta5 tn5 tc5, .slice ma5 mn5 mc5] 28)).alloc (.cells #[.int .i64 u.op, .string u.name, .int .i64 u.n, .int .i64 u.ty.kind, .string u.ty.name, .slice ta5 tn5 tc5, .slice ma5 mn5 mc5] 28)) := ((Kept.refl _ _).alloc _).alloc _
        have p6 := (p5.grow kB id id id).grow kA (fun e => by have := (own5.lt _ e).1; omega) (fun e => by have := (own5.lt _ e).1; omega) (fun e => by have := (own5.lt _ e).1; omega)
        have hR6 := (hR5.kept kB id).kept kA (fun e => by have := (own5.lt _ e).1; omega)
        have K6 := (K5.trans (kB.mono (fun _ _ h => h.elim))).via kA (fun x hx e => by have := (own5.lt x e).1; omega)
        have elA := el5'.frame (Same.of_kept kB (fun _ _ => id))
        have elB := elA.mono (ok' := fun k => ok3 n0 w.heap.size (w.heap.size + 1) (.slice va vn vc) k ∧ ok3 n0 w.heap.size (w.heap.size + 1) v' k) (fun k hk h => ⟨h, h.1, h.2.1, h.2.2.1, fun e => by
         rcases hat with hat | hat
         ·exact h.2.2.2 (hat ▸ e)
         ·rw [hat] at e; have e1 := Option.some.inj e; simp at e1 hk; omega⟩)
        have elC := (elB.frame (Same.of_kept kA (fun k h e => h.1.2.2.2 e))).mono (ok' := ok3 n0 w.heap.size (w.heap.size + 1) v') (fun k _ h => h.2)
        have own7 : w6.ownsRow (w.heap.size + 2) 28 7 v' (E ++ [((u, Value.slice ta5 tn5 tc5, Value.slice ma5 mn5 mc5) : E3)]).length (flat (E ++ [((u, Value.slice ta5 tn5 tc5, Value.slice ma5 mn5 mc5) : E3)])) := by
         rw [flat_snoc, List.length_append]; exact own6
        clear kA kB gr6 hat elA elB own6
        go_wp2_with fail
        go_roundg q
        case measure => omega
        case rel => exact ⟨E ++ [(u, .slice ta5 tn5 tc5, .slice ma5 mn5 mc5)], σ2, Ld (by rw [List.map_append]; exact hres.out), by omega, by omega, by have := HNS.out; omega, by simp, by simp; omega, p6, hR6, own7, elC, K6⟩
  case true =>
   clear y0 y1 y2 y3 y4 y5 y6
   have hi : isS σ kBar = true := by cases hh : isS σ kBar; simp [hh] at hd; rfl
   have hne := isS_ne hi
   go_wp2_with fail
   cases ha : advS s σ with
   | error r =>
    have hres : Hid (elementsS T s t bare σ = .error r) := Ld (by unfold elementsS; simp only [hd, ha])
    refine (adv_err h0 ha).mono ?_
    rintro e w4 ⟨rfl, k4⟩
    go_wp2_with fail
    exact ⟨rfl, RPost.err hres.out ⟨rfl, K0.trans k4⟩⟩
   | ok σ1 =>
    have i1 := inv_adv h0.le hne ha
    refine (adv_ok h0 ha).mono ?_
    rintro e w4 ⟨rfl, p4, k4⟩
    have hB4 := hB0.kept k4 (by show ¬ w.heap.size = b; omega)
    have hR4 := hR0.kept k4 (by show ¬ w.heap.size + 1 = b; omega)
    have c4 := c0.frame (Same.of_kept k4 (fun k h e => by have := h.1; omega))
    have K4 := K0.trans k4
    have z4 := k4.size
    have hb4 := p4.lt
    clear k4 
    go_wp2_with fail
    refine (hT 1 1 rfl σ1 _ (by omega) (by omega) p4 (by omega)).mono ?_
    rintro e w5 hr
    cases htt : T 1 σ1 with
    | error r =>
     have hres : Hid (elementsS T s t bare σ = .error r) := Ld (by unfold elementsS; simp only [hd, ha, htt])
     obtain ⟨rfl, k5⟩ := hr.getErr htt
     clear hr
     go_wp2_with fail
     exact ⟨rfl, RPost.err hres.out ⟨rfl, K4.trans k5⟩⟩
    | ok q5 =>
     obtain ⟨u, σ2⟩ := q5
     obtain ⟨v, rfl, ⟨tk5, kk5, rfl, au, cu⟩, p5, k5⟩ := hr.getOk htt
     clear hr
     have i2 := (hI _ _ _ _ p4.le htt).1
     unfold Inv at i2
     obtain ⟨ta5, tn5, tc5, rfl⟩ := au.slice
     obtain ⟨ma5, mn5, mc5, rfl⟩ := cu.slice
     unfold tmVal
     have hB5 := hB4.kept k5 (by show ¬ w.heap.size = b; omega)
     have hR5 := hR4.kept k5 (by show ¬ w.heap.size + 1 = b; omega)
     have c5 := c4.frame (Same.of_kept k5 (fun k h e => by have := h.1; omega))
     have K5 := K4.trans k5
     have z5 := k5.size
     have lB5 := hB5.lt
     have hh : headB t = true := by cases hh : headB t; simp [hh] at hd; rfl
     unfold headB at hh
     rw [Bool.and_eq_true] at hh
     obtain ⟨x, y, hxy⟩ : ∃ x y, t.kids = [x, y] := by
      have := hgo (by simpa using hh.1)
      match hh : t.kids, this with
      | [x, y], _ => exact ⟨x, y, rfl⟩
     have HXY := Ld hxy
     clear hh
     rw [hxy] at c5
     clear hxy
     obtain ⟨g, off, cap, k0, m0, k1, m1, hv, pr0⟩ := c5.pair
     cases hv
     obtain ⟨xa, xn, xc, rfl⟩ := pr0.ty.slice
     obtain ⟨ya, yn, yc, rfl⟩ := pr0.tm.slice
     go_wp2_with fail
     have hU : Blk (w5.alloc (.cells #[.int .i64 u.op, .string u.name, .int .i64 u.n, .int .i64 u.ty.kind, .string u.ty.name, .slice ta5 tn5 tc5, .slice ma5 mn5 mc5] 28)) w5.heap.size 28 (tmCells u (.slice ta5 tn5 tc5) (.slice ma5 mn5 mc5)) := Blk.new w5 28 _
     have p6 := p5.alloc (.cells #[.int .i64 u.op, .string u.name, .int .i64 u.n, .int .i64 u.ty.kind, .string u.ty.name, .slice ta5 tn5 tc5, .slice ma5 mn5 mc5] 28)
     have k6 : Kept (fun _ => False) w5 (w5.alloc (.cells #[.int .i64 u.op, .string u.name, .int .i64 u.n, .int .i64 u.ty.kind, .string u.ty.name, .slice ta5 tn5 tc5, .slice ma5 mn5 mc5] 28)) := (Kept.refl _ _).alloc _
     generalize hW : w5.alloc (.cells #[.int .i64 u.op, .string u.name, .int .i64 u.n, .int .i64 u.ty.kind, .string u.ty.name, .slice ta5 tn5 tc5, .slice ma5 mn5 mc5] 28) = w6 at *
     clear hW
     cases hs : shutS s σ2 kRcu with
     | error r =>
      have hres : Hid (elementsS T s t bare σ = .error r) := Ld (by unfold elementsS; simp only [hd, ha, htt, hs])
      refine (shut_err p6 kRcu hs).mono ?_
      rintro e w7 ⟨rfl, k7⟩
      go_wp2_with fail
      exact ⟨rfl, RPost.err hres.out ⟨rfl, (K5.via k6 (fun _ _ h => h.elim)).trans k7⟩⟩
     | ok σ3 =>
      have hres : Hid (elementsS T s t bare σ = .ok (.mk 55 x.name 0 ty0 [y, u], σ3)) := Ld (by unfold elementsS; simp only [hd, ha, htt, hs, HXY.out]; rfl)
      refine (shut_ok p6 (by omega) kRcu hs).mono ?_
      rintro e w7 ⟨rfl, p7, k7⟩
      have z6 := k6.size
      have z7 := k7.size
      have k67 : Kept (· = b) w5 w7 := (k6.mono (fun _ _ h => h.elim)).trans k7
      have hB7 := hB5.kept k67 (by show ¬ w.heap.size = b; omega)
      have hR7 := hR5.kept k67 (by show ¬ w.heap.size + 1 = b; omega)
      have hU7 := hU.kept k7 (by show ¬ w5.heap.size = b; omega)
      have c7 := c5.frame (Same.of_kept k67 (fun k h e => by have := h.1; omega))
      have K7 := K5.trans k67
      have au7 := (au.mono (ok' := okk n0 w.heap.size (w.heap.size + 1)) (fun k _ h => ⟨by omega, by omega, by omega⟩)).frame (Same.of_kept k67 (fun k h e => by have := h.1; omega))
      have cu7 := (cu.mono (ok' := okk n0 w.heap.size (w.heap.size + 1)) (fun k _ h => ⟨by omega, by omega, by omega⟩)).frame (Same.of_kept k67 (fun k h e => by have := h.1; omega))
      have HK := Ld (c5.pair)
      have S7 : Same (okk n0 w.heap.size (w.heap.size + 1)) w5 w7 := Same.of_kept k67 (fun k h e => by have := h.1; omega)
      have ea := pr0.ty.frame S7
      have ec := pr0.tm.frame S7
      have cg := S7 g pr0.okg (cell_lt pr0.x0)
      have q2 := pr0.cap2
      have d1 : w7.cell? ⟨g, off + 1, none⟩ = some (.string x.name) := (World.cell?_of_block cg).trans pr0.x1
      have e0 : w7.cell? ⟨g, off + 7, none⟩ = some (.int .i64 y.op) := (World.cell?_of_block cg).trans pr0.y0
      have e1 : w7.cell? ⟨g, off + 7 + 1, none⟩ = some (.string y.name) := (World.cell?_of_block cg).trans pr0.y1
      have e2 : w7.cell? ⟨g, off + 7 + 2, none⟩ = some (.int .i64 y.n) := (World.cell?_of_block cg).trans pr0.y2
      have e3 : w7.cell? ⟨g, off + 7 + 3, none⟩ = some (.int .i64 y.ty.kind) := (World.cell?_of_block cg).trans pr0.y3
      have e4 : w7.cell? ⟨g, off + 7 + 4, none⟩ = some (.string y.ty.name) := (World.cell?_of_block cg).trans pr0.y4
      have e5 : w7.cell? ⟨g, off + 7 + 5, none⟩ = some (.slice xa xn xc) := (World.cell?_of_block cg).trans pr0.y5
      have e6 : w7.cell? ⟨g, off + 7 + 6, none⟩ = some (.slice ya yn yc) := (World.cell?_of_block cg).trans pr0.y6
      have y6 : w7.cell? ⟨w.heap.size, 6, none⟩ = some (.slice (some ⟨g, off, none⟩) 2 mc) := hB7.cell 6
      have v0 : w7.cell? ⟨w5.heap.size, 0, none⟩ = some (.int .i64 u.op) := hU7.cell 0
      have v1 : w7.cell? ⟨w5.heap.size, 1, none⟩ = some (.string u.name) := hU7.cell 1
      have v2 : w7.cell? ⟨w5.heap.size, 2, none⟩ = some (.int .i64 u.n) := hU7.cell 2
      have v3 : w7.cell? ⟨w5.heap.size, 3, none⟩ = some (.int .i64 u.ty.kind) := hU7.cell 3
      have v4 : w7.cell? ⟨w5.heap.size, 4, none⟩ = some (.string u.ty.name) := hU7.cell 4
      have v5 : w7.cell? ⟨w5.heap.size, 5, none⟩ = some (.slice ta5 tn5 tc5) := hU7.cell 5
      have v6 : w7.cell? ⟨w5.heap.size, 6, none⟩ = some (.slice ma5 mn5 mc5) := hU7.cell 6
      have g0 : w7.cell? ⟨w.heap.size + 1, 0, none⟩ = some (.int .i64 0) := hR7.cell 0
      have g1 : w7.cell? ⟨w.heap.size + 1, 1, none⟩ = some (.string ⟨#[]⟩) := hR7.cell 1
      have g2 : w7.cell? ⟨w.heap.size + 1, 2, none⟩ = some (.int .i64 0) := hR7.cell 2
      have g3 : w7.cell? ⟨w.heap.size + 1, 3, none⟩ = some (.int .i64 0) := hR7.cell 3
      have g4 : w7.cell? ⟨w.heap.size + 1, 4, none⟩ = some (.string ⟨#[]⟩) := hR7.cell 4
      have g5 : w7.cell? ⟨w.heap.size + 1, 5, none⟩ = some (.slice none 0 0) := hR7.cell 5
      have g6 : w7.cell? ⟨w.heap.size + 1, 6, none⟩ = some (.slice none 0 0) := hR7.cell 6
      have f0 : w7.frozen? ⟨w.heap.size + 1, 0, none⟩ = false := hR7.frozen 0
      have f1 : w7.frozen? ⟨w.heap.size + 1, 1, none⟩ = false := hR7.frozen 1
      have f2 : w7.frozen? ⟨w.heap.size + 1, 2, none⟩ = false := hR7.frozen 2
      have f3 : w7.frozen? ⟨w.heap.size + 1, 3, none⟩ = false := hR7.frozen 3
      have f4 : w7.frozen? ⟨w.heap.size + 1, 4, none⟩ = false := hR7.frozen 4
      have f5 : w7.frozen? ⟨w.heap.size + 1, 5, none⟩ = false := hR7.frozen 5
      have f6 : w7.frozen? ⟨w.heap.size + 1, 6, none⟩ = false := hR7.frozen 6
      have lR := hR7.lt
      have lB := hB7.lt
      have lU := hU7.lt
      have lg := cell_lt d1
      clear pr0 cg S7 HK
      go_wp2_with fail
      go_region
      go_wp2_with fail
      refine ret_tm Tryz.results223 (t := .mk 55 x.name 0 ty0 [y, u]) (tk := .slice none 0 0) (kk := .slice (some ⟨w7.heap.size, 0, none⟩) 2 2) (R := w.heap.size + 1) hres.out rfl rfl ((r7 hR7 rfl).alloc _).drew .nil0 ?_ (((p7w p7 (by omega) (by omega)).alloc _).drew) (((k7w K7 (Or.inr (by omega))).alloc _).drew)
      have tw : ∀ W : World, Blk W w7.heap.size 28 (tmCells y (.slice xa xn xc) (.slice ya yn yc) ++ tmCells u (.slice ta5 tn5 tc5) (.slice ma5 mn5 mc5)) → Same (okk n0 w.heap.size (w.heap.size + 1)) w7 W → TmL (fun k => n0 ≤ k) W [y, u] (.slice (some ⟨w7.heap.size, 0, none⟩) 2 2) := fun W hb hsm => (TmL.two (ok := okk n0 w.heap.size (w.heap.size + 1)) (ty := 28) ⟨by omega, by omega, by omega⟩ (Nat.le_refl _) hb (ea.frame hsm) (ec.frame hsm) (au7.frame hsm) (cu7.frame hsm)).mono (fun k _ h => h.1)
      exact tw _ (Blk.new' 28 _ (by simp)).drew (Same.of_kept (S := (· = w.heap.size + 1)) (((k7w (Kept.refl (fun x => x = w.heap.size + 1) w7) (Or.inl rfl)).alloc _).drew) (fun k h e => h.2.2 e))
end Go.Proofs.YtfhedienjnfdcaaGreatDoor
