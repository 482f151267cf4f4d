/- Texts OrP AlP PJoin JnB RpW LtW BdL BvW SsW RowB RFrW RRmW RSbN SuB of this proof, in one. -/
import Derived.Test.YtfhedienjnfdcaaGreatDoorK19
import Derived.Deep.RegionLaw
import Derived.Deep.RegionHeld3
import Derived.Laws.EntriesVeiled
set_option linter.unusedVariables false
set_option linter.unusedSimpArgs false
set_option maxRecDepth 100000
set_option maxHeartbeats 32000000
namespace Go.Proofs.YtfhedienjnfdcaaGreatDoor
open Go.RowKit
def alB (a b : Tm) : Bool := (validB a && validB b) && alikeT a b [] []
theorem alB_iff {a b : Tm} (ha : validB a = true) (hb : validB b = true) : alB a b = true ↔ dbT a = dbT b := by
 unfold alB
 rw [ha, hb]
 exact alike_db ((valid_iff a).1 ha).1.nw ((valid_iff b).1 hb).1.nw
theorem pair_valid {a b : Tm} {ok ok' : Nat → Prop} {w : World} {tk kk tk' kk' : Value} (h1 : TyL ok w a.ty.kids tk) (h2 : TmL ok w a.kids kk) (h3 : TyL ok' w b.ty.kids tk') (h4 : TmL ok' w b.kids kk') (ha : SmTm big a) (hb : SmTm big b) :
  ∀ (W9 : World) (g9 : Nat), W9 = w.alloc (.cells (tmCells a tk kk ++ tmCells b tk' kk').toArray 28) → g9 = w.heap.size → Calls Tryz.prog 60 #[.slice (some ⟨g9, 0, none⟩) 2 2] W9 fun e w' => e = .returned (.bool (validB a && validB b)) ∧ Kept (fun _ => False) W9 w' := by
 rintro W9 g9 rfl rfl
 have hL : TmL (fun _ => True) (w.alloc (.cells (tmCells a tk kk ++ tmCells b tk' kk').toArray 28)) [a, b] (.slice (some ⟨w.heap.size, 0, none⟩) 2 2) :=
  TmL.two trivial (Nat.le_refl _) (Blk.new w 28 (tmCells a tk kk ++ tmCells b tk' kk')) ((h1.frame (Same.alloc _ _)).mono (fun _ _ _ => trivial)) ((h2.frame (Same.alloc _ _)).mono (fun _ _ _ => trivial)) ((h3.frame (Same.alloc _ _)).mono (fun _ _ _ => trivial)) ((h4.frame (Same.alloc _ _)).mono (fun _ _ _ => trivial))
 refine (valids_any (by simp) (fun t ht => ?_) hL).mono fun e w' ⟨h, k⟩ => ⟨?_, k⟩
 ·rcases List.mem_cons.1 ht with rfl | ht
  ·exact ha
  ·rw [List.mem_singleton.1 ht]; exact hb
 ·rw [h]; simp
theorem alike_any {a b : Tm} {ok ok' : Nat → Prop} {w : World} {tk kk tk' kk' : Value} (h1 : TyL ok w a.ty.kids tk) (h2 : TmL ok w a.kids kk) (h3 : TyL ok' w b.ty.kids tk') (h4 : TmL ok' w b.kids kk') (ha : SmTm big a) (hb : SmTm big b) :
  Calls Tryz.prog 31 #[tmVal a tk kk, tmVal b tk' kk'] w fun e w' => e = .returned (.bool (alB a b)) ∧ Kept (fun _ => False) w w' := by
 obtain ⟨p, n, c, rfl⟩ := h1.slice
 obtain ⟨ma, mn, mc, rfl⟩ := h2.slice
 obtain ⟨p', n', c', rfl⟩ := h3.slice
 obtain ⟨ma', mn', mc', rfl⟩ := h4.slice
 have K1 : Kept (fun _ => False) w ((w.alloc (.cells #[.int .i64 a.op, .string a.name, .int .i64 a.n, .int .i64 a.ty.kind, .string a.ty.name, .slice p n c, .slice ma mn mc] 28)).alloc (.cells #[.int .i64 b.op, .string b.name, .int .i64 b.n, .int .i64 b.ty.kind, .string b.ty.name, .slice p' n' c', .slice ma' mn' mc'] 28)) := ((Kept.refl _ _).alloc _).alloc _
 have bA : Blk ((w.alloc (.cells #[.int .i64 a.op, .string a.name, .int .i64 a.n, .int .i64 a.ty.kind, .string a.ty.name, .slice p n c, .slice ma mn mc] 28)).alloc (.cells #[.int .i64 b.op, .string b.name, .int .i64 b.n, .int .i64 b.ty.kind, .string b.ty.name, .slice p' n' c', .slice ma' mn' mc'] 28)) w.heap.size 28 (tmCells a (.slice p n c) (.slice ma mn mc)) := (Blk.new w 28 _).alloc _
 have bB : Blk ((w.alloc (.cells #[.int .i64 a.op, .string a.name, .int .i64 a.n, .int .i64 a.ty.kind, .string a.ty.name, .slice p n c, .slice ma mn mc] 28)).alloc (.cells #[.int .i64 b.op, .string b.name, .int .i64 b.n, .int .i64 b.ty.kind, .string b.ty.name, .slice p' n' c', .slice ma' mn' mc'] 28)) (w.heap.size + 1) 28 (tmCells b (.slice p' n' c') (.slice ma' mn' mc')) := Blk.new' 28 _ (by simp)
 have HP := Ld (pair_valid (h1.frame (sK K1)) (h2.frame (sK K1)) (h3.frame (sK K1)) (h4.frame (sK K1)) ha hb)
 have HS := Ld (fun (hv : validB a = true) W (k : Kept (fun _ => False) w W) => salike_any (valid_bd hv) b [] [] W ok ok' (fun _ => True) (fun _ => True) _ _ _ _ _ _ (h1.frame (sK k)) (h2.frame (sK k)) (h3.frame (sK k)) (h4.frame (sK k)) .nil .nil (by have := ((valid_iff a).1 hv).2.2; simp only [List.length_nil]; omega) (by have := ((valid_iff a).1 hv).2.2; simp only [List.length_nil]; omega))
 clear h1 h2 h3 h4 ha hb
 unfold tmVal at HS ⊢
 have HR : Hid (alB a b = ((validB a && validB b) && alikeT a b [] [])) := Ld rfl
 generalize alikeT a b [] [] = z at *
 have HZ : Hid (((w.alloc (.cells #[.int .i64 a.op, .string a.name, .int .i64 a.n, .int .i64 a.ty.kind, .string a.ty.name, .slice p n c, .slice ma mn mc] 28)).alloc (.cells #[.int .i64 b.op, .string b.name, .int .i64 b.n, .int .i64 b.ty.kind, .string b.ty.name, .slice p' n' c', .slice ma' mn' mc'] 28)).heap.size = w.heap.size + 1 + 1) := Ld (by simp)
 go_enter Tryz.func31, Tryz.ntmps31
 go_wp2_with fail
 generalize ((w.alloc (.cells #[.int .i64 a.op, .string a.name, .int .i64 a.n, .int .i64 a.ty.kind, .string a.ty.name, .slice p n c, .slice ma mn mc] 28)).alloc (.cells #[.int .i64 b.op, .string b.name, .int .i64 b.n, .int .i64 b.ty.kind, .string b.ty.name, .slice p' n' c', .slice ma' mn' mc'] 28)) = w1 at *
 have K2 : Kept (fun _ => False) w (w1.alloc (.cells (tmCells a (.slice p n c) (.slice ma mn mc) ++ tmCells b (.slice p' n' c') (.slice ma' mn' mc')).toArray 28)) := K1.alloc _
 have bA2 := bA.alloc (.cells (tmCells a (.slice p n c) (.slice ma mn mc) ++ tmCells b (.slice p' n' c') (.slice ma' mn' mc')).toArray 28)
 have bB2 := bB.alloc (.cells (tmCells a (.slice p n c) (.slice ma mn mc) ++ tmCells b (.slice p' n' c') (.slice ma' mn' mc')).toArray 28)
 refine (HP.out _ _ rfl HZ.out.symm).mono ?_
 rintro e w2 ⟨rfl, k2⟩
 have gA : ∀ i, w2.cell? ⟨w.heap.size, i, none⟩ = [Value.int .i64 a.op, .string a.name, .int .i64 a.n, .int .i64 a.ty.kind, .string a.ty.name, .slice p n c, .slice ma mn mc][i]? := (bA2.kept k2 (fun h => h)).cell
 have gB : ∀ i, w2.cell? ⟨w.heap.size + 1, i, none⟩ = [Value.int .i64 b.op, .string b.name, .int .i64 b.n, .int .i64 b.ty.kind, .string b.ty.name, .slice p' n' c', .slice ma' mn' mc'][i]? := (bB2.kept k2 (fun h => h)).cell
 have KK := Ld (K2.trans k2)
 clear K1 K2 bA bB bA2 bB2 k2 HP
 cases hv : validB a && validB b
 ·have HR2 : Hid (alB a b = false) := Ld (by rw [HR.out, hv]; rfl)
  clear hv HS HR
  go_wp2_with fail
  go_ret
  exact ⟨by rw [HR2.out]; rfl, KK.out⟩
 ·have HR2 : Hid (alB a b = z) := Ld (by rw [HR.out, hv]; rfl)
  have HS2 := Ld (HS.out (by simp only [Bool.and_eq_true] at hv; exact hv.1) w2 KK.out)
  clear hv HS HR
  go_wp2_with fail
  refine HS2.out.mono ?_
  rintro e w3 ⟨rfl, k3⟩
  go_wp2_with fail
  go_ret
  exact ⟨by rw [HR2.out]; rfl, KK.out.trans k3⟩
def mkJ (op : Int) (a b : Tm) : Tm := .mk op nil0 0 ty0 [a, b]
theorem TmL.cap {ok : Nat → Prop} {w : World} {l : List Tm} {a : Option Addr} {n c : Nat} (h : TmL ok w l (.slice a n c)) : l.length ≤ c := by
 generalize hv : Value.slice a n c = v at h
 cases h with
 | nil he => exact Nat.zero_le _
 | mk K M hne hb hc hcell hk hm => cases hv; exact hc
structure JI (w : World) (R O : Nat) (o : Tm) (wr : World) (tk kk : Value) : Prop where
 kp : Kept (fun _ => False) w wr
 r : Blk wr R 28 z27
 ob : Blk wr O 28 (tmCells o tk kk)
 ty : TyL (fun q => R + 1 ≤ q ∧ q ≠ O) wr o.ty.kids tk
 tm : TmL (fun q => R + 1 ≤ q ∧ q ≠ O) wr o.kids kk
theorem JI.step {w wr w4 : World} {R O : Nat} {o t : Tm} {op : Int} {tk kk v u : Value} (h : JI w R O o wr tk kk) (hR0 : w.heap.size ≤ R) (hO : R + 1 ≤ O) (k4 : Kept (fun _ => False) wr w4) (hv : TyL (fun q => wr.heap.size ≤ q) w4 t.ty.kids v) (hu : TmL (fun q => wr.heap.size ≤ q) w4 t.kids u) :
  JI w R O (mkJ op o t) ((((((((w4.setCell ⟨O, 0, none⟩ (.int .i64 op)).setCell ⟨O, 1, none⟩ (.string ⟨#[]⟩)).setCell ⟨O, 2, none⟩ (.int .i64 0)).setCell ⟨O, 3, none⟩ (.int .i64 0)).setCell ⟨O, 4, none⟩ (.string ⟨#[]⟩)).setCell ⟨O, 5, none⟩ (.slice none 0 0)).setCell ⟨O, 6, none⟩ (.slice (some ⟨w4.heap.size, 0, none⟩) 2 2)).alloc (.cells (tmCells o tk kk ++ tmCells t v u).toArray 28)) (.slice none 0 0) (.slice (some ⟨w4.heap.size, 0, none⟩) 2 2) := by
 have lO := h.ob.lt
 have z4 := k4.size
 have kw := h.kp.size
 have hB : w4.heap.size ≠ O := by omega
 have hs7 : Same (fun q => R + 1 ≤ q ∧ q ≠ O) w4 (((((((w4.setCell ⟨O, 0, none⟩ (.int .i64 op)).setCell ⟨O, 1, none⟩ (.string ⟨#[]⟩)).setCell ⟨O, 2, none⟩ (.int .i64 0)).setCell ⟨O, 3, none⟩ (.int .i64 0)).setCell ⟨O, 4, none⟩ (.string ⟨#[]⟩)).setCell ⟨O, 5, none⟩ (.slice none 0 0)).setCell ⟨O, 6, none⟩ (.slice (some ⟨w4.heap.size, 0, none⟩) 2 2)) := set7 (fun q hq => hq.2)
 have hn : R ≠ O := by omega
 have hR := h.r.kept k4 (fun h => h)
 refine ⟨(k7w (h.kp.trans k4) (Or.inr (by omega))).alloc _, (((((((hR.set_other _ _ hn).set_other _ _ hn).set_other _ _ hn).set_other _ _ hn).set_other _ _ hn).set_other _ _ hn).set_other _ _ hn).alloc _, (r7 (h.ob.kept k4 (fun h => h)) rfl).alloc _, .nil (Or.inl rfl), ?_⟩
 have bB := Blk.new' (w := ((((((w4.setCell ⟨O, 0, none⟩ (.int .i64 op)).setCell ⟨O, 1, none⟩ (.string ⟨#[]⟩)).setCell ⟨O, 2, none⟩ (.int .i64 0)).setCell ⟨O, 3, none⟩ (.int .i64 0)).setCell ⟨O, 4, none⟩ (.string ⟨#[]⟩)).setCell ⟨O, 5, none⟩ (.slice none 0 0)).setCell ⟨O, 6, none⟩ (.slice (some ⟨w4.heap.size, 0, none⟩) 2 2)) (g := w4.heap.size) 28 (tmCells o tk kk ++ tmCells t v u) (by simp)
 exact TmL.two (t := o) (u := t) ⟨by omega, hB⟩ (Nat.le_refl _) bB (((h.ty.frame (sK k4)).frame hs7).frame (Same.alloc _ _)) (((h.tm.frame (sK k4)).frame hs7).frame (Same.alloc _ _))
  (((hv.mono (fun q _ hq => ⟨by omega, by omega⟩)).frame hs7).frame (Same.alloc _ _)) (((hu.mono (fun q _ hq => ⟨by omega, by omega⟩)).frame hs7).frame (Same.alloc _ _))
theorem JI.kept {w wr w4 : World} {R O : Nat} {o : Tm} {tk kk : Value} (h : JI w R O o wr tk kk) (k : Kept (fun _ => False) wr w4) : JI w R O o w4 tk kk :=
 ⟨h.kp.trans k, h.r.kept k (fun h => h), h.ob.kept k (fun h => h), h.ty.frame (sK k), h.tm.frame (sK k)⟩
def TmB (B : Nat) (r : Tm × Int) (w : World) (e : Ending) (w' : World) : Prop := ∃ tk kk, e = .returned (.tuple #[tmVal r.1 tk kk, .int .i64 r.2]) ∧ TyL (fun k => B ≤ k) w' r.1.ty.kids tk ∧ TmL (fun k => B ≤ k) w' r.1.kids kk ∧ Kept (fun _ => False) w w'
theorem checked_any {t : Tm} {rr : Tm × Int} (hr : Hid (rr = if validB t then (t, 0) else (tm0, 5))) {B : Nat} {w : World} {tk kk : Value} (hB : B ≤ w.heap.size) (h1 : TyL (fun q => B ≤ q ∧ q < w.heap.size) w t.ty.kids tk) (h2 : TmL (fun q => B ≤ q ∧ q < w.heap.size) w t.kids kk) (hs : SmTm big t) :
  Calls Tryz.prog 62 #[tmVal t tk kk] w (TmB B rr w) := by
 obtain ⟨p, n, c, rfl⟩ := h1.slice
 obtain ⟨ma, mn, mc, rfl⟩ := h2.slice
 have B0 : Hid (Blk ((w.alloc (.cells #[.int .i64 t.op, .string t.name, .int .i64 t.n, .int .i64 t.ty.kind, .string t.ty.name, .slice p n c, .slice ma mn mc] 28)).alloc Z7) w.heap.size 28 (tmCells t (.slice p n c) (.slice ma mn mc)) ∧ Blk ((w.alloc (.cells #[.int .i64 t.op, .string t.name, .int .i64 t.n, .int .i64 t.ty.kind, .string t.ty.name, .slice p n c, .slice ma mn mc] 28)).alloc Z7) (w.heap.size + 1) 28 z27 ∧ Kept (fun _ => False) w ((w.alloc (.cells #[.int .i64 t.op, .string t.name, .int .i64 t.n, .int .i64 t.ty.kind, .string t.ty.name, .slice p n c, .slice ma mn mc] 28)).alloc Z7)) := Ld
  ⟨(Blk.new w 28 (tmCells t (.slice p n c) (.slice ma mn mc))).alloc _, Blk.new' 28 _ (by simp), ((Kept.refl _ _).alloc _).alloc _⟩
 have HV := Ld (fun W (k : Kept (fun _ => False) w W) => valid_any (h1.frame (sK k)) (h2.frame (sK k)) hs)
 have HTY := Ld (fun W (k : Kept (fun _ => False) w W) => h1.frame (sK k))
 have HTM := Ld (fun W (k : Kept (fun _ => False) w W) => h2.frame (sK k))
 clear h1 h2 hs
 unfold tmVal
 go_enter Tryz.func62, Tryz.ntmps62
 go_wp2_with fail
 generalize ((w.alloc (.cells #[.int .i64 t.op, .string t.name, .int .i64 t.n, .int .i64 t.ty.kind, .string t.ty.name, .slice p n c, .slice ma mn mc] 28)).alloc Z7) = w1 at *
 refine (HV.out _ B0.out.2.2).mono ?_
 rintro e w2 ⟨rfl, k2⟩
 have BA := Ld (B0.out.1.kept k2 (fun h => h))
 have BR := Ld (B0.out.2.1.kept k2 (fun h => h))
 have KK := Ld (B0.out.2.2.trans k2)
 clear B0 k2 HV
 have gA : ∀ i, w2.cell? ⟨w.heap.size, i, none⟩ = [Value.int .i64 t.op, .string t.name, .int .i64 t.n, .int .i64 t.ty.kind, .string t.ty.name, .slice p n c, .slice ma mn mc][i]? := BA.out.cell
 have gR : ∀ i, w2.cell? ⟨w.heap.size + 1, i, none⟩ = [Value.int .i64 0, .string ⟨#[]⟩, .int .i64 0, .int .i64 0, .string ⟨#[]⟩, .slice none 0 0, .slice none 0 0][i]? := BR.out.cell
 have fR : ∀ i, w2.frozen? ⟨w.heap.size + 1, i, none⟩ = false := BR.out.frozen
 cases hv : validB t
 ·have hq : Hid (rr = (tm0, 5)) := Ld (by rw [hr.out, hv]; rfl)
  clear hv hr
  go_wp2_with fail
  exact bodyPost_ret (results_ct Tryz.results62 rfl (load_tm (t := tm0) (r7 BR.out rfl))) rfl ⟨_, _, by rw [hq.out]; rfl, by rw [hq.out]; exact .nil (Or.inl rfl), by rw [hq.out]; exact .nil (Or.inl rfl), k7w KK.out (Or.inr (Nat.le_succ _))⟩
 ·have hq : Hid (rr = (t, 0)) := Ld (by rw [hr.out, hv]; rfl)
  clear hv hr
  go_wp2_with fail
  exact bodyPost_ret (results_ct Tryz.results62 rfl (load_tm (t := t) (r7 BR.out rfl))) rfl ⟨_, _, by rw [hq.out]; rfl, by rw [hq.out]; exact ((HTY.out _ KK.out).frame (set7 (fun q hq => by omega))).mono (fun q _ hq => hq.1), by rw [hq.out]; exact ((HTM.out _ KK.out).frame (set7 (fun q hq => by omega))).mono (fun q _ hq => hq.1), k7w KK.out (Or.inr (Nat.le_succ _))⟩
theorem szR_le (ρ : ByteArray → Nat) (hρ : ∀ s, ρ s ≤ 2000) (u : Tm) : szR ρ u ≤ 2000 * tmN u := by
 induction u using Tm.rec (motive_2 := fun ks => ∀ (bi : Bool) (nm : ByteArray) (i : Nat) (ρ : ByteArray → Nat), (∀ s, ρ s ≤ 2000) → szRs bi nm ρ i ks ≤ 2000 * tmNs ks) generalizing ρ with
 | mk op nm N ty ks ih =>
  rw [szR, tmN]
  split
  ·have := hρ nm; omega
  ·have := ih (binderB op) nm 0 ρ hρ; omega
 | nil => rename_i bi nm i ρ hρ; simp [szRs, tmNs]
 | cons t ks iht ihl =>
  rename_i bi nm i ρ hρ
  rw [szRs, tmNs]
  have h1 := ihl bi nm (i + 1) ρ hρ
  have h2 := iht (if bi && i == 1 then upW nm ρ else ρ) (fun s => by
   split
   ·unfold upW; split
    ·omega
    ·exact hρ s
   ·exact hρ s)
  omega
theorem ok_smt {t : Tm} (h : OkTm t) : SmTm big t := by
 induction h with
 | mk hf hn hl ih => exact .mk (by have := (formed_sm hf).1; unfold big; omega) (formed_sm hf).2 ih
def ltdR (t : Tm) (l : List (ByteArray × Tm)) : Tm × Int := if validB (subT freshS t l) then (subT freshS t l, 0) else (tm0, 5)
theorem limited_any {t : Tm} {l : List (ByteArray × Tm)} {σ : ByteArray → Option Tm} (ht : validB t = true) (hl : ∀ s, look l s = σ s) (hσ : SgOk σ) (hlb : OkB l ∧ (frB l).length ≤ 700000) {w : World} {ok okm : Nat → Prop} {tk kk : Value} {pm n : Nat} (h1 : TyL ok w t.ty.kids tk) (h2 : TmL ok w t.kids kk) (hpm : PrM okm w pm n σ) (hp : P10 w) (hn : n ≤ 200) :
  Calls Tryz.prog 76 #[.map (some pm), tmVal t tk kk] w (TmB w.heap.size (ltdR t l) w) := by
 obtain ⟨a, an, ac, rfl⟩ := h1.slice
 obtain ⟨ma, mn, mc, rfl⟩ := h2.slice
 have hv := (valid_iff t).1 ht
 have hok := valid_ok ht
 have HSZ : Hid (szR (wgC σ (fun _ => 0)) t = tmN (subT freshS t l)) := Ld (by
  have h := (sub_size hok (l := l) hlb.1 (by have := hlb.2; have := hv.2.1; omega)).1
  rw [h]
  congr 1
  funext s
  unfold wgC wgS wgN
  rw [hl s]; simp only [if_true]; cases σ s <;> rfl)
 have HRO : Hid (OkTm (subT freshS t l)) := Ld (sub_ok hok l hlb.1 (by have := hlb.2; have := hv.2.1; omega))
 have HB : Hid (szR (wgC σ (fun _ => 0)) t ≤ 1000000000) := Ld (by
  have key : ∀ (ρ : ByteArray → Nat), (∀ s, ρ s ≤ 2000) → ∀ (u : Tm), szR ρ u ≤ 2000 * tmN u := szR_le
  have h := key (wgC σ (fun _ => 0)) (fun s => by unfold wgC wgS; simp only [if_true]; cases hs : σ s with
   | none => show 1 ≤ 2000; omega
   | some u => exact (hσ s u hs).2.1) t
  have := hv.2.1
  omega)
 have HR : Hid (ltdR t l = if validB (subT freshS t l) then (subT freshS t l, 0) else (tm0, 5)) := Ld rfl
 have HVR : Hid (2000 < tmN (subT freshS t l) → validB (subT freshS t l) = false) := Ld (fun h => by
  rw [valid_of HRO.out, decide_eq_false (by omega)]; rfl)
 have HTY := Ld (fun W (k : Kept (fun _ => False) w W) => (h1.mono (ok' := fun q => q < w.heap.size) (fun q hq _ => hq)).frame (sK k))
 have HTM := Ld (fun W (k : Kept (fun _ => False) w W) => (h2.mono (ok' := fun q => q < w.heap.size) (fun q hq _ => hq)).frame (sK k))
 have HPM := Ld (fun W (k : Kept (fun _ => False) w W) => (show PrM (fun q => q < w.heap.size) W pm n σ from by obtain ⟨f, hf, hv⟩ := hpm; exact ⟨f, hf.kept k (fun e => e), (hv.mono (fun q hq _ => hq)).frame (sK k)⟩))
 have HPL : Hid (pm < w.heap.size) := Ld (by obtain ⟨f, hf, _⟩ := hpm; exact hf.lt)
 have HOK := Ld hok
 have HV := Ld hv
 have HLK := Ld hl
 have HSG := Ld hσ
 have HP := Ld hp
 have HN := Ld hn
 generalize ltdR t l = rr at *
 clear h1 h2 hpm hv hok hlb hl hσ hp hn ht
 have hmm := @run_makeMap Tryz.prog
 unfold tmVal
 go_enter Tryz.func76, Tryz.ntmps76
 go_upto_region 3 with (fail)
 have B5 : Hid (Blk ((((((w.alloc (.cells #[.map (some pm)] 85)).alloc (.cells #[.int .i64 t.op, .string t.name, .int .i64 t.n, .int .i64 t.ty.kind, .string t.ty.name, .slice a an ac, .slice ma mn mc] 28)).alloc Z7).alloc (.cells #[.int .i64 0] 3)).alloc (.cells #[.nilFunc] 132))) w.heap.size 85 [.map (some pm)] ∧ Blk ((((((w.alloc (.cells #[.map (some pm)] 85)).alloc (.cells #[.int .i64 t.op, .string t.name, .int .i64 t.n, .int .i64 t.ty.kind, .string t.ty.name, .slice a an ac, .slice ma mn mc] 28)).alloc Z7).alloc (.cells #[.int .i64 0] 3)).alloc (.cells #[.nilFunc] 132))) (w.heap.size + 1) 28 [Value.int .i64 t.op, .string t.name, .int .i64 t.n, .int .i64 t.ty.kind, .string t.ty.name, .slice a an ac, .slice ma mn mc] ∧ Blk ((((((w.alloc (.cells #[.map (some pm)] 85)).alloc (.cells #[.int .i64 t.op, .string t.name, .int .i64 t.n, .int .i64 t.ty.kind, .string t.ty.name, .slice a an ac, .slice ma mn mc] 28)).alloc Z7).alloc (.cells #[.int .i64 0] 3)).alloc (.cells #[.nilFunc] 132))) (w.heap.size + 1 + 1) 28 z27 ∧ Blk ((((((w.alloc (.cells #[.map (some pm)] 85)).alloc (.cells #[.int .i64 t.op, .string t.name, .int .i64 t.n, .int .i64 t.ty.kind, .string t.ty.name, .slice a an ac, .slice ma mn mc] 28)).alloc Z7).alloc (.cells #[.int .i64 0] 3)).alloc (.cells #[.nilFunc] 132))) (w.heap.size + 1 + 1 + 1) 3 [.int .i64 0] ∧ Blk ((((((w.alloc (.cells #[.map (some pm)] 85)).alloc (.cells #[.int .i64 t.op, .string t.name, .int .i64 t.n, .int .i64 t.ty.kind, .string t.ty.name, .slice a an ac, .slice ma mn mc] 28)).alloc Z7).alloc (.cells #[.int .i64 0] 3)).alloc (.cells #[.nilFunc] 132))) (w.heap.size + 1 + 1 + 1 + 1) 132 [.nilFunc] ∧ Kept (fun _ => False) w ((((((w.alloc (.cells #[.map (some pm)] 85)).alloc (.cells #[.int .i64 t.op, .string t.name, .int .i64 t.n, .int .i64 t.ty.kind, .string t.ty.name, .slice a an ac, .slice ma mn mc] 28)).alloc Z7).alloc (.cells #[.int .i64 0] 3)).alloc (.cells #[.nilFunc] 132)))) := Ld
  ⟨((((Blk.new w 85 _).alloc _).alloc _).alloc _).alloc _, (((Blk.new' 28 _ (by simp)).alloc _).alloc _).alloc _, ((Blk.new' 28 _ (by simp)).alloc _).alloc _, (Blk.new' 3 _ (by simp)).alloc _, Blk.new' 132 _ (by simp), (((((Kept.refl _ _).alloc _).alloc _).alloc _).alloc _).alloc _⟩
 generalize (((((w.alloc (.cells #[.map (some pm)] 85)).alloc (.cells #[.int .i64 t.op, .string t.name, .int .i64 t.n, .int .i64 t.ty.kind, .string t.ty.name, .slice a an ac, .slice ma mn mc] 28)).alloc Z7).alloc (.cells #[.int .i64 0] 3)).alloc (.cells #[.nilFunc] 132)) = w5 at *
 obtain ⟨X, hX⟩ : ∃ X, X = w.heap.size := ⟨_, rfl⟩
 obtain ⟨P, hP⟩ : ∃ P, P = w.heap.size + 1 := ⟨_, rfl⟩
 obtain ⟨R, hR⟩ : ∃ R, R = w.heap.size + 1 + 1 := ⟨_, rfl⟩
 obtain ⟨Y, hY⟩ : ∃ Y, Y = w.heap.size + 1 + 1 + 1 := ⟨_, rfl⟩
 obtain ⟨Z, hZ⟩ : ∃ Z, Z = w.heap.size + 1 + 1 + 1 + 1 := ⟨_, rfl⟩
 have HD : Hid (X = w.heap.size ∧ P = w.heap.size + 1 ∧ R = w.heap.size + 2 ∧ Y = w.heap.size + 3 ∧ Z = w.heap.size + 4) := Ld ⟨hX, hP, by omega, by omega, by omega⟩
 rw [← hZ, ← hY, ← hR, ← hP, ← hX] at B5 ⊢
 obtain ⟨b1, b2, b3, b4, b6, k5⟩ := B5.out
 have hres : Kept (fun q => X ≤ q) w5 (w5.setCell ⟨Z, 0, none⟩ (.func (.func 127) #[] #[.pointer (some ⟨X, 0, none⟩), .pointer (some ⟨Y, 0, none⟩), .pointer (some ⟨Z, 0, none⟩)])) := (Kept.refl (fun q => X ≤ q) w5).setCell (p := ⟨Z, 0, none⟩) (Or.inl (by show X ≤ Z; omega)) _
 have kZ : Kept (fun q => q = Z) w5 (w5.setCell ⟨Z, 0, none⟩ (.func (.func 127) #[] #[.pointer (some ⟨X, 0, none⟩), .pointer (some ⟨Y, 0, none⟩), .pointer (some ⟨Z, 0, none⟩)])) := (Kept.refl (fun q => q = Z) w5).setCell (p := ⟨Z, 0, none⟩) (Or.inl rfl) _
 have gZ := b6.cell
 have fZ := b6.frozen
 have K6 : Hid (Kept (fun _ => False) w (w5.setCell ⟨Z, 0, none⟩ (.func (.func 127) #[] #[.pointer (some ⟨X, 0, none⟩), .pointer (some ⟨Y, 0, none⟩), .pointer (some ⟨Z, 0, none⟩)]))) := Ld (k5.via1 kZ (fun x hx e => by omega))
 have HXZ : Hid (LmX X Y Z pm 0 (w5.setCell ⟨Z, 0, none⟩ (.func (.func 127) #[] #[.pointer (some ⟨X, 0, none⟩), .pointer (some ⟨Y, 0, none⟩), .pointer (some ⟨Z, 0, none⟩)]))) := Ld ⟨b1.kept kZ (fun e => by omega), b4.kept kZ (fun e => by omega), b6.set 0 _⟩
 have HP6 : Hid (Blk (w5.setCell ⟨Z, 0, none⟩ (.func (.func 127) #[] #[.pointer (some ⟨X, 0, none⟩), .pointer (some ⟨Y, 0, none⟩), .pointer (some ⟨Z, 0, none⟩)])) P 28 [Value.int .i64 t.op, .string t.name, .int .i64 t.n, .int .i64 t.ty.kind, .string t.ty.name, .slice a an ac, .slice ma mn mc]) := Ld (b2.kept kZ (fun e => by omega))
 have HR6 : Hid (Blk (w5.setCell ⟨Z, 0, none⟩ (.func (.func 127) #[] #[.pointer (some ⟨X, 0, none⟩), .pointer (some ⟨Y, 0, none⟩), .pointer (some ⟨Z, 0, none⟩)])) R 28 z27) := Ld (b3.kept kZ (fun e => by omega))
 clear hres kZ b1 b2 b3 b4 b6 k5 B5 hZ hY hR hP hX
 go_upto_region 4 with (fail)
 clear gZ fZ
 generalize w5.setCell ⟨Z, 0, none⟩ (.func (.func 127) #[] #[.pointer (some ⟨X, 0, none⟩), .pointer (some ⟨Y, 0, none⟩), .pointer (some ⟨Z, 0, none⟩)]) = w6 at *
 have M7 := Ld (MapF.made w6)
 have K7 : Hid (Kept (fun _ => False) w6 (w6.alloc (.map #[] 0))) := Ld ((Kept.refl _ _).alloc _)
 have HZL := Ld HXZ.out.z.lt
 have HC := Ld (lim_any HOK.out σ (fun _ => 0) 0 (w6.alloc (.map #[] 0)) (fun q => q < w.heap.size) (fun q => q < w.heap.size) _ _ w6.heap.size 0 pm n X Y Z (HTY.out _ (K6.out.trans K7.out)) (HTM.out _ (K6.out.trans K7.out)) (HPM.out _ (K6.out.trans K7.out)) HSG.out ⟨_, M7.out, cnt_none⟩ (HXZ.out.kept K7.out (fun e => e) (fun e => e) (fun e => e))
  (fun q hq => by have := HD.out; have := HZL.out; constructor <;> omega) (fun q hq => by have := HD.out; have := HZL.out; constructor <;> omega) (by have := HD.out; have := HZL.out; have := HPL.out; omega) (by have := HV.out.2.1; omega) (fun s => by have := HV.out.2.2; show 0 + _ ≤ _; omega) (by have := HB.out; omega))
 unfold tmVal at HC
 have gP : ∀ i, w6.cell? ⟨P, i, none⟩ = [Value.int .i64 t.op, .string t.name, .int .i64 t.n, .int .i64 t.ty.kind, .string t.ty.name, .slice a an ac, .slice ma mn mc][i]? := HP6.out.cell
 have gZ : ∀ i, w6.cell? ⟨Z, i, none⟩ = [Value.func (.func 127) #[] #[.pointer (some ⟨X, 0, none⟩), .pointer (some ⟨Y, 0, none⟩), .pointer (some ⟨Z, 0, none⟩)]][i]? := HXZ.out.z.cell
 go_wp2_with fail
 clear gP gZ
 refine HC.out.mono ?_
 rintro e w8 ⟨rfl, hR⟩
 have K8 : Hid (Kept (fun _ => False) w w8) := Ld ((K6.out.trans K7.out).via1 hR.kp (fun x hx e => by have := HD.out; have := K6.out.size; rcases e with e | e <;> omega))
 have HP8 : Hid (Blk w8 P 28 [Value.int .i64 t.op, .string t.name, .int .i64 t.n, .int .i64 t.ty.kind, .string t.ty.name, .slice a an ac, .slice ma mn mc]) := Ld ((HP6.out.kept K7.out (fun e => e)).kept hR.kp (fun e => by have := HD.out; have := HZL.out; rcases e with e | e <;> omega))
 have HR8 : Hid (Blk w8 R 28 z27) := Ld ((HR6.out.kept K7.out (fun e => e)).kept hR.kp (fun e => by have := HD.out; have := HZL.out; rcases e with e | e <;> omega))
 have HX8 := Ld hR.bx
 obtain ⟨GN, hGN⟩ : ∃ GN, GN = 0 + szR (wgC σ (fun _ => 0)) t := ⟨_, rfl⟩
 rw [← hGN] at HX8
 have HGN : Hid (GN = tmN (subT freshS t l)) := Ld (by rw [hGN, Nat.zero_add]; exact HSZ.out)
 have HGB : Hid (GN ≤ 1000000000) := Ld (by rw [hGN, Nat.zero_add]; exact HB.out)
 clear hR hGN HC M7 K7 HXZ HP6 HR6 K6 HB HSZ
 have HSUB := Ld (psub_any HOK.out l σ w8 (fun q => q < w.heap.size) (fun q => q < w.heap.size) _ _ pm n HLK.out HSG.out (HTY.out _ K8.out) (HTM.out _ K8.out) (HPM.out _ K8.out) (HP.out.kept K8.out) (by have := HV.out.2.2; have := HN.out; omega) (by have := HV.out.2.1; omega))
 have HSMM := Ld (ok_smt HRO.out)
 clear HRO HTY HTM HPM HLK HSG HP HN HV HOK HPL HZL
 generalize subT freshS t l = s at *
 have gY : ∀ i, w8.cell? ⟨Y, i, none⟩ = [Value.int .i64 GN][i]? := HX8.out.y.cell
 by_cases hg : 2000 < GN
 ·have hg' : (2000 : Int) < (GN : Int) := by omega
  have hq : Hid (rr = (tm0, 5)) := Ld (by rw [HR.out, HVR.out (by rw [← HGN.out]; exact hg)]; rfl)
  have gR : ∀ i, w8.cell? ⟨R, i, none⟩ = [Value.int .i64 0, .string ⟨#[]⟩, .int .i64 0, .int .i64 0, .string ⟨#[]⟩, .slice none 0 0, .slice none 0 0][i]? := HR8.out.cell
  have fR : ∀ i, w8.frozen? ⟨R, i, none⟩ = false := HR8.out.frozen
  clear hg
  go_wp2_with fail
  exact bodyPost_ret (results_ct Tryz.results76 rfl (load_tm (t := tm0) (r7 HR8.out rfl))) rfl ⟨_, _, by rw [hq.out]; rfl, by rw [hq.out]; exact .nil (Or.inl rfl), by rw [hq.out]; exact .nil (Or.inl rfl), k7w K8.out (Or.inr (by have := HD.out; omega))⟩
 ·have hg' : ¬ (2000 : Int) < (GN : Int) := by omega
  clear hg
  have gX : ∀ i, w8.cell? ⟨X, i, none⟩ = [Value.map (some pm)][i]? := HX8.out.x.cell
  have gP : ∀ i, w8.cell? ⟨P, i, none⟩ = [Value.int .i64 t.op, .string t.name, .int .i64 t.n, .int .i64 t.ty.kind, .string t.ty.name, .slice a an ac, .slice ma mn mc][i]? := HP8.out.cell
  unfold tmVal at HSUB
  go_wp2_with fail
  clear gX gP gY hg'
  refine HSUB.out.mono ?_
  rintro e w9 ⟨tk, kk, rfl, hty5, htm5, k9⟩
  have HC := Ld (checked_any HR (B := w8.heap.size) k9.size (hty5.mono (ok' := fun q => w8.heap.size ≤ q ∧ q < w9.heap.size) (fun q hq h => ⟨h, hq⟩)) (htm5.mono (ok' := fun q => w8.heap.size ≤ q ∧ q < w9.heap.size) (fun q hq h => ⟨h, hq⟩)) HSMM.out)
  obtain ⟨pa, pn, pc, rfl⟩ := hty5.slice
  obtain ⟨qa, qn, qc, rfl⟩ := htm5.slice
  have HR9 := Ld (HR8.out.kept k9 (fun e => e))
  have HL8 := Ld HR8.out.lt
  have K9 := Ld (K8.out.trans k9)
  clear hty5 htm5 k9 HSUB HR8 HX8 HP8
  unfold TmB tmVal at HC
  unfold tmVal
  clear HR HVR
  go_wp2_with fail
  refine HC.out.mono ?_
  rintro e w6 ⟨tk, kk, rfl, hty6, htm6, k6⟩
  obtain ⟨pa, pn, pc, rfl⟩ := hty6.slice
  obtain ⟨qa, qn, qc, rfl⟩ := htm6.slice
  have HR10 := Ld (HR9.out.kept k6 (fun e => e))
  have K10 := Ld (K9.out.trans k6)
  have HTY := Ld hty6
  have HTM := Ld htm6
  clear hty6 htm6 k6 HC HR9 K9
  have gR : ∀ i, w6.cell? ⟨R, i, none⟩ = [Value.int .i64 0, .string ⟨#[]⟩, .int .i64 0, .int .i64 0, .string ⟨#[]⟩, .slice none 0 0, .slice none 0 0][i]? := HR10.out.cell
  have fR : ∀ i, w6.frozen? ⟨R, i, none⟩ = false := HR10.out.frozen
  go_wp2_with fail
  exact bodyPost_ret (results_ct Tryz.results76 rfl (load_tm (t := rr.1) (r7 HR10.out rfl))) rfl ⟨_, _, rfl, (HTY.out.frame (set7 (fun q hq => by have := HL8.out; omega))).mono (fun q _ hq => by have := HD.out; have := K8.out.size; omega), (HTM.out.frame (set7 (fun q hq => by have := HL8.out; omega))).mono (fun q _ hq => by have := HD.out; have := K8.out.size; omega), k7w K10.out (Or.inr (by have := HD.out; omega))⟩
def BnL (ok : Nat → Prop) (w : World) (l : List (ByteArray × Tm)) (v : Value) : Prop :=
 ∃ a n c, v = .slice a n c ∧ n = l.length ∧ n ≤ c ∧ (a = none → c = 0) ∧ ∀ i (h : i < l.length), ∃ g off ta tn tc ma mn mc, a = some ⟨g, off, none⟩ ∧ ok g ∧ g < w.heap.size ∧ w.cell? ⟨g, off + i * 8, none⟩ = some (.string l[i].1) ∧ C7 w g (off + i * 8 + 1) l[i].2 (.slice ta tn tc) (.slice ma mn mc) ∧ TyL ok w l[i].2.ty.kids (.slice ta tn tc) ∧ TmL ok w l[i].2.kids (.slice ma mn mc)
theorem BnL.nil {ok : Nat → Prop} {w : World} : BnL ok w [] (.slice none 0 0) := ⟨none, 0, 0, rfl, rfl, Nat.le_refl _, fun _ => rfl, fun i h => absurd h (Nat.not_lt_zero _)⟩
theorem BnL.frame {ok : Nat → Prop} {w W : World} {l : List (ByteArray × Tm)} {v : Value} (h : BnL ok w l v) (hs : Same ok w W) : BnL ok W l v := by
 obtain ⟨a, n, c, h1, h2, h3, h5, h4⟩ := h
 refine ⟨a, n, c, h1, h2, h3, h5, fun i hi => ?_⟩
 obtain ⟨g, off, ta, tn, tc, ma, mn, mc, e, hg, _, hc, h7, ht, hm⟩ := h4 i hi
 have hc' := hs.cell hg hc
 exact ⟨g, off, ta, tn, tc, ma, mn, mc, e, hg, cell_lt hc', hc', h7.same hs hg, ht.frame hs, hm.frame hs⟩
theorem BnL.mono {ok ok' : Nat → Prop} {w : World} {l : List (ByteArray × Tm)} {v : Value} (h : BnL ok w l v) (ho : ∀ k, k < w.heap.size → ok k → ok' k) : BnL ok' w l v := by
 obtain ⟨a, n, c, h1, h2, h3, h5, h4⟩ := h
 refine ⟨a, n, c, h1, h2, h3, h5, fun i hi => ?_⟩
 obtain ⟨g, off, ta, tn, tc, ma, mn, mc, e, hg, hl, hc, h7, ht, hm⟩ := h4 i hi
 exact ⟨g, off, ta, tn, tc, ma, mn, mc, e, ho _ hl hg, hl, hc, h7, ht.mono ho, hm.mono ho⟩
theorem BnL.slice {ok : Nat → Prop} {w : World} {l : List (ByteArray × Tm)} {v : Value} (h : BnL ok w l v) : ∃ a c, v = .slice a l.length c := by
 obtain ⟨a, n, c, h1, h2, _⟩ := h
 exact ⟨a, c, by rw [h1, h2]⟩
theorem BnL.at {ok : Nat → Prop} {w : World} {l : List (ByteArray × Tm)} {a : Option Addr} {n c : Nat} (h : BnL ok w l (.slice a n c)) (i : Nat) (hi : i < l.length) : ∃ g off ta tn tc ma mn mc, a = some ⟨g, off, none⟩ ∧ ok g ∧ g < w.heap.size ∧ w.cell? ⟨g, off + i * 8, none⟩ = some (.string l[i].1) ∧ C7 w g (off + i * 8 + 1) l[i].2 (.slice ta tn tc) (.slice ma mn mc) ∧ TyL ok w l[i].2.ty.kids (.slice ta tn tc) ∧ TmL ok w l[i].2.kids (.slice ma mn mc) := by
 obtain ⟨a', n', c', h1, h2, h3, h5, h4⟩ := h
 cases h1
 exact h4 i hi
theorem look_drop {l : List (ByteArray × Tm)} {s : ByteArray} {k : Nat} (h : k < l.length) : look (l.drop k) s = if l[k].1 = s then some l[k].2 else look (l.drop (k + 1)) s := by
 rw [List.drop_eq_getElem_cons h, look]
def BofP (ok : Nat → Prop) (r : Option Tm) (w : World) (e : Ending) (w' : World) : Prop := ∃ tk kk, e = .returned (.tuple #[tmVal (r.getD tm0) tk kk, .bool r.isSome]) ∧ TyL ok w' (r.getD tm0).ty.kids tk ∧ TmL ok w' (r.getD tm0).kids kk ∧ Kept (fun _ => False) w w'
theorem rbof_any {ok : Nat → Prop} {w : World} {l : List (ByteArray × Tm)} {v : Value} (s : ByteArray) (h : BnL ok w l v) (hn : l.length ≤ 1000000) :
  Calls Tryz.prog 130 #[v, .string s] w (BofP (fun q => ok q ∧ q < w.heap.size) (look l s) w) := by
 obtain ⟨a, c, rfl⟩ := h.slice
 have K0 : Kept (fun _ => False) w (w.alloc Z7) := (Kept.refl _ _).alloc _
 have bR : Blk (w.alloc Z7) w.heap.size 28 z27 := Blk.new w 28 z27
 have HAT := Ld (((h.mono (ok' := fun q => ok q ∧ q < w.heap.size) (fun q h1 h2 => ⟨h2, h1⟩)).frame (sK K0)).at)
 have HN := Ld hn
 have HK := Ld K0
 have BR := Ld bR
 clear h hn K0 bR
 go_enter Tryz.func130, Tryz.ntmps130
 go_wp2_with fail
 generalize w.alloc Z7 = w1 at *
 have gR : ∀ i, w1.cell? ⟨w.heap.size, i, none⟩ = [Value.int .i64 0, .string ⟨#[]⟩, .int .i64 0, .int .i64 0, .string ⟨#[]⟩, .slice none 0 0, .slice none 0 0][i]? := BR.out.cell
 have fR : ∀ i, w1.frozen? ⟨w.heap.size, i, none⟩ = false := BR.out.frozen
 go_loop [6] (fun i => ∃ k : Nat, k ≤ l.length ∧ i = .int .i64 k ∧ Hid (look l s = look (l.drop k) s)) (fun i => l.length - (intOf i).toNat)
 case atStart => exact ⟨0, Nat.zero_le _, rfl, Ld rfl⟩
 case round =>
  obtain ⟨k, hk, rfl, hq⟩ := hrel
  by_cases hlt : k < l.length
  ·have i1 : (k : Int) < (l.length : Int) := by omega
   have i2 : (k : Int) < 1000000 := by have := HN.out; omega
   obtain ⟨g, off, ta, tn, tc, ma, mn, mc, rfl, hg, lg, c0, ⟨d0, d1, d2, d3, d4, d5, d6⟩, hty, htm⟩ := HAT.out k hlt
   have HD := Ld (look_drop (s := s) hlt)
   have HTY := Ld hty
   have HTM := Ld htm
   clear hty htm
   cases hs : (l[k].1.toList == s.toList)
   ·have hne : Hid (l[k].1 ≠ s) := Ld (by intro e; rw [e] at hs; simp at hs)
    go_wp2_with fail
    go_round
    case rel => exact ⟨k + 1, by omega, by go_num, Ld (by rw [hq.out, HD.out, if_neg hne.out])⟩
    case measure => simp [intOf]; omega
   ·have hye : Hid (look l s = some l[k].2) := Ld (by
     have e : l[k].1 = s := by rw [nm_eq] at hs; exact of_decide_eq_true hs
     rw [hq.out, HD.out, if_pos e])
    go_wp2_with fail
    exact bodyPost_ret (results_ct Tryz.results130 rfl (load_tm (t := l[k].2) (r7 BR.out rfl))) rfl ⟨_, _, by rw [hye.out]; rfl, by rw [hye.out]; exact HTY.out.frame (set7 (fun q hq => by omega)), by rw [hye.out]; exact HTM.out.frame (set7 (fun q hq => by omega)), k7w HK.out (Or.inr (Nat.le_refl _))⟩
  ·have hkk : k = l.length := by omega
   subst hkk
   have HE : Hid (look l s = none) := Ld (by rw [hq.out, List.drop_length]; rfl)
   go_wp2_with fail
   exact bodyPost_ret (results_ct Tryz.results130 rfl (load_tm (t := tm0) (r7 BR.out rfl))) rfl ⟨_, _, by rw [HE.out]; rfl, by rw [HE.out]; exact .nil (Or.inl rfl), by rw [HE.out]; exact .nil (Or.inl rfl), k7w HK.out (Or.inr (Nat.le_refl _))⟩
def vB (b : ByteArray × Tm) : Bool := validB b.2
theorem bv1_any {ok : Nat → Prop} {w : World} {s : ByteArray} {t : Tm} {a : Option Addr} {n c : Nat} {ma : Option Addr} {mn mc : Nat} (hk : TyL ok w t.ty.kids (.slice a n c)) (hm : TmL ok w t.kids (.slice ma mn mc)) (hs : SmTm big t) :
  Calls Tryz.prog 75 #[.agg #[.string s, .int .i64 t.op, .string t.name, .int .i64 t.n, .int .i64 t.ty.kind, .string t.ty.name, .slice a n c, .slice ma mn mc]] w fun e w' => e = .returned (.bool (!validB t)) ∧ Kept (fun _ => False) w w' := by
 have hcon := Ld (valid_any (hk.frame (Same.alloc w (.cells #[.string s, .int .i64 t.op, .string t.name, .int .i64 t.n, .int .i64 t.ty.kind, .string t.ty.name, .slice a n c, .slice ma mn mc] 53))) (hm.frame (Same.alloc w (.cells #[.string s, .int .i64 t.op, .string t.name, .int .i64 t.n, .int .i64 t.ty.kind, .string t.ty.name, .slice a n c, .slice ma mn mc] 53))) hs)
 clear hk hm hs
 go_enter Tryz.func75, Tryz.ntmps75
 go_wp2_with fail
 refine hcon.out.mono ?_
 rintro e w' ⟨rfl, h⟩
 go_wp2_with fail
 go_ret
 exact ⟨rfl, ((Kept.refl _ _).alloc _).trans h⟩
theorem vb_drop {l : List (ByteArray × Tm)} {k : Nat} (h : k < l.length) : (l.drop k).all vB = (vB l[k] && (l.drop (k + 1)).all vB) := by
 rw [List.drop_eq_getElem_cons h, List.all_cons]
theorem bidx_any {ok : Nat → Prop} {l : List (ByteArray × Tm)} {a : Option Addr} {cp : Nat} {w : World} (hn1 : l.length ≤ 1000000) (hs : ∀ b, b ∈ l → SmTm big b.2) (hk : BnL ok w l (.slice a l.length cp)) :
  Calls Tryz.prog 126 #[.slice a l.length cp, .func (.func 75) #[] #[]] w fun e w' => ∃ i : Int, e = .returned (.int .i64 i) ∧ decide (0 ≤ i) = !(l.all vB) ∧ Kept (fun _ => False) w w' := by
 have HS := Ld hs
 have HN := Ld hn1
 have HAT := Ld (fun W (k : Kept (fun _ => False) w W) => (hk.frame (sK k)).at)
 clear hs hn1 hk
 go_enter Tryz.func126, Tryz.ntmps126
 go_wp2_with fail
 go_loopw [8] (fun i wr => ∃ k : Nat, k ≤ l.length ∧ i = .int .i64 k ∧ Kept (fun _ => False) w wr ∧ Hid (l.all vB = (l.drop k).all vB)) (fun i _ => l.length - (intOf i).toNat)
 case atStart => exact ⟨0, Nat.zero_le _, rfl, Kept.refl _ _, Ld rfl⟩
 case round =>
  obtain ⟨k, hkl, rfl, hkr, heq⟩ := hrel
  have HKR := Ld hkr
  clear hkr
  by_cases hlt : k < l.length
  ·have i1 : (k : Int) < (l.length : Int) := by omega
   have i2 : (k : Int) < 1000000 := by have := HN.out; omega
   obtain ⟨g, off, ta, tn, tc, ma, mn, mc, rfl, hg, lg, c0, ⟨d0, d1, d2, d3, d4, d5, d6⟩, hty, htm⟩ := HAT.out wr HKR.out k hlt
   have hst := Ld (vb_drop hlt)
   have hcon := Ld (bv1_any (s := l[k].1) hty htm (HS.out _ (List.getElem_mem hlt)))
   clear hty htm hg lg
   cases hr : validB l[k].2
   ·rw [hr] at hcon
    go_wp2_with (go_at_call 75; refine hcon.out.mono ?_; rintro e w' ⟨rfl, h1⟩)
    go_ret
    exact ⟨k, rfl, by rw [heq.out, hst.out]; unfold vB; rw [hr]; simp, HKR.out.trans h1⟩
   ·rw [hr] at hcon
    go_wp2_with (go_at_call 75; refine hcon.out.mono ?_; rintro e w' ⟨rfl, h1⟩)
    go_roundw
    case rel => exact ⟨k + 1, by omega, by go_num, HKR.out.trans h1, Ld (by rw [heq.out, hst.out]; unfold vB; rw [hr]; rfl)⟩
    case measure => simp [intOf]; omega
  ·have hz : Hid (l.all vB = true) := Ld (by rw [heq.out, List.drop_eq_nil_of_le (by omega)]; rfl)
   go_wp2_with fail
   go_ret
   exact ⟨-1, rfl, by rw [hz.out]; rfl, HKR.out⟩
theorem bcont_any {ok : Nat → Prop} {l : List (ByteArray × Tm)} {a : Option Addr} {cp : Nat} {w : World} (hn1 : l.length ≤ 1000000) (hs : ∀ b, b ∈ l → SmTm big b.2) (hk : BnL ok w l (.slice a l.length cp)) :
  Calls Tryz.prog 74 #[.slice a l.length cp, .func (.func 75) #[] #[]] w fun e w' => e = .returned (.bool (!(l.all vB))) ∧ Kept (fun _ => False) w w' := by
 have hcon := Ld (bidx_any hn1 hs hk)
 clear hs hk hn1
 go_enter Tryz.func74, Tryz.ntmps74
 go_wp2_with fail
 refine hcon.out.mono ?_
 rintro e w' ⟨i, rfl, hi, h1⟩
 go_wp2_with fail
 go_ret
 exact ⟨rfl, h1⟩
def sbstR (t : Tm) (l : List (ByteArray × Tm)) : Tm × Int := if validB t && l.all vB then ltdR t l else (tm0, 1)
theorem look_take {l : List (ByteArray × Tm)} {k : Nat} (h : k < l.length) (s : ByteArray) : look (l.take (k + 1)) s = (match look (l.take k) s with | some u => some u | none => if l[k].1 = s then some l[k].2 else none) := by
 have e : l.take (k + 1) = l.take k ++ [l[k]] := by rw [List.take_add_one, List.getElem?_eq_getElem h]; rfl
 rw [e, look_app]
 cases look (l.take k) s <;> rfl
theorem all_vb {l : List (ByteArray × Tm)} (h : l.all vB = true) {b : ByteArray × Tm} (hb : b ∈ l) : validB b.2 = true := List.all_eq_true.1 h b hb
theorem vb_okB {l : List (ByteArray × Tm)} (h : l.all vB = true) : OkB l := fun b hb => valid_ok (all_vb h hb)
theorem frB_le : ∀ {l : List (ByteArray × Tm)}, l.all vB = true → (frB l).length ≤ 2000 * l.length
 | [], _ => Nat.zero_le _
 | b :: l, h => by
  have h1 := (valid_iff _).1 (all_vb h (List.mem_cons_self ..))
  have h2 := frs_len b.2
  have h3 := frB_le (l := l) (by rw [List.all_cons, Bool.and_eq_true] at h; exact h.2)
  rw [frB, List.length_append, List.length_cons]
  omega
theorem vb_sg {l : List (ByteArray × Tm)} (h : l.all vB = true) : SgOk (look l) := by
 intro s u hu
 obtain ⟨b, hb, rfl⟩ := look_mem hu
 have h1 := (valid_iff _).1 (all_vb h hb)
 exact ⟨h1.1, h1.2.1, by omega⟩
theorem prv_new {ok : Nat → Prop} {w : World} {l : List (ByteArray × Tm)} {k : Nat} {f : ByteArray → Option Value} {ta pa : Option Addr} {tn tc pn pc : Nat} (h : k < l.length) (hv : PrV ok w (look (l.take k)) f) (hu : look (l.take k) l[k].1 = none) (h1 : TyL ok w l[k].2.ty.kids (.slice ta tn tc)) (h2 : TmL ok w l[k].2.kids (.slice pa pn pc)) :
  PrV ok w (look (l.take (k + 1))) (updF f l[k].1 (tmVal l[k].2 (.slice ta tn tc) (.slice pa pn pc))) := by
 intro s
 have h3 := hv s
 rw [look_take h s]
 unfold updF
 by_cases hs : s = l[k].1
 ·subst hs
  rw [hu]
  simp only [if_true]
  exact ⟨ta, tn, tc, pa, pn, pc, rfl, h1, h2⟩
 ·rw [if_neg hs]
  cases hq : look (l.take k) s with
  | none => rw [hq] at h3; rw [if_neg (fun e => hs e.symm)]; exact h3
  | some u => rw [hq] at h3; exact h3
theorem look_old {l : List (ByteArray × Tm)} {k : Nat} (h : k < l.length) {u : Tm} (hu : look (l.take k) l[k].1 = some u) : look (l.take (k + 1)) = look (l.take k) := by
 funext s
 rw [look_take h s]
 cases hq : look (l.take k) s with
 | some _ => rfl
 | none =>
  rw [if_neg]
  intro e
  rw [e, hq] at hu
  cases hu
structure SS (w : World) (ce : List Value) (M : Nat) (okb : Nat → Prop) (l : List (ByteArray × Tm)) (k : Nat) (W : World) : Prop where
 kp : Kept (fun _ => False) w W
 a : Blk W w.heap.size 28 ce
 r : Blk W (w.heap.size + 1) 28 z27
 m : PrM (fun q => okb q ∧ q < w.heap.size) W M k (look (l.take k))
 lm : w.heap.size + 2 ≤ M
theorem SS.kept {w W W' : World} {ce : List Value} {M k : Nat} {okb : Nat → Prop} {l : List (ByteArray × Tm)} (h : SS w ce M okb l k W) (q : Kept (fun _ => False) W W') : SS w ce M okb l k W' :=
 ⟨h.kp.trans q, h.a.kept q (fun e => e), h.r.kept q (fun e => e), h.m.kept q (fun e => e) (fun _ _ e => e), h.lm⟩
theorem subst_any {t : Tm} {l : List (ByteArray × Tm)} {ok okb : Nat → Prop} {w : World} {tk kk vl : Value} (h1 : TyL ok w t.ty.kids tk) (h2 : TmL ok w t.kids kk) (hs : SmTm big t) (hB : BnL okb w l vl) (hsb : ∀ b, b ∈ l → SmTm big b.2) (hnb : ∀ b, b ∈ l → b.1.size ≤ maxLen) (hn : l.length ≤ 200) (hp : P10 w) :
  Calls Tryz.prog 37 #[tmVal t tk kk, vl] w (TmB w.heap.size (sbstR t l) w) := by
 obtain ⟨p, n, c, rfl⟩ := h1.slice
 obtain ⟨ma, mn, mc, rfl⟩ := h2.slice
 obtain ⟨aa, ac, rfl⟩ := hB.slice
 have HV := Ld (fun W (k : Kept (fun _ => False) w W) => valid_any (h1.frame (sK k)) (h2.frame (sK k)) hs)
 have HC := Ld (fun W (k : Kept (fun _ => False) w W) => bcont_any (by omega : l.length ≤ 1000000) hsb (hB.frame (sK k)))
 have HAT := Ld (fun W (k : Kept (fun _ => False) w W) => ((hB.mono (ok' := fun q => okb q ∧ q < w.heap.size) (fun q h1 h2 => ⟨h2, h1⟩)).frame (sK k)).at)
 have HLT := Ld (fun (hv : validB t = true) (hall : l.all vB = true) W (m : Nat) (k : Kept (fun _ => False) w W) (hm : PrM (fun q => okb q ∧ q < w.heap.size) W m l.length (look (l.take l.length))) =>
  limited_any hv (fun _ => rfl) (vb_sg hall) ⟨vb_okB hall, by have := frB_le hall; omega⟩ (h1.frame (sK k)) (h2.frame (sK k)) (by rw [List.take_length] at hm; exact hm) (hp.kept k) hn)
 have HSZ := Ld (fun (k : Nat) (h : k < l.length) => hnb _ (List.getElem_mem h))
 have HN := Ld hn
 have HR : Hid (sbstR t l = if validB t && l.all vB then ltdR t l else (tm0, 1)) := Ld rfl
 generalize sbstR t l = rr at *
 clear h1 h2 hs hB hsb hnb hn hp
 have hmm := @run_makeMap Tryz.prog
 unfold tmVal
 have B0 : Hid (Blk ((w.alloc (.cells #[.int .i64 t.op, .string t.name, .int .i64 t.n, .int .i64 t.ty.kind, .string t.ty.name, .slice p n c, .slice ma mn mc] 28)).alloc Z7) w.heap.size 28 [Value.int .i64 t.op, .string t.name, .int .i64 t.n, .int .i64 t.ty.kind, .string t.ty.name, .slice p n c, .slice ma mn mc] ∧ Blk ((w.alloc (.cells #[.int .i64 t.op, .string t.name, .int .i64 t.n, .int .i64 t.ty.kind, .string t.ty.name, .slice p n c, .slice ma mn mc] 28)).alloc Z7) (w.heap.size + 1) 28 z27 ∧ Kept (fun _ => False) w ((w.alloc (.cells #[.int .i64 t.op, .string t.name, .int .i64 t.n, .int .i64 t.ty.kind, .string t.ty.name, .slice p n c, .slice ma mn mc] 28)).alloc Z7)) := Ld
  ⟨(Blk.new w 28 [Value.int .i64 t.op, .string t.name, .int .i64 t.n, .int .i64 t.ty.kind, .string t.ty.name, .slice p n c, .slice ma mn mc]).alloc _, Blk.new' 28 _ (by simp), ((Kept.refl _ _).alloc _).alloc _⟩
 go_enter Tryz.func37, Tryz.ntmps37
 go_upto_region 1 with (fail)
 generalize ((w.alloc (.cells #[.int .i64 t.op, .string t.name, .int .i64 t.n, .int .i64 t.ty.kind, .string t.ty.name, .slice p n c, .slice ma mn mc] 28)).alloc Z7) = w1 at *
 have gA : ∀ i, w1.cell? ⟨w.heap.size, i, none⟩ = [Value.int .i64 t.op, .string t.name, .int .i64 t.n, .int .i64 t.ty.kind, .string t.ty.name, .slice p n c, .slice ma mn mc][i]? := B0.out.1.cell
 have HV1 := Ld (HV.out w1 B0.out.2.2)
 cases hv : validB t
 ·rw [hv] at HV1
  have hq : Hid (rr = (tm0, 1)) := Ld (by rw [HR.out, hv]; rfl)
  clear HR HLT HC HAT hv HV
  go_wp2_with fail
  refine HV1.out.mono ?_
  rintro e w2 ⟨rfl, k2⟩
  have BR := Ld (B0.out.2.1.kept k2 (fun h => h))
  have KK := Ld (B0.out.2.2.trans k2)
  clear k2 B0 gA HV1
  have gR : ∀ i, w2.cell? ⟨w.heap.size + 1, i, none⟩ = [Value.int .i64 0, .string ⟨#[]⟩, .int .i64 0, .int .i64 0, .string ⟨#[]⟩, .slice none 0 0, .slice none 0 0][i]? := BR.out.cell
  have fR : ∀ i, w2.frozen? ⟨w.heap.size + 1, i, none⟩ = false := BR.out.frozen
  go_wp2_with fail
  exact bodyPost_ret (results_ct Tryz.results37 rfl (load_tm (t := tm0) (r7 BR.out rfl))) rfl ⟨_, _, by rw [hq.out]; rfl, by rw [hq.out]; exact .nil (Or.inl rfl), by rw [hq.out]; exact .nil (Or.inl rfl), k7w KK.out (Or.inr (Nat.le_succ _))⟩
 ·rw [hv] at HV1
  have HLT2 := Ld (HLT.out hv)
  have HR2 : Hid (rr = if l.all vB then ltdR t l else (tm0, 1)) := Ld (by rw [HR.out, hv]; rfl)
  clear HR HLT hv HV
  go_wp2_with fail
  refine HV1.out.mono ?_
  rintro e w2 ⟨rfl, k2⟩
  have BA := Ld (B0.out.1.kept k2 (fun h => h))
  have BR := Ld (B0.out.2.1.kept k2 (fun h => h))
  have KK := Ld (B0.out.2.2.trans k2)
  clear k2 B0 gA HV1
  have HC2 := Ld (HC.out w2 KK.out)
  clear HC
  go_wp2_with fail
  refine HC2.out.mono ?_
  rintro e w3 ⟨rfl, k3⟩
  have BA3 := Ld (BA.out.kept k3 (fun h => h))
  have BR3 := Ld (BR.out.kept k3 (fun h => h))
  have K3 := Ld (KK.out.trans k3)
  clear k3 KK BA BR HC2
  cases ha : l.all vB
  ·have hq : Hid (rr = (tm0, 1)) := Ld (by rw [HR2.out, ha]; rfl)
   have gR : ∀ i, w3.cell? ⟨w.heap.size + 1, i, none⟩ = [Value.int .i64 0, .string ⟨#[]⟩, .int .i64 0, .int .i64 0, .string ⟨#[]⟩, .slice none 0 0, .slice none 0 0][i]? := BR3.out.cell
   have fR : ∀ i, w3.frozen? ⟨w.heap.size + 1, i, none⟩ = false := BR3.out.frozen
   clear HR2 HLT2 HAT ha
   go_wp2_with fail
   exact bodyPost_ret (results_ct Tryz.results37 rfl (load_tm (t := tm0) (r7 BR3.out rfl))) rfl ⟨_, _, by rw [hq.out]; rfl, by rw [hq.out]; exact .nil (Or.inl rfl), by rw [hq.out]; exact .nil (Or.inl rfl), k7w K3.out (Or.inr (Nat.le_succ _))⟩
  ·have hq : Hid (rr = ltdR t l) := Ld (by rw [HR2.out, ha]; rfl)
   have HL := Ld (HLT2.out ha)
   clear HR2 HLT2 ha
   go_upto_region 4 with (fail)
   have S4 : Hid (SS w [Value.int .i64 t.op, .string t.name, .int .i64 t.n, .int .i64 t.ty.kind, .string t.ty.name, .slice p n c, .slice ma mn mc] w3.heap.size okb l 0 (w3.alloc (.map #[] 0))) := Ld (by
    have k : Kept (fun _ => False) w3 (w3.alloc (.map #[] 0)) := (Kept.refl _ _).alloc _
    exact ⟨K3.out.trans k, BA3.out.kept k (fun e => e), BR3.out.kept k (fun e => e), ⟨_, MapF.made w3, fun s => rfl⟩, by have := BR3.out.lt; omega⟩)
   generalize w3.alloc (.map #[] 0) = w4 at *
   generalize w3.heap.size = M at *
   clear BA3 BR3 K3 hmm
   go_wp2_with fail
   go_loopw [22] (fun i wr => ∃ k : Nat, k ≤ l.length ∧ i = .int .i64 k ∧ SS w [Value.int .i64 t.op, .string t.name, .int .i64 t.n, .int .i64 t.ty.kind, .string t.ty.name, .slice p n c, .slice ma mn mc] M okb l k wr) (fun i _ => l.length - (intOf i).toNat)
   case atStart => exact ⟨0, Nat.zero_le _, rfl, S4.out⟩
   case round =>
    obtain ⟨k, hk, rfl, hS⟩ := hrel
    have S := Ld hS
    clear hS S4
    by_cases hlt : k < l.length
    ·have i1 : (k : Int) < (l.length : Int) := by omega
     have i2 : (k : Int) < 1000000 := by have := HN.out; omega
     obtain ⟨g, off, ta, tn, tc, qa, qn, qc, rfl, hg, lg, c0, ⟨d0, d1, d2, d3, d4, d5, d6⟩, hty, htm⟩ := HAT.out wr S.out.kp k hlt
     have HTY := Ld hty
     have HTM := Ld htm
     clear hty htm hg lg
     go_upto_region 7 with (fail)
     clear c0 d0 d1 d2 d3 d4 d5 d6
     have K5 : Hid (Kept (fun _ => False) wr (wr.alloc (.cells #[.string l[k].1, .int .i64 l[k].2.op, .string l[k].2.name, .int .i64 l[k].2.n, .int .i64 l[k].2.ty.kind, .string l[k].2.ty.name, .slice ta tn tc, .slice qa qn qc] 53))) := Ld ((Kept.refl _ _).alloc _)
     have bK := Ld (Blk.new wr 53 [Value.string l[k].1, .int .i64 l[k].2.op, .string l[k].2.name, .int .i64 l[k].2.n, .int .i64 l[k].2.ty.kind, .string l[k].2.ty.name, .slice ta tn tc, .slice qa qn qc])
     change Hid (Blk (wr.alloc (.cells #[.string l[k].1, .int .i64 l[k].2.op, .string l[k].2.name, .int .i64 l[k].2.n, .int .i64 l[k].2.ty.kind, .string l[k].2.ty.name, .slice ta tn tc, .slice qa qn qc] 53)) wr.heap.size _ _) at bK
     have S5 := Ld (S.out.kept K5.out)
     have HTY5 := Ld (HTY.out.frame (sK K5.out))
     have HTM5 := Ld (HTM.out.frame (sK K5.out))
     generalize wr.alloc (.cells #[.string l[k].1, .int .i64 l[k].2.op, .string l[k].2.name, .int .i64 l[k].2.n, .int .i64 l[k].2.ty.kind, .string l[k].2.ty.name, .slice ta tn tc, .slice qa qn qc] 53) = w5 at *
     generalize wr.heap.size = Q at *
     clear K5 S HTY HTM
     obtain ⟨f, hM, hPV⟩ := S5.out.m
     have HM := Ld hM
     have HPV := Ld hPV
     have hlk := hM.look_ok Tryz.underlying85 (z28 w5) (HSZ.out k hlt)
     have gK : ∀ i, w5.cell? ⟨Q, i, none⟩ = [Value.string l[k].1, .int .i64 l[k].2.op, .string l[k].2.name, .int .i64 l[k].2.n, .int .i64 l[k].2.ty.kind, .string l[k].2.ty.name, .slice ta tn tc, .slice qa qn qc][i]? := bK.out.cell
     have hf := hPV l[k].1
     clear hM hPV
     cases hu : look (l.take k) l[k].1 with
     | some u =>
      rw [hu] at hf
      obtain ⟨ua, un, uc, va, vn, vc, hf, _, _⟩ := hf
      rw [hf] at hlk
      unfold tmVal at hlk
      simp only [Option.getD_some, Option.isSome_some] at hlk
      have HO := Ld (look_old hlt hu)
      clear hf hu
      go_wp2_with fail
      go_roundw
      case rel => exact ⟨k + 1, by omega, by go_num, by
       have S6 := S5.out.kept ((Kept.refl (fun _ => False) w5).alloc (.cells #[.int .i64 u.op, .string u.name, .int .i64 u.n, .int .i64 u.ty.kind, .string u.ty.name, .slice ua un uc, .slice va vn vc] 28))
       exact ⟨S6.kp, S6.a, S6.r, by obtain ⟨f, h1, h2⟩ := S6.m; rw [HO.out]; exact ⟨f, h1.mono (Nat.le_succ _), h2⟩, S6.lm⟩⟩
      case measure => simp [intOf]; omega
     | none =>
      rw [hu] at hf
      have hf : f l[k].1 = none := hf
      rw [hf] at hlk
      simp only [Option.getD_none, Option.isSome_none] at hlk
      have HNEW := Ld (prv_new hlt HPV.out hu HTY5.out HTM5.out)
      clear hf hu
      go_upto_region 8 with (fail)
      have K6 : Hid (Kept (fun _ => False) w5 (w5.alloc Z7)) := Ld ((Kept.refl _ _).alloc _)
      have S6 := Ld (S5.out.kept K6.out)
      have M6 := Ld (HM.out.kept K6.out (fun e => e))
      have bK6 := Ld (bK.out.kept K6.out (fun e => e))
      have HNEW6 := Ld (HNEW.out.frame (sK K6.out))
      generalize w5.alloc Z7 = w6 at *
      clear gK hlk HM bK HNEW S5 K6 HTY5 HTM5
      have gK : ∀ i, w6.cell? ⟨Q, i, none⟩ = [Value.string l[k].1, .int .i64 l[k].2.op, .string l[k].2.name, .int .i64 l[k].2.n, .int .i64 l[k].2.ty.kind, .string l[k].2.ty.name, .slice ta tn tc, .slice qa qn qc][i]? := bK6.out.cell
      have HKL : Hid (k < maxLen) := Ld (by have := HN.out; unfold maxLen; omega)
      go_wp2_with (at_mapUpdate; refine wpList_storeF rfl _ _ _ _ 28 rfl Tryz.underlying85 rfl M6.out l[k].1 rfl (HSZ.out k hlt) HKL.out (.agg #[.int .i64 l[k].2.op, .string l[k].2.name, .int .i64 l[k].2.n, .int .i64 l[k].2.ty.kind, .string l[k].2.ty.name, .slice ta tn tc, .slice qa qn qc]) rfl ?_; intro w7 hm7 k7; clear gK)
      go_roundw
      case rel => exact ⟨k + 1, by omega, by go_num, by
       have hl := S6.out.lm
       exact ⟨S6.out.kp.via1 k7 (fun x hx e => by omega), S6.out.a.kept k7 (fun e => by omega), S6.out.r.kept k7 (fun e => by omega), ⟨_, hm7, HNEW6.out.frame (Same.of_kept k7 (fun q hq e => by have := hq.2; omega))⟩, hl⟩⟩
      case measure => simp [intOf]; omega
    ·have hkk : k = l.length := by omega
     subst hkk
     have HL8 := Ld (HL.out wr M S.out.kp S.out.m)
     unfold tmVal at HL8
     have gA : ∀ i, wr.cell? ⟨w.heap.size, i, none⟩ = [Value.int .i64 t.op, .string t.name, .int .i64 t.n, .int .i64 t.ty.kind, .string t.ty.name, .slice p n c, .slice ma mn mc][i]? := S.out.a.cell
     generalize ltdR t l = ss at *
     obtain rfl : rr = ss := hq.out
     clear hq HL HAT
     go_wp2_with fail
     refine HL8.out.mono ?_
     rintro e w9 ⟨tk, kk, rfl, hty, htm, k9⟩
     obtain ⟨pa, pn, pc, rfl⟩ := hty.slice
     obtain ⟨qa, qn, qc, rfl⟩ := htm.slice
     have S9 := Ld (S.out.kept k9)
     have HLW := Ld S.out.r.lt
     have HTY := Ld hty
     have HTM := Ld htm
     clear hty htm k9 S HL8 gA
     have gR : ∀ i, w9.cell? ⟨w.heap.size + 1, i, none⟩ = [Value.int .i64 0, .string ⟨#[]⟩, .int .i64 0, .int .i64 0, .string ⟨#[]⟩, .slice none 0 0, .slice none 0 0][i]? := S9.out.r.cell
     have fR : ∀ i, w9.frozen? ⟨w.heap.size + 1, i, none⟩ = false := S9.out.r.frozen
     unfold tmVal
     go_wp2_with fail
     exact bodyPost_ret (results_ct Tryz.results37 rfl (load_tm (t := rr.1) (r7 S9.out.r rfl))) rfl ⟨_, _, rfl, (HTY.out.frame (set7 (fun q hq => by have := HLW.out; omega))).mono (fun q _ hq => by have := HLW.out; omega), (HTM.out.frame (set7 (fun q hq => by have := HLW.out; omega))).mono (fun q _ hq => by have := HLW.out; omega), k7w S9.out.kp (Or.inr (by omega))⟩
abbrev E4 := (ByteArray × Tm) × Value × Value
def bCells (e : E4) : List Value := .string e.1.1 :: tmCells e.1.2 e.2.1 e.2.2
def flatB : List E4 → List Value
 | [] => []
 | e :: E => bCells e ++ flatB E
def BEL (ok : Nat → Prop) (w : World) (E : List E4) : Prop := ∀ e ∈ E, TyL ok w e.1.2.ty.kids e.2.1 ∧ TmL ok w e.1.2.kids e.2.2
theorem flatB_app : ∀ (E F : List E4), flatB (E ++ F) = flatB E ++ flatB F
 | [], F => rfl
 | x :: E, F => by rw [List.cons_append, flatB, flatB_app E F, flatB, List.append_assoc]
theorem flatB_get : ∀ (E : List E4) (i j : Nat) (h : i < E.length), j < 8 → (flatB E)[i * 8 + j]? = (bCells E[i])[j]?
 | e :: E, 0, j, _, hj => by
  rw [flatB, Nat.zero_mul, Nat.zero_add, List.getElem?_append_left (by show j < 8; exact hj)]; rfl
 | e :: E, i + 1, j, h, hj => by
  rw [flatB, List.getElem?_append_right (by show 8 ≤ _; omega)]
  have := flatB_get E i j (by simpa using h) hj
  rw [show (i + 1) * 8 + j - (bCells e).length = i * 8 + j by show (i + 1) * 8 + j - 8 = _; omega, this]
  rfl
theorem BEL.frame {ok : Nat → Prop} {w w' : World} {E : List E4} (h : BEL ok w E) (hs : Same ok w w') : BEL ok w' E := fun e he => ⟨(h e he).1.frame hs, (h e he).2.frame hs⟩
theorem BEL.snoc {ok : Nat → Prop} {w : World} {E : List E4} {e : E4} (h : BEL ok w E) (ha : TyL ok w e.1.2.ty.kids e.2.1) (hc : TmL ok w e.1.2.kids e.2.2) : BEL ok w (E ++ [e]) := by
 intro x hx
 rcases List.mem_append.1 hx with hx | hx
 ·exact h x hx
 ·rw [List.mem_singleton.1 hx]; exact ⟨ha, hc⟩
theorem bnl_of_row {ok : Nat → Prop} {w : World} {base : Nat} {v : Value} {E : List E4} (hown : w.ownsRow base 53 8 v E.length (flatB E)) (hl : BEL ok w E) (hok : ∀ g, v.ownBlock = some g → ok g) : BnL ok w (E.map (·.1)) v := by
 rcases hown.2 with ⟨rfl, hn⟩ | ⟨g, cap, cur, rfl, hbg, hg, hnc, hcm, hcs, htake⟩
 ·have : E = [] := List.length_eq_zero_iff.1 hn
  subst this; exact .nil
 ·have hb : Blk w g 53 cur.toList := by show w.heap[g]? = _; rw [hg]
  have hc : ∀ i j, i < E.length → j < 8 → w.cell? ⟨g, 0 + i * 8 + j, none⟩ = (flatB E)[i * 8 + j]? := by
   intro i j hi hj
   rw [hb.cell, ← htake, List.getElem?_take, if_pos (by omega), Nat.zero_add]
  refine ⟨some ⟨g, 0, none⟩, E.length, cap, rfl, by simp, by omega, (fun e => by cases e), fun i hi => ?_⟩
  have hi' : i < E.length := by simpa using hi
  have e1 : (E.map (·.1))[i] = E[i].1 := List.getElem_map ..
  obtain ⟨ta, tn, tc, hT⟩ := (hl _ (List.getElem_mem hi')).1.slice
  obtain ⟨ma, mn, mc, hM⟩ := (hl _ (List.getElem_mem hi')).2.slice
  have q : ∀ j (hj : j < 8), w.cell? ⟨g, 0 + i * 8 + j, none⟩ = (bCells E[i])[j]? := fun j hj => (hc i j hi' hj).trans (flatB_get E i j hi' hj)
  rw [e1]
  refine ⟨g, 0, ta, tn, tc, ma, mn, mc, rfl, hok g rfl, hb.lt, q 0 (by omega), ⟨?_, ?_, ?_, ?_, ?_, ?_, ?_⟩, by rw [← hT]; exact (hl _ (List.getElem_mem hi')).1, by rw [← hM]; exact (hl _ (List.getElem_mem hi')).2⟩
  ·exact q 1 (by omega)
  ·exact q 2 (by omega)
  ·exact q 3 (by omega)
  ·exact q 4 (by omega)
  ·exact q 5 (by omega)
  ·rw [← hT]; exact q 6 (by omega)
  ·rw [← hM]; exact q 7 (by omega)
structure RowB (ok : Nat → Prop) (w : World) (base : Nat) (wr : World) (E : List E4) (v : Value) : Prop where
 kp : Kept (fun _ => False) w wr
 own : wr.ownsRow base 53 8 v E.length (flatB E)
 el : BEL ok wr E
 lo : ∀ q, ok q → q < base
theorem RowB.nil {ok : Nat → Prop} {w wr : World} {base : Nat} (k : Kept (fun _ => False) w wr) (lo : ∀ q, ok q → q < base) : RowB ok w base wr [] (.slice none 0 0) := ⟨k, World.ownsRow_nil _ _ _ _, (fun e he => by cases he), lo⟩
theorem RowB.kept {ok : Nat → Prop} {w wr w' : World} {base : Nat} {E : List E4} {v : Value} (h : RowB ok w base wr E v) (k : Kept (fun _ => False) wr w') : RowB ok w base w' E v :=
 ⟨h.kp.trans k, own_keptT h.own k (fun _ _ h => h), h.el.frame (sK k), h.lo⟩
theorem BEL.mono {ok ok' : Nat → Prop} {w : World} {E : List E4} (h : BEL ok w E) (ho : ∀ k, k < w.heap.size → ok k → ok' k) : BEL ok' w E := fun e he => ⟨(h e he).1.mono ho, (h e he).2.mono ho⟩
theorem RowB.bnl {ok : Nat → Prop} {w wr : World} {base : Nat} {E : List E4} {v : Value} (h : RowB ok w base wr E v) : BnL (fun q => ok q ∨ base ≤ q) wr (E.map (·.1)) v :=
 bnl_of_row h.own (h.el.mono (fun _ _ h => .inl h)) (fun g hg => .inr (World.ownsRow.lt h.own g hg).1)
theorem RowB.app1 {ok : Nat → Prop} {w wr w6 W8 : World} {base : Nat} {E : List E4} {v v' : Value} {e : E4} (hb : w.heap.size ≤ base) (h : RowB ok w base wr E v) (k6 : Kept (fun _ => False) wr w6) (ht : TyL ok w6 e.1.2.ty.kids e.2.1) (hm : TmL ok w6 e.1.2.kids e.2.2)
  (own8 : W8.ownsRow base 53 8 v' (E.length + 1) (flatB E ++ bCells e)) (hgrow : w6.grownBy W8 v.ownBlock) : RowB ok w base W8 (E ++ [e]) v' := by
 have kG := kept_grown1 hgrow
 have hvb : ∀ x, v.ownBlock = some x → base ≤ x := fun x e => (World.ownsRow.lt h.own x e).1
 refine ⟨(h.kp.trans k6).via1 kG (fun x hx e => by have := hvb x e; omega), ?_, ?_, h.lo⟩
 ·rw [flatB_app, List.length_append]
  show W8.ownsRow base 53 8 v' (E.length + 1) (flatB E ++ (bCells e ++ []))
  rw [List.append_nil]; exact own8
 ·exact ((h.el.frame (sK k6)).snoc ht hm).frame (Same.of_kept kG (fun q hq e => by have := hvb q e; have := h.lo q hq; omega))
theorem info_bd : ∃ i, Tryz.prog.info? 53 = some i ∧ i.zero = some (.agg #[.string ⟨#[]⟩, .int .i64 0, .string ⟨#[]⟩, .int .i64 0, .int .i64 0, .string ⟨#[]⟩, .slice none 0 0, .slice none 0 0]) ∧ i.size = 8 ∧ i.bytes = 120 := by
 have : (Tryz.prog.info? 53).map (fun i => (i.zero, i.size, i.bytes)) = some (some (.agg #[.string ⟨#[]⟩, .int .i64 0, .string ⟨#[]⟩, .int .i64 0, .int .i64 0, .string ⟨#[]⟩, .slice none 0 0, .slice none 0 0]), 8, 120) := by kernel_rfl
 cases hh : Tryz.prog.info? 53 with
 | none => rw [hh] at this; cases this
 | some i => rw [hh] at this; simp only [Option.map_some, Option.some.injEq, Prod.mk.injEq] at this; exact ⟨i, rfl, this.1, this.2.1, this.2.2⟩
theorem oneB {s : ByteArray} {u : Tm} {a d : Option Addr} {n c e f : Nat} : ∀ x, x ∈ bCells ((s, u), .slice a n c, .slice d e f) → x.oneCell' = true := by
 intro x hx
 rcases List.mem_cons.1 hx with rfl | hx
 ·rfl
 ·exact oneT x hx
theorem frLs_drop {B : List ByteArray} {bi : Bool} {nm : ByteArray} {l : List Tm} {k : Nat} (h : k < l.length) : frLs B bi nm k (l.drop k) = frL (if bi && k == 1 then B ++ [nm] else B) l[k] ++ frLs B bi nm (k + 1) (l.drop (k + 1)) := by
 rw [List.drop_eq_getElem_cons h, frLs]
theorem frL_len : ∀ (t : Tm) (B : List ByteArray), (frL B t).length ≤ tmN t := by
 intro t
 induction t using Tm.rec (motive_2 := fun l => ∀ (B : List ByteArray) (bi : Bool) (nm : ByteArray) (i : Nat), (frLs B bi nm i l).length ≤ tmNs l) with
 | mk op nm N ty l ih =>
  intro B
  rw [frL, tmN]
  split
  ·split <;> simp
  ·have := ih B (binderB op) nm 0; omega
 | nil => exact Nat.le_refl _
 | cons t l iht ihl =>
  rename_i B bi nm i
  rw [frLs, List.length_append, tmNs]
  have h1 := iht (if bi && i == 1 then B ++ [nm] else B)
  have h2 := ihl B bi nm (i + 1)
  omega
theorem own_name {w : World} {base g : Nat} {s : ByteArray} (hb : Blk w g 9 [.string s]) (hg : base ≤ g) : w.ownsRow base 9 1 (.slice (some ⟨g, 0, none⟩) 1 1) [s].length ([s].map Value.string) :=
 ⟨rfl, .inr ⟨g, 1, _, rfl, hg, hb, Nat.le_refl _, by unfold maxLen; omega, rfl, rfl⟩⟩
def RFrC (t : Tm) : Prop := ∀ (B : List ByteArray) (w : World) (ok okB : Nat → Prop) (tk kk v : Value), TyL ok w t.ty.kids tk → TmL ok w t.kids kk → NmL okB w B v → B.length + tmD t ≤ 900000 → tmN t ≤ 700000 →
 Calls Tryz.prog 88 #[tmVal t tk kk, v] w fun e w' => ∃ v', e = .returned v' ∧ NRow w w.heap.size w' (frL B t) v'
theorem rfree_name {nm : ByteArray} {N : Int} {ty : Ty} {l : List Tm} : RFrC (.mk 20 nm N ty l) := by
 intro B w ok okB tk kk v h1 h2 hB hd hz
 have h1 : TyL ok w ty.kids tk := h1
 have h2 : TmL ok w l kk := h2
 obtain ⟨a, n, c, rfl⟩ := h1.slice
 obtain ⟨ma, mn, mc, rfl⟩ := h2.slice
 change Calls Tryz.prog 88 #[.agg #[.int .i64 20, .string nm, .int .i64 N, .int .i64 ty.kind, .string ty.name, .slice a n c, .slice ma mn mc], v] w _
 have K1 : Kept (fun _ => False) w (w.alloc (.cells #[.int .i64 20, .string nm, .int .i64 N, .int .i64 ty.kind, .string ty.name, .slice a n c, .slice ma mn mc] 28)) := (Kept.refl _ _).alloc _
 have HI := Ld (rinN_any nm (hB.frame (sK K1)) (by omega))
 have HK := Ld K1
 have HR : Hid (frL B (.mk 20 nm N ty l) = if mb nm B then [] else [nm]) := Ld (by rw [frL, if_pos rfl])
 clear h1 h2 hB hd hz K1
 generalize frL B (.mk 20 nm N ty l) = r at *
 go_enter Tryz.func88, Tryz.ntmps88
 go_wp2_with fail
 have bA := Ld (Blk.new w 28 [.int .i64 20, .string nm, .int .i64 N, .int .i64 ty.kind, .string ty.name, .slice a n c, .slice ma mn mc])
 change Hid (Blk (w.alloc (.cells #[.int .i64 20, .string nm, .int .i64 N, .int .i64 ty.kind, .string ty.name, .slice a n c, .slice ma mn mc] 28)) _ _ _) at bA
 generalize w.alloc (.cells #[.int .i64 20, .string nm, .int .i64 N, .int .i64 ty.kind, .string ty.name, .slice a n c, .slice ma mn mc] 28) = w1 at *
 refine HI.out.mono ?_
 rintro e w2 ⟨rfl, rfl⟩
 cases hm : mb nm B
 ·have hq : Hid (r = [nm]) := Ld (by rw [HR.out, hm]; rfl)
  have gA := bA.out.cell
  clear hm HI
  go_wp2_with fail
  go_ret
  exact ⟨_, rfl, by rw [hq.out]; exact ⟨HK.out.alloc _, own_name (Blk.new w1 9 [.string nm]) HK.out.size⟩⟩
 ·have hq : Hid (r = []) := Ld (by rw [HR.out, hm]; rfl)
  clear hm HI
  go_wp2_with fail
  go_ret
  exact ⟨_, rfl, by rw [hq.out]; exact ⟨HK.out, World.ownsRow_nil _ _ _ _⟩⟩
theorem rfree_one {op : Int} {nm : ByteArray} {N : Int} {ty : Ty} {l : List Tm} (hop : op ≠ 20) (IH : ∀ u, u ∈ l → RFrC u) (hn : l.length ≤ 1000000) : RFrC (.mk op nm N ty l) := by
 intro B w ok okB tk kk v h1 h2 hB hd hz
 have h1 : TyL ok w ty.kids tk := h1
 have h2 : TmL ok w l kk := h2
 obtain ⟨a, n, c, rfl⟩ := h1.slice
 obtain ⟨ma, mn, mc, rfl⟩ := h2.slice
 obtain ⟨ba, bc, rfl⟩ := hB.slice
 obtain rfl : mn = l.length := h2.len
 change Calls Tryz.prog 88 #[.agg #[.int .i64 op, .string nm, .int .i64 N, .int .i64 ty.kind, .string ty.name, .slice a n c, .slice ma l.length mc], .slice ba B.length bc] w _
 have K1 : Kept (fun _ => False) w (w.alloc (.cells #[.int .i64 op, .string nm, .int .i64 N, .int .i64 ty.kind, .string ty.name, .slice a n c, .slice ma l.length mc] 28)) := (Kept.refl _ _).alloc _
 have hop2 : (op == 20) = false := by simp [hop]
 have bA := Ld (Blk.new w 28 [.int .i64 op, .string nm, .int .i64 N, .int .i64 ty.kind, .string ty.name, .slice a n c, .slice ma l.length mc])
 have HR : Hid (frL B (.mk op nm N ty l) = frLs B (binderB op) nm 0 l) := Ld (by rw [frL, if_neg hop])
 rw [tmD] at hd
 rw [tmN] at hz
 have HD := Ld hd
 have HZ0 := Ld hz
 have HN := Ld hn
 have HAT := Ld (fun W (k : Kept (fun _ => False) w W) => (h2.frame (sK k)).at)
 have HBF := Ld (fun W (k : Kept (fun _ => False) w W) => hB.frame (sK k))
 have HIH := Ld IH
 have HK := Ld K1
 clear h1 h2 hB hd hz K1 IH hn hop
 have hRL : Hid ((frL B (.mk op nm N ty l)).length ≤ 700000) := Ld (by have h1 := frL_len (.mk op nm N ty l) B; rw [tmN] at h1; have := HZ0.out; omega)
 generalize frL B (.mk op nm N ty l) = r at *
 go_enter Tryz.func88, Tryz.ntmps88
 go_wp2_with fail
 change Hid (Blk (w.alloc (.cells #[.int .i64 op, .string nm, .int .i64 N, .int .i64 ty.kind, .string ty.name, .slice a n c, .slice ma l.length mc] 28)) _ _ _) at bA
 generalize w.alloc (.cells #[.int .i64 op, .string nm, .int .i64 N, .int .i64 ty.kind, .string ty.name, .slice a n c, .slice ma l.length mc] 28) = w1 at *
 go_loopw [5, 6, 7] (fun v i b wr => ∃ (k : Nat) (out : List ByteArray), k ≤ l.length ∧ i = .int .i64 k ∧ NRow w w.heap.size wr out v ∧ Hid (Blk wr w.heap.size 28 [.int .i64 op, .string nm, .int .i64 N, .int .i64 ty.kind, .string ty.name, .slice a n c, .slice ma l.length mc] ∧ r = out ++ frLs B (binderB op) nm k (l.drop k) ∧ v.ownBlock ≠ some w.heap.size)) (fun v i b _ => l.length - (intOf i).toNat)
 case atStart => exact ⟨0, [], Nat.zero_le _, rfl, ⟨HK.out, World.ownsRow_nil _ _ _ _⟩, Ld ⟨bA.out, HR.out, fun e => by cases e⟩⟩
 case round =>
  obtain ⟨k, out, hkl, rfl, hR, hq⟩ := hrel
  obtain ⟨va, vc, hv⟩ := hR.nml.slice
  subst hv
  have R := Ld hR
  clear hR
  have gA := hq.out.1.cell
  by_cases hlt : k < l.length
  ·have i1 : (k : Int) < (l.length : Int) := by omega
   have i2 : (k : Int) < 1000000 := by have := HN.out; omega
   obtain ⟨g, off, ta, tn, tc, qa, qn, qc, rfl, _, lg, ⟨c0, c1, c2, c3, c4, c5, c6⟩, hty, htm⟩ := HAT.out wr R.out.kp k hlt
   have HD2 := Ld (frLs_drop (B := B) (bi := binderB op) (nm := nm) hlt)
   have HBD : Hid (∀ B' : List ByteArray, B'.length ≤ B.length + 1 → B'.length + tmD l[k] ≤ 900000) := Ld (fun B' hb' => by
    have h1 := tmDs_mem (List.getElem_mem hlt)
    have h2 := HD.out
    omega)
   have HZ1 : Hid (tmN l[k] ≤ 700000) := Ld (by
    have h1 := (tmD_kid (List.getElem_mem hlt)).2
    have h2 := HZ0.out
    omega)
   obtain ⟨i9, hi9, hz9, hs9, hb9⟩ := info_str
   have HI9 := Ld hi9
   have HZ9 := Ld hz9
   have HS9 := Ld hs9
   have HB9 := Ld hb9
   have HKF := Ld (fun (B' : List ByteArray) (v' : Value) (ok3 : Nat → Prop) W (kW : Kept (fun _ => False) wr W) (hb' : B'.length ≤ B.length + 1) (hB' : NmL ok3 W B' v') => (HIH.out _ (List.getElem_mem hlt)) B' W ok ok3 _ _ _ (hty.frame (sK kW)) (htm.frame (sK kW)) hB' (HBD.out _ hb') HZ1.out)
   unfold tmVal at HKF
   have RW := Ld (fun W (kW : Kept (fun _ => False) wr W) => (⟨R.out.kp.trans kW, own_keptT R.out.own kW (fun _ _ h => h)⟩ : NRow w w.heap.size W out (.slice va out.length vc)))
   have hbx : Hid (∀ W, Kept (fun _ => False) wr W → Blk W w.heap.size 28 [.int .i64 op, .string nm, .int .i64 N, .int .i64 ty.kind, .string ty.name, .slice a n c, .slice (some ⟨g, off, none⟩) l.length mc]) := Ld (fun W kW => hq.out.1.kept kW (fun h => h))
   clear hty htm hi9 hz9 hs9 hb9 HBD HZ1
   go_wp2_with fail
   cases hbi : binderB op
   ·have hBI : Hid ((if binderB op && k == 1 then B ++ [nm] else B) = B) := Ld (by rw [hbi]; rfl)
    refine (rbinder_t hbi _).mono ?_
    rintro e w4 ⟨rfl, rfl⟩
    clear hbi
    have KWW : Kept (fun _ => False) wr wr := Kept.refl _ _
    skip
    go_wp2_with fail
    refine (HKF.out B _ _ wr (Kept.refl _ _) (Nat.le_succ _) (HBF.out wr R.out.kp)).mono ?_
    rintro e w6 ⟨v3, rfl, h3⟩
    obtain ⟨xa, xc, hv3⟩ := h3.nml.slice
    subst hv3
    have K6 := (KWW).trans h3.kp
    have R6 := Ld (RW.out w6 K6)
    have B6 := Ld (hbx.out w6 K6)
    have S3 := Ld h3.nml.src
    have hz6 := (frL_len l[k] (B))
    have HLEN : Hid (out.length + (frL (B) l[k]).length ≤ 700000) := Ld (by
     have h5 := hRL.out
     rw [hq.out.2.1, HD2.out, hBI.out, List.length_append, List.length_append] at h5
     omega)
    have hEQ : Hid (r = (out ++ frL (B) l[k]) ++ frLs B (binderB op) nm (k + 1) (l.drop (k + 1))) := Ld (by rw [hq.out.2.1, HD2.out, hBI.out, List.append_assoc])
    have hOB := hq.out.2.2
    have zw6 := R6.out.kp.size
    clear h3 K6 hz6 gA
    go_wp2_with (at_builtin; refine wpList_app_src rfl (.tmp 37) (.tmp 44) _ rfl w.heap.size 9 i9 _ 1 16 Tryz.underlying41 HI9.out HZ9.out HS9.out HB9.out rfl (by decide) (.slice va out.length vc) out.length (out.map Value.string) rfl R6.out.own (.slice xa (frL (B) l[k]).length xc) (frL (B) l[k]).length ((frL (B) l[k]).map Value.string) rfl S3.out (by simp) (strs_one _) ?_ ?_ zw6 ?_)
    ·have := HLEN.out; unfold maxLen; omega
    ·have := HLEN.out; omega
    intro v7 w7 own7 hg7 hat7
    have R7 := Ld (NRow.app R6.out (Nat.le_refl _) own7 hg7)
    have B7 := Ld (B6.out.kept (kept_grown1 hg7) (fun e => hOB e))
    have hO7 : Hid (v7.ownBlock ≠ some w.heap.size) := Ld (by
     have lb := B6.out.lt
     rcases hat7 with h | h
     ·rw [h]; exact hOB
     ·rw [h]; intro e; have := Option.some.inj e; omega)
    clear own7 hg7 hat7 hOB zw6
    go_wp2_with fail
    go_roundw
    case rel => exact ⟨k + 1, _, by omega, by go_num, R7.out, Ld ⟨B7.out, hEQ.out, hO7.out⟩⟩
    case measure => simp [intOf]; omega
   ·cases hk1 : ((k : Int) == 1)
    ·have hBI : Hid ((if binderB op && k == 1 then B ++ [nm] else B) = B) := Ld (by
      have : (k == 1) = false := by simp at hk1; simp; omega
      rw [this]; simp)
     refine (rbinder_t hbi _).mono ?_
     rintro e w4 ⟨rfl, rfl⟩
     clear hbi
     have KWW : Kept (fun _ => False) wr wr := Kept.refl _ _
     skip
     go_wp2_with fail
     refine (HKF.out B _ _ wr (Kept.refl _ _) (Nat.le_succ _) (HBF.out wr R.out.kp)).mono ?_
     rintro e w6 ⟨v3, rfl, h3⟩
     obtain ⟨xa, xc, hv3⟩ := h3.nml.slice
     subst hv3
     have K6 := (KWW).trans h3.kp
     have R6 := Ld (RW.out w6 K6)
     have B6 := Ld (hbx.out w6 K6)
     have S3 := Ld h3.nml.src
     have hz6 := (frL_len l[k] (B))
     have HLEN : Hid (out.length + (frL (B) l[k]).length ≤ 700000) := Ld (by
      have h5 := hRL.out
      rw [hq.out.2.1, HD2.out, hBI.out, List.length_append, List.length_append] at h5
      omega)
     have hEQ : Hid (r = (out ++ frL (B) l[k]) ++ frLs B (binderB op) nm (k + 1) (l.drop (k + 1))) := Ld (by rw [hq.out.2.1, HD2.out, hBI.out, List.append_assoc])
     have hOB := hq.out.2.2
     have zw6 := R6.out.kp.size
     clear h3 K6 hz6 gA
     go_wp2_with (at_builtin; refine wpList_app_src rfl (.tmp 37) (.tmp 44) _ rfl w.heap.size 9 i9 _ 1 16 Tryz.underlying41 HI9.out HZ9.out HS9.out HB9.out rfl (by decide) (.slice va out.length vc) out.length (out.map Value.string) rfl R6.out.own (.slice xa (frL (B) l[k]).length xc) (frL (B) l[k]).length ((frL (B) l[k]).map Value.string) rfl S3.out (by simp) (strs_one _) ?_ ?_ zw6 ?_)
     ·have := HLEN.out; unfold maxLen; omega
     ·have := HLEN.out; omega
     intro v7 w7 own7 hg7 hat7
     have R7 := Ld (NRow.app R6.out (Nat.le_refl _) own7 hg7)
     have B7 := Ld (B6.out.kept (kept_grown1 hg7) (fun e => hOB e))
     have hO7 : Hid (v7.ownBlock ≠ some w.heap.size) := Ld (by
      have lb := B6.out.lt
      rcases hat7 with h | h
      ·rw [h]; exact hOB
      ·rw [h]; intro e; have := Option.some.inj e; omega)
     clear own7 hg7 hat7 hOB zw6
     go_wp2_with fail
     go_roundw
     case rel => exact ⟨k + 1, _, by omega, by go_num, R7.out, Ld ⟨B7.out, hEQ.out, hO7.out⟩⟩
     case measure => simp [intOf]; omega
    ·have hBI : Hid ((if binderB op && k == 1 then B ++ [nm] else B) = B ++ [nm]) := Ld (by
      have : (k == 1) = true := by simp at hk1; simp; omega
      rw [this, hbi]; rfl)
     refine (rbinder_t hbi _).mono ?_
     rintro e w4 ⟨rfl, rfl⟩
     clear hbi
     have HW := Ld (rwith_any nm (HBF.out wr R.out.kp) (by have := HD.out; omega))
     go_wp2_with fail
     refine HW.out.mono ?_
     rintro e w5 ⟨v5, rfl, h5⟩
     obtain ⟨ya, yc, hv5⟩ := h5.nml.slice
     rw [List.length_append, List.length_singleton] at hv5
     subst hv5
     have KWW : Kept (fun _ => False) wr w5 := h5.kp
     have HN5 := Ld h5.nml
     have gA5 := (hbx.out w5 KWW).cell
     have C5 : C7 w5 g (off + k * 7) l[k] (.slice ta tn tc) (.slice qa qn qc) := C7.kept ⟨c0, c1, c2, c3, c4, c5, c6⟩ KWW (fun h => h)
     obtain ⟨d0, d1, d2, d3, d4, d5, d6⟩ := C5
     clear h5 HW gA c0 c1 c2 c3 c4 c5 c6
     have gA := gA5
     clear gA5
     skip
     go_wp2_with fail
     refine (HKF.out (B ++ [nm]) _ _ w5 KWW (by simp) HN5.out).mono ?_
     rintro e w6 ⟨v3, rfl, h3⟩
     obtain ⟨xa, xc, hv3⟩ := h3.nml.slice
     subst hv3
     have K6 := (KWW).trans h3.kp
     have R6 := Ld (RW.out w6 K6)
     have B6 := Ld (hbx.out w6 K6)
     have S3 := Ld h3.nml.src
     have hz6 := (frL_len l[k] (B ++ [nm]))
     have HLEN : Hid (out.length + (frL (B ++ [nm]) l[k]).length ≤ 700000) := Ld (by
      have h5 := hRL.out
      rw [hq.out.2.1, HD2.out, hBI.out, List.length_append, List.length_append] at h5
      omega)
     have hEQ : Hid (r = (out ++ frL (B ++ [nm]) l[k]) ++ frLs B (binderB op) nm (k + 1) (l.drop (k + 1))) := Ld (by rw [hq.out.2.1, HD2.out, hBI.out, List.append_assoc])
     have hOB := hq.out.2.2
     have zw6 := R6.out.kp.size
     clear h3 K6 hz6 gA
     go_wp2_with (at_builtin; refine wpList_app_src rfl (.tmp 37) (.tmp 44) _ rfl w.heap.size 9 i9 _ 1 16 Tryz.underlying41 HI9.out HZ9.out HS9.out HB9.out rfl (by decide) (.slice va out.length vc) out.length (out.map Value.string) rfl R6.out.own (.slice xa (frL (B ++ [nm]) l[k]).length xc) (frL (B ++ [nm]) l[k]).length ((frL (B ++ [nm]) l[k]).map Value.string) rfl S3.out (by simp) (strs_one _) ?_ ?_ zw6 ?_)
     ·have := HLEN.out; unfold maxLen; omega
     ·have := HLEN.out; omega
     intro v7 w7 own7 hg7 hat7
     have R7 := Ld (NRow.app R6.out (Nat.le_refl _) own7 hg7)
     have B7 := Ld (B6.out.kept (kept_grown1 hg7) (fun e => hOB e))
     have hO7 : Hid (v7.ownBlock ≠ some w.heap.size) := Ld (by
      have lb := B6.out.lt
      rcases hat7 with h | h
      ·rw [h]; exact hOB
      ·rw [h]; intro e; have := Option.some.inj e; omega)
     clear own7 hg7 hat7 hOB zw6
     go_wp2_with fail
     go_roundw
     case rel => exact ⟨k + 1, _, by omega, by go_num, R7.out, Ld ⟨B7.out, hEQ.out, hO7.out⟩⟩
     case measure => simp [intOf]; omega
  ·have hkk : k = l.length := by omega
   subst hkk
   have HE : Hid (r = out) := Ld (by rw [hq.out.2.1, List.drop_length]; simp [frLs])
   go_wp2_with fail
   go_ret
   exact ⟨_, rfl, by rw [HE.out]; exact R.out⟩
theorem rfree_any {t : Tm} (hb : BdTm t) : RFrC t := by
 induction hb with
 | mk hn ht hl ih =>
  rename_i o n i t l
  by_cases h : o = 20
  ·subst h; exact rfree_name
  ·exact rfree_one h ih hn
theorem frL_nil (t : Tm) : frL [] t = fr t := by
 rw [frL_eq]
 exact List.filter_eq_self.2 (fun s _ => rfl)
theorem remG_drop {x : ByteArray} {F : List ByteArray} {out l : List (ByteArray × Tm)} {k : Nat} (h : k < l.length) : remG x F out (l.drop k) = if (look out l[k].1).isSome || decide (l[k].1 = x) || !mb l[k].1 F then remG x F out (l.drop (k + 1)) else remG x F (out ++ [l[k]]) (l.drop (k + 1)) := by
 rw [List.drop_eq_getElem_cons h, remG]
theorem rrem_any {l : List (ByteArray × Tm)} {x : ByteArray} {body : Tm} {ok ok' : Nat → Prop} {w : World} {vl tk kk : Value} (hB : BnL ok w l vl) (hn : l.length ≤ 100000) (h1 : TyL ok' w body.ty.kids tk) (h2 : TmL ok' w body.kids kk) (hb : BdTm body) (hd : tmD body ≤ 900000) (hz : tmN body ≤ 700000) :
  Calls Tryz.prog 131 #[vl, .string x, tmVal body tk kk] w fun e w' => ∃ E v, e = .returned v ∧ RowB (fun q => ok q ∧ q < w.heap.size) w (w.heap.size + 1) w' E v ∧ E.map (·.1) = remL l x (fr body) := by
 obtain ⟨a, c, rfl⟩ := hB.slice
 obtain ⟨p, n, cp, rfl⟩ := h1.slice
 obtain ⟨ma, mn, mc, rfl⟩ := h2.slice
 have K0 : Kept (fun _ => False) w (w.alloc (.cells #[.int .i64 body.op, .string body.name, .int .i64 body.n, .int .i64 body.ty.kind, .string body.ty.name, .slice p n cp, .slice ma mn mc] 28)) := (Kept.refl _ _).alloc _
 have z0 : w.heap.size + 1 ≤ (w.alloc (.cells #[.int .i64 body.op, .string body.name, .int .i64 body.n, .int .i64 body.ty.kind, .string body.ty.name, .slice p n cp, .slice ma mn mc] 28)).heap.size := by simp
 have HF := Ld (rfree_any hb [] _ _ (fun _ => True) _ _ _ (h1.frame (sK K0)) (h2.frame (sK K0)) .nil (by simpa using hd) hz)
 rw [frL_nil] at HF
 have HFL : Hid ((fr body).length ≤ 700000) := Ld (by have h5 := frL_len body []; rw [frL_nil] at h5; omega)
 have HAT := Ld (fun W (k : Kept (fun _ => False) w W) => ((hB.mono (ok' := fun q => ok q ∧ q < w.heap.size) (fun q h1 h2 => ⟨h2, h1⟩)).frame (sK k)).at)
 have HN := Ld hn
 have HK := Ld K0
 have HZ := Ld z0
 clear hB hn h1 h2 hb hd hz K0 z0
 unfold tmVal at HF ⊢
 have HRL : Hid (remL l x (fr body) = remG x (fr body) [] l) := Ld rfl
 generalize remL l x (fr body) = rr at *
 generalize fr body = F at *
 go_enter Tryz.func131, Tryz.ntmps131
 go_wp2_with fail
 generalize w.alloc (.cells #[.int .i64 body.op, .string body.name, .int .i64 body.n, .int .i64 body.ty.kind, .string body.ty.name, .slice p n cp, .slice ma mn mc] 28) = w1 at *
 refine HF.out.mono ?_
 rintro e w2 ⟨v7, rfl, h7⟩
 obtain ⟨fa, fc, hv7⟩ := h7.nml.slice
 subst hv7
 have K2 := HK.out.trans h7.kp
 have HIN := Ld (fun W (k : Kept (fun _ => False) w2 W) (s : ByteArray) => rinN_any s (h7.nml.frame (sK k)) (by have := HFL.out; omega))
 have HK2 := Ld K2
 have hz2 : Hid (w.heap.size + 1 ≤ w2.heap.size) := Ld (Nat.le_trans HZ.out h7.kp.size)
 clear h7 K2 HF HK HZ
 go_wp2_with fail
 go_loopw [8, 9, 10, 11] (fun v i q b wr => ∃ (k : Nat) (E : List E4), k ≤ l.length ∧ i = .int .i64 k ∧ RowB (fun q => ok q ∧ q < w.heap.size) w2 w2.heap.size wr E v ∧ Hid (rr = remG x F (E.map (·.1)) (l.drop k) ∧ E.length ≤ k)) (fun v i q b _ => l.length - (intOf i).toNat)
 case atStart => exact ⟨0, [], Nat.zero_le _, rfl, RowB.nil (Kept.refl _ _) (fun q hq => by have := hz2.out; omega), Ld ⟨HRL.out, Nat.le_refl _⟩⟩
 case round =>
  obtain ⟨k, E, hkl, rfl, hR, hq⟩ := hrel
  obtain ⟨va, vc, hv⟩ := hR.bnl.slice
  rw [List.length_map] at hv
  subst hv
  have R := Ld hR
  clear hR
  by_cases hlt : k < l.length
  ·have i1 : (k : Int) < (l.length : Int) := by omega
   have i2 : (k : Int) < 1000000 := by have := HN.out; omega
   obtain ⟨g, off, ta, tn, tc, qa, qn, qc, rfl, hg, lg, c0, C0, hty, htm⟩ := HAT.out wr (HK2.out.trans R.out.kp) k hlt
   have HD := Ld (remG_drop (x := x) (F := F) (out := E.map (·.1)) hlt)
   have hlen : (E.map (·.1)).length ≤ 1000000 := by rw [List.length_map]; have := hq.out.2; have := HN.out; omega
   have HBO := Ld (rbof_any l[k].1 R.out.bnl hlen)
   rw [List.length_map] at hlen
   have HTY := Ld (fun W (kW : Kept (fun _ => False) wr W) => hty.frame (sK kW))
   have HTM := Ld (fun W (kW : Kept (fun _ => False) wr W) => htm.frame (sK kW))
   have HC7 := Ld (fun W (kW : Kept (fun _ => False) wr W) => C0.kept kW (fun h => h))
   have HC0 := Ld (fun W (kW : Kept (fun _ => False) wr W) => (by rw [kW.cell (p := ⟨g, off + k * 8, none⟩) (cell_lt c0) (fun h => h)]; exact c0 : W.cell? ⟨g, off + k * 8, none⟩ = some (.string l[k].1)))
   have HSK : Hid (((look (E.map (·.1)) l[k].1).isSome || decide (l[k].1 = x) || !mb l[k].1 F) = true → rr = remG x F (E.map (·.1)) (l.drop (k + 1))) := Ld (fun h => by rw [hq.out.1, HD.out, if_pos h])
   have HAD : Hid (((look (E.map (·.1)) l[k].1).isSome || decide (l[k].1 = x) || !mb l[k].1 F) = false → rr = remG x F (E.map (·.1) ++ [l[k]]) (l.drop (k + 1))) := Ld (fun h => by rw [hq.out.1, HD.out, if_neg (by rw [h]; simp)])
   clear hty htm C0
   unfold BofP tmVal at HBO
   generalize (look (E.map (·.1)) l[k].1).getD tm0 = o at *
   generalize (look (E.map (·.1)) l[k].1).isSome = b0 at *
   go_wp2_with fail
   refine HBO.out.mono ?_
   rintro e w5 ⟨otk, okk, rfl, ht5, hm5, k5⟩
   obtain ⟨ua, un, uc, rfl⟩ := ht5.slice
   obtain ⟨ya, yn, yc, rfl⟩ := hm5.slice
   clear ht5 hm5 HBO c0
   go_upto_region 7 with (fail)
   have K6 : Kept (fun _ => False) wr (w5.alloc (.cells #[.int .i64 o.op, .string o.name, .int .i64 o.n, .int .i64 o.ty.kind, .string o.ty.name, .slice ua un uc, .slice ya yn yc] 28)) := k5.alloc _
   generalize w5.alloc (.cells #[.int .i64 o.op, .string o.name, .int .i64 o.n, .int .i64 o.ty.kind, .string o.ty.name, .slice ua un uc, .slice ya yn yc] 28) = w6 at *
   have R6 := Ld (R.out.kept K6)
   have d0 := HC0.out w6 K6
   obtain ⟨e0, e1, e2, e3, e4, e5, e6⟩ := HC7.out w6 K6
   have T6 := Ld (HTY.out w6 K6)
   have M6 := Ld (HTM.out w6 K6)
   have HI6 := Ld (HIN.out w6 R6.out.kp l[k].1)
   clear k5 K6 R HTY HTM HC7 HC0
   cases b0
   ·cases hs : (l[k].1.toList == x.toList)
    ·have hne : decide (l[k].1 = x) = false := by rw [nm_eq] at hs; exact hs
     go_wp2_with fail
     refine HI6.out.mono ?_
     rintro e w7 ⟨rfl, rfl⟩
     cases hm : mb l[k].1 F
     ·have HSK2 : Hid (rr = remG x F (E.map (·.1)) (l.drop (k + 1))) := Ld (HSK.out (by rw [hne, hm]; rfl))
      clear HSK HAD hm hne
      go_wp2_with fail
      go_roundw
      case rel => exact ⟨k + 1, E, by omega, by go_num, R6.out, Ld ⟨HSK2.out, by have := hq.out.2; omega⟩⟩
      case measure => simp [intOf]; omega
     ·have HAD2 : Hid (rr = remG x F ((E ++ [((l[k], Value.slice ta tn tc, Value.slice qa qn qc) : E4)]).map (fun e => e.1)) (l.drop (k + 1))) := Ld (by rw [List.map_append]; exact HAD.out (by rw [hne, hm]; rfl))
      clear HSK HAD hm hne
      obtain ⟨i53, hi, hz, hsz, hby⟩ := info_bd
      have HI := Ld hi
      have HZ := Ld hz
      have HS := Ld hsz
      have HB := Ld hby
      have zw := R6.out.kp.size
      have HEL : Hid (E.length ≤ 100000) := Ld (by have := hq.out.2; have := HN.out; omega)
      clear hi hz hsz hby
      go_wp2_with (at_builtin; refine wpList_app_src rfl (.tmp 50) (.tmp 55) _ rfl w2.heap.size 53 i53 _ 8 120 Tryz.underlying48 HI.out HZ.out HS.out HB.out rfl (by decide) (.slice va E.length vc) E.length (flatB E) rfl (own_keptT R6.out.own ((Kept.refl (fun _ => False) w6).alloc (.cells (bCells (l[k], .slice ta tn tc, .slice qa qn qc)).toArray 53)) (fun _ _ h => h)) (.slice (some ⟨w6.heap.size, 0, none⟩) 1 1) 1 (bCells (l[k], .slice ta tn tc, .slice qa qn qc)) rfl (.inr ⟨_, _, rfl, newsT (Blk.new w6 53 (bCells (l[k], .slice ta tn tc, .slice qa qn qc)))⟩) rfl oneB ?_ ?_ ?_ ?_)
      ·have := HEL.out; unfold maxLen; omega
      ·have := HEL.out; omega
      ·simp; omega
      intro v8 w8 own8 hg8 hat8
      have R8 := Ld (RowB.app1 (e := (l[k], .slice ta tn tc, .slice qa qn qc)) (Nat.le_refl _) R6.out ((Kept.refl (fun _ => False) w6).alloc (.cells (bCells (l[k], .slice ta tn tc, .slice qa qn qc)).toArray 53)) (T6.out.frame (Same.alloc _ _)) (M6.out.frame (Same.alloc _ _)) own8 hg8)
      clear own8 hg8 hat8 zw
      go_wp2_with fail
      go_roundw
      case rel => exact ⟨k + 1, _, by omega, by go_num, R8.out, Ld ⟨HAD2.out, by have := hq.out.2; simp; omega⟩⟩
      case measure => simp [intOf]; omega
    ·have HSK2 : Hid (rr = remG x F (E.map (·.1)) (l.drop (k + 1))) := Ld (HSK.out (by rw [nm_eq] at hs; rw [hs]; rfl))
     clear HSK HAD
     go_wp2_with fail
     go_roundw
     case rel => exact ⟨k + 1, E, by omega, by go_num, R6.out, Ld ⟨HSK2.out, by have := hq.out.2; omega⟩⟩
     case measure => simp [intOf]; omega
   ·have HSK2 : Hid (rr = remG x F (E.map (·.1)) (l.drop (k + 1))) := Ld (HSK.out rfl)
    clear HSK HAD
    go_wp2_with fail
    go_roundw
    case rel => exact ⟨k + 1, E, by omega, by go_num, R6.out, Ld ⟨HSK2.out, by have := hq.out.2; omega⟩⟩
    case measure => simp [intOf]; omega
  ·have hkk : k = l.length := by omega
   subst hkk
   have HE : Hid (E.map (·.1) = rr) := Ld (by rw [hq.out.1, List.drop_length, remG])
   go_wp2_with fail
   go_ret
   exact ⟨E, _, rfl, ⟨HK2.out.trans R.out.kp, own_base R.out.own (fun g hg => by have := (World.ownsRow.lt R.out.own g hg).1; have := hz2.out; omega), R.out.el, fun q hq => by omega⟩, HE.out⟩
theorem rcopy_put {t : Tm} (hb : BdTm t) {w : World} {ok : Nat → Prop} {tk kk : Value} (h1 : TyL ok w t.ty.kids tk) (h2 : TmL ok w t.kids kk) : Calls Tryz.prog 42 #[tmVal t tk kk] w (PutP t w) :=
 (rcopy_any hb w ok tk kk h1 h2).mono fun e w' ⟨v, E, k, h, h3, h4, h5⟩ => ⟨v, k, h, h3.mono (fun q _ hq => hq.1), by rw [← h5]; exact h4.tml, h4.kp⟩
def FitB (l : List (ByteArray × Tm)) (t : Tm) (M : Nat) : Prop := ∀ (x : ByteArray) (F : List ByteArray), (∀ s, mb s F = true → s ≠ x → mb s (fr t) = true) → (frB (remL l x F)).length ≤ M
def RSuC (t : Tm) : Prop := ∀ (l : List (ByteArray × Tm)) (M : Nat) (w : World) (ok okb : Nat → Prop) (tk kk vl : Value), TyL ok w t.ty.kids tk → TmL ok w t.kids kk → BnL okb w l vl → (∀ b ∈ l, BdTm b.2 ∧ tmD b.2 ≤ 900000 ∧ tmN b.2 ≤ 700000) → l.length + tmD t ≤ 100000 → FitB l t M → M + tmN t ≤ 700000 →
 Calls Tryz.prog 78 #[tmVal t tk kk, vl] w (PutP (subT freshS t l) w)
theorem rsub_name {nm : ByteArray} {N : Int} {ty : Ty} {ks : List Tm} (hb : BdTm (.mk 20 nm N ty ks)) : RSuC (.mk 20 nm N ty ks) := by
 intro l M w ok okb tk kk vl h1 h2 hB hbl hn _ _
 have h1 : TyL ok w ty.kids tk := h1
 have h2 : TmL ok w ks kk := h2
 obtain ⟨a, n, c, rfl⟩ := h1.slice
 obtain ⟨ma, mn, mc, rfl⟩ := h2.slice
 obtain ⟨la, lc, rfl⟩ := hB.slice
 change Calls Tryz.prog 78 #[.agg #[.int .i64 20, .string nm, .int .i64 N, .int .i64 ty.kind, .string ty.name, .slice a n c, .slice ma mn mc], .slice la l.length lc] w _
 have B0 : Hid (Blk ((w.alloc (.cells #[.int .i64 20, .string nm, .int .i64 N, .int .i64 ty.kind, .string ty.name, .slice a n c, .slice ma mn mc] 28)).alloc Z7) w.heap.size 28 [.int .i64 20, .string nm, .int .i64 N, .int .i64 ty.kind, .string ty.name, .slice a n c, .slice ma mn mc] ∧ Blk ((w.alloc (.cells #[.int .i64 20, .string nm, .int .i64 N, .int .i64 ty.kind, .string ty.name, .slice a n c, .slice ma mn mc] 28)).alloc Z7) (w.heap.size + 1) 28 z27 ∧ Kept (fun _ => False) w ((w.alloc (.cells #[.int .i64 20, .string nm, .int .i64 N, .int .i64 ty.kind, .string ty.name, .slice a n c, .slice ma mn mc] 28)).alloc Z7)) := Ld
  ⟨(Blk.new w 28 _).alloc _, Blk.new' 28 _ (by simp), ((Kept.refl _ _).alloc _).alloc _⟩
 have HBO := Ld (fun W (k : Kept (fun _ => False) w W) => rbof_any nm (hB.frame (sK k)) (by omega))
 have HCT := Ld (fun W (k : Kept (fun _ => False) w W) => rcopy_put hb (w := W) (show TyL ok W ty.kids _ from h1.frame (sK k)) (show TmL ok W ks _ from h2.frame (sK k)))
 change Hid (∀ W, Kept (fun _ => False) w W → Calls Tryz.prog 42 #[.agg #[.int .i64 20, .string nm, .int .i64 N, .int .i64 ty.kind, .string ty.name, .slice a n c, .slice ma mn mc]] W _) at HCT
 have HRE : Hid (subT freshS (.mk 20 nm N ty ks) l = if (look l nm).isSome then (look l nm).getD tm0 else .mk 20 nm N ty ks) := Ld (by rw [subT, if_pos rfl]; cases look l nm <;> rfl)
 have HBD : Hid ((look l nm).isSome = true → BdTm ((look l nm).getD tm0)) := Ld (fun h => by
  have key : ∀ (l : List (ByteArray × Tm)), (∀ b ∈ l, BdTm b.2) → (look l nm).isSome = true → BdTm ((look l nm).getD tm0) := by
   intro l
   induction l with
   | nil => intro _ h; cases h
   | cons b l ih =>
    intro hb' h
    rw [look] at h ⊢
    by_cases e : b.1 = nm
    ·rw [if_pos e]; exact hb' b (by simp)
    ·rw [if_neg e] at h ⊢; exact ih (fun b hb => hb' b (List.mem_cons_of_mem _ hb)) h
  exact key l (fun b hb => (hbl b hb).1) h)
 clear h1 h2 hB hbl hn hb
 unfold BofP tmVal at HBO
 unfold PutP tmVal at HCT
 generalize subT freshS (.mk 20 nm N ty ks) l = res at *
 generalize (look l nm).getD tm0 = r at *
 generalize (look l nm).isSome = b at *
 go_enter Tryz.func78, Tryz.ntmps78
 go_wp2_with fail
 generalize ((w.alloc (.cells #[.int .i64 20, .string nm, .int .i64 N, .int .i64 ty.kind, .string ty.name, .slice a n c, .slice ma mn mc] 28)).alloc Z7) = w1 at *
 refine (HBO.out w1 B0.out.2.2).mono ?_
 rintro e w3 ⟨otk, okk, rfl, hty, htm, k3⟩
 obtain ⟨ua, un, uc, rfl⟩ := hty.slice
 obtain ⟨va, vn, vc, rfl⟩ := htm.slice
 have BA3 := Ld (B0.out.1.kept k3 (fun h => h))
 have BR3 := Ld (B0.out.2.1.kept k3 (fun h => h))
 have KK3 := Ld (B0.out.2.2.trans k3)
 have HTY := Ld hty
 have HTM := Ld htm
 clear hty htm k3 B0 HBO
 go_upto_region 3 with (fail)
 have KK4 := Ld (KK3.out.alloc (.cells #[.int .i64 r.op, .string r.name, .int .i64 r.n, .int .i64 r.ty.kind, .string r.ty.name, .slice ua un uc, .slice va vn vc] 28))
 have BA4 := Ld (BA3.out.alloc (.cells #[.int .i64 r.op, .string r.name, .int .i64 r.n, .int .i64 r.ty.kind, .string r.ty.name, .slice ua un uc, .slice va vn vc] 28))
 have BR4 := Ld (BR3.out.alloc (.cells #[.int .i64 r.op, .string r.name, .int .i64 r.n, .int .i64 r.ty.kind, .string r.ty.name, .slice ua un uc, .slice va vn vc] 28))
 have BN4 := Ld (Blk.new w3 28 [.int .i64 r.op, .string r.name, .int .i64 r.n, .int .i64 r.ty.kind, .string r.ty.name, .slice ua un uc, .slice va vn vc])
 change Hid (Blk (w3.alloc (.cells #[.int .i64 r.op, .string r.name, .int .i64 r.n, .int .i64 r.ty.kind, .string r.ty.name, .slice ua un uc, .slice va vn vc] 28)) _ _ _) at BN4
 have HCR := Ld (fun (hb : BdTm r) => rcopy_put hb (w := w3.alloc (.cells #[.int .i64 r.op, .string r.name, .int .i64 r.n, .int .i64 r.ty.kind, .string r.ty.name, .slice ua un uc, .slice va vn vc] 28)) (HTY.out.frame (Same.alloc _ _)) (HTM.out.frame (Same.alloc _ _)))
 unfold PutP tmVal at HCR
 clear KK3 BA3 BR3 HTY HTM
 generalize w3.alloc (.cells #[.int .i64 r.op, .string r.name, .int .i64 r.n, .int .i64 r.ty.kind, .string r.ty.name, .slice ua un uc, .slice va vn vc] 28) = w4 at *
 cases b
 ·have hres : Hid (res = .mk 20 nm N ty ks) := Ld (by rw [HRE.out]; rfl)
  have HC := Ld (HCT.out w4 KK4.out)
  have gA : ∀ i, w4.cell? ⟨w.heap.size, i, none⟩ = [Value.int .i64 20, .string nm, .int .i64 N, .int .i64 ty.kind, .string ty.name, .slice a n c, .slice ma mn mc][i]? := BA4.out.cell
  clear HRE HBD HCT HCR BN4
  go_wp2_with fail
  clear gA
  refine HC.out.mono ?_
  rintro e w5 ⟨tk, kk, rfl, hty5, htm5, k5⟩
  obtain ⟨pa, pn, pc, rfl⟩ := hty5.slice
  obtain ⟨qa, qn, qc, rfl⟩ := htm5.slice
  have lw4 := BR4.out.lt
  have BR5 := Ld (BR4.out.kept k5 (fun h => h))
  have KK5 := Ld (KK4.out.trans k5)
  have HTY := Ld hty5
  have HTM := Ld htm5
  clear hty5 htm5 k5 BR4 KK4 HC BA4
  have gR : ∀ i, w5.cell? ⟨w.heap.size + 1, i, none⟩ = [Value.int .i64 0, .string ⟨#[]⟩, .int .i64 0, .int .i64 0, .string ⟨#[]⟩, .slice none 0 0, .slice none 0 0][i]? := BR5.out.cell
  have fR : ∀ i, w5.frozen? ⟨w.heap.size + 1, i, none⟩ = false := BR5.out.frozen
  go_wp2_with fail
  exact bodyPost_ret (results_one Tryz.results78 rfl (load_tm (t := .mk 20 nm N ty ks) (r7 BR5.out rfl))) rfl ⟨_, _, by rw [hres.out], by rw [hres.out]; exact (HTY.out.frame (set7 (fun q hq => by omega))).mono (fun q _ hq => by omega), by rw [hres.out]; exact (HTM.out.frame (set7 (fun q hq => by omega))).mono (fun q _ hq => by omega), k7w KK5.out (Or.inr (Nat.le_succ _))⟩
 ·have hres : Hid (res = r) := Ld (by rw [HRE.out]; rfl)
  have HC := Ld (HCR.out (HBD.out rfl))
  have gN : ∀ i, w4.cell? ⟨w3.heap.size, i, none⟩ = [Value.int .i64 r.op, .string r.name, .int .i64 r.n, .int .i64 r.ty.kind, .string r.ty.name, .slice ua un uc, .slice va vn vc][i]? := BN4.out.cell
  clear HRE HBD HCT HCR BA4
  go_wp2_with fail
  clear gN
  refine HC.out.mono ?_
  rintro e w5 ⟨tk, kk, rfl, hty5, htm5, k5⟩
  obtain ⟨pa, pn, pc, rfl⟩ := hty5.slice
  obtain ⟨qa, qn, qc, rfl⟩ := htm5.slice
  have lw4 := BR4.out.lt
  have BR5 := Ld (BR4.out.kept k5 (fun h => h))
  have KK5 := Ld (KK4.out.trans k5)
  have HTY := Ld hty5
  have HTM := Ld htm5
  clear hty5 htm5 k5 BR4 KK4 HC BN4
  have gR : ∀ i, w5.cell? ⟨w.heap.size + 1, i, none⟩ = [Value.int .i64 0, .string ⟨#[]⟩, .int .i64 0, .int .i64 0, .string ⟨#[]⟩, .slice none 0 0, .slice none 0 0][i]? := BR5.out.cell
  have fR : ∀ i, w5.frozen? ⟨w.heap.size + 1, i, none⟩ = false := BR5.out.frozen
  go_wp2_with fail
  exact bodyPost_ret (results_one Tryz.results78 rfl (load_tm (t := r) (r7 BR5.out rfl))) rfl ⟨_, _, by rw [hres.out], by rw [hres.out]; exact (HTY.out.frame (set7 (fun q hq => by omega))).mono (fun q _ hq => by omega), by rw [hres.out]; exact (HTM.out.frame (set7 (fun q hq => by omega))).mono (fun q _ hq => by omega), k7w KK5.out (Or.inr (Nat.le_succ _))⟩
theorem remG_frB (x : ByteArray) (F : List ByteArray) : ∀ (l out : List (ByteArray × Tm)), (frB (remG x F out l)).length ≤ (frB out).length + (frB l).length ∧ (remG x F out l).length ≤ out.length + l.length
 | [], out => ⟨Nat.le_refl _, Nat.le_refl _⟩
 | b :: l, out => by
  rw [remG, frB, List.length_append, List.length_cons]
  split
  ·have := remG_frB x F l out; omega
  ·have := remG_frB x F l (out ++ [b])
   rw [frB_app, List.length_append, frB, List.length_append, List.length_append, List.length_singleton] at this
   simp only [frB, List.length_nil] at this
   omega
theorem remL_count (l : List (ByteArray × Tm)) (x : ByteArray) (F : List ByteArray) : (remL l x F).length ≤ l.length := by
 have := (remG_frB x F l []).2; unfold remL; simpa using this
theorem remL_frB (l : List (ByteArray × Tm)) (x : ByteArray) (F : List ByteArray) : (frB (remL l x F)).length ≤ (frB l).length := by
 have := (remG_frB x F l []).1; unfold remL; simpa [frB] using this
theorem fr_bind {op : Int} {nm : ByteArray} {N : Int} {ty : Ty} {d y : Tm} (hop : op ≠ 20) (hb : binderB op = true) : fr (.mk op nm N ty [d, y]) = fr d ++ (fr y).filter (fun s => !decide (s = nm)) := by
 rw [fr, if_neg hop, hb, frs, frs, frs, List.append_nil]; rfl
theorem FitB.dom {l : List (ByteArray × Tm)} {op : Int} {nm : ByteArray} {N : Int} {ty : Ty} {d y : Tm} {M : Nat} (hop : op ≠ 20) (hb : binderB op = true) (h : FitB l (.mk op nm N ty [d, y]) M) : FitB l d M :=
 fun x F hF => h x F (fun s hs hx => by rw [fr_bind hop hb, mb_app, hF s hs hx]; rfl)
theorem FitB.rem {l : List (ByteArray × Tm)} {op : Int} {nm : ByteArray} {N : Int} {ty : Ty} {d y : Tm} {M : Nat} (hop : op ≠ 20) (hb : binderB op = true) (h : FitB l (.mk op nm N ty [d, y]) M) : (frB (remL l nm (fr y))).length ≤ M :=
 h nm (fr y) (fun s hs hx => by
  rw [fr_bind hop hb, mb_app]
  have : mb s ((fr y).filter (fun s => !decide (s = nm))) = true := (mb_iff _ _).2 (List.mem_filter.2 ⟨(mb_iff _ _).1 hs, by simp [hx]⟩)
  rw [this]; simp)
theorem inner_frB (nm : ByteArray) (y : Tm) (l : List (ByteArray × Tm)) : (frB (inner freshS nm y l)).length ≤ (frB (remL l nm (fr y))).length + 1 ∧ (inner freshS nm y l).length ≤ l.length + 1 := by
 have h := remL_count l nm (fr y)
 unfold inner
 split
 ·rw [frB_app, List.length_append, List.length_append, List.length_singleton, frB, fr_nameT]
  simp only [frB, List.append_nil, List.length_singleton]
  omega
 ·omega
theorem FitB.inn {l : List (ByteArray × Tm)} {op : Int} {nm : ByteArray} {N : Int} {ty : Ty} {d y : Tm} {M : Nat} (hop : op ≠ 20) (hb : binderB op = true) (h : FitB l (.mk op nm N ty [d, y]) M) : FitB (inner freshS nm y l) y (M + 1) :=
 fun x F _ => by
  have h1 := remL_frB (inner freshS nm y l) x F
  have h2 := (inner_frB nm y l).1
  have h3 := FitB.rem hop hb h
  omega
theorem bd_nameT (z : ByteArray) : BdTm (nameT z) := .mk (by decide) (.mk (by decide) (fun t h => by cases h)) (fun t h => by cases h)
theorem inner_bd {nm : ByteArray} {y : Tm} {l : List (ByteArray × Tm)} (h : ∀ b ∈ l, BdTm b.2 ∧ tmD b.2 ≤ 900000 ∧ tmN b.2 ≤ 700000) : ∀ b ∈ inner freshS nm y l, BdTm b.2 ∧ tmD b.2 ≤ 900000 ∧ tmN b.2 ≤ 700000 := by
 have hz : ∀ z, BdTm (nameT z) ∧ tmD (nameT z) ≤ 900000 ∧ tmN (nameT z) ≤ 700000 := fun z => ⟨bd_nameT z, by unfold nameT; rw [tmD]; simp only [tmDs]; omega, by unfold nameT; rw [tmN]; simp only [tmNs]; omega⟩
 intro b hb
 unfold inner at hb
 split at hb
 ·rcases List.mem_append.1 hb with hb | hb
  ·exact h b (remL_mem hb)
  ·rw [List.mem_singleton.1 hb]; exact hz _
 ·exact h b (remL_mem hb)
theorem frB_drop {l : List (ByteArray × Tm)} {k : Nat} (h : k < l.length) : frB (l.drop k) = fr l[k].2 ++ frB (l.drop (k + 1)) := by
 rw [List.drop_eq_getElem_cons h, frB]
theorem fitB_one (nm z : ByteArray) (t : Tm) : FitB [(nm, nameT z)] t 1 := fun x F _ => by
 have h := remL_frB [(nm, nameT z)] x F
 rw [frB, frB, fr_nameT] at h
 simpa using h
end Go.Proofs.YtfhedienjnfdcaaGreatDoor
