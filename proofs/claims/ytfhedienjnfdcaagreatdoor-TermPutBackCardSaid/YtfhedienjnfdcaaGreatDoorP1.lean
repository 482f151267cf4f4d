/- Texts PbW LwI of this proof, in one. -/
import Derived.Test.YtfhedienjnfdcaaGreatDoorS0
import Derived.Test.YtfhedienjnfdcaaGreatDoorS1
import Derived.Test.YtfhedienjnfdcaaGreatDoorS2
import Derived.Test.YtfhedienjnfdcaaGreatDoorS3
import Derived.Test.YtfhedienjnfdcaaGreatDoorS4
import Derived.Test.YtfhedienjnfdcaaGreatDoorS5
import Derived.Test.YtfhedienjnfdcaaGreatDoorS6
import Derived.Test.YtfhedienjnfdcaaGreatDoorS7
import Derived.Test.YtfhedienjnfdcaaGreatDoorS8
import Derived.Test.YtfhedienjnfdcaaGreatDoorS10
import Derived.Test.YtfhedienjnfdcaaGreatDoorS11
import Derived.Test.YtfhedienjnfdcaaGreatDoorS12
import Derived.Test.YtfhedienjnfdcaaGreatDoorS14
import Derived.Test.YtfhedienjnfdcaaGreatDoorS15
import Derived.Test.YtfhedienjnfdcaaGreatDoorS16
import Derived.Test.YtfhedienjnfdcaaGreatDoorS17
import Derived.Test.YtfhedienjnfdcaaGreatDoorS18
import Derived.Test.YtfhedienjnfdcaaGreatDoorP0
set_option linter.unusedVariables false
set_option linter.unusedSimpArgs false
namespace Go.Proofs.YtfhedienjnfdcaaGreatDoor
open Go.RowKit
theorem atPS_parts (t : Tm) (l : List Int) : ∃ o e, atPS t l = (o, e) ∧ BdTm o ∧ (SmTm big t → SmTm big o) ∧ (e = 0 ∨ e = 1 ∨ e = 12) ∧ (e = 0 → validB t = true ∧ atP t l = some o ∧ validB o = true) := by
  have hb : BdTm tm0 := .mk (by decide) (.mk (by decide) (fun t h => by cases h)) (fun t h => by cases h)
  have hs : SmTm big tm0 := .mk (by decide) (.mk (by decide) (fun t h => by cases h)) (fun t h => by cases h)
  unfold atPS
  cases hv : validB t
  · exact ⟨tm0, 1, rfl, hb, fun _ => hs, by decide, fun h => by cases h⟩
  · cases ha : atP t l with
    | none => exact ⟨tm0, 12, rfl, hb, fun _ => hs, by decide, fun h => by cases h⟩
    | some o => exact ⟨o, 0, rfl, valid_bd (at_valid l t o hv ha), fun h => atP_sm l h ha, by decide, fun _ => ⟨rfl, rfl, at_valid l t o hv ha⟩⟩
theorem repPS_parts {t u : Tm} {l : List Int} (hv : validB t = true) (hu : validB u = true) {o : Tm} (ha : atP t l = some o) (ho : validB o = true) :
    (repPS t l u = (tm0, 5)) ∨ (repPS t l u = (putP t l u, 0) ∧ validB (putP t l u) = true ∧ atPS (putP t l u) l = (u, 0) ∧ repPS (putP t l u) l o = (t, 0)) := by
  unfold repPS
  rw [hv, hu, ha]
  cases hr : validB (putP t l u)
  · exact .inl rfl
  · have h1 : atP (putP t l u) l = some u := at_put l t u (by rw [ha]; rfl)
    refine .inr ⟨rfl, rfl, ?_, ?_⟩
    · unfold atPS; rw [hr, h1]; rfl
    · rw [ho, h1, put_put l t u o ha, hv]; rfl
theorem tmEq_self (t : Tm) : tmEq t t = true := (tmEq_iff t t).2 rfl
structure Bx2 (w : World) (ca cb : List Value) (W : World) : Prop where
  a : Blk W w.heap.size 28 ca
  b : Blk W (w.heap.size + 1) 28 cb
  k : Kept (fun _ => False) w W
theorem Bx2.kept {w : World} {ca cb : List Value} {W W' : World} (h : Bx2 w ca cb W) (k : Kept (fun _ => False) W W') : Bx2 w ca cb W' := ⟨h.a.kept k (fun h => h), h.b.kept k (fun h => h), h.k.trans k⟩
theorem Bx2.new (w : World) (ca cb : List Value) : Bx2 w ca cb ((w.alloc (.cells ca.toArray 28)).alloc (.cells cb.toArray 28)) := ⟨(Blk.new w 28 ca).alloc _, Blk.new' 28 _ (by simp), ((Kept.refl _ _).alloc _).alloc _⟩
set_option maxRecDepth 100000 in
set_option maxHeartbeats 32000000 in
theorem pbw_any {t u : Tm} {l : List Int} {w : World} {tk kk tk' kk' : Value} {a : Option Addr} {n c : Nat} (hgl : Gl w) (h1 : TyL (fun _ => True) w t.ty.kids tk) (h2 : TmL (fun _ => True) w t.kids kk) (hs : SmTm big t) (hl : InL (fun _ => True) w l (.slice a n c)) (hb : l.length ≤ 9223372036854775807) (h3 : TyL (fun _ => True) w u.ty.kids tk') (h4 : TmL (fun _ => True) w u.kids kk') (hs' : SmTm big u) :
    Calls Tryz.prog 4 #[tmVal t tk kk, .slice a n c, tmVal u tk' kk'] w (EsOk w) := by
  obtain ⟨p, pn, cp, rfl⟩ := h1.slice
  obtain ⟨ma, mn, mc, rfl⟩ := h2.slice
  obtain ⟨p', pn', cp', rfl⟩ := h3.slice
  obtain ⟨ma', mn', mc', rfl⟩ := h4.slice
  have H15 := Lib.hid (fun W (k : Kept (fun _ => False) w W) => awake_any W (hgl.kept k (fun h => h) (fun h => h)))
  have HA := Lib.hid (fun W (k : Kept (fun _ => False) w W) => at_any (h1.frame (Same.of_kept k (fun _ _ e => e))) (h2.frame (Same.of_kept k (fun _ _ e => e))) hs (hl.frame (Same.of_kept k (fun _ _ e => e))) hb)
  have HVU := Lib.hid (fun W (k : Kept (fun _ => False) w W) => rvalid_any (h3.frame (Same.of_kept k (fun _ _ e => e))) (h4.frame (Same.of_kept k (fun _ _ e => e))) hs')
  have HRP := Lib.hid (fun W (k : Kept (fun _ => False) w W) => replace_any (h1.frame (Same.of_kept k (fun _ _ e => e))) (h2.frame (Same.of_kept k (fun _ _ e => e))) hs (hl.frame (Same.of_kept k (fun _ _ e => e))) hb (h3.frame (Same.of_kept k (fun _ _ e => e))) (h4.frame (Same.of_kept k (fun _ _ e => e))) hs')
  have HA2 := Lib.hid (fun (r : Tm) (tk kk : Value) (B : Nat) (hr : SmTm big r) W (k : Kept (fun _ => False) w W) (q1 : TyL (fun q => B ≤ q) W r.ty.kids tk) (q2 : TmL (fun q => B ≤ q) W r.kids kk) => at_any q1 q2 hr (hl.frame (Same.of_kept k (fun _ _ e => e))) hb)
  have HR2 := Lib.hid (fun (r o : Tm) (tk kk tk' kk' : Value) (B B' : Nat) (hr : SmTm big r) (ho : SmTm big o) W (k : Kept (fun _ => False) w W) (q1 : TyL (fun q => B ≤ q) W r.ty.kids tk) (q2 : TmL (fun q => B ≤ q) W r.kids kk) (q3 : TyL (fun q => B' ≤ q) W o.ty.kids tk') (q4 : TmL (fun q => B' ≤ q) W o.kids kk') => replace_any q1 q2 hr (hl.frame (Same.of_kept k (fun _ _ e => e))) hb q3 q4 ho)
  have SNU := Lib.hid (fun (hv : validB u = true) (vk vm : Value) (B : Nat) W (k : Kept (fun _ => False) w W) (q1 : TyL (fun q => B ≤ q) W u.ty.kids vk) (q2 : TmL (fun q => B ≤ q) W u.kids vm) => rsameTm_any (valid_bd hv) u W _ _ _ _ _ _ q1 q2 (h3.frame (Same.of_kept k (fun _ _ e => e))) (h4.frame (Same.of_kept k (fun _ _ e => e))))
  have SBT := Lib.hid (fun (hv : validB t = true) (vk vm : Value) (B : Nat) W (k : Kept (fun _ => False) w W) (q1 : TyL (fun q => B ≤ q) W t.ty.kids vk) (q2 : TmL (fun q => B ≤ q) W t.kids vm) => rsameTm_any (valid_bd hv) t W _ _ _ _ _ _ q1 q2 (h1.frame (Same.of_kept k (fun _ _ e => e))) (h2.frame (Same.of_kept k (fun _ _ e => e))))
  obtain ⟨o, e, hoe, hbo, hso, he, hk⟩ := atPS_parts t l
  have HSO := Lib.hid (hso hs)
  have HST := Lib.hid hs
  have HSU := Lib.hid hs'
  have HK := Lib.hid hk
  have HE := Lib.hid he
  rw [hoe] at HA
  obtain ⟨r, f, hrf⟩ : ∃ r f, repPS t l u = (r, f) := ⟨_, _, rfl⟩
  have HRF := Lib.hid hrf
  rw [hrf] at HRP
  clear hrf
  have B0 := Lib.hid (Bx2.new w [.int .i64 t.op, .string t.name, .int .i64 t.n, .int .i64 t.ty.kind, .string t.ty.name, .slice p pn cp, .slice ma mn mc] [.int .i64 u.op, .string u.name, .int .i64 u.n, .int .i64 u.ty.kind, .string u.ty.name, .slice p' pn' cp', .slice ma' mn' mc'])
  change Hid (Bx2 _ _ _ ((w.alloc (.cells #[.int .i64 t.op, .string t.name, .int .i64 t.n, .int .i64 t.ty.kind, .string t.ty.name, .slice p pn cp, .slice ma mn mc] 28)).alloc (.cells #[.int .i64 u.op, .string u.name, .int .i64 u.n, .int .i64 u.ty.kind, .string u.ty.name, .slice p' pn' cp', .slice ma' mn' mc'] 28))) at B0
  clear h1 h2 h3 h4 hs hs' hl hb hgl hbo hso hk he hoe
  unfold TmE tmVal at HA HRP
  unfold tmVal at SNU SBT ⊢
  go_enter Tryz.func4, Tryz.ntmps4
  go_wp2_with fail
  generalize ((w.alloc (.cells #[.int .i64 t.op, .string t.name, .int .i64 t.n, .int .i64 t.ty.kind, .string t.ty.name, .slice p pn cp, .slice ma mn mc] 28)).alloc (.cells #[.int .i64 u.op, .string u.name, .int .i64 u.n, .int .i64 u.ty.kind, .string u.ty.name, .slice p' pn' cp', .slice ma' mn' mc'] 28)) = w1 at *
  refine (HA.out w1 B0.out.k).mono ?_
  rintro e' w2 ⟨otk, okk, rfl, hty, htm, k2⟩
  obtain ⟨oa, on, oc, rfl⟩ := hty.slice
  obtain ⟨xa, xn, xc, rfl⟩ := htm.slice
  have B2 := Lib.hid (B0.out.kept k2)
  have OTY := Lib.hid (fun W (k : Kept (fun _ => False) w2 W) => hty.frame (Same.of_kept k (fun _ _ e => e)))
  have OTM := Lib.hid (fun W (k : Kept (fun _ => False) w2 W) => htm.frame (Same.of_kept k (fun _ _ e => e)))
  clear hty htm k2 B0 HA
  go_upto_region 2 with (fail)
  have KO : Kept (fun _ => False) w2 (w2.alloc (.cells #[.int .i64 o.op, .string o.name, .int .i64 o.n, .int .i64 o.ty.kind, .string o.ty.name, .slice oa on oc, .slice xa xn xc] 28)) := (Kept.refl _ _).alloc _
  have B3 := Lib.hid (B2.out.kept KO)
  have BO := Lib.hid (Blk.new w2 28 [.int .i64 o.op, .string o.name, .int .i64 o.n, .int .i64 o.ty.kind, .string o.ty.name, .slice oa on oc, .slice xa xn xc])
  change Hid (Blk (w2.alloc (.cells #[.int .i64 o.op, .string o.name, .int .i64 o.n, .int .i64 o.ty.kind, .string o.ty.name, .slice oa on oc, .slice xa xn xc] 28)) _ _ _) at BO
  have HKO := Lib.hid KO
  clear KO B2
  generalize w2.alloc (.cells #[.int .i64 o.op, .string o.name, .int .i64 o.n, .int .i64 o.ty.kind, .string o.ty.name, .slice oa on oc, .slice xa xn xc] 28) = w3 at *
  rcases HE.out with rfl | rfl | rfl
  · obtain ⟨hvt, hat, hvo⟩ := HK.out rfl
    have HVT := Lib.hid hvt
    have HPRT := Lib.hid (fun (hvu : validB u = true) => repPS_parts hvt hvu hat hvo)
    have HSR := Lib.hid (putP_sm l HST.out HSU.out (by rw [hat]; rfl))
    clear hvt hat hvo HK HE
    have gU : ∀ i, w3.cell? ⟨w.heap.size + 1, i, none⟩ = [Value.int .i64 u.op, .string u.name, .int .i64 u.n, .int .i64 u.ty.kind, .string u.ty.name, .slice p' pn' cp', .slice ma' mn' mc'][i]? := B3.out.b.cell
    go_wp2_with fail
    clear gU
    refine (HVU.out w3 B3.out.k).mono ?_
    rintro e' w4 ⟨rfl, k4⟩
    have B4 := Lib.hid (B3.out.kept k4)
    have BO4 := Lib.hid (BO.out.kept k4 (fun h => h))
    have HKO4 := Lib.hid (HKO.out.trans k4)
    clear k4 B3 BO HKO HVU
    cases hvu : validB u
    · clear HRP HA2 HR2 SNU SBT HPRT hvu
      go_wp2_with fail
      refine (H15.out _ B4.out.k).mono ?_
      rintro e' w5 ⟨rfl, k5⟩
      go_wp2_with fail
      go_ret
      exact ⟨rfl, B4.out.k.trans k5⟩
    · have HPR := Lib.hid (HPRT.out hvu)
      have HSNU := Lib.hid (SNU.out hvu)
      have HSBT := Lib.hid (SBT.out HVT.out)
      clear hvu HPRT SNU SBT
      have gT : ∀ i, w4.cell? ⟨w.heap.size, i, none⟩ = [Value.int .i64 t.op, .string t.name, .int .i64 t.n, .int .i64 t.ty.kind, .string t.ty.name, .slice p pn cp, .slice ma mn mc][i]? := B4.out.a.cell
      have gU : ∀ i, w4.cell? ⟨w.heap.size + 1, i, none⟩ = [Value.int .i64 u.op, .string u.name, .int .i64 u.n, .int .i64 u.ty.kind, .string u.ty.name, .slice p' pn' cp', .slice ma' mn' mc'][i]? := B4.out.b.cell
      go_wp2_with fail
      clear gT gU
      refine (HRP.out w4 B4.out.k).mono ?_
      rintro e' w5 ⟨rtk, rkk, rfl, hty, htm, k5⟩
      obtain ⟨ra, rn, rc, rfl⟩ := hty.slice
      obtain ⟨ya, yn, yc, rfl⟩ := htm.slice
      have B5 := Lib.hid (B4.out.kept k5)
      have BO5 := Lib.hid (BO4.out.kept k5 (fun h => h))
      have HKO5 := Lib.hid (HKO4.out.trans k5)
      have RTY := Lib.hid hty
      have RTM := Lib.hid htm
      clear hty htm k5 B4 BO4 HKO4 HRP
      go_upto_region 5 with (fail)
      have KN : Kept (fun _ => False) w5 (w5.alloc (.cells #[.int .i64 r.op, .string r.name, .int .i64 r.n, .int .i64 r.ty.kind, .string r.ty.name, .slice ra rn rc, .slice ya yn yc] 28)) := (Kept.refl _ _).alloc _
      have BR := Lib.hid (Blk.new w5 28 [.int .i64 r.op, .string r.name, .int .i64 r.n, .int .i64 r.ty.kind, .string r.ty.name, .slice ra rn rc, .slice ya yn yc])
      change Hid (Blk (w5.alloc (.cells #[.int .i64 r.op, .string r.name, .int .i64 r.n, .int .i64 r.ty.kind, .string r.ty.name, .slice ra rn rc, .slice ya yn yc] 28)) _ _ _) at BR
      have B6 := Lib.hid (B5.out.kept KN)
      have BO6 := Lib.hid (BO5.out.kept KN (fun h => h))
      have HKO6 := Lib.hid (HKO5.out.trans KN)
      have RTY6 := Lib.hid (RTY.out.frame (Same.of_kept KN (fun _ _ e => e)))
      have RTM6 := Lib.hid (RTM.out.frame (Same.of_kept KN (fun _ _ e => e)))
      clear KN B5 BO5 HKO5 RTY RTM
      generalize w5.alloc (.cells #[.int .i64 r.op, .string r.name, .int .i64 r.n, .int .i64 r.ty.kind, .string r.ty.name, .slice ra rn rc, .slice ya yn yc] 28) = w6 at *
      rcases HPR.out with hq | ⟨hq, hvr, hq2, hq3⟩
      · rw [HRF.out] at hq
        obtain ⟨-, rfl⟩ := Prod.mk.inj hq
        clear hq HPR HRF HA2 HR2 HSNU HSBT RTY6 RTM6 BR BO6 HKO6
        go_wp2_with fail
        refine (H15.out _ B6.out.k).mono ?_
        rintro e' w7 ⟨rfl, k7⟩
        go_wp2_with fail
        go_ret
        exact ⟨rfl, B6.out.k.trans k7⟩
      · rw [HRF.out] at hq
        obtain ⟨hr, rfl⟩ := Prod.mk.inj hq
        have HSR2 : Hid (SmTm big r) := Lib.hid (by rw [hr]; exact HSR.out)
        rw [← hr] at hq2 hq3
        have HCA := Lib.hid (HA2.out r _ _ _ HSR2.out w6 B6.out.k RTY6.out RTM6.out)
        rw [hq2] at HCA
        have HQ3 := Lib.hid hq3
        clear hq hr hvr hq2 hq3 HPR HRF HA2 HSR
        unfold TmE tmVal at HCA
        have gR : ∀ i, w6.cell? ⟨w5.heap.size, i, none⟩ = [Value.int .i64 r.op, .string r.name, .int .i64 r.n, .int .i64 r.ty.kind, .string r.ty.name, .slice ra rn rc, .slice ya yn yc][i]? := BR.out.cell
        go_wp2_with fail
        clear gR
        refine HCA.out.mono ?_
        rintro e' w7 ⟨ntk, nkk, rfl, hty, htm, kN⟩
        obtain ⟨na, nn, nc, rfl⟩ := hty.slice
        obtain ⟨za, zn, zc, rfl⟩ := htm.slice
        have B7 := Lib.hid (B6.out.kept kN)
        have BO7 := Lib.hid (BO6.out.kept kN (fun h => h))
        have BR7 := Lib.hid (BR.out.kept kN (fun h => h))
        have HKO7 := Lib.hid (HKO6.out.trans kN)
        have RTY7 := Lib.hid (RTY6.out.frame (Same.of_kept kN (fun _ _ e => e)))
        have RTM7 := Lib.hid (RTM6.out.frame (Same.of_kept kN (fun _ _ e => e)))
        have NTY := Lib.hid hty
        have NTM := Lib.hid htm
        clear hty htm kN B6 BO6 BR HKO6 RTY6 RTM6 HCA
        go_upto_region 8 with (fail)
        have KN : Kept (fun _ => False) w7 (w7.alloc (.cells #[.int .i64 u.op, .string u.name, .int .i64 u.n, .int .i64 u.ty.kind, .string u.ty.name, .slice na nn nc, .slice za zn zc] 28)) := (Kept.refl _ _).alloc _
        have BN := Lib.hid (Blk.new w7 28 [.int .i64 u.op, .string u.name, .int .i64 u.n, .int .i64 u.ty.kind, .string u.ty.name, .slice na nn nc, .slice za zn zc])
        change Hid (Blk (w7.alloc (.cells #[.int .i64 u.op, .string u.name, .int .i64 u.n, .int .i64 u.ty.kind, .string u.ty.name, .slice na nn nc, .slice za zn zc] 28)) _ _ _) at BN
        have B8 := Lib.hid (B7.out.kept KN)
        have BO8 := Lib.hid (BO7.out.kept KN (fun h => h))
        have BR8 := Lib.hid (BR7.out.kept KN (fun h => h))
        have HKO8 := Lib.hid (HKO7.out.trans KN)
        have RTY8 := Lib.hid (RTY7.out.frame (Same.of_kept KN (fun _ _ e => e)))
        have RTM8 := Lib.hid (RTM7.out.frame (Same.of_kept KN (fun _ _ e => e)))
        have NTY8 := Lib.hid (NTY.out.frame (Same.of_kept KN (fun _ _ e => e)))
        have NTM8 := Lib.hid (NTM.out.frame (Same.of_kept KN (fun _ _ e => e)))
        clear KN B7 BO7 BR7 HKO7 RTY7 RTM7 NTY NTM
        generalize w7.alloc (.cells #[.int .i64 u.op, .string u.name, .int .i64 u.n, .int .i64 u.ty.kind, .string u.ty.name, .slice na nn nc, .slice za zn zc] 28) = w8 at *
        have HCR := Lib.hid (HR2.out r o _ _ _ _ _ _ HSR2.out HSO.out w8 B8.out.k RTY8.out RTM8.out (OTY.out w8 HKO8.out) (OTM.out w8 HKO8.out))
        rw [HQ3.out] at HCR
        unfold TmE tmVal at HCR
        clear HQ3 HR2 OTY OTM RTY8 RTM8 HKO8
        have gR : ∀ i, w8.cell? ⟨w5.heap.size, i, none⟩ = [Value.int .i64 r.op, .string r.name, .int .i64 r.n, .int .i64 r.ty.kind, .string r.ty.name, .slice ra rn rc, .slice ya yn yc][i]? := BR8.out.cell
        have gO : ∀ i, w8.cell? ⟨w2.heap.size, i, none⟩ = [Value.int .i64 o.op, .string o.name, .int .i64 o.n, .int .i64 o.ty.kind, .string o.ty.name, .slice oa on oc, .slice xa xn xc][i]? := BO8.out.cell
        go_wp2_with fail
        clear gR gO
        refine HCR.out.mono ?_
        rintro e' w9 ⟨btk, bkk, rfl, hty, htm, kN⟩
        obtain ⟨ba, bn, bc, rfl⟩ := hty.slice
        obtain ⟨da, dn, dc, rfl⟩ := htm.slice
        have B9 := Lib.hid (B8.out.kept kN)
        have BN9 := Lib.hid (BN.out.kept kN (fun h => h))
        have NTY9 := Lib.hid (NTY8.out.frame (Same.of_kept kN (fun _ _ e => e)))
        have NTM9 := Lib.hid (NTM8.out.frame (Same.of_kept kN (fun _ _ e => e)))
        have BTY := Lib.hid hty
        have BTM := Lib.hid htm
        clear hty htm kN B8 BN BR8 BO8 NTY8 NTM8 HCR
        go_upto_region 9 with (fail)
        have KN : Kept (fun _ => False) w9 (w9.alloc (.cells #[.int .i64 t.op, .string t.name, .int .i64 t.n, .int .i64 t.ty.kind, .string t.ty.name, .slice ba bn bc, .slice da dn dc] 28)) := (Kept.refl _ _).alloc _
        have BB := Lib.hid (Blk.new w9 28 [.int .i64 t.op, .string t.name, .int .i64 t.n, .int .i64 t.ty.kind, .string t.ty.name, .slice ba bn bc, .slice da dn dc])
        change Hid (Blk (w9.alloc (.cells #[.int .i64 t.op, .string t.name, .int .i64 t.n, .int .i64 t.ty.kind, .string t.ty.name, .slice ba bn bc, .slice da dn dc] 28)) _ _ _) at BB
        have B10 := Lib.hid (B9.out.kept KN)
        have BN10 := Lib.hid (BN9.out.kept KN (fun h => h))
        have NTY10 := Lib.hid (NTY9.out.frame (Same.of_kept KN (fun _ _ e => e)))
        have NTM10 := Lib.hid (NTM9.out.frame (Same.of_kept KN (fun _ _ e => e)))
        have BTY10 := Lib.hid (BTY.out.frame (Same.of_kept KN (fun _ _ e => e)))
        have BTM10 := Lib.hid (BTM.out.frame (Same.of_kept KN (fun _ _ e => e)))
        clear KN B9 BN9 NTY9 NTM9 BTY BTM
        generalize w9.alloc (.cells #[.int .i64 t.op, .string t.name, .int .i64 t.n, .int .i64 t.ty.kind, .string t.ty.name, .slice ba bn bc, .slice da dn dc] 28) = w10 at *
        have HS1 := Lib.hid (HSNU.out _ _ _ w10 B10.out.k NTY10.out NTM10.out)
        rw [tmEq_self] at HS1
        have gN : ∀ i, w10.cell? ⟨w7.heap.size, i, none⟩ = [Value.int .i64 u.op, .string u.name, .int .i64 u.n, .int .i64 u.ty.kind, .string u.ty.name, .slice na nn nc, .slice za zn zc][i]? := BN10.out.cell
        have gU : ∀ i, w10.cell? ⟨w.heap.size + 1, i, none⟩ = [Value.int .i64 u.op, .string u.name, .int .i64 u.n, .int .i64 u.ty.kind, .string u.ty.name, .slice p' pn' cp', .slice ma' mn' mc'][i]? := B10.out.b.cell
        go_wp2_with fail
        clear gN gU
        refine HS1.out.mono ?_
        rintro e' w11 ⟨rfl, k11⟩
        have B11 := Lib.hid (B10.out.kept k11)
        have BB11 := Lib.hid (BB.out.kept k11 (fun h => h))
        have HS2 := Lib.hid (HSBT.out _ _ _ w11 B11.out.k (BTY10.out.frame (Same.of_kept k11 (fun _ _ e => e))) (BTM10.out.frame (Same.of_kept k11 (fun _ _ e => e))))
        rw [tmEq_self] at HS2
        clear k11 B10 BB BN10 NTY10 NTM10 BTY10 BTM10 HS1 HSNU HSBT
        have gB : ∀ i, w11.cell? ⟨w9.heap.size, i, none⟩ = [Value.int .i64 t.op, .string t.name, .int .i64 t.n, .int .i64 t.ty.kind, .string t.ty.name, .slice ba bn bc, .slice da dn dc][i]? := BB11.out.cell
        have gT : ∀ i, w11.cell? ⟨w.heap.size, i, none⟩ = [Value.int .i64 t.op, .string t.name, .int .i64 t.n, .int .i64 t.ty.kind, .string t.ty.name, .slice p pn cp, .slice ma mn mc][i]? := B11.out.a.cell
        go_wp2_with fail
        clear gB gT
        refine HS2.out.mono ?_
        rintro e' w12 ⟨rfl, k12⟩
        have B12 := Lib.hid (B11.out.kept k12)
        clear k12 B11 HS2
        go_wp2_with fail
        refine (H15.out _ B12.out.k).mono ?_
        rintro e' w13 ⟨rfl, k13⟩
        go_wp2_with fail
        go_ret
        exact ⟨rfl, B12.out.k.trans k13⟩
  · clear HRP HA2 HR2 SNU SBT HK HE HVU OTY OTM BO HKO
    go_wp2_with fail
    refine (H15.out _ B3.out.k).mono ?_
    rintro e' w5 ⟨rfl, k5⟩
    go_wp2_with fail
    go_ret
    exact ⟨rfl, B3.out.k.trans k5⟩
  · clear HRP HA2 HR2 SNU SBT HK HE HVU OTY OTM BO HKO
    go_wp2_with fail
    refine (H15.out _ B3.out.k).mono ?_
    rintro e' w5 ⟨rfl, k5⟩
    go_wp2_with fail
    go_ret
    exact ⟨rfl, B3.out.k.trans k5⟩
end Go.Proofs.YtfhedienjnfdcaaGreatDoor
namespace Go.Proofs.YtfhedienjnfdcaaGreatDoor
open Go.ChangeShapes Go.WideShapes Go.ChangeAt Go.RowKit
section
variable {H : Type} {enc : TypeId × Value → H} {w : World} {spare : Nat → Bool} {held : Bool}
set_option maxRecDepth 100000 in
theorem open_ints {fuel : Nat} {a : Option Addr} {n c : Nat} {x : DataW H × List MemPlace} (h : DataW.trod enc Tryz.prog w 0 spare held fuel 36 [.slice a n c] = some x) :
    ∃ l : List Int, InL (fun _ => True) w l (.slice a n c) ∧ l.length ≤ 9223372036854775807 := by
  rcases DataW.trod_slice Tryz.underlying36 h with ⟨hc, -⟩ | ⟨a', len, cap, elems, rest, m, rfl, hc, -, -, hl, hm, hel, helt, -, -⟩
  · cases hc
    exact ⟨[], ⟨_, _, _, rfl, rfl, Nat.le_refl _, fun i hi => absurd hi (Nat.not_lt_zero _)⟩, Nat.zero_le _⟩
  · cases hc
    by_cases h0 : n = 0
    · subst h0
      exact ⟨[], ⟨_, _, _, rfl, rfl, Nat.zero_le _, fun i hi => absurd hi (Nat.not_lt_zero _)⟩, Nat.zero_le _⟩
    · rw [cells_3] at helt
      obtain ⟨b, o, rfl, hat⟩ := elems_at hel (by decide) helt (by omega)
      obtain ⟨F, hF⟩ := Go.Deep.choose_lt (α := Int) (n := n) (p := fun i q => w.cell? ⟨b, o + i, none⟩ = some (.int .i64 q)) (fun i hi => by
        obtain ⟨cs, y, hcl, hcell, hy⟩ := hat i hi
        obtain ⟨k, hk, -, -⟩ := DataW.trod_int Tryz.underlying3 hy
        have h1 := hcell 0 (by decide)
        rw [hk, Nat.mul_one, Nat.add_zero] at h1
        exact ⟨k, h1⟩)
      refine ⟨(List.range n).map F, ⟨_, _, _, rfl, by simp, by omega, fun i hi => ⟨b, o, rfl, trivial, ?_⟩⟩, by unfold maxLen at hm; simp; omega⟩
      have hi' : i < n := by simpa using hi
      rw [hF i hi']
      simp
end
set_option maxRecDepth 100000 in
theorem arg_ints {H : Type} {enc : TypeId × Value → H} {W : World} {v : Value} {d : DataW H} {p : List MemPlace} {r : Reach} {b0 : Nat} (hval : Value.okWide Tryz.prog W r b0 36 v) (h : DataW.Trod enc Tryz.prog W 0 (fun _ => true) true 36 v d p) :
    ∃ (l : List Int) (a : Option Addr) (n c : Nat), v = .slice a n c ∧ InL (fun _ => True) W l (.slice a n c) ∧ l.length ≤ 9223372036854775807 := by
  obtain ⟨a, n, c, rfl⟩ := Go.WideShapes.okWide_slice Tryz.underlying36 hval
  obtain ⟨fuel, h⟩ := h
  obtain ⟨l, h1, h2⟩ := open_ints (a := a) (n := n) (c := c) h
  exact ⟨l, a, n, c, rfl, h1, h2⟩
theorem back_ints {H : Type} {enc : TypeId × Value → H} {W W' : World} {v : Value} {d : DataW H} {p : List MemPlace} (h : DataW.Trod enc Tryz.prog W 0 (fun _ => true) true 36 v d p) (k : Kept (fun _ => False) W W') (hlt : ∀ x ∈ p, x.block < W.heap.size) :
    DataW.Trod enc Tryz.prog W' 0 (fun b => decide (b < W.heap.size)) true 36 v d p := back_of (by kernel_rfl) (size_ok (by decide)) h k hlt
end Go.Proofs.YtfhedienjnfdcaaGreatDoor
