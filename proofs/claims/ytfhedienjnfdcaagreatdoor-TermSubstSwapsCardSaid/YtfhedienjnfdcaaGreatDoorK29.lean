/- Texts SwP SwW of this proof, in one. -/
import Derived.Test.YtfhedienjnfdcaaGreatDoorK27
set_option linter.unusedVariables false
set_option linter.unusedSimpArgs false
set_option maxRecDepth 100000
set_option maxHeartbeats 32000000
namespace Go.Proofs.YtfhedienjnfdcaaGreatDoor
open Go.RowKit
def swL (x y : ByteArray) : List (ByteArray × Tm) := [(x, nameT y), (y, nameT x)]
theorem swL_ok {x y : ByteArray} (hx : namedB x = true) (hy : namedB y = true) : OkB (swL x y) := by
 intro b hb
 rcases List.mem_cons.1 hb with rfl | hb
 ·exact nameT_ok hy
 ·rw [List.mem_singleton.1 hb]; exact nameT_ok hx
theorem swL_len (x y : ByteArray) : (frB (swL x y)).length ≤ 2000 := by
 unfold swL
 rw [frB, frB, frB, List.append_nil, List.length_append]
 have h1 := frs_len (nameT x)
 have h2 := frs_len (nameT y)
 have h3 : tmN (nameT x) = 1 := rfl
 have h4 : tmN (nameT y) = 1 := rfl
 show (fr (nameT y)).length + (fr (nameT x)).length ≤ 2000
 omega
theorem swL_ev (x y s : ByteArray) : evB .fv (swL x y) s = .fv (if s = x then y else if s = y then x else s) := by
 unfold evB swL
 rw [look]
 by_cases e : x = s
 ·rw [if_pos e, if_pos e.symm]; simp only; rw [nameT_ev]
 ·rw [if_neg e, if_neg (Ne.symm e), look]
  by_cases e2 : y = s
  ·rw [if_pos e2, if_pos e2.symm]; simp only; rw [nameT_ev]
  ·rw [if_neg e2, if_neg (Ne.symm e2), look]
theorem sw_one {t : Tm} {x y : ByteArray} (ht : validB t = true) (hx : namedB x = true) (hy : namedB y = true) : OkTm (subT freshS t (swL x y)) ∧ validB (subT freshS t (swL x y)) = true := by
 have h1 := (valid_iff t).1 ht
 have hl := swL_len x y
 have ho := sub_ok h1.1 _ (swL_ok hx hy) (by omega)
 have e := ev_sub freshS_FS t (swL x y) .fv (by omega)
 refine ⟨ho, (valid_iff _).2 ⟨ho, ?_, ?_⟩⟩
 ·rw [← ev_size _ .fv ho.nw (fun _ => rfl), e, ev_size _ _ h1.1.nw (fun s => by rw [swL_ev]; rfl)]; exact h1.2.1
 ·rw [← ev_depth _ .fv ho.nw (fun _ => rfl), e, ev_depth _ _ h1.1.nw (fun s => by rw [swL_ev]; rfl)]; exact h1.2.2
theorem sw_plain {t : Tm} {x y : ByteArray} (ht : validB t = true) (hx : namedB x = true) (hy : namedB y = true) :
  dbT (subT freshS (subT freshS t (swL x y)) (swL x y)) = dbT t := by
 have h1 := (valid_iff t).1 ht
 have h2 := sw_one ht hx hy
 have h3 := (valid_iff _).1 h2.2
 have hl := swL_len x y
 unfold dbT
 rw [ev_sub freshS_FS _ _ .fv (by omega), ev_dbT]
 unfold dbT
 rw [ev_sub freshS_FS _ _ .fv (by omega), bd_ev]
 apply ev_cong
 intro s _
 rw [swL_ev, bd, swL_ev]
 by_cases e : s = x
 ·rw [if_pos e]
  by_cases e2 : y = x
  ·rw [if_pos e2, e, e2]
  ·rw [if_neg e2, if_pos rfl, e]
 ·rw [if_neg e]
  by_cases e2 : s = y
  ·rw [if_pos e2, if_pos rfl, e2]
  ·rw [if_neg e2, if_neg e, if_neg e2]
theorem sbst_sw {t : Tm} {x y : ByteArray} (ht : validB t = true) (hx : namedB x = true) (hy : namedB y = true) : sbstR t (swL x y) = (subT freshS t (swL x y), 0) := by
 have hv : ∀ {z : ByteArray}, namedB z = true → validB (nameT z) = true := fun {z} h => by
  rw [valid_of (nameT_ok h)]; rfl
 unfold sbstR ltdR
 have h : (swL x y).all vB = true := by
  unfold swL
  rw [List.all_cons, List.all_cons, List.all_nil, Bool.and_true, Bool.and_eq_true]
  exact ⟨hv hy, hv hx⟩
 rw [ht, h, (sw_one ht hx hy).2]
 rfl
theorem sw_all {t : Tm} {x y : ByteArray} (ht : validB t = true) (hx : namedB x = true) (hy : namedB y = true) :
  ∃ u v, sbstR t (swL x y) = (u, 0) ∧ sbstR u (swL x y) = (v, 0) ∧ SmTm big u ∧ SmTm big v ∧ alB t v = true ∧ alB v t = true := by
 have h2 := sw_one ht hx hy
 have h3 := sw_one h2.2 hx hy
 exact ⟨_, _, sbst_sw ht hx hy, sbst_sw h2.2 hx hy, ok_smt h2.1, ok_smt h3.1, (alB_iff ht h3.2).2 (sw_plain ht hx hy).symm, (alB_iff h3.2 ht).2 (sw_plain ht hx hy)⟩
theorem bnl_two {W : World} {g : Nat} {E1 E2 : E4} (hb : Blk W g 53 (bCells E1 ++ bCells E2)) (h1 : TyL (fun _ => True) W E1.1.2.ty.kids E1.2.1) (h2 : TmL (fun _ => True) W E1.1.2.kids E1.2.2) (h3 : TyL (fun _ => True) W E2.1.2.ty.kids E2.2.1) (h4 : TmL (fun _ => True) W E2.1.2.kids E2.2.2) : BnL (fun _ => True) W [E1.1, E2.1] (.slice (some ⟨g, 0, none⟩) 2 2) := by
 have h : W.ownsRow 0 53 8 (.slice (some ⟨g, 0, none⟩) 2 2) 2 (flatB [E1, E2]) := by
  have e : flatB [E1, E2] = bCells E1 ++ bCells E2 := by simp [flatB]
  rw [e]
  exact ⟨rfl, .inr ⟨g, 2, _, rfl, Nat.zero_le _, hb, by omega, by unfold maxLen; omega, rfl, rfl⟩⟩
 refine bnl_of_row (E := [E1, E2]) h (fun e he => ?_) (fun _ _ => trivial)
 rcases List.mem_cons.1 he with rfl | he
 ·exact ⟨h1.mono (fun _ _ _ => trivial), h2.mono (fun _ _ _ => trivial)⟩
 ·rw [List.mem_singleton.1 he]; exact ⟨h3.mono (fun _ _ _ => trivial), h4.mono (fun _ _ _ => trivial)⟩
abbrev zS : Value := .slice none 0 0
theorem bnl_sw {W : World} {g : Nat} {x y : ByteArray} (hb : Blk W g 53 [Value.string x, .int .i64 20, .string y, .int .i64 0, .int .i64 0, .string ⟨#[]⟩, .slice none 0 0, .slice none 0 0, .string y, .int .i64 20, .string x, .int .i64 0, .int .i64 0, .string ⟨#[]⟩, .slice none 0 0, .slice none 0 0]) : BnL (fun _ => True) W (swL x y) (.slice (some ⟨g, 0, none⟩) 2 2) :=
 bnl_two (E1 := ((x, nameT y), zS, zS)) (E2 := ((y, nameT x), zS, zS)) hb (.nil (Or.inl rfl)) (.nil (Or.inl rfl)) (.nil (Or.inl rfl)) (.nil (Or.inl rfl))
theorem swL_sm {x y : ByteArray} (hx : namedB x = true) (hy : namedB y = true) : ∀ b, b ∈ swL x y → SmTm big b.2 := fun b hb => ok_smt (swL_ok hx hy b hb)
theorem swL_nm {x y : ByteArray} (hx : x.size ≤ maxLen) (hy : y.size ≤ maxLen) : ∀ b, b ∈ swL x y → b.1.size ≤ maxLen := by
 intro b hb
 rcases List.mem_cons.1 hb with rfl | hb
 ·exact hx
 ·rw [List.mem_singleton.1 hb]; exact hy
theorem sw_any {a : Tm} {x y : ByteArray} {w : World} {tk kk : Value} (hgl : Gl w) (hp : P10 w) (h1 : TyL (fun _ => True) w a.ty.kids tk) (h2 : TmL (fun _ => True) w a.kids kk) (ha : SmTm big a) (hx : x.size ≤ maxLen) (hy : y.size ≤ maxLen) :
  Calls Tryz.prog 11 #[tmVal a tk kk, .string x, .string y] w (EsOk w) := by
 obtain ⟨p0, n0, c0, rfl⟩ := h1.slice
 obtain ⟨ma0, mn0, mc0, rfl⟩ := h2.slice
 have H15 := Ld (fun W (k : Kept (fun _ => False) w W) => awake_any W (hgl.kept k (fun h => h) (fun h => h)))
 have HV := Ld (fun W (k : Kept (fun _ => False) w W) => rvalid_any (h1.frame (sK k)) (h2.frame (sK k)) ha)
 have HX := Ld (fun (hxb : namedB x = true) (hyb : namedB y = true) W (k : Kept (fun _ => False) w W) (g : Nat) (hg : Blk W g 53 [Value.string x, .int .i64 20, .string y, .int .i64 0, .int .i64 0, .string ⟨#[]⟩, .slice none 0 0, .slice none 0 0, .string y, .int .i64 20, .string x, .int .i64 0, .int .i64 0, .string ⟨#[]⟩, .slice none 0 0, .slice none 0 0]) => subst_any (h1.frame (sK k)) (h2.frame (sK k)) ha (bnl_sw hg) (swL_sm hxb hyb) (swL_nm hx hy) (show 2 ≤ 200 by decide) (hp.kept k))
 have HY := Ld (fun (hxb : namedB x = true) (hyb : namedB y = true) (u : Tm) (hu : SmTm big u) (tk' kk' : Value) W (k : Kept (fun _ => False) w W) (h5 : TyL (fun _ => True) W u.ty.kids tk') (h6 : TmL (fun _ => True) W u.kids kk') (g : Nat) (hg : Blk W g 53 [Value.string x, .int .i64 20, .string y, .int .i64 0, .int .i64 0, .string ⟨#[]⟩, .slice none 0 0, .slice none 0 0, .string y, .int .i64 20, .string x, .int .i64 0, .int .i64 0, .string ⟨#[]⟩, .slice none 0 0, .slice none 0 0]) => subst_any h5 h6 hu (bnl_sw hg) (swL_sm hxb hyb) (swL_nm hx hy) (show 2 ≤ 200 by decide) (hp.kept k))
 have HA1 := Ld (fun (v : Tm) (hv : SmTm big v) (tk' kk' : Value) W (k : Kept (fun _ => False) w W) (h5 : TyL (fun _ => True) W v.ty.kids tk') (h6 : TmL (fun _ => True) W v.kids kk') => (⟨ralikes_any (h1.frame (sK k)) (h2.frame (sK k)) h5 h6 ha hv, alike_any h5 h6 (h1.frame (sK k)) (h2.frame (sK k)) hv ha⟩ : _ ∧ _))
 have HN1 := Ld (fun (b : Bool) (h : namedB x = b) => rnamed_t h (by unfold maxLen at hx; omega))
 have HN2 := Ld (fun (b : Bool) (h : namedB y = b) => rnamed_t h (by unfold maxLen at hy; omega))
 have HPL := Ld (fun (hv : validB a = true) (hxb : namedB x = true) (hyb : namedB y = true) => sw_all hv hxb hyb)
 clear h1 h2 ha hgl hp hx hy
 unfold tmVal at HX HY HA1 ⊢
 have B0 : Hid (Blk (w.alloc (.cells #[.int .i64 a.op, .string a.name, .int .i64 a.n, .int .i64 a.ty.kind, .string a.ty.name, .slice p0 n0 c0, .slice ma0 mn0 mc0] 28)) w.heap.size 28 [Value.int .i64 a.op, .string a.name, .int .i64 a.n, .int .i64 a.ty.kind, .string a.ty.name, .slice p0 n0 c0, .slice ma0 mn0 mc0] ∧ Kept (fun _ => False) w (w.alloc (.cells #[.int .i64 a.op, .string a.name, .int .i64 a.n, .int .i64 a.ty.kind, .string a.ty.name, .slice p0 n0 c0, .slice ma0 mn0 mc0] 28))) := Ld ⟨Blk.new w 28 _, (Kept.refl _ _).alloc _⟩
 go_enter Tryz.func11, Tryz.ntmps11
 go_upto_region 1 with (fail)
 generalize w.alloc (.cells #[.int .i64 a.op, .string a.name, .int .i64 a.n, .int .i64 a.ty.kind, .string a.ty.name, .slice p0 n0 c0, .slice ma0 mn0 mc0] 28) = w1 at *
 have gA : ∀ i, w1.cell? ⟨w.heap.size, i, none⟩ = [Value.int .i64 a.op, .string a.name, .int .i64 a.n, .int .i64 a.ty.kind, .string a.ty.name, .slice p0 n0 c0, .slice ma0 mn0 mc0][i]? := (B0.out.1).cell
 go_wp2_with fail
 refine (HV.out w1 B0.out.2).mono ?_
 rintro e w2 ⟨rfl, k2⟩
 have B1 : Hid (Blk w2 w.heap.size 28 [Value.int .i64 a.op, .string a.name, .int .i64 a.n, .int .i64 a.ty.kind, .string a.ty.name, .slice p0 n0 c0, .slice ma0 mn0 mc0] ∧ Kept (fun _ => False) w w2) := Ld ⟨(B0.out.1).kept k2 (fun h => h), (B0.out.2).trans k2⟩
 clear k2 gA HV
 cases hva : validB a
 ·have K1 := Ld B1.out.2
  clear HX HY HPL HA1 HN1 HN2 hva B0 B1
  go_wp2_with fail
  refine (H15.out w2 K1.out).mono ?_
  rintro e w9 ⟨rfl, k9⟩
  have HK9 := Ld (K1.out.trans k9)
  clear k9
  go_wp2_with fail
  go_ret
  exact ⟨rfl, HK9.out⟩
 ·have HPL1 := Ld (HPL.out hva)
  clear HPL hva B0
  cases hxb : namedB x
  ·have HNN := Ld (HN1.out false hxb w2)
   have K1 := Ld B1.out.2
   clear HX HY HPL1 HA1 HN1 HN2 hxb B1
   go_wp2_with fail
   refine HNN.out.mono ?_
   rintro e w3 ⟨rfl, k3⟩
   have K3 := Ld (K1.out.trans k3)
   clear k3 K1 HNN
   go_wp2_with fail
   refine (H15.out w3 K3.out).mono ?_
   rintro e w9 ⟨rfl, k9⟩
   have HK9 := Ld (K3.out.trans k9)
   clear k9
   go_wp2_with fail
   go_ret
   exact ⟨rfl, HK9.out⟩
  ·have HNN := Ld (HN1.out true hxb w2)
   have HX1 := Ld (HX.out hxb)
   have HY1 := Ld (HY.out hxb)
   have HPL2 := Ld (HPL1.out hxb)
   clear HX HY HPL1 HN1 hxb
   go_wp2_with fail
   refine HNN.out.mono ?_
   rintro e w3 ⟨rfl, k3⟩
   have B2 : Hid (Blk w3 w.heap.size 28 [Value.int .i64 a.op, .string a.name, .int .i64 a.n, .int .i64 a.ty.kind, .string a.ty.name, .slice p0 n0 c0, .slice ma0 mn0 mc0] ∧ Kept (fun _ => False) w w3) := Ld ⟨(B1.out.1).kept k3 (fun h => h), (B1.out.2).trans k3⟩
   clear k3 HNN B1
   cases hyb : namedB y
   ·have HNN := Ld (HN2.out false hyb w3)
    have K1 := Ld B2.out.2
    clear HX1 HY1 HPL2 HA1 HN2 hyb B2
    go_wp2_with fail
    refine HNN.out.mono ?_
    rintro e w4 ⟨rfl, k4⟩
    have K3 := Ld (K1.out.trans k4)
    clear k4 K1 HNN
    go_wp2_with fail
    refine (H15.out w4 K3.out).mono ?_
    rintro e w9 ⟨rfl, k9⟩
    have HK9 := Ld (K3.out.trans k9)
    clear k9
    go_wp2_with fail
    go_ret
    exact ⟨rfl, HK9.out⟩
   ·have HNN := Ld (HN2.out true hyb w3)
    have HX2 := Ld (HX1.out hyb)
    have HY2 := Ld (HY1.out hyb)
    have HPL3 := Ld (HPL2.out hyb)
    clear HX1 HY1 HPL2 HN2 hyb
    go_wp2_with fail
    refine HNN.out.mono ?_
    rintro e w4 ⟨rfl, k4⟩
    have B3 : Hid (Blk w4 w.heap.size 28 [Value.int .i64 a.op, .string a.name, .int .i64 a.n, .int .i64 a.ty.kind, .string a.ty.name, .slice p0 n0 c0, .slice ma0 mn0 mc0] ∧ Kept (fun _ => False) w w4) := Ld ⟨(B2.out.1).kept k4 (fun h => h), (B2.out.2).trans k4⟩
    clear k4 HNN B2
    obtain ⟨u, v, hp1, hp2, hsu, hsv, hal1, hal2⟩ := HPL3.out
    have HAL := Ld (⟨hal1, hal2⟩ : _ ∧ _)
    rw [hp1] at HX2
    have HY3 := Ld (HY2.out u hsu)
    rw [hp2] at HY3
    have HA2 := Ld (HA1.out v hsv)
    rw [hal1, hal2] at HA2
    clear HY2 HA1 HPL3 hp1 hp2 hsu hsv hal1 hal2 HAL
    go_upto_region 4 with (fail)
    have k5 : Kept (fun _ => False) w4 (w4.alloc (.cells #[.string x, .int .i64 20, .string y, .int .i64 0, .int .i64 0, .string ⟨#[]⟩, .slice none 0 0, .slice none 0 0, .string y, .int .i64 20, .string x, .int .i64 0, .int .i64 0, .string ⟨#[]⟩, .slice none 0 0, .slice none 0 0] 53)) := (Kept.refl _ _).alloc _
    have B4 : Hid (Blk (w4.alloc (.cells #[.string x, .int .i64 20, .string y, .int .i64 0, .int .i64 0, .string ⟨#[]⟩, .slice none 0 0, .slice none 0 0, .string y, .int .i64 20, .string x, .int .i64 0, .int .i64 0, .string ⟨#[]⟩, .slice none 0 0, .slice none 0 0] 53)) w.heap.size 28 [Value.int .i64 a.op, .string a.name, .int .i64 a.n, .int .i64 a.ty.kind, .string a.ty.name, .slice p0 n0 c0, .slice ma0 mn0 mc0] ∧ Kept (fun _ => False) w (w4.alloc (.cells #[.string x, .int .i64 20, .string y, .int .i64 0, .int .i64 0, .string ⟨#[]⟩, .slice none 0 0, .slice none 0 0, .string y, .int .i64 20, .string x, .int .i64 0, .int .i64 0, .string ⟨#[]⟩, .slice none 0 0, .slice none 0 0] 53)) ∧ Blk (w4.alloc (.cells #[.string x, .int .i64 20, .string y, .int .i64 0, .int .i64 0, .string ⟨#[]⟩, .slice none 0 0, .slice none 0 0, .string y, .int .i64 20, .string x, .int .i64 0, .int .i64 0, .string ⟨#[]⟩, .slice none 0 0, .slice none 0 0] 53)) w4.heap.size 53 [Value.string x, .int .i64 20, .string y, .int .i64 0, .int .i64 0, .string ⟨#[]⟩, .slice none 0 0, .slice none 0 0, .string y, .int .i64 20, .string x, .int .i64 0, .int .i64 0, .string ⟨#[]⟩, .slice none 0 0, .slice none 0 0]) := Ld ⟨(B3.out.1).kept k5 (fun h => h), (B3.out.2).trans k5, Blk.new w4 53 _⟩
    clear k5 B3
    generalize w4.alloc (.cells #[.string x, .int .i64 20, .string y, .int .i64 0, .int .i64 0, .string ⟨#[]⟩, .slice none 0 0, .slice none 0 0, .string y, .int .i64 20, .string x, .int .i64 0, .int .i64 0, .string ⟨#[]⟩, .slice none 0 0, .slice none 0 0] 53) = w5 at *
    generalize w4.heap.size = G at *
    have gA : ∀ i, w5.cell? ⟨w.heap.size, i, none⟩ = [Value.int .i64 a.op, .string a.name, .int .i64 a.n, .int .i64 a.ty.kind, .string a.ty.name, .slice p0 n0 c0, .slice ma0 mn0 mc0][i]? := (B4.out.1).cell
    have HX3 := Ld (HX2.out w5 B4.out.2.1 G B4.out.2.2)
    clear HX2
    go_wp2_with fail
    refine HX3.out.mono ?_
    rintro e w6 ⟨tc, kc, rfl, hty, htm, k6⟩
    have hty : TyL _ w6 u.ty.kids tc := hty
    have htm : TmL _ w6 u.kids kc := htm
    obtain ⟨p1, n1, c1, rfl⟩ := hty.slice
    obtain ⟨ma1, mn1, mc1, rfl⟩ := htm.slice
    have B5 : Hid (Blk w6 w.heap.size 28 [Value.int .i64 a.op, .string a.name, .int .i64 a.n, .int .i64 a.ty.kind, .string a.ty.name, .slice p0 n0 c0, .slice ma0 mn0 mc0] ∧ Kept (fun _ => False) w w6 ∧ Blk w6 G 53 [Value.string x, .int .i64 20, .string y, .int .i64 0, .int .i64 0, .string ⟨#[]⟩, .slice none 0 0, .slice none 0 0, .string y, .int .i64 20, .string x, .int .i64 0, .int .i64 0, .string ⟨#[]⟩, .slice none 0 0, .slice none 0 0] ∧ TyL (fun _ => True) w6 u.ty.kids (.slice p1 n1 c1) ∧ TmL (fun _ => True) w6 u.kids (.slice ma1 mn1 mc1)) := Ld ⟨(B4.out.1).kept k6 (fun h => h), (B4.out.2.1).trans k6, (B4.out.2.2).kept k6 (fun h => h), hty.mono (fun _ _ _ => trivial), htm.mono (fun _ _ _ => trivial)⟩
    clear hty htm k6 HX3 gA B4
    unfold tmVal
    go_upto_region 5 with (fail)
    have k7 : Kept (fun _ => False) w6 (w6.alloc (.cells #[.int .i64 u.op, .string u.name, .int .i64 u.n, .int .i64 u.ty.kind, .string u.ty.name, .slice p1 n1 c1, .slice ma1 mn1 mc1] 28)) := (Kept.refl _ _).alloc _
    have B6 : Hid (Blk (w6.alloc (.cells #[.int .i64 u.op, .string u.name, .int .i64 u.n, .int .i64 u.ty.kind, .string u.ty.name, .slice p1 n1 c1, .slice ma1 mn1 mc1] 28)) w.heap.size 28 [Value.int .i64 a.op, .string a.name, .int .i64 a.n, .int .i64 a.ty.kind, .string a.ty.name, .slice p0 n0 c0, .slice ma0 mn0 mc0] ∧ Kept (fun _ => False) w (w6.alloc (.cells #[.int .i64 u.op, .string u.name, .int .i64 u.n, .int .i64 u.ty.kind, .string u.ty.name, .slice p1 n1 c1, .slice ma1 mn1 mc1] 28)) ∧ Blk (w6.alloc (.cells #[.int .i64 u.op, .string u.name, .int .i64 u.n, .int .i64 u.ty.kind, .string u.ty.name, .slice p1 n1 c1, .slice ma1 mn1 mc1] 28)) G 53 [Value.string x, .int .i64 20, .string y, .int .i64 0, .int .i64 0, .string ⟨#[]⟩, .slice none 0 0, .slice none 0 0, .string y, .int .i64 20, .string x, .int .i64 0, .int .i64 0, .string ⟨#[]⟩, .slice none 0 0, .slice none 0 0] ∧ TyL (fun _ => True) (w6.alloc (.cells #[.int .i64 u.op, .string u.name, .int .i64 u.n, .int .i64 u.ty.kind, .string u.ty.name, .slice p1 n1 c1, .slice ma1 mn1 mc1] 28)) u.ty.kids (.slice p1 n1 c1) ∧ TmL (fun _ => True) (w6.alloc (.cells #[.int .i64 u.op, .string u.name, .int .i64 u.n, .int .i64 u.ty.kind, .string u.ty.name, .slice p1 n1 c1, .slice ma1 mn1 mc1] 28)) u.kids (.slice ma1 mn1 mc1) ∧ Blk (w6.alloc (.cells #[.int .i64 u.op, .string u.name, .int .i64 u.n, .int .i64 u.ty.kind, .string u.ty.name, .slice p1 n1 c1, .slice ma1 mn1 mc1] 28)) w6.heap.size 28 [Value.int .i64 u.op, .string u.name, .int .i64 u.n, .int .i64 u.ty.kind, .string u.ty.name, .slice p1 n1 c1, .slice ma1 mn1 mc1]) := Ld ⟨(B5.out.1).kept k7 (fun h => h), (B5.out.2.1).trans k7, (B5.out.2.2.1).kept k7 (fun h => h), (B5.out.2.2.2.1).frame (sK k7), (B5.out.2.2.2.2).frame (sK k7), Blk.new w6 28 _⟩
    clear k7 B5
    generalize w6.alloc (.cells #[.int .i64 u.op, .string u.name, .int .i64 u.n, .int .i64 u.ty.kind, .string u.ty.name, .slice p1 n1 c1, .slice ma1 mn1 mc1] 28) = w7 at *
    generalize w6.heap.size = P at *
    have gS : ∀ i, w7.cell? ⟨P, i, none⟩ = [Value.int .i64 u.op, .string u.name, .int .i64 u.n, .int .i64 u.ty.kind, .string u.ty.name, .slice p1 n1 c1, .slice ma1 mn1 mc1][i]? := (B6.out.2.2.2.2.2).cell
    have HY4 := Ld (HY3.out _ _ w7 B6.out.2.1 B6.out.2.2.2.1 B6.out.2.2.2.2.1 G B6.out.2.2.1)
    clear HY3
    go_wp2_with fail
    refine HY4.out.mono ?_
    rintro e w8 ⟨tc, kc, rfl, hty, htm, k8⟩
    have hty : TyL _ w8 v.ty.kids tc := hty
    have htm : TmL _ w8 v.kids kc := htm
    obtain ⟨p2, n2, c2, rfl⟩ := hty.slice
    obtain ⟨ma2, mn2, mc2, rfl⟩ := htm.slice
    have B7 : Hid (Blk w8 w.heap.size 28 [Value.int .i64 a.op, .string a.name, .int .i64 a.n, .int .i64 a.ty.kind, .string a.ty.name, .slice p0 n0 c0, .slice ma0 mn0 mc0] ∧ Kept (fun _ => False) w w8 ∧ Blk w8 G 53 [Value.string x, .int .i64 20, .string y, .int .i64 0, .int .i64 0, .string ⟨#[]⟩, .slice none 0 0, .slice none 0 0, .string y, .int .i64 20, .string x, .int .i64 0, .int .i64 0, .string ⟨#[]⟩, .slice none 0 0, .slice none 0 0] ∧ TyL (fun _ => True) w8 u.ty.kids (.slice p1 n1 c1) ∧ TmL (fun _ => True) w8 u.kids (.slice ma1 mn1 mc1) ∧ Blk w8 P 28 [Value.int .i64 u.op, .string u.name, .int .i64 u.n, .int .i64 u.ty.kind, .string u.ty.name, .slice p1 n1 c1, .slice ma1 mn1 mc1] ∧ TyL (fun _ => True) w8 v.ty.kids (.slice p2 n2 c2) ∧ TmL (fun _ => True) w8 v.kids (.slice ma2 mn2 mc2)) := Ld ⟨(B6.out.1).kept k8 (fun h => h), (B6.out.2.1).trans k8, (B6.out.2.2.1).kept k8 (fun h => h), (B6.out.2.2.2.1).frame (sK k8), (B6.out.2.2.2.2.1).frame (sK k8), (B6.out.2.2.2.2.2).kept k8 (fun h => h), hty.mono (fun _ _ _ => trivial), htm.mono (fun _ _ _ => trivial)⟩
    clear hty htm k8 HY4 gS B6
    unfold tmVal
    go_upto_region 6 with (fail)
    have k9 : Kept (fun _ => False) w8 (w8.alloc (.cells #[.int .i64 v.op, .string v.name, .int .i64 v.n, .int .i64 v.ty.kind, .string v.ty.name, .slice p2 n2 c2, .slice ma2 mn2 mc2] 28)) := (Kept.refl _ _).alloc _
    have B8 : Hid (Blk (w8.alloc (.cells #[.int .i64 v.op, .string v.name, .int .i64 v.n, .int .i64 v.ty.kind, .string v.ty.name, .slice p2 n2 c2, .slice ma2 mn2 mc2] 28)) w.heap.size 28 [Value.int .i64 a.op, .string a.name, .int .i64 a.n, .int .i64 a.ty.kind, .string a.ty.name, .slice p0 n0 c0, .slice ma0 mn0 mc0] ∧ Kept (fun _ => False) w (w8.alloc (.cells #[.int .i64 v.op, .string v.name, .int .i64 v.n, .int .i64 v.ty.kind, .string v.ty.name, .slice p2 n2 c2, .slice ma2 mn2 mc2] 28)) ∧ Blk (w8.alloc (.cells #[.int .i64 v.op, .string v.name, .int .i64 v.n, .int .i64 v.ty.kind, .string v.ty.name, .slice p2 n2 c2, .slice ma2 mn2 mc2] 28)) G 53 [Value.string x, .int .i64 20, .string y, .int .i64 0, .int .i64 0, .string ⟨#[]⟩, .slice none 0 0, .slice none 0 0, .string y, .int .i64 20, .string x, .int .i64 0, .int .i64 0, .string ⟨#[]⟩, .slice none 0 0, .slice none 0 0] ∧ TyL (fun _ => True) (w8.alloc (.cells #[.int .i64 v.op, .string v.name, .int .i64 v.n, .int .i64 v.ty.kind, .string v.ty.name, .slice p2 n2 c2, .slice ma2 mn2 mc2] 28)) u.ty.kids (.slice p1 n1 c1) ∧ TmL (fun _ => True) (w8.alloc (.cells #[.int .i64 v.op, .string v.name, .int .i64 v.n, .int .i64 v.ty.kind, .string v.ty.name, .slice p2 n2 c2, .slice ma2 mn2 mc2] 28)) u.kids (.slice ma1 mn1 mc1) ∧ Blk (w8.alloc (.cells #[.int .i64 v.op, .string v.name, .int .i64 v.n, .int .i64 v.ty.kind, .string v.ty.name, .slice p2 n2 c2, .slice ma2 mn2 mc2] 28)) P 28 [Value.int .i64 u.op, .string u.name, .int .i64 u.n, .int .i64 u.ty.kind, .string u.ty.name, .slice p1 n1 c1, .slice ma1 mn1 mc1] ∧ TyL (fun _ => True) (w8.alloc (.cells #[.int .i64 v.op, .string v.name, .int .i64 v.n, .int .i64 v.ty.kind, .string v.ty.name, .slice p2 n2 c2, .slice ma2 mn2 mc2] 28)) v.ty.kids (.slice p2 n2 c2) ∧ TmL (fun _ => True) (w8.alloc (.cells #[.int .i64 v.op, .string v.name, .int .i64 v.n, .int .i64 v.ty.kind, .string v.ty.name, .slice p2 n2 c2, .slice ma2 mn2 mc2] 28)) v.kids (.slice ma2 mn2 mc2) ∧ Blk (w8.alloc (.cells #[.int .i64 v.op, .string v.name, .int .i64 v.n, .int .i64 v.ty.kind, .string v.ty.name, .slice p2 n2 c2, .slice ma2 mn2 mc2] 28)) w8.heap.size 28 [Value.int .i64 v.op, .string v.name, .int .i64 v.n, .int .i64 v.ty.kind, .string v.ty.name, .slice p2 n2 c2, .slice ma2 mn2 mc2]) := Ld ⟨(B7.out.1).kept k9 (fun h => h), (B7.out.2.1).trans k9, (B7.out.2.2.1).kept k9 (fun h => h), (B7.out.2.2.2.1).frame (sK k9), (B7.out.2.2.2.2.1).frame (sK k9), (B7.out.2.2.2.2.2.1).kept k9 (fun h => h), (B7.out.2.2.2.2.2.2.1).frame (sK k9), (B7.out.2.2.2.2.2.2.2).frame (sK k9), Blk.new w8 28 _⟩
    clear k9 B7
    generalize w8.alloc (.cells #[.int .i64 v.op, .string v.name, .int .i64 v.n, .int .i64 v.ty.kind, .string v.ty.name, .slice p2 n2 c2, .slice ma2 mn2 mc2] 28) = w9 at *
    generalize w8.heap.size = Q at *
    have gA : ∀ i, w9.cell? ⟨w.heap.size, i, none⟩ = [Value.int .i64 a.op, .string a.name, .int .i64 a.n, .int .i64 a.ty.kind, .string a.ty.name, .slice p0 n0 c0, .slice ma0 mn0 mc0][i]? := (B8.out.1).cell
    have gT : ∀ i, w9.cell? ⟨Q, i, none⟩ = [Value.int .i64 v.op, .string v.name, .int .i64 v.n, .int .i64 v.ty.kind, .string v.ty.name, .slice p2 n2 c2, .slice ma2 mn2 mc2][i]? := (B8.out.2.2.2.2.2.2.2.2).cell
    have HR1 := Ld (HA2.out _ _ w9 B8.out.2.1 B8.out.2.2.2.2.2.2.1 B8.out.2.2.2.2.2.2.2.1).1
    unfold tmVal at HR1
    go_wp2_with fail
    refine HR1.out.mono ?_
    rintro e w10 ⟨rfl, k10⟩
    clear gA gT
    have B9 : Hid (Blk w10 w.heap.size 28 [Value.int .i64 a.op, .string a.name, .int .i64 a.n, .int .i64 a.ty.kind, .string a.ty.name, .slice p0 n0 c0, .slice ma0 mn0 mc0] ∧ Kept (fun _ => False) w w10 ∧ Blk w10 G 53 [Value.string x, .int .i64 20, .string y, .int .i64 0, .int .i64 0, .string ⟨#[]⟩, .slice none 0 0, .slice none 0 0, .string y, .int .i64 20, .string x, .int .i64 0, .int .i64 0, .string ⟨#[]⟩, .slice none 0 0, .slice none 0 0] ∧ TyL (fun _ => True) w10 u.ty.kids (.slice p1 n1 c1) ∧ TmL (fun _ => True) w10 u.kids (.slice ma1 mn1 mc1) ∧ Blk w10 P 28 [Value.int .i64 u.op, .string u.name, .int .i64 u.n, .int .i64 u.ty.kind, .string u.ty.name, .slice p1 n1 c1, .slice ma1 mn1 mc1] ∧ TyL (fun _ => True) w10 v.ty.kids (.slice p2 n2 c2) ∧ TmL (fun _ => True) w10 v.kids (.slice ma2 mn2 mc2) ∧ Blk w10 Q 28 [Value.int .i64 v.op, .string v.name, .int .i64 v.n, .int .i64 v.ty.kind, .string v.ty.name, .slice p2 n2 c2, .slice ma2 mn2 mc2]) := Ld ⟨(B8.out.1).kept k10 (fun h => h), (B8.out.2.1).trans k10, (B8.out.2.2.1).kept k10 (fun h => h), (B8.out.2.2.2.1).frame (sK k10), (B8.out.2.2.2.2.1).frame (sK k10), (B8.out.2.2.2.2.2.1).kept k10 (fun h => h), (B8.out.2.2.2.2.2.2.1).frame (sK k10), (B8.out.2.2.2.2.2.2.2.1).frame (sK k10), (B8.out.2.2.2.2.2.2.2.2).kept k10 (fun h => h)⟩
    clear k10 B8 HR1
    have gA : ∀ i, w10.cell? ⟨w.heap.size, i, none⟩ = [Value.int .i64 a.op, .string a.name, .int .i64 a.n, .int .i64 a.ty.kind, .string a.ty.name, .slice p0 n0 c0, .slice ma0 mn0 mc0][i]? := (B9.out.1).cell
    have gT : ∀ i, w10.cell? ⟨Q, i, none⟩ = [Value.int .i64 v.op, .string v.name, .int .i64 v.n, .int .i64 v.ty.kind, .string v.ty.name, .slice p2 n2 c2, .slice ma2 mn2 mc2][i]? := (B9.out.2.2.2.2.2.2.2.2).cell
    have HR2 := Ld (HA2.out _ _ w10 B9.out.2.1 B9.out.2.2.2.2.2.2.1 B9.out.2.2.2.2.2.2.2.1).2
    unfold tmVal at HR2
    go_wp2_with fail
    refine HR2.out.mono ?_
    rintro e w11 ⟨rfl, k11⟩
    have K11 := Ld ((B9.out.2.1).trans k11)
    clear gA gT k11 HR2 B9
    go_wp2_with fail
    refine (H15.out w11 K11.out).mono ?_
    rintro e w12 ⟨rfl, k12⟩
    have K12 := Ld (K11.out.trans k12)
    clear k12
    go_wp2_with fail
    go_ret
    exact ⟨rfl, K12.out⟩
end Go.Proofs.YtfhedienjnfdcaaGreatDoor
