/- Texts ROrd RCmp AlW of this proof, in one. -/
import Derived.Test.YtfhedienjnfdcaaGreatDoorG27
import Derived.Test.YtfhedienjnfdcaaGreatDoorG28
import Derived.Test.YtfhedienjnfdcaaGreatDoorG30
import Derived.Test.YtfhedienjnfdcaaGreatDoorG33
import Derived.StillTailTactics
set_option linter.unusedVariables false
set_option linter.unusedSimpArgs false
set_option maxRecDepth 100000
set_option maxHeartbeats 32000000
namespace Go.Proofs.YtfhedienjnfdcaaGreatDoor
open Go.RowKit
theorem rnum_any (a b : Int) (w : World) : Calls Tryz.prog 120 #[.int .i64 a, .int .i64 b] w fun e w' => e = .returned (.int .i64 (toI (cmpI a b))) ∧ w = w' := by
 by_cases h1 : a < b
 ·have hc : cmpI a b = .lt := by unfold cmpI; rw [if_pos h1]
  rw [hc]
  have t1 : decide (a < b) = true := decide_eq_true h1
  clear hc h1
  go_enter Tryz.func120, Tryz.ntmps120
  go_wp2_with fail
  go_ret
  exact ⟨rfl, rfl⟩
 ·by_cases h2 : b < a
  ·have hc : cmpI a b = .gt := by unfold cmpI; rw [if_neg h1, if_pos h2]
   rw [hc]
   have t1 : decide (a < b) = false := decide_eq_false h1
   have t2 : decide (b < a) = true := decide_eq_true h2
   clear hc h1 h2
   go_enter Tryz.func120, Tryz.ntmps120
   go_wp2_with fail
   go_ret
   exact ⟨rfl, rfl⟩
  ·have hc : cmpI a b = .eq := by unfold cmpI; rw [if_neg h1, if_neg h2]
   rw [hc]
   have t1 : decide (a < b) = false := decide_eq_false h1
   have t2 : decide (b < a) = false := decide_eq_false h2
   clear hc h1 h2
   go_enter Tryz.func120, Tryz.ntmps120
   go_wp2_with fail
   go_ret
   exact ⟨rfl, rfl⟩
theorem less_cmp : ∀ (a b : List UInt8), Op.bytesLess a b = (cmpB a b == .lt)
 | [], [] => rfl
 | [], _ :: _ => rfl
 | _ :: _, [] => rfl
 | a :: l, b :: r => by
  rw [cmpB]
  unfold Op.bytesLess
  by_cases h1 : a < b
  ·simp [h1]
  ·by_cases h2 : b < a
   ·have : a ≠ b := fun e => by subst e; exact h1 h2
    simp [h1, h2, this]
   ·have : a = b := UInt8.toNat.inj (by simp only [UInt8.lt_iff_toNat_lt] at h1 h2; omega)
    subst this
    have := less_cmp l r
    simp [h1, this]
theorem rtext_any (a b : ByteArray) (w : World) : Calls Tryz.prog 121 #[.string a, .string b] w fun e w' => e = .returned (.int .i64 (toI (cmpB a.data.toList b.data.toList))) ∧ w = w' := by
 have e1 : Op.bytesLess a.toList b.toList = (cmpB a.data.toList b.data.toList == .lt) := by rw [less_cmp, Go.ByteArray.toList_eq, Go.ByteArray.toList_eq]
 have e2 : (a.toList == b.toList) = (cmpB a.data.toList b.data.toList == .eq) := by
  rw [Go.ByteArray.toList_eq, Go.ByteArray.toList_eq, Bool.eq_iff_iff, beq_iff_eq, beq_iff_eq, cmpB_zero]
 cases hc : cmpB a.data.toList b.data.toList
 all_goals
  rw [hc] at e1 e2
  clear hc
  go_enter Tryz.func121, Tryz.ntmps121
  go_wp2_with fail
  go_ret
  exact ⟨rfl, rfl⟩
theorem rfty_any {t : Ty} (h : (validTyB t = true) ∨ t = ty0) (hs : SmTy big t) {w : World} {ok : Nat → Prop} {tk : Value} (hk : TyL ok w t.kids tk) : Calls Tryz.prog 122 #[tyVal t tk] w fun e w' => e = .returned (.string (str (tyShow t))) ∧ Kept (fun _ => False) w w' := by
 obtain ⟨a, n, c, rfl⟩ := hk.slice
 unfold tyVal
 have K0 : Kept (fun _ => False) w (w.alloc (.cells #[.int .i64 t.kind, .string t.name, .slice a n c] 26)) := (Kept.refl _ _).alloc _
 have BA := Ld (Blk.new w 26 [.int .i64 t.kind, .string t.name, .slice a n c])
 change Hid (Blk (w.alloc (.cells #[.int .i64 t.kind, .string t.name, .slice a n c] 26)) _ _ _) at BA
 have HV := Ld (rvalidTy_any (hk.frame (sK K0)) hs)
 have HSH := Ld (fun (hv : validTyB t = true) W (k : Kept (fun _ => False) w W) => rs_any (validTy_ok hv).1 (by have := (validTy_ok hv).2; omega) W ok _ (hk.frame (sK k)) (by have := (validTy_ok hv).2; omega))
 have HK := Ld K0
 clear hk hs K0
 unfold tyVal at HSH
 have HZ0 : Hid (t = ty0 → str (tyShow t) = ⟨#[]⟩) := Ld (fun h => by rw [h]; rfl)
 generalize str (tyShow t) = s at *
 go_enter Tryz.func122, Tryz.ntmps122
 go_wp2_with fail
 generalize w.alloc (.cells #[.int .i64 t.kind, .string t.name, .slice a n c] 26) = w1 at *
 refine HV.out.mono ?_
 rintro e w2 ⟨rfl, k2⟩
 cases hv : validTyB t
 ·have hz : Hid (s = ⟨#[]⟩) := Ld (by
   rcases h with h | h
   ·rw [h] at hv; cases hv
   ·exact HZ0.out h)
  clear h hv HSH HV HZ0
  go_wp2_with fail
  go_ret
  exact ⟨by rw [hz.out]; rfl, HK.out.trans k2⟩
 ·have HS2 := Ld (HSH.out hv w2 (HK.out.trans k2))
  have gA := (BA.out.kept k2 (fun h => h)).cell
  clear h hv HSH HV HZ0
  go_wp2_with fail
  refine HS2.out.mono ?_
  rintro e w3 ⟨rfl, k3⟩
  go_wp2_with fail
  go_ret
  exact ⟨rfl, (HK.out.trans k2).trans k3⟩
def ROdC (t : Tm) : Prop := ∀ (t' : Tm) (w : World) (ok ok' : Nat → Prop) (tk kk tk' kk' : Value), validB t = true → SmTm big t → validB t' = true → SmTm big t' → TyL ok w t.ty.kids tk → TmL ok w t.kids kk → TyL ok' w t'.ty.kids tk' → TmL ok' w t'.kids kk' →
 Calls Tryz.prog 72 #[tmVal t tk kk, tmVal t' tk' kk'] w fun e w' => e = .returned (.int .i64 (toI (cmpT tyShow t t'))) ∧ Kept (fun _ => False) w w'
theorem valid_ty {t : Tm} (h : validB t = true) : validTyB t.ty = true ∨ t.ty = ty0 := by
 obtain ⟨_, _, _, h4⟩ := formed_parts ((valid_iff t).1 h).1.formed
 unfold tyOk at h4
 by_cases e : t.op = 29
 ·rw [if_pos e, Bool.and_eq_true] at h4; exact .inl h4.2
 ·rw [if_neg e] at h4; exact .inr (zero_ty h4)
theorem SmTm.sty {N : Nat} {t : Tm} (h : SmTm N t) : SmTy N t.ty := by cases h; assumption
theorem valid_kid {t u : Tm} (h : validB t = true) (hu : u ∈ t.kids) : validB u = true := (valid_iff u).2 (subt_ok ((valid_iff t).1 h) hu)
theorem rorder_one {op : Int} {nm : ByteArray} {N : Int} {ty : Ty} {l : List Tm} (IH : ∀ u, u ∈ l → ROdC u) : ROdC (.mk op nm N ty l) := by
 rintro ⟨op', nm', N', ty', l'⟩ w ok ok' tk kk tk' kk' v1 s1 v2 s2 h1 h2 h3 h4
 have h1 : TyL ok w ty.kids tk := h1
 have h2 : TmL ok w l kk := h2
 have h3 : TyL ok' w ty'.kids tk' := h3
 have h4 : TmL ok' w l' kk' := h4
 obtain ⟨a, n, c, rfl⟩ := h1.slice
 obtain ⟨ma, mn, mc, rfl⟩ := h2.slice
 obtain ⟨a', n', c', rfl⟩ := h3.slice
 obtain ⟨ma', mn', mc', rfl⟩ := h4.slice
 obtain rfl : mn = l.length := h2.len
 obtain rfl : mn' = l'.length := h4.len
 change Calls Tryz.prog 72 #[.agg #[.int .i64 op, .string nm, .int .i64 N, .int .i64 ty.kind, .string ty.name, .slice a n c, .slice ma l.length mc], .agg #[.int .i64 op', .string nm', .int .i64 N', .int .i64 ty'.kind, .string ty'.name, .slice a' n' c', .slice ma' l'.length mc']] w _
 have bA : Blk ((w.alloc (.cells #[.int .i64 op, .string nm, .int .i64 N, .int .i64 ty.kind, .string ty.name, .slice a n c, .slice ma l.length mc] 28)).alloc (.cells #[.int .i64 op', .string nm', .int .i64 N', .int .i64 ty'.kind, .string ty'.name, .slice a' n' c', .slice ma' l'.length mc'] 28)) w.heap.size 28 [.int .i64 op, .string nm, .int .i64 N, .int .i64 ty.kind, .string ty.name, .slice a n c, .slice ma l.length mc] := (Blk.new w 28 _).alloc _
 have bB : Blk ((w.alloc (.cells #[.int .i64 op, .string nm, .int .i64 N, .int .i64 ty.kind, .string ty.name, .slice a n c, .slice ma l.length mc] 28)).alloc (.cells #[.int .i64 op', .string nm', .int .i64 N', .int .i64 ty'.kind, .string ty'.name, .slice a' n' c', .slice ma' l'.length mc'] 28)) (w.heap.size + 1) 28 [.int .i64 op', .string nm', .int .i64 N', .int .i64 ty'.kind, .string ty'.name, .slice a' n' c', .slice ma' l'.length mc'] := Blk.new' 28 _ (by simp)
 have K1 : Kept (fun _ => False) w ((w.alloc (.cells #[.int .i64 op, .string nm, .int .i64 N, .int .i64 ty.kind, .string ty.name, .slice a n c, .slice ma l.length mc] 28)).alloc (.cells #[.int .i64 op', .string nm', .int .i64 N', .int .i64 ty'.kind, .string ty'.name, .slice a' n' c', .slice ma' l'.length mc'] 28)) := ((Kept.refl _ _).alloc _).alloc _
 have HLN : Hid (l.length ≤ 1000000 ∧ l'.length ≤ 1000000) := Ld ⟨(by have := valid_bd v1; cases this; assumption), (by have := valid_bd v2; cases this; assumption)⟩
 have HT := Ld (fun W (kW : Kept (fun _ => False) w W) => rfty_any (t := ty) (valid_ty v1) s1.sty (h1.frame (Same.of_kept kW (fun k h e => e))))
 have HT' := Ld (fun W (kW : Kept (fun _ => False) w W) => rfty_any (t := ty') (valid_ty v2) s2.sty (h3.frame (Same.of_kept kW (fun k h e => e))))
 have HZ := Ld (fun W (kW : Kept (fun _ => False) w W) => rsize_of (t := .mk op nm N ty l) (show TyL ok W ty.kids _ from h1.frame (Same.of_kept kW (fun k h e => e))) (show TmL ok W l _ from h2.frame (Same.of_kept kW (fun k h e => e))) s1)
 have HZ' := Ld (fun W (kW : Kept (fun _ => False) w W) => rsize_of (t := .mk op' nm' N' ty' l') (show TyL ok' W ty'.kids _ from h3.frame (Same.of_kept kW (fun k h e => e))) (show TmL ok' W l' _ from h4.frame (Same.of_kept kW (fun k h e => e))) s2)
 have HAT := Ld (fun W (k : Kept (fun _ => False) w W) => (h2.frame (sK k)).at)
 have HAT' := Ld (fun W (k : Kept (fun _ => False) w W) => (h4.frame (sK k)).at)
 have HIH := Ld (fun j (hj : j < l.length) j' (hj' : j' < l'.length) W ok ok' a1 a2 a3 a4 => IH _ (List.getElem_mem hj) l'[j'] W ok ok' a1 a2 a3 a4 (valid_kid v1 (List.getElem_mem hj)) (s1.kids _ (List.getElem_mem hj)) (valid_kid v2 (List.getElem_mem hj')) (s2.kids _ (List.getElem_mem hj')))
 have HOR := Ld (cmpT_or (op := op) (op' := op') (nm := nm) (nm' := nm') (N := N) (N' := N') (ty := ty) (ty' := ty') (l := l) (l' := l'))
 have hz1 : szA (.mk op nm N ty l) = (tmN (.mk op nm N ty l) : Int) := by unfold szA; rw [if_pos v1]
 have hz2 : szA (.mk op' nm' N' ty' l') = (tmN (.mk op' nm' N' ty' l') : Int) := by unfold szA; rw [if_pos v2]
 rw [hz1] at HZ
 rw [hz2] at HZ'
 clear hz1 hz2
 change Hid (∀ W, Kept (fun _ => False) w W → Calls Tryz.prog 90 #[.agg #[.int .i64 op, .string nm, .int .i64 N, .int .i64 ty.kind, .string ty.name, .slice a n c, .slice ma l.length mc]] W _) at HZ
 change Hid (∀ W, Kept (fun _ => False) w W → Calls Tryz.prog 90 #[.agg #[.int .i64 op', .string nm', .int .i64 N', .int .i64 ty'.kind, .string ty'.name, .slice a' n' c', .slice ma' l'.length mc']] W _) at HZ'
 unfold tyVal at HT HT'
 clear h1 h2 h3 h4 IH v1 v2 s1 s2
 generalize (tmN (.mk op nm N ty l) : Int) = z1 at *
 generalize (tmN (.mk op' nm' N' ty' l') : Int) = z2 at *
 generalize szB (.mk op nm N ty l) = y1 at *
 generalize szB (.mk op' nm' N' ty' l') = y2 at *
 generalize toI (cmpT tyShow (.mk op nm N ty l) (.mk op' nm' N' ty' l')) = rr at *
 go_enter Tryz.func72, Tryz.ntmps72
 go_wp2_with fail
 generalize ((w.alloc (.cells #[.int .i64 op, .string nm, .int .i64 N, .int .i64 ty.kind, .string ty.name, .slice a n c, .slice ma l.length mc] 28)).alloc (.cells #[.int .i64 op', .string nm', .int .i64 N', .int .i64 ty'.kind, .string ty'.name, .slice a' n' c', .slice ma' l'.length mc'] 28)) = w1 at *
 refine (HZ.out _ K1).mono ?_
 rintro e w2 ⟨rfl, k2⟩
 have gB2 : ∀ i, w2.cell? ⟨w.heap.size + 1, i, none⟩ = [Value.int .i64 op', .string nm', .int .i64 N', .int .i64 ty'.kind, .string ty'.name, .slice a' n' c', .slice ma' l'.length mc'][i]? := (bB.kept k2 (fun h => h)).cell
 go_wp2_with fail
 clear gB2
 refine (HZ'.out _ (K1.trans k2)).mono ?_
 rintro e w3 ⟨rfl, k3⟩
 have BA := Ld (bA.kept (k2.trans k3) (fun h => h))
 have BB := Ld (bB.kept (k2.trans k3) (fun h => h))
 have KK := Ld (K1.trans (k2.trans k3))
 clear bA bB K1 k2 k3 HZ HZ'
 go_wp2_with fail
 obtain ⟨ι, W, hne, hW1, hW2⟩ := kept_fam w3
 have x0 : ∀ i j, (W i).cell? ⟨w.heap.size, j, none⟩ = [Value.int .i64 op, .string nm, .int .i64 N, .int .i64 ty.kind, .string ty.name, .slice a n c, .slice ma l.length mc][j]? := fun i => (BA.out.kept (hW1 i) (fun h => h)).cell
 have y0 : ∀ i j, (W i).cell? ⟨w.heap.size + 1, j, none⟩ = [Value.int .i64 op', .string nm', .int .i64 N', .int .i64 ty'.kind, .string ty'.name, .slice a' n' c', .slice ma' l'.length mc'][j]? := fun i => (BB.out.kept (hW1 i) (fun h => h)).cell
 have HN := Ld (fun (i : ι) (x y : Int) => (rnum_any x y (W i)).mono fun e w' (h : e = .returned (.int .i64 (toI (cmpI x y))) ∧ W i = w') => (⟨h.1, i, h.2.symm⟩ : e = .returned (.int .i64 (toI (cmpI x y))) ∧ ∃ m, w' = W m))
 have HS := Ld (fun (i : ι) (x y : ByteArray) => (rtext_any x y (W i)).mono fun e w' (h : e = .returned (.int .i64 (toI (cmpB x.data.toList y.data.toList))) ∧ W i = w') => (⟨h.1, i, h.2.symm⟩ : e = .returned (.int .i64 (toI (cmpB x.data.toList y.data.toList))) ∧ ∃ m, w' = W m))
 have HXY : Hid (∀ (i : ι) (v : Value) (s : ByteArray), ((v = .agg #[.int .i64 ty.kind, .string ty.name, .slice a n c] ∧ s = str (tyShow ty)) ∨ (v = .agg #[.int .i64 ty'.kind, .string ty'.name, .slice a' n' c'] ∧ s = str (tyShow ty'))) → Calls Tryz.prog 122 #[v] (W i) fun e w' => e = .returned (.string s) ∧ ∃ m, w' = W m) := Ld (by
  rintro i v s (⟨rfl, rfl⟩ | ⟨rfl, rfl⟩)
  ·exact (HT.out (W i) (KK.out.trans (hW1 i))).mono fun e w' h => ⟨h.1, hW2 _ ((hW1 i).trans h.2)⟩
  ·exact (HT'.out (W i) (KK.out.trans (hW1 i))).mono fun e w' h => ⟨h.1, hW2 _ ((hW1 i).trans h.2)⟩)
 have HW := Ld hW1
 have h0 := hW2 _ ((Kept.refl (fun _ => False) w3).drew)
 clear hW1 hW2 HT HT'
 generalize hsx : str (tyShow ty) = sx at *
 generalize hsy : str (tyShow ty') = sy at *
 have HSX := Ld hsx
 have HSY := Ld hsy
 clear hsx hsy
 generalize ty.kind = k1 at *
 generalize ty.name = q1 at *
 generalize ty'.kind = k2 at *
 generalize ty'.name = q2 at *
 refine wp_quiet_tail (W := W) 25 (by kernel_rfl) (by kernel_rfl) h0 ?_
 simp only [List.take_succ_cons, List.take_zero, List.drop_succ_cons, List.drop_zero]
 clear h0
 repeat (go_big_quiet_step ((first | (go_at_call 120; exact HN.out _ _ _) | (go_at_call 121; exact HS.out _ _ _) | (go_at_call 122; first | exact HXY.out _ _ sx (Or.inl ⟨rfl, rfl⟩) | exact HXY.out _ _ sy (Or.inr ⟨rfl, rfl⟩)))))
 refine wpQuiet_nil ?_
 intro _ hw'
 obtain ⟨nq, hw''⟩ := hw'
 subst hw''
 clear x0 y0 HN HS HXY
 have KW := HW.out nq
 generalize W nq = w4 at *
 have HOR2 : Hid (rr = if orL [toI (cmpI z1 z2), toI (cmpI op op'), toI (cmpB nm.data.toList nm'.data.toList), toI (cmpI N N'), toI (cmpB sx.data.toList sy.data.toList)] = 0 then toI (cmpK tyShow l l') else orL [toI (cmpI z1 z2), toI (cmpI op op'), toI (cmpB nm.data.toList nm'.data.toList), toI (cmpI N N'), toI (cmpB sx.data.toList sy.data.toList)]) := Ld (by
  rw [← HSX.out, ← HSY.out, strl_list, strl_list]; exact HOR.out)
 clear HOR HSX HSY HW
 generalize toI (cmpI z1 z2) = p1 at *
 generalize toI (cmpI op op') = p2 at *
 generalize toI (cmpB nm.data.toList nm'.data.toList) = p3 at *
 generalize toI (cmpI N N') = p4 at *
 generalize toI (cmpB sx.data.toList sy.data.toList) = p5 at *
 go_upto_region 4 with (fail)
 have KA : Kept (fun _ => False) w4 (w4.alloc (.cells #[.int .i64 p1, .int .i64 p2, .int .i64 p3, .int .i64 p4, .int .i64 p5] 3)) := (Kept.refl _ _).alloc _
 have BL := Ld (Blk.new w4 3 [Value.int .i64 p1, .int .i64 p2, .int .i64 p3, .int .i64 p4, .int .i64 p5])
 change Hid (Blk (w4.alloc (.cells #[.int .i64 p1, .int .i64 p2, .int .i64 p3, .int .i64 p4, .int .i64 p5] 3)) _ _ _) at BL
 have K5 := Ld (KW.trans KA)
 clear KA KW
 generalize w4.alloc (.cells #[.int .i64 p1, .int .i64 p2, .int .i64 p3, .int .i64 p4, .int .i64 p5] 3) = w5 at *
 have HCL : Hid (∀ j (h : j < [p1, p2, p3, p4, p5].length), w5.cell? ⟨w4.heap.size, j, none⟩ = some (.int .i64 [p1, p2, p3, p4, p5][j])) := Ld (fun j h => by
  have hb := BL.out.cell j
  have h : j < 5 := h
  rcases (by omega : j = 0 ∨ j = 1 ∨ j = 2 ∨ j = 3 ∨ j = 4) with rfl | rfl | rfl | rfl | rfl <;> exact hb)
 have HP5 : Hid ([p1, p2, p3, p4, p5].length = 5) := Ld rfl
 clear BL
 generalize [p1, p2, p3, p4, p5] = P at *
 generalize w4.heap.size = gP at *
 have A5 := Ld (BA.out.kept K5.out (fun h => h))
 have B5 := Ld (BB.out.kept K5.out (fun h => h))
 have KK5 := Ld (KK.out.trans K5.out)
 clear K5 BA BB KK
 go_wp2_with fail
 go_loop [10] (fun i => ∃ j : Nat, j ≤ P.length ∧ i = .int .i64 j ∧ Hid (orL P = orL (P.drop j))) (fun i => P.length - (intOf i).toNat)
 case atStart => exact ⟨0, Nat.zero_le _, rfl, Ld rfl⟩
 case round =>
  obtain ⟨j, hj, rfl, hq⟩ := hrel
  by_cases hlt : j < P.length
  ·have c0 := HCL.out j hlt
   have HD : Hid (orL P = if P[j] = 0 then orL (P.drop (j + 1)) else P[j]) := Ld (by rw [hq.out, List.drop_eq_getElem_cons hlt, orL])
   have hj2 : (j : Int) < 5 := by have := HP5.out; omega
   by_cases hz : P[j] = 0
   ·rw [hz] at c0
    go_wp2_with fail
    go_round
    case rel => exact ⟨j + 1, by omega, by go_num, Ld (by rw [HD.out, if_pos hz])⟩
    case measure => simp [intOf]; omega
   ·have hz2 : (P[j] == 0) = false := by simpa using hz
    have hz3 : (P[j] != 0) = true := by simpa using hz
    have HE : Hid (rr = P[j]) := Ld (by
     have h1 : orL P = P[j] := by rw [HD.out, if_neg hz]
     rw [HOR2.out, h1, if_neg hz])
    clear HOR2
    go_wp2_with fail
    go_ret
    exact ⟨by rw [HE.out]; rfl, KK5.out⟩
  ·have HZ : Hid (rr = toI (cmpK tyShow l l')) := Ld (by
    have h1 : orL P = 0 := by rw [hq.out, List.drop_eq_nil_of_le (by omega)]; rfl
    rw [HOR2.out, h1, if_pos rfl])
   have hj2 : ¬ (j : Int) < 5 := by have := HP5.out; omega
   have hj3 : j = 5 := by have := HP5.out; omega
   subst hj3
   clear HOR2 hj2
   go_wp2_with fail
   go_loopw [11, 12] (fun i x wr => ∃ j : Nat, j ≤ l.length ∧ j ≤ l'.length ∧ i = .int .i64 j ∧ Kept (fun _ => False) w5 wr ∧ Hid (cmpK tyShow l l' = cmpK tyShow (l.drop j) (l'.drop j))) (fun i x _ => l.length - (intOf i).toNat)
   case atStart => exact ⟨0, Nat.zero_le _, Nat.zero_le _, rfl, Kept.refl _ _, Ld rfl⟩
   case round =>
    obtain ⟨j, hj, hj', rfl, kr, hq⟩ := hrel
    have i3 : (j : Int) < 1000001 := by have := HLN.out.1; omega
    by_cases hlt : j < l.length
    ·have i1 : (j : Int) < (l.length : Int) := by omega
     by_cases hlt' : j < l'.length
     ·have i2 : (j : Int) < (l'.length : Int) := by omega
      obtain ⟨g, off, ta, tn, tc, ua, un, uc, rfl, _, lg, ⟨c0, c1, c2, c3, c4, c5, c6⟩, hty, htm⟩ := HAT.out wr (KK5.out.trans kr) j hlt
      obtain ⟨g', off', ta', tn', tc', ua', un', uc', rfl, _, lg', ⟨d0, d1, d2, d3, d4, d5, d6⟩, hty', htm'⟩ := HAT'.out wr (KK5.out.trans kr) j hlt'
      have gA : ∀ i, wr.cell? ⟨w.heap.size, i, none⟩ = [Value.int .i64 op, .string nm, .int .i64 N, .int .i64 k1, .string q1, .slice a n c, .slice (some ⟨g, off, none⟩) l.length mc][i]? := (A5.out.kept kr (fun h => h)).cell
      have gB : ∀ i, wr.cell? ⟨w.heap.size + 1, i, none⟩ = [Value.int .i64 op', .string nm', .int .i64 N', .int .i64 k2, .string q2, .slice a' n' c', .slice (some ⟨g', off', none⟩) l'.length mc'][i]? := (B5.out.kept kr (fun h => h)).cell
      have hcon := Ld (fun W (kW : Kept (fun _ => False) wr W) => HIH.out j hlt j hlt' W _ _ _ _ _ _ (hty.frame (sK kW)) (htm.frame (sK kW)) (hty'.frame (sK kW)) (htm'.frame (sK kW)))
      unfold tmVal at hcon
      have HS := Ld (cmpK_drop hlt hlt')
      clear hty hty' htm htm'
      go_upto_region 12 with (fail)
      go_still_tail 10, (by kernel_rfl)
      change wpList _ _ _ _ _ (World.drew wr)
      have kd : Kept (fun _ => False) wr (World.drew wr) := (Kept.refl _ _).drew
      generalize World.drew wr = w6 at *
      clear gA gB c0 c1 c2 c3 c4 c5 c6 d0 d1 d2 d3 d4 d5 d6
      cases hr : cmpT tyShow l[j] l'[j]
      case eq =>
       rw [hr] at hcon HS
       simp only [toI] at hcon
       go_wp2_with (go_at_call 72; refine (hcon.out _ kd).mono ?_; rintro e w' ⟨rfl, k7⟩)
       go_roundw
       case rel => exact ⟨j + 1, by omega, by omega, by go_num, (kr.trans kd).trans k7, Ld (by rw [hq.out, HS.out]; rfl)⟩
       case measure => simp [intOf]; omega
      all_goals
       rw [hr] at hcon HS
       simp only [toI] at hcon
       go_wp2_with (go_at_call 72; refine (hcon.out _ kd).mono ?_; rintro e w' ⟨rfl, k7⟩)
       go_ret
       exact ⟨by rw [HZ.out, hq.out, HS.out]; rfl, ((KK5.out.trans kr).trans kd).trans k7⟩
     ·have i2 : ¬ (j : Int) < (l'.length : Int) := by omega
      have HE : Hid (rr = toI (cmpI (l.length : Int) (l'.length : Int))) := Ld (by
       have : cmpI (l.length : Int) (l'.length : Int) = .gt := by unfold cmpI; rw [if_neg (by omega), if_pos (by omega)]
       rw [HZ.out, hq.out, cmpK_end' hlt (by omega), this])
      have gA : ∀ i, wr.cell? ⟨w.heap.size, i, none⟩ = [Value.int .i64 op, .string nm, .int .i64 N, .int .i64 k1, .string q1, .slice a n c, .slice ma l.length mc][i]? := (A5.out.kept kr (fun h => h)).cell
      have gB : ∀ i, wr.cell? ⟨w.heap.size + 1, i, none⟩ = [Value.int .i64 op', .string nm', .int .i64 N', .int .i64 k2, .string q2, .slice a' n' c', .slice ma' l'.length mc'][i]? := (B5.out.kept kr (fun h => h)).cell
      go_wp2_with fail
      refine (rnum_any _ _ _).mono ?_
      rintro e w9 ⟨rfl, rfl⟩
      go_wp2_with fail
      go_ret
      exact ⟨by rw [HE.out]; rfl, KK5.out.trans kr⟩
    ·have i1 : ¬ (j : Int) < (l.length : Int) := by omega
     have HE : Hid (rr = toI (cmpI (l.length : Int) (l'.length : Int))) := Ld (by
      rw [HZ.out, hq.out, cmpK_end (by omega) hj']
      by_cases h : j < l'.length
      ·have : cmpI (l.length : Int) (l'.length : Int) = .lt := by unfold cmpI; rw [if_pos (by omega)]
       rw [if_pos h, this]
      ·have : cmpI (l.length : Int) (l'.length : Int) = .eq := by unfold cmpI; rw [if_neg (by omega), if_neg (by omega)]
       rw [if_neg h, this])
     have gA : ∀ i, wr.cell? ⟨w.heap.size, i, none⟩ = [Value.int .i64 op, .string nm, .int .i64 N, .int .i64 k1, .string q1, .slice a n c, .slice ma l.length mc][i]? := (A5.out.kept kr (fun h => h)).cell
     have gB : ∀ i, wr.cell? ⟨w.heap.size + 1, i, none⟩ = [Value.int .i64 op', .string nm', .int .i64 N', .int .i64 k2, .string q2, .slice a' n' c', .slice ma' l'.length mc'][i]? := (B5.out.kept kr (fun h => h)).cell
     go_wp2_with fail
     refine (rnum_any _ _ _).mono ?_
     rintro e w9 ⟨rfl, rfl⟩
     go_wp2_with fail
     go_ret
     exact ⟨by rw [HE.out]; rfl, KK5.out.trans kr⟩
theorem rorder_any (t : Tm) : ROdC t := by
 induction t using Tm.rec (motive_2 := fun l => ∀ u, u ∈ l → ROdC u) with
 | mk op nm N ty l ih => exact rorder_one ih
 | nil => rename_i u hu; cases hu
 | cons t l iht ihl =>
  rename_i u hu
  rcases List.mem_cons.1 hu with rfl | hu
  ·exact iht
  ·exact ihl u hu
theorem rcompare_any {a b : Tm} {ok ok' : Nat → Prop} {w : World} {tk kk tk' kk' : Value} (h1 : TyL ok w a.ty.kids tk) (h2 : TmL ok w a.kids kk) (h3 : TyL ok' w b.ty.kids tk') (h4 : TmL ok' w b.kids kk') (ha : SmTm big a) (hb : SmTm big b) :
  Calls Tryz.prog 34 #[tmVal a tk kk, tmVal b tk' kk'] w fun e w' => e = .returned (.int .i64 (cmpA a b)) ∧ Kept (fun _ => False) w w' := by
 obtain ⟨p, n, c, rfl⟩ := h1.slice
 obtain ⟨ma, mn, mc, rfl⟩ := h2.slice
 obtain ⟨p', n', c', rfl⟩ := h3.slice
 obtain ⟨ma', mn', mc', rfl⟩ := h4.slice
 have K1 : Kept (fun _ => False) w ((w.alloc (.cells #[.int .i64 a.op, .string a.name, .int .i64 a.n, .int .i64 a.ty.kind, .string a.ty.name, .slice p n c, .slice ma mn mc] 28)).alloc (.cells #[.int .i64 b.op, .string b.name, .int .i64 b.n, .int .i64 b.ty.kind, .string b.ty.name, .slice p' n' c', .slice ma' mn' mc'] 28)) := ((Kept.refl _ _).alloc _).alloc _
 have bA : Blk ((w.alloc (.cells #[.int .i64 a.op, .string a.name, .int .i64 a.n, .int .i64 a.ty.kind, .string a.ty.name, .slice p n c, .slice ma mn mc] 28)).alloc (.cells #[.int .i64 b.op, .string b.name, .int .i64 b.n, .int .i64 b.ty.kind, .string b.ty.name, .slice p' n' c', .slice ma' mn' mc'] 28)) w.heap.size 28 (tmCells a (.slice p n c) (.slice ma mn mc)) := (Blk.new w 28 _).alloc _
 have bB : Blk ((w.alloc (.cells #[.int .i64 a.op, .string a.name, .int .i64 a.n, .int .i64 a.ty.kind, .string a.ty.name, .slice p n c, .slice ma mn mc] 28)).alloc (.cells #[.int .i64 b.op, .string b.name, .int .i64 b.n, .int .i64 b.ty.kind, .string b.ty.name, .slice p' n' c', .slice ma' mn' mc'] 28)) (w.heap.size + 1) 28 (tmCells b (.slice p' n' c') (.slice ma' mn' mc')) := Blk.new' 28 _ (by simp)
 have HVA := Ld (fun W (k : Kept (fun _ => False) w W) => rvalid_any (h1.frame (sK k)) (h2.frame (sK k)) ha)
 have HVB := Ld (fun W (k : Kept (fun _ => False) w W) => rvalid_any (h3.frame (sK k)) (h4.frame (sK k)) hb)
 have HS := Ld (fun (hv : validB a = true) (hv' : validB b = true) W (k : Kept (fun _ => False) w W) => rorder_any a b W ok ok' _ _ _ _ hv ha hv' hb (h1.frame (sK k)) (h2.frame (sK k)) (h3.frame (sK k)) (h4.frame (sK k)))
 clear h1 h2 h3 h4 ha hb
 unfold tmVal at HS ⊢
 have HR : Hid (cmpA a b = if validB a && validB b then toI (cmpT tyShow a b) else 0) := Ld rfl
 generalize toI (cmpT tyShow a b) = z at *
 go_enter Tryz.func34, Tryz.ntmps34
 go_wp2_with fail
 generalize ((w.alloc (.cells #[.int .i64 a.op, .string a.name, .int .i64 a.n, .int .i64 a.ty.kind, .string a.ty.name, .slice p n c, .slice ma mn mc] 28)).alloc (.cells #[.int .i64 b.op, .string b.name, .int .i64 b.n, .int .i64 b.ty.kind, .string b.ty.name, .slice p' n' c', .slice ma' mn' mc'] 28)) = w1 at *
 refine (HVA.out w1 K1).mono ?_
 rintro e w2 ⟨rfl, k2⟩
 have KK := Ld (K1.trans k2)
 have BA2 := Ld (bA.kept k2 (fun h => h))
 have BB2 := Ld (bB.kept k2 (fun h => h))
 clear K1 k2 bA bB HVA
 cases hv : validB a
 ·have HR2 : Hid (cmpA a b = 0) := Ld (by rw [HR.out, hv]; rfl)
  clear hv HS HR HVB
  go_wp2_with fail
  go_ret
  exact ⟨by rw [HR2.out]; rfl, KK.out⟩
 ·have hvt := Ld hv
  clear hv
  have gB : ∀ i, w2.cell? ⟨w.heap.size + 1, i, none⟩ = [Value.int .i64 b.op, .string b.name, .int .i64 b.n, .int .i64 b.ty.kind, .string b.ty.name, .slice p' n' c', .slice ma' mn' mc'][i]? := BB2.out.cell
  go_wp2_with fail
  clear gB
  refine (HVB.out w2 KK.out).mono ?_
  rintro e w3 ⟨rfl, k3⟩
  have KK3 := Ld (KK.out.trans k3)
  have BA3 := Ld (BA2.out.kept k3 (fun h => h))
  have BB3 := Ld (BB2.out.kept k3 (fun h => h))
  clear KK k3 BA2 BB2 HVB
  cases hv : validB b
  ·have HR2 : Hid (cmpA a b = 0) := Ld (by rw [HR.out, hvt.out, hv]; rfl)
   clear hv HS HR
   go_wp2_with fail
   go_ret
   exact ⟨by rw [HR2.out]; rfl, KK3.out⟩
  ·have HR2 : Hid (cmpA a b = z) := Ld (by rw [HR.out, hvt.out, hv]; rfl)
   have HS2 := Ld (HS.out hvt.out hv w3 KK3.out)
   have gA : ∀ i, w3.cell? ⟨w.heap.size, i, none⟩ = [Value.int .i64 a.op, .string a.name, .int .i64 a.n, .int .i64 a.ty.kind, .string a.ty.name, .slice p n c, .slice ma mn mc][i]? := BA3.out.cell
   have gB : ∀ i, w3.cell? ⟨w.heap.size + 1, i, none⟩ = [Value.int .i64 b.op, .string b.name, .int .i64 b.n, .int .i64 b.ty.kind, .string b.ty.name, .slice p' n' c', .slice ma' mn' mc'][i]? := BB3.out.cell
   clear hv HS HR
   go_wp2_with fail
   refine HS2.out.mono ?_
   rintro e w4 ⟨rfl, k4⟩
   go_wp2_with fail
   go_ret
   exact ⟨by rw [HR2.out]; rfl, KK3.out.trans k4⟩
theorem rvary_any {a : Tm} {l : List Int} {ok okL : Nat → Prop} {w : World} {tk kk vl : Value} (hv : validB a = true) (h1 : TyL ok w a.ty.kids tk) (h2 : TmL ok w a.kids kk) (hL : InL okL w l vl) (hl : l.length ≤ 9223372036854775807) :
  Calls Tryz.prog 35 #[tmVal a tk kk, vl] w (PutP (varyT l a) w) := by
 obtain ⟨p0, n0, c0, rfl⟩ := h1.slice
 obtain ⟨ma0, mn0, mc0, rfl⟩ := h2.slice
 obtain ⟨la, lc, rfl⟩ := hL.slice
 have hK : VrK (tmD a) a := by
  have h3 := (valid_iff a).1 hv
  exact ⟨valid_ok hv, h3.2.1, h3.2.2, Nat.le_refl _⟩
 have B0 : Hid (Blk ((w.alloc (.cells #[.int .i64 a.op, .string a.name, .int .i64 a.n, .int .i64 a.ty.kind, .string a.ty.name, .slice p0 n0 c0, .slice ma0 mn0 mc0] 28)).alloc Z7) (w.heap.size + 1) 28 z27 ∧ Kept (fun _ => False) w ((w.alloc (.cells #[.int .i64 a.op, .string a.name, .int .i64 a.n, .int .i64 a.ty.kind, .string a.ty.name, .slice p0 n0 c0, .slice ma0 mn0 mc0] 28)).alloc Z7) ∧ ∀ i, ((w.alloc (.cells #[.int .i64 a.op, .string a.name, .int .i64 a.n, .int .i64 a.ty.kind, .string a.ty.name, .slice p0 n0 c0, .slice ma0 mn0 mc0] 28)).alloc Z7).cell? ⟨w.heap.size, i, none⟩ = [Value.int .i64 a.op, .string a.name, .int .i64 a.n, .int .i64 a.ty.kind, .string a.ty.name, .slice p0 n0 c0, .slice ma0 mn0 mc0][i]?) := Ld
  ⟨Blk.new' 28 _ (by simp), ((Kept.refl _ _).alloc _).alloc _, ((Blk.new w 28 _).alloc _).cell⟩
 have HV := Ld (vary_any (tmD a) a hK l 0 _ ok okL _ _ _ (h1.frame (sK B0.out.2.1)) (h2.frame (sK B0.out.2.1)) (hL.frame (sK B0.out.2.1)) hl (by have := hK.2.1; omega))
 clear h1 h2 hL hl hK hv
 unfold VrP tmVal at HV
 unfold PutP tmVal
 have HR : Hid (varyT l a = (varF l (tmD a) a 0).1) := Ld rfl
 rw [← HR.out] at HV
 generalize varyT l a = r at *
 generalize (varF l (tmD a) a 0).2 = rn at *
 clear HR
 have gA := B0.out.2.2
 go_enter Tryz.func35, Tryz.ntmps35
 go_upto_region 1 with (fail)
 generalize ((w.alloc (.cells #[.int .i64 a.op, .string a.name, .int .i64 a.n, .int .i64 a.ty.kind, .string a.ty.name, .slice p0 n0 c0, .slice ma0 mn0 mc0] 28)).alloc Z7) = w1 at *
 go_wp2_with fail
 refine HV.out.mono ?_
 rintro e w2 ⟨tk, kk, rfl, hty, htm, k2⟩
 obtain ⟨p1, n1, c1, rfl⟩ := hty.slice
 obtain ⟨ma1, mn1, mc1, rfl⟩ := htm.slice
 have BR := Ld (B0.out.1.kept k2 (fun h => h))
 have KK := Ld (B0.out.2.1.trans k2)
 have HTY := Ld hty
 have HTM := Ld htm
 have hw1 : Hid (w.heap.size + 2 ≤ w1.heap.size) := Ld B0.out.1.lt
 have lR := BR.out.lt
 clear hty htm k2 B0 HV gA
 have fR := BR.out.frozen
 have gR : ∀ i, w2.cell? ⟨w.heap.size + 1, i, none⟩ = [Value.int .i64 0, .string ⟨#[]⟩, .int .i64 0, .int .i64 0, .string ⟨#[]⟩, .slice none 0 0, .slice none 0 0][i]? := BR.out.cell
 go_upto_region 2 with (fail)
 have BN : Hid (∀ i, (w2.alloc (.cells #[.int .i64 r.op, .string r.name, .int .i64 r.n, .int .i64 r.ty.kind, .string r.ty.name, .slice p1 n1 c1, .slice ma1 mn1 mc1] 28)).cell? ⟨w2.heap.size, i, none⟩ = [Value.int .i64 r.op, .string r.name, .int .i64 r.n, .int .i64 r.ty.kind, .string r.ty.name, .slice p1 n1 c1, .slice ma1 mn1 mc1][i]?) := Ld (Blk.new w2 28 _).cell
 have B3 := Ld (BR.out.alloc (.cells #[.int .i64 r.op, .string r.name, .int .i64 r.n, .int .i64 r.ty.kind, .string r.ty.name, .slice p1 n1 c1, .slice ma1 mn1 mc1] 28))
 have K3 := Ld (KK.out.alloc (.cells #[.int .i64 r.op, .string r.name, .int .i64 r.n, .int .i64 r.ty.kind, .string r.ty.name, .slice p1 n1 c1, .slice ma1 mn1 mc1] 28))
 have T3 := Ld (HTY.out.frame (Same.alloc _ (.cells #[.int .i64 r.op, .string r.name, .int .i64 r.n, .int .i64 r.ty.kind, .string r.ty.name, .slice p1 n1 c1, .slice ma1 mn1 mc1] 28)))
 have M3 := Ld (HTM.out.frame (Same.alloc _ (.cells #[.int .i64 r.op, .string r.name, .int .i64 r.n, .int .i64 r.ty.kind, .string r.ty.name, .slice p1 n1 c1, .slice ma1 mn1 mc1] 28)))
 clear BR KK HTY HTM fR gR lR
 generalize w2.alloc (.cells #[.int .i64 r.op, .string r.name, .int .i64 r.n, .int .i64 r.ty.kind, .string r.ty.name, .slice p1 n1 c1, .slice ma1 mn1 mc1] 28) = w3 at *
 have fR := B3.out.frozen
 have lR := B3.out.lt
 have gR : ∀ i, w3.cell? ⟨w.heap.size + 1, i, none⟩ = [Value.int .i64 0, .string ⟨#[]⟩, .int .i64 0, .int .i64 0, .string ⟨#[]⟩, .slice none 0 0, .slice none 0 0][i]? := B3.out.cell
 have gN := BN.out
 go_wp2_with fail
 exact bodyPost_ret (results_one Tryz.results35 rfl (load_tm (t := r) (r7 B3.out rfl))) rfl ⟨_, _, rfl, (T3.out.frame (set7 (fun q hq => by have := hw1.out; omega))).mono (fun q _ hq => by have := hw1.out; omega), (M3.out.frame (set7 (fun q hq => by have := hw1.out; omega))).mono (fun q _ hq => by have := hw1.out; omega), k7w K3.out (Or.inr (Nat.le_succ _))⟩
theorem alw_any {a b : Tm} {l : List Int} {w : World} {tk kk tk' kk' vl : Value} (hgl : Gl w) (h1 : TyL (fun _ => True) w a.ty.kids tk) (h2 : TmL (fun _ => True) w a.kids kk) (ha : SmTm big a) (h3 : TyL (fun _ => True) w b.ty.kids tk') (h4 : TmL (fun _ => True) w b.kids kk') (hb : SmTm big b) (hL : InL (fun _ => True) w l vl) (hl : l.length ≤ 9223372036854775807) :
  Calls Tryz.prog 6 #[tmVal a tk kk, tmVal b tk' kk', vl] w (EsOk w) := by
 obtain ⟨p0, n0, c0, rfl⟩ := h1.slice
 obtain ⟨ma0, mn0, mc0, rfl⟩ := h2.slice
 obtain ⟨p1, n1, c1, rfl⟩ := h3.slice
 obtain ⟨ma1, mn1, mc1, rfl⟩ := h4.slice
 obtain ⟨la, lc, rfl⟩ := hL.slice
 have H15 := Ld (fun W (k : Kept (fun _ => False) w W) => awake_any W (hgl.kept k (fun h => h) (fun h => h)))
 have HVA := Ld (fun W (k : Kept (fun _ => False) w W) => rvalid_any (h1.frame (sK k)) (h2.frame (sK k)) ha)
 have LAB := Ld (fun W (k : Kept (fun _ => False) w W) => alike_any (h1.frame (sK k)) (h2.frame (sK k)) (h3.frame (sK k)) (h4.frame (sK k)) ha hb)
 have MAB := Ld (fun W (k : Kept (fun _ => False) w W) => ralikes_any (h1.frame (sK k)) (h2.frame (sK k)) (h3.frame (sK k)) (h4.frame (sK k)) ha hb)
 have CAB := Ld (fun W (k : Kept (fun _ => False) w W) => compare_any (h1.frame (sK k)) (h2.frame (sK k)) (h3.frame (sK k)) (h4.frame (sK k)) ha hb)
 have DAB := Ld (fun W (k : Kept (fun _ => False) w W) => rcompare_any (h1.frame (sK k)) (h2.frame (sK k)) (h3.frame (sK k)) (h4.frame (sK k)) ha hb)
 have LAA := Ld (fun W (k : Kept (fun _ => False) w W) => alike_any (h1.frame (sK k)) (h2.frame (sK k)) (h1.frame (sK k)) (h2.frame (sK k)) ha ha)
 have HVY := Ld (fun (hv : validB a = true) W (k : Kept (fun _ => False) w W) => rvary_any hv (h1.frame (sK k)) (h2.frame (sK k)) (hL.frame (sK k)) hl)
 have LAC := Ld (fun (u : Tm) (hu : SmTm big u) (okc : Nat → Prop) (tc kc : Value) W (k : Kept (fun _ => False) w W) (h5 : TyL okc W u.ty.kids tc) (h6 : TmL okc W u.kids kc) => alike_any (h1.frame (sK k)) (h2.frame (sK k)) h5 h6 ha hu)
 have CAC := Ld (fun (u : Tm) (hu : SmTm big u) (okc : Nat → Prop) (tc kc : Value) W (k : Kept (fun _ => False) w W) (h5 : TyL okc W u.ty.kids tc) (h6 : TmL okc W u.kids kc) => compare_any (h1.frame (sK k)) (h2.frame (sK k)) h5 h6 ha hu)
 have DAC := Ld (fun (u : Tm) (hu : SmTm big u) (okc : Nat → Prop) (tc kc : Value) W (k : Kept (fun _ => False) w W) (h5 : TyL okc W u.ty.kids tc) (h6 : TmL okc W u.kids kc) => rcompare_any (h1.frame (sK k)) (h2.frame (sK k)) h5 h6 ha hu)
 clear h1 h2 h3 h4 ha hb hgl hL hl
 have HYP : Hid (validB a = true → OkTm (varyT l a) ∧ alB a (varyT l a) = true) := Ld (fun hv => by
  have h3 := (valid_iff a).1 hv
  have h4 := vary_ok (l := l) (valid_ok hv) (by omega)
  have h5 := vary_db (l := l) (valid_ok hv) (by omega)
  exact ⟨h4, (alB_iff hv ((valid_db h4 (valid_ok hv) h5).trans hv)).2 h5.symm⟩)
 have HNV : Hid (validB a = false → alB a a = false) := Ld (fun hv => by unfold alB; rw [hv]; rfl)
 unfold PutP at HVY
 generalize varyT l a = u at *
 unfold tmVal at LAB MAB CAB DAB LAA HVY LAC CAC DAC ⊢
 have B0 : Hid (Blk ((w.alloc (.cells #[.int .i64 a.op, .string a.name, .int .i64 a.n, .int .i64 a.ty.kind, .string a.ty.name, .slice p0 n0 c0, .slice ma0 mn0 mc0] 28)).alloc (.cells #[.int .i64 b.op, .string b.name, .int .i64 b.n, .int .i64 b.ty.kind, .string b.ty.name, .slice p1 n1 c1, .slice ma1 mn1 mc1] 28)) w.heap.size 28 [Value.int .i64 a.op, .string a.name, .int .i64 a.n, .int .i64 a.ty.kind, .string a.ty.name, .slice p0 n0 c0, .slice ma0 mn0 mc0] ∧ Blk ((w.alloc (.cells #[.int .i64 a.op, .string a.name, .int .i64 a.n, .int .i64 a.ty.kind, .string a.ty.name, .slice p0 n0 c0, .slice ma0 mn0 mc0] 28)).alloc (.cells #[.int .i64 b.op, .string b.name, .int .i64 b.n, .int .i64 b.ty.kind, .string b.ty.name, .slice p1 n1 c1, .slice ma1 mn1 mc1] 28)) (w.heap.size + 1) 28 [Value.int .i64 b.op, .string b.name, .int .i64 b.n, .int .i64 b.ty.kind, .string b.ty.name, .slice p1 n1 c1, .slice ma1 mn1 mc1] ∧ Kept (fun _ => False) w ((w.alloc (.cells #[.int .i64 a.op, .string a.name, .int .i64 a.n, .int .i64 a.ty.kind, .string a.ty.name, .slice p0 n0 c0, .slice ma0 mn0 mc0] 28)).alloc (.cells #[.int .i64 b.op, .string b.name, .int .i64 b.n, .int .i64 b.ty.kind, .string b.ty.name, .slice p1 n1 c1, .slice ma1 mn1 mc1] 28))) := Ld ⟨(Blk.new w 28 _).alloc _, Blk.new' 28 _ (by simp), ((Kept.refl _ _).alloc _).alloc _⟩
 generalize hab : alB a b = lab at *
 generalize cmpA a b = cab at *
 generalize alB a a = laa at *
 clear hab
 go_enter Tryz.func6, Tryz.ntmps6
 go_upto_region 1 with (fail)
 generalize ((w.alloc (.cells #[.int .i64 a.op, .string a.name, .int .i64 a.n, .int .i64 a.ty.kind, .string a.ty.name, .slice p0 n0 c0, .slice ma0 mn0 mc0] 28)).alloc (.cells #[.int .i64 b.op, .string b.name, .int .i64 b.n, .int .i64 b.ty.kind, .string b.ty.name, .slice p1 n1 c1, .slice ma1 mn1 mc1] 28)) = w1 at *
 go_cut [23] (fun v wc => v = .bool false ∧ Kept (fun _ => False) w1 wc)
 case first =>
  obtain ⟨ι, W, hne, hW1, hW2⟩ := kept_fam w1
  have x0 : ∀ i j, (W i).cell? ⟨w.heap.size, j, none⟩ = [Value.int .i64 a.op, .string a.name, .int .i64 a.n, .int .i64 a.ty.kind, .string a.ty.name, .slice p0 n0 c0, .slice ma0 mn0 mc0][j]? := fun i => (B0.out.1.kept (hW1 i) (fun h => h)).cell
  have y0 : ∀ i j, (W i).cell? ⟨w.heap.size + 1, j, none⟩ = [Value.int .i64 b.op, .string b.name, .int .i64 b.n, .int .i64 b.ty.kind, .string b.ty.name, .slice p1 n1 c1, .slice ma1 mn1 mc1][j]? := fun i => (B0.out.2.1.kept (hW1 i) (fun h => h)).cell
  have HX1 : Hid (∀ i : ι, Calls Tryz.prog 31 #[.agg #[.int .i64 a.op, .string a.name, .int .i64 a.n, .int .i64 a.ty.kind, .string a.ty.name, .slice p0 n0 c0, .slice ma0 mn0 mc0], .agg #[.int .i64 b.op, .string b.name, .int .i64 b.n, .int .i64 b.ty.kind, .string b.ty.name, .slice p1 n1 c1, .slice ma1 mn1 mc1]] (W i) fun e w' => e = .returned (.bool lab) ∧ ∃ m, w' = W m) := Ld (fun i => (LAB.out (W i) (B0.out.2.2.trans (hW1 i))).mono fun e w' h => ⟨h.1, hW2 _ ((hW1 i).trans h.2)⟩)
  have HX2 : Hid (∀ i : ι, Calls Tryz.prog 32 #[.agg #[.int .i64 a.op, .string a.name, .int .i64 a.n, .int .i64 a.ty.kind, .string a.ty.name, .slice p0 n0 c0, .slice ma0 mn0 mc0], .agg #[.int .i64 b.op, .string b.name, .int .i64 b.n, .int .i64 b.ty.kind, .string b.ty.name, .slice p1 n1 c1, .slice ma1 mn1 mc1]] (W i) fun e w' => e = .returned (.bool lab) ∧ ∃ m, w' = W m) := Ld (fun i => (MAB.out (W i) (B0.out.2.2.trans (hW1 i))).mono fun e w' h => ⟨h.1, hW2 _ ((hW1 i).trans h.2)⟩)
  have HX3 : Hid (∀ i : ι, Calls Tryz.prog 33 #[.agg #[.int .i64 a.op, .string a.name, .int .i64 a.n, .int .i64 a.ty.kind, .string a.ty.name, .slice p0 n0 c0, .slice ma0 mn0 mc0], .agg #[.int .i64 b.op, .string b.name, .int .i64 b.n, .int .i64 b.ty.kind, .string b.ty.name, .slice p1 n1 c1, .slice ma1 mn1 mc1]] (W i) fun e w' => e = .returned (.int .i64 cab) ∧ ∃ m, w' = W m) := Ld (fun i => (CAB.out (W i) (B0.out.2.2.trans (hW1 i))).mono fun e w' h => ⟨h.1, hW2 _ ((hW1 i).trans h.2)⟩)
  have HX4 : Hid (∀ i : ι, Calls Tryz.prog 34 #[.agg #[.int .i64 a.op, .string a.name, .int .i64 a.n, .int .i64 a.ty.kind, .string a.ty.name, .slice p0 n0 c0, .slice ma0 mn0 mc0], .agg #[.int .i64 b.op, .string b.name, .int .i64 b.n, .int .i64 b.ty.kind, .string b.ty.name, .slice p1 n1 c1, .slice ma1 mn1 mc1]] (W i) fun e w' => e = .returned (.int .i64 cab) ∧ ∃ m, w' = W m) := Ld (fun i => (DAB.out (W i) (B0.out.2.2.trans (hW1 i))).mono fun e w' h => ⟨h.1, hW2 _ ((hW1 i).trans h.2)⟩)
  have HW := Ld hW1
  have h0 := hW2 _ ((Kept.refl (fun _ => False) w1).drew)
  clear hW1 hW2 LAB MAB CAB DAB LAA HVY LAC CAC DAC HVA HYP HNV H15
  cases lab
  all_goals
   refine wp_quiet_all (W := W) (by kernel_rfl) (by kernel_rfl) h0 ?_
   clear h0
   repeat (go_big_quiet_step (first | (go_at_call 31; exact HX1.out _) | (go_at_call 32; exact HX2.out _) | (go_at_call 33; exact HX3.out _) | (go_at_call 34; exact HX4.out _)))
   refine wpQuiet_nil ?_
   intro _ hw'
   obtain ⟨nq, hw''⟩ := hw'
   subst hw''
   have KW := Ld (HW.out nq)
   clear x0 y0 HX1 HX2 HX3 HX4 HW
   generalize W nq = w2 at *
   go_wp2_with fail
   go_meet
   case rel => exact ⟨rfl, KW.out⟩
 case rest =>
  obtain ⟨rfl, hk2⟩ := hcut
  generalize wc = w2 at *
  have B2 : Hid (Blk w2 w.heap.size 28 [Value.int .i64 a.op, .string a.name, .int .i64 a.n, .int .i64 a.ty.kind, .string a.ty.name, .slice p0 n0 c0, .slice ma0 mn0 mc0] ∧ Kept (fun _ => False) w w2) := Ld ⟨B0.out.1.kept hk2 (fun h => h), B0.out.2.2.trans hk2⟩
  clear B0 hk2 LAB MAB CAB DAB
  have gA : ∀ i, w2.cell? ⟨w.heap.size, i, none⟩ = [Value.int .i64 a.op, .string a.name, .int .i64 a.n, .int .i64 a.ty.kind, .string a.ty.name, .slice p0 n0 c0, .slice ma0 mn0 mc0][i]? := B2.out.1.cell
  go_wp2_with fail
  clear gA
  refine (HVA.out w2 B2.out.2).mono ?_
  rintro e w3 ⟨rfl, k3⟩
  have B3 : Hid (Blk w3 w.heap.size 28 [Value.int .i64 a.op, .string a.name, .int .i64 a.n, .int .i64 a.ty.kind, .string a.ty.name, .slice p0 n0 c0, .slice ma0 mn0 mc0] ∧ Kept (fun _ => False) w w3) := Ld ⟨B2.out.1.kept k3 (fun h => h), B2.out.2.trans k3⟩
  clear B2 k3 HVA
  have gA : ∀ i, w3.cell? ⟨w.heap.size, i, none⟩ = [Value.int .i64 a.op, .string a.name, .int .i64 a.n, .int .i64 a.ty.kind, .string a.ty.name, .slice p0 n0 c0, .slice ma0 mn0 mc0][i]? := B3.out.1.cell
  cases hv : validB a
  ·obtain rfl := HNV.out hv
   clear HNV HYP hv HVY LAC CAC DAC
   go_wp2_with fail
   clear gA
   refine (LAA.out w3 B3.out.2).mono ?_
   rintro e w4 ⟨rfl, k4⟩
   have K4 := Ld (B3.out.2.trans k4)
   clear k4 LAA B3
   go_wp2_with fail
   refine (H15.out w4 K4.out).mono ?_
   rintro e w5 ⟨rfl, k5⟩
   have K5 := Ld (K4.out.trans k5)
   clear k5
   go_wp2_with fail
   go_ret
   exact ⟨rfl, K5.out⟩
  ·have HY := Ld (HYP.out hv)
   have HV5 := Ld (HVY.out hv)
   clear HYP HNV HVY hv LAA
   go_wp2_with fail
   clear gA
   refine (HV5.out w3 B3.out.2).mono ?_
   rintro e w4 ⟨tc, kc, rfl, hty, htm, k4⟩
   obtain ⟨p2, n2, c2, rfl⟩ := hty.slice
   obtain ⟨ma2, mn2, mc2, rfl⟩ := htm.slice
   have B4 : Hid (Blk w4 w.heap.size 28 [Value.int .i64 a.op, .string a.name, .int .i64 a.n, .int .i64 a.ty.kind, .string a.ty.name, .slice p0 n0 c0, .slice ma0 mn0 mc0] ∧ Kept (fun _ => False) w w4) := Ld ⟨B3.out.1.kept k4 (fun h => h), B3.out.2.trans k4⟩
   have HTY := Ld hty
   have HTM := Ld htm
   clear B3 k4 HV5 hty htm
   go_upto_region 6 with (fail)
   have B5 : Hid (Blk (w4.alloc (.cells #[.int .i64 u.op, .string u.name, .int .i64 u.n, .int .i64 u.ty.kind, .string u.ty.name, .slice p2 n2 c2, .slice ma2 mn2 mc2] 28)) w.heap.size 28 [Value.int .i64 a.op, .string a.name, .int .i64 a.n, .int .i64 a.ty.kind, .string a.ty.name, .slice p0 n0 c0, .slice ma0 mn0 mc0] ∧ Blk (w4.alloc (.cells #[.int .i64 u.op, .string u.name, .int .i64 u.n, .int .i64 u.ty.kind, .string u.ty.name, .slice p2 n2 c2, .slice ma2 mn2 mc2] 28)) w4.heap.size 28 [Value.int .i64 u.op, .string u.name, .int .i64 u.n, .int .i64 u.ty.kind, .string u.ty.name, .slice p2 n2 c2, .slice ma2 mn2 mc2] ∧ Kept (fun _ => False) w (w4.alloc (.cells #[.int .i64 u.op, .string u.name, .int .i64 u.n, .int .i64 u.ty.kind, .string u.ty.name, .slice p2 n2 c2, .slice ma2 mn2 mc2] 28)) ∧ TyL (fun _ => True) (w4.alloc (.cells #[.int .i64 u.op, .string u.name, .int .i64 u.n, .int .i64 u.ty.kind, .string u.ty.name, .slice p2 n2 c2, .slice ma2 mn2 mc2] 28)) u.ty.kids (.slice p2 n2 c2) ∧ TmL (fun _ => True) (w4.alloc (.cells #[.int .i64 u.op, .string u.name, .int .i64 u.n, .int .i64 u.ty.kind, .string u.ty.name, .slice p2 n2 c2, .slice ma2 mn2 mc2] 28)) u.kids (.slice ma2 mn2 mc2)) := Ld ⟨B4.out.1.alloc _, Blk.new w4 28 _, B4.out.2.alloc _, (HTY.out.frame (Same.alloc _ _)).mono (fun _ _ _ => trivial), (HTM.out.frame (Same.alloc _ _)).mono (fun _ _ _ => trivial)⟩
   clear B4 HTY HTM
   generalize w4.alloc (.cells #[.int .i64 u.op, .string u.name, .int .i64 u.n, .int .i64 u.ty.kind, .string u.ty.name, .slice p2 n2 c2, .slice ma2 mn2 mc2] 28) = w5 at *
   generalize w4.heap.size = P at *
   obtain ⟨ι, W, hne, hW1, hW2⟩ := kept_fam w5
   have x0 : ∀ i j, (W i).cell? ⟨w.heap.size, j, none⟩ = [Value.int .i64 a.op, .string a.name, .int .i64 a.n, .int .i64 a.ty.kind, .string a.ty.name, .slice p0 n0 c0, .slice ma0 mn0 mc0][j]? := fun i => (B5.out.1.kept (hW1 i) (fun h => h)).cell
   have y0 : ∀ i j, (W i).cell? ⟨P, j, none⟩ = [Value.int .i64 u.op, .string u.name, .int .i64 u.n, .int .i64 u.ty.kind, .string u.ty.name, .slice p2 n2 c2, .slice ma2 mn2 mc2][j]? := fun i => (B5.out.2.1.kept (hW1 i) (fun h => h)).cell
   have HSU := Ld (ok_sm HY.out.1)
   have LC : Hid (∀ i, Calls Tryz.prog 31 #[.agg #[.int .i64 a.op, .string a.name, .int .i64 a.n, .int .i64 a.ty.kind, .string a.ty.name, .slice p0 n0 c0, .slice ma0 mn0 mc0], .agg #[.int .i64 u.op, .string u.name, .int .i64 u.n, .int .i64 u.ty.kind, .string u.ty.name, .slice p2 n2 c2, .slice ma2 mn2 mc2]] (W i) fun e w' => e = .returned (.bool (alB a u)) ∧ Kept (fun _ => False) (W i) w') := Ld (fun i => LAC.out u HSU.out _ _ _ (W i) (B5.out.2.2.1.trans (hW1 i)) (B5.out.2.2.2.1.frame (sK (hW1 i))) (B5.out.2.2.2.2.frame (sK (hW1 i))))
   have CC5 : Hid (∀ i, Calls Tryz.prog 33 #[.agg #[.int .i64 a.op, .string a.name, .int .i64 a.n, .int .i64 a.ty.kind, .string a.ty.name, .slice p0 n0 c0, .slice ma0 mn0 mc0], .agg #[.int .i64 u.op, .string u.name, .int .i64 u.n, .int .i64 u.ty.kind, .string u.ty.name, .slice p2 n2 c2, .slice ma2 mn2 mc2]] (W i) fun e w' => e = .returned (.int .i64 (cmpA a u)) ∧ Kept (fun _ => False) (W i) w') := Ld (fun i => CAC.out u HSU.out _ _ _ (W i) (B5.out.2.2.1.trans (hW1 i)) (B5.out.2.2.2.1.frame (sK (hW1 i))) (B5.out.2.2.2.2.frame (sK (hW1 i))))
   have DC : Hid (∀ i, Calls Tryz.prog 34 #[.agg #[.int .i64 a.op, .string a.name, .int .i64 a.n, .int .i64 a.ty.kind, .string a.ty.name, .slice p0 n0 c0, .slice ma0 mn0 mc0], .agg #[.int .i64 u.op, .string u.name, .int .i64 u.n, .int .i64 u.ty.kind, .string u.ty.name, .slice p2 n2 c2, .slice ma2 mn2 mc2]] (W i) fun e w' => e = .returned (.int .i64 (cmpA a u)) ∧ Kept (fun _ => False) (W i) w') := Ld (fun i => DAC.out u HSU.out _ _ _ (W i) (B5.out.2.2.1.trans (hW1 i)) (B5.out.2.2.2.1.frame (sK (hW1 i))) (B5.out.2.2.2.2.frame (sK (hW1 i))))
   rw [HY.out.2] at LC
   clear LAC CAC DAC
   generalize cmpA a u = cau at *
   have HX1 : Hid (∀ i : ι, Calls Tryz.prog 31 #[.agg #[.int .i64 a.op, .string a.name, .int .i64 a.n, .int .i64 a.ty.kind, .string a.ty.name, .slice p0 n0 c0, .slice ma0 mn0 mc0], .agg #[.int .i64 u.op, .string u.name, .int .i64 u.n, .int .i64 u.ty.kind, .string u.ty.name, .slice p2 n2 c2, .slice ma2 mn2 mc2]] (W i) fun e w' => e = .returned (.bool true) ∧ ∃ m, w' = W m) := Ld (fun i => (LC.out i).mono fun e w' h => ⟨h.1, hW2 _ ((hW1 i).trans h.2)⟩)
   have HX3 : Hid (∀ i : ι, Calls Tryz.prog 33 #[.agg #[.int .i64 a.op, .string a.name, .int .i64 a.n, .int .i64 a.ty.kind, .string a.ty.name, .slice p0 n0 c0, .slice ma0 mn0 mc0], .agg #[.int .i64 u.op, .string u.name, .int .i64 u.n, .int .i64 u.ty.kind, .string u.ty.name, .slice p2 n2 c2, .slice ma2 mn2 mc2]] (W i) fun e w' => e = .returned (.int .i64 cau) ∧ ∃ m, w' = W m) := Ld (fun i => (CC5.out i).mono fun e w' h => ⟨h.1, hW2 _ ((hW1 i).trans h.2)⟩)
   have HX4 : Hid (∀ i : ι, Calls Tryz.prog 34 #[.agg #[.int .i64 a.op, .string a.name, .int .i64 a.n, .int .i64 a.ty.kind, .string a.ty.name, .slice p0 n0 c0, .slice ma0 mn0 mc0], .agg #[.int .i64 u.op, .string u.name, .int .i64 u.n, .int .i64 u.ty.kind, .string u.ty.name, .slice p2 n2 c2, .slice ma2 mn2 mc2]] (W i) fun e w' => e = .returned (.int .i64 cau) ∧ ∃ m, w' = W m) := Ld (fun i => (DC.out i).mono fun e w' h => ⟨h.1, hW2 _ ((hW1 i).trans h.2)⟩)
   have HX5 : Hid (∀ i : ι, Calls Tryz.prog 15 #[] (W i) fun e w' => e = .returned (.bool true) ∧ ∃ m, w' = W m) := Ld (fun i => (H15.out (W i) (B5.out.2.2.1.trans (hW1 i))).mono fun e w' h => ⟨h.1, hW2 _ ((hW1 i).trans h.2)⟩)
   have HW : Hid (∀ i, Kept (fun _ => False) w (W i)) := Ld (fun i => B5.out.2.2.1.trans (hW1 i))
   have h0 := hW2 _ ((Kept.refl (fun _ => False) w5).drew)
   clear hW1 hW2 LC CC5 DC H15 HY HSU B5
   refine wp_quiet_all (W := W) (by kernel_rfl) (by kernel_rfl) h0 ?_
   clear h0
   repeat (go_big_quiet_step (first | (go_at_call 31; exact HX1.out _) | (go_at_call 33; exact HX3.out _) | (go_at_call 34; exact HX4.out _) | (go_at_call 15; exact HX5.out _)))
   refine wpQuiet_nil ?_
   intro _ hw'
   obtain ⟨nq, hw''⟩ := hw'
   subst hw''
   have KW := Ld (HW.out nq)
   clear x0 y0 HX1 HX3 HX4 HX5 HW
   generalize W nq = w6 at *
   go_wp2_with fail
   go_ret
   exact ⟨rfl, KW.out⟩
end Go.Proofs.YtfhedienjnfdcaaGreatDoor
