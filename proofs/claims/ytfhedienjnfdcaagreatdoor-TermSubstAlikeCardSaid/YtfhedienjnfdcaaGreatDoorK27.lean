/- Texts AlW SaP of this proof, in one. -/
import Derived.Test.YtfhedienjnfdcaaGreatDoorK26
set_option linter.unusedVariables false
set_option linter.unusedSimpArgs false
set_option maxRecDepth 100000
set_option maxHeartbeats 32000000
namespace Go.Proofs.YtfhedienjnfdcaaGreatDoor
open Go.RowKit
theorem rvary_any {a : Tm} {l : List Int} {ok okL : Nat → Prop} {w : World} {tk kk vl : Value} (hv : validB a = true) (h1 : TyL ok w a.ty.kids tk) (h2 : TmL ok w a.kids kk) (hL : InL okL w l vl) (hl : l.length ≤ 9223372036854775807) :
  Calls Tryz.prog 35 #[tmVal a tk kk, vl] w (PutP (varyT l a) w) := by
 obtain ⟨p0, n0, c0, rfl⟩ := h1.slice
 obtain ⟨ma0, mn0, mc0, rfl⟩ := h2.slice
 obtain ⟨la, lc, rfl⟩ := hL.slice
 have hK : VrK (tmD a) a := by
  have h3 := (valid_iff a).1 hv
  exact ⟨valid_ok hv, h3.2.1, h3.2.2, Nat.le_refl _⟩
 have B0 : Hid (Blk ((w.alloc (.cells #[.int .i64 a.op, .string a.name, .int .i64 a.n, .int .i64 a.ty.kind, .string a.ty.name, .slice p0 n0 c0, .slice ma0 mn0 mc0] 28)).alloc Z7) (w.heap.size + 1) 28 z27 ∧ Kept (fun _ => False) w ((w.alloc (.cells #[.int .i64 a.op, .string a.name, .int .i64 a.n, .int .i64 a.ty.kind, .string a.ty.name, .slice p0 n0 c0, .slice ma0 mn0 mc0] 28)).alloc Z7) ∧ ∀ i, ((w.alloc (.cells #[.int .i64 a.op, .string a.name, .int .i64 a.n, .int .i64 a.ty.kind, .string a.ty.name, .slice p0 n0 c0, .slice ma0 mn0 mc0] 28)).alloc Z7).cell? ⟨w.heap.size, i, none⟩ = [Value.int .i64 a.op, .string a.name, .int .i64 a.n, .int .i64 a.ty.kind, .string a.ty.name, .slice p0 n0 c0, .slice ma0 mn0 mc0][i]?) := Ld
  ⟨Blk.new' 28 _ (by simp), ((Kept.refl _ _).alloc _).alloc _, ((Blk.new w 28 _).alloc _).cell⟩
 have HV := Ld (vary_any (tmD a) a hK l 0 _ ok okL _ _ _ (h1.frame (sK B0.out.2.1)) (h2.frame (sK B0.out.2.1)) (hL.frame (sK B0.out.2.1)) hl (by have := hK.2.1; omega))
 clear h1 h2 hL hl hK hv
 unfold VrP tmVal at HV
 unfold PutP tmVal
 have HR : Hid (varyT l a = (varF l (tmD a) a 0).1) := Ld rfl
 rw [← HR.out] at HV
 generalize varyT l a = r at *
 generalize (varF l (tmD a) a 0).2 = rn at *
 clear HR
 have gA := B0.out.2.2
 go_enter Tryz.func35, Tryz.ntmps35
 go_upto_region 1 with (fail)
 generalize ((w.alloc (.cells #[.int .i64 a.op, .string a.name, .int .i64 a.n, .int .i64 a.ty.kind, .string a.ty.name, .slice p0 n0 c0, .slice ma0 mn0 mc0] 28)).alloc Z7) = w1 at *
 go_wp2_with fail
 refine HV.out.mono ?_
 rintro e w2 ⟨tk, kk, rfl, hty, htm, k2⟩
 obtain ⟨p1, n1, c1, rfl⟩ := hty.slice
 obtain ⟨ma1, mn1, mc1, rfl⟩ := htm.slice
 have BR := Ld (B0.out.1.kept k2 (fun h => h))
 have KK := Ld (B0.out.2.1.trans k2)
 have HTY := Ld hty
 have HTM := Ld htm
 have hw1 : Hid (w.heap.size + 2 ≤ w1.heap.size) := Ld B0.out.1.lt
 have lR := BR.out.lt
 clear hty htm k2 B0 HV gA
 have fR := BR.out.frozen
 have gR : ∀ i, w2.cell? ⟨w.heap.size + 1, i, none⟩ = [Value.int .i64 0, .string ⟨#[]⟩, .int .i64 0, .int .i64 0, .string ⟨#[]⟩, .slice none 0 0, .slice none 0 0][i]? := BR.out.cell
 go_upto_region 2 with (fail)
 have BN : Hid (∀ i, (w2.alloc (.cells #[.int .i64 r.op, .string r.name, .int .i64 r.n, .int .i64 r.ty.kind, .string r.ty.name, .slice p1 n1 c1, .slice ma1 mn1 mc1] 28)).cell? ⟨w2.heap.size, i, none⟩ = [Value.int .i64 r.op, .string r.name, .int .i64 r.n, .int .i64 r.ty.kind, .string r.ty.name, .slice p1 n1 c1, .slice ma1 mn1 mc1][i]?) := Ld (Blk.new w2 28 _).cell
 have B3 := Ld (BR.out.alloc (.cells #[.int .i64 r.op, .string r.name, .int .i64 r.n, .int .i64 r.ty.kind, .string r.ty.name, .slice p1 n1 c1, .slice ma1 mn1 mc1] 28))
 have K3 := Ld (KK.out.alloc (.cells #[.int .i64 r.op, .string r.name, .int .i64 r.n, .int .i64 r.ty.kind, .string r.ty.name, .slice p1 n1 c1, .slice ma1 mn1 mc1] 28))
 have T3 := Ld (HTY.out.frame (Same.alloc _ (.cells #[.int .i64 r.op, .string r.name, .int .i64 r.n, .int .i64 r.ty.kind, .string r.ty.name, .slice p1 n1 c1, .slice ma1 mn1 mc1] 28)))
 have M3 := Ld (HTM.out.frame (Same.alloc _ (.cells #[.int .i64 r.op, .string r.name, .int .i64 r.n, .int .i64 r.ty.kind, .string r.ty.name, .slice p1 n1 c1, .slice ma1 mn1 mc1] 28)))
 clear BR KK HTY HTM fR gR lR
 generalize w2.alloc (.cells #[.int .i64 r.op, .string r.name, .int .i64 r.n, .int .i64 r.ty.kind, .string r.ty.name, .slice p1 n1 c1, .slice ma1 mn1 mc1] 28) = w3 at *
 have fR := B3.out.frozen
 have lR := B3.out.lt
 have gR : ∀ i, w3.cell? ⟨w.heap.size + 1, i, none⟩ = [Value.int .i64 0, .string ⟨#[]⟩, .int .i64 0, .int .i64 0, .string ⟨#[]⟩, .slice none 0 0, .slice none 0 0][i]? := B3.out.cell
 have gN := BN.out
 go_wp2_with fail
 exact bodyPost_ret (results_one Tryz.results35 rfl (load_tm (t := r) (r7 B3.out rfl))) rfl ⟨_, _, rfl, (T3.out.frame (set7 (fun q hq => by have := hw1.out; omega))).mono (fun q _ hq => by have := hw1.out; omega), (M3.out.frame (set7 (fun q hq => by have := hw1.out; omega))).mono (fun q _ hq => by have := hw1.out; omega), k7w K3.out (Or.inr (Nat.le_succ _))⟩
theorem evB_db {x : ByteArray} {u v : Tm} (h : dbT u = dbT v) : evB .fv [(x, u)] = evB .fv [(x, v)] := by
 funext s
 unfold evB
 have e1 : look [(x, u)] s = if x = s then some u else look [] s := rfl
 have e2 : look [(x, v)] s = if x = s then some v else look [] s := rfl
 rw [e1, e2]
 by_cases e : x = s
 ·rw [if_pos e, if_pos e]; exact h
 ·rw [if_neg e, if_neg e]
theorem sub_db {t v : Tm} {l : List (ByteArray × Tm)} (h : tmN t + (frB l).length ≤ 800000) : dbT (subT freshS t l) = bd (evB .fv l) (dbT t) := by
 unfold dbT
 rw [ev_sub freshS_FS t l _ h, ev_dbT]
 rfl
theorem sbst_one {t u : Tm} {x : ByteArray} (ht : validB t = true) (hu : validB u = true) : sbstR t [(x, u)] = if validB (subT freshS t [(x, u)]) then (subT freshS t [(x, u)], 0) else (tm0, 5) := by
 unfold sbstR ltdR
 have h : ([(x, u)] : List (ByteArray × Tm)).all vB = true := by
  rw [List.all_cons, List.all_nil, Bool.and_true]; exact hu
 rw [ht, h]
 rfl
theorem sa_plain {t u : Tm} (x : ByteArray) (l : List Int) (ht : validB t = true) (hu : validB u = true) :
  (validB (varyT l t) = true ∧ validB (varyT l u) = true) ∧ (SmTm big (subT freshS t [(x, u)]) ∧ SmTm big (subT freshS (varyT l t) [(x, varyT l u)])) ∧ validB (subT freshS (varyT l t) [(x, varyT l u)]) = validB (subT freshS t [(x, u)]) ∧
  (validB (subT freshS t [(x, u)]) = true → alB (subT freshS t [(x, u)]) (subT freshS (varyT l t) [(x, varyT l u)]) = true) := by
 have h1 := (valid_iff t).1 ht
 have h2 := (valid_iff u).1 hu
 have a1 := vary_ok (l := l) h1.1 (by omega)
 have a2 := vary_ok (l := l) h2.1 (by omega)
 have d1 := vary_db (l := l) h1.1 (by omega)
 have d2 := vary_db (l := l) h2.1 (by omega)
 have v1 := (valid_db a1 h1.1 d1).trans ht
 have v2 := (valid_db a2 h2.1 d2).trans hu
 have n1 := (valid_iff _).1 v1
 have n2 := (valid_iff _).1 v2
 have f1 : (frB [(x, u)]).length ≤ 2000 := by
  have := frs_len u
  rw [frB, frB, List.append_nil]; show (fr u).length ≤ 2000; omega
 have f2 : (frB [(x, varyT l u)]).length ≤ 2000 := by
  have := frs_len (varyT l u)
  rw [frB, frB, List.append_nil]; show (fr (varyT l u)).length ≤ 2000; omega
 have o1 : OkB [(x, u)] := fun b hb => by rw [List.mem_singleton.1 hb]; exact h2.1
 have o2 : OkB [(x, varyT l u)] := fun b hb => by rw [List.mem_singleton.1 hb]; exact a2
 have s1 := sub_ok h1.1 _ o1 (by omega)
 have s2 := sub_ok a1 _ o2 (by omega)
 have e : dbT (subT freshS t [(x, u)]) = dbT (subT freshS (varyT l t) [(x, varyT l u)]) := by
  rw [sub_db (v := t) (by omega), sub_db (v := t) (by omega), d1, evB_db d2]
 have v := valid_db s2 s1 e.symm
 exact ⟨⟨v1, v2⟩, ⟨ok_smt s1, ok_smt s2⟩, v, fun hv => (alB_iff hv (v.trans hv)).2 e⟩
end Go.Proofs.YtfhedienjnfdcaaGreatDoor
