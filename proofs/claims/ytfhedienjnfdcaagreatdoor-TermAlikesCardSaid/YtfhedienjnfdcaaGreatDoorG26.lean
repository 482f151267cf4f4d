/- Texts Ord Cmp CmpF OdP OrP of this proof, in one. -/
import Derived.Test.YtfhedienjnfdcaaGreatDoorG20
import Derived.Lib.Bytealg
set_option linter.unusedVariables false
set_option linter.unusedSimpArgs false
set_option maxRecDepth 100000
set_option maxHeartbeats 32000000
namespace Go.Proofs.YtfhedienjnfdcaaGreatDoor
open Go.RowKit
def cmpI (a b : Int) : Ordering := if a < b then .lt else if b < a then .gt else .eq
def cmpB : List UInt8 → List UInt8 → Ordering
 | [], [] => .eq
 | [], _ :: _ => .lt
 | _ :: _, [] => .gt
 | a :: l, b :: r => if a < b then .lt else if b < a then .gt else cmpB l r
def toI : Ordering → Int
 | .lt => -1
 | .eq => 0
 | .gt => 1
def orO (a b : Ordering) : Ordering := match a with
 | .eq => b
 | a => a
section
variable (SH : Ty → List UInt8)
mutual
def cmpT : Tm → Tm → Ordering
 | .mk op nm N ty l, .mk op' nm' N' ty' l' => orO (cmpI (tmNs l + 1 : Nat) (tmNs l' + 1 : Nat)) (orO (cmpI op op') (orO (cmpB nm.data.toList nm'.data.toList) (orO (cmpI N N') (orO (cmpB (SH ty) (SH ty')) (cmpK l l')))))
def cmpK : List Tm → List Tm → Ordering
 | [], [] => .eq
 | [], _ :: _ => .lt
 | _ :: _, [] => .gt
 | a :: l, b :: r => orO (cmpT a b) (cmpK l r)
end
end
theorem cmpB_zero : ∀ (a b : List UInt8), cmpB a b = .eq ↔ a = b
 | [], [] => by simp [cmpB]
 | [], _ :: _ => by simp [cmpB]
 | _ :: _, [] => by simp [cmpB]
 | a :: l, b :: r => by
  rw [cmpB]
  have := cmpB_zero l r
  simp only [UInt8.lt_iff_toNat_lt, List.cons.injEq]
  by_cases h1 : a.toNat < b.toNat
  ·simp only [h1, if_true, reduceCtorEq, false_iff]
   rintro ⟨rfl, _⟩; omega
  ·by_cases h2 : b.toNat < a.toNat
   ·simp only [h1, h2, if_true, if_false, reduceCtorEq, false_iff]
    rintro ⟨rfl, _⟩; omega
   ·simp only [h1, h2, if_false, this]
    have e : a = b := UInt8.toNat.inj (by omega)
    simp [e]
theorem bytes_cmp : ∀ (a b : List UInt8), Lib.compareBytes a b = toI (cmpB a b)
 | [], [] => rfl
 | [], _ :: _ => rfl
 | _ :: _, [] => rfl
 | x :: a, y :: b => by
  rw [Lib.compareBytes, cmpB]
  have := bytes_cmp a b
  by_cases h1 : x < y
  ·rw [if_pos h1, if_pos h1]; rfl
  ·rw [if_neg h1, if_neg h1]
   by_cases h2 : y < x
   ·rw [if_pos h2, if_pos h2]; rfl
   ·rw [if_neg h2, if_neg h2]; exact this
theorem nan_any (a : Int) (w : World) : Calls Tryz.prog 178 #[.int .i64 a] w fun e w' => e = .returned (.bool false) ∧ w = w' := by
 go_enter Tryz.func178, Tryz.ntmps178
 go_wp2_with fail
 go_ret
 exact ⟨by simp, rfl⟩
theorem cmpInt_any (a b : Int) (w : World) : Calls Tryz.prog 116 #[.int .i64 a, .int .i64 b] w fun e w' => e = .returned (.int .i64 (toI (cmpI a b))) ∧ w = w' := by
 by_cases h1 : a < b
 ·have hc : cmpI a b = .lt := by unfold cmpI; rw [if_pos h1]
  rw [hc]
  go_enter Tryz.func116, Tryz.ntmps116
  go_wp2_with (go_at_call 178; refine (nan_any _ _).mono ?_; rintro e w' ⟨rfl, rfl⟩)
  go_ret
  exact ⟨rfl, rfl⟩
 ·by_cases h2 : b < a
  ·have hc : cmpI a b = .gt := by unfold cmpI; rw [if_neg h1, if_pos h2]
   rw [hc]
   go_enter Tryz.func116, Tryz.ntmps116
   go_wp2_with (go_at_call 178; refine (nan_any _ _).mono ?_; rintro e w' ⟨rfl, rfl⟩)
   go_ret
   exact ⟨rfl, rfl⟩
  ·have hc : cmpI a b = .eq := by unfold cmpI; rw [if_neg h1, if_neg h2]
   rw [hc]
   go_enter Tryz.func116, Tryz.ntmps116
   go_wp2_with (go_at_call 178; refine (nan_any _ _).mono ?_; rintro e w' ⟨rfl, rfl⟩)
   go_ret
   exact ⟨rfl, rfl⟩
theorem cmpStr_any (a b : ByteArray) (w : World) : Calls Tryz.prog 117 #[.string a, .string b] w fun e w' => e = .returned (.int .i64 (toI (cmpB a.data.toList b.data.toList))) ∧ w = w' := by
 have H : Hid (∀ w, Calls Tryz.prog 179 #[.string a, .string b] w fun e w' => e = .returned (.int .i64 (toI (cmpB a.data.toList b.data.toList))) ∧ w = w') := Ld (by
  intro w
  rw [← bytes_cmp]
  go_enter Tryz.func179, Tryz.ntmps179
  go_wp2
  rw [run_callFunc_extern Tryz.func214 (by kernel_rfl) (by kernel_rfl) (by kernel_rfl) (e := Extern.BytealgCompare.compare) (by kernel_rfl), Lib.run_compareString]
  simp only [Result.andThen]
  rw [Oper.upon_value]
  go_wp2
  go_ret
  exact ⟨rfl, rfl⟩)
 go_enter Tryz.func117, Tryz.ntmps117
 go_wp2_with (go_at_call 179; refine (H.out _).mono ?_; rintro e w' ⟨rfl, rfl⟩)
 go_ret
 exact ⟨rfl, rfl⟩
def orL : List Int → Int
 | [] => 0
 | x :: l => if x = 0 then orL l else x
theorem or_any {w : World} {g off c : Nat} (l : List Int) (hn : l.length ≤ 1000000) (hc : ∀ i (h : i < l.length), w.cell? ⟨g, off + i, none⟩ = some (.int .i64 l[i])) :
  Calls Tryz.prog 115 #[.slice (some ⟨g, off, none⟩) l.length c] w fun e w' => e = .returned (.int .i64 (orL l)) ∧ w = w' := by
 have HC := Ld hc
 have HN := Ld hn
 clear hc
 go_enter Tryz.func115, Tryz.ntmps115
 go_wp2_with fail
 go_loop [8] (fun i => ∃ j : Nat, j ≤ l.length ∧ i = .int .i64 j ∧ Hid (orL l = orL (l.drop j))) (fun i => l.length - (intOf i).toNat)
 case atStart => exact ⟨0, Nat.zero_le _, rfl, Ld rfl⟩
 case round =>
  obtain ⟨j, hj, rfl, hq⟩ := hrel
  by_cases hlt : j < l.length
  ·have c0 := HC.out j hlt
   have HD : Hid (orL l = if l[j] = 0 then orL (l.drop (j + 1)) else l[j]) := Ld (by rw [hq.out, List.drop_eq_getElem_cons hlt, orL])
   have hj2 : (j : Int) < (l.length : Int) := by omega
   by_cases hz : l[j] = 0
   ·rw [hz] at c0
    go_wp2_with fail
    go_round
    case rel => exact ⟨j + 1, by omega, by go_num, Ld (by rw [HD.out, if_pos hz])⟩
    case measure => simp [intOf]; omega
   ·have hz2 : (l[j] == 0) = false := by simpa using hz
    have hz3 : (l[j] != 0) = true := by simpa using hz
    have HE : Hid (orL l = l[j]) := Ld (by rw [HD.out, if_neg hz])
    go_wp2_with fail
    go_ret
    exact ⟨by rw [HE.out]; rfl, rfl⟩
  ·have HZ : Hid (orL l = 0) := Ld (by rw [hq.out, List.drop_eq_nil_of_le (by omega)]; rfl)
   go_wp2_with fail
   go_ret
   exact ⟨by rw [HZ.out]; rfl, rfl⟩
def ShOk (t : Ty) : Prop := (OkTy t ∧ (tyShow t).length ≤ 1000000) ∨ t = ty0
inductive OdTm : Tm → Prop
 | mk {o : Int} {n : ByteArray} {i : Int} {t : Ty} {l : List Tm} (hn : l.length ≤ 1000000) (ht : ShOk t) (hz : tmNs l + 1 ≤ 100000) (hl : ∀ k, k ∈ l → OdTm k) : OdTm (.mk o n i t l)
def OdC (t : Tm) : Prop := ∀ (t' : Tm) (w : World) (ok ok' : Nat → Prop) (tk kk tk' kk' : Value), OdTm t' → TyL ok w t.ty.kids tk → TmL ok w t.kids kk → TyL ok' w t'.ty.kids tk' → TmL ok' w t'.kids kk' →
 Calls Tryz.prog 71 #[tmVal t tk kk, tmVal t' tk' kk'] w fun e w' => e = .returned (.int .i64 (toI (cmpT tyShow t t'))) ∧ Kept (fun _ => False) w w'
theorem cmpK_drop {l l' : List Tm} {k : Nat} (h : k < l.length) (h' : k < l'.length) : cmpK tyShow (l.drop k) (l'.drop k) = orO (cmpT tyShow l[k] l'[k]) (cmpK tyShow (l.drop (k + 1)) (l'.drop (k + 1))) := by
 rw [List.drop_eq_getElem_cons h, List.drop_eq_getElem_cons h', cmpK]
theorem cmpK_end {l l' : List Tm} {k : Nat} (h : l.length ≤ k) (hk : k ≤ l'.length) : cmpK tyShow (l.drop k) (l'.drop k) = if k < l'.length then .lt else .eq := by
 rw [List.drop_eq_nil_of_le h]
 by_cases hlt : k < l'.length
 ·rw [List.drop_eq_getElem_cons hlt, cmpK, if_pos hlt]
 ·rw [List.drop_eq_nil_of_le (Nat.le_of_not_lt hlt), cmpK, if_neg hlt]
theorem cmpK_end' {l l' : List Tm} {k : Nat} (h : k < l.length) (hk : l'.length ≤ k) : cmpK tyShow (l.drop k) (l'.drop k) = .gt := by
 rw [List.drop_eq_getElem_cons h, List.drop_eq_nil_of_le hk, cmpK]
theorem cmpF_any {l l' : List Tm} {w : World} {ok ok' : Nat → Prop} {v v' : Value} (IH : ∀ u, u ∈ l → OdC u) (IO : ∀ u, u ∈ l' → OdTm u) (hn : l.length ≤ 1000000) (hn' : l'.length ≤ 1000000) (h : TmL ok w l v) (h' : TmL ok' w l' v') :
  Calls Tryz.prog 119 #[v, v', .func (.func 71) #[] #[]] w fun e w' => e = .returned (.int .i64 (toI (cmpK tyShow l l'))) ∧ Kept (fun _ => False) w w' := by
 obtain ⟨a, n, c, rfl⟩ := h.slice
 obtain ⟨a', n', c', rfl⟩ := h'.slice
 obtain rfl : n = l.length := h.len
 obtain rfl : n' = l'.length := h'.len
 have HIH := Ld IH
 have HIO := Ld IO
 have HAT := Ld (fun W (k : Kept (fun _ => False) w W) => (h.frame (sK k)).at)
 have HAT' := Ld (fun W (k : Kept (fun _ => False) w W) => (h'.frame (sK k)).at)
 clear h h' IH IO
 go_enter Tryz.func119, Tryz.ntmps119
 go_wp2_with fail
 go_loopw [13] (fun i wr => ∃ j : Nat, j ≤ l.length ∧ j ≤ l'.length ∧ i = .int .i64 j ∧ Kept (fun _ => False) w wr ∧ Hid (cmpK tyShow l l' = cmpK tyShow (l.drop j) (l'.drop j))) (fun i _ => l.length - (intOf i).toNat)
 case atStart => exact ⟨0, Nat.zero_le _, Nat.zero_le _, rfl, Kept.refl _ _, Ld rfl⟩
 case round =>
  obtain ⟨j, hj, hj', rfl, kr, hq⟩ := hrel
  by_cases hlt : j < l.length
  ·obtain ⟨g, off, ta, tn, tc, ma, mn, mc, rfl, _, lg, ⟨c0, c1, c2, c3, c4, c5, c6⟩, hty, htm⟩ := HAT.out wr kr j hlt
   have hj2 : (j : Int) < (l.length : Int) := by omega
   have hj3 : (j : Int) < 1000000 := by omega
   by_cases hlt' : j < l'.length
   ·obtain ⟨g', off', ta', tn', tc', ma', mn', mc', rfl, _, lg', ⟨d0, d1, d2, d3, d4, d5, d6⟩, hty', htm'⟩ := HAT'.out wr kr j hlt'
    have hcon := Ld (fun (W : World) (kW : Kept (fun _ => False) wr W) => HIH.out _ (List.getElem_mem hlt) l'[j] W ok ok' _ _ _ _ (HIO.out _ (List.getElem_mem hlt')) (hty.frame (Same.of_kept kW (fun k h e => e))) (htm.frame (Same.of_kept kW (fun k h e => e))) (hty'.frame (Same.of_kept kW (fun k h e => e))) (htm'.frame (Same.of_kept kW (fun k h e => e))))
    unfold tmVal at hcon
    have HS := Ld (cmpK_drop hlt hlt')
    clear hty hty' htm htm'
    have hj4 : (j : Int) < (l'.length : Int) := by omega
    have hj5 : ¬ (l'.length : Int) ≤ (j : Int) := by omega
    have ng : g ≠ wr.heap.size := by omega
    have ng' : g' ≠ wr.heap.size := by omega
    have kA := Ld (fun (cs cs' : Array Value) => ((Kept.refl (fun _ => False) wr).alloc (.cells cs 28)).alloc (.cells cs' 28))
    cases hr : cmpT tyShow l[j] l'[j]
    case eq =>
     rw [hr] at hcon HS
     simp only [toI] at hcon
     go_wp2_with fail
     have KA : Kept (fun _ => False) wr ((wr.alloc (.cells #[.int .i64 l[j].op, .string l[j].name, .int .i64 l[j].n, .int .i64 l[j].ty.kind, .string l[j].ty.name, .slice ta tn tc, .slice ma mn mc] 28)).alloc (.cells #[.int .i64 l'[j].op, .string l'[j].name, .int .i64 l'[j].n, .int .i64 l'[j].ty.kind, .string l'[j].ty.name, .slice ta' tn' tc', .slice ma' mn' mc'] 28)) := kA.out _ _
     generalize ((wr.alloc (.cells #[.int .i64 l[j].op, .string l[j].name, .int .i64 l[j].n, .int .i64 l[j].ty.kind, .string l[j].ty.name, .slice ta tn tc, .slice ma mn mc] 28)).alloc (.cells #[.int .i64 l'[j].op, .string l'[j].name, .int .i64 l'[j].n, .int .i64 l'[j].ty.kind, .string l'[j].ty.name, .slice ta' tn' tc', .slice ma' mn' mc'] 28)) = w4 at *
     refine (hcon.out w4 KA).mono ?_
     rintro e w' ⟨rfl, k2⟩
     clear c0 c1 c2 c3 c4 c5 c6 d0 d1 d2 d3 d4 d5 d6 hcon ng ng' kA
     go_wp2_with fail
     go_roundw
     case rel => exact ⟨j + 1, by omega, by omega, by go_num, (kr.trans KA).trans k2, Ld (by rw [hq.out, HS.out]; rfl)⟩
     case measure => simp [intOf]; omega
    all_goals
     rw [hr] at hcon HS
     simp only [toI] at hcon
     go_wp2_with fail
     have KA : Kept (fun _ => False) wr ((wr.alloc (.cells #[.int .i64 l[j].op, .string l[j].name, .int .i64 l[j].n, .int .i64 l[j].ty.kind, .string l[j].ty.name, .slice ta tn tc, .slice ma mn mc] 28)).alloc (.cells #[.int .i64 l'[j].op, .string l'[j].name, .int .i64 l'[j].n, .int .i64 l'[j].ty.kind, .string l'[j].ty.name, .slice ta' tn' tc', .slice ma' mn' mc'] 28)) := kA.out _ _
     generalize ((wr.alloc (.cells #[.int .i64 l[j].op, .string l[j].name, .int .i64 l[j].n, .int .i64 l[j].ty.kind, .string l[j].ty.name, .slice ta tn tc, .slice ma mn mc] 28)).alloc (.cells #[.int .i64 l'[j].op, .string l'[j].name, .int .i64 l'[j].n, .int .i64 l'[j].ty.kind, .string l'[j].ty.name, .slice ta' tn' tc', .slice ma' mn' mc'] 28)) = w4 at *
     refine (hcon.out w4 KA).mono ?_
     rintro e w' ⟨rfl, k2⟩
     clear c0 c1 c2 c3 c4 c5 c6 d0 d1 d2 d3 d4 d5 d6 hcon ng ng' kA
     go_wp2_with fail
     go_ret
     exact ⟨by rw [hq.out, HS.out]; rfl, (kr.trans KA).trans k2⟩
   ·have HZ : Hid (cmpK tyShow l l' = .gt) := Ld (by rw [hq.out, cmpK_end' hlt (by omega)])
    have hj4 : (l'.length : Int) ≤ (j : Int) := by omega
    have kA := Ld (fun (cs : Array Value) => (Kept.refl (fun _ => False) wr).alloc (.cells cs 28))
    go_wp2_with fail
    go_ret
    exact ⟨by rw [HZ.out]; rfl, kr.trans (kA.out _)⟩
  ·have HE := Ld (cmpK_end (l := l) (l' := l') (k := j) (by omega) hj')
   by_cases hlt' : j < l'.length
   ·have HZ : Hid (cmpK tyShow l l' = .lt) := Ld (by rw [hq.out, HE.out, if_pos hlt'])
    have hj4 : (l.length : Int) < (l'.length : Int) := by omega
    go_wp2_with fail
    go_ret
    exact ⟨by rw [HZ.out]; rfl, kr⟩
   ·have HZ : Hid (cmpK tyShow l l' = .eq) := Ld (by rw [hq.out, HE.out, if_neg hlt'])
    have hj4 : ¬ (l.length : Int) < (l'.length : Int) := by omega
    go_wp2_with fail
    go_ret
    exact ⟨by rw [HZ.out]; rfl, kr⟩
theorem tmNs_in {u : Tm} : ∀ {l : List Tm}, u ∈ l → tmN u ≤ tmNs l
 | a :: l, h => by
  rw [tmNs]
  rcases List.mem_cons.1 h with rfl | h
  ·omega
  ·have := tmNs_in h; omega
theorem shOk_of {op : Int} {ty : Ty} (h : tyOk op ty = true) : ShOk ty := by
 unfold tyOk at h
 by_cases e : op = 29
 ·rw [if_pos e, Bool.and_eq_true] at h
  obtain ⟨h1, h2⟩ := validTy_ok h.2
  exact .inl ⟨h1, by omega⟩
 ·rw [if_neg e] at h
  exact .inr (zero_ty h)
theorem odTm_of {t : Tm} (h : OkTm t) : tmN t ≤ 100000 → OdTm t := by
 induction h with
 | mk h hn hl ih =>
  intro hz
  rw [tmN] at hz
  obtain ⟨h1, h2, h3, h4⟩ := formed_parts h
  exact .mk (by omega) (shOk_of h4) hz (fun k hk => ih k hk (by have := tmNs_in hk; omega))
def cmpV (a b : Tm) : Int := toI (cmpT tyShow a b)
def alB (a b : Tm) : Bool := (validB a && validB b) && alikeT a b [] []
theorem alB_iff {a b : Tm} (ha : validB a = true) (hb : validB b = true) : alB a b = true ↔ dbT a = dbT b := by
 unfold alB
 rw [ha, hb]
 exact alike_db ((valid_iff a).1 ha).1.nw ((valid_iff b).1 hb).1.nw
end Go.Proofs.YtfhedienjnfdcaaGreatDoor
