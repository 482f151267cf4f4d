/- Texts JnA of this proof, in one. -/
import Derived.Test.YtfhedienjnfdcaaGreatDoorG18
set_option linter.unusedVariables false
set_option linter.unusedSimpArgs false
set_option maxRecDepth 100000
set_option maxHeartbeats 32000000
namespace Go.Proofs.YtfhedienjnfdcaaGreatDoor
open Go.RowKit
theorem val1_any {ok : Nat → Prop} {w : World} {t : Tm} {a : Option Addr} {n c : Nat} {ma : Option Addr} {mn mc : Nat} (hk : TyL ok w t.ty.kids (.slice a n c)) (hm : TmL ok w t.kids (.slice ma mn mc)) (hs : SmTm big t) :
  Calls Tryz.prog 109 #[.agg #[.int .i64 t.op, .string t.name, .int .i64 t.n, .int .i64 t.ty.kind, .string t.ty.name, .slice a n c, .slice ma mn mc]] w fun e w' => e = .returned (.bool (!validB t)) ∧ Kept (fun _ => False) w w' := by
 have hcon := Ld (valid_any (hk.frame (Same.alloc w (.cells #[.int .i64 t.op, .string t.name, .int .i64 t.n, .int .i64 t.ty.kind, .string t.ty.name, .slice a n c, .slice ma mn mc] 28))) (hm.frame (Same.alloc w (.cells #[.int .i64 t.op, .string t.name, .int .i64 t.n, .int .i64 t.ty.kind, .string t.ty.name, .slice a n c, .slice ma mn mc] 28))) hs)
 clear hk hm hs
 go_enter Tryz.func109, Tryz.ntmps109
 go_wp2_with fail
 refine hcon.out.mono ?_
 rintro e w' ⟨rfl, h⟩
 go_wp2_with fail
 go_ret
 exact ⟨rfl, ((Kept.refl _ _).alloc _).trans h⟩
theorem all_drop {p : Tm → Bool} {l : List Tm} {k : Nat} (h : k < l.length) : (l.drop k).all p = (p l[k] && (l.drop (k + 1)).all p) := by
 rw [drop_cons l k h, List.all_cons]
theorem idxV_any {ok : Nat → Prop} {l : List Tm} {a : Option Addr} {n cp : Nat} {w : World} (hn1 : l.length ≤ 1000000) (hs : ∀ t, t ∈ l → SmTm big t) (hk : TmL ok w l (.slice a n cp)) :
  Calls Tryz.prog 175 #[.slice a n cp, .func (.func 109) #[] #[]] w fun e w' => ∃ i : Int, e = .returned (.int .i64 i) ∧ decide (0 ≤ i) = !(l.all validB) ∧ Kept (fun _ => False) w w' := by
 have HS := Ld hs
 clear hs
 have hn := hk.len
 subst hn
 cases hk with
 | nil he =>
  go_enter Tryz.func175, Tryz.ntmps175
  go_wp2_with fail
  go_loop [8] (fun i => i = .int .i64 0) (fun i => 0)
  case atStart => rfl
  case round =>
   subst hrel
   go_wp2_with fail
   go_ret
   exact ⟨-1, rfl, by simp, Kept.refl _ _⟩
 | mk K MM hne hok hcap hcell hkk hmm =>
  rename_i g off
  have HC := Ld hcell
  have HK := Ld hkk
  have HMM := Ld hmm
  clear hcell hkk hmm
  have hn2 := Ld hn1
  clear hn1
  go_enter Tryz.func175, Tryz.ntmps175
  go_wp2_with fail
  go_loopw [8] (fun i wr => ∃ k : Nat, k ≤ l.length ∧ i = .int .i64 k ∧ Kept (fun _ => False) w wr ∧ Hid (l.all validB = (l.drop k).all validB)) (fun i _ => l.length - (intOf i).toNat)
  case atStart => exact ⟨0, Nat.zero_le _, rfl, Kept.refl _ _, Ld rfl⟩
  case round =>
   obtain ⟨k, hkl, rfl, hkr, heq⟩ := hrel
   have hn3 := hn2.out
   by_cases hlt : k < l.length
   ·have hs := Same.of_kept (ok := ok) hkr (fun k h e => e)
    have c0 := hs.cell hok (HC.out k hlt).1
    have c1 := hs.cell hok (HC.out k hlt).2.1
    have c2 := hs.cell hok (HC.out k hlt).2.2.1
    have c3 := hs.cell hok (HC.out k hlt).2.2.2.1
    have c4 := hs.cell hok (HC.out k hlt).2.2.2.2.1
    have c5 := hs.cell hok (HC.out k hlt).2.2.2.2.2.1
    have c6 := hs.cell hok (HC.out k hlt).2.2.2.2.2.2
    have i1 : (k : Int) < (l.length : Int) := by omega
    have i2 : (k : Int) < 1000000 := by omega
    obtain ⟨ta, tn, tc, hK⟩ := (HK.out k hlt).slice
    have hkk := (HK.out k hlt).frame hs
    rw [hK] at c5 hkk
    obtain ⟨ua, un, uc, hU⟩ := (HMM.out k hlt).slice
    have hmm := (HMM.out k hlt).frame hs
    rw [hU] at c6 hmm
    have hst := Ld (all_drop (p := validB) hlt)
    have hcon := Ld (val1_any hkk hmm (HS.out _ (List.getElem_mem hlt)))
    clear hkk hmm hs
    cases hr : validB l[k]
    ·rw [hr] at hcon
     go_wp2_with (go_at_call 109; refine hcon.out.mono ?_; rintro e w' ⟨rfl, h1⟩)
     go_ret
     exact ⟨k, rfl, by rw [heq.out, hst.out, hr]; simp, hkr.trans h1⟩
    ·rw [hr] at hcon
     go_wp2_with (go_at_call 109; refine hcon.out.mono ?_; rintro e w' ⟨rfl, h1⟩)
     go_roundw
     case rel => exact ⟨k + 1, by omega, by go_num, hkr.trans h1, Ld (by rw [heq.out, hst.out, hr]; rfl)⟩
     case measure => simp [intOf]; omega
   ·have hz : Hid (l.all validB = true) := Ld (by rw [heq.out, List.drop_eq_nil_of_le (by omega)]; rfl)
    go_wp2_with fail
    go_ret
    exact ⟨-1, rfl, by rw [hz.out]; rfl, hkr⟩
theorem contV_any {ok : Nat → Prop} {l : List Tm} {a : Option Addr} {n cp : Nat} {w : World} (hn1 : l.length ≤ 1000000) (hs : ∀ t, t ∈ l → SmTm big t) (hk : TmL ok w l (.slice a n cp)) :
  Calls Tryz.prog 108 #[.slice a n cp, .func (.func 109) #[] #[]] w fun e w' => e = .returned (.bool (!(l.all validB))) ∧ Kept (fun _ => False) w w' := by
 have hcon := Ld (idxV_any hn1 hs hk)
 clear hs hk hn1
 go_enter Tryz.func108, Tryz.ntmps108
 go_wp2_with fail
 refine hcon.out.mono ?_
 rintro e w' ⟨i, rfl, hi, h1⟩
 go_wp2_with fail
 go_ret
 exact ⟨rfl, h1⟩
theorem valids_any {ok : Nat → Prop} {l : List Tm} {a : Option Addr} {n cp : Nat} {w : World} (hn1 : l.length ≤ 1000000) (hs : ∀ t, t ∈ l → SmTm big t) (hk : TmL ok w l (.slice a n cp)) :
  Calls Tryz.prog 60 #[.slice a n cp] w fun e w' => e = .returned (.bool (l.all validB)) ∧ Kept (fun _ => False) w w' := by
 have hcon := Ld (contV_any hn1 hs hk)
 clear hs hk hn1
 go_enter Tryz.func60, Tryz.ntmps60
 go_wp2_with fail
 refine hcon.out.mono ?_
 rintro e w' ⟨rfl, h1⟩
 go_wp2_with fail
 go_ret
 exact ⟨by simp, h1⟩
end Go.Proofs.YtfhedienjnfdcaaGreatDoor
