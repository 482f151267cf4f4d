/- Texts RNod RNds TyP RPty RPrs RSam RSmt of this proof, in one. -/
import Derived.Test.YtckjlliobebodaaGreatDoorBb8
import Derived.Test.YtckjlliobebodaaGreatDoorBb12
import Derived.Test.YtckjlliobebodaaGreatDoorBb6
import Derived.Test.YtckjlliobebodaaGreatDoorBb9
import Derived.Test.YtckjlliobebodaaGreatDoorBb5
import Derived.BigQuiet
import Derived.StillTailTactics
import Derived.Deep.RegionHeld3
import Derived.Deep.CutBlock
set_option linter.unusedVariables false
set_option linter.unusedSimpArgs false
namespace Go.Proofs.YtckjlliobebodaaGreatDoor
open Go.RowKit
def kidR (op : Int) : Int := if (kidsN op).2 = true then (kidsN op).1 else -2
theorem kidR_eq {op : Int} (h : ¬ (op = 1 ∨ op = 2 ∨ op = 19 ∨ op = 20 ∨ op = 29 ∨ op = 3 ∨ op = 21 ∨ op = 28)) : kidR op = (if 46 ≤ op ∧ op ≤ 52 then 1 else if 4 ≤ op ∧ op ≤ 56 then 2 else -2) := by
  unfold kidR kidsN
  rw [if_neg (c := op = 1 ∨ op = 2 ∨ op = 19 ∨ op = 20 ∨ op = 29) (by omega)]
  by_cases m : 46 ≤ op ∧ op ≤ 52
  · rw [if_pos (c := op = 3 ∨ op = 21 ∨ (46 ≤ op ∧ op ≤ 52)) (by omega), if_pos m]; rfl
  · rw [if_neg (c := op = 3 ∨ op = 21 ∨ (46 ≤ op ∧ op ≤ 52)) (by omega), if_neg (c := op = 28) (by omega), if_neg m]
    by_cases m2 : 4 ≤ op ∧ op ≤ 56
    · rw [if_pos (c := 1 ≤ op ∧ op ≤ 56) (by omega), if_pos m2]; rfl
    · rw [if_neg (c := 1 ≤ op ∧ op ≤ 56) (by omega), if_neg m2]; rfl
set_option maxHeartbeats 2000000 in
theorem rkids_any (op : Int) (w : World) : Calls Tryz.prog 133 #[.int .i64 op] w fun e w' => e = .returned (.int .i64 (kidR op)) ∧ w = w' := by
  by_cases h : op = 1 ∨ op = 2 ∨ op = 19 ∨ op = 20 ∨ op = 29 ∨ op = 3 ∨ op = 21 ∨ op = 28
  · rcases h with rfl | rfl | rfl | rfl | rfl | rfl | rfl | rfl
    all_goals
      go_enter Tryz.func133, Tryz.ntmps133
      go_wp2_with fail
      go_ret
      exact ⟨rfl, rfl⟩
  · have n1 : (op == 1) = false := by simp; omega
    have n2 : (op == 2) = false := by simp; omega
    have n19 : (op == 19) = false := by simp; omega
    have n20 : (op == 20) = false := by simp; omega
    have n29 : (op == 29) = false := by simp; omega
    have n3 : (op == 3) = false := by simp; omega
    have n21 : (op == 21) = false := by simp; omega
    have n28 : (op == 28) = false := by simp; omega
    cases a1 : decide (46 ≤ op) <;> cases a2 : decide (op ≤ 52) <;> cases a3 : decide (4 ≤ op) <;> cases a4 : decide (op ≤ 56)
    all_goals
      first
      | (exfalso; simp only [decide_eq_true_eq, decide_eq_false_iff_not] at a1 a2 a3 a4; omega)
      | (have hk := Lib.hid (kidR_eq h)
         clear h
         go_enter Tryz.func133, Tryz.ntmps133
         go_wp2_with fail
         go_ret
         refine ⟨?_, rfl⟩
         rw [hk.out]
         simp only [decide_eq_true_eq, decide_eq_false_iff_not] at a1 a2 a3 a4
         first
         | (rw [if_pos (c := 46 ≤ op ∧ op ≤ 52) (by omega)]; all_goals rfl)
         | (rw [if_neg (c := 46 ≤ op ∧ op ≤ 52) (by omega), if_pos (c := 4 ≤ op ∧ op ≤ 56) (by omega)]; all_goals rfl)
         | (rw [if_neg (c := 46 ≤ op ∧ op ≤ 52) (by omega), if_neg (c := 4 ≤ op ∧ op ≤ 56) (by omega)]; all_goals rfl))
set_option maxHeartbeats 2000000 in
theorem rbinderB_any (op : Int) (w : World) : Calls Tryz.prog 135 #[.int .i64 op] w fun e w' => e = .returned (.bool (binderB op)) ∧ w = w' := by
  cases h1 : (op == 8) <;> cases h2 : (op == 9) <;> cases h3 : (op == 55) <;> cases h4 : (op == 56)
  all_goals
    have hk := Lib.hid (show binderB op = _ by unfold binderB; rw [h1, h2, h3, h4])
    go_enter Tryz.func135, Tryz.ntmps135
    go_wp2_with fail
    go_ret
    exact ⟨by rw [hk.out]; rfl, rfl⟩
set_option maxHeartbeats 1000000 in
theorem primed_big (x : ByteArray) (w : World) (hs : x.size ≤ 9223372036854775807) {v : Bool} (hv : primB x = v) :
    Calls Tryz.prog 89 #[.string x] w fun e w' => e = .returned (.bool v) ∧ Kept (fun _ => False) w w' := by
  unfold primB at hv
  by_cases h1 : 1 < x.size
  · rw [dif_pos h1] at hv
    have i1 : (1 : Int) < (x.size : Int) := by omega
    have i2 : x.size - 1 < x.size := by omega
    have i3 : (x.size : Int) - 1 = ((x.size - 1 : Nat) : Int) := by omega
    cases h39 : ((x[x.size - 1].toNat : Int) == 39)
    · rw [h39] at hv
      have HV := Lib.hid hv
      clear hv
      go_enter Tryz.func89, Tryz.ntmps89
      go_wp2_with fail
      go_ret
      exact ⟨by rw [← HV.out]; rfl, Kept.refl _ _⟩
    · rw [h39] at hv
      have HV := Lib.hid hv
      clear hv
      have hz : (x.extract 0 (x.size - 1)).size ≤ 9223372036854775807 := by rw [ByteArray.size_extract]; omega
      go_enter Tryz.func89, Tryz.ntmps89
      go_wp2_with fail
      refine (rident_any _ _ hz).mono ?_
      rintro e w' ⟨rfl, k'⟩
      go_wp2_with fail
      go_ret
      exact ⟨by rw [← HV.out]; simp, k'⟩
  · rw [dif_neg h1] at hv
    have i1 : ¬ (1 : Int) < (x.size : Int) := by omega
    have HV := Lib.hid hv
    clear hv
    go_enter Tryz.func89, Tryz.ntmps89
    go_wp2_with fail
    go_ret
    exact ⟨by rw [← HV.out]; rfl, Kept.refl _ _⟩
theorem ident_last {s : ByteArray} (h : identB s = true) (hp : s.size - 1 < s.size) : s[s.size - 1] ≠ 39 := by
  intro e
  unfold identB at h
  simp only [Bool.and_eq_true] at h
  have := allW_false s _ hp (by rw [e]; decide)
  rw [h.2] at this; cases this
theorem ext_take (s : ByteArray) (k : Nat) : (s.extract 0 k).data.toList = s.data.toList.take k := by
  rw [ByteArray.data_extract, Array.toList_extract, List.extract_eq_take_drop, List.drop_zero, Nat.sub_zero]
theorem trim_parts (s : ByteArray) : (∃ h : s.size - 1 < s.size, s[s.size - 1] = 39 ∧ trimQ s = s.extract 0 (s.size - 1)) ∨ ((∀ hp : s.size - 1 < s.size, s[s.size - 1] ≠ 39) ∧ trimQ s = s) := by
  have at_ : ∀ (l : List UInt8), s.data.toList = l → ∀ (p : Nat) (h : p < s.size) (h' : p < l.length), s[p] = l[p] := by
    intro l hl p h h'
    subst hl
    show s.data[p] = _
    rw [Array.getElem_toList]
  have hlen := Lib.size_eq s
  by_cases hs : Lib.hasSuffix s.data.toList [39] = true
  · left
    have hs' := hs
    unfold Lib.hasSuffix at hs
    obtain ⟨t, ht⟩ := List.isSuffixOf_iff_suffix.1 hs
    have hl : s.size = t.length + 1 := by rw [Lib.size_eq, ← ht]; simp
    refine ⟨by omega, ?_, ?_⟩
    · rw [at_ _ ht.symm (s.size - 1) (by omega) (by simp; omega), List.getElem_append_right (by omega)]
      simp
    · unfold trimQ Lib.trimSuffix
      rw [if_pos hs']
      apply ByteArray.ext
      apply Array.toList_inj.1
      rw [ext_take, hlen]
      rfl
  · right
    refine ⟨?_, ?_⟩
    · intro hp e
      apply hs
      unfold Lib.hasSuffix
      apply List.isSuffixOf_iff_suffix.2
      have h0 : s.data.toList ≠ [] := by
        intro q
        have : s.data.toList.length = 0 := by rw [q]; rfl
        omega
      refine ⟨s.data.toList.dropLast, ?_⟩
      have hlast : s.data.toList.getLast h0 = 39 := by
        rw [List.getLast_eq_getElem, ← e, at_ _ rfl (s.size - 1) hp (by omega)]
        congr 1
      rw [← hlast]; exact List.dropLast_concat_getLast h0
    · unfold trimQ Lib.trimSuffix
      rw [if_neg hs]
theorem ident_nil : identB ⟨#[]⟩ = false := by decide +kernel
theorem named_or (s : ByteArray) : namedB s = (identB s || primB s) := by
  rcases trim_parts s with ⟨h, e, ht⟩ | ⟨hne, ht⟩
  · have h1 : identB s = false := by
      cases hi : identB s
      · rfl
      · exact absurd e (ident_last hi h)
    unfold namedB
    rw [h1, ht, Bool.false_or]
    unfold primB
    by_cases h2 : 1 < s.size
    · rw [dif_pos h2, e]; rfl
    · rw [dif_neg h2]
      have h3 : s.extract 0 (s.size - 1) = ⟨#[]⟩ := by
        apply ByteArray.ext
        apply Array.toList_inj.1
        rw [ext_take]
        have : s.size - 1 = 0 := by omega
        rw [this]; rfl
      rw [h3]; exact ident_nil
  · unfold namedB
    rw [ht]
    have h2 : primB s = false := by
      unfold primB
      by_cases h : 1 < s.size
      · rw [dif_pos h]
        have : ((s[s.size - 1].toNat : Int) == 39) = false := by
          rw [beq_eq_false_iff_ne]
          intro q
          apply hne (by omega)
          apply UInt8.toNat_inj.1
          show _ = 39
          omega
        rw [this]; rfl
      · rw [dif_neg h]
    rw [h2, Bool.or_false]
set_option maxHeartbeats 1000000 in
theorem rnamed_t {s : ByteArray} {v : Bool} (hv : namedB s = v) (hs : s.size ≤ 9223372036854775807) (w : World) : Calls Tryz.prog 134 #[.string s] w fun e w' => e = .returned (.bool v) ∧ Kept (fun _ => False) w w' := by
  rw [named_or] at hv
  cases hi : identB s
  · have HI := Lib.hid hi
    rw [hi, Bool.false_or] at hv
    have HP := Lib.hid hv
    clear hi hv
    go_enter Tryz.func134, Tryz.ntmps134
    go_wp2_with fail
    refine (rident_t HI.out hs _).mono ?_
    rintro e w1 ⟨rfl, k1⟩
    go_wp2_with fail
    refine (primed_big s _ hs HP.out).mono ?_
    rintro e w2 ⟨rfl, k2⟩
    go_wp2_with fail
    go_ret
    exact ⟨rfl, k1.trans k2⟩
  · have HI := Lib.hid hi
    rw [hi, Bool.true_or] at hv
    subst hv
    clear hi
    go_enter Tryz.func134, Tryz.ntmps134
    go_wp2_with fail
    refine (rident_t HI.out hs _).mono ?_
    rintro e w1 ⟨rfl, k1⟩
    go_wp2_with fail
    go_ret
    exact ⟨rfl, k1⟩
set_option maxHeartbeats 1000000 in
theorem rzeroTy_any (k : Int) (nm : ByteArray) (a : Option Addr) (n c : Nat) {w : World} {v : Bool} (hv : ((k == 0) && (nm.toList == []) && decide (n = 0)) = v) :
    Calls Tryz.prog 136 #[.agg #[.int .i64 k, .string nm, .slice a n c]] w fun e w' => e = .returned (.bool v) ∧ Kept (fun _ => False) w w' := by
  cases h1 : (k == 0) <;> cases h2 : (nm.toList == []) <;> by_cases h3 : n = 0
  all_goals
    (rw [h1, h2] at hv)
    (first | subst h3 | (have h4 : decide ((n : Int) = 0) = false := by simp; omega))
    have HV := Lib.hid hv
    clear hv
    go_enter Tryz.func136, Tryz.ntmps136
    go_wp2_with fail
    go_ret
    exact ⟨by rw [← HV.out]; simp [*], (Kept.refl _ _).alloc _⟩
theorem rbinder_t {op : Int} {v : Bool} (h : binderB op = v) (w : World) : Calls Tryz.prog 135 #[.int .i64 op] w fun e w' => e = .returned (.bool v) ∧ w = w' := (rbinderB_any op w).mono fun _ _ q => ⟨by rw [← h]; exact q.1, q.2⟩
theorem rkids_t {op a : Int} (h : kidR op = a) (w : World) : Calls Tryz.prog 133 #[.int .i64 op] w fun e w' => e = .returned (.int .i64 a) ∧ w = w' := (rkids_any op w).mono fun _ _ q => ⟨by rw [q.1, h], q.2⟩
theorem rzeroTy_t {ok : Nat → Prop} {w W : World} {t : Ty} {a : Option Addr} {n c : Nat} (hk : TyL ok W t.kids (.slice a n c)) {v : Bool} (hv : zeroTyB t = v) :
    Calls Tryz.prog 136 #[.agg #[.int .i64 t.kind, .string t.name, .slice a n c]] w fun e w' => e = .returned (.bool v) ∧ Kept (fun _ => False) w w' := by
  refine rzeroTy_any t.kind t.name a n c (v := v) ?_
  rw [← hv, hk.len]
  unfold zeroTyB
  cases t.kids <;> simp
theorem rvalidTy_t {ok : Nat → Prop} {w : World} {t : Ty} {a : Option Addr} {n c : Nat} (hk : TyL ok w t.kids (.slice a n c)) (hs : SmTy big t) {v : Bool} (hv : validTyB t = v) :
    Calls Tryz.prog 30 #[.agg #[.int .i64 t.kind, .string t.name, .slice a n c]] w fun e w' => e = .returned (.bool v) ∧ Kept (fun _ => False) w w' := by rw [← hv]; exact rvalidTy_any hk hs
set_option maxRecDepth 100000 in
set_option maxHeartbeats 8000000 in
theorem rnode_name {ok : Nat → Prop} {w : World} {nm : ByteArray} {N : Int} {ty : Ty} {a : Option Addr} {n c : Nat} {ma : Option Addr} {mn mc : Nat} (hk : TyL ok w ty.kids (.slice a n c)) (hs : SmTy big ty) (hsz : nm.size ≤ 9223372036854775807)  : Calls Tryz.prog 93 #[.agg #[.int .i64 20, .string nm, .int .i64 N, .int .i64 ty.kind, .string ty.name, .slice a n c, .slice ma mn mc]] w fun e w' => e = .returned (.bool (formedB 20 nm N ty mn)) ∧ Kept (fun _ => False) w w' := by
  have HKN : Hid (kidsN 20 = (0, true)) := Lib.hid rfl
  have HKI : Hid (kidR 20 = 0) := Lib.hid rfl
  have HBI : Hid (binderB 20 = false) := Lib.hid rfl
  have KW : Kept (fun _ => False) w (w.alloc (.cells #[.int .i64 20, .string nm, .int .i64 N, .int .i64 ty.kind, .string ty.name, .slice a n c, .slice ma mn mc] 27)) := (Kept.refl _ _).alloc _
  have bW : Blk (w.alloc (.cells #[.int .i64 20, .string nm, .int .i64 N, .int .i64 ty.kind, .string ty.name, .slice a n c, .slice ma mn mc] 27)) w.heap.size 27 [.int .i64 20, .string nm, .int .i64 N, .int .i64 ty.kind, .string ty.name, .slice a n c, .slice ma mn mc] := Blk.new w 27 _
  have HKW := Lib.hid (hk.frame (Same.alloc w (.cells #[.int .i64 20, .string nm, .int .i64 N, .int .i64 ty.kind, .string ty.name, .slice a n c, .slice ma mn mc] 27)))
  by_cases hl : (mn : Int) = 0
  case neg =>
    have hl1 : ((mn : Int) != 0) = true := by simp; omega
    have hl4 : ¬ mn = 0 := by omega
    have HQ : Hid (formedB 20 nm N ty mn = false) := Lib.hid (by unfold formedB kidOk nmOk nOk tyOk; rw [HKN.out]; simp [*])
    go_enter Tryz.func93, Tryz.ntmps93
    go_wp2_with (first | (go_at_call 133; refine (rkids_t HKI.out _).mono ?_; rintro e w' ⟨rfl, rfl⟩) | (go_at_call 135; refine (rbinder_t HBI.out _).mono ?_; rintro e w' ⟨rfl, rfl⟩))
    go_ret
    exact ⟨by rw [HQ.out]; rfl, KW⟩
  have hl3 : mn = 0 := by omega
  subst hl3
  cases hnm : namedB nm
  case false =>
    have HQ : Hid (formedB 20 nm N ty 0 = false) := Lib.hid (by unfold formedB kidOk nmOk nOk tyOk; rw [HKN.out]; simp [*, big])
    have HNM := Lib.hid hnm
    clear hnm
    go_enter Tryz.func93, Tryz.ntmps93
    go_wp2_with (first | (go_at_call 133; refine (rkids_t HKI.out _).mono ?_; rintro e w' ⟨rfl, rfl⟩) | (go_at_call 135; refine (rbinder_t HBI.out _).mono ?_; rintro e w' ⟨rfl, rfl⟩))
    refine (rnamed_t HNM.out hsz _).mono ?_
    rintro e wn ⟨rfl, kn⟩
    have bn := bW.kept kn (fun h => h)
    have gn : ∀ i, wn.cell? ⟨w.heap.size, i, none⟩ = [Value.int .i64 20, .string nm, .int .i64 N, .int .i64 ty.kind, .string ty.name, .slice a n c, .slice ma 0 mc][i]? := bn.cell
    go_wp2_with (first | (go_at_call 133; refine (rkids_t HKI.out _).mono ?_; rintro e w' ⟨rfl, rfl⟩) | (go_at_call 135; refine (rbinder_t HBI.out _).mono ?_; rintro e w' ⟨rfl, rfl⟩))
    go_ret
    exact ⟨by rw [HQ.out]; rfl, (KW.trans kn)⟩
  cases hN : (N == 0)
  case false =>
    have hN3 : (N != 0) = true := by rw [bne, hN]; rfl
    have HQ : Hid (formedB 20 nm N ty 0 = false) := Lib.hid (by unfold formedB kidOk nmOk nOk tyOk; rw [HKN.out]; simp [*])
    have HNM := Lib.hid hnm
    clear hnm
    go_enter Tryz.func93, Tryz.ntmps93
    go_wp2_with (first | (go_at_call 133; refine (rkids_t HKI.out _).mono ?_; rintro e w' ⟨rfl, rfl⟩) | (go_at_call 135; refine (rbinder_t HBI.out _).mono ?_; rintro e w' ⟨rfl, rfl⟩))
    refine (rnamed_t HNM.out hsz _).mono ?_
    rintro e wn ⟨rfl, kn⟩
    have bn := bW.kept kn (fun h => h)
    have gn : ∀ i, wn.cell? ⟨w.heap.size, i, none⟩ = [Value.int .i64 20, .string nm, .int .i64 N, .int .i64 ty.kind, .string ty.name, .slice a n c, .slice ma 0 mc][i]? := bn.cell
    go_wp2_with (first | (go_at_call 133; refine (rkids_t HKI.out _).mono ?_; rintro e w' ⟨rfl, rfl⟩) | (go_at_call 135; refine (rbinder_t HBI.out _).mono ?_; rintro e w' ⟨rfl, rfl⟩))
    go_ret
    exact ⟨by rw [HQ.out]; rfl, (KW.trans kn)⟩
  have hN3 : (N != 0) = false := by rw [bne, hN]; rfl
  cases hz : zeroTyB ty
  case false =>
    have HQ : Hid (formedB 20 nm N ty 0 = false) := Lib.hid (by unfold formedB kidOk nmOk nOk tyOk; rw [HKN.out]; simp [*])
    have HZ := Lib.hid (fun W => rzeroTy_t (w := W) HKW.out hz)
    clear hz
    have HNM := Lib.hid hnm
    clear hnm
    go_enter Tryz.func93, Tryz.ntmps93
    go_wp2_with (first | (go_at_call 133; refine (rkids_t HKI.out _).mono ?_; rintro e w' ⟨rfl, rfl⟩) | (go_at_call 135; refine (rbinder_t HBI.out _).mono ?_; rintro e w' ⟨rfl, rfl⟩))
    refine (rnamed_t HNM.out hsz _).mono ?_
    rintro e wn ⟨rfl, kn⟩
    have bn := bW.kept kn (fun h => h)
    have gn : ∀ i, wn.cell? ⟨w.heap.size, i, none⟩ = [Value.int .i64 20, .string nm, .int .i64 N, .int .i64 ty.kind, .string ty.name, .slice a n c, .slice ma 0 mc][i]? := bn.cell
    go_wp2_with (first | (go_at_call 133; refine (rkids_t HKI.out _).mono ?_; rintro e w' ⟨rfl, rfl⟩) | (go_at_call 135; refine (rbinder_t HBI.out _).mono ?_; rintro e w' ⟨rfl, rfl⟩))
    refine (HZ.out _).mono ?_
    rintro e w' ⟨rfl, h2⟩
    go_wp2_with fail
    go_ret
    exact ⟨by rw [HQ.out]; rfl, ((KW.trans kn)).trans h2⟩
  case true =>
    have HQ : Hid (formedB 20 nm N ty 0 = true) := Lib.hid (by unfold formedB kidOk nmOk nOk tyOk; rw [HKN.out]; simp [*])
    have HZ := Lib.hid (fun W => rzeroTy_t (w := W) HKW.out hz)
    clear hz
    have HNM := Lib.hid hnm
    clear hnm
    go_enter Tryz.func93, Tryz.ntmps93
    go_wp2_with (first | (go_at_call 133; refine (rkids_t HKI.out _).mono ?_; rintro e w' ⟨rfl, rfl⟩) | (go_at_call 135; refine (rbinder_t HBI.out _).mono ?_; rintro e w' ⟨rfl, rfl⟩))
    refine (rnamed_t HNM.out hsz _).mono ?_
    rintro e wn ⟨rfl, kn⟩
    have bn := bW.kept kn (fun h => h)
    have gn : ∀ i, wn.cell? ⟨w.heap.size, i, none⟩ = [Value.int .i64 20, .string nm, .int .i64 N, .int .i64 ty.kind, .string ty.name, .slice a n c, .slice ma 0 mc][i]? := bn.cell
    go_wp2_with (first | (go_at_call 133; refine (rkids_t HKI.out _).mono ?_; rintro e w' ⟨rfl, rfl⟩) | (go_at_call 135; refine (rbinder_t HBI.out _).mono ?_; rintro e w' ⟨rfl, rfl⟩))
    refine (HZ.out _).mono ?_
    rintro e w' ⟨rfl, h2⟩
    go_wp2_with fail
    go_ret
    exact ⟨by rw [HQ.out]; rfl, ((KW.trans kn)).trans h2⟩
set_option maxRecDepth 100000 in
set_option maxHeartbeats 8000000 in
theorem rnode_int {ok : Nat → Prop} {w : World} {nm : ByteArray} {N : Int} {ty : Ty} {a : Option Addr} {n c : Nat} {ma : Option Addr} {mn mc : Nat} (hk : TyL ok w ty.kids (.slice a n c)) (hs : SmTy big ty) (hsz : nm.size ≤ 9223372036854775807)  : Calls Tryz.prog 93 #[.agg #[.int .i64 19, .string nm, .int .i64 N, .int .i64 ty.kind, .string ty.name, .slice a n c, .slice ma mn mc]] w fun e w' => e = .returned (.bool (formedB 19 nm N ty mn)) ∧ Kept (fun _ => False) w w' := by
  have HKN : Hid (kidsN 19 = (0, true)) := Lib.hid rfl
  have HKI : Hid (kidR 19 = 0) := Lib.hid rfl
  have HBI : Hid (binderB 19 = false) := Lib.hid rfl
  have hb0 : binderB 19 = false := rfl
  have KW : Kept (fun _ => False) w (w.alloc (.cells #[.int .i64 19, .string nm, .int .i64 N, .int .i64 ty.kind, .string ty.name, .slice a n c, .slice ma mn mc] 27)) := (Kept.refl _ _).alloc _
  have bW : Blk (w.alloc (.cells #[.int .i64 19, .string nm, .int .i64 N, .int .i64 ty.kind, .string ty.name, .slice a n c, .slice ma mn mc] 27)) w.heap.size 27 [.int .i64 19, .string nm, .int .i64 N, .int .i64 ty.kind, .string ty.name, .slice a n c, .slice ma mn mc] := Blk.new w 27 _
  have HKW := Lib.hid (hk.frame (Same.alloc w (.cells #[.int .i64 19, .string nm, .int .i64 N, .int .i64 ty.kind, .string ty.name, .slice a n c, .slice ma mn mc] 27)))
  by_cases hl : (mn : Int) = 0
  case neg =>
    have hl1 : ((mn : Int) != 0) = true := by simp; omega
    have hl4 : ¬ mn = 0 := by omega
    have HQ : Hid (formedB 19 nm N ty mn = false) := Lib.hid (by unfold formedB kidOk nmOk nOk tyOk; rw [HKN.out]; simp [*])
    go_enter Tryz.func93, Tryz.ntmps93
    go_wp2_with (first | (go_at_call 133; refine (rkids_t HKI.out _).mono ?_; rintro e w' ⟨rfl, rfl⟩) | (go_at_call 135; refine (rbinder_t HBI.out _).mono ?_; rintro e w' ⟨rfl, rfl⟩))
    go_ret
    exact ⟨by rw [HQ.out]; rfl, KW⟩
  have hl3 : mn = 0 := by omega
  subst hl3
  cases hnm : (nm.toList == [])
  case false =>
    have he2 : nm.toList.isEmpty = false := by cases h : nm.toList <;> simp_all
    have he3 : (nm.toList != []) = true := by rw [bne, hnm]; rfl
    have HQ : Hid (formedB 19 nm N ty 0 = false) := Lib.hid (by unfold formedB kidOk nmOk nOk tyOk; rw [HKN.out]; simp [*, big])
    go_enter Tryz.func93, Tryz.ntmps93
    go_wp2_with (first | (go_at_call 133; refine (rkids_t HKI.out _).mono ?_; rintro e w' ⟨rfl, rfl⟩) | (go_at_call 135; refine (rbinder_t HBI.out _).mono ?_; rintro e w' ⟨rfl, rfl⟩))
    go_ret
    exact ⟨by rw [HQ.out]; rfl, KW⟩
  have he2 : nm.toList.isEmpty = true := by cases h : nm.toList <;> simp_all
  have he3 : (nm.toList != []) = false := by rw [bne, hnm]; rfl
  by_cases hN : 0 ≤ N
  case neg =>
    have hN1 : decide (0 ≤ N) = false := by simp; omega
    have hN2 : decide (N < 0) = true := by simp; omega
    have HQ : Hid (formedB 19 nm N ty 0 = false) := Lib.hid (by unfold formedB kidOk nmOk nOk tyOk; rw [HKN.out]; simp [*])
    go_enter Tryz.func93, Tryz.ntmps93
    go_wp2_with (first | (go_at_call 133; refine (rkids_t HKI.out _).mono ?_; rintro e w' ⟨rfl, rfl⟩) | (go_at_call 135; refine (rbinder_t HBI.out _).mono ?_; rintro e w' ⟨rfl, rfl⟩))
    go_ret
    exact ⟨by rw [HQ.out]; rfl, KW⟩
  have hN2 : decide (N < 0) = false := by simp; omega
  by_cases hM : N ≤ 1000000000
  case neg =>
    have hM1 : decide (N ≤ 1000000000) = false := by simp; omega
    have hM2 : decide (1000000000 < N) = true := by simp; omega
    have HQ : Hid (formedB 19 nm N ty 0 = false) := Lib.hid (by unfold formedB kidOk nmOk nOk tyOk; rw [HKN.out]; simp [*])
    go_enter Tryz.func93, Tryz.ntmps93
    go_wp2_with (first | (go_at_call 133; refine (rkids_t HKI.out _).mono ?_; rintro e w' ⟨rfl, rfl⟩) | (go_at_call 135; refine (rbinder_t HBI.out _).mono ?_; rintro e w' ⟨rfl, rfl⟩))
    go_ret
    exact ⟨by rw [HQ.out]; rfl, KW⟩
  have hM2 : decide (1000000000 < N) = false := by simp; omega
  cases hz : zeroTyB ty
  case false =>
    have HQ : Hid (formedB 19 nm N ty 0 = false) := Lib.hid (by unfold formedB kidOk nmOk nOk tyOk; rw [HKN.out]; simp [*])
    have HZ := Lib.hid (fun W => rzeroTy_t (w := W) HKW.out hz)
    clear hz
    go_enter Tryz.func93, Tryz.ntmps93
    go_wp2_with (first | (go_at_call 133; refine (rkids_t HKI.out _).mono ?_; rintro e w' ⟨rfl, rfl⟩) | (go_at_call 135; refine (rbinder_t HBI.out _).mono ?_; rintro e w' ⟨rfl, rfl⟩))
    refine (HZ.out _).mono ?_
    rintro e w' ⟨rfl, h2⟩
    go_wp2_with fail
    go_ret
    exact ⟨by rw [HQ.out]; rfl, (KW).trans h2⟩
  case true =>
    have HQ : Hid (formedB 19 nm N ty 0 = true) := Lib.hid (by unfold formedB kidOk nmOk nOk tyOk; rw [HKN.out]; simp [*])
    have HZ := Lib.hid (fun W => rzeroTy_t (w := W) HKW.out hz)
    clear hz
    go_enter Tryz.func93, Tryz.ntmps93
    go_wp2_with (first | (go_at_call 133; refine (rkids_t HKI.out _).mono ?_; rintro e w' ⟨rfl, rfl⟩) | (go_at_call 135; refine (rbinder_t HBI.out _).mono ?_; rintro e w' ⟨rfl, rfl⟩))
    refine (HZ.out _).mono ?_
    rintro e w' ⟨rfl, h2⟩
    go_wp2_with fail
    go_ret
    exact ⟨by rw [HQ.out]; rfl, (KW).trans h2⟩
set_option maxRecDepth 100000 in
set_option maxHeartbeats 8000000 in
theorem rnode_empty {ok : Nat → Prop} {w : World} {nm : ByteArray} {N : Int} {ty : Ty} {a : Option Addr} {n c : Nat} {ma : Option Addr} {mn mc : Nat} (hk : TyL ok w ty.kids (.slice a n c)) (hs : SmTy big ty) (hsz : nm.size ≤ 9223372036854775807)  : Calls Tryz.prog 93 #[.agg #[.int .i64 29, .string nm, .int .i64 N, .int .i64 ty.kind, .string ty.name, .slice a n c, .slice ma mn mc]] w fun e w' => e = .returned (.bool (formedB 29 nm N ty mn)) ∧ Kept (fun _ => False) w w' := by
  have HKN : Hid (kidsN 29 = (0, true)) := Lib.hid rfl
  have HKI : Hid (kidR 29 = 0) := Lib.hid rfl
  have HBI : Hid (binderB 29 = false) := Lib.hid rfl
  have hb0 : binderB 29 = false := rfl
  have KW : Kept (fun _ => False) w (w.alloc (.cells #[.int .i64 29, .string nm, .int .i64 N, .int .i64 ty.kind, .string ty.name, .slice a n c, .slice ma mn mc] 27)) := (Kept.refl _ _).alloc _
  have bW : Blk (w.alloc (.cells #[.int .i64 29, .string nm, .int .i64 N, .int .i64 ty.kind, .string ty.name, .slice a n c, .slice ma mn mc] 27)) w.heap.size 27 [.int .i64 29, .string nm, .int .i64 N, .int .i64 ty.kind, .string ty.name, .slice a n c, .slice ma mn mc] := Blk.new w 27 _
  have HKW := Lib.hid (hk.frame (Same.alloc w (.cells #[.int .i64 29, .string nm, .int .i64 N, .int .i64 ty.kind, .string ty.name, .slice a n c, .slice ma mn mc] 27)))
  by_cases hl : (mn : Int) = 0
  case neg =>
    have hl1 : ((mn : Int) != 0) = true := by simp; omega
    have hl4 : ¬ mn = 0 := by omega
    have HQ : Hid (formedB 29 nm N ty mn = false) := Lib.hid (by unfold formedB kidOk nmOk nOk tyOk; rw [HKN.out]; simp [*])
    go_enter Tryz.func93, Tryz.ntmps93
    go_wp2_with (first | (go_at_call 133; refine (rkids_t HKI.out _).mono ?_; rintro e w' ⟨rfl, rfl⟩) | (go_at_call 135; refine (rbinder_t HBI.out _).mono ?_; rintro e w' ⟨rfl, rfl⟩))
    go_ret
    exact ⟨by rw [HQ.out]; rfl, KW⟩
  have hl3 : mn = 0 := by omega
  subst hl3
  cases hnm : (nm.toList == [])
  case false =>
    have he2 : nm.toList.isEmpty = false := by cases h : nm.toList <;> simp_all
    have he3 : (nm.toList != []) = true := by rw [bne, hnm]; rfl
    have HQ : Hid (formedB 29 nm N ty 0 = false) := Lib.hid (by unfold formedB kidOk nmOk nOk tyOk; rw [HKN.out]; simp [*, big])
    go_enter Tryz.func93, Tryz.ntmps93
    go_wp2_with (first | (go_at_call 133; refine (rkids_t HKI.out _).mono ?_; rintro e w' ⟨rfl, rfl⟩) | (go_at_call 135; refine (rbinder_t HBI.out _).mono ?_; rintro e w' ⟨rfl, rfl⟩))
    go_ret
    exact ⟨by rw [HQ.out]; rfl, KW⟩
  have he2 : nm.toList.isEmpty = true := by cases h : nm.toList <;> simp_all
  have he3 : (nm.toList != []) = false := by rw [bne, hnm]; rfl
  cases hN : (N == 0)
  case false =>
    have hN3 : (N != 0) = true := by rw [bne, hN]; rfl
    have HQ : Hid (formedB 29 nm N ty 0 = false) := Lib.hid (by unfold formedB kidOk nmOk nOk tyOk; rw [HKN.out]; simp [*])
    go_enter Tryz.func93, Tryz.ntmps93
    go_wp2_with (first | (go_at_call 133; refine (rkids_t HKI.out _).mono ?_; rintro e w' ⟨rfl, rfl⟩) | (go_at_call 135; refine (rbinder_t HBI.out _).mono ?_; rintro e w' ⟨rfl, rfl⟩))
    go_ret
    exact ⟨by rw [HQ.out]; rfl, KW⟩
  have hN3 : (N != 0) = false := by rw [bne, hN]; rfl
  cases hvt : validTyB ty
  case false =>
    have HQ : Hid (formedB 29 nm N ty 0 = false) := Lib.hid (by unfold formedB kidOk nmOk nOk tyOk; rw [HKN.out]; simp [*])
    have HZ := Lib.hid (rvalidTy_t HKW.out hs hvt)
    clear hvt
    go_enter Tryz.func93, Tryz.ntmps93
    go_wp2_with (first | (go_at_call 133; refine (rkids_t HKI.out _).mono ?_; rintro e w' ⟨rfl, rfl⟩) | (go_at_call 135; refine (rbinder_t HBI.out _).mono ?_; rintro e w' ⟨rfl, rfl⟩))
    refine HZ.out.mono ?_
    rintro e w' ⟨rfl, h2⟩
    go_wp2_with fail
    go_ret
    exact ⟨by rw [HQ.out]; rfl, (KW).trans h2⟩
  case true =>
    cases hz : (ty.kind == 2)
    case false =>
      have HQ : Hid (formedB 29 nm N ty 0 = true) := Lib.hid (by unfold formedB kidOk nmOk nOk tyOk; rw [HKN.out]; simp [*])
      have hz2 : (ty.kind != 2) = true := by rw [bne, hz]; rfl
      have HZ := Lib.hid (rvalidTy_t HKW.out hs hvt)
      clear hvt
      go_enter Tryz.func93, Tryz.ntmps93
      go_wp2_with (first | (go_at_call 133; refine (rkids_t HKI.out _).mono ?_; rintro e w' ⟨rfl, rfl⟩) | (go_at_call 135; refine (rbinder_t HBI.out _).mono ?_; rintro e w' ⟨rfl, rfl⟩))
      refine HZ.out.mono ?_
      rintro e w' ⟨rfl, h2⟩
      have gz : ∀ i, w'.cell? ⟨w.heap.size, i, none⟩ = [Value.int .i64 29, .string nm, .int .i64 N, .int .i64 ty.kind, .string ty.name, .slice a n c, .slice ma 0 mc][i]? := (bW.kept h2 (fun h => h)).cell
      go_wp2_with fail
      go_ret
      exact ⟨by rw [HQ.out]; rfl, (KW).trans h2⟩
    case true =>
      have HQ : Hid (formedB 29 nm N ty 0 = false) := Lib.hid (by unfold formedB kidOk nmOk nOk tyOk; rw [HKN.out]; simp [*])
      have hz2 : (ty.kind != 2) = false := by rw [bne, hz]; rfl
      have HZ := Lib.hid (rvalidTy_t HKW.out hs hvt)
      clear hvt
      go_enter Tryz.func93, Tryz.ntmps93
      go_wp2_with (first | (go_at_call 133; refine (rkids_t HKI.out _).mono ?_; rintro e w' ⟨rfl, rfl⟩) | (go_at_call 135; refine (rbinder_t HBI.out _).mono ?_; rintro e w' ⟨rfl, rfl⟩))
      refine HZ.out.mono ?_
      rintro e w' ⟨rfl, h2⟩
      have gz : ∀ i, w'.cell? ⟨w.heap.size, i, none⟩ = [Value.int .i64 29, .string nm, .int .i64 N, .int .i64 ty.kind, .string ty.name, .slice a n c, .slice ma 0 mc][i]? := (bW.kept h2 (fun h => h)).cell
      go_wp2_with fail
      go_ret
      exact ⟨by rw [HQ.out]; rfl, (KW).trans h2⟩
set_option maxRecDepth 100000 in
set_option maxHeartbeats 8000000 in
theorem rnode_bind {ok : Nat → Prop} {w : World} {nm : ByteArray} {N : Int} {ty : Ty} {a : Option Addr} {n c : Nat} {ma : Option Addr} {mn mc : Nat} (hk : TyL ok w ty.kids (.slice a n c)) (hs : SmTy big ty) (hsz : nm.size ≤ 9223372036854775807) {op : Int} (n20 : op ≠ 20) (n19 : op ≠ 19) (n29 : op ≠ 29) (hbi : binderB op = true) (hki : kidsN op = (2, true)) : Calls Tryz.prog 93 #[.agg #[.int .i64 op, .string nm, .int .i64 N, .int .i64 ty.kind, .string ty.name, .slice a n c, .slice ma mn mc]] w fun e w' => e = .returned (.bool (formedB op nm N ty mn)) ∧ Kept (fun _ => False) w w' := by
  have q20 : (op == 20) = false := beq_false_of_ne n20
  have q19 : (op == 19) = false := beq_false_of_ne n19
  have q29 : (op == 29) = false := beq_false_of_ne n29
  have p19 : (op != 19) = true := by rw [bne, q19]; rfl
  have HKN := Lib.hid hki
  have HKI : Hid (kidR op = 2) := Lib.hid (by unfold kidR; rw [hki]; rfl)
  have HBI := Lib.hid hbi
  have KW : Kept (fun _ => False) w (w.alloc (.cells #[.int .i64 op, .string nm, .int .i64 N, .int .i64 ty.kind, .string ty.name, .slice a n c, .slice ma mn mc] 27)) := (Kept.refl _ _).alloc _
  have bW : Blk (w.alloc (.cells #[.int .i64 op, .string nm, .int .i64 N, .int .i64 ty.kind, .string ty.name, .slice a n c, .slice ma mn mc] 27)) w.heap.size 27 [.int .i64 op, .string nm, .int .i64 N, .int .i64 ty.kind, .string ty.name, .slice a n c, .slice ma mn mc] := Blk.new w 27 _
  have HKW := Lib.hid (hk.frame (Same.alloc w (.cells #[.int .i64 op, .string nm, .int .i64 N, .int .i64 ty.kind, .string ty.name, .slice a n c, .slice ma mn mc] 27)))
  by_cases hl : (mn : Int) = 2
  case neg =>
    have hl1 : ((mn : Int) != 2) = true := by simp; omega
    have hl4 : ¬ mn = 2 := by omega
    have HQ : Hid (formedB op nm N ty mn = false) := Lib.hid (by unfold formedB kidOk nmOk nOk tyOk; rw [HKN.out]; simp [*])
    go_enter Tryz.func93, Tryz.ntmps93
    go_wp2_with (first | (go_at_call 133; refine (rkids_t HKI.out _).mono ?_; rintro e w' ⟨rfl, rfl⟩) | (go_at_call 135; refine (rbinder_t HBI.out _).mono ?_; rintro e w' ⟨rfl, rfl⟩))
    go_ret
    exact ⟨by rw [HQ.out]; rfl, KW⟩
  have hl3 : mn = 2 := by omega
  subst hl3
  cases hnm : identB nm
  case false =>
    have HQ : Hid (formedB op nm N ty 2 = false) := Lib.hid (by unfold formedB kidOk nmOk nOk tyOk; rw [HKN.out]; simp [*, big])
    have HNM := Lib.hid hnm
    clear hnm
    go_enter Tryz.func93, Tryz.ntmps93
    go_wp2_with (first | (go_at_call 133; refine (rkids_t HKI.out _).mono ?_; rintro e w' ⟨rfl, rfl⟩) | (go_at_call 135; refine (rbinder_t HBI.out _).mono ?_; rintro e w' ⟨rfl, rfl⟩))
    refine (rident_t HNM.out hsz _).mono ?_
    rintro e wn ⟨rfl, kn⟩
    have bn := bW.kept kn (fun h => h)
    have gn : ∀ i, wn.cell? ⟨w.heap.size, i, none⟩ = [Value.int .i64 op, .string nm, .int .i64 N, .int .i64 ty.kind, .string ty.name, .slice a n c, .slice ma 2 mc][i]? := bn.cell
    go_wp2_with (first | (go_at_call 133; refine (rkids_t HKI.out _).mono ?_; rintro e w' ⟨rfl, rfl⟩) | (go_at_call 135; refine (rbinder_t HBI.out _).mono ?_; rintro e w' ⟨rfl, rfl⟩))
    go_ret
    exact ⟨by rw [HQ.out]; rfl, (KW.trans kn)⟩
  cases hN : (N == 0)
  case false =>
    have hN3 : (N != 0) = true := by rw [bne, hN]; rfl
    have HQ : Hid (formedB op nm N ty 2 = false) := Lib.hid (by unfold formedB kidOk nmOk nOk tyOk; rw [HKN.out]; simp [*])
    have HNM := Lib.hid hnm
    clear hnm
    go_enter Tryz.func93, Tryz.ntmps93
    go_wp2_with (first | (go_at_call 133; refine (rkids_t HKI.out _).mono ?_; rintro e w' ⟨rfl, rfl⟩) | (go_at_call 135; refine (rbinder_t HBI.out _).mono ?_; rintro e w' ⟨rfl, rfl⟩))
    refine (rident_t HNM.out hsz _).mono ?_
    rintro e wn ⟨rfl, kn⟩
    have bn := bW.kept kn (fun h => h)
    have gn : ∀ i, wn.cell? ⟨w.heap.size, i, none⟩ = [Value.int .i64 op, .string nm, .int .i64 N, .int .i64 ty.kind, .string ty.name, .slice a n c, .slice ma 2 mc][i]? := bn.cell
    go_wp2_with (first | (go_at_call 133; refine (rkids_t HKI.out _).mono ?_; rintro e w' ⟨rfl, rfl⟩) | (go_at_call 135; refine (rbinder_t HBI.out _).mono ?_; rintro e w' ⟨rfl, rfl⟩))
    go_ret
    exact ⟨by rw [HQ.out]; rfl, (KW.trans kn)⟩
  have hN3 : (N != 0) = false := by rw [bne, hN]; rfl
  cases hz : zeroTyB ty
  case false =>
    have HQ : Hid (formedB op nm N ty 2 = false) := Lib.hid (by unfold formedB kidOk nmOk nOk tyOk; rw [HKN.out]; simp [*])
    have HZ := Lib.hid (fun W => rzeroTy_t (w := W) HKW.out hz)
    clear hz
    have HNM := Lib.hid hnm
    clear hnm
    go_enter Tryz.func93, Tryz.ntmps93
    go_wp2_with (first | (go_at_call 133; refine (rkids_t HKI.out _).mono ?_; rintro e w' ⟨rfl, rfl⟩) | (go_at_call 135; refine (rbinder_t HBI.out _).mono ?_; rintro e w' ⟨rfl, rfl⟩))
    refine (rident_t HNM.out hsz _).mono ?_
    rintro e wn ⟨rfl, kn⟩
    have bn := bW.kept kn (fun h => h)
    have gn : ∀ i, wn.cell? ⟨w.heap.size, i, none⟩ = [Value.int .i64 op, .string nm, .int .i64 N, .int .i64 ty.kind, .string ty.name, .slice a n c, .slice ma 2 mc][i]? := bn.cell
    go_wp2_with (first | (go_at_call 133; refine (rkids_t HKI.out _).mono ?_; rintro e w' ⟨rfl, rfl⟩) | (go_at_call 135; refine (rbinder_t HBI.out _).mono ?_; rintro e w' ⟨rfl, rfl⟩))
    refine (HZ.out _).mono ?_
    rintro e w' ⟨rfl, h2⟩
    go_wp2_with fail
    go_ret
    exact ⟨by rw [HQ.out]; rfl, ((KW.trans kn)).trans h2⟩
  case true =>
    have HQ : Hid (formedB op nm N ty 2 = true) := Lib.hid (by unfold formedB kidOk nmOk nOk tyOk; rw [HKN.out]; simp [*])
    have HZ := Lib.hid (fun W => rzeroTy_t (w := W) HKW.out hz)
    clear hz
    have HNM := Lib.hid hnm
    clear hnm
    go_enter Tryz.func93, Tryz.ntmps93
    go_wp2_with (first | (go_at_call 133; refine (rkids_t HKI.out _).mono ?_; rintro e w' ⟨rfl, rfl⟩) | (go_at_call 135; refine (rbinder_t HBI.out _).mono ?_; rintro e w' ⟨rfl, rfl⟩))
    refine (rident_t HNM.out hsz _).mono ?_
    rintro e wn ⟨rfl, kn⟩
    have bn := bW.kept kn (fun h => h)
    have gn : ∀ i, wn.cell? ⟨w.heap.size, i, none⟩ = [Value.int .i64 op, .string nm, .int .i64 N, .int .i64 ty.kind, .string ty.name, .slice a n c, .slice ma 2 mc][i]? := bn.cell
    go_wp2_with (first | (go_at_call 133; refine (rkids_t HKI.out _).mono ?_; rintro e w' ⟨rfl, rfl⟩) | (go_at_call 135; refine (rbinder_t HBI.out _).mono ?_; rintro e w' ⟨rfl, rfl⟩))
    refine (HZ.out _).mono ?_
    rintro e w' ⟨rfl, h2⟩
    go_wp2_with fail
    go_ret
    exact ⟨by rw [HQ.out]; rfl, ((KW.trans kn)).trans h2⟩
set_option maxRecDepth 100000 in
set_option maxHeartbeats 8000000 in
theorem rnode_one {ok : Nat → Prop} {w : World} {nm : ByteArray} {N : Int} {ty : Ty} {a : Option Addr} {n c : Nat} {ma : Option Addr} {mn mc : Nat} (hk : TyL ok w ty.kids (.slice a n c)) (hs : SmTy big ty) (hsz : nm.size ≤ 9223372036854775807) {op : Int} (n20 : op ≠ 20) (n19 : op ≠ 19) (n29 : op ≠ 29) (hbi : binderB op = false) (hki : kidsN op = (1, true)) : Calls Tryz.prog 93 #[.agg #[.int .i64 op, .string nm, .int .i64 N, .int .i64 ty.kind, .string ty.name, .slice a n c, .slice ma mn mc]] w fun e w' => e = .returned (.bool (formedB op nm N ty mn)) ∧ Kept (fun _ => False) w w' := by
  have q20 : (op == 20) = false := beq_false_of_ne n20
  have q19 : (op == 19) = false := beq_false_of_ne n19
  have q29 : (op == 29) = false := beq_false_of_ne n29
  have p19 : (op != 19) = true := by rw [bne, q19]; rfl
  have HKN := Lib.hid hki
  have HKI : Hid (kidR op = 1) := Lib.hid (by unfold kidR; rw [hki]; rfl)
  have HBI := Lib.hid hbi
  have KW : Kept (fun _ => False) w (w.alloc (.cells #[.int .i64 op, .string nm, .int .i64 N, .int .i64 ty.kind, .string ty.name, .slice a n c, .slice ma mn mc] 27)) := (Kept.refl _ _).alloc _
  have bW : Blk (w.alloc (.cells #[.int .i64 op, .string nm, .int .i64 N, .int .i64 ty.kind, .string ty.name, .slice a n c, .slice ma mn mc] 27)) w.heap.size 27 [.int .i64 op, .string nm, .int .i64 N, .int .i64 ty.kind, .string ty.name, .slice a n c, .slice ma mn mc] := Blk.new w 27 _
  have HKW := Lib.hid (hk.frame (Same.alloc w (.cells #[.int .i64 op, .string nm, .int .i64 N, .int .i64 ty.kind, .string ty.name, .slice a n c, .slice ma mn mc] 27)))
  by_cases hl : (mn : Int) = 1
  case neg =>
    have hl1 : ((mn : Int) != 1) = true := by simp; omega
    have hl4 : ¬ mn = 1 := by omega
    have HQ : Hid (formedB op nm N ty mn = false) := Lib.hid (by unfold formedB kidOk nmOk nOk tyOk; rw [HKN.out]; simp [*])
    go_enter Tryz.func93, Tryz.ntmps93
    go_wp2_with (first | (go_at_call 133; refine (rkids_t HKI.out _).mono ?_; rintro e w' ⟨rfl, rfl⟩) | (go_at_call 135; refine (rbinder_t HBI.out _).mono ?_; rintro e w' ⟨rfl, rfl⟩))
    go_ret
    exact ⟨by rw [HQ.out]; rfl, KW⟩
  have hl3 : mn = 1 := by omega
  subst hl3
  cases hnm : (nm.toList == [])
  case false =>
    have he2 : nm.toList.isEmpty = false := by cases h : nm.toList <;> simp_all
    have he3 : (nm.toList != []) = true := by rw [bne, hnm]; rfl
    have HQ : Hid (formedB op nm N ty 1 = false) := Lib.hid (by unfold formedB kidOk nmOk nOk tyOk; rw [HKN.out]; simp [*, big])
    go_enter Tryz.func93, Tryz.ntmps93
    go_wp2_with (first | (go_at_call 133; refine (rkids_t HKI.out _).mono ?_; rintro e w' ⟨rfl, rfl⟩) | (go_at_call 135; refine (rbinder_t HBI.out _).mono ?_; rintro e w' ⟨rfl, rfl⟩))
    go_ret
    exact ⟨by rw [HQ.out]; rfl, KW⟩
  have he2 : nm.toList.isEmpty = true := by cases h : nm.toList <;> simp_all
  have he3 : (nm.toList != []) = false := by rw [bne, hnm]; rfl
  cases hN : (N == 0)
  case false =>
    have hN3 : (N != 0) = true := by rw [bne, hN]; rfl
    have HQ : Hid (formedB op nm N ty 1 = false) := Lib.hid (by unfold formedB kidOk nmOk nOk tyOk; rw [HKN.out]; simp [*])
    go_enter Tryz.func93, Tryz.ntmps93
    go_wp2_with (first | (go_at_call 133; refine (rkids_t HKI.out _).mono ?_; rintro e w' ⟨rfl, rfl⟩) | (go_at_call 135; refine (rbinder_t HBI.out _).mono ?_; rintro e w' ⟨rfl, rfl⟩))
    go_ret
    exact ⟨by rw [HQ.out]; rfl, KW⟩
  have hN3 : (N != 0) = false := by rw [bne, hN]; rfl
  cases hz : zeroTyB ty
  case false =>
    have HQ : Hid (formedB op nm N ty 1 = false) := Lib.hid (by unfold formedB kidOk nmOk nOk tyOk; rw [HKN.out]; simp [*])
    have HZ := Lib.hid (fun W => rzeroTy_t (w := W) HKW.out hz)
    clear hz
    go_enter Tryz.func93, Tryz.ntmps93
    go_wp2_with (first | (go_at_call 133; refine (rkids_t HKI.out _).mono ?_; rintro e w' ⟨rfl, rfl⟩) | (go_at_call 135; refine (rbinder_t HBI.out _).mono ?_; rintro e w' ⟨rfl, rfl⟩))
    refine (HZ.out _).mono ?_
    rintro e w' ⟨rfl, h2⟩
    go_wp2_with fail
    go_ret
    exact ⟨by rw [HQ.out]; rfl, (KW).trans h2⟩
  case true =>
    have HQ : Hid (formedB op nm N ty 1 = true) := Lib.hid (by unfold formedB kidOk nmOk nOk tyOk; rw [HKN.out]; simp [*])
    have HZ := Lib.hid (fun W => rzeroTy_t (w := W) HKW.out hz)
    clear hz
    go_enter Tryz.func93, Tryz.ntmps93
    go_wp2_with (first | (go_at_call 133; refine (rkids_t HKI.out _).mono ?_; rintro e w' ⟨rfl, rfl⟩) | (go_at_call 135; refine (rbinder_t HBI.out _).mono ?_; rintro e w' ⟨rfl, rfl⟩))
    refine (HZ.out _).mono ?_
    rintro e w' ⟨rfl, h2⟩
    go_wp2_with fail
    go_ret
    exact ⟨by rw [HQ.out]; rfl, (KW).trans h2⟩
set_option maxRecDepth 100000 in
set_option maxHeartbeats 8000000 in
theorem rnode_two {ok : Nat → Prop} {w : World} {nm : ByteArray} {N : Int} {ty : Ty} {a : Option Addr} {n c : Nat} {ma : Option Addr} {mn mc : Nat} (hk : TyL ok w ty.kids (.slice a n c)) (hs : SmTy big ty) (hsz : nm.size ≤ 9223372036854775807) {op : Int} (n20 : op ≠ 20) (n19 : op ≠ 19) (n29 : op ≠ 29) (hbi : binderB op = false) (hki : kidsN op = (2, true)) : Calls Tryz.prog 93 #[.agg #[.int .i64 op, .string nm, .int .i64 N, .int .i64 ty.kind, .string ty.name, .slice a n c, .slice ma mn mc]] w fun e w' => e = .returned (.bool (formedB op nm N ty mn)) ∧ Kept (fun _ => False) w w' := by
  have q20 : (op == 20) = false := beq_false_of_ne n20
  have q19 : (op == 19) = false := beq_false_of_ne n19
  have q29 : (op == 29) = false := beq_false_of_ne n29
  have p19 : (op != 19) = true := by rw [bne, q19]; rfl
  have HKN := Lib.hid hki
  have HKI : Hid (kidR op = 2) := Lib.hid (by unfold kidR; rw [hki]; rfl)
  have HBI := Lib.hid hbi
  have KW : Kept (fun _ => False) w (w.alloc (.cells #[.int .i64 op, .string nm, .int .i64 N, .int .i64 ty.kind, .string ty.name, .slice a n c, .slice ma mn mc] 27)) := (Kept.refl _ _).alloc _
  have bW : Blk (w.alloc (.cells #[.int .i64 op, .string nm, .int .i64 N, .int .i64 ty.kind, .string ty.name, .slice a n c, .slice ma mn mc] 27)) w.heap.size 27 [.int .i64 op, .string nm, .int .i64 N, .int .i64 ty.kind, .string ty.name, .slice a n c, .slice ma mn mc] := Blk.new w 27 _
  have HKW := Lib.hid (hk.frame (Same.alloc w (.cells #[.int .i64 op, .string nm, .int .i64 N, .int .i64 ty.kind, .string ty.name, .slice a n c, .slice ma mn mc] 27)))
  by_cases hl : (mn : Int) = 2
  case neg =>
    have hl1 : ((mn : Int) != 2) = true := by simp; omega
    have hl4 : ¬ mn = 2 := by omega
    have HQ : Hid (formedB op nm N ty mn = false) := Lib.hid (by unfold formedB kidOk nmOk nOk tyOk; rw [HKN.out]; simp [*])
    go_enter Tryz.func93, Tryz.ntmps93
    go_wp2_with (first | (go_at_call 133; refine (rkids_t HKI.out _).mono ?_; rintro e w' ⟨rfl, rfl⟩) | (go_at_call 135; refine (rbinder_t HBI.out _).mono ?_; rintro e w' ⟨rfl, rfl⟩))
    go_ret
    exact ⟨by rw [HQ.out]; rfl, KW⟩
  have hl3 : mn = 2 := by omega
  subst hl3
  cases hnm : (nm.toList == [])
  case false =>
    have he2 : nm.toList.isEmpty = false := by cases h : nm.toList <;> simp_all
    have he3 : (nm.toList != []) = true := by rw [bne, hnm]; rfl
    have HQ : Hid (formedB op nm N ty 2 = false) := Lib.hid (by unfold formedB kidOk nmOk nOk tyOk; rw [HKN.out]; simp [*, big])
    go_enter Tryz.func93, Tryz.ntmps93
    go_wp2_with (first | (go_at_call 133; refine (rkids_t HKI.out _).mono ?_; rintro e w' ⟨rfl, rfl⟩) | (go_at_call 135; refine (rbinder_t HBI.out _).mono ?_; rintro e w' ⟨rfl, rfl⟩))
    go_ret
    exact ⟨by rw [HQ.out]; rfl, KW⟩
  have he2 : nm.toList.isEmpty = true := by cases h : nm.toList <;> simp_all
  have he3 : (nm.toList != []) = false := by rw [bne, hnm]; rfl
  cases hN : (N == 0)
  case false =>
    have hN3 : (N != 0) = true := by rw [bne, hN]; rfl
    have HQ : Hid (formedB op nm N ty 2 = false) := Lib.hid (by unfold formedB kidOk nmOk nOk tyOk; rw [HKN.out]; simp [*])
    go_enter Tryz.func93, Tryz.ntmps93
    go_wp2_with (first | (go_at_call 133; refine (rkids_t HKI.out _).mono ?_; rintro e w' ⟨rfl, rfl⟩) | (go_at_call 135; refine (rbinder_t HBI.out _).mono ?_; rintro e w' ⟨rfl, rfl⟩))
    go_ret
    exact ⟨by rw [HQ.out]; rfl, KW⟩
  have hN3 : (N != 0) = false := by rw [bne, hN]; rfl
  cases hz : zeroTyB ty
  case false =>
    have HQ : Hid (formedB op nm N ty 2 = false) := Lib.hid (by unfold formedB kidOk nmOk nOk tyOk; rw [HKN.out]; simp [*])
    have HZ := Lib.hid (fun W => rzeroTy_t (w := W) HKW.out hz)
    clear hz
    go_enter Tryz.func93, Tryz.ntmps93
    go_wp2_with (first | (go_at_call 133; refine (rkids_t HKI.out _).mono ?_; rintro e w' ⟨rfl, rfl⟩) | (go_at_call 135; refine (rbinder_t HBI.out _).mono ?_; rintro e w' ⟨rfl, rfl⟩))
    refine (HZ.out _).mono ?_
    rintro e w' ⟨rfl, h2⟩
    go_wp2_with fail
    go_ret
    exact ⟨by rw [HQ.out]; rfl, (KW).trans h2⟩
  case true =>
    have HQ : Hid (formedB op nm N ty 2 = true) := Lib.hid (by unfold formedB kidOk nmOk nOk tyOk; rw [HKN.out]; simp [*])
    have HZ := Lib.hid (fun W => rzeroTy_t (w := W) HKW.out hz)
    clear hz
    go_enter Tryz.func93, Tryz.ntmps93
    go_wp2_with (first | (go_at_call 133; refine (rkids_t HKI.out _).mono ?_; rintro e w' ⟨rfl, rfl⟩) | (go_at_call 135; refine (rbinder_t HBI.out _).mono ?_; rintro e w' ⟨rfl, rfl⟩))
    refine (HZ.out _).mono ?_
    rintro e w' ⟨rfl, h2⟩
    go_wp2_with fail
    go_ret
    exact ⟨by rw [HQ.out]; rfl, (KW).trans h2⟩
set_option maxRecDepth 100000 in
set_option maxHeartbeats 8000000 in
theorem rnode_zero {ok : Nat → Prop} {w : World} {nm : ByteArray} {N : Int} {ty : Ty} {a : Option Addr} {n c : Nat} {ma : Option Addr} {mn mc : Nat} (hk : TyL ok w ty.kids (.slice a n c)) (hs : SmTy big ty) (hsz : nm.size ≤ 9223372036854775807) {op : Int} (n20 : op ≠ 20) (n19 : op ≠ 19) (n29 : op ≠ 29) (hbi : binderB op = false) (hki : kidsN op = (0, true)) : Calls Tryz.prog 93 #[.agg #[.int .i64 op, .string nm, .int .i64 N, .int .i64 ty.kind, .string ty.name, .slice a n c, .slice ma mn mc]] w fun e w' => e = .returned (.bool (formedB op nm N ty mn)) ∧ Kept (fun _ => False) w w' := by
  have q20 : (op == 20) = false := beq_false_of_ne n20
  have q19 : (op == 19) = false := beq_false_of_ne n19
  have q29 : (op == 29) = false := beq_false_of_ne n29
  have p19 : (op != 19) = true := by rw [bne, q19]; rfl
  have HKN := Lib.hid hki
  have HKI : Hid (kidR op = 0) := Lib.hid (by unfold kidR; rw [hki]; rfl)
  have HBI := Lib.hid hbi
  have KW : Kept (fun _ => False) w (w.alloc (.cells #[.int .i64 op, .string nm, .int .i64 N, .int .i64 ty.kind, .string ty.name, .slice a n c, .slice ma mn mc] 27)) := (Kept.refl _ _).alloc _
  have bW : Blk (w.alloc (.cells #[.int .i64 op, .string nm, .int .i64 N, .int .i64 ty.kind, .string ty.name, .slice a n c, .slice ma mn mc] 27)) w.heap.size 27 [.int .i64 op, .string nm, .int .i64 N, .int .i64 ty.kind, .string ty.name, .slice a n c, .slice ma mn mc] := Blk.new w 27 _
  have HKW := Lib.hid (hk.frame (Same.alloc w (.cells #[.int .i64 op, .string nm, .int .i64 N, .int .i64 ty.kind, .string ty.name, .slice a n c, .slice ma mn mc] 27)))
  by_cases hl : (mn : Int) = 0
  case neg =>
    have hl1 : ((mn : Int) != 0) = true := by simp; omega
    have hl4 : ¬ mn = 0 := by omega
    have HQ : Hid (formedB op nm N ty mn = false) := Lib.hid (by unfold formedB kidOk nmOk nOk tyOk; rw [HKN.out]; simp [*])
    go_enter Tryz.func93, Tryz.ntmps93
    go_wp2_with (first | (go_at_call 133; refine (rkids_t HKI.out _).mono ?_; rintro e w' ⟨rfl, rfl⟩) | (go_at_call 135; refine (rbinder_t HBI.out _).mono ?_; rintro e w' ⟨rfl, rfl⟩))
    go_ret
    exact ⟨by rw [HQ.out]; rfl, KW⟩
  have hl3 : mn = 0 := by omega
  subst hl3
  cases hnm : (nm.toList == [])
  case false =>
    have he2 : nm.toList.isEmpty = false := by cases h : nm.toList <;> simp_all
    have he3 : (nm.toList != []) = true := by rw [bne, hnm]; rfl
    have HQ : Hid (formedB op nm N ty 0 = false) := Lib.hid (by unfold formedB kidOk nmOk nOk tyOk; rw [HKN.out]; simp [*, big])
    go_enter Tryz.func93, Tryz.ntmps93
    go_wp2_with (first | (go_at_call 133; refine (rkids_t HKI.out _).mono ?_; rintro e w' ⟨rfl, rfl⟩) | (go_at_call 135; refine (rbinder_t HBI.out _).mono ?_; rintro e w' ⟨rfl, rfl⟩))
    go_ret
    exact ⟨by rw [HQ.out]; rfl, KW⟩
  have he2 : nm.toList.isEmpty = true := by cases h : nm.toList <;> simp_all
  have he3 : (nm.toList != []) = false := by rw [bne, hnm]; rfl
  cases hN : (N == 0)
  case false =>
    have hN3 : (N != 0) = true := by rw [bne, hN]; rfl
    have HQ : Hid (formedB op nm N ty 0 = false) := Lib.hid (by unfold formedB kidOk nmOk nOk tyOk; rw [HKN.out]; simp [*])
    go_enter Tryz.func93, Tryz.ntmps93
    go_wp2_with (first | (go_at_call 133; refine (rkids_t HKI.out _).mono ?_; rintro e w' ⟨rfl, rfl⟩) | (go_at_call 135; refine (rbinder_t HBI.out _).mono ?_; rintro e w' ⟨rfl, rfl⟩))
    go_ret
    exact ⟨by rw [HQ.out]; rfl, KW⟩
  have hN3 : (N != 0) = false := by rw [bne, hN]; rfl
  cases hz : zeroTyB ty
  case false =>
    have HQ : Hid (formedB op nm N ty 0 = false) := Lib.hid (by unfold formedB kidOk nmOk nOk tyOk; rw [HKN.out]; simp [*])
    have HZ := Lib.hid (fun W => rzeroTy_t (w := W) HKW.out hz)
    clear hz
    go_enter Tryz.func93, Tryz.ntmps93
    go_wp2_with (first | (go_at_call 133; refine (rkids_t HKI.out _).mono ?_; rintro e w' ⟨rfl, rfl⟩) | (go_at_call 135; refine (rbinder_t HBI.out _).mono ?_; rintro e w' ⟨rfl, rfl⟩))
    refine (HZ.out _).mono ?_
    rintro e w' ⟨rfl, h2⟩
    go_wp2_with fail
    go_ret
    exact ⟨by rw [HQ.out]; rfl, (KW).trans h2⟩
  case true =>
    have HQ : Hid (formedB op nm N ty 0 = true) := Lib.hid (by unfold formedB kidOk nmOk nOk tyOk; rw [HKN.out]; simp [*])
    have HZ := Lib.hid (fun W => rzeroTy_t (w := W) HKW.out hz)
    clear hz
    go_enter Tryz.func93, Tryz.ntmps93
    go_wp2_with (first | (go_at_call 133; refine (rkids_t HKI.out _).mono ?_; rintro e w' ⟨rfl, rfl⟩) | (go_at_call 135; refine (rbinder_t HBI.out _).mono ?_; rintro e w' ⟨rfl, rfl⟩))
    refine (HZ.out _).mono ?_
    rintro e w' ⟨rfl, h2⟩
    go_wp2_with fail
    go_ret
    exact ⟨by rw [HQ.out]; rfl, (KW).trans h2⟩
set_option maxRecDepth 100000 in
set_option maxHeartbeats 8000000 in
theorem rnode_set {ok : Nat → Prop} {w : World} {nm : ByteArray} {N : Int} {ty : Ty} {a : Option Addr} {n c : Nat} {ma : Option Addr} {mn mc : Nat} (hk : TyL ok w ty.kids (.slice a n c)) (hs : SmTy big ty) (hsz : nm.size ≤ 9223372036854775807) {op : Int} (n20 : op ≠ 20) (n19 : op ≠ 19) (n29 : op ≠ 29) (hbi : binderB op = false) (hki : kidsN op = (-1, true)) : Calls Tryz.prog 93 #[.agg #[.int .i64 op, .string nm, .int .i64 N, .int .i64 ty.kind, .string ty.name, .slice a n c, .slice ma mn mc]] w fun e w' => e = .returned (.bool (formedB op nm N ty mn)) ∧ Kept (fun _ => False) w w' := by
  have q20 : (op == 20) = false := beq_false_of_ne n20
  have q19 : (op == 19) = false := beq_false_of_ne n19
  have q29 : (op == 29) = false := beq_false_of_ne n29
  have p19 : (op != 19) = true := by rw [bne, q19]; rfl
  have HKN := Lib.hid hki
  have HKI : Hid (kidR op = -1) := Lib.hid (by unfold kidR; rw [hki]; rfl)
  have HBI := Lib.hid hbi
  have KW : Kept (fun _ => False) w (w.alloc (.cells #[.int .i64 op, .string nm, .int .i64 N, .int .i64 ty.kind, .string ty.name, .slice a n c, .slice ma mn mc] 27)) := (Kept.refl _ _).alloc _
  have bW : Blk (w.alloc (.cells #[.int .i64 op, .string nm, .int .i64 N, .int .i64 ty.kind, .string ty.name, .slice a n c, .slice ma mn mc] 27)) w.heap.size 27 [.int .i64 op, .string nm, .int .i64 N, .int .i64 ty.kind, .string ty.name, .slice a n c, .slice ma mn mc] := Blk.new w 27 _
  have HKW := Lib.hid (hk.frame (Same.alloc w (.cells #[.int .i64 op, .string nm, .int .i64 N, .int .i64 ty.kind, .string ty.name, .slice a n c, .slice ma mn mc] 27)))
  by_cases hl : mn = 0
  · subst hl
    have HQ : Hid (formedB op nm N ty 0 = false) := Lib.hid (by unfold formedB kidOk nmOk nOk tyOk; rw [HKN.out]; simp [*])
    go_enter Tryz.func93, Tryz.ntmps93
    go_wp2_with (first | (go_at_call 133; refine (rkids_t HKI.out _).mono ?_; rintro e w' ⟨rfl, rfl⟩) | (go_at_call 135; refine (rbinder_t HBI.out _).mono ?_; rintro e w' ⟨rfl, rfl⟩))
    go_ret
    exact ⟨by rw [HQ.out]; rfl, KW⟩
  have hl1 : decide ((mn : Int) = 0) = false := by simp; omega
  have hl2 : ((mn : Int) == 0) = false := by simp; omega
  cases hnm : (nm.toList == [])
  case false =>
    have he2 : nm.toList.isEmpty = false := by cases h : nm.toList <;> simp_all
    have he3 : (nm.toList != []) = true := by rw [bne, hnm]; rfl
    have HQ : Hid (formedB op nm N ty mn = false) := Lib.hid (by unfold formedB kidOk nmOk nOk tyOk; rw [HKN.out]; simp [*, big])
    go_enter Tryz.func93, Tryz.ntmps93
    go_wp2_with (first | (go_at_call 133; refine (rkids_t HKI.out _).mono ?_; rintro e w' ⟨rfl, rfl⟩) | (go_at_call 135; refine (rbinder_t HBI.out _).mono ?_; rintro e w' ⟨rfl, rfl⟩))
    go_ret
    exact ⟨by rw [HQ.out]; rfl, KW⟩
  have he2 : nm.toList.isEmpty = true := by cases h : nm.toList <;> simp_all
  have he3 : (nm.toList != []) = false := by rw [bne, hnm]; rfl
  cases hN : (N == 0)
  case false =>
    have hN3 : (N != 0) = true := by rw [bne, hN]; rfl
    have HQ : Hid (formedB op nm N ty mn = false) := Lib.hid (by unfold formedB kidOk nmOk nOk tyOk; rw [HKN.out]; simp [*])
    go_enter Tryz.func93, Tryz.ntmps93
    go_wp2_with (first | (go_at_call 133; refine (rkids_t HKI.out _).mono ?_; rintro e w' ⟨rfl, rfl⟩) | (go_at_call 135; refine (rbinder_t HBI.out _).mono ?_; rintro e w' ⟨rfl, rfl⟩))
    go_ret
    exact ⟨by rw [HQ.out]; rfl, KW⟩
  have hN3 : (N != 0) = false := by rw [bne, hN]; rfl
  cases hz : zeroTyB ty
  case false =>
    have HQ : Hid (formedB op nm N ty mn = false) := Lib.hid (by unfold formedB kidOk nmOk nOk tyOk; rw [HKN.out]; simp [*])
    have HZ := Lib.hid (fun W => rzeroTy_t (w := W) HKW.out hz)
    clear hz
    go_enter Tryz.func93, Tryz.ntmps93
    go_wp2_with (first | (go_at_call 133; refine (rkids_t HKI.out _).mono ?_; rintro e w' ⟨rfl, rfl⟩) | (go_at_call 135; refine (rbinder_t HBI.out _).mono ?_; rintro e w' ⟨rfl, rfl⟩))
    refine (HZ.out _).mono ?_
    rintro e w' ⟨rfl, h2⟩
    go_wp2_with fail
    go_ret
    exact ⟨by rw [HQ.out]; rfl, (KW).trans h2⟩
  case true =>
    have HQ : Hid (formedB op nm N ty mn = true) := Lib.hid (by unfold formedB kidOk nmOk nOk tyOk; rw [HKN.out]; simp [*])
    have HZ := Lib.hid (fun W => rzeroTy_t (w := W) HKW.out hz)
    clear hz
    go_enter Tryz.func93, Tryz.ntmps93
    go_wp2_with (first | (go_at_call 133; refine (rkids_t HKI.out _).mono ?_; rintro e w' ⟨rfl, rfl⟩) | (go_at_call 135; refine (rbinder_t HBI.out _).mono ?_; rintro e w' ⟨rfl, rfl⟩))
    refine (HZ.out _).mono ?_
    rintro e w' ⟨rfl, h2⟩
    go_wp2_with fail
    go_ret
    exact ⟨by rw [HQ.out]; rfl, (KW).trans h2⟩
set_option maxRecDepth 100000 in
set_option maxHeartbeats 8000000 in
theorem rnode_not {ok : Nat → Prop} {w : World} {nm : ByteArray} {N : Int} {ty : Ty} {a : Option Addr} {n c : Nat} {ma : Option Addr} {mn mc : Nat} (hk : TyL ok w ty.kids (.slice a n c)) (hs : SmTy big ty) (hsz : nm.size ≤ 9223372036854775807) {op a0 : Int} (hki : kidsN op = (a0, false)) : Calls Tryz.prog 93 #[.agg #[.int .i64 op, .string nm, .int .i64 N, .int .i64 ty.kind, .string ty.name, .slice a n c, .slice ma mn mc]] w fun e w' => e = .returned (.bool (formedB op nm N ty mn)) ∧ Kept (fun _ => False) w w' := by
  have HKI : Hid (kidR op = -2) := Lib.hid (by unfold kidR; rw [hki]; rfl)
  have KW : Kept (fun _ => False) w (w.alloc (.cells #[.int .i64 op, .string nm, .int .i64 N, .int .i64 ty.kind, .string ty.name, .slice a n c, .slice ma mn mc] 27)) := (Kept.refl _ _).alloc _
  have HQ : Hid (formedB op nm N ty mn = false) := Lib.hid (by unfold formedB kidOk; rw [hki]; rfl)
  clear hki
  go_enter Tryz.func93, Tryz.ntmps93
  go_wp2_with (go_at_call 133; refine (rkids_t HKI.out _).mono ?_; rintro e w' ⟨rfl, rfl⟩)
  go_ret
  exact ⟨by rw [HQ.out]; rfl, KW⟩
theorem rnode_any {ok : Nat → Prop} {w : World} {nm : ByteArray} {N : Int} {ty : Ty} {a : Option Addr} {n c : Nat} {ma : Option Addr} {mn mc : Nat} (hk : TyL ok w ty.kids (.slice a n c)) (hs : SmTy big ty) (hsz : nm.size ≤ 9223372036854775807) (op : Int) : Calls Tryz.prog 93 #[.agg #[.int .i64 op, .string nm, .int .i64 N, .int .i64 ty.kind, .string ty.name, .slice a n c, .slice ma mn mc]] w fun e w' => e = .returned (.bool (formedB op nm N ty mn)) ∧ Kept (fun _ => False) w w' := by
  by_cases n20 : op = 20
  · subst n20; exact rnode_name hk hs hsz
  by_cases n19 : op = 19
  · subst n19; exact rnode_int hk hs hsz
  by_cases n29 : op = 29
  · subst n29; exact rnode_empty hk hs hsz
  cases hbi : binderB op
  case true => exact rnode_bind hk hs hsz n20 n19 n29 hbi (bind_kids op hbi)
  rcases kids_cases op with ⟨a, h⟩ | h | h | h | h
  · exact rnode_not hk hs hsz h
  · exact rnode_zero hk hs hsz n20 n19 n29 hbi h
  · exact rnode_one hk hs hsz n20 n19 n29 hbi h
  · exact rnode_two hk hs hsz n20 n19 n29 hbi h
  · exact rnode_set hk hs hsz n20 n19 n29 hbi h
def NdC (t : Tm) : Prop := ∀ (w : World) (ok : Nat → Prop) (c d : Nat) (tk kk : Value), c ≤ 2000 → 1 ≤ d → d ≤ 65 → TyL ok w t.ty.kids tk → TmL ok w t.kids kk →
  Calls Tryz.prog 51 #[tmVal t tk kk, .int .i64 d, .int .i64 c] w fun e w' => e = .returned (.int .i64 (tdR (fS 2000 64 t d c))) ∧ Kept (fun _ => False) w w'
theorem nd_no {op : Int} {nm : ByteArray} {N : Int} {ty : Ty} {l : List Tm} {d c : Nat} (h : ((decide (c + 1 ≤ 2000) && decide (d ≤ 64)) && formedB op nm N ty l.length) = false) : tdR (fS 2000 64 (.mk op nm N ty l) d c) = -1 := by
  rw [f_eq, h]; rfl
theorem nd_yes {op : Int} {nm : ByteArray} {N : Int} {ty : Ty} {l : List Tm} {d c : Nat} (hc : c + 1 ≤ 2000) (hd : d ≤ 64) (h : formedB op nm N ty l.length = true) : fS 2000 64 (.mk op nm N ty l) d c = fsS 2000 64 l (d + 1) (c + 1) := by
  rw [f_eq, decide_eq_true hc, decide_eq_true hd, h]; rfl
theorem nd_drop {l : List Tm} {d c k : Nat} (h : k < l.length) : tdR (fsS 2000 64 (l.drop k) d c) = if (fS 2000 64 l[k] d c).1 = true then tdR (fsS 2000 64 (l.drop (k + 1)) d (fS 2000 64 l[k] d c).2) else -1 := by
  rw [fs_step h]; split <;> rfl
theorem rnode_t {ok : Nat → Prop} {w : World} {op : Int} {nm : ByteArray} {N : Int} {ty : Ty} {a : Option Addr} {n c : Nat} {ma : Option Addr} {mn mc : Nat} (hk : TyL ok w ty.kids (.slice a n c)) (hs : SmTy big ty) (hsz : nm.size ≤ 9223372036854775807) {v : Bool} (hv : formedB op nm N ty mn = v) :
    Calls Tryz.prog 93 #[.agg #[.int .i64 op, .string nm, .int .i64 N, .int .i64 ty.kind, .string ty.name, .slice a n c, .slice ma mn mc]] w fun e w' => e = .returned (.bool v) ∧ Kept (fun _ => False) w w' := by rw [← hv]; exact rnode_any hk hs hsz op
set_option maxRecDepth 100000 in
set_option maxHeartbeats 8000000 in
theorem rnodes_bad {ok : Nat → Prop} {op : Int} {nm : ByteArray} {N : Int} {ty : Ty} {a : Option Addr} {n c' : Nat} {ma : Option Addr} {mn mc c d : Nat} {w : World} (hk : TyL ok w ty.kids (.slice a n c')) (hs : SmTy big ty) (hsz : nm.size ≤ 9223372036854775807) (hc : c ≤ 2000) (h1 : 1 ≤ d) (hd : d ≤ 65)
    (h : ((decide (c + 1 ≤ 2000) && decide (d ≤ 64)) && formedB op nm N ty mn) = false) :
    Calls Tryz.prog 51 #[.agg #[.int .i64 op, .string nm, .int .i64 N, .int .i64 ty.kind, .string ty.name, .slice a n c', .slice ma mn mc], .int .i64 d, .int .i64 c] w fun e w' => e = .returned (.int .i64 (-1)) ∧ Kept (fun _ => False) w w' := by
  have K1 : Kept (fun _ => False) w (w.alloc (.cells #[.int .i64 op, .string nm, .int .i64 N, .int .i64 ty.kind, .string ty.name, .slice a n c', .slice ma mn mc] 27)) := (Kept.refl _ _).alloc _
  by_cases d6 : d ≤ 64
  case neg =>
    have i1 : decide ((64 : Int) < (d : Int)) = true := decide_eq_true (by omega)
    clear h
    go_enter Tryz.func51, Tryz.ntmps51
    go_wp2_with fail
    go_ret
    exact ⟨rfl, K1⟩
  have i1 : decide ((64 : Int) < (d : Int)) = false := decide_eq_false (by omega)
  by_cases c6 : c + 1 ≤ 2000
  case neg =>
    have i2 : decide ((2000 : Int) < (c : Int) + 1) = true := decide_eq_true (by omega)
    clear h
    go_enter Tryz.func51, Tryz.ntmps51
    go_wp2_with fail
    go_ret
    exact ⟨rfl, K1⟩
  have i2 : decide ((2000 : Int) < (c : Int) + 1) = false := decide_eq_false (by omega)
  rw [decide_eq_true d6, decide_eq_true c6, Bool.true_and, Bool.true_and] at h
  have HN := Lib.hid (rnode_t (ma := ma) (mc := mc) (hk.frame (Same.alloc w (.cells #[.int .i64 op, .string nm, .int .i64 N, .int .i64 ty.kind, .string ty.name, .slice a n c', .slice ma mn mc] 27))) hs hsz h)
  clear h hk
  go_enter Tryz.func51, Tryz.ntmps51
  go_wp2_with fail
  refine HN.out.mono ?_
  rintro e w1 ⟨rfl, k1⟩
  go_wp2_with fail
  go_ret
  exact ⟨rfl, K1.trans k1⟩
set_option maxRecDepth 100000 in
set_option maxHeartbeats 8000000 in
theorem rnodes_leaf {ok : Nat → Prop} {op : Int} {nm : ByteArray} {N : Int} {ty : Ty} {a : Option Addr} {n c' : Nat} {ma : Option Addr} {mc c d : Nat} {w : World} (hk : TyL ok w ty.kids (.slice a n c')) (hs : SmTy big ty) (hsz : nm.size ≤ 9223372036854775807) (hc : c + 1 ≤ 2000) (h1 : 1 ≤ d) (hd : d ≤ 64)
    (h : formedB op nm N ty 0 = true) :
    Calls Tryz.prog 51 #[.agg #[.int .i64 op, .string nm, .int .i64 N, .int .i64 ty.kind, .string ty.name, .slice a n c', .slice ma 0 mc], .int .i64 d, .int .i64 c] w fun e w' => e = .returned (.int .i64 ((c + 1 : Nat) : Int)) ∧ Kept (fun _ => False) w w' := by
  have K1 : Kept (fun _ => False) w (w.alloc (.cells #[.int .i64 op, .string nm, .int .i64 N, .int .i64 ty.kind, .string ty.name, .slice a n c', .slice ma 0 mc] 27)) := (Kept.refl _ _).alloc _
  have bA : Blk (w.alloc (.cells #[.int .i64 op, .string nm, .int .i64 N, .int .i64 ty.kind, .string ty.name, .slice a n c', .slice ma 0 mc] 27)) w.heap.size 27 [.int .i64 op, .string nm, .int .i64 N, .int .i64 ty.kind, .string ty.name, .slice a n c', .slice ma 0 mc] := Blk.new w 27 _
  have i1 : decide ((64 : Int) < (d : Int)) = false := decide_eq_false (by omega)
  have i2 : decide ((2000 : Int) < (c : Int) + 1) = false := decide_eq_false (by omega)
  have HN := Lib.hid (rnode_t (ma := ma) (mc := mc) (hk.frame (Same.alloc w (.cells #[.int .i64 op, .string nm, .int .i64 N, .int .i64 ty.kind, .string ty.name, .slice a n c', .slice ma 0 mc] 27))) hs hsz h)
  clear h hk
  go_enter Tryz.func51, Tryz.ntmps51
  go_wp2_with fail
  refine HN.out.mono ?_
  rintro e w1 ⟨rfl, k1⟩
  have g2 : w1.cell? ⟨w.heap.size, 6, none⟩ = some (.slice ma 0 mc) := (bA.kept k1 (fun h => h)).cell 6
  go_wp2_with fail
  go_loop [7, 2] (fun i m => i = .int .i64 0 ∧ m = .int .i64 ((c : Int) + 1)) (fun i _ => 0)
  case atStart => exact ⟨rfl, rfl⟩
  case round =>
    obtain ⟨rfl, rfl⟩ := hrel
    go_wp2_with fail
    go_ret
    exact ⟨rfl, K1.trans k1⟩
set_option maxRecDepth 100000 in
set_option maxHeartbeats 8000000 in
theorem rnodes_mk {ok : Nat → Prop} {op : Int} {nm : ByteArray} {N : Int} {ty : Ty} {l : List Tm} {a : Option Addr} {n c' : Nat} {b off mc c d : Nat} {w : World} (IH : ∀ t, t ∈ l → NdC t) (hk : TyL ok w ty.kids (.slice a n c')) (hs : SmTy big ty) (hsz : nm.size ≤ 9223372036854775807) (hc : c + 1 ≤ 2000) (h1 : 1 ≤ d) (hd : d ≤ 64)
    (h : formedB op nm N ty l.length = true) (K M : Nat → Value) (hb : ok b)
    (hcell : ∀ i (h : i < l.length), w.cell? ⟨b, off + i * 7, none⟩ = some (.int .i64 l[i].op) ∧ w.cell? ⟨b, off + i * 7 + 1, none⟩ = some (.string l[i].name) ∧ w.cell? ⟨b, off + i * 7 + 2, none⟩ = some (.int .i64 l[i].n) ∧ w.cell? ⟨b, off + i * 7 + 3, none⟩ = some (.int .i64 l[i].ty.kind) ∧ w.cell? ⟨b, off + i * 7 + 4, none⟩ = some (.string l[i].ty.name) ∧ w.cell? ⟨b, off + i * 7 + 5, none⟩ = some (K i) ∧ w.cell? ⟨b, off + i * 7 + 6, none⟩ = some (M i))
    (hkk : ∀ i (h : i < l.length), TyL ok w l[i].ty.kids (K i)) (hm : ∀ i (h : i < l.length), TmL ok w l[i].kids (M i)) :
    Calls Tryz.prog 51 #[.agg #[.int .i64 op, .string nm, .int .i64 N, .int .i64 ty.kind, .string ty.name, .slice a n c', .slice (some ⟨b, off, none⟩) l.length mc], .int .i64 d, .int .i64 c] w fun e w' => e = .returned (.int .i64 (tdR (fsS 2000 64 l (d + 1) (c + 1)))) ∧ Kept (fun _ => False) w w' := by
  have K1 : Kept (fun _ => False) w (w.alloc (.cells #[.int .i64 op, .string nm, .int .i64 N, .int .i64 ty.kind, .string ty.name, .slice a n c', .slice (some ⟨b, off, none⟩) l.length mc] 27)) := (Kept.refl _ _).alloc _
  have bA : Blk (w.alloc (.cells #[.int .i64 op, .string nm, .int .i64 N, .int .i64 ty.kind, .string ty.name, .slice a n c', .slice (some ⟨b, off, none⟩) l.length mc] 27)) w.heap.size 27 [.int .i64 op, .string nm, .int .i64 N, .int .i64 ty.kind, .string ty.name, .slice a n c', .slice (some ⟨b, off, none⟩) l.length mc] := Blk.new w 27 _
  have i1 : decide ((64 : Int) < (d : Int)) = false := decide_eq_false (by omega)
  have i2 : decide ((2000 : Int) < (c : Int) + 1) = false := decide_eq_false (by omega)
  have HN := Lib.hid (rnode_t (ma := some ⟨b, off, none⟩) (mc := mc) (hk.frame (Same.alloc w (.cells #[.int .i64 op, .string nm, .int .i64 N, .int .i64 ty.kind, .string ty.name, .slice a n c', .slice (some ⟨b, off, none⟩) l.length mc] 27))) hs hsz h)
  have HIH := Lib.hid IH
  have HC := Lib.hid hcell
  have HK := Lib.hid hkk
  have HM := Lib.hid hm
  clear h hk IH hcell hkk hm
  go_enter Tryz.func51, Tryz.ntmps51
  go_wp2_with fail
  refine HN.out.mono ?_
  rintro e w1 ⟨rfl, k1⟩
  have bA1 := bA.kept k1 (fun h => h)
  have K2 := K1.trans k1
  go_wp2_with fail
  go_loopw [7, 2] (fun i m wr => ∃ j cj : Nat, j ≤ l.length ∧ j ≤ cj ∧ i = .int .i64 j ∧ m = .int .i64 cj ∧ cj ≤ 2000 ∧ Kept (fun _ => False) w1 wr ∧ Hid (tdR (fsS 2000 64 l (d + 1) (c + 1)) = tdR (fsS 2000 64 (l.drop j) (d + 1) cj))) (fun i _ _ => l.length - (intOf i).toNat)
  case atStart => exact ⟨0, c + 1, Nat.zero_le _, Nat.zero_le _, rfl, by go_num, hc, Kept.refl _ _, Lib.hid rfl⟩
  case round =>
    obtain ⟨j, cj, hj, hjc, rfl, rfl, hcj, kr, hq⟩ := hrel
    have bR := bA1.kept kr (fun h => h)
    have g2 : wr.cell? ⟨w.heap.size, 6, none⟩ = some (.slice (some ⟨b, off, none⟩) l.length mc) := bR.cell 6
    by_cases hlt : j < l.length
    · have KR := K2.trans kr
      have c0 := (Same.of_kept (ok := ok) KR (fun k h e => e)).cell hb (HC.out j hlt).1
      have c1 := (Same.of_kept (ok := ok) KR (fun k h e => e)).cell hb (HC.out j hlt).2.1
      have c2 := (Same.of_kept (ok := ok) KR (fun k h e => e)).cell hb (HC.out j hlt).2.2.1
      have c3 := (Same.of_kept (ok := ok) KR (fun k h e => e)).cell hb (HC.out j hlt).2.2.2.1
      have c4 := (Same.of_kept (ok := ok) KR (fun k h e => e)).cell hb (HC.out j hlt).2.2.2.2.1
      have c5 := (Same.of_kept (ok := ok) KR (fun k h e => e)).cell hb (HC.out j hlt).2.2.2.2.2.1
      have c6 := (Same.of_kept (ok := ok) KR (fun k h e => e)).cell hb (HC.out j hlt).2.2.2.2.2.2
      obtain ⟨ta, tn, tc, hKj⟩ := (HK.out j hlt).slice
      obtain ⟨ua, un, uc, hMj⟩ := (HM.out j hlt).slice
      have hkk := (HK.out j hlt).frame (Same.of_kept (ok := ok) KR (fun k h e => e))
      have hmm := (HM.out j hlt).frame (Same.of_kept (ok := ok) KR (fun k h e => e))
      rw [hKj] at c5 hkk
      rw [hMj] at c6 hmm
      have hcon := Lib.hid (HIH.out _ (List.getElem_mem hlt) wr ok cj (d + 1) _ _ hcj (by omega) (by omega) hkk hmm)
      have hst := Lib.hid (nd_drop (d := d + 1) (c := cj) hlt)
      have hle := Lib.hid (f_le 2000 64 l[j] (d + 1) cj hcj)
      clear hkk hmm hKj hMj
      have hj2 : (j : Int) < (l.length : Int) := by omega
      have hj3 : (j : Int) < 100000000 := by omega
      cases hr : (fS 2000 64 l[j] (d + 1) cj).1
      · have e1 : tdR (fS 2000 64 l[j] (d + 1) cj) = -1 := by unfold tdR; rw [hr]; rfl
        rw [e1] at hcon
        have HR := Lib.hid hr
        clear hr e1
        unfold tmVal at hcon
        go_wp2_with (go_at_call 51; refine hcon.out.mono ?_; rintro e w' ⟨rfl, k2⟩)
        go_ret
        refine ⟨?_, KR.trans k2⟩
        rw [hq.out, hst.out, HR.out]; rfl
      · have e1 : tdR (fS 2000 64 l[j] (d + 1) cj) = ((fS 2000 64 l[j] (d + 1) cj).2 : Int) := by unfold tdR; rw [hr]; rfl
        rw [e1] at hcon
        have hle2 := hle.out hr
        have HR := Lib.hid hr
        clear hr e1
        generalize hcc : (fS 2000 64 l[j] (d + 1) cj).2 = cc at *
        have HCC := Lib.hid hcc
        have HL2 := Lib.hid hle2
        have i5 : decide ((cc : Int) < 0) = false := decide_eq_false (by omega)
        clear hcc hle2
        unfold tmVal at hcon
        go_wp2_with (go_at_call 51; refine hcon.out.mono ?_; rintro e w' ⟨rfl, k2⟩)
        go_roundw
        case rel =>
          refine ⟨j + 1, cc, by omega, by have := HL2.out.1; omega, by go_num, rfl, HL2.out.2, kr.trans k2, Lib.hid ?_⟩
          rw [hq.out, hst.out, HR.out, if_pos rfl]
        case measure => simp [intOf]; omega
    · have hq2 : Hid (tdR (fsS 2000 64 l (d + 1) (c + 1)) = (cj : Int)) := Lib.hid (by rw [hq.out, List.drop_eq_nil_of_le (by omega), fsS]; rfl)
      go_wp2_with fail
      go_ret
      exact ⟨by rw [hq2.out]; rfl, K2.trans kr⟩
theorem rnodes_one {op : Int} {nm : ByteArray} {N : Int} {ty : Ty} {l : List Tm} (hsz : nm.size ≤ 9223372036854775807) (hs : SmTy big ty) (IH : ∀ t, t ∈ l → NdC t) : NdC (.mk op nm N ty l) := by
  intro w ok c d tk kk hc h1 hd hk hm
  obtain ⟨a, n, cp, rfl⟩ := hk.slice
  obtain ⟨ma, mn, mc, rfl⟩ := hm.slice
  have hn : mn = l.length := hm.len
  cases hh : ((decide (c + 1 ≤ 2000) && decide (d ≤ 64)) && formedB op nm N ty l.length)
  · rw [nd_no hh]
    exact rnodes_bad hk hs hsz hc h1 hd (by rw [hn]; exact hh)
  · rw [Bool.and_eq_true, Bool.and_eq_true] at hh
    obtain ⟨⟨hc1, hd1⟩, hh⟩ := hh
    have hc1 := of_decide_eq_true hc1
    have hd1 := of_decide_eq_true hd1
    rw [nd_yes hc1 hd1 hh]
    subst hn
    have hm' : TmL ok w l (.slice ma l.length mc) := hm
    cases l with
    | nil =>
      rw [fsS]
      exact rnodes_leaf hk hs hsz hc1 h1 hd1 hh
    | cons t l =>
      cases hm' with
      | mk K M hne hb hcap hcell hkk hmm => exact rnodes_mk IH hk hs hsz hc1 h1 hd1 hh K M hb hcell hkk hmm
theorem rnodes_any {t : Tm} (h : SmTm big t) : NdC t := by
  induction h with
  | mk hn ht hl ih => exact rnodes_one hn ht ih
set_option maxHeartbeats 2000000 in
theorem rvalid_any {ok : Nat → Prop} {w : World} {t : Tm} {a : Option Addr} {n c : Nat} {ma : Option Addr} {mn mc : Nat} (hk : TyL ok w t.ty.kids (.slice a n c)) (hm : TmL ok w t.kids (.slice ma mn mc)) (hs : SmTm big t) :
    Calls Tryz.prog 20 #[.agg #[.int .i64 t.op, .string t.name, .int .i64 t.n, .int .i64 t.ty.kind, .string t.ty.name, .slice a n c, .slice ma mn mc]] w fun e w' => e = .returned (.bool (validB t)) ∧ Kept (fun _ => False) w w' := by
  have hk2 := hk.frame (Same.alloc w (.cells #[.int .i64 t.op, .string t.name, .int .i64 t.n, .int .i64 t.ty.kind, .string t.ty.name, .slice a n c, .slice ma mn mc] 27))
  have hm2 := hm.frame (Same.alloc w (.cells #[.int .i64 t.op, .string t.name, .int .i64 t.n, .int .i64 t.ty.kind, .string t.ty.name, .slice a n c, .slice ma mn mc] 27))
  have hC := Lib.hid (rnodes_any hs _ ok 0 1 _ _ (by decide) (by decide) (by decide) hk2 hm2)
  have K1 : Kept (fun _ => False) w (w.alloc (.cells #[.int .i64 t.op, .string t.name, .int .i64 t.n, .int .i64 t.ty.kind, .string t.ty.name, .slice a n c, .slice ma mn mc] 27)) := (Kept.refl _ _).alloc _
  have hle := f_le 2000 64 t 1 0 (Nat.zero_le _)
  have HV : Hid (decide (0 < tdR (fS 2000 64 t 1 0)) = validB t) := Lib.hid (by
    unfold tdR validB
    cases hr : (fS 2000 64 t 1 0).1
    · rfl
    · have := (hle hr).1
      rw [if_pos rfl]
      exact decide_eq_true (by omega))
  clear hle hk2 hm2
  unfold tmVal at hC
  go_enter Tryz.func20, Tryz.ntmps20
  go_wp2_with fail
  refine hC.out.mono ?_
  rintro e w' ⟨rfl, k2⟩
  go_wp2_with fail
  go_ret
  exact ⟨by rw [← HV.out]; rfl, K1.trans k2⟩
def RK (w : World) (b : Nat) (s : ByteArray) : Except ER PS → Prop
  | .ok σ => RR w b s (.ok σ)
  | .error r => ∃ k x a nest, RAt w b s k x a nest r.2 (if r.1 = true then 4 else 2)
theorem RK.rr {w : World} {b : Nat} {s : ByteArray} (hs : s.size ≤ 65536) : ∀ {q : Except ER PS}, RK w b s q → RR w b s q
  | .ok _, h => h
  | .error _, h => ⟨hs, Or.inr h⟩
theorem end_known {w : World} {b : Nat} {s : ByteArray} {q : Except ER PS} (h : RR w b s q) : Calls Tryz.prog 37 #[.pointer (some ⟨b, 0, none⟩)] w fun e w' => e = .returned (.tuple #[]) ∧ RK w' b s (bP q endS) ∧ Kept (· = b) w w' := by
  have hs := h.src
  match q, h, h.st with
  | .error r, h, .inl ⟨hd, x, nest, hat⟩ =>
    have c1 := hat.c1
    go_enter Tryz.func37, Tryz.ntmps37
    go_wp2_with (first | (go_at_call 38; refine (rok_any hat rfl).mono ?_; rintro e w' ⟨rfl, rfl⟩) | (go_at_call 78; refine (rwrong_live hat rfl).mono ?_; rintro e w' ⟨rfl, h', k'⟩))
    go_end0
    exact ⟨rfl, ⟨_, _, _, _, by rw [hd]; exact h'⟩, k'⟩
  | .error r, h, .inr ⟨k, x, a, nest, hat⟩ =>
    go_enter Tryz.func37, Tryz.ntmps37
    go_wp2_with (first | (go_at_call 38; refine (rok_any hat (e_dead _)).mono ?_; rintro e w' ⟨rfl, rfl⟩))
    go_end0
    exact ⟨rfl, ⟨_, _, _, _, hat⟩, Kept.refl _ _⟩
  | .ok σ, h, ⟨hat, tk⟩ =>
    have c1 := hat.c1
    have he := tok_end tk
    cases hk : (σ.k != 0)
    · rw [hk] at he
      have HR := Lib.hid (show bP (.ok σ) endS = .ok σ by show endS σ = _; unfold endS; rw [if_pos (by simpa using hk)])
      clear hk
      go_enter Tryz.func37, Tryz.ntmps37
      go_wp2_with (first | (go_at_call 38; refine (rok_any hat rfl).mono ?_; rintro e w' ⟨rfl, rfl⟩))
      go_end0
      exact ⟨rfl, by rw [HR.out]; exact h, Kept.refl _ _⟩
    · rw [hk] at he
      have HR := Lib.hid (show bP (.ok σ) endS = .error (false, σ.ta) by show endS σ = _; unfold endS; rw [if_neg (by simpa using hk)])
      clear hk
      go_enter Tryz.func37, Tryz.ntmps37
      go_wp2_with (first | (go_at_call 38; refine (rok_any hat rfl).mono ?_; rintro e w' ⟨rfl, rfl⟩) | (go_at_call 78; refine (rwrong_live hat rfl).mono ?_; rintro e w' ⟨rfl, h', k'⟩))
      go_end0
      exact ⟨rfl, by rw [HR.out]; exact ⟨_, _, _, _, h'⟩, k'⟩
theorem adv0_rr {w : World} {b : Nat} {s : ByteArray} (hs : s.size ≤ 65536) (h : RAt w b s (lexW s (skip s 0)).1 (lexW s (skip s 0)).2 (skip s 0) 0 0 0) : RR w b s (advS s ps0) :=
  adv_rq (σ := ps0) hs rfl (skip_le s 0 (Nat.zero_le _)) (Nat.zero_le _) h
theorem RR.box {w : World} {s : ByteArray} (hs : s.size ≤ 65536) : RR (w.alloc (.cells #[.string s, .int .i64 (lexW s (skip s 0)).1, .string (lexW s (skip s 0)).2, .int .i64 (skip s 0), .int .i64 0, .int .i64 0, .int .i64 0] 58)) w.heap.size s (advS s ps0) :=
  adv0_rr hs (Blk.new _ 58 _)
theorem whole_fin {α : Type} {s : ByteArray} {F : PS → Except ER (α × PS)} : (bT (bP (advS s ps0) F) fun a σ => bP (endS σ) fun σ' => .ok (a, σ')) = wholeF s F := by
  unfold wholeF
  rw [bP_assoc]
  refine bP_congr fun σ _ => bT_congr rfl fun a σ2 _ => ?_
  unfold endS
  split <;> rfl
theorem whole_st {α : Type} {s : ByteArray} {F : PS → Except ER (α × PS)} : bP (stT (bP (advS s ps0) F)) endS = stT (wholeF s F) := by
  rw [← whole_fin, stT_u]
set_option maxRecDepth 100000 in
set_option maxHeartbeats 8000000 in
theorem rparse_any {f : Nat} {s : ByteArray} {w : World} (hf : 14 * (s.size + 2) < f) (hs2 : s.size ≤ 9223372036854775807) : Calls Tryz.prog 12 #[.string s] w (ParseP f s w) := by
  have bR : Blk (w.alloc (.cells #[.int .i64 0, .string ⟨#[]⟩, .int .i64 0, .int .i64 0, .string ⟨#[]⟩, .slice none 0 0, .slice none 0 0] 27)) w.heap.size 27 z27 := Blk.new w 27 _
  have K0 : Kept (fun _ => False) w (w.alloc (.cells #[.int .i64 0, .string ⟨#[]⟩, .int .i64 0, .int .i64 0, .string ⟨#[]⟩, .slice none 0 0, .slice none 0 0] 27)) := (Kept.refl _ _).alloc _
  by_cases hs : 65536 < s.size
  · have HA : Hid (parseA f s = 0) := Lib.hid (if_pos hs)
    have HE : Hid (parseE f s = 3) := Lib.hid (if_pos hs)
    have HT : Hid (parseT f s = tm0) := Lib.hid (if_pos hs)
    have i1 : (65536 : Int) < s.size := by omega
    have BR := Lib.hid bR
    have KP := Lib.hid K0
    clear bR K0
    go_enter Tryz.func12, Tryz.ntmps12
    go_wp2_with fail
    exact bodyPost_ret (results_ctt Tryz.results12 rfl (load_tm (t := tm0) BR.out)) rfl ⟨_, by rw [HA.out, HE.out]; rfl, by rw [HT.out]; exact ⟨_, _, rfl, .nil0, .nil0⟩, KP.out⟩
  have hs' : s.size ≤ 65536 := by omega
  have i1 : ¬ (65536 : Int) < s.size := by omega
  have HQ := Lib.hid (show bP (stT (bP (advS s ps0) (termS f s 1))) endS = stT (parseQ f s) from whole_st)
  have HA : Hid (parseA f s = rdAt (parseQ f s)) := Lib.hid (if_neg hs)
  have HEV : Hid (parseE f s = match parseQ f s with | .error r => if r.1 then 4 else 2 | .ok q => if validB q.1 then 0 else 5) := Lib.hid (if_neg hs)
  have HTV : Hid (parseT f s = match parseQ f s with | .error _ => tm0 | .ok q => if validB q.1 then q.1 else tm0) := Lib.hid (if_neg hs)
  have HSM := Lib.hid (fun t σ => sm_whole (f := f) (t := t) (σ := σ) hs')
  clear hs
  go_enter Tryz.func12, Tryz.ntmps12
  go_wp2_with fail
  refine (rlex_any s 0 _ (Nat.zero_le _) hs').mono ?_
  rintro e w1 ⟨rfl, k1⟩
  have bR1 := bR.kept k1 (fun h => h)
  have K1 := K0.trans k1
  have P2 := RR.box (w := w1) hs'
  have bR2 := bR1.alloc (.cells #[.string s, .int .i64 (lexW s (skip s 0)).1, .string (lexW s (skip s 0)).2, .int .i64 (skip s 0), .int .i64 0, .int .i64 0, .int .i64 0] 58)
  have K2 := K1.alloc (.cells #[.string s, .int .i64 (lexW s (skip s 0)).1, .string (lexW s (skip s 0)).2, .int .i64 (skip s 0), .int .i64 0, .int .i64 0, .int .i64 0] 58)
  have z2 : w.heap.size < w1.heap.size := bR1.lt
  have HZ2 : Hid ((w1.alloc (.cells #[.string s, .int .i64 (lexW s (skip s 0)).1, .string (lexW s (skip s 0)).2, .int .i64 (skip s 0), .int .i64 0, .int .i64 0, .int .i64 0] 58)).heap.size = w1.heap.size + 1) := Lib.hid (by simp)
  generalize (lexW s (skip s 0)).1 = lk at *
  generalize (lexW s (skip s 0)).2 = lx at *
  generalize skip s 0 = la at *
  go_wp2_with fail
  generalize (w1.alloc (.cells #[.string s, .int .i64 lk, .string lx, .int .i64 la, .int .i64 0, .int .i64 0, .int .i64 0] 58)) = w2 at *
  refine (rterm_any f 1 1 rfl _ _ (by decide) (by decide) P2 (fun σ e => by have := mu_le s σ; exact ⟨by omega, adv_le (Nat.zero_le _) e⟩)).mono ?_
  rintro e w3 ⟨t, v, rfl, ⟨tk, kk, rfl, hty, htm⟩, L3, k3⟩
  obtain ⟨ta, tn, tc, rfl⟩ := hty.slice
  obtain ⟨ma, mn, mc, rfl⟩ := htm.slice
  unfold tmVal
  have bR3 := (bR2.kept k3 (by show ¬ w.heap.size = w1.heap.size; omega)).alloc (.cells #[.int .i64 t.op, .string t.name, .int .i64 t.n, .int .i64 t.ty.kind, .string t.ty.name, .slice ta tn tc, .slice ma mn mc] 27)
  have K3 := (K2.via k3 (fun x hx e => by omega)).alloc (.cells #[.int .i64 t.op, .string t.name, .int .i64 t.n, .int .i64 t.ty.kind, .string t.ty.name, .slice ta tn tc, .slice ma mn mc] 27)
  have z3 := k3.size
  have l3 := L3.rr.lt
  have L4 := L3.alloc (.cells #[.int .i64 t.op, .string t.name, .int .i64 t.n, .int .i64 t.ty.kind, .string t.ty.name, .slice ta tn tc, .slice ma mn mc] 27)
  have bT4 : Blk (w3.alloc (.cells #[.int .i64 t.op, .string t.name, .int .i64 t.n, .int .i64 t.ty.kind, .string t.ty.name, .slice ta tn tc, .slice ma mn mc] 27)) w3.heap.size 27 [.int .i64 t.op, .string t.name, .int .i64 t.n, .int .i64 t.ty.kind, .string t.ty.name, .slice ta tn tc, .slice ma mn mc] := Blk.new _ 27 _
  have a4 := hty.frame (Same.alloc _ (.cells #[.int .i64 t.op, .string t.name, .int .i64 t.n, .int .i64 t.ty.kind, .string t.ty.name, .slice ta tn tc, .slice ma mn mc] 27))
  have c4 := htm.frame (Same.alloc _ (.cells #[.int .i64 t.op, .string t.name, .int .i64 t.n, .int .i64 t.ty.kind, .string t.ty.name, .slice ta tn tc, .slice ma mn mc] 27))
  go_wp2_with fail
  generalize (w3.alloc (.cells #[.int .i64 t.op, .string t.name, .int .i64 t.n, .int .i64 t.ty.kind, .string t.ty.name, .slice ta tn tc, .slice ma mn mc] 27)) = w4 at *
  refine (end_known L4.rr).mono ?_
  rintro e w5 ⟨rfl, p5, k5⟩
  have L5 : LE w1.heap.size s (parseQ f s) t w5 := (L4.then_u (p5.rr hs')).eq whole_fin
  have bR5 := bR3.kept k5 (by show ¬ w.heap.size = w1.heap.size; omega)
  have bT5 := bT4.kept k5 (by show ¬ w3.heap.size = w1.heap.size; omega)
  have a5 := a4.frame (Same.of_kept k5 (fun k h e => by have := HZ2.out; omega))
  have c5 := c4.frame (Same.of_kept k5 (fun k h e => by have := HZ2.out; omega))
  have K5 := K3.via k5 (fun x hx e => by omega)
  have l5 := L5.rr.lt
  rw [HQ.out] at p5
  clear P2 L3 L4 bR bR1 bR2 bR3 bT4 K0 K1 K2 K3
  cases hq : parseQ f s with
  | error r =>
    rw [hq] at p5
    obtain ⟨k, x, a, nest, hat⟩ := p5
    have HA' : Hid (parseA f s = r.2) := Lib.hid (by rw [HA.out, hq]; rfl)
    have HE : Hid (parseE f s = if r.1 then 4 else 2) := Lib.hid (by rw [HEV.out, hq])
    have HT : Hid (parseT f s = tm0) := Lib.hid (by rw [HTV.out, hq])
    clear HA
    have HA := HA'
    clear HA' hq
    obtain ⟨r1, r2⟩ := r
    have HED := Lib.hid (e_dead r1)
    cases r1
    all_goals
      have g5 := hat.c5
      have g6 := hat.c6
      have gR : ∀ i, w5.cell? ⟨w.heap.size, i, none⟩ = [Value.int .i64 0, .string ⟨#[]⟩, .int .i64 0, .int .i64 0, .string ⟨#[]⟩, .slice none 0 0, .slice none 0 0][i]? := bR5.cell
      have fR : ∀ i, w5.frozen? ⟨w.heap.size, i, none⟩ = false := bR5.frozen
      have BR := Lib.hid bR5
      have KP := Lib.hid K5
      clear bR5 K5
      go_wp2_with fail
      refine (rok_any hat HED.out).mono ?_
      rintro e w' ⟨rfl, rfl⟩
      go_wp2_with fail
      go_region
      all_goals
        go_wp2_with fail
        have bF := r7 (x0 := .int .i64 0) (x1 := .string ⟨#[]⟩) (x2 := .int .i64 0) (x3 := .int .i64 0) (x4 := .string ⟨#[]⟩) (x5 := .slice none 0 0) (x6 := .slice none 0 0) BR.out rfl
        exact bodyPost_ret (results_ctt Tryz.results12 rfl (load_tm (t := tm0) bF.drew)) rfl ⟨_, by rw [HA.out, HE.out]; rfl, by rw [HT.out]; exact ⟨_, _, rfl, .nil0, .nil0⟩, (k7w KP.out (Or.inr (Nat.le_refl _))).drew⟩
  | ok q =>
    obtain ⟨t', σ2⟩ := q
    rw [hq] at p5 L5
    obtain ⟨rfl, _⟩ := L5
    have hat := (p5 : RR w5 w1.heap.size s (.ok σ2)).st.1
    have hsm := (HSM.out _ _ hq).mono (N' := big) (by decide)
    have HA' : Hid (parseA f s = 0) := Lib.hid (by rw [HA.out, hq]; rfl)
    have HEV' : Hid (parseE f s = if validB t' then 0 else 5) := Lib.hid (by rw [HEV.out, hq])
    have HTV' : Hid (parseT f s = if validB t' then t' else tm0) := Lib.hid (by rw [HTV.out, hq])
    clear HA HEV HTV hq
    have HA := HA'
    clear HA'
    have gT : ∀ i, w5.cell? ⟨w3.heap.size, i, none⟩ = [Value.int .i64 t'.op, .string t'.name, .int .i64 t'.n, .int .i64 t'.ty.kind, .string t'.ty.name, .slice ta tn tc, .slice ma mn mc][i]? := bT5.cell
    have HV := Lib.hid (rvalid_any a5 c5 hsm)
    go_wp2_with fail
    refine (rok_any hat rfl).mono ?_
    rintro e w' ⟨rfl, rfl⟩
    go_wp2_with fail
    refine HV.out.mono ?_
    rintro e w6 ⟨rfl, k6⟩
    have bR6 := bR5.kept k6 (fun h => h)
    have bT6 := bT5.kept k6 (fun h => h)
    have K6 := K5.trans k6
    clear gT
    cases hv : validB t'
    · have HE : Hid (parseE f s = 5) := Lib.hid (by rw [HEV'.out, hv]; rfl)
      have HT : Hid (parseT f s = tm0) := Lib.hid (by rw [HTV'.out, hv]; rfl)
      have gR : ∀ i, w6.cell? ⟨w.heap.size, i, none⟩ = [Value.int .i64 0, .string ⟨#[]⟩, .int .i64 0, .int .i64 0, .string ⟨#[]⟩, .slice none 0 0, .slice none 0 0][i]? := bR6.cell
      have fR : ∀ i, w6.frozen? ⟨w.heap.size, i, none⟩ = false := bR6.frozen
      have BR := Lib.hid bR6
      have KP := Lib.hid K6
      clear bR6 K6 bR5 K5 bT5 bT6
      go_wp2_with fail
      have bF := r7 (x0 := .int .i64 0) (x1 := .string ⟨#[]⟩) (x2 := .int .i64 0) (x3 := .int .i64 0) (x4 := .string ⟨#[]⟩) (x5 := .slice none 0 0) (x6 := .slice none 0 0) BR.out rfl
      exact bodyPost_ret (results_ctt Tryz.results12 rfl (load_tm (t := tm0) bF)) rfl ⟨_, by rw [HA.out, HE.out]; rfl, by rw [HT.out]; exact ⟨_, _, rfl, .nil0, .nil0⟩, (k7w KP.out (Or.inr (Nat.le_refl _)))⟩
    · have HE : Hid (parseE f s = 0) := Lib.hid (by rw [HEV'.out, hv]; rfl)
      have HT : Hid (parseT f s = t') := Lib.hid (by rw [HTV'.out, hv]; rfl)
      have a6 := a5.frame (Same.of_kept k6 (fun _ _ e => e))
      have c6 := c5.frame (Same.of_kept k6 (fun _ _ e => e))
      have gT : ∀ i, w6.cell? ⟨w3.heap.size, i, none⟩ = [Value.int .i64 t'.op, .string t'.name, .int .i64 t'.n, .int .i64 t'.ty.kind, .string t'.ty.name, .slice ta tn tc, .slice ma mn mc][i]? := bT6.cell
      have gR : ∀ i, w6.cell? ⟨w.heap.size, i, none⟩ = [Value.int .i64 0, .string ⟨#[]⟩, .int .i64 0, .int .i64 0, .string ⟨#[]⟩, .slice none 0 0, .slice none 0 0][i]? := bR6.cell
      have fR : ∀ i, w6.frozen? ⟨w.heap.size, i, none⟩ = false := bR6.frozen
      have BR := Lib.hid bR6
      have KP := Lib.hid K6
      have A6 := Lib.hid a6
      have C6 := Lib.hid c6
      clear bR6 K6 bR5 K5 bT5 bT6 a5 a6 c5 c6
      go_wp2_with fail
      have bF := r7 (x0 := .int .i64 t'.op) (x1 := .string t'.name) (x2 := .int .i64 t'.n) (x3 := .int .i64 t'.ty.kind) (x4 := .string t'.ty.name) (x5 := .slice ta tn tc) (x6 := .slice ma mn mc) BR.out rfl
      refine bodyPost_ret (results_ctt Tryz.results12 rfl (load_tm (t := t') bF)) rfl ⟨_, by rw [HA.out, HE.out]; rfl, ?_, (k7w KP.out (Or.inr (Nat.le_refl _)))⟩
      rw [HT.out]
      exact ⟨_, _, rfl, (A6.out.frame (same7 (n := w2.heap.size) (R := w.heap.size) (by have := HZ2.out; omega))).mono (fun q _ h => by have := HZ2.out; omega), (C6.out.frame (same7 (n := w2.heap.size) (R := w.heap.size) (by have := HZ2.out; omega))).mono (fun q _ h => by have := HZ2.out; omega)⟩
def SmC (t : Ty) : Prop := ∀ (w : World) (ok ok' : Nat → Prop) (tk tk' : Value), TyL ok w t.kids tk → TyL ok' w t.kids tk' →
  Calls Tryz.prog 17 #[tyVal t tk, tyVal t tk'] w fun e w' => e = .returned (.bool true) ∧ Kept (fun _ => False) w w'
set_option maxRecDepth 100000 in
set_option maxHeartbeats 8000000 in
theorem sameTy_nil {k : Int} {nm : ByteArray} {a a' : Option Addr} {cp cp' : Nat} {w : World} :
    Calls Tryz.prog 17 #[.agg #[.int .i64 k, .string nm, .slice a 0 cp], .agg #[.int .i64 k, .string nm, .slice a' 0 cp']] w fun e w' => e = .returned (.bool true) ∧ Kept (fun _ => False) w w' := by
  have bA : Blk ((w.alloc (.cells #[.int .i64 k, .string nm, .slice a 0 cp] 24)).alloc (.cells #[.int .i64 k, .string nm, .slice a' 0 cp'] 24)) w.heap.size 24 [.int .i64 k, .string nm, .slice a 0 cp] := (Blk.new w 24 _).alloc _
  have bB : Blk ((w.alloc (.cells #[.int .i64 k, .string nm, .slice a 0 cp] 24)).alloc (.cells #[.int .i64 k, .string nm, .slice a' 0 cp'] 24)) (w.heap.size + 1) 24 [.int .i64 k, .string nm, .slice a' 0 cp'] := Blk.new' 24 _ (by simp)
  have K1 : Kept (fun _ => False) w ((w.alloc (.cells #[.int .i64 k, .string nm, .slice a 0 cp] 24)).alloc (.cells #[.int .i64 k, .string nm, .slice a' 0 cp'] 24)) := ((Kept.refl _ _).alloc _).alloc _
  go_enter Tryz.func17, Tryz.ntmps17
  go_wp2_with fail
  generalize ((w.alloc (.cells #[.int .i64 k, .string nm, .slice a 0 cp] 24)).alloc (.cells #[.int .i64 k, .string nm, .slice a' 0 cp'] 24)) = w1 at *
  have g2 : w1.cell? ⟨w.heap.size, 2, none⟩ = some (.slice a 0 cp) := bA.cell 2
  go_loop [5] (fun i => i = .int .i64 0) (fun i => 0)
  case atStart => rfl
  case round =>
    subst hrel
    go_wp2_with fail
    go_ret
    exact ⟨rfl, K1⟩
set_option maxRecDepth 100000 in
set_option maxHeartbeats 8000000 in
theorem sameTy_mk {k : Int} {nm : ByteArray} {l : List Ty} {b off cp b' off' cp' : Nat} {w : World} {ok ok' : Nat → Prop} (IH : ∀ t, t ∈ l → SmC t) (K K' : Nat → Value) (hb : ok b) (hb' : ok' b')
    (hcell : ∀ i (h : i < l.length), w.cell? ⟨b, off + i * 3, none⟩ = some (.int .i64 l[i].kind) ∧ w.cell? ⟨b, off + i * 3 + 1, none⟩ = some (.string l[i].name) ∧ w.cell? ⟨b, off + i * 3 + 2, none⟩ = some (K i))
    (hk : ∀ i (h : i < l.length), TyL ok w l[i].kids (K i))
    (hcell' : ∀ i (h : i < l.length), w.cell? ⟨b', off' + i * 3, none⟩ = some (.int .i64 l[i].kind) ∧ w.cell? ⟨b', off' + i * 3 + 1, none⟩ = some (.string l[i].name) ∧ w.cell? ⟨b', off' + i * 3 + 2, none⟩ = some (K' i))
    (hk' : ∀ i (h : i < l.length), TyL ok' w l[i].kids (K' i)) (hn : l.length ≤ 1000000) :
    Calls Tryz.prog 17 #[.agg #[.int .i64 k, .string nm, .slice (some ⟨b, off, none⟩) l.length cp], .agg #[.int .i64 k, .string nm, .slice (some ⟨b', off', none⟩) l.length cp']] w fun e w' => e = .returned (.bool true) ∧ Kept (fun _ => False) w w' := by
  have HIH := Lib.hid IH
  have HC := Lib.hid hcell
  have HK := Lib.hid hk
  have HC' := Lib.hid hcell'
  have HK' := Lib.hid hk'
  clear IH hcell hk hcell' hk'
  have bA : Blk ((w.alloc (.cells #[.int .i64 k, .string nm, .slice (some ⟨b, off, none⟩) l.length cp] 24)).alloc (.cells #[.int .i64 k, .string nm, .slice (some ⟨b', off', none⟩) l.length cp'] 24)) w.heap.size 24 [.int .i64 k, .string nm, .slice (some ⟨b, off, none⟩) l.length cp] := (Blk.new w 24 _).alloc _
  have bB : Blk ((w.alloc (.cells #[.int .i64 k, .string nm, .slice (some ⟨b, off, none⟩) l.length cp] 24)).alloc (.cells #[.int .i64 k, .string nm, .slice (some ⟨b', off', none⟩) l.length cp'] 24)) (w.heap.size + 1) 24 [.int .i64 k, .string nm, .slice (some ⟨b', off', none⟩) l.length cp'] := Blk.new' 24 _ (by simp)
  have K1 : Kept (fun _ => False) w ((w.alloc (.cells #[.int .i64 k, .string nm, .slice (some ⟨b, off, none⟩) l.length cp] 24)).alloc (.cells #[.int .i64 k, .string nm, .slice (some ⟨b', off', none⟩) l.length cp'] 24)) := ((Kept.refl _ _).alloc _).alloc _
  go_enter Tryz.func17, Tryz.ntmps17
  go_wp2_with fail
  generalize ((w.alloc (.cells #[.int .i64 k, .string nm, .slice (some ⟨b, off, none⟩) l.length cp] 24)).alloc (.cells #[.int .i64 k, .string nm, .slice (some ⟨b', off', none⟩) l.length cp'] 24)) = w1 at *
  go_loopw [5] (fun i wr => ∃ j : Nat, j ≤ l.length ∧ i = .int .i64 j ∧ Kept (fun _ => False) w1 wr) (fun i _ => l.length - (intOf i).toNat)
  case atStart => exact ⟨0, Nat.zero_le _, rfl, Kept.refl _ _⟩
  case round =>
    obtain ⟨j, hj, rfl, kr⟩ := hrel
    have g2 : wr.cell? ⟨w.heap.size, 2, none⟩ = some (.slice (some ⟨b, off, none⟩) l.length cp) := (bA.kept kr (fun h => h)).cell 2
    have g2' : wr.cell? ⟨w.heap.size + 1, 2, none⟩ = some (.slice (some ⟨b', off', none⟩) l.length cp') := (bB.kept kr (fun h => h)).cell 2
    by_cases hlt : j < l.length
    · have KR := K1.trans kr
      have c0 := (Same.of_kept (ok := ok) KR (fun k h e => e)).cell hb (HC.out j hlt).1
      have c1 := (Same.of_kept (ok := ok) KR (fun k h e => e)).cell hb (HC.out j hlt).2.1
      have c2 := (Same.of_kept (ok := ok) KR (fun k h e => e)).cell hb (HC.out j hlt).2.2
      have d0 := (Same.of_kept (ok := ok') KR (fun k h e => e)).cell hb' (HC'.out j hlt).1
      have d1 := (Same.of_kept (ok := ok') KR (fun k h e => e)).cell hb' (HC'.out j hlt).2.1
      have d2 := (Same.of_kept (ok := ok') KR (fun k h e => e)).cell hb' (HC'.out j hlt).2.2
      have hkk := (HK.out j hlt).frame (Same.of_kept (ok := ok) KR (fun k h e => e))
      have hkk' := (HK'.out j hlt).frame (Same.of_kept (ok := ok') KR (fun k h e => e))
      obtain ⟨ta, tn, tc, hKj⟩ := hkk.slice
      obtain ⟨ta', tn', tc', hKj'⟩ := hkk'.slice
      rw [hKj] at c2 hkk
      rw [hKj'] at d2 hkk'
      have hcon := Lib.hid (fun (W : World) (kW : Kept (fun _ => False) wr W) => HIH.out _ (List.getElem_mem hlt) W ok ok' _ _ (hkk.frame (Same.of_kept kW (fun k h e => e))) (hkk'.frame (Same.of_kept kW (fun k h e => e))))
      unfold tyVal at hcon
      clear hkk hkk' hKj hKj'
      have hj2 : (j : Int) < (l.length : Int) := by omega
      have hj3 : (j : Int) < 1000000 := by omega
      go_wp2_with fail
      go_still_tail 10, (by kernel_rfl)
      change wpList _ _ _ _ _ wr.drew
      have kd : Kept (fun _ => False) wr wr.drew := (Kept.refl _ _).drew
      generalize wr.drew = w2 at *
      go_wp2_with (go_at_call 17; refine (hcon.out _ kd).mono ?_; rintro e w' ⟨rfl, k2⟩)
      go_roundw
      case rel => exact ⟨j + 1, by omega, by go_num, kr.trans (kd.trans k2)⟩
      case measure => simp [intOf]; omega
    · go_wp2_with fail
      go_ret
      exact ⟨rfl, K1.trans kr⟩
theorem sameTy_any {t : Ty} (hb : BdTy t) : SmC t := by
  induction hb with
  | mk hn hl ih =>
    intro w ok ok' tk tk' h h'
    cases h with
    | nil h =>
      cases h' with
      | nil h' =>
        rcases h with rfl | ⟨ad, c, rfl⟩ <;> rcases h' with rfl | ⟨ad', c', rfl⟩ <;> exact sameTy_nil
      | mk K hne => exact absurd rfl hne
    | mk K hne hb hc hcell hk =>
      cases h' with
      | nil h' => exact absurd rfl hne
      | mk K' hne' hb' hc' hcell' hk' => exact sameTy_mk ih K K' hb hb' hcell hk hcell' hk' hn
def StC (t : Tm) : Prop := ∀ (w : World) (ok ok' : Nat → Prop) (tk kk tk' kk' : Value), TyL ok w t.ty.kids tk → TmL ok w t.kids kk → TyL ok' w t.ty.kids tk' → TmL ok' w t.kids kk' →
  Calls Tryz.prog 13 #[tmVal t tk kk, tmVal t tk' kk'] w fun e w' => e = .returned (.bool true) ∧ Kept (fun _ => False) w w'
set_option maxRecDepth 100000 in
set_option maxHeartbeats 8000000 in
theorem sames_any {l : List Tm} {ok ok' : Nat → Prop} {w : World} {v v' : Value} (IH : ∀ t, t ∈ l → StC t) (hl : l.length ≤ 1000000) (h : TmL ok w l v) (h' : TmL ok' w l v') :
    Calls Tryz.prog 39 #[v, v'] w fun e w' => e = .returned (.bool true) ∧ Kept (fun _ => False) w w' := by
  cases h with
  | nil he =>
    cases h' with
    | mk K M hne => exact absurd rfl hne
    | nil he' =>
      rcases he with rfl | ⟨ad, c, rfl⟩ <;> rcases he' with rfl | ⟨ad', c', rfl⟩
      all_goals
        go_enter Tryz.func39, Tryz.ntmps39
        go_wp2_with fail
        go_loop [5] (fun i => i = .int .i64 0) (fun i => 0)
        case atStart => rfl
        case round =>
          subst hrel
          go_wp2_with fail
          go_ret
          exact ⟨rfl, Kept.refl _ _⟩
  | mk K M hne hb hc hcell hk hm =>
    rename_i b off cap
    cases h' with
    | nil he' => exact absurd rfl hne
    | mk K' M' hne' hb' hc' hcell' hk' hm' =>
      rename_i b' off' cap'
      have HIH := Lib.hid IH
      have HC := Lib.hid hcell
      have HK := Lib.hid hk
      have HM := Lib.hid hm
      have HC' := Lib.hid hcell'
      have HK' := Lib.hid hk'
      have HM' := Lib.hid hm'
      clear IH hcell hk hcell' hk' hm hm' hne'
      go_enter Tryz.func39, Tryz.ntmps39
      go_wp2_with fail
      go_loopw [5] (fun i wr => ∃ j : Nat, j ≤ l.length ∧ i = .int .i64 j ∧ Kept (fun _ => False) w wr) (fun i _ => l.length - (intOf i).toNat)
      case atStart => exact ⟨0, Nat.zero_le _, rfl, Kept.refl _ _⟩
      case round =>
        obtain ⟨j, hj, rfl, kr⟩ := hrel
        by_cases hlt : j < l.length
        · have c0 := (Same.of_kept (ok := ok) kr (fun k h e => e)).cell hb (HC.out j hlt).1
          have c1 := (Same.of_kept (ok := ok) kr (fun k h e => e)).cell hb (HC.out j hlt).2.1
          have c2 := (Same.of_kept (ok := ok) kr (fun k h e => e)).cell hb (HC.out j hlt).2.2.1
          have c3 := (Same.of_kept (ok := ok) kr (fun k h e => e)).cell hb (HC.out j hlt).2.2.2.1
          have c4 := (Same.of_kept (ok := ok) kr (fun k h e => e)).cell hb (HC.out j hlt).2.2.2.2.1
          have c5 := (Same.of_kept (ok := ok) kr (fun k h e => e)).cell hb (HC.out j hlt).2.2.2.2.2.1
          have c6 := (Same.of_kept (ok := ok) kr (fun k h e => e)).cell hb (HC.out j hlt).2.2.2.2.2.2
          have d0 := (Same.of_kept (ok := ok') kr (fun k h e => e)).cell hb' (HC'.out j hlt).1
          have d1 := (Same.of_kept (ok := ok') kr (fun k h e => e)).cell hb' (HC'.out j hlt).2.1
          have d2 := (Same.of_kept (ok := ok') kr (fun k h e => e)).cell hb' (HC'.out j hlt).2.2.1
          have d3 := (Same.of_kept (ok := ok') kr (fun k h e => e)).cell hb' (HC'.out j hlt).2.2.2.1
          have d4 := (Same.of_kept (ok := ok') kr (fun k h e => e)).cell hb' (HC'.out j hlt).2.2.2.2.1
          have d5 := (Same.of_kept (ok := ok') kr (fun k h e => e)).cell hb' (HC'.out j hlt).2.2.2.2.2.1
          have d6 := (Same.of_kept (ok := ok') kr (fun k h e => e)).cell hb' (HC'.out j hlt).2.2.2.2.2.2
          have hkk := (HK.out j hlt).frame (Same.of_kept (ok := ok) kr (fun k h e => e))
          have hmm := (HM.out j hlt).frame (Same.of_kept (ok := ok) kr (fun k h e => e))
          have hkk' := (HK'.out j hlt).frame (Same.of_kept (ok := ok') kr (fun k h e => e))
          have hmm' := (HM'.out j hlt).frame (Same.of_kept (ok := ok') kr (fun k h e => e))
          obtain ⟨ta, tn, tc, hKj⟩ := hkk.slice
          obtain ⟨ua, un, uc, hMj⟩ := hmm.slice
          obtain ⟨ta', tn', tc', hKj'⟩ := hkk'.slice
          obtain ⟨ua', un', uc', hMj'⟩ := hmm'.slice
          rw [hKj] at c5 hkk
          rw [hMj] at c6 hmm
          rw [hKj'] at d5 hkk'
          rw [hMj'] at d6 hmm'
          have hcon := Lib.hid (fun (W : World) (kW : Kept (fun _ => False) wr W) => HIH.out _ (List.getElem_mem hlt) W ok ok' _ _ _ _ (hkk.frame (Same.of_kept kW (fun k h e => e))) (hmm.frame (Same.of_kept kW (fun k h e => e))) (hkk'.frame (Same.of_kept kW (fun k h e => e))) (hmm'.frame (Same.of_kept kW (fun k h e => e))))
          unfold tmVal at hcon
          clear hkk hkk' hmm hmm' hKj hKj' hMj hMj'
          have hj2 : (j : Int) < (l.length : Int) := by omega
          have hj3 : (j : Int) < 1000000 := by omega
          go_wp2_with fail
          go_still_tail 8, (by kernel_rfl)
          change wpList _ _ _ _ _ wr.drew
          have kd : Kept (fun _ => False) wr wr.drew := (Kept.refl _ _).drew
          generalize wr.drew = w2 at *
          go_wp2_with (go_at_call 13; refine (hcon.out _ kd).mono ?_; rintro e w' ⟨rfl, k2⟩)
          go_roundw
          case rel => exact ⟨j + 1, by omega, by go_num, kr.trans (kd.trans k2)⟩
          case measure => simp [intOf]; omega
        · go_wp2_with fail
          go_ret
          exact ⟨rfl, kr⟩
set_option maxRecDepth 100000 in
set_option maxHeartbeats 8000000 in
theorem same_one {t : Tm} (hty : BdTy t.ty) (hl : t.kids.length ≤ 1000000) (IH : ∀ u, u ∈ t.kids → StC u) : StC t := by
  intro w ok ok' tk kk tk' kk' h1 h2 h3 h4
  obtain ⟨a, n, c, rfl⟩ := h1.slice
  obtain ⟨ma, mn, mc, rfl⟩ := h2.slice
  obtain ⟨a', n', c', rfl⟩ := h3.slice
  obtain ⟨ma', mn', mc', rfl⟩ := h4.slice
  have bA : Blk ((w.alloc (.cells #[.int .i64 t.op, .string t.name, .int .i64 t.n, .int .i64 t.ty.kind, .string t.ty.name, .slice a n c, .slice ma mn mc] 27)).alloc (.cells #[.int .i64 t.op, .string t.name, .int .i64 t.n, .int .i64 t.ty.kind, .string t.ty.name, .slice a' n' c', .slice ma' mn' mc'] 27)) w.heap.size 27 [.int .i64 t.op, .string t.name, .int .i64 t.n, .int .i64 t.ty.kind, .string t.ty.name, .slice a n c, .slice ma mn mc] := (Blk.new w 27 _).alloc _
  have bB : Blk ((w.alloc (.cells #[.int .i64 t.op, .string t.name, .int .i64 t.n, .int .i64 t.ty.kind, .string t.ty.name, .slice a n c, .slice ma mn mc] 27)).alloc (.cells #[.int .i64 t.op, .string t.name, .int .i64 t.n, .int .i64 t.ty.kind, .string t.ty.name, .slice a' n' c', .slice ma' mn' mc'] 27)) (w.heap.size + 1) 27 [.int .i64 t.op, .string t.name, .int .i64 t.n, .int .i64 t.ty.kind, .string t.ty.name, .slice a' n' c', .slice ma' mn' mc'] := Blk.new' 27 _ (by simp)
  have K1 : Kept (fun _ => False) w ((w.alloc (.cells #[.int .i64 t.op, .string t.name, .int .i64 t.n, .int .i64 t.ty.kind, .string t.ty.name, .slice a n c, .slice ma mn mc] 27)).alloc (.cells #[.int .i64 t.op, .string t.name, .int .i64 t.n, .int .i64 t.ty.kind, .string t.ty.name, .slice a' n' c', .slice ma' mn' mc'] 27)) := ((Kept.refl _ _).alloc _).alloc _
  have HT := Lib.hid (fun W (kW : Kept (fun _ => False) w W) => sameTy_any hty W ok ok' _ _ (h1.frame (Same.of_kept kW (fun k h e => e))) (h3.frame (Same.of_kept kW (fun k h e => e))))
  have HS := Lib.hid (fun W (kW : Kept (fun _ => False) w W) => sames_any IH hl (h2.frame (Same.of_kept kW (fun k h e => e))) (h4.frame (Same.of_kept kW (fun k h e => e))))
  unfold tyVal at HT
  unfold tmVal
  clear h1 h2 h3 h4 IH
  go_enter Tryz.func13, Tryz.ntmps13
  go_wp2_with fail
  generalize ((w.alloc (.cells #[.int .i64 t.op, .string t.name, .int .i64 t.n, .int .i64 t.ty.kind, .string t.ty.name, .slice a n c, .slice ma mn mc] 27)).alloc (.cells #[.int .i64 t.op, .string t.name, .int .i64 t.n, .int .i64 t.ty.kind, .string t.ty.name, .slice a' n' c', .slice ma' mn' mc'] 27)) = w1 at *
  have gA : ∀ i, w1.cell? ⟨w.heap.size, i, none⟩ = [Value.int .i64 t.op, .string t.name, .int .i64 t.n, .int .i64 t.ty.kind, .string t.ty.name, .slice a n c, .slice ma mn mc][i]? := bA.cell
  have gB : ∀ i, w1.cell? ⟨w.heap.size + 1, i, none⟩ = [Value.int .i64 t.op, .string t.name, .int .i64 t.n, .int .i64 t.ty.kind, .string t.ty.name, .slice a' n' c', .slice ma' mn' mc'][i]? := bB.cell
  refine (HT.out _ K1).mono ?_
  rintro e w2 ⟨rfl, k2⟩
  have gA2 : ∀ i, w2.cell? ⟨w.heap.size, i, none⟩ = [Value.int .i64 t.op, .string t.name, .int .i64 t.n, .int .i64 t.ty.kind, .string t.ty.name, .slice a n c, .slice ma mn mc][i]? := (bA.kept k2 (fun h => h)).cell
  have gB2 : ∀ i, w2.cell? ⟨w.heap.size + 1, i, none⟩ = [Value.int .i64 t.op, .string t.name, .int .i64 t.n, .int .i64 t.ty.kind, .string t.ty.name, .slice a' n' c', .slice ma' mn' mc'][i]? := (bB.kept k2 (fun h => h)).cell
  clear gA gB
  go_wp2_with fail
  refine (HS.out _ (K1.trans k2)).mono ?_
  rintro e w3 ⟨rfl, k3⟩
  go_wp2_with fail
  go_ret
  exact ⟨rfl, (K1.trans k2).trans k3⟩
theorem sameTm_any {t : Tm} (hb : BdTm t) : StC t := by
  induction hb with
  | mk hn ht hl ih => exact same_one ht hn ih
end Go.Proofs.YtckjlliobebodaaGreatDoor
