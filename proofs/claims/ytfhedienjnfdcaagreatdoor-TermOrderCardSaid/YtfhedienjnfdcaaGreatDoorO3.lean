/- Texts OrP AlP OdW of this proof, in one. -/
import Derived.Test.YtfhedienjnfdcaaGreatDoorS0
import Derived.Test.YtfhedienjnfdcaaGreatDoorS1
import Derived.Test.YtfhedienjnfdcaaGreatDoorS2
import Derived.Test.YtfhedienjnfdcaaGreatDoorS3
import Derived.Test.YtfhedienjnfdcaaGreatDoorS4
import Derived.Test.YtfhedienjnfdcaaGreatDoorS5
import Derived.Test.YtfhedienjnfdcaaGreatDoorS6
import Derived.Test.YtfhedienjnfdcaaGreatDoorS7
import Derived.Test.YtfhedienjnfdcaaGreatDoorS8
import Derived.Test.YtfhedienjnfdcaaGreatDoorS9
import Derived.Test.YtfhedienjnfdcaaGreatDoorS10
import Derived.Test.YtfhedienjnfdcaaGreatDoorS11
import Derived.Test.YtfhedienjnfdcaaGreatDoorS12
import Derived.Test.YtfhedienjnfdcaaGreatDoorS14
import Derived.Test.YtfhedienjnfdcaaGreatDoorS15
import Derived.Test.YtfhedienjnfdcaaGreatDoorS16
import Derived.Test.YtfhedienjnfdcaaGreatDoorO0
import Derived.Test.YtfhedienjnfdcaaGreatDoorO2
set_option linter.unusedVariables false
set_option linter.unusedSimpArgs false
namespace Go.Proofs.YtfhedienjnfdcaaGreatDoor
open Go.RowKit
inductive RiTy : Ty → Prop
  | int : RiTy (.mk 1 ⟨#[]⟩ [])
  | bool : RiTy (.mk 2 ⟨#[]⟩ [])
  | name {nm : ByteArray} (h : identB nm = true) : RiTy (.mk 3 nm [])
  | set {x : Ty} (h : RiTy x) : RiTy (.mk 5 ⟨#[]⟩ [x])
  | pair {x y : Ty} (h : RiTy x) (h' : RiTy y) : RiTy (.mk 4 ⟨#[]⟩ [x, y])
theorem empty_nm {nm : ByteArray} (h : (nm.toList == []) = true) : nm = ⟨#[]⟩ := by
  rw [beq_iff_eq, Go.ByteArray.toList_eq] at h
  exact ByteArray.ext (Array.toList_inj.1 h)
theorem ri_of (most deep : Nat) : ∀ (t : Ty) (d : Nat) (wi : Bool) (c : Nat), (tfS most deep t d wi c).1 = true → RiTy t := by
  intro t
  induction t using Ty.rec (motive_2 := fun l => ∀ (d c : Nat), (tfsS most deep l d c).1 = true → ∀ t, t ∈ l → RiTy t) with
  | mk k nm l ih =>
    intro d wi c h
    rw [tf_eq] at h
    split at h
    · rename_i hb
      simp only [Bool.and_eq_true, decide_eq_true_eq] at hb
      have i1 := ih _ _ h
      rcases head_yes hb.2 with hl | ⟨hl, he⟩
      · rcases hl with ⟨rfl, h, he⟩ | ⟨rfl, _, h, he⟩ | ⟨rfl, h, he⟩
        · rw [empty_nm he, list_nil h]; exact .int
        · rw [empty_nm he, list_nil h]; exact .bool
        · rw [list_nil h]; exact .name he
      · rw [empty_nm he]
        rcases hl with ⟨rfl, hn⟩ | ⟨rfl, hn⟩
        · obtain ⟨x, rfl⟩ := list_one' hn
          exact .set (i1 x (by simp))
        · obtain ⟨x, y, rfl⟩ := list_two hn
          exact .pair (i1 x (by simp)) (i1 y (by simp))
    · cases h
  | nil => rename_i h t ht; cases ht
  | cons t l iht ihl =>
    rename_i d c h u hu
    rw [tfsS] at h
    cases hr : tfS most deep t d true c with
    | mk b c' =>
      cases b
      · rw [hr] at h; cases h
      · rw [hr] at h
        rcases List.mem_cons.1 hu with rfl | hu
        · exact iht d true c (by rw [hr])
        · exact ihl d c' h u hu
def stopB : List UInt8 → Bool
  | [] => true
  | c :: _ => !inWordB c.toNat
theorem word_split : ∀ (a b r r' : List UInt8), allW a = true → allW b = true → stopB r = true → stopB r' = true → a ++ r = b ++ r' → a = b ∧ r = r'
  | [], [], r, r', _, _, _, _, h => ⟨rfl, h⟩
  | [], c :: b, r, r', _, hb, hr, _, h => by
    exfalso
    have h : r = c :: (b ++ r') := h
    subst h
    simp only [allW, List.all_cons, Bool.and_eq_true] at hb
    simp only [stopB, hb.1] at hr
    cases hr
  | c :: a, [], r, r', ha, _, _, hr, h => by
    exfalso
    have h : c :: (a ++ r) = r' := h
    subst h
    simp only [allW, List.all_cons, Bool.and_eq_true] at ha
    simp only [stopB, ha.1] at hr
    cases hr
  | c :: a, d :: b, r, r', ha, hb, hr, hr', h => by
    simp only [List.cons_append, List.cons.injEq] at h
    simp only [allW, List.all_cons, Bool.and_eq_true] at ha hb
    obtain ⟨h1, h2⟩ := word_split a b r r' ha.2 hb.2 hr hr' h.2
    exact ⟨by rw [h.1, h1], h2⟩
def tyW : Ty → List UInt8
  | .mk k nm _ => if k = 1 then [105, 110, 116] else if k = 2 then [98, 111, 111, 108] else if k = 3 then nm.data.toList else if k = 5 then [115, 101, 116] else [112, 97, 105, 114]
theorem idt_parts {nm : ByteArray} (h : identB nm = true) : allW nm.data.toList = true ∧ kws.contains nm.data.toList = false := by
  unfold identB keywordB at h
  rw [Go.ByteArray.toList_eq] at h
  simp only [Bool.and_eq_true, Bool.not_eq_true'] at h
  exact ⟨h.2, h.1.2⟩
theorem tyW_word {t : Ty} (h : RiTy t) : allW (tyW t) = true := by
  cases h with
  | int => decide
  | bool => decide
  | name h => exact (idt_parts h).1
  | set h => exact (show allW [115, 101, 116] = true by decide)
  | pair h h' => exact (show allW [112, 97, 105, 114] = true by decide)
theorem tyW_kind {a b : Ty} (ha : RiTy a) (hb : RiTy b) (h : tyW a = tyW b) : a.kind = b.kind ∧ a.name = b.name := by
  have key : ∀ {nm : ByteArray} {l : List UInt8}, identB nm = true → nm.data.toList = l → kws.contains l = true → False := fun h e k => by
    have := (idt_parts h).2; rw [e, k] at this; cases this
  cases ha <;> cases hb <;> simp only [tyW, reduceIte, Int.reduceEq] at h <;> first | exact ⟨rfl, rfl⟩ | (exfalso; revert h; decide) | skip
  all_goals first
    | exact ⟨rfl, ByteArray.ext (Array.toList_inj.1 h)⟩
    | (exfalso; rename_i q; exact key q h (by decide))
    | (exfalso; rename_i q; exact key q h.symm (by decide))
    | (exfalso; rename_i q _; exact key q h (by decide))
    | (exfalso; rename_i _ q; exact key q h.symm (by decide))
    | (exfalso; rename_i q _ _; exact key q h (by decide))
    | (exfalso; rename_i q; exact key ‹_› h (by decide))
    | (exfalso; rename_i q; exact key ‹_› h.symm (by decide))
theorem sh_set (nm : ByteArray) (x : Ty) (r : List UInt8) : tyShow (.mk 5 nm [x]) ++ r = [115, 101, 116] ++ (40 :: (tyShow x ++ (41 :: r))) := by
  simp [tyShow, tyShows, tyComb]
theorem sh_pair (nm : ByteArray) (x y : Ty) (r : List UInt8) : tyShow (.mk 4 nm [x, y]) ++ r = [112, 97, 105, 114] ++ (40 :: (tyShow x ++ (44 :: 32 :: (tyShow y ++ (41 :: r))))) := by
  simp [tyShow, tyShows, tyComb]
theorem ty_cancel {x : Ty} (hx : RiTy x) : ∀ {y : Ty}, RiTy y → ∀ {r r' : List UInt8}, stopB r = true → stopB r' = true → tyShow x ++ r = tyShow y ++ r' → x = y ∧ r = r' := by
  have form : ∀ {t : Ty}, RiTy t → ∀ {r : List UInt8}, stopB r = true → ∃ s, tyShow t ++ r = tyW t ++ s ∧ stopB s = true := by
    intro t ht r hr
    cases ht with
    | int => exact ⟨r, rfl, hr⟩
    | bool => exact ⟨r, rfl, hr⟩
    | name h => exact ⟨r, rfl, hr⟩
    | set h => exact ⟨_, sh_set _ _ _, rfl⟩
    | pair h h' => exact ⟨_, sh_pair _ _ _ _, rfl⟩
  induction hx with
  | int =>
    intro y hy r r' hr hr' h
    obtain ⟨s, e1, hs⟩ := form .int hr
    obtain ⟨s', e2, hs'⟩ := form hy hr'
    obtain ⟨q1, q2⟩ := word_split _ _ _ _ (tyW_word .int) (tyW_word hy) hs hs' (by rw [← e1, h, e2])
    have q3 := (tyW_kind .int hy q1).1
    cases hy <;> first | (exfalso; revert q3; simp [Ty.kind]; done) | exact ⟨rfl, List.append_cancel_left h⟩
  | bool =>
    intro y hy r r' hr hr' h
    obtain ⟨s, e1, hs⟩ := form .bool hr
    obtain ⟨s', e2, hs'⟩ := form hy hr'
    obtain ⟨q1, q2⟩ := word_split _ _ _ _ (tyW_word .bool) (tyW_word hy) hs hs' (by rw [← e1, h, e2])
    have q3 := (tyW_kind .bool hy q1).1
    cases hy <;> first | (exfalso; revert q3; simp [Ty.kind]; done) | exact ⟨rfl, List.append_cancel_left h⟩
  | name hi =>
    intro y hy r r' hr hr' h
    obtain ⟨s, e1, hs⟩ := form (.name hi) hr
    obtain ⟨s', e2, hs'⟩ := form hy hr'
    obtain ⟨q1, q2⟩ := word_split _ _ _ _ (tyW_word (.name hi)) (tyW_word hy) hs hs' (by rw [← e1, h, e2])
    obtain ⟨q3, q4⟩ := tyW_kind (.name hi) hy q1
    cases hy with
    | name hi' =>
      simp only [Ty.name] at q4
      subst q4
      exact ⟨rfl, List.append_cancel_left h⟩
    | _ => exfalso; revert q3; simp [Ty.kind]
  | set hx ih =>
    intro y hy r r' hr hr' h
    obtain ⟨s', e2, hs'⟩ := form hy hr'
    rw [sh_set] at h
    obtain ⟨q1, q2⟩ := word_split [115, 101, 116] _ _ _ (by decide) (tyW_word hy) rfl hs' (by rw [h, e2])
    have q3 := (tyW_kind (.set hx) hy q1).1
    cases hy with
    | set hy =>
      rw [sh_set] at h
      have h := List.append_cancel_left h
      simp only [List.cons.injEq, true_and] at h
      obtain ⟨i1, i2⟩ := ih hy (by rfl) (by rfl) h
      simp only [List.cons.injEq, true_and] at i2
      exact ⟨by rw [i1], i2⟩
    | _ => exfalso; revert q3; simp [Ty.kind]
  | pair hx hx' ih ih' =>
    intro y hy r r' hr hr' h
    obtain ⟨s', e2, hs'⟩ := form hy hr'
    rw [sh_pair] at h
    obtain ⟨q1, q2⟩ := word_split [112, 97, 105, 114] _ _ _ (by decide) (tyW_word hy) rfl hs' (by rw [h, e2])
    have q3 := (tyW_kind (.pair hx hx') hy q1).1
    cases hy with
    | pair hy hy' =>
      rw [sh_pair] at h
      have h := List.append_cancel_left h
      simp only [List.cons.injEq, true_and] at h
      obtain ⟨i1, i2⟩ := ih hy (by rfl) (by rfl) h
      simp only [List.cons.injEq, true_and] at i2
      obtain ⟨j1, j2⟩ := ih' hy' (by rfl) (by rfl) i2
      simp only [List.cons.injEq, true_and] at j2
      exact ⟨by rw [i1, j1], j2⟩
    | _ => exfalso; revert q3; simp [Ty.kind]
theorem ty_inj {x y : Ty} (hx : RiTy x) (hy : RiTy y) (h : tyShow x = tyShow y) : x = y :=
  (ty_cancel hx hy (r := []) (r' := []) rfl rfl (by rw [h])).1
theorem tyOk_inj {op : Int} {x y : Ty} (hx : tyOk op x = true) (hy : tyOk op y = true) (h : tyShow x = tyShow y) : x = y := by
  unfold tyOk at hx hy
  by_cases e : op = 29
  · rw [if_pos e, Bool.and_eq_true] at hx hy
    exact ty_inj (ri_of _ _ _ _ _ _ hx.2) (ri_of _ _ _ _ _ _ hy.2) h
  · rw [if_neg e] at hx hy
    rw [zero_ty hx, zero_ty hy]
theorem cmp_zero {a b : Tm} (ha : OkTm a) (hb : OkTm b) : cmpT tyShow a b = .eq ↔ a = b := by
  refine cmpT_zero (OK := OkTm) (fun t u ht hu => ?_) (fun t u ht hu e h => ?_) a b ha hb
  · cases ht with
    | mk _ _ hl => exact hl u hu
  · obtain ⟨_, _, _, h4⟩ := formed_parts ht.formed
    obtain ⟨_, _, _, h4'⟩ := formed_parts hu.formed
    rw [← e] at h4'
    exact tyOk_inj h4 h4' h
def cmpV (a b : Tm) : Int := toI (cmpT tyShow a b)
theorem cmpV_anti (a b : Tm) : cmpV b a = -cmpV a b := by
  unfold cmpV
  rw [cmpT_anti]
  cases cmpT tyShow a b <;> rfl
theorem cmpV_zero {a b : Tm} (ha : validB a = true) (hb : validB b = true) : (cmpV a b == 0) = tmEq a b := by
  rw [Bool.eq_iff_iff, beq_iff_eq, tmEq_iff, ← cmp_zero ((valid_iff a).1 ha).1 ((valid_iff b).1 hb).1]
  unfold cmpV
  cases cmpT tyShow a b <;> decide
theorem cmpV_tr (a b c : Tm) (h1 : cmpV a b ≤ 0) (h2 : cmpV b c ≤ 0) : cmpV a c ≤ 0 := by
  have h := cmpT_tr tyShow a b c
  revert h h1 h2
  unfold cmpV
  cases cmpT tyShow a b <;> cases cmpT tyShow b c <;> cases cmpT tyShow a c <;> decide
theorem cmpV_range (a b : Tm) : -1 ≤ cmpV a b ∧ cmpV a b ≤ 1 := by
  unfold cmpV
  cases cmpT tyShow a b <;> decide
def alB (a b : Tm) : Bool := (validB a && validB b) && alikeT a b [] []
theorem alB_iff {a b : Tm} (ha : validB a = true) (hb : validB b = true) : alB a b = true ↔ dbT a = dbT b := by
  unfold alB
  rw [ha, hb]
  exact alike_db ((valid_iff a).1 ha).1.nw ((valid_iff b).1 hb).1.nw
theorem alB_refl {a : Tm} (ha : validB a = true) : alB a a = true := (alB_iff ha ha).2 rfl
theorem alB_symm {a b : Tm} (ha : validB a = true) (hb : validB b = true) : alB a b = alB b a := by
  rw [Bool.eq_iff_iff, alB_iff ha hb, alB_iff hb ha]
  exact eq_comm
theorem alB_trans {a b c : Tm} (ha : validB a = true) (hb : validB b = true) (hc : validB c = true) (h1 : alB a b = true) (h2 : alB b c = true) : alB a c = true :=
  (alB_iff ha hc).2 (((alB_iff ha hb).1 h1).trans ((alB_iff hb hc).1 h2))
theorem pair_valid {a b : Tm} {ok ok' : Nat → Prop} {w : World} {tk kk tk' kk' : Value} (h1 : TyL ok w a.ty.kids tk) (h2 : TmL ok w a.kids kk) (h3 : TyL ok' w b.ty.kids tk') (h4 : TmL ok' w b.kids kk') (ha : SmTm big a) (hb : SmTm big b) :
    ∀ (W9 : World) (g9 : Nat), W9 = w.alloc (.cells (tmCells a tk kk ++ tmCells b tk' kk').toArray 28) → g9 = w.heap.size → Calls Tryz.prog 60 #[.slice (some ⟨g9, 0, none⟩) 2 2] W9 fun e w' => e = .returned (.bool (validB a && validB b)) ∧ Kept (fun _ => False) W9 w' := by
  rintro W9 g9 rfl rfl
  have hL : TmL (fun _ => True) (w.alloc (.cells (tmCells a tk kk ++ tmCells b tk' kk').toArray 28)) [a, b] (.slice (some ⟨w.heap.size, 0, none⟩) 2 2) :=
    TmL.two trivial (Nat.le_refl _) (Blk.new w 28 (tmCells a tk kk ++ tmCells b tk' kk')) ((h1.frame (Same.alloc _ _)).mono (fun _ _ _ => trivial)) ((h2.frame (Same.alloc _ _)).mono (fun _ _ _ => trivial)) ((h3.frame (Same.alloc _ _)).mono (fun _ _ _ => trivial)) ((h4.frame (Same.alloc _ _)).mono (fun _ _ _ => trivial))
  refine (valids_any (by simp) (fun t ht => ?_) hL).mono fun e w' ⟨h, k⟩ => ⟨?_, k⟩
  · rcases List.mem_cons.1 ht with rfl | ht
    · exact ha
    · rw [List.mem_singleton.1 ht]; exact hb
  · rw [h]; simp
def cmpA (a b : Tm) : Int := if validB a && validB b then cmpV a b else 0
theorem valid_od {a : Tm} (h : validB a = true) : OdTm a := odTm_of ((valid_iff a).1 h).1 (by have := ((valid_iff a).1 h).2.1; omega)
set_option maxRecDepth 100000 in
set_option maxHeartbeats 8000000 in
theorem alike_any {a b : Tm} {ok ok' : Nat → Prop} {w : World} {tk kk tk' kk' : Value} (h1 : TyL ok w a.ty.kids tk) (h2 : TmL ok w a.kids kk) (h3 : TyL ok' w b.ty.kids tk') (h4 : TmL ok' w b.kids kk') (ha : SmTm big a) (hb : SmTm big b) :
    Calls Tryz.prog 31 #[tmVal a tk kk, tmVal b tk' kk'] w fun e w' => e = .returned (.bool (alB a b)) ∧ Kept (fun _ => False) w w' := by
  obtain ⟨p, n, c, rfl⟩ := h1.slice
  obtain ⟨ma, mn, mc, rfl⟩ := h2.slice
  obtain ⟨p', n', c', rfl⟩ := h3.slice
  obtain ⟨ma', mn', mc', rfl⟩ := h4.slice
  have K1 : Kept (fun _ => False) w ((w.alloc (.cells #[.int .i64 a.op, .string a.name, .int .i64 a.n, .int .i64 a.ty.kind, .string a.ty.name, .slice p n c, .slice ma mn mc] 28)).alloc (.cells #[.int .i64 b.op, .string b.name, .int .i64 b.n, .int .i64 b.ty.kind, .string b.ty.name, .slice p' n' c', .slice ma' mn' mc'] 28)) := ((Kept.refl _ _).alloc _).alloc _
  have bA : Blk ((w.alloc (.cells #[.int .i64 a.op, .string a.name, .int .i64 a.n, .int .i64 a.ty.kind, .string a.ty.name, .slice p n c, .slice ma mn mc] 28)).alloc (.cells #[.int .i64 b.op, .string b.name, .int .i64 b.n, .int .i64 b.ty.kind, .string b.ty.name, .slice p' n' c', .slice ma' mn' mc'] 28)) w.heap.size 28 (tmCells a (.slice p n c) (.slice ma mn mc)) := (Blk.new w 28 _).alloc _
  have bB : Blk ((w.alloc (.cells #[.int .i64 a.op, .string a.name, .int .i64 a.n, .int .i64 a.ty.kind, .string a.ty.name, .slice p n c, .slice ma mn mc] 28)).alloc (.cells #[.int .i64 b.op, .string b.name, .int .i64 b.n, .int .i64 b.ty.kind, .string b.ty.name, .slice p' n' c', .slice ma' mn' mc'] 28)) (w.heap.size + 1) 28 (tmCells b (.slice p' n' c') (.slice ma' mn' mc')) := Blk.new' 28 _ (by simp)
  have HP := Lib.hid (pair_valid (h1.frame (Same.of_kept K1 (fun _ _ e => e))) (h2.frame (Same.of_kept K1 (fun _ _ e => e))) (h3.frame (Same.of_kept K1 (fun _ _ e => e))) (h4.frame (Same.of_kept K1 (fun _ _ e => e))) ha hb)
  have HS := Lib.hid (fun (hv : validB a = true) W (k : Kept (fun _ => False) w W) => salike_any (valid_bd hv) b [] [] W ok ok' (fun _ => True) (fun _ => True) _ _ _ _ _ _ (h1.frame (Same.of_kept k (fun _ _ e => e))) (h2.frame (Same.of_kept k (fun _ _ e => e))) (h3.frame (Same.of_kept k (fun _ _ e => e))) (h4.frame (Same.of_kept k (fun _ _ e => e))) .nil .nil (by have := ((valid_iff a).1 hv).2.2; simp only [List.length_nil]; omega) (by have := ((valid_iff a).1 hv).2.2; simp only [List.length_nil]; omega))
  clear h1 h2 h3 h4 ha hb
  unfold tmVal at HS ⊢
  have HR : Hid (alB a b = ((validB a && validB b) && alikeT a b [] [])) := Lib.hid rfl
  generalize alikeT a b [] [] = z at *
  have HZ : Hid (((w.alloc (.cells #[.int .i64 a.op, .string a.name, .int .i64 a.n, .int .i64 a.ty.kind, .string a.ty.name, .slice p n c, .slice ma mn mc] 28)).alloc (.cells #[.int .i64 b.op, .string b.name, .int .i64 b.n, .int .i64 b.ty.kind, .string b.ty.name, .slice p' n' c', .slice ma' mn' mc'] 28)).heap.size = w.heap.size + 1 + 1) := Lib.hid (by simp)
  go_enter Tryz.func31, Tryz.ntmps31
  go_wp2_with fail
  generalize ((w.alloc (.cells #[.int .i64 a.op, .string a.name, .int .i64 a.n, .int .i64 a.ty.kind, .string a.ty.name, .slice p n c, .slice ma mn mc] 28)).alloc (.cells #[.int .i64 b.op, .string b.name, .int .i64 b.n, .int .i64 b.ty.kind, .string b.ty.name, .slice p' n' c', .slice ma' mn' mc'] 28)) = w1 at *
  have K2 : Kept (fun _ => False) w (w1.alloc (.cells (tmCells a (.slice p n c) (.slice ma mn mc) ++ tmCells b (.slice p' n' c') (.slice ma' mn' mc')).toArray 28)) := K1.alloc _
  have bA2 := bA.alloc (.cells (tmCells a (.slice p n c) (.slice ma mn mc) ++ tmCells b (.slice p' n' c') (.slice ma' mn' mc')).toArray 28)
  have bB2 := bB.alloc (.cells (tmCells a (.slice p n c) (.slice ma mn mc) ++ tmCells b (.slice p' n' c') (.slice ma' mn' mc')).toArray 28)
  refine (HP.out _ _ rfl HZ.out.symm).mono ?_
  rintro e w2 ⟨rfl, k2⟩
  have gA : ∀ i, w2.cell? ⟨w.heap.size, i, none⟩ = [Value.int .i64 a.op, .string a.name, .int .i64 a.n, .int .i64 a.ty.kind, .string a.ty.name, .slice p n c, .slice ma mn mc][i]? := (bA2.kept k2 (fun h => h)).cell
  have gB : ∀ i, w2.cell? ⟨w.heap.size + 1, i, none⟩ = [Value.int .i64 b.op, .string b.name, .int .i64 b.n, .int .i64 b.ty.kind, .string b.ty.name, .slice p' n' c', .slice ma' mn' mc'][i]? := (bB2.kept k2 (fun h => h)).cell
  have KK := Lib.hid (K2.trans k2)
  clear K1 K2 bA bB bA2 bB2 k2 HP
  cases hv : validB a && validB b
  · have HR2 : Hid (alB a b = false) := Lib.hid (by rw [HR.out, hv]; rfl)
    clear hv HS HR
    go_wp2_with fail
    go_ret
    exact ⟨by rw [HR2.out]; rfl, KK.out⟩
  · have HR2 : Hid (alB a b = z) := Lib.hid (by rw [HR.out, hv]; rfl)
    have HS2 := Lib.hid (HS.out (by simp only [Bool.and_eq_true] at hv; exact hv.1) w2 KK.out)
    clear hv HS HR
    go_wp2_with fail
    refine HS2.out.mono ?_
    rintro e w3 ⟨rfl, k3⟩
    go_wp2_with fail
    go_ret
    exact ⟨by rw [HR2.out]; rfl, KK.out.trans k3⟩
set_option maxRecDepth 100000 in
set_option maxHeartbeats 8000000 in
theorem compare_any {a b : Tm} {ok ok' : Nat → Prop} {w : World} {tk kk tk' kk' : Value} (h1 : TyL ok w a.ty.kids tk) (h2 : TmL ok w a.kids kk) (h3 : TyL ok' w b.ty.kids tk') (h4 : TmL ok' w b.kids kk') (ha : SmTm big a) (hb : SmTm big b) :
    Calls Tryz.prog 33 #[tmVal a tk kk, tmVal b tk' kk'] w fun e w' => e = .returned (.int .i64 (cmpA a b)) ∧ Kept (fun _ => False) w w' := by
  obtain ⟨p, n, c, rfl⟩ := h1.slice
  obtain ⟨ma, mn, mc, rfl⟩ := h2.slice
  obtain ⟨p', n', c', rfl⟩ := h3.slice
  obtain ⟨ma', mn', mc', rfl⟩ := h4.slice
  have K1 : Kept (fun _ => False) w ((w.alloc (.cells #[.int .i64 a.op, .string a.name, .int .i64 a.n, .int .i64 a.ty.kind, .string a.ty.name, .slice p n c, .slice ma mn mc] 28)).alloc (.cells #[.int .i64 b.op, .string b.name, .int .i64 b.n, .int .i64 b.ty.kind, .string b.ty.name, .slice p' n' c', .slice ma' mn' mc'] 28)) := ((Kept.refl _ _).alloc _).alloc _
  have bA : Blk ((w.alloc (.cells #[.int .i64 a.op, .string a.name, .int .i64 a.n, .int .i64 a.ty.kind, .string a.ty.name, .slice p n c, .slice ma mn mc] 28)).alloc (.cells #[.int .i64 b.op, .string b.name, .int .i64 b.n, .int .i64 b.ty.kind, .string b.ty.name, .slice p' n' c', .slice ma' mn' mc'] 28)) w.heap.size 28 (tmCells a (.slice p n c) (.slice ma mn mc)) := (Blk.new w 28 _).alloc _
  have bB : Blk ((w.alloc (.cells #[.int .i64 a.op, .string a.name, .int .i64 a.n, .int .i64 a.ty.kind, .string a.ty.name, .slice p n c, .slice ma mn mc] 28)).alloc (.cells #[.int .i64 b.op, .string b.name, .int .i64 b.n, .int .i64 b.ty.kind, .string b.ty.name, .slice p' n' c', .slice ma' mn' mc'] 28)) (w.heap.size + 1) 28 (tmCells b (.slice p' n' c') (.slice ma' mn' mc')) := Blk.new' 28 _ (by simp)
  have HP := Lib.hid (pair_valid (h1.frame (Same.of_kept K1 (fun _ _ e => e))) (h2.frame (Same.of_kept K1 (fun _ _ e => e))) (h3.frame (Same.of_kept K1 (fun _ _ e => e))) (h4.frame (Same.of_kept K1 (fun _ _ e => e))) ha hb)
  have HS := Lib.hid (fun (hv : validB a = true) (hv' : validB b = true) W (k : Kept (fun _ => False) w W) => cmp_any (valid_od hv) b W ok ok' _ _ _ _ (valid_od hv') (h1.frame (Same.of_kept k (fun _ _ e => e))) (h2.frame (Same.of_kept k (fun _ _ e => e))) (h3.frame (Same.of_kept k (fun _ _ e => e))) (h4.frame (Same.of_kept k (fun _ _ e => e))))
  clear h1 h2 h3 h4 ha hb
  unfold tmVal at HS ⊢
  have HR : Hid (cmpA a b = if validB a && validB b then toI (cmpT tyShow a b) else 0) := Lib.hid rfl
  generalize toI (cmpT tyShow a b) = z at *
  have HZ : Hid (((w.alloc (.cells #[.int .i64 a.op, .string a.name, .int .i64 a.n, .int .i64 a.ty.kind, .string a.ty.name, .slice p n c, .slice ma mn mc] 28)).alloc (.cells #[.int .i64 b.op, .string b.name, .int .i64 b.n, .int .i64 b.ty.kind, .string b.ty.name, .slice p' n' c', .slice ma' mn' mc'] 28)).heap.size = w.heap.size + 1 + 1) := Lib.hid (by simp)
  go_enter Tryz.func33, Tryz.ntmps33
  go_wp2_with fail
  generalize ((w.alloc (.cells #[.int .i64 a.op, .string a.name, .int .i64 a.n, .int .i64 a.ty.kind, .string a.ty.name, .slice p n c, .slice ma mn mc] 28)).alloc (.cells #[.int .i64 b.op, .string b.name, .int .i64 b.n, .int .i64 b.ty.kind, .string b.ty.name, .slice p' n' c', .slice ma' mn' mc'] 28)) = w1 at *
  have K2 : Kept (fun _ => False) w (w1.alloc (.cells (tmCells a (.slice p n c) (.slice ma mn mc) ++ tmCells b (.slice p' n' c') (.slice ma' mn' mc')).toArray 28)) := K1.alloc _
  have bA2 := bA.alloc (.cells (tmCells a (.slice p n c) (.slice ma mn mc) ++ tmCells b (.slice p' n' c') (.slice ma' mn' mc')).toArray 28)
  have bB2 := bB.alloc (.cells (tmCells a (.slice p n c) (.slice ma mn mc) ++ tmCells b (.slice p' n' c') (.slice ma' mn' mc')).toArray 28)
  refine (HP.out _ _ rfl HZ.out.symm).mono ?_
  rintro e w2 ⟨rfl, k2⟩
  have gA : ∀ i, w2.cell? ⟨w.heap.size, i, none⟩ = [Value.int .i64 a.op, .string a.name, .int .i64 a.n, .int .i64 a.ty.kind, .string a.ty.name, .slice p n c, .slice ma mn mc][i]? := (bA2.kept k2 (fun h => h)).cell
  have gB : ∀ i, w2.cell? ⟨w.heap.size + 1, i, none⟩ = [Value.int .i64 b.op, .string b.name, .int .i64 b.n, .int .i64 b.ty.kind, .string b.ty.name, .slice p' n' c', .slice ma' mn' mc'][i]? := (bB2.kept k2 (fun h => h)).cell
  have KK := Lib.hid (K2.trans k2)
  clear K1 K2 bA bB bA2 bB2 k2 HP
  cases hv : validB a && validB b
  · have HR2 : Hid (cmpA a b = 0) := Lib.hid (by rw [HR.out, hv]; rfl)
    clear hv HS HR
    go_wp2_with fail
    go_ret
    exact ⟨by rw [HR2.out]; rfl, KK.out⟩
  · have HR2 : Hid (cmpA a b = z) := Lib.hid (by rw [HR.out, hv]; rfl)
    have HS2 := Lib.hid (HS.out (by simp only [Bool.and_eq_true] at hv; exact hv.1) (by simp only [Bool.and_eq_true] at hv; exact hv.2) w2 KK.out)
    clear hv HS HR
    go_wp2_with fail
    refine HS2.out.mono ?_
    rintro e w3 ⟨rfl, k3⟩
    go_wp2_with fail
    go_ret
    exact ⟨by rw [HR2.out]; rfl, KK.out.trans k3⟩
structure Bx3 (w : World) (ca cb cc : List Value) (W : World) : Prop where
  a : Blk W w.heap.size 28 ca
  b : Blk W (w.heap.size + 1) 28 cb
  c : Blk W (w.heap.size + 1 + 1) 28 cc
  k : Kept (fun _ => False) w W
theorem Bx3.kept {w : World} {ca cb cc : List Value} {W W' : World} (h : Bx3 w ca cb cc W) (k : Kept (fun _ => False) W W') : Bx3 w ca cb cc W' :=
  ⟨h.a.kept k (fun h => h), h.b.kept k (fun h => h), h.c.kept k (fun h => h), h.k.trans k⟩
theorem Bx3.new (w : World) (ca cb cc : List Value) : Bx3 w ca cb cc (((w.alloc (.cells ca.toArray 28)).alloc (.cells cb.toArray 28)).alloc (.cells cc.toArray 28)) :=
  ⟨((Blk.new w 28 ca).alloc _).alloc _, (Blk.new' 28 _ (by simp)).alloc _, Blk.new' 28 _ (by simp), (((Kept.refl _ _).alloc _).alloc _).alloc _⟩
theorem cmpA_valid {a b : Tm} (ha : validB a = true) (hb : validB b = true) : cmpA a b = cmpV a b := by unfold cmpA; rw [ha, hb]; rfl
theorem cmp_three (a b : Tm) : cmpV a b = -1 ∨ cmpV a b = 0 ∨ cmpV a b = 1 := by have := cmpV_range a b; omega
set_option maxRecDepth 100000 in
set_option maxHeartbeats 32000000 in
theorem odw_any {a b c : Tm} {w : World} {tk kk tk' kk' tk2 kk2 : Value} (hgl : Gl w) (h1 : TyL (fun _ => True) w a.ty.kids tk) (h2 : TmL (fun _ => True) w a.kids kk) (ha : SmTm big a) (h3 : TyL (fun _ => True) w b.ty.kids tk') (h4 : TmL (fun _ => True) w b.kids kk') (hb : SmTm big b) (h5 : TyL (fun _ => True) w c.ty.kids tk2) (h6 : TmL (fun _ => True) w c.kids kk2) (hc : SmTm big c) :
    Calls Tryz.prog 7 #[tmVal a tk kk, tmVal b tk' kk', tmVal c tk2 kk2] w (EsOk w) := by
  obtain ⟨p, n, cp, rfl⟩ := h1.slice
  obtain ⟨ma, mn, mc, rfl⟩ := h2.slice
  obtain ⟨p', n', cp', rfl⟩ := h3.slice
  obtain ⟨ma', mn', mc', rfl⟩ := h4.slice
  obtain ⟨p2, n2, cp2, rfl⟩ := h5.slice
  obtain ⟨ma2, mn2, mc2, rfl⟩ := h6.slice
  have H15 := Lib.hid (fun W (k : Kept (fun _ => False) w W) => awake_any W (hgl.kept k (fun h => h) (fun h => h)))
  have HVA := Lib.hid (fun W (k : Kept (fun _ => False) w W) => rvalid_any (h1.frame (Same.of_kept k (fun _ _ e => e))) (h2.frame (Same.of_kept k (fun _ _ e => e))) ha)
  have HVB := Lib.hid (fun W (k : Kept (fun _ => False) w W) => rvalid_any (h3.frame (Same.of_kept k (fun _ _ e => e))) (h4.frame (Same.of_kept k (fun _ _ e => e))) hb)
  have HVC := Lib.hid (fun W (k : Kept (fun _ => False) w W) => rvalid_any (h5.frame (Same.of_kept k (fun _ _ e => e))) (h6.frame (Same.of_kept k (fun _ _ e => e))) hc)
  have CAB := Lib.hid (fun W (k : Kept (fun _ => False) w W) => compare_any (h1.frame (Same.of_kept k (fun _ _ e => e))) (h2.frame (Same.of_kept k (fun _ _ e => e))) (h3.frame (Same.of_kept k (fun _ _ e => e))) (h4.frame (Same.of_kept k (fun _ _ e => e))) ha hb)
  have CBA := Lib.hid (fun W (k : Kept (fun _ => False) w W) => compare_any (h3.frame (Same.of_kept k (fun _ _ e => e))) (h4.frame (Same.of_kept k (fun _ _ e => e))) (h1.frame (Same.of_kept k (fun _ _ e => e))) (h2.frame (Same.of_kept k (fun _ _ e => e))) hb ha)
  have CBC := Lib.hid (fun W (k : Kept (fun _ => False) w W) => compare_any (h3.frame (Same.of_kept k (fun _ _ e => e))) (h4.frame (Same.of_kept k (fun _ _ e => e))) (h5.frame (Same.of_kept k (fun _ _ e => e))) (h6.frame (Same.of_kept k (fun _ _ e => e))) hb hc)
  have CAC := Lib.hid (fun W (k : Kept (fun _ => False) w W) => compare_any (h1.frame (Same.of_kept k (fun _ _ e => e))) (h2.frame (Same.of_kept k (fun _ _ e => e))) (h5.frame (Same.of_kept k (fun _ _ e => e))) (h6.frame (Same.of_kept k (fun _ _ e => e))) ha hc)
  have SAB := Lib.hid (fun (hv : validB a = true) W (k : Kept (fun _ => False) w W) => rsameTm_any (valid_bd hv) b W _ _ _ _ _ _ (h1.frame (Same.of_kept k (fun _ _ e => e))) (h2.frame (Same.of_kept k (fun _ _ e => e))) (h3.frame (Same.of_kept k (fun _ _ e => e))) (h4.frame (Same.of_kept k (fun _ _ e => e))))
  have LAA := Lib.hid (fun W (k : Kept (fun _ => False) w W) => alike_any (h1.frame (Same.of_kept k (fun _ _ e => e))) (h2.frame (Same.of_kept k (fun _ _ e => e))) (h1.frame (Same.of_kept k (fun _ _ e => e))) (h2.frame (Same.of_kept k (fun _ _ e => e))) ha ha)
  have LAB := Lib.hid (fun W (k : Kept (fun _ => False) w W) => alike_any (h1.frame (Same.of_kept k (fun _ _ e => e))) (h2.frame (Same.of_kept k (fun _ _ e => e))) (h3.frame (Same.of_kept k (fun _ _ e => e))) (h4.frame (Same.of_kept k (fun _ _ e => e))) ha hb)
  have LBA := Lib.hid (fun W (k : Kept (fun _ => False) w W) => alike_any (h3.frame (Same.of_kept k (fun _ _ e => e))) (h4.frame (Same.of_kept k (fun _ _ e => e))) (h1.frame (Same.of_kept k (fun _ _ e => e))) (h2.frame (Same.of_kept k (fun _ _ e => e))) hb ha)
  have LBC := Lib.hid (fun W (k : Kept (fun _ => False) w W) => alike_any (h3.frame (Same.of_kept k (fun _ _ e => e))) (h4.frame (Same.of_kept k (fun _ _ e => e))) (h5.frame (Same.of_kept k (fun _ _ e => e))) (h6.frame (Same.of_kept k (fun _ _ e => e))) hb hc)
  have LAC := Lib.hid (fun W (k : Kept (fun _ => False) w W) => alike_any (h1.frame (Same.of_kept k (fun _ _ e => e))) (h2.frame (Same.of_kept k (fun _ _ e => e))) (h5.frame (Same.of_kept k (fun _ _ e => e))) (h6.frame (Same.of_kept k (fun _ _ e => e))) ha hc)
  clear h1 h2 h3 h4 h5 h6 ha hb hc hgl
  unfold tmVal at CAB CBA CBC CAC SAB LAA LAB LBA LBC LAC ⊢
  have B0 := Lib.hid (Bx3.new w [.int .i64 a.op, .string a.name, .int .i64 a.n, .int .i64 a.ty.kind, .string a.ty.name, .slice p n cp, .slice ma mn mc] [.int .i64 b.op, .string b.name, .int .i64 b.n, .int .i64 b.ty.kind, .string b.ty.name, .slice p' n' cp', .slice ma' mn' mc'] [.int .i64 c.op, .string c.name, .int .i64 c.n, .int .i64 c.ty.kind, .string c.ty.name, .slice p2 n2 cp2, .slice ma2 mn2 mc2])
  have PV : Hid (validB a = true → validB b = true → validB c = true → cmpA b a = -cmpA a b ∧ (cmpA a b == 0) = tmEq a b ∧ (cmpA a b ≤ 0 → cmpA b c ≤ 0 → cmpA a c ≤ 0) ∧ (cmpA a b = -1 ∨ cmpA a b = 0 ∨ cmpA a b = 1) ∧ alB a a = true ∧ alB b a = alB a b ∧ (alB a b = true → alB b c = true → alB a c = true)) := Lib.hid (fun hva hvb hvc => by
    rw [cmpA_valid hva hvb, cmpA_valid hvb hva, cmpA_valid hvb hvc, cmpA_valid hva hvc]
    exact ⟨cmpV_anti a b, cmpV_zero hva hvb, cmpV_tr a b c, cmp_three a b, alB_refl hva, alB_symm hvb hva, alB_trans hva hvb hvc⟩)
  generalize hra : cmpA a b = ab at *
  generalize cmpA b a = ba at *
  generalize cmpA b c = bc at *
  generalize cmpA a c = ac at *
  generalize tmEq a b = eq at *
  generalize alB a a = laa at *
  generalize alB a b = lab at *
  generalize alB b a = lba at *
  generalize alB b c = lbc at *
  generalize alB a c = lac at *
  clear hra
  go_enter Tryz.func7, Tryz.ntmps7
  go_wp2_with fail
  change Hid (Bx3 _ _ _ _ (((w.alloc (.cells #[.int .i64 a.op, .string a.name, .int .i64 a.n, .int .i64 a.ty.kind, .string a.ty.name, .slice p n cp, .slice ma mn mc] 28)).alloc (.cells #[.int .i64 b.op, .string b.name, .int .i64 b.n, .int .i64 b.ty.kind, .string b.ty.name, .slice p' n' cp', .slice ma' mn' mc'] 28)).alloc (.cells #[.int .i64 c.op, .string c.name, .int .i64 c.n, .int .i64 c.ty.kind, .string c.ty.name, .slice p2 n2 cp2, .slice ma2 mn2 mc2] 28))) at B0
  generalize (((w.alloc (.cells #[.int .i64 a.op, .string a.name, .int .i64 a.n, .int .i64 a.ty.kind, .string a.ty.name, .slice p n cp, .slice ma mn mc] 28)).alloc (.cells #[.int .i64 b.op, .string b.name, .int .i64 b.n, .int .i64 b.ty.kind, .string b.ty.name, .slice p' n' cp', .slice ma' mn' mc'] 28)).alloc (.cells #[.int .i64 c.op, .string c.name, .int .i64 c.n, .int .i64 c.ty.kind, .string c.ty.name, .slice p2 n2 cp2, .slice ma2 mn2 mc2] 28)) = w1 at *
  refine (HVA.out w1 B0.out.k).mono ?_
  rintro e w2 ⟨rfl, k2⟩
  have B2 := Lib.hid (B0.out.kept k2)
  clear B0 k2 HVA
  cases hva : validB a
  · clear HVB HVC CAB CBA CBC CAC SAB LAA LAB LBA LBC LAC PV hva
    go_wp2_with fail
    refine (H15.out _ B2.out.k).mono ?_
    rintro e w3 ⟨rfl, k3⟩
    go_wp2_with fail
    go_ret
    exact ⟨rfl, B2.out.k.trans k3⟩
  have HA := Lib.hid hva
  clear hva
  have gB : ∀ i, w2.cell? ⟨w.heap.size + 1, i, none⟩ = [Value.int .i64 b.op, .string b.name, .int .i64 b.n, .int .i64 b.ty.kind, .string b.ty.name, .slice p' n' cp', .slice ma' mn' mc'][i]? := B2.out.b.cell
  go_wp2_with fail
  clear gB
  refine (HVB.out w2 B2.out.k).mono ?_
  rintro e w3 ⟨rfl, k3⟩
  have B3 := Lib.hid (B2.out.kept k3)
  clear B2 k3 HVB
  cases hvb : validB b
  · clear HVC CAB CBA CBC CAC SAB LAA LAB LBA LBC LAC PV HA hvb
    go_wp2_with fail
    refine (H15.out _ B3.out.k).mono ?_
    rintro e w4 ⟨rfl, k4⟩
    go_wp2_with fail
    go_ret
    exact ⟨rfl, B3.out.k.trans k4⟩
  have HB := Lib.hid hvb
  clear hvb
  have gC : ∀ i, w3.cell? ⟨w.heap.size + 1 + 1, i, none⟩ = [Value.int .i64 c.op, .string c.name, .int .i64 c.n, .int .i64 c.ty.kind, .string c.ty.name, .slice p2 n2 cp2, .slice ma2 mn2 mc2][i]? := B3.out.c.cell
  go_wp2_with fail
  clear gC
  refine (HVC.out w3 B3.out.k).mono ?_
  rintro e w4 ⟨rfl, k4⟩
  have B4 := Lib.hid (B3.out.kept k4)
  clear B3 k4 HVC
  cases hvc : validB c
  · clear CAB CBA CBC CAC SAB LAA LAB LBA LBC LAC PV HA HB hvc
    go_wp2_with fail
    refine (H15.out _ B4.out.k).mono ?_
    rintro e w5 ⟨rfl, k5⟩
    go_wp2_with fail
    go_ret
    exact ⟨rfl, B4.out.k.trans k5⟩
  have PV2 := PV.out HA.out HB.out hvc
  have SA := Lib.hid (SAB.out HA.out)
  clear PV SAB HA HB hvc
  obtain ⟨e1, e2, e3, e4, e5, e6, e7⟩ := PV2
  subst e5
  subst e6
  have E1 := Lib.hid e1
  have E2 := Lib.hid e2
  clear e1 e2
  have E3 := Lib.hid e3
  have E4 := Lib.hid e4
  have E7 := Lib.hid e7
  clear e3 e4 e7
  go_wp2_with fail
  obtain ⟨ι, W, hne, hW1, hW2⟩ := kept_fam w4
  have x0 : ∀ i j, (W i).cell? ⟨w.heap.size, j, none⟩ = [Value.int .i64 a.op, .string a.name, .int .i64 a.n, .int .i64 a.ty.kind, .string a.ty.name, .slice p n cp, .slice ma mn mc][j]? := fun i => (B4.out.kept (hW1 i)).a.cell
  have y0 : ∀ i j, (W i).cell? ⟨w.heap.size + 1, j, none⟩ = [Value.int .i64 b.op, .string b.name, .int .i64 b.n, .int .i64 b.ty.kind, .string b.ty.name, .slice p' n' cp', .slice ma' mn' mc'][j]? := fun i => (B4.out.kept (hW1 i)).b.cell
  have z0 : ∀ i j, (W i).cell? ⟨w.heap.size + 1 + 1, j, none⟩ = [Value.int .i64 c.op, .string c.name, .int .i64 c.n, .int .i64 c.ty.kind, .string c.ty.name, .slice p2 n2 cp2, .slice ma2 mn2 mc2][j]? := fun i => (B4.out.kept (hW1 i)).c.cell
  have HX : Hid (∀ (i : ι) (x y : Value) (r : Int), ((x = .agg #[.int .i64 a.op, .string a.name, .int .i64 a.n, .int .i64 a.ty.kind, .string a.ty.name, .slice p n cp, .slice ma mn mc] ∧ y = .agg #[.int .i64 b.op, .string b.name, .int .i64 b.n, .int .i64 b.ty.kind, .string b.ty.name, .slice p' n' cp', .slice ma' mn' mc'] ∧ r = ab) ∨ (x = .agg #[.int .i64 b.op, .string b.name, .int .i64 b.n, .int .i64 b.ty.kind, .string b.ty.name, .slice p' n' cp', .slice ma' mn' mc'] ∧ y = .agg #[.int .i64 c.op, .string c.name, .int .i64 c.n, .int .i64 c.ty.kind, .string c.ty.name, .slice p2 n2 cp2, .slice ma2 mn2 mc2] ∧ r = bc) ∨ (x = .agg #[.int .i64 a.op, .string a.name, .int .i64 a.n, .int .i64 a.ty.kind, .string a.ty.name, .slice p n cp, .slice ma mn mc] ∧ y = .agg #[.int .i64 c.op, .string c.name, .int .i64 c.n, .int .i64 c.ty.kind, .string c.ty.name, .slice p2 n2 cp2, .slice ma2 mn2 mc2] ∧ r = ac)) → Calls Tryz.prog 33 #[x, y] (W i) fun e w' => e = .returned (.int .i64 r) ∧ ∃ m, w' = W m) := Lib.hid (by
    rintro i x y r (⟨rfl, rfl, rfl⟩ | ⟨rfl, rfl, rfl⟩ | ⟨rfl, rfl, rfl⟩)
    · exact (CAB.out (W i) (B4.out.k.trans (hW1 i))).mono fun e w' h => ⟨h.1, hW2 _ ((hW1 i).trans h.2)⟩
    · exact (CBC.out (W i) (B4.out.k.trans (hW1 i))).mono fun e w' h => ⟨h.1, hW2 _ ((hW1 i).trans h.2)⟩
    · exact (CAC.out (W i) (B4.out.k.trans (hW1 i))).mono fun e w' h => ⟨h.1, hW2 _ ((hW1 i).trans h.2)⟩)
  have HW := Lib.hid hW1
  have h0 := hW2 _ ((Kept.refl (fun _ => False) w4).drew)
  clear hW1 hW2 CAB CBC CAC
  refine wp_quiet_all (W := W) (by kernel_rfl) (by kernel_rfl) h0 ?_
  clear h0
  repeat (go_big_quiet_step ((go_at_call 33; first | exact HX.out _ _ _ ab (Or.inl ⟨rfl, rfl, rfl⟩) | exact HX.out _ _ _ bc (Or.inr (Or.inl ⟨rfl, rfl, rfl⟩)) | exact HX.out _ _ _ ac (Or.inr (Or.inr ⟨rfl, rfl, rfl⟩)))))
  refine wpQuiet_nil ?_
  intro _ hw'
  obtain ⟨nq, hw''⟩ := hw'
  subst hw''
  have B5 := Lib.hid (B4.out.kept (HW.out nq))
  clear x0 y0 z0 HX B4 HW
  generalize W nq = w5 at *
  go_upto_region 4 with (fail)
  go_cut [66] (fun v wc => v = .bool false ∧ Bx3 w [.int .i64 a.op, .string a.name, .int .i64 a.n, .int .i64 a.ty.kind, .string a.ty.name, .slice p n cp, .slice ma mn mc] [.int .i64 b.op, .string b.name, .int .i64 b.n, .int .i64 b.ty.kind, .string b.ty.name, .slice p' n' cp', .slice ma' mn' mc'] [.int .i64 c.op, .string c.name, .int .i64 c.n, .int .i64 c.ty.kind, .string c.ty.name, .slice p2 n2 cp2, .slice ma2 mn2 mc2] wc)
  case first =>
    have gA : ∀ i, w5.cell? ⟨w.heap.size, i, none⟩ = [Value.int .i64 a.op, .string a.name, .int .i64 a.n, .int .i64 a.ty.kind, .string a.ty.name, .slice p n cp, .slice ma mn mc][i]? := B5.out.a.cell
    have gB : ∀ i, w5.cell? ⟨w.heap.size + 1, i, none⟩ = [Value.int .i64 b.op, .string b.name, .int .i64 b.n, .int .i64 b.ty.kind, .string b.ty.name, .slice p' n' cp', .slice ma' mn' mc'][i]? := B5.out.b.cell
    clear H15 LAA LAB LBA LBC LAC
    go_wp2_with fail
    clear gA gB
    refine (CBA.out w5 B5.out.k).mono ?_
    rintro e w6 ⟨rfl, k6⟩
    have B6 := Lib.hid (B5.out.kept k6)
    clear k6 B5 CBA
    have gA : ∀ i, w6.cell? ⟨w.heap.size, i, none⟩ = [Value.int .i64 a.op, .string a.name, .int .i64 a.n, .int .i64 a.ty.kind, .string a.ty.name, .slice p n cp, .slice ma mn mc][i]? := B6.out.a.cell
    have gB : ∀ i, w6.cell? ⟨w.heap.size + 1, i, none⟩ = [Value.int .i64 b.op, .string b.name, .int .i64 b.n, .int .i64 b.ty.kind, .string b.ty.name, .slice p' n' cp', .slice ma' mn' mc'][i]? := B6.out.b.cell
    rcases E4.out with rfl | rfl | rfl
    · obtain rfl : ba = 1 := by rw [E1.out]; rfl
      obtain rfl : eq = false := by rw [← E2.out]; rfl
      clear E1 E2 E4
      by_cases hb : bc ≤ 0
      · have hac : ac ≤ 0 := E3.out (by decide) hb
        have t1 : decide (bc ≤ 0) = true := by simp [hb]
        have t2 : decide (0 < ac) = false := by simp; omega
        clear E3 hb hac
        go_wp2_with fail
        clear gA gB
        refine (SA.out w6 B6.out.k).mono ?_
        rintro e w7 ⟨rfl, k7⟩
        have B7 := Lib.hid (B6.out.kept k7)
        clear k7 B6
        go_wp2_with fail
        go_meet
        case rel => exact ⟨rfl, B7.out⟩
      · have t1 : decide (bc ≤ 0) = false := by simp; omega
        clear E3 hb
        go_wp2_with fail
        clear gA gB
        refine (SA.out w6 B6.out.k).mono ?_
        rintro e w7 ⟨rfl, k7⟩
        have B7 := Lib.hid (B6.out.kept k7)
        clear k7 B6
        go_wp2_with fail
        go_meet
        case rel => exact ⟨rfl, B7.out⟩
    · obtain rfl : ba = 0 := by rw [E1.out]; rfl
      obtain rfl : eq = true := by rw [← E2.out]; rfl
      clear E1 E2 E4
      by_cases hb : bc ≤ 0
      · have hac : ac ≤ 0 := E3.out (by decide) hb
        have t1 : decide (bc ≤ 0) = true := by simp [hb]
        have t2 : decide (0 < ac) = false := by simp; omega
        clear E3 hb hac
        go_wp2_with fail
        clear gA gB
        refine (SA.out w6 B6.out.k).mono ?_
        rintro e w7 ⟨rfl, k7⟩
        have B7 := Lib.hid (B6.out.kept k7)
        clear k7 B6
        go_wp2_with fail
        go_meet
        case rel => exact ⟨rfl, B7.out⟩
      · have t1 : decide (bc ≤ 0) = false := by simp; omega
        clear E3 hb
        go_wp2_with fail
        clear gA gB
        refine (SA.out w6 B6.out.k).mono ?_
        rintro e w7 ⟨rfl, k7⟩
        have B7 := Lib.hid (B6.out.kept k7)
        clear k7 B6
        go_wp2_with fail
        go_meet
        case rel => exact ⟨rfl, B7.out⟩
    · obtain rfl : ba = -1 := by rw [E1.out]
      obtain rfl : eq = false := by rw [← E2.out]; rfl
      clear E1 E2 E3 E4
      go_wp2_with fail
      clear gA gB
      refine (SA.out w6 B6.out.k).mono ?_
      rintro e w7 ⟨rfl, k7⟩
      have B7 := Lib.hid (B6.out.kept k7)
      clear k7 B6
      go_wp2_with fail
      go_meet
      case rel => exact ⟨rfl, B7.out⟩
  case rest =>
    obtain ⟨rfl, hB⟩ := hcut
    have B8 := Lib.hid hB
    clear hB B5 CBA SA E1 E2 E3 E4
    generalize wc = w8 at *
    go_wp2_with fail
    obtain ⟨ι', W', hne', hW1, hW2⟩ := kept_fam w8
    have x0 : ∀ i j, (W' i).cell? ⟨w.heap.size, j, none⟩ = [Value.int .i64 a.op, .string a.name, .int .i64 a.n, .int .i64 a.ty.kind, .string a.ty.name, .slice p n cp, .slice ma mn mc][j]? := fun i => (B8.out.kept (hW1 i)).a.cell
    have y0 : ∀ i j, (W' i).cell? ⟨w.heap.size + 1, j, none⟩ = [Value.int .i64 b.op, .string b.name, .int .i64 b.n, .int .i64 b.ty.kind, .string b.ty.name, .slice p' n' cp', .slice ma' mn' mc'][j]? := fun i => (B8.out.kept (hW1 i)).b.cell
    have z0 : ∀ i j, (W' i).cell? ⟨w.heap.size + 1 + 1, j, none⟩ = [Value.int .i64 c.op, .string c.name, .int .i64 c.n, .int .i64 c.ty.kind, .string c.ty.name, .slice p2 n2 cp2, .slice ma2 mn2 mc2][j]? := fun i => (B8.out.kept (hW1 i)).c.cell
    have HX : Hid (∀ (i : ι') (x y : Value) (r : Bool), ((x = .agg #[.int .i64 a.op, .string a.name, .int .i64 a.n, .int .i64 a.ty.kind, .string a.ty.name, .slice p n cp, .slice ma mn mc] ∧ y = .agg #[.int .i64 a.op, .string a.name, .int .i64 a.n, .int .i64 a.ty.kind, .string a.ty.name, .slice p n cp, .slice ma mn mc] ∧ r = true) ∨ (x = .agg #[.int .i64 a.op, .string a.name, .int .i64 a.n, .int .i64 a.ty.kind, .string a.ty.name, .slice p n cp, .slice ma mn mc] ∧ y = .agg #[.int .i64 b.op, .string b.name, .int .i64 b.n, .int .i64 b.ty.kind, .string b.ty.name, .slice p' n' cp', .slice ma' mn' mc'] ∧ r = lba) ∨ (x = .agg #[.int .i64 b.op, .string b.name, .int .i64 b.n, .int .i64 b.ty.kind, .string b.ty.name, .slice p' n' cp', .slice ma' mn' mc'] ∧ y = .agg #[.int .i64 a.op, .string a.name, .int .i64 a.n, .int .i64 a.ty.kind, .string a.ty.name, .slice p n cp, .slice ma mn mc] ∧ r = lba) ∨ (x = .agg #[.int .i64 b.op, .string b.name, .int .i64 b.n, .int .i64 b.ty.kind, .string b.ty.name, .slice p' n' cp', .slice ma' mn' mc'] ∧ y = .agg #[.int .i64 c.op, .string c.name, .int .i64 c.n, .int .i64 c.ty.kind, .string c.ty.name, .slice p2 n2 cp2, .slice ma2 mn2 mc2] ∧ r = lbc) ∨ (x = .agg #[.int .i64 a.op, .string a.name, .int .i64 a.n, .int .i64 a.ty.kind, .string a.ty.name, .slice p n cp, .slice ma mn mc] ∧ y = .agg #[.int .i64 c.op, .string c.name, .int .i64 c.n, .int .i64 c.ty.kind, .string c.ty.name, .slice p2 n2 cp2, .slice ma2 mn2 mc2] ∧ r = lac)) → Calls Tryz.prog 31 #[x, y] (W' i) fun e w' => e = .returned (.bool r) ∧ ∃ m, w' = W' m) := Lib.hid (by
      rintro i x y r (⟨rfl, rfl, rfl⟩ | ⟨rfl, rfl, rfl⟩ | ⟨rfl, rfl, rfl⟩ | ⟨rfl, rfl, rfl⟩ | ⟨rfl, rfl, rfl⟩)
      · exact (LAA.out (W' i) (B8.out.k.trans (hW1 i))).mono fun e w' h => ⟨h.1, hW2 _ ((hW1 i).trans h.2)⟩
      · exact (LAB.out (W' i) (B8.out.k.trans (hW1 i))).mono fun e w' h => ⟨h.1, hW2 _ ((hW1 i).trans h.2)⟩
      · exact (LBA.out (W' i) (B8.out.k.trans (hW1 i))).mono fun e w' h => ⟨h.1, hW2 _ ((hW1 i).trans h.2)⟩
      · exact (LBC.out (W' i) (B8.out.k.trans (hW1 i))).mono fun e w' h => ⟨h.1, hW2 _ ((hW1 i).trans h.2)⟩
      · exact (LAC.out (W' i) (B8.out.k.trans (hW1 i))).mono fun e w' h => ⟨h.1, hW2 _ ((hW1 i).trans h.2)⟩)
    have HK : Hid (∀ i : ι', Calls Tryz.prog 15 #[] (W' i) fun e w' => e = .returned (.bool true) ∧ ∃ m, w' = W' m) := Lib.hid (fun i => (H15.out (W' i) (B8.out.k.trans (hW1 i))).mono fun e w' h => ⟨h.1, hW2 _ ((hW1 i).trans h.2)⟩)
    have HW := Lib.hid hW1
    have h0 := hW2 _ ((Kept.refl (fun _ => False) w8).drew)
    clear hW1 hW2 LAA LAB LBA LBC LAC H15
    refine wp_quiet_all (W := W') (by kernel_rfl) (by kernel_rfl) h0 ?_
    clear h0
    have HT := E7.out
    clear E7
    cases lba
    · clear HT
      repeat (go_big_quiet_step (first | (go_at_call 31; first | exact HX.out _ _ _ true (Or.inl ⟨rfl, rfl, rfl⟩) | exact HX.out _ _ _ false (Or.inr (Or.inl ⟨rfl, rfl, rfl⟩)) | exact HX.out _ _ _ false (Or.inr (Or.inr (Or.inl ⟨rfl, rfl, rfl⟩))) | exact HX.out _ _ _ lbc (Or.inr (Or.inr (Or.inr (Or.inl ⟨rfl, rfl, rfl⟩)))) | exact HX.out _ _ _ lac (Or.inr (Or.inr (Or.inr (Or.inr (⟨rfl, rfl, rfl⟩)))))) | (go_at_call 15; exact HK.out _)))
      refine wpQuiet_nil ?_
      intro _ hw'
      obtain ⟨nq, hw''⟩ := hw'
      subst hw''
      have B9 := Lib.hid (B8.out.kept (HW.out nq))
      clear x0 y0 z0 HX B8 HW
      generalize W' nq = w9 at *
      go_wp2_with fail
      go_ret
      exact ⟨rfl, B9.out.k⟩
    · cases lbc
      · clear HT
        repeat (go_big_quiet_step (first | (go_at_call 31; first | exact HX.out _ _ _ true (Or.inl ⟨rfl, rfl, rfl⟩) | exact HX.out _ _ _ true (Or.inr (Or.inl ⟨rfl, rfl, rfl⟩)) | exact HX.out _ _ _ true (Or.inr (Or.inr (Or.inl ⟨rfl, rfl, rfl⟩))) | exact HX.out _ _ _ false (Or.inr (Or.inr (Or.inr (Or.inl ⟨rfl, rfl, rfl⟩)))) | exact HX.out _ _ _ lac (Or.inr (Or.inr (Or.inr (Or.inr (⟨rfl, rfl, rfl⟩)))))) | (go_at_call 15; exact HK.out _)))
        refine wpQuiet_nil ?_
        intro _ hw'
        obtain ⟨nq, hw''⟩ := hw'
        subst hw''
        have B9 := Lib.hid (B8.out.kept (HW.out nq))
        clear x0 y0 z0 HX B8 HW
        generalize W' nq = w9 at *
        go_wp2_with fail
        go_ret
        exact ⟨rfl, B9.out.k⟩
      · obtain rfl := HT rfl rfl
        clear HT
        repeat (go_big_quiet_step (first | (go_at_call 31; first | exact HX.out _ _ _ true (Or.inl ⟨rfl, rfl, rfl⟩) | exact HX.out _ _ _ true (Or.inr (Or.inl ⟨rfl, rfl, rfl⟩)) | exact HX.out _ _ _ true (Or.inr (Or.inr (Or.inl ⟨rfl, rfl, rfl⟩))) | exact HX.out _ _ _ true (Or.inr (Or.inr (Or.inr (Or.inl ⟨rfl, rfl, rfl⟩)))) | exact HX.out _ _ _ true (Or.inr (Or.inr (Or.inr (Or.inr (⟨rfl, rfl, rfl⟩)))))) | (go_at_call 15; exact HK.out _)))
        refine wpQuiet_nil ?_
        intro _ hw'
        obtain ⟨nq, hw''⟩ := hw'
        subst hw''
        have B9 := Lib.hid (B8.out.kept (HW.out nq))
        clear x0 y0 z0 HX B8 HW
        generalize W' nq = w9 at *
        go_wp2_with fail
        go_ret
        exact ⟨rfl, B9.out.k⟩
end Go.Proofs.YtfhedienjnfdcaaGreatDoor
