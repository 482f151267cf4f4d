/- Texts Frs Wfm TyQ RAlk of this proof, in one. -/
import Derived.Test.YtfhedienjnfdcaaGreatDoorG18
import Derived.BigQuiet
import Derived.StillTailTactics
import Derived.Deep.RegionHeld3
import Derived.Deep.QuietTactic
set_option linter.unusedVariables false
set_option linter.unusedSimpArgs false
set_option maxRecDepth 100000
set_option maxHeartbeats 32000000
namespace Go.Proofs.YtfhedienjnfdcaaGreatDoor
open Go.RowKit
def stripD (l : List UInt8) : List UInt8 := (l.reverse.dropWhile fun c => digitB c.toNat).reverse
theorem stripD_snoc (l : List UInt8) (c : UInt8) : stripD (l ++ [c]) = if digitB c.toNat then stripD l else l ++ [c] := by
 unfold stripD
 rw [List.reverse_append, List.reverse_cons, List.reverse_nil, List.nil_append, List.singleton_append, List.dropWhile_cons]
 split
 ·rfl
 ·rw [List.reverse_cons, List.reverse_reverse]
theorem stripD_pre : ∀ (l : List UInt8), ∃ r, l = stripD l ++ r := by
 intro l
 refine ⟨(l.reverse.takeWhile fun c => digitB c.toNat).reverse, ?_⟩
 unfold stripD
 rw [← List.reverse_append, List.takeWhile_append_dropWhile, List.reverse_reverse]
theorem strip_dig : ∀ (l : List UInt8), stripD l = [] → ∀ c ∈ l, digitB c.toNat = true := by
 intro l h c hc
 unfold stripD at h
 rw [List.reverse_eq_nil_iff] at h
 have : ∀ (m : List UInt8), m.dropWhile (fun c => digitB c.toNat) = [] → ∀ c ∈ m, digitB c.toNat = true := by
  intro m
  induction m with
  | nil => intro _ c hc; cases hc
  | cons a m ih =>
   intro hh c hc
   rw [List.dropWhile_cons] at hh
   split at hh
   ·rename_i ha
    rcases List.mem_cons.1 hc with rfl | hc
    ·exact ha
    ·exact ih hh c hc
   ·cases hh
 exact this _ h c (List.mem_reverse.2 hc)
theorem letter_not_digit {c : Int} (h : letterB c = true) : digitB c = false := by
 unfold letterB at h; unfold digitB
 simp only [Bool.or_eq_true, Bool.and_eq_true, decide_eq_true_eq] at h
 rw [Bool.and_eq_false_iff]
 simp only [decide_eq_false_iff_not]
 omega
theorem strip_head {l : List UInt8} (hne : l ≠ []) (hh : letterB (l.headD 0).toNat = true) : stripD l ≠ [] ∧ (stripD l).headD 0 = l.headD 0 := by
 have h1 : stripD l ≠ [] := by
  intro e
  have := strip_dig l e (l.headD 0) (by cases l with | nil => exact absurd rfl hne | cons a l => simp)
  rw [letter_not_digit hh] at this; cases this
 refine ⟨h1, ?_⟩
 obtain ⟨r, hr⟩ := stripD_pre l
 cases hs : stripD l with
 | nil => exact absurd hs h1
 | cons a s => rw [hs] at hr; rw [hr]; rfl
def candL (b : List UInt8) (k : Nat) : List UInt8 := b.take (16 - (Lib.decDigits k).length) ++ Lib.decDigits k
def frGo (b : List UInt8) (used : List ByteArray) : Nat → Nat → ByteArray
 | 0, k => str (candL b k)
 | f + 1, k => if mb (str (candL b k)) used then frGo b used f (k + 1) else str (candL b k)
def xS : ByteArray := ⟨#[120]⟩
def baseL (name : ByteArray) : List UInt8 := stripD (trimQ name).data.toList
def frFrom (nm : ByteArray) (used : List ByteArray) : ByteArray := if mb nm used then frGo (baseL nm) used 1000000 1 else nm
def freshS (name : ByteArray) (used : List ByteArray) : ByteArray := frFrom (if namedB name then name else xS) used
theorem frGo_at (b : List UInt8) (used : List ByteArray) : ∀ (f k : Nat), (∃ j, k ≤ j ∧ j ≤ k + f ∧ mb (str (candL b j)) used = false) → ∃ j, frGo b used f k = str (candL b j) ∧ mb (str (candL b j)) used = false ∧ k ≤ j ∧ j ≤ k + f ∧ ∀ i, k ≤ i → i < j → mb (str (candL b i)) used = true
 | 0, k, ⟨j, h1, h2, h3⟩ => by
  have : j = k := by omega
  subst this
  exact ⟨j, rfl, h3, by omega, by omega, fun i h4 h5 => by omega⟩
 | f + 1, k, ⟨j, h1, h2, h3⟩ => by
  rw [frGo]
  cases hm : mb (str (candL b k)) used
  ·simp only [Bool.false_eq_true, if_false]
   exact ⟨k, rfl, hm, by omega, by omega, fun i h4 h5 => by omega⟩
  ·simp only [if_true]
   have hjk : j ≠ k := by rintro rfl; rw [hm] at h3; cases h3
   obtain ⟨i, e, h4, h5, h6, h7⟩ := frGo_at b used f (k + 1) ⟨j, by omega, by omega, h3⟩
   refine ⟨i, e, h4, by omega, by omega, fun q h8 h9 => ?_⟩
   by_cases hq : q = k
   ·subst hq; exact hm
   ·exact h7 q (by omega) h9
theorem holes {α : Type} [DecidableEq α] : ∀ (n : Nat) (f : Nat → α) (L : List α), (∀ i j, i < n → j < n → f i = f j → i = j) → (∀ i, i < n → f i ∈ L) → n ≤ L.length
 | 0, _, _, _, _ => Nat.zero_le _
 | n + 1, f, L, hinj, hL => by
  have h1 := hL n (by omega)
  have := holes n f (L.erase (f n)) (fun i j hi hj e => hinj i j (by omega) (by omega) e) (fun i hi => (List.mem_erase_of_ne (fun e => by have := hinj i n (by omega) (by omega) e; omega)).2 (hL i (by omega)))
  rw [List.length_erase_of_mem h1] at this
  have : 0 < L.length := List.length_pos_of_mem h1
  omega
theorem dec_val : ∀ (n : Nat), (Lib.decDigits n).foldl (fun v c => v * 10 + (c.toNat - 48)) 0 = n := by
 intro n
 induction n using Nat.strongRecOn with
 | _ n ih =>
  rw [Lib.decDigits]
  split
  ·rename_i h
   rw [List.foldl_cons, List.foldl_nil, UInt8.toNat_ofNat', Nat.mod_eq_of_lt (by omega)]; omega
  ·rename_i h
   rw [List.foldl_append, ih (n / 10) (by omega), List.foldl_cons, List.foldl_nil, UInt8.toNat_ofNat', Nat.mod_eq_of_lt (by omega)]
   omega
theorem dec_inj {a b : Nat} (h : Lib.decDigits a = Lib.decDigits b) : a = b := by rw [← dec_val a, ← dec_val b, h]
theorem dec_dig2 : ∀ (n : Nat), ∀ c, c ∈ Lib.decDigits n → digitB c.toNat = true := by
 intro n
 induction n using Nat.strongRecOn with
 | _ n ih =>
  intro c hc
  rw [Lib.decDigits] at hc
  split at hc
  ·rename_i h
   rw [List.mem_singleton.1 hc, UInt8.toNat_ofNat', Nat.mod_eq_of_lt (by omega)]
   unfold digitB; rw [Bool.and_eq_true, decide_eq_true_eq, decide_eq_true_eq]; omega
  ·rename_i h
   rcases List.mem_append.1 hc with hc | hc
   ·exact ih _ (by omega) c hc
   ·rw [List.mem_singleton.1 hc, UInt8.toNat_ofNat', Nat.mod_eq_of_lt (by omega)]
    unfold digitB; rw [Bool.and_eq_true, decide_eq_true_eq, decide_eq_true_eq]; omega
theorem dec_ne2 (n : Nat) : Lib.decDigits n ≠ [] := by
 rw [Lib.decDigits]; split <;> simp
theorem dec_len2 : ∀ (k n : Nat), n < 10 ^ (k + 1) → (Lib.decDigits n).length ≤ k + 1 := by
 intro k
 induction k with
 | zero => intro n h; rw [Lib.decDigits, dif_pos (by omega)]; simp
 | succ k ih =>
  intro n h
  rw [Lib.decDigits]
  split
  ·simp
  ·rw [List.length_append, List.length_singleton]
   have := ih (n / 10) (by rw [Nat.pow_succ] at h; omega)
   omega
theorem dec_six {n : Nat} (h1 : 100000 ≤ n) (h2 : n < 1000000) : (Lib.decDigits n).length = 6 := by
 have := dec_len2 5 n (by omega)
 have h : ∀ (k n : Nat), 10 ^ k ≤ n → k + 1 ≤ (Lib.decDigits n).length := by
  intro k
  induction k with
  | zero => intro n _; have := dec_ne2 n; exact List.length_pos_iff.2 this
  | succ k ih =>
   intro n hn
   rw [Lib.decDigits]
   have hp : 1 ≤ 10 ^ k := Nat.one_le_pow _ _ (by decide)
   rw [Nat.pow_succ] at hn
   rw [dif_neg (by omega), List.length_append, List.length_singleton]
   have := ih (n / 10) (by omega)
   omega
 have := h 5 n (by omega)
 omega
theorem str_inj {a b : List UInt8} (h : str a = str b) : a = b := by
 have : (str a).data.toList = (str b).data.toList := by rw [h]
 simpa [str] using this
theorem cand_free (b : List UInt8) (used : List ByteArray) (h : used.length ≤ 800000) : ∃ j, 1 ≤ j ∧ j ≤ 1 + 1000000 ∧ mb (str (candL b j)) used = false := by
 by_cases hh : ∃ j, 1 ≤ j ∧ j ≤ 1 + 1000000 ∧ mb (str (candL b j)) used = false
 ·exact hh
 ·exfalso
  have := holes 900000 (fun i => str (candL b (100000 + i))) used (fun i j hi hj e => ?_) (fun i hi => ?_)
  ·omega
  ·have e := str_inj e
   unfold candL at e
   rw [dec_six (by omega) (by omega), dec_six (by omega) (by omega)] at e
   have := dec_inj (List.append_cancel_left e)
   omega
  ·rw [← mb_iff]
   cases hm : mb (str (candL b (100000 + i))) used
   ·exact absurd ⟨_, by omega, by omega, hm⟩ hh
   ·rfl
theorem freshS_good (name : ByteArray) (used : List ByteArray) (h : used.length ≤ 800000) : mb (freshS name used) used = false := by
 unfold freshS
 generalize (if namedB name then name else xS) = nm
 unfold frFrom
 split
 ·obtain ⟨j, e, h1, _⟩ := frGo_at (baseL nm) used 1000000 1 (cand_free _ used h)
  rw [e]; exact h1
 ·rename_i h; exact Bool.eq_false_iff.2 h
theorem freshS_FS : GoodFS freshS 800000 := fun x U h => freshS_good x U h
theorem kws_dig : ∀ l ∈ kws, ∀ c ∈ l, digitB c.toNat = false := by decide
theorem ident_parts {s : ByteArray} : identB s = true ↔ s.data.toList ≠ [] ∧ s.data.toList.length ≤ 16 ∧ letterB (s.data.toList.headD 0).toNat = true ∧ keywordB s = false ∧ allW s.data.toList = true := by
 unfold identB
 simp only [Bool.and_eq_true, decide_eq_true_eq, Bool.not_eq_true']
 have e : s.size = s.data.toList.length := by rw [Array.length_toList]; rfl
 rw [e, List.length_pos_iff]
 constructor
 ·rintro ⟨⟨⟨⟨a, b⟩, c⟩, d⟩, e⟩; exact ⟨a, b, c, d, e⟩
 ·rintro ⟨a, b, c, d, e⟩; exact ⟨⟨⟨⟨a, b⟩, c⟩, d⟩, e⟩
theorem str_list (l : List UInt8) : (str l).data.toList = l := by simp [str]
theorem keyword_iff (s : ByteArray) : keywordB s = true ↔ s.data.toList ∈ kws := by
 unfold keywordB; rw [Go.ByteArray.toList_eq]; exact List.contains_iff_mem
theorem cand_ident {b : List UInt8} {k : Nat} (hb : b ≠ []) (hl : letterB (b.headD 0).toNat = true) (hw : allW b = true) (hk : k < 10000000) : identB (str (candL b k)) = true := by
 have hd := dec_len2 6 k (by omega)
 have hne := dec_ne2 k
 rw [ident_parts, str_list]
 cases b with
 | nil => exact absurd rfl hb
 | cons a b =>
  have e : candL (a :: b) k = a :: (b.take (15 - (Lib.decDigits k).length) ++ Lib.decDigits k) := by
   unfold candL
   rw [show 16 - (Lib.decDigits k).length = (15 - (Lib.decDigits k).length) + 1 by omega, List.take_succ_cons, List.cons_append]
  refine ⟨by rw [e]; simp, ?_, by rw [e]; exact hl, ?_, ?_⟩
  ·unfold candL
   rw [List.length_append, List.length_take]; omega
  ·rw [← Bool.not_eq_true, keyword_iff, str_list]
   intro hm
   cases hq : Lib.decDigits k with
   | nil => exact hne hq
   | cons c r =>
    have h1 := kws_dig _ hm c (by unfold candL; rw [hq]; simp)
    rw [dec_dig2 k c (by rw [hq]; simp)] at h1; cases h1
  ·unfold allW at hw ⊢
   rw [List.all_eq_true] at hw ⊢
   intro c hc
   unfold candL at hc
   rcases List.mem_append.1 hc with hc | hc
   ·exact hw c (List.mem_of_mem_take hc)
   ·have := dec_dig2 k c hc
    unfold inWordB; rw [this]; simp
theorem x_ident : identB xS = true := by kernel_rfl
theorem base_ok {nm : ByteArray} (h : namedB nm = true) : baseL nm ≠ [] ∧ letterB ((baseL nm).headD 0).toNat = true ∧ allW (baseL nm) = true := by
 unfold namedB at h
 rw [ident_parts] at h
 obtain ⟨h1, h2, h3, h4, h5⟩ := h
 obtain ⟨h6, h7⟩ := strip_head h1 h3
 refine ⟨h6, by unfold baseL; rw [h7]; exact h3, ?_⟩
 obtain ⟨r, hr⟩ := stripD_pre (trimQ nm).data.toList
 unfold allW at h5 ⊢
 rw [hr, List.all_append, Bool.and_eq_true] at h5
 exact h5.1
theorem ident_end {s : ByteArray} (h : identB s = true) : trimQ s = s := by
 rw [ident_parts] at h
 unfold trimQ
 have : Lib.trimSuffix s.data.toList [39] = s.data.toList := by
  unfold Lib.trimSuffix Lib.hasSuffix
  rw [if_neg]
  intro e
  have hm : (39 : UInt8) ∈ s.data.toList := by
   obtain ⟨t, ht⟩ := (List.isSuffixOf_iff_suffix.1 e)
   rw [← ht]; simp
  have h5 := h.2.2.2.2
  unfold allW at h5
  have := List.all_eq_true.1 h5 _ hm
  revert this; decide
 rw [this]
theorem ident_named {s : ByteArray} (h : identB s = true) : namedB s = true := by unfold namedB; rw [ident_end h]; exact h
theorem freshS_ident {name : ByteArray} {used : List ByteArray} (h : identB name = true) (hu : used.length ≤ 800000) : identB (freshS name used) = true := by
 unfold freshS frFrom
 rw [if_pos (ident_named h)]
 split
 ·obtain ⟨j, e, h1, h2, h3, _⟩ := frGo_at (baseL name) used 1000000 1 (cand_free _ used hu)
  rw [e]
  have hb := base_ok (ident_named h)
  exact cand_ident hb.1 hb.2.1 hb.2.2 (by omega)
 ·exact h
theorem OkTm.kid {t u : Tm} (h : OkTm t) (hu : u ∈ t.kids) : OkTm u := by cases h with | mk _ _ hl => exact hl u hu
theorem zero_ty {t : Ty} (h : zeroTyB t = true) : t = ty0 := by
 obtain ⟨k, nm, l⟩ := t
 unfold zeroTyB at h
 simp only [Bool.and_eq_true, Ty.kind, Ty.name, Ty.kids, beq_iff_eq] at h
 obtain ⟨⟨h1, h2⟩, h3⟩ := h
 rw [Go.ByteArray.toList_eq] at h2
 have e : nm = ⟨#[]⟩ := ByteArray.ext (Array.toList_inj.1 h2)
 rw [h1, e, List.isEmpty_iff.1 h3]; rfl
theorem OkTm.nw : ∀ {t : Tm}, OkTm t → NW t := by
 intro t h
 induction h with
 | mk h hn hl ih =>
  refine .mk (fun e => ?_) ih
  subst e
  obtain ⟨h1, h2, h3, h4⟩ := formed_parts h
  refine ⟨?_, ?_, ?_⟩
  ·unfold nOk at h3; simpa using h3
  ·unfold tyOk at h4
   rw [if_neg (by decide)] at h4
   exact zero_ty h4
  ·unfold kidOk at h1
   have e : kidsN 20 = (0, true) := rfl
   rw [e] at h1
   simp at h1
   exact h1
theorem binder_ne {op : Int} (h : binderB op = true) : op ≠ 20 ∧ op ≠ 19 ∧ op ≠ 29 ∧ op ≠ 28 := by
 unfold binderB at h
 simp only [Bool.or_eq_true, beq_iff_eq] at h
 omega
theorem binder_kids {op : Int} (h : binderB op = true) {n : Nat} (hk : kidOk op n = true) : n = 2 := by
 unfold binderB at h
 simp only [Bool.or_eq_true, beq_iff_eq] at h
 have e : kidsN op = (2, true) := by
  rcases h with ((h | h) | h) | h <;> subst h <;> rfl
 unfold kidOk at hk
 rw [e] at hk
 simp at hk; omega
theorem formed_name2 {op : Int} {nm z : ByteArray} {N : Int} {ty : Ty} {n : Nat} (h : formedB op nm N ty n = true) (hb : binderB op = true) (hz : identB z = true) : formedB op z N ty n = true := by
 obtain ⟨h1, h2, h3, h4⟩ := formed_parts h
 unfold formedB
 rw [h1, h3, h4]
 unfold nmOk
 rw [if_neg (binder_ne hb).1, if_pos hb, hz]; rfl
theorem formed_ident {op : Int} {nm : ByteArray} {N : Int} {ty : Ty} {n : Nat} (h : formedB op nm N ty n = true) (hb : binderB op = true) : identB nm = true := by
 obtain ⟨h1, h2, h3, h4⟩ := formed_parts h
 unfold nmOk at h2
 rw [if_neg (binder_ne hb).1, if_pos hb] at h2; exact h2
theorem nameT_ok {s : ByteArray} (h : namedB s = true) : OkTm (nameT s) := by
 unfold nameT
 refine .mk ?_ (by simp) (fun t ht => by cases ht)
 unfold formedB nmOk
 rw [if_pos rfl, h]; kernel_rfl
theorem subK_len (FS : ByteArray → List ByteArray → ByteArray) (bi : Bool) (l inn : List (ByteArray × Tm)) : ∀ (ks : List Tm) (i : Nat), (subK FS bi l inn i ks).length = ks.length
 | [], i => rfl
 | t :: r, i => by rw [subK, List.length_cons, subK_len FS bi l inn r, List.length_cons]
def OkB (l : List (ByteArray × Tm)) : Prop := ∀ b ∈ l, OkTm b.2
theorem look_mem {l : List (ByteArray × Tm)} {s : ByteArray} {u : Tm} (h : look l s = some u) : ∃ b ∈ l, b.2 = u := by
 induction l with
 | nil => cases h
 | cons b l ih =>
  rw [look] at h
  by_cases hb : b.1 = s
  ·rw [if_pos hb] at h; cases h; exact ⟨b, by simp, rfl⟩
  ·rw [if_neg hb] at h; obtain ⟨c, hc, e⟩ := ih h; exact ⟨c, List.mem_cons_of_mem _ hc, e⟩
theorem remG_mem (x : ByteArray) (F : List ByteArray) : ∀ (l out : List (ByteArray × Tm)) (b : ByteArray × Tm), b ∈ remG x F out l → b ∈ out ∨ b ∈ l
 | [], out, b, h => Or.inl h
 | c :: l, out, b, h => by
  rw [remG] at h
  split at h
  ·rcases remG_mem x F l out b h with h | h
   ·exact Or.inl h
   ·exact Or.inr (List.mem_cons_of_mem _ h)
  ·rcases remG_mem x F l _ b h with h | h
   ·rcases List.mem_append.1 h with h | h
    ·exact Or.inl h
    ·rw [List.mem_singleton.1 h]; exact Or.inr (by simp)
   ·exact Or.inr (List.mem_cons_of_mem _ h)
theorem remL_mem {x : ByteArray} {F : List ByteArray} {l : List (ByteArray × Tm)} {b : ByteArray × Tm} (h : b ∈ remL l x F) : b ∈ l := by
 rcases remG_mem x F l [] b h with h | h
 ·cases h
 ·exact h
theorem newN_ident {x : ByteArray} {body : Tm} {l : List (ByteArray × Tm)} (hx : identB x = true) (hM : tmN body + (frB l).length ≤ 800000) : identB (newN freshS x body l) = true := by
 unfold newN
 split
 ·refine freshS_ident hx ?_
  rw [List.length_append]
  have := frs_len body
  have := remL_len x (fr body) l
  omega
 ·exact hx
theorem inner_okB {x : ByteArray} {body : Tm} {l : List (ByteArray × Tm)} (hx : identB x = true) (hM : tmN body + (frB l).length ≤ 800000) (hl : OkB l) : OkB (inner freshS x body l) := by
 have hr : OkB (remL l x (fr body)) := fun b hb => hl b (remL_mem hb)
 unfold inner
 split
 ·intro b hb
  rcases List.mem_append.1 hb with hb | hb
  ·exact hr b hb
  ·rw [List.mem_singleton.1 hb]; exact nameT_ok (ident_named (newN_ident hx hM))
 ·exact hr
theorem sub_ok : ∀ {t : Tm}, OkTm t → ∀ (l : List (ByteArray × Tm)), OkB l → tmN t + (frB l).length ≤ 800000 → OkTm (subT freshS t l) := by
 intro t
 induction t using Tm.rec (motive_2 := fun ks => ∀ (bi : Bool) (l inn : List (ByteArray × Tm)) (i : Nat), (∀ t ∈ ks, OkTm t) → OkB l → tmNs ks + (frB l).length ≤ 800000 → (∀ (j : Nat) (t : Tm), ks[j]? = some t → (bi && (i + j) == 1) = true → OkB inn ∧ tmN t + (frB inn).length ≤ 800000) → ∀ u ∈ subK freshS bi l inn i ks, OkTm u) with
 | mk op nm N ty ks ih =>
  intro h l hl hM
  have h0 := h
  cases h with
  | mk hf hn hk =>
   rw [tmN] at hM
   rw [subT]
   by_cases h20 : op = 20
   ·rw [if_pos h20]
    cases hq : look l nm with
    | none => exact h0
    | some u => obtain ⟨b, hb, e⟩ := look_mem hq; rw [← e]; exact hl b hb
   ·rw [if_neg h20]
    cases hb : binderB op
    ·simp only [Bool.false_eq_true, if_false]
     refine .mk (by rw [subK_len]; exact hf) (by rw [subK_len]; exact hn) (ih false l l 0 hk hl (by omega) (fun j t _ e => by cases e))
    ·simp only [if_true]
     have hid := formed_ident hf hb
     have e2 := binder_kids hb (formed_parts hf).1
     match ks, e2 with
     | [d, body], _ =>
      have eg : ([d, body] : List Tm).getD 1 (nameT nm) = body := rfl
      rw [eg]
      simp only [tmNs] at hM
      refine .mk (by rw [subK_len]; exact formed_name2 hf hb (newN_ident hid (by omega))) (by rw [subK_len]; exact hn) (ih true l _ 0 hk hl (by simp only [tmNs]; omega) (fun j t hj e => ?_))
      have hj1 : j = 1 := by simpa using e
      subst hj1
      have hj2 : body = t := by simpa using hj
      subst hj2
      exact ⟨inner_okB hid (by omega) hl, by have := inner_len freshS nm body l; omega⟩
 | nil => rename_i u hu; cases hu
 | cons t ks iht ihl =>
  rename_i bi l inn i hk hl hM hin u hu
  rw [tmNs] at hM
  rw [subK] at hu
  rcases List.mem_cons.1 hu with rfl | hu
  ·cases hb : (bi && i == 1)
   ·simp only [Bool.false_eq_true, if_false]; exact iht (hk t (by simp)) l hl (by omega)
   ·simp only [if_true]
    obtain ⟨h1, h2⟩ := hin 0 t rfl (by rw [Nat.add_zero]; exact hb)
    exact iht (hk t (by simp)) inn h1 h2
  ·exact ihl bi l inn (i + 1) (fun t ht => hk t (List.mem_cons_of_mem _ ht)) hl (by omega) (fun j t hj e => hin (j + 1) t (by simpa using hj) (by rw [show i + (j + 1) = i + 1 + j by omega]; exact e)) u hu
theorem valid_of {t : Tm} (h : OkTm t) : validB t = (decide (tmN t ≤ 2000) && decide (tmD t ≤ 64)) := by
 rw [Bool.eq_iff_iff, valid_iff, Bool.and_eq_true, decide_eq_true_eq, decide_eq_true_eq]
 exact ⟨fun ⟨_, a, b⟩ => ⟨a, b⟩, fun ⟨a, b⟩ => ⟨h, a, b⟩⟩
theorem valid_db {t u : Tm} (ht : OkTm t) (hu : OkTm u) (h : dbT t = dbT u) : validB t = validB u := by
 rw [valid_of ht, valid_of hu, db_size ht.nw hu.nw h, db_depth ht.nw hu.nw h]
def EqyC (f : FuncId) (t : Ty) : Prop := ∀ (t' : Ty) (w : World) (ok ok' : Nat → Prop) (tk tk' : Value), TyL ok w t.kids tk → TyL ok' w t'.kids tk' →
 Calls Tryz.prog f #[tyVal t tk, tyVal t' tk'] w fun e w' => e = .returned (.bool (tyEq t t')) ∧ Kept (fun _ => False) w w'
theorem tysEq_len : ∀ (l l' : List Ty), l.length ≠ l'.length → tysEq l l' = false
 | [], [], h => absurd rfl h
 | [], _ :: _, _ => rfl
 | _ :: _, [], _ => rfl
 | a :: l, b :: l', h => by rw [tysEq, tysEq_len l l' (by simpa using h), Bool.and_false]
theorem tysEq_drop {l l' : List Ty} {k : Nat} (h : k < l.length) (h' : k < l'.length) : tysEq (l.drop k) (l'.drop k) = (tyEq l[k] l'[k] && tysEq (l.drop (k + 1)) (l'.drop (k + 1))) := by
 rw [List.drop_eq_getElem_cons h, List.drop_eq_getElem_cons h', tysEq]
theorem tysEq_end {l l' : List Ty} {k : Nat} (h : l.length ≤ k) (h' : l'.length ≤ k) : tysEq (l.drop k) (l'.drop k) = true := by
 rw [List.drop_eq_nil_of_le h, List.drop_eq_nil_of_le h']; rfl
theorem rsame_one {kd : Int} {nm : ByteArray} {l : List Ty} (IH : ∀ u, u ∈ l → EqyC 51 u) (hn : l.length ≤ 1000000) : EqyC 51 (.mk kd nm l) := by
 rintro ⟨kd', nm', l'⟩ w ok ok' tk tk' h h'
 have h : TyL ok w l tk := h
 have h' : TyL ok' w l' tk' := h'
 obtain ⟨a, n, c, rfl⟩ := h.slice
 obtain ⟨a', n', c', rfl⟩ := h'.slice
 obtain rfl : n = l.length := h.len
 obtain rfl : n' = l'.length := h'.len
 have HIH := Ld IH
 have HAT := Ld (fun W (k : Kept (fun _ => False) w W) => (h.frame (sK k)).at)
 have HAT' := Ld (fun W (k : Kept (fun _ => False) w W) => (h'.frame (sK k)).at)
 clear h h' IH
 change Calls Tryz.prog 51 #[.agg #[.int .i64 kd, .string nm, .slice a l.length c], .agg #[.int .i64 kd', .string nm', .slice a' l'.length c']] w _
 have bA : Blk ((w.alloc (.cells #[.int .i64 kd, .string nm, .slice a l.length c] 26)).alloc (.cells #[.int .i64 kd', .string nm', .slice a' l'.length c'] 26)) w.heap.size 26 [.int .i64 kd, .string nm, .slice a l.length c] := (Blk.new w 26 _).alloc _
 have bB : Blk ((w.alloc (.cells #[.int .i64 kd, .string nm, .slice a l.length c] 26)).alloc (.cells #[.int .i64 kd', .string nm', .slice a' l'.length c'] 26)) (w.heap.size + 1) 26 [.int .i64 kd', .string nm', .slice a' l'.length c'] := Blk.new' 26 _ (by simp)
 have K1 : Kept (fun _ => False) w ((w.alloc (.cells #[.int .i64 kd, .string nm, .slice a l.length c] 26)).alloc (.cells #[.int .i64 kd', .string nm', .slice a' l'.length c'] 26)) := ((Kept.refl _ _).alloc _).alloc _
 have HD := Ld (show tyEq (.mk kd nm l) (.mk kd' nm' l') = (decide (kd = kd') && decide (nm = nm') && tysEq l l') from rfl)
 by_cases e1 : kd = kd'
 case neg =>
  have t1 : (kd == kd') = false := by simpa using e1
  have t2 : (kd != kd') = true := by simpa using e1
  have HR : Hid (tyEq (.mk kd nm l) (.mk kd' nm' l') = false) := Ld (by rw [HD.out]; simp [e1])
  clear e1
  go_enter Tryz.func51, Tryz.ntmps51
  go_wp2_with fail
  go_ret
  exact ⟨by rw [HR.out]; rfl, K1⟩
 subst e1
 cases e2 : (nm.toList == nm'.toList)
 case false =>
  have t2 : (nm.toList != nm'.toList) = true := by rw [bne, e2]; rfl
  have HR : Hid (tyEq (.mk kd nm l) (.mk kd nm' l') = false) := Ld (by rw [HD.out, ← nm_eq, e2]; simp)
  go_enter Tryz.func51, Tryz.ntmps51
  go_wp2_with fail
  go_ret
  exact ⟨by rw [HR.out]; rfl, K1⟩
 have t2 : (nm.toList != nm'.toList) = false := by rw [bne, e2]; rfl
 have HD2 : Hid (tyEq (.mk kd nm l) (.mk kd nm' l') = tysEq l l') := Ld (by rw [HD.out, ← nm_eq, e2]; simp)
 clear HD
 by_cases e3 : l.length = l'.length
 case neg =>
  have t3 : ((l.length : Int) != (l'.length : Int)) = true := by simp; omega
  have t4 : ((l.length : Int) == (l'.length : Int)) = false := by simp; omega
  have HR : Hid (tyEq (.mk kd nm l) (.mk kd nm' l') = false) := Ld (by rw [HD2.out, tysEq_len _ _ e3])
  clear e3
  go_enter Tryz.func51, Tryz.ntmps51
  go_wp2_with fail
  go_ret
  exact ⟨by rw [HR.out]; rfl, K1⟩
 have E3 := Ld e3
 rw [← e3] at bA bB K1 ⊢
 clear e3
 go_enter Tryz.func51, Tryz.ntmps51
 go_wp2_with fail
 generalize ((w.alloc (.cells #[.int .i64 kd, .string nm, .slice a l.length c] 26)).alloc (.cells #[.int .i64 kd, .string nm', .slice a' l.length c'] 26)) = w1 at *
 go_loopw [5] (fun i wr => ∃ j : Nat, j ≤ l.length ∧ i = .int .i64 j ∧ Kept (fun _ => False) w1 wr ∧ Hid (tysEq l l' = tysEq (l.drop j) (l'.drop j))) (fun i _ => l.length - (intOf i).toNat)
 case atStart => exact ⟨0, Nat.zero_le _, rfl, Kept.refl _ _, Ld rfl⟩
 case round =>
  obtain ⟨j, hj, rfl, kr, hq⟩ := hrel
  have g2 : wr.cell? ⟨w.heap.size, 2, none⟩ = some (.slice a l.length c) := (bA.kept kr (fun h => h)).cell 2
  have g2' : wr.cell? ⟨w.heap.size + 1, 2, none⟩ = some (.slice a' l.length c') := (bB.kept kr (fun h => h)).cell 2
  by_cases hlt : j < l.length
  ·have KR := K1.trans kr
   have hlt' : j < l'.length := by rw [← E3.out]; exact hlt
   obtain ⟨g, off, ta, tn, tc, rfl, _, lg, ⟨c0, c1, c2⟩, hty⟩ := HAT.out wr KR j hlt
   obtain ⟨g', off', ta', tn', tc', rfl, _, lg', ⟨d0, d1, d2⟩, hty'⟩ := HAT'.out wr KR j hlt'
   have hcon := Ld (fun (W : World) (kW : Kept (fun _ => False) wr W) => HIH.out _ (List.getElem_mem hlt) l'[j] W ok ok' _ _ (hty.frame (Same.of_kept kW (fun k h e => e))) (hty'.frame (Same.of_kept kW (fun k h e => e))))
   unfold tyVal at hcon
   have HS := Ld (tysEq_drop hlt hlt')
   clear hty hty'
   have hj2 : (j : Int) < (l.length : Int) := by omega
   have hj3 : (j : Int) < 1000000 := by omega
   go_wp2_with fail
   go_still_tail 10, (by kernel_rfl)
   change wpList _ _ _ _ _ wr.drew
   have kd : Kept (fun _ => False) wr wr.drew := (Kept.refl _ _).drew
   generalize wr.drew = w2 at *
   cases hr : tyEq l[j] l'[j]
   ·rw [hr] at hcon
    go_wp2_with (go_at_call 51; refine (hcon.out _ kd).mono ?_; rintro e w' ⟨rfl, k2⟩)
    go_ret
    exact ⟨by rw [HD2.out, hq.out, HS.out, hr]; rfl, K1.trans (kr.trans (kd.trans k2))⟩
   ·rw [hr] at hcon
    go_wp2_with (go_at_call 51; refine (hcon.out _ kd).mono ?_; rintro e w' ⟨rfl, k2⟩)
    go_roundw
    case rel => exact ⟨j + 1, by omega, by go_num, kr.trans (kd.trans k2), Ld (by rw [hq.out, HS.out, hr]; rfl)⟩
    case measure => simp [intOf]; omega
  ·have HZ : Hid (tysEq l l' = true) := Ld (by rw [hq.out, tysEq_end (by omega) (by rw [← E3.out]; omega)])
   go_wp2_with fail
   go_ret
   exact ⟨by rw [HD2.out, HZ.out]; rfl, K1.trans kr⟩
theorem rsameTy_any {t : Ty} (hb : BdTy t) : EqyC 51 t := by
 induction hb with
 | mk hn hl ih => exact rsame_one ih hn
theorem eqf_any {l l' : List Ty} {w : World} {ok ok' : Nat → Prop} {tk tk' : Value} (IH : ∀ u, u ∈ l → EqyC 110 u) (hn : l.length ≤ 1000000) (h : TyL ok w l tk) (h' : TyL ok' w l' tk') :
  Calls Tryz.prog 176 #[tk, tk', .func (.func 110) #[] #[]] w fun e w' => e = .returned (.bool (tysEq l l')) ∧ Kept (fun _ => False) w w' := by
 obtain ⟨a, n, c, rfl⟩ := h.slice
 obtain ⟨a', n', c', rfl⟩ := h'.slice
 obtain rfl : n = l.length := h.len
 obtain rfl : n' = l'.length := h'.len
 have HIH := Ld IH
 have HAT := Ld (fun W (k : Kept (fun _ => False) w W) => (h.frame (sK k)).at)
 have HAT' := Ld (fun W (k : Kept (fun _ => False) w W) => (h'.frame (sK k)).at)
 clear h h' IH
 by_cases e3 : l.length = l'.length
 case neg =>
  have t3 : ((l.length : Int) != (l'.length : Int)) = true := by simp; omega
  have t4 : ((l.length : Int) == (l'.length : Int)) = false := by simp; omega
  have HR : Hid (tysEq l l' = false) := Ld (by rw [tysEq_len _ _ e3])
  clear e3
  go_enter Tryz.func176, Tryz.ntmps176
  go_wp2_with fail
  go_ret
  exact ⟨by rw [HR.out]; rfl, Kept.refl _ _⟩
 have E3 := Ld e3
 rw [← e3]
 clear e3
 go_enter Tryz.func176, Tryz.ntmps176
 go_wp2_with fail
 go_loopw [17] (fun i wr => ∃ j : Nat, j ≤ l.length ∧ i = .int .i64 j ∧ Kept (fun _ => False) w wr ∧ Hid (tysEq l l' = tysEq (l.drop j) (l'.drop j))) (fun i _ => l.length - (intOf i).toNat)
 case atStart => exact ⟨0, Nat.zero_le _, rfl, Kept.refl _ _, Ld rfl⟩
 case round =>
  obtain ⟨j, hj, rfl, kr, hq⟩ := hrel
  by_cases hlt : j < l.length
  ·have hlt' : j < l'.length := by rw [← E3.out]; exact hlt
   obtain ⟨g, off, ta, tn, tc, rfl, _, lg, ⟨c0, c1, c2⟩, hty⟩ := HAT.out wr kr j hlt
   obtain ⟨g', off', ta', tn', tc', rfl, _, lg', ⟨d0, d1, d2⟩, hty'⟩ := HAT'.out wr kr j hlt'
   have hcon := Ld (fun (W : World) (kW : Kept (fun _ => False) wr W) => HIH.out _ (List.getElem_mem hlt) l'[j] W ok ok' _ _ (hty.frame (Same.of_kept kW (fun k h e => e))) (hty'.frame (Same.of_kept kW (fun k h e => e))))
   unfold tyVal at hcon
   have HS := Ld (tysEq_drop hlt hlt')
   clear hty hty'
   have hj2 : (j : Int) < (l.length : Int) := by omega
   have hj3 : (j : Int) < 1000000 := by omega
   have kA : Kept (fun _ => False) wr ((wr.alloc (.cells #[.int .i64 l[j].kind, .string l[j].name, .slice ta tn tc] 26)).alloc (.cells #[.int .i64 l'[j].kind, .string l'[j].name, .slice ta' tn' tc'] 26)) := ((Kept.refl _ _).alloc _).alloc _
   cases hr : tyEq l[j] l'[j]
   ·rw [hr] at hcon
    go_wp2_with (go_at_call 110; refine (hcon.out _ kA).mono ?_; rintro e w' ⟨rfl, k2⟩)
    go_ret
    exact ⟨by rw [hq.out, HS.out, hr]; rfl, kr.trans (kA.trans k2)⟩
   ·rw [hr] at hcon
    go_wp2_with (go_at_call 110; refine (hcon.out _ kA).mono ?_; rintro e w' ⟨rfl, k2⟩)
    go_roundw
    case rel => exact ⟨j + 1, by omega, by go_num, kr.trans (kA.trans k2), Ld (by rw [hq.out, HS.out, hr]; rfl)⟩
    case measure => simp [intOf]; omega
  ·have HZ : Hid (tysEq l l' = true) := Ld (by rw [hq.out, tysEq_end (by omega) (by rw [← E3.out]; omega)])
   go_wp2_with fail
   go_ret
   exact ⟨by rw [HZ.out]; rfl, kr⟩
theorem same_one1 {kd : Int} {nm : ByteArray} {l : List Ty} (IH : ∀ u, u ∈ l → EqyC 110 u) (hn : l.length ≤ 1000000) : EqyC 110 (.mk kd nm l) := by
 rintro ⟨kd', nm', l'⟩ w ok ok' tk tk' h h'
 have h : TyL ok w l tk := h
 have h' : TyL ok' w l' tk' := h'
 obtain ⟨a, n, c, rfl⟩ := h.slice
 obtain ⟨a', n', c', rfl⟩ := h'.slice
 have bA : Blk ((w.alloc (.cells #[.int .i64 kd, .string nm, .slice a n c] 26)).alloc (.cells #[.int .i64 kd', .string nm', .slice a' n' c'] 26)) w.heap.size 26 [.int .i64 kd, .string nm, .slice a n c] := (Blk.new w 26 _).alloc _
 have bB : Blk ((w.alloc (.cells #[.int .i64 kd, .string nm, .slice a n c] 26)).alloc (.cells #[.int .i64 kd', .string nm', .slice a' n' c'] 26)) (w.heap.size + 1) 26 [.int .i64 kd', .string nm', .slice a' n' c'] := Blk.new' 26 _ (by simp)
 have K1 : Kept (fun _ => False) w ((w.alloc (.cells #[.int .i64 kd, .string nm, .slice a n c] 26)).alloc (.cells #[.int .i64 kd', .string nm', .slice a' n' c'] 26)) := ((Kept.refl _ _).alloc _).alloc _
 have HQ := Ld (eqf_any IH hn (h.frame (sK K1)) (h'.frame (sK K1)))
 clear h h' IH
 change Calls Tryz.prog 110 #[.agg #[.int .i64 kd, .string nm, .slice a n c], .agg #[.int .i64 kd', .string nm', .slice a' n' c']] w _
 have HD := Ld (show tyEq (.mk kd nm l) (.mk kd' nm' l') = (decide (kd = kd') && decide (nm = nm') && tysEq l l') from rfl)
 by_cases e1 : kd = kd'
 case neg =>
  have t1 : (kd == kd') = false := by simpa using e1
  have t2 : (kd != kd') = true := by simpa using e1
  have HR : Hid (tyEq (.mk kd nm l) (.mk kd' nm' l') = false) := Ld (by rw [HD.out]; simp [e1])
  clear e1 HQ
  go_enter Tryz.func110, Tryz.ntmps110
  go_wp2_with fail
  go_ret
  exact ⟨by rw [HR.out]; rfl, K1⟩
 subst e1
 cases e2 : (nm.toList == nm'.toList)
 case false =>
  have t2 : (nm.toList != nm'.toList) = true := by rw [bne, e2]; rfl
  have HR : Hid (tyEq (.mk kd nm l) (.mk kd nm' l') = false) := Ld (by rw [HD.out, ← nm_eq, e2]; simp)
  clear HQ
  go_enter Tryz.func110, Tryz.ntmps110
  go_wp2_with fail
  go_ret
  exact ⟨by rw [HR.out]; rfl, K1⟩
 have t2 : (nm.toList != nm'.toList) = false := by rw [bne, e2]; rfl
 have HD2 : Hid (tyEq (.mk kd nm l) (.mk kd nm' l') = tysEq l l') := Ld (by rw [HD.out, ← nm_eq, e2]; simp)
 clear HD
 go_enter Tryz.func110, Tryz.ntmps110
 go_wp2_with (go_at_call 176; refine HQ.out.mono ?_; rintro e w' ⟨rfl, k2⟩)
 go_ret
 exact ⟨by rw [HD2.out]; rfl, K1.trans k2⟩
theorem sameType_any {t : Ty} (hb : BdTy t) : EqyC 110 t := by
 induction hb with
 | mk hn hl ih => exact same_one1 ih hn
theorem alikeK_drop {bi : Bool} {nm nm' : ByteArray} {l l' : List Tm} {k : Nat} {X Y : List ByteArray} (h : k < l.length) (h' : k < l'.length) : alikeK bi nm nm' k (l.drop k) (l'.drop k) X Y = (alikeT l[k] l'[k] (if bi && k == 1 then X ++ [nm] else X) (if bi && k == 1 then Y ++ [nm'] else Y) && alikeK bi nm nm' (k + 1) (l.drop (k + 1)) (l'.drop (k + 1)) X Y) := by
 rw [List.drop_eq_getElem_cons h, List.drop_eq_getElem_cons h', alikeK]
theorem alikeK_end {bi : Bool} {nm nm' : ByteArray} {l l' : List Tm} {k : Nat} {X Y : List ByteArray} (h : l.length ≤ k) : alikeK bi nm nm' k (l.drop k) (l'.drop k) X Y = true := by
 rw [List.drop_eq_nil_of_le h]; simp [alikeK]
theorem tmDs_mem {u : Tm} : ∀ {l : List Tm}, u ∈ l → tmD u ≤ tmDs l
 | a :: l, h => by
  rw [tmDs]
  rcases List.mem_cons.1 h with rfl | h
  ·exact Nat.le_max_left _ _
  ·exact Nat.le_trans (tmDs_mem h) (Nat.le_max_right _ _)
def RAlC (t : Tm) : Prop := ∀ (t' : Tm) (X Y : List ByteArray) (w : World) (ok ok' kx ky : Nat → Prop) (tk kk tk' kk' vx vy : Value), TyL ok w t.ty.kids tk → TmL ok w t.kids kk → TyL ok' w t'.ty.kids tk' → TmL ok' w t'.kids kk' → NmL kx w X vx → NmL ky w Y vy → X.length + tmD t ≤ 900000 → Y.length + tmD t ≤ 900000 →
 Calls Tryz.prog 70 #[tmVal t tk kk, tmVal t' tk' kk', vx, vy] w fun e w' => e = .returned (.bool (alikeT t t' X Y)) ∧ Kept (fun _ => False) w w'
theorem ralike_name {nm : ByteArray} {N : Int} {ty : Ty} {l : List Tm} (hty : BdTy ty) (hn : l.length ≤ 1000000) : RAlC (.mk 20 nm N ty l) := by
 rintro ⟨op', nm', N', ty', l'⟩ X Y w ok ok' kx ky tk kk tk' kk' vx vy h1 h2 h3 h4 hx hy bx bY
 have h1 : TyL ok w ty.kids tk := h1
 have h2 : TmL ok w l kk := h2
 have h3 : TyL ok' w ty'.kids tk' := h3
 have h4 : TmL ok' w l' kk' := h4
 obtain ⟨a, n, c, rfl⟩ := h1.slice
 obtain ⟨ma, mn, mc, rfl⟩ := h2.slice
 obtain ⟨a', n', c', rfl⟩ := h3.slice
 obtain ⟨ma', mn', mc', rfl⟩ := h4.slice
 obtain rfl : mn = l.length := h2.len
 obtain rfl : mn' = l'.length := h4.len
 change Calls Tryz.prog 70 #[.agg #[.int .i64 20, .string nm, .int .i64 N, .int .i64 ty.kind, .string ty.name, .slice a n c, .slice ma l.length mc], .agg #[.int .i64 op', .string nm', .int .i64 N', .int .i64 ty'.kind, .string ty'.name, .slice a' n' c', .slice ma' l'.length mc'], vx, vy] w _
 have bA : Blk ((w.alloc (.cells #[.int .i64 20, .string nm, .int .i64 N, .int .i64 ty.kind, .string ty.name, .slice a n c, .slice ma l.length mc] 28)).alloc (.cells #[.int .i64 op', .string nm', .int .i64 N', .int .i64 ty'.kind, .string ty'.name, .slice a' n' c', .slice ma' l'.length mc'] 28)) w.heap.size 28 [.int .i64 20, .string nm, .int .i64 N, .int .i64 ty.kind, .string ty.name, .slice a n c, .slice ma l.length mc] := (Blk.new w 28 _).alloc _
 have bB : Blk ((w.alloc (.cells #[.int .i64 20, .string nm, .int .i64 N, .int .i64 ty.kind, .string ty.name, .slice a n c, .slice ma l.length mc] 28)).alloc (.cells #[.int .i64 op', .string nm', .int .i64 N', .int .i64 ty'.kind, .string ty'.name, .slice a' n' c', .slice ma' l'.length mc'] 28)) (w.heap.size + 1) 28 [.int .i64 op', .string nm', .int .i64 N', .int .i64 ty'.kind, .string ty'.name, .slice a' n' c', .slice ma' l'.length mc'] := Blk.new' 28 _ (by simp)
 have K1 : Kept (fun _ => False) w ((w.alloc (.cells #[.int .i64 20, .string nm, .int .i64 N, .int .i64 ty.kind, .string ty.name, .slice a n c, .slice ma l.length mc] 28)).alloc (.cells #[.int .i64 op', .string nm', .int .i64 N', .int .i64 ty'.kind, .string ty'.name, .slice a' n' c', .slice ma' l'.length mc'] 28)) := ((Kept.refl _ _).alloc _).alloc _
 have HT := Ld (fun W (kW : Kept (fun _ => False) w W) => rsameTy_any hty ty' W ok ok' _ _ (h1.frame (Same.of_kept kW (fun k h e => e))) (h3.frame (Same.of_kept kW (fun k h e => e))))
 have HLX := Ld (fun W (kW : Kept (fun _ => False) w W) => rlast_any nm (hx.frame (Same.of_kept kW (fun k h e => e))) (by omega))
 have HLY := Ld (fun W (kW : Kept (fun _ => False) w W) => rlast_any nm' (hy.frame (Same.of_kept kW (fun k h e => e))) (by omega))
 unfold tyVal at HT
 have HD := Ld (show alikeT (.mk 20 nm N ty l) (.mk op' nm' N' ty' l') X Y = ((decide (20 = op') && decide (N = N') && tyEq ty ty' && decide (l.length = l'.length)) && (decide (lastI nm X = lastI nm' Y) && (decide (0 ≤ lastI nm X) || decide (nm = nm')))) by rw [alikeT]; simp)
 clear h1 h2 h3 h4 hx hy bx bY
 generalize alikeT (.mk 20 nm N ty l) (.mk op' nm' N' ty' l') X Y = rr at *
 by_cases e1 : (20 : Int) = op'
 case neg =>
  have t1 : ((20 : Int) == op') = false := by simpa using e1
  have t2 : ((20 : Int) != op') = true := by simpa using e1
  have HR : Hid (rr = false) := Ld (by rw [HD.out]; simp [e1])
  clear e1
  go_enter Tryz.func70, Tryz.ntmps70
  go_wp2_with fail
  go_ret
  exact ⟨by rw [HR.out]; rfl, K1⟩
 subst e1
 by_cases e3 : N = N'
 case neg =>
  have t1 : (N == N') = false := by simpa using e3
  have t2 : (N != N') = true := by simpa using e3
  have HR : Hid (rr = false) := Ld (by rw [HD.out]; simp [e3])
  clear e3
  go_enter Tryz.func70, Tryz.ntmps70
  go_wp2_with fail
  go_ret
  exact ⟨by rw [HR.out]; rfl, K1⟩
 subst e3
 go_enter Tryz.func70, Tryz.ntmps70
 go_wp2_with fail
 generalize ((w.alloc (.cells #[.int .i64 20, .string nm, .int .i64 N, .int .i64 ty.kind, .string ty.name, .slice a n c, .slice ma l.length mc] 28)).alloc (.cells #[.int .i64 20, .string nm', .int .i64 N, .int .i64 ty'.kind, .string ty'.name, .slice a' n' c', .slice ma' l'.length mc'] 28)) = w1 at *
 cases ht : tyEq ty ty'
 ·have HR : Hid (rr = false) := Ld (by rw [HD.out, ht]; simp)
  refine (HT.out _ K1).mono ?_
  rintro e w2 ⟨rfl, k2⟩
  go_wp2_with fail
  go_ret
  exact ⟨by rw [HR.out]; rfl, K1.trans k2⟩
 refine (HT.out _ K1).mono ?_
 rintro e w2 ⟨rfl, k2⟩
 have gA2 : ∀ i, w2.cell? ⟨w.heap.size, i, none⟩ = [Value.int .i64 20, .string nm, .int .i64 N, .int .i64 ty.kind, .string ty.name, .slice a n c, .slice ma l.length mc][i]? := (bA.kept k2 (fun h => h)).cell
 have gB2 : ∀ i, w2.cell? ⟨w.heap.size + 1, i, none⟩ = [Value.int .i64 20, .string nm', .int .i64 N, .int .i64 ty'.kind, .string ty'.name, .slice a' n' c', .slice ma' l'.length mc'][i]? := (bB.kept k2 (fun h => h)).cell
 have K2 := K1.trans k2
 clear gA2 gB2
 have bA2 := bA.kept k2 (fun h => h)
 have bB2 := bB.kept k2 (fun h => h)
 clear bA bB K1 k2
 have gA : ∀ i, w2.cell? ⟨w.heap.size, i, none⟩ = [Value.int .i64 20, .string nm, .int .i64 N, .int .i64 ty.kind, .string ty.name, .slice a n c, .slice ma l.length mc][i]? := bA2.cell
 have gB : ∀ i, w2.cell? ⟨w.heap.size + 1, i, none⟩ = [Value.int .i64 20, .string nm', .int .i64 N, .int .i64 ty'.kind, .string ty'.name, .slice a' n' c', .slice ma' l'.length mc'][i]? := bB2.cell
 by_cases e4 : l.length = l'.length
 case neg =>
  have t1 : ((l.length : Int) != (l'.length : Int)) = true := by simp; omega
  have t2 : ((l.length : Int) == (l'.length : Int)) = false := by simp; omega
  have HR : Hid (rr = false) := Ld (by rw [HD.out]; simp [e4])
  clear e4
  go_wp2_with fail
  go_ret
  exact ⟨by rw [HR.out]; rfl, K2⟩
 have HR : Hid (rr = (decide (lastI nm X = lastI nm' Y) && (decide (0 ≤ lastI nm X) || (nm.toList == nm'.toList)))) := Ld (by rw [HD.out, ht, nm_eq]; simp [e4])
 clear HD
 rw [← e4] at gB ⊢
 clear e4
 have t4 : ((l.length : Int) != (l.length : Int)) = false := by simp
 have x1 : w2.cell? ⟨w.heap.size, 1, none⟩ = some (.string nm) := gA 1
 have x2 : w2.cell? ⟨w.heap.size + 1, 1, none⟩ = some (.string nm') := gB 1
 have HS := Ld (fun W (k : Kept (fun _ => False) w2 W) => (⟨(bA2.kept k (fun h => h)).cell 1, (bB2.kept k (fun h => h)).cell 1⟩ : W.cell? ⟨w.heap.size, 1, none⟩ = some (.string nm) ∧ W.cell? ⟨w.heap.size + 1, 1, none⟩ = some (.string nm')))
 have KD : Kept (fun _ => False) w2 w2.drew := (Kept.refl _ _).drew
 have HXY : Hid (∀ (W : World) (v : Value) (s : ByteArray) (r : Int), Kept (fun _ => False) w2 W → ((s = nm ∧ v = vx ∧ r = lastI nm X) ∨ (s = nm' ∧ v = vy ∧ r = lastI nm' Y)) → Calls Tryz.prog 113 #[.string s, v] W fun e w' => e = .returned (.int .i64 r) ∧ Kept (fun _ => False) W w') := Ld (by
  rintro W v s r k (⟨rfl, rfl, rfl⟩ | ⟨rfl, rfl, rfl⟩)
  ·exact (HLX.out W (K2.trans k)).mono fun e w' h => ⟨h.1, h.2 ▸ Kept.refl _ _⟩
  ·exact (HLY.out W (K2.trans k)).mono fun e w' h => ⟨h.1, h.2 ▸ Kept.refl _ _⟩)
 go_wp2_with fail
 clear HT bA2 bB2 HLX HLY t4 ht gA gB
 generalize lastI nm X = p at *
 generalize lastI nm' Y = q at *
 go_region_held3 (fun w' => w'.cell? ⟨w.heap.size, 1, none⟩ = some (.string nm) ∧ w'.cell? ⟨w.heap.size + 1, 1, none⟩ = some (.string nm')) (go_keep)
  (first | (go_at_call 113; refine (HXY.out _ _ _ _ (by first | exact KD | exact KE) (by first | exact Or.inl ⟨rfl, rfl, rfl⟩ | exact Or.inr ⟨rfl, rfl, rfl⟩)).mono ?_; rintro e wq ⟨rfl, kq⟩; first | (have KF := KE.trans kq; obtain ⟨n0, n1⟩ := HS.out _ KF) | (have KE := KD.trans kq; obtain ⟨m0, m1⟩ := HS.out _ KE)))
 all_goals
  by_cases f1 : p = q
  case neg =>
   have g1 : (p == q) = false := by simpa using f1
   go_wp2_with fail
   go_ret
   exact ⟨by rw [HR.out]; simp [f1], K2.trans KF⟩
  subst f1
  by_cases f2 : 0 ≤ p
  case pos =>
   have g2 : decide (0 ≤ p) = true := by simpa using f2
   go_wp2_with fail
   go_ret
   exact ⟨by rw [HR.out]; simp [f2], K2.trans KF⟩
  have g2 : decide (0 ≤ p) = false := by simpa using f2
  cases f3 : (nm.toList == nm'.toList)
  ·go_wp2_with fail
   go_ret
   exact ⟨by rw [HR.out]; simp [f2, f3], K2.trans KF⟩
  ·go_wp2_with fail
   go_ret
   exact ⟨by rw [HR.out]; simp [f2, f3], K2.trans KF⟩
theorem ralike_one {op : Int} {nm : ByteArray} {N : Int} {ty : Ty} {l : List Tm} (h20 : op ≠ 20) (hty : BdTy ty) (IH : ∀ u, u ∈ l → RAlC u) (hn : l.length ≤ 1000000) : RAlC (.mk op nm N ty l) := by
 rintro ⟨op', nm', N', ty', l'⟩ X Y w ok ok' kx ky tk kk tk' kk' vx vy h1 h2 h3 h4 hx hy bx bY
 have h1 : TyL ok w ty.kids tk := h1
 have h2 : TmL ok w l kk := h2
 have h3 : TyL ok' w ty'.kids tk' := h3
 have h4 : TmL ok' w l' kk' := h4
 obtain ⟨a, n, c, rfl⟩ := h1.slice
 obtain ⟨ma, mn, mc, rfl⟩ := h2.slice
 obtain ⟨a', n', c', rfl⟩ := h3.slice
 obtain ⟨ma', mn', mc', rfl⟩ := h4.slice
 obtain rfl : mn = l.length := h2.len
 obtain rfl : mn' = l'.length := h4.len
 change Calls Tryz.prog 70 #[.agg #[.int .i64 op, .string nm, .int .i64 N, .int .i64 ty.kind, .string ty.name, .slice a n c, .slice ma l.length mc], .agg #[.int .i64 op', .string nm', .int .i64 N', .int .i64 ty'.kind, .string ty'.name, .slice a' n' c', .slice ma' l'.length mc'], vx, vy] w _
 have bA : Blk ((w.alloc (.cells #[.int .i64 op, .string nm, .int .i64 N, .int .i64 ty.kind, .string ty.name, .slice a n c, .slice ma l.length mc] 28)).alloc (.cells #[.int .i64 op', .string nm', .int .i64 N', .int .i64 ty'.kind, .string ty'.name, .slice a' n' c', .slice ma' l'.length mc'] 28)) w.heap.size 28 [.int .i64 op, .string nm, .int .i64 N, .int .i64 ty.kind, .string ty.name, .slice a n c, .slice ma l.length mc] := (Blk.new w 28 _).alloc _
 have bB : Blk ((w.alloc (.cells #[.int .i64 op, .string nm, .int .i64 N, .int .i64 ty.kind, .string ty.name, .slice a n c, .slice ma l.length mc] 28)).alloc (.cells #[.int .i64 op', .string nm', .int .i64 N', .int .i64 ty'.kind, .string ty'.name, .slice a' n' c', .slice ma' l'.length mc'] 28)) (w.heap.size + 1) 28 [.int .i64 op', .string nm', .int .i64 N', .int .i64 ty'.kind, .string ty'.name, .slice a' n' c', .slice ma' l'.length mc'] := Blk.new' 28 _ (by simp)
 have K1 : Kept (fun _ => False) w ((w.alloc (.cells #[.int .i64 op, .string nm, .int .i64 N, .int .i64 ty.kind, .string ty.name, .slice a n c, .slice ma l.length mc] 28)).alloc (.cells #[.int .i64 op', .string nm', .int .i64 N', .int .i64 ty'.kind, .string ty'.name, .slice a' n' c', .slice ma' l'.length mc'] 28)) := ((Kept.refl _ _).alloc _).alloc _
 have HT := Ld (fun W (kW : Kept (fun _ => False) w W) => rsameTy_any hty ty' W ok ok' _ _ (h1.frame (Same.of_kept kW (fun k h e => e))) (h3.frame (Same.of_kept kW (fun k h e => e))))
 have bX : X.length + (tmDs l + 1) ≤ 900000 := by rw [tmD] at bx; exact bx
 have bY2 : Y.length + (tmDs l + 1) ≤ 900000 := by rw [tmD] at bY; exact bY
 have HIH := Ld IH
 have HAT := Ld (fun W (k : Kept (fun _ => False) w W) => (h2.frame (sK k)).at)
 have HAT' := Ld (fun W (k : Kept (fun _ => False) w W) => (h4.frame (sK k)).at)
 have HX := Ld (fun W (k : Kept (fun _ => False) w W) => hx.frame (sK k))
 have HY := Ld (fun W (k : Kept (fun _ => False) w W) => hy.frame (sK k))
 have HBX := Ld bX
 have HBY := Ld bY2
 unfold tyVal at HT
 have HD := Ld (show alikeT (.mk op nm N ty l) (.mk op' nm' N' ty' l') X Y = ((decide (op = op') && decide (N = N') && tyEq ty ty' && decide (l.length = l'.length)) && alikeK (binderB op) nm nm' 0 l l' X Y) by rw [alikeT, if_neg h20])
 clear h1 h2 h3 h4 hx hy bx bY bX bY2 IH
 generalize alikeT (.mk op nm N ty l) (.mk op' nm' N' ty' l') X Y = rr at *
 by_cases e1 : op = op'
 case neg =>
  have t1 : (op == op') = false := by simpa using e1
  have t2 : (op != op') = true := by simpa using e1
  have HR : Hid (rr = false) := Ld (by rw [HD.out]; simp [e1])
  clear e1
  go_enter Tryz.func70, Tryz.ntmps70
  go_wp2_with fail
  go_ret
  exact ⟨by rw [HR.out]; rfl, K1⟩
 subst e1
 by_cases e3 : N = N'
 case neg =>
  have t1 : (N == N') = false := by simpa using e3
  have t2 : (N != N') = true := by simpa using e3
  have HR : Hid (rr = false) := Ld (by rw [HD.out]; simp [e3])
  clear e3
  go_enter Tryz.func70, Tryz.ntmps70
  go_wp2_with fail
  go_ret
  exact ⟨by rw [HR.out]; rfl, K1⟩
 subst e3
 go_enter Tryz.func70, Tryz.ntmps70
 go_wp2_with fail
 generalize ((w.alloc (.cells #[.int .i64 op, .string nm, .int .i64 N, .int .i64 ty.kind, .string ty.name, .slice a n c, .slice ma l.length mc] 28)).alloc (.cells #[.int .i64 op, .string nm', .int .i64 N, .int .i64 ty'.kind, .string ty'.name, .slice a' n' c', .slice ma' l'.length mc'] 28)) = w1 at *
 cases ht : tyEq ty ty'
 ·have HR : Hid (rr = false) := Ld (by rw [HD.out, ht]; simp)
  refine (HT.out _ K1).mono ?_
  rintro e w2 ⟨rfl, k2⟩
  go_wp2_with fail
  go_ret
  exact ⟨by rw [HR.out]; rfl, K1.trans k2⟩
 refine (HT.out _ K1).mono ?_
 rintro e w2 ⟨rfl, k2⟩
 have gA2 : ∀ i, w2.cell? ⟨w.heap.size, i, none⟩ = [Value.int .i64 op, .string nm, .int .i64 N, .int .i64 ty.kind, .string ty.name, .slice a n c, .slice ma l.length mc][i]? := (bA.kept k2 (fun h => h)).cell
 have gB2 : ∀ i, w2.cell? ⟨w.heap.size + 1, i, none⟩ = [Value.int .i64 op, .string nm', .int .i64 N, .int .i64 ty'.kind, .string ty'.name, .slice a' n' c', .slice ma' l'.length mc'][i]? := (bB.kept k2 (fun h => h)).cell
 have K2 := K1.trans k2
 clear gA2 gB2
 have bA2 := bA.kept k2 (fun h => h)
 have bB2 := bB.kept k2 (fun h => h)
 clear bA bB K1 k2
 have gA : ∀ i, w2.cell? ⟨w.heap.size, i, none⟩ = [Value.int .i64 op, .string nm, .int .i64 N, .int .i64 ty.kind, .string ty.name, .slice a n c, .slice ma l.length mc][i]? := bA2.cell
 have gB : ∀ i, w2.cell? ⟨w.heap.size + 1, i, none⟩ = [Value.int .i64 op, .string nm', .int .i64 N, .int .i64 ty'.kind, .string ty'.name, .slice a' n' c', .slice ma' l'.length mc'][i]? := bB2.cell
 by_cases e4 : l.length = l'.length
 case neg =>
  have t1 : ((l.length : Int) != (l'.length : Int)) = true := by simp; omega
  have t2 : ((l.length : Int) == (l'.length : Int)) = false := by simp; omega
  have HR : Hid (rr = false) := Ld (by rw [HD.out]; simp [e4])
  clear e4
  go_wp2_with fail
  go_ret
  exact ⟨by rw [HR.out]; rfl, K2⟩
 have HR : Hid (rr = alikeK (binderB op) nm nm' 0 l l' X Y) := Ld (by rw [HD.out, ht]; simp [e4])
 clear HD
 have E4 := Ld e4
 rw [← e4] at gB ⊢
 clear e4
 have t4 : ((l.length : Int) != (l.length : Int)) = false := by simp
 have t5 : (op == 20) = false := by simpa using h20
 have BA := Ld bA2
 have BB := Ld bB2
 clear bA2 bB2
 go_wp2_with fail
 clear HT t4 ht gA gB
 go_loopw [11] (fun i wr => ∃ j : Nat, j ≤ l.length ∧ i = .int .i64 j ∧ Kept (fun _ => False) w2 wr ∧ Hid (rr = alikeK (binderB op) nm nm' j (l.drop j) (l'.drop j) X Y)) (fun i _ => l.length - (intOf i).toNat)
 case atStart => exact ⟨0, Nat.zero_le _, rfl, Kept.refl _ _, HR⟩
 case round =>
  obtain ⟨j, hj, rfl, kr, hq⟩ := hrel
  have gA : ∀ i, wr.cell? ⟨w.heap.size, i, none⟩ = [Value.int .i64 op, .string nm, .int .i64 N, .int .i64 ty.kind, .string ty.name, .slice a n c, .slice ma l.length mc][i]? := (BA.out.kept kr (fun h => h)).cell
  by_cases hlt : j < l.length
  ·have hlt' : j < l'.length := by rw [← E4.out]; exact hlt
   obtain ⟨g, off, ta, tn, tc, na, nn, nc, rfl, _, lg, ⟨c0, c1, c2, c3, c4, c5, c6⟩, hty, htm⟩ := HAT.out wr (K2.trans kr) j hlt
   obtain ⟨g', off', ta', tn', tc', na', nn', nc', rfl, _, lg', ⟨d0, d1, d2, d3, d4, d5, d6⟩, hty', htm'⟩ := HAT'.out wr (K2.trans kr) j hlt'
   have gB : ∀ i, wr.cell? ⟨w.heap.size + 1, i, none⟩ = [Value.int .i64 op, .string nm', .int .i64 N, .int .i64 ty'.kind, .string ty'.name, .slice a' n' c', .slice (some ⟨g', off', none⟩) l.length mc'][i]? := by rw [E4.out]; exact (BB.out.kept kr (fun h => h)).cell
   cases hbi : binderB op
   ·have hco : (binderB op && j == 1) = false := by rw [hbi]; rfl
    have hcon := Ld (fun (W : World) (kW : Kept (fun _ => False) wr W) => HIH.out _ (List.getElem_mem hlt) l'[j] X Y W ok ok' _ _ _ _ _ _ _ _ (hty.frame (Same.of_kept kW (fun k h e => e))) (htm.frame (Same.of_kept kW (fun k h e => e))) (hty'.frame (Same.of_kept kW (fun k h e => e))) (htm'.frame (Same.of_kept kW (fun k h e => e))) ((HX.out wr (K2.trans kr)).frame (Same.of_kept kW (fun k h e => e))) ((HY.out wr (K2.trans kr)).frame (Same.of_kept kW (fun k h e => e))) (by have := HBX.out; have := tmDs_mem (List.getElem_mem hlt); simp; omega) (by have := HBY.out; have := tmDs_mem (List.getElem_mem hlt); simp; omega))
    unfold tmVal at hcon
    have HS := Ld (alikeK_drop (bi := binderB op) (nm := nm) (nm' := nm') (X := X) (Y := Y) hlt hlt')
    rw [hco] at HS
    simp only [Bool.false_eq_true, if_false, if_true] at HS
    clear hty hty' htm htm'
    have hj2 : (j : Int) < (l.length : Int) := by omega
    have hj3 : (j : Int) < 1000000 := by omega
    go_wp2_with (go_at_call 67; refine cR (rbinder_t hbi _) ?_)
    go_still_tail 12, (by kernel_rfl)
    change wpList _ _ _ _ _ (World.drew wr)
    have kd : Kept (fun _ => False) wr (World.drew wr) := (Kept.refl _ _).drew
    generalize World.drew wr = w4 at *
    cases hr : alikeT l[j] l'[j] X Y
    ·rw [hr] at hcon HS
     go_wp2_with (go_at_call 70; refine (hcon.out _ kd).mono ?_; rintro e w' ⟨rfl, k2⟩)
     go_ret
     exact ⟨by rw [hq.out, HS.out]; rfl, ((K2.trans kr).trans kd).trans k2⟩
    ·rw [hr] at hcon HS
     go_wp2_with (go_at_call 70; refine (hcon.out _ kd).mono ?_; rintro e w' ⟨rfl, k2⟩)
     go_roundw
     case rel => exact ⟨j + 1, by omega, by go_num, (kr.trans kd).trans k2, Ld (by rw [hq.out, HS.out]; first | rfl | (rw [hbi]; rfl))⟩
     case measure => simp [intOf]; omega
   by_cases hj1 : j = 1
   case neg =>
    have hco : (binderB op && j == 1) = false := by simp [hj1]
    have hj4 : ((j : Int) == 1) = false := by simp; omega
    have hcon := Ld (fun (W : World) (kW : Kept (fun _ => False) wr W) => HIH.out _ (List.getElem_mem hlt) l'[j] X Y W ok ok' _ _ _ _ _ _ _ _ (hty.frame (Same.of_kept kW (fun k h e => e))) (htm.frame (Same.of_kept kW (fun k h e => e))) (hty'.frame (Same.of_kept kW (fun k h e => e))) (htm'.frame (Same.of_kept kW (fun k h e => e))) ((HX.out wr (K2.trans kr)).frame (Same.of_kept kW (fun k h e => e))) ((HY.out wr (K2.trans kr)).frame (Same.of_kept kW (fun k h e => e))) (by have := HBX.out; have := tmDs_mem (List.getElem_mem hlt); simp; omega) (by have := HBY.out; have := tmDs_mem (List.getElem_mem hlt); simp; omega))
    unfold tmVal at hcon
    have HS := Ld (alikeK_drop (bi := binderB op) (nm := nm) (nm' := nm') (X := X) (Y := Y) hlt hlt')
    rw [hco] at HS
    simp only [Bool.false_eq_true, if_false, if_true] at HS
    clear hty hty' htm htm'
    have hj2 : (j : Int) < (l.length : Int) := by omega
    have hj3 : (j : Int) < 1000000 := by omega
    go_wp2_with (go_at_call 67; refine cR (rbinder_t hbi _) ?_)
    go_still_tail 12, (by kernel_rfl)
    change wpList _ _ _ _ _ (World.drew wr)
    have kd : Kept (fun _ => False) wr (World.drew wr) := (Kept.refl _ _).drew
    generalize World.drew wr = w4 at *
    cases hr : alikeT l[j] l'[j] X Y
    ·rw [hr] at hcon HS
     go_wp2_with (go_at_call 70; refine (hcon.out _ kd).mono ?_; rintro e w' ⟨rfl, k2⟩)
     go_ret
     exact ⟨by rw [hq.out, HS.out]; rfl, ((K2.trans kr).trans kd).trans k2⟩
    ·rw [hr] at hcon HS
     go_wp2_with (go_at_call 70; refine (hcon.out _ kd).mono ?_; rintro e w' ⟨rfl, k2⟩)
     go_roundw
     case rel => exact ⟨j + 1, by omega, by go_num, (kr.trans kd).trans k2, Ld (by rw [hq.out, HS.out]; first | rfl | (rw [hbi]; rfl))⟩
     case measure => simp [intOf]; omega
   subst hj1
   have hco : (binderB op && 1 == 1) = true := by rw [hbi]; rfl
   have x1 : wr.cell? ⟨w.heap.size, 1, none⟩ = some (.string nm) := gA 1
   have x2 : wr.cell? ⟨w.heap.size + 1, 1, none⟩ = some (.string nm') := gB 1
   have HS2 := Ld (fun W (k : Kept (fun _ => False) wr W) => (⟨(BA.out.kept (kr.trans k) (fun h => h)).cell 1, (BB.out.kept (kr.trans k) (fun h => h)).cell 1⟩ : W.cell? ⟨w.heap.size, 1, none⟩ = some (.string nm) ∧ W.cell? ⟨w.heap.size + 1, 1, none⟩ = some (.string nm')))
   have KD : Kept (fun _ => False) wr wr.drew := (Kept.refl _ _).drew
   have HXY : Hid (∀ (W : World) (v : Value) (s : ByteArray) (Z : List ByteArray), Kept (fun _ => False) wr W → ((s = nm ∧ v = vx ∧ Z = X) ∨ (s = nm' ∧ v = vy ∧ Z = Y)) → Calls Tryz.prog 114 #[v, .string s] W fun e w' => ∃ v', e = .returned v' ∧ NmL (fun _ => True) w' (Z ++ [s]) v' ∧ Kept (fun _ => False) W w') := Ld (by
    have h1 := HBX.out
    have h2 := HBY.out
    rintro W v s Z k (⟨rfl, rfl, rfl⟩ | ⟨rfl, rfl, rfl⟩)
    ·exact (rwith_any _ (HX.out W ((K2.trans kr).trans k)) (by omega)).mono fun e w' ⟨v, h1, h2⟩ => ⟨v, h1, h2.nml.mono (fun _ _ _ => trivial), h2.kp⟩
    ·exact (rwith_any _ (HY.out W ((K2.trans kr).trans k)) (by omega)).mono fun e w' ⟨v, h1, h2⟩ => ⟨v, h1, h2.nml.mono (fun _ _ _ => trivial), h2.kp⟩)
   clear c0 c1 c2 c3 c4 c5 c6 d0 d1 d2 d3 d4 d5 d6 hty hty' htm htm'
   go_wp2_with (go_at_call 67; refine cR (rbinder_t hbi _) ?_)
   clear gA gB
   go_region_held3 (fun w' => w'.cell? ⟨w.heap.size, 1, none⟩ = some (.string nm) ∧ w'.cell? ⟨w.heap.size + 1, 1, none⟩ = some (.string nm')) (go_keep)
    (first | (go_at_call 114; refine (HXY.out _ _ _ _ (by first | exact KD | exact KE) (by first | exact Or.inl ⟨rfl, rfl, rfl⟩ | exact Or.inr ⟨rfl, rfl, rfl⟩)).mono ?_; rintro e wq ⟨vq, rfl, Rq, kq⟩; first | (have KF := KE.trans kq; have RF := Rq; have RE2 := RE.frame (sK kq); obtain ⟨n0, n1⟩ := HS2.out _ KF) | (have KE := KD.trans kq; have RE := Rq; obtain ⟨m0, m1⟩ := HS2.out _ KE)))
   all_goals
    have KW := kr.trans KF
    have gA2 : ∀ i, wq.cell? ⟨w.heap.size, i, none⟩ = [Value.int .i64 op, .string nm, .int .i64 N, .int .i64 ty.kind, .string ty.name, .slice a n c, .slice (some ⟨g, off, none⟩) l.length mc][i]? := (BA.out.kept KW (fun h => h)).cell
    have gB2 : ∀ i, wq.cell? ⟨w.heap.size + 1, i, none⟩ = [Value.int .i64 op, .string nm', .int .i64 N, .int .i64 ty'.kind, .string ty'.name, .slice a' n' c', .slice (some ⟨g', off', none⟩) l.length mc'][i]? := by rw [E4.out]; exact (BB.out.kept KW (fun h => h)).cell
    obtain ⟨g2, off2, ta, tn, tc, na, nn, nc, e2, _, lg, ⟨c0, c1, c2, c3, c4, c5, c6⟩, hty, htm⟩ := HAT.out wq (K2.trans KW) 1 hlt
    cases e2
    obtain ⟨g2', off2', ta', tn', tc', na', nn', nc', e2, _, lg', ⟨d0, d1, d2, d3, d4, d5, d6⟩, hty', htm'⟩ := HAT'.out wq (K2.trans KW) 1 hlt'
    cases e2
    clear n0 n1 m0 m1 x1 x2 HS2 HXY KD KE RE
    have hcon := Ld (fun (W : World) (kW : Kept (fun _ => False) wq W) => HIH.out _ (List.getElem_mem hlt) l'[1] (X ++ [nm]) (Y ++ [nm']) W ok ok' _ _ _ _ _ _ _ _ (hty.frame (Same.of_kept kW (fun k h e => e))) (htm.frame (Same.of_kept kW (fun k h e => e))) (hty'.frame (Same.of_kept kW (fun k h e => e))) (htm'.frame (Same.of_kept kW (fun k h e => e))) ((RE2).frame (Same.of_kept kW (fun k h e => e))) ((RF).frame (Same.of_kept kW (fun k h e => e))) (by have := HBX.out; have := tmDs_mem (List.getElem_mem hlt); simp; omega) (by have := HBY.out; have := tmDs_mem (List.getElem_mem hlt); simp; omega))
    unfold tmVal at hcon
    have HS := Ld (alikeK_drop (bi := binderB op) (nm := nm) (nm' := nm') (X := X) (Y := Y) hlt hlt')
    rw [hco] at HS
    simp only [Bool.false_eq_true, if_false, if_true] at HS
    clear hty hty' htm htm'
    have hj2 : ((1 : Nat) : Int) < (l.length : Int) := by omega
    have hj3 : ((1 : Nat) : Int) < 1000000 := by omega
    go_wp2_with fail
    go_still_tail 12, (by kernel_rfl)
    change wpList _ _ _ _ _ (World.drew wq)
    have kd : Kept (fun _ => False) wq (World.drew wq) := (Kept.refl _ _).drew
    generalize World.drew wq = w4 at *
    cases hr : alikeT l[1] l'[1] (X ++ [nm]) (Y ++ [nm'])
    ·rw [hr] at hcon HS
     go_wp2_with (go_at_call 70; refine (hcon.out _ kd).mono ?_; rintro e w' ⟨rfl, k2⟩)
     go_ret
     exact ⟨by rw [hq.out, HS.out]; rfl, ((K2.trans KW).trans kd).trans k2⟩
    ·rw [hr] at hcon HS
     go_wp2_with (go_at_call 70; refine (hcon.out _ kd).mono ?_; rintro e w' ⟨rfl, k2⟩)
     go_roundw
     case rel => exact ⟨1 + 1, by omega, by go_num, (KW.trans kd).trans k2, Ld (by rw [hq.out, HS.out]; first | rfl | (rw [hbi]; rfl))⟩
     case measure => simp [intOf]; omega
  ·have HZ : Hid (rr = true) := Ld (by rw [hq.out, alikeK_end (by omega)])
   go_wp2_with fail
   go_ret
   exact ⟨by rw [HZ.out]; rfl, K2.trans kr⟩
theorem ralike_any {t : Tm} (hb : BdTm t) : RAlC t := by
 induction hb with
 | mk hn ht hl ih =>
  rename_i o n i t l
  by_cases h : o = 20
  ·subst h; exact ralike_name ht hn
  ·exact ralike_one h ht ih hn
end Go.Proofs.YtfhedienjnfdcaaGreatDoor
