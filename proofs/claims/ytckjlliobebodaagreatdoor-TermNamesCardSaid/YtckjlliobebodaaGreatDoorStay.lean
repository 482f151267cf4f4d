/- A source and the same source with a blank and more behind it: the parser does the same on both until the first one ends. Plain Lean, no program. -/
import Derived.Test.YtckjlliobebodaaGreatDoorInv
set_option linter.unusedVariables false
set_option linter.unusedSimpArgs false
namespace Go.Proofs.YtckjlliobebodaaGreatDoor
open Go.RowKit
structure Ext (s s' : ByteArray) : Prop where
  lt : s.size < s'.size
  get : ∀ (p : Nat) (h : p < s.size) (h' : p < s'.size), s'[p] = s[p]
  sep : s'[s.size]'lt = 32
  pre : ∃ m, s'.data.toList = s.data.toList ++ (32 :: m)
theorem Ext.scan {s s' : ByteArray} (h : Ext s s') {P : Int → Bool} (hP : P 32 = false) (p : Nat) (hp : p ≤ s.size) : scan P s' p = scan P s p := by
  generalize hn : s.size - p = n
  induction n generalizing p with
  | zero =>
    have : p = s.size := by omega
    subst this
    rw [scan_end P s _ (Nat.le_refl _), scan_no P s' _ h.lt (by rw [h.sep]; exact hP)]
  | succ n ih =>
    have h1 : p < s.size := by omega
    have h2 : p < s'.size := Nat.lt_trans h1 h.lt
    have e := h.get p h1 h2
    cases hc : P s[p].toNat
    · rw [scan_no P s p h1 hc, scan_no P s' p h2 (by rw [e]; exact hc)]
    · rw [scan_yes P s p h1 hc, scan_yes P s' p h2 (by rw [e]; exact hc), ih (p + 1) (by omega) (by omega)]
theorem Ext.wend {s s' : ByteArray} (h : Ext s s') (p : Nat) (hp : p ≤ s.size) : wend s' p = wend s p := h.scan (by decide) p hp
theorem Ext.skip {s s' : ByteArray} (h : Ext s s') (p : Nat) (hp : p ≤ s.size) (hs : skip s p < s.size) : skip s' p = skip s p := by
  generalize hn : s.size - p = n
  induction n generalizing p with
  | zero =>
    have : p = s.size := by omega
    subst this
    unfold Go.Proofs.YtckjlliobebodaaGreatDoor.skip at hs
    rw [scan_end _ s _ (Nat.le_refl _)] at hs; omega
  | succ n ih =>
    have h1 : p < s.size := by omega
    have h2 : p < s'.size := Nat.lt_trans h1 h.lt
    have e := h.get p h1 h2
    unfold Go.Proofs.YtckjlliobebodaaGreatDoor.skip at *
    cases hc : blankB s[p].toNat
    · rw [scan_no blankB s p h1 hc, scan_no blankB s' p h2 (by rw [e]; exact hc)]
    · rw [scan_yes blankB s p h1 hc] at hs
      rw [scan_yes blankB s p h1 hc, scan_yes blankB s' p h2 (by rw [e]; exact hc), ih (p + 1) (by omega) hs (by omega)]
theorem ba_ext {a b : ByteArray} (h : a.data.toList = b.data.toList) : a = b := by
  obtain ⟨⟨a⟩⟩ := a; obtain ⟨⟨b⟩⟩ := b; simp at h; subst h; rfl
theorem ext_list (s : ByteArray) (a c : Nat) : (s.extract a c).data.toList = (s.data.toList.take c).drop a := by
  rw [ByteArray.data_extract]; simp [List.extract_eq_take_drop, List.take_drop]
  by_cases h : a ≤ c
  · rw [show a + (c - a) = c by omega]
  · rw [show a + (c - a) = a by omega, List.drop_eq_nil_of_le (by simp; omega), List.drop_eq_nil_of_le (by simp; omega)]
theorem Ext.extract {s s' : ByteArray} (h : Ext s s') (a c : Nat) (hc : c ≤ s.size) : s'.extract a c = s.extract a c := by
  obtain ⟨m, hm⟩ := h.pre
  apply ba_ext
  rw [ext_list, ext_list, hm, List.take_append_of_le_length (by simpa using hc)]
theorem pre_ext (l m x : List UInt8) (hx : 32 ∉ x) : Lib.hasPrefix (l ++ (32 :: m)) x = Lib.hasPrefix l x := by
  unfold Lib.hasPrefix
  induction x generalizing l with
  | nil => cases l <;> rfl
  | cons c x ih =>
    cases l with
    | nil =>
      have : (c == 32) = false := beq_false_of_ne (fun e => hx (by simp [e]))
      show ((c == 32) && x.isPrefixOf m) = false
      rw [this]; rfl
    | cons d l =>
      have := ih l (fun h => hx (List.mem_cons_of_mem _ h))
      show ((c == d) && x.isPrefixOf (l ++ 32 :: m)) = ((c == d) && x.isPrefixOf l)
      rw [this]
theorem signs_no : ∀ x ∈ signs, (32 : UInt8) ∉ x.data.toList := by decide
theorem sIdx_ext (l m : List UInt8) (xs : List ByteArray) (hx : ∀ x ∈ xs, (32 : UInt8) ∉ x.data.toList) : sIdx (l ++ (32 :: m)) xs = sIdx l xs := by
  unfold sIdx
  have : xs.findIdx? (fun x => Lib.hasPrefix (l ++ (32 :: m)) x.data.toList) = xs.findIdx? (fun x => Lib.hasPrefix l x.data.toList) := by
    induction xs with
    | nil => rfl
    | cons x xs ih =>
      rw [List.findIdx?_cons, List.findIdx?_cons, pre_ext l m _ (hx x (by simp)), ih (fun y hy => hx y (by simp [hy]))]
  rw [this]
theorem Ext.sIdx {s s' : ByteArray} (h : Ext s s') (fr : Nat) (hf : fr ≤ s.size) : sIdx (s'.data.toList.drop fr) signs = sIdx (s.data.toList.drop fr) signs := by
  obtain ⟨m, hm⟩ := h.pre
  rw [hm, List.drop_append_of_le_length (by simpa using hf)]
  exact sIdx_ext _ _ _ signs_no
theorem Ext.wordTo {s s' : ByteArray} (h : Ext s s') (fr : Nat) (hf : fr ≤ s.size) : wordTo s' fr = wordTo s fr := by
  have hw := h.wend fr hf
  have hl := (scan_spec inWordB s fr hf).2.1
  unfold Go.Proofs.YtckjlliobebodaaGreatDoor.wordTo
  rw [hw, h.extract fr (Go.Proofs.YtckjlliobebodaaGreatDoor.wend s fr) hl]
  split
  · rfl
  · have h2 : Go.Proofs.YtckjlliobebodaaGreatDoor.wend s fr < s'.size := Nat.lt_of_le_of_lt hl h.lt
    rw [dif_pos h2]
    by_cases hc : Go.Proofs.YtckjlliobebodaaGreatDoor.wend s fr < s.size
    · rw [dif_pos hc, h.get _ hc h2]
    · rw [dif_neg hc]
      have e : ∀ (r : Nat) (hr : r < s'.size), r = s.size → s'[r].toNat ≠ 39 := by
        intro r hr e; subst e; rw [h.sep]; decide
      rw [if_neg (e _ h2 (Nat.le_antisymm hl (Nat.le_of_not_lt hc)))]
theorem Ext.tokAt {s s' : ByteArray} (h : Ext s s') (fr : Nat) (hf : fr < s.size) : tokAt s' fr = tokAt s fr := by
  have h2 : fr < s'.size := Nat.lt_trans hf h.lt
  unfold Go.Proofs.YtckjlliobebodaaGreatDoor.tokAt
  rw [dif_pos hf, dif_pos h2, h.get fr hf h2, h.wend fr (by omega), h.wordTo fr (by omega), h.sIdx fr (by omega), h.extract fr (Go.Proofs.YtckjlliobebodaaGreatDoor.wend s fr) (scan_spec inWordB s fr (by omega)).2.1, h.extract fr _ (wordTo_le s fr (by omega))]
  split
  · rfl
  · split
    · rfl
    · split
      · rfl
      · rename_i hi; rw [h.extract fr _ (sign_le s fr (by omega) hi)]
/-- The source has ended. -/
def AtEnd (s : ByteArray) (σ : PS) : Prop := σ.k = 0 ∧ s.size ≤ σ.ta ∧ σ.p = s.size
def EndE (s : ByteArray) (r : ER) : Prop := r.1 = false ∧ s.size ≤ r.2
def EndP (s : ByteArray) : Except ER PS → Prop
  | .ok σ => AtEnd s σ
  | .error r => EndE s r
def EndT {α : Type} (s : ByteArray) : Except ER (α × PS) → Prop
  | .ok q => AtEnd s q.2
  | .error r => EndE s r
def RelP (s : ByteArray) (q q' : Except ER PS) : Prop := EndP s q ∨ (q = q' ∧ ∀ σ, q = .ok σ → σ.k ≠ 0)
def RelT {α : Type} (s : ByteArray) (q q' : Except ER (α × PS)) : Prop := EndT s q ∨ (q = q' ∧ ∀ a, q = .ok a → a.2.k ≠ 0)
theorem tok_kind {s : ByteArray} {fr : Nat} {t : Nat × Int × ByteArray × Int} (h : fr < s.size) (ht : tokAt s fr = some t) : t.2.1 ≠ 0 := by
  unfold tokAt at ht
  rw [dif_pos h] at ht
  split at ht
  · split at ht
    · cases ht
    · cases ht; exact (by decide : (1 : Int) ≠ 0)
  · split at ht
    · cases hn : numTok (s.extract fr (wend s fr)) with
      | none => rw [hn] at ht; cases ht
      | some v => rw [hn] at ht; cases ht; exact (by decide : (2 : Int) ≠ 0)
    · split at ht
      · cases ht
      · cases ht; exact (by decide : (3 : Int) ≠ 0)
theorem adv_end {s : ByteArray} {σ : PS} (h : AtEnd s σ) : EndP s (advS s σ) := by
  have hs : skip s σ.p = s.size := by rw [h.2.2]; exact scan_end _ _ _ (Nat.le_refl _)
  unfold advS
  rw [hs]
  unfold tokAt
  rw [dif_neg (by omega)]
  exact ⟨rfl, Nat.le_refl _, rfl⟩
theorem adv_rel {s s' : ByteArray} (hx : Ext s s') {σ : PS} (hp : σ.p ≤ s.size) : RelP s (advS s σ) (advS s' σ) := by
  by_cases hs : skip s σ.p < s.size
  · right
    have e : advS s' σ = advS s σ := by unfold advS; rw [hx.skip _ hp hs, hx.tokAt _ hs]
    refine ⟨e.symm, fun σ' h' => ?_⟩
    unfold advS at h'
    cases ht : tokAt s (skip s σ.p) with
    | none => rw [ht] at h'; cases h'
    | some t => rw [ht] at h'; cases h'; exact tok_kind hs ht
  · left
    have hs' : skip s σ.p = s.size := Nat.le_antisymm (skip_le s _ hp) (Nat.le_of_not_lt hs)
    unfold advS
    rw [hs']
    unfold tokAt
    rw [dif_neg (by omega)]
    exact ⟨rfl, Nat.le_refl _, rfl⟩
theorem is_end {s : ByteArray} {σ : PS} (h : AtEnd s σ) (t : ByteArray) : isS σ t = false := by
  unfold isS isB; rw [h.1]; rfl
theorem isS_dec {σ : PS} {t : ByteArray} {s : ByteArray} (h : isS σ t = true) : ¬ AtEnd s σ := fun e => by rw [is_end e] at h; cases h
theorem want_end {s : ByteArray} {σ : PS} (h : AtEnd s σ) (t : ByteArray) : EndP s (wantS s σ t) := by
  unfold wantS eatS; rw [is_end h]; exact ⟨rfl, h.2.1⟩
theorem eat_rel {s s' : ByteArray} (hx : Ext s s') {σ : PS} (hp : σ.p ≤ s.size) (hk : σ.k ≠ 0) (t : ByteArray) : RelT s (eatS s σ t) (eatS s' σ t) := by
  unfold eatS
  cases hi : isS σ t
  · right; exact ⟨rfl, fun a h => by cases h; exact hk⟩
  · simp only [if_true]
    rcases adv_rel hx hp with h | ⟨h, h'⟩
    · left
      cases ha : advS s σ with
      | ok σ1 => rw [ha] at h; exact h
      | error r => rw [ha] at h; exact h
    · right
      rw [← h]
      refine ⟨rfl, fun a e => ?_⟩
      cases ha : advS s σ with
      | ok σ1 => rw [ha] at e; cases e; exact h' _ ha
      | error r => rw [ha] at e; cases e
theorem want_rel {s s' : ByteArray} (hx : Ext s s') {σ : PS} (hp : σ.p ≤ s.size) (hk : σ.k ≠ 0) (t : ByteArray) : RelP s (wantS s σ t) (wantS s' σ t) := by
  unfold wantS eatS
  cases hi : isS σ t
  · right; exact ⟨rfl, fun a h => by cases h⟩
  · simp only [if_true]
    rcases adv_rel hx hp with h | ⟨h, h'⟩
    · left
      cases ha : advS s σ with
      | ok σ1 => rw [ha] at h; exact h
      | error r => rw [ha] at h; exact h
    · right
      rw [← h]
      refine ⟨rfl, fun a e => ?_⟩
      cases ha : advS s σ with
      | ok σ1 => rw [ha] at e; cases e; exact h' _ ha
      | error r => rw [ha] at e; cases e
theorem shut_end {s : ByteArray} {σ : PS} (h : AtEnd s σ) (t : ByteArray) : EndP s (shutS s σ t) := by
  have := want_end h t
  unfold shutS
  cases e : wantS s σ t with
  | ok σ1 => rw [e] at this; exact this
  | error r => rw [e] at this; exact this
theorem shut_rel {s s' : ByteArray} (hx : Ext s s') {σ : PS} (hp : σ.p ≤ s.size) (hk : σ.k ≠ 0) (t : ByteArray) : RelP s (shutS s σ t) (shutS s' σ t) := by
  unfold shutS
  rcases want_rel hx hp hk t with h | ⟨h, h'⟩
  · left
    cases e : wantS s σ t with
    | ok σ1 => rw [e] at h; exact h
    | error r => rw [e] at h; exact h
  · right
    rw [← h]
    refine ⟨rfl, fun a q => ?_⟩
    cases e : wantS s σ t with
    | ok σ1 => rw [e] at q; cases q; exact (h' _ e : σ1.k ≠ 0)
    | error r => rw [e] at q; cases q
theorem open_end {s : ByteArray} {σ : PS} (h : AtEnd s σ) (t : ByteArray) : EndP s (openS s σ t) := by
  unfold openS; rw [is_end h]; exact ⟨rfl, h.2.1⟩
theorem open_rel {s s' : ByteArray} (hx : Ext s s') {σ : PS} (hp : σ.p ≤ s.size) (t : ByteArray) : RelP s (openS s σ t) (openS s' σ t) := by
  unfold openS
  split
  · split
    · right; exact ⟨rfl, fun a h => by cases h⟩
    · exact adv_rel hx (σ := { σ with nest := σ.nest + 1 }) hp
  · right; exact ⟨rfl, fun a h => by cases h⟩
theorem name_end {s : ByteArray} {σ : PS} (h : AtEnd s σ) : EndT s (nameS s σ) := by
  unfold nameS; rw [if_neg (by rw [h.1]; intro e; exact absurd e.1 (by decide))]; exact ⟨rfl, h.2.1⟩
theorem name_rel {s s' : ByteArray} (hx : Ext s s') {σ : PS} (hp : σ.p ≤ s.size) : RelT s (nameS s σ) (nameS s' σ) := by
  unfold nameS
  split
  · rcases adv_rel hx hp with h | ⟨h, h'⟩
    · left
      cases ha : advS s σ with
      | ok σ1 => rw [ha] at h; exact h
      | error r => rw [ha] at h; exact h
    · right
      rw [← h]
      refine ⟨rfl, fun a e => ?_⟩
      cases ha : advS s σ with
      | ok σ1 => rw [ha] at e; cases e; exact h' _ ha
      | error r => rw [ha] at e; cases e
  · right; exact ⟨rfl, fun a h => by cases h⟩
end Go.Proofs.YtckjlliobebodaaGreatDoor
