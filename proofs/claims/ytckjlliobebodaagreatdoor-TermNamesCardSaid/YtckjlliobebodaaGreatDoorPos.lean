/- Where the parser's errors lie: within the source. Plain. -/
import Derived.Test.YtckjlliobebodaaGreatDoorPrs
set_option linter.unusedVariables false
set_option linter.unusedSimpArgs false
namespace Go.Proofs.YtckjlliobebodaaGreatDoor
open Go.RowKit
def InS (s : ByteArray) (σ : PS) : Prop := σ.p ≤ s.size ∧ σ.ta ≤ s.size
def GdP (s : ByteArray) : Except ER PS → Prop
  | .ok σ => InS s σ
  | .error r => r.2 ≤ s.size
def GdT {α : Type} (s : ByteArray) : Except ER (α × PS) → Prop
  | .ok q => InS s q.2
  | .error r => r.2 ≤ s.size
section
variable {α β : Type} {s : ByteArray}
theorem gP {q : Except ER PS} {k : PS → Except ER (β × PS)} (h : GdP s q) (hk : ∀ σ, InS s σ → GdT s (k σ)) : GdT s (bP q k) := by
  cases q with
  | error r => exact h
  | ok σ => exact hk σ h
theorem gT {q : Except ER (α × PS)} {k : α → PS → Except ER (β × PS)} (h : GdT s q) (hk : ∀ a σ, InS s σ → GdT s (k a σ)) : GdT s (bT q k) := by
  cases q with
  | error r => exact h
  | ok q => exact hk q.1 q.2 h
end
variable {s : ByteArray}
theorem g_adv {σ : PS} (h : σ.p ≤ s.size) : GdP s (advS s σ) := by
  unfold advS
  have hk := skip_le s σ.p h
  cases ht : tokAt s (skip s σ.p) with
  | none => exact hk
  | some t => exact ⟨(tokAt_le hk ht).1, hk⟩
theorem g_want {σ : PS} (h : InS s σ) (t : ByteArray) : GdP s (wantS s σ t) := by
  unfold wantS eatS
  split
  · rename_i e
    split at e
    · cases ha : advS s σ with
      | ok σ1 => rw [ha] at e; cases e
      | error r => rw [ha] at e; cases e; have := g_adv h.1; rw [ha] at this; exact this
    · cases e
  · rename_i e
    split at e
    · cases ha : advS s σ with
      | ok σ1 => rw [ha] at e; cases e; have := g_adv h.1; rw [ha] at this; exact this
      | error r => rw [ha] at e; cases e
    · cases e
  · rename_i e
    split at e
    · cases ha : advS s σ with
      | ok σ1 => rw [ha] at e; cases e
      | error r => rw [ha] at e; cases e
    · cases e; exact h.2
theorem g_shut {σ : PS} (h : InS s σ) (t : ByteArray) : GdP s (shutS s σ t) := by
  have := g_want h t
  unfold shutS
  cases e : wantS s σ t with
  | ok σ1 => rw [e] at this; exact this
  | error r => rw [e] at this; exact this
theorem g_open {σ : PS} (h : InS s σ) (t : ByteArray) : GdP s (openS s σ t) := by
  unfold openS
  split
  · split
    · exact h.2
    · exact g_adv (σ := { σ with nest := σ.nest + 1 }) h.1
  · exact h.2
theorem g_name {σ : PS} (h : InS s σ) : GdT s (nameS s σ) := by
  unfold nameS
  split
  · have := g_adv h.1
    cases ha : advS s σ with
    | ok σ1 => rw [ha] at this; exact this
    | error r => rw [ha] at this; exact this
  · exact h.2
theorem g_typed (f : Nat) : ∀ σ, InS s σ → GdT s (typedS f s σ) := by
  induction f with
  | zero => intro σ _; exact Nat.zero_le _
  | succ f ih =>
    intro σ h
    rw [typed_eq]
    split
    · exact gP (g_adv h.1) fun σ h => h
    split
    · exact gP (g_adv h.1) fun σ h => h
    split
    · exact gP (g_adv h.1) fun σ h => gP (g_open h _) fun σ h => gT (ih σ h) fun t σ h => gP (g_shut h _) fun σ h => h
    split
    · exact gP (g_adv h.1) fun σ h => gP (g_open h _) fun σ h => gT (ih σ h) fun t σ h => gP (g_want h _) fun σ h => gT (ih σ h) fun u σ h => gP (g_shut h _) fun σ h => h
    · exact h.2
def TG (s : ByteArray) (T : TF) : Prop := ∀ n σ, InS s σ → GdT s (T n σ)
variable {T : TF}
theorem g_inside (hT : TG s T) (o c : ByteArray) {σ : PS} (h : InS s σ) : GdT s (insideS T s o c σ) := by
  rw [inside_eq]
  exact gP (g_open h _) fun σ h => gT (hT _ σ h) fun t σ h => gP (g_shut h _) fun σ h => h
theorem g_bound (hT : TG s T) (op : Int) {σ : PS} (h : InS s σ) : GdT s (boundS T s op σ) := by
  rw [bound_eq]
  exact gT (g_name h) fun x σ h => gP (g_want h _) fun σ h => gT (hT _ σ h) fun t σ h => gP (g_want h _) fun σ h => gT (hT _ σ h) fun t σ h => h
theorem g_leaf (t : Tm) {σ : PS} (h : InS s σ) : GdT s (leafS s t σ) := by rw [leaf_eq]; exact gP (g_adv h.1) fun σ h => h
theorem g_binder (hT : TG s T) (op : Int) {σ : PS} (h : InS s σ) : GdT s (binderS T s op σ) := by rw [binder_eq]; exact gP (g_adv h.1) fun σ h => g_bound hT op h
theorem g_worded (hT : TG s T) {σ : PS} (h : InS s σ) : GdT s (wordedS T s σ) := by
  rw [worded_eq]
  split
  · split
    · exact gP (g_adv h.1) fun σ h => gT (g_inside hT _ _ h) fun t σ h => h
    split
    · exact g_leaf _ h
    split
    · exact g_leaf _ h
    split
    · exact g_binder hT _ h
    split
    · exact g_binder hT _ h
    split
    · exact g_binder hT _ h
    · exact h.2
  · exact g_leaf _ h
theorem g_elems (hT : TG s T) (g : Nat) : ∀ (l : List Tm) σ, InS s σ → GdT s (elemsS T s g l σ) := by
  induction g with
  | zero => intro l σ _; exact Nat.zero_le _
  | succ g ih =>
    intro l σ h
    cases hi : isS σ kComma
    · unfold elemsS; rw [hi]; exact h
    · rw [elems_eq _ _ _ _ _ hi]
      exact gP (g_adv h.1) fun σ h => gT (hT _ σ h) fun t σ h => ih _ σ h
theorem g_elements (hT : TG s T) (first : Tm) (bare : Bool) {σ : PS} (h : InS s σ) : GdT s (elementsS T s first bare σ) := by
  rw [elements_eq]
  split
  · exact gP (g_adv h.1) fun σ h => gT (hT _ σ h) fun t σ h => gP (g_shut h _) fun σ h => h
  · exact gT (g_elems hT _ _ σ h) fun l σ h => gP (g_shut h _) fun σ h => h
theorem g_braces (hT : TG s T) {σ : PS} (h : InS s σ) : GdT s (bracesS T s σ) := by
  rw [braces_eq]
  refine gP (g_open h _) fun σ h => ?_
  split
  · exact gP (g_adv h.1) fun σ h => gP (g_open (σ := { σ with nest := σ.nest - 1 }) h _) fun σ h => gT (g_typed _ σ h) fun t σ h => gP (g_shut h _) fun σ h => h
  · exact gT (hT _ σ h) fun t σ h => g_elements hT t _ h
theorem g_atom (hT : TG s T) {σ : PS} (h : InS s σ) : GdT s (atomS T s σ) := by
  unfold atomS
  split
  · exact g_leaf _ h
  · split
    · exact g_worded hT h
    · split
      · exact g_inside hT _ _ h
      · split
        · exact g_braces hT h
        · exact h.2
theorem g_after (hT : TG s T) (g : Nat) : ∀ (t : Tm) σ, InS s σ → GdT s (afterS T s g t σ) := by
  induction g with
  | zero => intro t σ _; exact Nat.zero_le _
  | succ g ih =>
    intro t σ h
    rw [after_eq]
    split
    · exact gT (g_inside hT _ _ h) fun t σ h => ih _ σ h
    split
    · exact gT (g_inside hT _ _ h) fun t σ h => ih _ σ h
    split
    · exact gP (g_adv h.1) fun σ h => ih _ σ h
    · exact h
theorem g_rest (hT : TG s T) (n g : Nat) : ∀ (t : Tm) σ, InS s σ → GdT s (restS T s n g t σ) := by
  induction g with
  | zero => intro t σ _; exact Nat.zero_le _
  | succ g ih =>
    intro t σ h
    rw [rest_eq]
    split
    · exact h
    refine gP (g_adv h.1) fun σ h => gT (hT _ σ h) fun t σ h => ?_
    split
    · exact h
    · exact ih _ σ h
theorem g_term (f : Nat) : TG s (termS f s) := by
  induction f with
  | zero => intro n σ _; exact Nat.zero_le _
  | succ f ih =>
    intro n σ h
    by_cases e5 : n = 5
    · subst e5
      rw [term5_eq]
      split
      · exact gP (g_adv h.1) fun σ h => gT (ih _ σ h) fun t σ h => h
      · exact ih 6 σ h
    by_cases e13 : n = 13
    · subst e13
      rw [term13_eq]
      split
      · exact gP (g_adv h.1) fun σ h => gT (ih _ σ h) fun t σ h => h
      · exact gT (g_atom ih h) fun t σ h => g_after ih _ t σ h
    rw [termn_eq f s n σ e5 e13]
    exact gT (ih _ σ h) fun t σ h => g_rest ih n _ t σ h
theorem g_parse (f : Nat) : GdT s (parseQ f s) := by
  refine gP (g_adv (σ := ps0) (Nat.zero_le _)) fun σ h => gT (g_term f _ σ h) fun t σ h => ?_
  split
  · exact h
  · exact h.2
/-- What the statement says of the answers of two sources. -/
theorem stays_plain {s s' : ByteArray} (hx : Ext s s') {f : Nat} (hf : 14 * (s.size + 2) < f) (hs : s'.size ≤ 65536) :
    (parseE f s = 2 ∧ parseA f s < s.size ∧ parseE f s' = 2 ∧ parseA f s' = parseA f s) ∨ (parseE f s = 2 ∧ parseA f s = s.size) ∨ (parseE f s = 4 ∧ parseE f s' = 4 ∧ parseA f s' = parseA f s ∧ parseA f s ≤ s.size) ∨ ((parseE f s = 0 ∨ parseE f s = 5) ∧ parseA f s = 0) := by
  have hlt := hx.lt
  have n1 : ¬ 65536 < s.size := by omega
  have n2 : ¬ 65536 < s'.size := by omega
  have hg := g_parse (s := s) f
  unfold parseE parseA
  rw [if_neg n1, if_neg n1, if_neg n2, if_neg n2]
  cases hq : parseQ f s with
  | ok q =>
    right; right; right
    simp only [rdAt]
    refine ⟨?_, trivial⟩
    cases validB q.1
    · right; rfl
    · left; rfl
  | error r =>
    rw [hq] at hg
    have hr : r.2 ≤ s.size := hg
    have hw := whole_rel hx f hf (r := r) hq
    obtain ⟨d, p⟩ := r
    cases d
    · by_cases hp : p < s.size
      · left
        rcases hw with hw | hw
        · have hw' : parseQ f s' = .error (false, p) := hw
          rw [hw']
          exact ⟨rfl, by show ((p : Nat) : Int) < _; omega, rfl, rfl⟩
        · exact absurd hw.2 (by show ¬ s.size ≤ p; omega)
      · right; left
        have hr' : p ≤ s.size := hr
        exact ⟨rfl, by show ((p : Nat) : Int) = _; omega⟩
    · right; right; left
      rcases hw with hw | hw
      · have hw' : parseQ f s' = .error (true, p) := hw
        rw [hw']
        have hr' : p ≤ s.size := hr
        exact ⟨rfl, rfl, rfl, by show ((p : Nat) : Int) ≤ _; omega⟩
      · exact absurd hw.1 (by show ¬ (true = false); decide)
end Go.Proofs.YtckjlliobebodaaGreatDoor
