/- Texts Stay2 Read En Clo Cpy of this proof, in one. -/
import Derived.Test.YtckjlliobebodaaGreatDoorBa6
import Derived.Test.YtckjlliobebodaaGreatDoorBa3
import Derived.Test.YtckjlliobebodaaGreatDoorBa2
import Derived.Lib.BufferMore
import Derived.Test.YtckjlliobebodaaGreatDoorBa4
import Derived.Deep.RegionHeld3
import Derived.IntWalk
/- As Stay: the readers of types and terms, and the whole source. -/
set_option linter.unusedVariables false
set_option linter.unusedSimpArgs false
namespace Go.Proofs.YtckjlliobebodaaGreatDoor
open Go.RowKit
def bP {β : Type} (q : Except ER PS) (k : PS → Except ER β) : Except ER β := match q with | .error r => .error r | .ok σ => k σ
def bT {α β : Type} (q : Except ER (α × PS)) (k : α → PS → Except ER β) : Except ER β := match q with | .error r => .error r | .ok (a, σ) => k a σ
section
variable {α β : Type} {s s' : ByteArray}
theorem bP_end {q : Except ER PS} {k : PS → Except ER (β × PS)} (h : EndP s q) (hk : ∀ σ, AtEnd s σ → EndT s (k σ)) : EndT s (bP q k) := by
  cases q with
  | error r => exact h
  | ok σ => exact hk σ h
theorem bT_end {q : Except ER (α × PS)} {k : α → PS → Except ER (β × PS)} (h : EndT s q) (hk : ∀ a σ, AtEnd s σ → EndT s (k a σ)) : EndT s (bT q k) := by
  cases q with
  | error r => exact h
  | ok q => exact hk q.1 q.2 h
theorem bP_rel {q q' : Except ER PS} {k k' : PS → Except ER (β × PS)} (h : RelP s q q') (he : ∀ σ, AtEnd s σ → EndT s (k σ)) (hk : ∀ σ, q = .ok σ → σ.k ≠ 0 → RelT s (k σ) (k' σ)) : RelT s (bP q k) (bP q' k') := by
  rcases h with h | ⟨rfl, h⟩
  · exact Or.inl (bP_end h he)
  · cases q with
    | error r => exact Or.inr ⟨rfl, fun a e => by cases e⟩
    | ok σ => exact hk σ rfl (h σ rfl)
theorem bT_rel {q q' : Except ER (α × PS)} {k k' : α → PS → Except ER (β × PS)} (h : RelT s q q') (he : ∀ a σ, AtEnd s σ → EndT s (k a σ)) (hk : ∀ a σ, q = .ok (a, σ) → σ.k ≠ 0 → RelT s (k a σ) (k' a σ)) : RelT s (bT q k) (bT q' k') := by
  rcases h with h | ⟨rfl, h⟩
  · exact Or.inl (bT_end h he)
  · cases q with
    | error r => exact Or.inr ⟨rfl, fun a e => by cases e⟩
    | ok q => exact hk q.1 q.2 rfl (h q rfl)
theorem ok_rel {a : β} {σ : PS} (h : σ.k ≠ 0) : RelT s (.ok (a, σ)) (.ok (a, σ)) := Or.inr ⟨rfl, fun _ e => by cases e; exact h⟩
theorem err_rel {r : ER} : RelT (α := β) s (.error r) (.error r) := Or.inr ⟨rfl, fun _ e => by cases e⟩
end
theorem typed_mono {s : ByteArray} (f : Nat) : ∀ (f' : Nat) (σ : PS), σ.p ≤ s.size → mu s σ < f → f ≤ f' → typedS f s σ = typedS f' s σ := by
  induction f with
  | zero => intro f' σ _ h; omega
  | succ f ih =>
    intro f' σ hp hm hf
    obtain ⟨f', rfl⟩ : ∃ g, f' = g + 1 := ⟨f' - 1, by omega⟩
    unfold typedS
    split
    · rfl
    split
    · rfl
    split
    · rename_i hi
      cases h1 : advS s σ with
      | error r => rfl
      | ok σ1 =>
        have a1 := inv_adv hp (isS_ne hi) h1
        simp only
        cases h2 : openS s σ1 kLpar with
        | error r => rfl
        | ok σ2 =>
          have a2 := inv_open a1.2.1 h2
          simp only
          rw [ih f' σ2 a2.2.1 (by omega) (by omega)]
    split
    · rename_i hi
      cases h1 : advS s σ with
      | error r => rfl
      | ok σ1 =>
        have a1 := inv_adv hp (isS_ne hi) h1
        simp only
        cases h2 : openS s σ1 kLpar with
        | error r => rfl
        | ok σ2 =>
          have a2 := inv_open a1.2.1 h2
          simp only
          rw [ih f' σ2 a2.2.1 (by omega) (by omega)]
          cases h3 : typedS f' s σ2 with
          | error r => rfl
          | ok q =>
            obtain ⟨t, σ3⟩ := q
            have a3 := typed_mu _ a2.2.1 h3
            simp only
            cases h4 : wantS s σ3 kComma with
            | error r => rfl
            | ok σ4 =>
              have a4 := inv_want a3.2 h4
              simp only
              rw [ih f' σ4 a4.2.1 (by omega) (by omega)]
    · rfl
theorem typed_end {s : ByteArray} {σ : PS} (f : Nat) (h : AtEnd s σ) : EndT s (typedS (f + 1) s σ) := by
  unfold typedS
  rw [if_neg (by rw [h.1]; intro e; exact absurd e.1 (by decide)), is_end h, is_end h, is_end h]
  exact ⟨rfl, h.2.1⟩
def setK (f : Nat) (s : ByteArray) (σ : PS) : Except ER (Ty × PS) := bP (advS s σ) fun σ1 => bP (openS s σ1 kLpar) fun σ2 => bT (typedS f s σ2) fun t σ3 => bP (shutS s σ3 kRpar) fun σ4 => .ok (Ty.mk 5 ⟨#[]⟩ [t], σ4)
def pairK (f : Nat) (s : ByteArray) (σ : PS) : Except ER (Ty × PS) := bP (advS s σ) fun σ1 => bP (openS s σ1 kLpar) fun σ2 => bT (typedS f s σ2) fun t σ3 => bP (wantS s σ3 kComma) fun σ4 => bT (typedS f s σ4) fun u σ5 => bP (shutS s σ5 kRpar) fun σ6 => .ok (Ty.mk 4 ⟨#[]⟩ [t, u], σ6)
theorem typed_eq (f : Nat) (s : ByteArray) (σ : PS) : typedS (f + 1) s σ = if σ.k = 1 ∧ identB σ.tx = true then (bP (advS s σ) fun σ1 => .ok (Ty.mk 3 σ.tx [], σ1)) else if isS σ kInt = true then (bP (advS s σ) fun σ1 => .ok (Ty.mk 1 ⟨#[]⟩ [], σ1)) else if isS σ kSet = true then setK f s σ else if isS σ kPair = true then pairK f s σ else .error (false, σ.ta) := by
  rw [typedS]
  split
  · unfold bP; cases advS s σ <;> rfl
  split
  · unfold bP; cases advS s σ <;> rfl
  split
  · unfold setK bP bT
    cases advS s σ with
    | error r => rfl
    | ok σ1 =>
      simp only
      cases openS s σ1 kLpar with
      | error r => rfl
      | ok σ2 =>
        simp only
        cases typedS f s σ2 with
        | error r => rfl
        | ok q =>
          obtain ⟨x3, σ3⟩ := q
          simp only
          cases shutS s σ3 kRpar <;> rfl
  split
  · unfold pairK bP bT
    cases advS s σ with
    | error r => rfl
    | ok σ1 =>
      simp only
      cases openS s σ1 kLpar with
      | error r => rfl
      | ok σ2 =>
        simp only
        cases typedS f s σ2 with
        | error r => rfl
        | ok q =>
          obtain ⟨x3, σ3⟩ := q
          simp only
          cases wantS s σ3 kComma with
          | error r => rfl
          | ok σ4 =>
            simp only
            cases typedS f s σ4 with
            | error r => rfl
            | ok q =>
              obtain ⟨x5, σ5⟩ := q
              simp only
              cases shutS s σ5 kRpar <;> rfl
  rfl
theorem typed_rel {s s' : ByteArray} (hx : Ext s s') (f : Nat) : ∀ (σ : PS), σ.p ≤ s.size → σ.k ≠ 0 → mu s σ < f → RelT s (typedS f s σ) (typedS f s' σ) := by
  induction f with
  | zero => intro σ _ _ h; omega
  | succ f ih =>
    intro σ hp hk hm
    have one : ∀ t : Ty, RelT s (bP (advS s σ) fun σ1 => .ok (t, σ1)) (bP (advS s' σ) fun σ1 => .ok (t, σ1)) := fun t =>
      bP_rel (adv_rel hx hp) (fun σ h => h) fun σ1 _ k1 => ok_rel k1
    have hm1 : 1 ≤ mu s σ := by unfold mu; rw [if_neg hk]; omega
    obtain ⟨f, rfl⟩ : ∃ g, f = g + 1 := ⟨f - 1, by omega⟩
    rw [typed_eq, typed_eq]
    split
    · exact one _
    split
    · exact one _
    split
    · unfold setK
      have e2 : ∀ σ, AtEnd s σ → EndT s (bT (typedS (f + 1) s σ) fun t σ3 => bP (shutS s σ3 kRpar) fun σ4 => .ok (Ty.mk 5 ⟨#[]⟩ [t], σ4)) := fun σ h => bT_end (typed_end f h) fun t σ h => bP_end (shut_end h _) fun σ h => h
      refine bP_rel (adv_rel hx hp) (fun σ h => bP_end (open_end h _) e2) fun σ1 h1 k1 => ?_
      have a1 := inv_adv hp hk h1
      refine bP_rel (open_rel hx a1.2.1 _) e2 fun σ2 h2 k2 => ?_
      have a2 := inv_open a1.2.1 h2
      refine bT_rel (ih σ2 a2.2.1 k2 (by omega)) (fun t σ h => bP_end (shut_end h _) fun σ h => h) fun t σ3 h3 k3 => ?_
      have a3 := typed_mu _ a2.2.1 h3
      exact bP_rel (shut_rel hx a3.2 k3 _) (fun σ h => h) fun σ4 h4 k4 => ok_rel k4
    split
    · unfold pairK
      have e4 : ∀ (t : Ty) σ, AtEnd s σ → EndT s (bT (typedS (f + 1) s σ) fun u σ5 => bP (shutS s σ5 kRpar) fun σ6 => .ok (Ty.mk 4 ⟨#[]⟩ [t, u], σ6)) := fun t σ h => bT_end (typed_end f h) fun t σ h => bP_end (shut_end h _) fun σ h => h
      have e3 : ∀ (t : Ty) σ, AtEnd s σ → EndT s (bP (wantS s σ kComma) fun σ4 => bT (typedS (f + 1) s σ4) fun u σ5 => bP (shutS s σ5 kRpar) fun σ6 => .ok (Ty.mk 4 ⟨#[]⟩ [t, u], σ6)) := fun t σ h => bP_end (want_end h _) (e4 t)
      have e2 : ∀ σ, AtEnd s σ → EndT s (bT (typedS (f + 1) s σ) fun t σ3 => bP (wantS s σ3 kComma) fun σ4 => bT (typedS (f + 1) s σ4) fun u σ5 => bP (shutS s σ5 kRpar) fun σ6 => .ok (Ty.mk 4 ⟨#[]⟩ [t, u], σ6)) := fun σ h => bT_end (typed_end f h) e3
      refine bP_rel (adv_rel hx hp) (fun σ h => bP_end (open_end h _) e2) fun σ1 h1 k1 => ?_
      have a1 := inv_adv hp hk h1
      refine bP_rel (open_rel hx a1.2.1 _) e2 fun σ2 h2 k2 => ?_
      have a2 := inv_open a1.2.1 h2
      refine bT_rel (ih σ2 a2.2.1 k2 (by omega)) e3 fun t σ3 h3 k3 => ?_
      have a3 := typed_mu _ a2.2.1 h3
      refine bP_rel (want_rel hx a3.2 k3 _) (e4 t) fun σ4 h4 k4 => ?_
      have a4 := inv_want a3.2 h4
      refine bT_rel (ih σ4 a4.2.1 k4 (by omega)) (fun t σ h => bP_end (shut_end h _) fun σ h => h) fun t σ5 h5 k5 => ?_
      have a5 := typed_mu _ a4.2.1 h5
      exact bP_rel (shut_rel hx a5.2 k5 _) (fun σ h => h) fun σ6 h6 k6 => ok_rel k6
    · exact err_rel
theorem mu_pos {s : ByteArray} {σ : PS} (h : σ.k ≠ 0) : 1 ≤ mu s σ := by unfold mu; rw [if_neg h]; omega
def TE (s : ByteArray) (f : Nat) (T : TF) : Prop := ∀ n σ, 1 ≤ n → n ≤ 13 → 14 - n < f → AtEnd s σ → EndT s (T n σ)
def TR (s : ByteArray) (f : Nat) (T T' : TF) : Prop := ∀ n σ, 1 ≤ n → n ≤ 13 → 14 * mu s σ + (14 - n) < f → σ.p ≤ s.size → σ.k ≠ 0 → RelT s (T n σ) (T' n σ)
section
variable {s s' : ByteArray} {T T' : TF} {f : Nat}
theorem inside_eq (T : TF) (s o c : ByteArray) (σ : PS) : insideS T s o c σ = bP (openS s σ o) fun σ1 => bT (T 1 σ1) fun t σ2 => bP (shutS s σ2 c) fun σ3 => .ok (t, σ3) := by
  unfold insideS bP bT
  cases openS s σ o with
  | error r => rfl
  | ok σ1 =>
    simp only
    cases T 1 σ1 with
    | error r => rfl
    | ok q =>
      obtain ⟨x2, σ2⟩ := q
      simp only
      cases shutS s σ2 c <;> rfl
theorem inside_end {o c : ByteArray} {σ : PS} (h : AtEnd s σ) : EndT s (insideS T s o c σ) := by
  unfold insideS openS; rw [is_end h]; exact ⟨rfl, h.2.1⟩
theorem inside_rel (hx : Ext s s') (hI : TInv s T) (hE : TE s f T) (hR : TR s f T T') (o c : ByteArray) {σ : PS} (hp : σ.p ≤ s.size) (hk : σ.k ≠ 0) (hf : 14 * mu s σ ≤ f) : RelT s (insideS T s o c σ) (insideS T' s' o c σ) := by
  rw [inside_eq, inside_eq]
  have hm := mu_pos (s := s) hk
  refine bP_rel (open_rel hx hp o) (fun σ h => bT_end (hE _ _ (by decide) (by decide) (by omega) h) fun t σ h => bP_end (shut_end h _) fun σ h => h) fun σ1 h1 k1 => ?_
  have a1 := inv_open hp h1
  refine bT_rel (hR 1 σ1 (by decide) (by decide) (by omega) a1.2.1 k1) (fun t σ h => bP_end (shut_end h _) fun σ h => h) fun t σ2 h2 k2 => ?_
  have a2 := (hI _ _ _ _ a1.2.1 h2).1.2.1
  exact bP_rel (shut_rel hx a2 k2 _) (fun σ h => h) fun σ3 h3 k3 => ok_rel k3
theorem bound_eq (T : TF) (s : ByteArray) (op : Int) (σ : PS) : boundS T s op σ = bT (nameS s σ) fun x σ1 => bP (wantS s σ1 kIn) fun σ2 => bT (T 7 σ2) fun d σ3 => bP (wantS s σ3 kDot) fun σ4 => bT (T 1 σ4) fun c σ5 => .ok (.mk op x 0 ty0 [d, c], σ5) := by
  unfold boundS bP bT
  cases nameS s σ with
  | error r => rfl
  | ok q =>
    obtain ⟨x1, σ1⟩ := q
    simp only
    cases wantS s σ1 kIn with
    | error r => rfl
    | ok σ2 =>
      simp only
      cases T 7 σ2 with
      | error r => rfl
      | ok q =>
        obtain ⟨x3, σ3⟩ := q
        simp only
        cases wantS s σ3 kDot with
        | error r => rfl
        | ok σ4 =>
          simp only
          cases T 1 σ4 with
          | error r => rfl
          | ok q =>
            obtain ⟨x5, σ5⟩ := q
            rfl
theorem bound_end {op : Int} {σ : PS} (h : AtEnd s σ) : EndT s (boundS T s op σ) := by
  have := name_end h
  rw [bound_eq]
  refine bT_end this fun x σ h => ?_
  unfold wantS eatS; rw [is_end h]; exact ⟨rfl, h.2.1⟩
theorem bound_rel (hx : Ext s s') (hI : TInv s T) (hE : TE s f T) (hR : TR s f T T') (op : Int) {σ : PS} (hp : σ.p ≤ s.size) (hk : σ.k ≠ 0) (hf : 14 * mu s σ ≤ f) : RelT s (boundS T s op σ) (boundS T' s' op σ) := by
  rw [bound_eq, bound_eq]
  have hm := mu_pos (s := s) hk
  have ew : ∀ {t : ByteArray} (k : PS → RT) σ, AtEnd s σ → EndT s (bP (wantS s σ t) k) := by
    intro t k σ h; unfold wantS eatS; rw [is_end h]; exact ⟨rfl, h.2.1⟩
  refine bT_rel (name_rel hx hp) (fun x σ h => ew _ σ h) fun x σ1 h1 k1 => ?_
  have a1 := inv_name hp h1
  refine bP_rel (want_rel hx a1.2.1 k1 _) (fun σ h => bT_end (hE _ _ (by decide) (by decide) (by omega) h) fun t σ h => ew _ σ h) fun σ2 h2 k2 => ?_
  have a2 := inv_want a1.2.1 h2
  refine bT_rel (hR _ _ (by decide) (by decide) (by omega) a2.2.1 k2) (fun t σ h => ew _ σ h) fun t σ3 h3 k3 => ?_
  have a3 := (hI _ _ _ _ a2.2.1 h3).1
  unfold Inv at a3
  refine bP_rel (want_rel hx a3.2.1 k3 _) (fun σ h => bT_end (hE _ _ (by decide) (by decide) (by omega) h) fun t σ h => h) fun σ4 h4 k4 => ?_
  have a4 := inv_want a3.2.1 h4
  exact bT_rel (hR _ _ (by decide) (by decide) (by omega) a4.2.1 k4) (fun t σ h => h) fun t σ5 h5 k5 => ok_rel k5
theorem leaf_eq (s : ByteArray) (t : Tm) (σ : PS) : leafS s t σ = bP (advS s σ) fun σ1 => .ok (t, σ1) := by
  unfold leafS bP; cases advS s σ <;> rfl
theorem binder_eq (T : TF) (s : ByteArray) (op : Int) (σ : PS) : binderS T s op σ = bP (advS s σ) fun σ1 => boundS T s op σ1 := by
  unfold binderS bP; cases advS s σ <;> rfl
theorem leaf_rel (hx : Ext s s') (t : Tm) {σ : PS} (hp : σ.p ≤ s.size) : RelT s (leafS s t σ) (leafS s' t σ) := by
  rw [leaf_eq, leaf_eq]
  exact bP_rel (k := fun σ1 => .ok (t, σ1)) (k' := fun σ1 => .ok (t, σ1)) (adv_rel hx hp) (fun σ h => h) fun σ1 h1 k1 => ok_rel k1
theorem binder_rel (hx : Ext s s') (hI : TInv s T) (hE : TE s f T) (hR : TR s f T T') (op : Int) {σ : PS} (hp : σ.p ≤ s.size) (hk : σ.k ≠ 0) (hf : 14 * mu s σ ≤ f) : RelT s (binderS T s op σ) (binderS T' s' op σ) := by
  rw [binder_eq, binder_eq]
  exact bP_rel (k := fun σ1 => boundS T s op σ1) (k' := fun σ1 => boundS T' s' op σ1) (adv_rel hx hp) (fun σ h => bound_end h) fun σ1 h1 k1 => bound_rel hx hI hE hR op (inv_adv hp hk h1).2.1 k1 (by have := (inv_adv hp hk h1).1; omega)
def funK (T : TF) (s : ByteArray) (op : Int) (σ : PS) : RT := bP (advS s σ) fun σ1 => bT (insideS T s kLpar kRpar σ1) fun t σ2 => .ok (nd op [t], σ2)
theorem worded_eq (T : TF) (s : ByteArray) (σ : PS) : wordedS T s σ = if keywordB σ.tx = true then (if (functionN σ.tx != 0) = true then funK T s (functionN σ.tx) σ else if isS σ kTrue = true then leafS s (nd 1 []) σ else if isS σ kFalse = true then leafS s (nd 2 []) σ else if isS σ kForall = true then binderS T s 8 σ else if isS σ kExists = true then binderS T s 9 σ else if isS σ kFun = true then binderS T s 56 σ else .error (false, σ.ta)) else leafS s (.mk 20 σ.tx 0 ty0 []) σ := by
  unfold wordedS
  cases keywordB σ.tx
  · rfl
  cases (functionN σ.tx != 0)
  · cases isS σ kTrue <;> cases isS σ kFalse <;> cases isS σ kForall <;> cases isS σ kExists <;> cases isS σ kFun <;> rfl
  · simp only [if_true]
    unfold funK bP bT
    cases advS s σ with
    | error r => rfl
    | ok σ1 =>
      simp only
      cases insideS T s kLpar kRpar σ1 with
      | error r => rfl
      | ok q =>
        obtain ⟨x2, σ2⟩ := q
        rfl
theorem worded_rel (hx : Ext s s') (hI : TInv s T) (hE : TE s f T) (hR : TR s f T T') {σ : PS} (hp : σ.p ≤ s.size) (hk : σ.k ≠ 0) (hf : 14 * mu s σ ≤ f) : RelT s (wordedS T s σ) (wordedS T' s' σ) := by
  rw [worded_eq, worded_eq]
  split
  · split
    · unfold funK
      refine bP_rel (adv_rel hx hp) (fun σ h => bT_end (inside_end h) fun t σ h => h) fun σ1 h1 k1 => ?_
      have a1 := inv_adv hp hk h1
      exact bT_rel (inside_rel hx hI hE hR _ _ a1.2.1 k1 (by omega)) (fun t σ h => h) fun t σ2 h2 k2 => ok_rel k2
    split
    · exact leaf_rel hx _ hp
    split
    · exact leaf_rel hx _ hp
    split
    · exact binder_rel hx hI hE hR _ hp hk hf
    split
    · exact binder_rel hx hI hE hR _ hp hk hf
    split
    · exact binder_rel hx hI hE hR _ hp hk hf
    · exact err_rel
  · exact leaf_rel hx _ hp
theorem elems_eq (T : TF) (s : ByteArray) (g : Nat) (l : List Tm) (σ : PS) (h : isS σ kComma = true) : elemsS T s (g + 1) l σ = bP (advS s σ) fun σ1 => bT (T 1 σ1) fun t σ2 => elemsS T s g (l ++ [t]) σ2 := by
  rw [elemsS, h]
  unfold bP bT
  cases advS s σ with
  | error r => rfl
  | ok σ1 =>
    simp only
    cases T 1 σ1 with
    | error r => rfl
    | ok q =>
      obtain ⟨x2, σ2⟩ := q
      rfl
theorem elems_end {g : Nat} {l : List Tm} {σ : PS} (h : AtEnd s σ) : EndT s (elemsS T s (g + 1) l σ) := by
  unfold elemsS; rw [is_end h]; exact h
theorem elems_rel (hx : Ext s s') (hI : TInv s T) (hE : TE s f T) (hR : TR s f T T') (g : Nat) : ∀ (l : List Tm) (σ : PS), σ.p ≤ s.size → σ.k ≠ 0 → 14 * mu s σ ≤ f → mu s σ < g → RelT s (elemsS T s g l σ) (elemsS T' s' g l σ) := by
  induction g with
  | zero => intro l σ _ _ _ h; omega
  | succ g ih =>
    intro l σ hp hk hf hm
    have hm1 := mu_pos (s := s) hk
    cases hi : isS σ kComma
    · unfold elemsS; rw [hi]; exact ok_rel hk
    · rw [elems_eq _ _ _ _ _ hi, elems_eq _ _ _ _ _ hi]
      obtain ⟨g, rfl⟩ : ∃ k, g = k + 1 := ⟨g - 1, by unfold mu at hm; rw [if_neg hk] at hm; omega⟩
      refine bP_rel (adv_rel hx hp) (fun σ h => bT_end (hE _ _ (by decide) (by decide) (by omega) h) fun t σ h => elems_end h) fun σ1 h1 k1 => ?_
      have a1 := inv_adv hp hk h1
      refine bT_rel (hR _ _ (by decide) (by decide) (by omega) a1.2.1 k1) (fun t σ h => elems_end h) fun t σ2 h2 k2 => ?_
      have a2 := (hI _ _ _ _ a1.2.1 h2).1
      unfold Inv at a2
      exact ih _ σ2 a2.2.1 k2 (by omega) (by omega)
theorem elems_mono (hI : TInv s T) (g : Nat) : ∀ (g' : Nat) (l : List Tm) (σ : PS), σ.p ≤ s.size → mu s σ < g → g ≤ g' → elemsS T s g l σ = elemsS T s g' l σ := by
  induction g with
  | zero => intro g' l σ _ h; omega
  | succ g ih =>
    intro g' l σ hp hm hg
    obtain ⟨g', rfl⟩ : ∃ k, g' = k + 1 := ⟨g' - 1, by omega⟩
    cases hi : isS σ kComma
    · unfold elemsS; rw [hi]
    · rw [elems_eq _ _ _ _ _ hi, elems_eq _ _ _ _ _ hi]
      cases h1 : advS s σ with
      | error r => rfl
      | ok σ1 =>
        have a1 := inv_adv hp (isS_ne hi) h1
        simp only [bP]
        cases h2 : T 1 σ1 with
        | error r => rfl
        | ok q =>
          have a2 := (hI _ _ _ _ a1.2.1 h2).1
          unfold Inv at a2
          simp only [bT]
          exact ih g' _ q.2 a2.2.1 (by omega) (by omega)
def elemsK (T : TF) (s : ByteArray) (first : Tm) (σ : PS) : RT := bT (elemsS T s (s.size + 2) [first] σ) fun l σ1 => bP (shutS s σ1 kRcu) fun σ2 => .ok (nd 28 l, σ2)
theorem elements_eq (T : TF) (s : ByteArray) (first : Tm) (bare : Bool) (σ : PS) : elementsS T s first bare σ = if (isS σ kBar && bare && headB first) = true then bP (advS s σ) fun σ1 => bT (T 1 σ1) fun c σ2 => bP (shutS s σ2 kRcu) fun σ3 => .ok (.mk 55 ((first.kids.getD 0 first).name) 0 ty0 [first.kids.getD 1 first, c], σ3) else elemsK T s first σ := by
  unfold elementsS
  cases (isS σ kBar && bare && headB first)
  · unfold elemsK bP bT
    simp only [Bool.false_eq_true, if_false]
    cases elemsS T s (s.size + 2) [first] σ with
    | error r => rfl
    | ok q =>
      obtain ⟨x1, σ1⟩ := q
      simp only
      cases shutS s σ1 kRcu <;> rfl
  · unfold bP bT
    simp only [if_true]
    cases advS s σ with
    | error r => rfl
    | ok σ1 =>
      simp only
      cases T 1 σ1 with
      | error r => rfl
      | ok q =>
        obtain ⟨x2, σ2⟩ := q
        simp only
        cases shutS s σ2 kRcu <;> rfl
theorem elements_end {first : Tm} {bare : Bool} {σ : PS} (h : AtEnd s σ) : EndT s (elementsS T s first bare σ) := by
  rw [elements_eq, is_end h, if_neg (by simp)]
  exact bT_end (elems_end h) fun l σ h => bP_end (shut_end h _) fun σ h => h
theorem elements_rel (hx : Ext s s') (hI : TInv s T) (hI' : TInv s' T') (hE : TE s f T) (hR : TR s f T T') (first : Tm) (bare : Bool) {σ : PS} (hp : σ.p ≤ s.size) (hk : σ.k ≠ 0) (hf : 14 * mu s σ ≤ f) : RelT s (elementsS T s first bare σ) (elementsS T' s' first bare σ) := by
  rw [elements_eq, elements_eq]
  have hm := mu_pos (s := s) hk
  split
  · refine bP_rel (adv_rel hx hp) (fun σ h => bT_end (hE _ _ (by decide) (by decide) (by omega) h) fun t σ h => bP_end (shut_end h _) fun σ h => h) fun σ1 h1 k1 => ?_
    have a1 := inv_adv hp hk h1
    refine bT_rel (hR _ _ (by decide) (by decide) (by omega) a1.2.1 k1) (fun t σ h => bP_end (shut_end h _) fun σ h => h) fun t σ2 h2 k2 => ?_
    exact bP_rel (shut_rel hx (hI _ _ _ _ a1.2.1 h2).1.2.1 k2 _) (fun σ h => h) fun σ3 h3 k3 => ok_rel k3
  · unfold elemsK
    have hz := hx.lt
    rw [elems_mono hI (s.size + 2) (s'.size + 2) [first] σ hp (by have := mu_le s σ; omega) (by omega)]
    refine bT_rel (elems_rel hx hI hE hR _ _ σ hp hk hf (by have := mu_le s σ; omega)) (fun l σ h => bP_end (shut_end h _) fun σ h => h) fun l σ1 h1 k1 => ?_
    exact bP_rel (shut_rel hx (inv_elems hI _ hp h1).2.1 k1 _) (fun σ h => h) fun σ2 h2 k2 => ok_rel k2
def emptyK (s : ByteArray) (σ1 : PS) : RT := bP (advS s σ1) fun σ2 => bP (openS s { σ2 with nest := σ2.nest - 1 } kLbr) fun σ3 => bT (typedS (s.size + 2) s σ3) fun t σ4 => bP (shutS s σ4 kRbr) fun σ5 => .ok (.mk 29 nil0 0 t [], σ5)
theorem braces_eq (T : TF) (s : ByteArray) (σ : PS) : bracesS T s σ = bP (openS s σ kLcu) fun σ1 => if isS σ1 kRcu = true then emptyK s σ1 else bT (T 1 σ1) fun t σ2 => elementsS T s t (σ1.k == 1) σ2 := by
  unfold bracesS
  cases openS s σ kLcu with
  | error r => rfl
  | ok σ1 =>
    simp only [bP]
    cases isS σ1 kRcu
    · simp only [Bool.false_eq_true, if_false]
      unfold bT
      cases T 1 σ1 with
      | error r => rfl
      | ok q => rfl
    · simp only [if_true]
      unfold emptyK bP bT
      cases advS s σ1 with
      | error r => rfl
      | ok σ1 =>
        simp only
        cases openS s { σ1 with nest := σ1.nest - 1 } kLbr with
        | error r => rfl
        | ok σ2 =>
          simp only
          cases typedS (s.size + 2) s σ2 with
          | error r => rfl
          | ok q =>
            obtain ⟨x3, σ3⟩ := q
            simp only
            cases shutS s σ3 kRbr <;> rfl
theorem braces_end {σ : PS} (h : AtEnd s σ) : EndT s (bracesS T s σ) := by
  unfold bracesS openS; rw [is_end h]; exact ⟨rfl, h.2.1⟩
theorem braces_rel (hx : Ext s s') (hI : TInv s T) (hI' : TInv s' T') (hE : TE s f T) (hR : TR s f T T') {σ : PS} (hp : σ.p ≤ s.size) (hk : σ.k ≠ 0) (hf : 14 * mu s σ ≤ f) : RelT s (bracesS T s σ) (bracesS T' s' σ) := by
  rw [braces_eq, braces_eq]
  have hm := mu_pos (s := s) hk
  refine bP_rel (open_rel hx hp _) (fun σ h => ?_) fun σ1 h1 k1 => ?_
  · rw [is_end h]; exact bT_end (hE _ _ (by decide) (by decide) (by omega) h) fun t σ h => elements_end h
  have a1 := inv_open hp h1
  split
  · unfold emptyK
    have et : ∀ σ, AtEnd s σ → EndT s (bT (typedS (s.size + 2) s σ) fun t σ4 => bP (shutS s σ4 kRbr) fun σ5 => .ok (Tm.mk 29 nil0 0 t [], σ5)) := fun σ h => bT_end (typed_end _ h) fun t σ h => bP_end (shut_end h _) fun σ h => h
    refine bP_rel (adv_rel hx a1.2.1) (fun σ h => bP_end (open_end (σ := { σ with nest := σ.nest - 1 }) h _) et) fun σ2 h2 k2 => ?_
    have a2 := inv_adv a1.2.1 k1 h2
    refine bP_rel (open_rel hx (σ := { σ2 with nest := σ2.nest - 1 }) a2.2.1 _) et fun σ3 h3 k3 => ?_
    have a3 := inv_open (σ := { σ2 with nest := σ2.nest - 1 }) a2.2.1 h3
    have hz := hx.lt
    have hm3 := mu_le s σ3
    rw [typed_mono (s.size + 2) (s'.size + 2) σ3 a3.2.1 (by omega) (by omega)]
    refine bT_rel (typed_rel hx _ σ3 a3.2.1 k3 (by omega)) (fun t σ h => bP_end (shut_end h _) fun σ h => h) fun t σ4 h4 k4 => ?_
    exact bP_rel (shut_rel hx (typed_mu _ a3.2.1 h4).2 k4 _) (fun σ h => h) fun σ5 h5 k5 => ok_rel k5
  · refine bT_rel (hR _ _ (by decide) (by decide) (by omega) a1.2.1 k1) (fun t σ h => elements_end h) fun t σ2 h2 k2 => ?_
    have a2 := (hI _ _ _ _ a1.2.1 h2).1
    unfold Inv at a2
    exact elements_rel hx hI hI' hE hR t _ a2.2.1 k2 (by omega)
theorem atom_end {σ : PS} (h : AtEnd s σ) : EndT s (atomS T s σ) := by
  unfold atomS
  rw [h.1, is_end h, is_end h]
  exact ⟨rfl, h.2.1⟩
theorem atom_rel (hx : Ext s s') (hI : TInv s T) (hI' : TInv s' T') (hE : TE s f T) (hR : TR s f T T') {σ : PS} (hp : σ.p ≤ s.size) (hk : σ.k ≠ 0) (hf : 14 * mu s σ ≤ f) : RelT s (atomS T s σ) (atomS T' s' σ) := by
  unfold atomS
  split
  · exact leaf_rel hx _ hp
  · split
    · exact worded_rel hx hI hE hR hp hk hf
    · split
      · exact inside_rel hx hI hE hR _ _ hp hk hf
      · split
        · exact braces_rel hx hI hI' hE hR hp hk hf
        · exact err_rel
theorem after_eq (T : TF) (s : ByteArray) (g : Nat) (t : Tm) (σ : PS) : afterS T s (g + 1) t σ = if isS σ kLpar = true then bT (insideS T s kLpar kRpar σ) fun u σ1 => afterS T s g (nd 54 [t, u]) σ1 else if isS σ kLbr = true then bT (insideS T s kLbr kRbr σ) fun u σ1 => afterS T s g (nd 53 [t, u]) σ1 else if isS σ kTilde = true then bP (advS s σ) fun σ1 => afterS T s g (nd 52 [t]) σ1 else .ok (t, σ) := by
  rw [afterS]
  cases isS σ kLpar
  · cases isS σ kLbr
    · cases isS σ kTilde
      · rfl
      · simp only [Bool.false_eq_true, if_false, if_true]
        unfold bP; cases advS s σ <;> rfl
    · simp only [Bool.false_eq_true, if_false, if_true]
      unfold bT; cases insideS T s kLbr kRbr σ <;> rfl
  · simp only [if_true]
    unfold bT; cases insideS T s kLpar kRpar σ <;> rfl
theorem after_end {g : Nat} {t : Tm} {σ : PS} (h : AtEnd s σ) : EndT s (afterS T s (g + 1) t σ) := by
  rw [after_eq, is_end h, is_end h, is_end h]; exact h
theorem after_rel (hx : Ext s s') (hI : TInv s T) (hE : TE s f T) (hR : TR s f T T') (g : Nat) : ∀ (t : Tm) (σ : PS), σ.p ≤ s.size → σ.k ≠ 0 → 14 * mu s σ ≤ f → mu s σ < g → RelT s (afterS T s g t σ) (afterS T' s' g t σ) := by
  induction g with
  | zero => intro l σ _ _ _ h; omega
  | succ g ih =>
    intro t σ hp hk hf hm
    have hm1 := mu_pos (s := s) hk
    obtain ⟨g, rfl⟩ : ∃ k, g = k + 1 := ⟨g - 1, by unfold mu at hm; rw [if_neg hk] at hm; omega⟩
    rw [after_eq, after_eq]
    split
    · refine bT_rel (inside_rel hx hI hE hR _ _ hp hk hf) (fun t σ h => after_end h) fun u σ1 h1 k1 => ?_
      have a1 := (inv_inside hI hp h1).1
      unfold Inv1 at a1
      exact ih _ σ1 a1.2.1 k1 (by omega) (by omega)
    split
    · refine bT_rel (inside_rel hx hI hE hR _ _ hp hk hf) (fun t σ h => after_end h) fun u σ1 h1 k1 => ?_
      have a1 := (inv_inside hI hp h1).1
      unfold Inv1 at a1
      exact ih _ σ1 a1.2.1 k1 (by omega) (by omega)
    split
    · refine bP_rel (adv_rel hx hp) (fun σ h => after_end h) fun σ1 h1 k1 => ?_
      have a1 := inv_adv hp hk h1
      exact ih _ σ1 a1.2.1 k1 (by omega) (by omega)
    · exact ok_rel hk
theorem after_mono (hI : TInv s T) (g : Nat) : ∀ (g' : Nat) (t : Tm) (σ : PS), σ.p ≤ s.size → mu s σ < g → g ≤ g' → afterS T s g t σ = afterS T s g' t σ := by
  induction g with
  | zero => intro g' l σ _ h; omega
  | succ g ih =>
    intro g' t σ hp hm hg
    obtain ⟨g', rfl⟩ : ∃ k, g' = k + 1 := ⟨g' - 1, by omega⟩
    rw [after_eq, after_eq]
    split
    · cases h1 : insideS T s kLpar kRpar σ with
      | error r => rfl
      | ok q =>
        have a1 := (inv_inside hI hp h1).1
        unfold Inv1 at a1
        exact ih g' _ q.2 a1.2.1 (by omega) (by omega)
    split
    · cases h1 : insideS T s kLbr kRbr σ with
      | error r => rfl
      | ok q =>
        have a1 := (inv_inside hI hp h1).1
        unfold Inv1 at a1
        exact ih g' _ q.2 a1.2.1 (by omega) (by omega)
    split
    · rename_i hi
      cases h1 : advS s σ with
      | error r => rfl
      | ok σ1 =>
        have a1 := inv_adv hp (isS_ne hi) h1
        exact ih g' _ σ1 a1.2.1 (by omega) (by omega)
    · rfl
theorem rest_eq (T : TF) (s : ByteArray) (n g : Nat) (t : Tm) (σ : PS) : restS T s n (g + 1) t σ = if (opOf n σ == 0) = true then .ok (t, σ) else bP (advS s σ) fun σ1 => bT (T (if lvGroup n = 2 then n else n + 1) σ1) fun u σ2 => if (lvGroup n != 1) = true then .ok (nd (opOf n σ) [t, u], σ2) else restS T s n g (nd (opOf n σ) [t, u]) σ2 := by
  rw [restS]
  cases (opOf n σ == 0)
  · simp only [Bool.false_eq_true, if_false]
    unfold bP bT
    cases advS s σ with
    | error r => rfl
    | ok σ1 =>
      simp only
      cases T (if lvGroup n = 2 then n else n + 1) σ1 with
      | error r => rfl
      | ok q => cases (lvGroup n != 1) <;> rfl
  · rfl
theorem op_end {n : Nat} {σ : PS} (h : AtEnd s σ) : (opOf n σ == 0) = true := by
  cases e : (opOf n σ == 0)
  · exact absurd h.1 (opGo_ne (ne_of_beq_false e))
  · rfl
theorem rest_end {n g : Nat} {t : Tm} {σ : PS} (h : AtEnd s σ) : EndT s (restS T s n (g + 1) t σ) := by
  rw [rest_eq, op_end h]; exact h
theorem rest_rel {N : Nat} (hn1 : ∀ n, n = (if lvGroup N = 2 then N else N + 1) → 1 ≤ n ∧ n ≤ 13) (hx : Ext s s') (hI : TInv s T) (hE : TE s f T) (hR : TR s f T T') (g : Nat) : ∀ (t : Tm) (σ : PS), σ.p ≤ s.size → σ.k ≠ 0 → 14 * mu s σ ≤ f → mu s σ < g → RelT s (restS T s N g t σ) (restS T' s' N g t σ) := by
  induction g with
  | zero => intro l σ _ _ _ h; omega
  | succ g ih =>
    intro t σ hp hk hf hm
    have hm1 := mu_pos (s := s) hk
    obtain ⟨g, rfl⟩ : ∃ k, g = k + 1 := ⟨g - 1, by unfold mu at hm; rw [if_neg hk] at hm; omega⟩
    rw [rest_eq, rest_eq]
    split
    · exact ok_rel hk
    have ek : ∀ u σ2, AtEnd s σ2 → EndT s (if (lvGroup N != 1) = true then (.ok (nd (opOf N σ) [t, u], σ2) : RT) else restS T s N (g + 1) (nd (opOf N σ) [t, u]) σ2) := by
      intro u σ2 h
      split
      · exact h
      · exact rest_end h
    refine bP_rel (adv_rel hx hp) (fun σ h => bT_end (hE _ _ (hn1 _ rfl).1 (hn1 _ rfl).2 (by have := (hn1 _ rfl).1; omega) h) ek) fun σ1 h1 k1 => ?_
    have a1 := inv_adv hp hk h1
    refine bT_rel (hR _ _ (hn1 _ rfl).1 (hn1 _ rfl).2 (by have := (hn1 _ rfl).1; omega) a1.2.1 k1) ek fun u σ2 h2 k2 => ?_
    have a2 := (hI _ _ _ _ a1.2.1 h2).1
    unfold Inv at a2
    split
    · exact ok_rel k2
    · exact ih _ σ2 a2.2.1 k2 (by omega) (by omega)
theorem rest_mono (hI : TInv s T) (n g : Nat) : ∀ (g' : Nat) (t : Tm) (σ : PS), σ.p ≤ s.size → mu s σ < g → g ≤ g' → restS T s n g t σ = restS T s n g' t σ := by
  induction g with
  | zero => intro g' l σ _ h; omega
  | succ g ih =>
    intro g' t σ hp hm hg
    obtain ⟨g', rfl⟩ : ∃ k, g' = k + 1 := ⟨g' - 1, by omega⟩
    rw [rest_eq, rest_eq]
    split
    · rfl
    rename_i ho
    cases h1 : advS s σ with
    | error r => rfl
    | ok σ1 =>
      have a1 := inv_adv hp (opGo_ne (ne_of_beq_false (Bool.eq_false_iff.2 ho))) h1
      simp only [bP]
      cases h2 : T (if lvGroup n = 2 then n else n + 1) σ1 with
      | error r => rfl
      | ok q =>
        have a2 := (hI _ _ _ _ a1.2.1 h2).1
        unfold Inv at a2
        simp only [bT]
        split
        · rfl
        · exact ih g' _ q.2 a2.2.1 (by omega) (by omega)
end
theorem term5_eq (f : Nat) (s : ByteArray) (σ : PS) : termS (f + 1) s 5 σ = if isS σ kNot = true then bP (advS s σ) fun σ1 => bT (termS f s 5 σ1) fun t σ2 => .ok (nd 3 [t], σ2) else termS f s 6 σ := by
  rw [termS]; simp only [show ((5 : Nat) == 5) = true from rfl]
  cases isS σ kNot
  · rfl
  · simp only [if_true]
    unfold bP bT
    cases advS s σ with
    | error r => rfl
    | ok σ1 =>
      simp only
      cases termS f s 5 σ1 with
      | error r => rfl
      | ok q =>
        obtain ⟨x2, σ2⟩ := q
        rfl
theorem term13_eq (f : Nat) (s : ByteArray) (σ : PS) : termS (f + 1) s 13 σ = if isS σ kMinus = true then bP (advS s σ) fun σ1 => bT (termS f s 13 σ1) fun t σ2 => .ok (nd 21 [t], σ2) else bT (atomS (termS f s) s σ) fun t σ1 => afterS (termS f s) s (s.size + 2) t σ1 := by
  rw [termS]; simp only [show ((13 : Nat) == 5) = false from rfl, show ((13 : Nat) == 13) = true from rfl]
  cases isS σ kMinus
  · simp only [Bool.false_eq_true, if_false]
    unfold bT
    cases atomS (termS f s) s σ <;> rfl
  · simp only [if_true]
    unfold bP bT
    cases advS s σ with
    | error r => rfl
    | ok σ1 =>
      simp only
      cases termS f s 13 σ1 with
      | error r => rfl
      | ok q =>
        obtain ⟨x2, σ2⟩ := q
        rfl
theorem termn_eq (f : Nat) (s : ByteArray) (n : Nat) (σ : PS) (h5 : n ≠ 5) (h13 : n ≠ 13) : termS (f + 1) s n σ = bT (termS f s (n + 1) σ) fun t σ1 => restS (termS f s) s n (s.size + 2) t σ1 := by
  rw [termS]; simp only [beq_false_of_ne h5, beq_false_of_ne h13]
  unfold bT
  cases termS f s (n + 1) σ <;> rfl
theorem lv_next (N : Nat) (h1 : 1 ≤ N) (h2 : N ≤ 12) : ∀ n, n = (if lvGroup N = 2 then N else N + 1) → 1 ≤ n ∧ n ≤ 13 := by
  rintro n rfl; split <;> omega
theorem term_end (f : Nat) : ∀ (s : ByteArray), TE s f (termS f s) := by
  induction f with
  | zero => intro s n σ _ _ h; omega
  | succ f ih =>
    intro s n σ h1 h13 hf h
    by_cases e5 : n = 5
    · subst e5
      rw [term5_eq, is_end h, if_neg (by simp)]
      exact ih s 6 σ (by decide) (by decide) (by omega) h
    by_cases e13 : n = 13
    · subst e13
      rw [term13_eq, is_end h, if_neg (by simp)]
      exact bT_end (atom_end h) fun t σ h => after_end h
    rw [termn_eq f s n σ e5 e13]
    exact bT_end (ih s (n + 1) σ (by omega) (by omega) (by omega) h) fun t σ h => rest_end h
theorem term_rel {s s' : ByteArray} (hx : Ext s s') (f : Nat) : TR s f (termS f s) (termS f s') := by
  induction f with
  | zero => intro n σ _ _ h; omega
  | succ f ih =>
    intro n σ h1 h13 hf hp hk
    have hm := mu_pos (s := s) hk
    have hI := inv_term f s
    have hI' := inv_term f s'
    have hE := term_end f s
    have hz := hx.lt
    by_cases e5 : n = 5
    · subst e5
      rw [term5_eq, term5_eq]
      split
      · refine bP_rel (adv_rel hx hp) (fun σ h => bT_end (hE _ _ (by decide) (by decide) (by omega) h) fun t σ h => h) fun σ1 h1 k1 => ?_
        have a1 := inv_adv hp hk h1
        exact bT_rel (ih _ _ (by decide) (by decide) (by omega) a1.2.1 k1) (fun t σ h => h) fun t σ2 h2 k2 => ok_rel k2
      · exact ih 6 σ (by decide) (by decide) (by omega) hp hk
    by_cases e13 : n = 13
    · subst e13
      rw [term13_eq, term13_eq]
      split
      · refine bP_rel (adv_rel hx hp) (fun σ h => bT_end (hE _ _ (by decide) (by decide) (by omega) h) fun t σ h => h) fun σ1 h1 k1 => ?_
        have a1 := inv_adv hp hk h1
        exact bT_rel (ih _ _ (by decide) (by decide) (by omega) a1.2.1 k1) (fun t σ h => h) fun t σ2 h2 k2 => ok_rel k2
      · refine bT_rel (atom_rel hx hI hI' hE ih hp hk (by omega)) (fun t σ h => after_end h) fun t σ1 h1 k1 => ?_
        have a1 := (inv_atom hI hp h1).1
        unfold Inv1 at a1
        have m1 := mu_le s σ1
        rw [after_mono hI (s.size + 2) (s'.size + 2) t σ1 a1.2.1 (by omega) (by omega)]
        exact after_rel hx hI hE ih _ t σ1 a1.2.1 k1 (by omega) (by omega)
    rw [termn_eq f s n σ e5 e13, termn_eq f s' n σ e5 e13]
    refine bT_rel (ih _ _ (by omega) (by omega) (by omega) hp hk) (fun t σ h => rest_end h) fun t σ1 h1' k1 => ?_
    have a1 := (hI _ _ _ _ hp h1').1
    unfold Inv at a1
    have m1 := mu_le s σ1
    rw [rest_mono hI n (s.size + 2) (s'.size + 2) t σ1 a1.2.1 (by omega) (by omega)]
    exact rest_rel (lv_next n h1 (by omega)) hx hI hE ih _ t σ1 a1.2.1 k1 (by omega) (by omega)
/-- A parser at the head of its source. -/
def ps0 : PS := ⟨0, 0, nil0, 0, 0, 0⟩
/-- What read and Parse's closure do: the term of a whole source, or where it is wrong. -/
def wholeS (f : Nat) (s : ByteArray) : Except ER (Tm × PS) := bP (advS s ps0) fun σ1 => bT (termS f s 1 σ1) fun t σ2 => if σ2.k = 0 then .ok (t, σ2) else .error (false, σ2.ta)
theorem whole_end {f : Nat} {s : ByteArray} (t : Tm) (σ : PS) (h : AtEnd s σ) : EndT s (if σ.k = 0 then (.ok (t, σ) : RT) else .error (false, σ.ta)) := by
  rw [if_pos h.1]; exact h
theorem whole_rel {s s' : ByteArray} (hx : Ext s s') (f : Nat) (hf : 14 * (s.size + 2) < f) {r : ER} (h : wholeS f s = .error r) : wholeS f s' = .error r ∨ EndE s r := by
  have key : RelT s (wholeS f s) (wholeS f s') := by
    refine bP_rel (adv_rel hx (Nat.zero_le _)) (fun σ h => bT_end (term_end f s _ _ (by decide) (by decide) (by omega) h) fun t σ h => whole_end (f := f) t σ h) fun σ1 h1 k1 => ?_
    have a1 := adv_le (σ := ps0) (Nat.zero_le _) h1
    have m1 := mu_le s σ1
    refine bT_rel (term_rel hx f _ _ (by decide) (by decide) (by omega) a1 k1) (fun t σ h => whole_end (f := f) t σ h) fun t σ2 h2 k2 => ?_
    rw [if_neg k2]
    exact err_rel
  rcases key with k | ⟨k, _⟩
  · rw [h] at k; exact Or.inr k
  · rw [h] at k; exact Or.inl k.symm
end Go.Proofs.YtckjlliobebodaaGreatDoor
/- read and Parse's closure: a whole source. -/
set_option linter.unusedVariables false
set_option linter.unusedSimpArgs false
namespace Go.Proofs.YtckjlliobebodaaGreatDoor
open Go.RowKit
def CPost {α : Type} (b : Nat) (s : ByteArray) (S : Nat → Prop) (V : α → World → Prop) (q : Except ER (α × PS)) (w : World) (e : Ending) (w' : World) : Prop :=
  match q with
  | .ok (a, σ') => e = .returned (.tuple #[]) ∧ V a w' ∧ PW w' b s σ' ∧ Kept S w w'
  | .error r => e = .panicked [pan r.1 r.2] ∧ Kept S w w'
section
variable {α : Type} {b : Nat} {s : ByteArray} {S : Nat → Prop} {V : α → World → Prop} {q : Except ER (α × PS)} {w w' : World} {e : Ending}
theorem CPost.ok {a : α} {σ' : PS} (hq : q = .ok (a, σ')) (h : e = .returned (.tuple #[]) ∧ V a w' ∧ PW w' b s σ' ∧ Kept S w w') : CPost b s S V q w e w' := by subst hq; exact h
theorem CPost.err {r : ER} (hq : q = .error r) (h : e = .panicked [pan r.1 r.2] ∧ Kept S w w') : CPost b s S V q w e w' := by subst hq; exact h
theorem CPost.getOk {a : α} {σ' : PS} (h : CPost b s S V q w e w') (hq : q = .ok (a, σ')) : e = .returned (.tuple #[]) ∧ V a w' ∧ PW w' b s σ' ∧ Kept S w w' := by subst hq; exact h
theorem CPost.getErr {r : ER} (h : CPost b s S V q w e w') (hq : q = .error r) : e = .panicked [pan r.1 r.2] ∧ Kept S w w' := by subst hq; exact h
end
/-- The term lies in the block o. -/
def Lies (o n : Nat) (t : Tm) (w : World) : Prop := ∃ tk kk, Blk w o 27 (tmCells t tk kk) ∧ TyL (fun k => n ≤ k) w t.ty.kids tk ∧ TmL (fun k => n ≤ k) w t.kids kk
set_option maxRecDepth 100000 in
set_option maxHeartbeats 4000000 in
theorem parse1_any {b o f : Nat} {s : ByteArray} {σ : PS} {w : World} {z : List Value} (hs : s.size ≤ 65536) (h : PW w b s σ) (hf : 14 * mu s σ + 13 < f) (hz : z.length = 7) (ho : Blk w o 27 z) (hob : o ≠ b) (ho2 : 2 ≤ o) :
    Calls Tryz.prog 32 #[.pointer (some ⟨b, 0, none⟩), .pointer (some ⟨o, 0, none⟩)] w (CPost b s (fun k => k = b ∨ k = o) (Lies o w.heap.size) (termS f s 1 σ) w) := by
  have hlt := h.lt
  have holt := ho.lt
  go_enter Tryz.func32, Tryz.ntmps32
  go_wp2_with fail
  refine (term_any hs f 1 1 rfl σ w (by decide) (by decide) h (by omega)).mono ?_
  rintro e w1 hr
  cases h_1 : termS f s 1 σ with
  | error r =>
    obtain ⟨rfl, k1⟩ := hr.getErr h_1
    go_wp2_with fail
    exact ⟨rfl, CPost.err h_1 ⟨rfl, k1.mono (fun _ _ h => Or.inl h)⟩⟩
  | ok q =>
    obtain ⟨t, σ1⟩ := q
    obtain ⟨v, rfl, ⟨tk, kk, rfl, at1, ct1⟩, p1, k1⟩ := hr.getOk h_1
    clear hr
    obtain ⟨ta1, tn1, tc1, rfl⟩ := at1.slice
    obtain ⟨ma1, mn1, mc1, rfl⟩ := ct1.slice
    unfold tmVal
    have hO := ho.kept k1 (by show ¬ o = b; exact hob)
    have HZ := Lib.hid hz
    clear hz
    have g : ∀ i, i < 7 → ∃ u, w1.cell? ⟨o, i, none⟩ = some u := by
      intro i hi
      exact ⟨z[i]'(by rw [HZ.out]; exact hi), by rw [hO.cell i]; exact List.getElem?_eq_getElem _⟩
    obtain ⟨u0, g0⟩ := g 0 (by decide)
    obtain ⟨u1, g1⟩ := g 1 (by decide)
    obtain ⟨u2, g2⟩ := g 2 (by decide)
    obtain ⟨u3, g3⟩ := g 3 (by decide)
    obtain ⟨u4, g4⟩ := g 4 (by decide)
    obtain ⟨u5, g5⟩ := g 5 (by decide)
    obtain ⟨u6, g6⟩ := g 6 (by decide)
    clear g
    have f0 := hO.frozen 0
    have f1 := hO.frozen 1
    have f2 := hO.frozen 2
    have f3 := hO.frozen 3
    have f4 := hO.frozen 4
    have f5 := hO.frozen 5
    have f6 := hO.frozen 6
    go_wp2_with fail
    go_end0
    have hR := r7 (x0 := .int .i64 t.op) (x1 := .string t.name) (x2 := .int .i64 t.n) (x3 := .int .i64 t.ty.kind) (x4 := .string t.ty.name) (x5 := .slice ta1 tn1 tc1) (x6 := .slice ma1 mn1 mc1) hO HZ.out
    exact CPost.ok h_1 ⟨rfl, ⟨_, _, hR, at1.frame (same7 holt), ct1.frame (same7 holt)⟩, p7w p1 hob ho2, k7w (k1.mono (fun _ _ h => Or.inl h)) (Or.inl (Or.inr rfl))⟩
theorem results_cc {P : Program} {fn : Func} {p q : Tmp} {ty tz : TypeId} (h : fn.results = #[.cell p ty, .cell q tz]) {tmps : Array Value} {a b : Addr} (ha : tmps.getD p undef = .pointer (some a)) (hb : tmps.getD q undef = .pointer (some b)) {v u : Value} {W : World}
    (hl : (loadVar ty a).run P W = .ok v W) (hm : (loadVar tz b).run P W = .ok u W) : (results fn tmps).run P W = .ok (.tuple #[v, u]) W := by
  have e : results fn tmps = (do let v ← (do loadVar ty (← asAddr (tmps.getD p undef))); let u ← (do loadVar tz (← asAddr (tmps.getD q undef))); pure (Value.tuple #[v, u])) := by
    unfold results; rw [h]; simp
  rw [e, ha, hb]
  show (loadVar ty a >>= fun v => loadVar tz b >>= fun u => pure (Value.tuple #[v, u])).run P W = _
  rw [Sem.run_bind, hl]
  show (loadVar tz b >>= fun u => pure (Value.tuple #[v, u])).run P W = _
  rw [Sem.run_bind, hm]
  rfl
theorem results_ctt {P : Program} {fn : Func} {p q r : Tmp} {ty : TypeId} (h : fn.results = #[.cell p ty, .tmp q, .tmp r]) {tmps : Array Value} {a : Addr} (ha : tmps.getD p undef = .pointer (some a)) {v : Value} {W : World}
    (hl : (loadVar ty a).run P W = .ok v W) : (results fn tmps).run P W = .ok (.tuple #[v, tmps.getD q undef, tmps.getD r undef]) W := by
  have e : results fn tmps = (do let v ← (do loadVar ty (← asAddr (tmps.getD p undef))); pure (Value.tuple #[v, tmps.getD q undef, tmps.getD r undef])) := by
    unfold results; rw [h]; simp
  rw [e, ha]
  show (loadVar ty a >>= fun v => pure (Value.tuple #[v, tmps.getD q undef, tmps.getD r undef])).run P W = _
  rw [Sem.run_bind, hl]
  rfl
def wholeF {α : Type} (s : ByteArray) (F : PS → Except ER (α × PS)) : Except ER (α × PS) := bP (advS s ps0) fun σ1 => bT (F σ1) fun a σ2 => if σ2.k = 0 then .ok (a, σ2) else .error (false, σ2.ta)
theorem load_i {W : World} {A : Nat} {x : Int} (h : Blk W A 3 [.int .i64 x]) : (loadVar 3 ⟨A, 0, none⟩).run Tryz.prog W = .ok (.int .i64 x) W := by
  have := h.cell 0
  simp [go_sem, this]
theorem load_e {W : World} {A : Nat} {x : Int} (h : Blk W A 28 [.int .i64 x]) : (loadVar 28 ⟨A, 0, none⟩).run Tryz.prog W = .ok (.int .i64 x) W := by
  have := h.cell 0
  simp [go_sem, this]
def rdAt {α : Type} : Except ER (α × PS) → Int
  | .ok _ => 0
  | .error r => r.2
def rdE {α : Type} : Except ER (α × PS) → Int
  | .ok _ => 0
  | .error r => if r.1 then 4 else 2
/-- The door of read: a panic of the parser is turned into an error. -/
theorem rd_err {r : ER} (A E : Nat) (x y : Int) (w : World) (lA : A < w.heap.size) (lE : E < w.heap.size) (hAE : A ≠ E) (hA : w.cell? ⟨A, 0, none⟩ = some (.int .i64 x)) (hE : w.cell? ⟨E, 0, none⟩ = some (.int .i64 y)) (fA : w.frozen? ⟨A, 0, none⟩ = false) (fE : w.frozen? ⟨E, 0, none⟩ = false) :
    CallsD Tryz.prog 62 #[.pointer (some ⟨A, 0, none⟩), .pointer (some ⟨E, 0, none⟩)] (.panicking [pan r.1 r.2]) w fun e u' w' =>
      e = .returned (.tuple #[]) ∧ (∃ v, u' = .panicking [{ v := v, recovered := true }]) ∧ ∃ ob, w' = ((w.setCell ⟨A, 0, none⟩ (.int .i64 r.2)).setCell ⟨E, 0, none⟩ (.int .i64 (if r.1 then 4 else 2))).alloc ob := by
  obtain ⟨d, p⟩ := r
  cases d
  · exact (rd_mal A E p x y [] w lA lE hAE hA hE fA fE).mono fun e u' w' ⟨h1, h2, h3⟩ => ⟨h1, ⟨_, h2⟩, _, h3⟩
  · exact (rd_deep A E p x y [] w lA lE hAE hA hE fA fE).mono fun e u' w' ⟨h1, h2, h3⟩ => ⟨h1, ⟨_, h2⟩, _, h3⟩
set_option maxRecDepth 100000 in
set_option maxHeartbeats 4000000 in
theorem read_any {α : Type} {o : Nat} {s : ByteArray} {F : PS → Except ER (α × PS)} {V : α → World → Prop} {w : World} (hs : s.size ≤ 65536) (hgl : Gl w) (ho : o < w.heap.size) (ho2 : 2 ≤ o)
    (hC : ∀ σ1 w1, PW w1 (w.heap.size + 2) s σ1 → Kept (fun _ => False) w w1 → w.heap.size + 3 ≤ w1.heap.size → advS s ps0 = .ok σ1 → Calls Tryz.prog 32 #[.pointer (some ⟨w.heap.size + 2, 0, none⟩), .pointer (some ⟨o, 0, none⟩)] w1 (CPost (w.heap.size + 2) s (fun k => k = w.heap.size + 2 ∨ k = o) V (F σ1) w1))
    (hV : ∀ a w2 w3, V a w2 → w.heap.size + 3 ≤ w2.heap.size → Kept (fun k => k = w.heap.size ∨ k = w.heap.size + 1) w2 w3 → V a w3) :
    Calls Tryz.prog 31 #[.string s, .func (.func 32) #[] #[.pointer (some ⟨o, 0, none⟩)]] w fun e w' =>
      e = .returned (.tuple #[.int .i64 (rdAt (wholeF s F)), .int .i64 (rdE (wholeF s F))]) ∧ Kept (· = o) w w' ∧ ∀ a σ2, wholeF s F = .ok (a, σ2) → V a w' := by
  have hmf : ∀ (fn : Fn) (first cap : Array Value) (w : World), (Instr.makeFunc fn first cap).run Tryz.prog w = .ok (.func fn first cap) w := fun _ _ _ _ => rfl
  have HC := Lib.hid hC
  have HV := Lib.hid hV
  clear hC hV
  have hgt := hgl.lt
  have i1 : (s.size : Int) ≤ 65536 := by omega
  have h0 : PW (((w.alloc (.cells #[.int .i64 0] 3)).alloc (.cells #[.int .i64 0] 28)).alloc (.cells #[.string s, .int .i64 0, .int .i64 0, .string ⟨#[]⟩, .int .i64 0, .int .i64 0, .int .i64 0] 86)) (w.heap.size + 2) s ps0 :=
    ⟨Blk.new' 86 _ (by simp), Nat.zero_le _, Nat.zero_le _, hs, by omega, ((hgl.alloc _).alloc _).alloc _, Nat.zero_le _⟩
  have K0 : Kept (fun _ => False) w (((w.alloc (.cells #[.int .i64 0] 3)).alloc (.cells #[.int .i64 0] 28)).alloc (.cells #[.string s, .int .i64 0, .int .i64 0, .string ⟨#[]⟩, .int .i64 0, .int .i64 0, .int .i64 0] 86)) := (((Kept.refl _ _).alloc _).alloc _).alloc _
  have bA : Blk (((w.alloc (.cells #[.int .i64 0] 3)).alloc (.cells #[.int .i64 0] 28)).alloc (.cells #[.string s, .int .i64 0, .int .i64 0, .string ⟨#[]⟩, .int .i64 0, .int .i64 0, .int .i64 0] 86)) w.heap.size 3 [.int .i64 0] := ((Blk.new w 3 [.int .i64 0]).alloc _).alloc _
  have bE : Blk (((w.alloc (.cells #[.int .i64 0] 3)).alloc (.cells #[.int .i64 0] 28)).alloc (.cells #[.string s, .int .i64 0, .int .i64 0, .string ⟨#[]⟩, .int .i64 0, .int .i64 0, .int .i64 0] 86)) (w.heap.size + 1) 28 [.int .i64 0] := (Blk.new' 28 [.int .i64 0] (by simp)).alloc _
  go_enter_defers Tryz.func31, Tryz.ntmps31
  go_wp2_with fail
  cases hadv : advS s ps0 with
  | error r =>
    have hw : Hid (wholeF s F = .error r) := Lib.hid (by unfold wholeF; rw [hadv]; rfl)
    refine (adv_err h0 hadv).mono ?_
    rintro e w1 ⟨rfl, k1⟩
    have a1 := bA.kept k1 (by show ¬ w.heap.size = w.heap.size + 2; omega)
    have e1 := bE.kept k1 (by show ¬ w.heap.size + 1 = w.heap.size + 2; omega)
    have K1 : Kept (· = o) w w1 := (K0.mono (T := (· = o)) (fun _ _ h => h.elim)).via k1 (fun x hx h => by omega)
    go_wp2_with fail
    refine leaves_cons (f := 62) (args := #[.pointer (some ⟨w.heap.size, 0, none⟩), .pointer (some ⟨w.heap.size + 1, 0, none⟩)]) (by simp) (by simp [go_sem]) ?_
    refine (rd_err (r := r) w.heap.size (w.heap.size + 1) 0 0 _ a1.lt e1.lt (by omega) (a1.cell 0) (e1.cell 0) (a1.frozen 0) (e1.frozen 0)).mono ?_
    rintro e u' w'' ⟨rfl, ⟨v, rfl⟩, ob, rfl⟩
    have a2 := ((a1.set 0 (.int .i64 r.2)).set_other ⟨w.heap.size + 1, 0, none⟩ (.int .i64 (if r.1 then 4 else 2)) (by show w.heap.size ≠ w.heap.size + 1; omega)).alloc ob
    have e2 := ((e1.set_other ⟨w.heap.size, 0, none⟩ (.int .i64 r.2) (by show w.heap.size + 1 ≠ w.heap.size; omega)).set 0 (.int .i64 (if r.1 then 4 else 2))).alloc ob
    refine ⟨_, results_cc Tryz.results31 rfl rfl (load_i a2) (load_e e2), ?_, ?_, ?_⟩
    · rw [hw.out]; rfl
    · exact ((K1.setCell (p := ⟨w.heap.size, 0, none⟩) (Or.inr (Nat.le_refl _)) _).setCell (p := ⟨w.heap.size + 1, 0, none⟩) (Or.inr (by show w.heap.size ≤ w.heap.size + 1; omega)) _).alloc ob
    · intro a σ2 h; rw [hw.out] at h; cases h
  | ok σ1 =>
    refine (adv_ok h0 hadv).mono ?_
    rintro e w1 ⟨rfl, p1, k1⟩
    have a1 := bA.kept k1 (by show ¬ w.heap.size = w.heap.size + 2; omega)
    have e1 := bE.kept k1 (by show ¬ w.heap.size + 1 = w.heap.size + 2; omega)
    have K1 : Kept (fun _ => False) w w1 := K0.via k1 (fun x hx h => by omega)
    have z1 := p1.lt
    go_wp2_with fail
    refine (HC.out σ1 w1 p1 K1 z1 hadv).mono ?_
    rintro e w2 hr
    cases hF : F σ1 with
    | error r =>
      have hw : Hid (wholeF s F = .error r) := Lib.hid (by unfold wholeF; rw [hadv]; show bT (F σ1) _ = _; rw [hF]; rfl)
      obtain ⟨rfl, k2⟩ := hr.getErr hF
      clear hr
      have a2 := a1.kept k2 (by show ¬ (w.heap.size = w.heap.size + 2 ∨ w.heap.size = o); omega)
      have e2 := e1.kept k2 (by show ¬ (w.heap.size + 1 = w.heap.size + 2 ∨ w.heap.size + 1 = o); omega)
      have K2 : Kept (· = o) w w2 := (K1.mono (T := (· = o)) (fun _ _ h => h.elim)).via k2 (fun x hx h => by omega)
      go_wp2_with fail
      refine leaves_cons (f := 62) (args := #[.pointer (some ⟨w.heap.size, 0, none⟩), .pointer (some ⟨w.heap.size + 1, 0, none⟩)]) (by simp) (by simp [go_sem]) ?_
      refine (rd_err (r := r) w.heap.size (w.heap.size + 1) 0 0 _ a2.lt e2.lt (by omega) (a2.cell 0) (e2.cell 0) (a2.frozen 0) (e2.frozen 0)).mono ?_
      rintro e u' w'' ⟨rfl, ⟨v, rfl⟩, ob, rfl⟩
      have a3 := ((a2.set 0 (.int .i64 r.2)).set_other ⟨w.heap.size + 1, 0, none⟩ (.int .i64 (if r.1 then 4 else 2)) (by show w.heap.size ≠ w.heap.size + 1; omega)).alloc ob
      have e3 := ((e2.set_other ⟨w.heap.size, 0, none⟩ (.int .i64 r.2) (by show w.heap.size + 1 ≠ w.heap.size; omega)).set 0 (.int .i64 (if r.1 then 4 else 2))).alloc ob
      refine ⟨_, results_cc Tryz.results31 rfl rfl (load_i a3) (load_e e3), ?_, ?_, ?_⟩
      · rw [hw.out]; rfl
      · exact ((K2.setCell (p := ⟨w.heap.size, 0, none⟩) (Or.inr (Nat.le_refl _)) _).setCell (p := ⟨w.heap.size + 1, 0, none⟩) (Or.inr (by show w.heap.size ≤ w.heap.size + 1; omega)) _).alloc ob
      · intro a σ2 h; rw [hw.out] at h; cases h
    | ok q =>
      obtain ⟨a, σ2⟩ := q
      obtain ⟨rfl, v2, p2, k2⟩ := hr.getOk hF
      clear hr
      have a2 := a1.kept k2 (by show ¬ (w.heap.size = w.heap.size + 2 ∨ w.heap.size = o); omega)
      have e2 := e1.kept k2 (by show ¬ (w.heap.size + 1 = w.heap.size + 2 ∨ w.heap.size + 1 = o); omega)
      have K2 : Kept (· = o) w w2 := (K1.mono (T := (· = o)) (fun _ _ h => h.elim)).via k2 (fun x hx h => by omega)
      have c2 := p2.kd
      have z2 := p2.lt
      cases hk : (σ2.k == 0)
      · have hw : Hid (wholeF s F = .error (false, σ2.ta)) := Lib.hid (by unfold wholeF; rw [hadv]; show bT (F σ1) _ = _; rw [hF]; exact if_neg (ne_of_beq_false hk))
        go_wp2_with fail
        refine (fail_any p2).mono ?_
        rintro e w' ⟨rfl, rfl⟩
        go_wp2_with fail
        refine leaves_cons (f := 62) (args := #[.pointer (some ⟨w.heap.size, 0, none⟩), .pointer (some ⟨w.heap.size + 1, 0, none⟩)]) (by simp) (by simp [go_sem]) ?_
        refine (rd_err (r := (false, σ2.ta)) w.heap.size (w.heap.size + 1) 0 0 _ a2.lt e2.lt (by omega) (a2.cell 0) (e2.cell 0) (a2.frozen 0) (e2.frozen 0)).mono ?_
        rintro e u' w'' ⟨rfl, ⟨v, rfl⟩, ob, rfl⟩
        have a3 := ((a2.set 0 (.int .i64 σ2.ta)).set_other ⟨w.heap.size + 1, 0, none⟩ (.int .i64 (if false then 4 else 2)) (by show w.heap.size ≠ w.heap.size + 1; omega)).alloc ob
        have e3 := ((e2.set_other ⟨w.heap.size, 0, none⟩ (.int .i64 σ2.ta) (by show w.heap.size + 1 ≠ w.heap.size; omega)).set 0 (.int .i64 (if false then 4 else 2))).alloc ob
        refine ⟨_, results_cc Tryz.results31 rfl rfl (load_i a3) (load_e e3), ?_, ?_, ?_⟩
        · rw [hw.out]; rfl
        · exact ((K2.setCell (p := ⟨w.heap.size, 0, none⟩) (Or.inr (Nat.le_refl _)) _).setCell (p := ⟨w.heap.size + 1, 0, none⟩) (Or.inr (by show w.heap.size ≤ w.heap.size + 1; omega)) _).alloc ob
        · intro a σ2 h; rw [hw.out] at h; cases h
      · have hw : Hid (wholeF s F = .ok (a, σ2)) := Lib.hid (by unfold wholeF; rw [hadv]; show bT (F σ1) _ = _; rw [hF]; exact if_pos (eq_of_beq hk))
        have ca := a2.cell 0
        have ce := e2.cell 0
        have fa := a2.frozen 0
        have fe := e2.frozen 0
        go_wp2_with fail
        refine leaves_cons (f := 62) (args := #[.pointer (some ⟨w.heap.size, 0, none⟩), .pointer (some ⟨w.heap.size + 1, 0, none⟩)]) (by simp) (by simp [go_sem]) ?_
        refine (rd_idle w.heap.size (w.heap.size + 1) _).mono ?_
        rintro e u' w'' ⟨rfl, rfl, rfl⟩
        have a3 := (a2.set 0 (.int .i64 0)).set_other ⟨w.heap.size + 1, 0, none⟩ (.int .i64 0) (by show w.heap.size ≠ w.heap.size + 1; omega)
        have e3 := (e2.set_other ⟨w.heap.size, 0, none⟩ (.int .i64 0) (by show w.heap.size + 1 ≠ w.heap.size; omega)).set 0 (.int .i64 0)
        refine ⟨_, results_cc Tryz.results31 rfl rfl (load_i a3) (load_e e3), ?_, ?_, ?_⟩
        · rw [hw.out]; rfl
        · exact (K2.setCell (p := ⟨w.heap.size, 0, none⟩) (Or.inr (Nat.le_refl _)) _).setCell (p := ⟨w.heap.size + 1, 0, none⟩) (Or.inr (by show w.heap.size ≤ w.heap.size + 1; omega)) _
        · intro a' σ' h
          rw [hw.out] at h
          cases h
          exact HV.out a w2 _ v2 z2 (((Kept.refl _ _).setCell (p := ⟨w.heap.size, 0, none⟩) (Or.inl (Or.inl rfl)) _).setCell (p := ⟨w.heap.size + 1, 0, none⟩) (Or.inl (Or.inr rfl)) _)
end Go.Proofs.YtckjlliobebodaaGreatDoor
/- Valid's small functions: enter, zeroType, named. -/
set_option linter.unusedVariables false
set_option linter.unusedSimpArgs false
namespace Go.Proofs.YtckjlliobebodaaGreatDoor
open Go.RowKit
def mcells (c most deep : Nat) : List Value := [.int .i64 c, .int .i64 most, .int .i64 deep]
set_option maxHeartbeats 1000000 in
theorem enter_any {w : World} {m c most deep d : Nat} (hb : Blk w m 76 (mcells c most deep)) (hc : c ≤ 1000000) {v : Bool} (hv : (decide (c + 1 ≤ most) && decide (d ≤ deep)) = v) :
    Calls Tryz.prog 105 #[.pointer (some ⟨m, 0, none⟩), .int .i64 d] w fun e w' => e = .returned (.bool v) ∧ Blk w' m 76 (mcells (c + 1) most deep) ∧ Kept (· = m) w w' := by
  have g0 : w.cell? ⟨m, 0, none⟩ = some (.int .i64 c) := hb.cell 0
  have g1 : w.cell? ⟨m, 1, none⟩ = some (.int .i64 most) := hb.cell 1
  have g2 : w.cell? ⟨m, 2, none⟩ = some (.int .i64 deep) := hb.cell 2
  have f0 : w.frozen? ⟨m, 0, none⟩ = false := hb.frozen 0
  have h1 := hb.set 0 (.int .i64 ((c : Int) + 1))
  have k1 : Kept (· = m) w (w.setCell ⟨m, 0, none⟩ (.int .i64 ((c : Int) + 1))) := (Kept.refl (fun x => x = m) w).setCell (p := ⟨m, 0, none⟩) (Or.inl rfl) _
  by_cases a : c + 1 ≤ most
  · by_cases e : d ≤ deep
    · have i1 : (c : Int) + 1 ≤ most := by omega
      have i2 : (d : Int) ≤ deep := by omega
      have HV : Hid (v = true) := Lib.hid (by rw [← hv, decide_eq_true a, decide_eq_true e]; rfl)
      clear hv
      go_enter Tryz.func105, Tryz.ntmps105
      go_wp2_with fail
      go_quiet (fail)
      go_wp2_with fail
      go_ret
      exact ⟨by rw [HV.out]; rfl, h1.drewN nq, k1.drewN nq⟩
    · have i1 : (c : Int) + 1 ≤ most := by omega
      have i2 : decide ((d : Int) ≤ deep) = false := by simp; omega
      have HV : Hid (v = false) := Lib.hid (by rw [← hv, decide_eq_false e]; simp)
      clear hv
      go_enter Tryz.func105, Tryz.ntmps105
      go_wp2_with fail
      go_quiet (fail)
      go_wp2_with fail
      go_ret
      exact ⟨by rw [HV.out]; rfl, h1.drewN nq, k1.drewN nq⟩
  · have i1 : decide ((c : Int) + 1 ≤ most) = false := by simp; omega
    have HV : Hid (v = false) := Lib.hid (by rw [← hv, decide_eq_false a]; simp)
    clear hv
    go_enter Tryz.func105, Tryz.ntmps105
    go_wp2_with fail
    go_quiet (fail)
    go_wp2_with fail
    go_ret
    exact ⟨by rw [HV.out]; rfl, h1.drewN nq, k1.drewN nq⟩
def zeroTyB (t : Ty) : Bool := t.kind == 0 && (t.name.toList == []) && t.kids.isEmpty
theorem TyL.len {ok : Nat → Prop} {w : World} {l : List Ty} {a : Option Addr} {n c : Nat} (h : TyL ok w l (.slice a n c)) : n = l.length := by
  cases h with
  | nil h => rcases h with h | ⟨a, c, h⟩ <;> cases h <;> rfl
  | mk => rfl
theorem TmL.len {ok : Nat → Prop} {w : World} {l : List Tm} {a : Option Addr} {n c : Nat} (h : TmL ok w l (.slice a n c)) : n = l.length := by
  cases h with
  | nil h => rcases h with h | ⟨a, c, h⟩ <;> cases h <;> rfl
  | mk => rfl
set_option maxHeartbeats 1000000 in
theorem zeroTy_any {w : World} (k : Int) (nm : ByteArray) (a : Option Addr) (n c : Nat) {v : Bool} (hv : ((k == 0) && (nm.toList == []) && decide (n = 0)) = v) :
    Calls Tryz.prog 143 #[.agg #[.int .i64 k, .string nm, .slice a n c]] w fun e w' => e = .returned (.bool v) ∧ w' = w.alloc (.cells #[.int .i64 k, .string nm, .slice a n c] 24) := by
  cases h1 : (k == 0) <;> cases h2 : (nm.toList == []) <;> by_cases h3 : n = 0
  all_goals
    (rw [h1, h2] at hv)
    (first | subst h3 | have h4 : decide ((n : Int) = 0) = false := by simp; omega)
    have HV := Lib.hid hv
    clear hv
    go_enter Tryz.func143, Tryz.ntmps143
    go_wp2_with fail
    go_ret
    exact ⟨by rw [← HV.out]; simp [*], rfl⟩
def trimQ (s : ByteArray) : ByteArray := ⟨(Lib.trimSuffix s.data.toList [39]).toArray⟩
def namedB (s : ByteArray) : Bool := identB (trimQ s)
theorem trimQ_le (s : ByteArray) : (trimQ s).size ≤ s.size := by
  unfold trimQ Lib.trimSuffix
  show (if _ then _ else _ : List UInt8).toArray.size ≤ s.data.size
  split <;> simp
set_option maxHeartbeats 1000000 in
theorem named_any (s : ByteArray) (w : World) (hs : s.size ≤ 9223372036854775807) :
    Calls Tryz.prog 79 #[.string s] w fun e w' => e = .returned (.bool (namedB s)) ∧ w = w' := by
  have hq := trimQ_le s
  go_enter Tryz.func79, Tryz.ntmps79
  go_wp2_with (first | (go_at_call 82; refine (Tryz.strings_TrimSuffix s _ _ hs).mono ?_; rintro e w' ⟨rfl, rfl⟩) | (go_at_call 18; refine (ident_any (trimQ s) _ (by omega)).mono ?_; rintro e w' ⟨rfl, rfl⟩))
  go_ret
  exact ⟨rfl, rfl⟩
end Go.Proofs.YtckjlliobebodaaGreatDoor
/- slices.Clone and slices.Clip at rows of types and of terms. Printed by genclone.py. -/
set_option linter.unusedVariables false
set_option linter.unusedSimpArgs false
namespace Go.Proofs.YtckjlliobebodaaGreatDoor
open Go.RowKit
theorem info24 : (Tryz.prog.info? 24).map (fun i => (i.zero, i.size, i.bytes)) = some (some (.agg #[.int .i64 0, .string ⟨#[]⟩, .slice none 0 0]), 3, 48) := by kernel_rfl
/-- A new row of n elements with sz cells each, whose cells are those of an elder row. -/
def NewRow (w W : World) (ty : TypeId) (sz n b off : Nat) (v : Value) : Prop := ∃ g cap L, v = .slice (some ⟨g, 0, none⟩) n cap ∧ n ≤ cap ∧ w.heap.size ≤ g ∧ Blk W g ty L ∧ n * sz ≤ L.length ∧ ∀ j, j < n * sz → L[j]? = w.cell? ⟨b, off + j, none⟩
def rowList (w : World) (b off k : Nat) : List Value := (List.range k).map fun j => (w.cell? ⟨b, off + j, none⟩).getD undef
theorem rowList_get {w : World} {b off k j : Nat} {v : Value} (hj : j < k) (hv : w.cell? ⟨b, off + j, none⟩ = some v) : (rowList w b off k)[j]? = some v := by
  unfold rowList; rw [List.getElem?_map, List.getElem?_range hj]; simp [hv]

set_option maxRecDepth 100000 in
set_option maxHeartbeats 2000000 in
theorem cloneTy_some {w : World} (b off n cp : Nat) (hn : n ≤ 1000000) (hc : ∀ j, j < n * 3 → ∃ v, w.cell? ⟨b, off + j, none⟩ = some v ∧ v.oneCell' = true) :
    Calls Tryz.prog 88 #[.slice (some ⟨b, off, none⟩) n cp] w fun e w' => ∃ v, e = .returned v ∧ NewRow w w' 24 3 n b off v ∧ Kept (fun _ => False) w w' := by
  have hne : ∀ W : World, (binOp .eql 22 (.slice (some ⟨b, off, none⟩) n cp) (.slice none 0 0)).run Tryz.prog W = .ok (.bool false) W := fun W => Lib.run_eql_slice_some_nil W _ n cp Tryz.underlying22
  obtain ⟨ii, hi, hz, hs, hb⟩ : ∃ i, Tryz.prog.info? 24 = some i ∧ i.zero = some (.agg #[.int .i64 0, .string ⟨#[]⟩, .slice none 0 0]) ∧ i.size = 3 ∧ i.bytes = 48 := by
    have := info24
    cases hh : Tryz.prog.info? 24 with
    | none => rw [hh] at this; cases this
    | some i => rw [hh] at this; simp only [Option.map_some, Option.some.injEq, Prod.mk.injEq] at this; exact ⟨i, rfl, this.1, this.2.1, this.2.2⟩
  have HI := Lib.hid hi
  have HZ := Lib.hid hz
  have HS := Lib.hid hs
  have HBY := Lib.hid hb
  clear hi hz hs hb
  have HC := Lib.hid hc
  clear hc
  have own0 : (w.alloc (.cells #[] 24)).ownsRow w.heap.size 24 3 (.slice (some ⟨w.heap.size, 0, none⟩) 0 0) 0 [] := ⟨rfl, .inr ⟨w.heap.size, 0, #[], rfl, Nat.le_refl _, Blk.new w 24 [], Nat.le_refl _, Nat.zero_le _, rfl, rfl⟩⟩
  have hget : Hid (∀ j u, (rowList w b off (n * 3))[j]? = some u → (w.cell? ⟨b, off + j, none⟩ = some u ∧ u.oneCell' = true) ∧ (w.alloc (.cells #[] 24)).cell? ((⟨b, off, none⟩ : Addr).add j) = some u) := Lib.hid (by
    intro j u hj
    have hlt : j < n * 3 := by
      have := (List.getElem?_eq_some_iff.1 hj).1; unfold rowList at this; simpa using this
    obtain ⟨v, hv, h1⟩ := HC.out j hlt
    rw [rowList_get hlt hv] at hj
    have hvu : v = u := Option.some.inj hj
    subst hvu
    refine ⟨⟨hv, h1⟩, ?_⟩
    have hl := cell_lt hv
    rw [show (⟨b, off, none⟩ : Addr).add j = ⟨b, off + j, none⟩ by cases j <;> simp [Addr.add]]
    rw [World.cell?_of_block (w := w) (a := ⟨b, off + j, none⟩) (Below.heap_alloc _ _ _ hl)]; exact hv)
  go_enter Tryz.func88, Tryz.ntmps88
  go_wp2_with (at_builtin; refine wpList_append_own_at _ rfl (.tmp 5) (.tmp 6) 22 rfl w.heap.size 24 ii _ 3 48 Tryz.underlying22 HI.out HZ.out HS.out HBY.out rfl (by decide) _ _ _ rfl own0 ⟨b, off, none⟩ n cp (rowList w b off (n * 3)) rfl (by unfold rowList; simp) (fun j u h => (hget.out j u h).2) ?_ ?_ ?_ ?_ ?_)
  · intro u hu
    obtain ⟨j, hj⟩ := List.getElem?_of_mem hu
    exact (hget.out j u hj).1.2
  · unfold maxLen; omega
  · omega
  · simp
  · intro v' w1 own1 gr1 hnil hat
    have kA := kept_grown gr1
    have OWN := Lib.hid own1
    have NIL := Lib.hid hnil
    clear own1 hnil hat gr1
    go_wp2_with fail
    go_ret
    refine ⟨v', rfl, ?_, ((Kept.refl (fun _ => False) w).alloc _).via kA (fun x hx h => by simp [Value.ownBlock] at h; omega)⟩
    rcases OWN.out.2 with ⟨h0, _⟩ | ⟨g, cap, cur, rfl, hg, hh, h1, h2, h3, h4⟩
    · exact (NIL.out h0).elim
    · refine ⟨g, cap, cur.toList, rfl, by omega, hg, by unfold Blk; rw [hh], ?_, ?_⟩
      · rw [Array.length_toList, h3]; exact Nat.mul_le_mul_right _ (by omega)
      · intro j hj
        obtain ⟨v, hv, _⟩ := HC.out j hj
        rw [hv, ← rowList_get hj hv, ← h4, List.getElem?_take_of_lt hj]
set_option maxRecDepth 100000 in
set_option maxHeartbeats 2000000 in
theorem cloneTy_zero {w : World} (ad : Addr) (cp : Nat) :
    Calls Tryz.prog 88 #[.slice (some ad) 0 cp] w fun e w' => ∃ g cap, e = .returned (.slice (some ⟨g, 0, none⟩) 0 cap) ∧ Kept (fun _ => False) w w' := by
  have hne : ∀ W : World, (binOp .eql 22 (.slice (some ad) 0 cp) (.slice none 0 0)).run Tryz.prog W = .ok (.bool false) W := fun W => Lib.run_eql_slice_some_nil W _ 0 cp Tryz.underlying22
  obtain ⟨ii, hi, hz, hs, hb⟩ : ∃ i, Tryz.prog.info? 24 = some i ∧ i.zero = some (.agg #[.int .i64 0, .string ⟨#[]⟩, .slice none 0 0]) ∧ i.size = 3 ∧ i.bytes = 48 := by
    have := info24
    cases hh : Tryz.prog.info? 24 with
    | none => rw [hh] at this; cases this
    | some i => rw [hh] at this; simp only [Option.map_some, Option.some.injEq, Prod.mk.injEq] at this; exact ⟨i, rfl, this.1, this.2.1, this.2.2⟩
  have HI := Lib.hid hi
  have HZ := Lib.hid hz
  have HS := Lib.hid hs
  have HBY := Lib.hid hb
  clear hi hz hs hb
  have own0 : (w.alloc (.cells #[] 24)).ownsRow w.heap.size 24 3 (.slice (some ⟨w.heap.size, 0, none⟩) 0 0) 0 [] := ⟨rfl, .inr ⟨w.heap.size, 0, #[], rfl, Nat.le_refl _, Blk.new w 24 [], Nat.le_refl _, Nat.zero_le _, rfl, rfl⟩⟩
  go_enter Tryz.func88, Tryz.ntmps88
  go_wp2_with (at_builtin; refine wpList_append_own_at _ rfl (.tmp 5) (.tmp 6) 22 rfl w.heap.size 24 ii _ 3 48 Tryz.underlying22 HI.out HZ.out HS.out HBY.out rfl (by decide) _ _ _ rfl own0 ad 0 cp [] rfl rfl (fun j u h => by cases h) ?_ ?_ ?_ ?_ ?_)
  · intro u hu; cases hu
  · unfold maxLen; omega
  · omega
  · simp
  · intro v' w1 own1 gr1 hnil hat
    have kA := kept_grown gr1
    have OWN := Lib.hid own1
    have NIL := Lib.hid hnil
    clear own1 hnil hat gr1
    go_wp2_with fail
    go_ret
    rcases OWN.out.2 with ⟨h0, _⟩ | ⟨g, cap, cur, rfl, hg, hh, h1, h2, h3, h4⟩
    · exact (NIL.out h0).elim
    · exact ⟨g, cap, rfl, ((Kept.refl (fun _ => False) w).alloc _).via kA (fun x hx h => by simp [Value.ownBlock] at h; omega)⟩
set_option maxHeartbeats 2000000 in
theorem cloneTy_nil (w : World) : Calls Tryz.prog 88 #[.slice none 0 0] w fun e w' => e = .returned (.slice none 0 0) ∧ w = w' := by
  have hne : ∀ W : World, (binOp .eql 22 (.slice none 0 0) (.slice none 0 0)).run Tryz.prog W = .ok (.bool true) W := fun W => Lib.run_eql_slice_nil_nil W 0 0 Tryz.underlying22
  go_enter Tryz.func88, Tryz.ntmps88
  go_wp2_with fail
  go_ret
  exact ⟨rfl, rfl⟩
set_option maxHeartbeats 2000000 in
theorem clipTy_nil (w : World) : Calls Tryz.prog 87 #[.slice none 0 0] w fun e w' => e = .returned (.slice none 0 0) ∧ w = w' := by
  go_enter Tryz.func87, Tryz.ntmps87
  go_wp2_with fail
  go_ret
  exact ⟨rfl, rfl⟩
set_option maxHeartbeats 2000000 in
theorem clipTy_some (w : World) (g n cap : Nat) (hn : n ≤ cap) (hn2 : n ≤ 1000000) : Calls Tryz.prog 87 #[.slice (some ⟨g, 0, none⟩) n cap] w fun e w' => e = .returned (.slice (some ⟨g, 0, none⟩) n n) ∧ w = w' := by
  have i1 : (n : Int) ≤ (cap : Int) := by omega
  have i2 : (0 : Int) ≤ (n : Int) := by omega
  go_enter Tryz.func87, Tryz.ntmps87
  go_wp2_with fail
  go_ret
  exact ⟨rfl, rfl⟩

set_option maxRecDepth 100000 in
set_option maxHeartbeats 2000000 in
theorem cloneTm_some {w : World} (b off n cp : Nat) (hn : n ≤ 1000000) (hc : ∀ j, j < n * 7 → ∃ v, w.cell? ⟨b, off + j, none⟩ = some v ∧ v.oneCell' = true) :
    Calls Tryz.prog 70 #[.slice (some ⟨b, off, none⟩) n cp] w fun e w' => ∃ v, e = .returned v ∧ NewRow w w' 27 7 n b off v ∧ Kept (fun _ => False) w w' := by
  have hne : ∀ W : World, (binOp .eql 25 (.slice (some ⟨b, off, none⟩) n cp) (.slice none 0 0)).run Tryz.prog W = .ok (.bool false) W := fun W => Lib.run_eql_slice_some_nil W _ n cp Tryz.underlying25
  obtain ⟨ii, hi, hz, hs, hb⟩ : ∃ i, Tryz.prog.info? 27 = some i ∧ i.zero = some (.agg #[.int .i64 0, .string ⟨#[]⟩, .int .i64 0, .int .i64 0, .string ⟨#[]⟩, .slice none 0 0, .slice none 0 0]) ∧ i.size = 7 ∧ i.bytes = 104 := by
    have := info27
    cases hh : Tryz.prog.info? 27 with
    | none => rw [hh] at this; cases this
    | some i => rw [hh] at this; simp only [Option.map_some, Option.some.injEq, Prod.mk.injEq] at this; exact ⟨i, rfl, this.1, this.2.1, this.2.2⟩
  have HI := Lib.hid hi
  have HZ := Lib.hid hz
  have HS := Lib.hid hs
  have HBY := Lib.hid hb
  clear hi hz hs hb
  have HC := Lib.hid hc
  clear hc
  have own0 : (w.alloc (.cells #[] 27)).ownsRow w.heap.size 27 7 (.slice (some ⟨w.heap.size, 0, none⟩) 0 0) 0 [] := ⟨rfl, .inr ⟨w.heap.size, 0, #[], rfl, Nat.le_refl _, Blk.new w 27 [], Nat.le_refl _, Nat.zero_le _, rfl, rfl⟩⟩
  have hget : Hid (∀ j u, (rowList w b off (n * 7))[j]? = some u → (w.cell? ⟨b, off + j, none⟩ = some u ∧ u.oneCell' = true) ∧ (w.alloc (.cells #[] 27)).cell? ((⟨b, off, none⟩ : Addr).add j) = some u) := Lib.hid (by
    intro j u hj
    have hlt : j < n * 7 := by
      have := (List.getElem?_eq_some_iff.1 hj).1; unfold rowList at this; simpa using this
    obtain ⟨v, hv, h1⟩ := HC.out j hlt
    rw [rowList_get hlt hv] at hj
    have hvu : v = u := Option.some.inj hj
    subst hvu
    refine ⟨⟨hv, h1⟩, ?_⟩
    have hl := cell_lt hv
    rw [show (⟨b, off, none⟩ : Addr).add j = ⟨b, off + j, none⟩ by cases j <;> simp [Addr.add]]
    rw [World.cell?_of_block (w := w) (a := ⟨b, off + j, none⟩) (Below.heap_alloc _ _ _ hl)]; exact hv)
  go_enter Tryz.func70, Tryz.ntmps70
  go_wp2_with (at_builtin; refine wpList_append_own_at _ rfl (.tmp 5) (.tmp 6) 25 rfl w.heap.size 27 ii _ 7 104 Tryz.underlying25 HI.out HZ.out HS.out HBY.out rfl (by decide) _ _ _ rfl own0 ⟨b, off, none⟩ n cp (rowList w b off (n * 7)) rfl (by unfold rowList; simp) (fun j u h => (hget.out j u h).2) ?_ ?_ ?_ ?_ ?_)
  · intro u hu
    obtain ⟨j, hj⟩ := List.getElem?_of_mem hu
    exact (hget.out j u hj).1.2
  · unfold maxLen; omega
  · omega
  · simp
  · intro v' w1 own1 gr1 hnil hat
    have kA := kept_grown gr1
    have OWN := Lib.hid own1
    have NIL := Lib.hid hnil
    clear own1 hnil hat gr1
    go_wp2_with fail
    go_ret
    refine ⟨v', rfl, ?_, ((Kept.refl (fun _ => False) w).alloc _).via kA (fun x hx h => by simp [Value.ownBlock] at h; omega)⟩
    rcases OWN.out.2 with ⟨h0, _⟩ | ⟨g, cap, cur, rfl, hg, hh, h1, h2, h3, h4⟩
    · exact (NIL.out h0).elim
    · refine ⟨g, cap, cur.toList, rfl, by omega, hg, by unfold Blk; rw [hh], ?_, ?_⟩
      · rw [Array.length_toList, h3]; exact Nat.mul_le_mul_right _ (by omega)
      · intro j hj
        obtain ⟨v, hv, _⟩ := HC.out j hj
        rw [hv, ← rowList_get hj hv, ← h4, List.getElem?_take_of_lt hj]
set_option maxRecDepth 100000 in
set_option maxHeartbeats 2000000 in
theorem cloneTm_zero {w : World} (ad : Addr) (cp : Nat) :
    Calls Tryz.prog 70 #[.slice (some ad) 0 cp] w fun e w' => ∃ g cap, e = .returned (.slice (some ⟨g, 0, none⟩) 0 cap) ∧ Kept (fun _ => False) w w' := by
  have hne : ∀ W : World, (binOp .eql 25 (.slice (some ad) 0 cp) (.slice none 0 0)).run Tryz.prog W = .ok (.bool false) W := fun W => Lib.run_eql_slice_some_nil W _ 0 cp Tryz.underlying25
  obtain ⟨ii, hi, hz, hs, hb⟩ : ∃ i, Tryz.prog.info? 27 = some i ∧ i.zero = some (.agg #[.int .i64 0, .string ⟨#[]⟩, .int .i64 0, .int .i64 0, .string ⟨#[]⟩, .slice none 0 0, .slice none 0 0]) ∧ i.size = 7 ∧ i.bytes = 104 := by
    have := info27
    cases hh : Tryz.prog.info? 27 with
    | none => rw [hh] at this; cases this
    | some i => rw [hh] at this; simp only [Option.map_some, Option.some.injEq, Prod.mk.injEq] at this; exact ⟨i, rfl, this.1, this.2.1, this.2.2⟩
  have HI := Lib.hid hi
  have HZ := Lib.hid hz
  have HS := Lib.hid hs
  have HBY := Lib.hid hb
  clear hi hz hs hb
  have own0 : (w.alloc (.cells #[] 27)).ownsRow w.heap.size 27 7 (.slice (some ⟨w.heap.size, 0, none⟩) 0 0) 0 [] := ⟨rfl, .inr ⟨w.heap.size, 0, #[], rfl, Nat.le_refl _, Blk.new w 27 [], Nat.le_refl _, Nat.zero_le _, rfl, rfl⟩⟩
  go_enter Tryz.func70, Tryz.ntmps70
  go_wp2_with (at_builtin; refine wpList_append_own_at _ rfl (.tmp 5) (.tmp 6) 25 rfl w.heap.size 27 ii _ 7 104 Tryz.underlying25 HI.out HZ.out HS.out HBY.out rfl (by decide) _ _ _ rfl own0 ad 0 cp [] rfl rfl (fun j u h => by cases h) ?_ ?_ ?_ ?_ ?_)
  · intro u hu; cases hu
  · unfold maxLen; omega
  · omega
  · simp
  · intro v' w1 own1 gr1 hnil hat
    have kA := kept_grown gr1
    have OWN := Lib.hid own1
    have NIL := Lib.hid hnil
    clear own1 hnil hat gr1
    go_wp2_with fail
    go_ret
    rcases OWN.out.2 with ⟨h0, _⟩ | ⟨g, cap, cur, rfl, hg, hh, h1, h2, h3, h4⟩
    · exact (NIL.out h0).elim
    · exact ⟨g, cap, rfl, ((Kept.refl (fun _ => False) w).alloc _).via kA (fun x hx h => by simp [Value.ownBlock] at h; omega)⟩
set_option maxHeartbeats 2000000 in
theorem cloneTm_nil (w : World) : Calls Tryz.prog 70 #[.slice none 0 0] w fun e w' => e = .returned (.slice none 0 0) ∧ w = w' := by
  have hne : ∀ W : World, (binOp .eql 25 (.slice none 0 0) (.slice none 0 0)).run Tryz.prog W = .ok (.bool true) W := fun W => Lib.run_eql_slice_nil_nil W 0 0 Tryz.underlying25
  go_enter Tryz.func70, Tryz.ntmps70
  go_wp2_with fail
  go_ret
  exact ⟨rfl, rfl⟩
set_option maxHeartbeats 2000000 in
theorem clipTm_nil (w : World) : Calls Tryz.prog 69 #[.slice none 0 0] w fun e w' => e = .returned (.slice none 0 0) ∧ w = w' := by
  go_enter Tryz.func69, Tryz.ntmps69
  go_wp2_with fail
  go_ret
  exact ⟨rfl, rfl⟩
set_option maxHeartbeats 2000000 in
theorem clipTm_some (w : World) (g n cap : Nat) (hn : n ≤ cap) (hn2 : n ≤ 1000000) : Calls Tryz.prog 69 #[.slice (some ⟨g, 0, none⟩) n cap] w fun e w' => e = .returned (.slice (some ⟨g, 0, none⟩) n n) ∧ w = w' := by
  have i1 : (n : Int) ≤ (cap : Int) := by omega
  have i2 : (0 : Int) ≤ (n : Int) := by omega
  go_enter Tryz.func69, Tryz.ntmps69
  go_wp2_with fail
  go_ret
  exact ⟨rfl, rfl⟩

end Go.Proofs.YtckjlliobebodaaGreatDoor
/- copyType: a copy of a type in new memory. -/
set_option linter.unusedVariables false
set_option linter.unusedSimpArgs false
namespace Go.Proofs.YtckjlliobebodaaGreatDoor
open Go.RowKit
inductive BdTy : Ty → Prop
  | mk {k : Int} {n : ByteArray} {l : List Ty} (hn : l.length ≤ 1000000) (hl : ∀ t, t ∈ l → BdTy t) : BdTy (.mk k n l)
/-- The contract of copyType at one type. -/
def CpC (t : Ty) : Prop := ∀ (w : World) (ok : Nat → Prop) (tk : Value), TyL ok w t.kids tk →
  Calls Tryz.prog 43 #[tyVal t tk] w fun e w' => ∃ v, e = .returned (tyVal t v) ∧ TyL (fun k => w.heap.size ≤ k) w' t.kids v ∧ Kept (fun _ => False) w w'
theorem r3' {W : World} {R : Nat} {l : List Value} {x y z : Value} (h : Blk W R 24 l) (hl : l.length = 3) : Blk (((W.setCell ⟨R, 0, none⟩ x).setCell ⟨R, 1, none⟩ y).setCell ⟨R, 2, none⟩ z) R 24 [x, y, z] := r3 h hl
set_option maxRecDepth 100000 in
set_option maxHeartbeats 8000000 in
theorem copyTy_nil {k : Int} {nm : ByteArray} {w : World} :
    Calls Tryz.prog 43 #[.agg #[.int .i64 k, .string nm, .slice none 0 0]] w fun e w' => e = .returned (.agg #[.int .i64 k, .string nm, .slice none 0 0]) ∧ Kept (fun _ => False) w w' := by
  have bA : Blk ((w.alloc (.cells #[.int .i64 k, .string nm, .slice none 0 0] 24)).alloc (.cells #[.int .i64 0, .string ⟨#[]⟩, .slice none 0 0] 24)) w.heap.size 24 [.int .i64 k, .string nm, .slice none 0 0] := (Blk.new w 24 _).alloc _
  have K0 : Kept (fun _ => False) w ((w.alloc (.cells #[.int .i64 k, .string nm, .slice none 0 0] 24)).alloc (.cells #[.int .i64 0, .string ⟨#[]⟩, .slice none 0 0] 24)) := ((Kept.refl _ _).alloc _).alloc _
  go_enter Tryz.func43, Tryz.ntmps43
  go_wp2_with (first | (go_at_call 88; refine (cloneTy_nil _).mono ?_; rintro e w' ⟨rfl, rfl⟩) | (go_at_call 87; refine (clipTy_nil _).mono ?_; rintro e w' ⟨rfl, rfl⟩))
  go_loop [13] (fun i => i = .int .i64 0) (fun i => 0)
  case atStart => rfl
  case round =>
    subst hrel
    go_wp2_with fail
    exact bodyPost_ret (results_one Tryz.results43 rfl (load_ty (t := .mk k nm []) (Blk.new' 24 _ (by simp)))) rfl ⟨rfl, ((Kept.refl _ _).alloc _).alloc _⟩
def ZTy (k : Int) (nm : ByteArray) (w : World) (e : Ending) (w' : World) : Prop := ∃ g cap, e = .returned (.agg #[.int .i64 k, .string nm, .slice (some g) 0 cap]) ∧ Kept (fun _ => False) w w'
set_option maxRecDepth 100000 in
set_option maxHeartbeats 8000000 in
theorem copyTy_zero {k : Int} {nm : ByteArray} {w : World} (ad : Addr) (cp : Nat) :
    Calls Tryz.prog 43 #[.agg #[.int .i64 k, .string nm, .slice (some ad) 0 cp]] w (ZTy k nm w) := by
  have bA : Blk ((w.alloc (.cells #[.int .i64 k, .string nm, .slice (some ad) 0 cp] 24)).alloc (.cells #[.int .i64 0, .string ⟨#[]⟩, .slice none 0 0] 24)) w.heap.size 24 [.int .i64 k, .string nm, .slice (some ad) 0 cp] := (Blk.new w 24 _).alloc _
  have bR : Blk ((w.alloc (.cells #[.int .i64 k, .string nm, .slice (some ad) 0 cp] 24)).alloc (.cells #[.int .i64 0, .string ⟨#[]⟩, .slice none 0 0] 24)) (w.heap.size + 1) 24 z24 := Blk.new' 24 _ (by simp)
  have K0 : Kept (fun _ => False) w ((w.alloc (.cells #[.int .i64 k, .string nm, .slice (some ad) 0 cp] 24)).alloc (.cells #[.int .i64 0, .string ⟨#[]⟩, .slice none 0 0] 24)) := ((Kept.refl _ _).alloc _).alloc _
  go_enter Tryz.func43, Tryz.ntmps43
  go_wp2_with fail
  refine (cloneTy_zero ad cp).mono ?_
  rintro e w1 ⟨g, cap, rfl, k1⟩
  have bA1 := bA.kept k1 (fun h => h)
  have bR1 := bR.kept k1 (fun h => h)
  have K1 := K0.trans k1
  have a0 : w1.cell? ⟨w.heap.size, 0, none⟩ = some (.int .i64 k) := bA1.cell 0
  have a1 : w1.cell? ⟨w.heap.size, 1, none⟩ = some (.string nm) := bA1.cell 1
  have a2 : w1.cell? ⟨w.heap.size, 2, none⟩ = some (.slice (some ad) 0 cp) := bA1.cell 2
  have fa2 := bA1.frozen 2
  have r0 : w1.cell? ⟨w.heap.size + 1, 0, none⟩ = some (.int .i64 0) := bR1.cell 0
  have r1 : w1.cell? ⟨w.heap.size + 1, 1, none⟩ = some (.string ⟨#[]⟩) := bR1.cell 1
  have r2 : w1.cell? ⟨w.heap.size + 1, 2, none⟩ = some (.slice none 0 0) := bR1.cell 2
  have f0 := bR1.frozen 0
  have f1 := bR1.frozen 1
  have f2 := bR1.frozen 2
  have BR := Lib.hid bR1
  have KP := Lib.hid K1
  clear bR1 K1 bA1 bA bR
  go_wp2_with (go_at_call 87; refine (clipTy_some _ g 0 cap (Nat.zero_le _) (Nat.zero_le _)).mono ?_; rintro e w' ⟨rfl, rfl⟩)
  go_loop [13] (fun i => i = .int .i64 0) (fun i => 0)
  case atStart => rfl
  case round =>
    subst hrel
    go_wp2_with fail
    have bF := r3' (x := .int .i64 k) (y := .string nm) (z := .slice (some ⟨g, 0, none⟩) 0 0) (BR.out.set_other ⟨w.heap.size, 2, none⟩ (.slice (some ⟨g, 0, none⟩) 0 0) (by show w.heap.size + 1 ≠ w.heap.size; omega)) rfl
    refine bodyPost_ret (results_one Tryz.results43 rfl (load_ty (t := .mk k nm []) bF)) rfl ?_
    exact ⟨_, _, rfl, (((KP.out.setCell (p := ⟨w.heap.size, 2, none⟩) (Or.inr (Nat.le_refl _)) _).setCell (p := ⟨w.heap.size + 1, 0, none⟩) (Or.inr (by show w.heap.size ≤ w.heap.size + 1; omega)) _).setCell (p := ⟨w.heap.size + 1, 1, none⟩) (Or.inr (by show w.heap.size ≤ w.heap.size + 1; omega)) _).setCell (p := ⟨w.heap.size + 1, 2, none⟩) (Or.inr (by show w.heap.size ≤ w.heap.size + 1; omega)) _⟩
/-- Where the loop of copyType stands at element k. -/
structure CI (w : World) (l : List Ty) (kd : Int) (nm : ByteArray) (n b off g k : Nat) (wr : World) : Prop where
  kp : Kept (fun _ => False) w wr
  a : Blk wr w.heap.size 24 [.int .i64 kd, .string nm, .slice (some ⟨g, 0, none⟩) n n]
  r : Blk wr (w.heap.size + 1) 24 z24
  row : ∃ (L : List Value) (K' : Nat → Value), Blk wr g 24 L ∧ n * 3 ≤ L.length ∧ (∀ j, k * 3 ≤ j → j < n * 3 → L[j]? = w.cell? ⟨b, off + j, none⟩) ∧
    ∀ i (_ : i < k) (h : i < l.length), L[i * 3]? = some (.int .i64 l[i].kind) ∧ L[i * 3 + 1]? = some (.string l[i].name) ∧ L[i * 3 + 2]? = some (K' i) ∧ TyL (fun q => w.heap.size + 2 ≤ q ∧ q ≠ g) wr l[i].kids (K' i)
theorem set3 {W : World} {ok : Nat → Prop} {g i j q : Nat} {x y z : Value} (h : ∀ k, ok k → k ≠ g) : Same ok W (((W.setCell ⟨g, i, none⟩ x).setCell ⟨g, j, none⟩ y).setCell ⟨g, q, none⟩ z) :=
  Same.of_kept (S := (· = g)) ((((Kept.refl (fun x => x = g) W).setCell (p := ⟨g, i, none⟩) (Or.inl rfl) _).setCell (p := ⟨g, j, none⟩) (Or.inl rfl) _).setCell (p := ⟨g, q, none⟩) (Or.inl rfl) _) h
theorem CI.step {w wr w4 : World} {l : List Ty} {kd : Int} {nm : ByteArray} {b off g k : Nat} {v : Value} (h : CI w l kd nm l.length b off g k wr) (hg : w.heap.size + 2 ≤ g) (hk : k < l.length) (kk : Kept (fun _ => False) wr w4) (hv : TyL (fun q => wr.heap.size ≤ q) w4 l[k].kids v) :
    CI w l kd nm l.length b off g (k + 1) (((w4.setCell ⟨g, k * 3, none⟩ (.int .i64 l[k].kind)).setCell ⟨g, k * 3 + 1, none⟩ (.string l[k].name)).setCell ⟨g, k * 3 + 2, none⟩ v) := by
  obtain ⟨L, K', bG, hLn, hLo, hLd⟩ := h.row
  have lg := bG.lt
  have b4 := bG.kept kk (fun h => h)
  refine ⟨(((h.kp.trans kk).setCell (p := ⟨g, k * 3, none⟩) (Or.inr (by show w.heap.size ≤ g; omega)) _).setCell (p := ⟨g, k * 3 + 1, none⟩) (Or.inr (by show w.heap.size ≤ g; omega)) _).setCell (p := ⟨g, k * 3 + 2, none⟩) (Or.inr (by show w.heap.size ≤ g; omega)) _,
    (((h.a.kept kk (fun h => h)).set_other _ _ (by show w.heap.size ≠ g; omega)).set_other _ _ (by show w.heap.size ≠ g; omega)).set_other _ _ (by show w.heap.size ≠ g; omega),
    (((h.r.kept kk (fun h => h)).set_other _ _ (by show w.heap.size + 1 ≠ g; omega)).set_other _ _ (by show w.heap.size + 1 ≠ g; omega)).set_other _ _ (by show w.heap.size + 1 ≠ g; omega),
    ((L.set (k * 3) (.int .i64 l[k].kind)).set (k * 3 + 1) (.string l[k].name)).set (k * 3 + 2) v, fun i => if i = k then v else K' i,
    ((b4.set _ _).set _ _).set _ _, by simpa using hLn, fun j h1 h2 => ?_, fun i hi hl => ?_⟩
  · rw [List.getElem?_set_ne (by omega), List.getElem?_set_ne (by omega), List.getElem?_set_ne (by omega)]
    exact hLo j (by omega) h2
  · by_cases hik : i = k
    · subst hik
      refine ⟨?_, ?_, ?_, ?_⟩
      · rw [List.getElem?_set_ne (by omega), List.getElem?_set_ne (by omega), List.getElem?_set_self (by omega)]
      · rw [List.getElem?_set_ne (by omega), List.getElem?_set_self (by simp; omega)]
      · rw [List.getElem?_set_self (by simp; omega)]; show some v = some (if i = i then v else K' i); rw [if_pos rfl]
      · show TyL _ _ _ (if i = i then v else K' i)
        rw [if_pos rfl]
        exact (hv.mono (ok' := fun q => w.heap.size + 2 ≤ q ∧ q ≠ g) (fun q _ h => ⟨by omega, by omega⟩)).frame (set3 (fun q h => h.2))
    · obtain ⟨e0, e1, e2, e3⟩ := hLd i (by omega) hl
      refine ⟨?_, ?_, ?_, ?_⟩
      · rw [List.getElem?_set_ne (by omega), List.getElem?_set_ne (by omega), List.getElem?_set_ne (by omega)]; exact e0
      · rw [List.getElem?_set_ne (by omega), List.getElem?_set_ne (by omega), List.getElem?_set_ne (by omega)]; exact e1
      · rw [List.getElem?_set_ne (by omega), List.getElem?_set_ne (by omega), List.getElem?_set_ne (by omega)]; show _ = some (if i = k then v else K' i); rw [if_neg hik]; exact e2
      · show TyL _ _ _ (if i = k then v else K' i)
        rw [if_neg hik]
        exact (e3.frame (Same.of_kept kk (fun _ _ e => e))).frame (set3 (fun q h => h.2))
theorem CI.done {w wr : World} {l : List Ty} {kd : Int} {nm : ByteArray} {b off g : Nat} (h : CI w l kd nm l.length b off g l.length wr) (hne : l ≠ []) (hg : w.heap.size + 2 ≤ g) : TyL (fun k => w.heap.size ≤ k) wr l (.slice (some ⟨g, 0, none⟩) l.length l.length) := by
  obtain ⟨L, K', bG, hLn, hLo, hLd⟩ := h.row
  refine TyL.mk K' hne (by omega) (Nat.le_refl _) (fun i hi => ?_) (fun i hi => ?_)
  · obtain ⟨e0, e1, e2, e3⟩ := hLd i hi hi
    rw [Nat.zero_add]
    exact ⟨by rw [bG.cell]; exact e0, by rw [bG.cell]; exact e1, by rw [bG.cell]; exact e2⟩
  · exact (hLd i hi hi).2.2.2.mono (fun q _ h => by omega)
theorem three {n j : Nat} (h : j < n * 3) : ∃ i r, i < n ∧ r < 3 ∧ j = i * 3 + r := ⟨j / 3, j % 3, by omega, by omega, by omega⟩
set_option maxRecDepth 100000 in
set_option maxHeartbeats 8000000 in
theorem copyTy_some {kd : Int} {nm : ByteArray} {l : List Ty} {w : World} {ok : Nat → Prop} {b off cp : Nat} (IH : ∀ t, t ∈ l → CpC t) (hn : l.length ≤ 1000000) (K : Nat → Value)
    (hcell : ∀ i (h : i < l.length), w.cell? ⟨b, off + i * 3, none⟩ = some (.int .i64 l[i].kind) ∧ w.cell? ⟨b, off + i * 3 + 1, none⟩ = some (.string l[i].name) ∧ w.cell? ⟨b, off + i * 3 + 2, none⟩ = some (K i))
    (hk : ∀ i (h : i < l.length), TyL ok w l[i].kids (K i)) :
    Calls Tryz.prog 43 #[.agg #[.int .i64 kd, .string nm, .slice (some ⟨b, off, none⟩) l.length cp]] w fun e w' => ∃ v, e = .returned (.agg #[.int .i64 kd, .string nm, v]) ∧ TyL (fun k => w.heap.size ≤ k) w' l v ∧ Kept (fun _ => False) w w' := by
  have bA : Blk ((w.alloc (.cells #[.int .i64 kd, .string nm, .slice (some ⟨b, off, none⟩) l.length cp] 24)).alloc (.cells #[.int .i64 0, .string ⟨#[]⟩, .slice none 0 0] 24)) w.heap.size 24 [.int .i64 kd, .string nm, .slice (some ⟨b, off, none⟩) l.length cp] := (Blk.new w 24 _).alloc _
  have bR : Blk ((w.alloc (.cells #[.int .i64 kd, .string nm, .slice (some ⟨b, off, none⟩) l.length cp] 24)).alloc (.cells #[.int .i64 0, .string ⟨#[]⟩, .slice none 0 0] 24)) (w.heap.size + 1) 24 z24 := Blk.new' 24 _ (by simp)
  have K0 : Kept (fun _ => False) w ((w.alloc (.cells #[.int .i64 kd, .string nm, .slice (some ⟨b, off, none⟩) l.length cp] 24)).alloc (.cells #[.int .i64 0, .string ⟨#[]⟩, .slice none 0 0] 24)) := ((Kept.refl _ _).alloc _).alloc _
  have z0 : ((w.alloc (.cells #[.int .i64 kd, .string nm, .slice (some ⟨b, off, none⟩) l.length cp] 24)).alloc (.cells #[.int .i64 0, .string ⟨#[]⟩, .slice none 0 0] 24)).heap.size = w.heap.size + 2 := by simp
  have HCELL := Lib.hid hcell
  have HK := Lib.hid hk
  have HIH := Lib.hid IH
  clear hcell hk IH
  have hone : Hid (∀ j, j < l.length * 3 → ∃ v, w.cell? ⟨b, off + j, none⟩ = some v ∧ v.oneCell' = true) := Lib.hid (by
    intro j hj
    obtain ⟨i, r, hi, hr, rfl⟩ := three hj
    have c := HCELL.out i hi
    rcases (show r = 0 ∨ r = 1 ∨ r = 2 by omega) with rfl | rfl | rfl
    · exact ⟨_, c.1, rfl⟩
    · exact ⟨_, by rw [show off + (i * 3 + 1) = off + i * 3 + 1 by omega]; exact c.2.1, rfl⟩
    · obtain ⟨a, n, c', hh⟩ := (HK.out i hi).slice
      exact ⟨_, by rw [show off + (i * 3 + 2) = off + i * 3 + 2 by omega]; exact c.2.2, by rw [hh]; rfl⟩)
  have Z0 := Lib.hid z0
  clear z0
  go_enter Tryz.func43, Tryz.ntmps43
  go_wp2_with fail
  refine (cloneTy_some b off l.length cp hn (fun j hj => ?_)).mono ?_
  · obtain ⟨v, hv, h1⟩ := hone.out j hj
    exact ⟨v, by rw [K0.cell (p := ⟨b, off + j, none⟩) (cell_lt hv) (fun h => h)]; exact hv, h1⟩
  rintro e w1 ⟨v, rfl, ⟨g, cap, L, rfl, hcap, hg, hL, hLl, hLc⟩, k1⟩
  rw [Z0.out] at hg
  have bA1 := bA.kept k1 (fun h => h)
  have bR1 := bR.kept k1 (fun h => h)
  have hA2 := bA1.cell 2
  have fA2 := bA1.frozen 2
  have HLC := Lib.hid hLc
  have HLL := Lib.hid hLl
  have HG := Lib.hid hg
  clear hLc hLl hg
  go_wp2_with (go_at_call 87; refine (clipTy_some _ g l.length cap hcap hn).mono ?_; rintro e w' ⟨rfl, rfl⟩)
  have c1 : CI w l kd nm l.length b off g 0 (w1.setCell ⟨w.heap.size, 2, none⟩ (.slice (some ⟨g, 0, none⟩) l.length l.length)) := by
    have hg := HG.out
    refine ⟨(K0.via k1 (fun _ _ h => h)).setCell (p := ⟨w.heap.size, 2, none⟩) (Or.inr (Nat.le_refl _)) _, bA1.set 2 _, bR1.set_other _ _ (by show w.heap.size + 1 ≠ w.heap.size; omega), L, K, hL.set_other _ _ (by show g ≠ w.heap.size; omega), HLL.out, fun j _ hj => ?_, fun i hi => absurd hi (Nat.not_lt_zero _)⟩
    rw [HLC.out j hj]
    obtain ⟨v, hv, _⟩ := hone.out j hj
    rw [K0.cell (p := ⟨b, off + j, none⟩) (cell_lt hv) (fun h => h)]
  have C1 := Lib.hid c1
  clear c1 hA2 fA2 bA1 bR1 bA bR hL
  go_loopw [13] (fun i wr => ∃ k : Nat, k ≤ l.length ∧ i = .int .i64 k ∧ Hid (CI w l kd nm l.length b off g k wr)) (fun i _ => l.length - (intOf i).toNat)
  case atStart => exact ⟨0, Nat.zero_le _, rfl, C1⟩
  case round =>
    obtain ⟨k, hkl, rfl, HCI⟩ := hrel
    have hg := HG.out
    have qA := HCI.out.a
    have qR := HCI.out.r
    have kp := HCI.out.kp
    obtain ⟨L, K', bG, hLn, hLo, hLd⟩ := HCI.out.row
    have HLo := Lib.hid hLo
    have HLd := Lib.hid hLd
    have HLn := Lib.hid hLn
    have BG := Lib.hid bG
    clear hLo hLd hLn bG
    by_cases hlt : k < l.length
    · have c0 : wr.cell? ⟨g, k * 3, none⟩ = some (.int .i64 l[k].kind) := by
        rw [BG.out.cell, HLo.out (k * 3) (Nat.le_refl _) (by omega)]; exact (HCELL.out k hlt).1
      have c1 : wr.cell? ⟨g, k * 3 + 1, none⟩ = some (.string l[k].name) := by
        rw [BG.out.cell, HLo.out (k * 3 + 1) (by omega) (by omega)]; exact (HCELL.out k hlt).2.1
      obtain ⟨ta, tn, tc, hKk⟩ := (HK.out k hlt).slice
      have c2 : wr.cell? ⟨g, k * 3 + 2, none⟩ = some (.slice ta tn tc) := by
        rw [BG.out.cell, HLo.out (k * 3 + 2) (by omega) (by omega), ← hKk]; exact (HCELL.out k hlt).2.2
      have i1 : (k : Int) < (l.length : Int) := by omega
      have a2 : wr.cell? ⟨w.heap.size, 2, none⟩ = some (.slice (some ⟨g, 0, none⟩) l.length l.length) := qA.cell 2
      have lA := qA.lt
      have lG := BG.out.lt
      have hcon := Lib.hid (HIH.out _ (List.getElem_mem hlt))
      have hty : Hid (TyL ok wr l[k].kids (.slice ta tn tc)) := Lib.hid (by rw [← hKk]; exact (HK.out k hlt).frame (Same.of_kept kp (fun _ _ e => e)))
      clear hKk
      go_wp2_with fail
      have bX : Blk (wr.alloc (.cells #[.int .i64 l[k].kind, .string l[k].name, .slice ta tn tc] 24)) wr.heap.size 24 [.int .i64 l[k].kind, .string l[k].name, .slice ta tn tc] := Blk.new wr 24 _
      have hAX : w.heap.size ≠ wr.heap.size := by omega
      have hGX : g ≠ wr.heap.size := by omega
      have hAG : g ≠ w.heap.size := by omega
      refine wp_gen (F := fun W3 => Kept (fun _ => False) wr W3 ∧ Blk W3 wr.heap.size 24 [.int .i64 l[k].kind, .string l[k].name, .slice ta tn tc] ∧ wr.heap.size < W3.heap.size) ⟨(Kept.refl _ _).alloc _, bX, bX.lt⟩ ?_
      rintro W3 ⟨k3, b3, z3⟩
      have a3 : W3.cell? ⟨w.heap.size, 2, none⟩ = some (.slice (some ⟨g, 0, none⟩) l.length l.length) := (qA.kept k3 (fun h => h)).cell 2
      have x0 : W3.cell? ⟨wr.heap.size, 0, none⟩ = some (.int .i64 l[k].kind) := b3.cell 0
      have x1 : W3.cell? ⟨wr.heap.size, 1, none⟩ = some (.string l[k].name) := b3.cell 1
      have x2 : W3.cell? ⟨wr.heap.size, 2, none⟩ = some (.slice ta tn tc) := b3.cell 2
      have HC3 : Hid (Calls Tryz.prog 43 #[.agg #[.int .i64 l[k].kind, .string l[k].name, .slice ta tn tc]] W3.drew fun e w' => ∃ v, e = .returned (tyVal l[k] v) ∧ TyL (fun q => W3.heap.size ≤ q) w' l[k].kids v ∧ Kept (fun _ => False) W3 w') := Lib.hid ((hcon.out W3.drew ok (.slice ta tn tc) ((hty.out.frame (Same.of_kept k3 (fun _ _ e => e))).frame (Same.drew _))).mono fun e w' ⟨v, h1, h2, h3⟩ => ⟨v, h1, h2, ((Kept.refl _ _).drew).trans h3⟩)
      have B3 := Lib.hid b3
      have G3 := Lib.hid (BG.out.kept k3 (fun h => h))
      clear b3 bX c0 c1 c2 a2
      go_region_held3 (fun w' => w'.cell? ⟨w.heap.size, 2, none⟩ = some (.slice (some ⟨g, 0, none⟩) l.length l.length) ∧ w'.cell? ⟨wr.heap.size, 0, none⟩ = some (.int .i64 l[k].kind) ∧ w'.cell? ⟨wr.heap.size, 1, none⟩ = some (.string l[k].name) ∧ w'.cell? ⟨wr.heap.size, 2, none⟩ = some (.slice ta tn tc)) (go_keep)
        (first | (go_at_call 43; refine HC3.out.mono ?_; rintro e w4 ⟨v, rfl, hv, k4⟩; obtain ⟨va, vn, vc, rfl⟩ := hv.slice; unfold tyVal; have G4 := G3.out.kept k4 (fun h => h); have y0 : w4.cell? ⟨w.heap.size, 2, none⟩ = some (.slice (some ⟨g, 0, none⟩) l.length l.length) := (by rw [k4.cell (p := ⟨w.heap.size, 2, none⟩) (by show w.heap.size < _; omega) (fun h => h)]; exact a3); have y1 : w4.cell? ⟨wr.heap.size, 0, none⟩ = some (.int .i64 l[k].kind) := (B3.out.kept k4 (fun h => h)).cell 0; have y2 : w4.cell? ⟨wr.heap.size, 1, none⟩ = some (.string l[k].name) := (B3.out.kept k4 (fun h => h)).cell 1; have y3 : w4.cell? ⟨wr.heap.size, 2, none⟩ = some (.slice ta tn tc) := (B3.out.kept k4 (fun h => h)).cell 2; have t0 : w4.cell? ⟨g, k * 3, none⟩ = some (L[k * 3]'(by have := HLn.out; omega)) := (by rw [G4.cell]; exact List.getElem?_eq_getElem _); have t1 : w4.cell? ⟨g, k * 3 + 1, none⟩ = some (L[k * 3 + 1]'(by have := HLn.out; omega)) := (by rw [G4.cell]; exact List.getElem?_eq_getElem _); have t2 : w4.cell? ⟨g, k * 3 + 2, none⟩ = some (L[k * 3 + 2]'(by have := HLn.out; omega)) := (by rw [G4.cell]; exact List.getElem?_eq_getElem _); have f0 := G4.frozen (k * 3); have f1 := G4.frozen (k * 3 + 1); have f2 := G4.frozen (k * 3 + 2)))
      have HST := Lib.hid (HCI.out.step hg hlt (k3.trans k4) (hv.mono (fun q _ h => by omega)))
      go_wp2_with fail
      go_roundw
      case rel => exact ⟨k + 1, by omega, by go_num, HST⟩
      case measure => simp [intOf]; omega
    · have hkk : k = l.length := by omega
      subst hkk
      have a0 : wr.cell? ⟨w.heap.size, 0, none⟩ = some (.int .i64 kd) := qA.cell 0
      have a1 : wr.cell? ⟨w.heap.size, 1, none⟩ = some (.string nm) := qA.cell 1
      have a2 : wr.cell? ⟨w.heap.size, 2, none⟩ = some (.slice (some ⟨g, 0, none⟩) l.length l.length) := qA.cell 2
      have r0 : wr.cell? ⟨w.heap.size + 1, 0, none⟩ = some (.int .i64 0) := qR.cell 0
      have r1 : wr.cell? ⟨w.heap.size + 1, 1, none⟩ = some (.string ⟨#[]⟩) := qR.cell 1
      have r2 : wr.cell? ⟨w.heap.size + 1, 2, none⟩ = some (.slice none 0 0) := qR.cell 2
      have f0 := qR.frozen 0
      have f1 := qR.frozen 1
      have f2 := qR.frozen 2
      have QR := Lib.hid qR
      have KP := Lib.hid kp
      clear qR kp qA
      go_wp2_with fail
      have bF := r3' (x := .int .i64 kd) (y := .string nm) (z := .slice (some ⟨g, 0, none⟩) l.length l.length) QR.out rfl
      refine bodyPost_ret (results_one Tryz.results43 rfl (load_ty (t := .mk kd nm l) bF)) rfl ⟨_, rfl, ?_, ?_⟩
      · by_cases hne : l = []
        · subst hne; exact .nil (Or.inr ⟨_, _, rfl⟩)
        · have D := HCI.out.done hne hg
          obtain ⟨L, K', bG, hLn, hLo, hLd⟩ := HCI.out.row
          refine TyL.mk K' hne (by omega) (Nat.le_refl _) (fun i hi => ?_) (fun i hi => ?_)
          · obtain ⟨e0, e1, e2, e3⟩ := hLd i hi hi
            rw [Nat.zero_add]
            have bG' := ((bG.set_other ⟨w.heap.size + 1, 0, none⟩ (.int .i64 kd) (by show g ≠ w.heap.size + 1; omega)).set_other ⟨w.heap.size + 1, 1, none⟩ (.string nm) (by show g ≠ w.heap.size + 1; omega)).set_other ⟨w.heap.size + 1, 2, none⟩ (.slice (some ⟨g, 0, none⟩) l.length l.length) (by show g ≠ w.heap.size + 1; omega)
            exact ⟨by rw [bG'.cell]; exact e0, by rw [bG'.cell]; exact e1, by rw [bG'.cell]; exact e2⟩
          · exact ((hLd i hi hi).2.2.2.frame (set3 (g := w.heap.size + 1) (fun q h => by omega))).mono (fun q _ h => by omega)
      · exact ((KP.out.setCell (p := ⟨w.heap.size + 1, 0, none⟩) (Or.inr (by show w.heap.size ≤ w.heap.size + 1; omega)) _).setCell (p := ⟨w.heap.size + 1, 1, none⟩) (Or.inr (by show w.heap.size ≤ w.heap.size + 1; omega)) _).setCell (p := ⟨w.heap.size + 1, 2, none⟩) (Or.inr (by show w.heap.size ≤ w.heap.size + 1; omega)) _
theorem copyTy_any {t : Ty} (hb : BdTy t) : CpC t := by
  induction hb with
  | mk hn hl ih =>
    intro w ok tk h
    cases h with
    | nil h =>
      rcases h with rfl | ⟨ad, c, rfl⟩
      · exact copyTy_nil.mono fun e w' ⟨h1, h2⟩ => ⟨_, h1, .nil0, h2⟩
      · exact (copyTy_zero ad c).mono fun e w' ⟨g, cap, h1, h2⟩ => ⟨_, h1, .nil (Or.inr ⟨_, _, rfl⟩), h2⟩
    | mk K hne hb hc hcell hk => exact (copyTy_some ih hn K hcell hk).mono fun e w' ⟨v, h1, h2, h3⟩ => ⟨v, h1, h2, h3⟩
end Go.Proofs.YtckjlliobebodaaGreatDoor
