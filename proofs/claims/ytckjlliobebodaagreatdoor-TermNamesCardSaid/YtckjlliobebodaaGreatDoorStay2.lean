/- As Stay: the readers of types and terms, and the whole source. -/
import Derived.Test.YtckjlliobebodaaGreatDoorStay
import Derived.Test.YtckjlliobebodaaGreatDoorRest
set_option linter.unusedVariables false
set_option linter.unusedSimpArgs false
namespace Go.Proofs.YtckjlliobebodaaGreatDoor
open Go.RowKit
def bP {β : Type} (q : Except ER PS) (k : PS → Except ER β) : Except ER β := match q with | .error r => .error r | .ok σ => k σ
def bT {α β : Type} (q : Except ER (α × PS)) (k : α → PS → Except ER β) : Except ER β := match q with | .error r => .error r | .ok (a, σ) => k a σ
section
variable {α β : Type} {s s' : ByteArray}
theorem bP_end {q : Except ER PS} {k : PS → Except ER (β × PS)} (h : EndP s q) (hk : ∀ σ, AtEnd s σ → EndT s (k σ)) : EndT s (bP q k) := by
  cases q with
  | error r => exact h
  | ok σ => exact hk σ h
theorem bT_end {q : Except ER (α × PS)} {k : α → PS → Except ER (β × PS)} (h : EndT s q) (hk : ∀ a σ, AtEnd s σ → EndT s (k a σ)) : EndT s (bT q k) := by
  cases q with
  | error r => exact h
  | ok q => exact hk q.1 q.2 h
theorem bP_rel {q q' : Except ER PS} {k k' : PS → Except ER (β × PS)} (h : RelP s q q') (he : ∀ σ, AtEnd s σ → EndT s (k σ)) (hk : ∀ σ, q = .ok σ → σ.k ≠ 0 → RelT s (k σ) (k' σ)) : RelT s (bP q k) (bP q' k') := by
  rcases h with h | ⟨rfl, h⟩
  · exact Or.inl (bP_end h he)
  · cases q with
    | error r => exact Or.inr ⟨rfl, fun a e => by cases e⟩
    | ok σ => exact hk σ rfl (h σ rfl)
theorem bT_rel {q q' : Except ER (α × PS)} {k k' : α → PS → Except ER (β × PS)} (h : RelT s q q') (he : ∀ a σ, AtEnd s σ → EndT s (k a σ)) (hk : ∀ a σ, q = .ok (a, σ) → σ.k ≠ 0 → RelT s (k a σ) (k' a σ)) : RelT s (bT q k) (bT q' k') := by
  rcases h with h | ⟨rfl, h⟩
  · exact Or.inl (bT_end h he)
  · cases q with
    | error r => exact Or.inr ⟨rfl, fun a e => by cases e⟩
    | ok q => exact hk q.1 q.2 rfl (h q rfl)
theorem ok_rel {a : β} {σ : PS} (h : σ.k ≠ 0) : RelT s (.ok (a, σ)) (.ok (a, σ)) := Or.inr ⟨rfl, fun _ e => by cases e; exact h⟩
theorem err_rel {r : ER} : RelT (α := β) s (.error r) (.error r) := Or.inr ⟨rfl, fun _ e => by cases e⟩
end
theorem typed_mono {s : ByteArray} (f : Nat) : ∀ (f' : Nat) (σ : PS), σ.p ≤ s.size → mu s σ < f → f ≤ f' → typedS f s σ = typedS f' s σ := by
  induction f with
  | zero => intro f' σ _ h; omega
  | succ f ih =>
    intro f' σ hp hm hf
    obtain ⟨f', rfl⟩ : ∃ g, f' = g + 1 := ⟨f' - 1, by omega⟩
    unfold typedS
    split
    · rfl
    split
    · rfl
    split
    · rename_i hi
      cases h1 : advS s σ with
      | error r => rfl
      | ok σ1 =>
        have a1 := inv_adv hp (isS_ne hi) h1
        simp only
        cases h2 : openS s σ1 kLpar with
        | error r => rfl
        | ok σ2 =>
          have a2 := inv_open a1.2.1 h2
          simp only
          rw [ih f' σ2 a2.2.1 (by omega) (by omega)]
    split
    · rename_i hi
      cases h1 : advS s σ with
      | error r => rfl
      | ok σ1 =>
        have a1 := inv_adv hp (isS_ne hi) h1
        simp only
        cases h2 : openS s σ1 kLpar with
        | error r => rfl
        | ok σ2 =>
          have a2 := inv_open a1.2.1 h2
          simp only
          rw [ih f' σ2 a2.2.1 (by omega) (by omega)]
          cases h3 : typedS f' s σ2 with
          | error r => rfl
          | ok q =>
            obtain ⟨t, σ3⟩ := q
            have a3 := typed_mu _ a2.2.1 h3
            simp only
            cases h4 : wantS s σ3 kComma with
            | error r => rfl
            | ok σ4 =>
              have a4 := inv_want a3.2 h4
              simp only
              rw [ih f' σ4 a4.2.1 (by omega) (by omega)]
    · rfl
theorem typed_end {s : ByteArray} {σ : PS} (f : Nat) (h : AtEnd s σ) : EndT s (typedS (f + 1) s σ) := by
  unfold typedS
  rw [if_neg (by rw [h.1]; intro e; exact absurd e.1 (by decide)), is_end h, is_end h, is_end h]
  exact ⟨rfl, h.2.1⟩
def setK (f : Nat) (s : ByteArray) (σ : PS) : Except ER (Ty × PS) := bP (advS s σ) fun σ1 => bP (openS s σ1 kLpar) fun σ2 => bT (typedS f s σ2) fun t σ3 => bP (shutS s σ3 kRpar) fun σ4 => .ok (Ty.mk 5 ⟨#[]⟩ [t], σ4)
def pairK (f : Nat) (s : ByteArray) (σ : PS) : Except ER (Ty × PS) := bP (advS s σ) fun σ1 => bP (openS s σ1 kLpar) fun σ2 => bT (typedS f s σ2) fun t σ3 => bP (wantS s σ3 kComma) fun σ4 => bT (typedS f s σ4) fun u σ5 => bP (shutS s σ5 kRpar) fun σ6 => .ok (Ty.mk 4 ⟨#[]⟩ [t, u], σ6)
theorem typed_eq (f : Nat) (s : ByteArray) (σ : PS) : typedS (f + 1) s σ = if σ.k = 1 ∧ identB σ.tx = true then (bP (advS s σ) fun σ1 => .ok (Ty.mk 3 σ.tx [], σ1)) else if isS σ kInt = true then (bP (advS s σ) fun σ1 => .ok (Ty.mk 1 ⟨#[]⟩ [], σ1)) else if isS σ kSet = true then setK f s σ else if isS σ kPair = true then pairK f s σ else .error (false, σ.ta) := by
  rw [typedS]
  split
  · unfold bP; cases advS s σ <;> rfl
  split
  · unfold bP; cases advS s σ <;> rfl
  split
  · unfold setK bP bT
    cases advS s σ with
    | error r => rfl
    | ok σ1 =>
      simp only
      cases openS s σ1 kLpar with
      | error r => rfl
      | ok σ2 =>
        simp only
        cases typedS f s σ2 with
        | error r => rfl
        | ok q =>
          obtain ⟨x3, σ3⟩ := q
          simp only
          cases shutS s σ3 kRpar <;> rfl
  split
  · unfold pairK bP bT
    cases advS s σ with
    | error r => rfl
    | ok σ1 =>
      simp only
      cases openS s σ1 kLpar with
      | error r => rfl
      | ok σ2 =>
        simp only
        cases typedS f s σ2 with
        | error r => rfl
        | ok q =>
          obtain ⟨x3, σ3⟩ := q
          simp only
          cases wantS s σ3 kComma with
          | error r => rfl
          | ok σ4 =>
            simp only
            cases typedS f s σ4 with
            | error r => rfl
            | ok q =>
              obtain ⟨x5, σ5⟩ := q
              simp only
              cases shutS s σ5 kRpar <;> rfl
  rfl
theorem typed_rel {s s' : ByteArray} (hx : Ext s s') (f : Nat) : ∀ (σ : PS), σ.p ≤ s.size → σ.k ≠ 0 → mu s σ < f → RelT s (typedS f s σ) (typedS f s' σ) := by
  induction f with
  | zero => intro σ _ _ h; omega
  | succ f ih =>
    intro σ hp hk hm
    have one : ∀ t : Ty, RelT s (bP (advS s σ) fun σ1 => .ok (t, σ1)) (bP (advS s' σ) fun σ1 => .ok (t, σ1)) := fun t =>
      bP_rel (adv_rel hx hp) (fun σ h => h) fun σ1 _ k1 => ok_rel k1
    have hm1 : 1 ≤ mu s σ := by unfold mu; rw [if_neg hk]; omega
    obtain ⟨f, rfl⟩ : ∃ g, f = g + 1 := ⟨f - 1, by omega⟩
    rw [typed_eq, typed_eq]
    split
    · exact one _
    split
    · exact one _
    split
    · unfold setK
      have e2 : ∀ σ, AtEnd s σ → EndT s (bT (typedS (f + 1) s σ) fun t σ3 => bP (shutS s σ3 kRpar) fun σ4 => .ok (Ty.mk 5 ⟨#[]⟩ [t], σ4)) := fun σ h => bT_end (typed_end f h) fun t σ h => bP_end (shut_end h _) fun σ h => h
      refine bP_rel (adv_rel hx hp) (fun σ h => bP_end (open_end h _) e2) fun σ1 h1 k1 => ?_
      have a1 := inv_adv hp hk h1
      refine bP_rel (open_rel hx a1.2.1 _) e2 fun σ2 h2 k2 => ?_
      have a2 := inv_open a1.2.1 h2
      refine bT_rel (ih σ2 a2.2.1 k2 (by omega)) (fun t σ h => bP_end (shut_end h _) fun σ h => h) fun t σ3 h3 k3 => ?_
      have a3 := typed_mu _ a2.2.1 h3
      exact bP_rel (shut_rel hx a3.2 k3 _) (fun σ h => h) fun σ4 h4 k4 => ok_rel k4
    split
    · unfold pairK
      have e4 : ∀ (t : Ty) σ, AtEnd s σ → EndT s (bT (typedS (f + 1) s σ) fun u σ5 => bP (shutS s σ5 kRpar) fun σ6 => .ok (Ty.mk 4 ⟨#[]⟩ [t, u], σ6)) := fun t σ h => bT_end (typed_end f h) fun t σ h => bP_end (shut_end h _) fun σ h => h
      have e3 : ∀ (t : Ty) σ, AtEnd s σ → EndT s (bP (wantS s σ kComma) fun σ4 => bT (typedS (f + 1) s σ4) fun u σ5 => bP (shutS s σ5 kRpar) fun σ6 => .ok (Ty.mk 4 ⟨#[]⟩ [t, u], σ6)) := fun t σ h => bP_end (want_end h _) (e4 t)
      have e2 : ∀ σ, AtEnd s σ → EndT s (bT (typedS (f + 1) s σ) fun t σ3 => bP (wantS s σ3 kComma) fun σ4 => bT (typedS (f + 1) s σ4) fun u σ5 => bP (shutS s σ5 kRpar) fun σ6 => .ok (Ty.mk 4 ⟨#[]⟩ [t, u], σ6)) := fun σ h => bT_end (typed_end f h) e3
      refine bP_rel (adv_rel hx hp) (fun σ h => bP_end (open_end h _) e2) fun σ1 h1 k1 => ?_
      have a1 := inv_adv hp hk h1
      refine bP_rel (open_rel hx a1.2.1 _) e2 fun σ2 h2 k2 => ?_
      have a2 := inv_open a1.2.1 h2
      refine bT_rel (ih σ2 a2.2.1 k2 (by omega)) e3 fun t σ3 h3 k3 => ?_
      have a3 := typed_mu _ a2.2.1 h3
      refine bP_rel (want_rel hx a3.2 k3 _) (e4 t) fun σ4 h4 k4 => ?_
      have a4 := inv_want a3.2 h4
      refine bT_rel (ih σ4 a4.2.1 k4 (by omega)) (fun t σ h => bP_end (shut_end h _) fun σ h => h) fun t σ5 h5 k5 => ?_
      have a5 := typed_mu _ a4.2.1 h5
      exact bP_rel (shut_rel hx a5.2 k5 _) (fun σ h => h) fun σ6 h6 k6 => ok_rel k6
    · exact err_rel
theorem mu_pos {s : ByteArray} {σ : PS} (h : σ.k ≠ 0) : 1 ≤ mu s σ := by unfold mu; rw [if_neg h]; omega
def TE (s : ByteArray) (f : Nat) (T : TF) : Prop := ∀ n σ, 1 ≤ n → n ≤ 13 → 14 - n < f → AtEnd s σ → EndT s (T n σ)
def TR (s : ByteArray) (f : Nat) (T T' : TF) : Prop := ∀ n σ, 1 ≤ n → n ≤ 13 → 14 * mu s σ + (14 - n) < f → σ.p ≤ s.size → σ.k ≠ 0 → RelT s (T n σ) (T' n σ)
section
variable {s s' : ByteArray} {T T' : TF} {f : Nat}
theorem inside_eq (T : TF) (s o c : ByteArray) (σ : PS) : insideS T s o c σ = bP (openS s σ o) fun σ1 => bT (T 1 σ1) fun t σ2 => bP (shutS s σ2 c) fun σ3 => .ok (t, σ3) := by
  unfold insideS bP bT
  cases openS s σ o with
  | error r => rfl
  | ok σ1 =>
    simp only
    cases T 1 σ1 with
    | error r => rfl
    | ok q =>
      obtain ⟨x2, σ2⟩ := q
      simp only
      cases shutS s σ2 c <;> rfl
theorem inside_end {o c : ByteArray} {σ : PS} (h : AtEnd s σ) : EndT s (insideS T s o c σ) := by
  unfold insideS openS; rw [is_end h]; exact ⟨rfl, h.2.1⟩
theorem inside_rel (hx : Ext s s') (hI : TInv s T) (hE : TE s f T) (hR : TR s f T T') (o c : ByteArray) {σ : PS} (hp : σ.p ≤ s.size) (hk : σ.k ≠ 0) (hf : 14 * mu s σ ≤ f) : RelT s (insideS T s o c σ) (insideS T' s' o c σ) := by
  rw [inside_eq, inside_eq]
  have hm := mu_pos (s := s) hk
  refine bP_rel (open_rel hx hp o) (fun σ h => bT_end (hE _ _ (by decide) (by decide) (by omega) h) fun t σ h => bP_end (shut_end h _) fun σ h => h) fun σ1 h1 k1 => ?_
  have a1 := inv_open hp h1
  refine bT_rel (hR 1 σ1 (by decide) (by decide) (by omega) a1.2.1 k1) (fun t σ h => bP_end (shut_end h _) fun σ h => h) fun t σ2 h2 k2 => ?_
  have a2 := (hI _ _ _ _ a1.2.1 h2).1.2.1
  exact bP_rel (shut_rel hx a2 k2 _) (fun σ h => h) fun σ3 h3 k3 => ok_rel k3
theorem bound_eq (T : TF) (s : ByteArray) (op : Int) (σ : PS) : boundS T s op σ = bT (nameS s σ) fun x σ1 => bP (wantS s σ1 kIn) fun σ2 => bT (T 7 σ2) fun d σ3 => bP (wantS s σ3 kDot) fun σ4 => bT (T 1 σ4) fun c σ5 => .ok (.mk op x 0 ty0 [d, c], σ5) := by
  unfold boundS bP bT
  cases nameS s σ with
  | error r => rfl
  | ok q =>
    obtain ⟨x1, σ1⟩ := q
    simp only
    cases wantS s σ1 kIn with
    | error r => rfl
    | ok σ2 =>
      simp only
      cases T 7 σ2 with
      | error r => rfl
      | ok q =>
        obtain ⟨x3, σ3⟩ := q
        simp only
        cases wantS s σ3 kDot with
        | error r => rfl
        | ok σ4 =>
          simp only
          cases T 1 σ4 with
          | error r => rfl
          | ok q =>
            obtain ⟨x5, σ5⟩ := q
            rfl
theorem bound_end {op : Int} {σ : PS} (h : AtEnd s σ) : EndT s (boundS T s op σ) := by
  have := name_end h
  rw [bound_eq]
  refine bT_end this fun x σ h => ?_
  unfold wantS eatS; rw [is_end h]; exact ⟨rfl, h.2.1⟩
theorem bound_rel (hx : Ext s s') (hI : TInv s T) (hE : TE s f T) (hR : TR s f T T') (op : Int) {σ : PS} (hp : σ.p ≤ s.size) (hk : σ.k ≠ 0) (hf : 14 * mu s σ ≤ f) : RelT s (boundS T s op σ) (boundS T' s' op σ) := by
  rw [bound_eq, bound_eq]
  have hm := mu_pos (s := s) hk
  have ew : ∀ {t : ByteArray} (k : PS → RT) σ, AtEnd s σ → EndT s (bP (wantS s σ t) k) := by
    intro t k σ h; unfold wantS eatS; rw [is_end h]; exact ⟨rfl, h.2.1⟩
  refine bT_rel (name_rel hx hp) (fun x σ h => ew _ σ h) fun x σ1 h1 k1 => ?_
  have a1 := inv_name hp h1
  refine bP_rel (want_rel hx a1.2.1 k1 _) (fun σ h => bT_end (hE _ _ (by decide) (by decide) (by omega) h) fun t σ h => ew _ σ h) fun σ2 h2 k2 => ?_
  have a2 := inv_want a1.2.1 h2
  refine bT_rel (hR _ _ (by decide) (by decide) (by omega) a2.2.1 k2) (fun t σ h => ew _ σ h) fun t σ3 h3 k3 => ?_
  have a3 := (hI _ _ _ _ a2.2.1 h3).1
  unfold Inv at a3
  refine bP_rel (want_rel hx a3.2.1 k3 _) (fun σ h => bT_end (hE _ _ (by decide) (by decide) (by omega) h) fun t σ h => h) fun σ4 h4 k4 => ?_
  have a4 := inv_want a3.2.1 h4
  exact bT_rel (hR _ _ (by decide) (by decide) (by omega) a4.2.1 k4) (fun t σ h => h) fun t σ5 h5 k5 => ok_rel k5
theorem leaf_eq (s : ByteArray) (t : Tm) (σ : PS) : leafS s t σ = bP (advS s σ) fun σ1 => .ok (t, σ1) := by
  unfold leafS bP; cases advS s σ <;> rfl
theorem binder_eq (T : TF) (s : ByteArray) (op : Int) (σ : PS) : binderS T s op σ = bP (advS s σ) fun σ1 => boundS T s op σ1 := by
  unfold binderS bP; cases advS s σ <;> rfl
theorem leaf_rel (hx : Ext s s') (t : Tm) {σ : PS} (hp : σ.p ≤ s.size) : RelT s (leafS s t σ) (leafS s' t σ) := by
  rw [leaf_eq, leaf_eq]
  exact bP_rel (k := fun σ1 => .ok (t, σ1)) (k' := fun σ1 => .ok (t, σ1)) (adv_rel hx hp) (fun σ h => h) fun σ1 h1 k1 => ok_rel k1
theorem binder_rel (hx : Ext s s') (hI : TInv s T) (hE : TE s f T) (hR : TR s f T T') (op : Int) {σ : PS} (hp : σ.p ≤ s.size) (hk : σ.k ≠ 0) (hf : 14 * mu s σ ≤ f) : RelT s (binderS T s op σ) (binderS T' s' op σ) := by
  rw [binder_eq, binder_eq]
  exact bP_rel (k := fun σ1 => boundS T s op σ1) (k' := fun σ1 => boundS T' s' op σ1) (adv_rel hx hp) (fun σ h => bound_end h) fun σ1 h1 k1 => bound_rel hx hI hE hR op (inv_adv hp hk h1).2.1 k1 (by have := (inv_adv hp hk h1).1; omega)
def funK (T : TF) (s : ByteArray) (op : Int) (σ : PS) : RT := bP (advS s σ) fun σ1 => bT (insideS T s kLpar kRpar σ1) fun t σ2 => .ok (nd op [t], σ2)
theorem worded_eq (T : TF) (s : ByteArray) (σ : PS) : wordedS T s σ = if keywordB σ.tx = true then (if (functionN σ.tx != 0) = true then funK T s (functionN σ.tx) σ else if isS σ kTrue = true then leafS s (nd 1 []) σ else if isS σ kFalse = true then leafS s (nd 2 []) σ else if isS σ kForall = true then binderS T s 8 σ else if isS σ kExists = true then binderS T s 9 σ else if isS σ kFun = true then binderS T s 56 σ else .error (false, σ.ta)) else leafS s (.mk 20 σ.tx 0 ty0 []) σ := by
  unfold wordedS
  cases keywordB σ.tx
  · rfl
  cases (functionN σ.tx != 0)
  · cases isS σ kTrue <;> cases isS σ kFalse <;> cases isS σ kForall <;> cases isS σ kExists <;> cases isS σ kFun <;> rfl
  · simp only [if_true]
    unfold funK bP bT
    cases advS s σ with
    | error r => rfl
    | ok σ1 =>
      simp only
      cases insideS T s kLpar kRpar σ1 with
      | error r => rfl
      | ok q =>
        obtain ⟨x2, σ2⟩ := q
        rfl
theorem worded_rel (hx : Ext s s') (hI : TInv s T) (hE : TE s f T) (hR : TR s f T T') {σ : PS} (hp : σ.p ≤ s.size) (hk : σ.k ≠ 0) (hf : 14 * mu s σ ≤ f) : RelT s (wordedS T s σ) (wordedS T' s' σ) := by
  rw [worded_eq, worded_eq]
  split
  · split
    · unfold funK
      refine bP_rel (adv_rel hx hp) (fun σ h => bT_end (inside_end h) fun t σ h => h) fun σ1 h1 k1 => ?_
      have a1 := inv_adv hp hk h1
      exact bT_rel (inside_rel hx hI hE hR _ _ a1.2.1 k1 (by omega)) (fun t σ h => h) fun t σ2 h2 k2 => ok_rel k2
    split
    · exact leaf_rel hx _ hp
    split
    · exact leaf_rel hx _ hp
    split
    · exact binder_rel hx hI hE hR _ hp hk hf
    split
    · exact binder_rel hx hI hE hR _ hp hk hf
    split
    · exact binder_rel hx hI hE hR _ hp hk hf
    · exact err_rel
  · exact leaf_rel hx _ hp
theorem elems_eq (T : TF) (s : ByteArray) (g : Nat) (l : List Tm) (σ : PS) (h : isS σ kComma = true) : elemsS T s (g + 1) l σ = bP (advS s σ) fun σ1 => bT (T 1 σ1) fun t σ2 => elemsS T s g (l ++ [t]) σ2 := by
  rw [elemsS, h]
  unfold bP bT
  cases advS s σ with
  | error r => rfl
  | ok σ1 =>
    simp only
    cases T 1 σ1 with
    | error r => rfl
    | ok q =>
      obtain ⟨x2, σ2⟩ := q
      rfl
theorem elems_end {g : Nat} {l : List Tm} {σ : PS} (h : AtEnd s σ) : EndT s (elemsS T s (g + 1) l σ) := by
  unfold elemsS; rw [is_end h]; exact h
theorem elems_rel (hx : Ext s s') (hI : TInv s T) (hE : TE s f T) (hR : TR s f T T') (g : Nat) : ∀ (l : List Tm) (σ : PS), σ.p ≤ s.size → σ.k ≠ 0 → 14 * mu s σ ≤ f → mu s σ < g → RelT s (elemsS T s g l σ) (elemsS T' s' g l σ) := by
  induction g with
  | zero => intro l σ _ _ _ h; omega
  | succ g ih =>
    intro l σ hp hk hf hm
    have hm1 := mu_pos (s := s) hk
    cases hi : isS σ kComma
    · unfold elemsS; rw [hi]; exact ok_rel hk
    · rw [elems_eq _ _ _ _ _ hi, elems_eq _ _ _ _ _ hi]
      obtain ⟨g, rfl⟩ : ∃ k, g = k + 1 := ⟨g - 1, by unfold mu at hm; rw [if_neg hk] at hm; omega⟩
      refine bP_rel (adv_rel hx hp) (fun σ h => bT_end (hE _ _ (by decide) (by decide) (by omega) h) fun t σ h => elems_end h) fun σ1 h1 k1 => ?_
      have a1 := inv_adv hp hk h1
      refine bT_rel (hR _ _ (by decide) (by decide) (by omega) a1.2.1 k1) (fun t σ h => elems_end h) fun t σ2 h2 k2 => ?_
      have a2 := (hI _ _ _ _ a1.2.1 h2).1
      unfold Inv at a2
      exact ih _ σ2 a2.2.1 k2 (by omega) (by omega)
theorem elems_mono (hI : TInv s T) (g : Nat) : ∀ (g' : Nat) (l : List Tm) (σ : PS), σ.p ≤ s.size → mu s σ < g → g ≤ g' → elemsS T s g l σ = elemsS T s g' l σ := by
  induction g with
  | zero => intro g' l σ _ h; omega
  | succ g ih =>
    intro g' l σ hp hm hg
    obtain ⟨g', rfl⟩ : ∃ k, g' = k + 1 := ⟨g' - 1, by omega⟩
    cases hi : isS σ kComma
    · unfold elemsS; rw [hi]
    · rw [elems_eq _ _ _ _ _ hi, elems_eq _ _ _ _ _ hi]
      cases h1 : advS s σ with
      | error r => rfl
      | ok σ1 =>
        have a1 := inv_adv hp (isS_ne hi) h1
        simp only [bP]
        cases h2 : T 1 σ1 with
        | error r => rfl
        | ok q =>
          have a2 := (hI _ _ _ _ a1.2.1 h2).1
          unfold Inv at a2
          simp only [bT]
          exact ih g' _ q.2 a2.2.1 (by omega) (by omega)
def elemsK (T : TF) (s : ByteArray) (first : Tm) (σ : PS) : RT := bT (elemsS T s (s.size + 2) [first] σ) fun l σ1 => bP (shutS s σ1 kRcu) fun σ2 => .ok (nd 28 l, σ2)
theorem elements_eq (T : TF) (s : ByteArray) (first : Tm) (bare : Bool) (σ : PS) : elementsS T s first bare σ = if (isS σ kBar && bare && headB first) = true then bP (advS s σ) fun σ1 => bT (T 1 σ1) fun c σ2 => bP (shutS s σ2 kRcu) fun σ3 => .ok (.mk 55 ((first.kids.getD 0 first).name) 0 ty0 [first.kids.getD 1 first, c], σ3) else elemsK T s first σ := by
  unfold elementsS
  cases (isS σ kBar && bare && headB first)
  · unfold elemsK bP bT
    simp only [Bool.false_eq_true, if_false]
    cases elemsS T s (s.size + 2) [first] σ with
    | error r => rfl
    | ok q =>
      obtain ⟨x1, σ1⟩ := q
      simp only
      cases shutS s σ1 kRcu <;> rfl
  · unfold bP bT
    simp only [if_true]
    cases advS s σ with
    | error r => rfl
    | ok σ1 =>
      simp only
      cases T 1 σ1 with
      | error r => rfl
      | ok q =>
        obtain ⟨x2, σ2⟩ := q
        simp only
        cases shutS s σ2 kRcu <;> rfl
theorem elements_end {first : Tm} {bare : Bool} {σ : PS} (h : AtEnd s σ) : EndT s (elementsS T s first bare σ) := by
  rw [elements_eq, is_end h, if_neg (by simp)]
  exact bT_end (elems_end h) fun l σ h => bP_end (shut_end h _) fun σ h => h
theorem elements_rel (hx : Ext s s') (hI : TInv s T) (hI' : TInv s' T') (hE : TE s f T) (hR : TR s f T T') (first : Tm) (bare : Bool) {σ : PS} (hp : σ.p ≤ s.size) (hk : σ.k ≠ 0) (hf : 14 * mu s σ ≤ f) : RelT s (elementsS T s first bare σ) (elementsS T' s' first bare σ) := by
  rw [elements_eq, elements_eq]
  have hm := mu_pos (s := s) hk
  split
  · refine bP_rel (adv_rel hx hp) (fun σ h => bT_end (hE _ _ (by decide) (by decide) (by omega) h) fun t σ h => bP_end (shut_end h _) fun σ h => h) fun σ1 h1 k1 => ?_
    have a1 := inv_adv hp hk h1
    refine bT_rel (hR _ _ (by decide) (by decide) (by omega) a1.2.1 k1) (fun t σ h => bP_end (shut_end h _) fun σ h => h) fun t σ2 h2 k2 => ?_
    exact bP_rel (shut_rel hx (hI _ _ _ _ a1.2.1 h2).1.2.1 k2 _) (fun σ h => h) fun σ3 h3 k3 => ok_rel k3
  · unfold elemsK
    have hz := hx.lt
    rw [elems_mono hI (s.size + 2) (s'.size + 2) [first] σ hp (by have := mu_le s σ; omega) (by omega)]
    refine bT_rel (elems_rel hx hI hE hR _ _ σ hp hk hf (by have := mu_le s σ; omega)) (fun l σ h => bP_end (shut_end h _) fun σ h => h) fun l σ1 h1 k1 => ?_
    exact bP_rel (shut_rel hx (inv_elems hI _ hp h1).2.1 k1 _) (fun σ h => h) fun σ2 h2 k2 => ok_rel k2
def emptyK (s : ByteArray) (σ1 : PS) : RT := bP (advS s σ1) fun σ2 => bP (openS s { σ2 with nest := σ2.nest - 1 } kLbr) fun σ3 => bT (typedS (s.size + 2) s σ3) fun t σ4 => bP (shutS s σ4 kRbr) fun σ5 => .ok (.mk 29 nil0 0 t [], σ5)
theorem braces_eq (T : TF) (s : ByteArray) (σ : PS) : bracesS T s σ = bP (openS s σ kLcu) fun σ1 => if isS σ1 kRcu = true then emptyK s σ1 else bT (T 1 σ1) fun t σ2 => elementsS T s t (σ1.k == 1) σ2 := by
  unfold bracesS
  cases openS s σ kLcu with
  | error r => rfl
  | ok σ1 =>
    simp only [bP]
    cases isS σ1 kRcu
    · simp only [Bool.false_eq_true, if_false]
      unfold bT
      cases T 1 σ1 with
      | error r => rfl
      | ok q => rfl
    · simp only [if_true]
      unfold emptyK bP bT
      cases advS s σ1 with
      | error r => rfl
      | ok σ1 =>
        simp only
        cases openS s { σ1 with nest := σ1.nest - 1 } kLbr with
        | error r => rfl
        | ok σ2 =>
          simp only
          cases typedS (s.size + 2) s σ2 with
          | error r => rfl
          | ok q =>
            obtain ⟨x3, σ3⟩ := q
            simp only
            cases shutS s σ3 kRbr <;> rfl
theorem braces_end {σ : PS} (h : AtEnd s σ) : EndT s (bracesS T s σ) := by
  unfold bracesS openS; rw [is_end h]; exact ⟨rfl, h.2.1⟩
theorem braces_rel (hx : Ext s s') (hI : TInv s T) (hI' : TInv s' T') (hE : TE s f T) (hR : TR s f T T') {σ : PS} (hp : σ.p ≤ s.size) (hk : σ.k ≠ 0) (hf : 14 * mu s σ ≤ f) : RelT s (bracesS T s σ) (bracesS T' s' σ) := by
  rw [braces_eq, braces_eq]
  have hm := mu_pos (s := s) hk
  refine bP_rel (open_rel hx hp _) (fun σ h => ?_) fun σ1 h1 k1 => ?_
  · rw [is_end h]; exact bT_end (hE _ _ (by decide) (by decide) (by omega) h) fun t σ h => elements_end h
  have a1 := inv_open hp h1
  split
  · unfold emptyK
    have et : ∀ σ, AtEnd s σ → EndT s (bT (typedS (s.size + 2) s σ) fun t σ4 => bP (shutS s σ4 kRbr) fun σ5 => .ok (Tm.mk 29 nil0 0 t [], σ5)) := fun σ h => bT_end (typed_end _ h) fun t σ h => bP_end (shut_end h _) fun σ h => h
    refine bP_rel (adv_rel hx a1.2.1) (fun σ h => bP_end (open_end (σ := { σ with nest := σ.nest - 1 }) h _) et) fun σ2 h2 k2 => ?_
    have a2 := inv_adv a1.2.1 k1 h2
    refine bP_rel (open_rel hx (σ := { σ2 with nest := σ2.nest - 1 }) a2.2.1 _) et fun σ3 h3 k3 => ?_
    have a3 := inv_open (σ := { σ2 with nest := σ2.nest - 1 }) a2.2.1 h3
    have hz := hx.lt
    have hm3 := mu_le s σ3
    rw [typed_mono (s.size + 2) (s'.size + 2) σ3 a3.2.1 (by omega) (by omega)]
    refine bT_rel (typed_rel hx _ σ3 a3.2.1 k3 (by omega)) (fun t σ h => bP_end (shut_end h _) fun σ h => h) fun t σ4 h4 k4 => ?_
    exact bP_rel (shut_rel hx (typed_mu _ a3.2.1 h4).2 k4 _) (fun σ h => h) fun σ5 h5 k5 => ok_rel k5
  · refine bT_rel (hR _ _ (by decide) (by decide) (by omega) a1.2.1 k1) (fun t σ h => elements_end h) fun t σ2 h2 k2 => ?_
    have a2 := (hI _ _ _ _ a1.2.1 h2).1
    unfold Inv at a2
    exact elements_rel hx hI hI' hE hR t _ a2.2.1 k2 (by omega)
theorem atom_end {σ : PS} (h : AtEnd s σ) : EndT s (atomS T s σ) := by
  unfold atomS
  rw [h.1, is_end h, is_end h]
  exact ⟨rfl, h.2.1⟩
theorem atom_rel (hx : Ext s s') (hI : TInv s T) (hI' : TInv s' T') (hE : TE s f T) (hR : TR s f T T') {σ : PS} (hp : σ.p ≤ s.size) (hk : σ.k ≠ 0) (hf : 14 * mu s σ ≤ f) : RelT s (atomS T s σ) (atomS T' s' σ) := by
  unfold atomS
  split
  · exact leaf_rel hx _ hp
  · split
    · exact worded_rel hx hI hE hR hp hk hf
    · split
      · exact inside_rel hx hI hE hR _ _ hp hk hf
      · split
        · exact braces_rel hx hI hI' hE hR hp hk hf
        · exact err_rel
theorem after_eq (T : TF) (s : ByteArray) (g : Nat) (t : Tm) (σ : PS) : afterS T s (g + 1) t σ = if isS σ kLpar = true then bT (insideS T s kLpar kRpar σ) fun u σ1 => afterS T s g (nd 54 [t, u]) σ1 else if isS σ kLbr = true then bT (insideS T s kLbr kRbr σ) fun u σ1 => afterS T s g (nd 53 [t, u]) σ1 else if isS σ kTilde = true then bP (advS s σ) fun σ1 => afterS T s g (nd 52 [t]) σ1 else .ok (t, σ) := by
  rw [afterS]
  cases isS σ kLpar
  · cases isS σ kLbr
    · cases isS σ kTilde
      · rfl
      · simp only [Bool.false_eq_true, if_false, if_true]
        unfold bP; cases advS s σ <;> rfl
    · simp only [Bool.false_eq_true, if_false, if_true]
      unfold bT; cases insideS T s kLbr kRbr σ <;> rfl
  · simp only [if_true]
    unfold bT; cases insideS T s kLpar kRpar σ <;> rfl
theorem after_end {g : Nat} {t : Tm} {σ : PS} (h : AtEnd s σ) : EndT s (afterS T s (g + 1) t σ) := by
  rw [after_eq, is_end h, is_end h, is_end h]; exact h
theorem after_rel (hx : Ext s s') (hI : TInv s T) (hE : TE s f T) (hR : TR s f T T') (g : Nat) : ∀ (t : Tm) (σ : PS), σ.p ≤ s.size → σ.k ≠ 0 → 14 * mu s σ ≤ f → mu s σ < g → RelT s (afterS T s g t σ) (afterS T' s' g t σ) := by
  induction g with
  | zero => intro l σ _ _ _ h; omega
  | succ g ih =>
    intro t σ hp hk hf hm
    have hm1 := mu_pos (s := s) hk
    obtain ⟨g, rfl⟩ : ∃ k, g = k + 1 := ⟨g - 1, by unfold mu at hm; rw [if_neg hk] at hm; omega⟩
    rw [after_eq, after_eq]
    split
    · refine bT_rel (inside_rel hx hI hE hR _ _ hp hk hf) (fun t σ h => after_end h) fun u σ1 h1 k1 => ?_
      have a1 := (inv_inside hI hp h1).1
      unfold Inv1 at a1
      exact ih _ σ1 a1.2.1 k1 (by omega) (by omega)
    split
    · refine bT_rel (inside_rel hx hI hE hR _ _ hp hk hf) (fun t σ h => after_end h) fun u σ1 h1 k1 => ?_
      have a1 := (inv_inside hI hp h1).1
      unfold Inv1 at a1
      exact ih _ σ1 a1.2.1 k1 (by omega) (by omega)
    split
    · refine bP_rel (adv_rel hx hp) (fun σ h => after_end h) fun σ1 h1 k1 => ?_
      have a1 := inv_adv hp hk h1
      exact ih _ σ1 a1.2.1 k1 (by omega) (by omega)
    · exact ok_rel hk
theorem after_mono (hI : TInv s T) (g : Nat) : ∀ (g' : Nat) (t : Tm) (σ : PS), σ.p ≤ s.size → mu s σ < g → g ≤ g' → afterS T s g t σ = afterS T s g' t σ := by
  induction g with
  | zero => intro g' l σ _ h; omega
  | succ g ih =>
    intro g' t σ hp hm hg
    obtain ⟨g', rfl⟩ : ∃ k, g' = k + 1 := ⟨g' - 1, by omega⟩
    rw [after_eq, after_eq]
    split
    · cases h1 : insideS T s kLpar kRpar σ with
      | error r => rfl
      | ok q =>
        have a1 := (inv_inside hI hp h1).1
        unfold Inv1 at a1
        exact ih g' _ q.2 a1.2.1 (by omega) (by omega)
    split
    · cases h1 : insideS T s kLbr kRbr σ with
      | error r => rfl
      | ok q =>
        have a1 := (inv_inside hI hp h1).1
        unfold Inv1 at a1
        exact ih g' _ q.2 a1.2.1 (by omega) (by omega)
    split
    · rename_i hi
      cases h1 : advS s σ with
      | error r => rfl
      | ok σ1 =>
        have a1 := inv_adv hp (isS_ne hi) h1
        exact ih g' _ σ1 a1.2.1 (by omega) (by omega)
    · rfl
theorem rest_eq (T : TF) (s : ByteArray) (n g : Nat) (t : Tm) (σ : PS) : restS T s n (g + 1) t σ = if (opOf n σ == 0) = true then .ok (t, σ) else bP (advS s σ) fun σ1 => bT (T (if lvGroup n = 2 then n else n + 1) σ1) fun u σ2 => if (lvGroup n != 1) = true then .ok (nd (opOf n σ) [t, u], σ2) else restS T s n g (nd (opOf n σ) [t, u]) σ2 := by
  rw [restS]
  cases (opOf n σ == 0)
  · simp only [Bool.false_eq_true, if_false]
    unfold bP bT
    cases advS s σ with
    | error r => rfl
    | ok σ1 =>
      simp only
      cases T (if lvGroup n = 2 then n else n + 1) σ1 with
      | error r => rfl
      | ok q => cases (lvGroup n != 1) <;> rfl
  · rfl
theorem op_end {n : Nat} {σ : PS} (h : AtEnd s σ) : (opOf n σ == 0) = true := by
  cases e : (opOf n σ == 0)
  · exact absurd h.1 (opGo_ne (ne_of_beq_false e))
  · rfl
theorem rest_end {n g : Nat} {t : Tm} {σ : PS} (h : AtEnd s σ) : EndT s (restS T s n (g + 1) t σ) := by
  rw [rest_eq, op_end h]; exact h
theorem rest_rel {N : Nat} (hn1 : ∀ n, n = (if lvGroup N = 2 then N else N + 1) → 1 ≤ n ∧ n ≤ 13) (hx : Ext s s') (hI : TInv s T) (hE : TE s f T) (hR : TR s f T T') (g : Nat) : ∀ (t : Tm) (σ : PS), σ.p ≤ s.size → σ.k ≠ 0 → 14 * mu s σ ≤ f → mu s σ < g → RelT s (restS T s N g t σ) (restS T' s' N g t σ) := by
  induction g with
  | zero => intro l σ _ _ _ h; omega
  | succ g ih =>
    intro t σ hp hk hf hm
    have hm1 := mu_pos (s := s) hk
    obtain ⟨g, rfl⟩ : ∃ k, g = k + 1 := ⟨g - 1, by unfold mu at hm; rw [if_neg hk] at hm; omega⟩
    rw [rest_eq, rest_eq]
    split
    · exact ok_rel hk
    have ek : ∀ u σ2, AtEnd s σ2 → EndT s (if (lvGroup N != 1) = true then (.ok (nd (opOf N σ) [t, u], σ2) : RT) else restS T s N (g + 1) (nd (opOf N σ) [t, u]) σ2) := by
      intro u σ2 h
      split
      · exact h
      · exact rest_end h
    refine bP_rel (adv_rel hx hp) (fun σ h => bT_end (hE _ _ (hn1 _ rfl).1 (hn1 _ rfl).2 (by have := (hn1 _ rfl).1; omega) h) ek) fun σ1 h1 k1 => ?_
    have a1 := inv_adv hp hk h1
    refine bT_rel (hR _ _ (hn1 _ rfl).1 (hn1 _ rfl).2 (by have := (hn1 _ rfl).1; omega) a1.2.1 k1) ek fun u σ2 h2 k2 => ?_
    have a2 := (hI _ _ _ _ a1.2.1 h2).1
    unfold Inv at a2
    split
    · exact ok_rel k2
    · exact ih _ σ2 a2.2.1 k2 (by omega) (by omega)
theorem rest_mono (hI : TInv s T) (n g : Nat) : ∀ (g' : Nat) (t : Tm) (σ : PS), σ.p ≤ s.size → mu s σ < g → g ≤ g' → restS T s n g t σ = restS T s n g' t σ := by
  induction g with
  | zero => intro g' l σ _ h; omega
  | succ g ih =>
    intro g' t σ hp hm hg
    obtain ⟨g', rfl⟩ : ∃ k, g' = k + 1 := ⟨g' - 1, by omega⟩
    rw [rest_eq, rest_eq]
    split
    · rfl
    rename_i ho
    cases h1 : advS s σ with
    | error r => rfl
    | ok σ1 =>
      have a1 := inv_adv hp (opGo_ne (ne_of_beq_false (Bool.eq_false_iff.2 ho))) h1
      simp only [bP]
      cases h2 : T (if lvGroup n = 2 then n else n + 1) σ1 with
      | error r => rfl
      | ok q =>
        have a2 := (hI _ _ _ _ a1.2.1 h2).1
        unfold Inv at a2
        simp only [bT]
        split
        · rfl
        · exact ih g' _ q.2 a2.2.1 (by omega) (by omega)
end
theorem term5_eq (f : Nat) (s : ByteArray) (σ : PS) : termS (f + 1) s 5 σ = if isS σ kNot = true then bP (advS s σ) fun σ1 => bT (termS f s 5 σ1) fun t σ2 => .ok (nd 3 [t], σ2) else termS f s 6 σ := by
  rw [termS]; simp only [show ((5 : Nat) == 5) = true from rfl]
  cases isS σ kNot
  · rfl
  · simp only [if_true]
    unfold bP bT
    cases advS s σ with
    | error r => rfl
    | ok σ1 =>
      simp only
      cases termS f s 5 σ1 with
      | error r => rfl
      | ok q =>
        obtain ⟨x2, σ2⟩ := q
        rfl
theorem term13_eq (f : Nat) (s : ByteArray) (σ : PS) : termS (f + 1) s 13 σ = if isS σ kMinus = true then bP (advS s σ) fun σ1 => bT (termS f s 13 σ1) fun t σ2 => .ok (nd 21 [t], σ2) else bT (atomS (termS f s) s σ) fun t σ1 => afterS (termS f s) s (s.size + 2) t σ1 := by
  rw [termS]; simp only [show ((13 : Nat) == 5) = false from rfl, show ((13 : Nat) == 13) = true from rfl]
  cases isS σ kMinus
  · simp only [Bool.false_eq_true, if_false]
    unfold bT
    cases atomS (termS f s) s σ <;> rfl
  · simp only [if_true]
    unfold bP bT
    cases advS s σ with
    | error r => rfl
    | ok σ1 =>
      simp only
      cases termS f s 13 σ1 with
      | error r => rfl
      | ok q =>
        obtain ⟨x2, σ2⟩ := q
        rfl
theorem termn_eq (f : Nat) (s : ByteArray) (n : Nat) (σ : PS) (h5 : n ≠ 5) (h13 : n ≠ 13) : termS (f + 1) s n σ = bT (termS f s (n + 1) σ) fun t σ1 => restS (termS f s) s n (s.size + 2) t σ1 := by
  rw [termS]; simp only [beq_false_of_ne h5, beq_false_of_ne h13]
  unfold bT
  cases termS f s (n + 1) σ <;> rfl
theorem lv_next (N : Nat) (h1 : 1 ≤ N) (h2 : N ≤ 12) : ∀ n, n = (if lvGroup N = 2 then N else N + 1) → 1 ≤ n ∧ n ≤ 13 := by
  rintro n rfl; split <;> omega
theorem term_end (f : Nat) : ∀ (s : ByteArray), TE s f (termS f s) := by
  induction f with
  | zero => intro s n σ _ _ h; omega
  | succ f ih =>
    intro s n σ h1 h13 hf h
    by_cases e5 : n = 5
    · subst e5
      rw [term5_eq, is_end h, if_neg (by simp)]
      exact ih s 6 σ (by decide) (by decide) (by omega) h
    by_cases e13 : n = 13
    · subst e13
      rw [term13_eq, is_end h, if_neg (by simp)]
      exact bT_end (atom_end h) fun t σ h => after_end h
    rw [termn_eq f s n σ e5 e13]
    exact bT_end (ih s (n + 1) σ (by omega) (by omega) (by omega) h) fun t σ h => rest_end h
theorem term_rel {s s' : ByteArray} (hx : Ext s s') (f : Nat) : TR s f (termS f s) (termS f s') := by
  induction f with
  | zero => intro n σ _ _ h; omega
  | succ f ih =>
    intro n σ h1 h13 hf hp hk
    have hm := mu_pos (s := s) hk
    have hI := inv_term f s
    have hI' := inv_term f s'
    have hE := term_end f s
    have hz := hx.lt
    by_cases e5 : n = 5
    · subst e5
      rw [term5_eq, term5_eq]
      split
      · refine bP_rel (adv_rel hx hp) (fun σ h => bT_end (hE _ _ (by decide) (by decide) (by omega) h) fun t σ h => h) fun σ1 h1 k1 => ?_
        have a1 := inv_adv hp hk h1
        exact bT_rel (ih _ _ (by decide) (by decide) (by omega) a1.2.1 k1) (fun t σ h => h) fun t σ2 h2 k2 => ok_rel k2
      · exact ih 6 σ (by decide) (by decide) (by omega) hp hk
    by_cases e13 : n = 13
    · subst e13
      rw [term13_eq, term13_eq]
      split
      · refine bP_rel (adv_rel hx hp) (fun σ h => bT_end (hE _ _ (by decide) (by decide) (by omega) h) fun t σ h => h) fun σ1 h1 k1 => ?_
        have a1 := inv_adv hp hk h1
        exact bT_rel (ih _ _ (by decide) (by decide) (by omega) a1.2.1 k1) (fun t σ h => h) fun t σ2 h2 k2 => ok_rel k2
      · refine bT_rel (atom_rel hx hI hI' hE ih hp hk (by omega)) (fun t σ h => after_end h) fun t σ1 h1 k1 => ?_
        have a1 := (inv_atom hI hp h1).1
        unfold Inv1 at a1
        have m1 := mu_le s σ1
        rw [after_mono hI (s.size + 2) (s'.size + 2) t σ1 a1.2.1 (by omega) (by omega)]
        exact after_rel hx hI hE ih _ t σ1 a1.2.1 k1 (by omega) (by omega)
    rw [termn_eq f s n σ e5 e13, termn_eq f s' n σ e5 e13]
    refine bT_rel (ih _ _ (by omega) (by omega) (by omega) hp hk) (fun t σ h => rest_end h) fun t σ1 h1' k1 => ?_
    have a1 := (hI _ _ _ _ hp h1').1
    unfold Inv at a1
    have m1 := mu_le s σ1
    rw [rest_mono hI n (s.size + 2) (s'.size + 2) t σ1 a1.2.1 (by omega) (by omega)]
    exact rest_rel (lv_next n h1 (by omega)) hx hI hE ih _ t σ1 a1.2.1 k1 (by omega) (by omega)
/-- A parser at the head of its source. -/
def ps0 : PS := ⟨0, 0, nil0, 0, 0, 0⟩
/-- What read and Parse's closure do: the term of a whole source, or where it is wrong. -/
def wholeS (f : Nat) (s : ByteArray) : Except ER (Tm × PS) := bP (advS s ps0) fun σ1 => bT (termS f s 1 σ1) fun t σ2 => if σ2.k = 0 then .ok (t, σ2) else .error (false, σ2.ta)
theorem whole_end {f : Nat} {s : ByteArray} (t : Tm) (σ : PS) (h : AtEnd s σ) : EndT s (if σ.k = 0 then (.ok (t, σ) : RT) else .error (false, σ.ta)) := by
  rw [if_pos h.1]; exact h
theorem whole_rel {s s' : ByteArray} (hx : Ext s s') (f : Nat) (hf : 14 * (s.size + 2) < f) {r : ER} (h : wholeS f s = .error r) : wholeS f s' = .error r ∨ EndE s r := by
  have key : RelT s (wholeS f s) (wholeS f s') := by
    refine bP_rel (adv_rel hx (Nat.zero_le _)) (fun σ h => bT_end (term_end f s _ _ (by decide) (by decide) (by omega) h) fun t σ h => whole_end (f := f) t σ h) fun σ1 h1 k1 => ?_
    have a1 := adv_le (σ := ps0) (Nat.zero_le _) h1
    have m1 := mu_le s σ1
    refine bT_rel (term_rel hx f _ _ (by decide) (by decide) (by omega) a1 k1) (fun t σ h => whole_end (f := f) t σ h) fun t σ2 h2 k2 => ?_
    rw [if_neg k2]
    exact err_rel
  rcases key with k | ⟨k, _⟩
  · rw [h] at k; exact Or.inr k
  · rw [h] at k; exact Or.inl k.symm
end Go.Proofs.YtckjlliobebodaaGreatDoor
