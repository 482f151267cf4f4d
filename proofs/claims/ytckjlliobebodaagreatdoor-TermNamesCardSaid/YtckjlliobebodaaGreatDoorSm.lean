/- The names in what the parser reads are no longer than its source. -/
import Derived.Test.YtckjlliobebodaaGreatDoorInv
namespace Go.Proofs.YtckjlliobebodaaGreatDoor
open Go.RowKit
inductive SmTy (N : Nat) : Ty → Prop
  | mk {k : Int} {n : ByteArray} {l : List Ty} (hn : n.size ≤ N) (hl : ∀ t, t ∈ l → SmTy N t) : SmTy N (.mk k n l)
inductive SmTm (N : Nat) : Tm → Prop
  | mk {o : Int} {n : ByteArray} {i : Int} {t : Ty} {l : List Tm} (hn : n.size ≤ N) (ht : SmTy N t) (hl : ∀ k, k ∈ l → SmTm N k) : SmTm N (.mk o n i t l)
theorem SmTm.name {N : Nat} {t : Tm} (h : SmTm N t) : t.name.size ≤ N := by cases h; assumption
theorem SmTm.kids {N : Nat} {t : Tm} (h : SmTm N t) : ∀ k, k ∈ t.kids → SmTm N k := by cases h; assumption
theorem SmTm.ty {N : Nat} {t : Tm} (h : SmTm N t) : SmTy N t.ty := by cases h; assumption
theorem SmTy.name {N : Nat} {t : Ty} (h : SmTy N t) : t.name.size ≤ N := by cases h; assumption
theorem SmTy.kids {N : Nat} {t : Ty} (h : SmTy N t) : ∀ k, k ∈ t.kids → SmTy N k := by cases h; assumption
theorem sm_ty0 (N : Nat) : SmTy N ty0 := .mk (Nat.zero_le _) (fun t h => by cases h)
theorem sm_nd {N : Nat} {op : Int} {l : List Tm} (hl : ∀ k, k ∈ l → SmTm N k) : SmTm N (nd op l) := .mk (Nat.zero_le _) (sm_ty0 N) hl
theorem all1 {α : Type} {P : α → Prop} {x : α} (h : P x) : ∀ k, k ∈ [x] → P k := by intro k hk; cases List.mem_singleton.1 hk; exact h
theorem all2 {α : Type} {P : α → Prop} {x y : α} (h : P x) (h' : P y) : ∀ k, k ∈ [x, y] → P k := by
  intro k hk; simp only [List.mem_cons, List.not_mem_nil, or_false] at hk; rcases hk with rfl | rfl <;> assumption
def St (N : Nat) (s : ByteArray) (σ : PS) : Prop := σ.p ≤ s.size ∧ σ.tx.size ≤ N
def TSm (N : Nat) (s : ByteArray) (T : TF) : Prop := ∀ n σ t σ', St N s σ → T n σ = .ok (t, σ') → SmTm N t ∧ St N s σ'
theorem st_adv {N : Nat} {s : ByteArray} {σ σ' : PS} (hN : s.size ≤ N) (h : St N s σ) (ha : advS s σ = .ok σ') : St N s σ' := by
  unfold advS at ha
  cases ht : tokAt s (skip s σ.p) with
  | none => rw [ht] at ha; cases ha
  | some t => rw [ht] at ha; cases ha; have := tokAt_le (skip_le s σ.p h.1) ht; exact ⟨this.1, Nat.le_trans this.2 hN⟩
theorem st_eat {N : Nat} {s : ByteArray} {σ σ' : PS} {t : ByteArray} {v : Bool} (hN : s.size ≤ N) (h : St N s σ) (ha : eatS s σ t = .ok (v, σ')) : St N s σ' := by
  unfold eatS at ha
  split at ha
  · cases h1 : advS s σ with
    | ok σ1 => rw [h1] at ha; cases ha; exact st_adv hN h h1
    | error r => rw [h1] at ha; cases ha
  · cases ha; exact h
theorem st_want {N : Nat} {s : ByteArray} {σ σ' : PS} {t : ByteArray} (hN : s.size ≤ N) (h : St N s σ) (ha : wantS s σ t = .ok σ') : St N s σ' := by
  unfold wantS at ha
  cases he : eatS s σ t with
  | error r => rw [he] at ha; cases ha
  | ok q =>
    obtain ⟨v, σ1⟩ := q
    rw [he] at ha
    cases v
    · cases ha
    · cases ha; exact st_eat hN h he
theorem st_shut {N : Nat} {s : ByteArray} {σ σ' : PS} {t : ByteArray} (hN : s.size ≤ N) (h : St N s σ) (ha : shutS s σ t = .ok σ') : St N s σ' := by
  unfold shutS at ha
  cases he : wantS s σ t with
  | error r => rw [he] at ha; cases ha
  | ok σ1 => rw [he] at ha; cases ha; exact (st_want hN h he : St N s σ1)
theorem st_open {N : Nat} {s : ByteArray} {σ σ' : PS} {t : ByteArray} (hN : s.size ≤ N) (h : St N s σ) (ha : openS s σ t = .ok σ') : St N s σ' := by
  unfold openS at ha
  repeat' split at ha
  all_goals first | (cases ha; done) | exact st_adv hN (σ := { σ with nest := σ.nest + 1 }) h ha
theorem st_name {N : Nat} {s : ByteArray} {σ σ' : PS} {x : ByteArray} (hN : s.size ≤ N) (h : St N s σ) (ha : nameS s σ = .ok (x, σ')) : St N s σ' ∧ x.size ≤ N := by
  unfold nameS at ha
  split at ha
  · cases h1 : advS s σ with
    | error r => rw [h1] at ha; cases ha
    | ok σ1 => rw [h1] at ha; cases ha; exact ⟨st_adv hN h h1, h.2⟩
  · cases ha
theorem sm_typed {N : Nat} {s : ByteArray} (hN : s.size ≤ N) (f : Nat) : ∀ {σ σ' : PS} {t : Ty}, St N s σ → typedS f s σ = .ok (t, σ') → SmTy N t ∧ St N s σ' := by
  induction f with
  | zero => intro σ σ' t _ h; cases h
  | succ f ih =>
    intro σ σ' t hs h
    unfold typedS at h
    repeat' split at h
    all_goals try (cases h; done)
    · rename_i _ _ σ1 h1; cases h; exact ⟨.mk hs.2 (fun t h => by cases h), st_adv hN hs h1⟩
    · rename_i _ _ σ1 h1; cases h; exact ⟨.mk (Nat.zero_le _) (fun t h => by cases h), st_adv hN hs h1⟩
    · rename_i _ _ σ1 h1 _ σ2 h2 _ t3 σ3 h3 _ σ4 h4
      cases h
      have a := ih (st_open hN (st_adv hN hs h1) h2) h3
      exact ⟨.mk (Nat.zero_le _) (all1 a.1), st_shut hN a.2 h4⟩
    · rename_i _ _ σ1 h1 _ σ2 h2 _ t3 σ3 h3 _ σ4 h4 _ t5 σ5 h5 _ σ6 h6
      cases h
      have a := ih (st_open hN (st_adv hN hs h1) h2) h3
      have c := ih (st_want hN a.2 h4) h5
      exact ⟨.mk (Nat.zero_le _) (all2 a.1 c.1), st_shut hN c.2 h6⟩
theorem sm_inside {N : Nat} {T : TF} {s o c : ByteArray} {σ σ' : PS} {t : Tm} (hN : s.size ≤ N) (hT : TSm N s T) (hs : St N s σ) (h : insideS T s o c σ = .ok (t, σ')) : SmTm N t ∧ St N s σ' := by
  unfold insideS at h
  repeat' split at h
  all_goals try (cases h; done)
  rename_i σ1 h1 _ t2 σ2 h2 _ σ3 h3
  cases h
  have a := hT _ _ _ _ (st_open hN hs h1) h2
  exact ⟨a.1, st_shut hN a.2 h3⟩
theorem sm_bound {N : Nat} {T : TF} {s : ByteArray} {op : Int} {σ σ' : PS} {t : Tm} (hN : s.size ≤ N) (hT : TSm N s T) (hs : St N s σ) (h : boundS T s op σ = .ok (t, σ')) : SmTm N t ∧ St N s σ' := by
  unfold boundS at h
  repeat' split at h
  all_goals try (cases h; done)
  rename_i x σ1 h1 _ σ2 h2 _ t3 σ3 h3 _ σ4 h4 _ t5 σ5 h5
  cases h
  have a1 := st_name hN hs h1
  have a3 := hT _ _ _ _ (st_want hN a1.1 h2) h3
  have a5 := hT _ _ _ _ (st_want hN a3.2 h4) h5
  exact ⟨.mk a1.2 (sm_ty0 N) (all2 a3.1 a5.1), a5.2⟩
theorem sm_leaf {N : Nat} {s : ByteArray} {σ σ' : PS} {t t' : Tm} (hN : s.size ≤ N) (ht : SmTm N t) (hs : St N s σ) (h : leafS s t σ = .ok (t', σ')) : SmTm N t' ∧ St N s σ' := by
  unfold leafS at h
  split at h
  · cases h
  · rename_i h1; cases h; exact ⟨ht, st_adv hN hs h1⟩
theorem sm_binder {N : Nat} {T : TF} {s : ByteArray} {op : Int} {σ σ' : PS} {t : Tm} (hN : s.size ≤ N) (hT : TSm N s T) (hs : St N s σ) (h : binderS T s op σ = .ok (t, σ')) : SmTm N t ∧ St N s σ' := by
  unfold binderS at h
  split at h
  · cases h
  · rename_i σ1 h1; exact sm_bound hN hT (st_adv hN hs h1) h
theorem sm_nil {N : Nat} {op : Int} : SmTm N (nd op []) := sm_nd (fun k h => by cases h)
theorem sm_worded {N : Nat} {T : TF} {s : ByteArray} {σ σ' : PS} {t : Tm} (hN : s.size ≤ N) (hT : TSm N s T) (hs : St N s σ) (h : wordedS T s σ = .ok (t, σ')) : SmTm N t ∧ St N s σ' := by
  unfold wordedS at h
  repeat' split at h
  all_goals try (cases h; done)
  · exact sm_leaf hN (.mk hs.2 (sm_ty0 N) (fun k h => by cases h)) hs h
  · rename_i _ σ1 h1 _ t2 σ2 h2
    cases h
    have a := sm_inside hN hT (st_adv hN hs h1) h2
    exact ⟨sm_nd (all1 a.1), a.2⟩
  · exact sm_leaf hN sm_nil hs h
  · exact sm_leaf hN sm_nil hs h
  · exact sm_binder hN hT hs h
  · exact sm_binder hN hT hs h
  · exact sm_binder hN hT hs h
theorem sm_elems {N : Nat} {T : TF} {s : ByteArray} (hN : s.size ≤ N) (hT : TSm N s T) (g : Nat) : ∀ {l l' : List Tm} {σ σ' : PS}, (∀ k, k ∈ l → SmTm N k) → St N s σ → elemsS T s g l σ = .ok (l', σ') → (∀ k, k ∈ l' → SmTm N k) ∧ St N s σ' := by
  induction g with
  | zero => intro l l' σ σ' _ _ h; cases h
  | succ g ih =>
    intro l l' σ σ' hl hs h
    unfold elemsS at h
    repeat' split at h
    all_goals try (cases h; done)
    · cases h; exact ⟨hl, hs⟩
    · rename_i hi _ σ1 h1 _ t2 σ2 h2
      have a := hT _ _ _ _ (st_adv hN hs h1) h2
      refine ih (fun k hk => ?_) a.2 h
      rcases List.mem_append.1 hk with hk | hk
      · exact hl k hk
      · exact all1 a.1 k hk
theorem sm_elements {N : Nat} {T : TF} {s : ByteArray} {first : Tm} {bare : Bool} {σ σ' : PS} {t : Tm} (hN : s.size ≤ N) (hT : TSm N s T) (hfirst : SmTm N first) (hs : St N s σ) (h : elementsS T s first bare σ = .ok (t, σ')) : SmTm N t ∧ St N s σ' := by
  have hg : ∀ i, SmTm N (first.kids.getD i first) := by
    intro i
    rw [List.getD_eq_getElem?_getD]
    cases hi : first.kids[i]? with
    | none => exact hfirst
    | some k => exact hfirst.kids k (List.mem_of_getElem? hi)
  unfold elementsS at h
  repeat' split at h
  all_goals try (cases h; done)
  · rename_i hc _ σ1 h1 _ c2 σ2 h2 _ σ3 h3
    cases h
    have a := hT _ _ _ _ (st_adv hN hs h1) h2
    exact ⟨.mk (hg 0).name (sm_ty0 N) (all2 (hg 1) a.1), st_shut hN a.2 h3⟩
  · rename_i _ _ l1 σ1 h1 _ σ2 h2
    cases h
    have a := sm_elems hN hT _ (all1 hfirst) hs h1
    exact ⟨sm_nd a.1, st_shut hN a.2 h2⟩
theorem sm_braces {N : Nat} {T : TF} {s : ByteArray} {σ σ' : PS} {t : Tm} (hN : s.size ≤ N) (hT : TSm N s T) (hs : St N s σ) (h : bracesS T s σ = .ok (t, σ')) : SmTm N t ∧ St N s σ' := by
  unfold bracesS at h
  repeat' split at h
  all_goals try (cases h; done)
  · rename_i _ σ1 h1 _ hi _ σ2 h2 _ σ3 h3 _ t4 σ4 h4 _ σ5 h5
    cases h
    have a2 := st_adv hN (st_open hN hs h1) h2
    have a4 := sm_typed hN _ (st_open hN (σ := { σ2 with nest := σ2.nest - 1 }) a2 h3) h4
    exact ⟨.mk (Nat.zero_le _) a4.1 (fun k h => by cases h), st_shut hN a4.2 h5⟩
  · rename_i _ σ1 h1 _ hi _ t2 σ2 h2
    have a2 := hT _ _ _ _ (st_open hN hs h1) h2
    exact sm_elements hN hT a2.1 a2.2 h
theorem sm_atom {N : Nat} {T : TF} {s : ByteArray} {σ σ' : PS} {t : Tm} (hN : s.size ≤ N) (hT : TSm N s T) (hs : St N s σ) (h : atomS T s σ = .ok (t, σ')) : SmTm N t ∧ St N s σ' := by
  unfold atomS at h
  repeat' split at h
  all_goals try (cases h; done)
  · exact sm_leaf hN (.mk (Nat.zero_le _) (sm_ty0 N) (fun k h => by cases h)) hs h
  · exact sm_worded hN hT hs h
  · exact sm_inside hN hT hs h
  · exact sm_braces hN hT hs h
theorem sm_after {N : Nat} {T : TF} {s : ByteArray} (hN : s.size ≤ N) (hT : TSm N s T) (g : Nat) : ∀ {t t' : Tm} {σ σ' : PS}, SmTm N t → St N s σ → afterS T s g t σ = .ok (t', σ') → SmTm N t' ∧ St N s σ' := by
  induction g with
  | zero => intro t t' σ σ' _ _ h; cases h
  | succ g ih =>
    intro t t' σ σ' ht hs h
    unfold afterS at h
    repeat' split at h
    all_goals try (cases h; done)
    · rename_i _ u σ1 h1
      have a := sm_inside hN hT hs h1
      exact ih (sm_nd (all2 ht a.1)) a.2 h
    · rename_i _ u σ1 h1
      have a := sm_inside hN hT hs h1
      exact ih (sm_nd (all2 ht a.1)) a.2 h
    · rename_i hi _ σ1 h1
      exact ih (sm_nd (all1 ht)) (st_adv hN hs h1) h
    · cases h; exact ⟨ht, hs⟩
theorem sm_rest {N : Nat} {T : TF} {s : ByteArray} {n : Nat} (hN : s.size ≤ N) (hT : TSm N s T) (g : Nat) : ∀ {t t' : Tm} {σ σ' : PS}, SmTm N t → St N s σ → restS T s n g t σ = .ok (t', σ') → SmTm N t' ∧ St N s σ' := by
  induction g with
  | zero => intro t t' σ σ' _ _ h; cases h
  | succ g ih =>
    intro t t' σ σ' ht hs h
    unfold restS at h
    repeat' split at h
    all_goals try (cases h; done)
    · cases h; exact ⟨ht, hs⟩
    · rename_i hk _ σ1 h1 _ u σ2 h2 _ _
      cases h
      have a := hT _ _ _ _ (st_adv hN hs h1) h2
      exact ⟨sm_nd (all2 ht a.1), a.2⟩
    · rename_i hk _ σ1 h1 _ u σ2 h2 _ _
      have a := hT _ _ _ _ (st_adv hN hs h1) h2
      exact ih (sm_nd (all2 ht a.1)) a.2 h
theorem sm_term {N : Nat} {s : ByteArray} (hN : s.size ≤ N) (f : Nat) : TSm N s (termS f s) := by
  induction f with
  | zero => intro n σ t σ' _ h; cases h
  | succ f ih =>
    intro n σ t σ' hs h
    unfold termS at h
    repeat' split at h
    all_goals try (cases h; done)
    · rename_i hi _ σ1 h1 _ u σ2 h2
      cases h
      have a := ih _ _ _ _ (st_adv hN hs h1) h2
      exact ⟨sm_nd (all1 a.1), a.2⟩
    · exact ih _ _ _ _ hs h
    · rename_i hi _ σ1 h1 _ u σ2 h2
      cases h
      have a := ih _ _ _ _ (st_adv hN hs h1) h2
      exact ⟨sm_nd (all1 a.1), a.2⟩
    · rename_i _ u σ1 h1
      have a := sm_atom hN ih hs h1
      exact sm_after hN ih _ a.1 a.2 h
    · rename_i _ u σ1 h1
      have a := ih _ _ _ _ hs h1
      exact sm_rest hN ih _ a.1 a.2 h
end Go.Proofs.YtckjlliobebodaaGreatDoor
