/- What the readers of the term grammar keep: positions go on, brackets are shut. -/
import Derived.Test.YtckjlliobebodaaGreatDoorSpec
namespace Go.Proofs.YtckjlliobebodaaGreatDoor
open Go.RowKit
theorem inv_adv {s : ByteArray} {σ σ' : PS} (hp : σ.p ≤ s.size) (hk : σ.k ≠ 0) (h : advS s σ = .ok σ') : mu s σ' < mu s σ ∧ σ'.p ≤ s.size ∧ σ'.nest = σ.nest := ⟨mu_adv hp hk h, adv_le hp h, adv_nest h⟩
theorem inv_open {s : ByteArray} {σ σ' : PS} {t : ByteArray} (hp : σ.p ≤ s.size) (h : openS s σ t = .ok σ') : mu s σ' < mu s σ ∧ σ'.p ≤ s.size ∧ σ'.nest = σ.nest + 1 := ⟨mu_open hp h, open_le hp h, open_nest h⟩
theorem inv_want {s : ByteArray} {σ σ' : PS} {t : ByteArray} (hp : σ.p ≤ s.size) (h : wantS s σ t = .ok σ') : mu s σ' < mu s σ ∧ σ'.p ≤ s.size ∧ σ'.nest = σ.nest := ⟨mu_want hp h, want_le hp h, want_nest h⟩
theorem inv_shut {s : ByteArray} {σ σ' : PS} {t : ByteArray} (hp : σ.p ≤ s.size) (h : shutS s σ t = .ok σ') : mu s σ' < mu s σ ∧ σ'.p ≤ s.size ∧ σ'.nest = σ.nest - 1 := ⟨(shut_mu hp h).1, (shut_mu hp h).2, shut_nest h⟩
theorem inv_name {s : ByteArray} {σ σ' : PS} {x : ByteArray} (hp : σ.p ≤ s.size) (h : nameS s σ = .ok (x, σ')) : mu s σ' < mu s σ ∧ σ'.p ≤ s.size ∧ σ'.nest = σ.nest := by
  unfold nameS at h
  split at h
  · rename_i hc
    cases ha : advS s σ with
    | error r => rw [ha] at h; cases h
    | ok σ1 => rw [ha] at h; cases h; exact inv_adv hp (by rw [hc.1]; decide) ha
  · cases h
theorem good_nd {op : Int} {l : List Tm} (h : op ≠ 16) : good (nd op l) := fun h' => absurd h' h
/-- As Inv, and something was read. -/
def Inv1 (s : ByteArray) (σ σ' : PS) : Prop := mu s σ' < mu s σ ∧ σ'.p ≤ s.size ∧ σ'.nest = σ.nest
theorem Inv1.inv {s : ByteArray} {σ σ' : PS} (h : Inv1 s σ σ') : Inv s σ σ' := ⟨Nat.le_of_lt h.1, h.2.1, h.2.2⟩
theorem inv_inside {T : TF} {s o c : ByteArray} {σ σ' : PS} {t : Tm} (hT : TInv s T) (hp : σ.p ≤ s.size) (h : insideS T s o c σ = .ok (t, σ')) : Inv1 s σ σ' ∧ good t := by
  unfold insideS at h
  repeat' split at h
  all_goals try (cases h; done)
  rename_i σ1 h1 _ t2 σ2 h2 _ σ3 h3
  cases h
  have a1 := inv_open hp h1
  have a2 := hT _ _ _ _ a1.2.1 h2
  have b2 := a2.1
  unfold Inv at b2
  have a3 := inv_shut b2.2.1 h3
  exact ⟨⟨by omega, a3.2.1, by omega⟩, a2.2⟩
theorem inv_bound {T : TF} {s : ByteArray} {op : Int} {σ σ' : PS} {t : Tm} (hT : TInv s T) (hop : op ≠ 16) (hp : σ.p ≤ s.size) (h : boundS T s op σ = .ok (t, σ')) : Inv1 s σ σ' ∧ good t := by
  unfold boundS at h
  repeat' split at h
  all_goals try (cases h; done)
  rename_i x σ1 h1 _ σ2 h2 _ t3 σ3 h3 _ σ4 h4 _ t5 σ5 h5
  cases h
  have a1 := inv_name hp h1
  have a2 := inv_want a1.2.1 h2
  have a3 := (hT _ _ _ _ a2.2.1 h3).1
  unfold Inv at a3
  have a4 := inv_want a3.2.1 h4
  have a5 := (hT _ _ _ _ a4.2.1 h5).1
  unfold Inv at a5
  exact ⟨⟨by omega, a5.2.1, by omega⟩, fun e => absurd e hop⟩
theorem inv_leaf {s : ByteArray} {σ σ' : PS} {t t' : Tm} (hp : σ.p ≤ s.size) (hk : σ.k ≠ 0) (h : leafS s t σ = .ok (t', σ')) : Inv1 s σ σ' ∧ t' = t := by
  unfold leafS at h
  split at h
  · cases h
  · rename_i h1; cases h; exact ⟨inv_adv hp hk h1, rfl⟩
theorem inv_binder {T : TF} {s : ByteArray} {op : Int} {σ σ' : PS} {t : Tm} (hT : TInv s T) (hop : op ≠ 16) (hp : σ.p ≤ s.size) (hk : σ.k ≠ 0) (h : binderS T s op σ = .ok (t, σ')) : Inv1 s σ σ' ∧ good t := by
  unfold binderS at h
  split at h
  · cases h
  · rename_i σ1 h1
    have a1 := inv_adv hp hk h1
    have a2 := inv_bound hT hop a1.2.1 h
    have b2 := a2.1
    unfold Inv1 at b2
    exact ⟨⟨by omega, b2.2.1, by omega⟩, a2.2⟩
theorem fn_ne (x : ByteArray) : functionN x ≠ 16 := by
  unfold functionN
  split
  · omega
  · decide
theorem inv_worded {T : TF} {s : ByteArray} {σ σ' : PS} {t : Tm} (hT : TInv s T) (hp : σ.p ≤ s.size) (hk : σ.k ≠ 0) (h : wordedS T s σ = .ok (t, σ')) : Inv1 s σ σ' ∧ good t := by
  unfold wordedS at h
  repeat' split at h
  all_goals try (cases h; done)
  · have a := inv_leaf hp hk h; exact ⟨a.1, by rw [a.2]; intro e; exact absurd e (show ¬ (20 : Int) = 16 by decide)⟩
  · rename_i _ σ1 h1 _ t2 σ2 h2
    cases h
    have a1 := inv_adv hp hk h1
    have a2 := (inv_inside hT a1.2.1 h2).1
    unfold Inv1 at a2
    exact ⟨⟨by omega, a2.2.1, by omega⟩, good_nd (fn_ne _)⟩
  · have a := inv_leaf hp hk h; exact ⟨a.1, by rw [a.2]; exact good_nd (by decide)⟩
  · have a := inv_leaf hp hk h; exact ⟨a.1, by rw [a.2]; exact good_nd (by decide)⟩
  · exact inv_binder hT (by decide) hp hk h
  · exact inv_binder hT (by decide) hp hk h
  · exact inv_binder hT (by decide) hp hk h
theorem inv_elems {T : TF} {s : ByteArray} (hT : TInv s T) (g : Nat) : ∀ {l l' : List Tm} {σ σ' : PS}, σ.p ≤ s.size → elemsS T s g l σ = .ok (l', σ') → Inv s σ σ' := by
  induction g with
  | zero => intro l l' σ σ' _ h; cases h
  | succ g ih =>
    intro l l' σ σ' hp h
    unfold elemsS at h
    repeat' split at h
    all_goals try (cases h; done)
    · cases h; exact ⟨Nat.le_refl _, hp, rfl⟩
    · rename_i hi _ σ1 h1 _ t2 σ2 h2
      have a1 := inv_adv hp (isS_ne hi) h1
      have a2 := (hT _ _ _ _ a1.2.1 h2).1
      unfold Inv at a2
      have a3 := ih a2.2.1 h
      unfold Inv at a3 ⊢
      exact ⟨by omega, a3.2.1, by omega⟩
theorem inv_elements {T : TF} {s : ByteArray} {first : Tm} {bare : Bool} {σ σ' : PS} {t : Tm} (hT : TInv s T) (hp : σ.p ≤ s.size) (h : elementsS T s first bare σ = .ok (t, σ')) : mu s σ' < mu s σ ∧ σ'.p ≤ s.size ∧ σ'.nest = σ.nest - 1 ∧ good t := by
  unfold elementsS at h
  repeat' split at h
  all_goals try (cases h; done)
  · rename_i hc _ σ1 h1 _ c2 σ2 h2 _ σ3 h3
    cases h
    have hi : isS σ kBar = true := by
      cases e : isS σ kBar
      · rw [e] at hc; simp at hc
      · rfl
    have a1 := inv_adv hp (isS_ne hi) h1
    have a2 := (hT _ _ _ _ a1.2.1 h2).1
    unfold Inv at a2
    have a3 := inv_shut a2.2.1 h3
    exact ⟨by omega, a3.2.1, by omega, fun e => absurd e (show ¬ (55 : Int) = 16 by decide)⟩
  · rename_i _ _ l1 σ1 h1 _ σ2 h2
    cases h
    have a1 := inv_elems hT _ hp h1
    unfold Inv at a1
    have a2 := inv_shut a1.2.1 h2
    exact ⟨by omega, a2.2.1, by omega, good_nd (by decide)⟩
theorem inv_braces {T : TF} {s : ByteArray} {σ σ' : PS} {t : Tm} (hT : TInv s T) (hp : σ.p ≤ s.size) (h : bracesS T s σ = .ok (t, σ')) : Inv1 s σ σ' ∧ good t := by
  unfold bracesS at h
  repeat' split at h
  all_goals try (cases h; done)
  · rename_i _ σ1 h1 _ hi _ σ2 h2 _ σ3 h3 _ t4 σ4 h4 _ σ5 h5
    cases h
    have a1 := inv_open hp h1
    have a2 := inv_adv a1.2.1 (isS_ne hi) h2
    have a3 := inv_open (σ := { σ2 with nest := σ2.nest - 1 }) a2.2.1 h3
    have b3 : mu s { σ2 with nest := σ2.nest - 1 } = mu s σ2 := rfl
    have c3 : ({ σ2 with nest := σ2.nest - 1 } : PS).nest = σ2.nest - 1 := rfl
    have a4 := typed_mu _ a3.2.1 h4
    have n4 := typed_nest _ h4
    have a5 := inv_shut a4.2 h5
    refine ⟨⟨by omega, a5.2.1, by omega⟩, fun e => absurd e (show ¬ (29 : Int) = 16 by decide)⟩
  · rename_i _ σ1 h1 _ hi _ t2 σ2 h2
    have a1 := inv_open hp h1
    have a2 := (hT _ _ _ _ a1.2.1 h2).1
    unfold Inv at a2
    have a3 := inv_elements hT a2.2.1 h
    exact ⟨⟨by omega, a3.2.1, by omega⟩, a3.2.2.2⟩
theorem inv_atom {T : TF} {s : ByteArray} {σ σ' : PS} {t : Tm} (hT : TInv s T) (hp : σ.p ≤ s.size) (h : atomS T s σ = .ok (t, σ')) : Inv1 s σ σ' ∧ good t := by
  unfold atomS at h
  repeat' split at h
  all_goals try (cases h; done)
  · rename_i hk; have a := inv_leaf hp (by rw [eq_of_beq hk]; decide) h; exact ⟨a.1, by rw [a.2]; intro e; exact absurd e (show ¬ (19 : Int) = 16 by decide)⟩
  · rename_i hk; exact inv_worded hT hp (by rw [eq_of_beq hk]; decide) h
  · exact inv_inside hT hp h
  · exact inv_braces hT hp h
theorem inv_after {T : TF} {s : ByteArray} (hT : TInv s T) (g : Nat) : ∀ {t t' : Tm} {σ σ' : PS}, good t → σ.p ≤ s.size → afterS T s g t σ = .ok (t', σ') → Inv s σ σ' ∧ good t' := by
  induction g with
  | zero => intro t t' σ σ' _ _ h; cases h
  | succ g ih =>
    intro t t' σ σ' hg hp h
    unfold afterS at h
    repeat' split at h
    all_goals try (cases h; done)
    · rename_i _ u σ1 h1
      have a1 := (inv_inside hT hp h1).1
      unfold Inv1 at a1
      have a2 := ih (good_nd (by decide)) a1.2.1 h
      have b2 := a2.1
      unfold Inv at b2 ⊢
      exact ⟨⟨by omega, b2.2.1, by omega⟩, a2.2⟩
    · rename_i _ u σ1 h1
      have a1 := (inv_inside hT hp h1).1
      unfold Inv1 at a1
      have a2 := ih (good_nd (by decide)) a1.2.1 h
      have b2 := a2.1
      unfold Inv at b2 ⊢
      exact ⟨⟨by omega, b2.2.1, by omega⟩, a2.2⟩
    · rename_i hi _ σ1 h1
      have a1 := inv_adv hp (isS_ne hi) h1
      have a2 := ih (good_nd (by decide)) a1.2.1 h
      have b2 := a2.1
      unfold Inv at b2 ⊢
      exact ⟨⟨by omega, b2.2.1, by omega⟩, a2.2⟩
    · cases h; exact ⟨⟨Nat.le_refl _, hp, rfl⟩, hg⟩
theorem opGo_ne {σ : PS} : ∀ {xs : List ByteArray} {os : List Int}, opGo σ xs os ≠ 0 → σ.k ≠ 0 := by
  intro xs
  induction xs with
  | nil => intro os h; exact absurd rfl h
  | cons x xs ih =>
    intro os h
    cases os with
    | nil => exact absurd rfl h
    | cons o os =>
      unfold opGo at h
      cases hi : isS σ x
      · rw [hi] at h; exact ih h
      · exact isS_ne hi
theorem inv_rest {T : TF} {s : ByteArray} {n : Nat} (hT : TInv s T) (g : Nat) : ∀ {t t' : Tm} {σ σ' : PS}, good t → σ.p ≤ s.size → restS T s n g t σ = .ok (t', σ') → Inv s σ σ' ∧ good t' := by
  induction g with
  | zero => intro t t' σ σ' _ _ h; cases h
  | succ g ih =>
    intro t t' σ σ' hg hp h
    unfold restS at h
    repeat' split at h
    all_goals try (cases h; done)
    · cases h; exact ⟨⟨Nat.le_refl _, hp, rfl⟩, hg⟩
    · rename_i hk _ σ1 h1 _ u σ2 h2 _ _
      cases h
      have a1 := inv_adv hp (opGo_ne (ne_of_beq_false hk)) h1
      have a2 := (hT _ _ _ _ a1.2.1 h2).1
      unfold Inv at a2 ⊢
      exact ⟨⟨by omega, a2.2.1, by omega⟩, fun _ => rfl⟩
    · rename_i hk _ σ1 h1 _ u σ2 h2 _ _
      have a1 := inv_adv hp (opGo_ne (ne_of_beq_false hk)) h1
      have a2 := (hT _ _ _ _ a1.2.1 h2).1
      unfold Inv at a2
      have a3 := ih (fun _ => rfl) a2.2.1 h
      have b3 := a3.1
      unfold Inv at b3 ⊢
      exact ⟨⟨by omega, b3.2.1, by omega⟩, a3.2⟩
theorem inv_term (f : Nat) (s : ByteArray) : TInv s (termS f s) := by
  induction f with
  | zero => intro n σ t σ' _ h; cases h
  | succ f ih =>
    intro n σ t σ' hp h
    unfold termS at h
    repeat' split at h
    all_goals try (cases h; done)
    · rename_i hi _ σ1 h1 _ u σ2 h2
      cases h
      have a1 := inv_adv hp (isS_ne hi) h1
      have a2 := (ih _ _ _ _ a1.2.1 h2).1
      unfold Inv at a2 ⊢
      exact ⟨⟨by omega, a2.2.1, by omega⟩, good_nd (by decide)⟩
    · exact ih _ _ _ _ hp h
    · rename_i hi _ σ1 h1 _ u σ2 h2
      cases h
      have a1 := inv_adv hp (isS_ne hi) h1
      have a2 := (ih _ _ _ _ a1.2.1 h2).1
      unfold Inv at a2 ⊢
      exact ⟨⟨by omega, a2.2.1, by omega⟩, good_nd (by decide)⟩
    · rename_i _ u σ1 h1
      have a1 := inv_atom ih hp h1
      have b1 := a1.1
      unfold Inv1 at b1
      have a2 := inv_after ih _ a1.2 b1.2.1 h
      have b2 := a2.1
      unfold Inv at b2 ⊢
      exact ⟨⟨by omega, b2.2.1, by omega⟩, a2.2⟩
    · rename_i _ u σ1 h1
      have a1 := ih _ _ _ _ hp h1
      have b1 := a1.1
      unfold Inv at b1
      have a2 := inv_rest ih _ a1.2 b1.2.1 h
      have b2 := a2.1
      unfold Inv at b2 ⊢
      exact ⟨⟨by omega, b2.2.1, by omega⟩, a2.2⟩
end Go.Proofs.YtckjlliobebodaaGreatDoor
