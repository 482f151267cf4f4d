/- Texts Inv Seven Trow Oper Rest TermA Lmc of this proof, in one. -/
import Derived.Test.YtfhedienjnfdcaaGreatDoorG2
import Derived.Maps.AppendAt
import Derived.Deep.CutBlock
import Derived.StillTail
set_option linter.unusedVariables false
set_option linter.unusedSimpArgs false
set_option maxRecDepth 100000
set_option maxHeartbeats 32000000
namespace Go.Proofs.YtfhedienjnfdcaaGreatDoor
open Go.RowKit
theorem inv_adv {s : ByteArray} {σ σ' : PS} (hp : σ.p ≤ s.size) (hk : σ.k ≠ 0) (h : advS s σ = .ok σ') : mu s σ' < mu s σ ∧ σ'.p ≤ s.size ∧ σ'.nest = σ.nest := ⟨mu_adv hp hk h, adv_le hp h, adv_nest h⟩
theorem inv_open {s : ByteArray} {σ σ' : PS} {t : ByteArray} (hp : σ.p ≤ s.size) (h : openS s σ t = .ok σ') : mu s σ' < mu s σ ∧ σ'.p ≤ s.size ∧ σ'.nest = σ.nest + 1 := ⟨mu_open hp h, open_le hp h, open_nest h⟩
theorem inv_want {s : ByteArray} {σ σ' : PS} {t : ByteArray} (hp : σ.p ≤ s.size) (h : wantS s σ t = .ok σ') : mu s σ' < mu s σ ∧ σ'.p ≤ s.size ∧ σ'.nest = σ.nest := ⟨mu_want hp h, want_le hp h, want_nest h⟩
theorem inv_shut {s : ByteArray} {σ σ' : PS} {t : ByteArray} (hp : σ.p ≤ s.size) (h : shutS s σ t = .ok σ') : mu s σ' < mu s σ ∧ σ'.p ≤ s.size ∧ σ'.nest = σ.nest - 1 := ⟨(shut_mu hp h).1, (shut_mu hp h).2, shut_nest h⟩
theorem inv_name {s : ByteArray} {σ σ' : PS} {x : ByteArray} (hp : σ.p ≤ s.size) (h : nameS s σ = .ok (x, σ')) : mu s σ' < mu s σ ∧ σ'.p ≤ s.size ∧ σ'.nest = σ.nest := by
 unfold nameS at h
 split at h
 ·rename_i hc
  cases ha : advS s σ with
  | error r => rw [ha] at h; cases h
  | ok σ1 => rw [ha] at h; cases h; exact inv_adv hp (by rw [hc.1]; decide) ha
 ·cases h
theorem good_nd {op : Int} {l : List Tm} (h : op ≠ 16) : good (nd op l) := fun h' => absurd h' h
def Inv1 (s : ByteArray) (σ σ' : PS) : Prop := mu s σ' < mu s σ ∧ σ'.p ≤ s.size ∧ σ'.nest = σ.nest
theorem Inv1.inv {s : ByteArray} {σ σ' : PS} (h : Inv1 s σ σ') : Inv s σ σ' := ⟨Nat.le_of_lt h.1, h.2.1, h.2.2⟩
theorem inv_inside {T : TF} {s o c : ByteArray} {σ σ' : PS} {t : Tm} (hT : TInv s T) (hp : σ.p ≤ s.size) (h : insideS T s o c σ = .ok (t, σ')) : Inv1 s σ σ' ∧ good t := by
 unfold insideS at h
 repeat' split at h
 all_goals try (cases h; done)
 rename_i σ1 h1 _ t2 σ2 h2 _ σ3 h3
 cases h
 have a1 := inv_open hp h1
 have a2 := hT _ _ _ _ a1.2.1 h2
 have b2 := a2.1
 unfold Inv at b2
 have a3 := inv_shut b2.2.1 h3
 exact ⟨⟨by omega, a3.2.1, by omega⟩, a2.2⟩
theorem inv_bound {T : TF} {s : ByteArray} {op : Int} {σ σ' : PS} {t : Tm} (hT : TInv s T) (hop : op ≠ 16) (hp : σ.p ≤ s.size) (h : boundS T s op σ = .ok (t, σ')) : Inv1 s σ σ' ∧ good t := by
 unfold boundS at h
 repeat' split at h
 all_goals try (cases h; done)
 rename_i x σ1 h1 _ σ2 h2 _ t3 σ3 h3 _ σ4 h4 _ t5 σ5 h5
 cases h
 have a1 := inv_name hp h1
 have a2 := inv_want a1.2.1 h2
 have a3 := (hT _ _ _ _ a2.2.1 h3).1
 unfold Inv at a3
 have a4 := inv_want a3.2.1 h4
 have a5 := (hT _ _ _ _ a4.2.1 h5).1
 unfold Inv at a5
 exact ⟨⟨by omega, a5.2.1, by omega⟩, fun e => absurd e hop⟩
theorem inv_leaf {s : ByteArray} {σ σ' : PS} {t t' : Tm} (hp : σ.p ≤ s.size) (hk : σ.k ≠ 0) (h : leafS s t σ = .ok (t', σ')) : Inv1 s σ σ' ∧ t' = t := by
 unfold leafS at h
 split at h
 ·cases h
 ·rename_i h1; cases h; exact ⟨inv_adv hp hk h1, rfl⟩
theorem inv_binder {T : TF} {s : ByteArray} {op : Int} {σ σ' : PS} {t : Tm} (hT : TInv s T) (hop : op ≠ 16) (hp : σ.p ≤ s.size) (hk : σ.k ≠ 0) (h : binderS T s op σ = .ok (t, σ')) : Inv1 s σ σ' ∧ good t := by
 unfold binderS at h
 split at h
 ·cases h
 ·rename_i σ1 h1
  have a1 := inv_adv hp hk h1
  have a2 := inv_bound hT hop a1.2.1 h
  have b2 := a2.1
  unfold Inv1 at b2
  exact ⟨⟨by omega, b2.2.1, by omega⟩, a2.2⟩
theorem fn_ne (x : ByteArray) : functionN x ≠ 16 := by
 unfold functionN
 split
 ·omega
 ·decide
theorem inv_worded {T : TF} {s : ByteArray} {σ σ' : PS} {t : Tm} (hT : TInv s T) (hp : σ.p ≤ s.size) (hk : σ.k ≠ 0) (h : wordedS T s σ = .ok (t, σ')) : Inv1 s σ σ' ∧ good t := by
 unfold wordedS at h
 repeat' split at h
 all_goals try (cases h; done)
 ·have a := inv_leaf hp hk h; exact ⟨a.1, by rw [a.2]; intro e; exact absurd e (show ¬ (20 : Int) = 16 by decide)⟩
 ·rename_i _ σ1 h1 _ t2 σ2 h2
  cases h
  have a1 := inv_adv hp hk h1
  have a2 := (inv_inside hT a1.2.1 h2).1
  unfold Inv1 at a2
  exact ⟨⟨by omega, a2.2.1, by omega⟩, good_nd (fn_ne _)⟩
 ·have a := inv_leaf hp hk h; exact ⟨a.1, by rw [a.2]; exact good_nd (by decide)⟩
 ·have a := inv_leaf hp hk h; exact ⟨a.1, by rw [a.2]; exact good_nd (by decide)⟩
 ·exact inv_binder hT (by decide) hp hk h
 ·exact inv_binder hT (by decide) hp hk h
 ·exact inv_binder hT (by decide) hp hk h
theorem inv_elems {T : TF} {s : ByteArray} (hT : TInv s T) (g : Nat) : ∀ {l l' : List Tm} {σ σ' : PS}, σ.p ≤ s.size → elemsS T s g l σ = .ok (l', σ') → Inv s σ σ' := by
 induction g with
 | zero => intro l l' σ σ' _ h; cases h
 | succ g ih =>
  intro l l' σ σ' hp h
  unfold elemsS at h
  repeat' split at h
  all_goals try (cases h; done)
  ·cases h; exact ⟨Nat.le_refl _, hp, rfl⟩
  ·rename_i hi _ σ1 h1 _ t2 σ2 h2
   have a1 := inv_adv hp (isS_ne hi) h1
   have a2 := (hT _ _ _ _ a1.2.1 h2).1
   unfold Inv at a2
   have a3 := ih a2.2.1 h
   unfold Inv at a3 ⊢
   exact ⟨by omega, a3.2.1, by omega⟩
theorem inv_elements {T : TF} {s : ByteArray} {first : Tm} {bare : Bool} {σ σ' : PS} {t : Tm} (hT : TInv s T) (hp : σ.p ≤ s.size) (h : elementsS T s first bare σ = .ok (t, σ')) : mu s σ' < mu s σ ∧ σ'.p ≤ s.size ∧ σ'.nest = σ.nest - 1 ∧ good t := by
 unfold elementsS at h
 repeat' split at h
 all_goals try (cases h; done)
 ·rename_i hc _ σ1 h1 _ c2 σ2 h2 _ σ3 h3
  cases h
  have hi : isS σ kBar = true := by
   cases e : isS σ kBar
   ·rw [e] at hc; simp at hc
   ·rfl
  have a1 := inv_adv hp (isS_ne hi) h1
  have a2 := (hT _ _ _ _ a1.2.1 h2).1
  unfold Inv at a2
  have a3 := inv_shut a2.2.1 h3
  exact ⟨by omega, a3.2.1, by omega, fun e => absurd e (show ¬ (55 : Int) = 16 by decide)⟩
 ·rename_i _ _ l1 σ1 h1 _ σ2 h2
  cases h
  have a1 := inv_elems hT _ hp h1
  unfold Inv at a1
  have a2 := inv_shut a1.2.1 h2
  exact ⟨by omega, a2.2.1, by omega, good_nd (by decide)⟩
theorem inv_braces {T : TF} {s : ByteArray} {σ σ' : PS} {t : Tm} (hT : TInv s T) (hp : σ.p ≤ s.size) (h : bracesS T s σ = .ok (t, σ')) : Inv1 s σ σ' ∧ good t := by
 unfold bracesS at h
 repeat' split at h
 all_goals try (cases h; done)
 ·rename_i _ σ1 h1 _ hi _ σ2 h2 _ σ3 h3 _ t4 σ4 h4 _ σ5 h5
  cases h
  have a1 := inv_open hp h1
  have a2 := inv_adv a1.2.1 (isS_ne hi) h2
  have a3 := inv_open (σ := { σ2 with nest := σ2.nest - 1 }) a2.2.1 h3
  have b3 : mu s { σ2 with nest := σ2.nest - 1 } = mu s σ2 := rfl
  have c3 : ({ σ2 with nest := σ2.nest - 1 } : PS).nest = σ2.nest - 1 := rfl
  have a4 := typed_mu _ a3.2.1 h4
  have n4 := typed_nest _ h4
  have a5 := inv_shut a4.2 h5
  refine ⟨⟨by omega, a5.2.1, by omega⟩, fun e => absurd e (show ¬ (29 : Int) = 16 by decide)⟩
 ·rename_i _ σ1 h1 _ hi _ t2 σ2 h2
  have a1 := inv_open hp h1
  have a2 := (hT _ _ _ _ a1.2.1 h2).1
  unfold Inv at a2
  have a3 := inv_elements hT a2.2.1 h
  exact ⟨⟨by omega, a3.2.1, by omega⟩, a3.2.2.2⟩
theorem inv_atom {T : TF} {s : ByteArray} {σ σ' : PS} {t : Tm} (hT : TInv s T) (hp : σ.p ≤ s.size) (h : atomS T s σ = .ok (t, σ')) : Inv1 s σ σ' ∧ good t := by
 unfold atomS at h
 repeat' split at h
 all_goals try (cases h; done)
 ·rename_i hk; have a := inv_leaf hp (by rw [eq_of_beq hk]; decide) h; exact ⟨a.1, by rw [a.2]; intro e; exact absurd e (show ¬ (19 : Int) = 16 by decide)⟩
 ·rename_i hk; exact inv_worded hT hp (by rw [eq_of_beq hk]; decide) h
 ·exact inv_inside hT hp h
 ·exact inv_braces hT hp h
theorem inv_after {T : TF} {s : ByteArray} (hT : TInv s T) (g : Nat) : ∀ {t t' : Tm} {σ σ' : PS}, good t → σ.p ≤ s.size → afterS T s g t σ = .ok (t', σ') → Inv s σ σ' ∧ good t' := by
 induction g with
 | zero => intro t t' σ σ' _ _ h; cases h
 | succ g ih =>
  intro t t' σ σ' hg hp h
  unfold afterS at h
  repeat' split at h
  all_goals try (cases h; done)
  ·rename_i _ u σ1 h1
   have a1 := (inv_inside hT hp h1).1
   unfold Inv1 at a1
   have a2 := ih (good_nd (by decide)) a1.2.1 h
   have b2 := a2.1
   unfold Inv at b2 ⊢
   exact ⟨⟨by omega, b2.2.1, by omega⟩, a2.2⟩
  ·rename_i _ u σ1 h1
   have a1 := (inv_inside hT hp h1).1
   unfold Inv1 at a1
   have a2 := ih (good_nd (by decide)) a1.2.1 h
   have b2 := a2.1
   unfold Inv at b2 ⊢
   exact ⟨⟨by omega, b2.2.1, by omega⟩, a2.2⟩
  ·rename_i hi _ σ1 h1
   have a1 := inv_adv hp (isS_ne hi) h1
   have a2 := ih (good_nd (by decide)) a1.2.1 h
   have b2 := a2.1
   unfold Inv at b2 ⊢
   exact ⟨⟨by omega, b2.2.1, by omega⟩, a2.2⟩
  ·cases h; exact ⟨⟨Nat.le_refl _, hp, rfl⟩, hg⟩
theorem opGo_ne {σ : PS} : ∀ {xs : List ByteArray} {os : List Int}, opGo σ xs os ≠ 0 → σ.k ≠ 0 := by
 intro xs
 induction xs with
 | nil => intro os h; exact absurd rfl h
 | cons x xs ih =>
  intro os h
  cases os with
  | nil => exact absurd rfl h
  | cons o os =>
   unfold opGo at h
   cases hi : isS σ x
   ·rw [hi] at h; exact ih h
   ·exact isS_ne hi
theorem inv_rest {T : TF} {s : ByteArray} {n : Nat} (hT : TInv s T) (g : Nat) : ∀ {t t' : Tm} {σ σ' : PS}, good t → σ.p ≤ s.size → restS T s n g t σ = .ok (t', σ') → Inv s σ σ' ∧ good t' := by
 induction g with
 | zero => intro t t' σ σ' _ _ h; cases h
 | succ g ih =>
  intro t t' σ σ' hg hp h
  unfold restS at h
  repeat' split at h
  all_goals try (cases h; done)
  ·cases h; exact ⟨⟨Nat.le_refl _, hp, rfl⟩, hg⟩
  ·rename_i hk _ σ1 h1 _ u σ2 h2 _ _
   cases h
   have a1 := inv_adv hp (opGo_ne (ne_of_beq_false hk)) h1
   have a2 := (hT _ _ _ _ a1.2.1 h2).1
   unfold Inv at a2 ⊢
   exact ⟨⟨by omega, a2.2.1, by omega⟩, fun _ => rfl⟩
  ·rename_i hk _ σ1 h1 _ u σ2 h2 _ _
   have a1 := inv_adv hp (opGo_ne (ne_of_beq_false hk)) h1
   have a2 := (hT _ _ _ _ a1.2.1 h2).1
   unfold Inv at a2
   have a3 := ih (fun _ => rfl) a2.2.1 h
   have b3 := a3.1
   unfold Inv at b3 ⊢
   exact ⟨⟨by omega, b3.2.1, by omega⟩, a3.2⟩
theorem inv_term (f : Nat) (s : ByteArray) : TInv s (termS f s) := by
 induction f with
 | zero => intro n σ t σ' _ h; cases h
 | succ f ih =>
  intro n σ t σ' hp h
  unfold termS at h
  repeat' split at h
  all_goals try (cases h; done)
  ·rename_i hi _ σ1 h1 _ u σ2 h2
   cases h
   have a1 := inv_adv hp (isS_ne hi) h1
   have a2 := (ih _ _ _ _ a1.2.1 h2).1
   unfold Inv at a2 ⊢
   exact ⟨⟨by omega, a2.2.1, by omega⟩, good_nd (by decide)⟩
  ·exact ih _ _ _ _ hp h
  ·rename_i hi _ σ1 h1 _ u σ2 h2
   cases h
   have a1 := inv_adv hp (isS_ne hi) h1
   have a2 := (ih _ _ _ _ a1.2.1 h2).1
   unfold Inv at a2 ⊢
   exact ⟨⟨by omega, a2.2.1, by omega⟩, good_nd (by decide)⟩
  ·rename_i _ u σ1 h1
   have a1 := inv_atom ih hp h1
   have b1 := a1.1
   unfold Inv1 at b1
   have a2 := inv_after ih _ a1.2 b1.2.1 h
   have b2 := a2.1
   unfold Inv at b2 ⊢
   exact ⟨⟨by omega, b2.2.1, by omega⟩, a2.2⟩
  ·rename_i _ u σ1 h1
   have a1 := ih _ _ _ _ hp h1
   have b1 := a1.1
   unfold Inv at b1
   have a2 := inv_rest ih _ a1.2 b1.2.1 h
   have b2 := a2.1
   unfold Inv at b2 ⊢
   exact ⟨⟨by omega, b2.2.1, by omega⟩, a2.2⟩
def z27 : List Value := [.int .i64 0, .string ⟨#[]⟩, .int .i64 0, .int .i64 0, .string ⟨#[]⟩, .slice none 0 0, .slice none 0 0]
theorem r7 {W : World} {R : Nat} {l : List Value} {x0 x1 x2 x3 x4 x5 x6 : Value} (h : Blk W R 28 l) (hl : l.length = 7) :
  Blk (((((((W.setCell ⟨R, 0, none⟩ x0).setCell ⟨R, 1, none⟩ x1).setCell ⟨R, 2, none⟩ x2).setCell ⟨R, 3, none⟩ x3).setCell ⟨R, 4, none⟩ x4).setCell ⟨R, 5, none⟩ x5).setCell ⟨R, 6, none⟩ x6) R 28 [x0, x1, x2, x3, x4, x5, x6] := by
 match l, hl with
 | [a0, a1, a2, a3, a4, a5, a6], _ => exact ((((((h.set 0 x0).set 1 x1).set 2 x2).set 3 x3).set 4 x4).set 5 x5).set 6 x6
theorem p7w {W : World} {b : Nat} {s : ByteArray} {σ : PS} {R : Nat} {x0 x1 x2 x3 x4 x5 x6 : Value} (h : PW W b s σ) (hb : R ≠ b) (h2 : 4 ≤ R) :
  PW (((((((W.setCell ⟨R, 0, none⟩ x0).setCell ⟨R, 1, none⟩ x1).setCell ⟨R, 2, none⟩ x2).setCell ⟨R, 3, none⟩ x3).setCell ⟨R, 4, none⟩ x4).setCell ⟨R, 5, none⟩ x5).setCell ⟨R, 6, none⟩ x6) b s σ :=
 ((((((h.store (p := ⟨R, 0, none⟩) hb h2 x0).store (p := ⟨R, 1, none⟩) hb h2 x1).store (p := ⟨R, 2, none⟩) hb h2 x2).store (p := ⟨R, 3, none⟩) hb h2 x3).store (p := ⟨R, 4, none⟩) hb h2 x4).store (p := ⟨R, 5, none⟩) hb h2 x5).store (p := ⟨R, 6, none⟩) hb h2 x6
theorem k7w {w W : World} {S : Nat → Prop} {R : Nat} {x0 x1 x2 x3 x4 x5 x6 : Value} (h : Kept S w W) (hR : S R ∨ w.heap.size ≤ R) :
  Kept S w (((((((W.setCell ⟨R, 0, none⟩ x0).setCell ⟨R, 1, none⟩ x1).setCell ⟨R, 2, none⟩ x2).setCell ⟨R, 3, none⟩ x3).setCell ⟨R, 4, none⟩ x4).setCell ⟨R, 5, none⟩ x5).setCell ⟨R, 6, none⟩ x6) :=
 ((((((h.setCell (p := ⟨R, 0, none⟩) hR x0).setCell (p := ⟨R, 1, none⟩) hR x1).setCell (p := ⟨R, 2, none⟩) hR x2).setCell (p := ⟨R, 3, none⟩) hR x3).setCell (p := ⟨R, 4, none⟩) hR x4).setCell (p := ⟨R, 5, none⟩) hR x5).setCell (p := ⟨R, 6, none⟩) hR x6
theorem same7 {W : World} {n R : Nat} {x0 x1 x2 x3 x4 x5 x6 : Value} (h : R < n) : Same (fun k => n ≤ k) W (((((((W.setCell ⟨R, 0, none⟩ x0).setCell ⟨R, 1, none⟩ x1).setCell ⟨R, 2, none⟩ x2).setCell ⟨R, 3, none⟩ x3).setCell ⟨R, 4, none⟩ x4).setCell ⟨R, 5, none⟩ x5).setCell ⟨R, 6, none⟩ x6) := by
 intro k hk hl
 exact (k7w (S := (· = R)) (Kept.refl _ _) (Or.inl rfl)).block k hl (by show ¬ k = R; omega)
theorem b7w {W : World} {R c : Nat} {t : TypeId} {l : List Value} {x0 x1 x2 x3 x4 x5 x6 : Value} (h : Blk W c t l) (hc : c ≠ R) :
  Blk (((((((W.setCell ⟨R, 0, none⟩ x0).setCell ⟨R, 1, none⟩ x1).setCell ⟨R, 2, none⟩ x2).setCell ⟨R, 3, none⟩ x3).setCell ⟨R, 4, none⟩ x4).setCell ⟨R, 5, none⟩ x5).setCell ⟨R, 6, none⟩ x6) c t l :=
 h.kept (S := (· = R)) (k7w (Kept.refl _ _) (Or.inl rfl)) hc
theorem ret_tm {fn : Func} {p : Tmp} (hf : fn.results = #[.cell p 28]) {b n : Nat} {s : ByteArray} {q : RT} {σ' : PS} {w W : World} {t : Tm} {tk kk : Value} {R : Nat} {a : Act} (hq : q = .ok (t, σ')) (hR : a.tmps.getD p undef = .pointer (some ⟨R, 0, none⟩)) (hd : a.defers = [])
  (hb : Blk W R 28 (tmCells t tk kk)) (hk : TyL (fun k => n ≤ k) W t.ty.kids tk) (hm : TmL (fun k => n ≤ k) W t.kids kk) (hp : PW W b s σ') (hkp : Kept (· = b) w W) : bodyPost Tryz.prog fn (RPost b s (VTm n) q w) Exit.ret a W :=
 bodyPost_ret (results_one hf hR (load_tm hb)) hd (RPost.ok hq ⟨_, rfl, ⟨tk, kk, rfl, hk, hm⟩, hp, hkp⟩)
def TC (b : Nat) (s : ByteArray) (f : Nat) (T : TF) : Prop := ∀ (n : Nat) (m : Int) (_ : m = n) (σ : PS) (w : World), 1 ≤ n → n ≤ 13 → PW w b s σ → 14 * mu s σ + (14 - n) < f →
 Calls Tryz.prog 94 #[.pointer (some ⟨b, 0, none⟩), .int .i64 m] w (RPost b s (VTm w.heap.size) (T n σ) w)
theorem TyL.nil0 {ok : Nat → Prop} {w : World} : TyL ok w [] (.slice none 0 0) := .nil (Or.inl rfl)
theorem TmL.nil0 {ok : Nat → Prop} {w : World} : TmL ok w [] (.slice none 0 0) := .nil (Or.inl rfl)
abbrev E3 := Tm × Value × Value
def flat : List E3 → List Value
 | [] => []
 | e :: E => tmCells e.1 e.2.1 e.2.2 ++ flat E
def EL (ok : Nat → Prop) (w : World) (E : List E3) : Prop := ∀ e ∈ E, TyL ok w e.1.ty.kids e.2.1 ∧ TmL ok w e.1.kids e.2.2
theorem flat_len : ∀ (E : List E3), (flat E).length = E.length * 7
 | [] => rfl
 | e :: E => by rw [flat, List.length_append, flat_len E, List.length_cons]; show 7 + _ = _; omega
theorem flat_snoc : ∀ (E : List E3) (e : E3), flat (E ++ [e]) = flat E ++ tmCells e.1 e.2.1 e.2.2
 | [], e => by simp [flat]
 | x :: E, e => by rw [List.cons_append, flat, flat_snoc E e, flat, List.append_assoc]
theorem flat_get : ∀ (E : List E3) (i j : Nat) (h : i < E.length), j < 7 → (flat E)[i * 7 + j]? = (tmCells E[i].1 E[i].2.1 E[i].2.2)[j]?
 | e :: E, 0, j, _, hj => by
  rw [flat, Nat.zero_mul, Nat.zero_add, List.getElem?_append_left (by show j < 7; exact hj)]; rfl
 | e :: E, i + 1, j, h, hj => by
  rw [flat, List.getElem?_append_right (by show 7 ≤ _; omega)]
  have := flat_get E i j (by simpa using h) hj
  rw [show (i + 1) * 7 + j - (tmCells e.1 e.2.1 e.2.2).length = i * 7 + j by show (i + 1) * 7 + j - 7 = _; omega, this]
  rfl
theorem tml_of_row {ok : Nat → Prop} {w : World} {base : Nat} {v : Value} {E : List E3} (hE : E ≠ []) (hown : w.ownsRow base 28 7 v E.length (flat E)) (hl : EL ok w E) (hok : ∀ g, v.ownBlock = some g → ok g) : TmL ok w (E.map (·.1)) v := by
 have h0 : 0 < E.length := List.length_pos_iff.2 hE
 obtain ⟨_, hv⟩ := hown
 rcases hv with ⟨_, hn⟩ | ⟨g, cap, cur, rfl, hbg, hg, hnc, hcm, hcs, htake⟩
 ·omega
 ·have hb : Blk w g 28 cur.toList := by show w.heap[g]? = _; rw [hg]
  have hc : ∀ i j, i < E.length → j < 7 → w.cell? ⟨g, 0 + i * 7 + j, none⟩ = (flat E)[i * 7 + j]? := by
   intro i j hi hj
   rw [hb.cell, ← htake, List.getElem?_take, if_pos (by omega), Nat.zero_add]
  have := TmL.mk (ok := ok) (w := w) (l := E.map (·.1)) (b := g) (off := 0) (cap := cap) (fun i => (E.getD i (.mk 0 ⟨#[]⟩ 0 ty0 [], undef, undef)).2.1) (fun i => (E.getD i (.mk 0 ⟨#[]⟩ 0 ty0 [], undef, undef)).2.2) (by simpa using hE) (hok g rfl) (by simpa using hnc) (fun i h => ?_) (fun i h => ?_) (fun i h => ?_)
  ·rw [List.length_map] at this; exact this
  all_goals
   have hi : i < E.length := by simpa using h
   have e1 : (E.map (·.1))[i] = E[i].1 := List.getElem_map ..
   have e2 : E.getD i (.mk 0 ⟨#[]⟩ 0 ty0 [], undef, undef) = E[i] := by rw [List.getD_eq_getElem?_getD, List.getElem?_eq_getElem hi]; rfl
   rw [e1]
   try rw [e2]
  ·exact ⟨(hc i 0 hi (by omega)).trans (flat_get E i 0 hi (by omega)), (hc i 1 hi (by omega)).trans (flat_get E i 1 hi (by omega)), (hc i 2 hi (by omega)).trans (flat_get E i 2 hi (by omega)), (hc i 3 hi (by omega)).trans (flat_get E i 3 hi (by omega)), (hc i 4 hi (by omega)).trans (flat_get E i 4 hi (by omega)), (hc i 5 hi (by omega)).trans (flat_get E i 5 hi (by omega)), (hc i 6 hi (by omega)).trans (flat_get E i 6 hi (by omega))⟩
  ·exact (hl _ (List.getElem_mem hi)).1
  ·exact (hl _ (List.getElem_mem hi)).2
theorem EL.frame {ok : Nat → Prop} {w w' : World} {E : List E3} (h : EL ok w E) (hs : Same ok w w') : EL ok w' E := fun e he => ⟨(h e he).1.frame hs, (h e he).2.frame hs⟩
theorem EL.mono {ok ok' : Nat → Prop} {w : World} {E : List E3} (h : EL ok w E) (ho : ∀ k, k < w.heap.size → ok k → ok' k) : EL ok' w E := fun e he => ⟨(h e he).1.mono ho, (h e he).2.mono ho⟩
theorem EL.snoc {ok : Nat → Prop} {w : World} {E : List E3} {e : E3} (h : EL ok w E) (ha : TyL ok w e.1.ty.kids e.2.1) (hc : TmL ok w e.1.kids e.2.2) : EL ok w (E ++ [e]) := by
 intro x hx
 rcases List.mem_append.1 hx with hx | hx
 ·exact h x hx
 ·rw [List.mem_singleton.1 hx]; exact ⟨ha, hc⟩
theorem own_one {w : World} {base g : Nat} {t : Tm} {tk kk : Value} (hb : Blk w g 28 (tmCells t tk kk)) (hg : base ≤ g) : w.ownsRow base 28 7 (.slice (some ⟨g, 0, none⟩) 1 1) 1 (flat [(t, tk, kk)]) :=
 ⟨rfl, .inr ⟨g, 1, _, rfl, hg, hb, by omega, by unfold maxLen; omega, rfl, rfl⟩⟩
theorem own_kept {S : Nat → Prop} {w w' : World} {base : Nat} {v : Value} {n : Nat} {xs : List Value} (h : w.ownsRow base 28 7 v n xs) (hk : Kept S w w') (hS : ∀ g, v.ownBlock = some g → ¬ S g) : w'.ownsRow base 28 7 v n xs := by
 obtain ⟨h1, h2⟩ := h
 refine ⟨h1, ?_⟩
 rcases h2 with h2 | ⟨g, cap, cur, hv, hbg, hg, r⟩
 ·exact .inl h2
 ·refine .inr ⟨g, cap, cur, hv, hbg, ?_, r⟩
  rw [hk.block g (Array.getElem?_eq_some_iff.1 hg).1 (hS g (by rw [hv]; rfl))]
  exact hg
theorem info27 : (Tryz.prog.info? 28).map (fun i => (i.zero, i.size, i.bytes)) = some (some (.agg #[.int .i64 0, .string ⟨#[]⟩, .int .i64 0, .int .i64 0, .string ⟨#[]⟩, .slice none 0 0, .slice none 0 0]), 7, 104) := by kernel_rfl
theorem opGo_no {σ : PS} : ∀ (k : Nat) (xs : List ByteArray) (os : List Int), k ≤ xs.length → xs.length = os.length → (∀ j (h : j < k) (h' : j < xs.length), isS σ xs[j] = false) → opGo σ xs os = opGo σ (xs.drop k) (os.drop k) := by
 intro k
 induction k with
 | zero => intro xs os _ _ _; rfl
 | succ k ih =>
  intro xs os hk hl hno
  match xs, os with
  | [], [] => rfl
  | x :: xs, o :: os =>
   have h0 := hno 0 (by omega) (by simp)
   simp only [List.getElem_cons_zero] at h0
   rw [opGo, h0]
   simp only [List.drop_succ_cons]
   exact ih xs os (by simpa using hk) (by simpa using hl) (fun j hj hj' => by have := hno (j + 1) (by omega) (by simp; omega); exact this)
theorem opGo_yes {σ : PS} {k : Nat} {xs : List ByteArray} {os : List Int} (hk : k < xs.length) (hl : xs.length = os.length) (hno : ∀ j (_ : j < k) (h' : j < xs.length), isS σ xs[j] = false) (hy : isS σ xs[k] = true) : opGo σ xs os = os[k]'(by omega) := by
 rw [opGo_no k xs os (by omega) hl hno, List.drop_eq_getElem_cons hk, List.drop_eq_getElem_cons (show k < os.length by omega), opGo, hy]
theorem operator_any {w : World} {b : Nat} {s : ByteArray} {σ : PS} (h : PW w b s σ) (gr : Int) (xs : List ByteArray) (os : List Int) (g g' : Nat) (hl : xs.length = os.length) (h9 : xs.length ≤ 1000)
  (hx : Blk w g 9 (xs.map Value.string)) (ho : Blk w g' 3 (os.map (Value.int .i64))) :
  Calls Tryz.prog 200 #[.pointer (some ⟨b, 0, none⟩), .agg #[.int .i64 gr, .slice (some ⟨g, 0, none⟩) xs.length xs.length, .slice (some ⟨g', 0, none⟩) os.length os.length]] w
   fun e w' => e = .returned (.int .i64 (opGo σ xs os)) ∧ Below w.heap.size w w' := by
 have h0 := h.alloc (.cells #[.int .i64 gr, .slice (some ⟨g, 0, none⟩) xs.length xs.length, .slice (some ⟨g', 0, none⟩) os.length os.length] 189)
 have HL := Ld hl
 clear hl
 have X := Ld (hx.alloc (.cells #[.int .i64 gr, .slice (some ⟨g, 0, none⟩) xs.length xs.length, .slice (some ⟨g', 0, none⟩) os.length os.length] 189))
 have O := Ld (ho.alloc (.cells #[.int .i64 gr, .slice (some ⟨g, 0, none⟩) xs.length xs.length, .slice (some ⟨g', 0, none⟩) os.length os.length] 189))
 have lg := hx.lt
 have lg' := ho.lt
 go_enter Tryz.func200, Tryz.ntmps200
 go_wp2_with fail
 go_loopg [10] xs.length (fun m i wr => wr = w.alloc (.cells #[.int .i64 gr, .slice (some ⟨g, 0, none⟩) xs.length xs.length, .slice (some ⟨g', 0, none⟩) os.length os.length] 189) ∧ ∃ k : Nat, k ≤ xs.length ∧ m = xs.length - k ∧ i = .int .i64 k ∧ Hid (∀ j (h : j < k) (h' : j < xs.length), isS σ xs[j] = false))
 case atStart => exact ⟨rfl, 0, Nat.zero_le _, rfl, rfl, Ld (fun j h => by omega)⟩
 case round =>
  obtain ⟨rfl, k, hk, rfl, rfl, hno⟩ := hrel
  by_cases hlt : k < xs.length
  ·have i1 : (k : Int) < (xs.length : Int) := by omega
   have i2 : (0 : Int) ≤ (k : Int) := by omega
   have hc := X.out.cell k
   rw [List.getElem?_map, List.getElem?_eq_getElem hlt] at hc
   simp only [Option.map_some] at hc
   cases hy : isS σ xs[k]
   ·have hno' : Hid (∀ j (h : j < k + 1) (h' : j < xs.length), isS σ xs[j] = false) := Ld (fun j h h' => by
     rcases Nat.lt_succ_iff_lt_or_eq.1 h with h | rfl
     ·exact hno.out j h h'
     ·exact hy)
    go_wp2_with (go_at_call 195; refine (is_any h0 _ hy).mono ?_; rintro e w' ⟨rfl, rfl⟩)
    go_roundg (xs.length - (k + 1))
    case measure => omega
    case rel => exact ⟨rfl, k + 1, by omega, rfl, by go_num, hno'⟩
   ·have hr := Ld (opGo_yes hlt HL.out hno.out hy)
    have hlt' : k < os.length := by have := HL.out; omega
    have i3 : (k : Int) < (os.length : Int) := by omega
    have hc' := O.out.cell k
    rw [List.getElem?_map, List.getElem?_eq_getElem hlt'] at hc'
    simp only [Option.map_some] at hc'
    go_wp2_with (go_at_call 195; refine (is_any h0 _ hy).mono ?_; rintro e w' ⟨rfl, rfl⟩)
    go_ret
    exact ⟨by rw [hr.out]; rfl, (Below.refl _ _).alloc (Nat.le_refl _) _⟩
  ·have hr : Hid (opGo σ xs os = 0) := Ld (by
    rw [opGo_no k xs os hk HL.out hno.out, List.drop_of_length_le (by omega)]
    rfl)
   have i1 : decide ((k : Int) < (xs.length : Int)) = false := by simp; omega
   go_wp2_with fail
   go_ret
   exact ⟨by rw [hr.out]; rfl, (Below.refl _ _).alloc (Nat.le_refl _) _⟩
def lvOK (n : Nat) : Prop := n = 1 ∨ n = 2 ∨ n = 3 ∨ n = 4 ∨ n = 6 ∨ n = 7 ∨ n = 8 ∨ n = 9 ∨ n = 10 ∨ n = 11 ∨ n = 12
def LvPost (n : Nat) (w : World) (e : Ending) (w' : World) : Prop := ∃ A : Array Value, e = .returned (.agg A) ∧
 (∃ g g', w.heap.size ≤ g ∧ w.heap.size ≤ g' ∧ (∀ W, (Instr.index 190 (.agg A) (.int .i64 n)).run Tryz.prog W = .ok (.agg #[.int .i64 (lvGroup n), .slice (some ⟨g, 0, none⟩) (lvSigns n).length (lvSigns n).length, .slice (some ⟨g', 0, none⟩) (lvOps n).length (lvOps n).length]) W) ∧
  Blk w' g 9 ((lvSigns n).map Value.string) ∧ Blk w' g' 3 ((lvOps n).map (Value.int .i64))) ∧ Below w.heap.size w w'
theorem lv_new (w : World) (i : Nat) (t : TypeId) (l : List Value) (h : lvObjs[i + 1]? = some (.cells l.toArray t)) : Blk ((lvObjs.foldl World.alloc w).setCells w.heap.size 0 (lvGo lvTab (w.heap.size + 1))) (w.heap.size + (i + 1)) t l := by
 refine Blk.setCells_other ?_ (by omega)
 have hl : i + 1 < lvObjs.length := by
  by_cases hl : i + 1 < lvObjs.length
  ·exact hl
  ·rw [List.getElem?_eq_none (by omega)] at h; cases h
 exact (heap_allocs lvObjs w (i + 1) hl).trans h
theorem lv_below (w : World) : Below w.heap.size w ((lvObjs.foldl World.alloc w).setCells w.heap.size 0 (lvGo lvTab (w.heap.size + 1))) :=
 (Kept.setCells (S := fun _ => False) (Kept.of_below (below_allocs lvObjs w)) (Or.inr (Nat.le_refl _))).below
theorem levels_1 (w : World) : Calls Tryz.prog 199 #[] w (LvPost 1 w) :=
 (levels_any w).mono fun e w' h => ⟨_, h.1, ⟨w.heap.size + (0 + 1), w.heap.size + (1 + 1), by omega, by omega, fun _ => by kernel_rfl, by rw [h.2]; exact lv_new w 0 9 _ rfl, by rw [h.2]; exact lv_new w 1 3 _ rfl⟩, by rw [h.2]; exact lv_below w⟩
theorem levels_2 (w : World) : Calls Tryz.prog 199 #[] w (LvPost 2 w) :=
 (levels_any w).mono fun e w' h => ⟨_, h.1, ⟨w.heap.size + (2 + 1), w.heap.size + (3 + 1), by omega, by omega, fun _ => by kernel_rfl, by rw [h.2]; exact lv_new w 2 9 _ rfl, by rw [h.2]; exact lv_new w 3 3 _ rfl⟩, by rw [h.2]; exact lv_below w⟩
theorem levels_3 (w : World) : Calls Tryz.prog 199 #[] w (LvPost 3 w) :=
 (levels_any w).mono fun e w' h => ⟨_, h.1, ⟨w.heap.size + (4 + 1), w.heap.size + (5 + 1), by omega, by omega, fun _ => by kernel_rfl, by rw [h.2]; exact lv_new w 4 9 _ rfl, by rw [h.2]; exact lv_new w 5 3 _ rfl⟩, by rw [h.2]; exact lv_below w⟩
theorem levels_4 (w : World) : Calls Tryz.prog 199 #[] w (LvPost 4 w) :=
 (levels_any w).mono fun e w' h => ⟨_, h.1, ⟨w.heap.size + (6 + 1), w.heap.size + (7 + 1), by omega, by omega, fun _ => by kernel_rfl, by rw [h.2]; exact lv_new w 6 9 _ rfl, by rw [h.2]; exact lv_new w 7 3 _ rfl⟩, by rw [h.2]; exact lv_below w⟩
theorem levels_6 (w : World) : Calls Tryz.prog 199 #[] w (LvPost 6 w) :=
 (levels_any w).mono fun e w' h => ⟨_, h.1, ⟨w.heap.size + (8 + 1), w.heap.size + (9 + 1), by omega, by omega, fun _ => by kernel_rfl, by rw [h.2]; exact lv_new w 8 9 _ rfl, by rw [h.2]; exact lv_new w 9 3 _ rfl⟩, by rw [h.2]; exact lv_below w⟩
theorem levels_7 (w : World) : Calls Tryz.prog 199 #[] w (LvPost 7 w) :=
 (levels_any w).mono fun e w' h => ⟨_, h.1, ⟨w.heap.size + (10 + 1), w.heap.size + (11 + 1), by omega, by omega, fun _ => by kernel_rfl, by rw [h.2]; exact lv_new w 10 9 _ rfl, by rw [h.2]; exact lv_new w 11 3 _ rfl⟩, by rw [h.2]; exact lv_below w⟩
theorem levels_8 (w : World) : Calls Tryz.prog 199 #[] w (LvPost 8 w) :=
 (levels_any w).mono fun e w' h => ⟨_, h.1, ⟨w.heap.size + (12 + 1), w.heap.size + (13 + 1), by omega, by omega, fun _ => by kernel_rfl, by rw [h.2]; exact lv_new w 12 9 _ rfl, by rw [h.2]; exact lv_new w 13 3 _ rfl⟩, by rw [h.2]; exact lv_below w⟩
theorem levels_9 (w : World) : Calls Tryz.prog 199 #[] w (LvPost 9 w) :=
 (levels_any w).mono fun e w' h => ⟨_, h.1, ⟨w.heap.size + (14 + 1), w.heap.size + (15 + 1), by omega, by omega, fun _ => by kernel_rfl, by rw [h.2]; exact lv_new w 14 9 _ rfl, by rw [h.2]; exact lv_new w 15 3 _ rfl⟩, by rw [h.2]; exact lv_below w⟩
theorem levels_10 (w : World) : Calls Tryz.prog 199 #[] w (LvPost 10 w) :=
 (levels_any w).mono fun e w' h => ⟨_, h.1, ⟨w.heap.size + (16 + 1), w.heap.size + (17 + 1), by omega, by omega, fun _ => by kernel_rfl, by rw [h.2]; exact lv_new w 16 9 _ rfl, by rw [h.2]; exact lv_new w 17 3 _ rfl⟩, by rw [h.2]; exact lv_below w⟩
theorem levels_11 (w : World) : Calls Tryz.prog 199 #[] w (LvPost 11 w) :=
 (levels_any w).mono fun e w' h => ⟨_, h.1, ⟨w.heap.size + (18 + 1), w.heap.size + (19 + 1), by omega, by omega, fun _ => by kernel_rfl, by rw [h.2]; exact lv_new w 18 9 _ rfl, by rw [h.2]; exact lv_new w 19 3 _ rfl⟩, by rw [h.2]; exact lv_below w⟩
theorem levels_12 (w : World) : Calls Tryz.prog 199 #[] w (LvPost 12 w) :=
 (levels_any w).mono fun e w' h => ⟨_, h.1, ⟨w.heap.size + (20 + 1), w.heap.size + (21 + 1), by omega, by omega, fun _ => by kernel_rfl, by rw [h.2]; exact lv_new w 20 9 _ rfl, by rw [h.2]; exact lv_new w 21 3 _ rfl⟩, by rw [h.2]; exact lv_below w⟩
theorem levels_at {n : Nat} (hn : lvOK n) (w : World) : Calls Tryz.prog 199 #[] w (LvPost n w) := by
 rcases hn with rfl | rfl | rfl | rfl | rfl | rfl | rfl | rfl | rfl | rfl | rfl
 ·exact levels_1 w
 ·exact levels_2 w
 ·exact levels_3 w
 ·exact levels_4 w
 ·exact levels_6 w
 ·exact levels_7 w
 ·exact levels_8 w
 ·exact levels_9 w
 ·exact levels_10 w
 ·exact levels_11 w
 ·exact levels_12 w
theorem lv_lens {n : Nat} (hn : lvOK n) : (lvSigns n).length = (lvOps n).length ∧ (lvSigns n).length ≤ 1000 := by
 rcases hn with rfl | rfl | rfl | rfl | rfl | rfl | rfl | rfl | rfl | rfl | rfl <;> decide
theorem mu_le (s : ByteArray) (σ : PS) : mu s σ ≤ s.size + 1 := by unfold mu; split <;> omega
def okk (n0 B R : Nat) (k : Nat) : Prop := n0 ≤ k ∧ k ≠ B ∧ k ≠ R
theorem same7k {W : World} {n0 B R c : Nat} {x0 x1 x2 x3 x4 x5 x6 : Value} (h : c = B ∨ c = R) : Same (okk n0 B R) W (((((((W.setCell ⟨c, 0, none⟩ x0).setCell ⟨c, 1, none⟩ x1).setCell ⟨c, 2, none⟩ x2).setCell ⟨c, 3, none⟩ x3).setCell ⟨c, 4, none⟩ x4).setCell ⟨c, 5, none⟩ x5).setCell ⟨c, 6, none⟩ x6) := by
 intro k hk hl
 exact (k7w (S := (· = c)) (Kept.refl _ _) (Or.inl rfl)).block k hl (by rcases h with rfl | rfl; exact hk.2.1; exact hk.2.2)
theorem wp_gen {P : Program} {c : Code} {Q : Exit → Act → World → Prop} {a : Act} {W : World} (F : World → Prop) (hF : F W) (h : ∀ w6, F w6 → Code.wp P c Q a w6) : Code.wp P c Q a W := h W hF
theorem rest_any {b : Nat} {s : ByteArray} {f : Nat} {T : TF} {w : World} {σ : PS} (hT : TC b s f T) (hI : TInv s T) (h : PW w b s σ) (hf : 14 * mu s σ ≤ f) {n : Nat} (hn : lvOK n) (t : Tm) (ta : Option Addr) (tn tc : Nat) (ma : Option Addr) (mn mc n0 : Nat) (hb0 : b < n0) (hn0 : n0 ≤ w.heap.size)
  (a : TyL (fun k => n0 ≤ k) w t.ty.kids (.slice ta tn tc)) (c : TmL (fun k => n0 ≤ k) w t.kids (.slice ma mn mc)) :
  Calls Tryz.prog 151 #[.pointer (some ⟨b, 0, none⟩), tmVal t (.slice ta tn tc) (.slice ma mn mc), .int .i64 n] w (RPost b s (VTm n0) (restS T s n (s.size + 2) t σ) w) := by
 have hlt := h.lt
 have hgl := h.gl.lt
 have hlen := lv_lens hn
 have HLEN := Ld hlen
 clear hlen
 have hn1 : 1 ≤ n := by unfold lvOK at hn; omega
 have hn12 : n ≤ 12 := by unfold lvOK at hn; omega
 unfold tmVal
 have K0 : Kept (· = b) w ((w.alloc (.cells #[.int .i64 t.op, .string t.name, .int .i64 t.n, .int .i64 t.ty.kind, .string t.ty.name, .slice ta tn tc, .slice ma mn mc] 28)).alloc Z7) := ((Kept.refl _ _).alloc _).alloc _
 have h0 := (h.alloc (.cells #[.int .i64 t.op, .string t.name, .int .i64 t.n, .int .i64 t.ty.kind, .string t.ty.name, .slice ta tn tc, .slice ma mn mc] 28)).alloc Z7
 have hB0 := (Blk.new w 28 (tmCells t (.slice ta tn tc) (.slice ma mn mc))).alloc Z7
 have hR0 : Blk ((w.alloc (.cells #[.int .i64 t.op, .string t.name, .int .i64 t.n, .int .i64 t.ty.kind, .string t.ty.name, .slice ta tn tc, .slice ma mn mc] 28)).alloc Z7) (w.heap.size + 1) 28 z27 := Blk.new' 28 z27 (by simp)
 have a0 := ((a.mono (ok' := okk n0 w.heap.size (w.heap.size + 1)) (fun k hk h => ⟨h, by omega, by omega⟩)).frame (Same.alloc _ (.cells #[.int .i64 t.op, .string t.name, .int .i64 t.n, .int .i64 t.ty.kind, .string t.ty.name, .slice ta tn tc, .slice ma mn mc] 28))).frame (Same.alloc _ Z7)
 have c0 := ((c.mono (ok' := okk n0 w.heap.size (w.heap.size + 1)) (fun k hk h => ⟨h, by omega, by omega⟩)).frame (Same.alloc _ (.cells #[.int .i64 t.op, .string t.name, .int .i64 t.n, .int .i64 t.ty.kind, .string t.ty.name, .slice ta tn tc, .slice ma mn mc] 28))).frame (Same.alloc _ Z7)
 go_enter Tryz.func151, Tryz.ntmps151
 go_wp2_with fail
 refine (levels_at hn _).mono ?_
 rintro e w1 ⟨A, rfl, ⟨g, g', hgg, hgg', hix, hx, ho⟩, hbw⟩
 have k1 : Kept (· = b) _ w1 := Kept.of_below hbw
 have kF : Kept (fun _ => False) _ w1 := Kept.of_below hbw
 have p1 := h0.grow kF id id id
 have hB1 := hB0.kept kF id
 have hR1 := hR0.kept kF id
 have a1 := a0.frame (Same.of_kept kF (fun _ _ => id))
 have c1 := c0.frame (Same.of_kept kF (fun _ _ => id))
 have K1 := K0.trans k1
 have lg := hx.lt
 have lg' := ho.lt
 have lR := hR1.lt
 have zW : ((w.alloc (.cells #[.int .i64 t.op, .string t.name, .int .i64 t.n, .int .i64 t.ty.kind, .string t.ty.name, .slice ta tn tc, .slice ma mn mc] 28)).alloc Z7).heap.size = w.heap.size + 2 := by simp
 rw [zW] at hgg hgg'
 clear kF k1 hbw h0 hB0 hR0 a0 c0 K0 zW
 go_wp2_with fail
 have hL2 : Blk (w1.alloc (.cells #[.int .i64 (lvGroup n), .slice (some ⟨g, 0, none⟩) (lvSigns n).length (lvSigns n).length, .slice (some ⟨g', 0, none⟩) (lvOps n).length (lvOps n).length] 189)) w1.heap.size 189 [.int .i64 (lvGroup n), .slice (some ⟨g, 0, none⟩) (lvSigns n).length (lvSigns n).length, .slice (some ⟨g', 0, none⟩) (lvOps n).length (lvOps n).length] := Blk.new w1 189 _
 have p2 := p1.alloc (.cells #[.int .i64 (lvGroup n), .slice (some ⟨g, 0, none⟩) (lvSigns n).length (lvSigns n).length, .slice (some ⟨g', 0, none⟩) (lvOps n).length (lvOps n).length] 189)
 have hB2 := hB1.alloc (.cells #[.int .i64 (lvGroup n), .slice (some ⟨g, 0, none⟩) (lvSigns n).length (lvSigns n).length, .slice (some ⟨g', 0, none⟩) (lvOps n).length (lvOps n).length] 189)
 have hR2 := hR1.alloc (.cells #[.int .i64 (lvGroup n), .slice (some ⟨g, 0, none⟩) (lvSigns n).length (lvSigns n).length, .slice (some ⟨g', 0, none⟩) (lvOps n).length (lvOps n).length] 189)
 have hx2 := hx.alloc (.cells #[.int .i64 (lvGroup n), .slice (some ⟨g, 0, none⟩) (lvSigns n).length (lvSigns n).length, .slice (some ⟨g', 0, none⟩) (lvOps n).length (lvOps n).length] 189)
 have ho2 := ho.alloc (.cells #[.int .i64 (lvGroup n), .slice (some ⟨g, 0, none⟩) (lvSigns n).length (lvSigns n).length, .slice (some ⟨g', 0, none⟩) (lvOps n).length (lvOps n).length] 189)
 have a2 := a1.frame (Same.alloc _ (.cells #[.int .i64 (lvGroup n), .slice (some ⟨g, 0, none⟩) (lvSigns n).length (lvSigns n).length, .slice (some ⟨g', 0, none⟩) (lvOps n).length (lvOps n).length] 189))
 have c2 := c1.frame (Same.alloc _ (.cells #[.int .i64 (lvGroup n), .slice (some ⟨g, 0, none⟩) (lvSigns n).length (lvSigns n).length, .slice (some ⟨g', 0, none⟩) (lvOps n).length (lvOps n).length] 189))
 have K2 := K1.alloc (.cells #[.int .i64 (lvGroup n), .slice (some ⟨g, 0, none⟩) (lvSigns n).length (lvSigns n).length, .slice (some ⟨g', 0, none⟩) (lvOps n).length (lvOps n).length] 189)
 generalize hW : w1.alloc (.cells #[.int .i64 (lvGroup n), .slice (some ⟨g, 0, none⟩) (lvSigns n).length (lvSigns n).length, .slice (some ⟨g', 0, none⟩) (lvOps n).length (lvOps n).length] 189) = w2 at *
 generalize w1.heap.size = L at *
 clear hW hix p1 hB1 hR1 hx ho a1 c1 K1
 go_loopg [8] (s.size + 2) (fun m _ wr => ∃ (t' : Tm) (σ' : PS) (ua : Option Addr) (un uc : Nat) (va : Option Addr) (vn vc : Nat), Hid (restS T s n m t' σ' = restS T s n (s.size + 2) t σ) ∧ mu s σ' < m ∧ mu s σ' ≤ mu s σ ∧ PW wr b s σ' ∧ Blk wr w.heap.size 28 (tmCells t' (.slice ua un uc) (.slice va vn vc)) ∧ Blk wr (w.heap.size + 1) 28 z27 ∧ Blk wr L 189 [.int .i64 (lvGroup n), .slice (some ⟨g, 0, none⟩) (lvSigns n).length (lvSigns n).length, .slice (some ⟨g', 0, none⟩) (lvOps n).length (lvOps n).length] ∧ Blk wr g 9 ((lvSigns n).map Value.string) ∧ Blk wr g' 3 ((lvOps n).map (Value.int .i64)) ∧ TyL (okk n0 w.heap.size (w.heap.size + 1)) wr t'.ty.kids (.slice ua un uc) ∧ TmL (okk n0 w.heap.size (w.heap.size + 1)) wr t'.kids (.slice va vn vc) ∧ Kept (· = b) w wr)
 case atStart => exact ⟨t, σ, ta, tn, tc, ma, mn, mc, Ld rfl, by have := mu_le s σ; omega, Nat.le_refl _, p2, hB2, hR2, hL2, hx2, ho2, a2, c2, K2⟩
 case round =>
  clear p2 hB2 hR2 hL2 hx2 ho2 a2 c2 K2
  obtain ⟨t', σ', ua, un, uc, va, vn, vc, hq, hm, hmm, p, hB, hR, hL, hX, hO, ka, kc, K⟩ := hrel
  obtain ⟨q, rfl⟩ : ∃ q, gk = q + 1 := ⟨gk - 1, by omega⟩
  have l0 : wr.cell? ⟨L, 0, none⟩ = some (.int .i64 (lvGroup n)) := hL.cell 0
  have l1 : wr.cell? ⟨L, 1, none⟩ = some (.slice (some ⟨g, 0, none⟩) (lvSigns n).length (lvSigns n).length) := hL.cell 1
  have l2 : wr.cell? ⟨L, 2, none⟩ = some (.slice (some ⟨g', 0, none⟩) (lvOps n).length (lvOps n).length) := hL.cell 2
  go_wp2_with fail
  refine (operator_any p (lvGroup n) (lvSigns n) (lvOps n) g g' HLEN.out.1 HLEN.out.2 hX hO).mono ?_
  rintro e w3 ⟨rfl, hb3⟩
  have kF : Kept (fun _ => False) wr w3 := Kept.of_below hb3
  have p3 := p.grow kF id id id
  have hB3 := hB.kept kF id
  have hR3 := hR.kept kF id
  have hL3 := hL.kept kF id
  have hX3 := hX.kept kF id
  have hO3 := hO.kept kF id
  have ka3 := ka.frame (Same.of_kept kF (fun _ _ => id))
  have kc3 := kc.frame (Same.of_kept kF (fun _ _ => id))
  have K3 := K.trans (Kept.of_below hb3)
  clear kF p hB hR hL hX hO ka kc K hb3 l0 l1 l2
  have HO : Hid (opOf n σ' = opGo σ' (lvSigns n) (lvOps n)) := Ld rfl
  have HNE : Hid (opGo σ' (lvSigns n) (lvOps n) ≠ 0 → σ'.k ≠ 0) := Ld opGo_ne
  generalize opGo σ' (lvSigns n) (lvOps n) = o at *
  have g0 : w3.cell? ⟨w.heap.size + 1, 0, none⟩ = some (.int .i64 0) := hR3.cell 0
  have g1 : w3.cell? ⟨w.heap.size + 1, 1, none⟩ = some (.string ⟨#[]⟩) := hR3.cell 1
  have g2 : w3.cell? ⟨w.heap.size + 1, 2, none⟩ = some (.int .i64 0) := hR3.cell 2
  have g3 : w3.cell? ⟨w.heap.size + 1, 3, none⟩ = some (.int .i64 0) := hR3.cell 3
  have g4 : w3.cell? ⟨w.heap.size + 1, 4, none⟩ = some (.string ⟨#[]⟩) := hR3.cell 4
  have g5 : w3.cell? ⟨w.heap.size + 1, 5, none⟩ = some (.slice none 0 0) := hR3.cell 5
  have g6 : w3.cell? ⟨w.heap.size + 1, 6, none⟩ = some (.slice none 0 0) := hR3.cell 6
  have f0 : w3.frozen? ⟨w.heap.size + 1, 0, none⟩ = false := hR3.frozen 0
  have f1 : w3.frozen? ⟨w.heap.size + 1, 1, none⟩ = false := hR3.frozen 1
  have f2 : w3.frozen? ⟨w.heap.size + 1, 2, none⟩ = false := hR3.frozen 2
  have f3 : w3.frozen? ⟨w.heap.size + 1, 3, none⟩ = false := hR3.frozen 3
  have f4 : w3.frozen? ⟨w.heap.size + 1, 4, none⟩ = false := hR3.frozen 4
  have f5 : w3.frozen? ⟨w.heap.size + 1, 5, none⟩ = false := hR3.frozen 5
  have f6 : w3.frozen? ⟨w.heap.size + 1, 6, none⟩ = false := hR3.frozen 6
  have y0 : w3.cell? ⟨w.heap.size, 0, none⟩ = some (.int .i64 t'.op) := hB3.cell 0
  have y1 : w3.cell? ⟨w.heap.size, 1, none⟩ = some (.string t'.name) := hB3.cell 1
  have y2 : w3.cell? ⟨w.heap.size, 2, none⟩ = some (.int .i64 t'.n) := hB3.cell 2
  have y3 : w3.cell? ⟨w.heap.size, 3, none⟩ = some (.int .i64 t'.ty.kind) := hB3.cell 3
  have y4 : w3.cell? ⟨w.heap.size, 4, none⟩ = some (.string t'.ty.name) := hB3.cell 4
  have y5 : w3.cell? ⟨w.heap.size, 5, none⟩ = some (.slice ua un uc) := hB3.cell 5
  have y6 : w3.cell? ⟨w.heap.size, 6, none⟩ = some (.slice va vn vc) := hB3.cell 6
  cases hz : (o == 0)
  case true =>
   have hres : Hid (restS T s n (s.size + 2) t σ = .ok (t', σ')) := Ld (hq.out.symm.trans (by unfold restS; simp only [HO.out, hz]))
   go_wp2_with fail
   refine ret_tm Tryz.results151 hres.out rfl rfl (r7 hR3 rfl) ?_ ?_ (p7w p3 (by omega) (by omega)) (k7w K3 (Or.inr (by omega)))
   ·exact (ka3.frame (same7k (Or.inr rfl))).mono (fun k _ h => h.1)
   ·exact (kc3.frame (same7k (Or.inr rfl))).mono (fun k _ h => h.1)
  case false =>
   clear g0 g1 g2 g3 g4 g5 g6 f0 f1 f2 f3 f4 f5 f6 y0 y1 y2 y3 y4 y5 y6
   have hne := HNE.out (ne_of_beq_false hz)
   go_wp2_with fail
   cases ha : advS s σ' with
   | error r =>
    have hres : Hid (restS T s n (s.size + 2) t σ = .error r) := Ld (hq.out.symm.trans (by unfold restS; simp only [HO.out, hz, ha]))
    refine (adv_err p3 ha).mono ?_
    rintro e w4 ⟨rfl, k4⟩
    go_wp2_with fail
    exact ⟨rfl, RPost.err hres.out ⟨rfl, K3.trans k4⟩⟩
   | ok σ1 =>
    have i1 := inv_adv p3.le hne ha
    refine (adv_ok p3 ha).mono ?_
    rintro e w4 ⟨rfl, p4, k4⟩
    have hB4 := hB3.kept k4 (by show ¬ w.heap.size = b; omega)
    have hR4 := hR3.kept k4 (by show ¬ w.heap.size + 1 = b; omega)
    have hL4 := hL3.kept k4 (by show ¬ L = b; omega)
    have hX4 := hX3.kept k4 (by show ¬ g = b; omega)
    have hO4 := hO3.kept k4 (by show ¬ g' = b; omega)
    have ka4 := ka3.frame (Same.of_kept k4 (fun k h e => by have := h.1; omega))
    have kc4 := kc3.frame (Same.of_kept k4 (fun k h e => by have := h.1; omega))
    have K4 := K3.trans k4
    have l0 : w4.cell? ⟨L, 0, none⟩ = some (.int .i64 (lvGroup n)) := hL4.cell 0
    have hb4 := p4.lt
    have lL4 := hL4.lt
    have lR4 := hR4.lt
    clear k4 p3 hB3 hR3 hL3 hX3 hO3 ka3 kc3 K3
    cases hg2 : (lvGroup n == 2)
    case true =>
     have HIF : Hid ((if lvGroup n = 2 then n else n + 1) = n) := Ld (if_pos (eq_of_beq hg2))
     go_wp2_with fail
     refine (hT n (n : Int) rfl σ1 _ (by omega) (by omega) p4 (by omega)).mono ?_
     rintro e w5 hr
     cases htt : T n σ1 with
     | error r =>
      have hres : Hid (restS T s n (s.size + 2) t σ = .error r) := Ld (hq.out.symm.trans (by unfold restS; simp only [HO.out, hz, ha, HIF.out, htt]))
      obtain ⟨rfl, k5⟩ := hr.getErr htt
      clear hr
      go_wp2_with fail
      exact ⟨rfl, RPost.err hres.out ⟨rfl, K4.trans k5⟩⟩
     | ok q5 =>
      obtain ⟨u, σ2⟩ := q5
      obtain ⟨v, rfl, ⟨tk5, kk5, rfl, au, cu⟩, p5, k5⟩ := hr.getOk htt
      clear hr
      have i2 := (hI _ _ _ _ p4.le htt).1
      unfold Inv at i2
      obtain ⟨ta5, tn5, tc5, rfl⟩ := au.slice
      obtain ⟨ma5, mn5, mc5, rfl⟩ := cu.slice
      unfold tmVal
      have hB5 := hB4.kept k5 (by show ¬ w.heap.size = b; omega)
      have hR5 := hR4.kept k5 (by show ¬ w.heap.size + 1 = b; omega)
      have hL5 := hL4.kept k5 (by show ¬ L = b; omega)
      have hX5 := hX4.kept k5 (by show ¬ g = b; omega)
      have hO5 := hO4.kept k5 (by show ¬ g' = b; omega)
      have ka5 := ka4.frame (Same.of_kept k5 (fun k h e => by have := h.1; omega))
      have kc5 := kc4.frame (Same.of_kept k5 (fun k h e => by have := h.1; omega))
      have K5 := K4.trans k5
      have lB5 := hB5.lt
      have y0 : w5.cell? ⟨w.heap.size, 0, none⟩ = some (.int .i64 t'.op) := hB5.cell 0
      have y1 : w5.cell? ⟨w.heap.size, 1, none⟩ = some (.string t'.name) := hB5.cell 1
      have y2 : w5.cell? ⟨w.heap.size, 2, none⟩ = some (.int .i64 t'.n) := hB5.cell 2
      have y3 : w5.cell? ⟨w.heap.size, 3, none⟩ = some (.int .i64 t'.ty.kind) := hB5.cell 3
      have y4 : w5.cell? ⟨w.heap.size, 4, none⟩ = some (.string t'.ty.name) := hB5.cell 4
      have y5 : w5.cell? ⟨w.heap.size, 5, none⟩ = some (.slice ua un uc) := hB5.cell 5
      have y6 : w5.cell? ⟨w.heap.size, 6, none⟩ = some (.slice va vn vc) := hB5.cell 6
      have f0 : w5.frozen? ⟨w.heap.size, 0, none⟩ = false := hB5.frozen 0
      have f1 : w5.frozen? ⟨w.heap.size, 1, none⟩ = false := hB5.frozen 1
      have f2 : w5.frozen? ⟨w.heap.size, 2, none⟩ = false := hB5.frozen 2
      have f3 : w5.frozen? ⟨w.heap.size, 3, none⟩ = false := hB5.frozen 3
      have f4 : w5.frozen? ⟨w.heap.size, 4, none⟩ = false := hB5.frozen 4
      have f5 : w5.frozen? ⟨w.heap.size, 5, none⟩ = false := hB5.frozen 5
      have f6 : w5.frozen? ⟨w.heap.size, 6, none⟩ = false := hB5.frozen 6
      go_upto_region 11 with (fail)
      have ilo := p4.lt
      have z54 := k5.size
      refine wp_gen (fun w6 => PW w6 b s σ2 ∧ Blk w6 w.heap.size 28 (tmCells (nd o [t', u]) (.slice none 0 0) (.slice (some ⟨w5.heap.size + 1, 0, none⟩) 2 2)) ∧ Blk w6 (w.heap.size + 1) 28 z27 ∧ Blk w6 L 189 [.int .i64 (lvGroup n), .slice (some ⟨g, 0, none⟩) (lvSigns n).length (lvSigns n).length, .slice (some ⟨g', 0, none⟩) (lvOps n).length (lvOps n).length] ∧ Blk w6 g 9 ((lvSigns n).map Value.string) ∧ Blk w6 g' 3 ((lvOps n).map (Value.int .i64)) ∧ TmL (okk n0 w.heap.size (w.heap.size + 1)) w6 [t', u] (.slice (some ⟨w5.heap.size + 1, 0, none⟩) 2 2) ∧ Kept (· = b) w w6) ⟨((p7w p5 (by omega) (by omega)).alloc _).alloc _, ((r7 hB5 rfl).alloc _).alloc _, ((b7w hR5 (by omega)).alloc _).alloc _, ((b7w hL5 (by omega)).alloc _).alloc _, ((b7w hX5 (by omega)).alloc _).alloc _, ((b7w hO5 (by omega)).alloc _).alloc _, TmL.two (ty := 28) ⟨by omega, by omega, by omega⟩ (Nat.le_refl _) (Blk.new' 28 _ (by simp)) (((ka5.frame (same7k (Or.inl rfl))).frame (Same.alloc _ _)).frame (Same.alloc _ _)) (((kc5.frame (same7k (Or.inl rfl))).frame (Same.alloc _ _)).frame (Same.alloc _ _)) ((((au.mono (ok' := okk n0 w.heap.size (w.heap.size + 1)) (fun k _ h => ⟨by omega, by omega, by omega⟩)).frame (same7k (Or.inl rfl))).frame (Same.alloc _ _)).frame (Same.alloc _ _)) ((((cu.mono (ok' := okk n0 w.heap.size (w.heap.size + 1)) (fun k _ h => ⟨by omega, by omega, by omega⟩)).frame (same7k (Or.inl rfl))).frame (Same.alloc _ _)).frame (Same.alloc _ _)), ((k7w K5 (Or.inr (Nat.le_refl _))).alloc _).alloc _⟩ ?_
      clear y0 y1 y2 y3 y4 y5 y6 f0 f1 f2 f3 f4 f5 f6
      rintro w6 ⟨p6, hB6, hR6, hL6, hX6, hO6, kc6, K6⟩
      have l0' : w6.cell? ⟨L, 0, none⟩ = some (.int .i64 (lvGroup n)) := hL6.cell 0
      cases hg1 : (lvGroup n != 1)
      case true =>
       have hres : Hid (restS T s n (s.size + 2) t σ = .ok (nd o [t', u], σ2)) := Ld (hq.out.symm.trans (by unfold restS; simp only [HO.out, hz, ha, HIF.out, htt, hg1]))
       have g0 : w6.cell? ⟨w.heap.size + 1, 0, none⟩ = some (.int .i64 0) := hR6.cell 0
       have f0 : w6.frozen? ⟨w.heap.size + 1, 0, none⟩ = false := hR6.frozen 0
       have y0 : w6.cell? ⟨w.heap.size, 0, none⟩ = some (.int .i64 o) := hB6.cell 0
       have g1 : w6.cell? ⟨w.heap.size + 1, 1, none⟩ = some (.string ⟨#[]⟩) := hR6.cell 1
       have f1 : w6.frozen? ⟨w.heap.size + 1, 1, none⟩ = false := hR6.frozen 1
       have y1 : w6.cell? ⟨w.heap.size, 1, none⟩ = some (.string ⟨#[]⟩) := hB6.cell 1
       have g2 : w6.cell? ⟨w.heap.size + 1, 2, none⟩ = some (.int .i64 0) := hR6.cell 2
       have f2 : w6.frozen? ⟨w.heap.size + 1, 2, none⟩ = false := hR6.frozen 2
       have y2 : w6.cell? ⟨w.heap.size, 2, none⟩ = some (.int .i64 0) := hB6.cell 2
       have g3 : w6.cell? ⟨w.heap.size + 1, 3, none⟩ = some (.int .i64 0) := hR6.cell 3
       have f3 : w6.frozen? ⟨w.heap.size + 1, 3, none⟩ = false := hR6.frozen 3
       have y3 : w6.cell? ⟨w.heap.size, 3, none⟩ = some (.int .i64 0) := hB6.cell 3
       have g4 : w6.cell? ⟨w.heap.size + 1, 4, none⟩ = some (.string ⟨#[]⟩) := hR6.cell 4
       have f4 : w6.frozen? ⟨w.heap.size + 1, 4, none⟩ = false := hR6.frozen 4
       have y4 : w6.cell? ⟨w.heap.size, 4, none⟩ = some (.string ⟨#[]⟩) := hB6.cell 4
       have g5 : w6.cell? ⟨w.heap.size + 1, 5, none⟩ = some (.slice none 0 0) := hR6.cell 5
       have f5 : w6.frozen? ⟨w.heap.size + 1, 5, none⟩ = false := hR6.frozen 5
       have y5 : w6.cell? ⟨w.heap.size, 5, none⟩ = some (.slice none 0 0) := hB6.cell 5
       have g6 : w6.cell? ⟨w.heap.size + 1, 6, none⟩ = some (.slice none 0 0) := hR6.cell 6
       have f6 : w6.frozen? ⟨w.heap.size + 1, 6, none⟩ = false := hR6.frozen 6
       have y6 : w6.cell? ⟨w.heap.size, 6, none⟩ = some (.slice (some ⟨w5.heap.size + 1, 0, none⟩) 2 2) := hB6.cell 6
       go_wp2_with fail
       refine ret_tm Tryz.results151 hres.out rfl rfl (r7 hR6 rfl) .nil0 ?_ (p7w p6 (by omega) (by omega)) (k7w K6 (Or.inr (by omega)))
       exact (kc6.frame (same7k (Or.inr rfl))).mono (fun k _ h => h.1)
      case false =>
       have hres : Hid (restS T s n q (nd o [t', u]) σ2 = restS T s n (s.size + 2) t σ) := Ld (Eq.trans (by conv => rhs; unfold restS; simp only [HO.out, hz, ha, HIF.out, htt, hg1]) hq.out)
       go_wp2_with fail
       go_roundg q
       case measure => omega
       case rel => exact ⟨nd o [t', u], σ2, none, 0, 0, _, 2, 2, hres, by omega, by omega, p6, hB6, hR6, hL6, hX6, hO6, .nil0, kc6, K6⟩
    case false =>
     have HIF : Hid ((if lvGroup n = 2 then n else n + 1) = n + 1) := Ld (if_neg (ne_of_beq_false hg2))
     go_wp2_with fail
     refine (hT (n + 1) ((n : Int) + 1) (by omega) σ1 _ (by omega) (by omega) p4 (by omega)).mono ?_
     rintro e w5 hr
     cases htt : T (n + 1) σ1 with
     | error r =>
      have hres : Hid (restS T s n (s.size + 2) t σ = .error r) := Ld (hq.out.symm.trans (by unfold restS; simp only [HO.out, hz, ha, HIF.out, htt]))
      obtain ⟨rfl, k5⟩ := hr.getErr htt
      clear hr
      go_wp2_with fail
      exact ⟨rfl, RPost.err hres.out ⟨rfl, K4.trans k5⟩⟩
     | ok q5 =>
      obtain ⟨u, σ2⟩ := q5
      obtain ⟨v, rfl, ⟨tk5, kk5, rfl, au, cu⟩, p5, k5⟩ := hr.getOk htt
      clear hr
      have i2 := (hI _ _ _ _ p4.le htt).1
      unfold Inv at i2
      obtain ⟨ta5, tn5, tc5, rfl⟩ := au.slice
      obtain ⟨ma5, mn5, mc5, rfl⟩ := cu.slice
      unfold tmVal
      have hB5 := hB4.kept k5 (by show ¬ w.heap.size = b; omega)
      have hR5 := hR4.kept k5 (by show ¬ w.heap.size + 1 = b; omega)
      have hL5 := hL4.kept k5 (by show ¬ L = b; omega)
      have hX5 := hX4.kept k5 (by show ¬ g = b; omega)
      have hO5 := hO4.kept k5 (by show ¬ g' = b; omega)
      have ka5 := ka4.frame (Same.of_kept k5 (fun k h e => by have := h.1; omega))
      have kc5 := kc4.frame (Same.of_kept k5 (fun k h e => by have := h.1; omega))
      have K5 := K4.trans k5
      have lB5 := hB5.lt
      have y0 : w5.cell? ⟨w.heap.size, 0, none⟩ = some (.int .i64 t'.op) := hB5.cell 0
      have y1 : w5.cell? ⟨w.heap.size, 1, none⟩ = some (.string t'.name) := hB5.cell 1
      have y2 : w5.cell? ⟨w.heap.size, 2, none⟩ = some (.int .i64 t'.n) := hB5.cell 2
      have y3 : w5.cell? ⟨w.heap.size, 3, none⟩ = some (.int .i64 t'.ty.kind) := hB5.cell 3
      have y4 : w5.cell? ⟨w.heap.size, 4, none⟩ = some (.string t'.ty.name) := hB5.cell 4
      have y5 : w5.cell? ⟨w.heap.size, 5, none⟩ = some (.slice ua un uc) := hB5.cell 5
      have y6 : w5.cell? ⟨w.heap.size, 6, none⟩ = some (.slice va vn vc) := hB5.cell 6
      have f0 : w5.frozen? ⟨w.heap.size, 0, none⟩ = false := hB5.frozen 0
      have f1 : w5.frozen? ⟨w.heap.size, 1, none⟩ = false := hB5.frozen 1
      have f2 : w5.frozen? ⟨w.heap.size, 2, none⟩ = false := hB5.frozen 2
      have f3 : w5.frozen? ⟨w.heap.size, 3, none⟩ = false := hB5.frozen 3
      have f4 : w5.frozen? ⟨w.heap.size, 4, none⟩ = false := hB5.frozen 4
      have f5 : w5.frozen? ⟨w.heap.size, 5, none⟩ = false := hB5.frozen 5
      have f6 : w5.frozen? ⟨w.heap.size, 6, none⟩ = false := hB5.frozen 6
      go_upto_region 11 with (fail)
      have ilo := p4.lt
      have z54 := k5.size
      refine wp_gen (fun w6 => PW w6 b s σ2 ∧ Blk w6 w.heap.size 28 (tmCells (nd o [t', u]) (.slice none 0 0) (.slice (some ⟨w5.heap.size + 1, 0, none⟩) 2 2)) ∧ Blk w6 (w.heap.size + 1) 28 z27 ∧ Blk w6 L 189 [.int .i64 (lvGroup n), .slice (some ⟨g, 0, none⟩) (lvSigns n).length (lvSigns n).length, .slice (some ⟨g', 0, none⟩) (lvOps n).length (lvOps n).length] ∧ Blk w6 g 9 ((lvSigns n).map Value.string) ∧ Blk w6 g' 3 ((lvOps n).map (Value.int .i64)) ∧ TmL (okk n0 w.heap.size (w.heap.size + 1)) w6 [t', u] (.slice (some ⟨w5.heap.size + 1, 0, none⟩) 2 2) ∧ Kept (· = b) w w6) ⟨((p7w p5 (by omega) (by omega)).alloc _).alloc _, ((r7 hB5 rfl).alloc _).alloc _, ((b7w hR5 (by omega)).alloc _).alloc _, ((b7w hL5 (by omega)).alloc _).alloc _, ((b7w hX5 (by omega)).alloc _).alloc _, ((b7w hO5 (by omega)).alloc _).alloc _, TmL.two (ty := 28) ⟨by omega, by omega, by omega⟩ (Nat.le_refl _) (Blk.new' 28 _ (by simp)) (((ka5.frame (same7k (Or.inl rfl))).frame (Same.alloc _ _)).frame (Same.alloc _ _)) (((kc5.frame (same7k (Or.inl rfl))).frame (Same.alloc _ _)).frame (Same.alloc _ _)) ((((au.mono (ok' := okk n0 w.heap.size (w.heap.size + 1)) (fun k _ h => ⟨by omega, by omega, by omega⟩)).frame (same7k (Or.inl rfl))).frame (Same.alloc _ _)).frame (Same.alloc _ _)) ((((cu.mono (ok' := okk n0 w.heap.size (w.heap.size + 1)) (fun k _ h => ⟨by omega, by omega, by omega⟩)).frame (same7k (Or.inl rfl))).frame (Same.alloc _ _)).frame (Same.alloc _ _)), ((k7w K5 (Or.inr (Nat.le_refl _))).alloc _).alloc _⟩ ?_
      clear y0 y1 y2 y3 y4 y5 y6 f0 f1 f2 f3 f4 f5 f6
      rintro w6 ⟨p6, hB6, hR6, hL6, hX6, hO6, kc6, K6⟩
      have l0' : w6.cell? ⟨L, 0, none⟩ = some (.int .i64 (lvGroup n)) := hL6.cell 0
      cases hg1 : (lvGroup n != 1)
      case true =>
       have hres : Hid (restS T s n (s.size + 2) t σ = .ok (nd o [t', u], σ2)) := Ld (hq.out.symm.trans (by unfold restS; simp only [HO.out, hz, ha, HIF.out, htt, hg1]))
       have g0 : w6.cell? ⟨w.heap.size + 1, 0, none⟩ = some (.int .i64 0) := hR6.cell 0
       have f0 : w6.frozen? ⟨w.heap.size + 1, 0, none⟩ = false := hR6.frozen 0
       have y0 : w6.cell? ⟨w.heap.size, 0, none⟩ = some (.int .i64 o) := hB6.cell 0
       have g1 : w6.cell? ⟨w.heap.size + 1, 1, none⟩ = some (.string ⟨#[]⟩) := hR6.cell 1
       have f1 : w6.frozen? ⟨w.heap.size + 1, 1, none⟩ = false := hR6.frozen 1
       have y1 : w6.cell? ⟨w.heap.size, 1, none⟩ = some (.string ⟨#[]⟩) := hB6.cell 1
       have g2 : w6.cell? ⟨w.heap.size + 1, 2, none⟩ = some (.int .i64 0) := hR6.cell 2
       have f2 : w6.frozen? ⟨w.heap.size + 1, 2, none⟩ = false := hR6.frozen 2
       have y2 : w6.cell? ⟨w.heap.size, 2, none⟩ = some (.int .i64 0) := hB6.cell 2
       have g3 : w6.cell? ⟨w.heap.size + 1, 3, none⟩ = some (.int .i64 0) := hR6.cell 3
       have f3 : w6.frozen? ⟨w.heap.size + 1, 3, none⟩ = false := hR6.frozen 3
       have y3 : w6.cell? ⟨w.heap.size, 3, none⟩ = some (.int .i64 0) := hB6.cell 3
       have g4 : w6.cell? ⟨w.heap.size + 1, 4, none⟩ = some (.string ⟨#[]⟩) := hR6.cell 4
       have f4 : w6.frozen? ⟨w.heap.size + 1, 4, none⟩ = false := hR6.frozen 4
       have y4 : w6.cell? ⟨w.heap.size, 4, none⟩ = some (.string ⟨#[]⟩) := hB6.cell 4
       have g5 : w6.cell? ⟨w.heap.size + 1, 5, none⟩ = some (.slice none 0 0) := hR6.cell 5
       have f5 : w6.frozen? ⟨w.heap.size + 1, 5, none⟩ = false := hR6.frozen 5
       have y5 : w6.cell? ⟨w.heap.size, 5, none⟩ = some (.slice none 0 0) := hB6.cell 5
       have g6 : w6.cell? ⟨w.heap.size + 1, 6, none⟩ = some (.slice none 0 0) := hR6.cell 6
       have f6 : w6.frozen? ⟨w.heap.size + 1, 6, none⟩ = false := hR6.frozen 6
       have y6 : w6.cell? ⟨w.heap.size, 6, none⟩ = some (.slice (some ⟨w5.heap.size + 1, 0, none⟩) 2 2) := hB6.cell 6
       go_wp2_with fail
       refine ret_tm Tryz.results151 hres.out rfl rfl (r7 hR6 rfl) .nil0 ?_ (p7w p6 (by omega) (by omega)) (k7w K6 (Or.inr (by omega)))
       exact (kc6.frame (same7k (Or.inr rfl))).mono (fun k _ h => h.1)
      case false =>
       have hres : Hid (restS T s n q (nd o [t', u]) σ2 = restS T s n (s.size + 2) t σ) := Ld (Eq.trans (by conv => rhs; unfold restS; simp only [HO.out, hz, ha, HIF.out, htt, hg1]) hq.out)
       go_wp2_with fail
       go_roundg q
       case measure => omega
       case rel => exact ⟨nd o [t', u], σ2, none, 0, 0, _, 2, 2, hres, by omega, by omega, p6, hB6, hR6, hL6, hX6, hO6, .nil0, kc6, K6⟩
theorem inside_any {b : Nat} {s : ByteArray} {f : Nat} {T : TF} {w : World} {σ : PS} (hT : TC b s f T) (hI : TInv s T) (h : PW w b s σ) (hf : 14 * mu s σ ≤ f) (o c : ByteArray) :
  Calls Tryz.prog 196 #[.pointer (some ⟨b, 0, none⟩), .string o, .string c] w (RPost b s (VTm w.heap.size) (insideS T s o c σ) w) := by
 have hlt := h.lt
 have hgl := h.gl.lt
 have h0 := h.alloc Z7
 have hR0 : Blk (w.alloc Z7) w.heap.size 28 z27 := Blk.new w 28 z27
 have K0 : Kept (· = b) w (w.alloc Z7) := (Kept.refl _ _).alloc _
 have zw0 : (w.alloc Z7).heap.size = w.heap.size + 1 := by simp
 have Z0 := Ld zw0
 clear zw0
 go_enter Tryz.func196, Tryz.ntmps196
 go_wp2_with fail
 cases h_1 : openS s σ o with
 | error r =>
  have hq : Hid (insideS T s o c σ = .error r) := Ld (by unfold insideS; simp only [h_1])
  refine (open_err h0 o h_1).mono ?_
  rintro e w1 ⟨rfl, k1⟩
  go_wp2_with fail
  exact ⟨rfl, RPost.err hq.out ⟨rfl, K0.trans k1⟩⟩
 | ok σ1 =>
  have i_1 := inv_open h0.le h_1
  refine (open_ok h0 o h_1).mono ?_
  rintro e w1 ⟨rfl, p1, k1⟩
  have hR_1 := hR0.kept k1 (by show ¬ w.heap.size = b; omega)
  have K1 := K0.trans k1
  have lb1 := p1.lt
  have zz1 := K1.size
  have zk1 := k1.size
  have lR1 := hR_1.lt
  go_wp2_with fail
  have lo2 := p1.lt
  refine (hT 1 1 rfl σ1 _ (by decide) (by decide) p1 (by omega)).mono ?_
  rintro e w2 hr
  cases h_2 : T 1 σ1 with
  | error r =>
   have hq : Hid (insideS T s o c σ = .error r) := Ld (by unfold insideS; simp only [h_1, h_2])
   obtain ⟨rfl, k2⟩ := hr.getErr h_2
   clear hr
   go_wp2_with fail
   exact ⟨rfl, RPost.err hq.out ⟨rfl, K1.trans k2⟩⟩
  | ok q2 =>
   obtain ⟨t2, σ2⟩ := q2
   obtain ⟨v, rfl, ⟨tk2, kk2, rfl, at2, ct2⟩, p2, k2⟩ := hr.getOk h_2
   clear hr
   have j_2 := hI _ _ _ _ p1.le h_2
   have i_2 := j_2.1
   try unfold Inv at i_2
   try unfold Inv1 at i_2
   obtain ⟨ta2, tn2, tc2, rfl⟩ := at2.slice
   obtain ⟨ma2, mn2, mc2, rfl⟩ := ct2.slice
   unfold tmVal
   have hR_2 := hR_1.kept k2 (by show ¬ w.heap.size = b; omega)
   have K2 := K1.trans k2
   have lb2 := p2.lt
   have zz2 := K2.size
   have zk2 := k2.size
   have lR2 := hR_2.lt
   have h0_2 := p2.alloc (.cells #[.int .i64 t2.op, .string t2.name, .int .i64 t2.n, .int .i64 t2.ty.kind, .string t2.ty.name, .slice ta2 tn2 tc2, .slice ma2 mn2 mc2] 28)
   have K0_2 := K2.alloc (.cells #[.int .i64 t2.op, .string t2.name, .int .i64 t2.n, .int .i64 t2.ty.kind, .string t2.ty.name, .slice ta2 tn2 tc2, .slice ma2 mn2 mc2] 28)
   have hxR_2 := hR_2.alloc (.cells #[.int .i64 t2.op, .string t2.name, .int .i64 t2.n, .int .i64 t2.ty.kind, .string t2.ty.name, .slice ta2 tn2 tc2, .slice ma2 mn2 mc2] 28)
   have hLt2_2 : Blk (w2.alloc (.cells #[.int .i64 t2.op, .string t2.name, .int .i64 t2.n, .int .i64 t2.ty.kind, .string t2.ty.name, .slice ta2 tn2 tc2, .slice ma2 mn2 mc2] 28)) w2.heap.size 28 (tmCells t2 (.slice ta2 tn2 tc2) (.slice ma2 mn2 mc2)) := Blk.new w2 28 _
   have axt2_2 := at2.frame (Same.alloc _ (.cells #[.int .i64 t2.op, .string t2.name, .int .i64 t2.n, .int .i64 t2.ty.kind, .string t2.ty.name, .slice ta2 tn2 tc2, .slice ma2 mn2 mc2] 28))
   have cxt2_2 := ct2.frame (Same.alloc _ (.cells #[.int .i64 t2.op, .string t2.name, .int .i64 t2.n, .int .i64 t2.ty.kind, .string t2.ty.name, .slice ta2 tn2 tc2, .slice ma2 mn2 mc2] 28))
   have zw2 : (w2.alloc (.cells #[.int .i64 t2.op, .string t2.name, .int .i64 t2.n, .int .i64 t2.ty.kind, .string t2.ty.name, .slice ta2 tn2 tc2, .slice ma2 mn2 mc2] 28)).heap.size = w2.heap.size + 1 := by simp
   have Z2 := Ld zw2
   clear zw2
   go_wp2_with fail
   cases h_3 : shutS s σ2 c with
   | error r =>
    have hq : Hid (insideS T s o c σ = .error r) := Ld (by unfold insideS; simp only [h_1, h_2, h_3])
    refine (shut_err h0_2 c h_3).mono ?_
    rintro e w3 ⟨rfl, k3⟩
    go_wp2_with fail
    exact ⟨rfl, RPost.err hq.out ⟨rfl, K0_2.trans k3⟩⟩
   | ok σ3 =>
    have i_3 := inv_shut h0_2.le h_3
    have HN3 := Ld (show 1 ≤ σ2.nest by omega)
    refine (shut_ok h0_2 (HN3).out c h_3).mono ?_
    rintro e w3 ⟨rfl, p3, k3⟩
    have hR_3 := hxR_2.kept k3 (by show ¬ w.heap.size = b; omega)
    have hLt2_3 := hLt2_2.kept k3 (by show ¬ w2.heap.size = b; omega)
    have at2_3 := axt2_2.frame (Same.of_kept k3 (fun k h e => by omega))
    have ct2_3 := cxt2_2.frame (Same.of_kept k3 (fun k h e => by omega))
    have K3 := K0_2.trans k3
    have lb3 := p3.lt
    have zz3 := K3.size
    have zk3 := k3.size
    have lR3 := hR_3.lt
    have lLt23 := hLt2_3.lt
    have hq : Hid (insideS T s o c σ = .ok (t2, σ3)) := Ld (by unfold insideS; simp only [h_1, h_2, h_3])
    have gA : ∀ i, w3.cell? ⟨w.heap.size, i, none⟩ = [Value.int .i64 0, .string ⟨#[]⟩, .int .i64 0, .int .i64 0, .string ⟨#[]⟩, .slice none 0 0, .slice none 0 0][i]? := hR_3.cell
    have fA : ∀ i, w3.frozen? ⟨w.heap.size, i, none⟩ = false := hR_3.frozen
    have yt2A : ∀ i, w3.cell? ⟨w2.heap.size, i, none⟩ = [Value.int .i64 t2.op, .string t2.name, .int .i64 t2.n, .int .i64 t2.ty.kind, .string t2.ty.name, .slice ta2 tn2 tc2, .slice ma2 mn2 mc2][i]? := hLt2_3.cell
    have l9 : w.heap.size < w3.heap.size := hR_3.lt
    go_wp2_with fail
    refine ret_tm Tryz.results196 hq.out rfl rfl ((r7 hR_3 rfl)) ?_ ?_ ((p7w p3 (by omega) (by omega))) ((k7w K3 (Or.inr (Nat.le_refl _))))
    ·exact (at2_3.frame (same7 (R := w.heap.size) (by omega))).mono (fun k _ h => by omega)
    ·exact (ct2_3.frame (same7 (R := w.heap.size) (by omega))).mono (fun k _ h => by omega)
theorem bound_any {b : Nat} {s : ByteArray} {f : Nat} {T : TF} {w : World} {σ : PS} (hT : TC b s f T) (hI : TInv s T) (h : PW w b s σ) (hf : 14 * mu s σ ≤ f) (op : Int) :
  Calls Tryz.prog 221 #[.pointer (some ⟨b, 0, none⟩), .int .i64 op] w (RPost b s (VTm w.heap.size) (boundS T s op σ) w) := by
 have hlt := h.lt
 have hgl := h.gl.lt
 have h0 := h.alloc Z7
 have hR0 : Blk (w.alloc Z7) w.heap.size 28 z27 := Blk.new w 28 z27
 have K0 : Kept (· = b) w (w.alloc Z7) := (Kept.refl _ _).alloc _
 have zw0 : (w.alloc Z7).heap.size = w.heap.size + 1 := by simp
 have Z0 := Ld zw0
 clear zw0
 go_enter Tryz.func221, Tryz.ntmps221
 go_wp2_with fail
 cases h_1 : nameS s σ with
 | error r =>
  have hq : Hid (boundS T s op σ = .error r) := Ld (by unfold boundS; simp only [h_1])
  refine (name_err h0 h_1).mono ?_
  rintro e w1 ⟨rfl, k1⟩
  go_wp2_with fail
  exact ⟨rfl, RPost.err hq.out ⟨rfl, K0.trans k1⟩⟩
 | ok q1 =>
  obtain ⟨x1, σ1⟩ := q1
  have i_1 := inv_name h0.le h_1
  refine (name_ok h0 h_1).mono ?_
  rintro e w1 ⟨rfl, p1, k1⟩
  have hR_1 := hR0.kept k1 (by show ¬ w.heap.size = b; omega)
  have K1 := K0.trans k1
  have lb1 := p1.lt
  have zz1 := K1.size
  have zk1 := k1.size
  have lR1 := hR_1.lt
  go_wp2_with fail
  cases h_2 : wantS s σ1 kIn with
  | error r =>
   have hq : Hid (boundS T s op σ = .error r) := Ld (by unfold boundS; simp only [h_1, h_2])
   refine (want_err p1 kIn h_2).mono ?_
   rintro e w2 ⟨rfl, k2⟩
   go_wp2_with fail
   exact ⟨rfl, RPost.err hq.out ⟨rfl, K1.trans k2⟩⟩
  | ok σ2 =>
   have i_2 := inv_want p1.le h_2
   refine (want_ok p1 kIn h_2).mono ?_
   rintro e w2 ⟨rfl, p2, k2⟩
   have hR_2 := hR_1.kept k2 (by show ¬ w.heap.size = b; omega)
   have K2 := K1.trans k2
   have lb2 := p2.lt
   have zz2 := K2.size
   have zk2 := k2.size
   have lR2 := hR_2.lt
   go_wp2_with fail
   have lo3 := p2.lt
   refine (hT 7 7 rfl σ2 _ (by decide) (by decide) p2 (by omega)).mono ?_
   rintro e w3 hr
   cases h_3 : T 7 σ2 with
   | error r =>
    have hq : Hid (boundS T s op σ = .error r) := Ld (by unfold boundS; simp only [h_1, h_2, h_3])
    obtain ⟨rfl, k3⟩ := hr.getErr h_3
    clear hr
    go_wp2_with fail
    exact ⟨rfl, RPost.err hq.out ⟨rfl, K2.trans k3⟩⟩
   | ok q3 =>
    obtain ⟨t3, σ3⟩ := q3
    obtain ⟨v, rfl, ⟨tk3, kk3, rfl, at3, ct3⟩, p3, k3⟩ := hr.getOk h_3
    clear hr
    have j_3 := hI _ _ _ _ p2.le h_3
    have i_3 := j_3.1
    try unfold Inv at i_3
    try unfold Inv1 at i_3
    obtain ⟨ta3, tn3, tc3, rfl⟩ := at3.slice
    obtain ⟨ma3, mn3, mc3, rfl⟩ := ct3.slice
    unfold tmVal
    have hR_3 := hR_2.kept k3 (by show ¬ w.heap.size = b; omega)
    have K3 := K2.trans k3
    have lb3 := p3.lt
    have zz3 := K3.size
    have zk3 := k3.size
    have lR3 := hR_3.lt
    have h0_3 := p3.alloc (.cells #[.int .i64 t3.op, .string t3.name, .int .i64 t3.n, .int .i64 t3.ty.kind, .string t3.ty.name, .slice ta3 tn3 tc3, .slice ma3 mn3 mc3] 28)
    have K0_3 := K3.alloc (.cells #[.int .i64 t3.op, .string t3.name, .int .i64 t3.n, .int .i64 t3.ty.kind, .string t3.ty.name, .slice ta3 tn3 tc3, .slice ma3 mn3 mc3] 28)
    have hxR_3 := hR_3.alloc (.cells #[.int .i64 t3.op, .string t3.name, .int .i64 t3.n, .int .i64 t3.ty.kind, .string t3.ty.name, .slice ta3 tn3 tc3, .slice ma3 mn3 mc3] 28)
    have hLt3_3 : Blk (w3.alloc (.cells #[.int .i64 t3.op, .string t3.name, .int .i64 t3.n, .int .i64 t3.ty.kind, .string t3.ty.name, .slice ta3 tn3 tc3, .slice ma3 mn3 mc3] 28)) w3.heap.size 28 (tmCells t3 (.slice ta3 tn3 tc3) (.slice ma3 mn3 mc3)) := Blk.new w3 28 _
    have axt3_3 := at3.frame (Same.alloc _ (.cells #[.int .i64 t3.op, .string t3.name, .int .i64 t3.n, .int .i64 t3.ty.kind, .string t3.ty.name, .slice ta3 tn3 tc3, .slice ma3 mn3 mc3] 28))
    have cxt3_3 := ct3.frame (Same.alloc _ (.cells #[.int .i64 t3.op, .string t3.name, .int .i64 t3.n, .int .i64 t3.ty.kind, .string t3.ty.name, .slice ta3 tn3 tc3, .slice ma3 mn3 mc3] 28))
    have zw3 : (w3.alloc (.cells #[.int .i64 t3.op, .string t3.name, .int .i64 t3.n, .int .i64 t3.ty.kind, .string t3.ty.name, .slice ta3 tn3 tc3, .slice ma3 mn3 mc3] 28)).heap.size = w3.heap.size + 1 := by simp
    have Z3 := Ld zw3
    clear zw3
    go_wp2_with fail
    cases h_4 : wantS s σ3 kDot with
    | error r =>
     have hq : Hid (boundS T s op σ = .error r) := Ld (by unfold boundS; simp only [h_1, h_2, h_3, h_4])
     refine (want_err h0_3 kDot h_4).mono ?_
     rintro e w4 ⟨rfl, k4⟩
     go_wp2_with fail
     exact ⟨rfl, RPost.err hq.out ⟨rfl, K0_3.trans k4⟩⟩
    | ok σ4 =>
     have i_4 := inv_want h0_3.le h_4
     refine (want_ok h0_3 kDot h_4).mono ?_
     rintro e w4 ⟨rfl, p4, k4⟩
     have hR_4 := hxR_3.kept k4 (by show ¬ w.heap.size = b; omega)
     have hLt3_4 := hLt3_3.kept k4 (by show ¬ w3.heap.size = b; omega)
     have at3_4 := axt3_3.frame (Same.of_kept k4 (fun k h e => by omega))
     have ct3_4 := cxt3_3.frame (Same.of_kept k4 (fun k h e => by omega))
     have K4 := K0_3.trans k4
     have lb4 := p4.lt
     have zz4 := K4.size
     have zk4 := k4.size
     have lR4 := hR_4.lt
     have lLt34 := hLt3_4.lt
     go_wp2_with fail
     have lo5 := p4.lt
     refine (hT 1 1 rfl σ4 _ (by decide) (by decide) p4 (by omega)).mono ?_
     rintro e w5 hr
     cases h_5 : T 1 σ4 with
     | error r =>
      have hq : Hid (boundS T s op σ = .error r) := Ld (by unfold boundS; simp only [h_1, h_2, h_3, h_4, h_5])
      obtain ⟨rfl, k5⟩ := hr.getErr h_5
      clear hr
      go_wp2_with fail
      exact ⟨rfl, RPost.err hq.out ⟨rfl, K4.trans k5⟩⟩
     | ok q5 =>
      obtain ⟨t5, σ5⟩ := q5
      obtain ⟨v, rfl, ⟨tk5, kk5, rfl, at5, ct5⟩, p5, k5⟩ := hr.getOk h_5
      clear hr
      have j_5 := hI _ _ _ _ p4.le h_5
      have i_5 := j_5.1
      try unfold Inv at i_5
      try unfold Inv1 at i_5
      obtain ⟨ta5, tn5, tc5, rfl⟩ := at5.slice
      obtain ⟨ma5, mn5, mc5, rfl⟩ := ct5.slice
      unfold tmVal
      have hR_5 := hR_4.kept k5 (by show ¬ w.heap.size = b; omega)
      have hLt3_5 := hLt3_4.kept k5 (by show ¬ w3.heap.size = b; omega)
      have at3_5 := at3_4.frame (Same.of_kept k5 (fun k h e => by omega))
      have ct3_5 := ct3_4.frame (Same.of_kept k5 (fun k h e => by omega))
      have K5 := K4.trans k5
      have lb5 := p5.lt
      have zz5 := K5.size
      have zk5 := k5.size
      have lR5 := hR_5.lt
      have lLt35 := hLt3_5.lt
      have hq : Hid (boundS T s op σ = .ok (.mk op x1 0 ty0 [t3, t5], σ5)) := Ld (by unfold boundS; simp only [h_1, h_2, h_3, h_4, h_5])
      have gA : ∀ i, w5.cell? ⟨w.heap.size, i, none⟩ = [Value.int .i64 0, .string ⟨#[]⟩, .int .i64 0, .int .i64 0, .string ⟨#[]⟩, .slice none 0 0, .slice none 0 0][i]? := hR_5.cell
      have fA : ∀ i, w5.frozen? ⟨w.heap.size, i, none⟩ = false := hR_5.frozen
      have yt3A : ∀ i, w5.cell? ⟨w3.heap.size, i, none⟩ = [Value.int .i64 t3.op, .string t3.name, .int .i64 t3.n, .int .i64 t3.ty.kind, .string t3.ty.name, .slice ta3 tn3 tc3, .slice ma3 mn3 mc3][i]? := hLt3_5.cell
      have l9 : w.heap.size < w5.heap.size := hR_5.lt
      go_wp2_with fail
      refine ret_tm Tryz.results221 hq.out rfl rfl ((((r7 hR_5 rfl)).alloc _).alloc _) ?_ ?_ ((((p7w p5 (by omega) (by omega))).alloc _).alloc _) ((((k7w K5 (Or.inr (Nat.le_refl _)))).alloc _).alloc _)
      ·exact .nil0
      ·exact TmL.two (ty := 28) (by omega) (Nat.le_refl _) (Blk.new' 28 _ (by simp)) ((((at3_5.frame (same7 (R := w.heap.size) (by omega))).frame (Same.alloc _ _)).frame (Same.alloc _ _)).mono (fun k _ h => by omega)) ((((ct3_5.frame (same7 (R := w.heap.size) (by omega))).frame (Same.alloc _ _)).frame (Same.alloc _ _)).mono (fun k _ h => by omega)) ((((at5.frame (same7 (R := w.heap.size) (by omega))).frame (Same.alloc _ _)).frame (Same.alloc _ _)).mono (fun k _ h => by omega)) ((((ct5.frame (same7 (R := w.heap.size) (by omega))).frame (Same.alloc _ _)).frame (Same.alloc _ _)).mono (fun k _ h => by omega))
theorem term_not {b : Nat} {s : ByteArray} {f : Nat} {w : World} {σ : PS} (hT : TC b s f (termS f s)) (h : PW w b s σ) (hf : 14 * mu s σ + (14 - 5) < f + 1) (hi : isS σ kNot = true) :
  Calls Tryz.prog 94 #[.pointer (some ⟨b, 0, none⟩), .int .i64 5] w (RPost b s (VTm w.heap.size) (termS (f + 1) s 5 σ) w) := by
 have hI := inv_term f s
 have HI := Ld hI
 clear hI
 have hlt := h.lt
 have hgl := h.gl.lt
 have h0 := h.alloc Z7
 have hR0 : Blk (w.alloc Z7) w.heap.size 28 z27 := Blk.new w 28 z27
 have K0 : Kept (· = b) w (w.alloc Z7) := (Kept.refl _ _).alloc _
 have zw0 : (w.alloc Z7).heap.size = w.heap.size + 1 := by simp
 have Z0 := Ld zw0
 clear zw0
 go_enter Tryz.func94, Tryz.ntmps94
 go_wp2_with fail
 cases h_1 : advS s σ with
 | error r =>
  have hq : Hid (termS (f + 1) s 5 σ = .error r) := Ld (by unfold termS; simp only [hi, show ((5 : Nat) == 5) = true from rfl, show ((5 : Nat) == 13) = false from rfl, h_1])
  refine (eat_bad h0 kNot hi h_1).mono ?_
  rintro e w1 ⟨rfl, k1⟩
  go_wp2_with fail
  exact ⟨rfl, RPost.err hq.out ⟨rfl, K0.trans k1⟩⟩
 | ok σ1 =>
  have i_1 := inv_adv h0.le (isS_ne hi) h_1
  refine (eat_yes h0 kNot hi h_1).mono ?_
  rintro e w1 ⟨rfl, p1, k1⟩
  have hR_1 := hR0.kept k1 (by show ¬ w.heap.size = b; omega)
  have K1 := K0.trans k1
  have lb1 := p1.lt
  have zz1 := K1.size
  have zk1 := k1.size
  have lR1 := hR_1.lt
  go_wp2_with fail
  have lo2 := p1.lt
  refine (hT 5 5 rfl σ1 _ (by decide) (by decide) p1 (by omega)).mono ?_
  rintro e w2 hr
  cases h_2 : termS f s 5 σ1 with
  | error r =>
   have hq : Hid (termS (f + 1) s 5 σ = .error r) := Ld (by unfold termS; simp only [hi, show ((5 : Nat) == 5) = true from rfl, show ((5 : Nat) == 13) = false from rfl, h_1, h_2])
   obtain ⟨rfl, k2⟩ := hr.getErr h_2
   clear hr
   go_wp2_with fail
   exact ⟨rfl, RPost.err hq.out ⟨rfl, K1.trans k2⟩⟩
  | ok q2 =>
   obtain ⟨t2, σ2⟩ := q2
   obtain ⟨v, rfl, ⟨tk2, kk2, rfl, at2, ct2⟩, p2, k2⟩ := hr.getOk h_2
   clear hr
   have j_2 := HI.out _ _ _ _ p1.le h_2
   have i_2 := j_2.1
   try unfold Inv at i_2
   try unfold Inv1 at i_2
   obtain ⟨ta2, tn2, tc2, rfl⟩ := at2.slice
   obtain ⟨ma2, mn2, mc2, rfl⟩ := ct2.slice
   unfold tmVal
   have hR_2 := hR_1.kept k2 (by show ¬ w.heap.size = b; omega)
   have K2 := K1.trans k2
   have lb2 := p2.lt
   have zz2 := K2.size
   have zk2 := k2.size
   have lR2 := hR_2.lt
   have hq : Hid (termS (f + 1) s 5 σ = .ok (nd 3 [t2], σ2)) := Ld (by unfold termS; simp only [hi, show ((5 : Nat) == 5) = true from rfl, show ((5 : Nat) == 13) = false from rfl, h_1, h_2])
   have gA : ∀ i, w2.cell? ⟨w.heap.size, i, none⟩ = [Value.int .i64 0, .string ⟨#[]⟩, .int .i64 0, .int .i64 0, .string ⟨#[]⟩, .slice none 0 0, .slice none 0 0][i]? := hR_2.cell
   have fA : ∀ i, w2.frozen? ⟨w.heap.size, i, none⟩ = false := hR_2.frozen
   have l9 : w.heap.size < w2.heap.size := hR_2.lt
   go_wp2_with fail
   refine ret_tm Tryz.results94 hq.out rfl rfl (((r7 hR_2 rfl)).alloc _) ?_ ?_ (((p7w p2 (by omega) (by omega))).alloc _) (((k7w K2 (Or.inr (Nat.le_refl _)))).alloc _)
   ·exact .nil0
   ·exact TmL.one (ty := 28) (by omega) (Nat.le_refl _) (Blk.new' 28 _ (by simp)) (((at2.frame (same7 (R := w.heap.size) (by omega))).frame (Same.alloc _ _)).mono (fun k _ h => by omega)) (((ct2.frame (same7 (R := w.heap.size) (by omega))).frame (Same.alloc _ _)).mono (fun k _ h => by omega))
theorem term_neg {b : Nat} {s : ByteArray} {f : Nat} {w : World} {σ : PS} (hT : TC b s f (termS f s)) (h : PW w b s σ) (hf : 14 * mu s σ + (14 - 13) < f + 1) (hi : isS σ kMinus = true) :
  Calls Tryz.prog 94 #[.pointer (some ⟨b, 0, none⟩), .int .i64 13] w (RPost b s (VTm w.heap.size) (termS (f + 1) s 13 σ) w) := by
 have hI := inv_term f s
 have HI := Ld hI
 clear hI
 have hlt := h.lt
 have hgl := h.gl.lt
 have h0 := h.alloc Z7
 have hR0 : Blk (w.alloc Z7) w.heap.size 28 z27 := Blk.new w 28 z27
 have K0 : Kept (· = b) w (w.alloc Z7) := (Kept.refl _ _).alloc _
 have zw0 : (w.alloc Z7).heap.size = w.heap.size + 1 := by simp
 have Z0 := Ld zw0
 clear zw0
 go_enter Tryz.func94, Tryz.ntmps94
 go_wp2_with fail
 cases h_1 : advS s σ with
 | error r =>
  have hq : Hid (termS (f + 1) s 13 σ = .error r) := Ld (by unfold termS; simp only [hi, show ((13 : Nat) == 5) = false from rfl, show ((13 : Nat) == 13) = true from rfl, h_1])
  refine (eat_bad h0 kMinus hi h_1).mono ?_
  rintro e w1 ⟨rfl, k1⟩
  go_wp2_with fail
  exact ⟨rfl, RPost.err hq.out ⟨rfl, K0.trans k1⟩⟩
 | ok σ1 =>
  have i_1 := inv_adv h0.le (isS_ne hi) h_1
  refine (eat_yes h0 kMinus hi h_1).mono ?_
  rintro e w1 ⟨rfl, p1, k1⟩
  have hR_1 := hR0.kept k1 (by show ¬ w.heap.size = b; omega)
  have K1 := K0.trans k1
  have lb1 := p1.lt
  have zz1 := K1.size
  have zk1 := k1.size
  have lR1 := hR_1.lt
  go_wp2_with fail
  have lo2 := p1.lt
  refine (hT 13 13 rfl σ1 _ (by decide) (by decide) p1 (by omega)).mono ?_
  rintro e w2 hr
  cases h_2 : termS f s 13 σ1 with
  | error r =>
   have hq : Hid (termS (f + 1) s 13 σ = .error r) := Ld (by unfold termS; simp only [hi, show ((13 : Nat) == 5) = false from rfl, show ((13 : Nat) == 13) = true from rfl, h_1, h_2])
   obtain ⟨rfl, k2⟩ := hr.getErr h_2
   clear hr
   go_wp2_with fail
   exact ⟨rfl, RPost.err hq.out ⟨rfl, K1.trans k2⟩⟩
  | ok q2 =>
   obtain ⟨t2, σ2⟩ := q2
   obtain ⟨v, rfl, ⟨tk2, kk2, rfl, at2, ct2⟩, p2, k2⟩ := hr.getOk h_2
   clear hr
   have j_2 := HI.out _ _ _ _ p1.le h_2
   have i_2 := j_2.1
   try unfold Inv at i_2
   try unfold Inv1 at i_2
   obtain ⟨ta2, tn2, tc2, rfl⟩ := at2.slice
   obtain ⟨ma2, mn2, mc2, rfl⟩ := ct2.slice
   unfold tmVal
   have hR_2 := hR_1.kept k2 (by show ¬ w.heap.size = b; omega)
   have K2 := K1.trans k2
   have lb2 := p2.lt
   have zz2 := K2.size
   have zk2 := k2.size
   have lR2 := hR_2.lt
   have hq : Hid (termS (f + 1) s 13 σ = .ok (nd 21 [t2], σ2)) := Ld (by unfold termS; simp only [hi, show ((13 : Nat) == 5) = false from rfl, show ((13 : Nat) == 13) = true from rfl, h_1, h_2])
   have gA : ∀ i, w2.cell? ⟨w.heap.size, i, none⟩ = [Value.int .i64 0, .string ⟨#[]⟩, .int .i64 0, .int .i64 0, .string ⟨#[]⟩, .slice none 0 0, .slice none 0 0][i]? := hR_2.cell
   have fA : ∀ i, w2.frozen? ⟨w.heap.size, i, none⟩ = false := hR_2.frozen
   have l9 : w.heap.size < w2.heap.size := hR_2.lt
   go_wp2_with fail
   refine ret_tm Tryz.results94 hq.out rfl rfl (((r7 hR_2 rfl)).alloc _) ?_ ?_ (((p7w p2 (by omega) (by omega))).alloc _) (((k7w K2 (Or.inr (Nat.le_refl _)))).alloc _)
   ·exact .nil0
   ·exact TmL.one (ty := 28) (by omega) (Nat.le_refl _) (Blk.new' 28 _ (by simp)) (((at2.frame (same7 (R := w.heap.size) (by omega))).frame (Same.alloc _ _)).mono (fun k _ h => by omega)) (((ct2.frame (same7 (R := w.heap.size) (by omega))).frame (Same.alloc _ _)).mono (fun k _ h => by omega))
theorem term_six {b : Nat} {s : ByteArray} {f : Nat} {w : World} {σ : PS} (hT : TC b s f (termS f s)) (h : PW w b s σ) (hf : 14 * mu s σ + (14 - 5) < f + 1) (hi : isS σ kNot = false) :
  Calls Tryz.prog 94 #[.pointer (some ⟨b, 0, none⟩), .int .i64 5] w (RPost b s (VTm w.heap.size) (termS (f + 1) s 5 σ) w) := by
 have hI := inv_term f s
 have HI := Ld hI
 clear hI
 have hlt := h.lt
 have hgl := h.gl.lt
 have h0 := h.alloc Z7
 have hR0 : Blk (w.alloc Z7) w.heap.size 28 z27 := Blk.new w 28 z27
 have K0 : Kept (· = b) w (w.alloc Z7) := (Kept.refl _ _).alloc _
 have zw0 : (w.alloc Z7).heap.size = w.heap.size + 1 := by simp
 have Z0 := Ld zw0
 clear zw0
 go_enter Tryz.func94, Tryz.ntmps94
 go_wp2_with fail
 refine (eat_no h0 kNot hi).mono ?_
 rintro e w' ⟨rfl, rfl⟩
 go_wp2_with fail
 have lo1 := h0.lt
 have zz0 := Z0.out
 refine (hT 6 6 rfl σ _ (by decide) (by decide) h0 (by omega)).mono ?_
 clear zz0
 rintro e w1 hr
 cases h_1 : termS f s 6 σ with
 | error r =>
  have hq : Hid (termS (f + 1) s 5 σ = .error r) := Ld (by unfold termS; simp only [hi, show ((5 : Nat) == 5) = true from rfl, show ((5 : Nat) == 13) = false from rfl, h_1])
  obtain ⟨rfl, k1⟩ := hr.getErr h_1
  clear hr
  go_wp2_with fail
  exact ⟨rfl, RPost.err hq.out ⟨rfl, K0.trans k1⟩⟩
 | ok q1 =>
  obtain ⟨t1, σ1⟩ := q1
  obtain ⟨v, rfl, ⟨tk1, kk1, rfl, at1, ct1⟩, p1, k1⟩ := hr.getOk h_1
  clear hr
  have j_1 := HI.out _ _ _ _ h0.le h_1
  have i_1 := j_1.1
  try unfold Inv at i_1
  try unfold Inv1 at i_1
  obtain ⟨ta1, tn1, tc1, rfl⟩ := at1.slice
  obtain ⟨ma1, mn1, mc1, rfl⟩ := ct1.slice
  unfold tmVal
  have hR_1 := hR0.kept k1 (by show ¬ w.heap.size = b; omega)
  have K1 := K0.trans k1
  have lb1 := p1.lt
  have zz1 := K1.size
  have zk1 := k1.size
  have lR1 := hR_1.lt
  have hq : Hid (termS (f + 1) s 5 σ = .ok (t1, σ1)) := Ld (by unfold termS; simp only [hi, show ((5 : Nat) == 5) = true from rfl, show ((5 : Nat) == 13) = false from rfl, h_1])
  have gA : ∀ i, w1.cell? ⟨w.heap.size, i, none⟩ = [Value.int .i64 0, .string ⟨#[]⟩, .int .i64 0, .int .i64 0, .string ⟨#[]⟩, .slice none 0 0, .slice none 0 0][i]? := hR_1.cell
  have fA : ∀ i, w1.frozen? ⟨w.heap.size, i, none⟩ = false := hR_1.frozen
  have l9 : w.heap.size < w1.heap.size := hR_1.lt
  go_wp2_with fail
  have zz0 := Z0.out
  refine ret_tm Tryz.results94 hq.out rfl rfl ((r7 hR_1 rfl)) ?_ ?_ ((p7w p1 (by omega) (by omega))) ((k7w K1 (Or.inr (Nat.le_refl _))))
  ·exact (at1.frame (same7 (R := w.heap.size) (by omega))).mono (fun k _ h => by omega)
  ·exact (ct1.frame (same7 (R := w.heap.size) (by omega))).mono (fun k _ h => by omega)
theorem wp_region_lmc {P : Program} {id : Nat} {o0 o1 o2 : Oper} {tl : List Oper} {Q : Exit → Act → World → Prop} {a : Act} {w : World} (x1 : Operand) (hm : P.follows .mixedOrders = true) (h1 : o1.op = .move x1) (hg1 : o1.guard = none)
  (r0 : Region.ready .any (o0 :: o1 :: o2 :: tl).toArray (Array.replicate (tl.length + 3) false) = [0, 1])
  (s0 : Region.seqB .any (o0 :: o1 :: o2 :: tl).toArray (tl.length + 2) 1 ((Array.replicate (tl.length + 3) false).setIfInBounds 0 true) = true)
  (r1 : Region.ready .any (o0 :: o1 :: o2 :: tl).toArray ((Array.replicate (tl.length + 3) false).setIfInBounds 1 true) = [0, 2])
  (s10 : Region.seqB .any (o0 :: o1 :: o2 :: tl).toArray (tl.length + 1) 2 (((Array.replicate (tl.length + 3) false).setIfInBounds 1 true).setIfInBounds 0 true) = true)
  (r12 : Region.ready .any (o0 :: o1 :: o2 :: tl).toArray (((Array.replicate (tl.length + 3) false).setIfInBounds 1 true).setIfInBounds 2 true) = [0])
  (s120 : Region.seqB .any (o0 :: o1 :: o2 :: tl).toArray tl.length 3 ((((Array.replicate (tl.length + 3) false).setIfInBounds 1 true).setIfInBounds 2 true).setIfInBounds 0 true) = true)
  (hA : wpList P (o0 :: o1 :: o2 :: tl).toArray Q (o0 :: o1 :: o2 :: tl) a w.drew)
  (hB0 : wpList P (o0 :: o1 :: o2 :: tl).toArray Q (o0 :: o2 :: tl) (a.put o1.dst (a.eval x1)) w.drew)
  (hB2 : wpList P (o0 :: o1 :: o2 :: tl).toArray Q (o2 :: o0 :: tl) (a.put o1.dst (a.eval x1)) w.drew) : (Code.region id (o0 :: o1 :: o2 :: tl).toArray true).wp P Q a w := by
 refine wp_region_any hm ?_
 have hsz : (o0 :: o1 :: o2 :: tl).toArray.size = tl.length + 3 := by simp
 rw [hsz]
 generalize hops : (o0 :: o1 :: o2 :: tl).toArray = ops at *
 have e0 : ops[0]? = some o0 := by rw [← hops]; rfl
 have e1 : ops[1]? = some o1 := by rw [← hops]; rfl
 have e2 : ops[2]? = some o2 := by rw [← hops]; rfl
 have et : ∀ k j, (o0 :: o1 :: o2 :: tl)[k + j]? = ops[k + j]? := fun k j => by subst hops; exact List.getElem?_toArray.symm
 refine ⟨fun h => (by rw [r0] at h; cases h), fun i hi => ?_⟩
 rw [r0] at hi
 have hi' : i = 0 ∨ i = 1 := by simpa using hi
 rcases hi' with rfl | rfl
 ·have hw : wpOp P ops Q 0 (wpList P ops Q (o1 :: o2 :: tl)) a w.drew := by unfold wpOp; simp only [e0]; exact hA
  exact wpOp_mono (fun a' w' h' => wpAny_of_seq (o1 :: o2 :: tl) 1 _ a' w' (fun j => by have := et 1 j; rw [← this, Nat.add_comm]; rfl) s0 h') hw
 ·have hw : wpOp P ops Q 1 (fun a' w' => wpAny P .any ops Q (tl.length + 2) ((Array.replicate (tl.length + 3) false).setIfInBounds 1 true) a' w') a w.drew := by
   unfold wpOp
   simp only [e1]
   rw [if_pos (by unfold Region.wanted; rw [hg1])]
   refine Or.inl (BigFrame.wp_move x1 h1 ?_)
   refine ⟨fun h => (by rw [r1] at h; cases h), fun j hj => ?_⟩
   rw [r1] at hj
   have hj' : j = 0 ∨ j = 2 := by simpa using hj
   rcases hj' with rfl | rfl
   ·have hw : wpOp P ops Q 0 (wpList P ops Q (o2 :: tl)) (a.put o1.dst (a.eval x1)) w.drew := by unfold wpOp; simp only [e0]; exact hB0
    exact wpOp_mono (fun a' w' h' => wpAny_of_seq (o2 :: tl) 2 _ a' w' (fun j => by have := et 2 j; rw [← this, Nat.add_comm]; rfl) s10 h') hw
   ·have hw : wpOp P ops Q 2 (wpList P ops Q (o0 :: tl)) (a.put o1.dst (a.eval x1)) w.drew := by unfold wpOp; simp only [e2]; exact hB2
    refine wpOp_mono (fun a' w' h' => ?_) hw
    refine ⟨fun h => (by rw [r12] at h; cases h), fun k hk => ?_⟩
    rw [r12] at hk
    have hk' : k = 0 := by simpa using hk
    subst hk'
    have hw : wpOp P ops Q 0 (wpList P ops Q tl) a' w' := by unfold wpOp; simp only [e0]; exact h'
    exact wpOp_mono (fun a' w' h' => wpAny_of_seq tl 3 _ a' w' (fun j => by have := et 3 j; rw [← this, Nat.add_comm]; rfl) s120 h') hw
  exact hw
end Go.Proofs.YtfhedienjnfdcaaGreatDoor
