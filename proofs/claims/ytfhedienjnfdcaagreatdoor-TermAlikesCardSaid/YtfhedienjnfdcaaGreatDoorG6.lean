/- Texts Sm Brac Worded Atom Stay Stay2 TermL TermZ of this proof, in one. -/
import Derived.Test.YtfhedienjnfdcaaGreatDoorG5
set_option linter.unusedVariables false
set_option linter.unusedSimpArgs false
set_option maxRecDepth 100000
set_option maxHeartbeats 32000000
namespace Go.Proofs.YtfhedienjnfdcaaGreatDoor
open Go.RowKit
inductive SmTy (N : Nat) : Ty → Prop
 | mk {k : Int} {n : ByteArray} {l : List Ty} (hn : n.size ≤ N) (hl : ∀ t, t ∈ l → SmTy N t) : SmTy N (.mk k n l)
inductive SmTm (N : Nat) : Tm → Prop
 | mk {o : Int} {n : ByteArray} {i : Int} {t : Ty} {l : List Tm} (hn : n.size ≤ N) (ht : SmTy N t) (hl : ∀ k, k ∈ l → SmTm N k) : SmTm N (.mk o n i t l)
theorem SmTm.name {N : Nat} {t : Tm} (h : SmTm N t) : t.name.size ≤ N := by cases h; assumption
theorem SmTm.kids {N : Nat} {t : Tm} (h : SmTm N t) : ∀ k, k ∈ t.kids → SmTm N k := by cases h; assumption
theorem SmTm.ty {N : Nat} {t : Tm} (h : SmTm N t) : SmTy N t.ty := by cases h; assumption
theorem SmTy.name {N : Nat} {t : Ty} (h : SmTy N t) : t.name.size ≤ N := by cases h; assumption
theorem SmTy.kids {N : Nat} {t : Ty} (h : SmTy N t) : ∀ k, k ∈ t.kids → SmTy N k := by cases h; assumption
theorem sm_ty0 (N : Nat) : SmTy N ty0 := .mk (Nat.zero_le _) (fun t h => by cases h)
theorem sm_nd {N : Nat} {op : Int} {l : List Tm} (hl : ∀ k, k ∈ l → SmTm N k) : SmTm N (nd op l) := .mk (Nat.zero_le _) (sm_ty0 N) hl
theorem all1 {α : Type} {P : α → Prop} {x : α} (h : P x) : ∀ k, k ∈ [x] → P k := by intro k hk; cases List.mem_singleton.1 hk; exact h
theorem all2 {α : Type} {P : α → Prop} {x y : α} (h : P x) (h' : P y) : ∀ k, k ∈ [x, y] → P k := by
 intro k hk; simp only [List.mem_cons, List.not_mem_nil, or_false] at hk; rcases hk with rfl | rfl <;> assumption
def St (N : Nat) (s : ByteArray) (σ : PS) : Prop := σ.p ≤ s.size ∧ σ.tx.size ≤ N
def TSm (N : Nat) (s : ByteArray) (T : TF) : Prop := ∀ n σ t σ', St N s σ → T n σ = .ok (t, σ') → SmTm N t ∧ St N s σ'
theorem st_adv {N : Nat} {s : ByteArray} {σ σ' : PS} (hN : s.size ≤ N) (h : St N s σ) (ha : advS s σ = .ok σ') : St N s σ' := by
 unfold advS at ha
 cases ht : tokAt s (skip s σ.p) with
 | none => rw [ht] at ha; cases ha
 | some t => rw [ht] at ha; cases ha; have := tokAt_le (skip_le s σ.p h.1) ht; exact ⟨this.1, Nat.le_trans this.2 hN⟩
theorem st_eat {N : Nat} {s : ByteArray} {σ σ' : PS} {t : ByteArray} {v : Bool} (hN : s.size ≤ N) (h : St N s σ) (ha : eatS s σ t = .ok (v, σ')) : St N s σ' := by
 unfold eatS at ha
 split at ha
 ·cases h1 : advS s σ with
  | ok σ1 => rw [h1] at ha; cases ha; exact st_adv hN h h1
  | error r => rw [h1] at ha; cases ha
 ·cases ha; exact h
theorem st_want {N : Nat} {s : ByteArray} {σ σ' : PS} {t : ByteArray} (hN : s.size ≤ N) (h : St N s σ) (ha : wantS s σ t = .ok σ') : St N s σ' := by
 unfold wantS at ha
 cases he : eatS s σ t with
 | error r => rw [he] at ha; cases ha
 | ok q =>
  obtain ⟨v, σ1⟩ := q
  rw [he] at ha
  cases v
  ·cases ha
  ·cases ha; exact st_eat hN h he
theorem st_shut {N : Nat} {s : ByteArray} {σ σ' : PS} {t : ByteArray} (hN : s.size ≤ N) (h : St N s σ) (ha : shutS s σ t = .ok σ') : St N s σ' := by
 unfold shutS at ha
 cases he : wantS s σ t with
 | error r => rw [he] at ha; cases ha
 | ok σ1 => rw [he] at ha; cases ha; exact (st_want hN h he : St N s σ1)
theorem st_open {N : Nat} {s : ByteArray} {σ σ' : PS} {t : ByteArray} (hN : s.size ≤ N) (h : St N s σ) (ha : openS s σ t = .ok σ') : St N s σ' := by
 unfold openS at ha
 repeat' split at ha
 all_goals first | (cases ha; done) | exact st_adv hN (σ := { σ with nest := σ.nest + 1 }) h ha
theorem st_name {N : Nat} {s : ByteArray} {σ σ' : PS} {x : ByteArray} (hN : s.size ≤ N) (h : St N s σ) (ha : nameS s σ = .ok (x, σ')) : St N s σ' ∧ x.size ≤ N := by
 unfold nameS at ha
 split at ha
 ·cases h1 : advS s σ with
  | error r => rw [h1] at ha; cases ha
  | ok σ1 => rw [h1] at ha; cases ha; exact ⟨st_adv hN h h1, h.2⟩
 ·cases ha
theorem sm_typed {N : Nat} {s : ByteArray} (hN : s.size ≤ N) (f : Nat) : ∀ {σ σ' : PS} {t : Ty}, St N s σ → typedS f s σ = .ok (t, σ') → SmTy N t ∧ St N s σ' := by
 induction f with
 | zero => intro σ σ' t _ h; cases h
 | succ f ih =>
  intro σ σ' t hs h
  unfold typedS at h
  repeat' split at h
  all_goals try (cases h; done)
  ·rename_i _ _ σ1 h1; cases h; exact ⟨.mk hs.2 (fun t h => by cases h), st_adv hN hs h1⟩
  ·rename_i _ _ σ1 h1; cases h; exact ⟨.mk (Nat.zero_le _) (fun t h => by cases h), st_adv hN hs h1⟩
  ·rename_i _ _ σ1 h1 _ σ2 h2 _ t3 σ3 h3 _ σ4 h4
   cases h
   have a := ih (st_open hN (st_adv hN hs h1) h2) h3
   exact ⟨.mk (Nat.zero_le _) (all1 a.1), st_shut hN a.2 h4⟩
  ·rename_i _ _ σ1 h1 _ σ2 h2 _ t3 σ3 h3 _ σ4 h4 _ t5 σ5 h5 _ σ6 h6
   cases h
   have a := ih (st_open hN (st_adv hN hs h1) h2) h3
   have c := ih (st_want hN a.2 h4) h5
   exact ⟨.mk (Nat.zero_le _) (all2 a.1 c.1), st_shut hN c.2 h6⟩
theorem sm_inside {N : Nat} {T : TF} {s o c : ByteArray} {σ σ' : PS} {t : Tm} (hN : s.size ≤ N) (hT : TSm N s T) (hs : St N s σ) (h : insideS T s o c σ = .ok (t, σ')) : SmTm N t ∧ St N s σ' := by
 unfold insideS at h
 repeat' split at h
 all_goals try (cases h; done)
 rename_i σ1 h1 _ t2 σ2 h2 _ σ3 h3
 cases h
 have a := hT _ _ _ _ (st_open hN hs h1) h2
 exact ⟨a.1, st_shut hN a.2 h3⟩
theorem sm_bound {N : Nat} {T : TF} {s : ByteArray} {op : Int} {σ σ' : PS} {t : Tm} (hN : s.size ≤ N) (hT : TSm N s T) (hs : St N s σ) (h : boundS T s op σ = .ok (t, σ')) : SmTm N t ∧ St N s σ' := by
 unfold boundS at h
 repeat' split at h
 all_goals try (cases h; done)
 rename_i x σ1 h1 _ σ2 h2 _ t3 σ3 h3 _ σ4 h4 _ t5 σ5 h5
 cases h
 have a1 := st_name hN hs h1
 have a3 := hT _ _ _ _ (st_want hN a1.1 h2) h3
 have a5 := hT _ _ _ _ (st_want hN a3.2 h4) h5
 exact ⟨.mk a1.2 (sm_ty0 N) (all2 a3.1 a5.1), a5.2⟩
theorem sm_leaf {N : Nat} {s : ByteArray} {σ σ' : PS} {t t' : Tm} (hN : s.size ≤ N) (ht : SmTm N t) (hs : St N s σ) (h : leafS s t σ = .ok (t', σ')) : SmTm N t' ∧ St N s σ' := by
 unfold leafS at h
 split at h
 ·cases h
 ·rename_i h1; cases h; exact ⟨ht, st_adv hN hs h1⟩
theorem sm_binder {N : Nat} {T : TF} {s : ByteArray} {op : Int} {σ σ' : PS} {t : Tm} (hN : s.size ≤ N) (hT : TSm N s T) (hs : St N s σ) (h : binderS T s op σ = .ok (t, σ')) : SmTm N t ∧ St N s σ' := by
 unfold binderS at h
 split at h
 ·cases h
 ·rename_i σ1 h1; exact sm_bound hN hT (st_adv hN hs h1) h
theorem sm_nil {N : Nat} {op : Int} : SmTm N (nd op []) := sm_nd (fun k h => by cases h)
theorem sm_worded {N : Nat} {T : TF} {s : ByteArray} {σ σ' : PS} {t : Tm} (hN : s.size ≤ N) (hT : TSm N s T) (hs : St N s σ) (h : wordedS T s σ = .ok (t, σ')) : SmTm N t ∧ St N s σ' := by
 unfold wordedS at h
 repeat' split at h
 all_goals try (cases h; done)
 ·exact sm_leaf hN (.mk hs.2 (sm_ty0 N) (fun k h => by cases h)) hs h
 ·rename_i _ σ1 h1 _ t2 σ2 h2
  cases h
  have a := sm_inside hN hT (st_adv hN hs h1) h2
  exact ⟨sm_nd (all1 a.1), a.2⟩
 ·exact sm_leaf hN sm_nil hs h
 ·exact sm_leaf hN sm_nil hs h
 ·exact sm_binder hN hT hs h
 ·exact sm_binder hN hT hs h
 ·exact sm_binder hN hT hs h
theorem sm_elems {N : Nat} {T : TF} {s : ByteArray} (hN : s.size ≤ N) (hT : TSm N s T) (g : Nat) : ∀ {l l' : List Tm} {σ σ' : PS}, (∀ k, k ∈ l → SmTm N k) → St N s σ → elemsS T s g l σ = .ok (l', σ') → (∀ k, k ∈ l' → SmTm N k) ∧ St N s σ' := by
 induction g with
 | zero => intro l l' σ σ' _ _ h; cases h
 | succ g ih =>
  intro l l' σ σ' hl hs h
  unfold elemsS at h
  repeat' split at h
  all_goals try (cases h; done)
  ·cases h; exact ⟨hl, hs⟩
  ·rename_i hi _ σ1 h1 _ t2 σ2 h2
   have a := hT _ _ _ _ (st_adv hN hs h1) h2
   refine ih (fun k hk => ?_) a.2 h
   rcases List.mem_append.1 hk with hk | hk
   ·exact hl k hk
   ·exact all1 a.1 k hk
theorem sm_elements {N : Nat} {T : TF} {s : ByteArray} {first : Tm} {bare : Bool} {σ σ' : PS} {t : Tm} (hN : s.size ≤ N) (hT : TSm N s T) (hfirst : SmTm N first) (hs : St N s σ) (h : elementsS T s first bare σ = .ok (t, σ')) : SmTm N t ∧ St N s σ' := by
 have hg : ∀ i, SmTm N (first.kids.getD i first) := by
  intro i
  rw [List.getD_eq_getElem?_getD]
  cases hi : first.kids[i]? with
  | none => exact hfirst
  | some k => exact hfirst.kids k (List.mem_of_getElem? hi)
 unfold elementsS at h
 repeat' split at h
 all_goals try (cases h; done)
 ·rename_i hc _ σ1 h1 _ c2 σ2 h2 _ σ3 h3
  cases h
  have a := hT _ _ _ _ (st_adv hN hs h1) h2
  exact ⟨.mk (hg 0).name (sm_ty0 N) (all2 (hg 1) a.1), st_shut hN a.2 h3⟩
 ·rename_i _ _ l1 σ1 h1 _ σ2 h2
  cases h
  have a := sm_elems hN hT _ (all1 hfirst) hs h1
  exact ⟨sm_nd a.1, st_shut hN a.2 h2⟩
theorem sm_braces {N : Nat} {T : TF} {s : ByteArray} {σ σ' : PS} {t : Tm} (hN : s.size ≤ N) (hT : TSm N s T) (hs : St N s σ) (h : bracesS T s σ = .ok (t, σ')) : SmTm N t ∧ St N s σ' := by
 unfold bracesS at h
 repeat' split at h
 all_goals try (cases h; done)
 ·rename_i _ σ1 h1 _ hi _ σ2 h2 _ σ3 h3 _ t4 σ4 h4 _ σ5 h5
  cases h
  have a2 := st_adv hN (st_open hN hs h1) h2
  have a4 := sm_typed hN _ (st_open hN (σ := { σ2 with nest := σ2.nest - 1 }) a2 h3) h4
  exact ⟨.mk (Nat.zero_le _) a4.1 (fun k h => by cases h), st_shut hN a4.2 h5⟩
 ·rename_i _ σ1 h1 _ hi _ t2 σ2 h2
  have a2 := hT _ _ _ _ (st_open hN hs h1) h2
  exact sm_elements hN hT a2.1 a2.2 h
theorem sm_atom {N : Nat} {T : TF} {s : ByteArray} {σ σ' : PS} {t : Tm} (hN : s.size ≤ N) (hT : TSm N s T) (hs : St N s σ) (h : atomS T s σ = .ok (t, σ')) : SmTm N t ∧ St N s σ' := by
 unfold atomS at h
 repeat' split at h
 all_goals try (cases h; done)
 ·exact sm_leaf hN (.mk (Nat.zero_le _) (sm_ty0 N) (fun k h => by cases h)) hs h
 ·exact sm_worded hN hT hs h
 ·exact sm_inside hN hT hs h
 ·exact sm_braces hN hT hs h
theorem sm_after {N : Nat} {T : TF} {s : ByteArray} (hN : s.size ≤ N) (hT : TSm N s T) (g : Nat) : ∀ {t t' : Tm} {σ σ' : PS}, SmTm N t → St N s σ → afterS T s g t σ = .ok (t', σ') → SmTm N t' ∧ St N s σ' := by
 induction g with
 | zero => intro t t' σ σ' _ _ h; cases h
 | succ g ih =>
  intro t t' σ σ' ht hs h
  unfold afterS at h
  repeat' split at h
  all_goals try (cases h; done)
  ·rename_i _ u σ1 h1
   have a := sm_inside hN hT hs h1
   exact ih (sm_nd (all2 ht a.1)) a.2 h
  ·rename_i _ u σ1 h1
   have a := sm_inside hN hT hs h1
   exact ih (sm_nd (all2 ht a.1)) a.2 h
  ·rename_i hi _ σ1 h1
   exact ih (sm_nd (all1 ht)) (st_adv hN hs h1) h
  ·cases h; exact ⟨ht, hs⟩
theorem sm_rest {N : Nat} {T : TF} {s : ByteArray} {n : Nat} (hN : s.size ≤ N) (hT : TSm N s T) (g : Nat) : ∀ {t t' : Tm} {σ σ' : PS}, SmTm N t → St N s σ → restS T s n g t σ = .ok (t', σ') → SmTm N t' ∧ St N s σ' := by
 induction g with
 | zero => intro t t' σ σ' _ _ h; cases h
 | succ g ih =>
  intro t t' σ σ' ht hs h
  unfold restS at h
  repeat' split at h
  all_goals try (cases h; done)
  ·cases h; exact ⟨ht, hs⟩
  ·rename_i hk _ σ1 h1 _ u σ2 h2 _ _
   cases h
   have a := hT _ _ _ _ (st_adv hN hs h1) h2
   exact ⟨sm_nd (all2 ht a.1), a.2⟩
  ·rename_i hk _ σ1 h1 _ u σ2 h2 _ _
   have a := hT _ _ _ _ (st_adv hN hs h1) h2
   exact ih (sm_nd (all2 ht a.1)) a.2 h
theorem sm_term {N : Nat} {s : ByteArray} (hN : s.size ≤ N) (f : Nat) : TSm N s (termS f s) := by
 induction f with
 | zero => intro n σ t σ' _ h; cases h
 | succ f ih =>
  intro n σ t σ' hs h
  unfold termS at h
  repeat' split at h
  all_goals try (cases h; done)
  ·rename_i hi _ σ1 h1 _ u σ2 h2
   cases h
   have a := ih _ _ _ _ (st_adv hN hs h1) h2
   exact ⟨sm_nd (all1 a.1), a.2⟩
  ·exact ih _ _ _ _ hs h
  ·rename_i hi _ σ1 h1 _ u σ2 h2
   cases h
   have a := ih _ _ _ _ (st_adv hN hs h1) h2
   exact ⟨sm_nd (all1 a.1), a.2⟩
  ·rename_i _ u σ1 h1
   have a := sm_atom hN ih hs h1
   exact sm_after hN ih _ a.1 a.2 h
  ·rename_i _ u σ1 h1
   have a := ih _ _ _ _ hs h1
   exact sm_rest hN ih _ a.1 a.2 h
theorem braces_err {b : Nat} {s : ByteArray} {f : Nat} {T : TF} {w : World} {σ : PS} (hT : TC b s f T) (hI : TInv s T) (h : PW w b s σ) (hf : 14 * mu s σ ≤ f) {r : ER} (h_1 : openS s σ kLcu = .error r) :
  Calls Tryz.prog 198 #[.pointer (some ⟨b, 0, none⟩)] w (RPost b s (VTm w.heap.size) (bracesS T s σ) w) := by
 have hlt := h.lt
 have hgl := h.gl.lt
 have h0 := h.alloc Z7
 have hR0 : Blk (w.alloc Z7) w.heap.size 28 z27 := Blk.new w 28 z27
 have K0 : Kept (· = b) w (w.alloc Z7) := (Kept.refl _ _).alloc _
 have zw0 : (w.alloc Z7).heap.size = w.heap.size + 1 := by simp
 have Z0 := Ld zw0
 clear zw0
 go_enter Tryz.func198, Tryz.ntmps198
 go_wp2_with fail
 have hq : Hid (bracesS T s σ = .error r) := Ld (by unfold bracesS; simp only [h_1])
 refine (open_err h0 kLcu h_1).mono ?_
 rintro e w1 ⟨rfl, k1⟩
 go_wp2_with fail
 exact ⟨rfl, RPost.err hq.out ⟨rfl, K0.trans k1⟩⟩
theorem braces_empty {b : Nat} {s : ByteArray} {f : Nat} {T : TF} {w : World} {σ : PS} (hT : TC b s f T) (hI : TInv s T) (h : PW w b s σ) (hf : 14 * mu s σ ≤ f) {σ1 : PS} (h_1 : openS s σ kLcu = .ok σ1) (hi : isS σ1 kRcu = true) :
  Calls Tryz.prog 198 #[.pointer (some ⟨b, 0, none⟩)] w (RPost b s (VTm w.heap.size) (bracesS T s σ) w) := by
 have hlt := h.lt
 have hgl := h.gl.lt
 have h0 := h.alloc Z7
 have hR0 : Blk (w.alloc Z7) w.heap.size 28 z27 := Blk.new w 28 z27
 have K0 : Kept (· = b) w (w.alloc Z7) := (Kept.refl _ _).alloc _
 have zw0 : (w.alloc Z7).heap.size = w.heap.size + 1 := by simp
 have Z0 := Ld zw0
 clear zw0
 go_enter Tryz.func198, Tryz.ntmps198
 go_wp2_with fail
 have i_1 := inv_open h0.le h_1
 refine (open_ok h0 kLcu h_1).mono ?_
 rintro e w1 ⟨rfl, p1, k1⟩
 have hR_1 := hR0.kept k1 (by show ¬ w.heap.size = b; omega)
 have K1 := K0.trans k1
 have lb1 := p1.lt
 have zz1 := K1.size
 have zk1 := k1.size
 have lR1 := hR_1.lt
 go_wp2_with fail
 cases h_2 : advS s σ1 with
 | error r =>
  have hq : Hid (bracesS T s σ = .error r) := Ld (by unfold bracesS; simp only [h_1, hi, h_2])
  refine (eat_bad p1 kRcu hi h_2).mono ?_
  rintro e w2 ⟨rfl, k2⟩
  go_wp2_with fail
  exact ⟨rfl, RPost.err hq.out ⟨rfl, K1.trans k2⟩⟩
 | ok σ2 =>
  have i_2 := inv_adv p1.le (isS_ne hi) h_2
  refine (eat_yes p1 kRcu hi h_2).mono ?_
  rintro e w2 ⟨rfl, p2, k2⟩
  have hR_2 := hR_1.kept k2 (by show ¬ w.heap.size = b; omega)
  have K2 := K1.trans k2
  have lb2 := p2.lt
  have zz2 := K2.size
  have zk2 := k2.size
  have lR2 := hR_2.lt
  have c6 := p2.nst
  have f6 := p2.nfr
  have hle := p2.nest
  have hn2 : 1 ≤ σ2.nest := by omega
  have hN := p2.nested (σ2.nest - 1) (by omega)
  rw [show ((σ2.nest - 1 : Nat) : Int) = (σ2.nest : Int) - 1 by omega] at hN
  have KN := K2.setCell (p := ⟨b, 6, none⟩) (Or.inl rfl) (.int .i64 ((σ2.nest : Int) - 1))
  have hRN := hR_2.set_other ⟨b, 6, none⟩ (.int .i64 ((σ2.nest : Int) - 1)) (by show w.heap.size ≠ b; omega)
  have J1 := Ld i_1
  have J2 := Ld i_2
  clear i_1 i_2
  go_wp2_with fail
  have i_1 := J1.out
  have i_2 := J2.out
  have nn : ({ σ2 with nest := σ2.nest - 1 } : PS).nest = σ2.nest - 1 := rfl
  have mn : mu s ({ σ2 with nest := σ2.nest - 1 } : PS) = mu s σ2 := rfl
  cases h_3 : openS s ({ σ2 with nest := σ2.nest - 1 } : PS) kLbr with
  | error r =>
   have hq : Hid (bracesS T s σ = .error r) := Ld (by unfold bracesS; simp only [h_1, hi, h_2, h_3])
   refine (open_err hN kLbr h_3).mono ?_
   rintro e w3 ⟨rfl, k3⟩
   go_wp2_with fail
   exact ⟨rfl, RPost.err hq.out ⟨rfl, KN.trans k3⟩⟩
  | ok σ3 =>
   have i_3 := inv_open hN.le h_3
   refine (open_ok hN kLbr h_3).mono ?_
   rintro e w3 ⟨rfl, p3, k3⟩
   have hR_3 := hRN.kept k3 (by show ¬ w.heap.size = b; omega)
   have K3 := KN.trans k3
   have lb3 := p3.lt
   have zz3 := K3.size
   have zk3 := k3.size
   have lR3 := hR_3.lt
   go_wp2_with fail
   have lo4 := p3.lt
   refine (typed_any (s.size + 2) σ3 _ p3 (by have := mu_le s σ3; omega)).mono ?_
   rintro e w4 hr
   cases h_4 : typedS (s.size + 2) s σ3 with
   | error r =>
    have hq : Hid (bracesS T s σ = .error r) := Ld (by unfold bracesS; simp only [h_1, hi, h_2, h_3, h_4])
    obtain ⟨rfl, k4⟩ := hr.getErr h_4
    clear hr
    go_wp2_with fail
    exact ⟨rfl, RPost.err hq.out ⟨rfl, K3.trans k4⟩⟩
   | ok q4 =>
    obtain ⟨t4, σ4⟩ := q4
    obtain ⟨v, rfl, ⟨tk4, rfl, at4⟩, p4, k4⟩ := hr.getOk h_4
    clear hr
    have i_4 := typed_mu _ p3.le h_4
    have n_4 := typed_nest _ h_4
    obtain ⟨ta4, tn4, tc4, rfl⟩ := at4.slice
    unfold tyVal
    have hR_4 := hR_3.kept k4 (by show ¬ w.heap.size = b; omega)
    have K4 := K3.trans k4
    have lb4 := p4.lt
    have zz4 := K4.size
    have zk4 := k4.size
    have lR4 := hR_4.lt
    have h0_4 := p4.alloc (.cells #[.int .i64 t4.kind, .string t4.name, .slice ta4 tn4 tc4] 26)
    have K0_4 := K4.alloc (.cells #[.int .i64 t4.kind, .string t4.name, .slice ta4 tn4 tc4] 26)
    have hxR_4 := hR_4.alloc (.cells #[.int .i64 t4.kind, .string t4.name, .slice ta4 tn4 tc4] 26)
    have hLt4 : Blk (w4.alloc (.cells #[.int .i64 t4.kind, .string t4.name, .slice ta4 tn4 tc4] 26)) w4.heap.size 26 [.int .i64 t4.kind, .string t4.name, .slice ta4 tn4 tc4] := Blk.new w4 26 _
    have axt4 := at4.frame (Same.alloc _ (.cells #[.int .i64 t4.kind, .string t4.name, .slice ta4 tn4 tc4] 26))
    go_wp2_with fail
    cases h_5 : shutS s σ4 kRbr with
    | error r =>
     have hq : Hid (bracesS T s σ = .error r) := Ld (by unfold bracesS; simp only [h_1, hi, h_2, h_3, h_4, h_5])
     refine (shut_err h0_4 kRbr h_5).mono ?_
     rintro e w5 ⟨rfl, k5⟩
     go_wp2_with fail
     exact ⟨rfl, RPost.err hq.out ⟨rfl, K0_4.trans k5⟩⟩
    | ok σ5 =>
     have i_5 := inv_shut h0_4.le h_5
     have HN5 := Ld (show 1 ≤ σ4.nest by omega)
     refine (shut_ok h0_4 (HN5).out kRbr h_5).mono ?_
     rintro e w5 ⟨rfl, p5, k5⟩
     have hR_5 := hxR_4.kept k5 (by show ¬ w.heap.size = b; omega)
     have hXt4_5 := hLt4.kept k5 (by show ¬ w4.heap.size = b; omega)
     have at4_5 := axt4.frame (Same.of_kept k5 (fun k h e => by omega))
     have K5 := K0_4.trans k5
     have lb5 := p5.lt
     have zz5 := K5.size
     have zk5 := k5.size
     have lR5 := hR_5.lt
     have lXt45 := hXt4_5.lt
     have hq : Hid (bracesS T s σ = .ok (.mk 29 nil0 0 t4 [], σ5)) := Ld (by unfold bracesS; simp only [h_1, hi, h_2, h_3, h_4, h_5])
     have g0 : w5.cell? ⟨w.heap.size, 0, none⟩ = some (.int .i64 0) := hR_5.cell 0
     have f0 : w5.frozen? ⟨w.heap.size, 0, none⟩ = false := hR_5.frozen 0
     have g1 : w5.cell? ⟨w.heap.size, 1, none⟩ = some (.string ⟨#[]⟩) := hR_5.cell 1
     have f1 : w5.frozen? ⟨w.heap.size, 1, none⟩ = false := hR_5.frozen 1
     have g2 : w5.cell? ⟨w.heap.size, 2, none⟩ = some (.int .i64 0) := hR_5.cell 2
     have f2 : w5.frozen? ⟨w.heap.size, 2, none⟩ = false := hR_5.frozen 2
     have g3 : w5.cell? ⟨w.heap.size, 3, none⟩ = some (.int .i64 0) := hR_5.cell 3
     have f3 : w5.frozen? ⟨w.heap.size, 3, none⟩ = false := hR_5.frozen 3
     have g4 : w5.cell? ⟨w.heap.size, 4, none⟩ = some (.string ⟨#[]⟩) := hR_5.cell 4
     have f4 : w5.frozen? ⟨w.heap.size, 4, none⟩ = false := hR_5.frozen 4
     have g5 : w5.cell? ⟨w.heap.size, 5, none⟩ = some (.slice none 0 0) := hR_5.cell 5
     have f5 : w5.frozen? ⟨w.heap.size, 5, none⟩ = false := hR_5.frozen 5
     have g6 : w5.cell? ⟨w.heap.size, 6, none⟩ = some (.slice none 0 0) := hR_5.cell 6
     have f6 : w5.frozen? ⟨w.heap.size, 6, none⟩ = false := hR_5.frozen 6
     have l9 : w.heap.size < w5.heap.size := hR_5.lt
     have y0 : w5.cell? ⟨w4.heap.size, 0, none⟩ = some (.int .i64 t4.kind) := hXt4_5.cell 0
     have y1 : w5.cell? ⟨w4.heap.size, 1, none⟩ = some (.string t4.name) := hXt4_5.cell 1
     have y2 : w5.cell? ⟨w4.heap.size, 2, none⟩ = some (.slice ta4 tn4 tc4) := hXt4_5.cell 2
     go_wp2_with fail
     refine ret_tm Tryz.results198 hq.out rfl rfl ((r7 hR_5 rfl)) ?_ ?_ ((p7w p5 (by omega) (by omega))) ((k7w K5 (Or.inr (Nat.le_refl _))))
     ·exact (at4_5.frame (same7 (R := w.heap.size) (by omega))).mono (fun k _ h => by omega)
     ·exact .nil0
theorem braces_full {b : Nat} {s : ByteArray} {f : Nat} {T : TF} {w : World} {σ : PS} (hT : TC b s f T) (hI : TInv s T) (h : PW w b s σ) (hf : 14 * mu s σ ≤ f) (hS : TSm 65536 s T) {σ1 : PS} (h_1 : openS s σ kLcu = .ok σ1) (hi : isS σ1 kRcu = false) {bare : Bool} (hb : (σ1.k == 1) = bare) :
  Calls Tryz.prog 198 #[.pointer (some ⟨b, 0, none⟩)] w (RPost b s (VTm w.heap.size) (bracesS T s σ) w) := by
 have HS := Ld hS
 clear hS
 have hlt := h.lt
 have hgl := h.gl.lt
 have h0 := h.alloc Z7
 have hR0 : Blk (w.alloc Z7) w.heap.size 28 z27 := Blk.new w 28 z27
 have K0 : Kept (· = b) w (w.alloc Z7) := (Kept.refl _ _).alloc _
 have zw0 : (w.alloc Z7).heap.size = w.heap.size + 1 := by simp
 have Z0 := Ld zw0
 clear zw0
 go_enter Tryz.func198, Tryz.ntmps198
 go_wp2_with fail
 have i_1 := inv_open h0.le h_1
 refine (open_ok h0 kLcu h_1).mono ?_
 rintro e w1 ⟨rfl, p1, k1⟩
 have hR_1 := hR0.kept k1 (by show ¬ w.heap.size = b; omega)
 have K1 := K0.trans k1
 have lb1 := p1.lt
 have zz1 := K1.size
 have zk1 := k1.size
 have lR1 := hR_1.lt
 go_wp2_with fail
 refine (eat_no p1 kRcu hi).mono ?_
 rintro e w' ⟨rfl, rfl⟩
 have c2 := p1.kd
 go_wp2_with fail
 have lo2 := p1.lt
 refine (hT 1 1 rfl σ1 _ (by decide) (by decide) p1 (by omega)).mono ?_
 rintro e w2 hr
 cases h_2 : T 1 σ1 with
 | error r =>
  have hq : Hid (bracesS T s σ = .error r) := Ld (by unfold bracesS; simp only [h_1, hi, hb, h_2])
  obtain ⟨rfl, k2⟩ := hr.getErr h_2
  clear hr
  go_wp2_with fail
  exact ⟨rfl, RPost.err hq.out ⟨rfl, K1.trans k2⟩⟩
 | ok q2 =>
  obtain ⟨t2, σ2⟩ := q2
  obtain ⟨v, rfl, ⟨tk2, kk2, rfl, at2, ct2⟩, p2, k2⟩ := hr.getOk h_2
  clear hr
  have j_2 := hI _ _ _ _ p1.le h_2
  have i_2 := j_2.1
  try unfold Inv at i_2
  try unfold Inv1 at i_2
  obtain ⟨ta2, tn2, tc2, rfl⟩ := at2.slice
  obtain ⟨ma2, mn2, mc2, rfl⟩ := ct2.slice
  unfold tmVal
  have hR_2 := hR_1.kept k2 (by show ¬ w.heap.size = b; omega)
  have K2 := K1.trans k2
  have lb2 := p2.lt
  have zz2 := K2.size
  have zk2 := k2.size
  have lR2 := hR_2.lt
  have h0_2 := p2.alloc (.cells #[.int .i64 t2.op, .string t2.name, .int .i64 t2.n, .int .i64 t2.ty.kind, .string t2.ty.name, .slice ta2 tn2 tc2, .slice ma2 mn2 mc2] 28)
  have K0_2 := K2.alloc (.cells #[.int .i64 t2.op, .string t2.name, .int .i64 t2.n, .int .i64 t2.ty.kind, .string t2.ty.name, .slice ta2 tn2 tc2, .slice ma2 mn2 mc2] 28)
  have hxR_2 := hR_2.alloc (.cells #[.int .i64 t2.op, .string t2.name, .int .i64 t2.n, .int .i64 t2.ty.kind, .string t2.ty.name, .slice ta2 tn2 tc2, .slice ma2 mn2 mc2] 28)
  have hLt2_2 : Blk (w2.alloc (.cells #[.int .i64 t2.op, .string t2.name, .int .i64 t2.n, .int .i64 t2.ty.kind, .string t2.ty.name, .slice ta2 tn2 tc2, .slice ma2 mn2 mc2] 28)) w2.heap.size 28 (tmCells t2 (.slice ta2 tn2 tc2) (.slice ma2 mn2 mc2)) := Blk.new w2 28 _
  have axt2_2 := at2.frame (Same.alloc _ (.cells #[.int .i64 t2.op, .string t2.name, .int .i64 t2.n, .int .i64 t2.ty.kind, .string t2.ty.name, .slice ta2 tn2 tc2, .slice ma2 mn2 mc2] 28))
  have cxt2_2 := ct2.frame (Same.alloc _ (.cells #[.int .i64 t2.op, .string t2.name, .int .i64 t2.n, .int .i64 t2.ty.kind, .string t2.ty.name, .slice ta2 tn2 tc2, .slice ma2 mn2 mc2] 28))
  have zw2 : (w2.alloc (.cells #[.int .i64 t2.op, .string t2.name, .int .i64 t2.n, .int .i64 t2.ty.kind, .string t2.ty.name, .slice ta2 tn2 tc2, .slice ma2 mn2 mc2] 28)).heap.size = w2.heap.size + 1 := by simp
  have Z2 := Ld zw2
  clear zw2
  go_wp2_with fail
  have HM : Hid (∀ k ∈ t2.kids, k.name.size ≤ 65536) := Ld (fun k hk => ((HS.out _ _ _ _ ⟨p1.le, p1.tx⟩ h_2).1.kids k hk).name)
  have HNe := Ld (show 1 ≤ σ2.nest by omega)
  have lo3 := h0_2.lt
  refine (elements_any hT hI h0_2 HNe.out (by omega) t2 j_2.2 HM.out bare ta2 tn2 tc2 ma2 mn2 mc2 w1.heap.size (by omega) (by have := Z2.out; omega) axt2_2 cxt2_2).mono ?_
  rintro e w3 hr
  cases h_3 : elementsS T s t2 bare σ2 with
  | error r =>
   have hq : Hid (bracesS T s σ = .error r) := Ld (by unfold bracesS; simp only [h_1, hi, hb, h_2, h_3])
   obtain ⟨rfl, k3⟩ := hr.getErr h_3
   clear hr
   go_wp2_with fail
   exact ⟨rfl, RPost.err hq.out ⟨rfl, K0_2.trans k3⟩⟩
  | ok q3 =>
   obtain ⟨t3, σ3⟩ := q3
   obtain ⟨v, rfl, ⟨tk3, kk3, rfl, at3, ct3⟩, p3, k3⟩ := hr.getOk h_3
   clear hr
   have j_3 := inv_elements hI h0_2.le h_3
   have i_3 := j_3.1
   try unfold Inv at i_3
   try unfold Inv1 at i_3
   obtain ⟨ta3, tn3, tc3, rfl⟩ := at3.slice
   obtain ⟨ma3, mn3, mc3, rfl⟩ := ct3.slice
   unfold tmVal
   have hR_3 := hxR_2.kept k3 (by show ¬ w.heap.size = b; omega)
   have hLt2_3 := hLt2_2.kept k3 (by show ¬ w2.heap.size = b; omega)
   have at2_3 := axt2_2.frame (Same.of_kept k3 (fun k h e => by omega))
   have ct2_3 := cxt2_2.frame (Same.of_kept k3 (fun k h e => by omega))
   have K3 := K0_2.trans k3
   have lb3 := p3.lt
   have zz3 := K3.size
   have zk3 := k3.size
   have lR3 := hR_3.lt
   have lLt23 := hLt2_3.lt
   have hq : Hid (bracesS T s σ = .ok (t3, σ3)) := Ld (by unfold bracesS; simp only [h_1, hi, hb, h_2, h_3])
   have g0 : w3.cell? ⟨w.heap.size, 0, none⟩ = some (.int .i64 0) := hR_3.cell 0
   have f0 : w3.frozen? ⟨w.heap.size, 0, none⟩ = false := hR_3.frozen 0
   have g1 : w3.cell? ⟨w.heap.size, 1, none⟩ = some (.string ⟨#[]⟩) := hR_3.cell 1
   have f1 : w3.frozen? ⟨w.heap.size, 1, none⟩ = false := hR_3.frozen 1
   have g2 : w3.cell? ⟨w.heap.size, 2, none⟩ = some (.int .i64 0) := hR_3.cell 2
   have f2 : w3.frozen? ⟨w.heap.size, 2, none⟩ = false := hR_3.frozen 2
   have g3 : w3.cell? ⟨w.heap.size, 3, none⟩ = some (.int .i64 0) := hR_3.cell 3
   have f3 : w3.frozen? ⟨w.heap.size, 3, none⟩ = false := hR_3.frozen 3
   have g4 : w3.cell? ⟨w.heap.size, 4, none⟩ = some (.string ⟨#[]⟩) := hR_3.cell 4
   have f4 : w3.frozen? ⟨w.heap.size, 4, none⟩ = false := hR_3.frozen 4
   have g5 : w3.cell? ⟨w.heap.size, 5, none⟩ = some (.slice none 0 0) := hR_3.cell 5
   have f5 : w3.frozen? ⟨w.heap.size, 5, none⟩ = false := hR_3.frozen 5
   have g6 : w3.cell? ⟨w.heap.size, 6, none⟩ = some (.slice none 0 0) := hR_3.cell 6
   have f6 : w3.frozen? ⟨w.heap.size, 6, none⟩ = false := hR_3.frozen 6
   have yt20 : w3.cell? ⟨w2.heap.size, 0, none⟩ = some (.int .i64 t2.op) := hLt2_3.cell 0
   have yt21 : w3.cell? ⟨w2.heap.size, 1, none⟩ = some (.string t2.name) := hLt2_3.cell 1
   have yt22 : w3.cell? ⟨w2.heap.size, 2, none⟩ = some (.int .i64 t2.n) := hLt2_3.cell 2
   have yt23 : w3.cell? ⟨w2.heap.size, 3, none⟩ = some (.int .i64 t2.ty.kind) := hLt2_3.cell 3
   have yt24 : w3.cell? ⟨w2.heap.size, 4, none⟩ = some (.string t2.ty.name) := hLt2_3.cell 4
   have yt25 : w3.cell? ⟨w2.heap.size, 5, none⟩ = some (.slice ta2 tn2 tc2) := hLt2_3.cell 5
   have yt26 : w3.cell? ⟨w2.heap.size, 6, none⟩ = some (.slice ma2 mn2 mc2) := hLt2_3.cell 6
   have l9 : w.heap.size < w3.heap.size := hR_3.lt
   go_wp2_with fail
   refine ret_tm Tryz.results198 hq.out rfl rfl ((r7 hR_3 rfl)) ?_ ?_ ((p7w p3 (by omega) (by omega))) ((k7w K3 (Or.inr (Nat.le_refl _))))
   ·exact (at3.frame (same7 (R := w.heap.size) (by omega))).mono (fun k _ h => by omega)
   ·exact (ct3.frame (same7 (R := w.heap.size) (by omega))).mono (fun k _ h => by omega)
theorem braces_any {b : Nat} {s : ByteArray} {f : Nat} {T : TF} {w : World} {σ : PS} (hT : TC b s f T) (hI : TInv s T) (h : PW w b s σ) (hf : 14 * mu s σ ≤ f) (hS : TSm 65536 s T) :
  Calls Tryz.prog 198 #[.pointer (some ⟨b, 0, none⟩)] w (RPost b s (VTm w.heap.size) (bracesS T s σ) w) := by
 cases h_1 : openS s σ kLcu with
 | error r => exact braces_err hT hI h hf h_1
 | ok σ1 =>
  cases hi : isS σ1 kRcu
  ·exact braces_full hT hI h hf hS h_1 hi rfl
  ·exact braces_empty hT hI h hf h_1 hi
theorem worded_name {b : Nat} {s : ByteArray} {f : Nat} {T : TF} {w : World} {σ : PS} (hT : TC b s f T) (hI : TInv s T) (h : PW w b s σ) (hf : 14 * mu s σ ≤ f) (hk0 : σ.k ≠ 0) (hkw : keywordB σ.tx = false) :
  Calls Tryz.prog 197 #[.pointer (some ⟨b, 0, none⟩), .string σ.tx] w (RPost b s (VTm w.heap.size) (wordedS T s σ) w) := by
 have hlt := h.lt
 have hgl := h.gl.lt
 have h0 := h.alloc Z7
 have hR0 : Blk (w.alloc Z7) w.heap.size 28 z27 := Blk.new w 28 z27
 have K0 : Kept (· = b) w (w.alloc Z7) := (Kept.refl _ _).alloc _
 have zw0 : (w.alloc Z7).heap.size = w.heap.size + 1 := by simp
 have Z0 := Ld zw0
 clear zw0
 go_enter Tryz.func197, Tryz.ntmps197
 go_wp2_with (first | (go_at_call 101; refine cR (keyword_t hkw _) ?_) | (go_at_call 220; refine (function_any _ _).mono ?_; rintro e w' ⟨rfl, rfl⟩))
 cases h_1 : advS s σ with
 | error r =>
  have hq : Hid (wordedS T s σ = .error r) := Ld (by unfold wordedS leafS; simp only [hkw, h_1])
  refine (adv_err h0 h_1).mono ?_
  rintro e w1 ⟨rfl, k1⟩
  go_wp2_with fail
  exact ⟨rfl, RPost.err hq.out ⟨rfl, K0.trans k1⟩⟩
 | ok σ1 =>
  have i_1 := inv_adv h0.le hk0 h_1
  refine (adv_ok h0 h_1).mono ?_
  rintro e w1 ⟨rfl, p1, k1⟩
  have hR_1 := hR0.kept k1 (by show ¬ w.heap.size = b; omega)
  have K1 := K0.trans k1
  have lb1 := p1.lt
  have zz1 := K1.size
  have zk1 := k1.size
  have lR1 := hR_1.lt
  have hq : Hid (wordedS T s σ = .ok (.mk 20 σ.tx 0 ty0 [], σ1)) := Ld (by unfold wordedS leafS; simp only [hkw, h_1])
  have gA : ∀ i, w1.cell? ⟨w.heap.size, i, none⟩ = [Value.int .i64 0, .string ⟨#[]⟩, .int .i64 0, .int .i64 0, .string ⟨#[]⟩, .slice none 0 0, .slice none 0 0][i]? := hR_1.cell
  have fA : ∀ i, w1.frozen? ⟨w.heap.size, i, none⟩ = false := hR_1.frozen
  have l9 : w.heap.size < w1.heap.size := hR_1.lt
  go_wp2_with fail
  refine ret_tm Tryz.results197 hq.out rfl rfl ((r7 hR_1 rfl)) ?_ ?_ ((p7w p1 (by omega) (by omega))) ((k7w K1 (Or.inr (Nat.le_refl _))))
  ·exact .nil0
  ·exact .nil0
theorem worded_fun {b : Nat} {s : ByteArray} {f : Nat} {T : TF} {w : World} {σ : PS} (hT : TC b s f T) (hI : TInv s T) (h : PW w b s σ) (hf : 14 * mu s σ ≤ f) (hk0 : σ.k ≠ 0) (hkw : keywordB σ.tx = true) (hfn : (functionN σ.tx != 0) = true) :
  Calls Tryz.prog 197 #[.pointer (some ⟨b, 0, none⟩), .string σ.tx] w (RPost b s (VTm w.heap.size) (wordedS T s σ) w) := by
 have hlt := h.lt
 have hgl := h.gl.lt
 have h0 := h.alloc Z7
 have hR0 : Blk (w.alloc Z7) w.heap.size 28 z27 := Blk.new w 28 z27
 have K0 : Kept (· = b) w (w.alloc Z7) := (Kept.refl _ _).alloc _
 have zw0 : (w.alloc Z7).heap.size = w.heap.size + 1 := by simp
 have Z0 := Ld zw0
 clear zw0
 go_enter Tryz.func197, Tryz.ntmps197
 go_wp2_with (first | (go_at_call 101; refine cR (keyword_t hkw _) ?_) | (go_at_call 220; refine (function_any _ _).mono ?_; rintro e w' ⟨rfl, rfl⟩))
 cases h_1 : advS s σ with
 | error r =>
  have hq : Hid (wordedS T s σ = .error r) := Ld (by unfold wordedS; simp only [hkw, hfn, h_1])
  refine (adv_err h0 h_1).mono ?_
  rintro e w1 ⟨rfl, k1⟩
  go_wp2_with fail
  exact ⟨rfl, RPost.err hq.out ⟨rfl, K0.trans k1⟩⟩
 | ok σ1 =>
  have i_1 := inv_adv h0.le hk0 h_1
  refine (adv_ok h0 h_1).mono ?_
  rintro e w1 ⟨rfl, p1, k1⟩
  have hR_1 := hR0.kept k1 (by show ¬ w.heap.size = b; omega)
  have K1 := K0.trans k1
  have lb1 := p1.lt
  have zz1 := K1.size
  have zk1 := k1.size
  have lR1 := hR_1.lt
  go_wp2_with fail
  have lo2 := p1.lt
  refine (inside_any hT hI p1 (by omega) kLpar kRpar).mono ?_
  rintro e w2 hr
  cases h_2 : insideS T s kLpar kRpar σ1 with
  | error r =>
   have hq : Hid (wordedS T s σ = .error r) := Ld (by unfold wordedS; simp only [hkw, hfn, h_1, h_2])
   obtain ⟨rfl, k2⟩ := hr.getErr h_2
   clear hr
   go_wp2_with fail
   exact ⟨rfl, RPost.err hq.out ⟨rfl, K1.trans k2⟩⟩
  | ok q2 =>
   obtain ⟨t2, σ2⟩ := q2
   obtain ⟨v, rfl, ⟨tk2, kk2, rfl, at2, ct2⟩, p2, k2⟩ := hr.getOk h_2
   clear hr
   have j_2 := inv_inside hI p1.le h_2
   have i_2 := j_2.1
   try unfold Inv at i_2
   try unfold Inv1 at i_2
   obtain ⟨ta2, tn2, tc2, rfl⟩ := at2.slice
   obtain ⟨ma2, mn2, mc2, rfl⟩ := ct2.slice
   unfold tmVal
   have hR_2 := hR_1.kept k2 (by show ¬ w.heap.size = b; omega)
   have K2 := K1.trans k2
   have lb2 := p2.lt
   have zz2 := K2.size
   have zk2 := k2.size
   have lR2 := hR_2.lt
   have hq : Hid (wordedS T s σ = .ok (nd (functionN σ.tx) [t2], σ2)) := Ld (by unfold wordedS; simp only [hkw, hfn, h_1, h_2])
   have gA : ∀ i, w2.cell? ⟨w.heap.size, i, none⟩ = [Value.int .i64 0, .string ⟨#[]⟩, .int .i64 0, .int .i64 0, .string ⟨#[]⟩, .slice none 0 0, .slice none 0 0][i]? := hR_2.cell
   have fA : ∀ i, w2.frozen? ⟨w.heap.size, i, none⟩ = false := hR_2.frozen
   have l9 : w.heap.size < w2.heap.size := hR_2.lt
   go_wp2_with fail
   refine ret_tm Tryz.results197 hq.out rfl rfl (((r7 hR_2 rfl)).alloc _) ?_ ?_ (((p7w p2 (by omega) (by omega))).alloc _) (((k7w K2 (Or.inr (Nat.le_refl _)))).alloc _)
   ·exact .nil0
   ·exact TmL.one (ty := 28) (by omega) (Nat.le_refl _) (Blk.new' 28 _ (by simp)) (((at2.frame (same7 (R := w.heap.size) (by omega))).frame (Same.alloc _ _)).mono (fun k _ h => by omega)) (((ct2.frame (same7 (R := w.heap.size) (by omega))).frame (Same.alloc _ _)).mono (fun k _ h => by omega))
theorem worded_true {b : Nat} {s : ByteArray} {f : Nat} {T : TF} {w : World} {σ : PS} (hT : TC b s f T) (hI : TInv s T) (h : PW w b s σ) (hf : 14 * mu s σ ≤ f) (hk0 : σ.k ≠ 0) (hkw : keywordB σ.tx = true) (hfn : (functionN σ.tx != 0) = false)  (hi : isS σ kTrue = true) :
  Calls Tryz.prog 197 #[.pointer (some ⟨b, 0, none⟩), .string σ.tx] w (RPost b s (VTm w.heap.size) (wordedS T s σ) w) := by
 have hlt := h.lt
 have hgl := h.gl.lt
 have h0 := h.alloc Z7
 have hR0 : Blk (w.alloc Z7) w.heap.size 28 z27 := Blk.new w 28 z27
 have K0 : Kept (· = b) w (w.alloc Z7) := (Kept.refl _ _).alloc _
 have zw0 : (w.alloc Z7).heap.size = w.heap.size + 1 := by simp
 have Z0 := Ld zw0
 clear zw0
 go_enter Tryz.func197, Tryz.ntmps197
 go_wp2_with (first | (go_at_call 101; refine cR (keyword_t hkw _) ?_) | (go_at_call 220; refine (function_any _ _).mono ?_; rintro e w' ⟨rfl, rfl⟩))
 cases h_1 : advS s σ with
 | error r =>
  have hq : Hid (wordedS T s σ = .error r) := Ld (by unfold wordedS leafS; simp only [hkw, hfn, hi, h_1])
  refine (eat_bad h0 kTrue hi h_1).mono ?_
  rintro e w1 ⟨rfl, k1⟩
  go_wp2_with fail
  exact ⟨rfl, RPost.err hq.out ⟨rfl, K0.trans k1⟩⟩
 | ok σ1 =>
  have i_1 := inv_adv h0.le (isS_ne hi) h_1
  refine (eat_yes h0 kTrue hi h_1).mono ?_
  rintro e w1 ⟨rfl, p1, k1⟩
  have hR_1 := hR0.kept k1 (by show ¬ w.heap.size = b; omega)
  have K1 := K0.trans k1
  have lb1 := p1.lt
  have zz1 := K1.size
  have zk1 := k1.size
  have lR1 := hR_1.lt
  have hq : Hid (wordedS T s σ = .ok (nd 1 [], σ1)) := Ld (by unfold wordedS leafS; simp only [hkw, hfn, hi, h_1])
  have gA : ∀ i, w1.cell? ⟨w.heap.size, i, none⟩ = [Value.int .i64 0, .string ⟨#[]⟩, .int .i64 0, .int .i64 0, .string ⟨#[]⟩, .slice none 0 0, .slice none 0 0][i]? := hR_1.cell
  have fA : ∀ i, w1.frozen? ⟨w.heap.size, i, none⟩ = false := hR_1.frozen
  have l9 : w.heap.size < w1.heap.size := hR_1.lt
  go_wp2_with fail
  refine ret_tm Tryz.results197 hq.out rfl rfl ((r7 hR_1 rfl)) ?_ ?_ ((p7w p1 (by omega) (by omega))) ((k7w K1 (Or.inr (Nat.le_refl _))))
  ·exact .nil0
  ·exact .nil0
theorem worded_false {b : Nat} {s : ByteArray} {f : Nat} {T : TF} {w : World} {σ : PS} (hT : TC b s f T) (hI : TInv s T) (h : PW w b s σ) (hf : 14 * mu s σ ≤ f) (hk0 : σ.k ≠ 0) (hkw : keywordB σ.tx = true) (hfn : (functionN σ.tx != 0) = false) (hn0 : isS σ kTrue = false) (hi : isS σ kFalse = true) :
  Calls Tryz.prog 197 #[.pointer (some ⟨b, 0, none⟩), .string σ.tx] w (RPost b s (VTm w.heap.size) (wordedS T s σ) w) := by
 have hlt := h.lt
 have hgl := h.gl.lt
 have h0 := h.alloc Z7
 have hR0 : Blk (w.alloc Z7) w.heap.size 28 z27 := Blk.new w 28 z27
 have K0 : Kept (· = b) w (w.alloc Z7) := (Kept.refl _ _).alloc _
 have zw0 : (w.alloc Z7).heap.size = w.heap.size + 1 := by simp
 have Z0 := Ld zw0
 clear zw0
 go_enter Tryz.func197, Tryz.ntmps197
 go_wp2_with (first | (go_at_call 101; refine cR (keyword_t hkw _) ?_) | (go_at_call 220; refine (function_any _ _).mono ?_; rintro e w' ⟨rfl, rfl⟩))
 refine (eat_no h0 kTrue hn0).mono ?_
 rintro e w' ⟨rfl, rfl⟩
 go_wp2_with fail
 cases h_1 : advS s σ with
 | error r =>
  have hq : Hid (wordedS T s σ = .error r) := Ld (by unfold wordedS leafS; simp only [hkw, hfn, hn0, hi, h_1])
  refine (eat_bad h0 kFalse hi h_1).mono ?_
  rintro e w1 ⟨rfl, k1⟩
  go_wp2_with fail
  exact ⟨rfl, RPost.err hq.out ⟨rfl, K0.trans k1⟩⟩
 | ok σ1 =>
  have i_1 := inv_adv h0.le (isS_ne hi) h_1
  refine (eat_yes h0 kFalse hi h_1).mono ?_
  rintro e w1 ⟨rfl, p1, k1⟩
  have hR_1 := hR0.kept k1 (by show ¬ w.heap.size = b; omega)
  have K1 := K0.trans k1
  have lb1 := p1.lt
  have zz1 := K1.size
  have zk1 := k1.size
  have lR1 := hR_1.lt
  have hq : Hid (wordedS T s σ = .ok (nd 2 [], σ1)) := Ld (by unfold wordedS leafS; simp only [hkw, hfn, hn0, hi, h_1])
  have gA : ∀ i, w1.cell? ⟨w.heap.size, i, none⟩ = [Value.int .i64 0, .string ⟨#[]⟩, .int .i64 0, .int .i64 0, .string ⟨#[]⟩, .slice none 0 0, .slice none 0 0][i]? := hR_1.cell
  have fA : ∀ i, w1.frozen? ⟨w.heap.size, i, none⟩ = false := hR_1.frozen
  have l9 : w.heap.size < w1.heap.size := hR_1.lt
  go_wp2_with fail
  refine ret_tm Tryz.results197 hq.out rfl rfl ((r7 hR_1 rfl)) ?_ ?_ ((p7w p1 (by omega) (by omega))) ((k7w K1 (Or.inr (Nat.le_refl _))))
  ·exact .nil0
  ·exact .nil0
theorem worded_forall {b : Nat} {s : ByteArray} {f : Nat} {T : TF} {w : World} {σ : PS} (hT : TC b s f T) (hI : TInv s T) (h : PW w b s σ) (hf : 14 * mu s σ ≤ f) (hk0 : σ.k ≠ 0) (hkw : keywordB σ.tx = true) (hfn : (functionN σ.tx != 0) = false) (hn0 : isS σ kTrue = false) (hn1 : isS σ kFalse = false) (hi : isS σ kForall = true) :
  Calls Tryz.prog 197 #[.pointer (some ⟨b, 0, none⟩), .string σ.tx] w (RPost b s (VTm w.heap.size) (wordedS T s σ) w) := by
 have hlt := h.lt
 have hgl := h.gl.lt
 have h0 := h.alloc Z7
 have hR0 : Blk (w.alloc Z7) w.heap.size 28 z27 := Blk.new w 28 z27
 have K0 : Kept (· = b) w (w.alloc Z7) := (Kept.refl _ _).alloc _
 have zw0 : (w.alloc Z7).heap.size = w.heap.size + 1 := by simp
 have Z0 := Ld zw0
 clear zw0
 go_enter Tryz.func197, Tryz.ntmps197
 go_wp2_with (first | (go_at_call 101; refine cR (keyword_t hkw _) ?_) | (go_at_call 220; refine (function_any _ _).mono ?_; rintro e w' ⟨rfl, rfl⟩))
 refine (eat_no h0 kTrue hn0).mono ?_
 rintro e w' ⟨rfl, rfl⟩
 go_wp2_with fail
 refine (eat_no h0 kFalse hn1).mono ?_
 rintro e w' ⟨rfl, rfl⟩
 go_wp2_with fail
 cases h_1 : advS s σ with
 | error r =>
  have hq : Hid (wordedS T s σ = .error r) := Ld (by unfold wordedS binderS; simp only [hkw, hfn, hn0, hn1, hi, h_1])
  refine (eat_bad h0 kForall hi h_1).mono ?_
  rintro e w1 ⟨rfl, k1⟩
  go_wp2_with fail
  exact ⟨rfl, RPost.err hq.out ⟨rfl, K0.trans k1⟩⟩
 | ok σ1 =>
  have i_1 := inv_adv h0.le (isS_ne hi) h_1
  refine (eat_yes h0 kForall hi h_1).mono ?_
  rintro e w1 ⟨rfl, p1, k1⟩
  have hR_1 := hR0.kept k1 (by show ¬ w.heap.size = b; omega)
  have K1 := K0.trans k1
  have lb1 := p1.lt
  have zz1 := K1.size
  have zk1 := k1.size
  have lR1 := hR_1.lt
  go_wp2_with fail
  have lo2 := p1.lt
  refine (bound_any hT hI p1 (by omega) 8).mono ?_
  rintro e w2 hr
  cases h_2 : boundS T s 8 σ1 with
  | error r =>
   have hq : Hid (wordedS T s σ = .error r) := Ld (by unfold wordedS binderS; simp only [hkw, hfn, hn0, hn1, hi, h_1, h_2])
   obtain ⟨rfl, k2⟩ := hr.getErr h_2
   clear hr
   go_wp2_with fail
   exact ⟨rfl, RPost.err hq.out ⟨rfl, K1.trans k2⟩⟩
  | ok q2 =>
   obtain ⟨t2, σ2⟩ := q2
   obtain ⟨v, rfl, ⟨tk2, kk2, rfl, at2, ct2⟩, p2, k2⟩ := hr.getOk h_2
   clear hr
   have j_2 := inv_bound hI (by decide) p1.le h_2
   have i_2 := j_2.1
   try unfold Inv at i_2
   try unfold Inv1 at i_2
   obtain ⟨ta2, tn2, tc2, rfl⟩ := at2.slice
   obtain ⟨ma2, mn2, mc2, rfl⟩ := ct2.slice
   unfold tmVal
   have hR_2 := hR_1.kept k2 (by show ¬ w.heap.size = b; omega)
   have K2 := K1.trans k2
   have lb2 := p2.lt
   have zz2 := K2.size
   have zk2 := k2.size
   have lR2 := hR_2.lt
   have hq : Hid (wordedS T s σ = .ok (t2, σ2)) := Ld (by unfold wordedS binderS; simp only [hkw, hfn, hn0, hn1, hi, h_1, h_2])
   have gA : ∀ i, w2.cell? ⟨w.heap.size, i, none⟩ = [Value.int .i64 0, .string ⟨#[]⟩, .int .i64 0, .int .i64 0, .string ⟨#[]⟩, .slice none 0 0, .slice none 0 0][i]? := hR_2.cell
   have fA : ∀ i, w2.frozen? ⟨w.heap.size, i, none⟩ = false := hR_2.frozen
   have l9 : w.heap.size < w2.heap.size := hR_2.lt
   go_wp2_with fail
   refine ret_tm Tryz.results197 hq.out rfl rfl ((r7 hR_2 rfl)) ?_ ?_ ((p7w p2 (by omega) (by omega))) ((k7w K2 (Or.inr (Nat.le_refl _))))
   ·exact (at2.frame (same7 (R := w.heap.size) (by omega))).mono (fun k _ h => by omega)
   ·exact (ct2.frame (same7 (R := w.heap.size) (by omega))).mono (fun k _ h => by omega)
theorem worded_exists {b : Nat} {s : ByteArray} {f : Nat} {T : TF} {w : World} {σ : PS} (hT : TC b s f T) (hI : TInv s T) (h : PW w b s σ) (hf : 14 * mu s σ ≤ f) (hk0 : σ.k ≠ 0) (hkw : keywordB σ.tx = true) (hfn : (functionN σ.tx != 0) = false) (hn0 : isS σ kTrue = false) (hn1 : isS σ kFalse = false) (hn2 : isS σ kForall = false) (hi : isS σ kExists = true) :
  Calls Tryz.prog 197 #[.pointer (some ⟨b, 0, none⟩), .string σ.tx] w (RPost b s (VTm w.heap.size) (wordedS T s σ) w) := by
 have hlt := h.lt
 have hgl := h.gl.lt
 have h0 := h.alloc Z7
 have hR0 : Blk (w.alloc Z7) w.heap.size 28 z27 := Blk.new w 28 z27
 have K0 : Kept (· = b) w (w.alloc Z7) := (Kept.refl _ _).alloc _
 have zw0 : (w.alloc Z7).heap.size = w.heap.size + 1 := by simp
 have Z0 := Ld zw0
 clear zw0
 go_enter Tryz.func197, Tryz.ntmps197
 go_wp2_with (first | (go_at_call 101; refine cR (keyword_t hkw _) ?_) | (go_at_call 220; refine (function_any _ _).mono ?_; rintro e w' ⟨rfl, rfl⟩))
 refine (eat_no h0 kTrue hn0).mono ?_
 rintro e w' ⟨rfl, rfl⟩
 go_wp2_with fail
 refine (eat_no h0 kFalse hn1).mono ?_
 rintro e w' ⟨rfl, rfl⟩
 go_wp2_with fail
 refine (eat_no h0 kForall hn2).mono ?_
 rintro e w' ⟨rfl, rfl⟩
 go_wp2_with fail
 cases h_1 : advS s σ with
 | error r =>
  have hq : Hid (wordedS T s σ = .error r) := Ld (by unfold wordedS binderS; simp only [hkw, hfn, hn0, hn1, hn2, hi, h_1])
  refine (eat_bad h0 kExists hi h_1).mono ?_
  rintro e w1 ⟨rfl, k1⟩
  go_wp2_with fail
  exact ⟨rfl, RPost.err hq.out ⟨rfl, K0.trans k1⟩⟩
 | ok σ1 =>
  have i_1 := inv_adv h0.le (isS_ne hi) h_1
  refine (eat_yes h0 kExists hi h_1).mono ?_
  rintro e w1 ⟨rfl, p1, k1⟩
  have hR_1 := hR0.kept k1 (by show ¬ w.heap.size = b; omega)
  have K1 := K0.trans k1
  have lb1 := p1.lt
  have zz1 := K1.size
  have zk1 := k1.size
  have lR1 := hR_1.lt
  go_wp2_with fail
  have lo2 := p1.lt
  refine (bound_any hT hI p1 (by omega) 9).mono ?_
  rintro e w2 hr
  cases h_2 : boundS T s 9 σ1 with
  | error r =>
   have hq : Hid (wordedS T s σ = .error r) := Ld (by unfold wordedS binderS; simp only [hkw, hfn, hn0, hn1, hn2, hi, h_1, h_2])
   obtain ⟨rfl, k2⟩ := hr.getErr h_2
   clear hr
   go_wp2_with fail
   exact ⟨rfl, RPost.err hq.out ⟨rfl, K1.trans k2⟩⟩
  | ok q2 =>
   obtain ⟨t2, σ2⟩ := q2
   obtain ⟨v, rfl, ⟨tk2, kk2, rfl, at2, ct2⟩, p2, k2⟩ := hr.getOk h_2
   clear hr
   have j_2 := inv_bound hI (by decide) p1.le h_2
   have i_2 := j_2.1
   try unfold Inv at i_2
   try unfold Inv1 at i_2
   obtain ⟨ta2, tn2, tc2, rfl⟩ := at2.slice
   obtain ⟨ma2, mn2, mc2, rfl⟩ := ct2.slice
   unfold tmVal
   have hR_2 := hR_1.kept k2 (by show ¬ w.heap.size = b; omega)
   have K2 := K1.trans k2
   have lb2 := p2.lt
   have zz2 := K2.size
   have zk2 := k2.size
   have lR2 := hR_2.lt
   have hq : Hid (wordedS T s σ = .ok (t2, σ2)) := Ld (by unfold wordedS binderS; simp only [hkw, hfn, hn0, hn1, hn2, hi, h_1, h_2])
   have gA : ∀ i, w2.cell? ⟨w.heap.size, i, none⟩ = [Value.int .i64 0, .string ⟨#[]⟩, .int .i64 0, .int .i64 0, .string ⟨#[]⟩, .slice none 0 0, .slice none 0 0][i]? := hR_2.cell
   have fA : ∀ i, w2.frozen? ⟨w.heap.size, i, none⟩ = false := hR_2.frozen
   have l9 : w.heap.size < w2.heap.size := hR_2.lt
   go_wp2_with fail
   refine ret_tm Tryz.results197 hq.out rfl rfl ((r7 hR_2 rfl)) ?_ ?_ ((p7w p2 (by omega) (by omega))) ((k7w K2 (Or.inr (Nat.le_refl _))))
   ·exact (at2.frame (same7 (R := w.heap.size) (by omega))).mono (fun k _ h => by omega)
   ·exact (ct2.frame (same7 (R := w.heap.size) (by omega))).mono (fun k _ h => by omega)
theorem worded_funb {b : Nat} {s : ByteArray} {f : Nat} {T : TF} {w : World} {σ : PS} (hT : TC b s f T) (hI : TInv s T) (h : PW w b s σ) (hf : 14 * mu s σ ≤ f) (hk0 : σ.k ≠ 0) (hkw : keywordB σ.tx = true) (hfn : (functionN σ.tx != 0) = false) (hn0 : isS σ kTrue = false) (hn1 : isS σ kFalse = false) (hn2 : isS σ kForall = false) (hn3 : isS σ kExists = false) (hi : isS σ kFun = true) :
  Calls Tryz.prog 197 #[.pointer (some ⟨b, 0, none⟩), .string σ.tx] w (RPost b s (VTm w.heap.size) (wordedS T s σ) w) := by
 have hlt := h.lt
 have hgl := h.gl.lt
 have h0 := h.alloc Z7
 have hR0 : Blk (w.alloc Z7) w.heap.size 28 z27 := Blk.new w 28 z27
 have K0 : Kept (· = b) w (w.alloc Z7) := (Kept.refl _ _).alloc _
 have zw0 : (w.alloc Z7).heap.size = w.heap.size + 1 := by simp
 have Z0 := Ld zw0
 clear zw0
 go_enter Tryz.func197, Tryz.ntmps197
 go_wp2_with (first | (go_at_call 101; refine cR (keyword_t hkw _) ?_) | (go_at_call 220; refine (function_any _ _).mono ?_; rintro e w' ⟨rfl, rfl⟩))
 refine (eat_no h0 kTrue hn0).mono ?_
 rintro e w' ⟨rfl, rfl⟩
 go_wp2_with fail
 refine (eat_no h0 kFalse hn1).mono ?_
 rintro e w' ⟨rfl, rfl⟩
 go_wp2_with fail
 refine (eat_no h0 kForall hn2).mono ?_
 rintro e w' ⟨rfl, rfl⟩
 go_wp2_with fail
 refine (eat_no h0 kExists hn3).mono ?_
 rintro e w' ⟨rfl, rfl⟩
 go_wp2_with fail
 cases h_1 : advS s σ with
 | error r =>
  have hq : Hid (wordedS T s σ = .error r) := Ld (by unfold wordedS binderS; simp only [hkw, hfn, hn0, hn1, hn2, hn3, hi, h_1])
  refine (eat_bad h0 kFun hi h_1).mono ?_
  rintro e w1 ⟨rfl, k1⟩
  go_wp2_with fail
  exact ⟨rfl, RPost.err hq.out ⟨rfl, K0.trans k1⟩⟩
 | ok σ1 =>
  have i_1 := inv_adv h0.le (isS_ne hi) h_1
  refine (eat_yes h0 kFun hi h_1).mono ?_
  rintro e w1 ⟨rfl, p1, k1⟩
  have hR_1 := hR0.kept k1 (by show ¬ w.heap.size = b; omega)
  have K1 := K0.trans k1
  have lb1 := p1.lt
  have zz1 := K1.size
  have zk1 := k1.size
  have lR1 := hR_1.lt
  go_wp2_with fail
  have lo2 := p1.lt
  refine (bound_any hT hI p1 (by omega) 56).mono ?_
  rintro e w2 hr
  cases h_2 : boundS T s 56 σ1 with
  | error r =>
   have hq : Hid (wordedS T s σ = .error r) := Ld (by unfold wordedS binderS; simp only [hkw, hfn, hn0, hn1, hn2, hn3, hi, h_1, h_2])
   obtain ⟨rfl, k2⟩ := hr.getErr h_2
   clear hr
   go_wp2_with fail
   exact ⟨rfl, RPost.err hq.out ⟨rfl, K1.trans k2⟩⟩
  | ok q2 =>
   obtain ⟨t2, σ2⟩ := q2
   obtain ⟨v, rfl, ⟨tk2, kk2, rfl, at2, ct2⟩, p2, k2⟩ := hr.getOk h_2
   clear hr
   have j_2 := inv_bound hI (by decide) p1.le h_2
   have i_2 := j_2.1
   try unfold Inv at i_2
   try unfold Inv1 at i_2
   obtain ⟨ta2, tn2, tc2, rfl⟩ := at2.slice
   obtain ⟨ma2, mn2, mc2, rfl⟩ := ct2.slice
   unfold tmVal
   have hR_2 := hR_1.kept k2 (by show ¬ w.heap.size = b; omega)
   have K2 := K1.trans k2
   have lb2 := p2.lt
   have zz2 := K2.size
   have zk2 := k2.size
   have lR2 := hR_2.lt
   have hq : Hid (wordedS T s σ = .ok (t2, σ2)) := Ld (by unfold wordedS binderS; simp only [hkw, hfn, hn0, hn1, hn2, hn3, hi, h_1, h_2])
   have gA : ∀ i, w2.cell? ⟨w.heap.size, i, none⟩ = [Value.int .i64 0, .string ⟨#[]⟩, .int .i64 0, .int .i64 0, .string ⟨#[]⟩, .slice none 0 0, .slice none 0 0][i]? := hR_2.cell
   have fA : ∀ i, w2.frozen? ⟨w.heap.size, i, none⟩ = false := hR_2.frozen
   have l9 : w.heap.size < w2.heap.size := hR_2.lt
   go_wp2_with fail
   refine ret_tm Tryz.results197 hq.out rfl rfl ((r7 hR_2 rfl)) ?_ ?_ ((p7w p2 (by omega) (by omega))) ((k7w K2 (Or.inr (Nat.le_refl _))))
   ·exact (at2.frame (same7 (R := w.heap.size) (by omega))).mono (fun k _ h => by omega)
   ·exact (ct2.frame (same7 (R := w.heap.size) (by omega))).mono (fun k _ h => by omega)
theorem worded_none {b : Nat} {s : ByteArray} {f : Nat} {T : TF} {w : World} {σ : PS} (hT : TC b s f T) (hI : TInv s T) (h : PW w b s σ) (hf : 14 * mu s σ ≤ f) (hk0 : σ.k ≠ 0) (hkw : keywordB σ.tx = true) (hfn : (functionN σ.tx != 0) = false) (hn0 : isS σ kTrue = false) (hn1 : isS σ kFalse = false) (hn2 : isS σ kForall = false) (hn3 : isS σ kExists = false) (hn4 : isS σ kFun = false) :
  Calls Tryz.prog 197 #[.pointer (some ⟨b, 0, none⟩), .string σ.tx] w (RPost b s (VTm w.heap.size) (wordedS T s σ) w) := by
 have hlt := h.lt
 have hgl := h.gl.lt
 have h0 := h.alloc Z7
 have hR0 : Blk (w.alloc Z7) w.heap.size 28 z27 := Blk.new w 28 z27
 have K0 : Kept (· = b) w (w.alloc Z7) := (Kept.refl _ _).alloc _
 have zw0 : (w.alloc Z7).heap.size = w.heap.size + 1 := by simp
 have Z0 := Ld zw0
 clear zw0
 go_enter Tryz.func197, Tryz.ntmps197
 go_wp2_with (first | (go_at_call 101; refine cR (keyword_t hkw _) ?_) | (go_at_call 220; refine (function_any _ _).mono ?_; rintro e w' ⟨rfl, rfl⟩))
 refine (eat_no h0 kTrue hn0).mono ?_
 rintro e w' ⟨rfl, rfl⟩
 go_wp2_with fail
 refine (eat_no h0 kFalse hn1).mono ?_
 rintro e w' ⟨rfl, rfl⟩
 go_wp2_with fail
 refine (eat_no h0 kForall hn2).mono ?_
 rintro e w' ⟨rfl, rfl⟩
 go_wp2_with fail
 refine (eat_no h0 kExists hn3).mono ?_
 rintro e w' ⟨rfl, rfl⟩
 go_wp2_with fail
 refine (eat_no h0 kFun hn4).mono ?_
 rintro e w' ⟨rfl, rfl⟩
 go_wp2_with fail
 have hq : Hid (wordedS T s σ = .error (false, σ.ta)) := Ld (by unfold wordedS; simp only [hkw, hfn, hn0, hn1, hn2, hn3, hn4])
 refine (fail_any h0).mono ?_
 rintro e w' ⟨rfl, rfl⟩
 go_wp2_with fail
 exact ⟨rfl, RPost.err hq.out ⟨rfl, K0⟩⟩
theorem worded_any {b : Nat} {s : ByteArray} {f : Nat} {T : TF} {w : World} {σ : PS} (hT : TC b s f T) (hI : TInv s T) (h : PW w b s σ) (hf : 14 * mu s σ ≤ f) (hk0 : σ.k ≠ 0) :
  Calls Tryz.prog 197 #[.pointer (some ⟨b, 0, none⟩), .string σ.tx] w (RPost b s (VTm w.heap.size) (wordedS T s σ) w) := by
 cases hkw : keywordB σ.tx
 ·exact worded_name hT hI h hf hk0 hkw
 cases hfn : (functionN σ.tx != 0)
 case true => exact worded_fun hT hI h hf hk0 hkw hfn
 cases hn0 : isS σ kTrue
 case true => exact worded_true hT hI h hf hk0 hkw hfn hn0
 cases hn1 : isS σ kFalse
 case true => exact worded_false hT hI h hf hk0 hkw hfn hn0 hn1
 cases hn2 : isS σ kForall
 case true => exact worded_forall hT hI h hf hk0 hkw hfn hn0 hn1 hn2
 cases hn3 : isS σ kExists
 case true => exact worded_exists hT hI h hf hk0 hkw hfn hn0 hn1 hn2 hn3
 cases hn4 : isS σ kFun
 case true => exact worded_funb hT hI h hf hk0 hkw hfn hn0 hn1 hn2 hn3 hn4
 exact worded_none hT hI h hf hk0 hkw hfn hn0 hn1 hn2 hn3 hn4
theorem atom_num {b : Nat} {s : ByteArray} {f : Nat} {T : TF} {w : World} {σ : PS} (hT : TC b s f T) (hI : TInv s T) (h : PW w b s σ) (hf : 14 * mu s σ ≤ f) (hk2 : (σ.k == 2) = true) :
  Calls Tryz.prog 150 #[.pointer (some ⟨b, 0, none⟩)] w (RPost b s (VTm w.heap.size) (atomS T s σ) w) := by
 have hk0 : σ.k ≠ 0 := by rw [eq_of_beq hk2]; decide
 have HK0 := Ld hk0
 clear hk0
 have hlt := h.lt
 have hgl := h.gl.lt
 have h0 := h.alloc Z7
 have hR0 : Blk (w.alloc Z7) w.heap.size 28 z27 := Blk.new w 28 z27
 have K0 : Kept (· = b) w (w.alloc Z7) := (Kept.refl _ _).alloc _
 have zw0 : (w.alloc Z7).heap.size = w.heap.size + 1 := by simp
 have Z0 := Ld zw0
 clear zw0
 have c2 := h0.kd
 have c3 := h0.txt
 have c4 := h0.num
 have c5 := h0.tat
 have h1 := h0.alloc (.cells #[.int .i64 σ.k, .string σ.tx, .int .i64 σ.n, .int .i64 σ.ta] 151)
 have K1 := K0.alloc (.cells #[.int .i64 σ.k, .string σ.tx, .int .i64 σ.n, .int .i64 σ.ta] 151)
 have hR1 := hR0.alloc (.cells #[.int .i64 σ.k, .string σ.tx, .int .i64 σ.n, .int .i64 σ.ta] 151)
 have hX1 : Blk ((w.alloc Z7).alloc (.cells #[.int .i64 σ.k, .string σ.tx, .int .i64 σ.n, .int .i64 σ.ta] 151)) (w.heap.size + 1) 151 [.int .i64 σ.k, .string σ.tx, .int .i64 σ.n, .int .i64 σ.ta] := Blk.new' 151 _ (by simp)
 have zw1 : ((w.alloc Z7).alloc (.cells #[.int .i64 σ.k, .string σ.tx, .int .i64 σ.n, .int .i64 σ.ta] 151)).heap.size = w.heap.size + 2 := by simp
 have Z1 := Ld zw1
 clear zw1
 go_enter Tryz.func150, Tryz.ntmps150
 go_wp2_with fail
 have hk0 := HK0.out
 cases h_2 : advS s σ with
 | error r =>
  have hq : Hid (atomS T s σ = .error r) := Ld (by unfold atomS leafS; simp only [hk2, h_2])
  refine (adv_err h1 h_2).mono ?_
  rintro e w2 ⟨rfl, k2⟩
  go_wp2_with fail
  exact ⟨rfl, RPost.err hq.out ⟨rfl, K1.trans k2⟩⟩
 | ok σ2 =>
  have i_2 := inv_adv h1.le hk0 h_2
  refine (adv_ok h1 h_2).mono ?_
  rintro e w2 ⟨rfl, p2, k2⟩
  have hR_2 := hR1.kept k2 (by show ¬ w.heap.size = b; omega)
  have hX_2 := hX1.kept k2 (by show ¬ (w.heap.size + 1) = b; omega)
  have K2 := K1.trans k2
  have lb2 := p2.lt
  have zz2 := K2.size
  have zk2 := k2.size
  have lR2 := hR_2.lt
  have lX2 := hX_2.lt
  clear hk0
  have hq : Hid (atomS T s σ = .ok (.mk 19 nil0 σ.n ty0 [], σ2)) := Ld (by unfold atomS leafS; simp only [hk2, h_2])
  have gA : ∀ i, w2.cell? ⟨w.heap.size, i, none⟩ = [Value.int .i64 0, .string ⟨#[]⟩, .int .i64 0, .int .i64 0, .string ⟨#[]⟩, .slice none 0 0, .slice none 0 0][i]? := hR_2.cell
  have fA : ∀ i, w2.frozen? ⟨w.heap.size, i, none⟩ = false := hR_2.frozen
  have l9 : w.heap.size < w2.heap.size := hR_2.lt
  have y2 : w2.cell? ⟨w.heap.size + 1, 2, none⟩ = some (.int .i64 σ.n) := hX_2.cell 2
  go_wp2_with fail
  refine ret_tm Tryz.results150 hq.out rfl rfl ((r7 hR_2 rfl)) ?_ ?_ ((p7w p2 (by omega) (by omega))) ((k7w K2 (Or.inr (Nat.le_refl _))))
  ·exact .nil0
  ·exact .nil0
theorem atom_word {b : Nat} {s : ByteArray} {f : Nat} {T : TF} {w : World} {σ : PS} (hT : TC b s f T) (hI : TInv s T) (h : PW w b s σ) (hf : 14 * mu s σ ≤ f) (hk2 : (σ.k == 2) = false) (hk1 : (σ.k == 1) = true) :
  Calls Tryz.prog 150 #[.pointer (some ⟨b, 0, none⟩)] w (RPost b s (VTm w.heap.size) (atomS T s σ) w) := by
 have hlt := h.lt
 have hgl := h.gl.lt
 have h0 := h.alloc Z7
 have hR0 : Blk (w.alloc Z7) w.heap.size 28 z27 := Blk.new w 28 z27
 have K0 : Kept (· = b) w (w.alloc Z7) := (Kept.refl _ _).alloc _
 have zw0 : (w.alloc Z7).heap.size = w.heap.size + 1 := by simp
 have Z0 := Ld zw0
 clear zw0
 have c2 := h0.kd
 have c3 := h0.txt
 have c4 := h0.num
 have c5 := h0.tat
 have h1 := h0.alloc (.cells #[.int .i64 σ.k, .string σ.tx, .int .i64 σ.n, .int .i64 σ.ta] 151)
 have K1 := K0.alloc (.cells #[.int .i64 σ.k, .string σ.tx, .int .i64 σ.n, .int .i64 σ.ta] 151)
 have hR1 := hR0.alloc (.cells #[.int .i64 σ.k, .string σ.tx, .int .i64 σ.n, .int .i64 σ.ta] 151)
 have hX1 : Blk ((w.alloc Z7).alloc (.cells #[.int .i64 σ.k, .string σ.tx, .int .i64 σ.n, .int .i64 σ.ta] 151)) (w.heap.size + 1) 151 [.int .i64 σ.k, .string σ.tx, .int .i64 σ.n, .int .i64 σ.ta] := Blk.new' 151 _ (by simp)
 have zw1 : ((w.alloc Z7).alloc (.cells #[.int .i64 σ.k, .string σ.tx, .int .i64 σ.n, .int .i64 σ.ta] 151)).heap.size = w.heap.size + 2 := by simp
 have Z1 := Ld zw1
 clear zw1
 go_enter Tryz.func150, Tryz.ntmps150
 go_wp2_with fail
 have zz1 := Z1.out
 have lo2 := h1.lt
 refine (worded_any hT hI h1 hf (by rw [eq_of_beq hk1]; decide)).mono ?_
 rintro e w2 hr
 cases h_2 : wordedS T s σ with
 | error r =>
  have hq : Hid (atomS T s σ = .error r) := Ld (by unfold atomS; simp only [hk2, hk1, h_2])
  obtain ⟨rfl, k2⟩ := hr.getErr h_2
  clear hr
  go_wp2_with fail
  exact ⟨rfl, RPost.err hq.out ⟨rfl, K1.trans k2⟩⟩
 | ok q2 =>
  obtain ⟨t2, σ2⟩ := q2
  obtain ⟨v, rfl, ⟨tk2, kk2, rfl, at2, ct2⟩, p2, k2⟩ := hr.getOk h_2
  clear hr
  have j_2 := inv_worded hI h1.le (by rw [eq_of_beq hk1]; decide) h_2
  have i_2 := j_2.1
  try unfold Inv at i_2
  try unfold Inv1 at i_2
  obtain ⟨ta2, tn2, tc2, rfl⟩ := at2.slice
  obtain ⟨ma2, mn2, mc2, rfl⟩ := ct2.slice
  unfold tmVal
  have hR_2 := hR1.kept k2 (by show ¬ w.heap.size = b; omega)
  have hX_2 := hX1.kept k2 (by show ¬ (w.heap.size + 1) = b; omega)
  have K2 := K1.trans k2
  have lb2 := p2.lt
  have zz2 := K2.size
  have zk2 := k2.size
  have lR2 := hR_2.lt
  have lX2 := hX_2.lt
  have hq : Hid (atomS T s σ = .ok (t2, σ2)) := Ld (by unfold atomS; simp only [hk2, hk1, h_2])
  have gA : ∀ i, w2.cell? ⟨w.heap.size, i, none⟩ = [Value.int .i64 0, .string ⟨#[]⟩, .int .i64 0, .int .i64 0, .string ⟨#[]⟩, .slice none 0 0, .slice none 0 0][i]? := hR_2.cell
  have fA : ∀ i, w2.frozen? ⟨w.heap.size, i, none⟩ = false := hR_2.frozen
  have l9 : w.heap.size < w2.heap.size := hR_2.lt
  clear zz1
  go_wp2_with fail
  have zz1 := Z1.out
  refine ret_tm Tryz.results150 hq.out rfl rfl ((r7 hR_2 rfl)) ?_ ?_ ((p7w p2 (by omega) (by omega))) ((k7w K2 (Or.inr (Nat.le_refl _))))
  ·exact (at2.frame (same7 (R := w.heap.size) (by omega))).mono (fun k _ h => by omega)
  ·exact (ct2.frame (same7 (R := w.heap.size) (by omega))).mono (fun k _ h => by omega)
theorem atom_par {b : Nat} {s : ByteArray} {f : Nat} {T : TF} {w : World} {σ : PS} (hT : TC b s f T) (hI : TInv s T) (h : PW w b s σ) (hf : 14 * mu s σ ≤ f) (hk2 : (σ.k == 2) = false) (hk1 : (σ.k == 1) = false) (hp : isS σ kLpar = true) :
  Calls Tryz.prog 150 #[.pointer (some ⟨b, 0, none⟩)] w (RPost b s (VTm w.heap.size) (atomS T s σ) w) := by
 have hlt := h.lt
 have hgl := h.gl.lt
 have h0 := h.alloc Z7
 have hR0 : Blk (w.alloc Z7) w.heap.size 28 z27 := Blk.new w 28 z27
 have K0 : Kept (· = b) w (w.alloc Z7) := (Kept.refl _ _).alloc _
 have zw0 : (w.alloc Z7).heap.size = w.heap.size + 1 := by simp
 have Z0 := Ld zw0
 clear zw0
 have c2 := h0.kd
 have c3 := h0.txt
 have c4 := h0.num
 have c5 := h0.tat
 have h1 := h0.alloc (.cells #[.int .i64 σ.k, .string σ.tx, .int .i64 σ.n, .int .i64 σ.ta] 151)
 have K1 := K0.alloc (.cells #[.int .i64 σ.k, .string σ.tx, .int .i64 σ.n, .int .i64 σ.ta] 151)
 have hR1 := hR0.alloc (.cells #[.int .i64 σ.k, .string σ.tx, .int .i64 σ.n, .int .i64 σ.ta] 151)
 have hX1 : Blk ((w.alloc Z7).alloc (.cells #[.int .i64 σ.k, .string σ.tx, .int .i64 σ.n, .int .i64 σ.ta] 151)) (w.heap.size + 1) 151 [.int .i64 σ.k, .string σ.tx, .int .i64 σ.n, .int .i64 σ.ta] := Blk.new' 151 _ (by simp)
 have zw1 : ((w.alloc Z7).alloc (.cells #[.int .i64 σ.k, .string σ.tx, .int .i64 σ.n, .int .i64 σ.ta] 151)).heap.size = w.heap.size + 2 := by simp
 have Z1 := Ld zw1
 clear zw1
 go_enter Tryz.func150, Tryz.ntmps150
 go_wp2_with fail
 refine (is_any h1 kLpar hp).mono ?_
 rintro e w' ⟨rfl, rfl⟩
 go_wp2_with fail
 have zz1 := Z1.out
 have lo2 := h1.lt
 refine (inside_any hT hI h1 hf kLpar kRpar).mono ?_
 rintro e w2 hr
 cases h_2 : insideS T s kLpar kRpar σ with
 | error r =>
  have hq : Hid (atomS T s σ = .error r) := Ld (by unfold atomS; simp only [hk2, hk1, hp, h_2])
  obtain ⟨rfl, k2⟩ := hr.getErr h_2
  clear hr
  go_wp2_with fail
  exact ⟨rfl, RPost.err hq.out ⟨rfl, K1.trans k2⟩⟩
 | ok q2 =>
  obtain ⟨t2, σ2⟩ := q2
  obtain ⟨v, rfl, ⟨tk2, kk2, rfl, at2, ct2⟩, p2, k2⟩ := hr.getOk h_2
  clear hr
  have j_2 := inv_inside hI h1.le h_2
  have i_2 := j_2.1
  try unfold Inv at i_2
  try unfold Inv1 at i_2
  obtain ⟨ta2, tn2, tc2, rfl⟩ := at2.slice
  obtain ⟨ma2, mn2, mc2, rfl⟩ := ct2.slice
  unfold tmVal
  have hR_2 := hR1.kept k2 (by show ¬ w.heap.size = b; omega)
  have hX_2 := hX1.kept k2 (by show ¬ (w.heap.size + 1) = b; omega)
  have K2 := K1.trans k2
  have lb2 := p2.lt
  have zz2 := K2.size
  have zk2 := k2.size
  have lR2 := hR_2.lt
  have lX2 := hX_2.lt
  have hq : Hid (atomS T s σ = .ok (t2, σ2)) := Ld (by unfold atomS; simp only [hk2, hk1, hp, h_2])
  have gA : ∀ i, w2.cell? ⟨w.heap.size, i, none⟩ = [Value.int .i64 0, .string ⟨#[]⟩, .int .i64 0, .int .i64 0, .string ⟨#[]⟩, .slice none 0 0, .slice none 0 0][i]? := hR_2.cell
  have fA : ∀ i, w2.frozen? ⟨w.heap.size, i, none⟩ = false := hR_2.frozen
  have l9 : w.heap.size < w2.heap.size := hR_2.lt
  clear zz1
  go_wp2_with fail
  have zz1 := Z1.out
  refine ret_tm Tryz.results150 hq.out rfl rfl ((r7 hR_2 rfl)) ?_ ?_ ((p7w p2 (by omega) (by omega))) ((k7w K2 (Or.inr (Nat.le_refl _))))
  ·exact (at2.frame (same7 (R := w.heap.size) (by omega))).mono (fun k _ h => by omega)
  ·exact (ct2.frame (same7 (R := w.heap.size) (by omega))).mono (fun k _ h => by omega)
theorem atom_cur {b : Nat} {s : ByteArray} {f : Nat} {T : TF} {w : World} {σ : PS} (hT : TC b s f T) (hI : TInv s T) (h : PW w b s σ) (hf : 14 * mu s σ ≤ f) (hS : TSm 65536 s T) (hk2 : (σ.k == 2) = false) (hk1 : (σ.k == 1) = false) (hp : isS σ kLpar = false) (hc : isS σ kLcu = true) :
  Calls Tryz.prog 150 #[.pointer (some ⟨b, 0, none⟩)] w (RPost b s (VTm w.heap.size) (atomS T s σ) w) := by
 have hlt := h.lt
 have hgl := h.gl.lt
 have h0 := h.alloc Z7
 have hR0 : Blk (w.alloc Z7) w.heap.size 28 z27 := Blk.new w 28 z27
 have K0 : Kept (· = b) w (w.alloc Z7) := (Kept.refl _ _).alloc _
 have zw0 : (w.alloc Z7).heap.size = w.heap.size + 1 := by simp
 have Z0 := Ld zw0
 clear zw0
 have c2 := h0.kd
 have c3 := h0.txt
 have c4 := h0.num
 have c5 := h0.tat
 have h1 := h0.alloc (.cells #[.int .i64 σ.k, .string σ.tx, .int .i64 σ.n, .int .i64 σ.ta] 151)
 have K1 := K0.alloc (.cells #[.int .i64 σ.k, .string σ.tx, .int .i64 σ.n, .int .i64 σ.ta] 151)
 have hR1 := hR0.alloc (.cells #[.int .i64 σ.k, .string σ.tx, .int .i64 σ.n, .int .i64 σ.ta] 151)
 have hX1 : Blk ((w.alloc Z7).alloc (.cells #[.int .i64 σ.k, .string σ.tx, .int .i64 σ.n, .int .i64 σ.ta] 151)) (w.heap.size + 1) 151 [.int .i64 σ.k, .string σ.tx, .int .i64 σ.n, .int .i64 σ.ta] := Blk.new' 151 _ (by simp)
 have zw1 : ((w.alloc Z7).alloc (.cells #[.int .i64 σ.k, .string σ.tx, .int .i64 σ.n, .int .i64 σ.ta] 151)).heap.size = w.heap.size + 2 := by simp
 have Z1 := Ld zw1
 clear zw1
 go_enter Tryz.func150, Tryz.ntmps150
 go_wp2_with fail
 refine (is_any h1 kLpar hp).mono ?_
 rintro e w' ⟨rfl, rfl⟩
 go_wp2_with fail
 refine (is_any h1 kLcu hc).mono ?_
 rintro e w' ⟨rfl, rfl⟩
 go_wp2_with fail
 have zz1 := Z1.out
 have lo2 := h1.lt
 refine (braces_any hT hI h1 hf hS).mono ?_
 rintro e w2 hr
 cases h_2 : bracesS T s σ with
 | error r =>
  have hq : Hid (atomS T s σ = .error r) := Ld (by unfold atomS; simp only [hk2, hk1, hp, hc, h_2])
  obtain ⟨rfl, k2⟩ := hr.getErr h_2
  clear hr
  go_wp2_with fail
  exact ⟨rfl, RPost.err hq.out ⟨rfl, K1.trans k2⟩⟩
 | ok q2 =>
  obtain ⟨t2, σ2⟩ := q2
  obtain ⟨v, rfl, ⟨tk2, kk2, rfl, at2, ct2⟩, p2, k2⟩ := hr.getOk h_2
  clear hr
  have j_2 := inv_braces hI h1.le h_2
  have i_2 := j_2.1
  try unfold Inv at i_2
  try unfold Inv1 at i_2
  obtain ⟨ta2, tn2, tc2, rfl⟩ := at2.slice
  obtain ⟨ma2, mn2, mc2, rfl⟩ := ct2.slice
  unfold tmVal
  have hR_2 := hR1.kept k2 (by show ¬ w.heap.size = b; omega)
  have hX_2 := hX1.kept k2 (by show ¬ (w.heap.size + 1) = b; omega)
  have K2 := K1.trans k2
  have lb2 := p2.lt
  have zz2 := K2.size
  have zk2 := k2.size
  have lR2 := hR_2.lt
  have lX2 := hX_2.lt
  have hq : Hid (atomS T s σ = .ok (t2, σ2)) := Ld (by unfold atomS; simp only [hk2, hk1, hp, hc, h_2])
  have gA : ∀ i, w2.cell? ⟨w.heap.size, i, none⟩ = [Value.int .i64 0, .string ⟨#[]⟩, .int .i64 0, .int .i64 0, .string ⟨#[]⟩, .slice none 0 0, .slice none 0 0][i]? := hR_2.cell
  have fA : ∀ i, w2.frozen? ⟨w.heap.size, i, none⟩ = false := hR_2.frozen
  have l9 : w.heap.size < w2.heap.size := hR_2.lt
  clear zz1
  go_wp2_with fail
  have zz1 := Z1.out
  refine ret_tm Tryz.results150 hq.out rfl rfl ((r7 hR_2 rfl)) ?_ ?_ ((p7w p2 (by omega) (by omega))) ((k7w K2 (Or.inr (Nat.le_refl _))))
  ·exact (at2.frame (same7 (R := w.heap.size) (by omega))).mono (fun k _ h => by omega)
  ·exact (ct2.frame (same7 (R := w.heap.size) (by omega))).mono (fun k _ h => by omega)
theorem atom_none {b : Nat} {s : ByteArray} {f : Nat} {T : TF} {w : World} {σ : PS} (hT : TC b s f T) (hI : TInv s T) (h : PW w b s σ) (hf : 14 * mu s σ ≤ f) (hk2 : (σ.k == 2) = false) (hk1 : (σ.k == 1) = false) (hp : isS σ kLpar = false) (hc : isS σ kLcu = false) :
  Calls Tryz.prog 150 #[.pointer (some ⟨b, 0, none⟩)] w (RPost b s (VTm w.heap.size) (atomS T s σ) w) := by
 have hlt := h.lt
 have hgl := h.gl.lt
 have h0 := h.alloc Z7
 have hR0 : Blk (w.alloc Z7) w.heap.size 28 z27 := Blk.new w 28 z27
 have K0 : Kept (· = b) w (w.alloc Z7) := (Kept.refl _ _).alloc _
 have zw0 : (w.alloc Z7).heap.size = w.heap.size + 1 := by simp
 have Z0 := Ld zw0
 clear zw0
 have c2 := h0.kd
 have c3 := h0.txt
 have c4 := h0.num
 have c5 := h0.tat
 have h1 := h0.alloc (.cells #[.int .i64 σ.k, .string σ.tx, .int .i64 σ.n, .int .i64 σ.ta] 151)
 have K1 := K0.alloc (.cells #[.int .i64 σ.k, .string σ.tx, .int .i64 σ.n, .int .i64 σ.ta] 151)
 have hR1 := hR0.alloc (.cells #[.int .i64 σ.k, .string σ.tx, .int .i64 σ.n, .int .i64 σ.ta] 151)
 have hX1 : Blk ((w.alloc Z7).alloc (.cells #[.int .i64 σ.k, .string σ.tx, .int .i64 σ.n, .int .i64 σ.ta] 151)) (w.heap.size + 1) 151 [.int .i64 σ.k, .string σ.tx, .int .i64 σ.n, .int .i64 σ.ta] := Blk.new' 151 _ (by simp)
 have zw1 : ((w.alloc Z7).alloc (.cells #[.int .i64 σ.k, .string σ.tx, .int .i64 σ.n, .int .i64 σ.ta] 151)).heap.size = w.heap.size + 2 := by simp
 have Z1 := Ld zw1
 clear zw1
 go_enter Tryz.func150, Tryz.ntmps150
 go_wp2_with fail
 refine (is_any h1 kLpar hp).mono ?_
 rintro e w' ⟨rfl, rfl⟩
 go_wp2_with fail
 refine (is_any h1 kLcu hc).mono ?_
 rintro e w' ⟨rfl, rfl⟩
 go_wp2_with fail
 have hq : Hid (atomS T s σ = .error (false, σ.ta)) := Ld (by unfold atomS; simp only [hk2, hk1, hp, hc])
 refine (fail_any h1).mono ?_
 rintro e w' ⟨rfl, rfl⟩
 go_wp2_with fail
 exact ⟨rfl, RPost.err hq.out ⟨rfl, K1⟩⟩
theorem atom_any {b : Nat} {s : ByteArray} {f : Nat} {T : TF} {w : World} {σ : PS} (hT : TC b s f T) (hI : TInv s T) (h : PW w b s σ) (hf : 14 * mu s σ ≤ f) (hS : TSm 65536 s T) :
  Calls Tryz.prog 150 #[.pointer (some ⟨b, 0, none⟩)] w (RPost b s (VTm w.heap.size) (atomS T s σ) w) := by
 cases hk2 : (σ.k == 2)
 case true => exact atom_num hT hI h hf hk2
 cases hk1 : (σ.k == 1)
 case true => exact atom_word hT hI h hf hk2 hk1
 cases hp : isS σ kLpar
 case true => exact atom_par hT hI h hf hk2 hk1 hp
 cases hc : isS σ kLcu
 case true => exact atom_cur hT hI h hf hS hk2 hk1 hp hc
 exact atom_none hT hI h hf hk2 hk1 hp hc
structure Ext (s s' : ByteArray) : Prop where
 lt : s.size < s'.size
 get : ∀ (p : Nat) (h : p < s.size) (h' : p < s'.size), s'[p] = s[p]
 sep : s'[s.size]'lt = 32
 pre : ∃ m, s'.data.toList = s.data.toList ++ (32 :: m)
theorem Ext.scan {s s' : ByteArray} (h : Ext s s') {P : Int → Bool} (hP : P 32 = false) (p : Nat) (hp : p ≤ s.size) : scan P s' p = scan P s p := by
 generalize hn : s.size - p = n
 induction n generalizing p with
 | zero =>
  have : p = s.size := by omega
  subst this
  rw [scan_end P s _ (Nat.le_refl _), scan_no P s' _ h.lt (by rw [h.sep]; exact hP)]
 | succ n ih =>
  have h1 : p < s.size := by omega
  have h2 : p < s'.size := Nat.lt_trans h1 h.lt
  have e := h.get p h1 h2
  cases hc : P s[p].toNat
  ·rw [scan_no P s p h1 hc, scan_no P s' p h2 (by rw [e]; exact hc)]
  ·rw [scan_yes P s p h1 hc, scan_yes P s' p h2 (by rw [e]; exact hc), ih (p + 1) (by omega) (by omega)]
theorem Ext.wend {s s' : ByteArray} (h : Ext s s') (p : Nat) (hp : p ≤ s.size) : wend s' p = wend s p := h.scan (by decide) p hp
theorem Ext.skip {s s' : ByteArray} (h : Ext s s') (p : Nat) (hp : p ≤ s.size) (hs : skip s p < s.size) : skip s' p = skip s p := by
 generalize hn : s.size - p = n
 induction n generalizing p with
 | zero =>
  have : p = s.size := by omega
  subst this
  unfold Go.Proofs.YtfhedienjnfdcaaGreatDoor.skip at hs
  rw [scan_end _ s _ (Nat.le_refl _)] at hs; omega
 | succ n ih =>
  have h1 : p < s.size := by omega
  have h2 : p < s'.size := Nat.lt_trans h1 h.lt
  have e := h.get p h1 h2
  unfold Go.Proofs.YtfhedienjnfdcaaGreatDoor.skip at *
  cases hc : blankB s[p].toNat
  ·rw [scan_no blankB s p h1 hc, scan_no blankB s' p h2 (by rw [e]; exact hc)]
  ·rw [scan_yes blankB s p h1 hc] at hs
   rw [scan_yes blankB s p h1 hc, scan_yes blankB s' p h2 (by rw [e]; exact hc), ih (p + 1) (by omega) hs (by omega)]
theorem ba_ext {a b : ByteArray} (h : a.data.toList = b.data.toList) : a = b := by
 obtain ⟨⟨a⟩⟩ := a; obtain ⟨⟨b⟩⟩ := b; simp at h; subst h; rfl
theorem ext_list (s : ByteArray) (a c : Nat) : (s.extract a c).data.toList = (s.data.toList.take c).drop a := by
 rw [ByteArray.data_extract]; simp [List.extract_eq_take_drop, List.take_drop]
 by_cases h : a ≤ c
 ·rw [show a + (c - a) = c by omega]
 ·rw [show a + (c - a) = a by omega, List.drop_eq_nil_of_le (by simp; omega), List.drop_eq_nil_of_le (by simp; omega)]
theorem Ext.extract {s s' : ByteArray} (h : Ext s s') (a c : Nat) (hc : c ≤ s.size) : s'.extract a c = s.extract a c := by
 obtain ⟨m, hm⟩ := h.pre
 apply ba_ext
 rw [ext_list, ext_list, hm, List.take_append_of_le_length (by simpa using hc)]
theorem pre_ext (l m x : List UInt8) (hx : 32 ∉ x) : Lib.hasPrefix (l ++ (32 :: m)) x = Lib.hasPrefix l x := by
 unfold Lib.hasPrefix
 induction x generalizing l with
 | nil => cases l <;> rfl
 | cons c x ih =>
  cases l with
  | nil =>
   have : (c == 32) = false := beq_false_of_ne (fun e => hx (by simp [e]))
   show ((c == 32) && x.isPrefixOf m) = false
   rw [this]; rfl
  | cons d l =>
   have := ih l (fun h => hx (List.mem_cons_of_mem _ h))
   show ((c == d) && x.isPrefixOf (l ++ 32 :: m)) = ((c == d) && x.isPrefixOf l)
   rw [this]
theorem signs_no : ∀ x ∈ signs, (32 : UInt8) ∉ x.data.toList := by decide
theorem sIdx_ext (l m : List UInt8) (xs : List ByteArray) (hx : ∀ x ∈ xs, (32 : UInt8) ∉ x.data.toList) : sIdx (l ++ (32 :: m)) xs = sIdx l xs := by
 unfold sIdx
 have : xs.findIdx? (fun x => Lib.hasPrefix (l ++ (32 :: m)) x.data.toList) = xs.findIdx? (fun x => Lib.hasPrefix l x.data.toList) := by
  induction xs with
  | nil => rfl
  | cons x xs ih =>
   rw [List.findIdx?_cons, List.findIdx?_cons, pre_ext l m _ (hx x (by simp)), ih (fun y hy => hx y (by simp [hy]))]
 rw [this]
theorem Ext.sIdx {s s' : ByteArray} (h : Ext s s') (fr : Nat) (hf : fr ≤ s.size) : sIdx (s'.data.toList.drop fr) signs = sIdx (s.data.toList.drop fr) signs := by
 obtain ⟨m, hm⟩ := h.pre
 rw [hm, List.drop_append_of_le_length (by simpa using hf)]
 exact sIdx_ext _ _ _ signs_no
theorem Ext.wordTo {s s' : ByteArray} (h : Ext s s') (fr : Nat) (hf : fr ≤ s.size) : wordTo s' fr = wordTo s fr := by
 have hw := h.wend fr hf
 have hl := (scan_spec inWordB s fr hf).2.1
 unfold Go.Proofs.YtfhedienjnfdcaaGreatDoor.wordTo
 rw [hw, h.extract fr (Go.Proofs.YtfhedienjnfdcaaGreatDoor.wend s fr) hl]
 split
 ·rfl
 ·have h2 : Go.Proofs.YtfhedienjnfdcaaGreatDoor.wend s fr < s'.size := Nat.lt_of_le_of_lt hl h.lt
  rw [dif_pos h2]
  by_cases hc : Go.Proofs.YtfhedienjnfdcaaGreatDoor.wend s fr < s.size
  ·rw [dif_pos hc, h.get _ hc h2]
  ·rw [dif_neg hc]
   have e : ∀ (r : Nat) (hr : r < s'.size), r = s.size → s'[r].toNat ≠ 39 := by
    intro r hr e; subst e; rw [h.sep]; decide
   rw [if_neg (e _ h2 (Nat.le_antisymm hl (Nat.le_of_not_lt hc)))]
theorem Ext.tokAt {s s' : ByteArray} (h : Ext s s') (fr : Nat) (hf : fr < s.size) : tokAt s' fr = tokAt s fr := by
 have h2 : fr < s'.size := Nat.lt_trans hf h.lt
 unfold Go.Proofs.YtfhedienjnfdcaaGreatDoor.tokAt
 rw [dif_pos hf, dif_pos h2, h.get fr hf h2, h.wend fr (by omega), h.wordTo fr (by omega), h.sIdx fr (by omega), h.extract fr (Go.Proofs.YtfhedienjnfdcaaGreatDoor.wend s fr) (scan_spec inWordB s fr (by omega)).2.1, h.extract fr _ (wordTo_le s fr (by omega))]
 split
 ·rfl
 ·split
  ·rfl
  ·split
   ·rfl
   ·rename_i hi; rw [h.extract fr _ (sign_le s fr (by omega) hi)]
def bP {β : Type} (q : Except ER PS) (k : PS → Except ER β) : Except ER β := match q with | .error r => .error r | .ok σ => k σ
def bT {α β : Type} (q : Except ER (α × PS)) (k : α → PS → Except ER β) : Except ER β := match q with | .error r => .error r | .ok (a, σ) => k a σ
section
variable {α β : Type} {s s' : ByteArray}
end
section
variable {s s' : ByteArray} {T T' : TF} {f : Nat}
end
theorem termn_eq (f : Nat) (s : ByteArray) (n : Nat) (σ : PS) (h5 : n ≠ 5) (h13 : n ≠ 13) : termS (f + 1) s n σ = bT (termS f s (n + 1) σ) fun t σ1 => restS (termS f s) s n (s.size + 2) t σ1 := by
 rw [termS]; simp only [beq_false_of_ne h5, beq_false_of_ne h13]
 unfold bT
 cases termS f s (n + 1) σ <;> rfl
def ps0 : PS := ⟨0, 0, nil0, 0, 0, 0⟩
theorem term_ln {n : Nat} (hv : lvOK n) {b : Nat} {s : ByteArray} {f : Nat} {w : World} {σ : PS} (hT : TC b s f (termS f s)) (h : PW w b s σ) (hf : 14 * mu s σ + (14 - n) < f + 1) :
  Calls Tryz.prog 94 #[.pointer (some ⟨b, 0, none⟩), .int .i64 n] w (RPost b s (VTm w.heap.size) (termS (f + 1) s n σ) w) := by
 have hv2 : 1 ≤ n ∧ n ≤ 12 ∧ n ≠ 5 := by unfold lvOK at hv; omega
 obtain ⟨v1, v12, v5⟩ := hv2
 have i5 : ((n : Int) == 5) = false := by rw [beq_eq_false_iff_ne]; omega
 have i13 : ((n : Int) == 13) = false := by rw [beq_eq_false_iff_ne]; omega
 have HE := Ld (termn_eq f s n σ v5 (by omega))
 have HV := Ld hv
 clear hv
 have hI := inv_term f s
 have HI := Ld hI
 clear hI
 have hlt := h.lt
 have hgl := h.gl.lt
 have h0 := h.alloc Z7
 have hR0 : Blk (w.alloc Z7) w.heap.size 28 z27 := Blk.new w 28 z27
 have K0 : Kept (· = b) w (w.alloc Z7) := (Kept.refl _ _).alloc _
 have zw0 : (w.alloc Z7).heap.size = w.heap.size + 1 := by simp
 have Z0 := Ld zw0
 clear zw0
 go_enter Tryz.func94, Tryz.ntmps94
 go_wp2_with fail
 have lo1 := h0.lt
 have zz0 := Z0.out
 refine (hT (n + 1) _ (by omega) σ _ (by omega) (by omega) h0 (by omega)).mono ?_
 clear zz0
 rintro e w1 hr
 cases h_1 : termS f s (n + 1) σ with
 | error r =>
  have hq : Hid (termS (f + 1) s n σ = .error r) := Ld (by rw [HE.out, h_1]; rfl)
  obtain ⟨rfl, k1⟩ := hr.getErr h_1
  clear hr
  go_wp2_with fail
  exact ⟨rfl, RPost.err hq.out ⟨rfl, K0.trans k1⟩⟩
 | ok q1 =>
  obtain ⟨t1, σ1⟩ := q1
  obtain ⟨v, rfl, ⟨tk1, kk1, rfl, at1, ct1⟩, p1, k1⟩ := hr.getOk h_1
  clear hr
  have j_1 := HI.out _ _ _ _ h0.le h_1
  have i_1 := j_1.1
  try unfold Inv at i_1
  try unfold Inv1 at i_1
  obtain ⟨ta1, tn1, tc1, rfl⟩ := at1.slice
  obtain ⟨ma1, mn1, mc1, rfl⟩ := ct1.slice
  unfold tmVal
  have hR_1 := hR0.kept k1 (by show ¬ w.heap.size = b; omega)
  have K1 := K0.trans k1
  have lb1 := p1.lt
  have zz1 := K1.size
  have zk1 := k1.size
  have lR1 := hR_1.lt
  have h0_1 := p1.alloc (.cells #[.int .i64 t1.op, .string t1.name, .int .i64 t1.n, .int .i64 t1.ty.kind, .string t1.ty.name, .slice ta1 tn1 tc1, .slice ma1 mn1 mc1] 28)
  have K0_1 := K1.alloc (.cells #[.int .i64 t1.op, .string t1.name, .int .i64 t1.n, .int .i64 t1.ty.kind, .string t1.ty.name, .slice ta1 tn1 tc1, .slice ma1 mn1 mc1] 28)
  have hxR_1 := hR_1.alloc (.cells #[.int .i64 t1.op, .string t1.name, .int .i64 t1.n, .int .i64 t1.ty.kind, .string t1.ty.name, .slice ta1 tn1 tc1, .slice ma1 mn1 mc1] 28)
  have hLt1_1 : Blk (w1.alloc (.cells #[.int .i64 t1.op, .string t1.name, .int .i64 t1.n, .int .i64 t1.ty.kind, .string t1.ty.name, .slice ta1 tn1 tc1, .slice ma1 mn1 mc1] 28)) w1.heap.size 28 (tmCells t1 (.slice ta1 tn1 tc1) (.slice ma1 mn1 mc1)) := Blk.new w1 28 _
  have axt1_1 := at1.frame (Same.alloc _ (.cells #[.int .i64 t1.op, .string t1.name, .int .i64 t1.n, .int .i64 t1.ty.kind, .string t1.ty.name, .slice ta1 tn1 tc1, .slice ma1 mn1 mc1] 28))
  have cxt1_1 := ct1.frame (Same.alloc _ (.cells #[.int .i64 t1.op, .string t1.name, .int .i64 t1.n, .int .i64 t1.ty.kind, .string t1.ty.name, .slice ta1 tn1 tc1, .slice ma1 mn1 mc1] 28))
  have zw1 : (w1.alloc (.cells #[.int .i64 t1.op, .string t1.name, .int .i64 t1.n, .int .i64 t1.ty.kind, .string t1.ty.name, .slice ta1 tn1 tc1, .slice ma1 mn1 mc1] 28)).heap.size = w1.heap.size + 1 := by simp
  have Z1 := Ld zw1
  clear zw1
  go_wp2_with fail
  have zz0 := Z0.out
  have lo2 := h0_1.lt
  refine (rest_any hT HI.out h0_1 (by omega) (n := n) HV.out t1 ta1 tn1 tc1 ma1 mn1 mc1 (w.alloc Z7).heap.size (by omega) (by have := Z1.out; omega) axt1_1 cxt1_1).mono ?_
  rintro e w2 hr
  cases h_2 : restS (termS f s) s n (s.size + 2) t1 σ1 with
  | error r =>
   have hq : Hid (termS (f + 1) s n σ = .error r) := Ld (by rw [HE.out, h_1]; exact h_2)
   obtain ⟨rfl, k2⟩ := hr.getErr h_2
   clear hr
   go_wp2_with fail
   exact ⟨rfl, RPost.err hq.out ⟨rfl, K0_1.trans k2⟩⟩
  | ok q2 =>
   obtain ⟨t2, σ2⟩ := q2
   obtain ⟨v, rfl, ⟨tk2, kk2, rfl, at2, ct2⟩, p2, k2⟩ := hr.getOk h_2
   clear hr
   have j_2 := inv_rest HI.out _ j_1.2 h0_1.le h_2
   have i_2 := j_2.1
   try unfold Inv at i_2
   try unfold Inv1 at i_2
   obtain ⟨ta2, tn2, tc2, rfl⟩ := at2.slice
   obtain ⟨ma2, mn2, mc2, rfl⟩ := ct2.slice
   unfold tmVal
   have hR_2 := hxR_1.kept k2 (by show ¬ w.heap.size = b; omega)
   have hLt1_2 := hLt1_1.kept k2 (by show ¬ w1.heap.size = b; omega)
   have at1_2 := axt1_1.frame (Same.of_kept k2 (fun k h e => by omega))
   have ct1_2 := cxt1_1.frame (Same.of_kept k2 (fun k h e => by omega))
   have K2 := K0_1.trans k2
   have lb2 := p2.lt
   have zz2 := K2.size
   have zk2 := k2.size
   have lR2 := hR_2.lt
   have lLt12 := hLt1_2.lt
   have hq : Hid (termS (f + 1) s n σ = .ok (t2, σ2)) := Ld (by rw [HE.out, h_1]; exact h_2)
   have gA : ∀ i, w2.cell? ⟨w.heap.size, i, none⟩ = [Value.int .i64 0, .string ⟨#[]⟩, .int .i64 0, .int .i64 0, .string ⟨#[]⟩, .slice none 0 0, .slice none 0 0][i]? := hR_2.cell
   have fA : ∀ i, w2.frozen? ⟨w.heap.size, i, none⟩ = false := hR_2.frozen
   have yt1A : ∀ i, w2.cell? ⟨w1.heap.size, i, none⟩ = [Value.int .i64 t1.op, .string t1.name, .int .i64 t1.n, .int .i64 t1.ty.kind, .string t1.ty.name, .slice ta1 tn1 tc1, .slice ma1 mn1 mc1][i]? := hLt1_2.cell
   have l9 : w.heap.size < w2.heap.size := hR_2.lt
   clear zz0
   go_wp2_with fail
   have zz0 := Z0.out
   refine ret_tm Tryz.results94 hq.out rfl rfl ((r7 hR_2 rfl)) ?_ ?_ ((p7w p2 (by omega) (by omega))) ((k7w K2 (Or.inr (Nat.le_refl _))))
   ·exact (at2.frame (same7 (R := w.heap.size) (by omega))).mono (fun k _ h => by omega)
   ·exact (ct2.frame (same7 (R := w.heap.size) (by omega))).mono (fun k _ h => by omega)
theorem term_l1 {b : Nat} {s : ByteArray} {f : Nat} {w : World} {σ : PS} (hT : TC b s f (termS f s)) (h : PW w b s σ) (hf : 14 * mu s σ + (14 - 1) < f + 1) :
  Calls Tryz.prog 94 #[.pointer (some ⟨b, 0, none⟩), .int .i64 1] w (RPost b s (VTm w.heap.size) (termS (f + 1) s 1 σ) w) := term_ln (n := 1) (by unfold lvOK; omega) hT h hf
theorem term_l2 {b : Nat} {s : ByteArray} {f : Nat} {w : World} {σ : PS} (hT : TC b s f (termS f s)) (h : PW w b s σ) (hf : 14 * mu s σ + (14 - 2) < f + 1) :
  Calls Tryz.prog 94 #[.pointer (some ⟨b, 0, none⟩), .int .i64 2] w (RPost b s (VTm w.heap.size) (termS (f + 1) s 2 σ) w) := term_ln (n := 2) (by unfold lvOK; omega) hT h hf
theorem term_l3 {b : Nat} {s : ByteArray} {f : Nat} {w : World} {σ : PS} (hT : TC b s f (termS f s)) (h : PW w b s σ) (hf : 14 * mu s σ + (14 - 3) < f + 1) :
  Calls Tryz.prog 94 #[.pointer (some ⟨b, 0, none⟩), .int .i64 3] w (RPost b s (VTm w.heap.size) (termS (f + 1) s 3 σ) w) := term_ln (n := 3) (by unfold lvOK; omega) hT h hf
theorem term_l4 {b : Nat} {s : ByteArray} {f : Nat} {w : World} {σ : PS} (hT : TC b s f (termS f s)) (h : PW w b s σ) (hf : 14 * mu s σ + (14 - 4) < f + 1) :
  Calls Tryz.prog 94 #[.pointer (some ⟨b, 0, none⟩), .int .i64 4] w (RPost b s (VTm w.heap.size) (termS (f + 1) s 4 σ) w) := term_ln (n := 4) (by unfold lvOK; omega) hT h hf
theorem term_l6 {b : Nat} {s : ByteArray} {f : Nat} {w : World} {σ : PS} (hT : TC b s f (termS f s)) (h : PW w b s σ) (hf : 14 * mu s σ + (14 - 6) < f + 1) :
  Calls Tryz.prog 94 #[.pointer (some ⟨b, 0, none⟩), .int .i64 6] w (RPost b s (VTm w.heap.size) (termS (f + 1) s 6 σ) w) := term_ln (n := 6) (by unfold lvOK; omega) hT h hf
theorem term_l7 {b : Nat} {s : ByteArray} {f : Nat} {w : World} {σ : PS} (hT : TC b s f (termS f s)) (h : PW w b s σ) (hf : 14 * mu s σ + (14 - 7) < f + 1) :
  Calls Tryz.prog 94 #[.pointer (some ⟨b, 0, none⟩), .int .i64 7] w (RPost b s (VTm w.heap.size) (termS (f + 1) s 7 σ) w) := term_ln (n := 7) (by unfold lvOK; omega) hT h hf
theorem term_l8 {b : Nat} {s : ByteArray} {f : Nat} {w : World} {σ : PS} (hT : TC b s f (termS f s)) (h : PW w b s σ) (hf : 14 * mu s σ + (14 - 8) < f + 1) :
  Calls Tryz.prog 94 #[.pointer (some ⟨b, 0, none⟩), .int .i64 8] w (RPost b s (VTm w.heap.size) (termS (f + 1) s 8 σ) w) := term_ln (n := 8) (by unfold lvOK; omega) hT h hf
theorem term_l9 {b : Nat} {s : ByteArray} {f : Nat} {w : World} {σ : PS} (hT : TC b s f (termS f s)) (h : PW w b s σ) (hf : 14 * mu s σ + (14 - 9) < f + 1) :
  Calls Tryz.prog 94 #[.pointer (some ⟨b, 0, none⟩), .int .i64 9] w (RPost b s (VTm w.heap.size) (termS (f + 1) s 9 σ) w) := term_ln (n := 9) (by unfold lvOK; omega) hT h hf
theorem term_l10 {b : Nat} {s : ByteArray} {f : Nat} {w : World} {σ : PS} (hT : TC b s f (termS f s)) (h : PW w b s σ) (hf : 14 * mu s σ + (14 - 10) < f + 1) :
  Calls Tryz.prog 94 #[.pointer (some ⟨b, 0, none⟩), .int .i64 10] w (RPost b s (VTm w.heap.size) (termS (f + 1) s 10 σ) w) := term_ln (n := 10) (by unfold lvOK; omega) hT h hf
theorem term_l11 {b : Nat} {s : ByteArray} {f : Nat} {w : World} {σ : PS} (hT : TC b s f (termS f s)) (h : PW w b s σ) (hf : 14 * mu s σ + (14 - 11) < f + 1) :
  Calls Tryz.prog 94 #[.pointer (some ⟨b, 0, none⟩), .int .i64 11] w (RPost b s (VTm w.heap.size) (termS (f + 1) s 11 σ) w) := term_ln (n := 11) (by unfold lvOK; omega) hT h hf
theorem term_l12 {b : Nat} {s : ByteArray} {f : Nat} {w : World} {σ : PS} (hT : TC b s f (termS f s)) (h : PW w b s σ) (hf : 14 * mu s σ + (14 - 12) < f + 1) :
  Calls Tryz.prog 94 #[.pointer (some ⟨b, 0, none⟩), .int .i64 12] w (RPost b s (VTm w.heap.size) (termS (f + 1) s 12 σ) w) := term_ln (n := 12) (by unfold lvOK; omega) hT h hf
theorem term_at {b : Nat} {s : ByteArray} {f : Nat} {w : World} {σ : PS} (hT : TC b s f (termS f s)) (h : PW w b s σ) (hS : TSm 65536 s (termS f s)) (hf : 14 * mu s σ + (14 - 13) < f + 1) (hi : isS σ kMinus = false) :
  Calls Tryz.prog 94 #[.pointer (some ⟨b, 0, none⟩), .int .i64 13] w (RPost b s (VTm w.heap.size) (termS (f + 1) s 13 σ) w) := by
 have hI := inv_term f s
 have HI := Ld hI
 clear hI
 have HS := Ld hS
 clear hS
 have hlt := h.lt
 have hgl := h.gl.lt
 have h0 := h.alloc Z7
 have hR0 : Blk (w.alloc Z7) w.heap.size 28 z27 := Blk.new w 28 z27
 have K0 : Kept (· = b) w (w.alloc Z7) := (Kept.refl _ _).alloc _
 have zw0 : (w.alloc Z7).heap.size = w.heap.size + 1 := by simp
 have Z0 := Ld zw0
 clear zw0
 go_enter Tryz.func94, Tryz.ntmps94
 go_wp2_with fail
 refine (eat_no h0 kMinus hi).mono ?_
 rintro e w' ⟨rfl, rfl⟩
 go_wp2_with fail
 have zz0 := Z0.out
 have lo1 := h0.lt
 refine (atom_any hT HI.out h0 (by omega) HS.out).mono ?_
 rintro e w1 hr
 cases h_1 : atomS (termS f s) s σ with
 | error r =>
  have hq : Hid (termS (f + 1) s 13 σ = .error r) := Ld (by unfold termS; simp only [hi, show ((13 : Nat) == 5) = false from rfl, show ((13 : Nat) == 13) = true from rfl, h_1])
  obtain ⟨rfl, k1⟩ := hr.getErr h_1
  clear hr
  go_wp2_with fail
  exact ⟨rfl, RPost.err hq.out ⟨rfl, K0.trans k1⟩⟩
 | ok q1 =>
  obtain ⟨t1, σ1⟩ := q1
  obtain ⟨v, rfl, ⟨tk1, kk1, rfl, at1, ct1⟩, p1, k1⟩ := hr.getOk h_1
  clear hr
  have j_1 := inv_atom HI.out h0.le h_1
  have i_1 := j_1.1
  try unfold Inv at i_1
  try unfold Inv1 at i_1
  obtain ⟨ta1, tn1, tc1, rfl⟩ := at1.slice
  obtain ⟨ma1, mn1, mc1, rfl⟩ := ct1.slice
  unfold tmVal
  have hR_1 := hR0.kept k1 (by show ¬ w.heap.size = b; omega)
  have K1 := K0.trans k1
  have lb1 := p1.lt
  have zz1 := K1.size
  have zk1 := k1.size
  have lR1 := hR_1.lt
  clear zz0
  go_wp2_with fail
  have zz0 := Z0.out
  have lo2 := p1.lt
  refine (after_any hT HI.out p1 (by omega) t1 ta1 tn1 tc1 ma1 mn1 mc1 (w.alloc Z7).heap.size (by omega) (by omega) at1 ct1).mono ?_
  rintro e w2 hr
  cases h_2 : afterS (termS f s) s (s.size + 2) t1 σ1 with
  | error r =>
   have hq : Hid (termS (f + 1) s 13 σ = .error r) := Ld (by unfold termS; simp only [hi, show ((13 : Nat) == 5) = false from rfl, show ((13 : Nat) == 13) = true from rfl, h_1, h_2])
   obtain ⟨rfl, k2⟩ := hr.getErr h_2
   clear hr
   go_wp2_with fail
   exact ⟨rfl, RPost.err hq.out ⟨rfl, K1.trans k2⟩⟩
  | ok q2 =>
   obtain ⟨t2, σ2⟩ := q2
   obtain ⟨v, rfl, ⟨tk2, kk2, rfl, at2, ct2⟩, p2, k2⟩ := hr.getOk h_2
   clear hr
   have j_2 := inv_after HI.out _ j_1.2 p1.le h_2
   have i_2 := j_2.1
   try unfold Inv at i_2
   try unfold Inv1 at i_2
   obtain ⟨ta2, tn2, tc2, rfl⟩ := at2.slice
   obtain ⟨ma2, mn2, mc2, rfl⟩ := ct2.slice
   unfold tmVal
   have hR_2 := hR_1.kept k2 (by show ¬ w.heap.size = b; omega)
   have at1_2 := at1.frame (Same.of_kept k2 (fun k h e => by omega))
   have ct1_2 := ct1.frame (Same.of_kept k2 (fun k h e => by omega))
   have K2 := K1.trans k2
   have lb2 := p2.lt
   have zz2 := K2.size
   have zk2 := k2.size
   have lR2 := hR_2.lt
   have hq : Hid (termS (f + 1) s 13 σ = .ok (t2, σ2)) := Ld (by unfold termS; simp only [hi, show ((13 : Nat) == 5) = false from rfl, show ((13 : Nat) == 13) = true from rfl, h_1, h_2])
   have g0 : w2.cell? ⟨w.heap.size, 0, none⟩ = some (.int .i64 0) := hR_2.cell 0
   have f0 : w2.frozen? ⟨w.heap.size, 0, none⟩ = false := hR_2.frozen 0
   have g1 : w2.cell? ⟨w.heap.size, 1, none⟩ = some (.string ⟨#[]⟩) := hR_2.cell 1
   have f1 : w2.frozen? ⟨w.heap.size, 1, none⟩ = false := hR_2.frozen 1
   have g2 : w2.cell? ⟨w.heap.size, 2, none⟩ = some (.int .i64 0) := hR_2.cell 2
   have f2 : w2.frozen? ⟨w.heap.size, 2, none⟩ = false := hR_2.frozen 2
   have g3 : w2.cell? ⟨w.heap.size, 3, none⟩ = some (.int .i64 0) := hR_2.cell 3
   have f3 : w2.frozen? ⟨w.heap.size, 3, none⟩ = false := hR_2.frozen 3
   have g4 : w2.cell? ⟨w.heap.size, 4, none⟩ = some (.string ⟨#[]⟩) := hR_2.cell 4
   have f4 : w2.frozen? ⟨w.heap.size, 4, none⟩ = false := hR_2.frozen 4
   have g5 : w2.cell? ⟨w.heap.size, 5, none⟩ = some (.slice none 0 0) := hR_2.cell 5
   have f5 : w2.frozen? ⟨w.heap.size, 5, none⟩ = false := hR_2.frozen 5
   have g6 : w2.cell? ⟨w.heap.size, 6, none⟩ = some (.slice none 0 0) := hR_2.cell 6
   have f6 : w2.frozen? ⟨w.heap.size, 6, none⟩ = false := hR_2.frozen 6
   have l9 : w.heap.size < w2.heap.size := hR_2.lt
   clear zz0
   go_wp2_with fail
   have zz0 := Z0.out
   refine ret_tm Tryz.results94 hq.out rfl rfl ((r7 hR_2 rfl)) ?_ ?_ ((p7w p2 (by omega) (by omega))) ((k7w K2 (Or.inr (Nat.le_refl _))))
   ·exact (at2.frame (same7 (R := w.heap.size) (by omega))).mono (fun k _ h => by omega)
   ·exact (ct2.frame (same7 (R := w.heap.size) (by omega))).mono (fun k _ h => by omega)
theorem term_any {b : Nat} {s : ByteArray} (hs : s.size ≤ 65536) (f : Nat) : TC b s f (termS f s) := by
 induction f with
 | zero => intro n m _ σ w _ _ _ h; omega
 | succ f ih =>
  intro n m hm σ w h1 h13 h hf
  subst hm
  have hS := sm_term hs f
  rcases (show n = 1 ∨ n = 2 ∨ n = 3 ∨ n = 4 ∨ n = 5 ∨ n = 6 ∨ n = 7 ∨ n = 8 ∨ n = 9 ∨ n = 10 ∨ n = 11 ∨ n = 12 ∨ n = 13 by omega) with rfl | rfl | rfl | rfl | rfl | rfl | rfl | rfl | rfl | rfl | rfl | rfl | rfl
  ·exact term_l1 ih h hf
  ·exact term_l2 ih h hf
  ·exact term_l3 ih h hf
  ·exact term_l4 ih h hf
  ·cases hi : isS σ kNot
   ·exact term_six ih h hf hi
   ·exact term_not ih h hf hi
  ·exact term_l6 ih h hf
  ·exact term_l7 ih h hf
  ·exact term_l8 ih h hf
  ·exact term_l9 ih h hf
  ·exact term_l10 ih h hf
  ·exact term_l11 ih h hf
  ·exact term_l12 ih h hf
  ·cases hi : isS σ kMinus
   ·exact term_at ih h hS hf hi
   ·exact term_neg ih h hf hi
end Go.Proofs.YtfhedienjnfdcaaGreatDoor
