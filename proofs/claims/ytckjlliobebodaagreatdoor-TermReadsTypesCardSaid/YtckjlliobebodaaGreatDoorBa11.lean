/- Texts RBra RPar RStt RWk RErr of this proof, in one. -/
import Derived.Test.YtckjlliobebodaaGreatDoorBa10
import Derived.Deep.RegionHeld3
import Derived.Deep.CutBlock
import Derived.Test.YtckjlliobebodaaGreatDoorBa3
/- Braces as the document reads them: plain facts. -/
set_option linter.unusedVariables false
set_option linter.unusedSimpArgs false
namespace Go.Proofs.YtckjlliobebodaaGreatDoor
open Go.RowKit
theorem bP_assoc {α β : Type} {q : Except ER PS} {k : PS → Except ER (α × PS)} {m : α → PS → Except ER β} : bT (bP q k) m = bP q fun σ => bT (k σ) m := by cases q <;> rfl
theorem bT_assoc {α β γ : Type} {q : Except ER (α × PS)} {k : α → PS → Except ER (β × PS)} {m : β → PS → Except ER γ} : bT (bT q k) m = bT q fun a σ => bT (k a σ) m := by cases q <;> rfl
theorem bT_ok {α β : Type} {q : Except ER (α × PS)} {k : α → PS → Except ER β} {x : β} (h : bT q k = .ok x) : ∃ a σ, q = .ok (a, σ) ∧ k a σ = .ok x := by
  cases q with
  | error r => cases h
  | ok p => exact ⟨p.1, p.2, rfl, h⟩
theorem bP_ok {β : Type} {q : Except ER PS} {k : PS → Except ER β} {x : β} (h : bP q k = .ok x) : ∃ σ, q = .ok σ ∧ k σ = .ok x := by
  cases q with
  | error r => cases h
  | ok p => exact ⟨p, rfl, h⟩
theorem is_eq {σ : PS} {t : ByteArray} (h : isS σ t = true) : σ.tx = t ∧ (σ.k = 3 ∨ (σ.k = 1 ∧ keywordB t = true)) := by
  unfold isS isB at h
  rw [Bool.or_eq_true, Bool.and_eq_true, Bool.and_eq_true, Bool.and_eq_true] at h
  rcases h with ⟨h1, h2⟩ | ⟨⟨h1, h2⟩, h3⟩
  · exact ⟨toList_inj (eq_of_beq h2), Or.inl (eq_of_beq h1)⟩
  · exact ⟨toList_inj (eq_of_beq h2), Or.inr ⟨eq_of_beq h1, h3⟩⟩
theorem opGo_mem {σ : PS} : ∀ {xs : List ByteArray} {os : List Int}, opGo σ xs os = 0 ∨ opGo σ xs os ∈ os := by
  intro xs
  induction xs with
  | nil => intro os; exact Or.inl (by unfold opGo; rfl)
  | cons x xs ih =>
    intro os
    cases os with
    | nil => exact Or.inl (by unfold opGo; rfl)
    | cons o os =>
      unfold opGo
      cases isS σ x
      · rcases ih (os := os) with h | h
        · exact Or.inl h
        · exact Or.inr (List.mem_cons_of_mem _ h)
      · exact Or.inr (List.mem_cons_self ..)
/-- What the rest of a level makes of its first operand. -/
theorem rest_cases {T : TF} {s : ByteArray} {n : Nat} (g : Nat) : ∀ {t t' : Tm} {σ σ' : PS}, restS T s n g t σ = .ok (t', σ') → (t' = t ∧ σ' = σ) ∨ (t'.op ∈ lvOps n ∧ opOf n σ ≠ 0) := by
  induction g with
  | zero => intro t t' σ σ' h; cases h
  | succ g ih =>
    intro t t' σ σ' h
    rw [rest_eq] at h
    split at h
    · cases h; exact Or.inl ⟨rfl, rfl⟩
    · rename_i ho
      have ho' : opOf n σ ≠ 0 := ne_of_beq_false (Bool.eq_false_iff.2 ho)
      obtain ⟨σ1, h1, h⟩ := bP_ok h
      obtain ⟨u, σ2, h2, h⟩ := bT_ok h
      have hmem : opOf n σ ∈ lvOps n := by
        rcases opGo_mem (σ := σ) (xs := lvSigns n) (os := lvOps n) with e | e
        · exact absurd e ho'
        · exact e
      refine Or.inr ⟨?_, ho'⟩
      split at h
      · cases h; exact hmem
      · rcases ih h with ⟨rfl, _⟩ | h3
        · exact hmem
        · exact h3.1
theorem rest_same {T : TF} {s : ByteArray} {n g : Nat} {t : Tm} {σ : PS} (h : opOf n σ = 0) : restS T s n (g + 1) t σ = .ok (t, σ) := by
  rw [rest_eq, h]; rfl
theorem lv_six : lvOps 6 = [10, 11, 12, 13, 14, 15, 16, 17, 18] := rfl
theorem lv_no20 : ∀ n, n ≤ 12 → (20 : Int) ∉ lvOps n := by decide
theorem lv_no16 : ∀ n, n ≤ 12 → n ≠ 6 → (16 : Int) ∉ lvOps n := by decide
theorem op_in {σ : PS} (h : opOf 6 σ = 16) : isS σ kIn = true := by
  cases hi : isS σ kIn
  · exfalso
    revert h
    show opGo σ [⟨#[61]⟩, ⟨#[47, 61]⟩, ⟨#[60]⟩, ⟨#[60, 61]⟩, ⟨#[62]⟩, ⟨#[62, 61]⟩, kIn, ⟨#[110, 111, 116, 105, 110]⟩, ⟨#[115, 117, 98]⟩] [10, 11, 12, 13, 14, 15, 16, 17, 18] = 16 → False
    simp only [opGo, hi]
    repeat' split
    all_goals decide
  · rfl
theorem in_op {σ : PS} (h : isS σ kIn = true) : (∀ n, n ≤ 12 → n ≠ 6 → opOf n σ = 0) ∧ opOf 6 σ = 16 ∧ isS σ kLpar = false ∧ isS σ kLbr = false ∧ isS σ kTilde = false := by
  obtain ⟨h1, h2⟩ := is_eq h
  obtain ⟨p, k, tx, m, ta, nest⟩ := σ
  simp only at h1 h2
  subst h1
  rcases h2 with rfl | ⟨rfl, _⟩
  · refine ⟨?_, ?_, ?_, ?_, ?_⟩ <;> (try intro n hn hn6) <;> (try (have : n = 0 ∨ n = 1 ∨ n = 2 ∨ n = 3 ∨ n = 4 ∨ n = 5 ∨ n = 7 ∨ n = 8 ∨ n = 9 ∨ n = 10 ∨ n = 11 ∨ n = 12 := (by omega); rcases this with rfl | rfl | rfl | rfl | rfl | rfl | rfl | rfl | rfl | rfl | rfl | rfl)) <;> (show _ = _; kernel_rfl)
  · refine ⟨?_, ?_, ?_, ?_, ?_⟩ <;> (try intro n hn hn6) <;> (try (have : n = 0 ∨ n = 1 ∨ n = 2 ∨ n = 3 ∨ n = 4 ∨ n = 5 ∨ n = 7 ∨ n = 8 ∨ n = 9 ∨ n = 10 ∨ n = 11 ∨ n = 12 := (by omega); rcases this with rfl | rfl | rfl | rfl | rfl | rfl | rfl | rfl | rfl | rfl | rfl | rfl)) <;> (show _ = _; kernel_rfl)
theorem bar_op {σ : PS} (h : isS σ kBar = true) : ∀ n, n ≤ 4 → opOf n σ = 0 := by
  obtain ⟨h1, h2⟩ := is_eq h
  obtain ⟨p, k, tx, m, ta, nest⟩ := σ
  simp only at h1 h2
  subst h1
  intro n hn
  have : n = 0 ∨ n = 1 ∨ n = 2 ∨ n = 3 ∨ n = 4 := by omega
  rcases h2 with rfl | ⟨rfl, _⟩ <;> rcases this with rfl | rfl | rfl | rfl | rfl <;> (show _ = _; kernel_rfl)
theorem after_cases {T : TF} {s : ByteArray} (g : Nat) : ∀ {t t' : Tm} {σ σ' : PS}, afterS T s g t σ = .ok (t', σ') → (t' = t ∧ σ' = σ) ∨ (t'.op = 52 ∨ t'.op = 53 ∨ t'.op = 54) := by
  induction g with
  | zero => intro t t' σ σ' h; cases h
  | succ g ih =>
    intro t t' σ σ' h
    rw [after_eq] at h
    split at h
    · obtain ⟨u, σ2, h2, h⟩ := bT_ok h
      rcases ih h with ⟨rfl, _⟩ | h3
      · exact Or.inr (Or.inr (Or.inr rfl))
      · exact Or.inr h3
    split at h
    · obtain ⟨u, σ2, h2, h⟩ := bT_ok h
      rcases ih h with ⟨rfl, _⟩ | h3
      · exact Or.inr (Or.inr (Or.inl rfl))
      · exact Or.inr h3
    split at h
    · obtain ⟨σ2, h2, h⟩ := bP_ok h
      rcases ih h with ⟨rfl, _⟩ | h3
      · exact Or.inr (Or.inl rfl)
      · exact Or.inr h3
    · cases h; exact Or.inl ⟨rfl, rfl⟩
/-- A name without a keyword's text, alone. -/
def Lone (s : ByteArray) (σ : PS) (t : Tm) (σ' : PS) : Prop := keywordB σ.tx = false ∧ t = nmT σ.tx ∧ advS s σ = .ok σ'
theorem bound_op {T : TF} {s : ByteArray} {op : Int} {σ σ' : PS} {t : Tm} (h : boundS T s op σ = .ok (t, σ')) : t.op = op := by
  rw [bound_eq] at h
  obtain ⟨_, _, _, h⟩ := bT_ok h
  obtain ⟨_, _, h⟩ := bP_ok h
  obtain ⟨_, _, _, h⟩ := bT_ok h
  obtain ⟨_, _, h⟩ := bP_ok h
  obtain ⟨_, _, _, h⟩ := bT_ok h
  cases h; rfl
theorem binder_op {T : TF} {s : ByteArray} {op : Int} {σ σ' : PS} {t : Tm} (h : binderS T s op σ = .ok (t, σ')) : t.op = op := by
  rw [binder_eq] at h
  obtain ⟨_, _, h⟩ := bP_ok h
  exact bound_op h
theorem leaf_op {s : ByteArray} {σ σ' : PS} {t t' : Tm} (h : leafS s t σ = .ok (t', σ')) : t' = t ∧ advS s σ = .ok σ' := by
  rw [leaf_eq] at h
  obtain ⟨_, h1, h⟩ := bP_ok h
  cases h; exact ⟨rfl, h1⟩
theorem fn_ge (x : ByteArray) : functionN x = 0 ∨ 46 ≤ functionN x := by
  unfold functionN
  split
  · right; omega
  · left; rfl
theorem worded_op {T : TF} {s : ByteArray} {σ σ' : PS} {t : Tm} (h : wordedS T s σ = .ok (t, σ')) : t.op ≠ 16 ∧ (t.op = 20 → Lone s σ t σ') := by
  rw [worded_eq] at h
  split at h
  · split at h
    · rename_i hf
      unfold funK at h
      obtain ⟨_, _, h⟩ := bP_ok h
      obtain ⟨_, _, _, h⟩ := bT_ok h
      cases h
      have h0 : functionN σ.tx ≠ 0 := by simpa using hf
      have h1 := fn_ge σ.tx
      exact ⟨fun e => by have e' : functionN σ.tx = 16 := e; omega, fun e => by have e' : functionN σ.tx = 20 := e; omega⟩
    split at h
    · obtain ⟨rfl, _⟩ := leaf_op h; exact ⟨by decide, fun e => absurd e (by decide)⟩
    split at h
    · obtain ⟨rfl, _⟩ := leaf_op h; exact ⟨by decide, fun e => absurd e (by decide)⟩
    split at h
    · rw [binder_op h]; exact ⟨by decide, fun e => absurd e (by decide)⟩
    split at h
    · rw [binder_op h]; exact ⟨by decide, fun e => absurd e (by decide)⟩
    split at h
    · rw [binder_op h]; exact ⟨by decide, fun e => absurd e (by decide)⟩
    · cases h
  · rename_i hk
    obtain ⟨rfl, h1⟩ := leaf_op h
    exact ⟨fun e => absurd e (show ¬ (20 : Int) = 16 by decide), fun _ => ⟨Bool.eq_false_iff.2 hk, rfl, h1⟩⟩
/-- What a term that begins with a word can be. -/
theorem word_term (s : ByteArray) (f : Nat) : ∀ (n : Nat) {σ σ' : PS} {t : Tm}, n ≤ 13 → σ.k = 1 → termS f s n σ = .ok (t, σ') → (t.op = 20 → Lone s σ t σ') ∧ (t.op = 16 → n ≤ 6 ∧ ∃ a d σ1, t = nd 16 [a, d] ∧ isS σ1 kIn = true ∧ (a.op = 20 → Lone s σ a σ1)) := by
  induction f with
  | zero => intro n σ σ' t _ _ h; cases h
  | succ f ih =>
    intro n σ σ' t hn hk h
    by_cases e5 : n = 5
    · subst e5
      rw [term5_eq] at h
      split at h
      · obtain ⟨_, _, h⟩ := bP_ok h
        obtain ⟨_, _, _, h⟩ := bT_ok h
        cases h; exact ⟨fun e => absurd e (show ¬ (3 : Int) = 20 by decide), fun e => absurd e (show ¬ (3 : Int) = 16 by decide)⟩
      · obtain ⟨a, c⟩ := ih 6 (by decide) hk h
        exact ⟨a, fun e => ⟨by decide, (c e).2⟩⟩
    by_cases e13 : n = 13
    · subst e13
      rw [term13_eq] at h
      split at h
      · obtain ⟨_, _, h⟩ := bP_ok h
        obtain ⟨_, _, _, h⟩ := bT_ok h
        cases h; exact ⟨fun e => absurd e (show ¬ (21 : Int) = 20 by decide), fun e => absurd e (show ¬ (21 : Int) = 16 by decide)⟩
      · obtain ⟨t0, σ0, h0, h⟩ := bT_ok h
        have h0' : wordedS (termS f s) s σ = .ok (t0, σ0) := by
          unfold atomS at h0
          rw [hk] at h0
          exact h0
        obtain ⟨w16, w20⟩ := worded_op h0'
        rcases after_cases _ h with ⟨rfl, rfl⟩ | h3
        · exact ⟨w20, fun e => absurd e w16⟩
        · exact ⟨fun e => by rcases h3 with e' | e' | e' <;> (rw [e'] at e; exact absurd e (by decide)), fun e => by rcases h3 with e' | e' | e' <;> (rw [e'] at e; exact absurd e (by decide))⟩
    rw [termn_eq f s n σ e5 e13] at h
    obtain ⟨t0, σ0, h0, h⟩ := bT_ok h
    obtain ⟨i20, i16⟩ := ih (n + 1) (by omega) hk h0
    by_cases e6 : n = 6
    · subst e6
      rw [rest_eq] at h
      split at h
      · cases h
        exact ⟨i20, fun e => absurd (i16 e).1 (by decide)⟩
      · obtain ⟨σ1, h1, h⟩ := bP_ok h
        obtain ⟨u, σ2, h2, h⟩ := bT_ok h
        have hg : (lvGroup 6 != 1) = true := rfl
        rw [if_pos hg] at h
        cases h
        have hmem : opOf 6 σ0 = 0 ∨ opOf 6 σ0 ∈ lvOps 6 := opGo_mem
        rw [lv_six] at hmem
        refine ⟨fun e => ?_, fun e => ⟨by decide, t0, u, σ0, ?_, op_in e, i20⟩⟩
        · have e' : opOf 6 σ0 = 20 := e
          rw [e'] at hmem; exact absurd hmem (by decide)
        · have e' : opOf 6 σ0 = 16 := e
          rw [e']
    · rcases rest_cases _ h with ⟨rfl, rfl⟩ | ⟨h3, _⟩
      · exact ⟨i20, fun e => ⟨by have := (i16 e).1; omega, (i16 e).2⟩⟩
      · exact ⟨fun e => by rw [e] at h3; exact absurd h3 (lv_no20 n (by omega)), fun e => by rw [e] at h3; exact absurd h3 (lv_no16 n (by omega) e6)⟩
/-- A name that the keyword in follows. -/
theorem in_name {s : ByteArray} {σ σ1 : PS} (hk : σ.k = 1) (hw : keywordB σ.tx = false) (ha : advS s σ = .ok σ1) (hi : isS σ1 kIn = true) (d : Nat) : ∀ (n f : Nat), 7 ≤ n → n + d = 13 → d < f → termS f s n σ = .ok (nmT σ.tx, σ1) := by
  obtain ⟨i1, i2, i3, i4, i5⟩ := in_op hi
  induction d with
  | zero =>
    intro n f h7 hn hf
    obtain ⟨f, rfl⟩ : ∃ k, f = k + 1 := ⟨f - 1, by omega⟩
    obtain rfl : n = 13 := by omega
    rw [term13_eq, is_word hw σ hk rfl, if_neg (by simp)]
    have : atomS (termS f s) s σ = .ok (nmT σ.tx, σ1) := by
      unfold atomS
      rw [hk]
      show wordedS (termS f s) s σ = _
      rw [worded_eq, if_neg (by rw [hw]; simp), leaf_eq, ha]; rfl
    rw [this]
    show afterS (termS f s) s (s.size + 2) (nmT σ.tx) σ1 = _
    rw [after_eq, i3, i4, i5]; rfl
  | succ d ih =>
    intro n f h7 hn hf
    obtain ⟨f, rfl⟩ : ∃ k, f = k + 1 := ⟨f - 1, by omega⟩
    rw [termn_eq f s n σ (by omega) (by omega), ih (n + 1) f (by omega) (by omega) (by omega)]
    show restS (termS f s) s n (s.size + 2) (nmT σ.tx) σ1 = _
    exact rest_same (i1 n (by omega) (by omega))
/-- The levels 4 to 1 behind a membership. -/
def moreK (T : TF) (s : ByteArray) (t : Tm) (σ : PS) : RT :=
  bT (restS T s 4 (s.size + 2) t σ) fun a σ1 => bT (restS T s 3 (s.size + 2) a σ1) fun c σ2 => bT (restS T s 2 (s.size + 2) c σ2) fun d σ3 => restS T s 1 (s.size + 2) d σ3
theorem in_term {s : ByteArray} {σ σ1 : PS} (hp : σ.p ≤ s.size) (hk : σ.k = 1) (hw : keywordB σ.tx = false) (ha : advS s σ = .ok σ1) (hi : isS σ1 kIn = true) (f : Nat) (hf : 14 * mu s σ + 13 < f) :
    termS f s 1 σ = bP (advS s σ1) fun σ2 => bT (termS f s 7 σ2) fun d σ3 => moreK (termS f s) s (nd 16 [nmT σ.tx, d]) σ3 := by
  obtain ⟨f, rfl⟩ : ∃ k, f = k + 6 := ⟨f - 6, by omega⟩
  have m1 := mu_adv hp (by rw [hk]; decide) ha
  have p1 := adv_le hp ha
  obtain ⟨i1, i2, i3, i4, i5⟩ := in_op hi
  have e6 : termS (f + 1) s 6 σ = bP (advS s σ1) fun σ2 => bT (termS f s 7 σ2) fun d σ3 => .ok (nd 16 [nmT σ.tx, d], σ3) := by
    rw [termn_eq f s 6 σ (by decide) (by decide), in_name hk hw ha hi 6 7 f (by decide) (by decide) (by omega)]
    show restS (termS f s) s 6 (s.size + 2) (nmT σ.tx) σ1 = _
    rw [rest_eq, i2]
    rfl
  have e5 : termS (f + 2) s 5 σ = termS (f + 1) s 6 σ := by
    rw [term5_eq, is_word hw σ hk rfl, if_neg (by simp)]
  rw [termn_eq (f + 5) s 1 σ (by decide) (by decide), termn_eq (f + 4) s 2 σ (by decide) (by decide), termn_eq (f + 3) s 3 σ (by decide) (by decide), termn_eq (f + 2) s 4 σ (by decide) (by decide), e5, e6]
  simp only [bP_assoc, bT_assoc]
  refine bP_congr fun σ2 h2 => ?_
  have m2 := mu_adv p1 (isS_ne hi) h2
  have p2 := adv_le p1 h2
  refine bT_congr (term_fuel s f 6 7 σ2 (by decide) (by decide) (by omega) p2) fun d σ3 h3 => ?_
  have a3 := (inv_term f s _ _ _ _ p2 h3).1
  unfold Inv at a3
  unfold moreK
  show bT (restS (termS (f + 2) s) s 4 (s.size + 2) (nd 16 [nmT σ.tx, d]) σ3) _ = _
  have g2 : TQ s (f + 2) (termS (f + 2) s) (termS (f + 6) s) := term_fuel s (f + 2) 4
  have g3 : TQ s (f + 3) (termS (f + 3) s) (termS (f + 6) s) := term_fuel s (f + 3) 3
  have g4 : TQ s (f + 4) (termS (f + 4) s) (termS (f + 6) s) := term_fuel s (f + 4) 2
  have g5 : TQ s (f + 5) (termS (f + 5) s) (termS (f + 6) s) := term_fuel s (f + 5) 1
  refine bT_congr (rest_q (lv_next 4 (by decide) (by decide)) (inv_term _ s) g2 _ _ σ3 a3.2.1 (by omega)) fun a σ4 h4 => ?_
  have a4 := (inv_rest (inv_term _ s) _ (fun _ => rfl) a3.2.1 h4).1
  unfold Inv at a4
  refine bT_congr (rest_q (lv_next 3 (by decide) (by decide)) (inv_term _ s) g3 _ _ σ4 a4.2.1 (by omega)) fun c σ5 h5 => ?_
  have a5 := (inv_rest (inv_term _ s) _ (inv_rest (inv_term _ s) _ (fun _ => rfl) a3.2.1 h4).2 a4.2.1 h5)
  have b5 := a5.1
  unfold Inv at b5
  refine bT_congr (rest_q (lv_next 2 (by decide) (by decide)) (inv_term _ s) g4 _ _ σ5 b5.2.1 (by omega)) fun d σ6 h6 => ?_
  have a6 := (inv_rest (inv_term _ s) _ a5.2 b5.2.1 h6).1
  unfold Inv at a6
  exact rest_q (lv_next 1 (by decide) (by decide)) (inv_term _ s) g5 _ _ σ6 a6.2.1 (by omega)
theorem more_cases {T : TF} {s : ByteArray} {t t' : Tm} {σ σ' : PS} (h : moreK T s t σ = .ok (t', σ')) : (t' = t ∧ σ' = σ) ∨ t'.op ≠ 16 := by
  unfold moreK at h
  obtain ⟨a, σ1, h1, h⟩ := bT_ok h
  obtain ⟨c, σ2, h2, h⟩ := bT_ok h
  obtain ⟨d, σ3, h3, h⟩ := bT_ok h
  have k : ∀ n (x : Tm), n ≤ 12 → n ≠ 6 → x.op ∈ lvOps n → x.op ≠ 16 := fun n x h1 h2 h3 e => by rw [e] at h3; exact lv_no16 n h1 h2 h3
  rcases rest_cases _ h with ⟨rfl, rfl⟩ | ⟨q, _⟩
  · rcases rest_cases _ h3 with ⟨rfl, rfl⟩ | ⟨q, _⟩
    · rcases rest_cases _ h2 with ⟨rfl, rfl⟩ | ⟨q, _⟩
      · rcases rest_cases _ h1 with ⟨rfl, rfl⟩ | ⟨q, _⟩
        · exact Or.inl ⟨rfl, rfl⟩
        · exact Or.inr (k 4 _ (by decide) (by decide) q)
      · exact Or.inr (k 3 _ (by decide) (by decide) q)
    · exact Or.inr (k 2 _ (by decide) (by decide) q)
  · exact Or.inr (k 1 _ (by decide) (by decide) q)
theorem more_bar {T : TF} {s : ByteArray} {t : Tm} {σ : PS} (h : isS σ kBar = true) : moreK T s t σ = .ok (t, σ) := by
  have b := bar_op h
  unfold moreK
  rw [rest_same (b 4 (by decide))]
  show bT (restS T s 3 (s.size + 2) t σ) _ = _
  rw [rest_same (b 3 (by decide))]
  show bT (restS T s 2 (s.size + 2) t σ) _ = _
  rw [rest_same (b 2 (by decide))]
  exact rest_same (g := s.size + 1) (b 1 (by decide))
def followedB (s : ByteArray) (σ : PS) : Bool := match advS s σ with | .ok σ1 => isS σ1 kIn | .error _ => false
def headQ (s : ByteArray) (σ : PS) : Bool := (σ.k == 1) && identB σ.tx && followedB s σ
def barK (T : TF) (s x : ByteArray) (d : Tm) (σ4 : PS) : RT := bP (advS s σ4) fun σ5 => bT (T 1 σ5) fun c σ6 => bP (shutS s σ6 kRcu) fun σ7 => .ok (.mk 55 x 0 ty0 [d, c], σ7)
def comprK (T : TF) (s : ByteArray) (σ1 : PS) : RT :=
  bP (advS s σ1) fun σ2 => bP (advS s σ2) fun σ3 => bT (T 7 σ3) fun d σ4 =>
    if isS σ4 kBar = true then barK T s σ1.tx d σ4 else bT (moreK T s (nd 16 [nmT σ1.tx, d]) σ4) fun t σ5 => elemsK T s t σ5
theorem ident_word {x : ByteArray} (h : identB x = true) : keywordB x = false := by
  cases hk : keywordB x
  · rfl
  · unfold identB at h; rw [hk] at h; simp at h
/-- What stands behind an opening brace, as the document reads it. -/
theorem braces_doc {s : ByteArray} {σ1 : PS} (hp : σ1.p ≤ s.size) (f : Nat) (hf : 14 * mu s σ1 + 13 < f) :
    (bT (termS f s 1 σ1) fun t σ2 => elementsS (termS f s) s t (σ1.k == 1) σ2) = if headQ s σ1 = true then comprK (termS f s) s σ1 else bT (termS f s 1 σ1) fun t σ2 => elemsK (termS f s) s t σ2 := by
  cases hh : headQ s σ1
  · rw [if_neg (by simp)]
    refine bT_congr rfl fun t σ2 h => ?_
    rw [elements_eq, if_neg]
    intro hc
    rw [Bool.and_eq_true, Bool.and_eq_true] at hc
    obtain ⟨⟨_, h1⟩, h2⟩ := hc
    have hk : σ1.k = 1 := eq_of_beq h1
    unfold headB at h2
    rw [Bool.and_eq_true] at h2
    have h16 : t.op = 16 := eq_of_beq h2.1
    obtain ⟨_, a, d, σ3, rfl, hi, hl⟩ := (word_term s f 1 (by decide) hk h).2 h16
    have h3 : ((a.op == 20) && identB a.name) = true := h2.2
    rw [Bool.and_eq_true] at h3
    obtain ⟨l1, l2, l3⟩ := hl (eq_of_beq h3.1)
    subst l2
    have : headQ s σ1 = true := by
      unfold headQ followedB
      rw [h1, l3, show identB σ1.tx = true from h3.2]
      simpa using hi
    rw [this] at hh; cases hh
  · rw [if_pos rfl]
    unfold headQ at hh
    rw [Bool.and_eq_true, Bool.and_eq_true] at hh
    obtain ⟨⟨h1, h2⟩, h3⟩ := hh
    have hk : σ1.k = 1 := eq_of_beq h1
    unfold followedB at h3
    cases ha : advS s σ1 with
    | error r => rw [ha] at h3; cases h3
    | ok σ2 =>
      rw [ha] at h3
      have hi : isS σ2 kIn = true := h3
      rw [in_term hp hk (ident_word h2) ha hi f hf]
      unfold comprK
      rw [ha]
      simp only [bP_assoc, bT_assoc]
      show _ = bP (advS s σ2) _
      refine bP_congr fun σ3 h3 => bT_congr rfl fun d σ4 h4 => ?_
      cases hb : isS σ4 kBar
      · rw [if_neg (by simp)]
        refine bT_congr rfl fun t σ5 h5 => ?_
        rw [elements_eq, if_neg]
        intro hc
        rw [Bool.and_eq_true, Bool.and_eq_true] at hc
        obtain ⟨⟨c1, _⟩, c2⟩ := hc
        rcases more_cases h5 with ⟨rfl, rfl⟩ | h16
        · rw [hb] at c1; cases c1
        · unfold headB at c2
          rw [Bool.and_eq_true] at c2
          exact h16 (eq_of_beq c2.1)
      · rw [if_pos rfl, more_bar hb]
        show elementsS _ s (nd 16 [nmT σ1.tx, d]) (σ1.k == 1) σ4 = _
        rw [elements_eq, hb, h1, show headB (nd 16 [nmT σ1.tx, d]) = true by unfold headB; show ((16 : Int) == 16 && ((20 : Int) == 20 && identB σ1.tx)) = true; rw [h2]; rfl, if_pos (show (true && true && true) = true from rfl)]
        rfl
end Go.Proofs.YtckjlliobebodaaGreatDoor
/- The document's parser: its state and its small methods. -/
set_option linter.unusedVariables false
set_option linter.unusedSimpArgs false
namespace Go.Proofs.YtckjlliobebodaaGreatDoor
open Go.RowKit
def RAt (w : World) (b : Nat) (s : ByteArray) (k : Int) (x : ByteArray) (a nest at_ e : Int) : Prop := Blk w b 58 [.string s, .int .i64 k, .string x, .int .i64 a, .int .i64 nest, .int .i64 at_, .int .i64 e]
section
variable {w : World} {b : Nat} {s : ByteArray} {k : Int} {x : ByteArray} {a nest at_ e : Int}
theorem RAt.c0 (h : RAt w b s k x a nest at_ e) : w.cell? ⟨b, 0, none⟩ = some (.string s) := Blk.cell h 0
theorem RAt.c1 (h : RAt w b s k x a nest at_ e) : w.cell? ⟨b, 1, none⟩ = some (.int .i64 k) := Blk.cell h 1
theorem RAt.c2 (h : RAt w b s k x a nest at_ e) : w.cell? ⟨b, 2, none⟩ = some (.string x) := Blk.cell h 2
theorem RAt.c3 (h : RAt w b s k x a nest at_ e) : w.cell? ⟨b, 3, none⟩ = some (.int .i64 a) := Blk.cell h 3
theorem RAt.c4 (h : RAt w b s k x a nest at_ e) : w.cell? ⟨b, 4, none⟩ = some (.int .i64 nest) := Blk.cell h 4
theorem RAt.c5 (h : RAt w b s k x a nest at_ e) : w.cell? ⟨b, 5, none⟩ = some (.int .i64 at_) := Blk.cell h 5
theorem RAt.c6 (h : RAt w b s k x a nest at_ e) : w.cell? ⟨b, 6, none⟩ = some (.int .i64 e) := Blk.cell h 6
theorem RAt.fz (h : RAt w b s k x a nest at_ e) (i : Nat) : w.frozen? ⟨b, i, none⟩ = false := Blk.frozen h i
theorem RAt.kept {w' : World} {S : Nat → Prop} (h : RAt w b s k x a nest at_ e) (hk : Kept S w w') (hs : ¬ S b) : RAt w' b s k x a nest at_ e := Blk.kept h hk hs
set_option maxHeartbeats 1000000 in
theorem rok_any (h : RAt w b s k x a nest at_ e) {v : Bool} (hv : (e == 0) = v) : Calls Tryz.prog 38 #[.pointer (some ⟨b, 0, none⟩)] w fun r w' => r = .returned (.bool v) ∧ w = w' := by
  have c6 := h.c6
  go_enter Tryz.func38, Tryz.ntmps38
  go_wp2_with fail
  go_ret
  exact ⟨rfl, rfl⟩
set_option maxHeartbeats 1000000 in
theorem rfail_live (h : RAt w b s k x a nest at_ e) (hv : (e == 0) = true) (e' at' : Int) : Calls Tryz.prog 122 #[.pointer (some ⟨b, 0, none⟩), .int .i64 e', .int .i64 at'] w fun r w' => r = .returned (.tuple #[]) ∧ RAt w' b s k x a nest at' e' ∧ Kept (· = b) w w' := by
  have c5 := h.c5
  have c6 := h.c6
  have f5 := h.fz 5
  have f6 := h.fz 6
  go_enter Tryz.func122, Tryz.ntmps122
  go_wp2_with (go_at_call 38; refine (rok_any h hv).mono ?_; rintro e w' ⟨rfl, rfl⟩)
  go_end0
  exact ⟨rfl, (Blk.set h 6 _).set 5 _, ((Kept.refl (fun x => x = b) _).setCell (Or.inl rfl) _).setCell (Or.inl rfl) _⟩
set_option maxHeartbeats 1000000 in
theorem rfail_dead (h : RAt w b s k x a nest at_ e) (hv : (e == 0) = false) (e' at' : Int) : Calls Tryz.prog 122 #[.pointer (some ⟨b, 0, none⟩), .int .i64 e', .int .i64 at'] w fun r w' => r = .returned (.tuple #[]) ∧ w = w' := by
  go_enter Tryz.func122, Tryz.ntmps122
  go_wp2_with (go_at_call 38; refine (rok_any h hv).mono ?_; rintro e w' ⟨rfl, rfl⟩)
  go_end0
  exact ⟨rfl, rfl⟩
set_option maxHeartbeats 1000000 in
theorem rwrong_live (h : RAt w b s k x a nest at_ e) (hv : (e == 0) = true) : Calls Tryz.prog 78 #[.pointer (some ⟨b, 0, none⟩)] w fun r w' => r = .returned (.tuple #[]) ∧ RAt w' b s k x a nest a 2 ∧ Kept (· = b) w w' := by
  have c3 := h.c3
  go_enter Tryz.func78, Tryz.ntmps78
  go_wp2_with (go_at_call 122; refine (rfail_live h hv 2 a).mono ?_; rintro e w' ⟨rfl, h', k'⟩)
  go_end0
  exact ⟨rfl, h', k'⟩
def isR (k : Int) (x t : ByteArray) : Bool := (k == 4 || k == 2) && (x.toList == t.toList)
set_option maxHeartbeats 1000000 in
theorem ris_any (h : RAt w b s k x a nest at_ e) (t : ByteArray) {v : Bool} (hv : isR k x t = v) : Calls Tryz.prog 74 #[.pointer (some ⟨b, 0, none⟩), .string t] w fun r w' => r = .returned (.bool v) ∧ w = w' := by
  have c1 := h.c1
  have c2 := h.c2
  unfold isR at hv
  cases h4 : (k == 4) <;> cases h2 : (k == 2) <;> cases ht : (x.toList == t.toList)
  all_goals
    rw [h4, h2, ht] at hv
    have HV := Lib.hid hv
    clear hv
    go_enter Tryz.func74, Tryz.ntmps74
    go_wp2_with fail
    go_ret
    exact ⟨by rw [← HV.out]; simp, rfl⟩
/-- The block behind a token that was passed. -/
def PassAt (w' : World) (b : Nat) (s x : ByteArray) (a : Nat) (nest at_ e : Int) : Prop :=
  RAt w' b s (lexW s (skip s (a + x.size))).1 (lexW s (skip s (a + x.size))).2 (skip s (a + x.size)) (if inB x openers = true then nest + 1 else if inB x closers = true then nest - 1 else nest)
    (if inB x openers = true ∧ 64 < nest + 1 ∧ e = 0 then a else at_) (if inB x openers = true ∧ 64 < nest + 1 ∧ e = 0 then 4 else e)
end
theorem op_cl {x : ByteArray} (h : inB x openers = true) : inB x closers = false := by
  have := inB_iff.1 h
  revert this
  have key : ∀ y ∈ openers, inB y closers = false := by decide +kernel
  exact key x
theorem rin_list (s : ByteArray) (xs : List ByteArray) (hl : xs.length ≤ 1000) (w : World) {v : Bool} (hv : inB s xs = v) :
    Calls Tryz.prog 92 #[.string s, .slice (some ⟨w.heap.size, 0, none⟩) xs.length xs.length] (w.alloc (.cells (xs.map Value.string).toArray 9)) fun e w' => e = .returned (.bool v) ∧ w.alloc (.cells (xs.map Value.string).toArray 9) = w' := by
  rw [← hv]
  refine rin_any s xs w.heap.size xs.length _ (fun i h => ?_) hl
  have hb : Blk (w.alloc (.cells (xs.map Value.string).toArray 9)) w.heap.size 9 (xs.map Value.string) := Blk.new w 9 _
  rw [hb.cell i, List.getElem?_map, List.getElem?_eq_getElem h]; rfl
theorem rlex_at (s : ByteArray) (i : Nat) (j : Int) (hj : j = i) (w : World) (hi : i ≤ s.size) (hs : s.size ≤ 65536) : Calls Tryz.prog 35 #[.string s, .int .i64 j] w (LexP s i w) := by
  rw [hj]; exact rlex_any s i w hi hs
theorem RAt.grow {w w' : World} {b : Nat} {s : ByteArray} {k : Int} {x : ByteArray} {a nest at_ e : Int} (h : RAt w b s k x a nest at_ e) (hk : Kept (fun _ => False) w w') : RAt w' b s k x a nest at_ e := h.kept hk id
theorem RAt.nest' {w : World} {b : Nat} {s : ByteArray} {k : Int} {x : ByteArray} {a nest at_ e : Int} (h : RAt w b s k x a nest at_ e) (v : Int) : RAt (w.setCell ⟨b, 4, none⟩ (.int .i64 v)) b s k x a v at_ e := Blk.set h 4 _
theorem RAt.tok' {w : World} {b : Nat} {s : ByteArray} {k : Int} {x : ByteArray} {a nest at_ e : Int} (h : RAt w b s k x a nest at_ e) (k' : Int) (x' : ByteArray) (a' : Int) : RAt (((w.setCell ⟨b, 1, none⟩ (.int .i64 k')).setCell ⟨b, 2, none⟩ (.string x')).setCell ⟨b, 3, none⟩ (.int .i64 a')) b s k' x' a' nest at_ e := ((Blk.set h 1 _).set 2 _).set 3 _
set_option maxRecDepth 10000 in
set_option maxHeartbeats 8000000 in
theorem pass_any {w : World} {b : Nat} {s : ByteArray} {k : Int} {x : ByteArray} {a : Nat} {nest at_ e : Int} (h : RAt w b s k x a nest at_ e) (hs : s.size ≤ 65536) (ha : a + x.size ≤ s.size) (hn : -1000 ≤ nest ∧ nest ≤ 1000) :
    Calls Tryz.prog 75 #[.pointer (some ⟨b, 0, none⟩)] w fun r w' => r = .returned (.tuple #[]) ∧ PassAt w' b s x a nest at_ e ∧ Kept (· = b) w w' := by
  have c2 := h.c2
  have hlt := Blk.lt h
  have hn1 := hn.1
  have hn2 := hn.2
  go_enter Tryz.func75, Tryz.ntmps75
  go_wp2_with fail
  refine (rin_list x openers (by decide) w rfl).mono ?_
  rintro e1 w1 ⟨rfl, rfl⟩
  have h1 := h.grow ((Kept.refl _ _).alloc (.cells (openers.map Value.string).toArray 9))
  have k1 : Kept (fun x => x = b) w (w.alloc (.cells (openers.map Value.string).toArray 9)) := (Kept.refl _ _).alloc _
  generalize w.alloc (.cells (openers.map Value.string).toArray 9) = w1 at *
  have d3 := h1.c3
  have d4 := h1.c4
  have g4 := h1.fz 4
  go_upto_if 8 with (fail)
  go_cut [] (fun wc => RAt wc b s k x a (if inB x openers = true then nest + 1 else nest) (if inB x openers = true ∧ 64 < nest + 1 ∧ e = 0 then a else at_) (if inB x openers = true ∧ 64 < nest + 1 ∧ e = 0 then 4 else e) ∧ Kept (fun x => x = b) w wc)
  case first =>
    cases ho : inB x openers
    · go_wp2_with fail
      go_meet
      exact ⟨by simpa [ho] using h1, k1⟩
    · have h2 := h1.nest' (nest + 1)
      have k2 : Kept (fun x => x = b) w (w1.setCell ⟨b, 4, none⟩ (.int .i64 (nest + 1))) := k1.setCell (Or.inl rfl) _
      by_cases hd : 64 < nest + 1
      · have hdB : decide (64 < nest + 1) = true := decide_eq_true hd
        cases he : (e == 0)
        · have hne : e ≠ 0 := ne_of_beq_false he
          go_wp2_with (go_at_call 122; refine (rfail_dead h2 he 4 a).mono ?_; rintro e2 w2 ⟨rfl, rfl⟩)
          go_meet
          exact ⟨by simpa [ho, hne] using h2, k2⟩
        · have h0 : e = 0 := eq_of_beq he
          have H0 := Lib.hid h0
          clear h0
          go_wp2_with (go_at_call 122; refine (rfail_live h2 he 4 a).mono ?_; rintro e2 w2 ⟨rfl, h3, k3⟩)
          go_meet
          exact ⟨by simpa [ho, H0.out, hd] using h3, k2.trans k3⟩
      · have hdB : decide (64 < nest + 1) = false := decide_eq_false hd
        go_wp2_with fail
        go_meet
        have e1 : ¬ (inB x openers = true ∧ 64 < nest + 1 ∧ e = 0) := fun q => by have := q.2.1; omega
        exact ⟨by rw [if_neg e1, if_neg e1, if_pos ho]; exact h2, k2⟩
  case rest =>
    obtain ⟨hx, kx⟩ := hcut
    have hb1 : -1001 ≤ (if inB x openers = true then nest + 1 else nest) ∧ (if inB x openers = true then nest + 1 else nest) ≤ 1001 := by split <;> omega
    have HP : Hid ((if inB x openers = true then nest + 1 else if inB x closers = true then nest - 1 else nest) = if inB x closers = true then (if inB x openers = true then nest + 1 else nest) - 1 else (if inB x openers = true then nest + 1 else nest)) := Lib.hid (by
      cases ho : inB x openers
      · simp
      · simp [op_cl ho])
    have PA : Hid (∀ W, PassAt W b s x a nest at_ e = RAt W b s (lexW s (skip s (a + x.size))).1 (lexW s (skip s (a + x.size))).2 (skip s (a + x.size)) (if inB x openers = true then nest + 1 else if inB x closers = true then nest - 1 else nest) (if inB x openers = true ∧ 64 < nest + 1 ∧ e = 0 then a else at_) (if inB x openers = true ∧ 64 < nest + 1 ∧ e = 0 then 4 else e)) := Lib.hid (fun W => rfl)
    rw [HP.out] at PA
    clear HP
    generalize (if inB x openers = true then nest + 1 else nest) = N1 at *
    generalize (if inB x openers = true ∧ 64 < nest + 1 ∧ e = 0 then (a : Int) else at_) = A1 at *
    generalize (if inB x openers = true ∧ 64 < nest + 1 ∧ e = 0 then (4 : Int) else e) = E1 at *
    have e2 := hx.c2
    go_wp2_with fail
    refine (rin_list x closers (by decide) wc rfl).mono ?_
    rintro e1 w2 ⟨rfl, rfl⟩
    have h2 := hx.grow ((Kept.refl _ _).alloc (.cells (closers.map Value.string).toArray 9))
    have k2 : Kept (fun x => x = b) w (wc.alloc (.cells (closers.map Value.string).toArray 9)) := kx.alloc _
    generalize wc.alloc (.cells (closers.map Value.string).toArray 9) = w2 at *
    have g4 := h2.c4
    have q4 := h2.fz 4
    go_upto_if 34 with (fail)
    go_cut [] (fun wd => RAt wd b s k x a (if inB x closers = true then N1 - 1 else N1) A1 E1 ∧ Kept (fun x => x = b) w wd)
    case first =>
      cases hc : inB x closers
      · go_wp2_with fail
        go_meet
        exact ⟨by simpa [hc] using h2, k2⟩
      · go_wp2_with fail
        go_meet
        exact ⟨by simpa [hc] using h2.nest' (N1 - 1), k2.setCell (Or.inl rfl) _⟩
    case rest =>
      obtain ⟨hy, ky⟩ := hcut
      generalize (if inB x closers = true then N1 - 1 else N1) = N2 at *
      have d0 := hy.c0
      have d1 := hy.c1
      have d2 := hy.c2
      have d3 := hy.c3
      have f1 := hy.fz 1
      have f2 := hy.fz 2
      have f3 := hy.fz 3
      clear h hx h1 h2 c2 hb1 hn1 hn2 hn
      have hsz := hs
      have haz := ha
      go_wp2_with fail
      have HW : Hid (IntKind.i64.wrap ((a : Int) + (x.size : Int)) = ((a + x.size : Nat) : Int)) := Lib.hid ((IntWalk.i64_in _ (by omega)).trans (by omega))
      go_region_with (go_at_call 35; refine (rlex_at s (a + x.size) _ HW.out _ ha hs).mono ?_; rintro e3 w3 ⟨rfl, k3'⟩; have k3 : Kept (fun _ => False) wc w3 := ((Kept.refl _ _).drew).trans k3'; have h3 := hy.grow k3; have m0 := h3.c0; have m1 := h3.c1; have m2 := h3.c2; have m3 := h3.c3; have n1 := h3.fz 1; have n2 := h3.fz 2; have n3 := h3.fz 3)
      all_goals
        go_end0
        exact ⟨rfl, by rw [PA.out]; exact h3.tok' _ _ _, ((ky.trans (k3.mono (fun _ _ h => h.elim))).setCell (Or.inl rfl) _ |>.setCell (Or.inl rfl) _ |>.setCell (Or.inl rfl) _)⟩
end Go.Proofs.YtckjlliobebodaaGreatDoor
/- The document's parser: its state against the program's, and its small methods. -/
set_option linter.unusedVariables false
set_option linter.unusedSimpArgs false
namespace Go.Proofs.YtckjlliobebodaaGreatDoor
open Go.RowKit
/-- A state whose token is that of the source. -/
structure Tk (s : ByteArray) (σ : PS) : Prop where
  tok : tokAt s σ.ta = some (σ.p, σ.k, σ.tx, σ.n)
  le : σ.ta ≤ s.size
  nest : σ.nest ≤ 64
/-- The document's parser lies in memory as a state of the program's, or as an error that is known or pending. -/
def RQ (w : World) (b : Nat) (s : ByteArray) : Except ER PS → Prop
  | .ok σ => RAt w b s (lexW s σ.ta).1 (lexW s σ.ta).2 σ.ta σ.nest 0 0 ∧ Tk s σ
  | .error r => (r.1 = false ∧ ∃ x nest, RAt w b s 5 x r.2 nest 0 0) ∨ ∃ k x a nest, RAt w b s k x a nest r.2 (if r.1 = true then 4 else 2)
structure RR (w : World) (b : Nat) (s : ByteArray) (q : Except ER PS) : Prop where
  src : s.size ≤ 65536
  st : RQ w b s q
theorem RQ.kept {w w' : World} {b : Nat} {s : ByteArray} {S : Nat → Prop} (hk : Kept S w w') (hs : ¬ S b) : ∀ {q : Except ER PS}, RQ w b s q → RQ w' b s q
  | .ok _, ⟨h, t⟩ => ⟨h.kept hk hs, t⟩
  | .error _, .inl ⟨h, x, n, r⟩ => .inl ⟨h, x, n, r.kept hk hs⟩
  | .error _, .inr ⟨k, x, a, n, r⟩ => .inr ⟨k, x, a, n, r.kept hk hs⟩
theorem RR.kept {w w' : World} {b : Nat} {s : ByteArray} {q : Except ER PS} {S : Nat → Prop} (h : RR w b s q) (hk : Kept S w w') (hs : ¬ S b) : RR w' b s q := ⟨h.src, h.st.kept hk hs⟩
theorem RR.lt {w : World} {b : Nat} {s : ByteArray} {q : Except ER PS} (h : RR w b s q) : b < w.heap.size := by
  have := h.st
  match q, this with
  | .ok _, ⟨h, _⟩ => exact Blk.lt h
  | .error _, .inl ⟨_, _, _, h⟩ => exact Blk.lt h
  | .error _, .inr ⟨_, _, _, _, h⟩ => exact Blk.lt h
theorem RR.alloc {w : World} {b : Nat} {s : ByteArray} {q : Except ER PS} (h : RR w b s q) (o : Obj) : RR (w.alloc o) b s q := h.kept (S := fun _ => False) ((Kept.refl _ _).alloc o) id
theorem RR.drew {w : World} {b : Nat} {s : ByteArray} {q : Except ER PS} (h : RR w b s q) : RR w.drew b s q := h.kept (S := fun _ => False) ((Kept.refl _ _).drew) id
theorem RR.store {w : World} {b : Nat} {s : ByteArray} {q : Except ER PS} (h : RR w b s q) {p : Addr} (hb : p.block ≠ b) (v : Value) : RR (w.setCell p v) b s q :=
  h.kept (S := (· = p.block)) ((Kept.refl (fun x => x = p.block) _).setCell (Or.inl rfl) v) (fun e => hb e.symm)
theorem Tk.lex {s : ByteArray} {σ : PS} (h : Tk s σ) : σ.p = σ.ta + (lexW s σ.ta).2.size ∧ σ.p ≤ s.size ∧ TokR s σ.ta σ.k σ.tx σ.n := by
  have := lex_tok h.le
  rw [h.tok] at this
  exact this
theorem is_lex {s : ByteArray} {σ : PS} (h : Tk s σ) (t : ByteArray) : isR (lexW s σ.ta).1 (lexW s σ.ta).2 t = isS σ t := by
  have hr := h.lex.2.2
  unfold isR isS isB
  generalize σ.k = k at hr ⊢
  generalize σ.tx = tx at hr ⊢
  generalize σ.n = n at hr
  cases hr with
  | fin h _ => rw [h]; rfl
  | word _ h hk _ =>
    rw [h]
    cases e : (tx.toList == t.toList)
    · simp
    · have : keywordB t = keywordB tx := by unfold keywordB; rw [eq_of_beq e]
      simp [this, hk]
  | name _ h hk _ _ =>
    rw [h]
    cases e : (tx.toList == t.toList)
    · simp
    · have : keywordB t = keywordB tx := by unfold keywordB; rw [eq_of_beq e]
      simp [this, hk]
  | num x _ h _ _ => rw [h]; simp
  | sgn _ h _ => rw [h]; simp
/-- What passing the next token does. -/
def passS (s : ByteArray) (σ : PS) : Except ER PS :=
  if inB (lexW s σ.ta).2 openers = true then (if σ.nest = 64 then .error (true, σ.ta) else advS s { σ with nest := σ.nest + 1 })
  else if inB (lexW s σ.ta).2 closers = true then bP (advS s σ) fun σ1 => .ok { σ1 with nest := σ1.nest - 1 }
  else advS s σ
/-- What a method that returns nothing promises. -/
def RU (b : Nat) (s : ByteArray) (q : Except ER PS) (w : World) (e : Ending) (w' : World) : Prop := e = .returned (.tuple #[]) ∧ RR w' b s q ∧ Kept (· = b) w w'
theorem adv_rq {w' : World} {b : Nat} {s : ByteArray} {σ : PS} {fr : Nat} (hs : s.size ≤ 65536) (hfr : skip s σ.p = fr) (hle : fr ≤ s.size) (hn : σ.nest ≤ 64) (h : RAt w' b s (lexW s fr).1 (lexW s fr).2 fr σ.nest 0 0) : RR w' b s (advS s σ) := by
  refine ⟨hs, ?_⟩
  have hl := lex_tok hle
  unfold advS
  rw [hfr]
  cases ht : tokAt s fr with
  | none =>
    rw [ht] at hl
    rw [hl.1] at h
    exact Or.inl ⟨rfl, _, _, h⟩
  | some t =>
    exact ⟨h, ⟨ht, hle, hn⟩⟩
theorem pass_ok {w : World} {b : Nat} {s : ByteArray} {σ : PS} (h : RR w b s (.ok σ)) (hc : inB (lexW s σ.ta).2 closers = true → 1 ≤ σ.nest) :
    Calls Tryz.prog 75 #[.pointer (some ⟨b, 0, none⟩)] w (RU b s (passS s σ) w) := by
  obtain ⟨hs, hat, tk⟩ := h
  have hx := tk.lex
  have hn := tk.nest
  refine (pass_any hat hs (by omega) (by omega)).mono ?_
  rintro r w' ⟨rfl, hp, kp⟩
  refine ⟨rfl, ?_, kp⟩
  unfold PassAt at hp
  rw [← hx.1] at hp
  have hle := skip_le s σ.p hx.2.1
  unfold passS
  cases ho : inB (lexW s σ.ta).2 openers
  · rw [ho] at hp
    rw [if_neg (by simp)]
    cases hcl : inB (lexW s σ.ta).2 closers
    · rw [hcl] at hp
      rw [if_neg (by simp)]
      exact adv_rq hs rfl hle hn (by simpa using hp)
    · rw [hcl] at hp
      have h1 := hc hcl
      rw [if_pos rfl]
      have key := adv_rq (σ := { σ with nest := σ.nest - 1 }) hs rfl hle (by show σ.nest - 1 ≤ 64; omega) (w' := w') (b := b) (by
        have e : ((σ.nest - 1 : Nat) : Int) = (σ.nest : Int) - 1 := by omega
        show RAt w' b s _ _ _ ((σ.nest - 1 : Nat) : Int) 0 0
        rw [e]; simpa using hp)
      have e2 : (bP (advS s σ) fun σ1 => .ok { σ1 with nest := σ1.nest - 1 }) = advS s { σ with nest := σ.nest - 1 } := by
        unfold advS
        show bP (match tokAt s (skip s σ.p) with | some t => _ | none => _) _ = (match tokAt s (skip s σ.p) with | some t => _ | none => _)
        cases tokAt s (skip s σ.p) <;> rfl
      rw [e2]; exact key
  · rw [ho] at hp
    rw [if_pos rfl]
    by_cases h64 : σ.nest = 64
    · rw [if_pos h64]
      have hc : (true = true ∧ (64 : Int) < (σ.nest : Int) + 1 ∧ (0 : Int) = 0) := ⟨rfl, by omega, rfl⟩
      rw [if_pos rfl, if_pos hc, if_pos hc] at hp
      exact ⟨hs, Or.inr ⟨_, _, _, _, hp⟩⟩
    · rw [if_neg h64]
      have hc : ¬ (true = true ∧ (64 : Int) < (σ.nest : Int) + 1 ∧ (0 : Int) = 0) := fun q => by have := q.2.1; omega
      rw [if_pos rfl, if_neg hc, if_neg hc] at hp
      exact adv_rq (σ := { σ with nest := σ.nest + 1 }) hs rfl hle (by show σ.nest + 1 ≤ 64; omega) (by simpa using hp)
/-- An opening bracket too deep: the state outright. -/
theorem pass_deep {w : World} {b : Nat} {s : ByteArray} {σ : PS} (h : RR w b s (.ok σ)) (ho : inB (lexW s σ.ta).2 openers = true) (h64 : σ.nest = 64) :
    Calls Tryz.prog 75 #[.pointer (some ⟨b, 0, none⟩)] w fun e w' => e = .returned (.tuple #[]) ∧ (∃ (k : Int) (x : ByteArray) (a : Nat), RAt w' b s k x a 65 σ.ta 4 ∧ a + x.size ≤ s.size) ∧ Kept (· = b) w w' := by
  obtain ⟨hs, hat, tk⟩ := h
  have hx := tk.lex
  have hn := tk.nest
  refine (pass_any hat hs (by omega) (by omega)).mono ?_
  rintro r w' ⟨rfl, hp, kp⟩
  refine ⟨rfl, ?_, kp⟩
  unfold PassAt at hp
  rw [← hx.1] at hp
  have hle := skip_le s σ.p hx.2.1
  have hc : (inB (lexW s σ.ta).2 openers = true ∧ (64 : Int) < (σ.nest : Int) + 1 ∧ (0 : Int) = 0) := ⟨ho, by omega, rfl⟩
  rw [if_pos ho, if_pos hc, if_pos hc] at hp
  refine ⟨_, _, _, by rw [show (65 : Int) = (σ.nest : Int) + 1 by omega]; exact hp, ?_⟩
  have hl := lex_tok hle
  cases ht : tokAt s (skip s σ.p) with
  | none => rw [ht] at hl; exact hl.2
  | some t => rw [ht] at hl; have := hl.1; have := hl.2.1; omega
def mustS (s t : ByteArray) (σ : PS) : Except ER PS := if isS σ t = true then passS s σ else .error (false, σ.ta)
theorem is_tx {s : ByteArray} {σ : PS} {t : ByteArray} (h : Tk s σ) (hi : isS σ t = true) : (lexW s σ.ta).2 = t := by
  rw [← is_lex h t] at hi
  unfold isR at hi
  rw [Bool.and_eq_true] at hi
  exact toList_inj (eq_of_beq hi.2)
theorem pass_want {s : ByteArray} {σ : PS} {t : ByteArray} (h : Tk s σ) (hi : isS σ t = true) (ho : inB t openers = false) (hc : inB t closers = false) : passS s σ = advS s σ := by
  unfold passS; rw [is_tx h hi, ho, hc]; rfl
theorem pass_open {s : ByteArray} {σ : PS} {t : ByteArray} (h : Tk s σ) (hi : isS σ t = true) (ho : inB t openers = true) : passS s σ = openS s σ t := by
  unfold passS openS; rw [is_tx h hi, ho, hi, if_pos rfl, if_pos rfl]
theorem want_yes {s : ByteArray} {σ : PS} {t : ByteArray} (hi : isS σ t = true) : wantS s σ t = advS s σ := by
  unfold wantS eatS
  rw [if_pos hi]
  cases advS s σ <;> rfl
theorem pass_shut {s : ByteArray} {σ : PS} {t : ByteArray} (h : Tk s σ) (hi : isS σ t = true) (hc : inB t closers = true) : passS s σ = shutS s σ t := by
  have ho : inB t openers = false := by
    cases e : inB t openers
    · rfl
    · rw [op_cl e] at hc; cases hc
  unfold passS shutS; rw [is_tx h hi, ho, hc, want_yes hi]
  cases advS s σ <;> rfl
theorem must_want {s : ByteArray} {σ : PS} {t : ByteArray} (h : Tk s σ) (ho : inB t openers = false) (hc : inB t closers = false) : mustS s t σ = wantS s σ t := by
  unfold mustS
  cases hi : isS σ t
  · unfold wantS eatS; rw [hi]; rfl
  · rw [if_pos rfl, pass_want h hi ho hc, want_yes hi]
theorem must_open {s : ByteArray} {σ : PS} {t : ByteArray} (h : Tk s σ) (ho : inB t openers = true) : mustS s t σ = openS s σ t := by
  unfold mustS
  cases hi : isS σ t
  · unfold openS; rw [hi]; rfl
  · rw [if_pos rfl, pass_open h hi ho]
theorem must_shut {s : ByteArray} {σ : PS} {t : ByteArray} (h : Tk s σ) (hc : inB t closers = true) : mustS s t σ = shutS s σ t := by
  unfold mustS
  cases hi : isS σ t
  · unfold shutS wantS eatS; rw [hi]; rfl
  · rw [if_pos rfl, pass_shut h hi hc]
theorem e_dead (d : Bool) : (((if d = true then 4 else 2 : Int)) == 0) = false := by cases d <;> rfl
set_option maxHeartbeats 1000000 in
theorem must_any {w : World} {b : Nat} {s : ByteArray} {q : Except ER PS} (h : RR w b s q) (t : ByteArray) (hc : ∀ σ, q = .ok σ → inB t closers = true → 1 ≤ σ.nest) :
    Calls Tryz.prog 90 #[.pointer (some ⟨b, 0, none⟩), .string t] w (RU b s (bP q (mustS s t)) w) := by
  have hs := h.src
  match q, h, h.st with
  | .error r, h, .inl ⟨hd, x, nest, hat⟩ =>
    go_enter Tryz.func90, Tryz.ntmps90
    go_wp2_with (first | (go_at_call 38; refine (rok_any hat rfl).mono ?_; rintro e w' ⟨rfl, rfl⟩) | (go_at_call 74; refine (ris_any hat t rfl).mono ?_; rintro e w' ⟨rfl, rfl⟩) | (go_at_call 78; refine (rwrong_live hat rfl).mono ?_; rintro e w' ⟨rfl, h', k'⟩))
    go_end0
    exact ⟨rfl, ⟨hs, Or.inr ⟨_, _, _, _, by rw [hd]; exact h'⟩⟩, k'⟩
  | .error r, h, .inr ⟨k, x, a, nest, hat⟩ =>
    go_enter Tryz.func90, Tryz.ntmps90
    go_wp2_with (first | (go_at_call 38; refine (rok_any hat (e_dead _)).mono ?_; rintro e w' ⟨rfl, rfl⟩))
    go_end0
    exact ⟨rfl, h, Kept.refl _ _⟩
  | .ok σ, h, ⟨hat, tk⟩ =>
    have hc' := Lib.hid (hc σ rfl)
    clear hc
    cases hi : isS σ t
    · have HI := Lib.hid ((is_lex tk t).trans hi)
      have HR := Lib.hid (show bP (.ok σ) (mustS s t) = .error (false, σ.ta) by show mustS s t σ = _; unfold mustS; rw [hi]; rfl)
      clear hi
      go_enter Tryz.func90, Tryz.ntmps90
      go_wp2_with (first | (go_at_call 38; refine (rok_any hat rfl).mono ?_; rintro e w' ⟨rfl, rfl⟩) | (go_at_call 74; refine (ris_any hat t HI.out).mono ?_; rintro e w' ⟨rfl, rfl⟩) | (go_at_call 78; refine (rwrong_live hat rfl).mono ?_; rintro e w' ⟨rfl, h', k'⟩))
      go_end0
      exact ⟨rfl, ⟨hs, by rw [HR.out]; exact Or.inr ⟨_, _, _, _, h'⟩⟩, k'⟩
    · have HI := Lib.hid ((is_lex tk t).trans hi)
      have HX := Lib.hid (is_tx tk hi)
      have HR := Lib.hid (show bP (.ok σ) (mustS s t) = passS s σ by show mustS s t σ = _; unfold mustS; rw [hi]; rfl)
      clear hi
      go_enter Tryz.func90, Tryz.ntmps90
      go_wp2_with (first | (go_at_call 38; refine (rok_any hat rfl).mono ?_; rintro e w' ⟨rfl, rfl⟩) | (go_at_call 74; refine (ris_any hat t HI.out).mono ?_; rintro e w' ⟨rfl, rfl⟩) | (go_at_call 75; refine (pass_ok h (fun q => hc'.out (by rw [← HX.out]; exact q))).mono ?_; rintro e w' ⟨rfl, h', k'⟩))
      go_end0
      exact ⟨rfl, by rw [HR.out]; exact h', k'⟩
set_option maxHeartbeats 1000000 in
theorem primed_any (x : ByteArray) (w : World) (hs : x.size ≤ 65536) {v : Bool} (hv : primB x = v) :
    Calls Tryz.prog 89 #[.string x] w fun e w' => e = .returned (.bool v) ∧ Kept (fun _ => False) w w' := by
  unfold primB at hv
  by_cases h1 : 1 < x.size
  · rw [dif_pos h1] at hv
    have i1 : (1 : Int) < (x.size : Int) := by omega
    have i2 : x.size - 1 < x.size := by omega
    have i3 : (x.size : Int) - 1 = ((x.size - 1 : Nat) : Int) := by omega
    cases h39 : ((x[x.size - 1].toNat : Int) == 39)
    · rw [h39] at hv
      have HV := Lib.hid hv
      clear hv
      go_enter Tryz.func89, Tryz.ntmps89
      go_wp2_with fail
      go_ret
      exact ⟨by rw [← HV.out]; rfl, Kept.refl _ _⟩
    · rw [h39] at hv
      have HV := Lib.hid hv
      clear hv
      have hz : (x.extract 0 (x.size - 1)).size ≤ 9223372036854775807 := by rw [ByteArray.size_extract]; omega
      go_enter Tryz.func89, Tryz.ntmps89
      go_wp2_with fail
      refine (rident_any _ _ hz).mono ?_
      rintro e w' ⟨rfl, k'⟩
      go_wp2_with fail
      go_ret
      exact ⟨by rw [← HV.out]; simp, k'⟩
  · rw [dif_neg h1] at hv
    have i1 : ¬ (1 : Int) < (x.size : Int) := by omega
    have HV := Lib.hid hv
    clear hv
    go_enter Tryz.func89, Tryz.ntmps89
    go_wp2_with fail
    go_ret
    exact ⟨by rw [← HV.out]; rfl, Kept.refl _ _⟩
theorem tok_yes {s : ByteArray} {σ : PS} (h : Tk s σ) (hk : σ.k = 1) (hi : identB σ.tx = true) : lexW s σ.ta = (1, σ.tx) ∧ primB σ.tx = false ∧ noBr σ.tx := by
  have hr := h.lex.2.2
  revert hr
  generalize hkk : σ.k = k
  generalize htt : σ.tx = tx
  generalize σ.n = n
  rw [hkk] at hk
  rw [htt] at hi
  intro hr
  cases hr with
  | fin _ _ => cases hk
  | word _ h hw _ => rw [ident_word hi] at hw; cases hw
  | name _ h hw hp hn => exact ⟨h, by rw [hp, hi]; rfl, hn⟩
  | num _ _ _ _ _ => cases hk
  | sgn _ _ _ => cases hk
theorem tok_no {s : ByteArray} {σ : PS} (h : Tk s σ) (hc : ¬ (σ.k = 1 ∧ identB σ.tx = true)) : ((lexW s σ.ta).1 == 1) = false ∨ ((lexW s σ.ta).1 = 1 ∧ primB (lexW s σ.ta).2 = true) := by
  have hr := h.lex.2.2
  revert hr
  generalize hkk : σ.k = k
  generalize htt : σ.tx = tx
  generalize σ.n = n
  rw [hkk, htt] at hc
  intro hr
  cases hr with
  | fin h _ => rw [h]; exact Or.inl rfl
  | word _ h hw _ => rw [h]; exact Or.inl rfl
  | name _ h hw hp hn =>
    rw [h]
    refine Or.inr ⟨rfl, ?_⟩
    cases e : identB tx
    · rw [hp, e]; rfl
    · exact absurd ⟨rfl, e⟩ hc
  | num _ _ h _ _ => rw [h]; exact Or.inl rfl
  | sgn _ h _ => rw [h]; exact Or.inl rfl
theorem lex_le {s : ByteArray} {σ : PS} (h : Tk s σ) (hs : s.size ≤ 65536) : (lexW s σ.ta).2.size ≤ 65536 := by have := h.lex.1; have := h.lex.2.1; omega
def LE {α : Type} (b : Nat) (s : ByteArray) (r : Except ER (α × PS)) (a : α) (w' : World) : Prop := match r with | .error x => RR w' b s (.error x) | .ok (a', σ') => a' = a ∧ RR w' b s (.ok σ')
/-- What a method that returns a value promises. -/
def LV {α : Type} (b : Nat) (s : ByteArray) (V : α → World → Value → Prop) (r : Except ER (α × PS)) (w : World) (e : Ending) (w' : World) : Prop := ∃ a v, e = .returned v ∧ V a w' v ∧ LE b s r a w' ∧ Kept (· = b) w w'
def stT {α : Type} (r : Except ER (α × PS)) : Except ER PS := match r with | .error x => .error x | .ok (_, σ) => .ok σ
theorem LE.rr {α : Type} {b : Nat} {s : ByteArray} {r : Except ER (α × PS)} {a : α} {w' : World} (h : LE b s r a w') : RR w' b s (stT r) := by
  match r, h with
  | .error x, h => exact h
  | .ok (a', σ'), h => exact h.2
theorem LE.of {α : Type} {b : Nat} {s : ByteArray} {r : Except ER (α × PS)} {a : α} {w' : World} (h : RR w' b s (stT r)) (ha : ∀ a' σ', r = .ok (a', σ') → a' = a) : LE b s r a w' := by
  match r, h, ha with
  | .error x, h, _ => exact h
  | .ok (a', σ'), h, ha => exact ⟨ha _ _ rfl, h⟩
theorem LE.val {α : Type} {b : Nat} {s : ByteArray} {r : Except ER (α × PS)} {a : α} {w' : World} (h : LE b s r a w') : ∀ a' σ', r = .ok (a', σ') → a' = a := by
  rintro a' σ' rfl; exact h.1
/-- A string of at most so many bytes. -/
def VSt (x : ByteArray) (_ : World) (v : Value) : Prop := v = .string x ∧ x.size ≤ 65536
theorem name_no {s : ByteArray} {σ : PS} (hc : ¬ (σ.k = 1 ∧ identB σ.tx = true)) : nameS s σ = .error (false, σ.ta) := by unfold nameS; rw [if_neg hc]
set_option maxHeartbeats 1000000 in
theorem rname_any {w : World} {b : Nat} {s : ByteArray} {q : Except ER PS} (h : RR w b s q) : Calls Tryz.prog 169 #[.pointer (some ⟨b, 0, none⟩)] w (LV b s VSt (bP q (nameS s)) w) := by
  have hs := h.src
  match q, h, h.st with
  | .error r, h, .inl ⟨hd, x, nest, hat⟩ =>
    have c1 := hat.c1
    have c2 := hat.c2
    go_enter Tryz.func169, Tryz.ntmps169
    go_wp2_with (first | (go_at_call 38; refine (rok_any hat rfl).mono ?_; rintro e w' ⟨rfl, rfl⟩) | (go_at_call 78; refine (rwrong_live hat rfl).mono ?_; rintro e w' ⟨rfl, h', k'⟩))
    go_ret
    exact ⟨⟨#[]⟩, _, rfl, ⟨rfl, Nat.zero_le _⟩, ⟨hs, Or.inr ⟨_, _, _, _, by rw [hd]; exact h'⟩⟩, k'⟩
  | .error r, h, .inr ⟨k, x, a, nest, hat⟩ =>
    have c1 := hat.c1
    have c2 := hat.c2
    go_enter Tryz.func169, Tryz.ntmps169
    go_wp2_with (first | (go_at_call 38; refine (rok_any hat (e_dead _)).mono ?_; rintro e w' ⟨rfl, rfl⟩))
    go_ret
    exact ⟨⟨#[]⟩, _, rfl, ⟨rfl, Nat.zero_le _⟩, h, Kept.refl _ _⟩
  | .ok σ, h, ⟨hat, tk⟩ =>
    have hz := lex_le tk hs
    by_cases hc : σ.k = 1 ∧ identB σ.tx = true
    · obtain ⟨t1, t2, t3, t4⟩ := tok_yes tk hc.1 hc.2
      have HP := Lib.hid (show passS s σ = advS s σ by unfold passS; rw [t1, t3, t4]; rfl)
      have HC := Lib.hid (show inB (lexW s σ.ta).2 closers = true → 1 ≤ σ.nest by rw [t1, t4]; intro e; cases e)
      have HN := Lib.hid (show nameS s σ = match advS s σ with | .ok σ' => .ok (σ.tx, σ') | .error r => .error r by unfold nameS; rw [if_pos hc]; rfl)
      rw [t1] at hat hz
      have H2 := Lib.hid t2
      clear t2 t3 t4 hc t1
      have c1 := hat.c1
      have c2 := hat.c2
      go_enter Tryz.func169, Tryz.ntmps169
      go_wp2_with (first | (go_at_call 38; refine (rok_any hat rfl).mono ?_; rintro e w' ⟨rfl, rfl⟩))
      refine (primed_any σ.tx w hz H2.out).mono ?_
      rintro e w1 ⟨rfl, k1⟩
      have h1 := h.kept k1 id
      go_wp2_with fail
      refine (pass_ok h1 HC.out).mono ?_
      rintro e w2 ⟨rfl, h2, k2⟩
      go_wp2_with fail
      go_ret
      refine ⟨σ.tx, _, rfl, ⟨rfl, hz⟩, ?_, (k1.mono (fun _ _ h => h.elim)).trans k2⟩
      show LE b s (nameS s σ) σ.tx w2
      rw [HN.out]
      rw [HP.out] at h2
      cases ha : advS s σ with
      | ok σ' => rw [ha] at h2; exact ⟨rfl, h2⟩
      | error r => rw [ha] at h2; exact h2
    · have HR := Lib.hid (show bP (.ok σ) (nameS s) = .error (false, σ.ta) from name_no hc)
      have hno := tok_no tk hc
      clear hc
      have c1 := hat.c1
      have c2 := hat.c2
      rcases hno with h1 | ⟨h1, h2⟩
      · have h1' : ((lexW s σ.ta).1 != 1) = true := by rw [bne, h1]; rfl
        clear h1
        go_enter Tryz.func169, Tryz.ntmps169
        go_wp2_with (first | (go_at_call 38; refine (rok_any hat rfl).mono ?_; rintro e w' ⟨rfl, rfl⟩) | (go_at_call 78; refine (rwrong_live hat rfl).mono ?_; rintro e w' ⟨rfl, h', k'⟩))
        go_ret
        exact ⟨⟨#[]⟩, _, rfl, ⟨rfl, Nat.zero_le _⟩, by rw [HR.out]; exact ⟨hs, Or.inr ⟨_, _, _, _, h'⟩⟩, k'⟩
      · rw [h1] at c1
        have H2 := Lib.hid h2
        clear h1 h2
        go_enter Tryz.func169, Tryz.ntmps169
        go_wp2_with (first | (go_at_call 38; refine (rok_any hat rfl).mono ?_; rintro e w' ⟨rfl, rfl⟩))
        refine (primed_any _ w hz H2.out).mono ?_
        rintro e w1 ⟨rfl, k1⟩
        have hat1 := hat.grow k1
        go_wp2_with (first | (go_at_call 78; refine (rwrong_live hat1 rfl).mono ?_; rintro e w' ⟨rfl, h', k'⟩))
        go_ret
        exact ⟨⟨#[]⟩, _, rfl, ⟨rfl, Nat.zero_le _⟩, by rw [HR.out]; exact ⟨hs, Or.inr ⟨_, _, _, _, h'⟩⟩, (k1.mono (fun _ _ h => h.elim)).trans k'⟩
/-- The end of a source. -/
def endS (σ : PS) : Except ER PS := if σ.k = 0 then .ok σ else .error (false, σ.ta)
theorem tok_end {s : ByteArray} {σ : PS} (h : Tk s σ) : ((lexW s σ.ta).1 != 0) = (σ.k != 0) := by
  have hr := h.lex.2.2
  revert hr
  generalize σ.k = k
  generalize σ.tx = tx
  generalize σ.n = n
  intro hr
  cases hr with
  | fin h _ => rw [h]; try rfl
  | word _ h _ _ => rw [h]; try rfl
  | name _ h _ _ _ => rw [h]; try rfl
  | num _ _ h _ _ => rw [h]; try rfl
  | sgn _ h _ => rw [h]; try rfl
set_option maxHeartbeats 1000000 in
theorem end_any {w : World} {b : Nat} {s : ByteArray} {q : Except ER PS} (h : RR w b s q) : Calls Tryz.prog 37 #[.pointer (some ⟨b, 0, none⟩)] w (RU b s (bP q endS) w) := by
  have hs := h.src
  match q, h, h.st with
  | .error r, h, .inl ⟨hd, x, nest, hat⟩ =>
    have c1 := hat.c1
    go_enter Tryz.func37, Tryz.ntmps37
    go_wp2_with (first | (go_at_call 38; refine (rok_any hat rfl).mono ?_; rintro e w' ⟨rfl, rfl⟩) | (go_at_call 78; refine (rwrong_live hat rfl).mono ?_; rintro e w' ⟨rfl, h', k'⟩))
    go_end0
    exact ⟨rfl, ⟨hs, Or.inr ⟨_, _, _, _, by rw [hd]; exact h'⟩⟩, k'⟩
  | .error r, h, .inr ⟨k, x, a, nest, hat⟩ =>
    go_enter Tryz.func37, Tryz.ntmps37
    go_wp2_with (first | (go_at_call 38; refine (rok_any hat (e_dead _)).mono ?_; rintro e w' ⟨rfl, rfl⟩))
    go_end0
    exact ⟨rfl, h, Kept.refl _ _⟩
  | .ok σ, h, ⟨hat, tk⟩ =>
    have c1 := hat.c1
    have he := tok_end tk
    cases hk : (σ.k != 0)
    · rw [hk] at he
      have HR := Lib.hid (show bP (.ok σ) endS = .ok σ by show endS σ = _; unfold endS; rw [if_pos (by simpa using hk)])
      clear hk
      go_enter Tryz.func37, Tryz.ntmps37
      go_wp2_with (first | (go_at_call 38; refine (rok_any hat rfl).mono ?_; rintro e w' ⟨rfl, rfl⟩))
      go_end0
      exact ⟨rfl, by rw [HR.out]; exact h, Kept.refl _ _⟩
    · rw [hk] at he
      have HR := Lib.hid (show bP (.ok σ) endS = .error (false, σ.ta) by show endS σ = _; unfold endS; rw [if_neg (by simpa using hk)])
      clear hk
      go_enter Tryz.func37, Tryz.ntmps37
      go_wp2_with (first | (go_at_call 38; refine (rok_any hat rfl).mono ?_; rintro e w' ⟨rfl, rfl⟩) | (go_at_call 78; refine (rwrong_live hat rfl).mono ?_; rintro e w' ⟨rfl, h', k'⟩))
      go_end0
      exact ⟨rfl, by rw [HR.out]; exact ⟨hs, Or.inr ⟨_, _, _, _, h'⟩⟩, k'⟩
theorem RR.tk {w : World} {b : Nat} {s : ByteArray} {q : Except ER PS} (h : RR w b s q) {σ : PS} (e : q = .ok σ) : Tk s σ := by subst e; exact h.st.2
theorem rmust_want {w : World} {b : Nat} {s : ByteArray} {q : Except ER PS} (h : RR w b s q) (t : ByteArray) (ho : inB t openers = false) (hc : inB t closers = false) :
    Calls Tryz.prog 90 #[.pointer (some ⟨b, 0, none⟩), .string t] w (RU b s (bP q fun σ => wantS s σ t) w) := by
  have e : (bP q fun σ => wantS s σ t) = bP q (mustS s t) := bP_congr fun σ e => (must_want (h.tk e) ho hc).symm
  rw [e]; exact must_any h t (fun σ _ q => by rw [hc] at q; cases q)
theorem rmust_open {w : World} {b : Nat} {s : ByteArray} {q : Except ER PS} (h : RR w b s q) (t : ByteArray) (ho : inB t openers = true) :
    Calls Tryz.prog 90 #[.pointer (some ⟨b, 0, none⟩), .string t] w (RU b s (bP q fun σ => openS s σ t) w) := by
  have e : (bP q fun σ => openS s σ t) = bP q (mustS s t) := bP_congr fun σ e => (must_open (h.tk e) ho).symm
  rw [e]; exact must_any h t (fun σ _ q => by rw [op_cl ho] at q; cases q)
theorem rmust_shut {w : World} {b : Nat} {s : ByteArray} {q : Except ER PS} (h : RR w b s q) (t : ByteArray) (hc : inB t closers = true) (hn : ∀ σ, q = .ok σ → 1 ≤ σ.nest) :
    Calls Tryz.prog 90 #[.pointer (some ⟨b, 0, none⟩), .string t] w (RU b s (bP q fun σ => shutS s σ t) w) := by
  have e : (bP q fun σ => shutS s σ t) = bP q (mustS s t) := bP_congr fun σ e => (must_shut (h.tk e) hc).symm
  rw [e]; exact must_any h t (fun σ e _ => hn σ e)
/-- Where a state can stand: at most m is still to come, and n brackets are open. -/
def QB (s : ByteArray) (q : Except ER PS) (m n : Nat) : Prop := ∀ σ, q = .ok σ → mu s σ ≤ m ∧ σ.p ≤ s.size ∧ σ.nest = n
section
variable {s : ByteArray} {q : Except ER PS} {m n : Nat}
theorem qb_ok {σ : PS} (hp : σ.p ≤ s.size) : QB s (.ok σ) (mu s σ) σ.nest := by rintro _ ⟨⟩; exact ⟨Nat.le_refl _, hp, rfl⟩
theorem qb_adv {σ : PS} (hp : σ.p ≤ s.size) (hk : σ.k ≠ 0) : QB s (advS s σ) (mu s σ - 1) σ.nest := by
  intro σ' h
  have := inv_adv hp hk h
  exact ⟨by omega, this.2.1, this.2.2⟩
theorem qb_open1 {σ : PS} (hp : σ.p ≤ s.size) (t : ByteArray) : QB s (openS s σ t) (mu s σ - 1) (σ.nest + 1) := by
  intro σ' h
  have := inv_open hp h
  exact ⟨by omega, this.2.1, this.2.2⟩
theorem qb_want (h : QB s q m n) (t : ByteArray) : QB s (bP q fun σ => wantS s σ t) (m - 1) n := by
  intro σ' e
  obtain ⟨σ, rfl, e⟩ := bP_ok e
  have a := h σ rfl
  have := inv_want a.2.1 e
  exact ⟨by omega, this.2.1, by omega⟩
theorem qb_open (h : QB s q m n) (t : ByteArray) : QB s (bP q fun σ => openS s σ t) (m - 1) (n + 1) := by
  intro σ' e
  obtain ⟨σ, rfl, e⟩ := bP_ok e
  have a := h σ rfl
  have := inv_open a.2.1 e
  exact ⟨by omega, this.2.1, by omega⟩
theorem qb_shut (h : QB s q m n) (t : ByteArray) : QB s (bP q fun σ => shutS s σ t) (m - 1) (n - 1) := by
  intro σ' e
  obtain ⟨σ, rfl, e⟩ := bP_ok e
  have a := h σ rfl
  have := inv_shut a.2.1 e
  exact ⟨by omega, this.2.1, by omega⟩
theorem stT_ok {α : Type} {r : Except ER (α × PS)} {σ : PS} (h : stT r = .ok σ) : ∃ a, r = .ok (a, σ) := by
  match r, h with
  | .ok (a, _), rfl => exact ⟨a, rfl⟩
theorem qb_name (h : QB s q m n) : QB s (stT (bP q (nameS s))) (m - 1) n := by
  intro σ' e
  obtain ⟨x, e⟩ := stT_ok e
  obtain ⟨σ, rfl, e⟩ := bP_ok e
  have a := h σ rfl
  have := inv_name a.2.1 e
  exact ⟨by omega, this.2.1, by omega⟩
theorem qb_ty (f : Nat) (h : QB s q m n) : QB s (stT (bP q (typedS f s))) m n := by
  intro σ' e
  obtain ⟨x, e⟩ := stT_ok e
  obtain ⟨σ, rfl, e⟩ := bP_ok e
  have a := h σ rfl
  have := typed_mu f a.2.1 e
  have := typed_nest f e
  exact ⟨by omega, by omega, by omega⟩
theorem qb_T {T : TF} (hI : TInv s T) (k : Nat) (h : QB s q m n) : QB s (stT (bP q (T k))) m n := by
  intro σ' e
  obtain ⟨x, e⟩ := stT_ok e
  obtain ⟨σ, rfl, e⟩ := bP_ok e
  have a := h σ rfl
  have := (hI _ _ _ _ a.2.1 e).1
  unfold Inv at this
  exact ⟨by omega, by omega, by omega⟩
end
section
variable {α β : Type} {b : Nat} {s : ByteArray} {w w' : World}
theorem LE.u {q : Except ER PS} (h : RR w b s q) : LE b s (bP q fun σ => .ok ((), σ)) () w := by
  match q, h with
  | .error _, h => exact h
  | .ok _, h => exact ⟨rfl, h⟩
theorem LE.then_u {r : Except ER (α × PS)} {a : α} (h : LE b s r a w) {F : PS → Except ER PS} (h' : RR w' b s (bP (stT r) F)) : LE b s (bT r fun a' σ => bP (F σ) fun σ' => .ok (a', σ')) a w' := by
  match r, h, h' with
  | .error _, _, h' => exact h'
  | .ok (a', σ), h, h' =>
    obtain ⟨rfl, _⟩ := h
    show LE b s (bP (F σ) fun σ' => .ok (a', σ')) a' w'
    have h'' : RR w' b s (F σ) := h'
    match hF : F σ, h'' with
    | .error _, h' => exact h'
    | .ok _, h' => exact ⟨rfl, h'⟩
theorem LE.then_v {r : Except ER (α × PS)} {a : α} (h : LE b s r a w) {G : PS → Except ER (β × PS)} {a2 : β} (h' : LE b s (bP (stT r) G) a2 w') : LE b s (bT r fun a' σ => bT (G σ) fun a2' σ' => .ok ((a', a2'), σ')) (a, a2) w' := by
  match r, h, h' with
  | .error _, _, h' => exact h'
  | .ok (a', σ), h, h' =>
    obtain ⟨rfl, _⟩ := h
    show LE b s (bT (G σ) fun a2' σ' => .ok ((a', a2'), σ')) (a', a2) w'
    have h'' : LE b s (G σ) a2 w' := h'
    match hG : G σ, h'' with
    | .error _, h' => exact h'
    | .ok (c, σ2), h' => exact ⟨by rw [h'.1], h'.2⟩
theorem LE.map {r : Except ER (α × PS)} {a : α} (h : LE b s r a w) (g : α → β) : LE b s (bT r fun a' σ => .ok (g a', σ)) (g a) w := by
  match r, h with
  | .error _, h => exact h
  | .ok (_, _), h => exact ⟨by rw [h.1], h.2⟩
theorem LE.kept {r : Except ER (α × PS)} {a : α} (h : LE b s r a w) {S : Nat → Prop} (hk : Kept S w w') (hs : ¬ S b) : LE b s r a w' := by
  match r, h with
  | .error _, h => exact RR.kept h hk hs
  | .ok (_, _), h => exact ⟨h.1, h.2.kept hk hs⟩
theorem bT_pure {a : α} {σ : PS} {k : α → PS → Except ER β} : bT (.ok (a, σ)) k = k a σ := rfl
theorem bP_pure {σ : PS} {k : PS → Except ER β} : bP (.ok σ) k = k σ := rfl
theorem bP_bP {q : Except ER PS} {k : PS → Except ER PS} {m : PS → Except ER β} : bP (bP q k) m = bP q fun σ => bP (k σ) m := by cases q <;> rfl
theorem bP_stT {r : Except ER (α × PS)} {k : PS → Except ER β} : bP (stT r) k = bT r fun _ σ => k σ := by
  match r with
  | .error _ => rfl
  | .ok (_, _) => rfl
end
end Go.Proofs.YtckjlliobebodaaGreatDoor
/- Readers of the document: what they promise, and how one comes behind another. -/
set_option linter.unusedVariables false
set_option linter.unusedSimpArgs false
namespace Go.Proofs.YtckjlliobebodaaGreatDoor
open Go.RowKit
section
variable {α β : Type} {b : Nat} {s : ByteArray} {w w' : World}
theorem stT_u {r : Except ER (α × PS)} {F : PS → Except ER PS} : stT (bT r fun a' σ => bP (F σ) fun σ' => .ok (a', σ')) = bP (stT r) F := by
  match r with
  | .error _ => rfl
  | .ok (a, σ) => show stT (bP (F σ) fun σ' => .ok (a, σ')) = F σ; cases F σ <;> rfl
theorem stT_v {r : Except ER (α × PS)} {G : PS → Except ER (β × PS)} : stT (bT r fun a' σ => bT (G σ) fun a2' σ' => .ok ((a', a2'), σ')) = stT (bP (stT r) G) := by
  match r with
  | .error _ => rfl
  | .ok (a, σ) =>
    show stT (bT (G σ) fun a2' σ' => .ok ((a, a2'), σ')) = stT (G σ)
    match G σ with
    | .error _ => rfl
    | .ok (_, _) => rfl
theorem LE.eq {r r' : Except ER (α × PS)} {a : α} (h : LE b s r a w) (e : r = r') : LE b s r' a w := e ▸ h
theorem LE.ok {σ : PS} (h : RR w b s (.ok σ)) : LE b s (.ok ((), σ)) () w := ⟨rfl, h⟩
theorem LE.alloc {r : Except ER (α × PS)} {a : α} (h : LE b s r a w) (o : Obj) : LE b s r a (w.alloc o) := h.kept (S := fun _ => False) ((Kept.refl _ _).alloc o) id
theorem LE.s7 {r : Except ER (α × PS)} {a : α} (h : LE b s r a w) {R : Nat} (hR : R ≠ b) {x0 x1 x2 x3 x4 x5 x6 : Value} : LE b s r a (((((((w.setCell ⟨R, 0, none⟩ x0).setCell ⟨R, 1, none⟩ x1).setCell ⟨R, 2, none⟩ x2).setCell ⟨R, 3, none⟩ x3).setCell ⟨R, 4, none⟩ x4).setCell ⟨R, 5, none⟩ x5).setCell ⟨R, 6, none⟩ x6) :=
  h.kept (S := (· = R)) (k7w (Kept.refl _ _) (Or.inl rfl)) (fun e => hR e.symm)
theorem LE.s3 {r : Except ER (α × PS)} {a : α} (h : LE b s r a w) {R : Nat} (hR : R ≠ b) {x0 x1 x2 : Value} : LE b s r a (((w.setCell ⟨R, 0, none⟩ x0).setCell ⟨R, 1, none⟩ x1).setCell ⟨R, 2, none⟩ x2) :=
  h.kept (S := (· = R)) ((((Kept.refl (fun x => x = R) _).setCell (p := ⟨R, 0, none⟩) (Or.inl rfl) x0).setCell (p := ⟨R, 1, none⟩) (Or.inl rfl) x1).setCell (p := ⟨R, 2, none⟩) (Or.inl rfl) x2) (fun e => hR e.symm)
end
theorem ret_lv {fn : Func} {p : Tmp} (hf : fn.results = #[.cell p 27]) {b n : Nat} {s : ByteArray} {q : RT} {w W : World} {t : Tm} {tk kk : Value} {R : Nat} {a : Act} (hR : a.tmps.getD p undef = .pointer (some ⟨R, 0, none⟩)) (hd : a.defers = [])
    (hb : Blk W R 27 (tmCells t tk kk)) (hk : TyL (fun k => n ≤ k) W t.ty.kids tk) (hm : TmL (fun k => n ≤ k) W t.kids kk) (hl : LE b s q t W) (hkp : Kept (· = b) w W) : bodyPost Tryz.prog fn (LV b s (VTm n) q w) Exit.ret a W :=
  bodyPost_ret (results_one hf hR (load_tm hb)) hd ⟨t, _, rfl, ⟨tk, kk, rfl, hk, hm⟩, hl, hkp⟩
theorem ret_lty {fn : Func} {p : Tmp} (hf : fn.results = #[.cell p 24]) {b n : Nat} {s : ByteArray} {q : Except ER (Ty × PS)} {w W : World} {t : Ty} {tk : Value} {R : Nat} {a : Act} (hR : a.tmps.getD p undef = .pointer (some ⟨R, 0, none⟩)) (hd : a.defers = [])
    (hb : Blk W R 24 [.int .i64 t.kind, .string t.name, tk]) (hk : TyL (fun k => n ≤ k) W t.kids tk) (hl : LE b s q t W) (hkp : Kept (· = b) w W) : bodyPost Tryz.prog fn (LV b s (VTy n) q w) Exit.ret a W :=
  bodyPost_ret (results_one hf hR (load_ty hb)) hd ⟨t, _, rfl, ⟨tk, rfl, hk⟩, hl, hkp⟩
/-- What the document's reader of terms promises, as far as f reaches. -/
def RTC (b : Nat) (s : ByteArray) (f : Nat) (T : TF) : Prop := ∀ (n : Nat) (m : Int) (_ : m = n) (q : Except ER PS) (w : World), 1 ≤ n → n ≤ 13 → RR w b s q → (∀ σ, q = .ok σ → 14 * mu s σ + (14 - n) < f ∧ σ.p ≤ s.size) →
  Calls Tryz.prog 36 #[.pointer (some ⟨b, 0, none⟩), .int .i64 m] w (LV b s (VTm w.heap.size) (bP q (T n)) w)
theorem RTC.at {b : Nat} {s : ByteArray} {f : Nat} {T : TF} (hT : RTC b s f T) (n : Nat) (m : Int) (hm : m = n) {q : Except ER PS} {w : World} (h1 : 1 ≤ n) (h13 : n ≤ 13) (h : RR w b s q) {M N : Nat} (hq : QB s q M N) (hf : 14 * M + (14 - n) < f) :
    Calls Tryz.prog 36 #[.pointer (some ⟨b, 0, none⟩), .int .i64 m] w (LV b s (VTm w.heap.size) (bP q (T n)) w) :=
  hT n m hm q w h1 h13 h (fun σ e => by have := hq σ e; exact ⟨by omega, this.2.1⟩)
/-- And its reader of types. -/
def RTY (b : Nat) (s : ByteArray) (f : Nat) : Prop := ∀ (q : Except ER PS) (w : World), RR w b s q → (∀ σ, q = .ok σ → mu s σ < f ∧ σ.p ≤ s.size) →
  Calls Tryz.prog 44 #[.pointer (some ⟨b, 0, none⟩)] w (LV b s (VTy w.heap.size) (bP q (typedS f s)) w)
theorem RTY.at {b : Nat} {s : ByteArray} {f : Nat} (hT : RTY b s f) {q : Except ER PS} {w : World} (h : RR w b s q) {M N : Nat} (hq : QB s q M N) (hf : M < f) :
    Calls Tryz.prog 44 #[.pointer (some ⟨b, 0, none⟩)] w (LV b s (VTy w.heap.size) (bP q (typedS f s)) w) :=
  hT q w h (fun σ e => by have := hq σ e; exact ⟨by omega, this.2.1⟩)
theorem qb_u {α : Type} {s : ByteArray} {r : Except ER (α × PS)} {F : PS → Except ER PS} {M N : Nat} (h : QB s (bP (stT r) F) M N) : QB s (stT (bT r fun a' σ => bP (F σ) fun σ' => .ok (a', σ'))) M N := by rw [stT_u]; exact h
theorem qb_v {α β : Type} {s : ByteArray} {r : Except ER (α × PS)} {G : PS → Except ER (β × PS)} {M N : Nat} (h : QB s (stT (bP (stT r) G)) M N) : QB s (stT (bT r fun a' σ => bT (G σ) fun a2' σ' => .ok ((a', a2'), σ'))) M N := by rw [stT_v]; exact h
theorem isR_ne {k : Int} {x t : ByteArray} (h : (x.toList == t.toList) = false) : isR k x t = false := by unfold isR; rw [h, Bool.and_false]
theorem isR_eq {k : Int} {x : ByteArray} (h : (k == 4 || k == 2) = true) : isR k x x = true := by unfold isR; rw [h]; simp
/-- What an error's state shows: a token of kind 5 that waits, or an error that is known. -/
theorem RR.err {w : World} {b : Nat} {s : ByteArray} {r : ER} (h : RR w b s (.error r)) : (r.1 = false ∧ ∃ x nest, RAt w b s 5 x r.2 nest 0 0) ∨ ∃ k x a nest, RAt w b s k x a nest r.2 (if r.1 = true then 4 else 2) := h.st
theorem RR.known {w : World} {b : Nat} {s : ByteArray} {r : ER} (hs : s.size ≤ 65536) {k : Int} {x : ByteArray} {a nest : Int} (h : RAt w b s k x a nest r.2 (if r.1 = true then 4 else 2)) : RR w b s (.error r) := ⟨hs, Or.inr ⟨_, _, _, _, h⟩⟩
theorem RR.wrong {w : World} {b : Nat} {s : ByteArray} {r : ER} (hs : s.size ≤ 65536) (hr : r.1 = false) {k : Int} {x : ByteArray} {a nest : Int} (h : RAt w b s k x a nest r.2 2) : RR w b s (.error r) := ⟨hs, Or.inr ⟨_, _, _, _, by rw [hr]; exact h⟩⟩
end Go.Proofs.YtckjlliobebodaaGreatDoor
/- The document's readers at an error: it stays. Printed by rerr.py. -/
set_option linter.unusedVariables false
set_option linter.unusedSimpArgs false
namespace Go.Proofs.YtckjlliobebodaaGreatDoor
open Go.RowKit
def tm00 : Tm := .mk 0 ⟨#[]⟩ 0 ty0 []
set_option maxHeartbeats 1000000 in
theorem rop_err {w : World} {b : Nat} {s x : ByteArray} {a nest at_ e : Int} (h : RAt w b s 5 x a nest at_ e) (m : Int) : Calls Tryz.prog 125 #[.pointer (some ⟨b, 0, none⟩), .int .i64 m] w fun r w' => r = .returned (.int .i64 0) ∧ w = w' := by
  have c1 := h.c1
  go_enter Tryz.func125, Tryz.ntmps125
  go_wp2_with fail
  go_ret
  exact ⟨rfl, rfl⟩
set_option maxHeartbeats 4000000 in
theorem rtyp_err {w : World} {b : Nat} {s : ByteArray} {r : ER} (h : RR w b s (.error r)) : Calls Tryz.prog 44 #[.pointer (some ⟨b, 0, none⟩)] w (LV b s (VTy w.heap.size) (.error r) w) := by
  have hs := h.src
  have hlt := h.lt
  have hR0 : Blk (w.alloc (.cells #[.int .i64 0, .string ⟨#[]⟩, .slice none 0 0] 24)) w.heap.size 24 z24 := Blk.new w 24 z24
  rcases h.err with ⟨hd, x, nest, hat⟩ | ⟨k, x, a, nest, hat⟩
  · have hat0 := hat.grow (((Kept.refl _ _).alloc (.cells #[.int .i64 0, .string ⟨#[]⟩, .slice none 0 0] 24)).alloc (.cells #[.int .i64 5, .string x, .int .i64 r.2] 55))
    have hR1 := hR0.alloc (.cells #[.int .i64 5, .string x, .int .i64 r.2] 55)
    have K1 : Kept (· = b) w ((w.alloc (.cells #[.int .i64 0, .string ⟨#[]⟩, .slice none 0 0] 24)).alloc (.cells #[.int .i64 5, .string x, .int .i64 r.2] 55)) := ((Kept.refl _ _).alloc _).alloc _
    have hT1 : Blk ((w.alloc (.cells #[.int .i64 0, .string ⟨#[]⟩, .slice none 0 0] 24)).alloc (.cells #[.int .i64 5, .string x, .int .i64 r.2] 55)) (w.heap.size + 1) 55 [.int .i64 5, .string x, .int .i64 r.2] := Blk.new' 55 _ (by simp)
    have hat1 := hat.grow ((Kept.refl _ _).alloc (.cells #[.int .i64 0, .string ⟨#[]⟩, .slice none 0 0] 24))
    have c1 := hat1.c1
    have c2 := hat1.c2
    have c3 := hat1.c3
    go_enter Tryz.func44, Tryz.ntmps44
    go_wp2_with fail
    generalize ((w.alloc (.cells #[.int .i64 0, .string ⟨#[]⟩, .slice none 0 0] 24)).alloc (.cells #[.int .i64 5, .string x, .int .i64 r.2] 55)) = w1 at *
    refine (rok_any hat0 rfl).mono ?_
    rintro e w' ⟨rfl, rfl⟩
    have t0 : w1.cell? ⟨w.heap.size + 1, 0, none⟩ = some (.int .i64 5) := hT1.cell 0
    have t1 : w1.cell? ⟨w.heap.size + 1, 1, none⟩ = some (.string x) := hT1.cell 1
    go_wp2_with (go_at_call 74; refine (ris_any hat0 _ (v := false) rfl).mono ?_; rintro e w' ⟨rfl, rfl⟩)
    refine (rwrong_live hat0 rfl).mono ?_
    rintro e w2 ⟨rfl, h2, k2⟩
    have hR2 := hR1.kept k2 (by show ¬ w.heap.size = b; omega)
    have ag0 : w2.cell? ⟨w.heap.size, 0, none⟩ = some (.int .i64 0) := hR2.cell 0
    have af0 : w2.frozen? ⟨w.heap.size, 0, none⟩ = false := hR2.frozen 0
    have ag1 : w2.cell? ⟨w.heap.size, 1, none⟩ = some (.string ⟨#[]⟩) := hR2.cell 1
    have af1 : w2.frozen? ⟨w.heap.size, 1, none⟩ = false := hR2.frozen 1
    have ag2 : w2.cell? ⟨w.heap.size, 2, none⟩ = some (.slice none 0 0) := hR2.cell 2
    have af2 : w2.frozen? ⟨w.heap.size, 2, none⟩ = false := hR2.frozen 2
    go_wp2_with fail
    have LL : LE b s (.error r : Except ER (Ty × PS)) ty0 w2 := RR.wrong hs hd h2
    exact ret_lty Tryz.results44 (t := ty0) rfl rfl (r3 hR2 rfl) (.nil (Or.inl rfl)) (LL.s3 (by omega)) (k3w (K1.trans k2) (Nat.le_refl _))
  · have hat0 := hat.grow (((Kept.refl _ _).alloc (.cells #[.int .i64 0, .string ⟨#[]⟩, .slice none 0 0] 24)).alloc (.cells #[.int .i64 k, .string x, .int .i64 a] 55))
    have hR1 := hR0.alloc (.cells #[.int .i64 k, .string x, .int .i64 a] 55)
    have K1 : Kept (· = b) w ((w.alloc (.cells #[.int .i64 0, .string ⟨#[]⟩, .slice none 0 0] 24)).alloc (.cells #[.int .i64 k, .string x, .int .i64 a] 55)) := ((Kept.refl _ _).alloc _).alloc _
    have hT1 : Blk ((w.alloc (.cells #[.int .i64 0, .string ⟨#[]⟩, .slice none 0 0] 24)).alloc (.cells #[.int .i64 k, .string x, .int .i64 a] 55)) (w.heap.size + 1) 55 [.int .i64 k, .string x, .int .i64 a] := Blk.new' 55 _ (by simp)
    have hat1 := hat.grow ((Kept.refl _ _).alloc (.cells #[.int .i64 0, .string ⟨#[]⟩, .slice none 0 0] 24))
    have c1 := hat1.c1
    have c2 := hat1.c2
    have c3 := hat1.c3
    go_enter Tryz.func44, Tryz.ntmps44
    go_wp2_with fail
    generalize ((w.alloc (.cells #[.int .i64 0, .string ⟨#[]⟩, .slice none 0 0] 24)).alloc (.cells #[.int .i64 k, .string x, .int .i64 a] 55)) = w1 at *
    refine (rok_any hat0 (e_dead _)).mono ?_
    rintro e w' ⟨rfl, rfl⟩
    have ag0 : w1.cell? ⟨w.heap.size, 0, none⟩ = some (.int .i64 0) := hR1.cell 0
    have af0 : w1.frozen? ⟨w.heap.size, 0, none⟩ = false := hR1.frozen 0
    have ag1 : w1.cell? ⟨w.heap.size, 1, none⟩ = some (.string ⟨#[]⟩) := hR1.cell 1
    have af1 : w1.frozen? ⟨w.heap.size, 1, none⟩ = false := hR1.frozen 1
    have ag2 : w1.cell? ⟨w.heap.size, 2, none⟩ = some (.slice none 0 0) := hR1.cell 2
    have af2 : w1.frozen? ⟨w.heap.size, 2, none⟩ = false := hR1.frozen 2
    go_wp2_with fail
    have LL : LE b s (.error r : Except ER (Ty × PS)) ty0 _ := RR.known hs hat0
    exact ret_lty Tryz.results44 (t := ty0) rfl rfl (r3 hR1 rfl) (.nil (Or.inl rfl)) (LL.s3 (by omega)) (k3w K1 (Nat.le_refl _))
set_option maxHeartbeats 4000000 in
theorem ratom_err {w : World} {b : Nat} {s : ByteArray} {r : ER} (h : RR w b s (.error r)) : Calls Tryz.prog 123 #[.pointer (some ⟨b, 0, none⟩)] w (LV b s (VTm w.heap.size) (.error r) w) := by
  have hs := h.src
  have hlt := h.lt
  have hR0 : Blk (w.alloc (.cells #[.int .i64 0, .string ⟨#[]⟩, .int .i64 0, .int .i64 0, .string ⟨#[]⟩, .slice none 0 0, .slice none 0 0] 27)) w.heap.size 27 z27 := Blk.new w 27 z27
  rcases h.err with ⟨hd, x, nest, hat⟩ | ⟨k, x, a, nest, hat⟩
  · have hat0 := hat.grow (((Kept.refl _ _).alloc (.cells #[.int .i64 0, .string ⟨#[]⟩, .int .i64 0, .int .i64 0, .string ⟨#[]⟩, .slice none 0 0, .slice none 0 0] 27)).alloc (.cells #[.int .i64 5, .string x, .int .i64 r.2] 55))
    have hR1 := hR0.alloc (.cells #[.int .i64 5, .string x, .int .i64 r.2] 55)
    have K1 : Kept (· = b) w ((w.alloc (.cells #[.int .i64 0, .string ⟨#[]⟩, .int .i64 0, .int .i64 0, .string ⟨#[]⟩, .slice none 0 0, .slice none 0 0] 27)).alloc (.cells #[.int .i64 5, .string x, .int .i64 r.2] 55)) := ((Kept.refl _ _).alloc _).alloc _
    have hT1 : Blk ((w.alloc (.cells #[.int .i64 0, .string ⟨#[]⟩, .int .i64 0, .int .i64 0, .string ⟨#[]⟩, .slice none 0 0, .slice none 0 0] 27)).alloc (.cells #[.int .i64 5, .string x, .int .i64 r.2] 55)) (w.heap.size + 1) 55 [.int .i64 5, .string x, .int .i64 r.2] := Blk.new' 55 _ (by simp)
    have hat1 := hat.grow ((Kept.refl _ _).alloc (.cells #[.int .i64 0, .string ⟨#[]⟩, .int .i64 0, .int .i64 0, .string ⟨#[]⟩, .slice none 0 0, .slice none 0 0] 27))
    have c1 := hat1.c1
    have c2 := hat1.c2
    have c3 := hat1.c3
    go_enter Tryz.func123, Tryz.ntmps123
    go_wp2_with fail
    generalize ((w.alloc (.cells #[.int .i64 0, .string ⟨#[]⟩, .int .i64 0, .int .i64 0, .string ⟨#[]⟩, .slice none 0 0, .slice none 0 0] 27)).alloc (.cells #[.int .i64 5, .string x, .int .i64 r.2] 55)) = w1 at *
    refine (rok_any hat0 rfl).mono ?_
    rintro e w' ⟨rfl, rfl⟩
    have t0 : w1.cell? ⟨w.heap.size + 1, 0, none⟩ = some (.int .i64 5) := hT1.cell 0
    have t1 : w1.cell? ⟨w.heap.size + 1, 1, none⟩ = some (.string x) := hT1.cell 1
    go_wp2_with (go_at_call 74; refine (ris_any hat0 _ (v := false) rfl).mono ?_; rintro e w' ⟨rfl, rfl⟩)
    refine (rwrong_live hat0 rfl).mono ?_
    rintro e w2 ⟨rfl, h2, k2⟩
    have hR2 := hR1.kept k2 (by show ¬ w.heap.size = b; omega)
    have ag0 : w2.cell? ⟨w.heap.size, 0, none⟩ = some (.int .i64 0) := hR2.cell 0
    have af0 : w2.frozen? ⟨w.heap.size, 0, none⟩ = false := hR2.frozen 0
    have ag1 : w2.cell? ⟨w.heap.size, 1, none⟩ = some (.string ⟨#[]⟩) := hR2.cell 1
    have af1 : w2.frozen? ⟨w.heap.size, 1, none⟩ = false := hR2.frozen 1
    have ag2 : w2.cell? ⟨w.heap.size, 2, none⟩ = some (.int .i64 0) := hR2.cell 2
    have af2 : w2.frozen? ⟨w.heap.size, 2, none⟩ = false := hR2.frozen 2
    have ag3 : w2.cell? ⟨w.heap.size, 3, none⟩ = some (.int .i64 0) := hR2.cell 3
    have af3 : w2.frozen? ⟨w.heap.size, 3, none⟩ = false := hR2.frozen 3
    have ag4 : w2.cell? ⟨w.heap.size, 4, none⟩ = some (.string ⟨#[]⟩) := hR2.cell 4
    have af4 : w2.frozen? ⟨w.heap.size, 4, none⟩ = false := hR2.frozen 4
    have ag5 : w2.cell? ⟨w.heap.size, 5, none⟩ = some (.slice none 0 0) := hR2.cell 5
    have af5 : w2.frozen? ⟨w.heap.size, 5, none⟩ = false := hR2.frozen 5
    have ag6 : w2.cell? ⟨w.heap.size, 6, none⟩ = some (.slice none 0 0) := hR2.cell 6
    have af6 : w2.frozen? ⟨w.heap.size, 6, none⟩ = false := hR2.frozen 6
    go_wp2_with fail
    have LL : LE b s (.error r : Except ER (Tm × PS)) tm00 w2 := RR.wrong hs hd h2
    exact ret_lv Tryz.results123 (t := tm00) rfl rfl (r7 hR2 rfl) (.nil (Or.inl rfl)) (.nil (Or.inl rfl)) (LL.s7 (by omega)) (k7w (K1.trans k2) (Or.inr (Nat.le_refl _)))
  · have hat0 := hat.grow (((Kept.refl _ _).alloc (.cells #[.int .i64 0, .string ⟨#[]⟩, .int .i64 0, .int .i64 0, .string ⟨#[]⟩, .slice none 0 0, .slice none 0 0] 27)).alloc (.cells #[.int .i64 k, .string x, .int .i64 a] 55))
    have hR1 := hR0.alloc (.cells #[.int .i64 k, .string x, .int .i64 a] 55)
    have K1 : Kept (· = b) w ((w.alloc (.cells #[.int .i64 0, .string ⟨#[]⟩, .int .i64 0, .int .i64 0, .string ⟨#[]⟩, .slice none 0 0, .slice none 0 0] 27)).alloc (.cells #[.int .i64 k, .string x, .int .i64 a] 55)) := ((Kept.refl _ _).alloc _).alloc _
    have hT1 : Blk ((w.alloc (.cells #[.int .i64 0, .string ⟨#[]⟩, .int .i64 0, .int .i64 0, .string ⟨#[]⟩, .slice none 0 0, .slice none 0 0] 27)).alloc (.cells #[.int .i64 k, .string x, .int .i64 a] 55)) (w.heap.size + 1) 55 [.int .i64 k, .string x, .int .i64 a] := Blk.new' 55 _ (by simp)
    have hat1 := hat.grow ((Kept.refl _ _).alloc (.cells #[.int .i64 0, .string ⟨#[]⟩, .int .i64 0, .int .i64 0, .string ⟨#[]⟩, .slice none 0 0, .slice none 0 0] 27))
    have c1 := hat1.c1
    have c2 := hat1.c2
    have c3 := hat1.c3
    go_enter Tryz.func123, Tryz.ntmps123
    go_wp2_with fail
    generalize ((w.alloc (.cells #[.int .i64 0, .string ⟨#[]⟩, .int .i64 0, .int .i64 0, .string ⟨#[]⟩, .slice none 0 0, .slice none 0 0] 27)).alloc (.cells #[.int .i64 k, .string x, .int .i64 a] 55)) = w1 at *
    refine (rok_any hat0 (e_dead _)).mono ?_
    rintro e w' ⟨rfl, rfl⟩
    have ag0 : w1.cell? ⟨w.heap.size, 0, none⟩ = some (.int .i64 0) := hR1.cell 0
    have af0 : w1.frozen? ⟨w.heap.size, 0, none⟩ = false := hR1.frozen 0
    have ag1 : w1.cell? ⟨w.heap.size, 1, none⟩ = some (.string ⟨#[]⟩) := hR1.cell 1
    have af1 : w1.frozen? ⟨w.heap.size, 1, none⟩ = false := hR1.frozen 1
    have ag2 : w1.cell? ⟨w.heap.size, 2, none⟩ = some (.int .i64 0) := hR1.cell 2
    have af2 : w1.frozen? ⟨w.heap.size, 2, none⟩ = false := hR1.frozen 2
    have ag3 : w1.cell? ⟨w.heap.size, 3, none⟩ = some (.int .i64 0) := hR1.cell 3
    have af3 : w1.frozen? ⟨w.heap.size, 3, none⟩ = false := hR1.frozen 3
    have ag4 : w1.cell? ⟨w.heap.size, 4, none⟩ = some (.string ⟨#[]⟩) := hR1.cell 4
    have af4 : w1.frozen? ⟨w.heap.size, 4, none⟩ = false := hR1.frozen 4
    have ag5 : w1.cell? ⟨w.heap.size, 5, none⟩ = some (.slice none 0 0) := hR1.cell 5
    have af5 : w1.frozen? ⟨w.heap.size, 5, none⟩ = false := hR1.frozen 5
    have ag6 : w1.cell? ⟨w.heap.size, 6, none⟩ = some (.slice none 0 0) := hR1.cell 6
    have af6 : w1.frozen? ⟨w.heap.size, 6, none⟩ = false := hR1.frozen 6
    go_wp2_with fail
    have LL : LE b s (.error r : Except ER (Tm × PS)) tm00 _ := RR.known hs hat0
    exact ret_lv Tryz.results123 (t := tm00) rfl rfl (r7 hR1 rfl) (.nil (Or.inl rfl)) (.nil (Or.inl rfl)) (LL.s7 (by omega)) (k7w K1 (Or.inr (Nat.le_refl _)))
set_option maxHeartbeats 4000000 in
theorem rpost_err {w : World} {b : Nat} {s : ByteArray} {r : ER} (h : RR w b s (.error r)) : Calls Tryz.prog 76 #[.pointer (some ⟨b, 0, none⟩)] w (LV b s (VTm w.heap.size) (.error r) w) := by
  have hlt := h.lt
  have h0 := h.alloc (.cells #[.int .i64 0, .string ⟨#[]⟩, .int .i64 0, .int .i64 0, .string ⟨#[]⟩, .slice none 0 0, .slice none 0 0] 27)
  have hR0 : Blk (w.alloc (.cells #[.int .i64 0, .string ⟨#[]⟩, .int .i64 0, .int .i64 0, .string ⟨#[]⟩, .slice none 0 0, .slice none 0 0] 27)) w.heap.size 27 z27 := Blk.new w 27 z27
  have K0 : Kept (· = b) w (w.alloc (.cells #[.int .i64 0, .string ⟨#[]⟩, .int .i64 0, .int .i64 0, .string ⟨#[]⟩, .slice none 0 0, .slice none 0 0] 27)) := (Kept.refl _ _).alloc _
  have zw0 : (w.alloc (.cells #[.int .i64 0, .string ⟨#[]⟩, .int .i64 0, .int .i64 0, .string ⟨#[]⟩, .slice none 0 0, .slice none 0 0] 27)).heap.size = w.heap.size + 1 := by simp
  have Z0 := Lib.hid zw0
  clear zw0
  go_enter Tryz.func76, Tryz.ntmps76
  go_wp2_with fail
  refine (ratom_err h0).mono ?_
  rintro e w1 ⟨t, v, rfl, ⟨tk, kk, rfl, at1, ct1⟩, le1, k1⟩
  obtain ⟨ta, tn, tc, rfl⟩ := at1.slice
  obtain ⟨ma, mn, mc, rfl⟩ := ct1.slice
  unfold tmVal
  have hR1 := (hR0.kept k1 (by show ¬ w.heap.size = b; omega)).alloc (.cells #[.int .i64 t.op, .string t.name, .int .i64 t.n, .int .i64 t.ty.kind, .string t.ty.name, .slice ta tn tc, .slice ma mn mc] 27)
  have lR := (hR0.kept k1 (by show ¬ w.heap.size = b; omega)).lt
  have K1 := (K0.trans k1).alloc (.cells #[.int .i64 t.op, .string t.name, .int .i64 t.n, .int .i64 t.ty.kind, .string t.ty.name, .slice ta tn tc, .slice ma mn mc] 27)
  have L1 := le1.alloc (.cells #[.int .i64 t.op, .string t.name, .int .i64 t.n, .int .i64 t.ty.kind, .string t.ty.name, .slice ta tn tc, .slice ma mn mc] 27)
  have R1 : RR _ b s (.error r) := L1
  have hT : Blk (w1.alloc (.cells #[.int .i64 t.op, .string t.name, .int .i64 t.n, .int .i64 t.ty.kind, .string t.ty.name, .slice ta tn tc, .slice ma mn mc] 27)) w1.heap.size 27 (tmCells t (.slice ta tn tc) (.slice ma mn mc)) := Blk.new _ 27 _
  have a1 := at1.frame (Same.alloc _ (.cells #[.int .i64 t.op, .string t.name, .int .i64 t.n, .int .i64 t.ty.kind, .string t.ty.name, .slice ta tn tc, .slice ma mn mc] 27))
  have c1 := ct1.frame (Same.alloc _ (.cells #[.int .i64 t.op, .string t.name, .int .i64 t.n, .int .i64 t.ty.kind, .string t.ty.name, .slice ta tn tc, .slice ma mn mc] 27))
  have ha : w.heap.size + 1 = (w.alloc (.cells #[.int .i64 0, .string ⟨#[]⟩, .int .i64 0, .int .i64 0, .string ⟨#[]⟩, .slice none 0 0, .slice none 0 0] 27)).heap.size := Z0.out.symm
  have HA := Lib.hid ha
  clear ha
  have zk := k1.size
  go_wp2_with fail
  generalize (w1.alloc (.cells #[.int .i64 t.op, .string t.name, .int .i64 t.n, .int .i64 t.ty.kind, .string t.ty.name, .slice ta tn tc, .slice ma mn mc] 27)) = w2 at *
  rcases R1.err with ⟨hd, x, nest, hat⟩ | ⟨k, x, a, nest, hat⟩
  · have ag0 : w2.cell? ⟨w.heap.size, 0, none⟩ = some (.int .i64 0) := hR1.cell 0
    have af0 : w2.frozen? ⟨w.heap.size, 0, none⟩ = false := hR1.frozen 0
    have ag1 : w2.cell? ⟨w.heap.size, 1, none⟩ = some (.string ⟨#[]⟩) := hR1.cell 1
    have af1 : w2.frozen? ⟨w.heap.size, 1, none⟩ = false := hR1.frozen 1
    have ag2 : w2.cell? ⟨w.heap.size, 2, none⟩ = some (.int .i64 0) := hR1.cell 2
    have af2 : w2.frozen? ⟨w.heap.size, 2, none⟩ = false := hR1.frozen 2
    have ag3 : w2.cell? ⟨w.heap.size, 3, none⟩ = some (.int .i64 0) := hR1.cell 3
    have af3 : w2.frozen? ⟨w.heap.size, 3, none⟩ = false := hR1.frozen 3
    have ag4 : w2.cell? ⟨w.heap.size, 4, none⟩ = some (.string ⟨#[]⟩) := hR1.cell 4
    have af4 : w2.frozen? ⟨w.heap.size, 4, none⟩ = false := hR1.frozen 4
    have ag5 : w2.cell? ⟨w.heap.size, 5, none⟩ = some (.slice none 0 0) := hR1.cell 5
    have af5 : w2.frozen? ⟨w.heap.size, 5, none⟩ = false := hR1.frozen 5
    have ag6 : w2.cell? ⟨w.heap.size, 6, none⟩ = some (.slice none 0 0) := hR1.cell 6
    have af6 : w2.frozen? ⟨w.heap.size, 6, none⟩ = false := hR1.frozen 6
    have tg0 : w2.cell? ⟨w1.heap.size, 0, none⟩ = some (.int .i64 t.op) := hT.cell 0
    have tg1 : w2.cell? ⟨w1.heap.size, 1, none⟩ = some (.string t.name) := hT.cell 1
    have tg2 : w2.cell? ⟨w1.heap.size, 2, none⟩ = some (.int .i64 t.n) := hT.cell 2
    have tg3 : w2.cell? ⟨w1.heap.size, 3, none⟩ = some (.int .i64 t.ty.kind) := hT.cell 3
    have tg4 : w2.cell? ⟨w1.heap.size, 4, none⟩ = some (.string t.ty.name) := hT.cell 4
    have tg5 : w2.cell? ⟨w1.heap.size, 5, none⟩ = some (.slice ta tn tc) := hT.cell 5
    have tg6 : w2.cell? ⟨w1.heap.size, 6, none⟩ = some (.slice ma mn mc) := hT.cell 6
    go_loopg [4] 1 (fun m _ wr => wr = w2)
    case atStart => rfl
    case round =>
     obtain rfl := hrel
     go_wp2_with (first | (go_at_call 38; refine (rok_any hat rfl).mono ?_; rintro e w' ⟨rfl, rfl⟩) | (go_at_call 74; refine (ris_any hat _ (v := false) rfl).mono ?_; rintro e w' ⟨rfl, rfl⟩))
     have LL : LE b s (.error r : RT) t _ := L1
     refine ret_lv Tryz.results76 (t := t) rfl rfl (r7 hR1 rfl) ?_ ?_ (LL.s7 (by omega)) (k7w K1 (Or.inr (Nat.le_refl _)))
     · exact (a1.frame (same7 (R := w.heap.size) (by have := HA.out; omega))).mono (fun k _ h => by have := HA.out; omega)
     · exact (c1.frame (same7 (R := w.heap.size) (by have := HA.out; omega))).mono (fun k _ h => by have := HA.out; omega)
  · have ag0 : w2.cell? ⟨w.heap.size, 0, none⟩ = some (.int .i64 0) := hR1.cell 0
    have af0 : w2.frozen? ⟨w.heap.size, 0, none⟩ = false := hR1.frozen 0
    have ag1 : w2.cell? ⟨w.heap.size, 1, none⟩ = some (.string ⟨#[]⟩) := hR1.cell 1
    have af1 : w2.frozen? ⟨w.heap.size, 1, none⟩ = false := hR1.frozen 1
    have ag2 : w2.cell? ⟨w.heap.size, 2, none⟩ = some (.int .i64 0) := hR1.cell 2
    have af2 : w2.frozen? ⟨w.heap.size, 2, none⟩ = false := hR1.frozen 2
    have ag3 : w2.cell? ⟨w.heap.size, 3, none⟩ = some (.int .i64 0) := hR1.cell 3
    have af3 : w2.frozen? ⟨w.heap.size, 3, none⟩ = false := hR1.frozen 3
    have ag4 : w2.cell? ⟨w.heap.size, 4, none⟩ = some (.string ⟨#[]⟩) := hR1.cell 4
    have af4 : w2.frozen? ⟨w.heap.size, 4, none⟩ = false := hR1.frozen 4
    have ag5 : w2.cell? ⟨w.heap.size, 5, none⟩ = some (.slice none 0 0) := hR1.cell 5
    have af5 : w2.frozen? ⟨w.heap.size, 5, none⟩ = false := hR1.frozen 5
    have ag6 : w2.cell? ⟨w.heap.size, 6, none⟩ = some (.slice none 0 0) := hR1.cell 6
    have af6 : w2.frozen? ⟨w.heap.size, 6, none⟩ = false := hR1.frozen 6
    have tg0 : w2.cell? ⟨w1.heap.size, 0, none⟩ = some (.int .i64 t.op) := hT.cell 0
    have tg1 : w2.cell? ⟨w1.heap.size, 1, none⟩ = some (.string t.name) := hT.cell 1
    have tg2 : w2.cell? ⟨w1.heap.size, 2, none⟩ = some (.int .i64 t.n) := hT.cell 2
    have tg3 : w2.cell? ⟨w1.heap.size, 3, none⟩ = some (.int .i64 t.ty.kind) := hT.cell 3
    have tg4 : w2.cell? ⟨w1.heap.size, 4, none⟩ = some (.string t.ty.name) := hT.cell 4
    have tg5 : w2.cell? ⟨w1.heap.size, 5, none⟩ = some (.slice ta tn tc) := hT.cell 5
    have tg6 : w2.cell? ⟨w1.heap.size, 6, none⟩ = some (.slice ma mn mc) := hT.cell 6
    go_loopg [4] 1 (fun m _ wr => wr = w2)
    case atStart => rfl
    case round =>
     obtain rfl := hrel
     go_wp2_with ((go_at_call 38; refine (rok_any hat (e_dead _)).mono ?_; rintro e w' ⟨rfl, rfl⟩))
     have LL : LE b s (.error r : RT) t _ := L1
     refine ret_lv Tryz.results76 (t := t) rfl rfl (r7 hR1 rfl) ?_ ?_ (LL.s7 (by omega)) (k7w K1 (Or.inr (Nat.le_refl _)))
     · exact (a1.frame (same7 (R := w.heap.size) (by have := HA.out; omega))).mono (fun k _ h => by have := HA.out; omega)
     · exact (c1.frame (same7 (R := w.heap.size) (by have := HA.out; omega))).mono (fun k _ h => by have := HA.out; omega)
set_option maxHeartbeats 4000000 in
theorem rmore_err {w : World} {b : Nat} {s : ByteArray} {r : ER} (h : RR w b s (.error r)) {t : Tm} {tk kk : Value} {n0 : Nat} (hn0 : n0 ≤ w.heap.size) (at1 : TyL (fun k => n0 ≤ k) w t.ty.kids tk) (ct1 : TmL (fun k => n0 ≤ k) w t.kids kk) (m : Int) : Calls Tryz.prog 77 #[.pointer (some ⟨b, 0, none⟩), tmVal t tk kk, .int .i64 m] w (LV b s (VTm n0) (.error r) w) := by
  have hlt := h.lt
  obtain ⟨ta, tn, tc, rfl⟩ := at1.slice
  obtain ⟨ma, mn, mc, rfl⟩ := ct1.slice
  unfold tmVal
  have h0 := (h.alloc (.cells #[.int .i64 t.op, .string t.name, .int .i64 t.n, .int .i64 t.ty.kind, .string t.ty.name, .slice ta tn tc, .slice ma mn mc] 27)).alloc (.cells #[.int .i64 0, .string ⟨#[]⟩, .int .i64 0, .int .i64 0, .string ⟨#[]⟩, .slice none 0 0, .slice none 0 0] 27)
  have hT : Blk ((w.alloc (.cells #[.int .i64 t.op, .string t.name, .int .i64 t.n, .int .i64 t.ty.kind, .string t.ty.name, .slice ta tn tc, .slice ma mn mc] 27)).alloc (.cells #[.int .i64 0, .string ⟨#[]⟩, .int .i64 0, .int .i64 0, .string ⟨#[]⟩, .slice none 0 0, .slice none 0 0] 27)) w.heap.size 27 (tmCells t (.slice ta tn tc) (.slice ma mn mc)) := (Blk.new w 27 _).alloc _
  have hR1 : Blk ((w.alloc (.cells #[.int .i64 t.op, .string t.name, .int .i64 t.n, .int .i64 t.ty.kind, .string t.ty.name, .slice ta tn tc, .slice ma mn mc] 27)).alloc (.cells #[.int .i64 0, .string ⟨#[]⟩, .int .i64 0, .int .i64 0, .string ⟨#[]⟩, .slice none 0 0, .slice none 0 0] 27)) (w.heap.size + 1) 27 z27 := Blk.new' 27 z27 (by simp)
  have K1 : Kept (· = b) w ((w.alloc (.cells #[.int .i64 t.op, .string t.name, .int .i64 t.n, .int .i64 t.ty.kind, .string t.ty.name, .slice ta tn tc, .slice ma mn mc] 27)).alloc (.cells #[.int .i64 0, .string ⟨#[]⟩, .int .i64 0, .int .i64 0, .string ⟨#[]⟩, .slice none 0 0, .slice none 0 0] 27)) := ((Kept.refl _ _).alloc _).alloc _
  have a1 := ((at1.mono (ok' := okk n0 w.heap.size (w.heap.size + 1)) (fun k hk h => ⟨h, by omega, by omega⟩)).frame (Same.alloc _ (.cells #[.int .i64 t.op, .string t.name, .int .i64 t.n, .int .i64 t.ty.kind, .string t.ty.name, .slice ta tn tc, .slice ma mn mc] 27))).frame (Same.alloc _ (.cells #[.int .i64 0, .string ⟨#[]⟩, .int .i64 0, .int .i64 0, .string ⟨#[]⟩, .slice none 0 0, .slice none 0 0] 27))
  have c1 := ((ct1.mono (ok' := okk n0 w.heap.size (w.heap.size + 1)) (fun k hk h => ⟨h, by omega, by omega⟩)).frame (Same.alloc _ (.cells #[.int .i64 t.op, .string t.name, .int .i64 t.n, .int .i64 t.ty.kind, .string t.ty.name, .slice ta tn tc, .slice ma mn mc] 27))).frame (Same.alloc _ (.cells #[.int .i64 0, .string ⟨#[]⟩, .int .i64 0, .int .i64 0, .string ⟨#[]⟩, .slice none 0 0, .slice none 0 0] 27))
  go_enter Tryz.func77, Tryz.ntmps77
  go_upto_region 1 with (fail)
  generalize ((w.alloc (.cells #[.int .i64 t.op, .string t.name, .int .i64 t.n, .int .i64 t.ty.kind, .string t.ty.name, .slice ta tn tc, .slice ma mn mc] 27)).alloc (.cells #[.int .i64 0, .string ⟨#[]⟩, .int .i64 0, .int .i64 0, .string ⟨#[]⟩, .slice none 0 0, .slice none 0 0] 27)) = w2 at *
  have L1 : LE b s (.error r : RT) t w2 := h0
  rcases h0.err with ⟨hd, x, nest, hat⟩ | ⟨k, x, a, nest, hat⟩
  · have ag0 : w2.cell? ⟨w.heap.size + 1, 0, none⟩ = some (.int .i64 0) := hR1.cell 0
    have af0 : w2.frozen? ⟨w.heap.size + 1, 0, none⟩ = false := hR1.frozen 0
    have ag1 : w2.cell? ⟨w.heap.size + 1, 1, none⟩ = some (.string ⟨#[]⟩) := hR1.cell 1
    have af1 : w2.frozen? ⟨w.heap.size + 1, 1, none⟩ = false := hR1.frozen 1
    have ag2 : w2.cell? ⟨w.heap.size + 1, 2, none⟩ = some (.int .i64 0) := hR1.cell 2
    have af2 : w2.frozen? ⟨w.heap.size + 1, 2, none⟩ = false := hR1.frozen 2
    have ag3 : w2.cell? ⟨w.heap.size + 1, 3, none⟩ = some (.int .i64 0) := hR1.cell 3
    have af3 : w2.frozen? ⟨w.heap.size + 1, 3, none⟩ = false := hR1.frozen 3
    have ag4 : w2.cell? ⟨w.heap.size + 1, 4, none⟩ = some (.string ⟨#[]⟩) := hR1.cell 4
    have af4 : w2.frozen? ⟨w.heap.size + 1, 4, none⟩ = false := hR1.frozen 4
    have ag5 : w2.cell? ⟨w.heap.size + 1, 5, none⟩ = some (.slice none 0 0) := hR1.cell 5
    have af5 : w2.frozen? ⟨w.heap.size + 1, 5, none⟩ = false := hR1.frozen 5
    have ag6 : w2.cell? ⟨w.heap.size + 1, 6, none⟩ = some (.slice none 0 0) := hR1.cell 6
    have af6 : w2.frozen? ⟨w.heap.size + 1, 6, none⟩ = false := hR1.frozen 6
    have tg0 : w2.cell? ⟨w.heap.size, 0, none⟩ = some (.int .i64 t.op) := hT.cell 0
    have tg1 : w2.cell? ⟨w.heap.size, 1, none⟩ = some (.string t.name) := hT.cell 1
    have tg2 : w2.cell? ⟨w.heap.size, 2, none⟩ = some (.int .i64 t.n) := hT.cell 2
    have tg3 : w2.cell? ⟨w.heap.size, 3, none⟩ = some (.int .i64 t.ty.kind) := hT.cell 3
    have tg4 : w2.cell? ⟨w.heap.size, 4, none⟩ = some (.string t.ty.name) := hT.cell 4
    have tg5 : w2.cell? ⟨w.heap.size, 5, none⟩ = some (.slice ta tn tc) := hT.cell 5
    have tg6 : w2.cell? ⟨w.heap.size, 6, none⟩ = some (.slice ma mn mc) := hT.cell 6
    go_loopg [8] 1 (fun m _ wr => wr = w2)
    case atStart => rfl
    case round =>
     obtain rfl := hrel
     go_wp2_with (first | (go_at_call 38; refine (rok_any hat rfl).mono ?_; rintro e w' ⟨rfl, rfl⟩) | (go_at_call 125; refine (rop_err hat _).mono ?_; rintro e w' ⟨rfl, rfl⟩))
     refine ret_lv Tryz.results77 (t := t) rfl rfl (r7 hR1 rfl) ?_ ?_ (L1.s7 (by omega)) (k7w K1 (Or.inr (by omega)))
     · exact (a1.frame (same7k (Or.inr rfl))).mono (fun k _ h => h.1)
     · exact (c1.frame (same7k (Or.inr rfl))).mono (fun k _ h => h.1)
  · have ag0 : w2.cell? ⟨w.heap.size + 1, 0, none⟩ = some (.int .i64 0) := hR1.cell 0
    have af0 : w2.frozen? ⟨w.heap.size + 1, 0, none⟩ = false := hR1.frozen 0
    have ag1 : w2.cell? ⟨w.heap.size + 1, 1, none⟩ = some (.string ⟨#[]⟩) := hR1.cell 1
    have af1 : w2.frozen? ⟨w.heap.size + 1, 1, none⟩ = false := hR1.frozen 1
    have ag2 : w2.cell? ⟨w.heap.size + 1, 2, none⟩ = some (.int .i64 0) := hR1.cell 2
    have af2 : w2.frozen? ⟨w.heap.size + 1, 2, none⟩ = false := hR1.frozen 2
    have ag3 : w2.cell? ⟨w.heap.size + 1, 3, none⟩ = some (.int .i64 0) := hR1.cell 3
    have af3 : w2.frozen? ⟨w.heap.size + 1, 3, none⟩ = false := hR1.frozen 3
    have ag4 : w2.cell? ⟨w.heap.size + 1, 4, none⟩ = some (.string ⟨#[]⟩) := hR1.cell 4
    have af4 : w2.frozen? ⟨w.heap.size + 1, 4, none⟩ = false := hR1.frozen 4
    have ag5 : w2.cell? ⟨w.heap.size + 1, 5, none⟩ = some (.slice none 0 0) := hR1.cell 5
    have af5 : w2.frozen? ⟨w.heap.size + 1, 5, none⟩ = false := hR1.frozen 5
    have ag6 : w2.cell? ⟨w.heap.size + 1, 6, none⟩ = some (.slice none 0 0) := hR1.cell 6
    have af6 : w2.frozen? ⟨w.heap.size + 1, 6, none⟩ = false := hR1.frozen 6
    have tg0 : w2.cell? ⟨w.heap.size, 0, none⟩ = some (.int .i64 t.op) := hT.cell 0
    have tg1 : w2.cell? ⟨w.heap.size, 1, none⟩ = some (.string t.name) := hT.cell 1
    have tg2 : w2.cell? ⟨w.heap.size, 2, none⟩ = some (.int .i64 t.n) := hT.cell 2
    have tg3 : w2.cell? ⟨w.heap.size, 3, none⟩ = some (.int .i64 t.ty.kind) := hT.cell 3
    have tg4 : w2.cell? ⟨w.heap.size, 4, none⟩ = some (.string t.ty.name) := hT.cell 4
    have tg5 : w2.cell? ⟨w.heap.size, 5, none⟩ = some (.slice ta tn tc) := hT.cell 5
    have tg6 : w2.cell? ⟨w.heap.size, 6, none⟩ = some (.slice ma mn mc) := hT.cell 6
    go_loopg [8] 1 (fun m _ wr => wr = w2)
    case atStart => rfl
    case round =>
     obtain rfl := hrel
     go_wp2_with ((go_at_call 38; refine (rok_any hat (e_dead _)).mono ?_; rintro e w' ⟨rfl, rfl⟩))
     refine ret_lv Tryz.results77 (t := t) rfl rfl (r7 hR1 rfl) ?_ ?_ (L1.s7 (by omega)) (k7w K1 (Or.inr (by omega)))
     · exact (a1.frame (same7k (Or.inr rfl))).mono (fun k _ h => h.1)
     · exact (c1.frame (same7k (Or.inr rfl))).mono (fun k _ h => h.1)
set_option maxRecDepth 10000 in
set_option maxHeartbeats 4000000 in
theorem rterm_err (d : Nat) : ∀ (w : World) (b : Nat) (s : ByteArray) (r : ER) (h : RR w b s (.error r)) (n : Nat) (m : Int) (hm : m = n) (hn : n + d = 14), Calls Tryz.prog 36 #[.pointer (some ⟨b, 0, none⟩), .int .i64 m] w (LV b s (VTm w.heap.size) (.error r) w) := by
  induction d with
  | zero =>
    intro w b s r h n m hm hn
    obtain rfl : n = 14 := by omega
    subst hm
    have hs := h.src
    have hlt := h.lt
    have h0 := h.alloc (.cells #[.int .i64 0, .string ⟨#[]⟩, .int .i64 0, .int .i64 0, .string ⟨#[]⟩, .slice none 0 0, .slice none 0 0] 27)
    have hR0 : Blk (w.alloc (.cells #[.int .i64 0, .string ⟨#[]⟩, .int .i64 0, .int .i64 0, .string ⟨#[]⟩, .slice none 0 0, .slice none 0 0] 27)) w.heap.size 27 z27 := Blk.new w 27 z27
    have K0 : Kept (· = b) w (w.alloc (.cells #[.int .i64 0, .string ⟨#[]⟩, .int .i64 0, .int .i64 0, .string ⟨#[]⟩, .slice none 0 0, .slice none 0 0] 27)) := (Kept.refl _ _).alloc _
    have HZ : Hid ((w.alloc (.cells #[.int .i64 0, .string ⟨#[]⟩, .int .i64 0, .int .i64 0, .string ⟨#[]⟩, .slice none 0 0, .slice none 0 0] 27)).heap.size = w.heap.size + 1) := Lib.hid (by simp)
    go_enter Tryz.func36, Tryz.ntmps36
    go_wp2_with fail
    generalize (w.alloc (.cells #[.int .i64 0, .string ⟨#[]⟩, .int .i64 0, .int .i64 0, .string ⟨#[]⟩, .slice none 0 0, .slice none 0 0] 27)) = w1 at *
    have ag0 : w1.cell? ⟨w.heap.size, 0, none⟩ = some (.int .i64 0) := hR0.cell 0
    have af0 : w1.frozen? ⟨w.heap.size, 0, none⟩ = false := hR0.frozen 0
    have ag1 : w1.cell? ⟨w.heap.size, 1, none⟩ = some (.string ⟨#[]⟩) := hR0.cell 1
    have af1 : w1.frozen? ⟨w.heap.size, 1, none⟩ = false := hR0.frozen 1
    have ag2 : w1.cell? ⟨w.heap.size, 2, none⟩ = some (.int .i64 0) := hR0.cell 2
    have af2 : w1.frozen? ⟨w.heap.size, 2, none⟩ = false := hR0.frozen 2
    have ag3 : w1.cell? ⟨w.heap.size, 3, none⟩ = some (.int .i64 0) := hR0.cell 3
    have af3 : w1.frozen? ⟨w.heap.size, 3, none⟩ = false := hR0.frozen 3
    have ag4 : w1.cell? ⟨w.heap.size, 4, none⟩ = some (.string ⟨#[]⟩) := hR0.cell 4
    have af4 : w1.frozen? ⟨w.heap.size, 4, none⟩ = false := hR0.frozen 4
    have ag5 : w1.cell? ⟨w.heap.size, 5, none⟩ = some (.slice none 0 0) := hR0.cell 5
    have af5 : w1.frozen? ⟨w.heap.size, 5, none⟩ = false := hR0.frozen 5
    have ag6 : w1.cell? ⟨w.heap.size, 6, none⟩ = some (.slice none 0 0) := hR0.cell 6
    have af6 : w1.frozen? ⟨w.heap.size, 6, none⟩ = false := hR0.frozen 6
    rcases h0.err with ⟨hd, x, nest, hat⟩ | ⟨k, x, a, nest, hat⟩
    · refine (rok_any hat rfl).mono ?_
      rintro e w' ⟨rfl, rfl⟩
      go_wp2_with fail
      refine (rpost_err h0).mono ?_
      rintro e w4 ⟨t, v, rfl, ⟨tk, kk, rfl, at1, ct1⟩, le1, k1⟩
      have zz := HZ.out
      have HY := Lib.hid zz
      have hR4 := hR0.kept k1 (by show ¬ w.heap.size = b; omega)
      clear zz
      obtain ⟨ta, tn, tc, rfl⟩ := at1.slice
      obtain ⟨ma, mn, mc, rfl⟩ := ct1.slice
      unfold tmVal
      have bg0 : w4.cell? ⟨w.heap.size, 0, none⟩ = some (.int .i64 0) := hR4.cell 0
      have bf0 : w4.frozen? ⟨w.heap.size, 0, none⟩ = false := hR4.frozen 0
      have bg1 : w4.cell? ⟨w.heap.size, 1, none⟩ = some (.string ⟨#[]⟩) := hR4.cell 1
      have bf1 : w4.frozen? ⟨w.heap.size, 1, none⟩ = false := hR4.frozen 1
      have bg2 : w4.cell? ⟨w.heap.size, 2, none⟩ = some (.int .i64 0) := hR4.cell 2
      have bf2 : w4.frozen? ⟨w.heap.size, 2, none⟩ = false := hR4.frozen 2
      have bg3 : w4.cell? ⟨w.heap.size, 3, none⟩ = some (.int .i64 0) := hR4.cell 3
      have bf3 : w4.frozen? ⟨w.heap.size, 3, none⟩ = false := hR4.frozen 3
      have bg4 : w4.cell? ⟨w.heap.size, 4, none⟩ = some (.string ⟨#[]⟩) := hR4.cell 4
      have bf4 : w4.frozen? ⟨w.heap.size, 4, none⟩ = false := hR4.frozen 4
      have bg5 : w4.cell? ⟨w.heap.size, 5, none⟩ = some (.slice none 0 0) := hR4.cell 5
      have bf5 : w4.frozen? ⟨w.heap.size, 5, none⟩ = false := hR4.frozen 5
      have bg6 : w4.cell? ⟨w.heap.size, 6, none⟩ = some (.slice none 0 0) := hR4.cell 6
      have bf6 : w4.frozen? ⟨w.heap.size, 6, none⟩ = false := hR4.frozen 6
      go_wp2_with fail
      refine ret_lv Tryz.results36 (t := t) rfl rfl (r7 hR4 rfl) ?_ ?_ (le1.s7 (by omega)) (k7w (K0.trans k1) (Or.inr (Nat.le_refl _)))
      · exact (at1.frame (same7 (R := w.heap.size) (by have := HY.out; omega))).mono (fun k _ h => by have := HY.out; omega)
      · exact (ct1.frame (same7 (R := w.heap.size) (by have := HY.out; omega))).mono (fun k _ h => by have := HY.out; omega)
    · refine (rok_any hat (e_dead _)).mono ?_
      rintro e w' ⟨rfl, rfl⟩
      go_wp2_with fail
      have LL : LE b s (.error r : RT) tm00 _ := RR.known hs hat
      exact ret_lv Tryz.results36 (t := tm00) rfl rfl (r7 hR0 rfl) (.nil (Or.inl rfl)) (.nil (Or.inl rfl)) (LL.s7 (by omega)) (k7w K0 (Or.inr (Nat.le_refl _)))
  | succ d ih =>
    intro w b s r h n m hm hn
    have hn14 : ((n : Int) == 14) = false := by rw [beq_eq_false_iff_ne]; omega
    have hn' : n + 1 + d = 14 := by omega
    clear hn
    subst hm
    have IH := Lib.hid ih
    clear ih
    have hs := h.src
    have hlt := h.lt
    have h0 := h.alloc (.cells #[.int .i64 0, .string ⟨#[]⟩, .int .i64 0, .int .i64 0, .string ⟨#[]⟩, .slice none 0 0, .slice none 0 0] 27)
    have hR0 : Blk (w.alloc (.cells #[.int .i64 0, .string ⟨#[]⟩, .int .i64 0, .int .i64 0, .string ⟨#[]⟩, .slice none 0 0, .slice none 0 0] 27)) w.heap.size 27 z27 := Blk.new w 27 z27
    have K0 : Kept (· = b) w (w.alloc (.cells #[.int .i64 0, .string ⟨#[]⟩, .int .i64 0, .int .i64 0, .string ⟨#[]⟩, .slice none 0 0, .slice none 0 0] 27)) := (Kept.refl _ _).alloc _
    have HZ : Hid ((w.alloc (.cells #[.int .i64 0, .string ⟨#[]⟩, .int .i64 0, .int .i64 0, .string ⟨#[]⟩, .slice none 0 0, .slice none 0 0] 27)).heap.size = w.heap.size + 1) := Lib.hid (by simp)
    go_enter Tryz.func36, Tryz.ntmps36
    go_wp2_with fail
    generalize (w.alloc (.cells #[.int .i64 0, .string ⟨#[]⟩, .int .i64 0, .int .i64 0, .string ⟨#[]⟩, .slice none 0 0, .slice none 0 0] 27)) = w1 at *
    have ag0 : w1.cell? ⟨w.heap.size, 0, none⟩ = some (.int .i64 0) := hR0.cell 0
    have af0 : w1.frozen? ⟨w.heap.size, 0, none⟩ = false := hR0.frozen 0
    have ag1 : w1.cell? ⟨w.heap.size, 1, none⟩ = some (.string ⟨#[]⟩) := hR0.cell 1
    have af1 : w1.frozen? ⟨w.heap.size, 1, none⟩ = false := hR0.frozen 1
    have ag2 : w1.cell? ⟨w.heap.size, 2, none⟩ = some (.int .i64 0) := hR0.cell 2
    have af2 : w1.frozen? ⟨w.heap.size, 2, none⟩ = false := hR0.frozen 2
    have ag3 : w1.cell? ⟨w.heap.size, 3, none⟩ = some (.int .i64 0) := hR0.cell 3
    have af3 : w1.frozen? ⟨w.heap.size, 3, none⟩ = false := hR0.frozen 3
    have ag4 : w1.cell? ⟨w.heap.size, 4, none⟩ = some (.string ⟨#[]⟩) := hR0.cell 4
    have af4 : w1.frozen? ⟨w.heap.size, 4, none⟩ = false := hR0.frozen 4
    have ag5 : w1.cell? ⟨w.heap.size, 5, none⟩ = some (.slice none 0 0) := hR0.cell 5
    have af5 : w1.frozen? ⟨w.heap.size, 5, none⟩ = false := hR0.frozen 5
    have ag6 : w1.cell? ⟨w.heap.size, 6, none⟩ = some (.slice none 0 0) := hR0.cell 6
    have af6 : w1.frozen? ⟨w.heap.size, 6, none⟩ = false := hR0.frozen 6
    rcases h0.err with ⟨hd, x, nest, hat⟩ | ⟨k, x, a, nest, hat⟩
    · cases h5 : ((n : Int) == 5) <;> cases h13 : ((n : Int) == 13)
      all_goals
        refine (rok_any hat rfl).mono ?_
        rintro e w' ⟨rfl, rfl⟩
        go_wp2_with (go_at_call 74; refine (ris_any hat _ (v := false) rfl).mono ?_; rintro e w' ⟨rfl, rfl⟩)
        refine (IH.out _ _ _ _ h0 (n + 1) ((n : Int) + 1) (by omega) hn').mono ?_
        rintro e w3 ⟨t, v, rfl, ⟨tk, kk, rfl, at1, ct1⟩, le1, k1⟩
        have zz := HZ.out
        have HY := Lib.hid zz
        have zk := k1.size
        have hR3 := hR0.kept k1 (by show ¬ w.heap.size = b; omega)
        clear zz
        obtain ⟨ta, tn, tc, rfl⟩ := at1.slice
        obtain ⟨ma, mn, mc, rfl⟩ := ct1.slice
        go_wp2_with fail
        refine (rmore_err (show RR w3 b s (.error r) from le1) zk at1 ct1 _).mono ?_
        rintro e w4 ⟨t2, v, rfl, ⟨tk2, kk2, rfl, at2, ct2⟩, le2, k2⟩
        have hR4 := hR3.kept k2 (by show ¬ w.heap.size = b; omega)
        obtain ⟨ta2, tn2, tc2, rfl⟩ := at2.slice
        obtain ⟨ma2, mn2, mc2, rfl⟩ := ct2.slice
        unfold tmVal
        have bg0 : w4.cell? ⟨w.heap.size, 0, none⟩ = some (.int .i64 0) := hR4.cell 0
        have bf0 : w4.frozen? ⟨w.heap.size, 0, none⟩ = false := hR4.frozen 0
        have bg1 : w4.cell? ⟨w.heap.size, 1, none⟩ = some (.string ⟨#[]⟩) := hR4.cell 1
        have bf1 : w4.frozen? ⟨w.heap.size, 1, none⟩ = false := hR4.frozen 1
        have bg2 : w4.cell? ⟨w.heap.size, 2, none⟩ = some (.int .i64 0) := hR4.cell 2
        have bf2 : w4.frozen? ⟨w.heap.size, 2, none⟩ = false := hR4.frozen 2
        have bg3 : w4.cell? ⟨w.heap.size, 3, none⟩ = some (.int .i64 0) := hR4.cell 3
        have bf3 : w4.frozen? ⟨w.heap.size, 3, none⟩ = false := hR4.frozen 3
        have bg4 : w4.cell? ⟨w.heap.size, 4, none⟩ = some (.string ⟨#[]⟩) := hR4.cell 4
        have bf4 : w4.frozen? ⟨w.heap.size, 4, none⟩ = false := hR4.frozen 4
        have bg5 : w4.cell? ⟨w.heap.size, 5, none⟩ = some (.slice none 0 0) := hR4.cell 5
        have bf5 : w4.frozen? ⟨w.heap.size, 5, none⟩ = false := hR4.frozen 5
        have bg6 : w4.cell? ⟨w.heap.size, 6, none⟩ = some (.slice none 0 0) := hR4.cell 6
        have bf6 : w4.frozen? ⟨w.heap.size, 6, none⟩ = false := hR4.frozen 6
        go_wp2_with fail
        refine ret_lv Tryz.results36 (t := t2) rfl rfl (r7 hR4 rfl) ?_ ?_ (le2.s7 (by omega)) (k7w ((K0.trans k1).trans k2) (Or.inr (Nat.le_refl _)))
        · exact (at2.frame (same7 (R := w.heap.size) (by have := HY.out; omega))).mono (fun k _ h => by have := HY.out; omega)
        · exact (ct2.frame (same7 (R := w.heap.size) (by have := HY.out; omega))).mono (fun k _ h => by have := HY.out; omega)
    · refine (rok_any hat (e_dead _)).mono ?_
      rintro e w' ⟨rfl, rfl⟩
      go_wp2_with fail
      have LL : LE b s (.error r : RT) tm00 _ := RR.known hs hat
      exact ret_lv Tryz.results36 (t := tm00) rfl rfl (r7 hR0 rfl) (.nil (Or.inl rfl)) (.nil (Or.inl rfl)) (LL.s7 (by omega)) (k7w K0 (Or.inr (Nat.le_refl _)))
end Go.Proofs.YtckjlliobebodaaGreatDoor
