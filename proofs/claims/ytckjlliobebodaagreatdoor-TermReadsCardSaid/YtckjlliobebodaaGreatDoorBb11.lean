/- Texts RAtm RBr1 of this proof, in one. -/
import Derived.Test.YtckjlliobebodaaGreatDoorBb10
set_option linter.unusedVariables false
set_option linter.unusedSimpArgs false
namespace Go.Proofs.YtckjlliobebodaaGreatDoor
open Go.RowKit
def RB (w : World) (b : Nat) (s : ByteArray) : Except ER PS → Prop
  | .ok σ => RR w b s (.ok σ)
  | .error r => (r.1 = false ∧ ∃ x nest, RAt w b s 5 x r.2 nest 0 0) ∨ ∃ (k : Int) (x : ByteArray) (a : Nat), RAt w b s k x a 65 r.2 (if r.1 = true then 4 else 2) ∧ a + x.size ≤ s.size
theorem RB.rr {w : World} {b : Nat} {s : ByteArray} (hs : s.size ≤ 65536) : ∀ {q : Except ER PS}, RB w b s q → RR w b s q
  | .ok _, h => h
  | .error _, .inl h => ⟨hs, .inl h⟩
  | .error _, .inr ⟨k, x, a, h, _⟩ => ⟨hs, .inr ⟨k, x, a, 65, h⟩⟩
theorem RB.kept {w w' : World} {b : Nat} {s : ByteArray} {S : Nat → Prop} (hk : Kept S w w') (hs : ¬ S b) : ∀ {q : Except ER PS}, RB w b s q → RB w' b s q
  | .ok _, h => RR.kept h hk hs
  | .error _, .inl ⟨h, x, n, r⟩ => .inl ⟨h, x, n, r.kept hk hs⟩
  | .error _, .inr ⟨k, x, a, r, e⟩ => .inr ⟨k, x, a, r.kept hk hs, e⟩
theorem adv_rb {w' : World} {b : Nat} {s : ByteArray} {σ : PS} {fr : Nat} (hs : s.size ≤ 65536) (hfr : skip s σ.p = fr) (hle : fr ≤ s.size) (hn : σ.nest ≤ 64) (h : RAt w' b s (lexW s fr).1 (lexW s fr).2 fr σ.nest 0 0) : RB w' b s (advS s σ) := by
  have hl := lex_tok hle
  unfold advS
  rw [hfr]
  cases ht : tokAt s fr with
  | none =>
    rw [ht] at hl
    rw [hl.1] at h
    exact Or.inl ⟨rfl, _, _, h⟩
  | some t => exact ⟨hs, h, ⟨ht, hle, hn⟩⟩
theorem pass_cu {w : World} {b : Nat} {s : ByteArray} {σ : PS} (h : RR w b s (.ok σ)) (hi : isS σ kLcu = true) :
    Calls Tryz.prog 75 #[.pointer (some ⟨b, 0, none⟩)] w fun e w' => e = .returned (.tuple #[]) ∧ RB w' b s (openS s σ kLcu) ∧ Kept (· = b) w w' := by
  have tk := h.tk rfl
  have ho : inB (lexW s σ.ta).2 openers = true := by rw [is_tx tk hi]; decide +kernel
  by_cases h64 : σ.nest = 64
  · refine (pass_deep h ho h64).mono ?_
    rintro e w' ⟨rfl, ⟨k, x, a, hr, hle⟩, kp⟩
    have : openS s σ kLcu = .error (true, σ.ta) := by unfold openS; rw [hi, if_pos rfl, if_pos h64]
    rw [this]
    exact ⟨rfl, Or.inr ⟨k, x, a, hr, hle⟩, kp⟩
  · obtain ⟨hs, hat, _⟩ := h
    have hx := tk.lex
    have hn := tk.nest
    refine (pass_any hat hs (by omega) (by omega)).mono ?_
    rintro r w' ⟨rfl, hp, kp⟩
    refine ⟨rfl, ?_, kp⟩
    unfold PassAt at hp
    rw [← hx.1] at hp
    have hle := skip_le s σ.p hx.2.1
    have hc : ¬ (inB (lexW s σ.ta).2 openers = true ∧ (64 : Int) < (σ.nest : Int) + 1 ∧ (0 : Int) = 0) := fun q => by have := q.2.1; omega
    rw [if_pos ho, if_neg hc, if_neg hc] at hp
    have : openS s σ kLcu = advS s { σ with nest := σ.nest + 1 } := by unfold openS; rw [hi, if_pos rfl, if_neg h64]
    rw [this]
    exact adv_rb (σ := { σ with nest := σ.nest + 1 }) hs rfl hle (by show σ.nest + 1 ≤ 64; omega) (by simpa using hp)
def brK (T : TF) (s : ByteArray) (σ1 : PS) : RT := if isS σ1 kRcu = true then emptyK s σ1 else bT (T 1 σ1) fun t σ2 => elementsS T s t (σ1.k == 1) σ2
def RBC (b : Nat) (s : ByteArray) (f : Nat) (T : TF) : Prop := ∀ (q : Except ER PS) (w : World) (M N : Nat), s.size ≤ 65536 → RB w b s q → QB s q M N → 1 ≤ N → 14 * M + 13 < f → Calls Tryz.prog 152 #[.pointer (some ⟨b, 0, none⟩)] w (LV b s (VTm w.heap.size) (bP q (brK T s)) w)
theorem is_kw {s : ByteArray} {σ : PS} {t : ByteArray} (h : Tk s σ) (hi : isS σ t = true) (ht : ∀ x, x ∈ signs → (x.toList == t.toList) = false) : σ.k = 1 ∧ σ.tx = t ∧ keywordB t = true ∧ (lexW s σ.ta).1 = 2 := by
  obtain ⟨h1, h2⟩ := is_eq hi
  have hr := h.lex.2.2
  rcases h2 with h2 | h2
  · exfalso
    revert hr
    generalize hk : σ.k = k
    generalize hx : σ.tx = tx
    generalize σ.n = n
    rw [h2] at hk
    rw [h1] at hx
    subst hx
    intro hr
    cases hr with
    | fin _ _ => cases hk
    | word _ _ _ _ => cases hk
    | name _ _ _ _ _ => cases hk
    | num _ _ _ _ _ => cases hk
    | sgn _ _ hx => have := ht _ hx; simp at this
  · refine ⟨h2.1, h1, h2.2, ?_⟩
    revert hr
    generalize hk : σ.k = k
    generalize hx : σ.tx = tx
    generalize σ.n = n
    rw [h2.1] at hk
    rw [h1] at hx
    subst hx
    intro hr
    cases hr with
    | fin _ _ => cases hk
    | word _ h _ _ => rw [h]
    | name _ _ hw _ _ => rw [h2.2] at hw; cases hw
    | num _ _ _ _ _ => cases hk
    | sgn _ _ hx => cases hk
theorem is_sg {s : ByteArray} {σ : PS} {t : ByteArray} (h : Tk s σ) (hi : isS σ t = true) (ht : keywordB t = false) : σ.k = 3 ∧ (lexW s σ.ta).1 = 4 := by
  obtain ⟨h1, h2⟩ := is_eq hi
  have hr := h.lex.2.2
  rcases h2 with h2 | h2
  · refine ⟨h2, ?_⟩
    revert hr
    generalize hk : σ.k = k
    generalize hx : σ.tx = tx
    generalize σ.n = n
    rw [h2] at hk
    intro hr
    cases hr with
    | fin _ _ => cases hk
    | word _ _ _ _ => cases hk
    | name _ _ _ _ _ => cases hk
    | num _ _ _ _ _ => cases hk
    | sgn _ h hx => rw [h]
  · rw [h2.2] at ht; cases ht
theorem atom_w {T : TF} {s : ByteArray} {σ : PS} (hk : σ.k = 1) : atomS T s σ = wordedS T s σ := by unfold atomS; rw [hk]; rfl
theorem atom_s {T : TF} {s : ByteArray} {σ : PS} (hk : σ.k = 3) : atomS T s σ = if isS σ kLpar = true then insideS T s kLpar kRpar σ else if isS σ kLcu = true then bracesS T s σ else .error (false, σ.ta) := by
  unfold atomS; rw [hk]
  show (match isS σ kLpar with | true => _ | false => _) = _
  cases isS σ kLpar
  · cases isS σ kLcu <;> rfl
  · rfl
theorem atom_rnone {T : TF} {s : ByteArray} {σ : PS} (h : Tk s σ) (k1 : ((lexW s σ.ta).1 == 1) = false) (k3 : ((lexW s σ.ta).1 == 3) = false) (h1 : isS σ kTrue = false) (h2 : isS σ kFalse = false) (h3 : isS σ kLpar = false) (h4 : isS σ kLcu = false) (h5 : isS σ kForall = false) (h6 : isS σ kExists = false) (h7 : isS σ kFun = false)
    (hf : ((lexW s σ.ta).1 == 2) = false ∨ functionN (lexW s σ.ta).2 = 0) : atomS T s σ = .error (false, σ.ta) := by
  have hr := h.lex.2.2
  cases e : σ.k == 3
  · unfold atomS
    revert hr
    generalize hk : σ.k = k at e
    generalize hx : σ.tx = tx
    generalize σ.n = n
    intro hr
    cases hr with
    | fin _ _ => rw [h3, h4]; rfl
    | word _ h hw _ =>
      show wordedS T s σ = _
      have hfn : functionN σ.tx = 0 := by
        rcases hf with hf | hf
        · rw [h] at hf; cases hf
        · rw [h] at hf; rw [hx]; exact hf
      rw [worded_eq, hfn, h1, h2, h5, h6, h7, hx, hw]; rfl
    | name _ h _ _ _ => rw [h] at k1; cases k1
    | num _ _ h _ _ => rw [h] at k3; cases k3
    | sgn _ _ _ => cases e
  · rw [atom_s (eq_of_beq e), h3, h4]; rfl
theorem atom_kTrue {T : TF} {s : ByteArray} {σ : PS} (h : Tk s σ) (hi : isS σ kTrue = true) : atomS T s σ = bP (advS s σ) fun σ1 => .ok (nd 1 [], σ1) := by
  obtain ⟨h1, h2, h3, _⟩ := is_kw h hi (by decide +kernel)
  rw [atom_w h1, worded_eq, h2, h3, if_pos rfl, if_neg (by rw [show functionN kTrue = 0 by decide +kernel]; decide)]
  have ne : ∀ t, (t.toList == kTrue.toList) = false → isS σ t = false := fun t ht => by unfold isS isB; rw [h2]; rw [show (kTrue.toList == t.toList) = false by rw [beq_eq_false_iff_ne] at ht ⊢; exact fun e => ht e.symm]; simp
  rw [if_pos hi, leaf_eq]
theorem atom_kFalse {T : TF} {s : ByteArray} {σ : PS} (h : Tk s σ) (hi : isS σ kFalse = true) : atomS T s σ = bP (advS s σ) fun σ1 => .ok (nd 2 [], σ1) := by
  obtain ⟨h1, h2, h3, _⟩ := is_kw h hi (by decide +kernel)
  rw [atom_w h1, worded_eq, h2, h3, if_pos rfl, if_neg (by rw [show functionN kFalse = 0 by decide +kernel]; decide)]
  have ne : ∀ t, (t.toList == kFalse.toList) = false → isS σ t = false := fun t ht => by unfold isS isB; rw [h2]; rw [show (kFalse.toList == t.toList) = false by rw [beq_eq_false_iff_ne] at ht ⊢; exact fun e => ht e.symm]; simp
  rw [if_neg (by rw [ne kTrue (by decide +kernel)]; simp), if_pos hi, leaf_eq]
theorem atom_kForall {T : TF} {s : ByteArray} {σ : PS} (h : Tk s σ) (hi : isS σ kForall = true) : atomS T s σ = binderS T s 8 σ := by
  obtain ⟨h1, h2, h3, _⟩ := is_kw h hi (by decide +kernel)
  rw [atom_w h1, worded_eq, h2, h3, if_pos rfl, if_neg (by rw [show functionN kForall = 0 by decide +kernel]; decide)]
  have ne : ∀ t, (t.toList == kForall.toList) = false → isS σ t = false := fun t ht => by unfold isS isB; rw [h2]; rw [show (kForall.toList == t.toList) = false by rw [beq_eq_false_iff_ne] at ht ⊢; exact fun e => ht e.symm]; simp
  rw [if_neg (by rw [ne kTrue (by decide +kernel)]; simp), if_neg (by rw [ne kFalse (by decide +kernel)]; simp), if_pos hi]
theorem atom_kExists {T : TF} {s : ByteArray} {σ : PS} (h : Tk s σ) (hi : isS σ kExists = true) : atomS T s σ = binderS T s 9 σ := by
  obtain ⟨h1, h2, h3, _⟩ := is_kw h hi (by decide +kernel)
  rw [atom_w h1, worded_eq, h2, h3, if_pos rfl, if_neg (by rw [show functionN kExists = 0 by decide +kernel]; decide)]
  have ne : ∀ t, (t.toList == kExists.toList) = false → isS σ t = false := fun t ht => by unfold isS isB; rw [h2]; rw [show (kExists.toList == t.toList) = false by rw [beq_eq_false_iff_ne] at ht ⊢; exact fun e => ht e.symm]; simp
  rw [if_neg (by rw [ne kTrue (by decide +kernel)]; simp), if_neg (by rw [ne kFalse (by decide +kernel)]; simp), if_neg (by rw [ne kForall (by decide +kernel)]; simp), if_pos hi]
theorem atom_kFun {T : TF} {s : ByteArray} {σ : PS} (h : Tk s σ) (hi : isS σ kFun = true) : atomS T s σ = binderS T s 56 σ := by
  obtain ⟨h1, h2, h3, _⟩ := is_kw h hi (by decide +kernel)
  rw [atom_w h1, worded_eq, h2, h3, if_pos rfl, if_neg (by rw [show functionN kFun = 0 by decide +kernel]; decide)]
  have ne : ∀ t, (t.toList == kFun.toList) = false → isS σ t = false := fun t ht => by unfold isS isB; rw [h2]; rw [show (kFun.toList == t.toList) = false by rw [beq_eq_false_iff_ne] at ht ⊢; exact fun e => ht e.symm]; simp
  rw [if_neg (by rw [ne kTrue (by decide +kernel)]; simp), if_neg (by rw [ne kFalse (by decide +kernel)]; simp), if_neg (by rw [ne kForall (by decide +kernel)]; simp), if_neg (by rw [ne kExists (by decide +kernel)]; simp), if_pos hi]
theorem atom_kLpar {T : TF} {s : ByteArray} {σ : PS} (h : Tk s σ) (hi : isS σ kLpar = true) : atomS T s σ = bT (bP (openS s σ kLpar) (T 1)) fun t σ => bP (shutS s σ kRpar) fun σ' => .ok (t, σ') := by
  rw [atom_s (is_sg h hi (by decide +kernel)).1, if_pos hi, ins_ch]
theorem atom_kLcu {T : TF} {s : ByteArray} {σ : PS} (h : Tk s σ) (hn : isS σ kLpar = false) (hi : isS σ kLcu = true) : atomS T s σ = bP (openS s σ kLcu) (brK T s) := by
  rw [atom_s (is_sg h hi (by decide +kernel)).1, if_neg (by rw [hn]; simp), if_pos hi, braces_eq]; rfl
theorem atom_fn {T : TF} {s : ByteArray} {σ : PS} (h : Tk s σ) (k2 : ((lexW s σ.ta).1 == 2) = true) (hf : (functionN (lexW s σ.ta).2 != 0) = true) : σ.k ≠ 0 ∧ noBr (lexW s σ.ta).2 ∧ atomS T s σ = bT (bT (bP (bP (advS s σ) fun σ1 => openS s σ1 kLpar) (T 1)) fun t σ2 => bP (shutS s σ2 kRpar) fun σ' => .ok (t, σ')) fun t σ3 => .ok (nd (functionN (lexW s σ.ta).2) [t], σ3) := by
  have hr := h.lex.2.2
  have key : σ.k = 1 ∧ keywordB σ.tx = true ∧ (lexW s σ.ta).2 = σ.tx ∧ noBr (lexW s σ.ta).2 := by
    revert hr
    generalize σ.k = k
    generalize σ.tx = tx
    generalize σ.n = n
    intro hr
    cases hr with
    | fin h _ => rw [h] at k2; cases k2
    | word _ h hw hn => rw [h]; exact ⟨rfl, hw, rfl, hn⟩
    | name _ h _ _ _ => rw [h] at k2; cases k2
    | num _ _ h _ _ => rw [h] at k2; cases k2
    | sgn _ h _ => rw [h] at k2; cases k2
  obtain ⟨e1, e2, e3, e4⟩ := key
  refine ⟨by rw [e1]; decide, e4, ?_⟩
  rw [e3] at hf ⊢
  rw [atom_w e1, worded_eq, e2, if_pos rfl, if_pos hf]
  unfold funK
  simp only [bP_assoc, bP_bP, bT_assoc]
  refine bP_congr fun σ1 _ => ?_
  rw [inside_eq]
  simp only [bP_assoc, bT_assoc]
theorem atom_nm {T : TF} {s : ByteArray} {σ : PS} (h : Tk s σ) (k1 : ((lexW s σ.ta).1 == 1) = true) : noBr (lexW s σ.ta).2 ∧ atomS T s σ = bP (advS s σ) fun σ1 => .ok (Tm.mk 20 (lexW s σ.ta).2 0 ty0 [], σ1) := by
  have hr := h.lex.2.2
  have key : σ.k = 1 ∧ keywordB σ.tx = false ∧ (lexW s σ.ta).2 = σ.tx ∧ noBr (lexW s σ.ta).2 := by
    revert hr
    generalize σ.k = k
    generalize σ.tx = tx
    generalize σ.n = n
    intro hr
    cases hr with
    | fin h _ => rw [h] at k1; cases k1
    | word _ h hw hn => rw [h] at k1; cases k1
    | name _ h hw _ hn => rw [h]; exact ⟨rfl, hw, rfl, hn⟩
    | num _ _ h _ _ => rw [h] at k1; cases k1
    | sgn _ h _ => rw [h] at k1; cases k1
  obtain ⟨e1, e2, e3, e4⟩ := key
  refine ⟨e4, ?_⟩
  rw [e3, atom_w e1, worded_eq, e2, if_neg (by simp), leaf_eq]
theorem atom_rnum {T : TF} {s : ByteArray} {σ : PS} (h : Tk s σ) (k3 : ((lexW s σ.ta).1 == 3) = true) : noBr (lexW s σ.ta).2 ∧ atomS T s σ = bP (advS s σ) fun σ1 => .ok (Tm.mk 19 nil0 (amt (lexW s σ.ta).2) ty0 [], σ1) := by
  have hr := h.lex.2.2
  have key : σ.k = 2 ∧ amt (lexW s σ.ta).2 = σ.n ∧ noBr (lexW s σ.ta).2 := by
    revert hr
    generalize σ.k = k
    generalize σ.tx = tx
    generalize σ.n = n
    intro hr
    cases hr with
    | fin h _ => rw [h] at k3; cases k3
    | word _ h hw hn => rw [h] at k3; cases k3
    | name _ h hw _ hn => rw [h] at k3; cases k3
    | num _ _ h ha hn => rw [h]; exact ⟨rfl, ha, hn⟩
    | sgn _ h _ => rw [h] at k3; cases k3
  obtain ⟨e1, e2, e3⟩ := key
  refine ⟨e3, ?_⟩
  rw [e2, ← leaf_eq]
  unfold atomS
  rw [e1]; rfl
set_option maxHeartbeats 8000000 in
theorem ratom_nm {b f : Nat} {s : ByteArray} {T : TF} {w : World} {σ : PS} (h : RR w b s (.ok σ)) (k1 : ((lexW s σ.ta).1 == 1) = true) : Calls Tryz.prog 123 #[.pointer (some ⟨b, 0, none⟩)] w (LV b s (VTm w.heap.size) (atomS T s σ) w) := by
  obtain ⟨hat, tk⟩ := h.st
  have hz := lex_le tk h.src
  obtain ⟨u1, u2⟩ := atom_nm (T := T) tk k1
  have HP := Lib.hid (pass_nm (b := b) u1)
  have HQ := Lib.hid u2
  clear u1 u2 tk
  have hs := h.src
  have hlt := h.lt
  generalize (lexW s σ.ta).1 = k at *
  generalize (lexW s σ.ta).2 = x at *
  have hR0 : Blk (w.alloc (.cells #[.int .i64 0, .string ⟨#[]⟩, .int .i64 0, .int .i64 0, .string ⟨#[]⟩, .slice none 0 0, .slice none 0 0] 27)) w.heap.size 27 z27 := Blk.new w 27 z27
  have hat0 := hat.grow (((Kept.refl _ _).alloc (.cells #[.int .i64 0, .string ⟨#[]⟩, .int .i64 0, .int .i64 0, .string ⟨#[]⟩, .slice none 0 0, .slice none 0 0] 27)).alloc (.cells #[.int .i64 k, .string x, .int .i64 σ.ta] 55))
  have h1 := (h.alloc (.cells #[.int .i64 0, .string ⟨#[]⟩, .int .i64 0, .int .i64 0, .string ⟨#[]⟩, .slice none 0 0, .slice none 0 0] 27)).alloc (.cells #[.int .i64 k, .string x, .int .i64 σ.ta] 55)
  have hR1 := hR0.alloc (.cells #[.int .i64 k, .string x, .int .i64 σ.ta] 55)
  have K1 : Kept (· = b) w ((w.alloc (.cells #[.int .i64 0, .string ⟨#[]⟩, .int .i64 0, .int .i64 0, .string ⟨#[]⟩, .slice none 0 0, .slice none 0 0] 27)).alloc (.cells #[.int .i64 k, .string x, .int .i64 σ.ta] 55)) := ((Kept.refl _ _).alloc _).alloc _
  have hT1 : Blk ((w.alloc (.cells #[.int .i64 0, .string ⟨#[]⟩, .int .i64 0, .int .i64 0, .string ⟨#[]⟩, .slice none 0 0, .slice none 0 0] 27)).alloc (.cells #[.int .i64 k, .string x, .int .i64 σ.ta] 55)) (w.heap.size + 1) 55 [.int .i64 k, .string x, .int .i64 σ.ta] := Blk.new' 55 _ (by simp)
  have hat1 := hat.grow ((Kept.refl _ _).alloc (.cells #[.int .i64 0, .string ⟨#[]⟩, .int .i64 0, .int .i64 0, .string ⟨#[]⟩, .slice none 0 0, .slice none 0 0] 27))
  have c1 := hat1.c1
  have c2 := hat1.c2
  have c3 := hat1.c3
  go_enter Tryz.func123, Tryz.ntmps123
  go_wp2_with fail
  generalize ((w.alloc (.cells #[.int .i64 0, .string ⟨#[]⟩, .int .i64 0, .int .i64 0, .string ⟨#[]⟩, .slice none 0 0, .slice none 0 0] 27)).alloc (.cells #[.int .i64 k, .string x, .int .i64 σ.ta] 55)) = w1 at *
  refine (rok_any hat0 rfl).mono ?_
  rintro e w' ⟨rfl, rfl⟩
  have gT1 : ∀ i, w1.cell? ⟨w.heap.size + 1, i, none⟩ = [Value.int .i64 k, .string x, .int .i64 σ.ta][i]? := hT1.cell
  have z1 := h1.lt
  have zT := hT1.lt
  have zR := hR1.lt
  go_wp2_with fail
  refine (HP.out _ h1).mono ?_
  rintro e w3 ⟨rfl, h3, k3⟩
  have hR3 := hR1.kept k3 (by show ¬ w.heap.size = b; omega)
  have hT3 := hT1.kept k3 (by show ¬ w.heap.size + 1 = b; omega)
  have gT3 : ∀ i, w3.cell? ⟨w.heap.size + 1, i, none⟩ = [Value.int .i64 k, .string x, .int .i64 σ.ta][i]? := hT3.cell
  have K3 := K1.trans k3
  have LL : LE b s (atomS T s σ) (Tm.mk 20 x 0 ty0 []) w3 := (LE.set h3 _).eq HQ.out.symm
  have gR : ∀ i, w3.cell? ⟨w.heap.size, i, none⟩ = [Value.int .i64 0, .string ⟨#[]⟩, .int .i64 0, .int .i64 0, .string ⟨#[]⟩, .slice none 0 0, .slice none 0 0][i]? := hR3.cell
  have fR : ∀ i, w3.frozen? ⟨w.heap.size, i, none⟩ = false := hR3.frozen
  go_wp2_with fail
  exact ret_lv Tryz.results123 (t := Tm.mk 20 x 0 ty0 []) rfl rfl (r7 hR3 rfl) .nil0 .nil0 (LL.s7 (by omega)) (k7w K3 (Or.inr (Nat.le_refl _)))
set_option maxHeartbeats 8000000 in
theorem ratom_num {b f : Nat} {s : ByteArray} {T : TF} {w : World} {σ : PS} (h : RR w b s (.ok σ)) (k1 : ((lexW s σ.ta).1 == 1) = false) (k3 : ((lexW s σ.ta).1 == 3) = true) : Calls Tryz.prog 123 #[.pointer (some ⟨b, 0, none⟩)] w (LV b s (VTm w.heap.size) (atomS T s σ) w) := by
  obtain ⟨hat, tk⟩ := h.st
  have hz := lex_le tk h.src
  obtain ⟨u1, u2⟩ := atom_rnum (T := T) tk k3
  have HP := Lib.hid (pass_nm (b := b) u1)
  have HQ := Lib.hid u2
  clear u1 u2 tk
  have hs := h.src
  have hlt := h.lt
  generalize (lexW s σ.ta).1 = k at *
  generalize (lexW s σ.ta).2 = x at *
  have hR0 : Blk (w.alloc (.cells #[.int .i64 0, .string ⟨#[]⟩, .int .i64 0, .int .i64 0, .string ⟨#[]⟩, .slice none 0 0, .slice none 0 0] 27)) w.heap.size 27 z27 := Blk.new w 27 z27
  have hat0 := hat.grow (((Kept.refl _ _).alloc (.cells #[.int .i64 0, .string ⟨#[]⟩, .int .i64 0, .int .i64 0, .string ⟨#[]⟩, .slice none 0 0, .slice none 0 0] 27)).alloc (.cells #[.int .i64 k, .string x, .int .i64 σ.ta] 55))
  have h1 := (h.alloc (.cells #[.int .i64 0, .string ⟨#[]⟩, .int .i64 0, .int .i64 0, .string ⟨#[]⟩, .slice none 0 0, .slice none 0 0] 27)).alloc (.cells #[.int .i64 k, .string x, .int .i64 σ.ta] 55)
  have hR1 := hR0.alloc (.cells #[.int .i64 k, .string x, .int .i64 σ.ta] 55)
  have K1 : Kept (· = b) w ((w.alloc (.cells #[.int .i64 0, .string ⟨#[]⟩, .int .i64 0, .int .i64 0, .string ⟨#[]⟩, .slice none 0 0, .slice none 0 0] 27)).alloc (.cells #[.int .i64 k, .string x, .int .i64 σ.ta] 55)) := ((Kept.refl _ _).alloc _).alloc _
  have hT1 : Blk ((w.alloc (.cells #[.int .i64 0, .string ⟨#[]⟩, .int .i64 0, .int .i64 0, .string ⟨#[]⟩, .slice none 0 0, .slice none 0 0] 27)).alloc (.cells #[.int .i64 k, .string x, .int .i64 σ.ta] 55)) (w.heap.size + 1) 55 [.int .i64 k, .string x, .int .i64 σ.ta] := Blk.new' 55 _ (by simp)
  have hat1 := hat.grow ((Kept.refl _ _).alloc (.cells #[.int .i64 0, .string ⟨#[]⟩, .int .i64 0, .int .i64 0, .string ⟨#[]⟩, .slice none 0 0, .slice none 0 0] 27))
  have c1 := hat1.c1
  have c2 := hat1.c2
  have c3 := hat1.c3
  go_enter Tryz.func123, Tryz.ntmps123
  go_wp2_with fail
  generalize ((w.alloc (.cells #[.int .i64 0, .string ⟨#[]⟩, .int .i64 0, .int .i64 0, .string ⟨#[]⟩, .slice none 0 0, .slice none 0 0] 27)).alloc (.cells #[.int .i64 k, .string x, .int .i64 σ.ta] 55)) = w1 at *
  refine (rok_any hat0 rfl).mono ?_
  rintro e w' ⟨rfl, rfl⟩
  have gT1 : ∀ i, w1.cell? ⟨w.heap.size + 1, i, none⟩ = [Value.int .i64 k, .string x, .int .i64 σ.ta][i]? := hT1.cell
  have z1 := h1.lt
  have zT := hT1.lt
  have zR := hR1.lt
  go_wp2_with fail
  refine (HP.out _ h1).mono ?_
  rintro e w3 ⟨rfl, h3, k3⟩
  have hR3 := hR1.kept k3 (by show ¬ w.heap.size = b; omega)
  have hT3 := hT1.kept k3 (by show ¬ w.heap.size + 1 = b; omega)
  have gT3 : ∀ i, w3.cell? ⟨w.heap.size + 1, i, none⟩ = [Value.int .i64 k, .string x, .int .i64 σ.ta][i]? := hT3.cell
  have K3 := K1.trans k3
  have LL : LE b s (atomS T s σ) (Tm.mk 19 nil0 (amt x) ty0 []) w3 := (LE.set h3 _).eq HQ.out.symm
  go_wp2_with fail
  refine (ramount_any x w3 (by omega)).mono ?_
  rintro e w' ⟨rfl, rfl⟩
  have gR : ∀ i, w3.cell? ⟨w.heap.size, i, none⟩ = [Value.int .i64 0, .string ⟨#[]⟩, .int .i64 0, .int .i64 0, .string ⟨#[]⟩, .slice none 0 0, .slice none 0 0][i]? := hR3.cell
  have fR : ∀ i, w3.frozen? ⟨w.heap.size, i, none⟩ = false := hR3.frozen
  go_wp2_with fail
  exact ret_lv Tryz.results123 (t := Tm.mk 19 nil0 (amt x) ty0 []) rfl rfl (r7 hR3 rfl) .nil0 .nil0 (LL.s7 (by omega)) (k7w K3 (Or.inr (Nat.le_refl _)))
set_option maxHeartbeats 8000000 in
theorem ratom_kTrue {b f : Nat} {s : ByteArray} {T : TF} {w : World} {σ : PS} (h : RR w b s (.ok σ)) (k1 : ((lexW s σ.ta).1 == 1) = false) (k3 : ((lexW s σ.ta).1 == 3) = false) (hkTrue : isS σ kTrue = true) : Calls Tryz.prog 123 #[.pointer (some ⟨b, 0, none⟩)] w (LV b s (VTm w.heap.size) (atomS T s σ) w) := by
  obtain ⟨hat, tk⟩ := h.st
  have hz := lex_le tk h.src
  have IkTrue := Lib.hid ((is_lex tk kTrue).trans hkTrue)
  have HP := Lib.hid (pass_is (b := b) tk hkTrue (by decide +kernel) (by decide +kernel))
  have HQ := Lib.hid (atom_kTrue (T := T) tk hkTrue)
  clear hkTrue tk
  have hs := h.src
  have hlt := h.lt
  generalize (lexW s σ.ta).1 = k at *
  generalize (lexW s σ.ta).2 = x at *
  have hR0 : Blk (w.alloc (.cells #[.int .i64 0, .string ⟨#[]⟩, .int .i64 0, .int .i64 0, .string ⟨#[]⟩, .slice none 0 0, .slice none 0 0] 27)) w.heap.size 27 z27 := Blk.new w 27 z27
  have hat0 := hat.grow (((Kept.refl _ _).alloc (.cells #[.int .i64 0, .string ⟨#[]⟩, .int .i64 0, .int .i64 0, .string ⟨#[]⟩, .slice none 0 0, .slice none 0 0] 27)).alloc (.cells #[.int .i64 k, .string x, .int .i64 σ.ta] 55))
  have h1 := (h.alloc (.cells #[.int .i64 0, .string ⟨#[]⟩, .int .i64 0, .int .i64 0, .string ⟨#[]⟩, .slice none 0 0, .slice none 0 0] 27)).alloc (.cells #[.int .i64 k, .string x, .int .i64 σ.ta] 55)
  have hR1 := hR0.alloc (.cells #[.int .i64 k, .string x, .int .i64 σ.ta] 55)
  have K1 : Kept (· = b) w ((w.alloc (.cells #[.int .i64 0, .string ⟨#[]⟩, .int .i64 0, .int .i64 0, .string ⟨#[]⟩, .slice none 0 0, .slice none 0 0] 27)).alloc (.cells #[.int .i64 k, .string x, .int .i64 σ.ta] 55)) := ((Kept.refl _ _).alloc _).alloc _
  have hT1 : Blk ((w.alloc (.cells #[.int .i64 0, .string ⟨#[]⟩, .int .i64 0, .int .i64 0, .string ⟨#[]⟩, .slice none 0 0, .slice none 0 0] 27)).alloc (.cells #[.int .i64 k, .string x, .int .i64 σ.ta] 55)) (w.heap.size + 1) 55 [.int .i64 k, .string x, .int .i64 σ.ta] := Blk.new' 55 _ (by simp)
  have hat1 := hat.grow ((Kept.refl _ _).alloc (.cells #[.int .i64 0, .string ⟨#[]⟩, .int .i64 0, .int .i64 0, .string ⟨#[]⟩, .slice none 0 0, .slice none 0 0] 27))
  have c1 := hat1.c1
  have c2 := hat1.c2
  have c3 := hat1.c3
  go_enter Tryz.func123, Tryz.ntmps123
  go_wp2_with fail
  generalize ((w.alloc (.cells #[.int .i64 0, .string ⟨#[]⟩, .int .i64 0, .int .i64 0, .string ⟨#[]⟩, .slice none 0 0, .slice none 0 0] 27)).alloc (.cells #[.int .i64 k, .string x, .int .i64 σ.ta] 55)) = w1 at *
  refine (rok_any hat0 rfl).mono ?_
  rintro e w' ⟨rfl, rfl⟩
  have gT1 : ∀ i, w1.cell? ⟨w.heap.size + 1, i, none⟩ = [Value.int .i64 k, .string x, .int .i64 σ.ta][i]? := hT1.cell
  have z1 := h1.lt
  have zT := hT1.lt
  have zR := hR1.lt
  go_wp2_with fail
  refine (ris_any hat0 kTrue IkTrue.out).mono ?_
  rintro e w' ⟨rfl, rfl⟩
  go_wp2_with fail
  refine (HP.out _ h1).mono ?_
  rintro e w3 ⟨rfl, h3, k3⟩
  have hR3 := hR1.kept k3 (by show ¬ w.heap.size = b; omega)
  have hT3 := hT1.kept k3 (by show ¬ w.heap.size + 1 = b; omega)
  have gT3 : ∀ i, w3.cell? ⟨w.heap.size + 1, i, none⟩ = [Value.int .i64 k, .string x, .int .i64 σ.ta][i]? := hT3.cell
  have K3 := K1.trans k3
  have LL : LE b s (atomS T s σ) (nd 1 []) w3 := (LE.set h3 _).eq HQ.out.symm
  have gR : ∀ i, w3.cell? ⟨w.heap.size, i, none⟩ = [Value.int .i64 0, .string ⟨#[]⟩, .int .i64 0, .int .i64 0, .string ⟨#[]⟩, .slice none 0 0, .slice none 0 0][i]? := hR3.cell
  have fR : ∀ i, w3.frozen? ⟨w.heap.size, i, none⟩ = false := hR3.frozen
  go_wp2_with fail
  exact ret_lv Tryz.results123 (t := nd 1 []) rfl rfl (r7 hR3 rfl) .nil0 .nil0 (LL.s7 (by omega)) (k7w K3 (Or.inr (Nat.le_refl _)))
set_option maxHeartbeats 8000000 in
theorem ratom_kFalse {b f : Nat} {s : ByteArray} {T : TF} {w : World} {σ : PS} (h : RR w b s (.ok σ)) (k1 : ((lexW s σ.ta).1 == 1) = false) (k3 : ((lexW s σ.ta).1 == 3) = false) (hkTrue : isS σ kTrue = false) (hkFalse : isS σ kFalse = true) : Calls Tryz.prog 123 #[.pointer (some ⟨b, 0, none⟩)] w (LV b s (VTm w.heap.size) (atomS T s σ) w) := by
  obtain ⟨hat, tk⟩ := h.st
  have hz := lex_le tk h.src
  have IkTrue := Lib.hid ((is_lex tk kTrue).trans hkTrue)
  have IkFalse := Lib.hid ((is_lex tk kFalse).trans hkFalse)
  have HP := Lib.hid (pass_is (b := b) tk hkFalse (by decide +kernel) (by decide +kernel))
  have HQ := Lib.hid (atom_kFalse (T := T) tk hkFalse)
  clear hkTrue hkFalse tk
  have hs := h.src
  have hlt := h.lt
  generalize (lexW s σ.ta).1 = k at *
  generalize (lexW s σ.ta).2 = x at *
  have hR0 : Blk (w.alloc (.cells #[.int .i64 0, .string ⟨#[]⟩, .int .i64 0, .int .i64 0, .string ⟨#[]⟩, .slice none 0 0, .slice none 0 0] 27)) w.heap.size 27 z27 := Blk.new w 27 z27
  have hat0 := hat.grow (((Kept.refl _ _).alloc (.cells #[.int .i64 0, .string ⟨#[]⟩, .int .i64 0, .int .i64 0, .string ⟨#[]⟩, .slice none 0 0, .slice none 0 0] 27)).alloc (.cells #[.int .i64 k, .string x, .int .i64 σ.ta] 55))
  have h1 := (h.alloc (.cells #[.int .i64 0, .string ⟨#[]⟩, .int .i64 0, .int .i64 0, .string ⟨#[]⟩, .slice none 0 0, .slice none 0 0] 27)).alloc (.cells #[.int .i64 k, .string x, .int .i64 σ.ta] 55)
  have hR1 := hR0.alloc (.cells #[.int .i64 k, .string x, .int .i64 σ.ta] 55)
  have K1 : Kept (· = b) w ((w.alloc (.cells #[.int .i64 0, .string ⟨#[]⟩, .int .i64 0, .int .i64 0, .string ⟨#[]⟩, .slice none 0 0, .slice none 0 0] 27)).alloc (.cells #[.int .i64 k, .string x, .int .i64 σ.ta] 55)) := ((Kept.refl _ _).alloc _).alloc _
  have hT1 : Blk ((w.alloc (.cells #[.int .i64 0, .string ⟨#[]⟩, .int .i64 0, .int .i64 0, .string ⟨#[]⟩, .slice none 0 0, .slice none 0 0] 27)).alloc (.cells #[.int .i64 k, .string x, .int .i64 σ.ta] 55)) (w.heap.size + 1) 55 [.int .i64 k, .string x, .int .i64 σ.ta] := Blk.new' 55 _ (by simp)
  have hat1 := hat.grow ((Kept.refl _ _).alloc (.cells #[.int .i64 0, .string ⟨#[]⟩, .int .i64 0, .int .i64 0, .string ⟨#[]⟩, .slice none 0 0, .slice none 0 0] 27))
  have c1 := hat1.c1
  have c2 := hat1.c2
  have c3 := hat1.c3
  go_enter Tryz.func123, Tryz.ntmps123
  go_wp2_with fail
  generalize ((w.alloc (.cells #[.int .i64 0, .string ⟨#[]⟩, .int .i64 0, .int .i64 0, .string ⟨#[]⟩, .slice none 0 0, .slice none 0 0] 27)).alloc (.cells #[.int .i64 k, .string x, .int .i64 σ.ta] 55)) = w1 at *
  refine (rok_any hat0 rfl).mono ?_
  rintro e w' ⟨rfl, rfl⟩
  have gT1 : ∀ i, w1.cell? ⟨w.heap.size + 1, i, none⟩ = [Value.int .i64 k, .string x, .int .i64 σ.ta][i]? := hT1.cell
  have z1 := h1.lt
  have zT := hT1.lt
  have zR := hR1.lt
  go_wp2_with fail
  refine (ris_any hat0 kTrue IkTrue.out).mono ?_
  rintro e w' ⟨rfl, rfl⟩
  go_wp2_with fail
  refine (ris_any hat0 kFalse IkFalse.out).mono ?_
  rintro e w' ⟨rfl, rfl⟩
  go_wp2_with fail
  refine (HP.out _ h1).mono ?_
  rintro e w3 ⟨rfl, h3, k3⟩
  have hR3 := hR1.kept k3 (by show ¬ w.heap.size = b; omega)
  have hT3 := hT1.kept k3 (by show ¬ w.heap.size + 1 = b; omega)
  have gT3 : ∀ i, w3.cell? ⟨w.heap.size + 1, i, none⟩ = [Value.int .i64 k, .string x, .int .i64 σ.ta][i]? := hT3.cell
  have K3 := K1.trans k3
  have LL : LE b s (atomS T s σ) (nd 2 []) w3 := (LE.set h3 _).eq HQ.out.symm
  have gR : ∀ i, w3.cell? ⟨w.heap.size, i, none⟩ = [Value.int .i64 0, .string ⟨#[]⟩, .int .i64 0, .int .i64 0, .string ⟨#[]⟩, .slice none 0 0, .slice none 0 0][i]? := hR3.cell
  have fR : ∀ i, w3.frozen? ⟨w.heap.size, i, none⟩ = false := hR3.frozen
  go_wp2_with fail
  exact ret_lv Tryz.results123 (t := nd 2 []) rfl rfl (r7 hR3 rfl) .nil0 .nil0 (LL.s7 (by omega)) (k7w K3 (Or.inr (Nat.le_refl _)))
set_option maxHeartbeats 8000000 in
theorem ratom_kLpar {b f : Nat} {s : ByteArray} {T : TF} {w : World} {σ : PS} (h : RR w b s (.ok σ)) (hT : RTC b s f T) (hI : TInv s T) (hp : σ.p ≤ s.size) (hf : 14 * mu s σ ≤ f) (k1 : ((lexW s σ.ta).1 == 1) = false) (k3 : ((lexW s σ.ta).1 == 3) = false) (hkTrue : isS σ kTrue = false) (hkFalse : isS σ kFalse = false) (hkLpar : isS σ kLpar = true) : Calls Tryz.prog 123 #[.pointer (some ⟨b, 0, none⟩)] w (LV b s (VTm w.heap.size) (atomS T s σ) w) := by
  obtain ⟨hat, tk⟩ := h.st
  have hz := lex_le tk h.src
  have IkTrue := Lib.hid ((is_lex tk kTrue).trans hkTrue)
  have IkFalse := Lib.hid ((is_lex tk kFalse).trans hkFalse)
  have IkLpar := Lib.hid ((is_lex tk kLpar).trans hkLpar)
  have HP := Lib.hid (pass_op (b := b) tk hkLpar (by decide +kernel))
  have HQ := Lib.hid (atom_kLpar (T := T) tk hkLpar)
  have mpos : 1 ≤ mu s σ := by have := isS_ne hkLpar; unfold mu; rw [if_neg this]; omega
  have Q1 := Lib.hid (qb_open1 (s := s) hp kLpar)
  clear hkTrue hkFalse hkLpar tk
  have hs := h.src
  have hlt := h.lt
  generalize (lexW s σ.ta).1 = k at *
  generalize (lexW s σ.ta).2 = x at *
  have hR0 : Blk (w.alloc (.cells #[.int .i64 0, .string ⟨#[]⟩, .int .i64 0, .int .i64 0, .string ⟨#[]⟩, .slice none 0 0, .slice none 0 0] 27)) w.heap.size 27 z27 := Blk.new w 27 z27
  have hat0 := hat.grow (((Kept.refl _ _).alloc (.cells #[.int .i64 0, .string ⟨#[]⟩, .int .i64 0, .int .i64 0, .string ⟨#[]⟩, .slice none 0 0, .slice none 0 0] 27)).alloc (.cells #[.int .i64 k, .string x, .int .i64 σ.ta] 55))
  have h1 := (h.alloc (.cells #[.int .i64 0, .string ⟨#[]⟩, .int .i64 0, .int .i64 0, .string ⟨#[]⟩, .slice none 0 0, .slice none 0 0] 27)).alloc (.cells #[.int .i64 k, .string x, .int .i64 σ.ta] 55)
  have hR1 := hR0.alloc (.cells #[.int .i64 k, .string x, .int .i64 σ.ta] 55)
  have K1 : Kept (· = b) w ((w.alloc (.cells #[.int .i64 0, .string ⟨#[]⟩, .int .i64 0, .int .i64 0, .string ⟨#[]⟩, .slice none 0 0, .slice none 0 0] 27)).alloc (.cells #[.int .i64 k, .string x, .int .i64 σ.ta] 55)) := ((Kept.refl _ _).alloc _).alloc _
  have hT1 : Blk ((w.alloc (.cells #[.int .i64 0, .string ⟨#[]⟩, .int .i64 0, .int .i64 0, .string ⟨#[]⟩, .slice none 0 0, .slice none 0 0] 27)).alloc (.cells #[.int .i64 k, .string x, .int .i64 σ.ta] 55)) (w.heap.size + 1) 55 [.int .i64 k, .string x, .int .i64 σ.ta] := Blk.new' 55 _ (by simp)
  have hat1 := hat.grow ((Kept.refl _ _).alloc (.cells #[.int .i64 0, .string ⟨#[]⟩, .int .i64 0, .int .i64 0, .string ⟨#[]⟩, .slice none 0 0, .slice none 0 0] 27))
  have c1 := hat1.c1
  have c2 := hat1.c2
  have c3 := hat1.c3
  go_enter Tryz.func123, Tryz.ntmps123
  go_wp2_with fail
  generalize ((w.alloc (.cells #[.int .i64 0, .string ⟨#[]⟩, .int .i64 0, .int .i64 0, .string ⟨#[]⟩, .slice none 0 0, .slice none 0 0] 27)).alloc (.cells #[.int .i64 k, .string x, .int .i64 σ.ta] 55)) = w1 at *
  refine (rok_any hat0 rfl).mono ?_
  rintro e w' ⟨rfl, rfl⟩
  have gT1 : ∀ i, w1.cell? ⟨w.heap.size + 1, i, none⟩ = [Value.int .i64 k, .string x, .int .i64 σ.ta][i]? := hT1.cell
  have z1 := h1.lt
  have zT := hT1.lt
  have zR := hR1.lt
  go_wp2_with fail
  refine (ris_any hat0 kTrue IkTrue.out).mono ?_
  rintro e w' ⟨rfl, rfl⟩
  go_wp2_with fail
  refine (ris_any hat0 kFalse IkFalse.out).mono ?_
  rintro e w' ⟨rfl, rfl⟩
  go_wp2_with fail
  refine (ris_any hat0 kLpar IkLpar.out).mono ?_
  rintro e w' ⟨rfl, rfl⟩
  go_wp2_with fail
  refine (HP.out _ h1).mono ?_
  rintro e w3 ⟨rfl, h3, k3⟩
  have hR3 := hR1.kept k3 (by show ¬ w.heap.size = b; omega)
  have hT3 := hT1.kept k3 (by show ¬ w.heap.size + 1 = b; omega)
  have gT3 : ∀ i, w3.cell? ⟨w.heap.size + 1, i, none⟩ = [Value.int .i64 k, .string x, .int .i64 σ.ta][i]? := hT3.cell
  have K3 := K1.trans k3
  go_wp2_with fail
  refine (rinside_any hT hI h3 kRpar (by decide +kernel) Q1.out (by omega) (by omega)).mono ?_
  rintro e w4 ⟨u, v, rfl, ⟨tk4, kk4, rfl, a4, c4⟩, L4, k4⟩
  obtain ⟨ua, un, uc, rfl⟩ := a4.slice
  obtain ⟨ud, ue, uf, rfl⟩ := c4.slice
  unfold tmVal
  have hR4 := hR3.kept k4 (by show ¬ w.heap.size = b; omega)
  have K4 := K3.trans k4
  have LL : LE b s (atomS T s σ) u w4 := L4.eq HQ.out.symm
  have z3 := k3.size
  have b3 := LL.rr.lt
  have gR : ∀ i, w4.cell? ⟨w.heap.size, i, none⟩ = [Value.int .i64 0, .string ⟨#[]⟩, .int .i64 0, .int .i64 0, .string ⟨#[]⟩, .slice none 0 0, .slice none 0 0][i]? := hR4.cell
  have fR : ∀ i, w4.frozen? ⟨w.heap.size, i, none⟩ = false := hR4.frozen
  go_wp2_with fail
  refine ret_lv Tryz.results123 (t := u) rfl rfl (r7 hR4 rfl) ?_ ?_ (LL.s7 (by omega)) (k7w K4 (Or.inr (Nat.le_refl _)))
  · exact (a4.frame (same7 (R := w.heap.size) (by omega))).mono (fun k _ h => by omega)
  · exact (c4.frame (same7 (R := w.heap.size) (by omega))).mono (fun k _ h => by omega)
set_option maxHeartbeats 8000000 in
theorem ratom_kLcu {b f : Nat} {s : ByteArray} {T : TF} {w : World} {σ : PS} (h : RR w b s (.ok σ)) (hB : RBC b s f T) (hp : σ.p ≤ s.size) (hf : 14 * mu s σ ≤ f) (k1 : ((lexW s σ.ta).1 == 1) = false) (k3 : ((lexW s σ.ta).1 == 3) = false) (hkTrue : isS σ kTrue = false) (hkFalse : isS σ kFalse = false) (hkLpar : isS σ kLpar = false) (hkLcu : isS σ kLcu = true) : Calls Tryz.prog 123 #[.pointer (some ⟨b, 0, none⟩)] w (LV b s (VTm w.heap.size) (atomS T s σ) w) := by
  obtain ⟨hat, tk⟩ := h.st
  have hz := lex_le tk h.src
  have IkTrue := Lib.hid ((is_lex tk kTrue).trans hkTrue)
  have IkFalse := Lib.hid ((is_lex tk kFalse).trans hkFalse)
  have IkLpar := Lib.hid ((is_lex tk kLpar).trans hkLpar)
  have IkLcu := Lib.hid ((is_lex tk kLcu).trans hkLcu)
  have HP := Lib.hid (fun W (hW : RR W b s (.ok σ)) => pass_cu hW hkLcu)
  have HQ := Lib.hid (atom_kLcu (T := T) tk hkLpar hkLcu)
  have mpos : 1 ≤ mu s σ := by have := isS_ne hkLcu; unfold mu; rw [if_neg this]; omega
  have Q1 := Lib.hid (qb_open1 (s := s) hp kLcu)
  clear hkTrue hkFalse hkLpar hkLcu tk
  have hs := h.src
  have hlt := h.lt
  generalize (lexW s σ.ta).1 = k at *
  generalize (lexW s σ.ta).2 = x at *
  have hR0 : Blk (w.alloc (.cells #[.int .i64 0, .string ⟨#[]⟩, .int .i64 0, .int .i64 0, .string ⟨#[]⟩, .slice none 0 0, .slice none 0 0] 27)) w.heap.size 27 z27 := Blk.new w 27 z27
  have hat0 := hat.grow (((Kept.refl _ _).alloc (.cells #[.int .i64 0, .string ⟨#[]⟩, .int .i64 0, .int .i64 0, .string ⟨#[]⟩, .slice none 0 0, .slice none 0 0] 27)).alloc (.cells #[.int .i64 k, .string x, .int .i64 σ.ta] 55))
  have h1 := (h.alloc (.cells #[.int .i64 0, .string ⟨#[]⟩, .int .i64 0, .int .i64 0, .string ⟨#[]⟩, .slice none 0 0, .slice none 0 0] 27)).alloc (.cells #[.int .i64 k, .string x, .int .i64 σ.ta] 55)
  have hR1 := hR0.alloc (.cells #[.int .i64 k, .string x, .int .i64 σ.ta] 55)
  have K1 : Kept (· = b) w ((w.alloc (.cells #[.int .i64 0, .string ⟨#[]⟩, .int .i64 0, .int .i64 0, .string ⟨#[]⟩, .slice none 0 0, .slice none 0 0] 27)).alloc (.cells #[.int .i64 k, .string x, .int .i64 σ.ta] 55)) := ((Kept.refl _ _).alloc _).alloc _
  have hT1 : Blk ((w.alloc (.cells #[.int .i64 0, .string ⟨#[]⟩, .int .i64 0, .int .i64 0, .string ⟨#[]⟩, .slice none 0 0, .slice none 0 0] 27)).alloc (.cells #[.int .i64 k, .string x, .int .i64 σ.ta] 55)) (w.heap.size + 1) 55 [.int .i64 k, .string x, .int .i64 σ.ta] := Blk.new' 55 _ (by simp)
  have hat1 := hat.grow ((Kept.refl _ _).alloc (.cells #[.int .i64 0, .string ⟨#[]⟩, .int .i64 0, .int .i64 0, .string ⟨#[]⟩, .slice none 0 0, .slice none 0 0] 27))
  have c1 := hat1.c1
  have c2 := hat1.c2
  have c3 := hat1.c3
  go_enter Tryz.func123, Tryz.ntmps123
  go_wp2_with fail
  generalize ((w.alloc (.cells #[.int .i64 0, .string ⟨#[]⟩, .int .i64 0, .int .i64 0, .string ⟨#[]⟩, .slice none 0 0, .slice none 0 0] 27)).alloc (.cells #[.int .i64 k, .string x, .int .i64 σ.ta] 55)) = w1 at *
  refine (rok_any hat0 rfl).mono ?_
  rintro e w' ⟨rfl, rfl⟩
  have gT1 : ∀ i, w1.cell? ⟨w.heap.size + 1, i, none⟩ = [Value.int .i64 k, .string x, .int .i64 σ.ta][i]? := hT1.cell
  have z1 := h1.lt
  have zT := hT1.lt
  have zR := hR1.lt
  go_wp2_with fail
  refine (ris_any hat0 kTrue IkTrue.out).mono ?_
  rintro e w' ⟨rfl, rfl⟩
  go_wp2_with fail
  refine (ris_any hat0 kFalse IkFalse.out).mono ?_
  rintro e w' ⟨rfl, rfl⟩
  go_wp2_with fail
  refine (ris_any hat0 kLpar IkLpar.out).mono ?_
  rintro e w' ⟨rfl, rfl⟩
  go_wp2_with fail
  refine (ris_any hat0 kLcu IkLcu.out).mono ?_
  rintro e w' ⟨rfl, rfl⟩
  go_wp2_with fail
  refine (HP.out _ h1).mono ?_
  rintro e w3 ⟨rfl, h3, k3⟩
  have hR3 := hR1.kept k3 (by show ¬ w.heap.size = b; omega)
  have hT3 := hT1.kept k3 (by show ¬ w.heap.size + 1 = b; omega)
  have gT3 : ∀ i, w3.cell? ⟨w.heap.size + 1, i, none⟩ = [Value.int .i64 k, .string x, .int .i64 σ.ta][i]? := hT3.cell
  have K3 := K1.trans k3
  go_wp2_with fail
  refine (hB _ _ _ _ hs h3 Q1.out (by omega) (by omega)).mono ?_
  rintro e w4 ⟨u, v, rfl, ⟨tk4, kk4, rfl, a4, c4⟩, L4, k4⟩
  obtain ⟨ua, un, uc, rfl⟩ := a4.slice
  obtain ⟨ud, ue, uf, rfl⟩ := c4.slice
  unfold tmVal
  have hR4 := hR3.kept k4 (by show ¬ w.heap.size = b; omega)
  have K4 := K3.trans k4
  have LL : LE b s (atomS T s σ) u w4 := L4.eq HQ.out.symm
  have z3 := k3.size
  have b3 := LL.rr.lt
  have gR : ∀ i, w4.cell? ⟨w.heap.size, i, none⟩ = [Value.int .i64 0, .string ⟨#[]⟩, .int .i64 0, .int .i64 0, .string ⟨#[]⟩, .slice none 0 0, .slice none 0 0][i]? := hR4.cell
  have fR : ∀ i, w4.frozen? ⟨w.heap.size, i, none⟩ = false := hR4.frozen
  go_wp2_with fail
  refine ret_lv Tryz.results123 (t := u) rfl rfl (r7 hR4 rfl) ?_ ?_ (LL.s7 (by omega)) (k7w K4 (Or.inr (Nat.le_refl _)))
  · exact (a4.frame (same7 (R := w.heap.size) (by omega))).mono (fun k _ h => by omega)
  · exact (c4.frame (same7 (R := w.heap.size) (by omega))).mono (fun k _ h => by omega)
set_option maxHeartbeats 8000000 in
theorem ratom_kForall {b f : Nat} {s : ByteArray} {T : TF} {w : World} {σ : PS} (h : RR w b s (.ok σ)) (hT : RTC b s f T) (hI : TInv s T) (hp : σ.p ≤ s.size) (hf : 14 * mu s σ ≤ f) (k1 : ((lexW s σ.ta).1 == 1) = false) (k3 : ((lexW s σ.ta).1 == 3) = false) (hkTrue : isS σ kTrue = false) (hkFalse : isS σ kFalse = false) (hkLpar : isS σ kLpar = false) (hkLcu : isS σ kLcu = false) (hkForall : isS σ kForall = true) : Calls Tryz.prog 123 #[.pointer (some ⟨b, 0, none⟩)] w (LV b s (VTm w.heap.size) (atomS T s σ) w) := by
  obtain ⟨hat, tk⟩ := h.st
  have hz := lex_le tk h.src
  have IkTrue := Lib.hid ((is_lex tk kTrue).trans hkTrue)
  have IkFalse := Lib.hid ((is_lex tk kFalse).trans hkFalse)
  have IkLpar := Lib.hid ((is_lex tk kLpar).trans hkLpar)
  have IkLcu := Lib.hid ((is_lex tk kLcu).trans hkLcu)
  have IkForall := Lib.hid ((is_lex tk kForall).trans hkForall)
  have HP := Lib.hid (pass_is (b := b) tk hkForall (by decide +kernel) (by decide +kernel))
  have HQ := Lib.hid (atom_kForall (T := T) tk hkForall)
  have hk0 := isS_ne hkForall
  clear hkTrue hkFalse hkLpar hkLcu hkForall tk
  have hs := h.src
  have hlt := h.lt
  generalize (lexW s σ.ta).1 = k at *
  generalize (lexW s σ.ta).2 = x at *
  have hR0 : Blk (w.alloc (.cells #[.int .i64 0, .string ⟨#[]⟩, .int .i64 0, .int .i64 0, .string ⟨#[]⟩, .slice none 0 0, .slice none 0 0] 27)) w.heap.size 27 z27 := Blk.new w 27 z27
  have hat0 := hat.grow (((Kept.refl _ _).alloc (.cells #[.int .i64 0, .string ⟨#[]⟩, .int .i64 0, .int .i64 0, .string ⟨#[]⟩, .slice none 0 0, .slice none 0 0] 27)).alloc (.cells #[.int .i64 k, .string x, .int .i64 σ.ta] 55))
  have h1 := (h.alloc (.cells #[.int .i64 0, .string ⟨#[]⟩, .int .i64 0, .int .i64 0, .string ⟨#[]⟩, .slice none 0 0, .slice none 0 0] 27)).alloc (.cells #[.int .i64 k, .string x, .int .i64 σ.ta] 55)
  have hR1 := hR0.alloc (.cells #[.int .i64 k, .string x, .int .i64 σ.ta] 55)
  have K1 : Kept (· = b) w ((w.alloc (.cells #[.int .i64 0, .string ⟨#[]⟩, .int .i64 0, .int .i64 0, .string ⟨#[]⟩, .slice none 0 0, .slice none 0 0] 27)).alloc (.cells #[.int .i64 k, .string x, .int .i64 σ.ta] 55)) := ((Kept.refl _ _).alloc _).alloc _
  have hT1 : Blk ((w.alloc (.cells #[.int .i64 0, .string ⟨#[]⟩, .int .i64 0, .int .i64 0, .string ⟨#[]⟩, .slice none 0 0, .slice none 0 0] 27)).alloc (.cells #[.int .i64 k, .string x, .int .i64 σ.ta] 55)) (w.heap.size + 1) 55 [.int .i64 k, .string x, .int .i64 σ.ta] := Blk.new' 55 _ (by simp)
  have hat1 := hat.grow ((Kept.refl _ _).alloc (.cells #[.int .i64 0, .string ⟨#[]⟩, .int .i64 0, .int .i64 0, .string ⟨#[]⟩, .slice none 0 0, .slice none 0 0] 27))
  have c1 := hat1.c1
  have c2 := hat1.c2
  have c3 := hat1.c3
  go_enter Tryz.func123, Tryz.ntmps123
  go_wp2_with fail
  generalize ((w.alloc (.cells #[.int .i64 0, .string ⟨#[]⟩, .int .i64 0, .int .i64 0, .string ⟨#[]⟩, .slice none 0 0, .slice none 0 0] 27)).alloc (.cells #[.int .i64 k, .string x, .int .i64 σ.ta] 55)) = w1 at *
  refine (rok_any hat0 rfl).mono ?_
  rintro e w' ⟨rfl, rfl⟩
  have gT1 : ∀ i, w1.cell? ⟨w.heap.size + 1, i, none⟩ = [Value.int .i64 k, .string x, .int .i64 σ.ta][i]? := hT1.cell
  have z1 := h1.lt
  have zT := hT1.lt
  have zR := hR1.lt
  go_wp2_with fail
  refine (ris_any hat0 kTrue IkTrue.out).mono ?_
  rintro e w' ⟨rfl, rfl⟩
  go_wp2_with fail
  refine (ris_any hat0 kFalse IkFalse.out).mono ?_
  rintro e w' ⟨rfl, rfl⟩
  go_wp2_with fail
  refine (ris_any hat0 kLpar IkLpar.out).mono ?_
  rintro e w' ⟨rfl, rfl⟩
  go_wp2_with fail
  refine (ris_any hat0 kLcu IkLcu.out).mono ?_
  rintro e w' ⟨rfl, rfl⟩
  go_wp2_with fail
  refine (ris_any hat0 kForall IkForall.out).mono ?_
  rintro e w' ⟨rfl, rfl⟩
  go_wp2_with fail
  refine (rbinder_any hT hI h1 8 hp hk0 hf HP.out).mono ?_
  rintro e w4 ⟨u, v, rfl, ⟨tk4, kk4, rfl, a4, c4⟩, L4, k4⟩
  obtain ⟨ua, un, uc, rfl⟩ := a4.slice
  obtain ⟨ud, ue, uf, rfl⟩ := c4.slice
  unfold tmVal
  have hR4 := hR1.kept k4 (by show ¬ w.heap.size = b; omega)
  have K4 := K1.trans k4
  have LL : LE b s (atomS T s σ) u w4 := L4.eq HQ.out.symm
  have b3 := LL.rr.lt
  have gR : ∀ i, w4.cell? ⟨w.heap.size, i, none⟩ = [Value.int .i64 0, .string ⟨#[]⟩, .int .i64 0, .int .i64 0, .string ⟨#[]⟩, .slice none 0 0, .slice none 0 0][i]? := hR4.cell
  have fR : ∀ i, w4.frozen? ⟨w.heap.size, i, none⟩ = false := hR4.frozen
  go_wp2_with fail
  refine ret_lv Tryz.results123 (t := u) rfl rfl (r7 hR4 rfl) ?_ ?_ (LL.s7 (by omega)) (k7w K4 (Or.inr (Nat.le_refl _)))
  · exact (a4.frame (same7 (R := w.heap.size) (by omega))).mono (fun k _ h => by omega)
  · exact (c4.frame (same7 (R := w.heap.size) (by omega))).mono (fun k _ h => by omega)
set_option maxHeartbeats 8000000 in
theorem ratom_kExists {b f : Nat} {s : ByteArray} {T : TF} {w : World} {σ : PS} (h : RR w b s (.ok σ)) (hT : RTC b s f T) (hI : TInv s T) (hp : σ.p ≤ s.size) (hf : 14 * mu s σ ≤ f) (k1 : ((lexW s σ.ta).1 == 1) = false) (k3 : ((lexW s σ.ta).1 == 3) = false) (hkTrue : isS σ kTrue = false) (hkFalse : isS σ kFalse = false) (hkLpar : isS σ kLpar = false) (hkLcu : isS σ kLcu = false) (hkForall : isS σ kForall = false) (hkExists : isS σ kExists = true) : Calls Tryz.prog 123 #[.pointer (some ⟨b, 0, none⟩)] w (LV b s (VTm w.heap.size) (atomS T s σ) w) := by
  obtain ⟨hat, tk⟩ := h.st
  have hz := lex_le tk h.src
  have IkTrue := Lib.hid ((is_lex tk kTrue).trans hkTrue)
  have IkFalse := Lib.hid ((is_lex tk kFalse).trans hkFalse)
  have IkLpar := Lib.hid ((is_lex tk kLpar).trans hkLpar)
  have IkLcu := Lib.hid ((is_lex tk kLcu).trans hkLcu)
  have IkForall := Lib.hid ((is_lex tk kForall).trans hkForall)
  have IkExists := Lib.hid ((is_lex tk kExists).trans hkExists)
  have HP := Lib.hid (pass_is (b := b) tk hkExists (by decide +kernel) (by decide +kernel))
  have HQ := Lib.hid (atom_kExists (T := T) tk hkExists)
  have hk0 := isS_ne hkExists
  clear hkTrue hkFalse hkLpar hkLcu hkForall hkExists tk
  have hs := h.src
  have hlt := h.lt
  generalize (lexW s σ.ta).1 = k at *
  generalize (lexW s σ.ta).2 = x at *
  have hR0 : Blk (w.alloc (.cells #[.int .i64 0, .string ⟨#[]⟩, .int .i64 0, .int .i64 0, .string ⟨#[]⟩, .slice none 0 0, .slice none 0 0] 27)) w.heap.size 27 z27 := Blk.new w 27 z27
  have hat0 := hat.grow (((Kept.refl _ _).alloc (.cells #[.int .i64 0, .string ⟨#[]⟩, .int .i64 0, .int .i64 0, .string ⟨#[]⟩, .slice none 0 0, .slice none 0 0] 27)).alloc (.cells #[.int .i64 k, .string x, .int .i64 σ.ta] 55))
  have h1 := (h.alloc (.cells #[.int .i64 0, .string ⟨#[]⟩, .int .i64 0, .int .i64 0, .string ⟨#[]⟩, .slice none 0 0, .slice none 0 0] 27)).alloc (.cells #[.int .i64 k, .string x, .int .i64 σ.ta] 55)
  have hR1 := hR0.alloc (.cells #[.int .i64 k, .string x, .int .i64 σ.ta] 55)
  have K1 : Kept (· = b) w ((w.alloc (.cells #[.int .i64 0, .string ⟨#[]⟩, .int .i64 0, .int .i64 0, .string ⟨#[]⟩, .slice none 0 0, .slice none 0 0] 27)).alloc (.cells #[.int .i64 k, .string x, .int .i64 σ.ta] 55)) := ((Kept.refl _ _).alloc _).alloc _
  have hT1 : Blk ((w.alloc (.cells #[.int .i64 0, .string ⟨#[]⟩, .int .i64 0, .int .i64 0, .string ⟨#[]⟩, .slice none 0 0, .slice none 0 0] 27)).alloc (.cells #[.int .i64 k, .string x, .int .i64 σ.ta] 55)) (w.heap.size + 1) 55 [.int .i64 k, .string x, .int .i64 σ.ta] := Blk.new' 55 _ (by simp)
  have hat1 := hat.grow ((Kept.refl _ _).alloc (.cells #[.int .i64 0, .string ⟨#[]⟩, .int .i64 0, .int .i64 0, .string ⟨#[]⟩, .slice none 0 0, .slice none 0 0] 27))
  have c1 := hat1.c1
  have c2 := hat1.c2
  have c3 := hat1.c3
  go_enter Tryz.func123, Tryz.ntmps123
  go_wp2_with fail
  generalize ((w.alloc (.cells #[.int .i64 0, .string ⟨#[]⟩, .int .i64 0, .int .i64 0, .string ⟨#[]⟩, .slice none 0 0, .slice none 0 0] 27)).alloc (.cells #[.int .i64 k, .string x, .int .i64 σ.ta] 55)) = w1 at *
  refine (rok_any hat0 rfl).mono ?_
  rintro e w' ⟨rfl, rfl⟩
  have gT1 : ∀ i, w1.cell? ⟨w.heap.size + 1, i, none⟩ = [Value.int .i64 k, .string x, .int .i64 σ.ta][i]? := hT1.cell
  have z1 := h1.lt
  have zT := hT1.lt
  have zR := hR1.lt
  go_wp2_with fail
  refine (ris_any hat0 kTrue IkTrue.out).mono ?_
  rintro e w' ⟨rfl, rfl⟩
  go_wp2_with fail
  refine (ris_any hat0 kFalse IkFalse.out).mono ?_
  rintro e w' ⟨rfl, rfl⟩
  go_wp2_with fail
  refine (ris_any hat0 kLpar IkLpar.out).mono ?_
  rintro e w' ⟨rfl, rfl⟩
  go_wp2_with fail
  refine (ris_any hat0 kLcu IkLcu.out).mono ?_
  rintro e w' ⟨rfl, rfl⟩
  go_wp2_with fail
  refine (ris_any hat0 kForall IkForall.out).mono ?_
  rintro e w' ⟨rfl, rfl⟩
  go_wp2_with fail
  refine (ris_any hat0 kExists IkExists.out).mono ?_
  rintro e w' ⟨rfl, rfl⟩
  go_wp2_with fail
  refine (rbinder_any hT hI h1 9 hp hk0 hf HP.out).mono ?_
  rintro e w4 ⟨u, v, rfl, ⟨tk4, kk4, rfl, a4, c4⟩, L4, k4⟩
  obtain ⟨ua, un, uc, rfl⟩ := a4.slice
  obtain ⟨ud, ue, uf, rfl⟩ := c4.slice
  unfold tmVal
  have hR4 := hR1.kept k4 (by show ¬ w.heap.size = b; omega)
  have K4 := K1.trans k4
  have LL : LE b s (atomS T s σ) u w4 := L4.eq HQ.out.symm
  have b3 := LL.rr.lt
  have gR : ∀ i, w4.cell? ⟨w.heap.size, i, none⟩ = [Value.int .i64 0, .string ⟨#[]⟩, .int .i64 0, .int .i64 0, .string ⟨#[]⟩, .slice none 0 0, .slice none 0 0][i]? := hR4.cell
  have fR : ∀ i, w4.frozen? ⟨w.heap.size, i, none⟩ = false := hR4.frozen
  go_wp2_with fail
  refine ret_lv Tryz.results123 (t := u) rfl rfl (r7 hR4 rfl) ?_ ?_ (LL.s7 (by omega)) (k7w K4 (Or.inr (Nat.le_refl _)))
  · exact (a4.frame (same7 (R := w.heap.size) (by omega))).mono (fun k _ h => by omega)
  · exact (c4.frame (same7 (R := w.heap.size) (by omega))).mono (fun k _ h => by omega)
set_option maxHeartbeats 8000000 in
theorem ratom_kFun {b f : Nat} {s : ByteArray} {T : TF} {w : World} {σ : PS} (h : RR w b s (.ok σ)) (hT : RTC b s f T) (hI : TInv s T) (hp : σ.p ≤ s.size) (hf : 14 * mu s σ ≤ f) (k1 : ((lexW s σ.ta).1 == 1) = false) (k3 : ((lexW s σ.ta).1 == 3) = false) (hkTrue : isS σ kTrue = false) (hkFalse : isS σ kFalse = false) (hkLpar : isS σ kLpar = false) (hkLcu : isS σ kLcu = false) (hkForall : isS σ kForall = false) (hkExists : isS σ kExists = false) (hkFun : isS σ kFun = true) : Calls Tryz.prog 123 #[.pointer (some ⟨b, 0, none⟩)] w (LV b s (VTm w.heap.size) (atomS T s σ) w) := by
  obtain ⟨hat, tk⟩ := h.st
  have hz := lex_le tk h.src
  have IkTrue := Lib.hid ((is_lex tk kTrue).trans hkTrue)
  have IkFalse := Lib.hid ((is_lex tk kFalse).trans hkFalse)
  have IkLpar := Lib.hid ((is_lex tk kLpar).trans hkLpar)
  have IkLcu := Lib.hid ((is_lex tk kLcu).trans hkLcu)
  have IkForall := Lib.hid ((is_lex tk kForall).trans hkForall)
  have IkExists := Lib.hid ((is_lex tk kExists).trans hkExists)
  have IkFun := Lib.hid ((is_lex tk kFun).trans hkFun)
  have HP := Lib.hid (pass_is (b := b) tk hkFun (by decide +kernel) (by decide +kernel))
  have HQ := Lib.hid (atom_kFun (T := T) tk hkFun)
  have hk0 := isS_ne hkFun
  clear hkTrue hkFalse hkLpar hkLcu hkForall hkExists hkFun tk
  have hs := h.src
  have hlt := h.lt
  generalize (lexW s σ.ta).1 = k at *
  generalize (lexW s σ.ta).2 = x at *
  have hR0 : Blk (w.alloc (.cells #[.int .i64 0, .string ⟨#[]⟩, .int .i64 0, .int .i64 0, .string ⟨#[]⟩, .slice none 0 0, .slice none 0 0] 27)) w.heap.size 27 z27 := Blk.new w 27 z27
  have hat0 := hat.grow (((Kept.refl _ _).alloc (.cells #[.int .i64 0, .string ⟨#[]⟩, .int .i64 0, .int .i64 0, .string ⟨#[]⟩, .slice none 0 0, .slice none 0 0] 27)).alloc (.cells #[.int .i64 k, .string x, .int .i64 σ.ta] 55))
  have h1 := (h.alloc (.cells #[.int .i64 0, .string ⟨#[]⟩, .int .i64 0, .int .i64 0, .string ⟨#[]⟩, .slice none 0 0, .slice none 0 0] 27)).alloc (.cells #[.int .i64 k, .string x, .int .i64 σ.ta] 55)
  have hR1 := hR0.alloc (.cells #[.int .i64 k, .string x, .int .i64 σ.ta] 55)
  have K1 : Kept (· = b) w ((w.alloc (.cells #[.int .i64 0, .string ⟨#[]⟩, .int .i64 0, .int .i64 0, .string ⟨#[]⟩, .slice none 0 0, .slice none 0 0] 27)).alloc (.cells #[.int .i64 k, .string x, .int .i64 σ.ta] 55)) := ((Kept.refl _ _).alloc _).alloc _
  have hT1 : Blk ((w.alloc (.cells #[.int .i64 0, .string ⟨#[]⟩, .int .i64 0, .int .i64 0, .string ⟨#[]⟩, .slice none 0 0, .slice none 0 0] 27)).alloc (.cells #[.int .i64 k, .string x, .int .i64 σ.ta] 55)) (w.heap.size + 1) 55 [.int .i64 k, .string x, .int .i64 σ.ta] := Blk.new' 55 _ (by simp)
  have hat1 := hat.grow ((Kept.refl _ _).alloc (.cells #[.int .i64 0, .string ⟨#[]⟩, .int .i64 0, .int .i64 0, .string ⟨#[]⟩, .slice none 0 0, .slice none 0 0] 27))
  have c1 := hat1.c1
  have c2 := hat1.c2
  have c3 := hat1.c3
  go_enter Tryz.func123, Tryz.ntmps123
  go_wp2_with fail
  generalize ((w.alloc (.cells #[.int .i64 0, .string ⟨#[]⟩, .int .i64 0, .int .i64 0, .string ⟨#[]⟩, .slice none 0 0, .slice none 0 0] 27)).alloc (.cells #[.int .i64 k, .string x, .int .i64 σ.ta] 55)) = w1 at *
  refine (rok_any hat0 rfl).mono ?_
  rintro e w' ⟨rfl, rfl⟩
  have gT1 : ∀ i, w1.cell? ⟨w.heap.size + 1, i, none⟩ = [Value.int .i64 k, .string x, .int .i64 σ.ta][i]? := hT1.cell
  have z1 := h1.lt
  have zT := hT1.lt
  have zR := hR1.lt
  go_wp2_with fail
  refine (ris_any hat0 kTrue IkTrue.out).mono ?_
  rintro e w' ⟨rfl, rfl⟩
  go_wp2_with fail
  refine (ris_any hat0 kFalse IkFalse.out).mono ?_
  rintro e w' ⟨rfl, rfl⟩
  go_wp2_with fail
  refine (ris_any hat0 kLpar IkLpar.out).mono ?_
  rintro e w' ⟨rfl, rfl⟩
  go_wp2_with fail
  refine (ris_any hat0 kLcu IkLcu.out).mono ?_
  rintro e w' ⟨rfl, rfl⟩
  go_wp2_with fail
  refine (ris_any hat0 kForall IkForall.out).mono ?_
  rintro e w' ⟨rfl, rfl⟩
  go_wp2_with fail
  refine (ris_any hat0 kExists IkExists.out).mono ?_
  rintro e w' ⟨rfl, rfl⟩
  go_wp2_with fail
  refine (ris_any hat0 kFun IkFun.out).mono ?_
  rintro e w' ⟨rfl, rfl⟩
  go_wp2_with fail
  refine (rbinder_any hT hI h1 56 hp hk0 hf HP.out).mono ?_
  rintro e w4 ⟨u, v, rfl, ⟨tk4, kk4, rfl, a4, c4⟩, L4, k4⟩
  obtain ⟨ua, un, uc, rfl⟩ := a4.slice
  obtain ⟨ud, ue, uf, rfl⟩ := c4.slice
  unfold tmVal
  have hR4 := hR1.kept k4 (by show ¬ w.heap.size = b; omega)
  have K4 := K1.trans k4
  have LL : LE b s (atomS T s σ) u w4 := L4.eq HQ.out.symm
  have b3 := LL.rr.lt
  have gR : ∀ i, w4.cell? ⟨w.heap.size, i, none⟩ = [Value.int .i64 0, .string ⟨#[]⟩, .int .i64 0, .int .i64 0, .string ⟨#[]⟩, .slice none 0 0, .slice none 0 0][i]? := hR4.cell
  have fR : ∀ i, w4.frozen? ⟨w.heap.size, i, none⟩ = false := hR4.frozen
  go_wp2_with fail
  refine ret_lv Tryz.results123 (t := u) rfl rfl (r7 hR4 rfl) ?_ ?_ (LL.s7 (by omega)) (k7w K4 (Or.inr (Nat.le_refl _)))
  · exact (a4.frame (same7 (R := w.heap.size) (by omega))).mono (fun k _ h => by omega)
  · exact (c4.frame (same7 (R := w.heap.size) (by omega))).mono (fun k _ h => by omega)
set_option maxHeartbeats 8000000 in
theorem ratom_fn {b f : Nat} {s : ByteArray} {T : TF} {w : World} {σ : PS} (h : RR w b s (.ok σ)) (hT : RTC b s f T) (hI : TInv s T) (hp : σ.p ≤ s.size) (hf : 14 * mu s σ ≤ f) (k1 : ((lexW s σ.ta).1 == 1) = false) (k3 : ((lexW s σ.ta).1 == 3) = false) (hkTrue : isS σ kTrue = false) (hkFalse : isS σ kFalse = false) (hkLpar : isS σ kLpar = false) (hkLcu : isS σ kLcu = false) (hkForall : isS σ kForall = false) (hkExists : isS σ kExists = false) (hkFun : isS σ kFun = false) (k2 : ((lexW s σ.ta).1 == 2) = true) (hfn : (functionN (lexW s σ.ta).2 != 0) = true) : Calls Tryz.prog 123 #[.pointer (some ⟨b, 0, none⟩)] w (LV b s (VTm w.heap.size) (atomS T s σ) w) := by
  obtain ⟨hat, tk⟩ := h.st
  have hz := lex_le tk h.src
  have IkTrue := Lib.hid ((is_lex tk kTrue).trans hkTrue)
  have IkFalse := Lib.hid ((is_lex tk kFalse).trans hkFalse)
  have IkLpar := Lib.hid ((is_lex tk kLpar).trans hkLpar)
  have IkLcu := Lib.hid ((is_lex tk kLcu).trans hkLcu)
  have IkForall := Lib.hid ((is_lex tk kForall).trans hkForall)
  have IkExists := Lib.hid ((is_lex tk kExists).trans hkExists)
  have IkFun := Lib.hid ((is_lex tk kFun).trans hkFun)
  obtain ⟨u0, u1, u2⟩ := atom_fn (T := T) tk k2 hfn
  have HP := Lib.hid (pass_nm (b := b) u1)
  have HQ := Lib.hid u2
  have mpos : 1 ≤ mu s σ := by unfold mu; rw [if_neg u0]; omega
  have Q1 := Lib.hid (qb_open (qb_adv hp u0) kLpar)
  have hfp : decide (0 < functionN (lexW s σ.ta).2) = true := by
    rcases fn_ge (lexW s σ.ta).2 with e | e
    · rw [e] at hfn; cases hfn
    · exact decide_eq_true (by omega)
  clear hfn u1 u2
  clear hkTrue hkFalse hkLpar hkLcu hkForall hkExists hkFun tk
  have hs := h.src
  have hlt := h.lt
  generalize (lexW s σ.ta).1 = k at *
  generalize (lexW s σ.ta).2 = x at *
  have hR0 : Blk (w.alloc (.cells #[.int .i64 0, .string ⟨#[]⟩, .int .i64 0, .int .i64 0, .string ⟨#[]⟩, .slice none 0 0, .slice none 0 0] 27)) w.heap.size 27 z27 := Blk.new w 27 z27
  have hat0 := hat.grow (((Kept.refl _ _).alloc (.cells #[.int .i64 0, .string ⟨#[]⟩, .int .i64 0, .int .i64 0, .string ⟨#[]⟩, .slice none 0 0, .slice none 0 0] 27)).alloc (.cells #[.int .i64 k, .string x, .int .i64 σ.ta] 55))
  have h1 := (h.alloc (.cells #[.int .i64 0, .string ⟨#[]⟩, .int .i64 0, .int .i64 0, .string ⟨#[]⟩, .slice none 0 0, .slice none 0 0] 27)).alloc (.cells #[.int .i64 k, .string x, .int .i64 σ.ta] 55)
  have hR1 := hR0.alloc (.cells #[.int .i64 k, .string x, .int .i64 σ.ta] 55)
  have K1 : Kept (· = b) w ((w.alloc (.cells #[.int .i64 0, .string ⟨#[]⟩, .int .i64 0, .int .i64 0, .string ⟨#[]⟩, .slice none 0 0, .slice none 0 0] 27)).alloc (.cells #[.int .i64 k, .string x, .int .i64 σ.ta] 55)) := ((Kept.refl _ _).alloc _).alloc _
  have hT1 : Blk ((w.alloc (.cells #[.int .i64 0, .string ⟨#[]⟩, .int .i64 0, .int .i64 0, .string ⟨#[]⟩, .slice none 0 0, .slice none 0 0] 27)).alloc (.cells #[.int .i64 k, .string x, .int .i64 σ.ta] 55)) (w.heap.size + 1) 55 [.int .i64 k, .string x, .int .i64 σ.ta] := Blk.new' 55 _ (by simp)
  have hat1 := hat.grow ((Kept.refl _ _).alloc (.cells #[.int .i64 0, .string ⟨#[]⟩, .int .i64 0, .int .i64 0, .string ⟨#[]⟩, .slice none 0 0, .slice none 0 0] 27))
  have c1 := hat1.c1
  have c2 := hat1.c2
  have c3 := hat1.c3
  go_enter Tryz.func123, Tryz.ntmps123
  go_wp2_with fail
  generalize ((w.alloc (.cells #[.int .i64 0, .string ⟨#[]⟩, .int .i64 0, .int .i64 0, .string ⟨#[]⟩, .slice none 0 0, .slice none 0 0] 27)).alloc (.cells #[.int .i64 k, .string x, .int .i64 σ.ta] 55)) = w1 at *
  refine (rok_any hat0 rfl).mono ?_
  rintro e w' ⟨rfl, rfl⟩
  have gT1 : ∀ i, w1.cell? ⟨w.heap.size + 1, i, none⟩ = [Value.int .i64 k, .string x, .int .i64 σ.ta][i]? := hT1.cell
  have z1 := h1.lt
  have zT := hT1.lt
  have zR := hR1.lt
  generalize hfx : functionN x = fx at *
  have HFX := Lib.hid hfx
  clear hfx
  go_wp2_with fail
  refine (ris_any hat0 kTrue IkTrue.out).mono ?_
  rintro e w' ⟨rfl, rfl⟩
  go_wp2_with fail
  refine (ris_any hat0 kFalse IkFalse.out).mono ?_
  rintro e w' ⟨rfl, rfl⟩
  go_wp2_with fail
  refine (ris_any hat0 kLpar IkLpar.out).mono ?_
  rintro e w' ⟨rfl, rfl⟩
  go_wp2_with fail
  refine (ris_any hat0 kLcu IkLcu.out).mono ?_
  rintro e w' ⟨rfl, rfl⟩
  go_wp2_with fail
  refine (ris_any hat0 kForall IkForall.out).mono ?_
  rintro e w' ⟨rfl, rfl⟩
  go_wp2_with fail
  refine (ris_any hat0 kExists IkExists.out).mono ?_
  rintro e w' ⟨rfl, rfl⟩
  go_wp2_with fail
  refine (ris_any hat0 kFun IkFun.out).mono ?_
  rintro e w' ⟨rfl, rfl⟩
  go_wp2_with fail
  refine (rprefix_any x w1).mono ?_
  rintro e w2 ⟨rfl, k2'⟩
  rw [HFX.out]
  have h2 := h1.kept k2' id
  have hR2 := hR1.kept k2' id
  have hT2 := hT1.kept k2' id
  have K2 := K1.trans (k2'.mono (T := (· = b)) (fun _ _ h => h.elim))
  go_wp2_with fail
  refine (HP.out _ h2).mono ?_
  rintro e w3 ⟨rfl, h3, k3⟩
  have hR3 := hR2.kept k3 (by show ¬ w.heap.size = b; omega)
  have hT3 := hT2.kept k3 (by show ¬ w.heap.size + 1 = b; omega)
  have K3 := K2.trans k3
  go_wp2_with fail
  refine (rmust_open h3 kLpar (by decide +kernel)).mono ?_
  rintro e w4 ⟨rfl, h4, k4⟩
  have hR4 := hR3.kept k4 (by show ¬ w.heap.size = b; omega)
  have hT4 := hT3.kept k4 (by show ¬ w.heap.size + 1 = b; omega)
  have K4 := K3.trans k4
  have gT4 : ∀ i, w4.cell? ⟨w.heap.size + 1, i, none⟩ = [Value.int .i64 k, .string x, .int .i64 σ.ta][i]? := hT4.cell
  go_wp2_with fail
  refine (rprefix_any x w4).mono ?_
  rintro e w5 ⟨rfl, k5⟩
  rw [HFX.out]
  have h5 := h4.kept k5 id
  have hR5 := hR4.kept k5 id
  have K5 := K4.trans (k5.mono (T := (· = b)) (fun _ _ h => h.elim))
  have b5 := h5.lt
  have l5 := hR5.lt
  go_wp2_with fail
  refine (rinside_any hT hI h5 kRpar (by decide +kernel) Q1.out (by omega) (by omega)).mono ?_
  rintro e w6 ⟨u, v, rfl, ⟨tk6, kk6, rfl, a6, c6⟩, L6, k6⟩
  obtain ⟨ua, un, uc, rfl⟩ := a6.slice
  obtain ⟨ud, ue, uf, rfl⟩ := c6.slice
  unfold tmVal
  have hR6 := hR5.kept k6 (by show ¬ w.heap.size = b; omega)
  have K6 := K5.trans k6
  have LL : LE b s (atomS T s σ) (nd fx [u]) w6 := (L6.map (fun t => nd fx [t])).eq (by rw [HQ.out])
  have b6 := LL.rr.lt
  have l6 := hR6.lt
  have z6 := k6.size
  have gR : ∀ i, w6.cell? ⟨w.heap.size, i, none⟩ = [Value.int .i64 0, .string ⟨#[]⟩, .int .i64 0, .int .i64 0, .string ⟨#[]⟩, .slice none 0 0, .slice none 0 0][i]? := hR6.cell
  have fR : ∀ i, w6.frozen? ⟨w.heap.size, i, none⟩ = false := hR6.frozen
  go_wp2_with fail
  refine ret_lv Tryz.results123 (t := nd fx [u]) rfl rfl ((r7 hR6 rfl).alloc _) .nil0 ?_ ((LL.s7 (by omega)).alloc _) ((k7w K6 (Or.inr (Nat.le_refl _))).alloc _)
  refine TmL.one (ty := 27) (by omega) (Nat.le_refl _) (Blk.new' 27 _ (by simp)) ?_ ?_
  · exact ((a6.frame (same7 (R := w.heap.size) (by omega))).frame (Same.alloc _ _)).mono (fun k _ h => by omega)
  · exact ((c6.frame (same7 (R := w.heap.size) (by omega))).frame (Same.alloc _ _)).mono (fun k _ h => by omega)
set_option maxHeartbeats 8000000 in
theorem ratom_no {b f : Nat} {s : ByteArray} {T : TF} {w : World} {σ : PS} (h : RR w b s (.ok σ)) (k2 : ((lexW s σ.ta).1 == 2) = false) (k1 : ((lexW s σ.ta).1 == 1) = false) (k3 : ((lexW s σ.ta).1 == 3) = false) (hkTrue : isS σ kTrue = false) (hkFalse : isS σ kFalse = false) (hkLpar : isS σ kLpar = false) (hkLcu : isS σ kLcu = false) (hkForall : isS σ kForall = false) (hkExists : isS σ kExists = false) (hkFun : isS σ kFun = false)  : Calls Tryz.prog 123 #[.pointer (some ⟨b, 0, none⟩)] w (LV b s (VTm w.heap.size) (atomS T s σ) w) := by
  obtain ⟨hat, tk⟩ := h.st
  have hz := lex_le tk h.src
  have IkTrue := Lib.hid ((is_lex tk kTrue).trans hkTrue)
  have IkFalse := Lib.hid ((is_lex tk kFalse).trans hkFalse)
  have IkLpar := Lib.hid ((is_lex tk kLpar).trans hkLpar)
  have IkLcu := Lib.hid ((is_lex tk kLcu).trans hkLcu)
  have IkForall := Lib.hid ((is_lex tk kForall).trans hkForall)
  have IkExists := Lib.hid ((is_lex tk kExists).trans hkExists)
  have IkFun := Lib.hid ((is_lex tk kFun).trans hkFun)
  have HQ := Lib.hid (atom_rnone (T := T) tk k1 k3 hkTrue hkFalse hkLpar hkLcu hkForall hkExists hkFun (Or.inl k2))
  clear hkTrue hkFalse hkLpar hkLcu hkForall hkExists hkFun tk
  have hs := h.src
  have hlt := h.lt
  generalize (lexW s σ.ta).1 = k at *
  generalize (lexW s σ.ta).2 = x at *
  have hR0 : Blk (w.alloc (.cells #[.int .i64 0, .string ⟨#[]⟩, .int .i64 0, .int .i64 0, .string ⟨#[]⟩, .slice none 0 0, .slice none 0 0] 27)) w.heap.size 27 z27 := Blk.new w 27 z27
  have hat0 := hat.grow (((Kept.refl _ _).alloc (.cells #[.int .i64 0, .string ⟨#[]⟩, .int .i64 0, .int .i64 0, .string ⟨#[]⟩, .slice none 0 0, .slice none 0 0] 27)).alloc (.cells #[.int .i64 k, .string x, .int .i64 σ.ta] 55))
  have h1 := (h.alloc (.cells #[.int .i64 0, .string ⟨#[]⟩, .int .i64 0, .int .i64 0, .string ⟨#[]⟩, .slice none 0 0, .slice none 0 0] 27)).alloc (.cells #[.int .i64 k, .string x, .int .i64 σ.ta] 55)
  have hR1 := hR0.alloc (.cells #[.int .i64 k, .string x, .int .i64 σ.ta] 55)
  have K1 : Kept (· = b) w ((w.alloc (.cells #[.int .i64 0, .string ⟨#[]⟩, .int .i64 0, .int .i64 0, .string ⟨#[]⟩, .slice none 0 0, .slice none 0 0] 27)).alloc (.cells #[.int .i64 k, .string x, .int .i64 σ.ta] 55)) := ((Kept.refl _ _).alloc _).alloc _
  have hT1 : Blk ((w.alloc (.cells #[.int .i64 0, .string ⟨#[]⟩, .int .i64 0, .int .i64 0, .string ⟨#[]⟩, .slice none 0 0, .slice none 0 0] 27)).alloc (.cells #[.int .i64 k, .string x, .int .i64 σ.ta] 55)) (w.heap.size + 1) 55 [.int .i64 k, .string x, .int .i64 σ.ta] := Blk.new' 55 _ (by simp)
  have hat1 := hat.grow ((Kept.refl _ _).alloc (.cells #[.int .i64 0, .string ⟨#[]⟩, .int .i64 0, .int .i64 0, .string ⟨#[]⟩, .slice none 0 0, .slice none 0 0] 27))
  have c1 := hat1.c1
  have c2 := hat1.c2
  have c3 := hat1.c3
  go_enter Tryz.func123, Tryz.ntmps123
  go_wp2_with fail
  generalize ((w.alloc (.cells #[.int .i64 0, .string ⟨#[]⟩, .int .i64 0, .int .i64 0, .string ⟨#[]⟩, .slice none 0 0, .slice none 0 0] 27)).alloc (.cells #[.int .i64 k, .string x, .int .i64 σ.ta] 55)) = w1 at *
  refine (rok_any hat0 rfl).mono ?_
  rintro e w' ⟨rfl, rfl⟩
  have gT1 : ∀ i, w1.cell? ⟨w.heap.size + 1, i, none⟩ = [Value.int .i64 k, .string x, .int .i64 σ.ta][i]? := hT1.cell
  have z1 := h1.lt
  have zT := hT1.lt
  have zR := hR1.lt
  go_wp2_with fail
  refine (ris_any hat0 kTrue IkTrue.out).mono ?_
  rintro e w' ⟨rfl, rfl⟩
  go_wp2_with fail
  refine (ris_any hat0 kFalse IkFalse.out).mono ?_
  rintro e w' ⟨rfl, rfl⟩
  go_wp2_with fail
  refine (ris_any hat0 kLpar IkLpar.out).mono ?_
  rintro e w' ⟨rfl, rfl⟩
  go_wp2_with fail
  refine (ris_any hat0 kLcu IkLcu.out).mono ?_
  rintro e w' ⟨rfl, rfl⟩
  go_wp2_with fail
  refine (ris_any hat0 kForall IkForall.out).mono ?_
  rintro e w' ⟨rfl, rfl⟩
  go_wp2_with fail
  refine (ris_any hat0 kExists IkExists.out).mono ?_
  rintro e w' ⟨rfl, rfl⟩
  go_wp2_with fail
  refine (ris_any hat0 kFun IkFun.out).mono ?_
  rintro e w' ⟨rfl, rfl⟩
  go_wp2_with fail
  refine (rwrong_live hat0 rfl).mono ?_
  rintro e w3 ⟨rfl, h3, k3⟩
  have hR3 := hR1.kept k3 (by show ¬ w.heap.size = b; omega)
  have K3 := K1.trans k3
  have LL : LE b s (atomS T s σ) tm00 w3 := by rw [HQ.out]; exact RR.wrong (r := (false, σ.ta)) hs rfl h3
  have gR : ∀ i, w3.cell? ⟨w.heap.size, i, none⟩ = [Value.int .i64 0, .string ⟨#[]⟩, .int .i64 0, .int .i64 0, .string ⟨#[]⟩, .slice none 0 0, .slice none 0 0][i]? := hR3.cell
  have fR : ∀ i, w3.frozen? ⟨w.heap.size, i, none⟩ = false := hR3.frozen
  go_wp2_with fail
  exact ret_lv Tryz.results123 (t := tm00) rfl rfl (r7 hR3 rfl) .nil0 .nil0 (LL.s7 (by omega)) (k7w K3 (Or.inr (Nat.le_refl _)))
set_option maxHeartbeats 8000000 in
theorem ratom_no2 {b f : Nat} {s : ByteArray} {T : TF} {w : World} {σ : PS} (h : RR w b s (.ok σ)) (k2 : ((lexW s σ.ta).1 == 2) = true) (hfn : functionN (lexW s σ.ta).2 = 0) (k1 : ((lexW s σ.ta).1 == 1) = false) (k3 : ((lexW s σ.ta).1 == 3) = false) (hkTrue : isS σ kTrue = false) (hkFalse : isS σ kFalse = false) (hkLpar : isS σ kLpar = false) (hkLcu : isS σ kLcu = false) (hkForall : isS σ kForall = false) (hkExists : isS σ kExists = false) (hkFun : isS σ kFun = false)  : Calls Tryz.prog 123 #[.pointer (some ⟨b, 0, none⟩)] w (LV b s (VTm w.heap.size) (atomS T s σ) w) := by
  obtain ⟨hat, tk⟩ := h.st
  have hz := lex_le tk h.src
  have IkTrue := Lib.hid ((is_lex tk kTrue).trans hkTrue)
  have IkFalse := Lib.hid ((is_lex tk kFalse).trans hkFalse)
  have IkLpar := Lib.hid ((is_lex tk kLpar).trans hkLpar)
  have IkLcu := Lib.hid ((is_lex tk kLcu).trans hkLcu)
  have IkForall := Lib.hid ((is_lex tk kForall).trans hkForall)
  have IkExists := Lib.hid ((is_lex tk kExists).trans hkExists)
  have IkFun := Lib.hid ((is_lex tk kFun).trans hkFun)
  have HQ := Lib.hid (atom_rnone (T := T) tk k1 k3 hkTrue hkFalse hkLpar hkLcu hkForall hkExists hkFun (Or.inr hfn))
  have HFX := Lib.hid hfn
  clear hfn
  clear hkTrue hkFalse hkLpar hkLcu hkForall hkExists hkFun tk
  have hs := h.src
  have hlt := h.lt
  generalize (lexW s σ.ta).1 = k at *
  generalize (lexW s σ.ta).2 = x at *
  have hR0 : Blk (w.alloc (.cells #[.int .i64 0, .string ⟨#[]⟩, .int .i64 0, .int .i64 0, .string ⟨#[]⟩, .slice none 0 0, .slice none 0 0] 27)) w.heap.size 27 z27 := Blk.new w 27 z27
  have hat0 := hat.grow (((Kept.refl _ _).alloc (.cells #[.int .i64 0, .string ⟨#[]⟩, .int .i64 0, .int .i64 0, .string ⟨#[]⟩, .slice none 0 0, .slice none 0 0] 27)).alloc (.cells #[.int .i64 k, .string x, .int .i64 σ.ta] 55))
  have h1 := (h.alloc (.cells #[.int .i64 0, .string ⟨#[]⟩, .int .i64 0, .int .i64 0, .string ⟨#[]⟩, .slice none 0 0, .slice none 0 0] 27)).alloc (.cells #[.int .i64 k, .string x, .int .i64 σ.ta] 55)
  have hR1 := hR0.alloc (.cells #[.int .i64 k, .string x, .int .i64 σ.ta] 55)
  have K1 : Kept (· = b) w ((w.alloc (.cells #[.int .i64 0, .string ⟨#[]⟩, .int .i64 0, .int .i64 0, .string ⟨#[]⟩, .slice none 0 0, .slice none 0 0] 27)).alloc (.cells #[.int .i64 k, .string x, .int .i64 σ.ta] 55)) := ((Kept.refl _ _).alloc _).alloc _
  have hT1 : Blk ((w.alloc (.cells #[.int .i64 0, .string ⟨#[]⟩, .int .i64 0, .int .i64 0, .string ⟨#[]⟩, .slice none 0 0, .slice none 0 0] 27)).alloc (.cells #[.int .i64 k, .string x, .int .i64 σ.ta] 55)) (w.heap.size + 1) 55 [.int .i64 k, .string x, .int .i64 σ.ta] := Blk.new' 55 _ (by simp)
  have hat1 := hat.grow ((Kept.refl _ _).alloc (.cells #[.int .i64 0, .string ⟨#[]⟩, .int .i64 0, .int .i64 0, .string ⟨#[]⟩, .slice none 0 0, .slice none 0 0] 27))
  have c1 := hat1.c1
  have c2 := hat1.c2
  have c3 := hat1.c3
  go_enter Tryz.func123, Tryz.ntmps123
  go_wp2_with fail
  generalize ((w.alloc (.cells #[.int .i64 0, .string ⟨#[]⟩, .int .i64 0, .int .i64 0, .string ⟨#[]⟩, .slice none 0 0, .slice none 0 0] 27)).alloc (.cells #[.int .i64 k, .string x, .int .i64 σ.ta] 55)) = w1 at *
  refine (rok_any hat0 rfl).mono ?_
  rintro e w' ⟨rfl, rfl⟩
  have gT1 : ∀ i, w1.cell? ⟨w.heap.size + 1, i, none⟩ = [Value.int .i64 k, .string x, .int .i64 σ.ta][i]? := hT1.cell
  have z1 := h1.lt
  have zT := hT1.lt
  have zR := hR1.lt
  go_wp2_with fail
  refine (ris_any hat0 kTrue IkTrue.out).mono ?_
  rintro e w' ⟨rfl, rfl⟩
  go_wp2_with fail
  refine (ris_any hat0 kFalse IkFalse.out).mono ?_
  rintro e w' ⟨rfl, rfl⟩
  go_wp2_with fail
  refine (ris_any hat0 kLpar IkLpar.out).mono ?_
  rintro e w' ⟨rfl, rfl⟩
  go_wp2_with fail
  refine (ris_any hat0 kLcu IkLcu.out).mono ?_
  rintro e w' ⟨rfl, rfl⟩
  go_wp2_with fail
  refine (ris_any hat0 kForall IkForall.out).mono ?_
  rintro e w' ⟨rfl, rfl⟩
  go_wp2_with fail
  refine (ris_any hat0 kExists IkExists.out).mono ?_
  rintro e w' ⟨rfl, rfl⟩
  go_wp2_with fail
  refine (ris_any hat0 kFun IkFun.out).mono ?_
  rintro e w' ⟨rfl, rfl⟩
  go_wp2_with fail
  refine (rprefix_any x w1).mono ?_
  rintro e w2 ⟨rfl, k2'⟩
  rw [HFX.out]
  have hat2 := hat0.kept k2' id
  have hR2 := hR1.kept k2' id
  have K2 := K1.trans (k2'.mono (T := (· = b)) (fun _ _ h => h.elim))
  go_wp2_with fail
  refine (rwrong_live hat2 rfl).mono ?_
  rintro e w3 ⟨rfl, h3, k3⟩
  have hR3 := hR2.kept k3 (by show ¬ w.heap.size = b; omega)
  have K3 := K2.trans k3
  have LL : LE b s (atomS T s σ) tm00 w3 := by rw [HQ.out]; exact RR.wrong (r := (false, σ.ta)) hs rfl h3
  have gR : ∀ i, w3.cell? ⟨w.heap.size, i, none⟩ = [Value.int .i64 0, .string ⟨#[]⟩, .int .i64 0, .int .i64 0, .string ⟨#[]⟩, .slice none 0 0, .slice none 0 0][i]? := hR3.cell
  have fR : ∀ i, w3.frozen? ⟨w.heap.size, i, none⟩ = false := hR3.frozen
  go_wp2_with fail
  exact ret_lv Tryz.results123 (t := tm00) rfl rfl (r7 hR3 rfl) .nil0 .nil0 (LL.s7 (by omega)) (k7w K3 (Or.inr (Nat.le_refl _)))
theorem ratom_any {b f : Nat} {s : ByteArray} {T : TF} (hT : RTC b s f T) (hI : TInv s T) (hB : RBC b s f T) : RAC b s f T := by
  intro q w M N h hq hf
  match q, h with
  | .error r, h => exact ratom_err h
  | .ok σ, h =>
    show Calls _ _ _ _ (LV b s _ (atomS T s σ) w)
    obtain ⟨hm, hp, _⟩ := hq σ rfl
    have hf' : 14 * mu s σ ≤ f := by omega
    cases k1 : ((lexW s σ.ta).1 == 1)
    case true => exact ratom_nm (f := f) h k1
    cases k3 : ((lexW s σ.ta).1 == 3)
    case true => exact ratom_num (f := f) h k1 k3
    cases h1 : isS σ kTrue
    case true => exact ratom_kTrue (f := f) h k1 k3 h1
    cases h2 : isS σ kFalse
    case true => exact ratom_kFalse (f := f) h k1 k3 h1 h2
    cases h3 : isS σ kLpar
    case true => exact ratom_kLpar h hT hI hp hf' k1 k3 h1 h2 h3
    cases h4 : isS σ kLcu
    case true => exact ratom_kLcu h hB hp hf' k1 k3 h1 h2 h3 h4
    cases h5 : isS σ kForall
    case true => exact ratom_kForall h hT hI hp hf' k1 k3 h1 h2 h3 h4 h5
    cases h6 : isS σ kExists
    case true => exact ratom_kExists h hT hI hp hf' k1 k3 h1 h2 h3 h4 h5 h6
    cases h7 : isS σ kFun
    case true => exact ratom_kFun h hT hI hp hf' k1 k3 h1 h2 h3 h4 h5 h6 h7
    cases k2 : ((lexW s σ.ta).1 == 2)
    · exact ratom_no (f := f) h k2 k1 k3 h1 h2 h3 h4 h5 h6 h7
    · cases hfn : (functionN (lexW s σ.ta).2 != 0)
      · exact ratom_no2 (f := f) h k2 (by simpa using hfn) k1 k3 h1 h2 h3 h4 h5 h6 h7
      · exact ratom_fn h hT hI hp hf' k1 k3 h1 h2 h3 h4 h5 h6 h7 k2 hfn
structure RV (w : World) (b : Nat) (s : ByteArray) (q : Except ER PS) (k : Int) (x : ByteArray) (a nest at_ e : Int) : Prop where
  at' : RAt w b s k x a nest at_ e
  name : (e == 0) = true → (k == 1) = true → ∃ σ, q = .ok σ
  ok : ∀ σ, q = .ok σ → k = (lexW s σ.ta).1 ∧ x = (lexW s σ.ta).2 ∧ e = 0 ∧ a = σ.ta
  deep : ∀ r, q = .error r → isR k x kRcu = true → ∃ a' : Nat, a = a' ∧ nest = 65 ∧ at_ = r.2 ∧ e = (if r.1 = true then 4 else 2) ∧ a' + x.size ≤ s.size
theorem RB.view {w : World} {b : Nat} {s : ByteArray} {q : Except ER PS} (h : RB w b s q) : ∃ k x a nest at_ e, RV w b s q k x a nest at_ e := by
  match q, h with
  | .ok σ, h =>
    obtain ⟨hat, tk⟩ := h.st
    exact ⟨_, _, _, _, _, _, hat, fun _ _ => ⟨σ, rfl⟩, fun σ' e => by cases e; exact ⟨rfl, rfl, rfl, rfl⟩, fun r e => by cases e⟩
  | .error r, .inl ⟨h1, x, nest, hat⟩ => exact ⟨_, _, _, _, _, _, hat, fun _ e => (by cases e), fun σ e => (by cases e), fun r' e h => (by cases h)⟩
  | .error r, .inr ⟨k, x, a, hat, hle⟩ =>
    refine ⟨_, _, _, _, _, _, hat, fun e => ?_, fun σ e => (by cases e), fun r' e h => by cases e; exact ⟨a, rfl, rfl, rfl, rfl, hle⟩⟩
    rw [e_dead] at e; cases e
def emC (s : ByteArray) (q1 : Except ER PS) : RT := bT (bT (bP (bP q1 fun σ => openS s σ kLbr) (typedS (s.size + 2) s)) fun a' σ => bP (shutS s σ kRbr) fun σ' => .ok (a', σ')) fun a' σ => .ok (Tm.mk 29 nil0 0 a' [], σ)
theorem em_ch {s : ByteArray} {σ : PS} (hi : isS σ kRcu = true) : emptyK s σ = emC s (shutS s σ kRcu) := by
  have e : shutS s σ kRcu = bP (advS s σ) fun σ2 => .ok { σ2 with nest := σ2.nest - 1 } := by
    unfold shutS; rw [want_yes hi]; cases advS s σ <;> rfl
  unfold emptyK emC
  rw [e]
  cases advS s σ with
  | error _ => rfl
  | ok σ2 =>
    simp only [bP_pure]
    cases openS s { σ2 with nest := σ2.nest - 1 } kLbr with
    | error _ => rfl
    | ok σ3 =>
      simp only [bP_pure]
      cases typedS (s.size + 2) s σ3 with
      | error _ => rfl
      | ok p =>
        obtain ⟨y, σ4⟩ := p
        simp only [bT_pure]
        cases shutS s σ4 kRbr <;> rfl
set_option maxHeartbeats 8000000 in
theorem rbr_end {b : Nat} {s : ByteArray} {T : TF} {w : World} {q : Except ER PS} {M N : Nat} (hs : s.size ≤ 65536) (h : RB w b s q) (hq : QB s q M N) (hN : 1 ≤ N) {k : Int} {x : ByteArray} {a nest at_ e : Int} (hv : RV w b s q k x a nest at_ e) (hR : isR k x kRcu = true) :
    Calls Tryz.prog 152 #[.pointer (some ⟨b, 0, none⟩)] w (LV b s (VTm w.heap.size) (bP q (brK T s)) w) := by
  have key : ∃ q1, (∀ W, Kept (fun _ => False) w W → Calls Tryz.prog 75 #[.pointer (some ⟨b, 0, none⟩)] W (RU b s q1 W)) ∧ bP q (brK T s) = emC s q1 ∧ QB s q1 (M - 1) (N - 1) := by
    match q, h, hq, hv with
    | .ok σ, h, hq, hv =>
      have tk := RR.tk h rfl
      obtain ⟨v1, v2, _, _⟩ := hv.ok σ rfl
      have hi : isS σ kRcu = true := by rw [← is_lex tk kRcu, ← v1, ← v2]; exact hR
      have hn := (hq σ rfl).2.2
      refine ⟨shutS s σ kRcu, fun W hW => pass_sh tk hi (by decide +kernel) (by omega) W (RR.kept h hW id), ?_, ?_⟩
      · show brK T s σ = _
        unfold brK
        rw [if_pos hi, em_ch hi]
      · exact qb_shut hq kRcu
    | .error r, h, hq, hv =>
      obtain ⟨a', rfl, rfl, rfl, rfl, hle⟩ := hv.deep r rfl hR
      refine ⟨.error r, fun W hW => ?_, rfl, fun σ e => by cases e⟩
      refine (pass_any (hv.at'.kept hW id) hs hle (by omega)).mono ?_
      rintro e w' ⟨rfl, hp, kp⟩
      refine ⟨rfl, ⟨hs, Or.inr ?_⟩, kp⟩
      unfold PassAt at hp
      have hne : ¬ ((if r.1 = true then (4 : Int) else 2) = 0) := by cases r.1 <;> decide
      have hc : ¬ (inB x openers = true ∧ (64 : Int) < 65 + 1 ∧ (if r.1 = true then (4 : Int) else 2) = 0) := fun c => hne c.2.2
      rw [if_neg hc, if_neg hc] at hp
      exact ⟨_, _, _, _, hp⟩
  obtain ⟨q1, HP', HE', HQ'⟩ := key
  have HP := Lib.hid HP'
  have HQ := Lib.hid HQ'
  rw [HE']
  have hat := hv.at'
  have hlt := Blk.lt hat
  have HR := Lib.hid hR
  clear HP' HQ' HE' hR hv h hq hN
  have hR0 : Blk (w.alloc (.cells #[.int .i64 0, .string ⟨#[]⟩, .int .i64 0, .int .i64 0, .string ⟨#[]⟩, .slice none 0 0, .slice none 0 0] 27)) w.heap.size 27 z27 := Blk.new w 27 z27
  have k0 : Kept (fun _ => False) w (w.alloc (.cells #[.int .i64 0, .string ⟨#[]⟩, .int .i64 0, .int .i64 0, .string ⟨#[]⟩, .slice none 0 0, .slice none 0 0] 27)) := (Kept.refl _ _).alloc _
  have hat0 := hat.grow k0
  have K0 : Kept (· = b) w (w.alloc (.cells #[.int .i64 0, .string ⟨#[]⟩, .int .i64 0, .int .i64 0, .string ⟨#[]⟩, .slice none 0 0, .slice none 0 0] 27)) := (Kept.refl _ _).alloc _
  go_enter Tryz.func152, Tryz.ntmps152
  go_wp2_with fail
  generalize (w.alloc (.cells #[.int .i64 0, .string ⟨#[]⟩, .int .i64 0, .int .i64 0, .string ⟨#[]⟩, .slice none 0 0, .slice none 0 0] 27)) = w1 at *
  have l1 := hR0.lt
  refine (ris_any hat0 kRcu HR.out).mono ?_
  rintro e w' ⟨rfl, rfl⟩
  go_wp2_with fail
  refine (HP.out _ k0).mono ?_
  rintro e w2 ⟨rfl, h2, k2⟩
  have hR2 := hR0.kept k2 (by show ¬ w.heap.size = b; omega)
  have K2 := K0.trans k2
  go_wp2_with fail
  refine (rmust_open h2 kLbr (by decide +kernel)).mono ?_
  rintro e w3 ⟨rfl, h3, k3⟩
  have hR3 := hR2.kept k3 (by show ¬ w.heap.size = b; omega)
  have K3 := K2.trans k3
  have Q3 := Lib.hid (qb_open HQ.out kLbr)
  have l3 := hR3.lt
  have b3 := h3.lt
  go_wp2_with fail
  refine (rtyp_any (s.size + 2) _ _ h3 (fun σ e => ⟨by have := mu_le s σ; omega, (Q3.out σ e).2.1⟩)).mono ?_
  rintro e w4 ⟨y, v, rfl, ⟨tk4, rfl, a4⟩, L4, k4⟩
  obtain ⟨ya, yn, yc, rfl⟩ := a4.slice
  unfold tyVal
  have hR5 := (hR3.kept k4 (by show ¬ w.heap.size = b; omega)).alloc (.cells #[.int .i64 29, .string ⟨#[]⟩, .int .i64 0, .int .i64 y.kind, .string y.name, .slice ya yn yc, .slice none 0 0] 27)
  have hE5 : Blk (w4.alloc (.cells #[.int .i64 29, .string ⟨#[]⟩, .int .i64 0, .int .i64 y.kind, .string y.name, .slice ya yn yc, .slice none 0 0] 27)) w4.heap.size 27 [.int .i64 29, .string ⟨#[]⟩, .int .i64 0, .int .i64 y.kind, .string y.name, .slice ya yn yc, .slice none 0 0] := Blk.new w4 27 _
  have K5 := (K3.trans k4).alloc (.cells #[.int .i64 29, .string ⟨#[]⟩, .int .i64 0, .int .i64 y.kind, .string y.name, .slice ya yn yc, .slice none 0 0] 27)
  have L5 := L4.alloc (.cells #[.int .i64 29, .string ⟨#[]⟩, .int .i64 0, .int .i64 y.kind, .string y.name, .slice ya yn yc, .slice none 0 0] 27)
  have a5 := a4.frame (Same.alloc _ (.cells #[.int .i64 29, .string ⟨#[]⟩, .int .i64 0, .int .i64 y.kind, .string y.name, .slice ya yn yc, .slice none 0 0] 27))
  have Q4 := Lib.hid (qb_ty (s.size + 2) Q3.out)
  have z4 := k4.size
  have b4 := L4.rr.lt
  go_wp2_with fail
  generalize (w4.alloc (.cells #[.int .i64 29, .string ⟨#[]⟩, .int .i64 0, .int .i64 y.kind, .string y.name, .slice ya yn yc, .slice none 0 0] 27)) = w5 at *
  refine (rmust_shut L5.rr kRbr (by decide +kernel) (fun σ e => by have := (Q4.out σ e).2.2; omega)).mono ?_
  rintro e w6 ⟨rfl, h6, k6⟩
  have L6 : LE b s (emC s q1) (Tm.mk 29 nil0 0 y []) w6 := (L5.then_u h6).map (fun a => Tm.mk 29 nil0 0 a [])
  have hR6 := hR5.kept k6 (by show ¬ w.heap.size = b; omega)
  have hE6 := hE5.kept k6 (by show ¬ w4.heap.size = b; omega)
  have a6 := a5.frame (Same.of_kept k6 (fun k h e => by omega))
  have K6 := K5.trans k6
  have gE : ∀ i, w6.cell? ⟨w4.heap.size, i, none⟩ = [Value.int .i64 29, .string ⟨#[]⟩, .int .i64 0, .int .i64 y.kind, .string y.name, .slice ya yn yc, .slice none 0 0][i]? := hE6.cell
  have gR : ∀ i, w6.cell? ⟨w.heap.size, i, none⟩ = [Value.int .i64 0, .string ⟨#[]⟩, .int .i64 0, .int .i64 0, .string ⟨#[]⟩, .slice none 0 0, .slice none 0 0][i]? := hR6.cell
  have fR : ∀ i, w6.frozen? ⟨w.heap.size, i, none⟩ = false := hR6.frozen
  go_wp2_with fail
  refine ret_lv Tryz.results152 (t := Tm.mk 29 nil0 0 y []) rfl rfl (r7 hR6 rfl) ?_ .nil0 (L6.s7 (by omega)) (k7w K6 (Or.inr (Nat.le_refl _)))
  exact (a6.frame (same7 (R := w.heap.size) (by omega))).mono (fun k _ h => by omega)
end Go.Proofs.YtckjlliobebodaaGreatDoor
