/- Texts Mon Nz SaW of this proof, in one. -/
import Derived.Test.YtfhedienjnfdcaaGreatDoorK27
import Derived.StillTail
set_option linter.unusedVariables false
set_option linter.unusedSimpArgs false
set_option maxRecDepth 100000
set_option maxHeartbeats 32000000
namespace Go.Proofs.YtfhedienjnfdcaaGreatDoor
open Go
section
variable {P : Program} {ops : Array Oper} {L : World → World → Prop} {T : Nat → Value → World → Prop}
def Up (L : World → World → Prop) (T : Value → World → Prop) (v : Value) (w : World) : Prop := ∃ w1, L w1 w ∧ T v w1
def dstOf (ops : Array Oper) (j : Nat) : Option Tmp := (ops[j]?).bind (·.dst)
def depsOf (o : Oper) : List Nat := (o.after.toList.filter (Region.binds .any)).map (·.on)
def allV (ops : Array Oper) (L : World → World → Prop) (T : Nat → Value → World → Prop) (K : Act → Prop) (W : World) : List Nat → Act → Prop
 | [], b => K b
 | j :: js, b => match dstOf ops j with
  | some d => ∀ v, Up L (T j) v W → allV ops L T K W js (b.put (some d) v)
  | none => allV ops L T K W js b
def KT (L : World → World → Prop) (T : Value → World → Prop) (o : Oper) (b : Act) (W : World) (a' : Act) (w' : World) : Prop :=
 L W w' ∧ a'.defers = b.defers ∧ (match o.dst with | some d => T (a'.eval (.tmp d)) w' | none => True)
def stepM (P : Program) (ops : Array Oper) (L : World → World → Prop) (T : Nat → Value → World → Prop) (a0 : Act) (w0 : World) (i : Nat) (o : Oper) : Prop :=
 ∀ W, L w0 W → allV ops L T (fun b => if Region.wanted o (yielded ops b.tmps) = true then o.wp P b W (KT L (T i) o b W) (fun _ _ _ => False) else KT L (T i) o b W (b.put o.dst undef) W) W (depsOf o) a0
def stepE (P : Program) (ops : Array Oper) (L : World → World → Prop) (T : Nat → Value → World → Prop) (a0 : Act) (w0 : World) (i : Nat) (o : Oper) : Prop :=
 ∀ W, L w0 W → allV ops L T (fun b => ∃ v, Yields P ops o v b ∧ T i v W) W (depsOf o) a0
def stepA (P : Program) (ops : Array Oper) (L : World → World → Prop) (T : Nat → Value → World → Prop) (late : List Nat) (a0 : Act) (w0 : World) (i : Nat) (o : Oper) : Prop :=
 stepE P ops L T a0 w0 i o ∨ (late.contains i = false ∧ stepM P ops L T a0 w0 i o)
def allM (P : Program) (ops : Array Oper) (L : World → World → Prop) (T : Nat → Value → World → Prop) (late tl : List Nat) (a0 : Act) (w0 : World) : Nat → List Oper → Prop
 | _, [] => True
 | i, o :: os => (tl.contains i = true ∨ stepA P ops L T late a0 w0 i o) ∧ allM P ops L T late tl a0 w0 (i + 1) os
theorem allM_nil {late tl : List Nat} {a0 : Act} {w0 : World} {i : Nat} : allM P ops L T late tl a0 w0 i [] := trivial
theorem allM_cons {late tl : List Nat} {a0 : Act} {w0 : World} {i : Nat} {o : Oper} {os : List Oper} (hl : late.contains i = false) (h : stepM P ops L T a0 w0 i o) (h' : allM P ops L T late tl a0 w0 (i + 1) os) : allM P ops L T late tl a0 w0 i (o :: os) := ⟨Or.inr (Or.inr ⟨hl, h⟩), h'⟩
theorem allM_pure {late tl : List Nat} {a0 : Act} {w0 : World} {i : Nat} {o : Oper} {os : List Oper} (h : stepE P ops L T a0 w0 i o) (h' : allM P ops L T late tl a0 w0 (i + 1) os) : allM P ops L T late tl a0 w0 i (o :: os) := ⟨Or.inr (Or.inl h), h'⟩
theorem allM_tail {late tl : List Nat} {a0 : Act} {w0 : World} {i : Nat} {o : Oper} {os : List Oper} (h : tl.contains i = true) (h' : allM P ops L T late tl a0 w0 (i + 1) os) : allM P ops L T late tl a0 w0 i (o :: os) := ⟨Or.inl h, h'⟩
theorem allM_at {late tl : List Nat} {a0 : Act} {w0 : World} : ∀ {os : List Oper} {k i : Nat} {o : Oper}, allM P ops L T late tl a0 w0 k os → os[i]? = some o → tl.contains (k + i) = false → stepA P ops L T late a0 w0 (k + i) o
 | [], _, _, _, _, h, _ => by simp at h
 | x :: os, k, 0, o, h, e, ht => by
  simp only [List.getElem?_cons_zero, Option.some.injEq] at e; subst e
  rcases h.1 with h1 | h1
  ·rw [Nat.add_zero] at ht; rw [ht] at h1; cases h1
  ·exact h1
 | x :: os, k, i + 1, o, h, e, ht => by
  rw [List.getElem?_cons_succ] at e
  have e2 : k + (i + 1) = k + 1 + i := by omega
  rw [e2] at ht ⊢
  exact allM_at h.2 e ht
def pickT (tl : List Nat) : Nat → List Oper → List Oper
 | _, [] => []
 | i, o :: os => if tl.contains i then o :: pickT tl (i + 1) os else pickT tl (i + 1) os
def putD (ops : Array Oper) (c : Act) : List Nat → Act → Act
 | [], b => b
 | j :: js, b => match dstOf ops j with
  | some d => putD ops c js (b.put (some d) (c.eval (.tmp d)))
  | none => putD ops c js b
theorem allV_at {K : Act → Prop} {W : World} {c : Act} : ∀ {js : List Nat} {b : Act}, allV ops L T K W js b → (∀ j, j ∈ js → ∀ d, dstOf ops j = some d → Up L (T j) (c.eval (.tmp d)) W) → K (putD ops c js b)
 | [], _, h, _ => h
 | j :: js, b, h, hU => by
  unfold allV at h
  unfold putD
  cases hd : dstOf ops j with
  | none => rw [hd] at h; exact allV_at h fun k hk => hU k (List.mem_cons_of_mem _ hk)
  | some d => rw [hd] at h; exact allV_at (h _ (hU j (List.mem_cons_self ..) d hd)) fun k hk => hU k (List.mem_cons_of_mem _ hk)
theorem putD_defers {c : Act} : ∀ {js : List Nat} {b : Act}, (putD ops c js b).defers = b.defers
 | [], _ => rfl
 | j :: js, b => by
  unfold putD
  cases dstOf ops j with
  | none => exact putD_defers
  | some d => rw [putD_defers]; rfl
theorem putD_size {c : Act} : ∀ {js : List Nat} {b : Act}, (putD ops c js b).tmps.size = b.tmps.size
 | [], _ => rfl
 | j :: js, b => by
  unfold putD
  cases dstOf ops j with
  | none => exact putD_size
  | some d => rw [putD_size]; simp [Act.put]
theorem eval_get {a : Act} {t : Tmp} : a.eval (.tmp t) = a.tmps.getD t undef := by
 simp [Act.eval, Array.getD_eq_getD_getElem?]
theorem put_get {b : Act} {d t : Tmp} {v : Value} : (b.put (some d) v).tmps[t]? = if d = t then (if d < b.tmps.size then some v else none) else b.tmps[t]? := by
 simp only [Act.put]
 rw [Array.getElem?_setIfInBounds]
theorem get_eval {c : Act} {d : Tmp} : (if d < c.tmps.size then some (c.eval (.tmp d)) else none) = c.tmps[d]? := by
 by_cases h : d < c.tmps.size
 ·rw [if_pos h, eval_get]; simp [h]
 ·rw [if_neg h]; simp [Nat.le_of_not_lt h]
theorem putD_get {c : Act} {t : Tmp} : ∀ {js : List Nat} {b : Act}, b.tmps.size = c.tmps.size → (b.tmps[t]? = c.tmps[t]? ∨ ∃ j, j ∈ js ∧ dstOf ops j = some t) → (putD ops c js b).tmps[t]? = c.tmps[t]?
 | [], b, _, h => by
  rcases h with h | ⟨j, hj, _⟩
  ·exact h
  ·cases hj
 | j :: js, b, hz, h => by
  unfold putD
  cases hd : dstOf ops j with
  | none =>
   refine putD_get hz (h.imp id ?_)
   rintro ⟨k, hk, hkd⟩
   rcases List.mem_cons.1 hk with rfl | hk
   ·rw [hd] at hkd; cases hkd
   ·exact ⟨k, hk, hkd⟩
  | some d =>
   have hz' : (b.put (some d) (c.eval (.tmp d))).tmps.size = c.tmps.size := by simp [Act.put, hz]
   refine putD_get hz' ?_
   rw [put_get]
   by_cases e : d = t
   ·subst e
    refine Or.inl ?_
    rw [if_pos rfl, hz, get_eval]
   ·rw [if_neg e]
    refine h.imp id ?_
    rintro ⟨k, hk, hkd⟩
    rcases List.mem_cons.1 hk with rfl | hk
    ·rw [hd] at hkd; cases hkd; exact absurd rfl e
    ·exact ⟨k, hk, hkd⟩
def unl (tl : List Nat) (s : Array Bool) : Nat → Nat
 | 0 => 0
 | n + 1 => unl tl s n + (if s.getD n false = true ∨ tl.contains n = true then 0 else 1)
theorem unl_set {tl : List Nat} {s : Array Bool} {i : Nat} (hi : i < s.size) (h : s.getD i false = false) (ht : tl.contains i = false) : ∀ n, unl tl (s.setIfInBounds i true) n + (if i < n then 1 else 0) = unl tl s n
 | 0 => by simp [unl]
 | n + 1 => by
  have ih := unl_set hi h ht n
  unfold unl
  by_cases e : i = n
  ·subst e
   have h1 : (s.setIfInBounds i true).getD i false = true := by simp [hi]
   rw [h1, h, ht]
   simp only [if_true, true_or, Nat.lt_irrefl, if_false, Nat.lt_succ_self, Bool.false_eq_true, or_self] at ih ⊢
   omega
  ·rw [getD_set_ne false e]
   have e3 : (if i < n + 1 then 1 else 0) = (if i < n then 1 else 0) := by split <;> split <;> omega
   rw [e3]
   omega
theorem unl_zero {tl : List Nat} {s : Array Bool} : ∀ {n}, unl tl s n = 0 → ∀ j, j < n → tl.contains j = false → s.getD j false = true
 | 0, _, j, hj, _ => by omega
 | n + 1, h, j, hj, ht => by
  unfold unl at h
  by_cases e : s.getD n false = true ∨ tl.contains n = true
  ·rcases Nat.lt_succ_iff_lt_or_eq.1 hj with h1 | h1
   ·exact unl_zero (by omega) j h1 ht
   ·rw [h1] at ht ⊢
    rcases e with e | e
    ·exact e
    ·rw [ht] at e; cases e
  ·rw [if_neg e] at h; omega
theorem unl_pos {tl : List Nat} {s : Array Bool} : ∀ {n}, 0 < unl tl s n → ∃ i, i < n ∧ tl.contains i = false ∧ s.getD i false = false ∧ ∀ j, j < i → tl.contains j = false → s.getD j false = true
 | 0, h => by simp [unl] at h
 | n + 1, h => by
  by_cases e : unl tl s n = 0
  ·have h0 := unl_zero e
   unfold unl at h
   by_cases e2 : s.getD n false = true ∨ tl.contains n = true
   ·rw [if_pos e2] at h; omega
   ·exact ⟨n, Nat.lt_succ_self _, by cases hc : tl.contains n with
     | false => rfl
     | true => exact absurd (Or.inr hc) e2, by cases hc : s.getD n false with
     | false => rfl
     | true => exact absurd (Or.inl hc) e2, h0⟩
  ·obtain ⟨i, h1, h2, h3, h4⟩ := unl_pos (tl := tl) (s := s) (n := n) (by omega)
   exact ⟨i, by omega, h2, h3, h4⟩
def sT (ops : Array Oper) (tl : List Nat) : Array Bool := ((List.range ops.size).map fun j => !tl.contains j).toArray
def sinkL (ops : Array Oper) (tl late : List Nat) : Bool :=
 match tl with
 | [] => true
 | t0 :: _ => (List.range ops.size).all fun i => tl.contains i || late.contains i || Region.waitsFor .any ops t0 i || (List.range ops.size).any fun j => decide (i < j) && Region.waitsFor .any ops j i && !tl.contains j && !late.contains j
def chainL (ops : Array Oper) : List Nat → Bool
 | [] => true
 | t :: ts => (match ts with | [] => true | t' :: _ => Region.waitsFor .any ops t' t) && chainL ops ts
def seqL (ops : Array Oper) : List Nat → Array Bool → Bool
 | [], s => (Region.ready .any ops s).isEmpty
 | t :: ts, s => decide (Region.ready .any ops s = [t]) && seqL ops ts (s.setIfInBounds t true)
def freeS (ops : Array Oper) (i : Nat) : Bool :=
 match ops[i]? with
 | none => false
 | some oi => (List.range ops.size).all fun j => decide (j = i) || Region.waitsFor .any ops j i || (depsOf oi).contains j || (match ops[j]? with
   | some oj => oi.apart ops oj
   | none => true)
def monoB (ops : Array Oper) (m : Nat) (tl late : List Nat) : Bool :=
 Region.noSelect ops && (sinkL ops tl late && chainL ops tl && late.all (fun i => freeS ops i)) && seqL ops tl (sT ops tl) &&
 (List.range ops.size).all fun i => tl.contains i || match ops[i]? with
  | none => false
  | some o => (depsOf o).all (fun j => decide (j < i) && !tl.contains j) &&
   (match o.dst with
    | none => true
    | some d => decide (d < m) && (List.range ops.size).all fun j => decide (j = i) || tl.contains j || decide (dstOf ops j ≠ some d)) &&
   (o.looksAt ops).all fun t => (List.range ops.size).all fun j => tl.contains j || decide (dstOf ops j ≠ some t) || (depsOf o).contains j
structure MInv (ops : Array Oper) (L : World → World → Prop) (T : Nat → Value → World → Prop) (tl : List Nat) (a0 : Act) (w0 : World) (s : Array Bool) (a : Act) (w : World) : Prop where
 size : s.size = ops.size
 closed : ∀ j oj, ops[j]? = some oj → s.getD j false = true → ∀ e ∈ oj.after, Region.binds .any e = true → s.getD e.on false = true
 tail : ∀ t, tl.contains t = true → s.getD t false = false
 kp : L w0 w
 df : a.defers = a0.defers
 tz : a.tmps.size = a0.tmps.size
 dn : ∀ j d, s.getD j false = true → dstOf ops j = some d → Up L (T j) (a.eval (.tmp d)) w
 un : ∀ t, (∀ j, j < ops.size → tl.contains j = false → dstOf ops j ≠ some t) → a.tmps[t]? = a0.tmps[t]?
theorem wpAny_more {md : Region.Mode} {Q : Exit → Act → World → Prop} : ∀ (f : Nat) (s : Array Bool) (a : Act) (w : World), wpAny P md ops Q f s a w → wpAny P md ops Q (f + 1) s a w
 | 0, s, a, w, h => ⟨fun _ => h.2, fun i hi => by rw [h.1] at hi; cases hi⟩
 | f + 1, s, a, w, h => ⟨h.1, fun i hi => wpOp_mono (fun a' w' h' => wpAny_more f _ a' w' h') (h.2 i hi)⟩
theorem wpAny_seqL {Q : Exit → Act → World → Prop} : ∀ (ts : List Nat) (l : List Oper) (s : Array Bool) (a : Act) (w : World), (∀ j : Nat, (ts[j]?).bind (fun t : Nat => ops[t]?) = l[j]?) →
  seqL ops ts s = true → wpList P ops Q l a w → wpAny P .any ops Q l.length s a w
 | [], [], s, a, w, _, hB, h => ⟨by simpa [seqL] using hB, h⟩
 | [], _ :: _, _, _, _, hl, _, _ => by have := hl 0; simp at this
 | t :: ts, [], s, a, w, hl, hB, h => by
  simp only [seqL, Bool.and_eq_true, decide_eq_true_eq] at hB
  have h1 : t ∈ Region.ready .any ops s := by rw [hB.1]; exact List.mem_singleton.2 rfl
  obtain ⟨_, o, ho, _⟩ := mem_ready.1 h1
  have := hl 0
  simp [ho] at this
 | t :: ts, o :: l, s, a, w, hl, hB, h => by
  have h0 : ops[t]? = some o := by simpa using hl 0
  simp only [seqL, Bool.and_eq_true, decide_eq_true_eq] at hB
  refine ⟨fun h1 => (by rw [hB.1] at h1; cases h1), fun i hi => ?_⟩
  rw [hB.1] at hi
  obtain rfl : i = t := by simpa using hi
  have hw : wpOp P ops Q i (wpList P ops Q l) a w := by unfold wpOp; simp only [h0]; exact h
  exact wpOp_mono (fun a' w' h' => wpAny_seqL ts l _ a' w' (fun j => by have := hl (j + 1); simpa using this) hB.2 h') hw
theorem monoB_op {m i : Nat} {tl late : List Nat} {o : Oper} (hB : monoB ops m tl late = true) (hit : tl.contains i = false) (hi : ops[i]? = some o) :
  (∀ j, j ∈ depsOf o → j < i ∧ tl.contains j = false) ∧ (∀ d, o.dst = some d → d < m ∧ ∀ j, j < ops.size → tl.contains j = false → j ≠ i → dstOf ops j ≠ some d) ∧ (∀ t, t ∈ o.looksAt ops → ∀ j, j < ops.size → tl.contains j = false → dstOf ops j = some t → j ∈ depsOf o) := by
 have hin : i < ops.size := (Array.getElem?_eq_some_iff.1 hi).1
 unfold monoB at hB
 rw [Bool.and_eq_true] at hB
 have h := List.all_eq_true.1 hB.2 i (List.mem_range.2 hin)
 rw [hi, hit, Bool.false_or] at h
 simp only [Bool.and_eq_true, List.all_eq_true, decide_eq_true_eq, List.mem_range, Bool.or_eq_true, Bool.not_eq_true'] at h
 refine ⟨h.1.1, fun d hd => ?_, fun t ht j hj hjt e => ?_⟩
 ·have h2 := h.1.2
  rw [hd] at h2
  simp only [Bool.and_eq_true, List.all_eq_true, decide_eq_true_eq, List.mem_range, Bool.or_eq_true] at h2
  exact ⟨h2.1, fun j hj hjt hne => by
   rcases h2.2 j hj with (h3 | h3) | h3
   ·exact absurd h3 hne
   ·rw [hjt] at h3; cases h3
   ·exact h3⟩
 ·rcases h.2 t ht j hj with (h3 | h3) | h3
  ·rw [hjt] at h3; cases h3
  ·exact absurd e h3
  ·simpa using h3
theorem MInv.set {tl : List Nat} {a0 : Act} {w0 w : World} {s : Array Bool} {a : Act} {i : Nat} (inv : MInv ops L T tl a0 w0 s a w) (hi : i ∈ Region.ready .any ops s) (hit : tl.contains i = false) :
  (s.setIfInBounds i true).size = ops.size ∧ (∀ j oj, ops[j]? = some oj → (s.setIfInBounds i true).getD j false = true → ∀ e ∈ oj.after, Region.binds .any e = true → (s.setIfInBounds i true).getD e.on false = true) ∧ (∀ t, tl.contains t = true → (s.setIfInBounds i true).getD t false = false) := by
 obtain ⟨_, oi, hoi, hall⟩ := mem_ready.1 hi
 refine ⟨by simp [inv.size], fun j oj hj hl e he hb => ?_, fun t ht => ?_⟩
 ·by_cases hij : i = j
  ·subst hij
   have : oj = oi := Option.some.inj (hj.symm.trans hoi)
   subst this
   exact getD_set_true (hall e he hb)
  ·rw [getD_set_ne false hij] at hl
   exact getD_set_true (inv.closed j oj hj hl e he hb)
 ·have hne : i ≠ t := fun e => by rw [e, ht] at hit; cases hit
  rw [getD_set_ne false hne]; exact inv.tail t ht
theorem mono_at {tl late : List Nat} {a0 : Act} {w0 : World} (hrf : ∀ w, L w w) (htr : ∀ a b c, L a b → L b c → L a c) (hB : monoB ops a0.tmps.size tl late = true)
  {i : Nat} {o : Oper} (hi : ops[i]? = some o) (hit : tl.contains i = false) {F : Act → Prop} {s : Array Bool} {a : Act} {w : World} (inv : MInv ops L T tl a0 w0 s a w) (hr : i ∈ Region.ready .any ops s) (hst : allV ops L T F w (depsOf o) a0) :
  ∃ b : Act, F b ∧ execOp a.eval o = execOp b.eval o ∧ Region.wanted o (yielded ops a.tmps) = Region.wanted o (yielded ops b.tmps) ∧ b.tmps.size = a0.tmps.size ∧
   ∀ (v : Value) (w' : World), L w w' → (∀ d, o.dst = some d → T i v w') → MInv ops L T tl a0 w0 (s.setIfInBounds i true) (a.put o.dst v) w' := by
 obtain ⟨hun, o', ho', hall⟩ := mem_ready.1 hr
 rw [hi] at ho'; cases ho'
 obtain ⟨b1, b2, b3⟩ := monoB_op hB hit hi
 have hin : i < ops.size := (Array.getElem?_eq_some_iff.1 hi).1
 have hsel : ∀ cs b, o.op ≠ .select cs b := by
  unfold monoB at hB
  simp only [Bool.and_eq_true] at hB
  exact fun cs b => Region.noSelect_spec hB.1.1.1 i o cs b hi
 have hdep : ∀ j, j ∈ depsOf o → s.getD j false = true := by
  intro j hj
  unfold depsOf at hj
  obtain ⟨e, he, rfl⟩ := List.mem_map.1 hj
  rw [List.mem_filter] at he
  exact hall e (Array.mem_toList_iff.1 he.1) he.2
 have h := allV_at (c := a) hst (fun j hj d hd => inv.dn j d (hdep j hj) hd)
 have hev : ∀ t, t ∈ o.looksAt ops → (putD ops a (depsOf o) a0).tmps[t]? = a.tmps[t]? := by
  intro t ht
  refine putD_get inv.tz.symm ?_
  by_cases e : ∃ j, j < ops.size ∧ tl.contains j = false ∧ dstOf ops j = some t
  ·obtain ⟨j, hj, hjt, hd⟩ := e
   exact Or.inr ⟨j, b3 t ht j hj hjt hd, hd⟩
  ·exact Or.inl (inv.un t fun j hj hjt hd => e ⟨j, hj, hjt, hd⟩).symm
 have hz : (putD ops a (depsOf o) a0).tmps.size = a0.tmps.size := putD_size
 generalize putD ops a (depsOf o) a0 = b at *
 have he : execOp a.eval o = execOp b.eval o := by
  refine execOp_congr o hsel fun x hx => ?_
  cases x with
  | tmp t =>
   have ht : t ∈ o.looksAt ops := List.mem_append_left _ (List.mem_filterMap.2 ⟨.tmp t, by simpa using hx, rfl⟩)
   have := hev t ht
   simp [Act.eval, this]
  | _ => rfl
 have hw : Region.wanted o (yielded ops a.tmps) = Region.wanted o (yielded ops b.tmps) := by
  unfold Region.wanted
  cases hg : o.guard with
  | none => rfl
  | some gw =>
   obtain ⟨g, want⟩ := gw
   have hy : yielded ops a.tmps g = yielded ops b.tmps g := by
    unfold yielded
    cases ht : (ops[g]?).bind (·.dst) with
    | none => rfl
    | some t =>
     have hm : t ∈ o.looksAt ops := List.mem_append_right _ (by simp [hg, ht])
     have := hev t hm
     simp [this]
   simp only [hy]
 have hdst : dstOf ops i = o.dst := by unfold dstOf; rw [hi]; rfl
 -- the new state
 have next : ∀ (v : Value) (w' : World), L w w' → (∀ d, o.dst = some d → T i v w') → MInv ops L T tl a0 w0 (s.setIfInBounds i true) (a.put o.dst v) w' := by
  intro v w' hl ht
  obtain ⟨q1, q2, q3⟩ := inv.set hr hit
  refine ⟨q1, q2, q3, htr _ _ _ inv.kp hl, ?_, ?_, ?_, ?_⟩
  ·rw [← inv.df]; cases o.dst <;> rfl
  ·rw [← inv.tz]; cases o.dst <;> simp [Act.put]
  ·intro j d hj hd
   by_cases e : j = i
   ·subst e
    rw [hdst] at hd
    rw [hd, eval_get]
    have hlt : d < a.tmps.size := by rw [inv.tz]; exact (b2 d hd).1
    have : ((a.put (some d) v).tmps.getD d undef) = v := by simp [Act.put, hlt]
    rw [this]
    exact ⟨w', hrf w', ht d hd⟩
   ·rw [getD_set_ne false (Ne.symm e)] at hj
    have hjs : j < ops.size := by
     unfold dstOf at hd
     cases hq : ops[j]? with
     | none => rw [hq] at hd; cases hd
     | some _ => exact (Array.getElem?_eq_some_iff.1 hq).1
    have hjt : tl.contains j = false := by
     cases hc : tl.contains j with
     | false => rfl
     | true => rw [inv.tail j hc] at hj; cases hj
    obtain ⟨w1, h1, h2⟩ := inv.dn j d hj hd
    have hne : ∀ d', o.dst = some d' → d' ≠ d := fun d' hd' q => (b2 d' hd').2 j hjs hjt e (by rw [hd, q])
    refine ⟨w1, htr _ _ _ h1 hl, ?_⟩
    rw [Act.eval_put (fun d' hd' q => hne d' hd' (by cases q; rfl))]
    exact h2
  ·intro t ht'
   cases hd : o.dst with
   | none => exact inv.un t ht'
   | some d =>
    rw [put_get, if_neg (fun q => ht' i hin hit (by rw [hdst, hd, q]))]
    exact inv.un t ht'
 exact ⟨b, h, he, hw, hz, next⟩
theorem mono_step {tl late : List Nat} {Q : Exit → Act → World → Prop} {a0 : Act} {w0 : World} (hrf : ∀ w, L w w) (htr : ∀ a b c, L a b → L b c → L a c) (hB : monoB ops a0.tmps.size tl late = true)
  {i : Nat} {o : Oper} (hi : ops[i]? = some o) (hit : tl.contains i = false) (hst : stepA P ops L T late a0 w0 i o) {s : Array Bool} {a : Act} {w : World} (inv : MInv ops L T tl a0 w0 s a w) (hr : i ∈ Region.ready .any ops s) {K : Act → World → Prop}
  (hK : ∀ a' w', MInv ops L T tl a0 w0 (s.setIfInBounds i true) a' w' → K a' w') : wpOp P ops Q i K a w := by
 rcases hst with hst | ⟨_, hst⟩
 ·obtain ⟨b, ⟨v, hy, ht⟩, he, hw, _, next⟩ := mono_at hrf htr hB hi hit inv hr (hst w inv.kp)
  exact (hy.of_same he hw).wpOp hi (hK _ _ (next v w (hrf w) (fun _ _ => ht)))
 obtain ⟨b, h, he, hw, hz, next0⟩ := mono_at hrf htr hB hi hit inv hr (hst w inv.kp)
 have next : ∀ (v : Value) (w' : World), L w w' → (∀ d, o.dst = some d → T i v w') → K (a.put o.dst v) w' := fun v w' hl ht => hK _ _ (next0 v w' hl ht)
 obtain ⟨b1, b2, b3⟩ := monoB_op hB hit hi
 unfold wpOp
 simp only [hi]
 rw [hw]
 split
 ·rename_i hwt
  rw [if_pos hwt] at h
  refine Or.inl ?_
  unfold Oper.wp at *
  rw [he]
  have evd : ∀ d v, o.dst = some d → (b.put o.dst v).eval (.tmp d) = v := by
   intro d v hd
   rw [hd, eval_get]
   have hlt : d < b.tmps.size := by rw [hz]; exact (b2 d hd).1
   simp [Act.put, hlt]
  have fin : ∀ (v : Value) (w' : World), KT L (T i) o b w (b.put o.dst v) w' → K (a.put o.dst v) w' := by
   intro v w' hk
   refine next v w' hk.1 fun d hd => ?_
   have := hk.2.2
   have e1 := evd d v hd
   rw [hd] at this e1
   simp only [] at this
   rwa [e1] at this
  generalize (execOp b.eval o).run P w = r at *
  cases r with
  | ok nx w' =>
   cases nx <;> simp only [Oper.upon] at h ⊢
   case value v => exact fin v w' h
   case skip => exact fin _ w' h
   case defer d =>
    have := h.2.1
    exfalso
    have e1 : ((({ b with defers := d :: b.defers } : Act).put o.dst undef)).defers = d :: b.defers := by cases o.dst <;> rfl
    rw [e1] at this
    exact absurd (congrArg List.length this) (by simp)
   case enter f args =>
    refine Calls.mono h fun e w'' hq => ?_
    cases e with
    | returned v => exact fin v w'' hq
    | panicked c => exact hq.elim
    | outgrown => obtain ⟨_, _, hq⟩ := hq; exact hq.elim
   case row row args => exact Rows.mono h fun v w'' hq => fin v w'' hq
  | halt x w' =>
   cases x <;> simp only [Oper.upon] at h ⊢
 ·rename_i hwt
  rw [if_neg hwt] at h
  refine next _ _ h.1 fun d hd => ?_
  have := h.2.2
  have e1 : (b.put o.dst undef).eval (.tmp d) = undef := by
   rw [hd, eval_get]
   have hlt : d < b.tmps.size := by rw [hz]; exact (b2 d hd).1
   simp [Act.put, hlt]
  rw [hd] at this e1
  simp only [] at this
  rwa [e1] at this
theorem tail_waitsL {tl late : List Nat} {t0 : Nat} {ts : List Nat} (htl : tl = t0 :: ts) (hs : sinkL ops tl late = true) {a0 a : Act} {w0 w : World} {s : Array Bool} (inv : MInv ops L T tl a0 w0 s a w) :
  ∀ (d i : Nat), ops.size - i = d → i < ops.size → tl.contains i = false → late.contains i = false → s.getD i false = false → t0 ∉ Region.ready .any ops s := by
 intro d
 induction d using Nat.strongRecOn with
 | _ d ih =>
  intro i hd hi hit hla hun hr
  obtain ⟨_, ot, hot, hall⟩ := mem_ready.1 hr
  subst htl
  unfold sinkL at hs
  have h1 := List.all_eq_true.1 hs i (List.mem_range.2 hi)
  rw [hla, hit, Bool.false_or, Bool.false_or, Bool.or_eq_true] at h1
  rcases h1 with h1 | h1
  ·obtain ⟨oj, hoj, e, he, hb, hon⟩ := Region.waitsFor_spec h1
   have : oj = ot := Option.some.inj (hoj.symm.trans hot)
   subst this
   have h2 := hall e he hb
   rw [hon, hun] at h2
   cases h2
  ·obtain ⟨j, hj, hj2⟩ := List.any_eq_true.1 h1
   simp only [Bool.and_eq_true, decide_eq_true_eq, Bool.not_eq_true'] at hj2
   obtain ⟨⟨⟨hij, hwt⟩, hjt⟩, hjl⟩ := hj2
   obtain ⟨oj, hoj, e, he, hb, hon⟩ := Region.waitsFor_spec hwt
   have hjs := List.mem_range.1 hj
   cases hl : s.getD j false with
   | true =>
    have h2 := inv.closed j oj hoj hl e he hb
    rw [hon, hun] at h2
    cases h2
   | false => exact ih (ops.size - j) (by omega) j rfl hjs hjt hjl hl hr
theorem chain_waits {tl : List Nat} {s : Array Bool} : ∀ {l : List Nat} {t : Nat}, chainL ops l = true → (∀ t, t ∈ l → s.getD t false = false) → t ∈ l → t ∈ Region.ready .any ops s → l.head? = some t
 | [], t, _, _, ht, _ => by cases ht
 | x :: l, t, hc, hn, ht, hr => by
  rcases List.mem_cons.1 ht with rfl | ht
  ·rfl
  ·exfalso
   unfold chainL at hc
   rw [Bool.and_eq_true] at hc
   have h1 := chain_waits (tl := tl) hc.2 (fun t h => hn t (List.mem_cons_of_mem _ h)) ht hr
   match l, h1, hc with
   | y :: l, h1, hc =>
    obtain rfl : y = t := Option.some.inj h1
    obtain ⟨o', ho', e, he, hb, hon⟩ := Region.waitsFor_spec hc.1
    obtain ⟨_, o, ho, hall⟩ := mem_ready.1 hr
    rw [ho'] at ho; cases ho
    have h2 := hall e he hb
    rw [hon, hn x (List.mem_cons_self ..)] at h2
    cases h2
theorem mono_run {g : Nat} {tl late : List Nat} {Q : Exit → Act → World → Prop} {a0 : Act} {w0 : World} (hrf : ∀ w, L w w) (htr : ∀ a b c, L a b → L b c → L a c) (hB : monoB ops a0.tmps.size tl late = true) (hQ : ∀ c d v a w, Q (.panic c) (Act.put a d v) w → Q (.panic c) a w)
  (hst : ∀ i o, tl.contains i = false → ops[i]? = some o → stepA P ops L T late a0 w0 i o) (hfin : ∀ s a w, MInv ops L T tl a0 w0 s a w → (∀ j, j < ops.size → tl.contains j = false → s.getD j false = true) → wpAny P .any ops Q g s a w) :
  ∀ (f : Nat) (s : Array Bool) (a : Act) (w : World), unl tl s ops.size ≤ f → MInv ops L T tl a0 w0 s a w → wpAny P .any ops Q (f + g) s a w
 | 0, s, a, w, hf, inv => by rw [Nat.zero_add]; exact hfin s a w inv (unl_zero (by omega))
 | f + 1, s, a, w, hf, inv => by
  by_cases h0 : unl tl s ops.size = 0
  ·have := wpAny_more _ _ _ _ (mono_run hrf htr hB hQ hst hfin f s a w (by omega) inv)
   rwa [Nat.add_right_comm] at this
  ·obtain ⟨i0, hi0, ht0, hu0, hl0⟩ := unl_pos (Nat.pos_of_ne_zero h0)
   have hBB := hB
   unfold monoB at hBB
   simp only [Bool.and_eq_true] at hBB
   have hgo : ∀ i, i < ops.size → ∃ o, ops[i]? = some o := fun i hi => ⟨_, Array.getElem?_eq_getElem hi⟩
   have hs : s.size = ops.size := inv.size
   have hr0 : i0 ∈ Region.ready .any ops s := by
    obtain ⟨o, ho⟩ := hgo i0 hi0
    refine mem_ready.2 ⟨getD_in (by omega) hu0, o, ho, fun e he hb => ?_⟩
    have h1 := (monoB_op hB ht0 ho).1 e.on (by
     unfold depsOf
     exact List.mem_map.2 ⟨e, List.mem_filter.2 ⟨Array.mem_toList_iff.2 he, hb⟩, rfl⟩)
    exact hl0 _ h1.1 h1.2
   have hdec : ∀ i, i < ops.size → tl.contains i = false → s.getD i false = false → unl tl (s.setIfInBounds i true) ops.size ≤ f := fun i hin hit hiu => by
    have := unl_set (s := s) (by omega : i < s.size) hiu hit ops.size
    rw [if_pos hin] at this
    omega
   rw [Nat.add_right_comm]
   by_cases hlt : ∃ i, i < ops.size ∧ tl.contains i = false ∧ late.contains i = false ∧ s.getD i false = false
   ·obtain ⟨i1, hi1, hit1, hla1, hu1⟩ := hlt
    refine ⟨fun e => (by rw [e] at hr0; cases hr0), fun i hi => ?_⟩
    have hit : tl.contains i = false := by
     cases hc : tl.contains i with
     | false => rfl
     | true =>
      exfalso
      have hmem : i ∈ tl := by simpa using hc
      have hh := chain_waits (tl := tl) hBB.1.1.2.1.2 (fun t ht => inv.tail t (by simpa using ht)) hmem hi
      match tl, hh with
      | t0 :: ts, hh =>
       obtain rfl : t0 = i := Option.some.inj hh
       exact tail_waitsL rfl hBB.1.1.2.1.1 inv _ i1 rfl hi1 hit1 hla1 hu1 hi
    have hio : i < ops.size := by
     obtain ⟨_, o, ho, _⟩ := mem_ready.1 hi
     exact (Array.getElem?_eq_some_iff.1 ho).1
    obtain ⟨o, ho⟩ := hgo i hio
    have hiu : s.getD i false = false := getD_both (mem_ready.1 hi).1
    exact mono_step hrf htr hB ho hit (hst i o hit ho) inv hi fun a' w' inv' => mono_run hrf htr hB hQ hst hfin f _ a' w' (hdec i hio hit hiu) inv'
   ·have hla : late.contains i0 = true := by
     cases hc : late.contains i0 with
     | true => rfl
     | false => exact absurd ⟨i0, hi0, ht0, hc, hu0⟩ hlt
    obtain ⟨o, ho⟩ := hgo i0 hi0
    have hE : stepE P ops L T a0 w0 i0 o := by
     rcases hst i0 o ht0 ho with h | ⟨h, _⟩
     ·exact h
     ·rw [h] at hla; cases hla
    obtain ⟨b, ⟨v, hy, ht⟩, he, hw, _, next⟩ := mono_at hrf htr hB ho ht0 inv hr0 (hE w inv.kp)
    have hfr := List.all_eq_true.1 hBB.1.1.2.2 i0 (by simpa using hla)
    unfold freeS at hfr
    rw [ho] at hfr
    simp only [List.all_eq_true, List.mem_range, Bool.or_eq_true, decide_eq_true_eq] at hfr
    refine wpAny_first ho (Region.noSelect_spec hBB.1.1.1) (fun c a w h => hQ c _ _ a w h) (f + g) s a w ?_ hr0 (hy.of_same he hw) (mono_run hrf htr hB hQ hst hfin f _ _ _ (hdec i0 hi0 ht0 hu0) (next v w (hrf w) (fun _ _ => ht)))
    intro j oj hj hne hjun hno
    have h1 := hfr j (Array.getElem?_eq_some_iff.1 hj).1
    rcases h1 with ((h1 | h1) | h1) | h1
    ·exact absurd h1 hne
    ·obtain ⟨o', ho', e, he', hb, hon⟩ := Region.waitsFor_spec h1
     rw [hj] at ho'; cases ho'
     exact absurd hon (hno e he' hb)
    ·exfalso
     obtain ⟨_, o', ho', hall⟩ := mem_ready.1 hr0
     rw [ho] at ho'; cases ho'
     have : s.getD j false = true := by
      have hm : j ∈ depsOf o := by simpa using h1
      unfold depsOf at hm
      obtain ⟨e, he', rfl⟩ := List.mem_map.1 hm
      rw [List.mem_filter] at he'
      exact hall e (Array.mem_toList_iff.1 he'.1) he'.2
     rw [getD_both hjun] at this; cases this
    ·rw [hj] at h1; exact h1
theorem sT_get (tl : List Nat) (j : Nat) : (sT ops tl)[j]? = if j < ops.size then some (!tl.contains j) else none := by
 unfold sT
 rw [List.getElem?_toArray, List.getElem?_map]
 by_cases h : j < ops.size
 ·rw [if_pos h, List.getElem?_range h]; rfl
 ·rw [if_neg h, List.getElem?_eq_none (by simpa using h)]; rfl
theorem fm_congr {α β : Type} {f g : α → Option β} : ∀ {l : List α}, (∀ x, x ∈ l → f x = g x) → l.filterMap f = l.filterMap g
 | [], _ => rfl
 | a :: l, h => by rw [List.filterMap_cons, List.filterMap_cons, h a (List.mem_cons_self ..), fm_congr (fun x hx => h x (List.mem_cons_of_mem _ hx))]
theorem unl_count (tl : List Nat) (s : Array Bool) : ∀ n, unl tl s n + ((List.range n).filter (tl.contains ·)).length ≤ n
 | 0 => by simp [unl]
 | n + 1 => by
  have ih := unl_count tl s n
  rw [List.range_succ, List.filter_append, List.length_append]
  unfold unl
  cases hc : tl.contains n with
  | true =>
   have : ([n].filter (tl.contains ·)).length = 1 := by rw [List.filter_cons, if_pos hc]; rfl
   rw [this, if_pos (Or.inr rfl)]; omega
  | false =>
   have : ([n].filter (tl.contains ·)).length = 0 := by rw [List.filter_cons, if_neg (by rw [hc]; exact Bool.false_ne_true)]; rfl
   rw [this]; split <;> omega
theorem pick_get {tl : List Nat} : ∀ (l : List Oper) (k : Nat), pickT tl k l = ((List.range' k l.length).filter (tl.contains ·)).filterMap (fun i => l[i - k]?)
 | [], k => by simp [pickT]
 | o :: l, k => by
  have ih := pick_get (tl := tl) l (k + 1)
  have e : ((List.range' (k + 1) l.length).filter (tl.contains ·)).filterMap (fun i => (o :: l)[i - k]?) = ((List.range' (k + 1) l.length).filter (tl.contains ·)).filterMap (fun i => l[i - (k + 1)]?) := by
   apply fm_congr
   intro i hi
   have := List.mem_range'_1.1 (List.mem_filter.1 hi).1
   obtain ⟨q, rfl⟩ : ∃ q, i = k + 1 + q := ⟨i - (k + 1), by omega⟩
   rw [show k + 1 + q - k = q + 1 by omega, List.getElem?_cons_succ, show k + 1 + q - (k + 1) = q by omega]
  rw [pickT, ih, List.length_cons, List.range'_succ, List.filter_cons]
  split
  ·rw [List.filterMap_cons, Nat.sub_self]; simp only [List.getElem?_cons_zero]; rw [e]
  ·rw [e]
theorem wp_region_mono {L : World → World → Prop} (T : Nat → Value → World → Prop) {id : Nat} {Q : Exit → Act → World → Prop} {a0 : Act} {w : World} {l : List Oper} (tl late : List Nat) (m : Nat) (hm : P.follows .mixedOrders = true) (hz : a0.tmps.size = m) (hB : monoB l.toArray m tl late = true)
  (htl : tl = (List.range l.length).filter (tl.contains ·))
  (hrf : ∀ w, L w w) (htr : ∀ a b c, L a b → L b c → L a c) (hQ : ∀ c d v a w, Q (.panic c) (Act.put a d v) w → Q (.panic c) a w)
  (hst : allM P l.toArray L T late tl a0 w.drew 0 l)
  (hfin : ∀ w', L w.drew w' → allV l.toArray L T (fun a' => wpList P l.toArray Q (pickT tl 0 l) a' w') w' ((List.range l.length).filter (fun i => !tl.contains i)) a0) : (Code.region id l.toArray true).wp P Q a0 w := by
 subst hz
 have hseq : seqL l.toArray tl (sT l.toArray tl) = true := by
  have := hB
  unfold monoB at this
  simp only [Bool.and_eq_true] at this
  exact this.1.2
 have hrep : ∀ j, (Array.replicate l.toArray.size false).getD j false = false := fun j => getD_replicate_false _ _
 have inv0 : MInv l.toArray L T tl a0 w.drew (Array.replicate l.toArray.size false) a0 w.drew :=
  ⟨by simp, fun j oj _ hl => (by rw [hrep] at hl; cases hl), fun t _ => hrep t, hrf _, rfl, rfl, fun j d hj => (by rw [hrep] at hj; cases hj), fun _ _ => rfl⟩
 have hpick : pickT tl 0 l = tl.filterMap (fun t : Nat => l[t]?) := by
  rw [pick_get]
  simp only [Nat.sub_zero]
  rw [← List.range_eq_range', ← htl]
 have hpl : ∀ j : Nat, (tl[j]?).bind (fun t : Nat => l.toArray[t]?) = (pickT tl 0 l)[j]? := by
  rw [hpick]
  have hall : ∀ t, t ∈ tl → ∃ o, l[t]? = some o := fun t ht => by
   rw [htl] at ht
   exact ⟨_, List.getElem?_eq_getElem (List.mem_range.1 (List.mem_filter.1 ht).1)⟩
  clear hfin hst hseq inv0 hB htl hpick
  induction tl with
  | nil => intro j; simp
  | cons t ts ih =>
   obtain ⟨o, ho⟩ := hall t (List.mem_cons_self ..)
   intro j
   rw [List.filterMap_cons, ho]
   cases j with
   | zero => simp [ho]
   | succ j => simpa using ih (fun t h => hall t (List.mem_cons_of_mem _ h)) j
 refine wp_region_any hm ?_
 have hlen : (pickT tl 0 l).length = tl.length := by
  rw [hpick]
  have hall : ∀ t, t ∈ tl → ∃ o, l[t]? = some o := fun t ht => by
   rw [htl] at ht
   exact ⟨_, List.getElem?_eq_getElem (List.mem_range.1 (List.mem_filter.1 ht).1)⟩
  clear hfin hst hseq inv0 hB htl hpick hpl
  induction tl with
  | nil => rfl
  | cons t ts ih =>
   obtain ⟨o, ho⟩ := hall t (List.mem_cons_self ..)
   rw [List.filterMap_cons, ho, List.length_cons, List.length_cons, ih (fun t h => hall t (List.mem_cons_of_mem _ h))]
 have hcnt : unl tl (Array.replicate l.toArray.size false) l.toArray.size + tl.length ≤ l.toArray.size := by
  have h1 := unl_count tl (Array.replicate l.toArray.size false) l.toArray.size
  have h2 : ((List.range l.toArray.size).filter (tl.contains ·)).length = tl.length := by
   have h3 := congrArg List.length htl
   simpa using h3.symm
  omega
 have H := mono_run (P := P) (Q := Q) (g := (pickT tl 0 l).length) hrf htr hB hQ (fun i o hi ho => by
  have := allM_at (k := 0) hst (show l[i]? = some o by simpa using ho) (by rwa [Nat.zero_add])
  rwa [Nat.zero_add] at this) (fun s a' w' inv hall => by
  have es : s = sT l.toArray tl := by
   refine Array.ext_getElem? fun j => ?_
   rw [sT_get]
   by_cases hj : j < l.toArray.size
   ·rw [if_pos hj]
    have hjs : j < s.size := by rw [inv.size]; exact hj
    cases hc : tl.contains j with
    | false =>
     have := hall j hj hc
     simp [hjs] at this
     simp [hjs, this]
    | true =>
     have := inv.tail j hc
     simp [hjs] at this
     simp [hjs, this]
   ·rw [if_neg hj, Array.getElem?_eq_none (by rw [inv.size]; omega)]
  have ea : putD l.toArray a' ((List.range l.length).filter (fun i => !tl.contains i)) a0 = a' := by
   have e1 : (putD l.toArray a' ((List.range l.length).filter (fun i => !tl.contains i)) a0).tmps = a'.tmps := by
    refine Array.ext_getElem? fun t => putD_get inv.tz.symm ?_
    by_cases e : ∃ j, j < l.toArray.size ∧ tl.contains j = false ∧ dstOf l.toArray j = some t
    ·obtain ⟨j, hj, hjt, hd⟩ := e
     exact Or.inr ⟨j, List.mem_filter.2 ⟨List.mem_range.2 (by simpa using hj), by rw [hjt]; rfl⟩, hd⟩
    ·exact Or.inl (inv.un t fun j hj hjt hd => e ⟨j, hj, hjt, hd⟩).symm
   have e2 : (putD l.toArray a' ((List.range l.length).filter (fun i => !tl.contains i)) a0).defers = a'.defers := by rw [putD_defers, inv.df]
   generalize putD l.toArray a' ((List.range l.length).filter (fun i => !tl.contains i)) a0 = b at *
   obtain ⟨t1, d1⟩ := b
   obtain ⟨t2, d2⟩ := a'
   simp only at e1 e2
   subst e1; subst e2; rfl
  have h := allV_at (c := a') (hfin w' inv.kp) (fun j hj d hd => by
   have hj2 := List.mem_filter.1 hj
   exact inv.dn j d (hall j (by simpa using hj2.1) (by simpa using hj2.2)) hd)
  rw [ea] at h
  exact wpAny_seqL tl _ s a' w' hpl (by rw [es]; exact hseq) h) (l.toArray.size - tl.length) (Array.replicate l.toArray.size false) a0 w.drew (by omega) inv0
 rw [hlen, show l.toArray.size - tl.length + tl.length = l.toArray.size by omega] at H
 exact H
def opW (P : Program) (ops : Array Oper) (L : World → World → Prop) (T : Value → World → Prop) (o : Oper) (b : Act) (W : World) : Prop :=
 if Region.wanted o (yielded ops b.tmps) = true then o.wp P b W (KT L T o b W) (fun _ _ _ => False) else KT L T o b W (b.put o.dst undef) W
def opY (P : Program) (ops : Array Oper) (T : Value → World → Prop) (o : Oper) (b : Act) (W : World) : Prop := ∃ v, Yields P ops o v b ∧ T v W
theorem stepM_of {a0 : Act} {w0 : World} {i : Nat} {o : Oper} (js : List Nat) (hj : depsOf o = js) (h : ∀ W, L w0 W → allV ops L T (fun b => opW P ops L (T i) o b W) W js a0) : stepM P ops L T a0 w0 i o := by
 subst hj; exact h
theorem stepE_of {a0 : Act} {w0 : World} {i : Nat} {o : Oper} (js : List Nat) (hj : depsOf o = js) (h : ∀ W, L w0 W → allV ops L T (fun b => opY P ops (T i) o b W) W js a0) : stepE P ops L T a0 w0 i o := by
 subst hj; exact h
theorem allV_nil {K : Act → Prop} {W : World} {b : Act} (h : K b) : allV ops L T K W [] b := h
theorem allV_some {K : Act → Prop} {W : World} {b : Act} {j : Nat} {js : List Nat} (d : Tmp) (hd : dstOf ops j = some d) (h : ∀ v, Up L (T j) v W → allV ops L T K W js (b.put (some d) v)) : allV ops L T K W (j :: js) b := by
 unfold allV; rw [hd]; exact h
theorem opW_go {T : Value → World → Prop} {o : Oper} {b : Act} {W : World} (hw : Region.wanted o (yielded ops b.tmps) = true) (h : ∀ K : Act → World → Prop, (∀ a' w', KT L T o b W a' w' → K a' w') → o.wp P b W K (fun _ _ _ => False)) : opW P ops L T o b W := by
 unfold opW; rw [if_pos hw]; exact h _ (fun _ _ h => h)
theorem KT.mk {L : World → World → Prop} {T : Value → World → Prop} {o : Oper} {b a' : Act} {W w' : World} (h : L W w') (hd : a'.defers = b.defers) (d : Tmp) (ho : o.dst = some d) (ht : T (a'.eval (.tmp d)) w') : KT L T o b W a' w' := by
 refine ⟨h, hd, ?_⟩
 rw [ho]; exact ht
theorem opY_mk {T : Value → World → Prop} {o : Oper} {b : Act} {W : World} (v : Value) (hw : Region.wanted o (yielded ops b.tmps) = true) (h : ∀ w, (execOp b.eval o).run P w = .ok (.value v) w) (ht : T v W) : opY P ops T o b W := ⟨v, Or.inl ⟨hw, h⟩, ht⟩
end
end Go.Proofs.YtfhedienjnfdcaaGreatDoor
namespace Go.Proofs.YtfhedienjnfdcaaGreatDoor
open Go.RowKit
inductive Kz : Ty → Prop
 | mk {k : Int} {nm : ByteArray} {l : List Ty} (h : ∀ t, t ∈ l → t.kind ≠ 0) (h' : ∀ t, t ∈ l → Kz t) : Kz (.mk k nm l)
theorem Kz.kids {t : Ty} (h : Kz t) : ∀ u, u ∈ t.kids → u.kind ≠ 0 ∧ Kz u := by
 cases h with
 | mk h h' => exact fun u hu => ⟨h u hu, h' u hu⟩
theorem head_kz {k : Int} {nm : ByteArray} {n : Nat} {wi : Bool} (h : tyHead k nm n wi = true) : k ≠ 0 := by
 intro e
 subst e
 unfold tyHead at h
 simp at h
theorem tf_kz (most deep : Nat) : ∀ (t : Ty) (d : Nat) (wi : Bool) (c : Nat), (tfS most deep t d wi c).1 = true → t.kind ≠ 0 ∧ Kz t := by
 intro t
 induction t using Ty.rec (motive_2 := fun l => ∀ (d c : Nat), (tfsS most deep l d c).1 = true → ∀ t, t ∈ l → t.kind ≠ 0 ∧ Kz t) with
 | mk k nm l ih =>
  intro d wi c h
  rw [tf_eq] at h
  split at h
  ·rename_i hb
   have hh : tyHead k nm l.length wi = true := by simp at hb; exact hb.2
   have h2 := ih _ _ h
   exact ⟨head_kz hh, .mk (fun t ht => (h2 t ht).1) (fun t ht => (h2 t ht).2)⟩
  ·cases h
 | nil => rename_i d c h t ht; cases ht
 | cons t l iht ihl =>
  rename_i d c h t' h'
  rw [tfsS] at h
  cases hr : tfS most deep t d true c with
  | mk b c' =>
   cases b
   ·rw [hr] at h; cases h
   ·rw [hr] at h
    rcases List.mem_cons.1 h' with rfl | h'
    ·exact iht d true c (by rw [hr])
    ·exact ihl d c' h t' h'
theorem formed_kz {op : Int} {nm : ByteArray} {N : Int} {ty : Ty} {n : Nat} (h : formedB op nm N ty n = true) : Kz ty := by
 obtain ⟨_, h2, _, h4⟩ := formed_parts h
 unfold tyOk at h4
 split at h4
 ·rw [Bool.and_eq_true] at h4
  exact (tf_kz 16 6 ty 1 false 0 h4.2).2
 ·rw [zero_ty h4]; exact .mk (fun t h => by cases h) (fun t h => by cases h)
theorem z_cell {W : World} {g i : Nat} (hb : Blk W g 28 z27) {v : Value} (h : W.cell? ⟨g, i, none⟩ = some v) : i ≤ 6 ∧ z27[i]? = some v := by
 have h2 := hb.cell i
 rw [h] at h2
 refine ⟨?_, h2.symm⟩
 have h3 := (List.getElem?_eq_some_iff.1 h2.symm).1
 have h4 : z27.length = 7 := rfl
 omega
theorem TyL.nz {ok : Nat → Prop} {W : World} {g : Nat} (hb : Blk W g 28 z27) {l : List Ty} {v : Value} (h : TyL ok W l v) : (∀ t, t ∈ l → t.kind ≠ 0 ∧ Kz t) → TyL (fun q => ok q ∧ q ≠ g) W l v := by
 induction h with
 | nil h => intro _; exact .nil h
 | mk K hne hok hc hcell hk ih =>
  rename_i l b off cap
  intro hz
  have h0 : 0 < l.length := List.length_pos_iff.2 hne
  refine .mk K hne ⟨hok, fun e => ?_⟩ hc hcell (fun i h => ih i h (hz _ (List.getElem_mem h)).2.kids)
  subst e
  obtain ⟨c0, c1, c2⟩ := hcell 0 h0
  obtain ⟨a, n, c, hs⟩ := (hk 0 h0).slice
  rw [hs] at c2
  obtain ⟨e0, d0⟩ := z_cell hb c0
  obtain ⟨e1, d1⟩ := z_cell hb c1
  obtain ⟨e2, d2⟩ := z_cell hb c2
  have hkd := (hz _ (List.getElem_mem h0)).1
  have ho : off = 0 ∨ off = 1 ∨ off = 2 ∨ off = 3 ∨ off = 4 := by omega
  rcases ho with rfl | rfl | rfl | rfl | rfl
  ·cases d2
  ·cases d0
  ·cases d1
  ·have : l[0].kind = 0 := by
    have := Option.some.inj d0
    injection this with h1 h2
    exact h2.symm
   exact hkd this
  ·cases d0
theorem TmL.nz {ok : Nat → Prop} {W : World} {g : Nat} (hb : Blk W g 28 z27) {l : List Tm} {v : Value} (h : TmL ok W l v) : (∀ t, t ∈ l → OkTm t) → TmL (fun q => ok q ∧ q ≠ g) W l v := by
 induction h with
 | nil h => intro _; exact .nil h
 | mk K M hne hok hc hcell hk hm ih =>
  rename_i l b off cap
  intro hz
  have h0 : 0 < l.length := List.length_pos_iff.2 hne
  have kid : ∀ {t : Tm}, OkTm t → Kz t.ty ∧ ∀ u, u ∈ t.kids → OkTm u := by
   intro t h
   cases h with
   | mk hf hn hl => exact ⟨formed_kz hf, hl⟩
  refine .mk K M hne ⟨hok, fun e => ?_⟩ hc hcell (fun i h => (hk i h).nz hb (kid (hz _ (List.getElem_mem h))).1.kids) (fun i h => ih i h (kid (hz _ (List.getElem_mem h))).2)
  subst e
  obtain ⟨c0, c1, c2, c3, c4, c5, c6⟩ := hcell 0 h0
  obtain ⟨e0, d0⟩ := z_cell hb c0
  obtain ⟨e6, d6⟩ := z_cell hb c6
  have ho : off = 0 := by omega
  subst ho
  have h1 : l[0].op = 0 := by
   have := Option.some.inj d0
   injection this with h1 h2
   exact h2.symm
  have := (hz _ (List.getElem_mem h0)).range.1
  omega
def OkZ (t : Tm) : Prop := OkTm t ∨ t = tm0
theorem OkZ.nz {t : Tm} (h : OkZ t) {ok : Nat → Prop} {W : World} {g : Nat} (hb : Blk W g 28 z27) {tk kk : Value} (h1 : TyL ok W t.ty.kids tk) (h2 : TmL ok W t.kids kk) : TyL (fun q => ok q ∧ q ≠ g) W t.ty.kids tk ∧ TmL (fun q => ok q ∧ q ≠ g) W t.kids kk := by
 rcases h with h | rfl
 ·cases h with
  | mk hf hn hl => exact ⟨h1.nz hb (formed_kz hf).kids, h2.nz hb hl⟩
 ·exact ⟨h1.nz hb (fun t h => by cases h), h2.nz hb (fun t h => by cases h)⟩
theorem bnl_one' {W : World} {g : Nat} {nm : ByteArray} {u : Tm} {tk kk : Value} {ok : Nat → Prop} (hb : Blk W g 53 (bCells ((nm, u), tk, kk))) (h1 : TyL ok W u.ty.kids tk) (h2 : TmL ok W u.kids kk) : BnL (fun _ => True) W [(nm, u)] (.slice (some ⟨g, 0, none⟩) 1 1) := by
 have h : W.ownsRow 0 53 8 (.slice (some ⟨g, 0, none⟩) 1 1) 1 (flatB [((nm, u), tk, kk)]) := ⟨rfl, .inr ⟨g, 1, _, rfl, Nat.zero_le _, hb, by omega, by unfold maxLen; omega, rfl, rfl⟩⟩
 exact bnl_of_row (E := [((nm, u), tk, kk)]) h (fun e he => by rw [List.mem_singleton.1 he]; exact ⟨h1.mono (fun _ _ _ => trivial), h2.mono (fun _ _ _ => trivial)⟩) (fun _ _ => trivial)
abbrev xN : ByteArray := ⟨#[120]⟩
theorem sbst1_any {t u : Tm} {tk kk tk' kk' : Value} {ok ok' : Nat → Prop} {W : World} {g : Nat} (h1 : TyL ok W t.ty.kids tk) (h2 : TmL ok W t.kids kk) (ht : SmTm big t) (hb : Blk W g 53 (bCells ((xN, u), tk', kk'))) (h3 : TyL ok' W u.ty.kids tk') (h4 : TmL ok' W u.kids kk') (hu : SmTm big u) (hp : P10 W) :
  Calls Tryz.prog 37 #[tmVal t tk kk, .slice (some ⟨g, 0, none⟩) 1 1] W (TmB W.heap.size (sbstR t [(xN, u)]) W) :=
 subst_any h1 h2 ht (bnl_one' hb h3 h4) (fun b hb => by rw [List.mem_singleton.1 hb]; exact hu) (fun b hb => by rw [List.mem_singleton.1 hb]; exact (by decide : (1 : Nat) ≤ maxLen)) (by show 1 ≤ 200; decide) hp
theorem sa_any {a b : Tm} {l : List Int} {w : World} {tk kk tk' kk' vl : Value} (hgl : Gl w) (hp : P10 w) (h1 : TyL (fun _ => True) w a.ty.kids tk) (h2 : TmL (fun _ => True) w a.kids kk) (ha : SmTm big a) (h3 : TyL (fun _ => True) w b.ty.kids tk') (h4 : TmL (fun _ => True) w b.kids kk') (hb : SmTm big b) (hL : InL (fun _ => True) w l vl) (hl : l.length ≤ 9223372036854775807) :
  Calls Tryz.prog 9 #[tmVal a tk kk, tmVal b tk' kk', vl] w (EsOk w) := by
 obtain ⟨p0, n0, c0, rfl⟩ := h1.slice
 obtain ⟨ma0, mn0, mc0, rfl⟩ := h2.slice
 obtain ⟨p1, n1, c1, rfl⟩ := h3.slice
 obtain ⟨ma1, mn1, mc1, rfl⟩ := h4.slice
 obtain ⟨la, lc, rfl⟩ := hL.slice
 have H15 := Ld (fun W (k : Kept (fun _ => False) w W) => awake_any W (hgl.kept k (fun h => h) (fun h => h)))
 have HVA := Ld (fun W (k : Kept (fun _ => False) w W) => rvalid_any (h1.frame (sK k)) (h2.frame (sK k)) ha)
 have HVB := Ld (fun W (k : Kept (fun _ => False) w W) => rvalid_any (h3.frame (sK k)) (h4.frame (sK k)) hb)
 have HYA := Ld (fun (hv : validB a = true) W (k : Kept (fun _ => False) w W) => rvary_any hv (h1.frame (sK k)) (h2.frame (sK k)) (hL.frame (sK k)) hl)
 have HYB := Ld (fun (hv : validB b = true) W (k : Kept (fun _ => False) w W) => rvary_any hv (h3.frame (sK k)) (h4.frame (sK k)) (hL.frame (sK k)) hl)
 have HS1 := Ld (fun W (k : Kept (fun _ => False) w W) (g : Nat) (hg : Blk W g 53 (bCells ((xN, b), .slice p1 n1 c1, .slice ma1 mn1 mc1))) => sbst1_any (h1.frame (sK k)) (h2.frame (sK k)) ha hg (h3.frame (sK k)) (h4.frame (sK k)) hb (hp.kept k))
 have HPP := Ld (fun W (k : Kept (fun _ => False) w W) => hp.kept k)
 have HPL := Ld (fun (ht : validB a = true) (hu : validB b = true) => (⟨sa_plain xN l ht hu, sbst_one (x := xN) ht hu⟩ : _ ∧ _))
 clear h1 h2 h3 h4 ha hb hgl hp hL hl
 unfold tmVal at HYA HYB HS1 ⊢
 have B0 : Hid (Blk ((w.alloc (.cells #[.int .i64 a.op, .string a.name, .int .i64 a.n, .int .i64 a.ty.kind, .string a.ty.name, .slice p0 n0 c0, .slice ma0 mn0 mc0] 28)).alloc (.cells #[.int .i64 b.op, .string b.name, .int .i64 b.n, .int .i64 b.ty.kind, .string b.ty.name, .slice p1 n1 c1, .slice ma1 mn1 mc1] 28)) w.heap.size 28 [Value.int .i64 a.op, .string a.name, .int .i64 a.n, .int .i64 a.ty.kind, .string a.ty.name, .slice p0 n0 c0, .slice ma0 mn0 mc0] ∧ Blk ((w.alloc (.cells #[.int .i64 a.op, .string a.name, .int .i64 a.n, .int .i64 a.ty.kind, .string a.ty.name, .slice p0 n0 c0, .slice ma0 mn0 mc0] 28)).alloc (.cells #[.int .i64 b.op, .string b.name, .int .i64 b.n, .int .i64 b.ty.kind, .string b.ty.name, .slice p1 n1 c1, .slice ma1 mn1 mc1] 28)) (w.heap.size + 1) 28 [Value.int .i64 b.op, .string b.name, .int .i64 b.n, .int .i64 b.ty.kind, .string b.ty.name, .slice p1 n1 c1, .slice ma1 mn1 mc1] ∧ Kept (fun _ => False) w ((w.alloc (.cells #[.int .i64 a.op, .string a.name, .int .i64 a.n, .int .i64 a.ty.kind, .string a.ty.name, .slice p0 n0 c0, .slice ma0 mn0 mc0] 28)).alloc (.cells #[.int .i64 b.op, .string b.name, .int .i64 b.n, .int .i64 b.ty.kind, .string b.ty.name, .slice p1 n1 c1, .slice ma1 mn1 mc1] 28))) := Ld
  ⟨(Blk.new w 28 _).alloc _, Blk.new' 28 _ (by simp), ((Kept.refl _ _).alloc _).alloc _⟩
 go_enter Tryz.func9, Tryz.ntmps9
 go_upto_region 1 with (fail)
 generalize ((w.alloc (.cells #[.int .i64 a.op, .string a.name, .int .i64 a.n, .int .i64 a.ty.kind, .string a.ty.name, .slice p0 n0 c0, .slice ma0 mn0 mc0] 28)).alloc (.cells #[.int .i64 b.op, .string b.name, .int .i64 b.n, .int .i64 b.ty.kind, .string b.ty.name, .slice p1 n1 c1, .slice ma1 mn1 mc1] 28)) = w1 at *
 have gA : ∀ i, w1.cell? ⟨w.heap.size, i, none⟩ = [Value.int .i64 a.op, .string a.name, .int .i64 a.n, .int .i64 a.ty.kind, .string a.ty.name, .slice p0 n0 c0, .slice ma0 mn0 mc0][i]? := B0.out.1.cell
 have gB : ∀ i, w1.cell? ⟨w.heap.size + 1, i, none⟩ = [Value.int .i64 b.op, .string b.name, .int .i64 b.n, .int .i64 b.ty.kind, .string b.ty.name, .slice p1 n1 c1, .slice ma1 mn1 mc1][i]? := B0.out.2.1.cell
 go_wp2_with fail
 clear gA gB
 refine (HVA.out w1 B0.out.2.2).mono ?_
 rintro e w2 ⟨rfl, k2⟩
 have B2 : Hid (Blk w2 w.heap.size 28 [Value.int .i64 a.op, .string a.name, .int .i64 a.n, .int .i64 a.ty.kind, .string a.ty.name, .slice p0 n0 c0, .slice ma0 mn0 mc0] ∧ Blk w2 (w.heap.size + 1) 28 [Value.int .i64 b.op, .string b.name, .int .i64 b.n, .int .i64 b.ty.kind, .string b.ty.name, .slice p1 n1 c1, .slice ma1 mn1 mc1] ∧ Kept (fun _ => False) w w2) := Ld ⟨B0.out.1.kept k2 (fun h => h), B0.out.2.1.kept k2 (fun h => h), B0.out.2.2.trans k2⟩
 clear B0 k2 HVA
 cases hva : validB a
 ·clear HYA HYB HS1 HPL hva HVB HPP
  go_wp2_with fail
  refine (H15.out w2 B2.out.2.2).mono ?_
  rintro e w5 ⟨rfl, k5⟩
  have K5 := Ld (B2.out.2.2.trans k5)
  clear k5
  go_wp2_with fail
  go_ret
  exact ⟨rfl, K5.out⟩
 ·have HPL2 := Ld (HPL.out hva)
  have HYA2 := Ld (HYA.out hva)
  clear HPL HYA hva
  have gB : ∀ i, w2.cell? ⟨w.heap.size + 1, i, none⟩ = [Value.int .i64 b.op, .string b.name, .int .i64 b.n, .int .i64 b.ty.kind, .string b.ty.name, .slice p1 n1 c1, .slice ma1 mn1 mc1][i]? := B2.out.2.1.cell
  go_wp2_with fail
  clear gB
  refine (HVB.out w2 B2.out.2.2).mono ?_
  rintro e w3 ⟨rfl, k3⟩
  have B3 : Hid (Blk w3 w.heap.size 28 [Value.int .i64 a.op, .string a.name, .int .i64 a.n, .int .i64 a.ty.kind, .string a.ty.name, .slice p0 n0 c0, .slice ma0 mn0 mc0] ∧ Blk w3 (w.heap.size + 1) 28 [Value.int .i64 b.op, .string b.name, .int .i64 b.n, .int .i64 b.ty.kind, .string b.ty.name, .slice p1 n1 c1, .slice ma1 mn1 mc1] ∧ Kept (fun _ => False) w w3) := Ld ⟨B2.out.1.kept k3 (fun h => h), B2.out.2.1.kept k3 (fun h => h), B2.out.2.2.trans k3⟩
  clear B2 k3 HVB
  cases hvb : validB b
  ·clear HYA2 HYB HS1 HPL2 hvb HPP
   go_wp2_with fail
   refine (H15.out w3 B3.out.2.2).mono ?_
   rintro e w5 ⟨rfl, k5⟩
   have K5 := Ld (B3.out.2.2.trans k5)
   clear k5
   go_wp2_with fail
   go_ret
   exact ⟨rfl, K5.out⟩
  ·have HPL3 := Ld (HPL2.out hvb)
   have HYB2 := Ld (HYB.out hvb)
   clear HPL2 HYB hvb
   have gA : ∀ i, w3.cell? ⟨w.heap.size, i, none⟩ = [Value.int .i64 a.op, .string a.name, .int .i64 a.n, .int .i64 a.ty.kind, .string a.ty.name, .slice p0 n0 c0, .slice ma0 mn0 mc0][i]? := B3.out.1.cell
   have gB : ∀ i, w3.cell? ⟨w.heap.size + 1, i, none⟩ = [Value.int .i64 b.op, .string b.name, .int .i64 b.n, .int .i64 b.ty.kind, .string b.ty.name, .slice p1 n1 c1, .slice ma1 mn1 mc1][i]? := B3.out.2.1.cell
   have HB := Ld (Blk.new w3 53 (bCells ((xN, b), .slice p1 n1 c1, .slice ma1 mn1 mc1)))
   have HS2 := Ld (HS1.out _ (B3.out.2.2.alloc _) _ HB.out)
   clear HS1
   change Hid (Blk (w3.alloc (.cells #[.string xN, .int .i64 b.op, .string b.name, .int .i64 b.n, .int .i64 b.ty.kind, .string b.ty.name, .slice p1 n1 c1, .slice ma1 mn1 mc1] 53)) w3.heap.size _ _) at HB
   change Hid (Calls _ _ _ (w3.alloc (.cells #[.string xN, .int .i64 b.op, .string b.name, .int .i64 b.n, .int .i64 b.ty.kind, .string b.ty.name, .slice p1 n1 c1, .slice ma1 mn1 mc1] 53)) (TmB (w3.alloc (.cells #[.string xN, .int .i64 b.op, .string b.name, .int .i64 b.n, .int .i64 b.ty.kind, .string b.ty.name, .slice p1 n1 c1, .slice ma1 mn1 mc1] 53)).heap.size (sbstR a [(xN, b)]) (w3.alloc (.cells #[.string xN, .int .i64 b.op, .string b.name, .int .i64 b.n, .int .i64 b.ty.kind, .string b.ty.name, .slice p1 n1 c1, .slice ma1 mn1 mc1] 53)))) at HS2
   have B4 : Hid (Blk (w3.alloc (.cells #[.string xN, .int .i64 b.op, .string b.name, .int .i64 b.n, .int .i64 b.ty.kind, .string b.ty.name, .slice p1 n1 c1, .slice ma1 mn1 mc1] 53)) w.heap.size 28 [Value.int .i64 a.op, .string a.name, .int .i64 a.n, .int .i64 a.ty.kind, .string a.ty.name, .slice p0 n0 c0, .slice ma0 mn0 mc0] ∧ Blk (w3.alloc (.cells #[.string xN, .int .i64 b.op, .string b.name, .int .i64 b.n, .int .i64 b.ty.kind, .string b.ty.name, .slice p1 n1 c1, .slice ma1 mn1 mc1] 53)) (w.heap.size + 1) 28 [Value.int .i64 b.op, .string b.name, .int .i64 b.n, .int .i64 b.ty.kind, .string b.ty.name, .slice p1 n1 c1, .slice ma1 mn1 mc1] ∧ Kept (fun _ => False) w (w3.alloc (.cells #[.string xN, .int .i64 b.op, .string b.name, .int .i64 b.n, .int .i64 b.ty.kind, .string b.ty.name, .slice p1 n1 c1, .slice ma1 mn1 mc1] 53))) := Ld ⟨B3.out.1.alloc _, B3.out.2.1.alloc _, B3.out.2.2.alloc _⟩
   go_wp2_with fail
   clear gA gB B3 HB
   refine HS2.out.mono ?_
   generalize w3.alloc (.cells #[.string xN, .int .i64 b.op, .string b.name, .int .i64 b.n, .int .i64 b.ty.kind, .string b.ty.name, .slice p1 n1 c1, .slice ma1 mn1 mc1] 53) = w4 at *
   have HR1 : Hid (sbstR a [(xN, b)] = if validB (subT freshS a [(xN, b)]) then (subT freshS a [(xN, b)], 0) else (tm0, 5)) := Ld HPL3.out.2
   generalize sbstR a [(xN, b)] = r1 at *
   obtain ⟨s1, e1⟩ := r1
   rintro e w5 ⟨tc, kc, rfl, hty, htm, k5⟩
   obtain ⟨p2, n2, c2, rfl⟩ := hty.slice
   obtain ⟨ma2, mn2, mc2, rfl⟩ := htm.slice
   have B5 : Hid (Blk w5 w.heap.size 28 [Value.int .i64 a.op, .string a.name, .int .i64 a.n, .int .i64 a.ty.kind, .string a.ty.name, .slice p0 n0 c0, .slice ma0 mn0 mc0] ∧ Blk w5 (w.heap.size + 1) 28 [Value.int .i64 b.op, .string b.name, .int .i64 b.n, .int .i64 b.ty.kind, .string b.ty.name, .slice p1 n1 c1, .slice ma1 mn1 mc1] ∧ Kept (fun _ => False) w w5) := Ld ⟨B4.out.1.kept k5 (fun h => h), B4.out.2.1.kept k5 (fun h => h), B4.out.2.2.trans k5⟩
   have HTY := Ld (hty.mono (ok' := fun _ => True) (fun _ _ _ => trivial))
   have HTM := Ld (htm.mono (ok' := fun _ => True) (fun _ _ _ => trivial))
   clear B4 k5 HS2 hty htm
   unfold tmVal
   go_upto_region 4 with (fail)
   have B6 : Hid (Blk (w5.alloc (.cells #[.int .i64 s1.op, .string s1.name, .int .i64 s1.n, .int .i64 s1.ty.kind, .string s1.ty.name, .slice p2 n2 c2, .slice ma2 mn2 mc2] 28)) w.heap.size 28 [Value.int .i64 a.op, .string a.name, .int .i64 a.n, .int .i64 a.ty.kind, .string a.ty.name, .slice p0 n0 c0, .slice ma0 mn0 mc0] ∧ Blk (w5.alloc (.cells #[.int .i64 s1.op, .string s1.name, .int .i64 s1.n, .int .i64 s1.ty.kind, .string s1.ty.name, .slice p2 n2 c2, .slice ma2 mn2 mc2] 28)) (w.heap.size + 1) 28 [Value.int .i64 b.op, .string b.name, .int .i64 b.n, .int .i64 b.ty.kind, .string b.ty.name, .slice p1 n1 c1, .slice ma1 mn1 mc1] ∧ Kept (fun _ => False) w (w5.alloc (.cells #[.int .i64 s1.op, .string s1.name, .int .i64 s1.n, .int .i64 s1.ty.kind, .string s1.ty.name, .slice p2 n2 c2, .slice ma2 mn2 mc2] 28)) ∧ Blk (w5.alloc (.cells #[.int .i64 s1.op, .string s1.name, .int .i64 s1.n, .int .i64 s1.ty.kind, .string s1.ty.name, .slice p2 n2 c2, .slice ma2 mn2 mc2] 28)) w5.heap.size 28 [Value.int .i64 s1.op, .string s1.name, .int .i64 s1.n, .int .i64 s1.ty.kind, .string s1.ty.name, .slice p2 n2 c2, .slice ma2 mn2 mc2] ∧ TyL (fun _ => True) (w5.alloc (.cells #[.int .i64 s1.op, .string s1.name, .int .i64 s1.n, .int .i64 s1.ty.kind, .string s1.ty.name, .slice p2 n2 c2, .slice ma2 mn2 mc2] 28)) s1.ty.kids (.slice p2 n2 c2) ∧ TmL (fun _ => True) (w5.alloc (.cells #[.int .i64 s1.op, .string s1.name, .int .i64 s1.n, .int .i64 s1.ty.kind, .string s1.ty.name, .slice p2 n2 c2, .slice ma2 mn2 mc2] 28)) s1.kids (.slice ma2 mn2 mc2)) := Ld
    ⟨B5.out.1.alloc _, B5.out.2.1.alloc _, B5.out.2.2.alloc _, Blk.new w5 28 _, HTY.out.frame (Same.alloc _ _), HTM.out.frame (Same.alloc _ _)⟩
   clear B5 HTY HTM
   generalize w5.alloc (.cells #[.int .i64 s1.op, .string s1.name, .int .i64 s1.n, .int .i64 s1.ty.kind, .string s1.ty.name, .slice p2 n2 c2, .slice ma2 mn2 mc2] 28) = w6 at *
   generalize w5.heap.size = P at *
   have HQL : Hid (SmTm big (varyT l a) ∧ SmTm big (varyT l b)) := Ld ⟨ok_smt (valid_ok HPL3.out.1.1.1), ok_smt (valid_ok HPL3.out.1.1.2)⟩
   have HR2 : Hid (sbstR (varyT l a) [(xN, varyT l b)] = if validB (subT freshS (varyT l a) [(xN, varyT l b)]) then (subT freshS (varyT l a) [(xN, varyT l b)], 0) else (tm0, 5)) := Ld (sbst_one HPL3.out.1.1.1 HPL3.out.1.1.2)
   have HLAW := Ld HPL3.out.1.2
   have HYA3 := Ld (fun W (k : Kept (fun _ => False) w6 W) => HYA2.out W (B6.out.2.2.1.trans k))
   have HYB3 := Ld (fun W (k : Kept (fun _ => False) w6 W) => HYB2.out W (B6.out.2.2.1.trans k))
   clear HPL3 HYA2 HYB2
   generalize varyT l a = va at *
   generalize varyT l b = vb at *
   generalize hr2 : sbstR va [(xN, vb)] = r2 at *
   obtain ⟨s2, e2⟩ := r2
   have HC0 : Hid (((e1 = 0 ∧ e2 = 0 ∧ alB s1 s2 = true ∧ SmTm big s1 ∧ SmTm big s2) ∨ (e1 = 5 ∧ e2 = 5)) ∧ OkZ s2) := Ld (by
    have h1 := HR1.out
    have h2 := HR2.out
    obtain ⟨⟨q1, q2⟩, q3, q4⟩ := HLAW.out
    rw [q3] at h2
    cases hv : validB (subT freshS a [(xN, b)])
    ·rw [hv] at h1 h2
     simp only [Bool.false_eq_true, if_false] at h1 h2
     cases h1; cases h2
     exact ⟨Or.inr ⟨rfl, rfl⟩, Or.inr rfl⟩
    ·rw [hv] at h1 h2
     simp only [if_true] at h1 h2
     cases h1; cases h2
     exact ⟨Or.inl ⟨rfl, rfl, q4 hv, q1, q2⟩, Or.inl (valid_ok (q3.trans hv))⟩)
   have HC := Ld HC0.out.1
   have HOZ := Ld HC0.out.2
   clear HC0
   have KD : Kept (fun _ => False) w6 w6.drew := (Kept.refl _ _).drew
   refine wp_region_mono (L := Kept (fun _ => False)) (fun i v W => match i with
    | 0 => v = .agg #[.int .i64 a.op, .string a.name, .int .i64 a.n, .int .i64 a.ty.kind, .string a.ty.name, .slice p0 n0 c0, .slice ma0 mn0 mc0]
    | 1 => v = .slice la l.length lc
    | 2 => ∃ x1 x2 x3 y1 y2 y3, v = .agg #[.int .i64 va.op, .string va.name, .int .i64 va.n, .int .i64 va.ty.kind, .string va.ty.name, .slice x1 x2 x3, .slice y1 y2 y3] ∧ TyL (fun _ => True) W va.ty.kids (.slice x1 x2 x3) ∧ TmL (fun _ => True) W va.kids (.slice y1 y2 y3)
    | 3 => v = .agg #[.int .i64 b.op, .string b.name, .int .i64 b.n, .int .i64 b.ty.kind, .string b.ty.name, .slice p1 n1 c1, .slice ma1 mn1 mc1]
    | 4 => v = .slice la l.length lc
    | 5 => ∃ x1 x2 x3 y1 y2 y3, v = .agg #[.int .i64 vb.op, .string vb.name, .int .i64 vb.n, .int .i64 vb.ty.kind, .string vb.ty.name, .slice x1 x2 x3, .slice y1 y2 y3] ∧ TyL (fun _ => True) W vb.ty.kids (.slice x1 x2 x3) ∧ TmL (fun _ => True) W vb.kids (.slice y1 y2 y3)
    | 6 => ∃ x1 x2 x3 y1 y2 y3, v = .agg #[.string xN, .int .i64 vb.op, .string vb.name, .int .i64 vb.n, .int .i64 vb.ty.kind, .string vb.ty.name, .slice x1 x2 x3, .slice y1 y2 y3] ∧ TyL (fun _ => True) W vb.ty.kids (.slice x1 x2 x3) ∧ TmL (fun _ => True) W vb.kids (.slice y1 y2 y3)
    | 7 => ∃ g x1 x2 x3 y1 y2 y3, v = .slice (some ⟨g, 0, none⟩) 1 1 ∧ Blk W g 53 (bCells ((xN, vb), .slice x1 x2 x3, .slice y1 y2 y3)) ∧ TyL (fun _ => True) W vb.ty.kids (.slice x1 x2 x3) ∧ TmL (fun _ => True) W vb.kids (.slice y1 y2 y3)
    | 8 => ∃ x1 x2 x3 y1 y2 y3, v = .tuple #[.agg #[.int .i64 s2.op, .string s2.name, .int .i64 s2.n, .int .i64 s2.ty.kind, .string s2.ty.name, .slice x1 x2 x3, .slice y1 y2 y3], .int .i64 e2] ∧ TyL (fun _ => True) W s2.ty.kids (.slice x1 x2 x3) ∧ TmL (fun _ => True) W s2.kids (.slice y1 y2 y3)
    | 9 => ∃ x1 x2 x3 y1 y2 y3, v = .tuple #[.agg #[.int .i64 s2.op, .string s2.name, .int .i64 s2.n, .int .i64 s2.ty.kind, .string s2.ty.name, .slice x1 x2 x3, .slice y1 y2 y3], .int .i64 e2] ∧ TyL (fun _ => True) W s2.ty.kids (.slice x1 x2 x3) ∧ TmL (fun _ => True) W s2.kids (.slice y1 y2 y3)
    | 10 => ∃ x1 x2 x3 y1 y2 y3, v = .agg #[.int .i64 s2.op, .string s2.name, .int .i64 s2.n, .int .i64 s2.ty.kind, .string s2.ty.name, .slice x1 x2 x3, .slice y1 y2 y3] ∧ TyL (fun _ => True) W s2.ty.kids (.slice x1 x2 x3) ∧ TmL (fun _ => True) W s2.kids (.slice y1 y2 y3)
    | 11 => v = .int .i64 e2
    | 12 => ∃ g, v = .pointer (some ⟨g, 0, none⟩) ∧ Blk W g 28 z27 ∧ w6.heap.size ≤ g
    | _ => True) [13, 14] [11] 53 (by kernel_rfl) rfl (by kernel_rfl) (by kernel_rfl) (fun w => Kept.refl _ w) (fun _ _ _ h1 h2 => h1.trans h2) (fun c d v a w h => by cases d <;> exact h) ?_ ?_
   ·refine allM_cons rfl (stepM_of [] rfl fun W k => allV_nil ?_) ?_
    ·have q := KD.trans k
     have gX : ∀ i, W.cell? ⟨w.heap.size, i, none⟩ = [Value.int .i64 a.op, .string a.name, .int .i64 a.n, .int .i64 a.ty.kind, .string a.ty.name, .slice p0 n0 c0, .slice ma0 mn0 mc0][i]? := ((B6.out.1).kept q (fun h => h)).cell
     refine opW_go rfl fun K hK => ?_
     go_simp
     exact hK _ _ (KT.mk (Kept.refl _ _) rfl 29 rfl rfl)
    refine allM_cons rfl (stepM_of [] rfl fun W k => allV_nil ?_) ?_
    ·refine opW_go rfl fun K hK => ?_
     go_simp
     exact hK _ _ (KT.mk (Kept.refl _ _) rfl 30 rfl rfl)
    refine allM_cons rfl (stepM_of [0, 1] rfl fun W k => allV_some 29 rfl fun v0 h0 => allV_some 30 rfl fun v1 h1 => allV_nil ?_) ?_
    ·obtain ⟨w1, k1, rfl⟩ := h0
     obtain ⟨w2, k2, rfl⟩ := h1
     refine opW_go rfl fun K hK => ?_
     go_simp
     go_at_call 35
     refine (HYA3.out W (KD.trans k)).mono ?_
     rintro e w' ⟨tk, kk, rfl, q1, q2, k'⟩
     obtain ⟨x1, x2, x3, rfl⟩ := q1.slice
     obtain ⟨y1, y2, y3, rfl⟩ := q2.slice
     exact hK _ _ (KT.mk k' rfl 31 rfl ⟨x1, x2, x3, y1, y2, y3, rfl, q1.mono (fun _ _ _ => trivial), q2.mono (fun _ _ _ => trivial)⟩)
    refine allM_cons rfl (stepM_of [] rfl fun W k => allV_nil ?_) ?_
    ·have q := KD.trans k
     have gX : ∀ i, W.cell? ⟨w.heap.size + 1, i, none⟩ = [Value.int .i64 b.op, .string b.name, .int .i64 b.n, .int .i64 b.ty.kind, .string b.ty.name, .slice p1 n1 c1, .slice ma1 mn1 mc1][i]? := ((B6.out.2.1).kept q (fun h => h)).cell
     refine opW_go rfl fun K hK => ?_
     go_simp
     exact hK _ _ (KT.mk (Kept.refl _ _) rfl 32 rfl rfl)
    refine allM_cons rfl (stepM_of [] rfl fun W k => allV_nil ?_) ?_
    ·refine opW_go rfl fun K hK => ?_
     go_simp
     exact hK _ _ (KT.mk (Kept.refl _ _) rfl 33 rfl rfl)
    refine allM_cons rfl (stepM_of [3, 4, 2] rfl fun W k => allV_some 32 rfl fun v0 h0 => allV_some 33 rfl fun v1 h1 => allV_some 31 rfl fun v2 h2 => allV_nil ?_) ?_
    ·obtain ⟨w1, k1, rfl⟩ := h0
     obtain ⟨w2, k2, rfl⟩ := h1
     clear h2
     refine opW_go rfl fun K hK => ?_
     go_simp
     go_at_call 35
     refine (HYB3.out W (KD.trans k)).mono ?_
     rintro e w' ⟨tk, kk, rfl, q1, q2, k'⟩
     obtain ⟨x1, x2, x3, rfl⟩ := q1.slice
     obtain ⟨y1, y2, y3, rfl⟩ := q2.slice
     exact hK _ _ (KT.mk k' rfl 34 rfl ⟨x1, x2, x3, y1, y2, y3, rfl, q1.mono (fun _ _ _ => trivial), q2.mono (fun _ _ _ => trivial)⟩)
    refine allM_cons rfl (stepM_of [5] rfl fun W k => allV_some 34 rfl fun v0 h0 => allV_nil ?_) ?_
    ·obtain ⟨w1, k1, x1, x2, x3, y1, y2, y3, rfl, q1, q2⟩ := h0
     refine opW_go rfl fun K hK => ?_
     go_simp
     exact hK _ _ (KT.mk (Kept.refl _ _) rfl 35 rfl ⟨x1, x2, x3, y1, y2, y3, rfl, (q1.frame (sK k1)), (q2.frame (sK k1))⟩)
    refine allM_cons rfl (stepM_of [6] rfl fun W k => allV_some 35 rfl fun v0 h0 => allV_nil ?_) ?_
    ·obtain ⟨w1, k1, x1, x2, x3, y1, y2, y3, rfl, q1, q2⟩ := h0
     refine opW_go rfl fun K hK => ?_
     go_simp
     exact hK _ _ (KT.mk ((Kept.refl _ _).alloc _) rfl 36 rfl ⟨_, x1, x2, x3, y1, y2, y3, rfl, Blk.new W 53 (bCells ((xN, vb), .slice x1 x2 x3, .slice y1 y2 y3)), (q1.frame (sK k1)).frame (Same.alloc _ _), (q2.frame (sK k1)).frame (Same.alloc _ _)⟩)
    refine allM_cons rfl (stepM_of [2, 7, 5] rfl fun W k => allV_some 31 rfl fun v0 h0 => allV_some 36 rfl fun v1 h1 => allV_some 34 rfl fun v2 h2 => allV_nil ?_) ?_
    ·obtain ⟨w1, k1, x1, x2, x3, y1, y2, y3, rfl, q1, q2⟩ := h0
     obtain ⟨w2, k2, g, z1, z2, z3, t1, t2, t3, rfl, hb, q3, q4⟩ := h1
     clear h2
     refine opW_go rfl fun K hK => ?_
     go_simp
     go_at_call 37
     have hs := sbst1_any (t := va) (u := vb) (q1.frame (sK k1)) (q2.frame (sK k1)) HQL.out.1 (hb.kept k2 (fun h => h)) (q3.frame (sK k2)) (q4.frame (sK k2)) HQL.out.2 (HPP.out W (B6.out.2.2.1.trans (KD.trans k)))
     rw [hr2] at hs
     refine hs.mono ?_
     rintro e w' ⟨tk, kk, rfl, h5, h6, k'⟩
     have h5 : TyL _ w' s2.ty.kids tk := h5
     have h6 : TmL _ w' s2.kids kk := h6
     obtain ⟨x1, x2, x3, rfl⟩ := h5.slice
     obtain ⟨y1, y2, y3, rfl⟩ := h6.slice
     exact hK _ _ (KT.mk k' rfl 37 rfl ⟨x1, x2, x3, y1, y2, y3, rfl, h5.mono (fun _ _ _ => trivial), h6.mono (fun _ _ _ => trivial)⟩)
    refine allM_cons rfl (stepM_of [8] rfl fun W k => allV_some 37 rfl fun v0 h0 => allV_nil ?_) ?_
    ·obtain ⟨w1, k1, x1, x2, x3, y1, y2, y3, rfl, q1, q2⟩ := h0
     refine opW_go rfl fun K hK => ?_
     go_simp
     exact hK _ _ (KT.mk (Kept.refl _ _) rfl 28 rfl ⟨x1, x2, x3, y1, y2, y3, rfl, (q1.frame (sK k1)), (q2.frame (sK k1))⟩)
    refine allM_cons rfl (stepM_of [9] rfl fun W k => allV_some 28 rfl fun v0 h0 => allV_nil ?_) ?_
    ·obtain ⟨w1, k1, x1, x2, x3, y1, y2, y3, rfl, q1, q2⟩ := h0
     refine opW_go rfl fun K hK => ?_
     go_simp
     exact hK _ _ (KT.mk (Kept.refl _ _) rfl 38 rfl ⟨x1, x2, x3, y1, y2, y3, rfl, (q1.frame (sK k1)), (q2.frame (sK k1))⟩)
    refine allM_pure (stepE_of [9] rfl fun W k => allV_some 28 rfl fun v0 h0 => allV_nil ?_) ?_
    ·obtain ⟨w1, k1, x1, x2, x3, y1, y2, y3, rfl, q1, q2⟩ := h0
     exact opY_mk (.int .i64 e2) rfl (fun W' => by go_simp) rfl
    refine allM_cons rfl (stepM_of [] rfl fun W k => allV_nil ?_) ?_
    ·refine opW_go rfl fun K hK => ?_
     go_simp
     exact hK _ _ (KT.mk ((Kept.refl _ _).alloc _) rfl 9 rfl ⟨_, rfl, Blk.new W 28 z27, (KD.trans k).size⟩)
    refine allM_tail rfl ?_
    refine allM_tail rfl ?_
    exact allM_nil
   ·intro W kW
    have hh : (List.range 15).filter (fun i => !([13, 14] : List Nat).contains i) = [0, 1, 2, 3, 4, 5, 6, 7, 8, 9, 10, 11, 12] := by decide
    change allV _ _ _ _ _ ((List.range 15).filter (fun i => !([13, 14] : List Nat).contains i)) _
    rw [hh]
    refine allV_some 29 rfl fun v0 h0 => allV_some 30 rfl fun v1 h1 => allV_some 31 rfl fun v2 h2 => allV_some 32 rfl fun v3 h3 => allV_some 33 rfl fun v4 h4 => allV_some 34 rfl fun v5 h5 => allV_some 35 rfl fun v6 h6 => allV_some 36 rfl fun v7 h7 => allV_some 37 rfl fun v8 h8 => allV_some 28 rfl fun v9 h9 => allV_some 38 rfl fun v10 h10 => allV_some 39 rfl fun v11 h11 => allV_some 9 rfl fun v12 h12 => allV_nil ?_
    clear h0
    clear h1
    clear h2
    clear h3
    clear h4
    clear h5
    clear h6
    clear h7
    clear h8
    clear h9
    obtain ⟨w10, k10, x1, x2, x3, y1, y2, y3, rfl, q1, q2⟩ := h10
    obtain ⟨w11, k11, rfl⟩ := h11
    obtain ⟨w12, k12, G2, rfl, hbx, hge⟩ := h12
    have KW : Kept (fun _ => False) w6 W := KD.trans kW
    have HB2 := Ld (hbx.kept k12 (fun h => h))
    have HQ := Ld (HOZ.out.nz HB2.out (q1.frame (sK k10)) (q2.frame (sK k10)))
    have HZ : Hid (P < w6.heap.size ∧ w.heap.size ≤ w6.heap.size ∧ w6.heap.size ≤ G2) := Ld ⟨B6.out.2.2.2.1.lt, B6.out.2.2.1.size, hge⟩
    have BW : Hid (Blk (((((((W.setCell ⟨G2, 0, none⟩ (.int .i64 s2.op)).setCell ⟨G2, 1, none⟩ (.string s2.name)).setCell ⟨G2, 2, none⟩ (.int .i64 s2.n)).setCell ⟨G2, 3, none⟩ (.int .i64 s2.ty.kind)).setCell ⟨G2, 4, none⟩ (.string s2.ty.name)).setCell ⟨G2, 5, none⟩ (.slice x1 x2 x3)).setCell ⟨G2, 6, none⟩ (.slice y1 y2 y3)) P 28 [Value.int .i64 s1.op, .string s1.name, .int .i64 s1.n, .int .i64 s1.ty.kind, .string s1.ty.name, .slice p2 n2 c2, .slice ma2 mn2 mc2] ∧ Blk (((((((W.setCell ⟨G2, 0, none⟩ (.int .i64 s2.op)).setCell ⟨G2, 1, none⟩ (.string s2.name)).setCell ⟨G2, 2, none⟩ (.int .i64 s2.n)).setCell ⟨G2, 3, none⟩ (.int .i64 s2.ty.kind)).setCell ⟨G2, 4, none⟩ (.string s2.ty.name)).setCell ⟨G2, 5, none⟩ (.slice x1 x2 x3)).setCell ⟨G2, 6, none⟩ (.slice y1 y2 y3)) G2 28 [Value.int .i64 s2.op, .string s2.name, .int .i64 s2.n, .int .i64 s2.ty.kind, .string s2.ty.name, .slice x1 x2 x3, .slice y1 y2 y3] ∧ Kept (fun _ => False) w (((((((W.setCell ⟨G2, 0, none⟩ (.int .i64 s2.op)).setCell ⟨G2, 1, none⟩ (.string s2.name)).setCell ⟨G2, 2, none⟩ (.int .i64 s2.n)).setCell ⟨G2, 3, none⟩ (.int .i64 s2.ty.kind)).setCell ⟨G2, 4, none⟩ (.string s2.ty.name)).setCell ⟨G2, 5, none⟩ (.slice x1 x2 x3)).setCell ⟨G2, 6, none⟩ (.slice y1 y2 y3)) ∧ TyL (fun _ => True) (((((((W.setCell ⟨G2, 0, none⟩ (.int .i64 s2.op)).setCell ⟨G2, 1, none⟩ (.string s2.name)).setCell ⟨G2, 2, none⟩ (.int .i64 s2.n)).setCell ⟨G2, 3, none⟩ (.int .i64 s2.ty.kind)).setCell ⟨G2, 4, none⟩ (.string s2.ty.name)).setCell ⟨G2, 5, none⟩ (.slice x1 x2 x3)).setCell ⟨G2, 6, none⟩ (.slice y1 y2 y3)) s1.ty.kids (.slice p2 n2 c2) ∧ TmL (fun _ => True) (((((((W.setCell ⟨G2, 0, none⟩ (.int .i64 s2.op)).setCell ⟨G2, 1, none⟩ (.string s2.name)).setCell ⟨G2, 2, none⟩ (.int .i64 s2.n)).setCell ⟨G2, 3, none⟩ (.int .i64 s2.ty.kind)).setCell ⟨G2, 4, none⟩ (.string s2.ty.name)).setCell ⟨G2, 5, none⟩ (.slice x1 x2 x3)).setCell ⟨G2, 6, none⟩ (.slice y1 y2 y3)) s1.kids (.slice ma2 mn2 mc2) ∧ TyL (fun _ => True) (((((((W.setCell ⟨G2, 0, none⟩ (.int .i64 s2.op)).setCell ⟨G2, 1, none⟩ (.string s2.name)).setCell ⟨G2, 2, none⟩ (.int .i64 s2.n)).setCell ⟨G2, 3, none⟩ (.int .i64 s2.ty.kind)).setCell ⟨G2, 4, none⟩ (.string s2.ty.name)).setCell ⟨G2, 5, none⟩ (.slice x1 x2 x3)).setCell ⟨G2, 6, none⟩ (.slice y1 y2 y3)) s2.ty.kids (.slice x1 x2 x3) ∧ TmL (fun _ => True) (((((((W.setCell ⟨G2, 0, none⟩ (.int .i64 s2.op)).setCell ⟨G2, 1, none⟩ (.string s2.name)).setCell ⟨G2, 2, none⟩ (.int .i64 s2.n)).setCell ⟨G2, 3, none⟩ (.int .i64 s2.ty.kind)).setCell ⟨G2, 4, none⟩ (.string s2.ty.name)).setCell ⟨G2, 5, none⟩ (.slice x1 x2 x3)).setCell ⟨G2, 6, none⟩ (.slice y1 y2 y3)) s2.kids (.slice y1 y2 y3)) := Ld (by
     have hz := HZ.out
     refine ⟨b7w (B6.out.2.2.2.1.kept KW (fun h => h)) (by omega), r7 HB2.out rfl, k7w (B6.out.2.2.1.trans KW) (Or.inr (by omega)), ?_, ?_, ?_, ?_⟩
     ·exact ((((B6.out.2.2.2.2.1.mono (ok' := fun q => q < w6.heap.size) (fun q hq _ => hq)).frame (sK KW)).frame (set7 (fun q hq => by omega)))).mono (fun _ _ _ => trivial)
     ·exact ((((B6.out.2.2.2.2.2.mono (ok' := fun q => q < w6.heap.size) (fun q hq _ => hq)).frame (sK KW)).frame (set7 (fun q hq => by omega)))).mono (fun _ _ _ => trivial)
     ·exact (HQ.out.1.frame (set7 (fun q hq => hq.2))).mono (fun _ _ _ => trivial)
     ·exact (HQ.out.2.frame (set7 (fun q hq => hq.2))).mono (fun _ _ _ => trivial))
    have gG : ∀ i, W.cell? ⟨G2, i, none⟩ = [Value.int .i64 0, .string ⟨#[]⟩, .int .i64 0, .int .i64 0, .string ⟨#[]⟩, .slice none 0 0, .slice none 0 0][i]? := HB2.out.cell
    have fG : ∀ i, W.frozen? ⟨G2, i, none⟩ = false := HB2.out.frozen
    clear hbx hge q1 q2 k10 k11 k12 KW kW HQ HZ HB2 B6 hh HYA3 HYB3 HPP HQL hr2 HR2 HR1 HLAW HOZ
    show wpList Tryz.prog _ _ [_, _] _ W
    go_upto_region 5 with (fail)
    generalize (((((((W.setCell ⟨G2, 0, none⟩ (.int .i64 s2.op)).setCell ⟨G2, 1, none⟩ (.string s2.name)).setCell ⟨G2, 2, none⟩ (.int .i64 s2.n)).setCell ⟨G2, 3, none⟩ (.int .i64 s2.ty.kind)).setCell ⟨G2, 4, none⟩ (.string s2.ty.name)).setCell ⟨G2, 5, none⟩ (.slice x1 x2 x3)).setCell ⟨G2, 6, none⟩ (.slice y1 y2 y3)) = w7 at *
    clear gG fG
    rcases HC.out with ⟨rfl, rfl, hal, hs1, hs2⟩ | ⟨rfl, rfl⟩
    ·have HA := Ld (ralikes_any BW.out.2.2.2.1 BW.out.2.2.2.2.1 BW.out.2.2.2.2.2.1 BW.out.2.2.2.2.2.2 hs1 hs2)
     rw [hal] at HA
     unfold tmVal at HA
     have gP : ∀ i, w7.cell? ⟨P, i, none⟩ = [Value.int .i64 s1.op, .string s1.name, .int .i64 s1.n, .int .i64 s1.ty.kind, .string s1.ty.name, .slice p2 n2 c2, .slice ma2 mn2 mc2][i]? := BW.out.1.cell
     have gG : ∀ i, w7.cell? ⟨G2, i, none⟩ = [Value.int .i64 s2.op, .string s2.name, .int .i64 s2.n, .int .i64 s2.ty.kind, .string s2.ty.name, .slice x1 x2 x3, .slice y1 y2 y3][i]? := BW.out.2.1.cell
     clear HC hal hs1 hs2
     go_wp2_with fail
     refine HA.out.mono ?_
     rintro e w8 ⟨rfl, k8⟩
     have K8 := Ld (BW.out.2.2.1.trans k8)
     clear k8 HA BW gP gG
     go_wp2_with fail
     refine (H15.out w8 K8.out).mono ?_
     rintro e w9 ⟨rfl, k9⟩
     have K9 := Ld (K8.out.trans k9)
     clear k9
     go_wp2_with fail
     go_ret
     exact ⟨rfl, K9.out⟩
    ·have K7 := Ld BW.out.2.2.1
     clear HC BW
     go_wp2_with fail
     refine (H15.out w7 K7.out).mono ?_
     rintro e w9 ⟨rfl, k9⟩
     have K9 := Ld (K7.out.trans k9)
     clear k9
     go_wp2_with fail
     go_ret
     exact ⟨rfl, K9.out⟩
end Go.Proofs.YtfhedienjnfdcaaGreatDoor
