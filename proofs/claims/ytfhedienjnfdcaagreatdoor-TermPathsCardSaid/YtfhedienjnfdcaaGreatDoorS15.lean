/- Texts Alk NmL AppS TyQ TmQ Fmt Fre Awk of this proof, in one. -/
import Derived.Test.YtfhedienjnfdcaaGreatDoorS11
import Derived.Test.YtfhedienjnfdcaaGreatDoorS12
import Derived.Test.YtfhedienjnfdcaaGreatDoorS14
import Derived.Deep.AppendLies
import Derived.Deep.RegionLaw
import Derived.Deep.CutBlock
import Derived.Laws.AppendOwnNone
import Derived.BigQuiet
import Derived.StillTailTactics
import Derived.Deep.RegionHeld3
set_option linter.unusedVariables false
set_option linter.unusedSimpArgs false
namespace Go.Proofs.YtfhedienjnfdcaaGreatDoor
open Go.RowKit
mutual
def tyEq : Ty → Ty → Bool
  | .mk k n l, .mk k' n' l' => decide (k = k') && decide (n = n') && tysEq l l'
def tysEq : List Ty → List Ty → Bool
  | [], [] => true
  | t :: l, t' :: l' => tyEq t t' && tysEq l l'
  | _, _ => false
end
theorem tyEq_iff : ∀ (a b : Ty), tyEq a b = true ↔ a = b := by
  intro a
  induction a using Ty.rec (motive_2 := fun l => ∀ l', tysEq l l' = true ↔ l = l') with
  | mk k n l ih =>
    intro b
    cases b with
    | mk k' n' l' =>
      simp only [tyEq, Bool.and_eq_true, decide_eq_true_eq, ih l', Ty.mk.injEq]
      constructor
      · rintro ⟨⟨a, b⟩, c⟩; exact ⟨a, b, c⟩
      · rintro ⟨a, b, c⟩; exact ⟨⟨a, b⟩, c⟩
  | nil => rename_i l'; cases l' <;> simp [tysEq]
  | cons t l iht ihl =>
    rename_i l'
    cases l' with
    | nil => simp [tysEq]
    | cons t' l' => simp only [tysEq, Bool.and_eq_true, iht, ihl, List.cons.injEq]
mutual
def tmEq : Tm → Tm → Bool
  | .mk o n N t l, .mk o' n' N' t' l' => decide (o = o') && decide (n = n') && decide (N = N') && tyEq t t' && tmsEq l l'
def tmsEq : List Tm → List Tm → Bool
  | [], [] => true
  | t :: l, t' :: l' => tmEq t t' && tmsEq l l'
  | _, _ => false
end
theorem tmEq_iff : ∀ (a b : Tm), tmEq a b = true ↔ a = b := by
  intro a
  induction a using Tm.rec (motive_2 := fun l => ∀ l', tmsEq l l' = true ↔ l = l') with
  | mk o n N t l ih =>
    intro b
    cases b with
    | mk o' n' N' t' l' =>
      simp only [tmEq, Bool.and_eq_true, decide_eq_true_eq, ih l', Tm.mk.injEq, tyEq_iff]
      constructor
      · rintro ⟨⟨⟨⟨a, b⟩, c⟩, d⟩, e⟩; exact ⟨a, b, c, d, e⟩
      · rintro ⟨a, b, c, d, e⟩; exact ⟨⟨⟨⟨a, b⟩, c⟩, d⟩, e⟩
  | nil => rename_i l'; cases l' <;> simp [tmsEq]
  | cons t l iht ihl =>
    rename_i l'
    cases l' with
    | nil => simp [tmsEq]
    | cons t' l' => simp only [tmsEq, Bool.and_eq_true, iht, ihl, List.cons.injEq]
def idx (s : ByteArray) : List ByteArray → Option Nat
  | [] => none
  | x :: X => if x = s then some 0 else (idx s X).map (· + 1)
theorem idxN_lt {s : ByteArray} : ∀ {X : List ByteArray} {i : Nat}, idx s X = some i → i < X.length
  | x :: X, i, h => by
    rw [idx] at h
    split at h
    · cases h; simp
    · cases hx : idx s X with
      | none => rw [hx] at h; cases h
      | some j =>
        rw [hx] at h
        have := idxN_lt hx
        simp only [Option.map_some, Option.some.injEq] at h
        simp; omega
def lastI (s : ByteArray) (l : List ByteArray) : Int := match idx s l.reverse with
  | some i => (l.length : Int) - 1 - i
  | none => -1
def envL (X : List ByteArray) : ByteArray → Db := X.foldl (fun ρ n => upE n ρ) .fv
theorem envL_snoc (X : List ByteArray) (n : ByteArray) : envL (X ++ [n]) = upE n (envL X) := by unfold envL; rw [List.foldl_append]; rfl
theorem envL_at (s : ByteArray) : ∀ (R : List ByteArray), envL R.reverse s = match idx s R with | some i => .bv i | none => .fv s
  | [] => rfl
  | x :: R => by
    rw [List.reverse_cons, envL_snoc, idx]
    unfold upE
    by_cases h : x = s
    · rw [if_pos h.symm, if_pos h]
    · rw [if_neg (Ne.symm h), if_neg h, envL_at s R]
      cases idx s R <;> rfl
theorem envL_idx (s : ByteArray) (X : List ByteArray) : envL X s = match idx s X.reverse with | some i => .bv i | none => .fv s := by
  have := envL_at s X.reverse
  rw [List.reverse_reverse] at this; exact this
inductive NW : Tm → Prop
  | mk {op : Int} {nm : ByteArray} {N : Int} {ty : Ty} {l : List Tm} (h : op = 20 → N = 0 ∧ ty = ty0 ∧ l = []) (hl : ∀ t, t ∈ l → NW t) : NW (.mk op nm N ty l)
mutual
def alikeT : Tm → Tm → List ByteArray → List ByteArray → Bool
  | .mk op nm N ty l, .mk op' nm' N' ty' l', x, y =>
    (decide (op = op') && decide (N = N') && tyEq ty ty' && decide (l.length = l'.length)) &&
      (if op = 20 then decide (lastI nm x = lastI nm' y) && (decide (0 ≤ lastI nm x) || decide (nm = nm')) else alikeK (binderB op) nm nm' 0 l l' x y)
def alikeK (bi : Bool) (nm nm' : ByteArray) : Nat → List Tm → List Tm → List ByteArray → List ByteArray → Bool
  | i, a :: l, b :: l', x, y => alikeT a b (if bi && i == 1 then x ++ [nm] else x) (if bi && i == 1 then y ++ [nm'] else y) && alikeK bi nm nm' (i + 1) l l' x y
  | _, _, _, _, _ => true
end
theorem ev_len (bi : Bool) (nm : ByteArray) (ρ : ByteArray → Db) : ∀ (l : List Tm) (i : Nat), (evs bi nm ρ i l).length = l.length
  | [], i => rfl
  | t :: l, i => by rw [evs, List.length_cons, ev_len bi nm ρ l, List.length_cons]
theorem last_eq {s s' : ByteArray} {X Y : List ByteArray} (h : X.length = Y.length) : (decide (lastI s X = lastI s' Y) && (decide (0 ≤ lastI s X) || decide (s = s'))) = true ↔ envL X s = envL Y s' := by
  rw [envL_idx, envL_idx]
  unfold lastI
  cases h1 : idx s X.reverse with
  | none =>
    cases h2 : idx s' Y.reverse with
    | none => simp
    | some j =>
      have := idxN_lt h2
      rw [List.length_reverse] at this
      simp only [Bool.and_eq_true, decide_eq_true_eq, reduceCtorEq, iff_false, not_and]
      intro e; omega
  | some i =>
    have hi := idxN_lt h1
    rw [List.length_reverse] at hi
    cases h2 : idx s' Y.reverse with
    | none =>
      simp only [Bool.and_eq_true, decide_eq_true_eq, reduceCtorEq, iff_false, not_and]
      intro e; omega
    | some j =>
      have hj := idxN_lt h2
      rw [List.length_reverse] at hj
      simp only [Bool.and_eq_true, decide_eq_true_eq, Bool.or_eq_true, Db.bv.injEq]
      constructor
      · rintro ⟨e, _⟩; omega
      · intro e; exact ⟨by omega, Or.inl (by omega)⟩
theorem env_no_nd (X : List ByteArray) (s : ByteArray) (op N : Int) (ty : Ty) (l : List Db) : envL X s ≠ .nd op N ty l := by
  rw [envL_idx]; cases idx s X.reverse <;> simp
theorem alike_iff : ∀ (a b : Tm) (X Y : List ByteArray), X.length = Y.length → NW a → NW b → (alikeT a b X Y = true ↔ ev (envL X) a = ev (envL Y) b) := by
  intro a
  induction a using Tm.rec (motive_2 := fun l => ∀ (l' : List Tm) (bi : Bool) (nm nm' : ByteArray) (i : Nat) (X Y : List ByteArray), l.length = l'.length → X.length = Y.length → (∀ t, t ∈ l → NW t) → (∀ t, t ∈ l' → NW t) → (alikeK bi nm nm' i l l' X Y = true ↔ evs bi nm (envL X) i l = evs bi nm' (envL Y) i l')) with
  | mk op nm N ty l ih =>
    intro b X Y hXY ha hb
    cases b with
    | mk op' nm' N' ty' l' =>
      cases ha with
      | mk ha hal =>
        cases hb with
        | mk hb hbl =>
          rw [alikeT, ev, ev, Bool.and_eq_true]
          simp only [Bool.and_eq_true, decide_eq_true_eq, tyEq_iff]
          by_cases h : op = 20
          · by_cases h' : op' = 20
            · rw [if_pos h, if_pos h, if_pos h']
              obtain ⟨a1, a2, a3⟩ := ha h
              obtain ⟨b1, b2, b3⟩ := hb h'
              subst h h' a1 a2 a3 b1 b2 b3
              rw [← last_eq hXY]
              simp
            · rw [if_pos h, if_pos h, if_neg h']
              constructor
              · rintro ⟨⟨⟨⟨e, _⟩, _⟩, _⟩, _⟩; exact absurd (e.symm.trans h) h'
              · intro e; exact absurd e (env_no_nd _ _ _ _ _ _)
          · by_cases h' : op' = 20
            · rw [if_neg h, if_neg h, if_pos h']
              constructor
              · rintro ⟨⟨⟨⟨e, _⟩, _⟩, _⟩, _⟩; exact absurd (e.trans h') h
              · intro e; exact absurd e.symm (env_no_nd _ _ _ _ _ _)
            · rw [if_neg h, if_neg h, if_neg h', Db.nd.injEq]
              constructor
              · rintro ⟨⟨⟨⟨e1, e2⟩, e3⟩, e4⟩, e5⟩
                subst e1
                exact ⟨rfl, e2, e3, (ih _ _ _ _ _ _ _ e4 hXY hal hbl).1 e5⟩
              · rintro ⟨e1, e2, e3, e4⟩
                subst e1
                have el : l.length = l'.length := by
                  have := congrArg List.length e4
                  rw [ev_len, ev_len] at this; exact this
                exact ⟨⟨⟨⟨rfl, e2⟩, e3⟩, el⟩, (ih _ _ _ _ _ _ _ el hXY hal hbl).2 e4⟩
  | nil =>
    rename_i l' bi nm nm' i X Y hl hXY _ _
    cases l' with
    | nil => simp [alikeK, evs]
    | cons b l' => simp at hl
  | cons a l iha ihl =>
    rename_i l' bi nm nm' i X Y hl hXY h1 h2
    cases l' with
    | nil => simp at hl
    | cons b l' =>
      rw [alikeK, evs, evs, Bool.and_eq_true, List.cons.injEq, ihl l' bi nm nm' (i + 1) X Y (by simpa using hl) hXY (fun t ht => h1 t (List.mem_cons_of_mem _ ht)) (fun t ht => h2 t (List.mem_cons_of_mem _ ht))]
      cases hb : (bi && i == 1)
      · simp only [Bool.false_eq_true, if_false]
        rw [iha b X Y hXY (h1 a (by simp)) (h2 b (by simp))]
      · simp only [if_true]
        rw [iha b (X ++ [nm]) (Y ++ [nm']) (by simp [hXY]) (h1 a (by simp)) (h2 b (by simp)), envL_snoc, envL_snoc]
theorem alike_db {a b : Tm} (ha : NW a) (hb : NW b) : alikeT a b [] [] = true ↔ dbT a = dbT b := alike_iff a b [] [] rfl ha hb
theorem ev_size : ∀ (t : Tm) (ρ : ByteArray → Db), NW t → (∀ s, szD (ρ s) = 1) → szD (ev ρ t) = tmN t := by
  intro t
  induction t using Tm.rec (motive_2 := fun l => ∀ (bi : Bool) (nm : ByteArray) (ρ : ByteArray → Db) (i : Nat), (∀ t, t ∈ l → NW t) → (∀ s, szD (ρ s) = 1) → szDs (evs bi nm ρ i l) = tmNs l) with
  | mk op nm N ty l ih =>
    intro ρ h1 h2
    cases h1 with
    | mk h1 hl =>
      rw [ev, tmN]
      by_cases h : op = 20
      · rw [if_pos h, (h1 h).2.2, h2]; rfl
      · rw [if_neg h, szD, ih _ _ _ _ hl h2]
  | nil => rfl
  | cons t l iht ihl =>
    rename_i bi nm ρ i h1 h2
    rw [evs, szDs, tmNs, ihl bi nm ρ (i + 1) (fun t ht => h1 t (List.mem_cons_of_mem _ ht)) h2, iht _ (h1 t (by simp)) ?_]
    intro s
    split
    · unfold upE
      split
      · rfl
      · rw [szD_ren]; exact h2 s
    · exact h2 s
theorem ev_depth : ∀ (t : Tm) (ρ : ByteArray → Db), NW t → (∀ s, dpD (ρ s) = 1) → dpD (ev ρ t) = tmD t := by
  intro t
  induction t using Tm.rec (motive_2 := fun l => ∀ (bi : Bool) (nm : ByteArray) (ρ : ByteArray → Db) (i : Nat), (∀ t, t ∈ l → NW t) → (∀ s, dpD (ρ s) = 1) → dpDs (evs bi nm ρ i l) = tmDs l) with
  | mk op nm N ty l ih =>
    intro ρ h1 h2
    cases h1 with
    | mk h1 hl =>
      rw [ev, tmD]
      by_cases h : op = 20
      · rw [if_pos h, (h1 h).2.2, h2]; rfl
      · rw [if_neg h, dpD, ih _ _ _ _ hl h2]
  | nil => rfl
  | cons t l iht ihl =>
    rename_i bi nm ρ i h1 h2
    rw [evs, dpDs, tmDs, ihl bi nm ρ (i + 1) (fun t ht => h1 t (List.mem_cons_of_mem _ ht)) h2, iht _ (h1 t (by simp)) ?_]
    intro s
    split
    · unfold upE
      split
      · rfl
      · rw [dpD_ren]; exact h2 s
    · exact h2 s
theorem dbT_size {t : Tm} (h : NW t) : szD (dbT t) = tmN t := ev_size t _ h (fun _ => rfl)
theorem dbT_depth {t : Tm} (h : NW t) : dpD (dbT t) = tmD t := ev_depth t _ h (fun _ => rfl)
theorem db_size {t u : Tm} (ht : NW t) (hu : NW u) (h : dbT t = dbT u) : tmN t = tmN u := by rw [← dbT_size ht, ← dbT_size hu, h]
theorem db_depth {t u : Tm} (ht : NW t) (hu : NW u) (h : dbT t = dbT u) : tmD t = tmD u := by rw [← dbT_depth ht, ← dbT_depth hu, h]
def NmL (ok : Nat → Prop) (w : World) (l : List ByteArray) (v : Value) : Prop :=
  ∃ a n c, v = .slice a n c ∧ n = l.length ∧ n ≤ c ∧ (a = none → c = 0) ∧ ∀ i (h : i < l.length), ∃ g off, a = some ⟨g, off, none⟩ ∧ ok g ∧ w.cell? ⟨g, off + i, none⟩ = some (.string l[i])
theorem NmL.nil {ok : Nat → Prop} {w : World} : NmL ok w [] (.slice none 0 0) := ⟨none, 0, 0, rfl, rfl, Nat.le_refl _, fun _ => rfl, fun i h => absurd h (Nat.not_lt_zero _)⟩
theorem NmL.frame {ok : Nat → Prop} {w W : World} {l : List ByteArray} {v : Value} (h : NmL ok w l v) (hs : Same ok w W) : NmL ok W l v := by
  obtain ⟨a, n, c, h1, h2, h3, h5, h4⟩ := h
  refine ⟨a, n, c, h1, h2, h3, h5, fun i hi => ?_⟩
  obtain ⟨g, off, e, hg, hc⟩ := h4 i hi
  exact ⟨g, off, e, hg, hs.cell hg hc⟩
theorem NmL.mono {ok ok' : Nat → Prop} {w : World} {l : List ByteArray} {v : Value} (h : NmL ok w l v) (ho : ∀ k, k < w.heap.size → ok k → ok' k) : NmL ok' w l v := by
  obtain ⟨a, n, c, h1, h2, h3, h5, h4⟩ := h
  refine ⟨a, n, c, h1, h2, h3, h5, fun i hi => ?_⟩
  obtain ⟨g, off, e, hg, hc⟩ := h4 i hi
  exact ⟨g, off, e, ho _ (cell_lt hc) hg, hc⟩
theorem NmL.slice {ok : Nat → Prop} {w : World} {l : List ByteArray} {v : Value} (h : NmL ok w l v) : ∃ a c, v = .slice a l.length c := by
  obtain ⟨a, n, c, h1, h2, _⟩ := h
  exact ⟨a, c, by rw [h1, h2]⟩
theorem NmL.at {ok : Nat → Prop} {w : World} {l : List ByteArray} {a : Option Addr} {n c : Nat} (h : NmL ok w l (.slice a n c)) (i : Nat) (hi : i < l.length) : ∃ g off, a = some ⟨g, off, none⟩ ∧ ok g ∧ w.cell? ⟨g, off + i, none⟩ = some (.string l[i]) := by
  obtain ⟨a', n', c', h1, h2, h3, h5, h4⟩ := h
  cases h1
  exact h4 i hi
theorem nm_eq {a b : ByteArray} : (a.toList == b.toList) = decide (a = b) := by
  rw [Bool.eq_iff_iff]; simp only [beq_iff_eq, decide_eq_true_eq]
  rw [Go.ByteArray.toList_eq, Go.ByteArray.toList_eq]
  exact ⟨fun h => ByteArray.ext (Array.toList_inj.1 h), fun h => by rw [h]⟩
theorem idx_take {s : ByteArray} : ∀ (l : List ByteArray) (k : Nat) (h : k < l.length), idx s (l.take (k + 1)).reverse = if l[k] = s then some 0 else (idx s (l.take k).reverse).map (· + 1) := by
  intro l k h
  rw [List.take_succ_eq_append_getElem h, List.reverse_append, List.reverse_cons, List.reverse_nil, List.nil_append, List.singleton_append, idx]
theorem last_take {s : ByteArray} {l : List ByteArray} {k : Nat} (h : k < l.length) : lastI s (l.take (k + 1)) = if l[k] = s then (k : Int) else lastI s (l.take k) := by
  unfold lastI
  rw [idx_take l k h]
  have e1 : (l.take (k + 1)).length = k + 1 := by rw [List.length_take]; omega
  have e2 : (l.take k).length = k := by rw [List.length_take]; omega
  by_cases hs : l[k] = s
  · rw [if_pos hs, if_pos hs, e1]; simp only; omega
  · rw [if_neg hs, if_neg hs, e1, e2]
    cases idx s (l.take k).reverse with
    | none => rfl
    | some i => simp only [Option.map_some]; omega
theorem last_nil (s : ByteArray) : lastI s [] = -1 := rfl
set_option maxRecDepth 100000 in
set_option maxHeartbeats 4000000 in
theorem rlast_any {ok : Nat → Prop} {w : World} {l : List ByteArray} {v : Value} (s : ByteArray) (h : NmL ok w l v) (hn : l.length ≤ 1000000) :
    Calls Tryz.prog 113 #[.string s, v] w fun e w' => e = .returned (.int .i64 (lastI s l)) ∧ w = w' := by
  obtain ⟨a, c, rfl⟩ := h.slice
  have HAT := Lib.hid (fun i hi => h.at i hi)
  have HN := Lib.hid hn
  clear h
  go_enter Tryz.func113, Tryz.ntmps113
  go_wp2_with fail
  go_loop [5] (fun i => ∃ k : Nat, k ≤ l.length ∧ i = .int .i64 ((k : Int) - 1) ∧ Hid (lastI s l = lastI s (l.take k))) (fun i => (intOf i + 1).toNat)
  case atStart => exact ⟨l.length, Nat.le_refl _, by simp, Lib.hid (by rw [List.take_length])⟩
  case round =>
    obtain ⟨k, hk, rfl, hq⟩ := hrel
    cases k with
    | zero =>
      have i0 : ((0 : Nat) : Int) - 1 = -1 := rfl
      have HZ : Hid (lastI s l = -1) := Lib.hid (by rw [hq.out]; rfl)
      rw [i0]
      go_wp2_with fail
      go_ret
      exact ⟨by rw [HZ.out]; rfl, rfl⟩
    | succ k =>
      have hkl : k < l.length := by omega
      obtain ⟨g, off, rfl, _, c0⟩ := HAT.out k hkl
      have i0 : ((k + 1 : Nat) : Int) - 1 = k := by omega
      have i1 : (k : Int) < (l.length : Int) := by omega
      have i2 : (k : Int) < 1000000 := by have := HN.out; omega
      have i3 : decide (0 ≤ (k : Int)) = true := by simp
      have HS := Lib.hid (last_take (s := s) hkl)
      rw [i0]
      clear i0 hk
      cases hs : (l[k].toList == s.toList)
      · have hne : Hid (l[k] ≠ s) := Lib.hid (by intro e; rw [e] at hs; simp at hs)
        go_wp2_with fail
        go_round
        case rel => exact ⟨k, by omega, rfl, Lib.hid (by rw [hq.out, HS.out, if_neg hne.out])⟩
        case measure => simp [intOf]
      · have hye : Hid (l[k] = s) := Lib.hid (by rw [nm_eq] at hs; exact of_decide_eq_true hs)
        go_wp2_with fail
        go_ret
        exact ⟨by rw [hq.out, HS.out, if_pos hye.out]; rfl, rfl⟩
theorem info_str : ∃ i, Tryz.prog.info? 9 = some i ∧ i.zero = some (.string ⟨#[]⟩) ∧ i.size = 1 ∧ i.bytes = 16 := by
  have : (Tryz.prog.info? 9).map (fun i => (i.zero, i.size, i.bytes)) = some (some (.string ⟨#[]⟩), 1, 16) := by kernel_rfl
  cases hh : Tryz.prog.info? 9 with
  | none => rw [hh] at this; cases this
  | some i => rw [hh] at this; simp only [Option.map_some, Option.some.injEq, Prod.mk.injEq] at this; exact ⟨i, rfl, this.1, this.2.1, this.2.2⟩
theorem strs_one : ∀ (l : List ByteArray), ∀ u ∈ l.map Value.string, u.oneCell' = true := by
  intro l u hu
  obtain ⟨x, _, rfl⟩ := List.mem_map.1 hu
  rfl
def Src (w : World) (x : Value) (m : Nat) (news : List Value) : Prop := (x = .slice none 0 0 ∧ m = 0 ∧ news = []) ∨ ∃ ad c, x = .slice (some ad) m c ∧ ∀ j u, news[j]? = some u → w.cell? (ad.add j) = some u
theorem wpList_app_src {P : Program} {w : World} {ops : Array Oper} {rest : List Oper} {o : Oper} {a : Act} {Q : Exit → Act → World → Prop} (hgd : o.guard = none) (s x : Operand) (t : TypeId)
    (ho : o.op = .call { callee := .builtin .append, args := #[s, x], argTypes := #[t, t] })
    (base : Nat) (e : TypeId) (i : TypeInfo) (z : Value) (size bytes : Nat) (ht : P.underlying t = some (.slice e)) (hi : P.info? e = some i) (hz : i.zero = some z)
    (hsize : i.size = size) (hby : i.bytes = bytes) (hzs : z.cells.size = size) (hsz : 0 < size)
    (v : Value) (n : Nat) (xs : List Value) (hs : a.eval s = v) (hown : w.ownsRow base e size v n xs)
    (u : Value) (m : Nat) (news : List Value) (hx : a.eval x = u) (hsrc : Src w u m news) (hl : news.length = m * size) (h1 : ∀ u ∈ news, u.oneCell' = true)
    (h63 : n + m ≤ maxLen) (hbytes : (n + m) * bytes ≤ 140737488355328) (hbase : base ≤ w.heap.size)
    (h : ∀ v' w', w'.ownsRow base e size v' (n + m) (xs ++ news) → w.grownBy w' v.ownBlock → (v'.ownBlock = v.ownBlock ∨ v'.ownBlock = some w.heap.size) → wpList P ops Q rest (a.put o.dst v') w') : wpList P ops Q (o :: rest) a w := by
  rcases hsrc with ⟨rfl, rfl, rfl⟩ | ⟨ad, c, rfl, hc⟩
  · exact wpList_append_own_none hgd s x t ho base e i size ht hi v n xs hs hown hx (h v w (by simpa using hown) (World.grownBy.refl w _) (.inl rfl))
  · exact wpList_append_own_at w hgd s x t ho base e i z size bytes ht hi hz hsize hby hzs hsz v n xs hs hown ad m c news hx hl hc h1 h63 hbytes hbase (fun v' w' h2 h3 _ h5 => h v' w' h2 h3 h5)
theorem run_app_src {P : Program} {w : World} (t ty : TypeId) (base : Nat) (e : TypeId) (i : TypeInfo) (z : Value) (size bytes : Nat) (ht : P.underlying t = some (.slice e)) (hi : P.info? e = some i) (hz : i.zero = some z)
    (hsize : i.size = size) (hby : i.bytes = bytes) (hzs : z.cells.size = size) (hsz : 0 < size)
    (v : Value) (n : Nat) (xs : List Value) (hown : w.ownsRow base e size v n xs) (u : Value) (m : Nat) (news : List Value) (hsrc : Src w u m news) (hl : news.length = m * size) (h1 : ∀ u ∈ news, u.oneCell' = true)
    (h63 : n + m ≤ maxLen) (hbytes : (n + m) * bytes ≤ 140737488355328) (hbase : base ≤ w.heap.size) :
    ∃ v' w', (Builtin.append_ #[t, t] ty #[v, u]).run P w = .ok v' w' ∧ w'.ownsRow base e size v' (n + m) (xs ++ news) ∧ w.grownBy w' v.ownBlock ∧ (v'.ownBlock = v.ownBlock ∨ v'.ownBlock = some w.heap.size) := by
  rcases hsrc with ⟨rfl, rfl, rfl⟩ | ⟨ad, c, rfl, hc⟩
  · exact ⟨v, w, run_append_owned_none (P := P) (w := w) base t ty e i size ht hi v n xs hown, by simpa using hown, World.grownBy.refl w _, .inl rfl⟩
  · obtain ⟨v', w', hr, h2, h3, _, h5⟩ := run_append_own_at (P := P) w base t ty e i z size bytes ht hi hz hsize hby hzs hsz v n xs hown ad m c news hl hc h1 h63 hbytes hbase
    exact ⟨v', w', hr, h2, h3, h5⟩
theorem step_app_src {P : Program} {w : World} {ops : Array Oper} {o : Oper} {a : Act} {K : Act → World → Prop} {Q : Exit → Act → World → Prop} {X : Prop} (hgd : o.guard = none) (s x : Operand) (t : TypeId)
    (ho : o.op = .call { callee := .builtin .append, args := #[s, x], argTypes := #[t, t] })
    (base : Nat) (e : TypeId) (i : TypeInfo) (z : Value) (size bytes : Nat) (ht : P.underlying t = some (.slice e)) (hi : P.info? e = some i) (hz : i.zero = some z)
    (hsize : i.size = size) (hby : i.bytes = bytes) (hzs : z.cells.size = size) (hsz : 0 < size)
    (v : Value) (n : Nat) (xs : List Value) (hs : a.eval s = v) (hown : w.ownsRow base e size v n xs)
    (u : Value) (m : Nat) (news : List Value) (hx : a.eval x = u) (hsrc : Src w u m news) (hl : news.length = m * size) (h1 : ∀ u ∈ news, u.oneCell' = true)
    (h63 : n + m ≤ maxLen) (hbytes : (n + m) * bytes ≤ 140737488355328) (hbase : base ≤ w.heap.size)
    (h : ∀ v' w', w'.ownsRow base e size v' (n + m) (xs ++ news) → w.grownBy w' v.ownBlock → (v'.ownBlock = v.ownBlock ∨ v'.ownBlock = some w.heap.size) → K (a.put o.dst v') w') :
    if Region.wanted o (yielded ops a.tmps) = true then Oper.wp P o a w K Q else X := by
  have hw : Region.wanted o (yielded ops a.tmps) = true := by simp [Region.wanted, hgd]
  rw [if_pos hw]
  obtain ⟨v', w', hr, h2, h3, h4⟩ := run_app_src (P := P) (w := w) t o.type base e i z size bytes ht hi hz hsize hby hzs hsz v n xs hown u m news hsrc hl h1 h63 hbytes hbase
  unfold Oper.wp execOp
  simp only [ho, resolve, invoke, builtin, Sem.run_bind, Sem.run_pure, Result.andThen_ok, List.map_toArray, List.map_cons, List.map_nil, hs, hx, hr]
  exact h v' w' h2 h3 h4
theorem NmL.src {ok : Nat → Prop} {w : World} {l : List ByteArray} {v : Value} (h : NmL ok w l v) : Src w v l.length (l.map Value.string) := by
  obtain ⟨a, n, c, rfl, rfl, h3, h5, h4⟩ := h
  cases a with
  | none =>
    have hc := h5 rfl
    subst hc
    have hl : l = [] := List.length_eq_zero_iff.1 (by omega)
    subst hl
    exact .inl ⟨rfl, rfl, rfl⟩
  | some ad =>
    refine .inr ⟨ad, c, rfl, fun j u hu => ?_⟩
    have hj : j < l.length := by
      have := (List.getElem?_eq_some_iff.1 hu).1
      simpa using this
    obtain ⟨g, off, e, _, hc⟩ := h4 j hj
    cases e
    rw [List.getElem?_map, List.getElem?_eq_getElem hj] at hu
    cases hu
    have e : (⟨g, off, none⟩ : Addr).add j = ⟨g, off + j, none⟩ := by unfold Addr.add; split <;> simp_all
    rw [e]; exact hc
theorem NmL.of_own {ok : Nat → Prop} {w : World} {base : Nat} {l : List ByteArray} {v : Value} (h : w.ownsRow base 9 1 v l.length (l.map Value.string)) (hok : ∀ g, v.ownBlock = some g → ok g) : NmL ok w l v := by
  rcases h.2 with ⟨rfl, hn⟩ | ⟨g, cap, cur, rfl, hbg, hg, hnc, hcm, hcs, htake⟩
  · have : l = [] := List.length_eq_zero_iff.1 hn
    subst this; exact .nil
  · refine ⟨some ⟨g, 0, none⟩, l.length, cap, rfl, rfl, by omega, (fun e => by cases e), fun i hi => ⟨g, 0, rfl, hok g rfl, ?_⟩⟩
    have hb : Blk w g 9 cur.toList := by show w.heap[g]? = _; rw [hg]
    have h1 : (cur.toList.take (l.length * 1))[i]? = (l.map Value.string)[i]? := by rw [htake]
    rw [List.getElem?_take, if_pos (by omega), List.getElem?_map, List.getElem?_eq_getElem hi] at h1
    rw [hb.cell, Nat.zero_add]; exact h1
theorem kept_grown1 {w w' : World} {row : Option Nat} (h : w.grownBy w' row) : Kept (fun k => row = some k) w w' := ⟨h.os, h.tape, h.output, h.size, fun k hk hn => h.block k hk (fun e => hn e.symm)⟩
theorem Kept.via1 {S S' : Nat → Prop} {w w1 w2 : World} (h : Kept S w w1) (k : Kept S' w1 w2) (hS : ∀ x, x < w.heap.size → S' x → S x) : Kept S w w2 :=
  ⟨k.os.trans h.os, k.tape.trans h.tape, k.output.trans h.output, Nat.le_trans h.size k.size, fun i hi hs => (k.block i (Nat.lt_of_lt_of_le hi h.size) (fun q => hs (hS i hi q))).trans (h.block i hi hs)⟩
structure NRow (w : World) (base : Nat) (W : World) (l : List ByteArray) (v : Value) : Prop where
  kp : Kept (fun _ => False) w W
  own : W.ownsRow base 9 1 v l.length (l.map Value.string)
theorem NRow.nml {w W : World} {base : Nat} {l : List ByteArray} {v : Value} (h : NRow w base W l v) : NmL (fun q => base ≤ q) W l v := .of_own h.own (fun g hg => (h.own.lt g hg).1)
theorem NRow.app {w W W8 : World} {base : Nat} {l r : List ByteArray} {v v' : Value} (h : NRow w base W l v) (hb : w.heap.size ≤ base) (own8 : W8.ownsRow base 9 1 v' (l.length + r.length) (l.map Value.string ++ r.map Value.string)) (hgrow : W.grownBy W8 v.ownBlock) : NRow w base W8 (l ++ r) v' := by
  refine ⟨h.kp.via1 (kept_grown1 hgrow) (fun x hx e => by have := (h.own.lt x e).1; omega), ?_⟩
  rw [List.length_append, List.map_append]; exact own8
set_option maxRecDepth 100000 in
set_option maxHeartbeats 4000000 in
theorem rwith_any {ok : Nat → Prop} {w : World} {l : List ByteArray} {v : Value} (s : ByteArray) (h : NmL ok w l v) (hn : l.length ≤ 1000000) :
    Calls Tryz.prog 114 #[v, .string s] w fun e w' => ∃ v', e = .returned v' ∧ NRow w w.heap.size w' (l ++ [s]) v' := by
  obtain ⟨i9, hi9, hz9, hs9, hb9⟩ := info_str
  have HI := Lib.hid hi9
  have HZ := Lib.hid hz9
  have HS := Lib.hid hs9
  have HB := Lib.hid hb9
  obtain ⟨a, c, rfl⟩ := h.slice
  have HSRC := Lib.hid (fun W (k : Kept (fun _ => False) w W) => (h.frame (Same.of_kept k (fun _ _ e => e))).src)
  have HN := Lib.hid hn
  clear h hi9 hz9 hs9 hb9 hn
  go_enter Tryz.func114, Tryz.ntmps114
  go_wp2_with (at_builtin; refine wpList_app_src rfl (.tmp 5) (.tmp 6) _ rfl w.heap.size 9 i9 _ 1 16 Tryz.underlying41 HI.out HZ.out HS.out HB.out rfl (by decide) (.slice (some ⟨w.heap.size, 0, none⟩) 0 0) 0 [] rfl (World.ownsRow_made w #[] 0 (Nat.le_refl _) (by decide) rfl) (.slice a l.length c) l.length (l.map Value.string) rfl (HSRC.out _ ((Kept.refl _ _).alloc _)) (by simp) (strs_one l) ?_ ?_ (by simp) ?_)
  · have := HN.out; unfold maxLen; omega
  · have := HN.out; omega
  intro v1 w1 own1 hg1 hat1
  have R1 : Hid (NRow w w.heap.size w1 l v1) := Lib.hid (by
    exact ⟨((Kept.refl (fun _ => False) w).alloc (.cells #[] 9)).via1 (kept_grown1 hg1) (fun x hx e => by have e2 : some w.heap.size = some x := e; have := Option.some.inj e2; omega), by simpa using own1⟩)
  clear own1 hg1 hat1
  go_wp2_with (at_builtin; refine wpList_app_src rfl (.tmp 7) (.tmp 9) _ rfl w.heap.size 9 i9 _ 1 16 Tryz.underlying41 HI.out HZ.out HS.out HB.out rfl (by decide) v1 l.length (l.map Value.string) rfl (R1.out.own.alloc _) (.slice (some ⟨w1.heap.size, 0, none⟩) 1 1) 1 [.string s] rfl (.inr ⟨_, _, rfl, cell_one_new _ _ _⟩) rfl (strs_one [s]) ?_ ?_ ?_ ?_)
  · have := HN.out; unfold maxLen; omega
  · have := HN.out; omega
  · have := R1.out.kp.size; simp; omega
  intro v2 w2 own2 hg2 hat2
  go_wp2_with fail
  go_ret
  refine ⟨_, rfl, NRow.app (W := w1.alloc (.cells #[.string s] 9)) (r := [s]) ⟨R1.out.kp.alloc _, R1.out.own.alloc _⟩ (Nat.le_refl _) own2 hg2⟩
theorem TmL.src {ok : Nat → Prop} {w : World} {l : List Tm} {v : Value} (h : TmL ok w l v) : ∃ E : List E3, E.map (·.1) = l ∧ EL ok w E ∧ Src w v l.length (flat E) := by
  obtain ⟨a, n, c, rfl⟩ := h.slice
  have hn := h.len
  cases a with
  | none =>
    have : l = [] ∧ n = 0 ∧ c = 0 := by
      generalize hv : Value.slice none n c = v at h
      cases h with
      | nil he =>
        rcases he with he | ⟨_, _, he⟩ <;> rw [he] at hv <;> cases hv
        exact ⟨rfl, rfl, rfl⟩
      | mk => cases hv
    obtain ⟨rfl, rfl, rfl⟩ := this
    exact ⟨[], rfl, (fun e he => by cases he), .inl ⟨rfl, rfl, rfl⟩⟩
  | some ad =>
    obtain ⟨E, h1, h2, h3, h4⟩ := h.row
    exact ⟨E, h1, h2, .inr ⟨ad, c, by rw [hn], h4⟩⟩
theorem flat_size (E : List E3) : (flat E).length = E.length * 7 := flat_len E
theorem RowT.app2 {w wr W8 : World} {base : Nat} {E F : List E3} {v v' : Value} (hb : w.heap.size ≤ base) (h : RowT w base wr E v) (hF : EL (okb base v) wr F)
    (own8 : W8.ownsRow base 28 7 v' (E.length + F.length) (flat E ++ flat F)) (hgrow : wr.grownBy W8 v.ownBlock) (hat : v'.ownBlock = v.ownBlock ∨ v'.ownBlock = some wr.heap.size) :
    RowT w base W8 (E ++ F) v' := by
  have kG := kept_grown hgrow
  have zk := h.kp.size
  have hvb : ∀ x, v.ownBlock = some x → base ≤ x ∧ x < wr.heap.size := fun x e => h.own.lt x e
  refine ⟨h.kp.via kG (fun x hx e => by have := (hvb x e).1; omega), by rw [flat_app, List.length_append]; exact own8, ?_⟩
  have e2 := (h.el.app hF).mono (ok' := fun q => okb base v q ∧ okb base v' q) (fun q hq hh => ⟨hh, hh.1, fun e => by
    rcases hat with hat | hat
    · exact hh.2 (by rw [← hat, e])
    · rw [hat] at e
      have := Option.some.inj e
      omega⟩)
  exact (e2.frame (Same.of_kept kG (fun q hq e => hq.1.2 e))).mono (fun q _ hq => hq.2)
theorem RowT.src {w wr : World} {base : Nat} {E : List E3} {v : Value} (h : RowT w base wr E v) : Src wr v E.length (flat E) := by
  have h0 := h.own
  rcases h.own.2 with ⟨rfl, hn⟩ | ⟨g, cap, cur, rfl, hr⟩
  · have : E = [] := List.length_eq_zero_iff.1 hn
    subst this
    exact .inl ⟨rfl, rfl, rfl⟩
  · exact .inr ⟨_, _, rfl, own_cells h0⟩
theorem RowT.one' {w wr : World} {base : Nat} {E : List E3} {v : Value} (h : RowT w base wr E v) : ∀ x ∈ flat E, x.oneCell' = true := h.el.one
def EqyC (f : FuncId) (t : Ty) : Prop := ∀ (t' : Ty) (w : World) (ok ok' : Nat → Prop) (tk tk' : Value), TyL ok w t.kids tk → TyL ok' w t'.kids tk' →
  Calls Tryz.prog f #[tyVal t tk, tyVal t' tk'] w fun e w' => e = .returned (.bool (tyEq t t')) ∧ Kept (fun _ => False) w w'
theorem tyEq_def (t t' : Ty) : tyEq t t' = (decide (t.kind = t'.kind) && decide (t.name = t'.name) && tysEq t.kids t'.kids) := by
  cases t; cases t'; rfl
theorem tysEq_len : ∀ (l l' : List Ty), l.length ≠ l'.length → tysEq l l' = false
  | [], [], h => absurd rfl h
  | [], _ :: _, _ => rfl
  | _ :: _, [], _ => rfl
  | a :: l, b :: l', h => by rw [tysEq, tysEq_len l l' (by simpa using h), Bool.and_false]
theorem tysEq_drop {l l' : List Ty} {k : Nat} (h : k < l.length) (h' : k < l'.length) : tysEq (l.drop k) (l'.drop k) = (tyEq l[k] l'[k] && tysEq (l.drop (k + 1)) (l'.drop (k + 1))) := by
  rw [List.drop_eq_getElem_cons h, List.drop_eq_getElem_cons h', tysEq]
theorem tysEq_end {l l' : List Ty} {k : Nat} (h : l.length ≤ k) (h' : l'.length ≤ k) : tysEq (l.drop k) (l'.drop k) = true := by
  rw [List.drop_eq_nil_of_le h, List.drop_eq_nil_of_le h']; rfl
set_option maxRecDepth 100000 in
set_option maxHeartbeats 8000000 in
theorem rsame_one {kd : Int} {nm : ByteArray} {l : List Ty} (IH : ∀ u, u ∈ l → EqyC 51 u) (hn : l.length ≤ 1000000) : EqyC 51 (.mk kd nm l) := by
  rintro ⟨kd', nm', l'⟩ w ok ok' tk tk' h h'
  have h : TyL ok w l tk := h
  have h' : TyL ok' w l' tk' := h'
  obtain ⟨a, n, c, rfl⟩ := h.slice
  obtain ⟨a', n', c', rfl⟩ := h'.slice
  obtain rfl : n = l.length := h.len
  obtain rfl : n' = l'.length := h'.len
  have HIH := Lib.hid IH
  have HAT := Lib.hid (fun W (k : Kept (fun _ => False) w W) => (h.frame (Same.of_kept k (fun _ _ e => e))).at)
  have HAT' := Lib.hid (fun W (k : Kept (fun _ => False) w W) => (h'.frame (Same.of_kept k (fun _ _ e => e))).at)
  clear h h' IH
  change Calls Tryz.prog 51 #[.agg #[.int .i64 kd, .string nm, .slice a l.length c], .agg #[.int .i64 kd', .string nm', .slice a' l'.length c']] w _
  have bA : Blk ((w.alloc (.cells #[.int .i64 kd, .string nm, .slice a l.length c] 26)).alloc (.cells #[.int .i64 kd', .string nm', .slice a' l'.length c'] 26)) w.heap.size 26 [.int .i64 kd, .string nm, .slice a l.length c] := (Blk.new w 26 _).alloc _
  have bB : Blk ((w.alloc (.cells #[.int .i64 kd, .string nm, .slice a l.length c] 26)).alloc (.cells #[.int .i64 kd', .string nm', .slice a' l'.length c'] 26)) (w.heap.size + 1) 26 [.int .i64 kd', .string nm', .slice a' l'.length c'] := Blk.new' 26 _ (by simp)
  have K1 : Kept (fun _ => False) w ((w.alloc (.cells #[.int .i64 kd, .string nm, .slice a l.length c] 26)).alloc (.cells #[.int .i64 kd', .string nm', .slice a' l'.length c'] 26)) := ((Kept.refl _ _).alloc _).alloc _
  have HD := Lib.hid (show tyEq (.mk kd nm l) (.mk kd' nm' l') = (decide (kd = kd') && decide (nm = nm') && tysEq l l') from rfl)
  by_cases e1 : kd = kd'
  case neg =>
    have t1 : (kd == kd') = false := by simpa using e1
    have t2 : (kd != kd') = true := by simpa using e1
    have HR : Hid (tyEq (.mk kd nm l) (.mk kd' nm' l') = false) := Lib.hid (by rw [HD.out]; simp [e1])
    clear e1
    go_enter Tryz.func51, Tryz.ntmps51
    go_wp2_with fail
    go_ret
    exact ⟨by rw [HR.out]; rfl, K1⟩
  subst e1
  cases e2 : (nm.toList == nm'.toList)
  case false =>
    have t2 : (nm.toList != nm'.toList) = true := by rw [bne, e2]; rfl
    have HR : Hid (tyEq (.mk kd nm l) (.mk kd nm' l') = false) := Lib.hid (by rw [HD.out, ← nm_eq, e2]; simp)
    go_enter Tryz.func51, Tryz.ntmps51
    go_wp2_with fail
    go_ret
    exact ⟨by rw [HR.out]; rfl, K1⟩
  have t2 : (nm.toList != nm'.toList) = false := by rw [bne, e2]; rfl
  have HD2 : Hid (tyEq (.mk kd nm l) (.mk kd nm' l') = tysEq l l') := Lib.hid (by rw [HD.out, ← nm_eq, e2]; simp)
  clear HD
  by_cases e3 : l.length = l'.length
  case neg =>
    have t3 : ((l.length : Int) != (l'.length : Int)) = true := by simp; omega
    have t4 : ((l.length : Int) == (l'.length : Int)) = false := by simp; omega
    have HR : Hid (tyEq (.mk kd nm l) (.mk kd nm' l') = false) := Lib.hid (by rw [HD2.out, tysEq_len _ _ e3])
    clear e3
    go_enter Tryz.func51, Tryz.ntmps51
    go_wp2_with fail
    go_ret
    exact ⟨by rw [HR.out]; rfl, K1⟩
  have E3 := Lib.hid e3
  rw [← e3] at bA bB K1 ⊢
  clear e3
  go_enter Tryz.func51, Tryz.ntmps51
  go_wp2_with fail
  generalize ((w.alloc (.cells #[.int .i64 kd, .string nm, .slice a l.length c] 26)).alloc (.cells #[.int .i64 kd, .string nm', .slice a' l.length c'] 26)) = w1 at *
  go_loopw [5] (fun i wr => ∃ j : Nat, j ≤ l.length ∧ i = .int .i64 j ∧ Kept (fun _ => False) w1 wr ∧ Hid (tysEq l l' = tysEq (l.drop j) (l'.drop j))) (fun i _ => l.length - (intOf i).toNat)
  case atStart => exact ⟨0, Nat.zero_le _, rfl, Kept.refl _ _, Lib.hid rfl⟩
  case round =>
    obtain ⟨j, hj, rfl, kr, hq⟩ := hrel
    have g2 : wr.cell? ⟨w.heap.size, 2, none⟩ = some (.slice a l.length c) := (bA.kept kr (fun h => h)).cell 2
    have g2' : wr.cell? ⟨w.heap.size + 1, 2, none⟩ = some (.slice a' l.length c') := (bB.kept kr (fun h => h)).cell 2
    by_cases hlt : j < l.length
    · have KR := K1.trans kr
      have hlt' : j < l'.length := by rw [← E3.out]; exact hlt
      obtain ⟨g, off, ta, tn, tc, rfl, _, lg, ⟨c0, c1, c2⟩, hty⟩ := HAT.out wr KR j hlt
      obtain ⟨g', off', ta', tn', tc', rfl, _, lg', ⟨d0, d1, d2⟩, hty'⟩ := HAT'.out wr KR j hlt'
      have hcon := Lib.hid (fun (W : World) (kW : Kept (fun _ => False) wr W) => HIH.out _ (List.getElem_mem hlt) l'[j] W ok ok' _ _ (hty.frame (Same.of_kept kW (fun k h e => e))) (hty'.frame (Same.of_kept kW (fun k h e => e))))
      unfold tyVal at hcon
      have HS := Lib.hid (tysEq_drop hlt hlt')
      clear hty hty'
      have hj2 : (j : Int) < (l.length : Int) := by omega
      have hj3 : (j : Int) < 1000000 := by omega
      go_wp2_with fail
      go_still_tail 10, (by kernel_rfl)
      change wpList _ _ _ _ _ wr.drew
      have kd : Kept (fun _ => False) wr wr.drew := (Kept.refl _ _).drew
      generalize wr.drew = w2 at *
      cases hr : tyEq l[j] l'[j]
      · rw [hr] at hcon
        go_wp2_with (go_at_call 51; refine (hcon.out _ kd).mono ?_; rintro e w' ⟨rfl, k2⟩)
        go_ret
        exact ⟨by rw [HD2.out, hq.out, HS.out, hr]; rfl, K1.trans (kr.trans (kd.trans k2))⟩
      · rw [hr] at hcon
        go_wp2_with (go_at_call 51; refine (hcon.out _ kd).mono ?_; rintro e w' ⟨rfl, k2⟩)
        go_roundw
        case rel => exact ⟨j + 1, by omega, by go_num, kr.trans (kd.trans k2), Lib.hid (by rw [hq.out, HS.out, hr]; rfl)⟩
        case measure => simp [intOf]; omega
    · have HZ : Hid (tysEq l l' = true) := Lib.hid (by rw [hq.out, tysEq_end (by omega) (by rw [← E3.out]; omega)])
      go_wp2_with fail
      go_ret
      exact ⟨by rw [HD2.out, HZ.out]; rfl, K1.trans kr⟩
theorem rsameTy_any {t : Ty} (hb : BdTy t) : EqyC 51 t := by
  induction hb with
  | mk hn hl ih => exact rsame_one ih hn
set_option maxRecDepth 100000 in
set_option maxHeartbeats 8000000 in
theorem eqf_any {l l' : List Ty} {w : World} {ok ok' : Nat → Prop} {tk tk' : Value} (IH : ∀ u, u ∈ l → EqyC 110 u) (hn : l.length ≤ 1000000) (h : TyL ok w l tk) (h' : TyL ok' w l' tk') :
    Calls Tryz.prog 176 #[tk, tk', .func (.func 110) #[] #[]] w fun e w' => e = .returned (.bool (tysEq l l')) ∧ Kept (fun _ => False) w w' := by
  obtain ⟨a, n, c, rfl⟩ := h.slice
  obtain ⟨a', n', c', rfl⟩ := h'.slice
  obtain rfl : n = l.length := h.len
  obtain rfl : n' = l'.length := h'.len
  have HIH := Lib.hid IH
  have HAT := Lib.hid (fun W (k : Kept (fun _ => False) w W) => (h.frame (Same.of_kept k (fun _ _ e => e))).at)
  have HAT' := Lib.hid (fun W (k : Kept (fun _ => False) w W) => (h'.frame (Same.of_kept k (fun _ _ e => e))).at)
  clear h h' IH
  by_cases e3 : l.length = l'.length
  case neg =>
    have t3 : ((l.length : Int) != (l'.length : Int)) = true := by simp; omega
    have t4 : ((l.length : Int) == (l'.length : Int)) = false := by simp; omega
    have HR : Hid (tysEq l l' = false) := Lib.hid (by rw [tysEq_len _ _ e3])
    clear e3
    go_enter Tryz.func176, Tryz.ntmps176
    go_wp2_with fail
    go_ret
    exact ⟨by rw [HR.out]; rfl, Kept.refl _ _⟩
  have E3 := Lib.hid e3
  rw [← e3]
  clear e3
  go_enter Tryz.func176, Tryz.ntmps176
  go_wp2_with fail
  go_loopw [17] (fun i wr => ∃ j : Nat, j ≤ l.length ∧ i = .int .i64 j ∧ Kept (fun _ => False) w wr ∧ Hid (tysEq l l' = tysEq (l.drop j) (l'.drop j))) (fun i _ => l.length - (intOf i).toNat)
  case atStart => exact ⟨0, Nat.zero_le _, rfl, Kept.refl _ _, Lib.hid rfl⟩
  case round =>
    obtain ⟨j, hj, rfl, kr, hq⟩ := hrel
    by_cases hlt : j < l.length
    · have hlt' : j < l'.length := by rw [← E3.out]; exact hlt
      obtain ⟨g, off, ta, tn, tc, rfl, _, lg, ⟨c0, c1, c2⟩, hty⟩ := HAT.out wr kr j hlt
      obtain ⟨g', off', ta', tn', tc', rfl, _, lg', ⟨d0, d1, d2⟩, hty'⟩ := HAT'.out wr kr j hlt'
      have hcon := Lib.hid (fun (W : World) (kW : Kept (fun _ => False) wr W) => HIH.out _ (List.getElem_mem hlt) l'[j] W ok ok' _ _ (hty.frame (Same.of_kept kW (fun k h e => e))) (hty'.frame (Same.of_kept kW (fun k h e => e))))
      unfold tyVal at hcon
      have HS := Lib.hid (tysEq_drop hlt hlt')
      clear hty hty'
      have hj2 : (j : Int) < (l.length : Int) := by omega
      have hj3 : (j : Int) < 1000000 := by omega
      have kA : Kept (fun _ => False) wr ((wr.alloc (.cells #[.int .i64 l[j].kind, .string l[j].name, .slice ta tn tc] 26)).alloc (.cells #[.int .i64 l'[j].kind, .string l'[j].name, .slice ta' tn' tc'] 26)) := ((Kept.refl _ _).alloc _).alloc _
      cases hr : tyEq l[j] l'[j]
      · rw [hr] at hcon
        go_wp2_with (go_at_call 110; refine (hcon.out _ kA).mono ?_; rintro e w' ⟨rfl, k2⟩)
        go_ret
        exact ⟨by rw [hq.out, HS.out, hr]; rfl, kr.trans (kA.trans k2)⟩
      · rw [hr] at hcon
        go_wp2_with (go_at_call 110; refine (hcon.out _ kA).mono ?_; rintro e w' ⟨rfl, k2⟩)
        go_roundw
        case rel => exact ⟨j + 1, by omega, by go_num, kr.trans (kA.trans k2), Lib.hid (by rw [hq.out, HS.out, hr]; rfl)⟩
        case measure => simp [intOf]; omega
    · have HZ : Hid (tysEq l l' = true) := Lib.hid (by rw [hq.out, tysEq_end (by omega) (by rw [← E3.out]; omega)])
      go_wp2_with fail
      go_ret
      exact ⟨by rw [HZ.out]; rfl, kr⟩
set_option maxRecDepth 100000 in
set_option maxHeartbeats 8000000 in
theorem same_one1 {kd : Int} {nm : ByteArray} {l : List Ty} (IH : ∀ u, u ∈ l → EqyC 110 u) (hn : l.length ≤ 1000000) : EqyC 110 (.mk kd nm l) := by
  rintro ⟨kd', nm', l'⟩ w ok ok' tk tk' h h'
  have h : TyL ok w l tk := h
  have h' : TyL ok' w l' tk' := h'
  obtain ⟨a, n, c, rfl⟩ := h.slice
  obtain ⟨a', n', c', rfl⟩ := h'.slice
  have bA : Blk ((w.alloc (.cells #[.int .i64 kd, .string nm, .slice a n c] 26)).alloc (.cells #[.int .i64 kd', .string nm', .slice a' n' c'] 26)) w.heap.size 26 [.int .i64 kd, .string nm, .slice a n c] := (Blk.new w 26 _).alloc _
  have bB : Blk ((w.alloc (.cells #[.int .i64 kd, .string nm, .slice a n c] 26)).alloc (.cells #[.int .i64 kd', .string nm', .slice a' n' c'] 26)) (w.heap.size + 1) 26 [.int .i64 kd', .string nm', .slice a' n' c'] := Blk.new' 26 _ (by simp)
  have K1 : Kept (fun _ => False) w ((w.alloc (.cells #[.int .i64 kd, .string nm, .slice a n c] 26)).alloc (.cells #[.int .i64 kd', .string nm', .slice a' n' c'] 26)) := ((Kept.refl _ _).alloc _).alloc _
  have HQ := Lib.hid (eqf_any IH hn (h.frame (Same.of_kept K1 (fun _ _ e => e))) (h'.frame (Same.of_kept K1 (fun _ _ e => e))))
  clear h h' IH
  change Calls Tryz.prog 110 #[.agg #[.int .i64 kd, .string nm, .slice a n c], .agg #[.int .i64 kd', .string nm', .slice a' n' c']] w _
  have HD := Lib.hid (show tyEq (.mk kd nm l) (.mk kd' nm' l') = (decide (kd = kd') && decide (nm = nm') && tysEq l l') from rfl)
  by_cases e1 : kd = kd'
  case neg =>
    have t1 : (kd == kd') = false := by simpa using e1
    have t2 : (kd != kd') = true := by simpa using e1
    have HR : Hid (tyEq (.mk kd nm l) (.mk kd' nm' l') = false) := Lib.hid (by rw [HD.out]; simp [e1])
    clear e1 HQ
    go_enter Tryz.func110, Tryz.ntmps110
    go_wp2_with fail
    go_ret
    exact ⟨by rw [HR.out]; rfl, K1⟩
  subst e1
  cases e2 : (nm.toList == nm'.toList)
  case false =>
    have t2 : (nm.toList != nm'.toList) = true := by rw [bne, e2]; rfl
    have HR : Hid (tyEq (.mk kd nm l) (.mk kd nm' l') = false) := Lib.hid (by rw [HD.out, ← nm_eq, e2]; simp)
    clear HQ
    go_enter Tryz.func110, Tryz.ntmps110
    go_wp2_with fail
    go_ret
    exact ⟨by rw [HR.out]; rfl, K1⟩
  have t2 : (nm.toList != nm'.toList) = false := by rw [bne, e2]; rfl
  have HD2 : Hid (tyEq (.mk kd nm l) (.mk kd nm' l') = tysEq l l') := Lib.hid (by rw [HD.out, ← nm_eq, e2]; simp)
  clear HD
  go_enter Tryz.func110, Tryz.ntmps110
  go_wp2_with (go_at_call 176; refine HQ.out.mono ?_; rintro e w' ⟨rfl, k2⟩)
  go_ret
  exact ⟨by rw [HD2.out]; rfl, K1.trans k2⟩
theorem sameType_any {t : Ty} (hb : BdTy t) : EqyC 110 t := by
  induction hb with
  | mk hn hl ih => exact same_one1 ih hn
def EqmC (t : Tm) : Prop := ∀ (t' : Tm) (w : World) (ok ok' : Nat → Prop) (tk kk tk' kk' : Value), TyL ok w t.ty.kids tk → TmL ok w t.kids kk → TyL ok' w t'.ty.kids tk' → TmL ok' w t'.kids kk' →
  Calls Tryz.prog 20 #[tmVal t tk kk, tmVal t' tk' kk'] w fun e w' => e = .returned (.bool (tmEq t t')) ∧ Kept (fun _ => False) w w'
theorem tmsEq_len : ∀ (l l' : List Tm), l.length ≠ l'.length → tmsEq l l' = false
  | [], [], h => absurd rfl h
  | [], _ :: _, _ => rfl
  | _ :: _, [], _ => rfl
  | a :: l, b :: l', h => by rw [tmsEq, tmsEq_len l l' (by simpa using h), Bool.and_false]
theorem tmsEq_drop {l l' : List Tm} {k : Nat} (h : k < l.length) (h' : k < l'.length) : tmsEq (l.drop k) (l'.drop k) = (tmEq l[k] l'[k] && tmsEq (l.drop (k + 1)) (l'.drop (k + 1))) := by
  rw [List.drop_eq_getElem_cons h, List.drop_eq_getElem_cons h', tmsEq]
theorem tmsEq_end {l l' : List Tm} {k : Nat} (h : l.length ≤ k) (h' : l'.length ≤ k) : tmsEq (l.drop k) (l'.drop k) = true := by
  rw [List.drop_eq_nil_of_le h, List.drop_eq_nil_of_le h']; rfl
set_option maxRecDepth 100000 in
set_option maxHeartbeats 8000000 in
theorem rsames_any {l l' : List Tm} {w : World} {ok ok' : Nat → Prop} {v v' : Value} (IH : ∀ u, u ∈ l → EqmC u) (hn : l.length ≤ 1000000) (h : TmL ok w l v) (h' : TmL ok' w l' v') :
    Calls Tryz.prog 22 #[v, v'] w fun e w' => e = .returned (.bool (tmsEq l l')) ∧ Kept (fun _ => False) w w' := by
  obtain ⟨a, n, c, rfl⟩ := h.slice
  obtain ⟨a', n', c', rfl⟩ := h'.slice
  obtain rfl : n = l.length := h.len
  obtain rfl : n' = l'.length := h'.len
  have HIH := Lib.hid IH
  have HAT := Lib.hid (fun W (k : Kept (fun _ => False) w W) => (h.frame (Same.of_kept k (fun _ _ e => e))).at)
  have HAT' := Lib.hid (fun W (k : Kept (fun _ => False) w W) => (h'.frame (Same.of_kept k (fun _ _ e => e))).at)
  clear h h' IH
  by_cases e3 : l.length = l'.length
  case neg =>
    have t3 : ((l.length : Int) != (l'.length : Int)) = true := by simp; omega
    have t4 : ((l.length : Int) == (l'.length : Int)) = false := by simp; omega
    have HR : Hid (tmsEq l l' = false) := Lib.hid (by rw [tmsEq_len _ _ e3])
    clear e3
    go_enter Tryz.func22, Tryz.ntmps22
    go_wp2_with fail
    go_ret
    exact ⟨by rw [HR.out]; rfl, Kept.refl _ _⟩
  have E3 := Lib.hid e3
  rw [← e3]
  clear e3
  go_enter Tryz.func22, Tryz.ntmps22
  go_wp2_with fail
  go_loopw [5] (fun i wr => ∃ j : Nat, j ≤ l.length ∧ i = .int .i64 j ∧ Kept (fun _ => False) w wr ∧ Hid (tmsEq l l' = tmsEq (l.drop j) (l'.drop j))) (fun i _ => l.length - (intOf i).toNat)
  case atStart => exact ⟨0, Nat.zero_le _, rfl, Kept.refl _ _, Lib.hid rfl⟩
  case round =>
    obtain ⟨j, hj, rfl, kr, hq⟩ := hrel
    by_cases hlt : j < l.length
    · have hlt' : j < l'.length := by rw [← E3.out]; exact hlt
      obtain ⟨g, off, ta, tn, tc, ma, mn, mc, rfl, _, lg, ⟨c0, c1, c2, c3, c4, c5, c6⟩, hty, htm⟩ := HAT.out wr kr j hlt
      obtain ⟨g', off', ta', tn', tc', ma', mn', mc', rfl, _, lg', ⟨d0, d1, d2, d3, d4, d5, d6⟩, hty', htm'⟩ := HAT'.out wr kr j hlt'
      have hcon := Lib.hid (fun (W : World) (kW : Kept (fun _ => False) wr W) => HIH.out _ (List.getElem_mem hlt) l'[j] W ok ok' _ _ _ _ (hty.frame (Same.of_kept kW (fun k h e => e))) (htm.frame (Same.of_kept kW (fun k h e => e))) (hty'.frame (Same.of_kept kW (fun k h e => e))) (htm'.frame (Same.of_kept kW (fun k h e => e))))
      unfold tmVal at hcon
      have HS := Lib.hid (tmsEq_drop hlt hlt')
      clear hty hty' htm htm'
      have hj2 : (j : Int) < (l.length : Int) := by omega
      have hj3 : (j : Int) < 1000000 := by omega
      go_wp2_with fail
      go_still_tail 8, (by kernel_rfl)
      change wpList _ _ _ _ _ wr.drew
      have kd : Kept (fun _ => False) wr wr.drew := (Kept.refl _ _).drew
      generalize wr.drew = w2 at *
      cases hr : tmEq l[j] l'[j]
      · rw [hr] at hcon
        go_wp2_with (go_at_call 20; refine (hcon.out _ kd).mono ?_; rintro e w' ⟨rfl, k2⟩)
        go_ret
        exact ⟨by rw [hq.out, HS.out, hr]; rfl, kr.trans (kd.trans k2)⟩
      · rw [hr] at hcon
        go_wp2_with (go_at_call 20; refine (hcon.out _ kd).mono ?_; rintro e w' ⟨rfl, k2⟩)
        go_roundw
        case rel => exact ⟨j + 1, by omega, by go_num, kr.trans (kd.trans k2), Lib.hid (by rw [hq.out, HS.out, hr]; rfl)⟩
        case measure => simp [intOf]; omega
    · have HZ : Hid (tmsEq l l' = true) := Lib.hid (by rw [hq.out, tmsEq_end (by omega) (by rw [← E3.out]; omega)])
      go_wp2_with fail
      go_ret
      exact ⟨by rw [HZ.out]; rfl, kr⟩
set_option maxRecDepth 100000 in
set_option maxHeartbeats 8000000 in
theorem rsameTm_one {op : Int} {nm : ByteArray} {N : Int} {ty : Ty} {l : List Tm} (hty : BdTy ty) (IH : ∀ u, u ∈ l → EqmC u) (hn : l.length ≤ 1000000) : EqmC (.mk op nm N ty l) := by
  rintro ⟨op', nm', N', ty', l'⟩ w ok ok' tk kk tk' kk' h1 h2 h3 h4
  have h1 : TyL ok w ty.kids tk := h1
  have h2 : TmL ok w l kk := h2
  have h3 : TyL ok' w ty'.kids tk' := h3
  have h4 : TmL ok' w l' kk' := h4
  obtain ⟨a, n, c, rfl⟩ := h1.slice
  obtain ⟨ma, mn, mc, rfl⟩ := h2.slice
  obtain ⟨a', n', c', rfl⟩ := h3.slice
  obtain ⟨ma', mn', mc', rfl⟩ := h4.slice
  change Calls Tryz.prog 20 #[.agg #[.int .i64 op, .string nm, .int .i64 N, .int .i64 ty.kind, .string ty.name, .slice a n c, .slice ma mn mc], .agg #[.int .i64 op', .string nm', .int .i64 N', .int .i64 ty'.kind, .string ty'.name, .slice a' n' c', .slice ma' mn' mc']] w _
  have bA : Blk ((w.alloc (.cells #[.int .i64 op, .string nm, .int .i64 N, .int .i64 ty.kind, .string ty.name, .slice a n c, .slice ma mn mc] 28)).alloc (.cells #[.int .i64 op', .string nm', .int .i64 N', .int .i64 ty'.kind, .string ty'.name, .slice a' n' c', .slice ma' mn' mc'] 28)) w.heap.size 28 [.int .i64 op, .string nm, .int .i64 N, .int .i64 ty.kind, .string ty.name, .slice a n c, .slice ma mn mc] := (Blk.new w 28 _).alloc _
  have bB : Blk ((w.alloc (.cells #[.int .i64 op, .string nm, .int .i64 N, .int .i64 ty.kind, .string ty.name, .slice a n c, .slice ma mn mc] 28)).alloc (.cells #[.int .i64 op', .string nm', .int .i64 N', .int .i64 ty'.kind, .string ty'.name, .slice a' n' c', .slice ma' mn' mc'] 28)) (w.heap.size + 1) 28 [.int .i64 op', .string nm', .int .i64 N', .int .i64 ty'.kind, .string ty'.name, .slice a' n' c', .slice ma' mn' mc'] := Blk.new' 28 _ (by simp)
  have K1 : Kept (fun _ => False) w ((w.alloc (.cells #[.int .i64 op, .string nm, .int .i64 N, .int .i64 ty.kind, .string ty.name, .slice a n c, .slice ma mn mc] 28)).alloc (.cells #[.int .i64 op', .string nm', .int .i64 N', .int .i64 ty'.kind, .string ty'.name, .slice a' n' c', .slice ma' mn' mc'] 28)) := ((Kept.refl _ _).alloc _).alloc _
  have HT := Lib.hid (fun W (kW : Kept (fun _ => False) w W) => rsameTy_any hty ty' W ok ok' _ _ (h1.frame (Same.of_kept kW (fun k h e => e))) (h3.frame (Same.of_kept kW (fun k h e => e))))
  have HS := Lib.hid (fun W (kW : Kept (fun _ => False) w W) => rsames_any IH hn (h2.frame (Same.of_kept kW (fun k h e => e))) (h4.frame (Same.of_kept kW (fun k h e => e))))
  unfold tyVal at HT
  have HD := Lib.hid (show tmEq (.mk op nm N ty l) (.mk op' nm' N' ty' l') = (decide (op = op') && decide (nm = nm') && decide (N = N') && tyEq ty ty' && tmsEq l l') from rfl)
  clear h1 h2 h3 h4 IH
  generalize tmEq (.mk op nm N ty l) (.mk op' nm' N' ty' l') = rr at *
  by_cases e1 : op = op'
  case neg =>
    have t1 : (op == op') = false := by simpa using e1
    have HR : Hid (rr = false) := Lib.hid (by rw [HD.out]; simp [e1])
    clear e1
    go_enter Tryz.func20, Tryz.ntmps20
    go_wp2_with fail
    go_ret
    exact ⟨by rw [HR.out]; rfl, K1⟩
  subst e1
  cases e2 : (nm.toList == nm'.toList)
  case false =>
    have HR : Hid (rr = false) := Lib.hid (by rw [HD.out, ← nm_eq, e2]; simp)
    go_enter Tryz.func20, Tryz.ntmps20
    go_wp2_with fail
    go_ret
    exact ⟨by rw [HR.out]; rfl, K1⟩
  by_cases e3 : N = N'
  case neg =>
    have t1 : (N == N') = false := by simpa using e3
    have HR : Hid (rr = false) := Lib.hid (by rw [HD.out]; simp [e3])
    clear e3
    go_enter Tryz.func20, Tryz.ntmps20
    go_wp2_with fail
    go_ret
    exact ⟨by rw [HR.out]; rfl, K1⟩
  subst e3
  have HD2 : Hid (rr = (tyEq ty ty' && tmsEq l l')) := Lib.hid (by rw [HD.out, ← nm_eq, e2]; simp)
  clear HD
  go_enter Tryz.func20, Tryz.ntmps20
  go_wp2_with fail
  generalize ((w.alloc (.cells #[.int .i64 op, .string nm, .int .i64 N, .int .i64 ty.kind, .string ty.name, .slice a n c, .slice ma mn mc] 28)).alloc (.cells #[.int .i64 op, .string nm', .int .i64 N, .int .i64 ty'.kind, .string ty'.name, .slice a' n' c', .slice ma' mn' mc'] 28)) = w1 at *
  cases ht : tyEq ty ty'
  · have HR : Hid (rr = false) := Lib.hid (by rw [HD2.out, ht]; rfl)
    refine (HT.out _ K1).mono ?_
    rintro e w2 ⟨rfl, k2⟩
    go_wp2_with fail
    go_ret
    exact ⟨by rw [HR.out]; rfl, K1.trans k2⟩
  · have HR : Hid (rr = tmsEq l l') := Lib.hid (by rw [HD2.out, ht]; rfl)
    refine (HT.out _ K1).mono ?_
    rintro e w2 ⟨rfl, k2⟩
    have gA2 : ∀ i, w2.cell? ⟨w.heap.size, i, none⟩ = [Value.int .i64 op, .string nm, .int .i64 N, .int .i64 ty.kind, .string ty.name, .slice a n c, .slice ma mn mc][i]? := (bA.kept k2 (fun h => h)).cell
    have gB2 : ∀ i, w2.cell? ⟨w.heap.size + 1, i, none⟩ = [Value.int .i64 op, .string nm', .int .i64 N, .int .i64 ty'.kind, .string ty'.name, .slice a' n' c', .slice ma' mn' mc'][i]? := (bB.kept k2 (fun h => h)).cell
    go_wp2_with fail
    refine (HS.out _ (K1.trans k2)).mono ?_
    rintro e w3 ⟨rfl, k3⟩
    go_wp2_with fail
    go_ret
    exact ⟨by rw [HR.out]; rfl, (K1.trans k2).trans k3⟩
theorem rsameTm_any {t : Tm} (hb : BdTm t) : EqmC t := by
  induction hb with
  | mk hn ht hl ih => exact rsameTm_one ht ih hn
set_option maxRecDepth 100000 in
set_option maxHeartbeats 4000000 in
theorem format_ok {t : Tm} {out : List UInt8} {ok : Nat → Prop} {w : World} {ta : Option Addr} {tn tc : Nat} {ma : Option Addr} {mn mc : Nat} (hty : TyL ok w t.ty.kids (.slice ta tn tc)) (htm : TmL ok w t.kids (.slice ma mn mc)) (hp : PC t out) (hv : validB t = true) (hs : SmTm big t) (h0 : out ≠ []) (hlen : out.length ≤ 1000000000) :
    Calls Tryz.prog 47 #[.agg #[.int .i64 t.op, .string t.name, .int .i64 t.n, .int .i64 t.ty.kind, .string t.ty.name, .slice ta tn tc, .slice ma mn mc]] w fun e w' => e = .returned (.string ⟨out.toArray⟩) ∧ Kept (fun _ => False) w w' := by
  have K0 : Kept (fun _ => False) w (w.alloc (.cells #[.int .i64 t.op, .string t.name, .int .i64 t.n, .int .i64 t.ty.kind, .string t.ty.name, .slice ta tn tc, .slice ma mn mc] 28)) := (Kept.refl _ _).alloc _
  have bX : Blk (w.alloc (.cells #[.int .i64 t.op, .string t.name, .int .i64 t.n, .int .i64 t.ty.kind, .string t.ty.name, .slice ta tn tc, .slice ma mn mc] 28)) w.heap.size 28 (tmCells t (.slice ta tn tc) (.slice ma mn mc)) := Blk.new w 28 _
  have HV := Lib.hid (valid_any (hty.frame (Same.alloc w (.cells #[.int .i64 t.op, .string t.name, .int .i64 t.n, .int .i64 t.ty.kind, .string t.ty.name, .slice ta tn tc, .slice ma mn mc] 28))) (htm.frame (Same.alloc w (.cells #[.int .i64 t.op, .string t.name, .int .i64 t.n, .int .i64 t.ty.kind, .string t.ty.name, .slice ta tn tc, .slice ma mn mc] 28))) hs)
  have HP := Lib.hid hp
  have H0 := Lib.hid h0
  have HL := Lib.hid hlen
  clear hp h0 hlen hs
  go_enter Tryz.func47, Tryz.ntmps47
  go_wp2_with fail
  refine HV.out.mono ?_
  rintro e w1 ⟨rfl, k1⟩
  rw [hv]
  have K1 := K0.trans k1
  have b1 := bX.kept k1 (fun h => h)
  have bB : Blk (w1.alloc (.cells #[.pointer none, .slice none 0 0] 111)) w1.heap.size 111 [.pointer none, .slice none 0 0] := Blk.new w1 111 _
  have K2 : Kept (fun _ => False) w1 (w1.alloc (.cells #[.pointer none, .slice none 0 0] 111)) := (Kept.refl _ _).alloc _
  have hU : Bu w1.heap.size w1.heap.size [] (w1.alloc (.cells #[.pointer none, .slice none 0 0] 111)) := Or.inl ⟨Nat.le_refl _, .slice none 0 0, bB, World.ownsRow_nil _ _ _ _, by simp [Value.ownBlock]⟩
  have t5 := ((hty.frame (Same.of_kept K1 (fun _ _ e => e))).mono (ok' := fun q => q < w1.heap.size) (fun q h _ => h)).frame (Same.of_kept K2 (fun _ _ e => e))
  have t6 := ((htm.frame (Same.of_kept K1 (fun _ _ e => e))).mono (ok' := fun q => q < w1.heap.size) (fun q h _ => h)).frame (Same.of_kept K2 (fun _ _ e => e))
  have HC := Lib.hid (HP.out w1.heap.size w1.heap.size [] _ _ _ hU (by simp) t5 t6 (by have := HL.out; simpa using this))
  have b2 := b1.alloc (.cells #[.pointer none, .slice none 0 0] 111)
  have l1 := b1.lt
  have n1 : w.heap.size ≠ w1.heap.size := by omega
  have g0 : w1.cell? ⟨w.heap.size, 0, none⟩ = some (.int .i64 t.op) := b1.cell 0
  have g1 : w1.cell? ⟨w.heap.size, 1, none⟩ = some (.string t.name) := b1.cell 1
  have g2 : w1.cell? ⟨w.heap.size, 2, none⟩ = some (.int .i64 t.n) := b1.cell 2
  have g3 : w1.cell? ⟨w.heap.size, 3, none⟩ = some (.int .i64 t.ty.kind) := b1.cell 3
  have g4 : w1.cell? ⟨w.heap.size, 4, none⟩ = some (.string t.ty.name) := b1.cell 4
  have g5 : w1.cell? ⟨w.heap.size, 5, none⟩ = some (.slice ta tn tc) := b1.cell 5
  have g6 : w1.cell? ⟨w.heap.size, 6, none⟩ = some (.slice ma mn mc) := b1.cell 6
  go_wp2_with fail
  refine HC.out.mono ?_
  rintro e w3 ⟨rfl, u3, k3⟩
  rw [List.nil_append] at u3
  have HS := Lib.hid (bstr_any u3 H0.out)
  have K3 : Kept (fun k => w1.heap.size ≤ k) w1 w3 := (K2.mono (fun _ _ h => h.elim)).via k3 (fun x hx e => by
    rcases e with rfl | ⟨h, _⟩
    · exact Nat.le_refl _
    · exact h)
  go_wp2_with fail
  refine HS.out.mono ?_
  rintro e w4 ⟨rfl, k4⟩
  go_wp2_with fail
  go_ret
  refine ⟨rfl, K1.via (S' := fun k => w1.heap.size ≤ k) (K3.via (S' := fun k => w1.heap.size ≤ k) ⟨k4.os, k4.tape, k4.output, k4.size, fun q hq hn => k4.block q (by omega)⟩ (fun _ _ h => h)) (fun x hx h => ?_)⟩
  have := K1.size
  omega
def digS : ByteArray := ⟨#[48, 49, 50, 51, 52, 53, 54, 55, 56, 57]⟩
def digL : List Value := (Lib.setCells digS.data.toList).toList
theorem dig_zero : ∀ w, (zeroValue 166).run Tryz.prog w = .ok (.agg (Array.replicate 256 (.bool false))) w := fun w => by kernel_rfl
theorem dig_set (w : World) : Calls Tryz.prog 162 #[.string digS] w fun e w' => e = .returned (.tuple #[.agg digL.toArray, .bool true]) ∧ w' = w.alloc (.cells digL.toArray 166) := by
  refine (Tryz.strings_makeASCIISet dig_zero digS w (by decide) ?_).mono fun e w' ⟨h1, h2⟩ => ⟨by rw [h1]; unfold digL; rw [Array.toArray_toList], by rw [h2]; unfold digL; rw [Array.toArray_toList]⟩
  intro j b hj
  have hlt : j < 10 := (List.getElem?_eq_some_iff.1 hj).1
  rcases (show j = 0 ∨ j = 1 ∨ j = 2 ∨ j = 3 ∨ j = 4 ∨ j = 5 ∨ j = 6 ∨ j = 7 ∨ j = 8 ∨ j = 9 by omega) with rfl | rfl | rfl | rfl | rfl | rfl | rfl | rfl | rfl | rfl <;> (cases hj; decide)
theorem dig_50 : digL[50]? = some (.bool true) := by kernel_rfl
theorem dig_49 : digL[49]? = some (.bool true) := by kernel_rfl
theorem dig_120 : digL[120]? = some (.bool false) := by kernel_rfl
def strSz : Value → Nat
  | .string s => s.size
  | _ => 0
set_option maxRecDepth 100000 in
set_option maxHeartbeats 2000000 in
theorem trimR (w : World) (X : Nat) (h50 : w.cell? ⟨X, 50, none⟩ = some (.bool true)) (h49 : w.cell? ⟨X, 49, none⟩ = some (.bool true)) (h120 : w.cell? ⟨X, 120, none⟩ = some (.bool false)) :
    Calls Tryz.prog 163 #[.string ⟨#[120, 49, 50]⟩, .pointer (some ⟨X, 0, none⟩)] w fun e w' => e = .returned (.string ⟨#[120]⟩) ∧ w = w' := by
  have c50 := Lib.hid (Tryz.asciiSet_contains X 50 true w h50)
  have c49 := Lib.hid (Tryz.asciiSet_contains X 49 true w h49)
  have c120 := Lib.hid (Tryz.asciiSet_contains X 120 false w h120)
  clear h50 h49 h120
  go_enter Tryz.func163, Tryz.ntmps163
  go_wp2_with fail
  go_loop [0] (fun v => v = .string ⟨#[120, 49, 50]⟩ ∨ v = .string ⟨#[120, 49]⟩ ∨ v = .string ⟨#[120]⟩) (fun v => strSz v)
  case atStart => exact Or.inl rfl
  case round =>
    rcases hrel with rfl | rfl | rfl
    · go_wp2_with (go_at_call 204; refine c50.out.mono ?_; rintro e w' ⟨rfl, rfl⟩)
      go_round
      case rel => exact Or.inr (Or.inl rfl)
      case measure => decide
    · go_wp2_with (go_at_call 204; refine c49.out.mono ?_; rintro e w' ⟨rfl, rfl⟩)
      go_round
      case rel => exact Or.inr (Or.inr rfl)
      case measure => decide
    · go_wp2_with (go_at_call 204; refine c120.out.mono ?_; rintro e w' ⟨rfl, rfl⟩)
      go_ret
      exact ⟨rfl, rfl⟩
theorem wpList_store_at {P : Program} {ops : Array Oper} {rest : List Oper} {o : Oper} {a : Act} {Q : Exit → Act → World → Prop} {w0 w : World} {ty : TypeId} {Z L : List Value} (hb : Blk w w0.heap.size ty Z) (hk : Kept (fun _ => False) w0 w) (hgd : o.guard = none) (x y : Operand) (ho : o.op = .store ty x y) (hx : a.eval x = .pointer (some ⟨w0.heap.size, 0, none⟩)) (hy : a.eval y = .agg L.toArray)
    (hi : (P.info? ty).map (·.size) = some L.length) (hZ : Z.length = L.length) (h1 : L.toArray.all (·.oneCell') = true)
    (h : ∀ W, Blk W w0.heap.size ty L → Kept (fun _ => False) w0 W → wpList P ops Q rest (a.put o.dst undef) W) : wpList P ops Q (o :: rest) a w := by
  refine wpList_store_mid hgd ty x y ho w0.heap.size 0 L.toArray hx hy ?_ (by simpa using hi) h1 ?_
  · have := hb.there; rw [hZ] at this; simpa using this
  · refine h _ ?_ ?_
    · have := hb.setCells (l' := L) hZ.symm; simpa using this
    · exact hk.setCells (Or.inr (Nat.le_refl _))
theorem dig_blk (w : World) : Blk (w.alloc (.cells Tryz.zeroCells166 166)) w.heap.size 166 Tryz.zeroCells166.toList := by
  have := Blk.new w 166 Tryz.zeroCells166.toList
  rwa [Array.toArray_toList] at this
theorem dig_zl : Tryz.zeroCells166.toList.length = digL.length := by kernel_rfl
set_option maxRecDepth 100000 in
set_option maxHeartbeats 2000000 in
theorem trimRight_x (w : World) : Calls Tryz.prog 98 #[.string ⟨#[120, 49, 50]⟩, .string digS] w fun e w' => e = .returned (.string ⟨#[120]⟩) ∧ Kept (fun _ => False) w w' := by
  have i1 : digS.toList.isEmpty = false := by kernel_rfl
  have i2 : digS.size = 10 := rfl
  have i3 : (digS.toList == []) = false := by kernel_rfl
  have HD := Lib.hid dig_set
  go_enter Tryz.func98, Tryz.ntmps98
  go_wp2_with (first | (go_at_call 162; refine (HD.out _).mono ?_; rintro e w1 ⟨rfl, hw1⟩; have k1 : Kept (fun _ => False) w w1 := (by rw [hw1]; exact (Kept.refl _ _).alloc _); clear hw1) | (refine wpList_store_at (w0 := w1) (L := digL) (dig_blk w1) ((Kept.refl _ _).alloc _) rfl _ _ rfl rfl rfl (by kernel_rfl) dig_zl (by kernel_rfl) ?_; intro W bW kW; have h50 : W.cell? ⟨w1.heap.size, 50, none⟩ = some (.bool true) := (by rw [bW.cell]; exact dig_50); have h49 : W.cell? ⟨w1.heap.size, 49, none⟩ = some (.bool true) := (by rw [bW.cell]; exact dig_49); have h120 : W.cell? ⟨w1.heap.size, 120, none⟩ = some (.bool false) := (by rw [bW.cell]; exact dig_120); have HT := Lib.hid (trimR W w1.heap.size h50 h49 h120)) | (go_at_call 163; refine HT.out.mono ?_; rintro e w' ⟨rfl, rfl⟩))
  go_ret
  exact ⟨rfl, k1.trans kW⟩
def sX12 : ByteArray := ⟨#[120, 49, 50]⟩
def sX1 : ByteArray := ⟨#[120, 49]⟩
def sX2 : ByteArray := ⟨#[120, 50]⟩
theorem fx1 : Lib.containsS (List.take 2 [sX12, sX1]) sX12 = true := by rw [Lib.containsS_iff]; simp [sX12]
theorem fx2 : Lib.containsS (List.take 2 [sX12, sX1]) sX1 = true := by rw [Lib.containsS_iff]; simp [sX1]
theorem fx3 : Lib.containsS (List.take 2 [sX12, sX1]) sX2 = false := by
  cases h : Lib.containsS (List.take 2 [sX12, sX1]) sX2
  · rfl
  · rw [Lib.containsS_iff] at h; simp [sX12, sX1, sX2] at h
theorem fx4 : namedB ⟨#[120, 49, 50]⟩ = true := by kernel_rfl
theorem fx5 : Lib.decDigits 1 = [49] := by unfold Lib.decDigits; rfl
theorem fx6 : Lib.decDigits 2 = [50] := by unfold Lib.decDigits; rfl
theorem fx7 : keywordB ⟨#[120, 49]⟩ = false := by kernel_rfl
theorem fx8 : keywordB ⟨#[120, 50]⟩ = false := by kernel_rfl
set_option maxRecDepth 100000 in
set_option maxHeartbeats 2000000 in
theorem fresh_x (w : World) (g : Nat) (h0 : w.cell? ⟨g, 0, none⟩ = some (.string ⟨#[120, 49, 50]⟩)) (h1 : w.cell? ⟨g, 1, none⟩ = some (.string ⟨#[120, 49]⟩)) :
    Calls Tryz.prog 48 #[.string ⟨#[120, 49, 50]⟩, .slice (some ⟨g, 0, none⟩) 2 2] w fun e w' => e = .returned (.string ⟨#[120, 50]⟩) ∧ Kept (fun _ => False) w w' := by
  have hcl : ∀ W : World, Kept (fun _ => False) w W → ∀ j, j < [sX12, sX1].length → W.cell? ⟨g, 0 + j, none⟩ = some (.string ([sX12, sX1].getD j ByteArray.empty)) := by
    intro W k j hj
    have : j = 0 ∨ j = 1 := by simp at hj; omega
    rcases this with rfl | rfl
    · rw [k.cell (p := ⟨g, 0 + 0, none⟩) (cell_lt h0) (fun h => h)]; exact h0
    · rw [k.cell (p := ⟨g, 0 + 1, none⟩) (cell_lt h1) (fun h => h)]; exact h1
  have cA : Hid (∀ W : World, Kept (fun _ => False) w W → Calls Tryz.prog 97 #[.slice (some ⟨g, 0, none⟩) 2 2, .string ⟨#[120, 49, 50]⟩] W fun e w' => e = .returned (.bool true) ∧ W = w') := Lib.hid (fun W k => (Tryz.slices_Contains_string g 0 2 2 [sX12, sX1] sX12 W (by decide) (by decide) (hcl W k)).mono fun e w' ⟨q1, q2⟩ => ⟨by rw [q1, fx1], q2.symm⟩)
  have cB : Hid (∀ W : World, Kept (fun _ => False) w W → Calls Tryz.prog 97 #[.slice (some ⟨g, 0, none⟩) 2 2, .string ⟨#[120, 49]⟩] W fun e w' => e = .returned (.bool true) ∧ W = w') := Lib.hid (fun W k => (Tryz.slices_Contains_string g 0 2 2 [sX12, sX1] sX1 W (by decide) (by decide) (hcl W k)).mono fun e w' ⟨q1, q2⟩ => ⟨by rw [q1, fx2], q2.symm⟩)
  have cC : Hid (∀ W : World, Kept (fun _ => False) w W → Calls Tryz.prog 97 #[.slice (some ⟨g, 0, none⟩) 2 2, .string ⟨#[120, 50]⟩] W fun e w' => e = .returned (.bool false) ∧ W = w') := Lib.hid (fun W k => (Tryz.slices_Contains_string g 0 2 2 [sX12, sX1] sX2 W (by decide) (by decide) (hcl W k)).mono fun e w' ⟨q1, q2⟩ => ⟨by rw [q1, fx3], q2.symm⟩)
  have HN : Hid (∀ W, Calls Tryz.prog 79 #[.string ⟨#[120, 49, 50]⟩] W fun e w' => e = .returned (.bool true) ∧ W = w') := Lib.hid (fun W => (named_any _ W (by decide)).mono fun e w' ⟨q1, q2⟩ => ⟨by rw [q1, fx4], q2⟩)
  have HT : Hid (∀ W, Calls Tryz.prog 99 #[.string ⟨#[120, 49, 50]⟩, .string ⟨#[39]⟩] W fun e w' => e = .returned (.string ⟨#[120, 49, 50]⟩) ∧ W = w') := Lib.hid (fun W => (Tryz.strings_TrimSuffix _ _ W (by decide)).mono fun e w' ⟨q1, q2⟩ => ⟨by rw [q1]; rfl, q2.symm⟩)
  have HI1 : Hid (∀ W, Calls Tryz.prog 100 #[.int .i64 1] W fun e w' => e = .returned (.string ⟨#[49]⟩) ∧ W = w') := Lib.hid (fun W => (Tryz.strconv_Itoa_small 1 (by decide) W).mono fun e w' ⟨q1, q2⟩ => ⟨by rw [q1, fx5], q2.symm⟩)
  have HI2 : Hid (∀ W, Calls Tryz.prog 100 #[.int .i64 2] W fun e w' => e = .returned (.string ⟨#[50]⟩) ∧ W = w') := Lib.hid (fun W => (Tryz.strconv_Itoa_small 2 (by decide) W).mono fun e w' ⟨q1, q2⟩ => ⟨by rw [q1, fx6], q2.symm⟩)
  have HK1 : Hid (∀ W, Calls Tryz.prog 101 #[.string ⟨#[120, 49]⟩] W fun e w' => e = .returned (.bool false) ∧ W = w') := Lib.hid (fun W => (keyword_any _ W).mono fun e w' ⟨q1, q2⟩ => ⟨by rw [q1, fx7], q2⟩)
  have HK2 : Hid (∀ W, Calls Tryz.prog 101 #[.string ⟨#[120, 50]⟩] W fun e w' => e = .returned (.bool false) ∧ W = w') := Lib.hid (fun W => (keyword_any _ W).mono fun e w' ⟨q1, q2⟩ => ⟨by rw [q1, fx8], q2⟩)
  have HR := Lib.hid trimRight_x
  clear hcl
  go_enter Tryz.func48, Tryz.ntmps48
  go_wp2_with (first | (go_at_call 79; refine (HN.out _).mono ?_; rintro e w' ⟨rfl, rfl⟩) | (go_at_call 97; refine (cA.out w (Kept.refl _ _)).mono ?_; rintro e w' ⟨rfl, rfl⟩) | (go_at_call 99; refine (HT.out _).mono ?_; rintro e w' ⟨rfl, rfl⟩) | (go_at_call 98; refine (HR.out _).mono ?_; rintro e w1 ⟨rfl, k1⟩))
  have hcu : digS = digS := rfl
  go_loop [6] (fun i => i = .int .i64 1 ∨ i = .int .i64 2) (fun i => 2 - (intOf i).toNat)
  case atStart => exact Or.inl rfl
  case round =>
    rcases hrel with rfl | rfl
    · go_wp2_with (first | (go_at_call 100; refine (HI1.out _).mono ?_; rintro e w' ⟨rfl, rfl⟩) | (go_at_call 101; refine (HK1.out _).mono ?_; rintro e w' ⟨rfl, rfl⟩) | (go_at_call 97; refine (cB.out w1 k1).mono ?_; rintro e w' ⟨rfl, rfl⟩))
      go_round
      case rel => exact Or.inr rfl
      case measure => decide
    · go_wp2_with (first | (go_at_call 100; refine (HI2.out _).mono ?_; rintro e w' ⟨rfl, rfl⟩) | (go_at_call 101; refine (HK2.out _).mono ?_; rintro e w' ⟨rfl, rfl⟩) | (go_at_call 97; refine (cC.out w1 k1).mono ?_; rintro e w' ⟨rfl, rfl⟩))
      go_ret
      exact ⟨rfl, k1⟩
def awkS : ByteArray := ⟨#[120, 32, 43, 32, 49, 32, 60, 61, 32, 99, 97, 114, 100, 40, 115, 41]⟩
def awX : Tm := .mk 20 ⟨#[120]⟩ 0 ty0 []
def aw1 : Tm := .mk 19 nil0 1 ty0 []
def awS : Tm := .mk 20 ⟨#[115]⟩ 0 ty0 []
def awAdd : Tm := nd 22 [awX, aw1]
def awCard : Tm := nd 47 [awS]
def awT : Tm := nd 13 [awAdd, awCard]
theorem awk_T : parseT 300 awkS = awT := by kernel_rfl
theorem awk_A : parseA 300 awkS = 0 := by kernel_rfl
theorem awk_E : parseE 300 awkS = 0 := by kernel_rfl
theorem awk_V : validB awT = true := by kernel_rfl
def awOut : List UInt8 := [40, 120, 32, 43, 32, 49, 41, 32, 60, 61, 32, 99, 97, 114, 100, 40, 115, 41]
theorem pc_x : PC awX [120] := pt_name (nm := ⟨#[120]⟩) (N := 0) (ty := ty0) (kl := [])
theorem pc_s : PC awS [115] := pt_name (nm := ⟨#[115]⟩) (N := 0) (ty := ty0) (kl := [])
theorem pc_1 : PC aw1 [49] := pt_int (nm := nil0) (N := 1) (ty := ty0) (kl := []) (ds := ⟨#[49]⟩) (fun W => (Tryz.strconv_Itoa_small 1 (by decide) W).mono fun e w' ⟨q1, q2⟩ => ⟨by rw [q1, fx5], q2.symm⟩)
theorem oc_x : OC awX [120] := by
  have h := operand_any pc_x
  rw [show parS awX.op [120] = [120] by kernel_rfl] at h
  exact h
theorem oc_1 : OC aw1 [49] := by
  have h := operand_any pc_1
  rw [show parS aw1.op [49] = [49] by kernel_rfl] at h
  exact h
theorem pc_add : PC awAdd [120, 32, 43, 32, 49] := pt_bin (t := awAdd) rfl (by kernel_rfl) oc_x oc_1
theorem oc_add : OC awAdd [40, 120, 32, 43, 32, 49, 41] := by
  have h := operand_any pc_add
  rw [show parS awAdd.op [120, 32, 43, 32, 49] = [40, 120, 32, 43, 32, 49, 41] by kernel_rfl] at h
  exact h
theorem pc_kid : ∀ i (h : i < [awS].length), PC [awS][i] ((fun _ => [115] : Nat → List UInt8) i) := by
  intro i h
  have h1 : i = 0 := by have : i < 1 := h; omega
  subst h1
  exact pc_s
theorem pc_card : PC awCard [99, 97, 114, 100, 40, 115, 41] := pt_card (nm := nil0) (N := 0) (ty := ty0) (kl := [awS]) (list_one (kl := [awS]) (O := fun _ => [115]) pc_kid (by decide))
theorem oc_card : OC awCard [99, 97, 114, 100, 40, 115, 41] := by
  have h := operand_any pc_card
  rw [show parS awCard.op [99, 97, 114, 100, 40, 115, 41] = [99, 97, 114, 100, 40, 115, 41] by kernel_rfl] at h
  exact h
theorem pc_aw : PC awT awOut := pt_bin (t := awT) rfl (by kernel_rfl) oc_add oc_card
theorem sm_aw : SmTm big awT := by
  have h0 : ∀ (n : ByteArray), n.size ≤ big → ∀ (o i : Int), SmTm big (.mk o n i ty0 []) := fun n hn o i => .mk hn (sm_ty0 _) (fun k h => by cases h)
  exact sm_nd (all2 (sm_nd (all2 (h0 _ (by decide) _ _) (h0 _ (by decide) _ _))) (sm_nd (all1 (h0 _ (by decide) _ _))))
set_option maxRecDepth 100000 in
set_option maxHeartbeats 4000000 in
theorem awake_any (w : World) (hgl : Gl w) : Calls Tryz.prog 15 #[] w fun e w' => e = .returned (.bool true) ∧ Kept (fun _ => False) w w' := by
  have HP : Hid (Calls Tryz.prog 46 #[.string ⟨#[120, 32, 43, 32, 49, 32, 60, 61, 32, 99, 97, 114, 100, 40, 115, 41]⟩] w fun e w' => ∃ tv, e = .returned (.tuple #[tv, .int .i64 0, .int .i64 0]) ∧ VTm w.heap.size awT w' tv ∧ Kept (fun _ => False) w w') := Lib.hid ((parse_any (f := 300) (s := awkS) (by decide) (by decide) hgl).mono fun e w' ⟨tv, h1, h2, h3⟩ => ⟨tv, by rw [h1, awk_A, awk_E], by rw [← awk_T]; exact h2, h3⟩)
  go_enter Tryz.func15, Tryz.ntmps15
  go_wp2_with fail
  refine HP.out.mono ?_
  rintro e w1 ⟨tv, rfl, ⟨tk, kk, rfl, hty, htm⟩, k1⟩
  obtain ⟨ta, tn, tc, rfl⟩ := hty.slice
  obtain ⟨ma, mn, mc, rfl⟩ := htm.slice
  have hmn : mn = 2 := htm.len
  subst hmn
  have HF : Hid (Calls Tryz.prog 47 #[.agg #[.int .i64 13, .string nil0, .int .i64 0, .int .i64 0, .string ⟨#[]⟩, .slice ta tn tc, .slice ma 2 mc]] (w1.alloc (.cells #[.int .i64 13, .string nil0, .int .i64 0, .int .i64 0, .string ⟨#[]⟩, .slice ta tn tc, .slice ma 2 mc] 28)) fun e w' => e = .returned (.string ⟨awOut.toArray⟩) ∧ Kept (fun _ => False) (w1.alloc (.cells #[.int .i64 13, .string nil0, .int .i64 0, .int .i64 0, .string ⟨#[]⟩, .slice ta tn tc, .slice ma 2 mc] 28)) w') := Lib.hid (format_ok (t := awT) (hty.frame (Same.alloc w1 _)) (htm.frame (Same.alloc w1 _)) pc_aw awk_V sm_aw (by decide) (by decide))
  have K1 : Kept (fun _ => False) w (w1.alloc (.cells #[.int .i64 13, .string nil0, .int .i64 0, .int .i64 0, .string ⟨#[]⟩, .slice ta tn tc, .slice ma 2 mc] 28)) := k1.alloc _
  clear hty htm
  have htv : tmVal awT (.slice ta tn tc) (.slice ma 2 mc) = .agg #[.int .i64 13, .string nil0, .int .i64 0, .int .i64 0, .string ⟨#[]⟩, .slice ta tn tc, .slice ma 2 mc] := rfl
  rw [htv]
  clear htv
  have HN : Hid (nil0 = ⟨#[]⟩) := Lib.hid rfl
  generalize nil0 = nl at *
  go_wp2_with fail
  refine HF.out.mono ?_
  rintro e w2 ⟨rfl, k2⟩
  have K2 := K1.trans k2
  have e1 : ((⟨awOut.toArray⟩ : ByteArray).toList == [40, 120, 32, 43, 32, 49, 41, 32, 60, 61, 32, 99, 97, 114, 100, 40, 115, 41]) = true := by kernel_rfl
  generalize (⟨awOut.toArray⟩ : ByteArray) = ao at *
  have bS : Blk (w2.alloc (.cells #[.string ⟨#[120, 49, 50]⟩, .string ⟨#[120, 49]⟩] 9)) w2.heap.size 9 [.string ⟨#[120, 49, 50]⟩, .string ⟨#[120, 49]⟩] := Blk.new w2 9 _
  have HX := Lib.hid (fresh_x _ w2.heap.size (bS.cell 0) (bS.cell 1))
  go_wp2_with fail
  refine HX.out.mono ?_
  rintro e w3 ⟨rfl, k3⟩
  go_wp2_with fail
  go_ret
  exact ⟨rfl, (K2.alloc _).trans k3⟩
end Go.Proofs.YtfhedienjnfdcaaGreatDoor
