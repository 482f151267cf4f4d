/- Texts Show ShB BkL BkS TyP BkE RSgn RLex RTok RCon RBra of this proof, in one. -/
import Derived.Test.YtckjlliobebodaaGreatDoorBd8
import Derived.Test.YtckjlliobebodaaGreatDoorBd5
import Derived.Test.YtckjlliobebodaaGreatDoorBd7
import Derived.Test.YtckjlliobebodaaGreatDoorBd3
set_option linter.unusedVariables false
set_option linter.unusedSimpArgs false
namespace Go.Proofs.YtckjlliobebodaaGreatDoor
open Go.RowKit
def opd (k : Int × List UInt8) : List UInt8 := parS k.1 k.2
def joinL : List (Int × List UInt8) → List UInt8
  | [] => []
  | [k] => k.2
  | k :: l => k.2 ++ [44, 32] ++ joinL l
def kidA (ks : List (Int × List UInt8)) (i : Nat) : Int × List UInt8 := ks.getD i (0, [])
def tmComb (op : Int) (nm : ByteArray) (N : Int) (ty : Ty) (ks : List (Int × List UInt8)) : List UInt8 :=
  if op = 1 then [116, 114, 117, 101] else if op = 2 then [102, 97, 108, 115, 101]
  else if op = 19 then Lib.itoa N else if op = 20 then nm.data.toList
  else if op = 29 then ([123, 125, 91] : List UInt8) ++ tyShow ty ++ [93]
  else if op = 3 then ([110, 111, 116, 32] : List UInt8) ++ opd (kidA ks 0) else if op = 21 then ([45] : List UInt8) ++ opd (kidA ks 0)
  else if op = 8 then ([102, 111, 114, 97, 108, 108, 32] : List UInt8) ++ (nm.data.toList ++ ([32, 105, 110, 32] : List UInt8) ++ opd (kidA ks 0)) ++ ([32, 46, 32] : List UInt8) ++ (kidA ks 1).2
  else if op = 9 then ([101, 120, 105, 115, 116, 115, 32] : List UInt8) ++ (nm.data.toList ++ ([32, 105, 110, 32] : List UInt8) ++ opd (kidA ks 0)) ++ ([32, 46, 32] : List UInt8) ++ (kidA ks 1).2
  else if op = 56 then ([102, 117, 110, 32] : List UInt8) ++ (nm.data.toList ++ ([32, 105, 110, 32] : List UInt8) ++ opd (kidA ks 0)) ++ ([32, 46, 32] : List UInt8) ++ (kidA ks 1).2
  else if op = 55 then ([123] : List UInt8) ++ (nm.data.toList ++ ([32, 105, 110, 32] : List UInt8) ++ opd (kidA ks 0)) ++ ([32, 124, 32] : List UInt8) ++ (kidA ks 1).2 ++ ([125] : List UInt8)
  else if op = 54 then opd (kidA ks 0) ++ ([40] : List UInt8) ++ (kidA ks 1).2 ++ ([41] : List UInt8)
  else if op = 53 then opd (kidA ks 0) ++ ([91] : List UInt8) ++ (kidA ks 1).2 ++ ([93] : List UInt8)
  else if op = 52 then opd (kidA ks 0) ++ ([126] : List UInt8)
  else if op = 28 then ([123] : List UInt8) ++ joinL ks ++ ([125] : List UInt8)
  else if 46 ≤ op ∧ op ≤ 51 then (keyS op).data.toList ++ ([40] : List UInt8) ++ (kidA ks 0).2 ++ ([41] : List UInt8)
  else opd (kidA ks 0) ++ ([32] ++ (binS op).data.toList ++ [32]) ++ opd (kidA ks 1)
mutual
def tmShow : Tm → List UInt8
  | .mk op nm N ty l => tmComb op nm N ty (tmShows l)
def tmShows : List Tm → List (Int × List UInt8)
  | [] => []
  | t :: l => (t.op, tmShow t) :: tmShows l
end
theorem shows_len : ∀ l : List Tm, (tmShows l).length = l.length
  | [] => rfl
  | t :: l => by rw [tmShows, List.length_cons, shows_len l, List.length_cons]
theorem shows_at : ∀ (l : List Tm) (i : Nat) (h : i < l.length), kidA (tmShows l) i = (l[i].op, tmShow l[i])
  | t :: l, 0, _ => by rw [tmShows]; rfl
  | t :: l, i + 1, h => by
    have := shows_at l i (by simpa using h)
    rw [tmShows]
    show kidA (tmShows l) i = _
    rw [this]; rfl
theorem join_eq (l : List Tm) (hl : l ≠ []) : joinL (tmShows l) = joinO (fun i => (kidA (tmShows l) i).2) l.length := by
  have gen : ∀ (ks : List (Int × List UInt8)) (O : Nat → List UInt8), (∀ i (h : i < ks.length), O i = ks[i].2) → ∀ m, m ≤ ks.length → joinO O m = joinL (ks.take m) := by
    intro ks O hO m
    induction m with
    | zero => intro _; simp [joinO, joinL]
    | succ m ih =>
      intro hm
      rw [joinO, ih (by omega), hO m (by omega)]
      have hsn : ∀ (a : List (Int × List UInt8)) (k : Int × List UInt8), joinL (a ++ [k]) = joinL a ++ (if a.length = 0 then [] else [44, 32]) ++ k.2 := by
        intro a k
        induction a with
        | nil => simp [joinL]
        | cons x a iha =>
          cases a with
          | nil => simp [joinL]
          | cons y a =>
            have : joinL (x :: y :: a ++ [k]) = x.2 ++ [44, 32] ++ joinL (y :: a ++ [k]) := rfl
            rw [this, iha]
            simp [joinL, List.append_assoc]
      rw [List.take_succ_eq_append_getElem (by omega), hsn]
      have : (ks.take m).length = 0 ↔ m = 0 := by rw [List.length_take]; omega
      by_cases h0 : m = 0
      · rw [if_pos h0, if_pos (this.2 h0)]
      · rw [if_neg h0, if_neg (fun h => h0 (this.1 h))]
  have h := gen (tmShows l) (fun i => (kidA (tmShows l) i).2) (fun i h => by
    show ((tmShows l).getD i (0, [])).2 = _
    rw [List.getD_eq_getElem?_getD, List.getElem?_eq_getElem h]; rfl) l.length (by rw [shows_len]; exact Nat.le_refl _)
  rw [h, List.take_of_length_le (by rw [shows_len]; exact Nat.le_refl _)]
inductive OkTm : Tm → Prop
  | mk {op : Int} {nm : ByteArray} {N : Int} {ty : Ty} {l : List Tm} (h : formedB op nm N ty l.length = true) (hn : l.length ≤ 100000) (hl : ∀ t, t ∈ l → OkTm t) : OkTm (.mk op nm N ty l)
theorem OkTm.formed {t : Tm} (h : OkTm t) : formedB t.op t.name t.n t.ty t.kids.length = true := by cases h; assumption
theorem kids_range (op : Int) (h : (kidsN op).2 = true) : 1 ≤ op ∧ op ≤ 56 := by
  unfold kidsN at h
  split at h
  · omega
  split at h
  · omega
  split at h
  · omega
  split at h
  · assumption
  · cases h
theorem formed_parts {op : Int} {nm : ByteArray} {N : Int} {ty : Ty} {n : Nat} (h : formedB op nm N ty n = true) : kidOk op n = true ∧ nmOk op nm = true ∧ nOk op N = true ∧ tyOk op ty = true := by
  unfold formedB at h
  rw [Bool.and_eq_true, Bool.and_eq_true, Bool.and_eq_true] at h
  exact ⟨h.1, h.2.1.1, h.2.1.2, h.2.2⟩
theorem OkTm.range {t : Tm} (h : OkTm t) : 1 ≤ t.op ∧ t.op ≤ 56 := by
  have := (formed_parts h.formed).1
  unfold kidOk at this
  rw [Bool.and_eq_true] at this
  exact kids_range _ this.1
theorem list_nil {α : Type} {l : List α} (h : l.length = 0) : l = [] := List.length_eq_zero_iff.1 h
theorem list_one' {α : Type} {l : List α} (h : l.length = 1) : ∃ x, l = [x] := by
  match l, h with
  | [x], _ => exact ⟨x, rfl⟩
theorem list_two {α : Type} {l : List α} (h : l.length = 2) : ∃ x y, l = [x, y] := by
  match l, h with
  | [x, y], _ => exact ⟨x, y, rfl⟩
theorem ty_ok (most deep : Nat) : ∀ (t : Ty) (d : Nat) (wi : Bool) (c : Nat), c ≤ most → (tfS most deep t d wi c).1 = true → OkTy t ∧ (tyShow t).length + 24 * c ≤ 24 * (tfS most deep t d wi c).2 := by
  intro t
  induction t using Ty.rec (motive_2 := fun l => ∀ (d c : Nat), c ≤ most → (tfsS most deep l d c).1 = true → (∀ t, t ∈ l → OkTy t) ∧ ((tyShows l).map List.length).sum + 24 * c ≤ 24 * (tfsS most deep l d c).2) with
  | mk k nm l ih =>
    intro d wi c hc h
    rw [tf_eq] at h ⊢
    split at h
    · rename_i hb
      rw [if_pos hb]
      have hb' := hb
      simp only [Bool.and_eq_true, decide_eq_true_eq] at hb'
      obtain ⟨i1, i2⟩ := ih _ _ hb'.1.1 h
      rcases head_yes hb'.2 with hl | ⟨hl, he⟩
      · have hln : l = [] := by
          rcases hl with h | h | h
          · exact list_nil h.2.1
          · exact list_nil h.2.2.1
          · exact list_nil h.2.1
        subst hln
        refine ⟨.leaf (by rcases hl with h | h | h <;> simp [h.1]), ?_⟩
        rw [tyShow, tyShows]
        simp only [tyShows, List.map_nil, List.sum_nil] at i2
        have hz : (tyComb k nm []).length ≤ 24 := by
          rcases hl with h | h | h
          · rw [h.1]; simp [tyComb]
          · rw [h.1]; simp [tyComb]
          · rw [h.1]
            have := h.2.2
            unfold identB at this
            simp only [Bool.and_eq_true, decide_eq_true_eq] at this
            show nm.data.toList.length ≤ 24
            rw [ba_len]; omega
        omega
      · rcases hl with ⟨rfl, hn⟩ | ⟨rfl, hn⟩
        · obtain ⟨x, rfl⟩ := list_one' hn
          refine ⟨.set (i1 x (by simp)), ?_⟩
          simp only [tyShows, List.map_cons, List.map_nil, List.sum_cons, List.sum_nil] at i2
          simp [tyShow, tyShows, tyComb]
          omega
        · obtain ⟨x, y, rfl⟩ := list_two hn
          refine ⟨.pair (i1 x (by simp)) (i1 y (by simp)), ?_⟩
          simp only [tyShows, List.map_cons, List.map_nil, List.sum_cons, List.sum_nil] at i2
          simp [tyShow, tyShows, tyComb]
          omega
    · cases h
  | nil => rename_i d c hc h; exact ⟨fun t h => (by cases h), by simp [tyShows, tfsS]⟩
  | cons t l iht ihl =>
    rename_i d c hc h
    rw [tfsS] at h ⊢
    cases hr : tfS most deep t d true c with
    | mk b c' =>
      cases b
      · rw [hr] at h; cases h
      · rw [hr] at h
        have a := tf_le most deep t d true c hc (by rw [hr])
        rw [hr] at a
        have q := ihl d c' a.2 h
        have p := iht d true c hc (by rw [hr])
        rw [hr] at p
        simp only at a q p ⊢
        refine ⟨fun t' h' => ?_, ?_⟩
        · rcases List.mem_cons.1 h' with rfl | h'
          · exact p.1
          · exact q.1 t' h'
        · simp only [tyShows, List.map_cons, List.sum_cons]
          omega
theorem validTy_ok {t : Ty} (h : validTyB t = true) : OkTy t ∧ (tyShow t).length ≤ 400 := by
  have h1 := ty_ok 16 6 t 1 false 0 (by decide) h
  have h2 := tf_le 16 6 t 1 false 0 (by decide) h
  exact ⟨h1.1, by omega⟩
theorem f_ok (most deep : Nat) (hmo : most ≤ 100000) : ∀ (t : Tm) (d : Nat) (c : Nat), c ≤ most → (fS most deep t d c).1 = true → OkTm t := by
  intro t
  induction t using Tm.rec (motive_2 := fun l => ∀ (d c : Nat), c ≤ most → (fsS most deep l d c).1 = true → c + l.length ≤ (fsS most deep l d c).2 ∧ (fsS most deep l d c).2 ≤ most ∧ ∀ t, t ∈ l → OkTm t) with
  | mk op nm N ty l ih =>
    intro d c hc h
    rw [f_eq] at h
    split at h
    · rename_i hb
      have hb' := hb
      simp only [Bool.and_eq_true, decide_eq_true_eq] at hb'
      have q := ih _ _ hb'.1.1 h
      exact .mk hb'.2 (by omega) q.2.2
    · cases h
  | nil => rename_i d c hc h; exact ⟨Nat.le_refl _, hc, fun t h => by cases h⟩
  | cons t l iht ihl =>
    rename_i d c hc h
    rw [fsS] at h ⊢
    cases hr : fS most deep t d c with
    | mk b c' =>
      cases b
      · rw [hr] at h; cases h
      · rw [hr] at h
        have a := f_le most deep t d c hc (by rw [hr])
        rw [hr] at a
        have q := ihl d c' a.2 h
        have p := iht d c hc (by rw [hr])
        simp only at a q ⊢
        refine ⟨by rw [List.length_cons]; omega, q.2.1, fun t' h' => ?_⟩
        rcases List.mem_cons.1 h' with rfl | h'
        · exact p
        · exact q.2.2 t' h'
theorem valid_ok {t : Tm} (h : validB t = true) : OkTm t := f_ok 2000 64 (by decide) t 1 0 (Nat.zero_le _) h
theorem dec_len : ∀ (k n : Nat), n < 10 ^ (k + 1) → (Lib.decDigits n).length ≤ k + 1 := by
  intro k
  induction k with
  | zero => intro n h; unfold Lib.decDigits; rw [dif_pos (by simpa using h)]; simp
  | succ k ih =>
    intro n h
    unfold Lib.decDigits
    by_cases h1 : n < 10
    · rw [dif_pos h1]; simp
    · rw [dif_neg h1]
      have := ih (n / 10) (by rw [Nat.pow_succ] at h; exact Nat.div_lt_of_lt_mul (by rw [Nat.mul_comm]; exact h))
      simp only [List.length_append, List.length_cons, List.length_nil]
      omega
theorem itoa_len {N : Int} (h0 : 0 ≤ N) (h1 : N ≤ 1000000000) : (Lib.itoa N).length ≤ 10 := by
  obtain ⟨n, rfl⟩ := Int.eq_ofNat_of_zero_le h0
  have e : Lib.itoa (n : Int) = Lib.decDigits n := by unfold Lib.itoa; rw [if_neg (by omega)]; rfl
  rw [e]
  exact dec_len 9 n (by have : (10 : Nat) ^ (9 + 1) = 10000000000 := by decide
                        omega)
def wordOk (w : List UInt8) : Bool := letterB (w.headD 0).toNat && w.all (fun c => inWordB c.toNat) && decide (w.length ≤ 16)
def stopW (r : List UInt8) : Prop := ∀ c, r.head? = some c → inWordB c.toNat = false
def extB (x : List UInt8) : List UInt8 := signs.filterMap fun y => if x.isPrefixOf y.data.toList && decide (x.length < y.data.toList.length) then y.data.toList[x.length]? else none
inductive LexL : List UInt8 → List TK → Prop
  | nil : LexL [] []
  | blank {c : UInt8} {l : List UInt8} {L : List TK} (hc : blankB c.toNat = true) (h : LexL l L) : LexL (c :: l) L
  | word {w r : List UInt8} {L : List TK} (hw : wordOk w = true) (hr : stopW r) (hq : keywordB (str w) = true ∨ r.head? ≠ some 39) (h : LexL r L) : LexL (w ++ r) (tkW (str w) :: L)
  | prime {w r : List UInt8} {L : List TK} (hw : wordOk w = true) (hk : keywordB (str w) = false) (h : LexL r L) : LexL (w ++ 39 :: r) (tkW (str (w ++ [39])) :: L)
  | num {w r : List UInt8} {n : Int} {L : List TK} (hd : digitB (w.headD 0).toNat = true) (hw : w.all (fun c => inWordB c.toNat) = true) (hn : numTok (str w) = some n) (hr : stopW r) (h : LexL r L) : LexL (w ++ r) (tkN n :: L)
  | sign {x : ByteArray} {r : List UInt8} {L : List TK} (hx : x ∈ signs) (hr : ∀ c, r.head? = some c → c ∉ extB x.data.toList) (h : LexL r L) : LexL (x.data.toList ++ r) (tkS x :: L)
theorem at_drop {s : ByteArray} {p : Nat} {c : UInt8} {l : List UInt8} (h : s.data.toList.drop p = c :: l) : ∃ hp : p < s.size, s[p] = c ∧ s.data.toList.drop (p + 1) = l := by
  have hp : p < s.data.toList.length := by
    rcases Nat.lt_or_ge p s.data.toList.length with q | q
    · exact q
    · rw [List.drop_of_length_le q] at h; cases h
  rw [List.drop_eq_getElem_cons hp] at h
  exact ⟨by rwa [ba_len] at hp, (List.cons.inj h).1, (List.cons.inj h).2⟩
theorem drop_nil {s : ByteArray} {p : Nat} (h : s.data.toList.drop p = []) : s.size ≤ p := by
  have := List.drop_eq_nil_iff.1 h
  rwa [ba_len] at this
theorem scan_list (P : Int → Bool) (s : ByteArray) : ∀ (w r : List UInt8) (p : Nat), s.data.toList.drop p = w ++ r → (∀ c, c ∈ w → P c.toNat = true) → (∀ c, r.head? = some c → P c.toNat = false) → scan P s p = p + w.length := by
  intro w
  induction w with
  | nil =>
    intro r p h _ hr
    cases r with
    | nil => rw [scan_end P s p (drop_nil h)]; rfl
    | cons c r =>
      obtain ⟨hp, hc, -⟩ := at_drop h
      rw [scan_no P s p hp (by rw [hc]; exact hr c rfl)]; rfl
  | cons a w ih =>
    intro r p h hw hr
    obtain ⟨hp, hc, hd⟩ := at_drop (l := w ++ r) h
    rw [scan_yes P s p hp (by rw [hc]; exact hw a (List.mem_cons_self ..)), ih r (p + 1) hd (fun c h => hw c (List.mem_cons_of_mem _ h)) hr]
    simp; omega
theorem cut_list {s : ByteArray} {p : Nat} {w r : List UInt8} (h : s.data.toList.drop p = w ++ r) : s.extract p (p + w.length) = str w := by
  apply ba_ext
  rw [ext_list, List.drop_take, h]
  simp [str]
theorem drop_app {s : ByteArray} {p : Nat} {w r : List UInt8} (h : s.data.toList.drop p = w ++ r) : s.data.toList.drop (p + w.length) = r := by
  rw [← List.drop_drop, h]; simp
theorem drop_le {s : ByteArray} {p : Nat} {w r : List UInt8} (hp : p ≤ s.size) (h : s.data.toList.drop p = w ++ r) : p + w.length ≤ s.size := by
  have := congrArg List.length h
  rw [List.length_drop, ba_len, List.length_append] at this
  omega
theorem head_drop {s : ByteArray} {p : Nat} {w r : List UInt8} (h : s.data.toList.drop p = w ++ r) (hw : w ≠ []) : ∃ hp : p < s.size, s[p] = w.headD 0 := by
  cases w with
  | nil => exact absurd rfl hw
  | cons c w => obtain ⟨hp, hc, -⟩ := at_drop (l := w ++ r) h; exact ⟨hp, hc⟩
theorem letter_nb {c : Int} (h : letterB c = true) : blankB c = false ∧ digitB c = false := by
  unfold letterB at h; unfold blankB digitB
  simp at h
  refine ⟨by simp; omega, by simp; omega⟩
theorem digit_nb {c : Int} (h : digitB c = true) : blankB c = false ∧ letterB c = false := by
  unfold digitB at h; unfold blankB letterB
  simp at h
  refine ⟨by simp; omega, by simp; omega⟩
theorem skip_no {s : ByteArray} {p : Nat} (hp : p < s.size) (h : blankB s[p].toNat = false) : skip s p = p := scan_no blankB s p hp h
theorem sign_chk : (List.range 40).all (fun k => (List.range k).all fun j => !(signs.getD j ⟨#[]⟩).data.toList.isPrefixOf (signs.getD k ⟨#[]⟩).data.toList) = true := by kernel_rfl
theorem sign_hd : signs.all (fun x => !letterB (x.data.toList.headD 0).toNat && !digitB (x.data.toList.headD 0).toNat && !blankB (x.data.toList.headD 0).toNat && !x.data.toList.isEmpty) = true := by kernel_rfl
theorem pre_split : ∀ (y x r : List UInt8), y.isPrefixOf (x ++ r) = true → y.isPrefixOf x = true ∨ (x.isPrefixOf y = true ∧ x.length < y.length ∧ ∃ c, r.head? = some c ∧ y[x.length]? = some c) := by
  intro y
  induction y with
  | nil => intro x r _; left; rfl
  | cons a y ih =>
    intro x r h
    cases x with
    | nil =>
      right
      cases r with
      | nil => cases h
      | cons c r =>
        have : (a == c && y.isPrefixOf r) = true := h
        rw [Bool.and_eq_true] at this
        exact ⟨rfl, by simp, c, rfl, by simp [eq_of_beq this.1]⟩
    | cons b x =>
      have : (a == b && y.isPrefixOf (x ++ r)) = true := h
      rw [Bool.and_eq_true] at this
      have e := eq_of_beq this.1
      subst e
      rcases ih x r this.2 with q | ⟨q1, q2, c, q3, q4⟩
      · left; show (a == a && y.isPrefixOf x) = true; rw [q]; simp
      · right; exact ⟨by show (a == a && x.isPrefixOf y) = true; rw [q1]; simp, by simp; omega, c, q3, by simpa using q4⟩
theorem sIdx_sign {x : ByteArray} {r : List UInt8} (hx : x ∈ signs) (hr : ∀ c, r.head? = some c → c ∉ extB x.data.toList) : ∃ k, k < signs.length ∧ signs.getD k ⟨#[]⟩ = x ∧ sIdx (x.data.toList ++ r) signs = (k : Int) := by
  obtain ⟨k, hk, rfl⟩ := List.getElem_of_mem hx
  have hl : signs.length = 40 := rfl
  refine ⟨k, hk, by rw [List.getD_eq_getElem?_getD, List.getElem?_eq_getElem hk]; rfl, sIdx_at _ _ k hk (fun j h => ?_) (by unfold Lib.hasPrefix; simp)⟩
  cases hp : Lib.hasPrefix (signs[k].data.toList ++ r) signs[j].data.toList
  · rfl
  · rcases pre_split _ _ _ hp with q | ⟨q1, q2, c, q3, q4⟩
    · have := List.all_eq_true.1 (List.all_eq_true.1 sign_chk k (by rw [List.mem_range]; omega)) j (List.mem_range.2 h)
      rw [List.getD_eq_getElem?_getD, List.getElem?_eq_getElem (by omega : j < signs.length), List.getD_eq_getElem?_getD, List.getElem?_eq_getElem hk] at this
      simp only [Option.getD_some] at this
      rw [q] at this; cases this
    · refine absurd ?_ (hr c q3)
      unfold extB
      rw [List.mem_filterMap]
      exact ⟨signs[j], List.getElem_mem _, by rw [q1, decide_eq_true q2]; simpa using q4⟩
theorem lex_of {l : List UInt8} {L : List TK} (h : LexL l L) : ∀ (s : ByteArray) (p : Nat), p ≤ s.size → s.data.toList.drop p = l → LexS s p L := by
  induction h with
  | nil =>
    intro s p hp h
    have := drop_nil h
    exact .nil hp (by rw [show p = s.size by omega]; exact scan_end blankB s s.size (Nat.le_refl _))
  | blank hc h ih =>
    intro s p hp hd
    obtain ⟨hlt, he, hd'⟩ := at_drop hd
    have e : skip s p = skip s (p + 1) := scan_yes blankB s p hlt (by rw [he]; exact hc)
    have := ih s (p + 1) (by omega) hd'
    cases this with
    | nil h1 h2 => exact .nil hp (by rw [e]; exact h2)
    | cons h1 h2 h3 h4 => exact .cons hp (by rw [e]; exact h2) h3 h4
  | word hw hr hq h ih =>
    rename_i w r L
    intro s p hp hd
    unfold wordOk at hw
    simp only [Bool.and_eq_true, decide_eq_true_eq, List.all_eq_true] at hw
    obtain ⟨⟨w1, w2⟩, w3⟩ := hw
    have hne : w ≠ [] := by rintro rfl; cases w1
    obtain ⟨hlt, he⟩ := head_drop hd hne
    have hs : skip s p = p := skip_no hlt (by rw [he]; exact (letter_nb w1).1)
    have hwe : wend s p = p + w.length := scan_list inWordB s w r p hd w2 hr
    have hto : wordTo s p = p + w.length := by
      unfold wordTo
      rw [hwe, cut_list hd]
      rcases hq with hq | hq
      · rw [if_pos hq]
      · split
        · rfl
        · split
          · rename_i h2
            split
            · rename_i h3
              exfalso
              have hd2 := drop_app hd
              cases r with
              | nil => have := drop_nil hd2; omega
              | cons c r =>
                obtain ⟨_, hc, -⟩ := at_drop hd2
                rw [hc] at h3
                exact hq (by show some c = some 39; rw [show c = 39 from UInt8.toNat_inj.1 (by rw [show (39 : UInt8).toNat = 39 from rfl]; omega)])
            · rfl
          · rfl
    refine .cons hp (q := p + w.length) ?_ (by show (1 : Int) ≠ 0; decide) (ih s _ (drop_le hp hd) (drop_app hd))
    rw [hs]; unfold tokAt
    rw [dif_pos hlt, if_pos (by rw [he]; exact w1), if_neg (by rw [hwe]; omega), hto, cut_list hd]; rfl
  | prime hw hk h ih =>
    rename_i w r L
    intro s p hp hd
    unfold wordOk at hw
    simp only [Bool.and_eq_true, decide_eq_true_eq, List.all_eq_true] at hw
    obtain ⟨⟨w1, w2⟩, w3⟩ := hw
    have hne : w ≠ [] := by rintro rfl; cases w1
    obtain ⟨hlt, he⟩ := head_drop hd hne
    have hs : skip s p = p := skip_no hlt (by rw [he]; exact (letter_nb w1).1)
    have hwe : wend s p = p + w.length := scan_list inWordB s w (39 :: r) p hd w2 (fun c hc => by cases hc; decide)
    have hd2 := drop_app hd
    obtain ⟨h2, hc, hd3⟩ := at_drop hd2
    have hd4 : s.data.toList.drop p = (w ++ [39]) ++ r := by rw [hd]; simp
    have hto : wordTo s p = p + (w ++ [39]).length := by
      unfold wordTo
      rw [hwe, cut_list hd, if_neg (by rw [hk]; simp), dif_pos h2, if_pos (by rw [hc]; rfl)]
      simp; omega
    refine .cons hp (q := p + (w ++ [39]).length) ?_ (by show (1 : Int) ≠ 0; decide) (ih s _ (drop_le hp hd4) (drop_app hd4))
    rw [hs]; unfold tokAt
    rw [dif_pos hlt, if_pos (by rw [he]; exact w1), if_neg (by rw [hwe]; omega), hto, cut_list hd4]; rfl
  | num hdg hw hn hr h ih =>
    rename_i w r n L
    intro s p hp hd
    have hne : w ≠ [] := by rintro rfl; cases hdg
    obtain ⟨hlt, he⟩ := head_drop hd hne
    have hs : skip s p = p := skip_no hlt (by rw [he]; exact (digit_nb hdg).1)
    have hwe : wend s p = p + w.length := scan_list inWordB s w r p hd (List.all_eq_true.1 hw) hr
    refine .cons hp (q := p + w.length) ?_ (by show (2 : Int) ≠ 0; decide) (ih s _ (drop_le hp hd) (drop_app hd))
    rw [hs]; unfold tokAt
    rw [dif_pos hlt, if_neg (by rw [he, (digit_nb hdg).2]; simp), if_pos (by rw [he]; exact hdg), hwe, cut_list hd, hn]; rfl
  | sign hx hr h ih =>
    rename_i x r L
    intro s p hp hd
    have hh := List.all_eq_true.1 sign_hd x hx
    simp only [Bool.and_eq_true, Bool.not_eq_true', List.isEmpty_eq_false_iff] at hh
    obtain ⟨⟨⟨a1, a2⟩, a3⟩, a4⟩ := hh
    obtain ⟨hlt, he⟩ := head_drop hd a4
    have hs : skip s p = p := skip_no hlt (by rw [he]; exact a3)
    obtain ⟨k, hk, hg, hi⟩ := sIdx_sign hx hr
    have hz : x.size = x.data.toList.length := (ba_len x).symm
    have hq : p + x.size ≤ s.size := by rw [hz]; exact drop_le hp hd
    refine .cons hp (q := p + x.size) ?_ (by show (3 : Int) ≠ 0; decide) (ih s _ hq (by rw [hz]; exact drop_app hd))
    rw [hs]; unfold tokAt
    rw [dif_pos hlt, if_neg (by rw [he, a1]; simp), if_neg (by rw [he, a2]; simp), hd, hi, if_neg (by omega), Int.toNat_natCast, hg]
    have : s.extract p (p + x.size) = x := by rw [hz, cut_list hd]; apply ba_ext; simp [str]
    rw [this]; rfl
theorem str_data (x : ByteArray) : str x.data.toList = x := by apply ba_ext; simp [str]
theorem str_list (l : List UInt8) : (str l).data.toList = l := by simp [str]
def aft (r : List UInt8) : Prop := ∀ c, r.head? = some c → inWordB c.toNat = false ∧ c ≠ 39
theorem aft_nil : aft [] := fun c h => by cases h
theorem aft_cons {c : UInt8} (h : (!inWordB c.toNat && !(c == 39)) = true) (r : List UInt8) : aft (c :: r) := fun d hd => by
  cases hd
  simp only [Bool.and_eq_true, Bool.not_eq_true', beq_eq_false_iff_ne] at h
  exact h
theorem aft.stop {r : List UInt8} (h : aft r) : stopW r := fun c hc => (h c hc).1
theorem aft.q {r : List UInt8} (h : aft r) : r.head? ≠ some 39 := fun e => (h 39 e).2 rfl
def LX (A : List UInt8) (B : List TK) : Prop := ∀ (r : List UInt8) (L : List TK), aft r → LexL r L → LexL (A ++ r) (B ++ L)
theorem sgn_mem {x : ByteArray} (h : signs.any (fun y => y.data.toList == x.data.toList) = true) : x ∈ signs := by
  obtain ⟨y, hy, e⟩ := List.any_eq_true.1 h
  rw [show x = y from ba_ext (eq_of_beq e).symm]; exact hy
theorem sg {c : UInt8} {r : List UInt8} {L : List TK} (hc : (signs.any (fun y => y.data.toList == [c]) && (extB [c]).isEmpty) = true) (h : LexL r L) : LexL (c :: r) (tkS ⟨#[c]⟩ :: L) := by
  rw [Bool.and_eq_true] at hc
  exact LexL.sign (x := ⟨#[c]⟩) (sgn_mem hc.1) (fun d _ => by
    show d ∉ extB [c]
    rw [List.isEmpty_iff.1 hc.2]; exact List.not_mem_nil) h
theorem sp {r : List UInt8} {L : List TK} (h : LexL r L) : LexL (32 :: r) L := .blank (by decide) h
theorem kw {w r : List UInt8} {L : List TK} (hw : (wordOk w && keywordB (str w)) = true) (hr : stopW r) (h : LexL r L) : LexL (w ++ r) (tkW (str w) :: L) := by
  rw [Bool.and_eq_true] at hw
  exact .word hw.1 hr (Or.inl hw.2) h
theorem ident_ok {nm : ByteArray} (h : identB nm = true) : wordOk nm.data.toList = true := by
  unfold identB at h
  simp only [Bool.and_eq_true, Bool.not_eq_true', decide_eq_true_eq] at h
  obtain ⟨⟨⟨⟨h1, h2⟩, h3⟩, h4⟩, h5⟩ := h
  unfold wordOk
  simp only [Bool.and_eq_true, decide_eq_true_eq]
  refine ⟨⟨h3, h5⟩, ?_⟩
  show nm.data.toList.length ≤ 16
  rw [ba_len]; exact h2
theorem id_lx {nm : ByteArray} (h : identB nm = true) : LX nm.data.toList [tkW nm] := fun r L ha hl => by
  have := LexL.word (ident_ok h) ha.stop (Or.inr ha.q) hl
  rw [str_data] at this; exact this
theorem named_lx {nm : ByteArray} (h : namedB nm = true) : LX nm.data.toList [tkW nm] := by
  by_cases hs : Lib.hasSuffix nm.data.toList [39] = true
  · intro r L ha hl
    have hi : identB (trimQ nm) = true := h
    have e1 : (trimQ nm).data.toList ++ [39] = nm.data.toList := by
      unfold trimQ Lib.trimSuffix
      rw [if_pos hs]
      unfold Lib.hasSuffix at hs
      obtain ⟨a, ha⟩ := List.isSuffixOf_iff_suffix.1 hs
      rw [← ha]; simp
    have := LexL.prime (r := r) (L := L) (ident_ok hi) (by rw [str_data]; exact ident_kw hi) hl
    rw [e1, str_data] at this
    have e2 : (trimQ nm).data.toList ++ 39 :: r = nm.data.toList ++ r := by rw [← e1]; simp
    rw [e2] at this
    exact this
  · have e : trimQ nm = nm := by
      unfold trimQ Lib.trimSuffix
      rw [if_neg hs]
    unfold namedB at h
    rw [e] at h
    exact id_lx h
/-! Numbers. -/
theorem of_dig (u : Nat) (h : u < 10) : (UInt8.ofNat (48 + u)).toNat = 48 + u := by
  rw [UInt8.toNat_ofNat']; omega
theorem dec_dig : ∀ (n : Nat), ∀ c, c ∈ Lib.decDigits n → digitB c.toNat = true := by
  intro n
  induction n using Nat.strongRecOn with
  | _ n ih =>
    intro c hc
    unfold Lib.decDigits at hc
    split at hc
    · rename_i h
      rw [List.mem_singleton.1 hc, of_dig n h]
      unfold digitB; simp; omega
    · rename_i h
      rcases List.mem_append.1 hc with hc | hc
      · exact ih (n / 10) (by omega) c hc
      · rw [List.mem_singleton.1 hc, of_dig _ (by omega)]
        unfold digitB; simp; omega
theorem dec_ne (n : Nat) : Lib.decDigits n ≠ [] := by
  unfold Lib.decDigits
  split <;> simp
theorem dec_digs : ∀ (n : Nat), digs 0 (Lib.decDigits n) = some n := by
  intro n
  induction n using Nat.strongRecOn with
  | _ n ih =>
    unfold Lib.decDigits
    split
    · rename_i h
      have hd : digitB (UInt8.ofNat (48 + n)).toNat = true := by rw [of_dig n h]; unfold digitB; simp; omega
      unfold digs; rw [if_pos hd]; unfold digs; rw [of_dig n h]; congr 1; omega
    · rename_i h
      have hd : digitB (UInt8.ofNat (48 + n % 10)).toNat = true := by rw [of_dig _ (by omega)]; unfold digitB; simp; omega
      rw [digs_snoc, ih (n / 10) (by omega)]
      show (if digitB _ = true then _ else _) = _
      rw [if_pos hd, of_dig _ (by omega)]; congr 1; omega
theorem dec_head : ∀ (n : Nat), 0 < n → ((Lib.decDigits n).headD 0).toNat ≠ 48 := by
  intro n
  induction n using Nat.strongRecOn with
  | _ n ih =>
    intro h0
    unfold Lib.decDigits
    split
    · rename_i h
      show (UInt8.ofNat (48 + n)).toNat ≠ 48
      rw [of_dig n h]; omega
    · rename_i h
      have := ih (n / 10) (by omega) (by omega)
      cases hd : Lib.decDigits (n / 10) with
      | nil => exact absurd hd (dec_ne _)
      | cons a l => rw [hd] at this; exact this
theorem itoa_dec {N : Int} (h0 : 0 ≤ N) : ∃ n : Nat, N = n ∧ Lib.itoa N = Lib.decDigits n := by
  obtain ⟨n, rfl⟩ := Int.eq_ofNat_of_zero_le h0
  exact ⟨n, rfl, by unfold Lib.itoa; rw [if_neg (by omega)]; rfl⟩
theorem dec_one {n : Nat} (h : 1 < (Lib.decDigits n).length) : 0 < n := by
  rcases Nat.eq_zero_or_pos n with rfl | h'
  · exfalso; unfold Lib.decDigits at h; simp at h
  · exact h'
theorem itoa_tok {N : Int} (h0 : 0 ≤ N) (h1 : N ≤ 1000000000) : numTok (str (Lib.itoa N)) = some N := by
  have hl := itoa_len h0 h1
  obtain ⟨n, rfl, e⟩ := itoa_dec h0
  rw [e] at hl ⊢
  have hz : (str (Lib.decDigits n)).size = (Lib.decDigits n).length := str_size _
  have hpos : 0 < (str (Lib.decDigits n)).size := by rw [hz]; exact List.length_pos_iff.2 (dec_ne n)
  have hh : (str (Lib.decDigits n))[0] ∈ Lib.decDigits n := by
    have := List.getElem_mem (l := Lib.decDigits n) (n := 0) (by omega)
    exact this
  have ha : amt (str (Lib.decDigits n)) = (n : Int) := by
    unfold amt
    rw [if_neg, str_list, dec_digs]
    · show (if 1000000000 < n then _ else _) = _
      rw [if_neg (by omega)]
    · rintro (h | ⟨h, h'⟩)
      · omega
      · rw [str_list] at h'
        exact dec_head n (dec_one (by omega)) h'
  rw [num_amt hpos (dec_dig n _ hh), ha, if_neg (by omega)]
theorem num_lx {N : Int} (h0 : 0 ≤ N) (h1 : N ≤ 1000000000) : LX (Lib.itoa N) [tkN N] := fun r L ha hl => by
  have ht := itoa_tok h0 h1
  obtain ⟨n, rfl, e⟩ := itoa_dec h0
  rw [e] at ht ⊢
  refine .num ?_ ?_ ht ha.stop hl
  · cases hd : Lib.decDigits n with
    | nil => exact absurd hd (dec_ne n)
    | cons a l => exact dec_dig n a (by rw [hd]; exact List.mem_cons_self ..)
  · exact List.all_eq_true.2 fun c hc => by unfold inWordB; rw [dec_dig n c hc]; simp
/-! Types. -/
theorem ty_lx {t : Ty} (h : RdTy t) : LX (tyShow t) (tyToks t) := by
  induction h with
  | int => intro r L ha hl; exact kw (w := [105, 110, 116]) (by kernel_rfl) ha.stop hl
  | car hi => rename_i nm; exact id_lx hi
  | set h ih =>
    rename_i t
    intro r L ha hl
    rw [toks_set, show tyShow (.mk 5 ⟨#[]⟩ [t]) = [115, 101, 116, 40] ++ tyShow t ++ [41] by simp [tyShow, tyShows, tyComb]]
    have := kw (w := [115, 101, 116]) (by kernel_rfl) (aft_cons (c := 40) (by decide) _).stop (sg (c := 40) (by kernel_rfl) (ih (41 :: r) _ (aft_cons (by decide) r) (sg (c := 41) (by kernel_rfl) hl)))
    simp at this ⊢; exact this
  | pair h h' ih ih' =>
    rename_i t u
    intro r L ha hl
    rw [toks_pair, show tyShow (.mk 4 ⟨#[]⟩ [t, u]) = [112, 97, 105, 114, 40] ++ tyShow t ++ [44, 32] ++ tyShow u ++ [41] by simp [tyShow, tyShows, tyComb]]
    have := kw (w := [112, 97, 105, 114]) (by kernel_rfl) (aft_cons (c := 40) (by decide) _).stop (sg (c := 40) (by kernel_rfl) (ih (44 :: 32 :: (tyShow u ++ 41 :: r)) _ (aft_cons (by decide) _) (sg (c := 44) (by kernel_rfl) (sp (ih' (41 :: r) _ (aft_cons (by decide) r) (sg (c := 41) (by kernel_rfl) hl))))))
    simp at this ⊢; exact this
/-! Terms. -/
def binLx (op : Int) : Bool := if keywordB (binS op) then wordOk (binS op).data.toList else signs.any (fun y => y.data.toList == (binS op).data.toList) && !(extB (binS op).data.toList).contains 32
theorem bin_lxs : binOps.all binLx = true := by kernel_rfl
theorem bin_lx {op : Int} (ho : op ∈ binOps) {r : List UInt8} {L : List TK} (h : LexL r L) : LexL ((binS op).data.toList ++ 32 :: r) (binTk op :: L) := by
  have K := List.all_eq_true.1 bin_lxs op ho
  unfold binLx at K
  unfold binTk
  cases hk : keywordB (binS op)
  · rw [hk] at K
    simp only [Bool.false_eq_true, if_false, Bool.and_eq_true, Bool.not_eq_true'] at K ⊢
    refine LexL.sign (sgn_mem K.1) (fun c hc => ?_) (sp h)
    cases hc
    intro hm
    have := List.contains_iff_mem.2 hm
    rw [K.2] at this; cases this
  · rw [hk] at K
    simp only [if_true] at K ⊢
    have := LexL.word (r := 32 :: r) (L := L) K (aft_cons (by decide) r).stop (Or.inl (by rw [str_data]; exact hk)) (sp h)
    rwa [str_data] at this
def opS (t : Tm) : List UInt8 := opd (t.op, tmShow t)
def hdA (A : List UInt8) : Prop := ∃ c l, A = c :: l ∧ c ≠ 45
theorem hdA.app {A : List UInt8} (h : hdA A) (B : List UInt8) : hdA (A ++ B) := by
  obtain ⟨c, l, rfl, hc⟩ := h
  exact ⟨c, l ++ B, rfl, hc⟩
structure LG (t : Tm) : Prop where
  lx : LX (tmShow t) (tmToks t)
  hd : hdA (opS t)
theorem LG.op {t : Tm} (h : LG t) : LX (opS t) (opTm t) := by
  unfold opS opd parS opTm opT
  cases hc : compB t.op
  · simp only [hc, Bool.false_eq_true, if_false]; exact h.lx
  · simp only [hc, if_true]
    intro r L ha hl
    have := sg (c := 40) (by kernel_rfl) (h.lx (41 :: r) _ (aft_cons (by decide) r) (sg (c := 41) (by kernel_rfl) hl))
    simp at this ⊢; exact this
theorem LG.comp {t : Tm} (hc : compB t.op = true) (h : LX (tmShow t) (tmToks t)) : LG t :=
  ⟨h, by unfold opS opd parS; simp only [hc, if_true]; exact ⟨40, _, rfl, by decide⟩⟩
theorem LG.plain {t : Tm} (hc : compB t.op = false) (hd : hdA (tmShow t)) (h : LX (tmShow t) (tmToks t)) : LG t :=
  ⟨h, by unfold opS opd parS; simp only [hc, Bool.false_eq_true, if_false]; exact hd⟩
theorem tok_bind {op : Int} {nm : ByteArray} {t u : Tm} (ho : op = 8 ∨ op = 9 ∨ op = 56) : tmToks (.mk op nm 0 ty0 [t, u]) = [tkW (bindW op)] ++ ([tkW nm] ++ ([tkW kIn] ++ (opTm t ++ ([tkS kDot] ++ tmToks u)))) := by
  rcases ho with rfl | rfl | rfl <;> simp [tmToks, tmTok, tmTokss, kidT, opTm]
theorem bin_ne {op : Int} (ho : op ∈ binOps) : op ≠ 1 ∧ op ≠ 2 ∧ op ≠ 19 ∧ op ≠ 20 ∧ op ≠ 29 ∧ op ≠ 3 ∧ op ≠ 21 ∧ op ≠ 8 ∧ op ≠ 9 ∧ op ≠ 56 ∧ op ≠ 55 ∧ op ≠ 54 ∧ op ≠ 53 ∧ op ≠ 52 ∧ op ≠ 28 ∧ ¬ (46 ≤ op ∧ op ≤ 51) := by
  have all : binOps.all (fun op => decide (op ≠ 1 ∧ op ≠ 2 ∧ op ≠ 19 ∧ op ≠ 20 ∧ op ≠ 29 ∧ op ≠ 3 ∧ op ≠ 21 ∧ op ≠ 8 ∧ op ≠ 9 ∧ op ≠ 56 ∧ op ≠ 55 ∧ op ≠ 54 ∧ op ≠ 53 ∧ op ≠ 52 ∧ op ≠ 28 ∧ ¬ (46 ≤ op ∧ op ≤ 51))) = true := by kernel_rfl
  exact of_decide_eq_true (List.all_eq_true.1 all op ho)
theorem tok_bin {op : Int} {t u : Tm} (ho : op ∈ binOps) : tmToks (nd op [t, u]) = opTm t ++ ([binTk op] ++ opTm u) := by
  obtain ⟨a1, a2, a3, a4, a5, a6, a7, a8, a9, a10, a11, a12, a13, a14, a15, a16⟩ := bin_ne ho
  simp only [tmToks, tmTok, nd, tmTokss, kidT, opTm]
  rw [if_neg a1, if_neg a2, if_neg a3, if_neg a4, if_neg a5, if_neg a6, if_neg a7, if_neg (by rintro (h | h | h) <;> contradiction), if_neg a11, if_neg a12, if_neg a13, if_neg a14, if_neg a15, if_neg a16]
  rfl
theorem show_bin {op : Int} {t u : Tm} (ho : op ∈ binOps) : tmShow (nd op [t, u]) = opS t ++ ([32] ++ (binS op).data.toList ++ [32]) ++ opS u := by
  obtain ⟨a1, a2, a3, a4, a5, a6, a7, a8, a9, a10, a11, a12, a13, a14, a15, a16⟩ := bin_ne ho
  simp only [tmShow, tmComb, nd, tmShows, kidA, opS]
  rw [if_neg a1, if_neg a2, if_neg a3, if_neg a4, if_neg a5, if_neg a6, if_neg a7, if_neg a8, if_neg a9, if_neg a10, if_neg a11, if_neg a12, if_neg a13, if_neg a14, if_neg a15, if_neg a16]
  rfl
theorem kws_lx {w r : List UInt8} {L : List TK} (hw : (wordOk w && keywordB (str w)) = true) (h : LexL r L) : LexL (w ++ 32 :: r) (tkW (str w) :: L) := kw hw (aft_cons (by decide) r).stop (sp h)
theorem dot_lx {r : List UInt8} {L : List TK} (h : LexL r L) : LexL (46 :: 32 :: r) (tkS kDot :: L) :=
  LexL.sign (x := kDot) (sgn_mem (by kernel_rfl)) (fun c hc => by cases hc; intro hm; have : (extB kDot.data.toList).contains 32 = false := by kernel_rfl
                                                                  rw [List.contains_iff_mem.2 hm] at this; cases this) (sp h)
theorem bar_lx {r : List UInt8} {L : List TK} (h : LexL r L) : LexL (124 :: 32 :: r) (tkS kBar :: L) :=
  LexL.sign (x := kBar) (sgn_mem (by kernel_rfl)) (fun c hc => by cases hc; intro hm; have : (extB kBar.data.toList).contains 32 = false := by kernel_rfl
                                                                  rw [List.contains_iff_mem.2 hm] at this; cases this) (sp h)
theorem in_lx {r : List UInt8} {L : List TK} (h : LexL r L) : LexL (105 :: 110 :: 32 :: r) (tkW kIn :: L) := kws_lx (w := [105, 110]) (by kernel_rfl) h
theorem aft32 (r : List UInt8) : aft (32 :: r) := aft_cons (by decide) r
theorem more_lx {l : List Tm} (hl : ∀ u, u ∈ l → LG u) {r : List UInt8} {L : List TK} (h : LexL (125 :: r) L) : LexL ((l.map fun u => [44, 32] ++ tmShow u).flatten ++ 125 :: r) (moreT (l.map tmToks) ++ L) := by
  induction l with
  | nil => exact h
  | cons u l ih =>
    have i := ih (fun v hv => hl v (List.mem_cons_of_mem _ hv))
    have ha : aft ((l.map fun u => [44, 32] ++ tmShow u).flatten ++ 125 :: r) := by
      cases l with
      | nil => exact aft_cons (by decide) r
      | cons v l => exact aft_cons (c := 44) (by decide) _
    have := sg (c := 44) (by kernel_rfl) (sp ((hl u (List.mem_cons_self ..)).lx _ _ ha i))
    simp [moreT] at this ⊢; exact this
theorem join_flat (t : Tm) (l : List Tm) : joinL (tmShows (t :: l)) = tmShow t ++ (l.map fun u => [44, 32] ++ tmShow u).flatten := by
  induction l generalizing t with
  | nil => simp [tmShows, joinL]
  | cons u l ih =>
    have := ih u
    rw [show tmShows (t :: u :: l) = (t.op, tmShow t) :: tmShows (u :: l) by rw [tmShows]]
    have e : joinL ((t.op, tmShow t) :: tmShows (u :: l)) = tmShow t ++ [44, 32] ++ joinL (tmShows (u :: l)) := by
      rw [show tmShows (u :: l) = (u.op, tmShow u) :: tmShows l by rw [tmShows]]; rfl
    rw [e, this]; simp
theorem rd_lx {t : Tm} (h : RdTm t) : LG t := by
  induction h with
  | tru => exact .plain (by kernel_rfl) ⟨_, _, rfl, by decide⟩ fun r L ha hl => kw (w := [116, 114, 117, 101]) (by kernel_rfl) ha.stop hl
  | fls => exact .plain (by kernel_rfl) ⟨_, _, rfl, by decide⟩ fun r L ha hl => kw (w := [102, 97, 108, 115, 101]) (by kernel_rfl) ha.stop hl
  | int h0 h1 =>
    rename_i N
    refine .plain (show compB 19 = false by kernel_rfl) ?_ (num_lx h0 h1)
    show hdA (Lib.itoa N)
    obtain ⟨n, rfl, e⟩ := itoa_dec h0
    rw [e]
    cases hd : Lib.decDigits n with
    | nil => exact absurd hd (dec_ne n)
    | cons a l =>
      refine ⟨a, l, rfl, ?_⟩
      rintro rfl
      have := dec_dig n 45 (by rw [hd]; exact List.mem_cons_self ..)
      cases this
  | name h =>
    rename_i nm
    refine .plain (show compB 20 = false by kernel_rfl) ?_ (named_lx h)
    show hdA nm.data.toList
    cases hd : nm.data.toList with
    | nil =>
      have : nm = ⟨#[]⟩ := by apply ba_ext; rw [hd]
      subst this
      have : namedB ⟨#[]⟩ = false := by kernel_rfl
      rw [this] at h; cases h
    | cons a l =>
      refine ⟨a, l, rfl, ?_⟩
      rintro rfl
      unfold namedB at h
      have hw := ident_ok h
      unfold wordOk at hw
      simp only [Bool.and_eq_true] at hw
      have hne : (trimQ nm).data.toList.headD 0 = 45 ∨ (trimQ nm).data.toList = [] := by
        unfold trimQ Lib.trimSuffix
        rw [hd]
        split
        · cases l with
          | nil => right; simp
          | cons b l => left; simp
        · left; rfl
      rcases hne with e | e
      · rw [e] at hw; exact absurd hw.1.1 (by decide)
      · rw [e] at hw; exact absurd hw.1.1 (by decide)
  | empty h =>
    rename_i ty
    have e : tmToks (.mk 29 nil0 0 ty []) = [tkS kLcu] ++ ([tkS kRcu] ++ ([tkS kLbr] ++ (tyToks ty ++ [tkS kRbr]))) := by simp [tmToks, tmTok]
    have e2 : tmShow (.mk 29 nil0 0 ty []) = [123, 125, 91] ++ tyShow ty ++ [93] := by simp [tmShow, tmComb]
    refine .plain (show compB 29 = false by kernel_rfl) (by rw [e2]; exact ⟨123, _, rfl, by decide⟩) fun r L ha hl => ?_
    rw [e, e2]
    have := sg (c := 123) (by kernel_rfl) (sg (c := 125) (by kernel_rfl) (sg (c := 91) (by kernel_rfl) (ty_lx h (93 :: r) _ (aft_cons (by decide) r) (sg (c := 93) (by kernel_rfl) hl))))
    simp at this ⊢; exact this
  | not h ih =>
    rename_i t
    have e : tmToks (nd 3 [t]) = [tkW kNot] ++ opTm t := by simp [tmToks, tmTok, nd, tmTokss, kidT, opTm]
    have e2 : tmShow (nd 3 [t]) = [110, 111, 116, 32] ++ opS t := by simp [tmShow, tmComb, nd, tmShows, kidA, opS]
    refine .comp (show compB 3 = true by kernel_rfl) fun r L ha hl => ?_
    rw [e, e2]
    have := kws_lx (w := [110, 111, 116]) (by kernel_rfl) (ih.op r L ha hl)
    simp at this ⊢; exact this
  | neg h ih =>
    rename_i t
    have e : tmToks (nd 21 [t]) = [tkS kMinus] ++ opTm t := by simp [tmToks, tmTok, nd, tmTokss, kidT, opTm]
    have e2 : tmShow (nd 21 [t]) = [45] ++ opS t := by simp [tmShow, tmComb, nd, tmShows, kidA, opS]
    refine .comp (show compB 21 = true by kernel_rfl) fun r L ha hl => ?_
    rw [e, e2]
    have := LexL.sign (x := kMinus) (r := opS t ++ r) (sgn_mem (by kernel_rfl)) (fun c hc => by
      obtain ⟨d, l, hd, hn⟩ := ih.hd
      rw [hd] at hc
      cases hc
      rw [show extB kMinus.data.toList = [45] by kernel_rfl]
      simpa using hn) (ih.op r L ha hl)
    simp at this ⊢; exact this
  | bin ho h h' ih ih' =>
    rename_i op t u
    have K := bin_ok ho
    refine .comp K.comp fun r L ha hl => ?_
    rw [tok_bin ho, show_bin ho]
    have := ih.op _ _ (aft32 _) (sp (bin_lx ho (ih'.op r L ha hl)))
    simp at this ⊢; exact this
  | bind ho hn h h' ih ih' =>
    rename_i op nm t u
    refine .comp (by show compB op = true; rcases ho with rfl | rfl | rfl <;> kernel_rfl) fun r L ha hl => ?_
    rw [tok_bind ho]
    have tail := id_lx hn _ _ (aft32 _) (sp (in_lx (ih.op _ _ (aft32 _) (sp (dot_lx (ih'.lx r L ha hl))))))
    rcases ho with rfl | rfl | rfl
    · rw [show tmShow (.mk 8 nm 0 ty0 [t, u]) = ([102, 111, 114, 97, 108, 108, 32] : List UInt8) ++ (nm.data.toList ++ ([32, 105, 110, 32] : List UInt8) ++ opS t) ++ ([32, 46, 32] : List UInt8) ++ tmShow u by simp [tmShow, tmComb, tmShows, kidA, opS]]
      have := kws_lx (w := [102, 111, 114, 97, 108, 108]) (by kernel_rfl) tail
      simp at this ⊢; exact this
    · rw [show tmShow (.mk 9 nm 0 ty0 [t, u]) = ([101, 120, 105, 115, 116, 115, 32] : List UInt8) ++ (nm.data.toList ++ ([32, 105, 110, 32] : List UInt8) ++ opS t) ++ ([32, 46, 32] : List UInt8) ++ tmShow u by simp [tmShow, tmComb, tmShows, kidA, opS]]
      have := kws_lx (w := [101, 120, 105, 115, 116, 115]) (by kernel_rfl) tail
      simp at this ⊢; exact this
    · rw [show tmShow (.mk 56 nm 0 ty0 [t, u]) = ([102, 117, 110, 32] : List UInt8) ++ (nm.data.toList ++ ([32, 105, 110, 32] : List UInt8) ++ opS t) ++ ([32, 46, 32] : List UInt8) ++ tmShow u by simp [tmShow, tmComb, tmShows, kidA, opS]]
      have := kws_lx (w := [102, 117, 110]) (by kernel_rfl) tail
      simp at this ⊢; exact this
  | compr hn h h' ih ih' =>
    rename_i nm t u
    have e : tmToks (.mk 55 nm 0 ty0 [t, u]) = [tkS kLcu] ++ (([tkW nm] ++ ([binTk 16] ++ opTm t)) ++ ([tkS kBar] ++ (tmToks u ++ [tkS kRcu]))) := by simp [tmToks, tmTok, tmTokss, kidT, opTm]
    have e2 : tmShow (.mk 55 nm 0 ty0 [t, u]) = ([123] : List UInt8) ++ (nm.data.toList ++ ([32, 105, 110, 32] : List UInt8) ++ opS t) ++ ([32, 124, 32] : List UInt8) ++ tmShow u ++ ([125] : List UInt8) := by simp [tmShow, tmComb, tmShows, kidA, opS]
    refine .plain (show compB 55 = false by kernel_rfl) (by rw [e2]; exact ⟨123, _, rfl, by decide⟩) fun r L ha hl => ?_
    rw [e, e2, show binTk 16 = tkW kIn by kernel_rfl]
    have := sg (c := 123) (by kernel_rfl) (id_lx hn _ _ (aft32 _) (sp (in_lx (ih.op _ _ (aft32 _) (sp (bar_lx (ih'.lx (125 :: r) _ (aft_cons (by decide) r) (sg (c := 125) (by kernel_rfl) hl))))))))
    simp at this ⊢; exact this
  | fn ho h ih =>
    rename_i op t
    have e : tmToks (nd op [t]) = [tkW (keyS op)] ++ ([tkS kLpar] ++ (tmToks t ++ [tkS kRpar])) := by
      rcases ho with rfl | rfl | rfl | rfl | rfl | rfl <;> simp [tmToks, tmTok, nd, tmTokss, kidT]
    have e2 : tmShow (nd op [t]) = (keyS op).data.toList ++ ([40] : List UInt8) ++ tmShow t ++ ([41] : List UInt8) := by
      rcases ho with rfl | rfl | rfl | rfl | rfl | rfl <;> simp [tmShow, tmComb, nd, tmShows, kidA]
    have hw : (wordOk (keyS op).data.toList && keywordB (str (keyS op).data.toList)) = true := by rcases ho with rfl | rfl | rfl | rfl | rfl | rfl <;> kernel_rfl
    refine .plain (by show compB op = false; rcases ho with rfl | rfl | rfl | rfl | rfl | rfl <;> kernel_rfl) ?_ fun r L ha hl => ?_
    · rw [e2]
      rcases ho with rfl | rfl | rfl | rfl | rfl | rfl <;> exact ⟨_, _, rfl, by decide⟩
    · rw [e, e2]
      have := kw hw (aft_cons (c := 40) (by decide) _).stop (sg (c := 40) (by kernel_rfl) (ih.lx (41 :: r) _ (aft_cons (by decide) r) (sg (c := 41) (by kernel_rfl) hl)))
      rw [str_data] at this
      simp at this ⊢; exact this
  | app h h' ih ih' =>
    rename_i t u
    have e : tmToks (nd 54 [t, u]) = opTm t ++ ([tkS kLpar] ++ (tmToks u ++ [tkS kRpar])) := by simp [tmToks, tmTok, nd, tmTokss, kidT, opTm]
    have e2 : tmShow (nd 54 [t, u]) = opS t ++ ([40] : List UInt8) ++ tmShow u ++ ([41] : List UInt8) := by simp [tmShow, tmComb, nd, tmShows, kidA, opS]
    refine .plain (show compB 54 = false by kernel_rfl) (by rw [e2, List.append_assoc, List.append_assoc]; exact ih.hd.app _) fun r L ha hl => ?_
    rw [e, e2]
    have := ih.op _ _ (aft_cons (c := 40) (by decide) _) (sg (c := 40) (by kernel_rfl) (ih'.lx (41 :: r) _ (aft_cons (by decide) r) (sg (c := 41) (by kernel_rfl) hl)))
    simp at this ⊢; exact this
  | img h h' ih ih' =>
    rename_i t u
    have e : tmToks (nd 53 [t, u]) = opTm t ++ ([tkS kLbr] ++ (tmToks u ++ [tkS kRbr])) := by simp [tmToks, tmTok, nd, tmTokss, kidT, opTm]
    have e2 : tmShow (nd 53 [t, u]) = opS t ++ ([91] : List UInt8) ++ tmShow u ++ ([93] : List UInt8) := by simp [tmShow, tmComb, nd, tmShows, kidA, opS]
    refine .plain (show compB 53 = false by kernel_rfl) (by rw [e2, List.append_assoc, List.append_assoc]; exact ih.hd.app _) fun r L ha hl => ?_
    rw [e, e2]
    have := ih.op _ _ (aft_cons (c := 91) (by decide) _) (sg (c := 91) (by kernel_rfl) (ih'.lx (93 :: r) _ (aft_cons (by decide) r) (sg (c := 93) (by kernel_rfl) hl)))
    simp at this ⊢; exact this
  | inv h ih =>
    rename_i t
    have e : tmToks (nd 52 [t]) = opTm t ++ [tkS kTilde] := by simp [tmToks, tmTok, nd, tmTokss, kidT, opTm]
    have e2 : tmShow (nd 52 [t]) = opS t ++ ([126] : List UInt8) := by simp [tmShow, tmComb, nd, tmShows, kidA, opS]
    refine .plain (show compB 52 = false by kernel_rfl) (by rw [e2]; exact ih.hd.app _) fun r L ha hl => ?_
    rw [e, e2]
    have := ih.op _ _ (aft_cons (c := 126) (by decide) _) (sg (c := 126) (by kernel_rfl) hl)
    simp at this ⊢; exact this
  | set h h' ih ih' =>
    rename_i t l
    have e : tmToks (nd 28 (t :: l)) = [tkS kLcu] ++ ((tmToks t ++ moreT (l.map tmToks)) ++ [tkS kRcu]) := by
      simp [tmToks, tmTok, nd, tmTokss, joinT, tokss_map]
    have e2 : tmShow (nd 28 (t :: l)) = ([123] : List UInt8) ++ (tmShow t ++ (l.map fun u => [44, 32] ++ tmShow u).flatten) ++ ([125] : List UInt8) := by
      rw [← join_flat]; simp [tmShow, tmComb, nd]
    refine .plain (show compB 28 = false by kernel_rfl) (by rw [e2]; exact ⟨123, _, rfl, by decide⟩) fun r L ha hl => ?_
    rw [e, e2]
    have hm := more_lx ih' (r := r) (sg (c := 125) (by kernel_rfl) hl)
    have ha2 : aft ((l.map fun u => [44, 32] ++ tmShow u).flatten ++ 125 :: r) := by
      cases l with
      | nil => exact aft_cons (by decide) r
      | cons v l => exact aft_cons (c := 44) (by decide) _
    have := sg (c := 123) (by kernel_rfl) (ih.lx _ _ ha2 hm)
    simp at this ⊢; exact this
def LiesT (o n : Nat) (t : Ty) (w : World) : Prop := ∃ tk, Blk w o 24 [.int .i64 t.kind, .string t.name, tk] ∧ TyL (fun k => n ≤ k) w t.kids tk
theorem k3s {w W : World} {S : Nat → Prop} {R : Nat} {x y z : Value} (h : Kept S w W) (hR : S R) : Kept S w (((W.setCell ⟨R, 0, none⟩ x).setCell ⟨R, 1, none⟩ y).setCell ⟨R, 2, none⟩ z) :=
  ((h.setCell (p := ⟨R, 0, none⟩) (Or.inl hR) x).setCell (p := ⟨R, 1, none⟩) (Or.inl hR) y).setCell (p := ⟨R, 2, none⟩) (Or.inl hR) z
set_option maxRecDepth 100000 in
set_option maxHeartbeats 4000000 in
theorem typ1_any {b o f : Nat} {s : ByteArray} {σ : PS} {w : World} {z : List Value} (h : PW w b s σ) (hf : mu s σ < f) (hz : z.length = 3) (ho : Blk w o 24 z) (hob : o ≠ b) (ho2 : 2 ≤ o) :
    Calls Tryz.prog 41 #[.pointer (some ⟨b, 0, none⟩), .pointer (some ⟨o, 0, none⟩)] w (CPost b s (fun k => k = b ∨ k = o) (LiesT o w.heap.size) (typedS f s σ) w) := by
  have hlt := h.lt
  have holt := ho.lt
  go_enter Tryz.func41, Tryz.ntmps41
  go_wp2_with fail
  refine (typed_any f σ w h hf).mono ?_
  rintro e w1 hr
  cases h_1 : typedS f s σ with
  | error r =>
    obtain ⟨rfl, k1⟩ := hr.getErr h_1
    go_wp2_with fail
    exact ⟨rfl, CPost.err h_1 ⟨rfl, k1.mono (fun _ _ h => Or.inl h)⟩⟩
  | ok q =>
    obtain ⟨t, σ1⟩ := q
    obtain ⟨v, rfl, ⟨tk, rfl, at1⟩, p1, k1⟩ := hr.getOk h_1
    clear hr
    obtain ⟨ta1, tn1, tc1, rfl⟩ := at1.slice
    unfold tyVal
    have hO := ho.kept k1 (by show ¬ o = b; exact hob)
    have HZ := Lib.hid hz
    clear hz
    have g : ∀ i, i < 3 → ∃ u, w1.cell? ⟨o, i, none⟩ = some u := by
      intro i hi
      exact ⟨z[i]'(by rw [HZ.out]; exact hi), by rw [hO.cell i]; exact List.getElem?_eq_getElem _⟩
    obtain ⟨u0, g0⟩ := g 0 (by decide)
    obtain ⟨u1, g1⟩ := g 1 (by decide)
    obtain ⟨u2, g2⟩ := g 2 (by decide)
    clear g
    have f0 := hO.frozen 0
    have f1 := hO.frozen 1
    have f2 := hO.frozen 2
    go_wp2_with fail
    go_end0
    have hR := r3 (x := .int .i64 t.kind) (y := .string t.name) (z := .slice ta1 tn1 tc1) hO HZ.out
    exact CPost.ok h_1 ⟨rfl, ⟨_, hR, at1.frame (same3 holt)⟩, p3w p1 hob ho2, k3s (k1.mono (fun _ _ h => Or.inl h)) (Or.inr rfl)⟩
set_option maxRecDepth 100000 in
set_option maxHeartbeats 4000000 in
theorem readT_any {α : Type} {o : Nat} {s : ByteArray} {F : PS → Except ER (α × PS)} {V : α → World → Prop} {w : World} (hs : s.size ≤ 65536) (hgl : Gl w) (ho : o < w.heap.size) (ho2 : 2 ≤ o)
    (hC : ∀ σ1 w1, PW w1 (w.heap.size + 2) s σ1 → Kept (fun _ => False) w w1 → w.heap.size + 3 ≤ w1.heap.size → advS s ps0 = .ok σ1 → Calls Tryz.prog 41 #[.pointer (some ⟨w.heap.size + 2, 0, none⟩), .pointer (some ⟨o, 0, none⟩)] w1 (CPost (w.heap.size + 2) s (fun k => k = w.heap.size + 2 ∨ k = o) V (F σ1) w1))
    (hV : ∀ a w2 w3, V a w2 → w.heap.size + 3 ≤ w2.heap.size → Kept (fun k => k = w.heap.size ∨ k = w.heap.size + 1) w2 w3 → V a w3) :
    Calls Tryz.prog 31 #[.string s, .func (.func 41) #[] #[.pointer (some ⟨o, 0, none⟩)]] w fun e w' =>
      e = .returned (.tuple #[.int .i64 (rdAt (wholeF s F)), .int .i64 (rdE (wholeF s F))]) ∧ Kept (· = o) w w' ∧ ∀ a σ2, wholeF s F = .ok (a, σ2) → V a w' := by
  have hmf : ∀ (fn : Fn) (first cap : Array Value) (w : World), (Instr.makeFunc fn first cap).run Tryz.prog w = .ok (.func fn first cap) w := fun _ _ _ _ => rfl
  have HC := Lib.hid hC
  have HV := Lib.hid hV
  clear hC hV
  have hgt := hgl.lt
  have i1 : (s.size : Int) ≤ 65536 := by omega
  have h0 : PW (((w.alloc (.cells #[.int .i64 0] 3)).alloc (.cells #[.int .i64 0] 28)).alloc (.cells #[.string s, .int .i64 0, .int .i64 0, .string ⟨#[]⟩, .int .i64 0, .int .i64 0, .int .i64 0] 86)) (w.heap.size + 2) s ps0 :=
    ⟨Blk.new' 86 _ (by simp), Nat.zero_le _, Nat.zero_le _, hs, by omega, ((hgl.alloc _).alloc _).alloc _, Nat.zero_le _⟩
  have K0 : Kept (fun _ => False) w (((w.alloc (.cells #[.int .i64 0] 3)).alloc (.cells #[.int .i64 0] 28)).alloc (.cells #[.string s, .int .i64 0, .int .i64 0, .string ⟨#[]⟩, .int .i64 0, .int .i64 0, .int .i64 0] 86)) := (((Kept.refl _ _).alloc _).alloc _).alloc _
  have bA : Blk (((w.alloc (.cells #[.int .i64 0] 3)).alloc (.cells #[.int .i64 0] 28)).alloc (.cells #[.string s, .int .i64 0, .int .i64 0, .string ⟨#[]⟩, .int .i64 0, .int .i64 0, .int .i64 0] 86)) w.heap.size 3 [.int .i64 0] := ((Blk.new w 3 [.int .i64 0]).alloc _).alloc _
  have bE : Blk (((w.alloc (.cells #[.int .i64 0] 3)).alloc (.cells #[.int .i64 0] 28)).alloc (.cells #[.string s, .int .i64 0, .int .i64 0, .string ⟨#[]⟩, .int .i64 0, .int .i64 0, .int .i64 0] 86)) (w.heap.size + 1) 28 [.int .i64 0] := (Blk.new' 28 [.int .i64 0] (by simp)).alloc _
  go_enter_defers Tryz.func31, Tryz.ntmps31
  go_wp2_with fail
  cases hadv : advS s ps0 with
  | error r =>
    have hw : Hid (wholeF s F = .error r) := Lib.hid (by unfold wholeF; rw [hadv]; rfl)
    refine (adv_err h0 hadv).mono ?_
    rintro e w1 ⟨rfl, k1⟩
    have a1 := bA.kept k1 (by show ¬ w.heap.size = w.heap.size + 2; omega)
    have e1 := bE.kept k1 (by show ¬ w.heap.size + 1 = w.heap.size + 2; omega)
    have K1 : Kept (· = o) w w1 := (K0.mono (T := (· = o)) (fun _ _ h => h.elim)).via k1 (fun x hx h => by omega)
    go_wp2_with fail
    refine leaves_cons (f := 62) (args := #[.pointer (some ⟨w.heap.size, 0, none⟩), .pointer (some ⟨w.heap.size + 1, 0, none⟩)]) (by simp) (by simp [go_sem]) ?_
    refine (rd_err (r := r) w.heap.size (w.heap.size + 1) 0 0 _ a1.lt e1.lt (by omega) (a1.cell 0) (e1.cell 0) (a1.frozen 0) (e1.frozen 0)).mono ?_
    rintro e u' w'' ⟨rfl, ⟨v, rfl⟩, ob, rfl⟩
    have a2 := ((a1.set 0 (.int .i64 r.2)).set_other ⟨w.heap.size + 1, 0, none⟩ (.int .i64 (if r.1 then 4 else 2)) (by show w.heap.size ≠ w.heap.size + 1; omega)).alloc ob
    have e2 := ((e1.set_other ⟨w.heap.size, 0, none⟩ (.int .i64 r.2) (by show w.heap.size + 1 ≠ w.heap.size; omega)).set 0 (.int .i64 (if r.1 then 4 else 2))).alloc ob
    refine ⟨_, results_cc Tryz.results31 rfl rfl (load_i a2) (load_e e2), ?_, ?_, ?_⟩
    · rw [hw.out]; rfl
    · exact ((K1.setCell (p := ⟨w.heap.size, 0, none⟩) (Or.inr (Nat.le_refl _)) _).setCell (p := ⟨w.heap.size + 1, 0, none⟩) (Or.inr (by show w.heap.size ≤ w.heap.size + 1; omega)) _).alloc ob
    · intro a σ2 h; rw [hw.out] at h; cases h
  | ok σ1 =>
    refine (adv_ok h0 hadv).mono ?_
    rintro e w1 ⟨rfl, p1, k1⟩
    have a1 := bA.kept k1 (by show ¬ w.heap.size = w.heap.size + 2; omega)
    have e1 := bE.kept k1 (by show ¬ w.heap.size + 1 = w.heap.size + 2; omega)
    have K1 : Kept (fun _ => False) w w1 := K0.via k1 (fun x hx h => by omega)
    have z1 := p1.lt
    go_wp2_with fail
    refine (HC.out σ1 w1 p1 K1 z1 hadv).mono ?_
    rintro e w2 hr
    cases hF : F σ1 with
    | error r =>
      have hw : Hid (wholeF s F = .error r) := Lib.hid (by unfold wholeF; rw [hadv]; show bT (F σ1) _ = _; rw [hF]; rfl)
      obtain ⟨rfl, k2⟩ := hr.getErr hF
      clear hr
      have a2 := a1.kept k2 (by show ¬ (w.heap.size = w.heap.size + 2 ∨ w.heap.size = o); omega)
      have e2 := e1.kept k2 (by show ¬ (w.heap.size + 1 = w.heap.size + 2 ∨ w.heap.size + 1 = o); omega)
      have K2 : Kept (· = o) w w2 := (K1.mono (T := (· = o)) (fun _ _ h => h.elim)).via k2 (fun x hx h => by omega)
      go_wp2_with fail
      refine leaves_cons (f := 62) (args := #[.pointer (some ⟨w.heap.size, 0, none⟩), .pointer (some ⟨w.heap.size + 1, 0, none⟩)]) (by simp) (by simp [go_sem]) ?_
      refine (rd_err (r := r) w.heap.size (w.heap.size + 1) 0 0 _ a2.lt e2.lt (by omega) (a2.cell 0) (e2.cell 0) (a2.frozen 0) (e2.frozen 0)).mono ?_
      rintro e u' w'' ⟨rfl, ⟨v, rfl⟩, ob, rfl⟩
      have a3 := ((a2.set 0 (.int .i64 r.2)).set_other ⟨w.heap.size + 1, 0, none⟩ (.int .i64 (if r.1 then 4 else 2)) (by show w.heap.size ≠ w.heap.size + 1; omega)).alloc ob
      have e3 := ((e2.set_other ⟨w.heap.size, 0, none⟩ (.int .i64 r.2) (by show w.heap.size + 1 ≠ w.heap.size; omega)).set 0 (.int .i64 (if r.1 then 4 else 2))).alloc ob
      refine ⟨_, results_cc Tryz.results31 rfl rfl (load_i a3) (load_e e3), ?_, ?_, ?_⟩
      · rw [hw.out]; rfl
      · exact ((K2.setCell (p := ⟨w.heap.size, 0, none⟩) (Or.inr (Nat.le_refl _)) _).setCell (p := ⟨w.heap.size + 1, 0, none⟩) (Or.inr (by show w.heap.size ≤ w.heap.size + 1; omega)) _).alloc ob
      · intro a σ2 h; rw [hw.out] at h; cases h
    | ok q =>
      obtain ⟨a, σ2⟩ := q
      obtain ⟨rfl, v2, p2, k2⟩ := hr.getOk hF
      clear hr
      have a2 := a1.kept k2 (by show ¬ (w.heap.size = w.heap.size + 2 ∨ w.heap.size = o); omega)
      have e2 := e1.kept k2 (by show ¬ (w.heap.size + 1 = w.heap.size + 2 ∨ w.heap.size + 1 = o); omega)
      have K2 : Kept (· = o) w w2 := (K1.mono (T := (· = o)) (fun _ _ h => h.elim)).via k2 (fun x hx h => by omega)
      have c2 := p2.kd
      have z2 := p2.lt
      cases hk : (σ2.k == 0)
      · have hw : Hid (wholeF s F = .error (false, σ2.ta)) := Lib.hid (by unfold wholeF; rw [hadv]; show bT (F σ1) _ = _; rw [hF]; exact if_neg (ne_of_beq_false hk))
        go_wp2_with fail
        refine (fail_any p2).mono ?_
        rintro e w' ⟨rfl, rfl⟩
        go_wp2_with fail
        refine leaves_cons (f := 62) (args := #[.pointer (some ⟨w.heap.size, 0, none⟩), .pointer (some ⟨w.heap.size + 1, 0, none⟩)]) (by simp) (by simp [go_sem]) ?_
        refine (rd_err (r := (false, σ2.ta)) w.heap.size (w.heap.size + 1) 0 0 _ a2.lt e2.lt (by omega) (a2.cell 0) (e2.cell 0) (a2.frozen 0) (e2.frozen 0)).mono ?_
        rintro e u' w'' ⟨rfl, ⟨v, rfl⟩, ob, rfl⟩
        have a3 := ((a2.set 0 (.int .i64 σ2.ta)).set_other ⟨w.heap.size + 1, 0, none⟩ (.int .i64 (if false then 4 else 2)) (by show w.heap.size ≠ w.heap.size + 1; omega)).alloc ob
        have e3 := ((e2.set_other ⟨w.heap.size, 0, none⟩ (.int .i64 σ2.ta) (by show w.heap.size + 1 ≠ w.heap.size; omega)).set 0 (.int .i64 (if false then 4 else 2))).alloc ob
        refine ⟨_, results_cc Tryz.results31 rfl rfl (load_i a3) (load_e e3), ?_, ?_, ?_⟩
        · rw [hw.out]; rfl
        · exact ((K2.setCell (p := ⟨w.heap.size, 0, none⟩) (Or.inr (Nat.le_refl _)) _).setCell (p := ⟨w.heap.size + 1, 0, none⟩) (Or.inr (by show w.heap.size ≤ w.heap.size + 1; omega)) _).alloc ob
        · intro a σ2 h; rw [hw.out] at h; cases h
      · have hw : Hid (wholeF s F = .ok (a, σ2)) := Lib.hid (by unfold wholeF; rw [hadv]; show bT (F σ1) _ = _; rw [hF]; exact if_pos (eq_of_beq hk))
        have ca := a2.cell 0
        have ce := e2.cell 0
        have fa := a2.frozen 0
        have fe := e2.frozen 0
        go_wp2_with fail
        refine leaves_cons (f := 62) (args := #[.pointer (some ⟨w.heap.size, 0, none⟩), .pointer (some ⟨w.heap.size + 1, 0, none⟩)]) (by simp) (by simp [go_sem]) ?_
        refine (rd_idle w.heap.size (w.heap.size + 1) _).mono ?_
        rintro e u' w'' ⟨rfl, rfl, rfl⟩
        have a3 := (a2.set 0 (.int .i64 0)).set_other ⟨w.heap.size + 1, 0, none⟩ (.int .i64 0) (by show w.heap.size ≠ w.heap.size + 1; omega)
        have e3 := (e2.set_other ⟨w.heap.size, 0, none⟩ (.int .i64 0) (by show w.heap.size + 1 ≠ w.heap.size; omega)).set 0 (.int .i64 0)
        refine ⟨_, results_cc Tryz.results31 rfl rfl (load_i a3) (load_e e3), ?_, ?_, ?_⟩
        · rw [hw.out]; rfl
        · exact (K2.setCell (p := ⟨w.heap.size, 0, none⟩) (Or.inr (Nat.le_refl _)) _).setCell (p := ⟨w.heap.size + 1, 0, none⟩) (Or.inr (by show w.heap.size ≤ w.heap.size + 1; omega)) _
        · intro a' σ' h
          rw [hw.out] at h
          cases h
          exact HV.out a w2 _ v2 z2 (((Kept.refl _ _).setCell (p := ⟨w.heap.size, 0, none⟩) (Or.inl (Or.inl rfl)) _).setCell (p := ⟨w.heap.size + 1, 0, none⟩) (Or.inl (Or.inr rfl)) _)
def ptQ (f : Nat) (s : ByteArray) : Except ER (Ty × PS) := wholeF s (typedS f s)
def ptT (f : Nat) (s : ByteArray) : Ty := if 65536 < s.size then ty0 else match ptQ f s with | .error _ => ty0 | .ok q => if validTyB q.1 then q.1 else ty0
def ptA (f : Nat) (s : ByteArray) : Int := if 65536 < s.size then 0 else rdAt (ptQ f s)
def ptE (f : Nat) (s : ByteArray) : Int := if 65536 < s.size then 3 else match ptQ f s with | .error r => if r.1 then 4 else 2 | .ok q => if validTyB q.1 then 0 else 5
def PtP (f : Nat) (s : ByteArray) (w : World) (e : Ending) (w' : World) : Prop := ∃ tv, e = .returned (.tuple #[tv, .int .i64 (ptA f s), .int .i64 (ptE f s)]) ∧ VTy w.heap.size (ptT f s) w' tv ∧ Kept (fun _ => False) w w'
theorem sm_wholeT {f : Nat} {s : ByteArray} {t : Ty} {σ : PS} (hs : s.size ≤ 65536) (h : ptQ f s = .ok (t, σ)) : SmTy 65536 t := by
  unfold ptQ wholeF at h
  cases h1 : advS s ps0 with
  | error r => rw [h1] at h; cases h
  | ok σ1 =>
    rw [h1] at h
    simp only [bP] at h
    cases h2 : typedS f s σ1 with
    | error r => rw [h2] at h; cases h
    | ok q =>
      obtain ⟨t2, σ2⟩ := q
      rw [h2] at h
      simp only [bT] at h
      split at h
      · cases h
        exact (sm_typed hs f (st_adv hs ⟨Nat.zero_le _, Nat.zero_le _⟩ h1) h2).1
      · cases h
set_option maxRecDepth 100000 in
set_option maxHeartbeats 8000000 in
theorem parseTy_any {f : Nat} {s : ByteArray} {w : World} (hf : s.size + 2 < f) (hs2 : s.size ≤ 9223372036854775807) (hgl : Gl w) : Calls Tryz.prog 15 #[.string s] w (PtP f s w) := by
  have hmf : ∀ (fn : Fn) (first cap : Array Value) (w : World), (Instr.makeFunc fn first cap).run Tryz.prog w = .ok (.func fn first cap) w := fun _ _ _ _ => rfl
  have hgt := hgl.lt
  have bR : Blk ((w.alloc (.cells #[.int .i64 0, .string ⟨#[]⟩, .slice none 0 0] 24)).alloc (.cells #[.int .i64 0, .string ⟨#[]⟩, .slice none 0 0] 24)) w.heap.size 24 z24 := (Blk.new w 24 _).alloc _
  have bO : Blk ((w.alloc (.cells #[.int .i64 0, .string ⟨#[]⟩, .slice none 0 0] 24)).alloc (.cells #[.int .i64 0, .string ⟨#[]⟩, .slice none 0 0] 24)) (w.heap.size + 1) 24 z24 := Blk.new' 24 _ (by simp)
  have K0 : Kept (fun _ => False) w ((w.alloc (.cells #[.int .i64 0, .string ⟨#[]⟩, .slice none 0 0] 24)).alloc (.cells #[.int .i64 0, .string ⟨#[]⟩, .slice none 0 0] 24)) := ((Kept.refl _ _).alloc _).alloc _
  have G0 : Gl ((w.alloc (.cells #[.int .i64 0, .string ⟨#[]⟩, .slice none 0 0] 24)).alloc (.cells #[.int .i64 0, .string ⟨#[]⟩, .slice none 0 0] 24)) := (hgl.alloc _).alloc _
  have Z0 : Hid (((w.alloc (.cells #[.int .i64 0, .string ⟨#[]⟩, .slice none 0 0] 24)).alloc (.cells #[.int .i64 0, .string ⟨#[]⟩, .slice none 0 0] 24)).heap.size = w.heap.size + 2) := Lib.hid (by simp)
  by_cases hs : 65536 < s.size
  · have HA : Hid (ptA f s = 0) := Lib.hid (if_pos hs)
    have HE : Hid (ptE f s = 3) := Lib.hid (if_pos hs)
    have HT : Hid (ptT f s = ty0) := Lib.hid (if_pos hs)
    go_enter Tryz.func15, Tryz.ntmps15
    go_wp2_with fail
    refine (read_long hs hs2).mono ?_
    rintro e w1 ⟨rfl, k1⟩
    have bR1 := bR.kept k1 (fun h => h)
    have K1 := K0.trans k1
    have r0 : w1.cell? ⟨w.heap.size, 0, none⟩ = some (.int .i64 0) := bR1.cell 0
    have f0 := bR1.frozen 0
    have r1 : w1.cell? ⟨w.heap.size, 1, none⟩ = some (.string ⟨#[]⟩) := bR1.cell 1
    have f1 := bR1.frozen 1
    have r2 : w1.cell? ⟨w.heap.size, 2, none⟩ = some (.slice none 0 0) := bR1.cell 2
    have f2 := bR1.frozen 2
    have BR := Lib.hid bR1
    have KP := Lib.hid K1
    clear bR1 K1
    go_wp2_with fail
    have bF := r3 (x := .int .i64 0) (y := .string ⟨#[]⟩) (z := .slice none 0 0) BR.out rfl
    exact bodyPost_ret (results_ctt Tryz.results15 rfl (load_ty (t := ty0) bF)) rfl ⟨_, by rw [HA.out, HE.out]; rfl, by rw [HT.out]; exact ⟨_, rfl, .nil0⟩, (((KP.out.setCell (p := ⟨w.heap.size, 0, none⟩) (Or.inr (Nat.le_refl _)) _).setCell (p := ⟨w.heap.size, 1, none⟩) (Or.inr (Nat.le_refl _)) _).setCell (p := ⟨w.heap.size, 2, none⟩) (Or.inr (Nat.le_refl _)) _)⟩
  have hs' : s.size ≤ 65536 := by omega
  have hrd := readT_any (o := w.heap.size + 1) (s := s) (F := typedS f s) (V := LiesT (w.heap.size + 1) (w.heap.size + 5)) (w := ((w.alloc (.cells #[.int .i64 0, .string ⟨#[]⟩, .slice none 0 0] 24)).alloc (.cells #[.int .i64 0, .string ⟨#[]⟩, .slice none 0 0] 24))) hs' G0 (by rw [Z0.out]; omega) (by omega)
    (by
      intro σ1 w1 p1 k1 z1 h1
      rw [Z0.out] at p1 z1 ⊢
      have hm := mu_le s σ1
      refine (typ1_any (f := f) p1 (by omega) rfl (bO.kept k1 (fun h => h)) (by omega) (by omega)).mono ?_
      intro e w2 hc
      cases hq : typedS f s σ1 with
      | error r => rw [hq] at hc; exact hc
      | ok q =>
        obtain ⟨t, σ2⟩ := q
        rw [hq] at hc
        obtain ⟨c1, ⟨tk, c2, c3⟩, c5⟩ := hc
        exact ⟨c1, ⟨tk, c2, c3.mono (fun k _ h => by omega)⟩, c5⟩)
    (by
      rintro a w2 w3 ⟨tk, c2, c3⟩ z2 k3
      rw [Z0.out] at z2 k3
      exact ⟨tk, c2.kept k3 (by show ¬ (w.heap.size + 1 = w.heap.size + 2 ∨ w.heap.size + 1 = w.heap.size + 2 + 1); omega), c3.frame (Same.of_kept k3 (fun k h e => by omega))⟩)
  have HRD := Lib.hid hrd
  clear hrd
  cases hq : ptQ f s with
  | error r =>
    have HA : Hid (ptA f s = r.2) := Lib.hid (by unfold ptA; rw [if_neg hs, hq]; rfl)
    have HE : Hid (ptE f s = if r.1 then 4 else 2) := Lib.hid (by unfold ptE; rw [if_neg hs, hq])
    have HT : Hid (ptT f s = ty0) := Lib.hid (by unfold ptT; rw [if_neg hs, hq])
    have HAA : Hid (rdAt (wholeF s (typedS f s)) = r.2) := Lib.hid (by show rdAt (ptQ f s) = _; rw [hq]; rfl)
    have HEE : Hid (rdE (wholeF s (typedS f s)) = if r.1 then 4 else 2) := Lib.hid (by show rdE (ptQ f s) = _; rw [hq]; rfl)
    clear hq
    go_enter Tryz.func15, Tryz.ntmps15
    go_wp2_with fail
    refine HRD.out.mono ?_
    rintro e w1 ⟨rfl, k1, _⟩
    rw [HAA.out, HEE.out]
    have bR1 := bR.kept k1 (by show ¬ w.heap.size = w.heap.size + 1; omega)
    have K1 := K0.via k1 (fun x hx e => by omega)
    have r0 : w1.cell? ⟨w.heap.size, 0, none⟩ = some (.int .i64 0) := bR1.cell 0
    have f0 := bR1.frozen 0
    have r1 : w1.cell? ⟨w.heap.size, 1, none⟩ = some (.string ⟨#[]⟩) := bR1.cell 1
    have f1 := bR1.frozen 1
    have r2 : w1.cell? ⟨w.heap.size, 2, none⟩ = some (.slice none 0 0) := bR1.cell 2
    have f2 := bR1.frozen 2
    have BR := Lib.hid bR1
    have KP := Lib.hid K1
    clear bR1 K1
    obtain ⟨r1, r2⟩ := r
    cases r1
    · rw [if_neg (by simp)] at HE ⊢
      go_wp2_with fail
      have bF := r3 (x := .int .i64 0) (y := .string ⟨#[]⟩) (z := .slice none 0 0) BR.out rfl
      exact bodyPost_ret (results_ctt Tryz.results15 rfl (load_ty (t := ty0) bF)) rfl ⟨_, by rw [HA.out, HE.out]; rfl, by rw [HT.out]; exact ⟨_, rfl, .nil0⟩, (((KP.out.setCell (p := ⟨w.heap.size, 0, none⟩) (Or.inr (Nat.le_refl _)) _).setCell (p := ⟨w.heap.size, 1, none⟩) (Or.inr (Nat.le_refl _)) _).setCell (p := ⟨w.heap.size, 2, none⟩) (Or.inr (Nat.le_refl _)) _)⟩
    · rw [if_pos rfl] at HE ⊢
      go_wp2_with fail
      have bF := r3 (x := .int .i64 0) (y := .string ⟨#[]⟩) (z := .slice none 0 0) BR.out rfl
      exact bodyPost_ret (results_ctt Tryz.results15 rfl (load_ty (t := ty0) bF)) rfl ⟨_, by rw [HA.out, HE.out]; rfl, by rw [HT.out]; exact ⟨_, rfl, .nil0⟩, (((KP.out.setCell (p := ⟨w.heap.size, 0, none⟩) (Or.inr (Nat.le_refl _)) _).setCell (p := ⟨w.heap.size, 1, none⟩) (Or.inr (Nat.le_refl _)) _).setCell (p := ⟨w.heap.size, 2, none⟩) (Or.inr (Nat.le_refl _)) _)⟩
  | ok q =>
    obtain ⟨t, σ2⟩ := q
    have hsm := (sm_wholeT hs' hq).mono (N' := big) (by decide)
    have HAA : Hid (rdAt (wholeF s (typedS f s)) = 0) := Lib.hid (by show rdAt (ptQ f s) = _; rw [hq]; rfl)
    have HEE : Hid (rdE (wholeF s (typedS f s)) = 0) := Lib.hid (by show rdE (ptQ f s) = _; rw [hq]; rfl)
    have HA : Hid (ptA f s = 0) := Lib.hid (by unfold ptA; rw [if_neg hs, hq]; rfl)
    have HEV : Hid (ptE f s = if validTyB t then 0 else 5) := Lib.hid (by unfold ptE; rw [if_neg hs, hq])
    have HTV : Hid (ptT f s = if validTyB t then t else ty0) := Lib.hid (by unfold ptT; rw [if_neg hs, hq])
    have HQ := Lib.hid hq
    clear hq
    go_enter Tryz.func15, Tryz.ntmps15
    go_wp2_with fail
    refine HRD.out.mono ?_
    rintro e w1 ⟨rfl, k1, hl⟩
    rw [HAA.out, HEE.out]
    obtain ⟨tk, bT, hty⟩ := hl t σ2 HQ.out
    clear hl
    obtain ⟨ta, tn, tc, rfl⟩ := hty.slice
    have bR1 := bR.kept k1 (by show ¬ w.heap.size = w.heap.size + 1; omega)
    have K1 := K0.via k1 (fun x hx e => by omega)
    have y0 : w1.cell? ⟨w.heap.size + 1, 0, none⟩ = some (.int .i64 t.kind) := bT.cell 0
    have y1 : w1.cell? ⟨w.heap.size + 1, 1, none⟩ = some (.string t.name) := bT.cell 1
    have y2 : w1.cell? ⟨w.heap.size + 1, 2, none⟩ = some (.slice ta tn tc) := bT.cell 2
    have HV := Lib.hid (validTy_any hty hsm)
    go_wp2_with fail
    refine HV.out.mono ?_
    rintro e w2 ⟨rfl, k2⟩
    have bR2 := bR1.kept k2 (fun h => h)
    have bT2 := bT.kept k2 (fun h => h)
    have K2 := K1.trans k2
    have l2 := bT2.lt
    cases hv : validTyB t
    · have HE : Hid (ptE f s = 5) := Lib.hid (by rw [HEV.out, hv]; rfl)
      have HT : Hid (ptT f s = ty0) := Lib.hid (by rw [HTV.out, hv]; rfl)
      have r0 : w2.cell? ⟨w.heap.size, 0, none⟩ = some (.int .i64 0) := bR2.cell 0
      have f0 := bR2.frozen 0
      have r1 : w2.cell? ⟨w.heap.size, 1, none⟩ = some (.string ⟨#[]⟩) := bR2.cell 1
      have f1 := bR2.frozen 1
      have r2 : w2.cell? ⟨w.heap.size, 2, none⟩ = some (.slice none 0 0) := bR2.cell 2
      have f2 := bR2.frozen 2
      have BR := Lib.hid bR2
      have KP := Lib.hid K2
      clear bR2 K2
      clear bR1 K1 bT bT2
      go_wp2_with fail
      have bF := r3 (x := .int .i64 0) (y := .string ⟨#[]⟩) (z := .slice none 0 0) BR.out rfl
      exact bodyPost_ret (results_ctt Tryz.results15 rfl (load_ty (t := ty0) bF)) rfl ⟨_, by rw [HA.out, HE.out]; rfl, by rw [HT.out]; exact ⟨_, rfl, .nil0⟩, (((KP.out.setCell (p := ⟨w.heap.size, 0, none⟩) (Or.inr (Nat.le_refl _)) _).setCell (p := ⟨w.heap.size, 1, none⟩) (Or.inr (Nat.le_refl _)) _).setCell (p := ⟨w.heap.size, 2, none⟩) (Or.inr (Nat.le_refl _)) _)⟩
    · have HE : Hid (ptE f s = 0) := Lib.hid (by rw [HEV.out, hv]; rfl)
      have HT : Hid (ptT f s = t) := Lib.hid (by rw [HTV.out, hv]; rfl)
      have hty2 := hty.frame (Same.of_kept k2 (fun _ _ e => e))
      have x0 : w2.cell? ⟨w.heap.size + 1, 0, none⟩ = some (.int .i64 t.kind) := bT2.cell 0
      have x1 : w2.cell? ⟨w.heap.size + 1, 1, none⟩ = some (.string t.name) := bT2.cell 1
      have x2 : w2.cell? ⟨w.heap.size + 1, 2, none⟩ = some (.slice ta tn tc) := bT2.cell 2
      have HC := Lib.hid (copyTy_any (validTy_bd hv) w2 _ _ hty2)
      clear hty2 y0 y1 y2
      go_wp2_with fail
      refine HC.out.mono ?_
      rintro e w3 ⟨v, rfl, hv3, k3⟩
      obtain ⟨va, vn, vc, rfl⟩ := hv3.slice
      unfold tyVal
      have bR3 := bR2.kept k3 (fun h => h)
      have K3 := K2.trans k3
      have r0 : w3.cell? ⟨w.heap.size, 0, none⟩ = some (.int .i64 0) := bR3.cell 0
      have f0 := bR3.frozen 0
      have r1 : w3.cell? ⟨w.heap.size, 1, none⟩ = some (.string ⟨#[]⟩) := bR3.cell 1
      have f1 := bR3.frozen 1
      have r2 : w3.cell? ⟨w.heap.size, 2, none⟩ = some (.slice none 0 0) := bR3.cell 2
      have f2 := bR3.frozen 2
      have BR := Lib.hid bR3
      have KP := Lib.hid K3
      clear bR3 K3
      have V3 := Lib.hid hv3
      clear bR1 K1 bR2 K2 bT bT2 hv3
      go_wp2_with fail
      have bF := r3 (x := .int .i64 t.kind) (y := .string t.name) (z := .slice va vn vc) BR.out rfl
      refine bodyPost_ret (results_ctt Tryz.results15 rfl (load_ty (t := t) bF)) rfl ⟨_, by rw [HA.out, HE.out]; rfl, ?_, (((KP.out.setCell (p := ⟨w.heap.size, 0, none⟩) (Or.inr (Nat.le_refl _)) _).setCell (p := ⟨w.heap.size, 1, none⟩) (Or.inr (Nat.le_refl _)) _).setCell (p := ⟨w.heap.size, 2, none⟩) (Or.inr (Nat.le_refl _)) _)⟩
      rw [HT.out]
      exact ⟨_, rfl, (V3.out.frame (set3 (g := w.heap.size) (fun q h => by omega))).mono (fun q _ h => by omega)⟩
theorem nm_nil {nm : ByteArray} (h : (nm.toList == []) = true) : nm = nil0 := by
  apply ba_ext
  rw [← ba_tl]
  exact eq_of_beq h
theorem zero_ty {t : Ty} (h : zeroTyB t = true) : t = ty0 := by
  obtain ⟨k, nm, l⟩ := t
  unfold zeroTyB at h
  simp only [Bool.and_eq_true, Ty.kind, Ty.name, Ty.kids, beq_iff_eq] at h
  obtain ⟨⟨h1, h2⟩, h3⟩ := h
  rw [h1, nm_nil (nm := nm) (by rw [h2]; rfl), List.isEmpty_iff.1 h3]; rfl
theorem ty_rd (most deep : Nat) : ∀ (t : Ty) (d : Nat) (wi : Bool) (c : Nat), (tfS most deep t d wi c).1 = true → (wi = true ∨ t.kind ≠ 2) → RdTy t := by
  intro t
  induction t using Ty.rec (motive_2 := fun l => ∀ (d c : Nat), (tfsS most deep l d c).1 = true → ∀ t, t ∈ l → RdTy t) with
  | mk k nm l ih =>
    intro d wi c h hb
    rw [tf_eq] at h
    split at h
    · rename_i hq
      simp only [Bool.and_eq_true] at hq
      have i1 := ih _ _ h
      rcases head_yes hq.2 with (h1 | h2 | h3) | ⟨hl, he⟩
      · rw [h1.1, list_nil h1.2.1, nm_nil h1.2.2]; exact .int
      · exfalso
        rcases hb with hb | hb
        · rw [hb] at h2; exact absurd h2.2.1 (by simp)
        · exact hb h2.1
      · rw [h3.1, list_nil h3.2.1]; exact .car h3.2.2
      · rw [nm_nil he]
        rcases hl with ⟨rfl, hn⟩ | ⟨rfl, hn⟩
        · obtain ⟨x, rfl⟩ := list_one' hn
          exact .set (i1 x (by simp))
        · obtain ⟨x, y, rfl⟩ := list_two hn
          exact .pair (i1 x (by simp)) (i1 y (by simp))
    · cases h
  | nil => rename_i ht; cases ht
  | cons t l iht ihl =>
    rename_i d c h t' ht'
    rw [tfsS] at h
    cases hr : tfS most deep t d true c with
    | mk b c' =>
      cases b
      · rw [hr] at h; cases h
      · rw [hr] at h
        rcases List.mem_cons.1 ht' with rfl | ht'
        · exact iht d true c (by rw [hr]) (Or.inl rfl)
        · exact ihl d c' h t' ht'
theorem validTy_rd {t : Ty} (h : validTyB t = true) (hk : t.kind ≠ 2) : RdTy t := ty_rd 16 6 t 1 false 0 h (Or.inr hk)
theorem op_cases : (List.range 57).all (fun n => decide (n = 0) || binOps.contains (n : Int) || [1, 2, 19, 20, 29, 3, 21, 8, 9, 56, 55, 54, 53, 52, 28, 46, 47, 48, 49, 50, 51].contains n) = true := by kernel_rfl
theorem op_case {op : Int} (h : 1 ≤ op ∧ op ≤ 56) : op ∈ binOps ∨ op = 1 ∨ op = 2 ∨ op = 19 ∨ op = 20 ∨ op = 29 ∨ op = 3 ∨ op = 21 ∨ (op = 8 ∨ op = 9 ∨ op = 56) ∨ op = 55 ∨ op = 54 ∨ op = 53 ∨ op = 52 ∨ op = 28 ∨ (op = 46 ∨ op = 47 ∨ op = 48 ∨ op = 49 ∨ op = 50 ∨ op = 51) := by
  obtain ⟨n, rfl⟩ := Int.eq_ofNat_of_zero_le (show 0 ≤ op by omega)
  have := List.all_eq_true.1 op_cases n (List.mem_range.2 (by omega))
  simp only [Bool.or_eq_true, decide_eq_true_eq] at this
  rcases this with (h0 | h1) | h2
  · omega
  · left; exact List.contains_iff_mem.1 h1
  · right
    have := List.contains_iff_mem.1 h2
    simp only [List.mem_cons, List.not_mem_nil, or_false] at this
    omega
theorem formed_plain {op : Int} {nm : ByteArray} {N : Int} {ty : Ty} {n : Nat} (h : formedB op nm N ty n = true) (h20 : op ≠ 20) (hb : binderB op = false) (h19 : op ≠ 19) (h29 : op ≠ 29) : nm = nil0 ∧ N = 0 ∧ ty = ty0 := by
  obtain ⟨-, hnm, hN, hty⟩ := formed_parts h
  unfold nmOk at hnm; rw [if_neg h20, hb, if_neg (by simp)] at hnm
  unfold nOk at hN; rw [if_neg h19] at hN
  unfold tyOk at hty; rw [if_neg h29] at hty
  exact ⟨nm_nil hnm, eq_of_beq hN, zero_ty hty⟩
theorem formed_binder {op : Int} {nm : ByteArray} {N : Int} {ty : Ty} {n : Nat} (h : formedB op nm N ty n = true) (ho : op = 8 ∨ op = 9 ∨ op = 56 ∨ op = 55) : identB nm = true ∧ N = 0 ∧ ty = ty0 := by
  obtain ⟨-, hnm, hN, hty⟩ := formed_parts h
  have hb : binderB op = true := by rcases ho with rfl | rfl | rfl | rfl <;> rfl
  unfold nmOk at hnm; rw [if_neg (by omega), if_pos hb] at hnm
  unfold nOk at hN; rw [if_neg (by omega)] at hN
  unfold tyOk at hty; rw [if_neg (by omega)] at hty
  exact ⟨hnm, eq_of_beq hN, zero_ty hty⟩
theorem formed_len {op : Int} {nm : ByteArray} {N : Int} {ty : Ty} {n : Nat} (h : formedB op nm N ty n = true) : (kidsN op).1 = -1 ∧ n ≠ 0 ∨ (kidsN op).1 ≠ -1 ∧ (n : Int) = (kidsN op).1 := by
  have hk := (formed_parts h).1
  unfold kidOk at hk
  rw [Bool.and_eq_true] at hk
  by_cases hm : (kidsN op).1 = -1
  · left; have := hk.2; rw [if_pos hm] at this; exact ⟨hm, by simpa using this⟩
  · right; have := hk.2; rw [if_neg hm] at this; exact ⟨hm, of_decide_eq_true this⟩
theorem bin_kids : binOps.all (fun op => decide ((kidsN op).1 = 2) && !binderB op) = true := by kernel_rfl
theorem ok_rd {t : Tm} (h : OkTm t) : RdTm t := by
  induction h with
  | @mk op nm N ty l h hn hl ih =>
  have hp := formed_parts h
  have hlen := formed_len h
  have hr := kids_range op (by have hk := hp.1; unfold kidOk at hk; rw [Bool.and_eq_true] at hk; exact hk.1)
  have two : (kidsN op).1 = 2 → ∃ x y, l = [x, y] := fun e => list_two (by rw [e] at hlen; omega)
  have one : (kidsN op).1 = 1 → ∃ x, l = [x] := fun e => list_one' (by rw [e] at hlen; omega)
  have zero : (kidsN op).1 = 0 → l = [] := fun e => list_nil (by rw [e] at hlen; omega)
  rcases op_case hr with ho | rfl | rfl | rfl | rfl | rfl | rfl | rfl | ho | rfl | rfl | rfl | rfl | rfl | ho
  · have K := List.all_eq_true.1 bin_kids op ho
    simp only [Bool.and_eq_true, decide_eq_true_eq, Bool.not_eq_true'] at K
    obtain ⟨a1, a2, a3, a4, a5, -⟩ := bin_ne ho
    obtain ⟨rfl, rfl, rfl⟩ := formed_plain h a4 K.2 a3 a5
    obtain ⟨x, y, rfl⟩ := two K.1
    exact .bin ho (ih x (by simp)) (ih y (by simp))
  · obtain ⟨rfl, rfl, rfl⟩ := formed_plain h (by decide) rfl (by decide) (by decide)
    obtain rfl := zero rfl
    exact .tru
  · obtain ⟨rfl, rfl, rfl⟩ := formed_plain h (by decide) rfl (by decide) (by decide)
    obtain rfl := zero rfl
    exact .fls
  · obtain ⟨-, hnm, hN, hty⟩ := hp
    have h1 : nm = nil0 := nm_nil (by simpa [nmOk, binderB] using hnm)
    have h3 : ty = ty0 := zero_ty (by simpa [tyOk] using hty)
    have h2 : 0 ≤ N ∧ N ≤ 1000000000 := by simpa [nOk] using hN
    subst h1 h3
    obtain rfl := zero rfl
    exact .int h2.1 h2.2
  · obtain ⟨-, hnm, hN, hty⟩ := hp
    have h1 : namedB nm = true := by simpa [nmOk] using hnm
    have h3 : ty = ty0 := zero_ty (by simpa [tyOk] using hty)
    have h2 : N = 0 := by simpa [nOk] using hN
    subst h2 h3
    obtain rfl := zero rfl
    exact .name h1
  · obtain ⟨-, hnm, hN, hty⟩ := hp
    have h1 : nm = nil0 := nm_nil (by simpa [nmOk, binderB] using hnm)
    have h3 : ty.kind ≠ 2 ∧ validTyB ty = true := by simpa [tyOk] using hty
    have h2 : N = 0 := by simpa [nOk] using hN
    subst h1 h2
    obtain rfl := zero rfl
    exact .empty (validTy_rd h3.2 h3.1)
  · obtain ⟨rfl, rfl, rfl⟩ := formed_plain h (by decide) rfl (by decide) (by decide)
    obtain ⟨x, rfl⟩ := one rfl
    exact .not (ih x (by simp))
  · obtain ⟨rfl, rfl, rfl⟩ := formed_plain h (by decide) rfl (by decide) (by decide)
    obtain ⟨x, rfl⟩ := one rfl
    exact .neg (ih x (by simp))
  · obtain ⟨hi, rfl, rfl⟩ := formed_binder h (by omega)
    obtain ⟨x, y, rfl⟩ := two (by rcases ho with rfl | rfl | rfl <;> rfl)
    exact .bind ho hi (ih x (by simp)) (ih y (by simp))
  · obtain ⟨hi, rfl, rfl⟩ := formed_binder h (by omega)
    obtain ⟨x, y, rfl⟩ := two rfl
    exact .compr hi (ih x (by simp)) (ih y (by simp))
  · obtain ⟨rfl, rfl, rfl⟩ := formed_plain h (by decide) rfl (by decide) (by decide)
    obtain ⟨x, y, rfl⟩ := two rfl
    exact .app (ih x (by simp)) (ih y (by simp))
  · obtain ⟨rfl, rfl, rfl⟩ := formed_plain h (by decide) rfl (by decide) (by decide)
    obtain ⟨x, y, rfl⟩ := two rfl
    exact .img (ih x (by simp)) (ih y (by simp))
  · obtain ⟨rfl, rfl, rfl⟩ := formed_plain h (by decide) rfl (by decide) (by decide)
    obtain ⟨x, rfl⟩ := one rfl
    exact .inv (ih x (by simp))
  · obtain ⟨rfl, rfl, rfl⟩ := formed_plain h (by decide) rfl (by decide) (by decide)
    cases l with
    | nil => rcases hlen with ⟨_, h0⟩ | ⟨h0, _⟩
             · exact absurd rfl h0
             · exact absurd rfl h0
    | cons x l => exact .set (ih x (by simp)) (fun u hu => ih u (by simp [hu]))
  · obtain ⟨rfl, rfl, rfl⟩ := formed_plain h (by omega) (by rcases ho with rfl | rfl | rfl | rfl | rfl | rfl <;> rfl) (by omega) (by omega)
    obtain ⟨x, rfl⟩ := one (by rcases ho with rfl | rfl | rfl | rfl | rfl | rfl <;> rfl)
    exact .fn ho (ih x (by simp))
theorem valid_rd {t : Tm} (h : validB t = true) : RdTm t := ok_rd (valid_ok h)
/-! The nesting, in bytes. -/
def nestC (c : UInt8) : Int := if c = 40 ∨ c = 91 ∨ c = 123 then 1 else if c = 41 ∨ c = 93 ∨ c = 125 then -1 else 0
def nsC (l : List UInt8) : Int := (l.map nestC).sum
theorem nsC_cons (c : UInt8) (l : List UInt8) : nsC (c :: l) = nestC c + nsC l := by unfold nsC; simp
theorem nsC_app (a b : List UInt8) : nsC (a ++ b) = nsC a + nsC b := by unfold nsC; simp
def DeepC (m : Int) (l : List UInt8) : Prop := ∃ P c Q, l = P ++ c :: Q ∧ nestC c = 1 ∧ m + nsC P = 64
theorem DeepC.app {m : Int} {w r : List UInt8} (h : DeepC (m + nsC w) r) : DeepC m (w ++ r) := by
  obtain ⟨P, c, Q, rfl, hc, hn⟩ := h
  exact ⟨w ++ P, c, Q, by simp, hc, by rw [nsC_app]; omega⟩
theorem deep_cons {m : Int} {t : TK} {L : List TK} (h : Deep m (t :: L)) : (nestT t = 1 ∧ m = 64) ∨ Deep (m + nestT t) L := by
  obtain ⟨A, o, B, e, ho, hn⟩ := h
  cases A with
  | nil =>
    obtain ⟨rfl, rfl⟩ := List.cons.inj e
    left; exact ⟨ho, by rw [nst_nil] at hn; omega⟩
  | cons a A =>
    obtain ⟨rfl, e2⟩ := List.cons.inj e
    right; exact ⟨A, o, B, e2, ho, by rw [nst_cons] at hn; omega⟩
theorem word_nest {w : List UInt8} (h : ∀ c, c ∈ w → inWordB c.toNat = true) : nsC w = 0 := by
  induction w with
  | nil => rfl
  | cons c w ih =>
    rw [nsC_cons, ih (fun d hd => h d (List.mem_cons_of_mem _ hd))]
    have hc := h c (List.mem_cons_self ..)
    unfold nestC
    rw [if_neg (by rintro (rfl | rfl | rfl) <;> exact absurd hc (by decide)), if_neg (by rintro (rfl | rfl | rfl) <;> exact absurd hc (by decide))]; rfl
theorem sign_nest : signs.all (fun x => decide (nsC x.data.toList = nestT (tkS x)) && (decide (nestT (tkS x) ≠ 1) || decide (x.data.toList.length = 1))) = true := by kernel_rfl
theorem deep_bytes {l : List UInt8} {L : List TK} (h : LexL l L) : ∀ m, Deep m L → DeepC m l := by
  induction h with
  | nil => rintro m ⟨A, o, B, e, -⟩; cases A <;> cases e
  | blank hc h ih =>
    rename_i c l L
    intro m hd
    have hz : nestC c = 0 := by
      unfold nestC
      rw [if_neg (by rintro (rfl | rfl | rfl) <;> exact absurd hc (by decide)), if_neg (by rintro (rfl | rfl | rfl) <;> exact absurd hc (by decide))]
    have := DeepC.app (m := m) (w := [c]) (r := l) (by rw [nsC_cons, hz]; simpa [nsC] using ih m hd)
    exact this
  | word hw hr hq h ih =>
    rename_i w r L
    intro m hd
    unfold wordOk at hw
    simp only [Bool.and_eq_true, List.all_eq_true] at hw
    rcases deep_cons hd with ⟨h1, -⟩ | h2
    · cases h1
    · exact DeepC.app (by rw [word_nest hw.1.2]; exact ih _ h2)
  | prime hw hk h ih =>
    rename_i w r L
    intro m hd
    unfold wordOk at hw
    simp only [Bool.and_eq_true, List.all_eq_true] at hw
    rcases deep_cons hd with ⟨h1, -⟩ | h2
    · cases h1
    · have := DeepC.app (m := m) (w := w ++ [39]) (r := r) (by rw [nsC_app, word_nest hw.1.2]; exact ih _ h2)
      simpa using this
  | num hdg hw hn hr h ih =>
    rename_i w r n L
    intro m hd
    rcases deep_cons hd with ⟨h1, -⟩ | h2
    · cases h1
    · exact DeepC.app (by rw [word_nest (List.all_eq_true.1 hw)]; exact ih _ h2)
  | sign hx hr h ih =>
    rename_i x r L
    intro m hd
    have K := List.all_eq_true.1 sign_nest x hx
    simp only [Bool.and_eq_true, Bool.or_eq_true, decide_eq_true_eq] at K
    obtain ⟨K1, K2⟩ := K
    rcases deep_cons hd with ⟨h1, h2⟩ | h2
    · rcases K2 with K2 | K2
      · exact absurd h1 K2
      · match hl : x.data.toList, K2 with
        | [c], _ =>
          rw [hl, h1] at K1
          exact ⟨[], c, r, by simp, by simpa [nsC] using K1, by rw [h2]; rfl⟩
    · exact DeepC.app (by rw [K1]; exact ih _ h2)
def nestF (p : Int × Int) (c : UInt8) : Int × Int := (p.1 + nestC c, if nestC c = 1 then max p.2 (p.1 + 1) else p.2)
def mostC (l : List UInt8) : Int := (l.foldl nestF (0, 0)).2
theorem fold_fst (l : List UInt8) : ∀ p, (l.foldl nestF p).1 = p.1 + nsC l := by
  induction l with
  | nil => intro p; simp [nsC]
  | cons c l ih => intro p; rw [List.foldl_cons, ih, nsC_cons]; show p.1 + nestC c + _ = _; omega
theorem fold_ge (l : List UInt8) : ∀ p, p.2 ≤ (l.foldl nestF p).2 := by
  induction l with
  | nil => intro p; exact Int.le_refl _
  | cons c l ih =>
    intro p
    rw [List.foldl_cons]
    refine Int.le_trans ?_ (ih _)
    unfold nestF
    show p.2 ≤ if nestC c = 1 then max p.2 (p.1 + 1) else p.2
    split <;> omega
theorem most_deep {l : List UInt8} (h : DeepC 0 l) : 65 ≤ mostC l := by
  obtain ⟨P, c, Q, rfl, hc, hn⟩ := h
  unfold mostC
  rw [List.foldl_append, List.foldl_cons]
  refine Int.le_trans ?_ (fold_ge Q _)
  have := fold_fst P (0, 0)
  generalize P.foldl nestF (0, 0) = q at *
  unfold nestF
  show 65 ≤ if nestC c = 1 then max q.2 (q.1 + 1) else q.2
  rw [if_pos hc]
  simp only at this
  omega
/-! Parsing. -/
theorem whole_rd {α : Type} {A : List TK} {t : α} {s : ByteArray} {F : PS → Except ER (α × PS)} (hB : ∀ σ, AtT s σ A → RdT s σ A [] (F σ) t) (hne : A ≠ []) (hx : LexS s 0 A) : (∃ σ, wholeF s F = .ok (t, σ)) ∨ (Deep 0 A ∧ ∃ p, wholeF s F = .error (true, p)) := by
  unfold wholeF
  cases hx with
  | nil => exact absurd rfl hne
  | cons hp ht hk hl =>
    rename_i q tk L
    have e : advS s ps0 = .ok ⟨q, tk.k, tk.tx, tk.n, skip s 0, 0⟩ := by unfold advS; rw [show ps0.p = 0 from rfl, ht]; rfl
    rw [e]
    show (∃ σ, bT (F ⟨q, tk.k, tk.tx, tk.n, skip s 0, 0⟩) _ = _) ∨ _ ∧ ∃ p, bT (F ⟨q, tk.k, tk.tx, tk.n, skip s 0, 0⟩) _ = _
    rcases hB ⟨q, tk.k, tk.tx, tk.n, skip s 0, 0⟩ ⟨Nat.zero_le _, rfl, rfl, rfl, hk, hl⟩ with ⟨σ', e2, ha, -⟩ | ⟨hd, p, e2⟩
    · left
      rw [e2]
      exact ⟨σ', by show (if σ'.k = 0 then _ else _) = _; rw [if_pos ha.2.2]⟩
    · right
      rw [e2]
      exact ⟨hd, p, rfl⟩
theorem parse_rd {A : List TK} {t : Tm} {s : ByteArray} {f : Nat} (hB : BF s A t) (hne : A ≠ []) (hx : LexS s 0 A) (hv : validB t = true) (hs : s.size ≤ 65536) (hf : 14 * (s.size + 2) < f) :
    (parseE f s = 0 ∧ parseT f s = t ∧ parseA f s = 0) ∨ (parseE f s = 4 ∧ Deep 0 A) := by
  have h := whole_rd (F := fun σ => termS f s 1 σ) (t := t) (fun σ ha => hB f σ [] (stop_nil 1) (by simpa using ha) (by have := mu_top s σ; omega)) hne hx
  have hn : ¬ 65536 < s.size := by omega
  unfold parseE parseT parseA parseQ
  rw [if_neg hn, if_neg hn, if_neg hn]
  rcases h with ⟨σ, e⟩ | ⟨hd, p, e⟩
  · left; rw [e]; exact ⟨by simp [hv], by simp [hv], rfl⟩
  · right; rw [e]; exact ⟨rfl, hd⟩
theorem toks_ne {t : Tm} (h : RdTm t) : tmToks t ≠ [] := by
  intro e
  have := (rd_good h).cu
  rw [e] at this; cases this
theorem lex_str {l : List UInt8} {L : List TK} (h : LexL l L) : LexS (str l) 0 L := lex_of h (str l) 0 (Nat.zero_le _) (by rw [str_list]; rfl)
theorem show_lex {t : Tm} (h : RdTm t) : LexL (tmShow t) (tmToks t) := by
  have := (rd_lx h).lx [] [] aft_nil .nil
  simpa using this
def fmtL (t : Tm) : List UInt8 := if validB t then tmShow t else []
def readB (t : Tm) : Bool := validB t && decide ((fmtL t).length ≤ 65536) && decide (mostC (fmtL t) ≤ 64)
theorem read_parts {t : Tm} (h : readB t = true) : validB t = true ∧ fmtL t = tmShow t ∧ (tmShow t).length ≤ 65536 ∧ mostC (tmShow t) ≤ 64 := by
  unfold readB at h
  simp only [Bool.and_eq_true, decide_eq_true_eq] at h
  have e : fmtL t = tmShow t := by unfold fmtL; rw [if_pos h.1.1]
  rw [e] at h
  exact ⟨h.1.1, e, h.1.2, h.2⟩
theorem back {t : Tm} (h : readB t = true) {f : Nat} (hf : 14 * ((str (fmtL t)).size + 2) < f) : parseE f (str (fmtL t)) = 0 ∧ parseT f (str (fmtL t)) = t ∧ parseA f (str (fmtL t)) = 0 := by
  obtain ⟨hv, e, hl, hm⟩ := read_parts h
  have hr := valid_rd hv
  rw [e] at hf ⊢
  rcases parse_rd ((rd_good hr).bf _) (toks_ne hr) (lex_str (show_lex hr)) hv (by rw [str_size]; exact hl) hf with q | ⟨-, hd⟩
  · exact q
  · have := most_deep (deep_bytes (show_lex hr) 0 hd)
    omega
/-! Blanks. -/
inductive Wd : List UInt8 → List UInt8 → Prop
  | nil : Wd [] []
  | same {c : UInt8} {l m : List UInt8} (h : Wd l m) : Wd (c :: l) (c :: m)
  | wide {l m : List UInt8} (h : Wd l m) : Wd (32 :: l) (32 :: 9 :: 10 :: 32 :: m)
theorem Wd.refl : ∀ l, Wd l l
  | [] => .nil
  | c :: l => .same (Wd.refl l)
theorem Wd.app {l m a b : List UInt8} (h : Wd l m) (h' : Wd a b) : Wd (l ++ a) (m ++ b) := by
  induction h with
  | nil => exact h'
  | same h ih => exact .same ih
  | wide h ih => exact .wide ih
theorem Wd.one {l m : List UInt8} (h : Wd l m) (c : UInt8) : Wd (l ++ [c]) (m ++ [c]) := h.app (Wd.refl _)
theorem Wd.more {l m : List UInt8} (h : Wd l m) : Wd (l ++ [32]) (m ++ [32, 9, 10, 32]) := h.app (.wide .nil)
theorem Wd.len {l m : List UInt8} (h : Wd l m) : m.length ≤ 4 * l.length := by
  induction h with
  | nil => exact Nat.le_refl _
  | same h ih => simp; omega
  | wide h ih => simp; omega
theorem Wd.head {l m : List UInt8} (h : Wd l m) : m.head? = l.head? := by cases h <;> rfl
/-! Types. -/
def opensT (L : List TK) : Nat := (L.filter fun t => nestT t == 1).length
theorem opensT_app (A B : List TK) : opensT (A ++ B) = opensT A + opensT B := by unfold opensT; simp
theorem nst_le (L : List TK) : nst L ≤ opensT L := by
  induction L with
  | nil => exact Int.le_refl _
  | cons t L ih =>
    rw [nst_cons, show opensT (t :: L) = opensT ([t] ++ L) from rfl, opensT_app]
    have : nestT t ≤ (opensT [t] : Int) := by
      by_cases h1 : nestT t = 1
      · rw [h1]
        have : opensT [t] = 1 := by unfold opensT; simp [h1]
        rw [this]; exact Int.le_refl _
      · have : nestT t ≤ 0 := by
          unfold nestT at h1 ⊢
          split
          · rename_i hk
            rw [if_pos hk] at h1
            split
            · rename_i hh; rw [if_pos hh] at h1; exact absurd rfl h1
            · split <;> omega
          · exact Int.le_refl _
        omega
    omega
theorem deep_opens {L : List TK} (h : Deep 0 L) : 64 ≤ opensT L := by
  obtain ⟨A, o, B, rfl, ho, hn⟩ := h
  have := nst_le A
  rw [opensT_app]; omega
theorem ty_opens (most deep : Nat) : ∀ (t : Ty) (d : Nat) (wi : Bool) (c : Nat), (tfS most deep t d wi c).1 = true → opensT (tyToks t) + c ≤ (tfS most deep t d wi c).2 := by
  intro t
  induction t using Ty.rec (motive_2 := fun l => ∀ (d c : Nat), (tfsS most deep l d c).1 = true → ((l.map fun t => opensT (tyToks t)).sum) + c ≤ (tfsS most deep l d c).2) with
  | mk k nm l ih =>
    intro d wi c h
    rw [tf_eq] at h ⊢
    split at h
    · rename_i hb
      rw [if_pos hb]
      have hb' := hb
      simp only [Bool.and_eq_true, decide_eq_true_eq] at hb'
      have i2 := ih _ _ h
      rcases head_yes hb'.2 with hl | ⟨hl, he⟩
      · have hln : l = [] := by
          rcases hl with h | h | h
          · exact list_nil h.2.1
          · exact list_nil h.2.2.1
          · exact list_nil h.2.1
        subst hln
        simp only [List.map_nil, List.sum_nil] at i2
        have : opensT (tyToks (.mk k nm [])) = 0 := by
          rcases hl with h | h | h <;> rw [h.1] <;> simp [tyToks, opensT, nest_w]
        omega
      · rcases hl with ⟨rfl, hn⟩ | ⟨rfl, hn⟩
        · obtain ⟨x, rfl⟩ := list_one' hn
          rw [toks_set]
          simp only [List.map_cons, List.map_nil, List.sum_cons, List.sum_nil] at i2
          simp only [opensT_app]
          have e1 : opensT [tkW kSet] = 0 := by kernel_rfl
          have e2 : opensT [tkS kLpar] = 1 := by kernel_rfl
          have e3 : opensT [tkS kRpar] = 0 := by kernel_rfl
          omega
        · obtain ⟨x, y, rfl⟩ := list_two hn
          rw [toks_pair]
          simp only [List.map_cons, List.map_nil, List.sum_cons, List.sum_nil] at i2
          simp only [opensT_app]
          have e1 : opensT [tkW kPair] = 0 := by kernel_rfl
          have e2 : opensT [tkS kLpar] = 1 := by kernel_rfl
          have e3 : opensT [tkS kRpar] = 0 := by kernel_rfl
          have e4 : opensT [tkS kComma] = 0 := by kernel_rfl
          omega
    · cases h
  | nil => rename_i d c h; simp [tfsS]
  | cons t l iht ihl =>
    rename_i d c h
    rw [tfsS] at h ⊢
    cases hr : tfS most deep t d true c with
    | mk b c' =>
      cases b
      · rw [hr] at h; cases h
      · rw [hr] at h
        have q := ihl d c' h
        have p := iht d true c (by rw [hr])
        rw [hr] at p
        simp only [List.map_cons, List.sum_cons] at q p ⊢
        omega
theorem toksTy_ne {t : Ty} (h : RdTy t) : tyToks t ≠ [] := by
  cases h <;> simp [tyToks]
theorem ty_back {t : Ty} (hv : validTyB t = true) (hk : t.kind ≠ 2) {f : Nat} (hf : (str (tyShow t)).size + 2 < f) : ptE f (str (tyShow t)) = 0 ∧ ptT f (str (tyShow t)) = t ∧ ptA f (str (tyShow t)) = 0 := by
  have hr := validTy_rd hv hk
  have hx : LexL (tyShow t) (tyToks t) := by have := ty_lx hr [] [] aft_nil .nil; simpa using this
  have hs : ¬ 65536 < (str (tyShow t)).size := by rw [str_size]; have := (validTy_ok hv).2; omega
  have h := whole_rd (F := fun σ => typedS f (str (tyShow t)) σ) (t := t) (fun σ ha => typed_rd hr f σ [] (by simpa using ha) (by have := mu_top (str (tyShow t)) σ; omega)) (toksTy_ne hr) (lex_str hx)
  unfold ptE ptT ptA ptQ
  rw [if_neg hs, if_neg hs, if_neg hs]
  rcases h with ⟨σ, e⟩ | ⟨hd, p, e⟩
  · rw [e]; exact ⟨by simp [hv], by simp [hv], rfl⟩
  · exfalso
    have h1 := deep_opens hd
    have h2 := ty_opens 16 6 t 1 false 0 hv
    have h3 := (tf_le 16 6 t 1 false 0 (by decide) hv).2
    omega
def sgs1 : List ByteArray := ⟨#[62, 45, 62, 62]⟩ :: ⟨#[60, 61, 62]⟩ :: (signs.drop 2).take 18
def sgs2 : List ByteArray := signs.drop 20
def sgnF (l : List UInt8) : Option ByteArray := (sgs1 ++ sgs2).find? fun x => Lib.hasPrefix l x.data.toList
def lexW (s : ByteArray) (fr : Nat) : Int × ByteArray :=
  if h : fr < s.size then
    if letterB s[fr].toNat = true then
      if keywordB (s.extract fr (wend s fr)) = true then (2, s.extract fr (wend s fr))
      else if 16 < wend s fr - fr then (5, s.extract fr (wend s fr))
      else (1, s.extract fr (wordTo s fr))
    else if digitB s[fr].toNat = true then
      (if amt (s.extract fr (wend s fr)) < 0 then 5 else 3, s.extract fr (wend s fr))
    else match sgnF (s.data.toList.drop fr) with
      | some x => (4, x)
      | none => (5, ⟨#[]⟩)
  else (0, ⟨#[]⟩)
def primB (x : ByteArray) : Bool := if h : 1 < x.size then ((x[x.size - 1].toNat : Int) == 39) && identB (x.extract 0 (x.size - 1)) else false
section
variable {s : ByteArray} {T T' : TF} {f : Nat}
end
end Go.Proofs.YtckjlliobebodaaGreatDoor
