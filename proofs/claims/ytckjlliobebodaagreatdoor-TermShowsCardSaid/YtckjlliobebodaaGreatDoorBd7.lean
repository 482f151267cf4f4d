/- Texts BkC BkT RefA RNum RVal ShTy of this proof, in one. -/
import Derived.Test.YtckjlliobebodaaGreatDoorBd6
import Derived.Test.YtckjlliobebodaaGreatDoorBd4
import Derived.Test.YtckjlliobebodaaGreatDoorBd3
import Derived.Test.YtckjlliobebodaaGreatDoorBd5
import Derived.BigQuiet
import Derived.Deep.RegionHeld
set_option linter.unusedVariables false
set_option linter.unusedSimpArgs false
namespace Go.Proofs.YtckjlliobebodaaGreatDoor
open Go.RowKit
def opTk (t : TK) : List ByteArray → List Int → Int
  | x :: xs, o :: os => match isT t x with | true => o | false => opTk t xs os
  | _, _ => 0
def opL (n : Nat) : List TK → Int
  | [] => 0
  | t :: _ => opTk t (lvSigns n) (lvOps n)
theorem opGo_tk {σ : PS} {t : TK} (h : ∀ x, isS σ x = isT t x) : ∀ (xs : List ByteArray) (os : List Int), opGo σ xs os = opTk t xs os
  | [], _ => by unfold opGo opTk; rfl
  | x :: xs, [] => by unfold opGo opTk; rfl
  | x :: xs, o :: os => by unfold opGo opTk; rw [h x, opGo_tk h xs os]; cases isT t x <;> rfl
theorem opGo_nil {σ : PS} (h : ∀ x, isS σ x = false) : ∀ (xs : List ByteArray) (os : List Int), opGo σ xs os = 0
  | [], _ => by unfold opGo; rfl
  | x :: xs, [] => by unfold opGo; rfl
  | x :: xs, o :: os => by unfold opGo; rw [h x, opGo_nil h xs os]
theorem op_at {s : ByteArray} {σ : PS} {L : List TK} (h : AtT s σ L) (n : Nat) : opOf n σ = opL n L := by
  unfold opOf
  cases L with
  | nil => exact opGo_nil (fun x => is_at h x) _ _
  | cons t L => exact opGo_tk (fun x => is_at h x) _ _
def stopL (n : Nat) (L : List TK) : Prop := isL L kLpar = false ∧ isL L kLbr = false ∧ isL L kTilde = false ∧ ∀ m, n ≤ m → m ≤ 12 → opL m L = 0
theorem stopL.mono {n m : Nat} {L : List TK} (h : stopL n L) (hm : n ≤ m) : stopL m L := ⟨h.1, h.2.1, h.2.2.1, fun k a b => h.2.2.2 k (Nat.le_trans hm a) b⟩
theorem stop_nil (n : Nat) : stopL n [] := ⟨rfl, rfl, rfl, fun _ _ _ => rfl⟩
def stopB (n : Nat) (t : TK) : Bool := !isT t kLpar && !isT t kLbr && !isT t kTilde && (List.range 13).all fun m => decide (m < n) || opTk t (lvSigns m) (lvOps m) == 0
theorem stop_of {n : Nat} {t : TK} (h : stopB n t = true) (L : List TK) : stopL n (t :: L) := by
  unfold stopB at h
  simp only [Bool.and_eq_true, Bool.not_eq_true', List.all_eq_true, List.mem_range, Bool.or_eq_true, decide_eq_true_eq, beq_iff_eq] at h
  refine ⟨h.1.1.1, h.1.1.2, h.1.2, fun m a b => ?_⟩
  rcases h.2 m (by omega) with q | q
  · omega
  · exact q
theorem stop_rpar (L : List TK) : stopL 1 (tkS kRpar :: L) := stop_of (by kernel_rfl) L
theorem stop_rbr (L : List TK) : stopL 1 (tkS kRbr :: L) := stop_of (by kernel_rfl) L
theorem stop_rcu (L : List TK) : stopL 1 (tkS kRcu :: L) := stop_of (by kernel_rfl) L
theorem stop_comma (L : List TK) : stopL 1 (tkS kComma :: L) := stop_of (by kernel_rfl) L
theorem stop_bar (L : List TK) : stopL 1 (tkS kBar :: L) := stop_of (by kernel_rfl) L
theorem stop_dot (L : List TK) : stopL 1 (tkS kDot :: L) := stop_of (by kernel_rfl) L
theorem rest_stop {T : TF} {s : ByteArray} {n g : Nat} {t : Tm} {σ : PS} {L : List TK} (h : AtT s σ L) (ho : opL n L = 0) : restS T s n (g + 1) t σ = .ok (t, σ) := by
  rw [rest_eq, if_pos (by rw [op_at h, ho]; rfl)]
theorem after_stop {T : TF} {s : ByteArray} {n g : Nat} {t : Tm} {σ : PS} {L : List TK} (h : AtT s σ L) (ho : stopL n L) : afterS T s (g + 1) t σ = .ok (t, σ) := by
  rw [after_eq, if_neg (by rw [is_at h, ho.1]; simp), if_neg (by rw [is_at h, ho.2.1]; simp), if_neg (by rw [is_at h, ho.2.2.1]; simp)]
theorem desc {s : ByteArray} {A L : List TK} {t : Tm} {σ : PS} (d : Nat) : ∀ (n m f : Nat), n + d = m → 1 ≤ n → m ≤ 13 → (n ≤ 5 → 5 < m → isS σ kNot = false) → (∀ k, n ≤ k → k < m → opL k L = 0) → RdT s σ A L (termS f s m σ) t → RdT s σ A L (termS (f + d) s n σ) t := by
  induction d with
  | zero => intro n m f e _ _ _ _ h; obtain rfl : m = n := by omega
            exact h
  | succ d ih =>
    intro n m f e h1 h13 h5 hop h
    have q := ih (n + 1) m f (by omega) (by omega) h13 (fun a b => h5 (by omega) b) (fun k a b => hop k (by omega) b) h
    by_cases hn : n = 5
    · subst hn
      rw [show f + (d + 1) = (f + d) + 1 by omega, term5_eq, if_neg (by rw [h5 (Nat.le_refl _) (by omega)]; simp)]
      exact q
    · rw [show f + (d + 1) = (f + d) + 1 by omega, termn_eq _ _ _ _ hn (by omega)]
      rcases q with ⟨σ', e', ha, hn', hm⟩ | ⟨hd, p, e'⟩
      · rw [e']
        show RdT s σ A L (restS _ s n (s.size + 1 + 1) t σ') t
        rw [rest_stop ha (hop n (Nat.le_refl _) (by omega))]
        exact Or.inl ⟨σ', rfl, ha, hn', hm⟩
      · rw [e']; exact Or.inr ⟨hd, p, rfl⟩
theorem mu_top (s : ByteArray) (σ : PS) : mu s σ ≤ s.size + 1 := by unfold mu; split <;> omega
def AF (s : ByteArray) (f : Nat) (A : List TK) (t : Tm) : Prop := ∀ (σ : PS) (L : List TK) (g : Nat), AtT s σ (A ++ L) → 14 * mu s σ < f → mu s σ < g →
  (∃ σ' g', AtT s σ' L ∧ (σ'.nest : Int) = σ.nest + nst A ∧ mu s σ' + A.length ≤ mu s σ ∧ mu s σ' < g' ∧ bT (atomS (termS f s) s σ) (afterS (termS f s) s g) = afterS (termS f s) s g' t σ') ∨
  (Deep σ.nest A ∧ ∃ p, bT (atomS (termS f s) s σ) (afterS (termS f s) s g) = .error (true, p))
def BF (s : ByteArray) (A : List TK) (t : Tm) : Prop := ∀ (f : Nat) (σ : PS) (L : List TK), stopL 1 L → AtT s σ (A ++ L) → 14 * mu s σ + 13 < f → RdT s σ A L (termS f s 1 σ) t
def CF (s : ByteArray) (A : List TK) (t : Tm) : Prop := ∀ (n f : Nat) (σ : PS) (L : List TK), 1 ≤ n → n ≤ 13 → stopL n L → AtT s σ (A ++ L) → 14 * mu s σ + (14 - n) < f → RdT s σ A L (termS f s n σ) t
def hdOk : List TK → Bool
  | [] => false
  | t :: _ => !isT t kMinus && !isT t kNot
def hdCu : List TK → Bool
  | [] => false
  | t :: _ => !isT t kRcu
theorem hdOk_app {A : List TK} (h : hdOk A = true) (B : List TK) : hdOk (A ++ B) = true := by
  cases A with
  | nil => cases h
  | cons t A => exact h
theorem hdCu_app {A : List TK} (h : hdCu A = true) (B : List TK) : hdCu (A ++ B) = true := by
  cases A with
  | nil => cases h
  | cons t A => exact h
theorem hd_at {s : ByteArray} {σ : PS} {A L : List TK} (h : hdOk A = true) (ha : AtT s σ (A ++ L)) : isS σ kMinus = false ∧ isS σ kNot = false := by
  rw [is_at ha, is_at ha]
  cases A with
  | nil => cases h
  | cons t A =>
    unfold hdOk at h
    simp only [Bool.and_eq_true, Bool.not_eq_true'] at h
    exact h
theorem cu_at {s : ByteArray} {σ : PS} {A L : List TK} (h : hdCu A = true) (ha : AtT s σ (A ++ L)) : isS σ kRcu = false := by
  rw [is_at ha]
  cases A with
  | nil => cases h
  | cons t A =>
    unfold hdCu at h
    simp only [Bool.not_eq_true'] at h
    exact h
theorem level13 {s : ByteArray} {f : Nat} {A L : List TK} {t : Tm} {σ : PS} (hA : AF s f A t) (hh : hdOk A = true) (ha : AtT s σ (A ++ L)) (hf : 14 * mu s σ < f) (hs : stopL 13 L) : RdT s σ A L (termS (f + 1) s 13 σ) t := by
  rw [term13_eq, if_neg (by rw [(hd_at hh ha).1]; simp)]
  have hb := mu_top s σ
  rcases hA σ L (s.size + 2) ha hf (by omega) with ⟨σ', g', ha', hn, hm', hg, e⟩ | ⟨hd, p, e⟩
  · show RdT s σ A L (bT (atomS (termS f s) s σ) (afterS (termS f s) s (s.size + 2))) t
    rw [e]
    obtain ⟨g', rfl⟩ : ∃ k, g' = k + 1 := ⟨g' - 1, by omega⟩
    rw [after_stop ha' hs]
    exact Or.inl ⟨σ', rfl, ha', hn, hm'⟩
  · show RdT s σ A L (bT (atomS (termS f s) s σ) (afterS (termS f s) s (s.size + 2))) t
    rw [e]; exact Or.inr ⟨hd, p, rfl⟩
theorem CF_of {s : ByteArray} {A : List TK} {t : Tm} (hA : ∀ f, AF s f A t) (hh : hdOk A = true) : CF s A t := by
  intro n f σ L h1 h13 hs ha hf
  have := desc (s := s) (A := A) (L := L) (t := t) (σ := σ) (13 - n) n 13 (f - 1 - (13 - n) + 1) (by omega) h1 (Nat.le_refl _) (fun _ _ => (hd_at hh ha).2) (fun k a b => hs.2.2.2 k a (by omega))
    (level13 (hA _) hh ha (by omega) (hs.mono h13))
  rwa [show f - 1 - (13 - n) + 1 + (13 - n) = f by omega] at this
theorem BF_of {s : ByteArray} {A : List TK} {t : Tm} (hA : ∀ f, AF s f A t) (hh : hdOk A = true) : BF s A t := fun f σ L hs ha hf => CF_of hA hh 1 f σ L (by decide) (by decide) hs ha (by omega)
theorem atom_A {s : ByteArray} {f : Nat} {A : List TK} {t : Tm} (h : ∀ (σ : PS) (L : List TK), AtT s σ (A ++ L) → 14 * mu s σ < f → RdT s σ A L (atomS (termS f s) s σ) t) : AF s f A t := by
  intro σ L g ha hf hg
  rcases h σ L ha hf with ⟨σ', e, ha', hn, hm⟩ | ⟨hd, p, e⟩
  · exact Or.inl ⟨σ', g, ha', hn, hm, by omega, by rw [e]; rfl⟩
  · exact Or.inr ⟨hd, p, by rw [e]; rfl⟩
theorem atom_sign (T : TF) {s : ByteArray} {σ : PS} {x : ByteArray} {L : List TK} (h : AtT s σ (tkS x :: L)) : atomS T s σ = match isT (tkS x) kLpar with | true => insideS T s kLpar kRpar σ | false => (match isT (tkS x) kLcu with | true => bracesS T s σ | false => .error (false, σ.ta)) := by
  unfold atomS
  rw [show σ.k = 3 from h.k, is_at h, is_at h]
  rfl
theorem atom_lpar (T : TF) {s : ByteArray} {σ : PS} {L : List TK} (h : AtT s σ (tkS kLpar :: L)) : atomS T s σ = insideS T s kLpar kRpar σ := by
  rw [atom_sign T h, show isT (tkS kLpar) kLpar = true by kernel_rfl]
theorem atom_lcu (T : TF) {s : ByteArray} {σ : PS} {L : List TK} (h : AtT s σ (tkS kLcu :: L)) : atomS T s σ = bracesS T s σ := by
  rw [atom_sign T h, show isT (tkS kLcu) kLpar = false by kernel_rfl, show isT (tkS kLcu) kLcu = true by kernel_rfl]
theorem atom_wd (T : TF) {s : ByteArray} {σ : PS} {x : ByteArray} {L : List TK} (h : AtT s σ (tkW x :: L)) : atomS T s σ = wordedS T s σ := by
  unfold atomS
  rw [show σ.k = 1 from h.k]
  rfl
theorem atom_nr (T : TF) {s : ByteArray} {σ : PS} {n : Int} {L : List TK} (h : AtT s σ (tkN n :: L)) : atomS T s σ = leafS s (.mk 19 nil0 n ty0 []) σ := by
  unfold atomS
  rw [show σ.k = 2 from h.k, show σ.n = n from h.2.2.2.1]
  rfl
theorem leaf_rd {s : ByteArray} {σ : PS} {t : TK} {L : List TK} (h : AtT s σ (t :: L)) (hn : nestT t = 0) (a : Tm) : RdT s σ [t] L (leafS s a σ) a := by
  rw [leaf_eq]
  exact RdP.bindT (B := []) (adv_rd h hn) fun σ1 h1 _ _ => RdT.done h1
theorem par_A {s : ByteArray} {A : List TK} {t : Tm} (hB : BF s A t) (h0 : nst A = 0) (f : Nat) : AF s f ([tkS kLpar] ++ (A ++ [tkS kRpar])) t :=
  atom_A fun σ L ha hf => by
    rw [atom_lpar (L := A ++ [tkS kRpar] ++ L) _ (by simpa using ha)]
    exact inside_rd (Or.inl rfl) (Or.inl rfl) ha h0 fun σ1 h1 m1 => hB f σ1 _ (stop_rpar _) h1 (by omega)
theorem post_A {s : ByteArray} {f : Nat} {A B : List TK} {t u : Tm} {o c : ByteArray} {op : Int} (hA : AF s f A t) (hB : BF s B u) (h0 : nst B = 0) (ho : (o = kLpar ∧ c = kRpar ∧ op = 54) ∨ (o = kLbr ∧ c = kRbr ∧ op = 53)) :
    AF s f (A ++ ([tkS o] ++ (B ++ [tkS c]))) (nd op [t, u]) := by
  intro σ L g ha hf hg
  have ho1 : opn o := by rcases ho with ⟨rfl, -⟩ | ⟨rfl, -⟩ <;> simp [opn]
  have hc1 : cls c := by rcases ho with ⟨-, rfl, -⟩ | ⟨-, rfl, -⟩ <;> simp [cls]
  have hst : ∀ L, stopL 1 (tkS c :: L) := by
    rcases ho with ⟨-, rfl, -⟩ | ⟨-, rfl, -⟩
    · exact stop_rpar
    · exact stop_rbr
  rcases hA σ ([tkS o] ++ (B ++ [tkS c]) ++ L) g (ha.cast (by simp)) hf hg with ⟨σ1, g1, ha1, hn1, hm1, hg1, e1⟩ | ⟨hd, p, e⟩
  · obtain ⟨g1, rfl⟩ : ∃ k, g1 = k + 1 := ⟨g1 - 1, by omega⟩
    have hR : RdT s σ1 ([tkS o] ++ (B ++ [tkS c])) L (insideS (termS f s) s o c σ1) u := inside_rd ho1 hc1 ha1 h0 fun σ2 h2 m2 => hB f σ2 _ (hst _) h2 (by omega)
    have hi : ∀ x, isS σ1 x = isT (tkS o) x := fun x => is_at ha1 x
    have step : afterS (termS f s) s (g1 + 1) t σ1 = bT (insideS (termS f s) s o c σ1) fun u σ2 => afterS (termS f s) s g1 (nd op [t, u]) σ2 := by
      rw [after_eq, hi, hi]
      rcases ho with ⟨rfl, rfl, rfl⟩ | ⟨rfl, rfl, rfl⟩
      · rw [if_pos (by kernel_rfl)]
      · rw [if_neg (by rw [show isT (tkS kLbr) kLpar = false by kernel_rfl]; simp), if_pos (by kernel_rfl)]
    rcases hR with ⟨σ2, e2, ha2, hn2, hm2⟩ | ⟨hd, p, e2⟩
    · refine Or.inl ⟨σ2, g1, ha2, by rw [nst_app]; omega, ?_, ?_, by rw [e1, step, e2]; rfl⟩
      · rw [List.length_append]; omega
      · simp at hm2; omega
    · exact Or.inr ⟨hd.right A hn1, p, by rw [e1, step, e2]; rfl⟩
  · exact Or.inr ⟨hd.left _, p, e⟩
theorem inv_A {s : ByteArray} {f : Nat} {A : List TK} {t : Tm} (hA : AF s f A t) : AF s f (A ++ [tkS kTilde]) (nd 52 [t]) := by
  intro σ L g ha hf hg
  rcases hA σ ([tkS kTilde] ++ L) g (ha.cast (by simp)) hf hg with ⟨σ1, g1, ha1, hn1, hm1, hg1, e1⟩ | ⟨hd, p, e⟩
  · obtain ⟨g1, rfl⟩ : ∃ k, g1 = k + 1 := ⟨g1 - 1, by omega⟩
    have hi : ∀ x, isS σ1 x = isT (tkS kTilde) x := fun x => is_at ha1 x
    obtain ⟨σ2, e2, ha2, hn2, hm2⟩ := adv_at ha1
    refine Or.inl ⟨σ2, g1, ha2, ?_, ?_, by omega, ?_⟩
    · rw [nst_app, nst_cons, nst_nil, show nestT (tkS kTilde) = 0 by kernel_rfl]; omega
    · simp; omega
    · rw [e1, after_eq, hi, hi, hi, if_neg (by rw [show isT (tkS kTilde) kLpar = false by kernel_rfl]; simp), if_neg (by rw [show isT (tkS kTilde) kLbr = false by kernel_rfl]; simp), if_pos (by kernel_rfl), e2]; rfl
  · exact Or.inr ⟨hd.left _, p, e⟩
/-! Binary operators. -/
def binTk (op : Int) : TK := if keywordB (binS op) then tkW (binS op) else tkS (binS op)
def binLvl (op : Int) : Nat := ((List.range 13).find? fun n => (lvOps n).contains op).getD 0
def binOps : List Int := [4, 5, 6, 7, 10, 11, 12, 13, 14, 15, 16, 17, 18, 22, 23, 24, 25, 26, 27, 30, 31, 32, 33, 34, 35, 36, 37, 38, 39, 40, 41, 42, 43, 44, 45]
def binChk (op : Int) : Bool := decide (1 ≤ binLvl op) && decide (binLvl op ≤ 12) && decide (binLvl op ≠ 5) && (opTk (binTk op) (lvSigns (binLvl op)) (lvOps (binLvl op)) == op) && stopB (binLvl op + 1) (binTk op) && (nestT (binTk op) == 0) && compB op && !(op == 0)
theorem bin_chk : binOps.all binChk = true := by kernel_rfl
structure BinOk (op : Int) : Prop where
  lo : 1 ≤ binLvl op
  hi : binLvl op ≤ 12
  n5 : binLvl op ≠ 5
  opk : opTk (binTk op) (lvSigns (binLvl op)) (lvOps (binLvl op)) = op
  stop : stopB (binLvl op + 1) (binTk op) = true
  nest : nestT (binTk op) = 0
  comp : compB op = true
  n0 : op ≠ 0
theorem bin_ok {op : Int} (h : op ∈ binOps) : BinOk op := by
  have := List.all_eq_true.1 bin_chk op h
  unfold binChk at this
  simp only [Bool.and_eq_true, decide_eq_true_eq, beq_iff_eq, Bool.not_eq_true', beq_eq_false_iff_ne] at this
  obtain ⟨⟨⟨⟨⟨⟨⟨a, b⟩, c⟩, d⟩, e⟩, f⟩, g⟩, i⟩ := this
  exact ⟨a, b, c, d, e, f, g, i⟩
theorem bin_B {s : ByteArray} {A B : List TK} {t u : Tm} {op : Int} (ho : op ∈ binOps) (hA : CF s A t) (hB : CF s B u) (hh : hdOk A = true) : BF s (A ++ ([binTk op] ++ B)) (nd op [t, u]) := by
  intro f σ L hs ha hf
  have K := bin_ok ho
  have k1 := K.lo
  have k2 := K.hi
  have hnot := (hd_at hh (ha.cast (B := A ++ ([binTk op] ++ B ++ L)) (by simp))).2
  have := desc (s := s) (A := A ++ ([binTk op] ++ B)) (L := L) (t := nd op [t, u]) (σ := σ) (binLvl op - 1) 1 (binLvl op) (f - 1 - (binLvl op - 1) + 1) (by omega) (by decide) (by omega) (fun _ _ => hnot) (fun k a b => hs.2.2.2 k a (by omega)) ?_
  · rwa [show f - 1 - (binLvl op - 1) + 1 + (binLvl op - 1) = f by omega] at this
  rw [termn_eq _ _ _ _ K.n5 (by omega)]
  generalize hk : f - 1 - (binLvl op - 1) = k
  refine RdT.bindT (B := [binTk op] ++ B) (hA (binLvl op + 1) k σ _ (by omega) (by omega) (stop_of K.stop (B ++ L)) (by simpa using ha) (by omega)) fun σ1 h1 n1 m1 => ?_
  have h1' : AtT s σ1 (binTk op :: (B ++ L)) := by simpa using h1
  have hop : opOf (binLvl op) σ1 = op := by rw [op_at h1']; exact K.opk
  show RdT s σ1 ([binTk op] ++ B) L (restS (termS k s) s (binLvl op) (s.size + 1 + 1) t σ1) (nd op [t, u])
  rw [rest_eq, if_neg (by rw [hop]; simpa using K.n0), hop]
  refine RdP.bindT (adv_rd h1' K.nest) fun σ2 h2 n2 m2 => ?_
  simp only [List.length_singleton] at m2
  have hl := lv_next (binLvl op) K.lo K.hi _ rfl
  have hle : binLvl op ≤ (if lvGroup (binLvl op) = 2 then binLvl op else binLvl op + 1) := by split <;> omega
  generalize (if lvGroup (binLvl op) = 2 then binLvl op else binLvl op + 1) = n at *
  have hR := hB n k σ2 L hl.1 hl.2 (hs.mono hl.1) h2 (by omega)
  have := RdT.bindT (B := []) (L := L) (k := fun u σ3 => if (lvGroup (binLvl op) != 1) = true then Except.ok (nd op [t, u], σ3) else restS (termS k s) s (binLvl op) (s.size + 1) (nd op [t, u]) σ3) (b := nd op [t, u]) (by simpa using hR) (fun σ3 h3 n3 m3 => by
    split
    · exact RdT.done (by simpa using h3)
    · rw [rest_stop (by simpa using h3) (hs.2.2.2 _ K.lo K.hi)]
      exact RdT.done (by simpa using h3))
  exact this.cast (by simp)
theorem not_B {s : ByteArray} {A : List TK} {t : Tm} (hA : CF s A t) : BF s ([tkW kNot] ++ A) (nd 3 [t]) := by
  intro f σ L hs ha hf
  have := desc (s := s) (A := [tkW kNot] ++ A) (L := L) (t := nd 3 [t]) (σ := σ) 4 1 5 (f - 5 + 1) rfl (by decide) (by decide) (fun _ b => by omega) (fun k a b => hs.2.2.2 k a (by omega)) ?_
  · rwa [show f - 5 + 1 + 4 = f by omega] at this
  have ha' : AtT s σ (tkW kNot :: (A ++ L)) := by simpa using ha
  rw [term5_eq, if_pos (by rw [is_at ha']; kernel_rfl)]
  refine RdP.bindT (adv_rd ha' rfl) fun σ1 h1 n1 m1 => ?_
  simp only [List.length_singleton] at m1
  have := RdT.bindT (B := []) (L := L) (k := fun t σ2 => Except.ok (nd 3 [t], σ2)) (b := nd 3 [t]) (by simpa using hA 5 (f - 5) σ1 L (by decide) (by decide) (hs.mono (by decide)) h1 (by omega)) (fun σ2 h2 _ _ => RdT.done (by simpa using h2))
  exact this.cast (by simp)
theorem neg_B {s : ByteArray} {A : List TK} {t : Tm} (hA : CF s A t) : BF s ([tkS kMinus] ++ A) (nd 21 [t]) := by
  intro f σ L hs ha hf
  have ha' : AtT s σ (tkS kMinus :: (A ++ L)) := by simpa using ha
  have := desc (s := s) (A := [tkS kMinus] ++ A) (L := L) (t := nd 21 [t]) (σ := σ) 12 1 13 (f - 13 + 1) rfl (by decide) (by decide) (fun _ b => by rw [is_at ha']; kernel_rfl) (fun k a b => hs.2.2.2 k a (by omega)) ?_
  · rwa [show f - 13 + 1 + 12 = f by omega] at this
  rw [term13_eq, if_pos (by rw [is_at ha']; kernel_rfl)]
  refine RdP.bindT (adv_rd ha' (by kernel_rfl)) fun σ1 h1 n1 m1 => ?_
  simp only [List.length_singleton] at m1
  have := RdT.bindT (B := []) (L := L) (k := fun t σ2 => Except.ok (nd 21 [t], σ2)) (b := nd 21 [t]) (by simpa using hA 13 (f - 13) σ1 L (by decide) (by decide) (hs.mono (by decide)) h1 (by omega)) (fun σ2 h2 _ _ => RdT.done (by simpa using h2))
  exact this.cast (by simp)
def bindW (op : Int) : ByteArray := if op = 8 then kForall else if op = 9 then kExists else kFun
theorem atom_binder (T : TF) {s : ByteArray} {σ : PS} {op : Int} {L : List TK} (hop : op = 8 ∨ op = 9 ∨ op = 56) (h : AtT s σ (tkW (bindW op) :: L)) : atomS T s σ = binderS T s op σ := by
  have hi : ∀ x, isS σ x = isT (tkW (bindW op)) x := fun x => is_at h x
  rw [atom_wd T h, worded_eq, show σ.tx = bindW op from h.tx, hi, hi, hi, hi, hi]
  rcases hop with rfl | rfl | rfl
  · rw [if_pos (by kernel_rfl), if_neg (bno (by kernel_rfl)), if_neg (bno (by kernel_rfl)), if_neg (bno (by kernel_rfl)), if_pos (by kernel_rfl)]
  · rw [if_pos (by kernel_rfl), if_neg (bno (by kernel_rfl)), if_neg (bno (by kernel_rfl)), if_neg (bno (by kernel_rfl)), if_neg (bno (by kernel_rfl)), if_pos (by kernel_rfl)]
  · rw [if_pos (by kernel_rfl), if_neg (bno (by kernel_rfl)), if_neg (bno (by kernel_rfl)), if_neg (bno (by kernel_rfl)), if_neg (bno (by kernel_rfl)), if_neg (bno (by kernel_rfl)), if_pos (by kernel_rfl)]
theorem bind_B {s : ByteArray} {A B : List TK} {t u : Tm} {op : Int} {nm : ByteArray} (hop : op = 8 ∨ op = 9 ∨ op = 56) (hnm : identB nm = true) (hA : CF s A t) (hB : BF s B u) :
    BF s ([tkW (bindW op)] ++ ([tkW nm] ++ ([tkW kIn] ++ (A ++ ([tkS kDot] ++ B))))) (.mk op nm 0 ty0 [t, u]) := by
  intro f σ L hs ha hf
  have ha' : AtT s σ (tkW (bindW op) :: ([tkW nm] ++ ([tkW kIn] ++ (A ++ ([tkS kDot] ++ B))) ++ L)) := by simpa using ha
  have := desc (s := s) (A := [tkW (bindW op)] ++ ([tkW nm] ++ ([tkW kIn] ++ (A ++ ([tkS kDot] ++ B))))) (L := L) (t := .mk op nm 0 ty0 [t, u]) (σ := σ) 12 1 13 (f - 13 + 1) rfl (by decide) (by decide) (fun _ b => by rw [is_at ha']; rcases hop with rfl | rfl | rfl <;> kernel_rfl) (fun k a b => hs.2.2.2 k a (by omega)) ?_
  · rwa [show f - 13 + 1 + 12 = f by omega] at this
  rw [term13_eq, if_neg (bno (by rw [is_at ha']; rcases hop with rfl | rfl | rfl <;> kernel_rfl)), atom_binder _ hop ha', binder_eq]
  generalize hk : f - 13 = k
  have hR : RdT s σ ([tkW (bindW op)] ++ ([tkW nm] ++ ([tkW kIn] ++ (A ++ ([tkS kDot] ++ B))))) L (bP (advS s σ) fun σ1 => boundS (termS k s) s op σ1) (.mk op nm 0 ty0 [t, u]) := by
    refine RdP.bindT (adv_rd ha' rfl) fun σ1 h1 n1 m1 => ?_
    rw [bound_eq]
    simp only [List.length_singleton] at m1
    refine RdT.bindT (name_rd (L := [tkW kIn] ++ (A ++ ([tkS kDot] ++ B)) ++ L) (by simpa using h1) hnm) fun σ2 h2 n2 m2 => ?_
    simp only [List.length_singleton] at m2
    refine RdP.bindT (want_rd (L := (A ++ ([tkS kDot] ++ B)) ++ L) (by simpa using h2) (by kernel_rfl) rfl) fun σ3 h3 n3 m3 => ?_
    simp only [List.length_singleton] at m3
    refine RdT.bindT (hA 7 k σ3 _ (by decide) (by decide) (by simpa using (stop_dot (B ++ L)).mono (by decide)) (by simpa using h3) (by omega)) fun σ4 h4 n4 m4 => ?_
    refine RdP.bindT (want_rd (t := tkS kDot) (L := B ++ L) (by simpa using h4) (by kernel_rfl) (by kernel_rfl)) fun σ5 h5 n5 m5 => ?_
    simp only [List.length_singleton] at m5
    have := RdT.bindT (B := []) (L := L) (k := fun c σ6 => Except.ok (Tm.mk op nm 0 ty0 [t, c], σ6)) (b := .mk op nm 0 ty0 [t, u]) (by simpa using hB k σ5 L hs h5 (by omega)) (fun σ6 h6 _ _ => RdT.done (by simpa using h6))
    exact this.cast (by simp)
  rcases hR with ⟨σ', e, ha2, hn, hm⟩ | ⟨hd, p, e⟩
  · rw [e]
    show RdT s σ _ L (afterS (termS k s) s (s.size + 1 + 1) _ σ') _
    rw [after_stop ha2 hs]
    exact Or.inl ⟨σ', rfl, ha2, hn, hm⟩
  · rw [e]; exact Or.inr ⟨hd, p, rfl⟩
theorem isT_sgn {x y : ByteArray} (h : keywordB y = false) : isT (tkW x) y = false := by
  unfold isT isB tkW
  rw [h]; simp
theorem hd_word {x : ByteArray} (h : keywordB x = false) (L : List TK) : hdOk (tkW x :: L) = true := by
  show (!isT (tkW x) kMinus && !isT (tkW x) kNot) = true
  rw [isT_sgn (by kernel_rfl), isT_name h (by kernel_rfl)]; rfl
theorem cu_word (x : ByteArray) (L : List TK) : hdCu (tkW x :: L) = true := by
  show (!isT (tkW x) kRcu) = true
  rw [isT_sgn (by kernel_rfl)]; rfl
theorem leaf_A {s : ByteArray} {f : Nat} {tk : TK} {t : Tm} (h : ∀ (σ : PS) (L : List TK), AtT s σ (tk :: L) → atomS (termS f s) s σ = leafS s t σ) (hn : nestT tk = 0) : AF s f [tk] t :=
  atom_A fun σ L ha hf => by rw [h σ L ha]; exact leaf_rd ha hn _
theorem true_A {s : ByteArray} {f : Nat} : AF s f [tkW kTrue] (nd 1 []) := leaf_A (fun σ L h => by
  rw [atom_wd _ h, worded_eq, show σ.tx = kTrue from h.tx, is_at h, if_pos (by kernel_rfl), if_neg (bno (by kernel_rfl)), if_pos (by kernel_rfl)]) rfl
theorem false_A {s : ByteArray} {f : Nat} : AF s f [tkW kFalse] (nd 2 []) := leaf_A (fun σ L h => by
  have hi : ∀ x, isS σ x = isT (tkW kFalse) x := fun x => is_at h x
  rw [atom_wd _ h, worded_eq, show σ.tx = kFalse from h.tx, hi, hi, if_pos (by kernel_rfl), if_neg (bno (by kernel_rfl)), if_neg (bno (by kernel_rfl)), if_pos (by kernel_rfl)]) rfl
theorem name_A {s : ByteArray} {f : Nat} {nm : ByteArray} (hk : keywordB nm = false) : AF s f [tkW nm] (.mk 20 nm 0 ty0 []) := leaf_A (fun σ L h => by
  rw [atom_wd _ h, worded_eq, show σ.tx = nm from h.tx, if_neg (by rw [hk]; simp)]) rfl
theorem num_A {s : ByteArray} {f : Nat} {n : Int} : AF s f [tkN n] (.mk 19 nil0 n ty0 []) := leaf_A (fun σ L h => atom_nr _ h) rfl
theorem fn_A {s : ByteArray} {f : Nat} {A : List TK} {t : Tm} {op : Int} (hop : op = 46 ∨ op = 47 ∨ op = 48 ∨ op = 49 ∨ op = 50 ∨ op = 51) (hB : BF s A t) (h0 : nst A = 0) : AF s f ([tkW (keyS op)] ++ ([tkS kLpar] ++ (A ++ [tkS kRpar]))) (nd op [t]) :=
  atom_A fun σ L ha hf => by
    have ha' : AtT s σ (tkW (keyS op) :: ([tkS kLpar] ++ (A ++ [tkS kRpar]) ++ L)) := by simpa using ha
    have hF : functionN (keyS op) = op := by rcases hop with rfl | rfl | rfl | rfl | rfl | rfl <;> kernel_rfl
    have hK : keywordB (keyS op) = true := by rcases hop with rfl | rfl | rfl | rfl | rfl | rfl <;> kernel_rfl
    have hN : (op != 0) = true := by rcases hop with rfl | rfl | rfl | rfl | rfl | rfl <;> rfl
    rw [atom_wd _ ha', worded_eq, show σ.tx = keyS op from ha'.tx, hF, if_pos hK, if_pos hN]
    unfold funK
    refine RdP.bindT (adv_rd ha' rfl) fun σ1 h1 n1 m1 => ?_
    simp only [List.length_singleton] at m1
    have := RdT.bindT (B := []) (L := L) (k := fun t σ2 => Except.ok (nd op [t], σ2)) (b := nd op [t]) (by
      simpa using inside_rd (s := s) (σ := σ1) (T := termS f s) (A := A) (L := L) (t := t) (Or.inl rfl) (Or.inl rfl) h1 h0 fun σ2 h2 m2 => hB f σ2 _ (stop_rpar _) h2 (by omega)) (fun σ2 h2 _ _ => RdT.done (by simpa using h2))
    exact this.cast (by simp)
theorem empty_A {s : ByteArray} {f : Nat} {ty : Ty} (hty : RdTy ty) : AF s f ([tkS kLcu] ++ ([tkS kRcu] ++ ([tkS kLbr] ++ (tyToks ty ++ [tkS kRbr])))) (.mk 29 nil0 0 ty []) :=
  atom_A fun σ L ha hf => by
    have ha' : AtT s σ (tkS kLcu :: ([tkS kRcu] ++ ([tkS kLbr] ++ (tyToks ty ++ [tkS kRbr])) ++ L)) := by simpa using ha
    rw [atom_lcu _ ha', braces_eq]
    refine RdP.bindT (open_rd ha' (Or.inr (Or.inr rfl))) fun σ1 h1 n1 m1 => ?_
    rw [nst_cons, nst_nil, nest_lcu] at n1
    rw [if_pos (by rw [is_at h1]; kernel_rfl)]
    unfold emptyK
    obtain ⟨σ2, e2, h2, n2, m2⟩ := adv_at h1
    rw [e2]
    show RdT s σ1 _ L (bP (openS s { σ2 with nest := σ2.nest - 1 } kLbr) _) _
    have h2n : AtT s { σ2 with nest := σ2.nest - 1 } ([tkS kLbr] ++ (tyToks ty ++ [tkS kRbr]) ++ L) := h2.nested _ (by have := h2.1; omega)
    generalize hσ : ({ σ2 with nest := σ2.nest - 1 } : PS) = σ2' at *
    have n2' : (σ2'.nest : Int) = σ1.nest - 1 := by rw [← hσ]; show ((σ2.nest - 1 : Nat) : Int) = _; omega
    have m2' : mu s σ2' = mu s σ2 := by rw [← hσ]; rfl
    have key : RdT s σ2' ([tkS kLbr] ++ (tyToks ty ++ [tkS kRbr])) L (bP (openS s σ2' kLbr) fun σ3 => bT (typedS (s.size + 2) s σ3) fun t σ4 => bP (shutS s σ4 kRbr) fun σ5 => Except.ok (Tm.mk 29 nil0 0 t [], σ5)) (.mk 29 nil0 0 ty []) := by
      refine RdP.bindT (open_rd (L := tyToks ty ++ [tkS kRbr] ++ L) (by simpa using h2n) (Or.inr (Or.inl rfl))) fun σ3 h3 n3 m3 => ?_
      rw [nst_cons, nst_nil, nest_lbr] at n3
      have := mu_top s σ3
      refine RdT.bindT (B := [tkS kRbr]) (typed_rd hty (s.size + 2) σ3 _ (by simpa using h3) (by omega)) fun σ4 h4 n4 m4 => ?_
      rw [ty_nst hty] at n4
      exact RdP.bindT (B := []) (shut_rd h4 (Or.inr (Or.inl rfl)) (by omega)) fun σ5 h5 _ _ => RdT.done h5
    rcases key with ⟨σ', e, ha3, hn, hm⟩ | ⟨hd, p, e⟩
    · refine Or.inl ⟨σ', e, ha3, ?_, ?_⟩
      · rw [nst_app, nst_cons, nst_nil, nest_rcu]; omega
      · rw [List.length_append, List.length_singleton]; omega
    · exact Or.inr ⟨hd.right _ (by rw [nst_cons, nst_nil, nest_rcu]; omega), p, e⟩
theorem compr_A {s : ByteArray} {f : Nat} {A B : List TK} {t u : Tm} {nm : ByteArray} (hnm : identB nm = true) (hA : CF s A t) (hB : BF s B u) (hA0 : nst A = 0) (hB0 : nst B = 0) :
    AF s f ([tkS kLcu] ++ (([tkW nm] ++ ([binTk 16] ++ A)) ++ ([tkS kBar] ++ (B ++ [tkS kRcu])))) (.mk 55 nm 0 ty0 [t, u]) :=
  atom_A fun σ L ha hf => by
    have hkw := ident_kw hnm
    have hh : hdOk [tkW nm] = true := hd_word hkw []
    have hN : CF s [tkW nm] (.mk 20 nm 0 ty0 []) := CF_of (fun f => name_A hkw) hh
    have hI : BF s ([tkW nm] ++ ([binTk 16] ++ A)) (nd 16 [.mk 20 nm 0 ty0 [], t]) := bin_B (by decide) hN hA hh
    have hI0 : nst ([tkW nm] ++ ([binTk 16] ++ A)) = 0 := by simp only [nst_app, nst_cons, nst_nil, nest_w, hA0, (bin_ok (op := 16) (by decide)).nest]; rfl
    have ha' : AtT s σ (tkS kLcu :: (([tkW nm] ++ ([binTk 16] ++ A)) ++ ([tkS kBar] ++ (B ++ [tkS kRcu])) ++ L)) := by simpa using ha
    rw [atom_lcu _ ha', braces_eq]
    refine RdP.bindT (open_rd ha' (Or.inr (Or.inr rfl))) fun σ1 h1 n1 m1 => ?_
    rw [nst_cons, nst_nil, nest_lcu] at n1
    simp only [List.length_singleton] at m1
    have hw : AtT s σ1 (tkW nm :: (([binTk 16] ++ A) ++ ([tkS kBar] ++ (B ++ [tkS kRcu])) ++ L)) := by simpa using h1
    rw [if_neg (by rw [is_at hw]; show ¬ isT (tkW nm) kRcu = true; rw [isT_sgn (by kernel_rfl)]; simp), show (σ1.k == 1) = true by rw [show σ1.k = 1 from hw.k]; rfl]
    refine RdT.bindT (hI f σ1 ([tkS kBar] ++ (B ++ [tkS kRcu]) ++ L) (by simpa using stop_bar (B ++ [tkS kRcu] ++ L)) (by simpa using h1) (by omega)) fun σ2 h2 n2 m2 => ?_
    rw [hI0] at n2
    have h2' : AtT s σ2 (tkS kBar :: (B ++ [tkS kRcu] ++ L)) := by simpa using h2
    rw [elements_eq, if_pos (by
      rw [is_at h2', show isL (tkS kBar :: (B ++ [tkS kRcu] ++ L)) kBar = true by show isT (tkS kBar) kBar = true; kernel_rfl]
      unfold headB nd
      simp [Tm.op, Tm.kids, Tm.name, hnm])]
    refine RdP.bindT (adv_rd h2' (by kernel_rfl)) fun σ3 h3 n3 m3 => ?_
    rw [nst_cons, nst_nil, show nestT (tkS kBar) = 0 by kernel_rfl] at n3
    simp only [List.length_singleton] at m3
    refine RdT.bindT (B := [tkS kRcu]) (hB f σ3 _ (stop_rcu _) (by simpa using h3) (by omega)) fun σ4 h4 n4 m4 => ?_
    rw [hB0] at n4
    exact RdP.bindT (B := []) (shut_rd h4 (Or.inr (Or.inr rfl)) (by omega)) fun σ5 h5 _ _ => RdT.done h5
/-! Sets. -/
def moreT : List (List TK) → List TK
  | [] => []
  | A :: l => [tkS kComma] ++ (A ++ moreT l)
theorem elems_rd {s : ByteArray} {f : Nat} {L : List TK} (g : Nat) : ∀ (ps : List (List TK × Tm)) (acc : List Tm) (σ : PS), (∀ p, p ∈ ps → BF s p.1 p.2) → AtT s σ (moreT (ps.map Prod.fst) ++ (tkS kRcu :: L)) → 14 * mu s σ < f → mu s σ < g →
    RdT s σ (moreT (ps.map Prod.fst)) (tkS kRcu :: L) (elemsS (termS f s) s g acc σ) (acc ++ ps.map Prod.snd) := by
  induction g with
  | zero => intro ps acc σ _ _ _ h; omega
  | succ g ih =>
    intro ps acc σ hp ha hf hg
    cases ps with
    | nil =>
      have ha' : AtT s σ (tkS kRcu :: L) := ha
      unfold elemsS
      rw [is_at ha', show isL (tkS kRcu :: L) kComma = false by show isT (tkS kRcu) kComma = false; kernel_rfl]
      show RdT s σ [] (tkS kRcu :: L) (Except.ok (acc, σ)) (acc ++ [])
      rw [List.append_nil]
      exact RdT.done ha'
    | cons p ps =>
      obtain ⟨A, t⟩ := p
      have ha' : AtT s σ (tkS kComma :: (A ++ moreT (ps.map Prod.fst) ++ (tkS kRcu :: L))) := by simpa [moreT] using ha
      rw [elems_eq _ _ _ _ _ (by rw [is_at ha']; show isT (tkS kComma) kComma = true; kernel_rfl)]
      show RdT s σ ([tkS kComma] ++ (A ++ moreT (ps.map Prod.fst))) _ _ _
      refine RdP.bindT (adv_rd ha' nest_comma) fun σ1 h1 n1 m1 => ?_
      simp only [List.length_singleton] at m1
      have hst : stopL 1 (moreT (ps.map Prod.fst) ++ (tkS kRcu :: L)) := by
        cases ps with
        | nil => exact stop_rcu L
        | cons p ps => exact stop_comma _
      refine RdT.bindT (hp _ (List.mem_cons_self ..) f σ1 _ hst (by simpa using h1) (by omega)) fun σ2 h2 n2 m2 => ?_
      have := ih ps (acc ++ [t]) σ2 (fun p h => hp p (List.mem_cons_of_mem _ h)) h2 (by omega) (by omega)
      simpa using this
theorem nst_more {ps : List (List TK)} (h : ∀ A, A ∈ ps → nst A = 0) : nst (moreT ps) = 0 := by
  induction ps with
  | nil => rfl
  | cons A ps ih =>
    unfold moreT
    rw [nst_app, nst_app, nst_cons, nst_nil, nest_comma, h A (List.mem_cons_self ..), ih (fun B hB => h B (List.mem_cons_of_mem _ hB))]; rfl
theorem set_A {s : ByteArray} {f : Nat} {A : List TK} {t : Tm} {ps : List (List TK × Tm)} (hA : BF s A t) (hA0 : nst A = 0) (hc : hdCu A = true) (hp : ∀ p, p ∈ ps → BF s p.1 p.2 ∧ nst p.1 = 0) :
    AF s f ([tkS kLcu] ++ ((A ++ moreT (ps.map Prod.fst)) ++ [tkS kRcu])) (nd 28 (t :: ps.map Prod.snd)) :=
  atom_A fun σ L ha hf => by
    have hM0 : nst (moreT (ps.map Prod.fst)) = 0 := nst_more fun B hB => by
      obtain ⟨p, h1, rfl⟩ := List.mem_map.1 hB
      exact (hp p h1).2
    have ha' : AtT s σ (tkS kLcu :: (A ++ (moreT (ps.map Prod.fst) ++ (tkS kRcu :: L)))) := by simpa using ha
    rw [atom_lcu _ ha', braces_eq]
    refine RdP.bindT (open_rd (ha'.cast (by simp)) (Or.inr (Or.inr rfl))) fun σ1 h1 n1 m1 => ?_
    rw [nst_cons, nst_nil, nest_lcu] at n1
    simp only [List.length_singleton] at m1
    have h1' : AtT s σ1 (A ++ (moreT (ps.map Prod.fst) ++ (tkS kRcu :: L))) := by simpa using h1
    rw [if_neg (by rw [cu_at hc h1']; simp)]
    have hst : stopL 1 (moreT (ps.map Prod.fst) ++ (tkS kRcu :: L)) := by
      cases ps with
      | nil => exact stop_rcu L
      | cons p ps => exact stop_comma _
    have hbar : isL (moreT (ps.map Prod.fst) ++ (tkS kRcu :: L)) kBar = false := by
      cases ps with
      | nil => show isT (tkS kRcu) kBar = false; kernel_rfl
      | cons p ps => show isT (tkS kComma) kBar = false; kernel_rfl
    have := RdT.bindT (A := A) (B := moreT (ps.map Prod.fst) ++ [tkS kRcu]) (L := L) (k := fun t σ2 => elementsS (termS f s) s t (σ1.k == 1) σ2) (b := nd 28 (t :: ps.map Prod.snd)) (by simpa using hA f σ1 _ hst h1' (by omega)) (fun σ2 h2 n2 m2 => by
      have h2' : AtT s σ2 (moreT (ps.map Prod.fst) ++ (tkS kRcu :: L)) := by simpa using h2
      have := mu_top s σ2
      rw [elements_eq, if_neg (by rw [is_at h2', hbar]; simp)]
      unfold elemsK
      refine RdT.bindT (B := [tkS kRcu]) (elems_rd (s.size + 2) ps [t] σ2 (fun p h => (hp p h).1) h2' (by omega) (by omega)) fun σ3 h3 n3 m3 => ?_
      rw [hM0] at n3
      rw [hA0] at n2
      exact RdP.bindT (B := []) (shut_rd h3 (Or.inr (Or.inr rfl)) (by omega)) fun σ4 h4 _ _ => by simpa using RdT.done (a := nd 28 ([t] ++ ps.map Prod.snd)) h4)
    exact this.cast (by simp)
/-! The tokens of a term. -/
def opT (k : Int × List TK) : List TK := if compB k.1 then [tkS kLpar] ++ (k.2 ++ [tkS kRpar]) else k.2
def kidT (ks : List (Int × List TK)) (i : Nat) : Int × List TK := ks.getD i (0, [])
def joinT : List (List TK) → List TK
  | [] => []
  | A :: l => A ++ moreT l
def tmTok (op : Int) (nm : ByteArray) (N : Int) (ty : Ty) (ks : List (Int × List TK)) : List TK :=
  if op = 1 then [tkW kTrue] else if op = 2 then [tkW kFalse] else if op = 19 then [tkN N] else if op = 20 then [tkW nm]
  else if op = 29 then [tkS kLcu] ++ ([tkS kRcu] ++ ([tkS kLbr] ++ (tyToks ty ++ [tkS kRbr])))
  else if op = 3 then [tkW kNot] ++ opT (kidT ks 0) else if op = 21 then [tkS kMinus] ++ opT (kidT ks 0)
  else if op = 8 ∨ op = 9 ∨ op = 56 then [tkW (bindW op)] ++ ([tkW nm] ++ ([tkW kIn] ++ (opT (kidT ks 0) ++ ([tkS kDot] ++ (kidT ks 1).2))))
  else if op = 55 then [tkS kLcu] ++ (([tkW nm] ++ ([binTk 16] ++ opT (kidT ks 0))) ++ ([tkS kBar] ++ ((kidT ks 1).2 ++ [tkS kRcu])))
  else if op = 54 then opT (kidT ks 0) ++ ([tkS kLpar] ++ ((kidT ks 1).2 ++ [tkS kRpar]))
  else if op = 53 then opT (kidT ks 0) ++ ([tkS kLbr] ++ ((kidT ks 1).2 ++ [tkS kRbr]))
  else if op = 52 then opT (kidT ks 0) ++ [tkS kTilde]
  else if op = 28 then [tkS kLcu] ++ (joinT (ks.map Prod.snd) ++ [tkS kRcu])
  else if 46 ≤ op ∧ op ≤ 51 then [tkW (keyS op)] ++ ([tkS kLpar] ++ ((kidT ks 0).2 ++ [tkS kRpar]))
  else opT (kidT ks 0) ++ ([binTk op] ++ opT (kidT ks 1))
mutual
def tmToks : Tm → List TK
  | .mk op nm N ty l => tmTok op nm N ty (tmTokss l)
def tmTokss : List Tm → List (Int × List TK)
  | [] => []
  | t :: l => (t.op, tmToks t) :: tmTokss l
end
def opTm (t : Tm) : List TK := opT (t.op, tmToks t)
theorem tokss_map : ∀ l : List Tm, (tmTokss l).map Prod.snd = l.map tmToks
  | [] => rfl
  | t :: l => by rw [tmTokss, List.map_cons, List.map_cons, tokss_map l]
inductive RdTm : Tm → Prop
  | tru : RdTm (nd 1 [])
  | fls : RdTm (nd 2 [])
  | int {N : Int} (h0 : 0 ≤ N) (h1 : N ≤ 1000000000) : RdTm (.mk 19 nil0 N ty0 [])
  | name {nm : ByteArray} (h : namedB nm = true) : RdTm (.mk 20 nm 0 ty0 [])
  | empty {ty : Ty} (h : RdTy ty) : RdTm (.mk 29 nil0 0 ty [])
  | not {t : Tm} (h : RdTm t) : RdTm (nd 3 [t])
  | neg {t : Tm} (h : RdTm t) : RdTm (nd 21 [t])
  | bin {op : Int} {t u : Tm} (ho : op ∈ binOps) (h : RdTm t) (h' : RdTm u) : RdTm (nd op [t, u])
  | bind {op : Int} {nm : ByteArray} {t u : Tm} (ho : op = 8 ∨ op = 9 ∨ op = 56) (hn : identB nm = true) (h : RdTm t) (h' : RdTm u) : RdTm (.mk op nm 0 ty0 [t, u])
  | compr {nm : ByteArray} {t u : Tm} (hn : identB nm = true) (h : RdTm t) (h' : RdTm u) : RdTm (.mk 55 nm 0 ty0 [t, u])
  | fn {op : Int} {t : Tm} (ho : op = 46 ∨ op = 47 ∨ op = 48 ∨ op = 49 ∨ op = 50 ∨ op = 51) (h : RdTm t) : RdTm (nd op [t])
  | app {t u : Tm} (h : RdTm t) (h' : RdTm u) : RdTm (nd 54 [t, u])
  | img {t u : Tm} (h : RdTm t) (h' : RdTm u) : RdTm (nd 53 [t, u])
  | inv {t : Tm} (h : RdTm t) : RdTm (nd 52 [t])
  | set {t : Tm} {l : List Tm} (h : RdTm t) (h' : ∀ u, u ∈ l → RdTm u) : RdTm (nd 28 (t :: l))
structure Good (t : Tm) : Prop where
  n0 : nst (tmToks t) = 0
  hd : hdOk (opTm t) = true
  cu : hdCu (tmToks t) = true
  af : ∀ s f, AF s f (opTm t) t
  bf : ∀ s, BF s (tmToks t) t
theorem Good.cf {t : Tm} (h : Good t) (s : ByteArray) : CF s (opTm t) t := CF_of (h.af s) h.hd
theorem Good.on {t : Tm} (h : Good t) : nst (opTm t) = 0 := by
  unfold opTm opT
  split
  · simp only [nst_app, nst_cons, nst_nil, nest_lpar, nest_rpar]; have := h.n0; omega
  · exact h.n0
theorem Good.ocu {t : Tm} (h : Good t) : hdCu (opTm t) = true := by
  unfold opTm opT
  split
  · show (!isT (tkS kLpar) kRcu) = true; kernel_rfl
  · exact h.cu
theorem Good.comp {t : Tm} (hc : compB t.op = true) (n0 : nst (tmToks t) = 0) (cu : hdCu (tmToks t) = true) (bf : ∀ s, BF s (tmToks t) t) : Good t := by
  have e : opTm t = [tkS kLpar] ++ (tmToks t ++ [tkS kRpar]) := by unfold opTm opT; rw [if_pos hc]
  exact ⟨n0, by rw [e]; show (!isT (tkS kLpar) kMinus && !isT (tkS kLpar) kNot) = true; kernel_rfl, cu, fun s f => by rw [e]; exact par_A (bf s) n0 f, bf⟩
theorem Good.plain {t : Tm} (hc : compB t.op = false) (n0 : nst (tmToks t) = 0) (hd : hdOk (tmToks t) = true) (cu : hdCu (tmToks t) = true) (af : ∀ s f, AF s f (tmToks t) t) : Good t := by
  have e : opTm t = tmToks t := by unfold opTm opT; rw [if_neg (by show ¬ compB t.op = true; rw [hc]; simp)]
  exact ⟨n0, by rw [e]; exact hd, cu, fun s f => by rw [e]; exact af s f, fun s => BF_of (af s) hd⟩
theorem named_kw {nm : ByteArray} (h : namedB nm = true) : keywordB nm = false := by
  cases hk : keywordB nm
  · rfl
  · have e : trimQ nm = nm := by
      unfold keywordB at hk
      rw [List.contains_iff_mem] at hk
      have all : kws.all (fun w => Lib.trimSuffix w [39] == w) = true := by kernel_rfl
      have := eq_of_beq (List.all_eq_true.1 all _ hk)
      unfold trimQ
      rw [← ba_tl, this, ba_tl]
    unfold namedB at h
    rw [e] at h
    rw [ident_kw h] at hk; cases hk
theorem rd_good {t : Tm} (h : RdTm t) : Good t := by
  induction h with
  | tru => exact .plain (by kernel_rfl) rfl (by kernel_rfl) (by kernel_rfl) fun s f => true_A
  | fls => exact .plain (by kernel_rfl) rfl (by kernel_rfl) (by kernel_rfl) fun s f => false_A
  | int h0 h1 =>
    exact .plain (show compB 19 = false by kernel_rfl) rfl rfl rfl fun s f => num_A
  | name h =>
    rename_i nm
    exact .plain (show compB 20 = false by kernel_rfl) rfl (hd_word (named_kw h) []) (cu_word nm []) fun s f => name_A (named_kw h)
  | empty h =>
    rename_i ty
    have e : tmToks (.mk 29 nil0 0 ty []) = [tkS kLcu] ++ ([tkS kRcu] ++ ([tkS kLbr] ++ (tyToks ty ++ [tkS kRbr]))) := by simp [tmToks, tmTok]
    refine .plain (show compB 29 = false by kernel_rfl) ?_ ?_ ?_ fun s f => ?_
    · rw [e]; simp only [nst_app, nst_cons, nst_nil, nest_lcu, nest_rcu, nest_lbr, nest_rbr, ty_nst h]; rfl
    · rw [e]; show (!isT (tkS kLcu) kMinus && !isT (tkS kLcu) kNot) = true; kernel_rfl
    · rw [e]; show (!isT (tkS kLcu) kRcu) = true; kernel_rfl
    · rw [e]; exact empty_A h
  | not h ih =>
    rename_i t
    have e : tmToks (nd 3 [t]) = [tkW kNot] ++ opTm t := by simp [tmToks, tmTok, nd, tmTokss, kidT, opTm]
    refine .comp (show compB 3 = true by kernel_rfl) ?_ ?_ fun s => ?_
    · rw [e, nst_app, nst_cons, nst_nil, nest_w, ih.on]; rfl
    · rw [e]; exact cu_word _ _
    · rw [e]; exact not_B (ih.cf s)
  | neg h ih =>
    rename_i t
    have e : tmToks (nd 21 [t]) = [tkS kMinus] ++ opTm t := by simp [tmToks, tmTok, nd, tmTokss, kidT, opTm]
    refine .comp (show compB 21 = true by kernel_rfl) ?_ ?_ fun s => ?_
    · rw [e, nst_app, nst_cons, nst_nil, show nestT (tkS kMinus) = 0 by kernel_rfl, ih.on]; rfl
    · rw [e]; show (!isT (tkS kMinus) kRcu) = true; kernel_rfl
    · rw [e]; exact neg_B (ih.cf s)
  | bin ho h h' ih ih' =>
    rename_i op t u
    have K := bin_ok ho
    have e : tmToks (nd op [t, u]) = opTm t ++ ([binTk op] ++ opTm u) := by
      have hne : op ≠ 1 ∧ op ≠ 2 ∧ op ≠ 19 ∧ op ≠ 20 ∧ op ≠ 29 ∧ op ≠ 3 ∧ op ≠ 21 ∧ op ≠ 8 ∧ op ≠ 9 ∧ op ≠ 56 ∧ op ≠ 55 ∧ op ≠ 54 ∧ op ≠ 53 ∧ op ≠ 52 ∧ op ≠ 28 ∧ ¬ (46 ≤ op ∧ op ≤ 51) := by
        have all : binOps.all (fun op => decide (op ≠ 1 ∧ op ≠ 2 ∧ op ≠ 19 ∧ op ≠ 20 ∧ op ≠ 29 ∧ op ≠ 3 ∧ op ≠ 21 ∧ op ≠ 8 ∧ op ≠ 9 ∧ op ≠ 56 ∧ op ≠ 55 ∧ op ≠ 54 ∧ op ≠ 53 ∧ op ≠ 52 ∧ op ≠ 28 ∧ ¬ (46 ≤ op ∧ op ≤ 51))) = true := by kernel_rfl
        exact of_decide_eq_true (List.all_eq_true.1 all op ho)
      obtain ⟨a1, a2, a3, a4, a5, a6, a7, a8, a9, a10, a11, a12, a13, a14, a15, a16⟩ := hne
      simp only [tmToks, tmTok, nd, tmTokss, kidT, opTm]
      rw [if_neg a1, if_neg a2, if_neg a3, if_neg a4, if_neg a5, if_neg a6, if_neg a7, if_neg (by rintro (h | h | h) <;> contradiction), if_neg a11, if_neg a12, if_neg a13, if_neg a14, if_neg a15, if_neg a16]
      rfl
    refine .comp K.comp ?_ ?_ fun s => ?_
    · rw [e, nst_app, nst_app, nst_cons, nst_nil, K.nest, ih.on, ih'.on]; rfl
    · rw [e]; exact hdCu_app ih.ocu _
    · rw [e]; exact bin_B ho (ih.cf s) (ih'.cf s) ih.hd
  | bind ho hn h h' ih ih' =>
    rename_i op nm t u
    have e : tmToks (.mk op nm 0 ty0 [t, u]) = [tkW (bindW op)] ++ ([tkW nm] ++ ([tkW kIn] ++ (opTm t ++ ([tkS kDot] ++ tmToks u)))) := by
      rcases ho with rfl | rfl | rfl <;> simp [tmToks, tmTok, tmTokss, kidT, opTm]
    refine .comp (by show compB op = true; rcases ho with rfl | rfl | rfl <;> kernel_rfl) ?_ ?_ fun s => ?_
    · rw [e]; simp only [nst_app, nst_cons, nst_nil, nest_w, ih.on, ih'.n0, show nestT (tkS kDot) = 0 by kernel_rfl]; rfl
    · rw [e]; exact cu_word _ _
    · rw [e]; exact bind_B ho hn (ih.cf s) (ih'.bf s)
  | compr hn h h' ih ih' =>
    rename_i nm t u
    have e : tmToks (.mk 55 nm 0 ty0 [t, u]) = [tkS kLcu] ++ (([tkW nm] ++ ([binTk 16] ++ opTm t)) ++ ([tkS kBar] ++ (tmToks u ++ [tkS kRcu]))) := by simp [tmToks, tmTok, tmTokss, kidT, opTm]
    refine .plain (show compB 55 = false by kernel_rfl) ?_ ?_ ?_ fun s f => ?_
    · rw [e]; simp only [nst_app, nst_cons, nst_nil, nest_w, nest_lcu, nest_rcu, ih.on, ih'.n0, (bin_ok (op := 16) (by decide)).nest, show nestT (tkS kBar) = 0 by kernel_rfl]; rfl
    · rw [e]; show (!isT (tkS kLcu) kMinus && !isT (tkS kLcu) kNot) = true; kernel_rfl
    · rw [e]; show (!isT (tkS kLcu) kRcu) = true; kernel_rfl
    · rw [e]; exact compr_A hn (ih.cf s) (ih'.bf s) ih.on ih'.n0
  | fn ho h ih =>
    rename_i op t
    have e : tmToks (nd op [t]) = [tkW (keyS op)] ++ ([tkS kLpar] ++ (tmToks t ++ [tkS kRpar])) := by
      rcases ho with rfl | rfl | rfl | rfl | rfl | rfl <;> simp [tmToks, tmTok, nd, tmTokss, kidT]
    refine .plain (by show compB op = false; rcases ho with rfl | rfl | rfl | rfl | rfl | rfl <;> kernel_rfl) ?_ ?_ ?_ fun s f => ?_
    · rw [e]; simp only [nst_app, nst_cons, nst_nil, nest_w, nest_lpar, nest_rpar, ih.n0]; rfl
    · rw [e]; show (!isT (tkW (keyS op)) kMinus && !isT (tkW (keyS op)) kNot) = true; rcases ho with rfl | rfl | rfl | rfl | rfl | rfl <;> kernel_rfl
    · rw [e]; exact cu_word _ _
    · rw [e]; exact fn_A ho (ih.bf s) ih.n0
  | app h h' ih ih' =>
    rename_i t u
    have e : tmToks (nd 54 [t, u]) = opTm t ++ ([tkS kLpar] ++ (tmToks u ++ [tkS kRpar])) := by simp [tmToks, tmTok, nd, tmTokss, kidT, opTm]
    refine .plain (show compB 54 = false by kernel_rfl) ?_ ?_ ?_ fun s f => ?_
    · rw [e]; simp only [nst_app, nst_cons, nst_nil, nest_lpar, nest_rpar, ih.on, ih'.n0]; rfl
    · rw [e]; exact hdOk_app ih.hd _
    · rw [e]; exact hdCu_app ih.ocu _
    · rw [e]; exact post_A (ih.af s f) (ih'.bf s) ih'.n0 (Or.inl ⟨rfl, rfl, rfl⟩)
  | img h h' ih ih' =>
    rename_i t u
    have e : tmToks (nd 53 [t, u]) = opTm t ++ ([tkS kLbr] ++ (tmToks u ++ [tkS kRbr])) := by simp [tmToks, tmTok, nd, tmTokss, kidT, opTm]
    refine .plain (show compB 53 = false by kernel_rfl) ?_ ?_ ?_ fun s f => ?_
    · rw [e]; simp only [nst_app, nst_cons, nst_nil, nest_lbr, nest_rbr, ih.on, ih'.n0]; rfl
    · rw [e]; exact hdOk_app ih.hd _
    · rw [e]; exact hdCu_app ih.ocu _
    · rw [e]; exact post_A (ih.af s f) (ih'.bf s) ih'.n0 (Or.inr ⟨rfl, rfl, rfl⟩)
  | inv h ih =>
    rename_i t
    have e : tmToks (nd 52 [t]) = opTm t ++ [tkS kTilde] := by simp [tmToks, tmTok, nd, tmTokss, kidT, opTm]
    refine .plain (show compB 52 = false by kernel_rfl) ?_ ?_ ?_ fun s f => ?_
    · rw [e, nst_app, nst_cons, nst_nil, ih.on, show nestT (tkS kTilde) = 0 by kernel_rfl]; rfl
    · rw [e]; exact hdOk_app ih.hd _
    · rw [e]; exact hdCu_app ih.ocu _
    · rw [e]; exact inv_A (ih.af s f)
  | set h h' ih ih' =>
    rename_i t l
    have e : tmToks (nd 28 (t :: l)) = [tkS kLcu] ++ ((tmToks t ++ moreT ((l.map fun u => (tmToks u, u)).map Prod.fst)) ++ [tkS kRcu]) := by
      simp [tmToks, tmTok, nd, tmTokss, joinT, tokss_map, Function.comp_def]
    have e2 : nd 28 (t :: l) = nd 28 (t :: (l.map fun u => (tmToks u, u)).map Prod.snd) := by simp [Function.comp_def]
    have hm : ∀ p, p ∈ (l.map fun u => (tmToks u, u)) → Good p.2 ∧ p.1 = tmToks p.2 := fun p hp => by
      obtain ⟨u, hu, rfl⟩ := List.mem_map.1 hp
      exact ⟨ih' u hu, rfl⟩
    refine .plain (show compB 28 = false by kernel_rfl) ?_ ?_ ?_ fun s f => ?_
    · rw [e]; simp only [nst_app, nst_cons, nst_nil, nest_lcu, nest_rcu, ih.n0]
      rw [nst_more (fun A hA => by
        obtain ⟨p, hp, rfl⟩ := List.mem_map.1 hA
        rw [(hm p hp).2]; exact (hm p hp).1.n0)]; rfl
    · rw [e]; show (!isT (tkS kLcu) kMinus && !isT (tkS kLcu) kNot) = true; kernel_rfl
    · rw [e]; show (!isT (tkS kLcu) kRcu) = true; kernel_rfl
    · rw [e, e2]; exact set_A (ih.bf s) ih.n0 ih.cu fun p hp => ⟨by rw [(hm p hp).2]; exact (hm p hp).1.bf s, by rw [(hm p hp).2]; exact (hm p hp).1.n0⟩
set_option maxHeartbeats 400000 in
theorem rletter_any (c : Int) (w : World) :
    Calls Tryz.prog 48 #[.int .u8 c] w fun e w' => e = .returned (.bool (letterB c)) ∧ w = w' := by
  cases h1 : decide (97 ≤ c) <;> cases h2 : decide (c ≤ 122) <;> cases h3 : decide (65 ≤ c) <;> cases h4 : decide (c ≤ 90)
  all_goals
    have hk := Lib.hid (show letterB c = _ by unfold letterB; rw [h1, h2, h3, h4])
    go_enter Tryz.func48, Tryz.ntmps48
    go_wp2_with fail
    go_ret
    exact ⟨by rw [hk.out]; rfl, rfl⟩
set_option maxHeartbeats 400000 in
theorem rdigit_any (c : Int) (w : World) :
    Calls Tryz.prog 50 #[.int .u8 c] w fun e w' => e = .returned (.bool (digitB c)) ∧ w = w' := by
  cases h1 : decide (48 ≤ c) <;> cases h2 : decide (c ≤ 57)
  all_goals
    have hk := Lib.hid (show digitB c = _ by unfold digitB; rw [h1, h2])
    go_enter Tryz.func50, Tryz.ntmps50
    go_wp2_with fail
    go_ret
    exact ⟨by rw [hk.out]; rfl, rfl⟩
def inB (s : ByteArray) (l : List ByteArray) : Bool := l.any fun x => x.toList == s.toList
theorem inB_yes (s : ByteArray) (l : List ByteArray) (k : Nat) (h : k < l.length) (hy : (l[k].toList == s.toList) = true) : inB s l = true := by
  unfold inB; rw [List.any_eq_true]; exact ⟨l[k], List.getElem_mem h, hy⟩
theorem inB_no (s : ByteArray) (l : List ByteArray) (hno : ∀ j (h : j < l.length), (l[j].toList == s.toList) = false) : inB s l = false := by
  unfold inB; rw [List.any_eq_false]
  intro x hx
  obtain ⟨j, hj, rfl⟩ := List.getElem_of_mem hx
  rw [hno j hj]; simp
set_option maxHeartbeats 1000000 in
theorem rin_any (s : ByteArray) (xs : List ByteArray) (g cap : Nat) (w : World) (hx : ∀ i (h : i < xs.length), w.cell? ⟨g, i, none⟩ = some (.string xs[i])) (hl : xs.length ≤ 1000) :
    Calls Tryz.prog 92 #[.string s, .slice (some ⟨g, 0, none⟩) xs.length cap] w fun e w' => e = .returned (.bool (inB s xs)) ∧ w = w' := by
  have HX := Lib.hid hx
  clear hx
  go_enter Tryz.func92, Tryz.ntmps92
  go_wp2_with fail
  go_loop [5] (fun i => ∃ k : Nat, k ≤ xs.length ∧ i = .int .i64 k ∧ Hid (∀ j (h : j < k) (h' : j < xs.length), (xs[j].toList == s.toList) = false)) (fun i => xs.length - (intOf i).toNat)
  case atStart => exact ⟨0, Nat.zero_le _, rfl, Lib.hid (fun j h => by omega)⟩
  case round =>
    obtain ⟨k, hk, rfl, hno⟩ := hrel
    by_cases hlt : k < xs.length
    · have hc := HX.out k hlt
      have i1 : (k : Int) < (xs.length : Int) := by omega
      cases hy : (xs[k].toList == s.toList)
      · have hno' : Hid (∀ j (h : j < k + 1) (h' : j < xs.length), (xs[j].toList == s.toList) = false) := Lib.hid (fun j h h' => by
          rcases Nat.lt_succ_iff_lt_or_eq.1 h with h | rfl
          · exact hno.out j h h'
          · exact hy)
        go_wp2_with fail
        go_round
        case rel => exact ⟨k + 1, by omega, by go_num, hno'⟩
        case measure => simp [intOf]; omega
      · have hi := Lib.hid (inB_yes s xs k hlt hy)
        go_wp2_with fail
        go_ret
        exact ⟨by rw [hi.out]; rfl, rfl⟩
    · have hi := Lib.hid (inB_no s xs (fun j h => hno.out j (by omega) h))
      go_wp2_with fail
      go_ret
      exact ⟨by rw [hi.out]; rfl, rfl⟩
def kwsB : List ByteArray := kws.map fun l => ⟨l.toArray⟩
theorem inB_kws (s : ByteArray) : inB s kwsB = keywordB s := by
  unfold inB kwsB keywordB
  rw [List.any_map, List.contains_eq_any_beq]
  congr 1
  funext l
  simp only [Function.comp]
  rw [Go.ByteArray.toList_eq]
  exact Bool.beq_comm
set_option maxRecDepth 10000 in
set_option maxHeartbeats 1000000 in
theorem rkeyword_any (s : ByteArray) (w : World) :
    Calls Tryz.prog 49 #[.string s] w fun e w' => e = .returned (.bool (keywordB s)) ∧ w' = w.alloc (.cells (kwsB.map Value.string).toArray 9) := by
  have hx : ∀ i (h : i < kwsB.length), (w.alloc (.cells (kwsB.map Value.string).toArray 9)).cell? ⟨w.heap.size, i, none⟩ = some (.string kwsB[i]) := by
    intro i h
    have := (Blk.new w 9 (kwsB.map Value.string)).cell i
    rw [this, List.getElem?_map, List.getElem?_eq_getElem h]; rfl
  have HX := Lib.hid hx
  clear hx
  go_enter Tryz.func49, Tryz.ntmps49
  go_wp2_with fail
  refine (rin_any s kwsB w.heap.size 21 _ HX.out (by decide)).mono ?_
  rintro e w' ⟨rfl, rfl⟩
  rw [inB_kws]
  go_wp2_with fail
  go_ret
  exact ⟨rfl, rfl⟩
def KwW (w : World) : World := w.alloc (.cells (kwsB.map Value.string).toArray 9)
theorem rkw_t {s : ByteArray} {v : Bool} (h : keywordB s = v) (w : World) : Calls Tryz.prog 49 #[.string s] w fun e w' => e = .returned (.bool v) ∧ w' = KwW w := by
  rw [← h]; exact rkeyword_any s w
theorem KwW.kept (w : World) : Kept (fun _ => False) w (KwW w) := (Kept.refl _ _).alloc _
theorem head_in {s : ByteArray} (h : 0 < s.size) (hl : letterB (s[0].toNat) = true) : allW (s.data.toList.take 1) = true := by
  rw [take_snoc s 0 h, List.take_zero, List.nil_append]; simp [allW, inWordB, hl]
set_option maxRecDepth 10000 in
set_option maxHeartbeats 2000000 in
theorem rident_any (s : ByteArray) (w : World) (hs : s.size ≤ 9223372036854775807) :
    Calls Tryz.prog 19 #[.string s] w fun e w' => e = .returned (.bool (identB s)) ∧ Kept (fun _ => False) w w' := by
  by_cases h0 : 0 < s.size
  case neg =>
    have h1 : (s.size : Int) < 1 := by omega
    have hk := Lib.hid (show identB s = false by unfold identB; rw [decide_eq_false h0]; rfl)
    clear h0
    go_enter Tryz.func19, Tryz.ntmps19
    go_wp2_with fail
    go_ret
    exact ⟨by rw [hk.out]; rfl, Kept.refl _ _⟩
  have h1 : decide ((s.size : Int) < 1) = false := by simp; omega
  by_cases h16 : s.size ≤ 16
  case neg =>
    have hd : decide (16 < (s.size : Int)) = true := by simp; omega
    have hk := Lib.hid (show identB s = false by unfold identB; rw [decide_eq_false h16]; simp)
    clear h16
    go_enter Tryz.func19, Tryz.ntmps19
    go_wp2_with fail
    go_ret
    exact ⟨by rw [hk.out]; rfl, Kept.refl _ _⟩
  have hd : decide (16 < (s.size : Int)) = false := by simp; omega
  have hh := head_of s h0
  cases hl : letterB (s[0].toNat)
  case false =>
    have hk := Lib.hid (show identB s = false by unfold identB; rw [hh, hl]; simp)
    clear hh
    go_enter Tryz.func19, Tryz.ntmps19
    go_wp2_with (go_at_call 48; refine (rletter_any _ _).mono ?_; rintro e w' ⟨rfl, rfl⟩)
    go_ret
    exact ⟨by rw [hk.out]; rfl, Kept.refl _ _⟩
  cases hkw : keywordB s
  case true =>
    have hk := Lib.hid (show identB s = false by unfold identB; rw [hkw]; simp)
    have HK := Lib.hid hkw
    clear hh hkw
    go_enter Tryz.func19, Tryz.ntmps19
    go_wp2_with (go_at_call 48; refine (rletter_any _ _).mono ?_; rintro e w' ⟨rfl, rfl⟩)
    refine (rkw_t HK.out _).mono ?_
    rintro e w' ⟨rfl, rfl⟩
    go_wp2_with fail
    go_ret
    exact ⟨by rw [hk.out]; rfl, KwW.kept _⟩
  have hk := Lib.hid (show identB s = allW s.data.toList by unfold identB; rw [hh, hl, hkw, decide_eq_true h0, decide_eq_true h16]; simp)
  have HK := Lib.hid hkw
  have HI := Lib.hid (head_in h0 hl)
  clear hh hkw
  go_enter Tryz.func19, Tryz.ntmps19
  go_wp2_with (go_at_call 48; refine (rletter_any _ _).mono ?_; rintro e w' ⟨rfl, rfl⟩)
  refine (rkw_t HK.out _).mono ?_
  rintro e w' ⟨rfl, rfl⟩
  have kW := KwW.kept w
  generalize KwW w = w1 at *
  go_wp2_with fail
  go_loop [3] (fun i => ∃ k : Nat, k ≤ s.size ∧ i = .int .i64 k ∧ Hid (allW (s.data.toList.take k) = true)) (fun i => s.size - (intOf i).toNat)
  case atStart => exact ⟨1, by omega, rfl, HI⟩
  case round =>
    obtain ⟨k, hks, rfl, hall⟩ := hrel
    by_cases hlt : k < s.size
    · cases a1 : letterB s[k].toNat <;> cases a2 : digitB s[k].toNat <;> cases a3 : ((s[k].toNat : Int) == 95)
      case false.false.false =>
        have hf := Lib.hid (allW_false s k hlt (by unfold inWordB; rw [a1, a2, a3]; rfl))
        go_wp2_with (first | (go_at_call 48; refine (rletter_any _ _).mono ?_; rintro e w' ⟨rfl, rfl⟩) | (go_at_call 50; refine (rdigit_any _ _).mono ?_; rintro e w' ⟨rfl, rfl⟩))
        go_ret
        exact ⟨by rw [hk.out, hf.out]; rfl, kW⟩
      all_goals
        have hall' : Hid (allW (s.data.toList.take (k + 1)) = true) := Lib.hid (by rw [take_snoc s k hlt, allW_snoc, hall.out]; unfold inWordB; rw [a1, a2, a3]; rfl)
        go_wp2_with (first | (go_at_call 48; refine (rletter_any _ _).mono ?_; rintro e w' ⟨rfl, rfl⟩) | (go_at_call 50; refine (rdigit_any _ _).mono ?_; rintro e w' ⟨rfl, rfl⟩))
        go_round
        case rel => exact ⟨k + 1, by omega, by go_num, hall'⟩
        case measure => simp [intOf]; omega
    · have hf : Hid (allW s.data.toList = true) := by
        have h := hall.out
        rw [List.take_of_length_le (by simp; omega)] at h
        exact Lib.hid h
      go_wp2_with fail
      go_ret
      exact ⟨by rw [hk.out, hf.out]; rfl, kW⟩
theorem toList_inj {a b : ByteArray} (h : a.toList = b.toList) : a = b := by
  rw [Go.ByteArray.toList_eq, Go.ByteArray.toList_eq] at h; exact ba_ext h
def digs (acc : Nat) : List UInt8 → Option Nat
  | [] => some acc
  | c :: r => if digitB c.toNat = true then digs (acc * 10 + (c.toNat - 48)) r else none
theorem digs_snoc (l : List UInt8) : ∀ (acc : Nat) (c : UInt8), digs acc (l ++ [c]) = (digs acc l).bind fun v => if digitB c.toNat = true then some (v * 10 + (c.toNat - 48)) else none := by
  induction l with
  | nil => intro acc c; rfl
  | cons a l ih =>
    intro acc c
    show (if digitB a.toNat = true then digs _ (l ++ [c]) else none) = (if digitB a.toNat = true then digs _ l else none).bind _
    by_cases h : digitB a.toNat = true
    · rw [if_pos h, if_pos h, ih]
    · rw [if_neg h, if_neg h]; rfl
theorem digs_app_none (l m : List UInt8) : ∀ (acc : Nat), digs acc l = none → digs acc (l ++ m) = none := by
  induction l with
  | nil => intro acc h; cases h
  | cons a l ih =>
    intro acc h
    show (if digitB a.toNat = true then digs _ (l ++ m) else none) = none
    by_cases hd : digitB a.toNat = true
    · rw [if_pos hd]; apply ih
      have : (if digitB a.toNat = true then digs (acc * 10 + (a.toNat - 48)) l else none) = none := h
      rwa [if_pos hd] at this
    · rw [if_neg hd]
def amt (s : ByteArray) : Int :=
  if 10 < s.size ∨ (1 < s.size ∧ (s.data.toList.headD 0).toNat = 48) then -1
  else match digs 0 s.data.toList with
    | none => -1
    | some n => if 1000000000 < n then -1 else n
def DigAt (s : ByteArray) (k v : Nat) : Prop := digs 0 (s.data.toList.take k) = some v ∧ v < 10 ^ k
theorem DigAt.next {s : ByteArray} {k v : Nat} (h : DigAt s k v) (hk : k < s.size) (hd : digitB s[k].toNat = true) : DigAt s (k + 1) (v * 10 + (s[k].toNat - 48)) := by
  have hb : s[k].toNat - 48 ≤ 9 := by unfold digitB at hd; simp at hd; omega
  refine ⟨?_, ?_⟩
  · rw [take_snoc s k hk, digs_snoc, h.1]; simp [hd]
  · have := h.2; rw [Nat.pow_succ]; omega
theorem DigAt.stop {s : ByteArray} {k v : Nat} (h : DigAt s k v) (hk : k < s.size) (hd : digitB s[k].toNat = false) : digs 0 s.data.toList = none := by
  have e : s.data.toList = s.data.toList.take (k + 1) ++ s.data.toList.drop (k + 1) := (List.take_append_drop _ _).symm
  rw [e]
  apply digs_app_none
  rw [take_snoc s k hk, digs_snoc, h.1]; simp [hd]
theorem uint_digs (l : List UInt8) : ∀ (acc v : Nat), digs acc l = some v → acc * 10 ^ l.length + 10 ^ l.length ≤ 18446744073709551616 → Lib.parseUint10 acc l = .ok v := by
  induction l with
  | nil => intro acc v h _; cases h; rfl
  | cons c l ih =>
    intro acc v h hb
    have h' : (if digitB c.toNat = true then digs (acc * 10 + (c.toNat - 48)) l else none) = some v := h
    by_cases hd : digitB c.toNat = true
    · rw [if_pos hd] at h'
      have hc : 48 ≤ c.toNat ∧ c.toNat ≤ 57 := by unfold digitB at hd; simp at hd; omega
      have hp : 1 ≤ 10 ^ l.length := Nat.pow_pos (by decide)
      rw [List.length_cons, Nat.pow_succ] at hb
      generalize 10 ^ l.length = P at *
      have e1 : acc * (P * 10) = acc * 10 * P := by rw [Nat.mul_comm P, Nat.mul_assoc]
      have e2 : (acc * 10 + (c.toNat - 48)) * P + P ≤ acc * 10 * P + P * 10 := by
        rw [Nat.add_mul]
        have : (c.toNat - 48) * P ≤ 9 * P := Nat.mul_le_mul_right _ (by omega)
        omega
      have e3 : acc * 10 ≤ acc * 10 * P := Nat.le_mul_of_pos_right _ hp
      show (if _ then _ else _) = _
      rw [if_pos hc, if_neg (by omega), if_neg (by omega)]
      exact ih _ _ h' (by omega)
    · rw [if_neg hd] at h'; cases h'
theorem digs_uint (l : List UInt8) : ∀ (acc v : Nat), Lib.parseUint10 acc l = .ok v → digs acc l = some v := by
  induction l with
  | nil => intro acc v h; cases h; rfl
  | cons c l ih =>
    intro acc v h
    unfold Lib.parseUint10 at h
    by_cases hc : 48 ≤ c.toNat ∧ c.toNat ≤ 57
    · rw [if_pos hc] at h
      have hd : digitB c.toNat = true := by unfold digitB; simp; omega
      show (if _ then _ else _) = _
      rw [if_pos hd]
      split at h
      · cases h
      · split at h
        · cases h
        · exact ih _ _ h
    · rw [if_neg hc] at h; cases h
theorem digs_ge (l : List UInt8) : ∀ (acc v : Nat), digs acc l = some v → acc * 10 ^ l.length ≤ v := by
  induction l with
  | nil => intro acc v h; cases h; simp
  | cons c l ih =>
    intro acc v h
    have h' : (if digitB c.toNat = true then digs (acc * 10 + (c.toNat - 48)) l else none) = some v := h
    by_cases hd : digitB c.toNat = true
    · rw [if_pos hd] at h'
      have := ih _ _ h'
      rw [List.length_cons, Nat.pow_succ]
      have e1 : acc * (10 ^ l.length * 10) = acc * 10 * 10 ^ l.length := by rw [Nat.mul_comm (10 ^ l.length), Nat.mul_assoc]
      rw [Nat.add_mul] at this
      omega
    · rw [if_neg hd] at h'; cases h'
theorem digs_lt (l : List UInt8) : ∀ (acc v : Nat), digs acc l = some v → v < (acc + 1) * 10 ^ l.length := by
  induction l with
  | nil => intro acc v h; cases h; simp
  | cons c l ih =>
    intro acc v h
    have h' : (if digitB c.toNat = true then digs (acc * 10 + (c.toNat - 48)) l else none) = some v := h
    by_cases hd : digitB c.toNat = true
    · rw [if_pos hd] at h'
      have hc : 48 ≤ c.toNat ∧ c.toNat ≤ 57 := by unfold digitB at hd; simp at hd; omega
      have h1 := ih _ _ h'
      rw [List.length_cons, Nat.pow_succ]
      have e1 : (acc + 1) * (10 ^ l.length * 10) = (acc * 10 + 10) * 10 ^ l.length := by rw [Nat.mul_comm (10 ^ l.length), ← Nat.mul_assoc, Nat.add_mul acc 1 10]
      have e2 : (acc * 10 + (c.toNat - 48) + 1) * 10 ^ l.length ≤ (acc * 10 + 10) * 10 ^ l.length := Nat.mul_le_mul_right _ (by omega)
      omega
    · rw [if_neg hd] at h'; cases h'
theorem atoi_digit {l : List UInt8} {c : UInt8} {r : List UInt8} (hl : l = c :: r) (hd : digitB c.toNat = true) (v : Int) : Lib.atoiAll l = .ok v ↔ ∃ u : Nat, v = u ∧ u < 9223372036854775808 ∧ Lib.parseUint10 0 l = .ok u := by
  subst hl
  have hc : 48 ≤ c.toNat ∧ c.toNat ≤ 57 := by unfold digitB at hd; simp at hd; omega
  have e : Lib.parseMag (c :: r) = Lib.parseUint10 0 (c :: r) := by unfold Lib.parseMag; rw [if_neg (by simp)]
  unfold Lib.atoiAll
  simp only []
  rw [if_neg (by omega), e]
  cases hp : Lib.parseUint10 0 (c :: r) with
  | ok u =>
    simp only [show ¬ c.toNat = 45 by omega, not_false_iff, true_and, false_and, if_false]
    by_cases hu : 9223372036854775808 ≤ u
    · rw [if_pos hu]
      constructor
      · intro h; cases h
      · rintro ⟨x, rfl, hx, h⟩; cases h; omega
    · rw [if_neg hu]
      constructor
      · intro h; cases h; exact ⟨u, rfl, by omega, rfl⟩
      · rintro ⟨x, rfl, hx, h⟩; cases h; rfl
  | range => simp
  | _ => simp
theorem num_amt {t : ByteArray} (h0 : 0 < t.size) (hd : digitB t[0].toNat = true) : numTok t = if amt t < 0 then none else some (amt t) := by
  obtain ⟨c, r, hl⟩ : ∃ c r, t.data.toList = c :: r := by
    cases h : t.data.toList with
    | nil => rw [Lib.size_eq, h] at h0; cases h0
    | cons c r => exact ⟨c, r, rfl⟩
  have hh : t[0] = c := by rw [← head_of t h0, hl]; rfl
  have hsz : t.size = r.length + 1 := by rw [Lib.size_eq, hl]; rfl
  rw [hh] at hd
  have hc : 48 ≤ c.toNat ∧ c.toNat ≤ 57 := by unfold digitB at hd; simp at hd; omega
  have hA := atoi_digit hl hd
  have dg : digs 0 (c :: r) = digs (c.toNat - 48) r := by show (if _ then _ else _) = _; rw [if_pos hd, Nat.zero_mul, Nat.zero_add]
  unfold numTok amt
  rw [hl] at hA ⊢
  cases ha : Lib.atoiAll (c :: r) with
  | ok v =>
    obtain ⟨u, rfl, hu, hp⟩ := (hA v).1 ha
    have hg := digs_uint _ _ _ hp
    simp only []
    by_cases hz : 1 < t.size ∧ ((c :: r).headD 0).toNat = 48
    · rw [if_pos (Or.inr hz), if_pos (Or.inr hz), if_pos (by decide)]
    · by_cases h10 : 10 < t.size
      · have h1 : 1 ≤ c.toNat - 48 := by
          have : ¬ c.toNat = 48 := fun e => hz ⟨by omega, e⟩
          omega
        have h2 := digs_ge r _ u (by rw [← dg]; exact hg)
        have h3 : 10 ^ 10 ≤ 10 ^ r.length := Nat.pow_le_pow_right (by decide) (by omega)
        have h4 : 10 ^ r.length ≤ (c.toNat - 48) * 10 ^ r.length := Nat.le_mul_of_pos_left _ h1
        rw [if_pos (Or.inl (by omega)), if_pos (Or.inl h10), if_pos (by decide)]
      · rw [if_neg (show ¬ (10 < t.size ∨ 1 < t.size ∧ ((c :: r).headD 0).toNat = 48) by rintro (h | h); exact h10 h; exact hz h), hg]
        simp only []
        by_cases hb : 1000000000 < u
        · rw [if_pos (Or.inl (by omega)), if_pos hb, if_pos (by decide)]
        · rw [if_neg (by rintro (h | h); omega; exact hz h), if_neg hb, if_neg (by omega)]
  | range =>
    simp only []
    by_cases hz : 10 < t.size ∨ 1 < t.size ∧ ((c :: r).headD 0).toNat = 48
    · rw [if_pos hz, if_pos (by decide)]
    · rw [if_neg hz]
      cases hg : digs 0 (c :: r) with
      | none => simp
      | some u =>
        have h3 : 10 ^ (c :: r).length ≤ 10 ^ 10 := Nat.pow_le_pow_right (by decide) (by rw [List.length_cons]; have : ¬ 10 < t.size := fun h => hz (Or.inl h); omega)
        have hp := uint_digs _ _ _ hg (by omega)
        have hv := (hA u).2 ⟨u, rfl, by have := digs_lt _ _ _ hg; omega, hp⟩
        rw [ha] at hv; cases hv
  | _ =>
    simp only []
    by_cases hz : 10 < t.size ∨ 1 < t.size ∧ ((c :: r).headD 0).toNat = 48
    · rw [if_pos hz, if_pos (by decide)]
    · rw [if_neg hz]
      cases hg : digs 0 (c :: r) with
      | none => simp
      | some u =>
        have h3 : 10 ^ (c :: r).length ≤ 10 ^ 10 := Nat.pow_le_pow_right (by decide) (by rw [List.length_cons]; have : ¬ 10 < t.size := fun h => hz (Or.inl h); omega)
        have hp := uint_digs _ _ _ hg (by omega)
        have hv := (hA u).2 ⟨u, rfl, by have := digs_lt _ _ _ hg; omega, hp⟩
        rw [ha] at hv; cases hv
def tdR (r : Bool × Nat) : Int := if r.1 = true then (r.2 : Int) else -1
def RdC (t : Ty) : Prop := ∀ (w : World) (ok : Nat → Prop) (c d : Nat) (tk : Value), c ≤ 16 → 1 ≤ d → d ≤ 7 → TyL ok w t.kids tk →
  Calls Tryz.prog 61 #[tyVal t tk, .int .i64 d, .int .i64 c] w fun e w' => e = .returned (.int .i64 (tdR (tfS 16 6 t d (decide (1 < d)) c))) ∧ Kept (fun _ => False) w w'
theorem rident_t {s : ByteArray} {v : Bool} (h : identB s = v) (hs : s.size ≤ 9223372036854775807) (w : World) :
    Calls Tryz.prog 19 #[.string s] w fun e w' => e = .returned (.bool v) ∧ Kept (fun _ => False) w w' := by rw [← h]; exact rident_any s w hs
theorem td_no {k : Int} {nm : ByteArray} {l : List Ty} {d c : Nat} (h : ((decide (c + 1 ≤ 16) && decide (d ≤ 6)) && tyHead k nm l.length (decide (1 < d))) = false) : tdR (tfS 16 6 (.mk k nm l) d (decide (1 < d)) c) = -1 := by
  rw [tf_eq, h]; rfl
theorem td_yes {k : Int} {nm : ByteArray} {l : List Ty} {d c : Nat} (hc : c + 1 ≤ 16) (hd : d ≤ 6) (h : tyHead k nm l.length (decide (1 < d)) = true) : tfS 16 6 (.mk k nm l) d (decide (1 < d)) c = tfsS 16 6 l (d + 1) (c + 1) := by
  rw [tf_eq, decide_eq_true hc, decide_eq_true hd, h]; rfl
theorem head_ways (k : Int) (nm : ByteArray) (n : Nat) (wi : Bool) (h : tyHead k nm n wi = false) :
    (k = 2 ∧ wi = true) ∨ (¬ (k = 2 ∧ wi = true) ∧ (((k = 1 ∨ k = 2 ∨ k = 3) ∧ n ≠ 0) ∨ (k = 5 ∧ n ≠ 1) ∨ (k = 4 ∧ n ≠ 2) ∨ (k ≠ 1 ∧ k ≠ 2 ∧ k ≠ 3 ∧ k ≠ 4 ∧ k ≠ 5) ∨ (k = 3 ∧ n = 0 ∧ identB nm = false)
      ∨ (((k = 1 ∧ n = 0) ∨ (k = 2 ∧ n = 0) ∨ (k = 5 ∧ n = 1) ∨ (k = 4 ∧ n = 2)) ∧ (nm.toList == []) = false))) := by
  unfold tyHead at h
  by_cases k1 : k = 1
  · subst k1; simp at h; by_cases hn : n = 0 <;> simp_all
  by_cases k2 : k = 2
  · subst k2; simp at h; cases wi <;> by_cases hn : n = 0 <;> simp_all
  by_cases k3 : k = 3
  · subst k3; simp at h; by_cases hn : n = 0 <;> simp_all
  by_cases k4 : k = 4
  · subst k4; simp at h; by_cases hn : n = 2 <;> simp_all
  by_cases k5 : k = 5
  · subst k5; simp at h; by_cases hn : n = 1 <;> simp_all
  · exact Or.inr ⟨fun e => k2 e.1, Or.inr (Or.inr (Or.inr (Or.inl ⟨k1, k2, k3, k4, k5⟩)))⟩
set_option maxHeartbeats 8000000 in
theorem rtyped_bad {k : Int} {nm : ByteArray} {a : Option Addr} {n cp c d : Nat} {w : World} (hsz : nm.size ≤ 9223372036854775807) (hc : c ≤ 16) (h1 : 1 ≤ d) (hd : d ≤ 7)
    (h : ((decide (c + 1 ≤ 16) && decide (d ≤ 6)) && tyHead k nm n (decide (1 < d))) = false) :
    Calls Tryz.prog 61 #[.agg #[.int .i64 k, .string nm, .slice a n cp], .int .i64 d, .int .i64 c] w fun e w' => e = .returned (.int .i64 (-1)) ∧ Kept (fun _ => False) w w' := by
  by_cases d6 : d ≤ 6
  case neg =>
    have i1 : decide ((6 : Int) < (d : Int)) = true := decide_eq_true (by omega)
    clear h
    go_enter Tryz.func61, Tryz.ntmps61
    go_wp2_with fail
    go_ret
    exact ⟨rfl, (Kept.refl _ _).alloc _⟩
  have i1 : decide ((6 : Int) < (d : Int)) = false := decide_eq_false (by omega)
  by_cases c6 : c + 1 ≤ 16
  case neg =>
    have i2 : decide ((16 : Int) < (c : Int) + 1) = true := decide_eq_true (by omega)
    clear h
    go_enter Tryz.func61, Tryz.ntmps61
    go_wp2_with fail
    go_ret
    exact ⟨rfl, (Kept.refl _ _).alloc _⟩
  have i2 : decide ((16 : Int) < (c : Int) + 1) = false := decide_eq_false (by omega)
  rw [decide_eq_true d6, decide_eq_true c6] at h
  have h' : tyHead k nm n (decide (1 < d)) = false := h
  clear h
  rcases head_ways k nm n _ h' with ⟨rfl, hw⟩ | ⟨hn2, hw⟩
  · have i3 : decide ((1 : Int) < (d : Int)) = true := by rw [← hw]; exact decide_eq_decide.2 (by omega)
    clear hw h'
    go_enter Tryz.func61, Tryz.ntmps61
    go_wp2_with fail
    go_ret
    exact ⟨rfl, (Kept.refl _ _).alloc _⟩
  clear h'
  rcases hw with ⟨hk, h0⟩ | ⟨rfl, h0⟩ | ⟨rfl, h0⟩ | ⟨k1, k2, k3, k4, k5⟩ | ⟨rfl, rfl, hI⟩ | ⟨hk, he⟩
  · have i4 : ((n : Int) != 0) = true := by rw [bne_iff_ne]; omega
    rcases hk with rfl | rfl | rfl
    · clear hn2
      go_enter Tryz.func61, Tryz.ntmps61
      go_wp2_with fail
      go_ret
      exact ⟨rfl, (Kept.refl _ _).alloc _⟩
    · have i3 : decide ((1 : Int) < (d : Int)) = false := decide_eq_false (fun h => hn2 (by simp; omega))
      clear hn2
      go_enter Tryz.func61, Tryz.ntmps61
      go_wp2_with fail
      go_ret
      exact ⟨rfl, (Kept.refl _ _).alloc _⟩
    · clear hn2
      go_enter Tryz.func61, Tryz.ntmps61
      go_wp2_with fail
      go_ret
      exact ⟨rfl, (Kept.refl _ _).alloc _⟩
  · have i4 : ((n : Int) != 1) = true := by rw [bne_iff_ne]; omega
    clear hn2
    go_enter Tryz.func61, Tryz.ntmps61
    go_wp2_with fail
    go_ret
    exact ⟨rfl, (Kept.refl _ _).alloc _⟩
  · have i4 : ((n : Int) != 2) = true := by rw [bne_iff_ne]; omega
    clear hn2
    go_enter Tryz.func61, Tryz.ntmps61
    go_wp2_with fail
    go_ret
    exact ⟨rfl, (Kept.refl _ _).alloc _⟩
  · have e1 : (k == 1) = false := beq_eq_false_iff_ne.2 k1
    have e2 : (k == 2) = false := beq_eq_false_iff_ne.2 k2
    have e3 : (k == 3) = false := beq_eq_false_iff_ne.2 k3
    have e4 : (k == 4) = false := beq_eq_false_iff_ne.2 k4
    have e5 : (k == 5) = false := beq_eq_false_iff_ne.2 k5
    clear hn2 k1 k2 k3 k4 k5
    go_enter Tryz.func61, Tryz.ntmps61
    go_wp2_with fail
    go_ret
    exact ⟨rfl, (Kept.refl _ _).alloc _⟩
  · clear hn2
    have HI := Lib.hid hI
    clear hI
    go_enter Tryz.func61, Tryz.ntmps61
    go_wp2_with (go_at_call 19; refine (rident_t HI.out hsz _).mono ?_; rintro e w1 ⟨rfl, k1⟩)
    go_ret
    exact ⟨rfl, ((Kept.refl _ _).alloc _).trans k1⟩
  · have he' : (nm.toList != []) = true := by rw [bne, he]; rfl
    have he2 : nm.toList.isEmpty = false := by cases h : nm.toList <;> simp_all
    rcases hk with ⟨rfl, rfl⟩ | ⟨rfl, rfl⟩ | ⟨rfl, rfl⟩ | ⟨rfl, rfl⟩
    · clear hn2 he
      go_enter Tryz.func61, Tryz.ntmps61
      go_wp2_with fail
      go_ret
      exact ⟨rfl, (Kept.refl _ _).alloc _⟩
    · have i3 : decide ((1 : Int) < (d : Int)) = false := decide_eq_false (fun h => hn2 (by simp; omega))
      clear hn2 he
      go_enter Tryz.func61, Tryz.ntmps61
      go_wp2_with fail
      go_ret
      exact ⟨rfl, (Kept.refl _ _).alloc _⟩
    · clear hn2 he
      go_enter Tryz.func61, Tryz.ntmps61
      go_wp2_with fail
      go_ret
      exact ⟨rfl, (Kept.refl _ _).alloc _⟩
    · clear hn2 he
      go_enter Tryz.func61, Tryz.ntmps61
      go_wp2_with fail
      go_ret
      exact ⟨rfl, (Kept.refl _ _).alloc _⟩
theorem head_yes {k : Int} {nm : ByteArray} {n : Nat} {wi : Bool} (h : tyHead k nm n wi = true) :
    ((k = 1 ∧ n = 0 ∧ (nm.toList == []) = true) ∨ (k = 2 ∧ wi = false ∧ n = 0 ∧ (nm.toList == []) = true) ∨ (k = 3 ∧ n = 0 ∧ identB nm = true)) ∨ ((k = 5 ∧ n = 1) ∨ (k = 4 ∧ n = 2)) ∧ (nm.toList == []) = true := by
  unfold tyHead at h
  by_cases k1 : k = 1
  · subst k1; simp at h; simp_all
  by_cases k2 : k = 2
  · subst k2; simp at h; cases wi <;> simp_all
  by_cases k3 : k = 3
  · subst k3; simp at h; simp_all
  by_cases k4 : k = 4
  · subst k4; simp at h; simp_all
  by_cases k5 : k = 5
  · subst k5; simp at h; simp_all
  · simp [k1, k2, k3, k4, k5] at h
set_option maxHeartbeats 8000000 in
theorem rtyped_leaf {k : Int} {nm : ByteArray} {a : Option Addr} {cp c d : Nat} {w : World} (hsz : nm.size ≤ 9223372036854775807) (hc : c + 1 ≤ 16) (h1 : 1 ≤ d) (hd : d ≤ 6)
    (h : (k = 1 ∧ (nm.toList == []) = true) ∨ (k = 2 ∧ decide (1 < d) = false ∧ (nm.toList == []) = true) ∨ (k = 3 ∧ identB nm = true)) :
    Calls Tryz.prog 61 #[.agg #[.int .i64 k, .string nm, .slice a 0 cp], .int .i64 d, .int .i64 c] w fun e w' => e = .returned (.int .i64 ((c + 1 : Nat) : Int)) ∧ Kept (fun _ => False) w w' := by
  have i1 : decide ((6 : Int) < (d : Int)) = false := decide_eq_false (by omega)
  have i2 : decide ((16 : Int) < (c : Int) + 1) = false := decide_eq_false (by omega)
  rcases h with ⟨rfl, he⟩ | ⟨rfl, hw, he⟩ | ⟨rfl, hI⟩
  · have he2 : nm.toList.isEmpty = true := by cases h : nm.toList <;> simp_all
    have bA : Blk (w.alloc (.cells #[.int .i64 1, .string nm, .slice a 0 cp] 24)) w.heap.size 24 [.int .i64 1, .string nm, .slice a 0 cp] := Blk.new w 24 _
    go_enter Tryz.func61, Tryz.ntmps61
    go_wp2_with fail
    have K1 : Kept (fun _ => False) w (w.alloc (.cells #[.int .i64 1, .string nm, .slice a 0 cp] 24)) := (Kept.refl _ _).alloc _
    generalize w.alloc (.cells #[.int .i64 1, .string nm, .slice a 0 cp] 24) = w1 at *
    have g2 : w1.cell? ⟨w.heap.size, 2, none⟩ = some (.slice a 0 cp) := bA.cell 2
    go_loop [8, 2] (fun i m => i = .int .i64 0 ∧ m = .int .i64 ((c : Int) + 1)) (fun i _ => 0)
    case atStart => exact ⟨rfl, rfl⟩
    case round =>
      obtain ⟨rfl, rfl⟩ := hrel
      go_wp2_with fail
      go_ret
      exact ⟨rfl, K1⟩
  · have i3 : decide ((1 : Int) < (d : Int)) = false := decide_eq_false (fun h => by have := of_decide_eq_false hw; omega)
    have he2 : nm.toList.isEmpty = true := by cases h : nm.toList <;> simp_all
    have bA : Blk (w.alloc (.cells #[.int .i64 2, .string nm, .slice a 0 cp] 24)) w.heap.size 24 [.int .i64 2, .string nm, .slice a 0 cp] := Blk.new w 24 _
    clear hw
    go_enter Tryz.func61, Tryz.ntmps61
    go_wp2_with fail
    have K1 : Kept (fun _ => False) w (w.alloc (.cells #[.int .i64 2, .string nm, .slice a 0 cp] 24)) := (Kept.refl _ _).alloc _
    generalize w.alloc (.cells #[.int .i64 2, .string nm, .slice a 0 cp] 24) = w1 at *
    have g2 : w1.cell? ⟨w.heap.size, 2, none⟩ = some (.slice a 0 cp) := bA.cell 2
    go_loop [8, 2] (fun i m => i = .int .i64 0 ∧ m = .int .i64 ((c : Int) + 1)) (fun i _ => 0)
    case atStart => exact ⟨rfl, rfl⟩
    case round =>
      obtain ⟨rfl, rfl⟩ := hrel
      go_wp2_with fail
      go_ret
      exact ⟨rfl, K1⟩
  · have HI := Lib.hid hI
    clear hI
    have bA : Blk (w.alloc (.cells #[.int .i64 3, .string nm, .slice a 0 cp] 24)) w.heap.size 24 [.int .i64 3, .string nm, .slice a 0 cp] := Blk.new w 24 _
    have K0 : Kept (fun _ => False) w (w.alloc (.cells #[.int .i64 3, .string nm, .slice a 0 cp] 24)) := (Kept.refl _ _).alloc _
    go_enter Tryz.func61, Tryz.ntmps61
    go_wp2_with fail
    refine (rident_t HI.out hsz _).mono ?_
    rintro e w1 ⟨rfl, k1⟩
    have bA1 := bA.kept k1 (fun h => h)
    have K1 := K0.trans k1
    have g0 : w1.cell? ⟨w.heap.size, 0, none⟩ = some (.int .i64 3) := bA1.cell 0
    have g2 : w1.cell? ⟨w.heap.size, 2, none⟩ = some (.slice a 0 cp) := bA1.cell 2
    go_wp2_with fail
    go_loop [8, 2] (fun i m => i = .int .i64 0 ∧ m = .int .i64 ((c : Int) + 1)) (fun i _ => 0)
    case atStart => exact ⟨rfl, rfl⟩
    case round =>
      obtain ⟨rfl, rfl⟩ := hrel
      go_wp2_with fail
      go_ret
      exact ⟨rfl, K1⟩
theorem td_drop {l : List Ty} {d c k : Nat} (h : k < l.length) : tdR (tfsS 16 6 (l.drop k) d c) = if (tfS 16 6 l[k] d true c).1 = true then tdR (tfsS 16 6 (l.drop (k + 1)) d (tfS 16 6 l[k] d true c).2) else -1 := by
  rw [tfs_step h]; split <;> rfl
set_option maxRecDepth 100000 in
set_option maxHeartbeats 8000000 in
theorem rtyped_node {k : Int} {nm : ByteArray} {l : List Ty} {n cp c d b off : Nat} {w : World} {ok : Nat → Prop} (IH : ∀ t, t ∈ l → RdC t) (hc : c + 1 ≤ 16) (h1 : 1 ≤ d) (hd : d ≤ 6)
    (hkn : (k = 5 ∧ n = 1) ∨ (k = 4 ∧ n = 2)) (he : (nm.toList == []) = true) (hln : l.length = n) (K : Nat → Value) (hb : ok b)
    (hcell : ∀ i (h : i < l.length), w.cell? ⟨b, off + i * 3, none⟩ = some (.int .i64 l[i].kind) ∧ w.cell? ⟨b, off + i * 3 + 1, none⟩ = some (.string l[i].name) ∧ w.cell? ⟨b, off + i * 3 + 2, none⟩ = some (K i))
    (hk : ∀ i (h : i < l.length), TyL ok w l[i].kids (K i)) :
    Calls Tryz.prog 61 #[.agg #[.int .i64 k, .string nm, .slice (some ⟨b, off, none⟩) n cp], .int .i64 d, .int .i64 c] w fun e w' => e = .returned (.int .i64 (tdR (tfsS 16 6 l (d + 1) (c + 1)))) ∧ Kept (fun _ => False) w w' := by
  have i1 : decide ((6 : Int) < (d : Int)) = false := decide_eq_false (by omega)
  have i2 : decide ((16 : Int) < (c : Int) + 1) = false := decide_eq_false (by omega)
  have he2 : nm.toList.isEmpty = true := by cases h : nm.toList <;> simp_all
  have HIH := Lib.hid IH
  have HC := Lib.hid hcell
  have HK := Lib.hid hk
  have HL := Lib.hid hln
  clear IH hcell hk hln
  have bA : Blk (w.alloc (.cells #[.int .i64 k, .string nm, .slice (some ⟨b, off, none⟩) n cp] 24)) w.heap.size 24 [.int .i64 k, .string nm, .slice (some ⟨b, off, none⟩) n cp] := Blk.new w 24 _
  have K1 : Kept (fun _ => False) w (w.alloc (.cells #[.int .i64 k, .string nm, .slice (some ⟨b, off, none⟩) n cp] 24)) := (Kept.refl _ _).alloc _
  rcases hkn with ⟨rfl, rfl⟩ | ⟨rfl, rfl⟩
  all_goals
    go_enter Tryz.func61, Tryz.ntmps61
    go_wp2_with fail
    generalize w.alloc _ = w1 at *
    go_loopw [8, 2] (fun i m wr => ∃ j cj : Nat, j ≤ l.length ∧ i = .int .i64 j ∧ m = .int .i64 cj ∧ cj ≤ 16 ∧ Kept (fun _ => False) w1 wr ∧ Hid (tdR (tfsS 16 6 l (d + 1) (c + 1)) = tdR (tfsS 16 6 (l.drop j) (d + 1) cj))) (fun i _ _ => l.length - (intOf i).toNat)
    case atStart => exact ⟨0, c + 1, Nat.zero_le _, rfl, by go_num, hc, Kept.refl _ _, Lib.hid rfl⟩
    case round =>
      obtain ⟨j, cj, hj, rfl, rfl, hcj, kr, hq⟩ := hrel
      have bR := bA.kept kr (fun h => h)
      have g2 : wr.cell? ⟨w.heap.size, 2, none⟩ = some (.slice (some ⟨b, off, none⟩) _ cp) := bR.cell 2
      have hll := HL.out
      by_cases hlt : j < l.length
      · have KR := K1.trans kr
        have c0 := (Same.of_kept (ok := ok) KR (fun k h e => e)).cell hb (HC.out j hlt).1
        have c1 := (Same.of_kept (ok := ok) KR (fun k h e => e)).cell hb (HC.out j hlt).2.1
        have c2 := (Same.of_kept (ok := ok) KR (fun k h e => e)).cell hb (HC.out j hlt).2.2
        obtain ⟨ta, tn, tc, hKj⟩ := (HK.out j hlt).slice
        have hkk := (HK.out j hlt).frame (Same.of_kept (ok := ok) KR (fun k h e => e))
        rw [hKj] at c2 hkk
        have hcon := Lib.hid (HIH.out _ (List.getElem_mem hlt) wr ok cj (d + 1) _ hcj (by omega) (by omega) hkk)
        have hst := Lib.hid (td_drop (d := d + 1) (c := cj) hlt)
        have hle := Lib.hid (tf_le 16 6 l[j] (d + 1) true cj hcj)
        have hw : decide (1 < d + 1) = true := decide_eq_true (by omega)
        rw [hw] at hcon
        clear hkk hw
        have hj2 : (j : Int) < 1000 := by omega
        cases hr : (tfS 16 6 l[j] (d + 1) true cj).1
        · have e1 : tdR (tfS 16 6 l[j] (d + 1) true cj) = -1 := by unfold tdR; rw [hr]; rfl
          rw [e1] at hcon
          have HR := Lib.hid hr
          clear hr e1
          unfold tyVal at hcon
          go_wp2_with (go_at_call 61; refine hcon.out.mono ?_; rintro e w' ⟨rfl, k2⟩)
          go_ret
          refine ⟨?_, KR.trans k2⟩
          rw [hq.out, hst.out, HR.out]; rfl
        · have e1 : tdR (tfS 16 6 l[j] (d + 1) true cj) = ((tfS 16 6 l[j] (d + 1) true cj).2 : Int) := by unfold tdR; rw [hr]; rfl
          rw [e1] at hcon
          have hle2 := hle.out hr
          have HR := Lib.hid hr
          clear hr e1
          generalize hcc : (tfS 16 6 l[j] (d + 1) true cj).2 = cc at *
          have HCC := Lib.hid hcc
          clear hcc
          unfold tyVal at hcon
          go_wp2_with (go_at_call 61; refine hcon.out.mono ?_; rintro e w' ⟨rfl, k2⟩)
          go_roundw
          case rel =>
            refine ⟨j + 1, cc, by omega, by go_num, rfl, hle2.2, kr.trans k2, Lib.hid ?_⟩
            rw [hq.out, hst.out, HR.out, if_pos rfl]
          case measure => simp [intOf]; omega
      · have hq2 : Hid (tdR (tfsS 16 6 l (d + 1) (c + 1)) = (cj : Int)) := Lib.hid (by rw [hq.out, List.drop_eq_nil_of_le (by omega), tfsS]; rfl)
        go_wp2_with fail
        go_ret
        exact ⟨by rw [hq2.out]; rfl, K1.trans kr⟩
theorem rtyped_one {k : Int} {nm : ByteArray} {l : List Ty} (hsz : nm.size ≤ 9223372036854775807) (IH : ∀ t, t ∈ l → RdC t) : RdC (.mk k nm l) := by
  intro w ok c d tk hc h1 hd hk
  obtain ⟨a, n, cp, rfl⟩ := hk.slice
  have hn : n = l.length := hk.len
  cases hh : ((decide (c + 1 ≤ 16) && decide (d ≤ 6)) && tyHead k nm l.length (decide (1 < d)))
  · rw [td_no hh]
    exact rtyped_bad hsz hc h1 hd (by rw [hn]; exact hh)
  · rw [Bool.and_eq_true, Bool.and_eq_true] at hh
    obtain ⟨⟨hc1, hd1⟩, hh⟩ := hh
    have hc1 := of_decide_eq_true hc1
    have hd1 := of_decide_eq_true hd1
    rw [td_yes hc1 hd1 hh]
    rw [← hn] at hh
    rcases head_yes hh with hl | ⟨hl, he⟩
    · have h0 : n = 0 := by rcases hl with h | h | h; exact h.2.1; exact h.2.2.1; exact h.2.1
      subst h0
      have : l = [] := List.length_eq_zero_iff.1 hn.symm
      subst this
      rw [tfsS]
      refine rtyped_leaf hsz hc1 h1 hd1 ?_
      rcases hl with h | h | h
      · exact Or.inl ⟨h.1, h.2.2⟩
      · exact Or.inr (Or.inl ⟨h.1, h.2.1, h.2.2.2⟩)
      · exact Or.inr (Or.inr ⟨h.1, h.2.2⟩)
    · have hk' : TyL ok w l (.slice a n cp) := hk
      subst hn
      cases hk' with
      | nil h => simp at hl
      | mk K hne hb hcap hcell hkk => exact rtyped_node IH hc1 h1 hd1 hl he rfl K hb hcell hkk
theorem rtyped_any {t : Ty} (h : SmTy big t) : RdC t := by
  induction h with
  | mk hn hl ih => exact rtyped_one hn ih
set_option maxHeartbeats 2000000 in
theorem rvalidTy_any {ok : Nat → Prop} {w : World} {t : Ty} {a : Option Addr} {n c : Nat} (hk : TyL ok w t.kids (.slice a n c)) (hs : SmTy big t) :
    Calls Tryz.prog 30 #[.agg #[.int .i64 t.kind, .string t.name, .slice a n c]] w fun e w' => e = .returned (.bool (validTyB t)) ∧ Kept (fun _ => False) w w' := by
  have hk2 := hk.frame (Same.alloc w (.cells #[.int .i64 t.kind, .string t.name, .slice a n c] 24))
  have hC := Lib.hid (rtyped_any hs _ ok 0 1 _ (by decide) (by decide) (by decide) hk2)
  have K1 : Kept (fun _ => False) w (w.alloc (.cells #[.int .i64 t.kind, .string t.name, .slice a n c] 24)) := (Kept.refl _ _).alloc _
  have hle := tf_le 16 6 t 1 false 0 (by decide)
  have HV : Hid (decide (0 < tdR (tfS 16 6 t 1 (decide (1 < 1)) 0)) = validTyB t) := Lib.hid (by
    show decide (0 < tdR (tfS 16 6 t 1 false 0)) = validTyB t
    unfold tdR validTyB
    cases hr : (tfS 16 6 t 1 false 0).1
    · rfl
    · have := (hle hr).1
      rw [if_pos rfl]
      exact decide_eq_true (by omega))
  clear hle
  unfold tyVal at hC
  go_enter Tryz.func30, Tryz.ntmps30
  go_wp2_with fail
  refine hC.out.mono ?_
  rintro e w' ⟨rfl, k2⟩
  go_wp2_with fail
  go_ret
  exact ⟨by rw [← HV.out]; rfl, K1.trans k2⟩
def str (l : List UInt8) : ByteArray := ⟨l.toArray⟩
theorem str_app (a b : List UInt8) : str a ++ str b = str (a ++ b) := by
  apply ByteArray.ext
  rw [ByteArray.data_append]
  simp [str]
theorem str_size (a : List UInt8) : (str a).size = a.length := by simp [str, ByteArray.size]
def tyComb (k : Int) (nm : ByteArray) (ks : List (List UInt8)) : List UInt8 :=
  if k = 1 then [105, 110, 116] else if k = 2 then [98, 111, 111, 108] else if k = 3 then nm.data.toList else if k = 5 then [115, 101, 116, 40] ++ ks.getD 0 [] ++ [41]
  else if k = 4 then [112, 97, 105, 114, 40] ++ ks.getD 0 [] ++ [44, 32] ++ ks.getD 1 [] ++ [41] else []
mutual
def tyShow : Ty → List UInt8
  | .mk k nm l => tyComb k nm (tyShows l)
def tyShows : List Ty → List (List UInt8)
  | [] => []
  | t :: l => tyShow t :: tyShows l
end
theorem TyL.one' {ok : Nat → Prop} {w : World} {x : Ty} {v : Value} (h : TyL ok w [x] v) : ∃ g off cap k0, v = .slice (some ⟨g, off, none⟩) 1 cap ∧ ok g ∧ w.cell? ⟨g, off, none⟩ = some (.int .i64 x.kind) ∧ w.cell? ⟨g, off + 1, none⟩ = some (.string x.name) ∧ w.cell? ⟨g, off + 2, none⟩ = some k0 ∧ TyL ok w x.kids k0 := by
  generalize hl : [x] = l at h
  cases h with
  | nil h => cases hl
  | mk K hne hb hc hcell hk =>
    rename_i g off cap
    subst hl
    have h0 := hcell 0 (by simp)
    exact ⟨g, off, cap, K 0, rfl, hb, by simpa using h0.1, by simpa using h0.2.1, by simpa using h0.2.2, hk 0 (by simp)⟩
theorem TyL.two' {ok : Nat → Prop} {w : World} {x y : Ty} {v : Value} (h : TyL ok w [x, y] v) : ∃ g off cap k0 k1, v = .slice (some ⟨g, off, none⟩) 2 cap ∧ ok g ∧ w.cell? ⟨g, off, none⟩ = some (.int .i64 x.kind) ∧ w.cell? ⟨g, off + 1, none⟩ = some (.string x.name) ∧ w.cell? ⟨g, off + 2, none⟩ = some k0 ∧ w.cell? ⟨g, off + 3, none⟩ = some (.int .i64 y.kind) ∧ w.cell? ⟨g, off + 4, none⟩ = some (.string y.name) ∧ w.cell? ⟨g, off + 5, none⟩ = some k1 ∧ TyL ok w x.kids k0 ∧ TyL ok w y.kids k1 := by
  generalize hl : [x, y] = l at h
  cases h with
  | nil h => cases hl
  | mk K hne hb hc hcell hk =>
    rename_i g off cap
    subst hl
    have h0 := hcell 0 (by simp)
    have h1 := hcell 1 (by simp)
    exact ⟨g, off, cap, K 0, K 1, rfl, hb, by simpa using h0.1, by simpa using h0.2.1, by simpa using h0.2.2, by simpa using h1.1, by simpa using h1.2.1, by simpa using h1.2.2, hk 0 (by simp), hk 1 (by simp)⟩
inductive OkTy : Ty → Prop
  | leaf {k : Int} {nm : ByteArray} (h : k = 1 ∨ k = 2 ∨ k = 3) : OkTy (.mk k nm [])
  | set {nm : ByteArray} {x : Ty} (h : OkTy x) : OkTy (.mk 5 nm [x])
  | pair {nm : ByteArray} {x y : Ty} (h : OkTy x) (h' : OkTy y) : OkTy (.mk 4 nm [x, y])
def tsC (t : Ty) : Prop := ∀ (w : World) (ok : Nat → Prop) (tk : Value), TyL ok w t.kids tk → (tyShow t).length ≤ 1000000 →
  Calls Tryz.prog 57 #[tyVal t tk] w fun e w' => e = .returned (.string (str (tyShow t))) ∧ Kept (fun _ => False) w w'
set_option maxHeartbeats 4000000 in
theorem ts_leaf {k : Int} {nm : ByteArray} {a : Option Addr} {n c : Nat} {w : World} (hk : k = 1 ∨ k = 2 ∨ k = 3) : Calls Tryz.prog 57 #[.agg #[.int .i64 k, .string nm, .slice a n c]] w fun e w' => e = .returned (.string (str (tyComb k nm []))) ∧ Kept (fun _ => False) w w' := by
  have K0 : Kept (fun _ => False) w (w.alloc (.cells #[.int .i64 k, .string nm, .slice a n c] 24)) := (Kept.refl _ _).alloc _
  rcases hk with rfl | rfl | rfl
  all_goals
    go_enter Tryz.func57, Tryz.ntmps57
    go_wp2_with fail
    go_ret
    exact ⟨rfl, K0⟩
set_option maxRecDepth 100000 in
set_option maxHeartbeats 4000000 in
theorem ts_set {x : Ty} {nm : ByteArray} (hx : tsC x) (hb : (tyShow x).length ≤ 1000000) : tsC (.mk 5 nm [x]) := by
  intro w ok tk hk _
  obtain ⟨g, off, cap, k0, rfl, hg, c0, c1, c2, hxk⟩ := TyL.one' (show TyL ok w [x] tk from hk)
  obtain ⟨xa, xn, xc, rfl⟩ := hxk.slice
  have Z : w.alloc (.cells #[.int .i64 5, .string nm, .slice (some ⟨g, off, none⟩) 1 cap] 24) = w.alloc (.cells #[.int .i64 5, .string nm, .slice (some ⟨g, off, none⟩) 1 cap] 24) := rfl
  have K0 : Kept (fun _ => False) w (w.alloc (.cells #[.int .i64 5, .string nm, .slice (some ⟨g, off, none⟩) 1 cap] 24)) := (Kept.refl _ _).alloc _
  have S0 := Same.of_kept (ok := ok) K0 (fun _ _ e => e)
  have d0 := S0.cell hg c0
  have d1 := S0.cell hg c1
  have d2 := S0.cell hg c2
  have HX := Lib.hid (hx _ ok _ (hxk.frame S0) hb)
  have hz : Hid ((str (tyShow x)).size ≤ 1000000) := Lib.hid (by rw [str_size]; exact hb)
  have hz1 := hz.out
  unfold tyVal at HX
  clear hb c0 c1 c2 Z
  change Calls Tryz.prog 57 #[.agg #[.int .i64 5, .string nm, .slice (some ⟨g, off, none⟩) 1 cap]] w _
  go_enter Tryz.func57, Tryz.ntmps57
  go_wp2_with fail
  refine HX.out.mono ?_
  rintro e w1 ⟨rfl, k1⟩
  go_wp2_with fail
  go_ret
  refine ⟨?_, K0.trans k1⟩
  rw [show tyShow (.mk 5 nm [x]) = [115, 101, 116, 40] ++ tyShow x ++ [41] by simp [tyShow, tyShows, tyComb], ← str_app, ← str_app]
  rfl
set_option maxRecDepth 100000 in
set_option maxHeartbeats 8000000 in
theorem ts_pair {x y : Ty} {nm : ByteArray} (hx : tsC x) (hy : tsC y) (hb : (tyShow x).length ≤ 1000000) (hc : (tyShow y).length ≤ 1000000) : tsC (.mk 4 nm [x, y]) := by
  intro w ok tk hk _
  obtain ⟨g, off, cap, k0, k1, rfl, hg, c0, c1, c2, c3, c4, c5, hxk, hyk⟩ := TyL.two' (show TyL ok w [x, y] tk from hk)
  obtain ⟨xa, xn, xc, rfl⟩ := hxk.slice
  obtain ⟨ya, yn, yc, rfl⟩ := hyk.slice
  have bA : Blk (w.alloc (.cells #[.int .i64 4, .string nm, .slice (some ⟨g, off, none⟩) 2 cap] 24)) w.heap.size 24 [.int .i64 4, .string nm, .slice (some ⟨g, off, none⟩) 2 cap] := Blk.new w 24 _
  have K0 : Kept (fun _ => False) w (w.alloc (.cells #[.int .i64 4, .string nm, .slice (some ⟨g, off, none⟩) 2 cap] 24)) := (Kept.refl _ _).alloc _
  have S0 := Same.of_kept (ok := ok) K0 (fun _ _ e => e)
  have d0 := S0.cell hg c0
  have d1 := S0.cell hg c1
  have d2 := S0.cell hg c2
  have d3 := S0.cell hg c3
  have d4 := S0.cell hg c4
  have d5 := S0.cell hg c5
  have lg := cell_lt c0
  have HX := Lib.hid (fun W (k : Kept (fun _ => False) w W) => hx W ok _ (hxk.frame (Same.of_kept (ok := ok) k (fun _ _ e => e))) hb)
  have HY := Lib.hid (fun W (k : Kept (fun _ => False) w W) => hy W ok _ (hyk.frame (Same.of_kept (ok := ok) k (fun _ _ e => e))) hc)
  have hz1 : (str (tyShow x)).size ≤ 1000000 := by rw [str_size]; exact hb
  have hz2 : (str (tyShow y)).size ≤ 1000000 := by rw [str_size]; exact hc
  unfold tyVal at HX HY
  clear hb hc c0 c1 c2 c3 c4 c5
  generalize hsx : str (tyShow x) = sx at *
  generalize hsy : str (tyShow y) = sy at *
  have HSX := Lib.hid hsx
  have HSY := Lib.hid hsy
  clear hsx hsy hx hy hk
  have HT : Hid (str (tyShow (.mk 4 nm [x, y])) = ⟨#[112, 97, 105, 114, 40]⟩ ++ sx ++ ⟨#[44, 32]⟩ ++ sy ++ ⟨#[41]⟩) := Lib.hid (by
    rw [show tyShow (.mk 4 nm [x, y]) = [112, 97, 105, 114, 40] ++ tyShow x ++ [44, 32] ++ tyShow y ++ [41] by simp [tyShow, tyShows, tyComb], ← str_app, ← str_app, ← str_app, ← str_app, HSX.out, HSY.out]
    rfl)
  change Calls Tryz.prog 57 #[.agg #[.int .i64 4, .string nm, .slice (some ⟨g, off, none⟩) 2 cap]] w _
  go_enter Tryz.func57, Tryz.ntmps57
  go_wp2_with fail
  generalize w.alloc (.cells #[.int .i64 4, .string nm, .slice (some ⟨g, off, none⟩) 2 cap] 24) = w1 at *
  have g2 : w1.cell? ⟨w.heap.size, 2, none⟩ = some (.slice (some ⟨g, off, none⟩) 2 cap) := bA.cell 2
  have ng : g ≠ w.heap.size := by omega
  have HS := Lib.hid (fun W (k : Kept (fun _ => False) w1 W) => (⟨(bA.kept k (fun h => h)).cell 2, (Same.of_kept (ok := ok) k (fun _ _ e => e)).cell hg d0, (Same.of_kept (ok := ok) k (fun _ _ e => e)).cell hg d1, (Same.of_kept (ok := ok) k (fun _ _ e => e)).cell hg d2, (Same.of_kept (ok := ok) k (fun _ _ e => e)).cell hg d3, (Same.of_kept (ok := ok) k (fun _ _ e => e)).cell hg d4, (Same.of_kept (ok := ok) k (fun _ _ e => e)).cell hg d5⟩ : W.cell? ⟨w.heap.size, 2, none⟩ = some (.slice (some ⟨g, off, none⟩) 2 cap) ∧ W.cell? ⟨g, off, none⟩ = some (.int .i64 x.kind) ∧ W.cell? ⟨g, off + 1, none⟩ = some (.string x.name) ∧ W.cell? ⟨g, off + 2, none⟩ = some (.slice xa xn xc) ∧ W.cell? ⟨g, off + 3, none⟩ = some (.int .i64 y.kind) ∧ W.cell? ⟨g, off + 4, none⟩ = some (.string y.name) ∧ W.cell? ⟨g, off + 5, none⟩ = some (.slice ya yn yc)))
  have KD : Kept (fun _ => False) w1 w1.drew := (Kept.refl _ _).drew
  have HXY : Hid (∀ (W : World) (v : Value) (s : ByteArray), Kept (fun _ => False) w1 W → ((v = .agg #[.int .i64 x.kind, .string x.name, .slice xa xn xc] ∧ s = sx) ∨ (v = .agg #[.int .i64 y.kind, .string y.name, .slice ya yn yc] ∧ s = sy)) → Calls Tryz.prog 57 #[v] W fun e w' => e = .returned (.string s) ∧ Kept (fun _ => False) W w') := Lib.hid (by
    rintro W v s k (⟨rfl, rfl⟩ | ⟨rfl, rfl⟩)
    · exact HX.out W (K0.trans k)
    · exact HY.out W (K0.trans k))
  clear HX HY
  go_region_held (fun w' => w'.cell? ⟨w.heap.size, 2, none⟩ = some (.slice (some ⟨g, off, none⟩) 2 cap) ∧ w'.cell? ⟨g, off, none⟩ = some (.int .i64 x.kind) ∧ w'.cell? ⟨g, off + 1, none⟩ = some (.string x.name) ∧ w'.cell? ⟨g, off + 2, none⟩ = some (.slice xa xn xc) ∧ w'.cell? ⟨g, off + 3, none⟩ = some (.int .i64 y.kind) ∧ w'.cell? ⟨g, off + 4, none⟩ = some (.string y.name) ∧ w'.cell? ⟨g, off + 5, none⟩ = some (.slice ya yn yc)) (go_keep)
    (first | (go_at_call 57; refine (HXY.out _ _ _ (by first | exact KD | exact KE) (by first | exact Or.inl ⟨rfl, rfl⟩ | exact Or.inr ⟨rfl, rfl⟩)).mono ?_; rintro e wq ⟨rfl, kq⟩; first | (have KF := KE.trans kq; obtain ⟨n0, n1, n2, n3, n4, n5, n6⟩ := HS.out _ KF) | (have KE := KD.trans kq; obtain ⟨m0, m1, m2, m3, m4, m5, m6⟩ := HS.out _ KE)))
  all_goals
    go_wp2_with fail
    go_ret
    refine ⟨?_, K0.trans KF⟩
    rw [HT.out]
    rfl
def rsC (t : Ty) : Prop := ∀ (w : World) (ok : Nat → Prop) (tk : Value), TyL ok w t.kids tk → (tyShow t).length ≤ 1000000 →
  Calls Tryz.prog 58 #[tyVal t tk] w fun e w' => e = .returned (.string (str (tyShow t))) ∧ Kept (fun _ => False) w w'
set_option maxHeartbeats 4000000 in
theorem rs_leaf {k : Int} {nm : ByteArray} {a : Option Addr} {n c : Nat} {w : World} (hk : k = 1 ∨ k = 2 ∨ k = 3) : Calls Tryz.prog 58 #[.agg #[.int .i64 k, .string nm, .slice a n c]] w fun e w' => e = .returned (.string (str (tyComb k nm []))) ∧ Kept (fun _ => False) w w' := by
  have K0 : Kept (fun _ => False) w (w.alloc (.cells #[.int .i64 k, .string nm, .slice a n c] 24)) := (Kept.refl _ _).alloc _
  rcases hk with rfl | rfl | rfl
  all_goals
    go_enter Tryz.func58, Tryz.ntmps58
    go_wp2_with fail
    go_ret
    exact ⟨rfl, K0⟩
set_option maxRecDepth 100000 in
set_option maxHeartbeats 4000000 in
theorem rs_set {x : Ty} {nm : ByteArray} (hx : rsC x) (hb : (tyShow x).length ≤ 1000000) : rsC (.mk 5 nm [x]) := by
  intro w ok tk hk _
  obtain ⟨g, off, cap, k0, rfl, hg, c0, c1, c2, hxk⟩ := TyL.one' (show TyL ok w [x] tk from hk)
  obtain ⟨xa, xn, xc, rfl⟩ := hxk.slice
  have Z : w.alloc (.cells #[.int .i64 5, .string nm, .slice (some ⟨g, off, none⟩) 1 cap] 24) = w.alloc (.cells #[.int .i64 5, .string nm, .slice (some ⟨g, off, none⟩) 1 cap] 24) := rfl
  have K0 : Kept (fun _ => False) w (w.alloc (.cells #[.int .i64 5, .string nm, .slice (some ⟨g, off, none⟩) 1 cap] 24)) := (Kept.refl _ _).alloc _
  have S0 := Same.of_kept (ok := ok) K0 (fun _ _ e => e)
  have d0 := S0.cell hg c0
  have d1 := S0.cell hg c1
  have d2 := S0.cell hg c2
  have HX := Lib.hid (hx _ ok _ (hxk.frame S0) hb)
  have hz : Hid ((str (tyShow x)).size ≤ 1000000) := Lib.hid (by rw [str_size]; exact hb)
  have hz1 := hz.out
  unfold tyVal at HX
  clear hb c0 c1 c2 Z
  change Calls Tryz.prog 58 #[.agg #[.int .i64 5, .string nm, .slice (some ⟨g, off, none⟩) 1 cap]] w _
  go_enter Tryz.func58, Tryz.ntmps58
  go_wp2_with fail
  refine HX.out.mono ?_
  rintro e w1 ⟨rfl, k1⟩
  go_wp2_with fail
  go_ret
  refine ⟨?_, K0.trans k1⟩
  rw [show tyShow (.mk 5 nm [x]) = [115, 101, 116, 40] ++ tyShow x ++ [41] by simp [tyShow, tyShows, tyComb], ← str_app, ← str_app]
  rfl
set_option maxRecDepth 100000 in
set_option maxHeartbeats 8000000 in
theorem rs_pair {x y : Ty} {nm : ByteArray} (hx : rsC x) (hy : rsC y) (hb : (tyShow x).length ≤ 1000000) (hc : (tyShow y).length ≤ 1000000) : rsC (.mk 4 nm [x, y]) := by
  intro w ok tk hk _
  obtain ⟨g, off, cap, k0, k1, rfl, hg, c0, c1, c2, c3, c4, c5, hxk, hyk⟩ := TyL.two' (show TyL ok w [x, y] tk from hk)
  obtain ⟨xa, xn, xc, rfl⟩ := hxk.slice
  obtain ⟨ya, yn, yc, rfl⟩ := hyk.slice
  have bA : Blk (w.alloc (.cells #[.int .i64 4, .string nm, .slice (some ⟨g, off, none⟩) 2 cap] 24)) w.heap.size 24 [.int .i64 4, .string nm, .slice (some ⟨g, off, none⟩) 2 cap] := Blk.new w 24 _
  have K0 : Kept (fun _ => False) w (w.alloc (.cells #[.int .i64 4, .string nm, .slice (some ⟨g, off, none⟩) 2 cap] 24)) := (Kept.refl _ _).alloc _
  have S0 := Same.of_kept (ok := ok) K0 (fun _ _ e => e)
  have d0 := S0.cell hg c0
  have d1 := S0.cell hg c1
  have d2 := S0.cell hg c2
  have d3 := S0.cell hg c3
  have d4 := S0.cell hg c4
  have d5 := S0.cell hg c5
  have lg := cell_lt c0
  have HX := Lib.hid (fun W (k : Kept (fun _ => False) w W) => hx W ok _ (hxk.frame (Same.of_kept (ok := ok) k (fun _ _ e => e))) hb)
  have HY := Lib.hid (fun W (k : Kept (fun _ => False) w W) => hy W ok _ (hyk.frame (Same.of_kept (ok := ok) k (fun _ _ e => e))) hc)
  have hz1 : (str (tyShow x)).size ≤ 1000000 := by rw [str_size]; exact hb
  have hz2 : (str (tyShow y)).size ≤ 1000000 := by rw [str_size]; exact hc
  unfold tyVal at HX HY
  clear hb hc c0 c1 c2 c3 c4 c5
  generalize hsx : str (tyShow x) = sx at *
  generalize hsy : str (tyShow y) = sy at *
  have HSX := Lib.hid hsx
  have HSY := Lib.hid hsy
  clear hsx hsy hx hy hk
  have HT : Hid (str (tyShow (.mk 4 nm [x, y])) = ⟨#[112, 97, 105, 114, 40]⟩ ++ sx ++ ⟨#[44, 32]⟩ ++ sy ++ ⟨#[41]⟩) := Lib.hid (by
    rw [show tyShow (.mk 4 nm [x, y]) = [112, 97, 105, 114, 40] ++ tyShow x ++ [44, 32] ++ tyShow y ++ [41] by simp [tyShow, tyShows, tyComb], ← str_app, ← str_app, ← str_app, ← str_app, HSX.out, HSY.out]
    rfl)
  change Calls Tryz.prog 58 #[.agg #[.int .i64 4, .string nm, .slice (some ⟨g, off, none⟩) 2 cap]] w _
  go_enter Tryz.func58, Tryz.ntmps58
  go_wp2_with fail
  generalize w.alloc (.cells #[.int .i64 4, .string nm, .slice (some ⟨g, off, none⟩) 2 cap] 24) = w1 at *
  have g2 : w1.cell? ⟨w.heap.size, 2, none⟩ = some (.slice (some ⟨g, off, none⟩) 2 cap) := bA.cell 2
  have ng : g ≠ w.heap.size := by omega
  have HS := Lib.hid (fun W (k : Kept (fun _ => False) w1 W) => (⟨(bA.kept k (fun h => h)).cell 2, (Same.of_kept (ok := ok) k (fun _ _ e => e)).cell hg d0, (Same.of_kept (ok := ok) k (fun _ _ e => e)).cell hg d1, (Same.of_kept (ok := ok) k (fun _ _ e => e)).cell hg d2, (Same.of_kept (ok := ok) k (fun _ _ e => e)).cell hg d3, (Same.of_kept (ok := ok) k (fun _ _ e => e)).cell hg d4, (Same.of_kept (ok := ok) k (fun _ _ e => e)).cell hg d5⟩ : W.cell? ⟨w.heap.size, 2, none⟩ = some (.slice (some ⟨g, off, none⟩) 2 cap) ∧ W.cell? ⟨g, off, none⟩ = some (.int .i64 x.kind) ∧ W.cell? ⟨g, off + 1, none⟩ = some (.string x.name) ∧ W.cell? ⟨g, off + 2, none⟩ = some (.slice xa xn xc) ∧ W.cell? ⟨g, off + 3, none⟩ = some (.int .i64 y.kind) ∧ W.cell? ⟨g, off + 4, none⟩ = some (.string y.name) ∧ W.cell? ⟨g, off + 5, none⟩ = some (.slice ya yn yc)))
  have KD : Kept (fun _ => False) w1 w1.drew := (Kept.refl _ _).drew
  have HXY : Hid (∀ (W : World) (v : Value) (s : ByteArray), Kept (fun _ => False) w1 W → ((v = .agg #[.int .i64 x.kind, .string x.name, .slice xa xn xc] ∧ s = sx) ∨ (v = .agg #[.int .i64 y.kind, .string y.name, .slice ya yn yc] ∧ s = sy)) → Calls Tryz.prog 58 #[v] W fun e w' => e = .returned (.string s) ∧ Kept (fun _ => False) W w') := Lib.hid (by
    rintro W v s k (⟨rfl, rfl⟩ | ⟨rfl, rfl⟩)
    · exact HX.out W (K0.trans k)
    · exact HY.out W (K0.trans k))
  clear HX HY
  go_region_held (fun w' => w'.cell? ⟨w.heap.size, 2, none⟩ = some (.slice (some ⟨g, off, none⟩) 2 cap) ∧ w'.cell? ⟨g, off, none⟩ = some (.int .i64 x.kind) ∧ w'.cell? ⟨g, off + 1, none⟩ = some (.string x.name) ∧ w'.cell? ⟨g, off + 2, none⟩ = some (.slice xa xn xc) ∧ w'.cell? ⟨g, off + 3, none⟩ = some (.int .i64 y.kind) ∧ w'.cell? ⟨g, off + 4, none⟩ = some (.string y.name) ∧ w'.cell? ⟨g, off + 5, none⟩ = some (.slice ya yn yc)) (go_keep)
    (first | (go_at_call 58; refine (HXY.out _ _ _ (by first | exact KD | exact KE) (by first | exact Or.inl ⟨rfl, rfl⟩ | exact Or.inr ⟨rfl, rfl⟩)).mono ?_; rintro e wq ⟨rfl, kq⟩; first | (have KF := KE.trans kq; obtain ⟨n0, n1, n2, n3, n4, n5, n6⟩ := HS.out _ KF) | (have KE := KD.trans kq; obtain ⟨m0, m1, m2, m3, m4, m5, m6⟩ := HS.out _ KE)))
  all_goals
    go_wp2_with fail
    go_ret
    refine ⟨?_, K0.trans KF⟩
    rw [HT.out]
    rfl
theorem ts_any {t : Ty} (h : OkTy t) (hb : (tyShow t).length ≤ 1000000) : tsC t := by
  induction h with
  | @leaf k nm h =>
    intro w ok tk hk _
    obtain ⟨a, n, c, rfl⟩ := hk.slice
    unfold tyVal
    rw [show tyShow (.mk k nm []) = tyComb k nm [] by simp [tyShow, tyShows]]
    exact ts_leaf h
  | set h ih =>
    rename_i nm x
    have e : (tyShow (.mk 5 nm [x])).length = (tyShow x).length + 5 := by simp [tyShow, tyShows, tyComb] <;> omega
    exact ts_set (ih (by omega)) (by omega)
  | pair h h' ih ih' =>
    rename_i nm x y
    have e : (tyShow (.mk 4 nm [x, y])).length = (tyShow x).length + (tyShow y).length + 8 := by simp [tyShow, tyShows, tyComb] <;> omega
    exact ts_pair (ih (by omega)) (ih' (by omega)) (by omega) (by omega)
theorem rs_any {t : Ty} (h : OkTy t) (hb : (tyShow t).length ≤ 1000000) : rsC t := by
  induction h with
  | @leaf k nm h =>
    intro w ok tk hk _
    obtain ⟨a, n, c, rfl⟩ := hk.slice
    unfold tyVal
    rw [show tyShow (.mk k nm []) = tyComb k nm [] by simp [tyShow, tyShows]]
    exact rs_leaf h
  | set h ih =>
    rename_i nm x
    have e : (tyShow (.mk 5 nm [x])).length = (tyShow x).length + 5 := by simp [tyShow, tyShows, tyComb] <;> omega
    exact rs_set (ih (by omega)) (by omega)
  | pair h h' ih ih' =>
    rename_i nm x y
    have e : (tyShow (.mk 4 nm [x, y])).length = (tyShow x).length + (tyShow y).length + 8 := by simp [tyShow, tyShows, tyComb] <;> omega
    exact rs_pair (ih (by omega)) (ih' (by omega)) (by omega) (by omega)
end Go.Proofs.YtckjlliobebodaaGreatDoor
