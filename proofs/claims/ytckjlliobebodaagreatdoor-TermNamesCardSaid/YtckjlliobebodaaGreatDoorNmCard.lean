/- TermNames, the tied card: for every string the law returns true, and its argument reads as it did. No further condition. -/
import Derived.Test.YtckjlliobebodaaGreatDoorEsCon
set_option linter.unusedVariables false
set_option linter.unusedSimpArgs false
namespace Go.Proofs.YtckjlliobebodaaGreatDoor
open Go.RowKit
set_option maxHeartbeats 400000 in
theorem rletter_any (c : Int) (w : World) :
    Calls Tryz.prog 48 #[.int .u8 c] w fun e w' => e = .returned (.bool (letterB c)) ∧ w = w' := by
  cases h1 : decide (97 ≤ c) <;> cases h2 : decide (c ≤ 122) <;> cases h3 : decide (65 ≤ c) <;> cases h4 : decide (c ≤ 90)
  all_goals
    have hk := Lib.hid (show letterB c = _ by unfold letterB; rw [h1, h2, h3, h4])
    go_enter Tryz.func48, Tryz.ntmps48
    go_wp2_with fail
    go_ret
    exact ⟨by rw [hk.out]; rfl, rfl⟩
set_option maxHeartbeats 400000 in
theorem rdigit_any (c : Int) (w : World) :
    Calls Tryz.prog 50 #[.int .u8 c] w fun e w' => e = .returned (.bool (digitB c)) ∧ w = w' := by
  cases h1 : decide (48 ≤ c) <;> cases h2 : decide (c ≤ 57)
  all_goals
    have hk := Lib.hid (show digitB c = _ by unfold digitB; rw [h1, h2])
    go_enter Tryz.func50, Tryz.ntmps50
    go_wp2_with fail
    go_ret
    exact ⟨by rw [hk.out]; rfl, rfl⟩
def inB (s : ByteArray) (l : List ByteArray) : Bool := l.any fun x => x.toList == s.toList
theorem inB_yes (s : ByteArray) (l : List ByteArray) (k : Nat) (h : k < l.length) (hy : (l[k].toList == s.toList) = true) : inB s l = true := by
  unfold inB; rw [List.any_eq_true]; exact ⟨l[k], List.getElem_mem h, hy⟩
theorem inB_no (s : ByteArray) (l : List ByteArray) (hno : ∀ j (h : j < l.length), (l[j].toList == s.toList) = false) : inB s l = false := by
  unfold inB; rw [List.any_eq_false]
  intro x hx
  obtain ⟨j, hj, rfl⟩ := List.getElem_of_mem hx
  rw [hno j hj]; simp
set_option maxHeartbeats 1000000 in
theorem rin_any (s : ByteArray) (xs : List ByteArray) (g cap : Nat) (w : World) (hx : ∀ i (h : i < xs.length), w.cell? ⟨g, i, none⟩ = some (.string xs[i])) (hl : xs.length ≤ 1000) :
    Calls Tryz.prog 92 #[.string s, .slice (some ⟨g, 0, none⟩) xs.length cap] w fun e w' => e = .returned (.bool (inB s xs)) ∧ w = w' := by
  have HX := Lib.hid hx
  clear hx
  go_enter Tryz.func92, Tryz.ntmps92
  go_wp2_with fail
  go_loop [5] (fun i => ∃ k : Nat, k ≤ xs.length ∧ i = .int .i64 k ∧ Hid (∀ j (h : j < k) (h' : j < xs.length), (xs[j].toList == s.toList) = false)) (fun i => xs.length - (intOf i).toNat)
  case atStart => exact ⟨0, Nat.zero_le _, rfl, Lib.hid (fun j h => by omega)⟩
  case round =>
    obtain ⟨k, hk, rfl, hno⟩ := hrel
    by_cases hlt : k < xs.length
    · have hc := HX.out k hlt
      have i1 : (k : Int) < (xs.length : Int) := by omega
      cases hy : (xs[k].toList == s.toList)
      · have hno' : Hid (∀ j (h : j < k + 1) (h' : j < xs.length), (xs[j].toList == s.toList) = false) := Lib.hid (fun j h h' => by
          rcases Nat.lt_succ_iff_lt_or_eq.1 h with h | rfl
          · exact hno.out j h h'
          · exact hy)
        go_wp2_with fail
        go_round
        case rel => exact ⟨k + 1, by omega, by go_num, hno'⟩
        case measure => simp [intOf]; omega
      · have hi := Lib.hid (inB_yes s xs k hlt hy)
        go_wp2_with fail
        go_ret
        exact ⟨by rw [hi.out]; rfl, rfl⟩
    · have hi := Lib.hid (inB_no s xs (fun j h => hno.out j (by omega) h))
      go_wp2_with fail
      go_ret
      exact ⟨by rw [hi.out]; rfl, rfl⟩
def kwsB : List ByteArray := kws.map fun l => ⟨l.toArray⟩
theorem inB_kws (s : ByteArray) : inB s kwsB = keywordB s := by
  unfold inB kwsB keywordB
  rw [List.any_map, List.contains_eq_any_beq]
  congr 1
  funext l
  simp only [Function.comp]
  rw [Go.ByteArray.toList_eq]
  exact Bool.beq_comm
set_option maxRecDepth 10000 in
set_option maxHeartbeats 1000000 in
theorem rkeyword_any (s : ByteArray) (w : World) :
    Calls Tryz.prog 49 #[.string s] w fun e w' => e = .returned (.bool (keywordB s)) ∧ w' = w.alloc (.cells (kwsB.map Value.string).toArray 9) := by
  have hx : ∀ i (h : i < kwsB.length), (w.alloc (.cells (kwsB.map Value.string).toArray 9)).cell? ⟨w.heap.size, i, none⟩ = some (.string kwsB[i]) := by
    intro i h
    have := (Blk.new w 9 (kwsB.map Value.string)).cell i
    rw [this, List.getElem?_map, List.getElem?_eq_getElem h]; rfl
  have HX := Lib.hid hx
  clear hx
  go_enter Tryz.func49, Tryz.ntmps49
  go_wp2_with fail
  refine (rin_any s kwsB w.heap.size 21 _ HX.out (by decide)).mono ?_
  rintro e w' ⟨rfl, rfl⟩
  rw [inB_kws]
  go_wp2_with fail
  go_ret
  exact ⟨rfl, rfl⟩
def KwW (w : World) : World := w.alloc (.cells (kwsB.map Value.string).toArray 9)
theorem rkw_t {s : ByteArray} {v : Bool} (h : keywordB s = v) (w : World) : Calls Tryz.prog 49 #[.string s] w fun e w' => e = .returned (.bool v) ∧ w' = KwW w := by
  rw [← h]; exact rkeyword_any s w
theorem KwW.kept (w : World) : Kept (fun _ => False) w (KwW w) := (Kept.refl _ _).alloc _
theorem head_in {s : ByteArray} (h : 0 < s.size) (hl : letterB (s[0].toNat) = true) : allW (s.data.toList.take 1) = true := by
  rw [take_snoc s 0 h, List.take_zero, List.nil_append]; simp [allW, inWordB, hl]
set_option maxRecDepth 10000 in
set_option maxHeartbeats 2000000 in
theorem rident_any (s : ByteArray) (w : World) (hs : s.size ≤ 9223372036854775807) :
    Calls Tryz.prog 19 #[.string s] w fun e w' => e = .returned (.bool (identB s)) ∧ Kept (fun _ => False) w w' := by
  by_cases h0 : 0 < s.size
  case neg =>
    have h1 : (s.size : Int) < 1 := by omega
    have hk := Lib.hid (show identB s = false by unfold identB; rw [decide_eq_false h0]; rfl)
    clear h0
    go_enter Tryz.func19, Tryz.ntmps19
    go_wp2_with fail
    go_ret
    exact ⟨by rw [hk.out]; rfl, Kept.refl _ _⟩
  have h1 : decide ((s.size : Int) < 1) = false := by simp; omega
  by_cases h16 : s.size ≤ 16
  case neg =>
    have hd : decide (16 < (s.size : Int)) = true := by simp; omega
    have hk := Lib.hid (show identB s = false by unfold identB; rw [decide_eq_false h16]; simp)
    clear h16
    go_enter Tryz.func19, Tryz.ntmps19
    go_wp2_with fail
    go_ret
    exact ⟨by rw [hk.out]; rfl, Kept.refl _ _⟩
  have hd : decide (16 < (s.size : Int)) = false := by simp; omega
  have hh := head_of s h0
  cases hl : letterB (s[0].toNat)
  case false =>
    have hk := Lib.hid (show identB s = false by unfold identB; rw [hh, hl]; simp)
    clear hh
    go_enter Tryz.func19, Tryz.ntmps19
    go_wp2_with (go_at_call 48; refine (rletter_any _ _).mono ?_; rintro e w' ⟨rfl, rfl⟩)
    go_ret
    exact ⟨by rw [hk.out]; rfl, Kept.refl _ _⟩
  cases hkw : keywordB s
  case true =>
    have hk := Lib.hid (show identB s = false by unfold identB; rw [hkw]; simp)
    have HK := Lib.hid hkw
    clear hh hkw
    go_enter Tryz.func19, Tryz.ntmps19
    go_wp2_with (go_at_call 48; refine (rletter_any _ _).mono ?_; rintro e w' ⟨rfl, rfl⟩)
    refine (rkw_t HK.out _).mono ?_
    rintro e w' ⟨rfl, rfl⟩
    go_wp2_with fail
    go_ret
    exact ⟨by rw [hk.out]; rfl, KwW.kept _⟩
  have hk := Lib.hid (show identB s = allW s.data.toList by unfold identB; rw [hh, hl, hkw, decide_eq_true h0, decide_eq_true h16]; simp)
  have HK := Lib.hid hkw
  have HI := Lib.hid (head_in h0 hl)
  clear hh hkw
  go_enter Tryz.func19, Tryz.ntmps19
  go_wp2_with (go_at_call 48; refine (rletter_any _ _).mono ?_; rintro e w' ⟨rfl, rfl⟩)
  refine (rkw_t HK.out _).mono ?_
  rintro e w' ⟨rfl, rfl⟩
  have kW := KwW.kept w
  generalize KwW w = w1 at *
  go_wp2_with fail
  go_loop [3] (fun i => ∃ k : Nat, k ≤ s.size ∧ i = .int .i64 k ∧ Hid (allW (s.data.toList.take k) = true)) (fun i => s.size - (intOf i).toNat)
  case atStart => exact ⟨1, by omega, rfl, HI⟩
  case round =>
    obtain ⟨k, hks, rfl, hall⟩ := hrel
    by_cases hlt : k < s.size
    · cases a1 : letterB s[k].toNat <;> cases a2 : digitB s[k].toNat <;> cases a3 : ((s[k].toNat : Int) == 95)
      case false.false.false =>
        have hf := Lib.hid (allW_false s k hlt (by unfold inWordB; rw [a1, a2, a3]; rfl))
        go_wp2_with (first | (go_at_call 48; refine (rletter_any _ _).mono ?_; rintro e w' ⟨rfl, rfl⟩) | (go_at_call 50; refine (rdigit_any _ _).mono ?_; rintro e w' ⟨rfl, rfl⟩))
        go_ret
        exact ⟨by rw [hk.out, hf.out]; rfl, kW⟩
      all_goals
        have hall' : Hid (allW (s.data.toList.take (k + 1)) = true) := Lib.hid (by rw [take_snoc s k hlt, allW_snoc, hall.out]; unfold inWordB; rw [a1, a2, a3]; rfl)
        go_wp2_with (first | (go_at_call 48; refine (rletter_any _ _).mono ?_; rintro e w' ⟨rfl, rfl⟩) | (go_at_call 50; refine (rdigit_any _ _).mono ?_; rintro e w' ⟨rfl, rfl⟩))
        go_round
        case rel => exact ⟨k + 1, by omega, by go_num, hall'⟩
        case measure => simp [intOf]; omega
    · have hf : Hid (allW s.data.toList = true) := by
        have h := hall.out
        rw [List.take_of_length_le (by simp; omega)] at h
        exact Lib.hid h
      go_wp2_with fail
      go_ret
      exact ⟨by rw [hk.out, hf.out]; rfl, kW⟩
theorem wend_all {s : ByteArray} (h : allW s.data.toList = true) (p : Nat) (hp : p ≤ s.size) : wend s p = s.size := by
  obtain ⟨h1, h2, h3, _⟩ := scan_spec inWordB s p hp
  by_cases hq : scan inWordB s p < s.size
  · have := allW_false s _ hq (h3 hq); rw [this] at h; cases h
  · unfold wend; omega
theorem letter_not_blank {c : Int} (h : letterB c = true) : blankB c = false := by
  unfold letterB at h; unfold blankB; simp at h ⊢; omega
structure Idn (s : ByteArray) : Prop where
  pos : 0 < s.size
  le : s.size ≤ 16
  letter : letterB (s[0]'pos).toNat = true
  key : keywordB s = false
  all : allW s.data.toList = true
theorem idn {s : ByteArray} (h : identB s = true) : Idn s := by
  unfold identB at h
  simp only [Bool.and_eq_true, decide_eq_true_eq, Bool.not_eq_true'] at h
  obtain ⟨⟨⟨⟨a, b⟩, c⟩, d⟩, e⟩ := h
  rw [head_of s a] at c
  exact ⟨a, b, c, d, e⟩
theorem extract_all (s : ByteArray) : s.extract 0 s.size = s := by
  apply ba_ext
  rw [ext_list, List.drop_zero, List.take_of_length_le (by simp)]
theorem tok_ident {s : ByteArray} (h : Idn s) : tokAt s 0 = some (s.size, 1, s, 0) := by
  have hw := wend_all h.all 0 (Nat.zero_le _)
  have ht : wordTo s 0 = s.size := by
    unfold wordTo
    rw [hw, extract_all, h.key, if_neg (by simp), dif_neg (by omega)]
  have := h.le
  unfold tokAt
  rw [dif_pos h.pos, if_pos h.letter, hw, if_neg (by omega), ht, extract_all]
theorem adv_ident {s : ByteArray} (h : Idn s) : advS s ps0 = .ok ⟨s.size, 1, s, 0, 0, 0⟩ := by
  have hs : skip s ps0.p = 0 := scan_no _ s 0 h.pos (letter_not_blank h.letter)
  unfold advS
  rw [hs, tok_ident h]
  rfl
theorem adv_last (s : ByteArray) (k n : Int) (tx : ByteArray) (ta nest : Nat) : advS s ⟨s.size, k, tx, n, ta, nest⟩ = .ok ⟨s.size, 0, nil0, 0, s.size, nest⟩ := by
  have hs : skip s s.size = s.size := scan_end _ s _ (Nat.le_refl _)
  have ht : tokAt s s.size = some (s.size, 0, ⟨#[]⟩, 0) := by unfold tokAt; rw [dif_neg (by omega)]
  unfold advS
  show (match tokAt s (skip s s.size) with | some t => _ | none => _) = _
  rw [hs, ht]
  rfl
theorem is_word {s t : ByteArray} (h : keywordB s = false) (σ : PS) (hk : σ.k = 1) (ht : σ.tx = s) : isS σ t = false := by
  unfold isS isB
  rw [hk, ht]
  cases he : (s.toList == t.toList)
  · simp
  · have : keywordB t = keywordB s := by unfold keywordB; rw [eq_of_beq he]
    rw [this, h]; simp
def nmT (s : ByteArray) : Tm := .mk 20 s 0 ty0 []
theorem nm_term {s : ByteArray} (h : Idn s) (d : Nat) : ∀ (n f : Nat), 1 ≤ n → n + d = 13 → d < f → termS f s n ⟨s.size, 1, s, 0, 0, 0⟩ = .ok (nmT s, ⟨s.size, 0, nil0, 0, s.size, 0⟩) := by
  have hE : AtEnd s ⟨s.size, 0, nil0, 0, s.size, 0⟩ := ⟨rfl, Nat.le_refl _, rfl⟩
  induction d with
  | zero =>
    intro n f _ hn hf
    obtain ⟨g, rfl⟩ : ∃ g, f = g + 1 := ⟨f - 1, by omega⟩
    obtain rfl : n = 13 := by omega
    rw [term13_eq, is_word h.key _ rfl rfl, if_neg (by simp)]
    have ha : atomS (termS g s) s ⟨s.size, 1, s, 0, 0, 0⟩ = .ok (nmT s, ⟨s.size, 0, nil0, 0, s.size, 0⟩) := by
      unfold atomS wordedS leafS
      simp only [h.key]
      rw [adv_last]
      rfl
    rw [ha]
    simp only [bT]
    rw [show s.size + 2 = (s.size + 1) + 1 by omega, after_eq, is_end hE, is_end hE, is_end hE]
    rfl
  | succ d ih =>
    intro n f h1 hn hf
    obtain ⟨g, rfl⟩ : ∃ g, f = g + 1 := ⟨f - 1, by omega⟩
    have hr := ih (n + 1) g (by omega) (by omega) (by omega)
    by_cases h5 : n = 5
    · subst h5
      rw [term5_eq, is_word h.key _ rfl rfl, if_neg (by simp), hr]
    · rw [termn_eq _ _ _ _ h5 (by omega), hr]
      simp only [bT]
      rw [show s.size + 2 = (s.size + 1) + 1 by omega, rest_eq, op_end hE, if_pos rfl]
theorem ba_at (s : ByteArray) (l : List UInt8) (hl : s.data.toList = l) (p : Nat) (h : p < s.size) (h' : p < l.length) : s[p] = l[p] := by
  subst hl
  show s.data[p] = _
  rw [Array.getElem_toList]
theorem trim_same {s : ByteArray} (h : ∀ hp : s.size - 1 < s.size, s[s.size - 1] ≠ 39) : trimQ s = s := by
  unfold trimQ Lib.trimSuffix
  rw [if_neg]
  intro hs
  unfold Lib.hasSuffix at hs
  obtain ⟨t, ht⟩ := List.isSuffixOf_iff_suffix.1 hs
  have hl : s.size = t.length + 1 := by rw [Lib.size_eq, ← ht]; simp
  have hp : s.size - 1 < s.size := by omega
  apply h hp
  rw [ba_at s _ ht.symm (s.size - 1) hp (by simp; omega), List.getElem_append_right (by omega)]
  simp
theorem last_ident {s : ByteArray} (h : Idn s) (hp : s.size - 1 < s.size) : s[s.size - 1] ≠ 39 := by
  intro e
  have := allW_false s _ hp (by rw [e]; decide)
  rw [h.all] at this; cases this
theorem formed_nm (s : ByteArray) (N : Int) (ty : Ty) (n : Nat) : formedB 20 s N ty n = true → namedB s = true := by
  unfold formedB nmOk
  rw [if_pos rfl]
  cases namedB s
  · simp
  · exact fun _ => rfl
theorem valid_named {t : Tm} (h : validB t = true) (ho : t.op = 20) : namedB t.name = true := by
  obtain ⟨op, nm, N, ty, l⟩ := t
  obtain rfl : op = 20 := ho
  unfold validB at h
  rw [fS] at h
  cases hf : formedB 20 nm N ty l.length
  · rw [hf, Bool.and_false] at h; cases h
  · exact formed_nm _ _ _ _ hf
theorem valid_nm {s : ByteArray} (h : namedB s = true) : validB (nmT s) = true := by
  have : formedB 20 s 0 ty0 ([] : List Tm).length = true := by
    unfold formedB nmOk; rw [if_pos rfl, h, show kidOk 20 ([] : List Tm).length = true by kernel_rfl, show nOk 20 0 = true by kernel_rfl, show tyOk 20 ty0 = true by kernel_rfl]; rfl
  unfold validB nmT
  rw [fS, this]
  rfl
/-- An identifier is read as the name. -/
theorem names_read {s : ByteArray} {f : Nat} (hf : 14 * (s.size + 2) < f) (h : identB s = true) : parseE f s = 0 ∧ parseT f s = nmT s := by
  have hi := idn h
  have hq : parseQ f s = .ok (nmT s, ⟨s.size, 0, nil0, 0, s.size, 0⟩) := by
    unfold parseQ wholeF
    rw [adv_ident hi]
    simp only [bP]
    rw [nm_term hi 12 1 f (by omega) rfl (by omega)]
    simp only [bT]
    rw [if_pos trivial]
  have hv : validB (nmT s) = true := valid_nm (by unfold namedB; rw [trim_same (last_ident hi)]; exact h)
  have hl := hi.le
  constructor
  · unfold parseE; rw [if_neg (by omega), hq]; simp only [hv]; rfl
  · unfold parseT; rw [if_neg (by omega), hq]; simp only [hv]; rfl
/-- A source that is read as a name that is the source, with no prime at its end, is an identifier. -/
theorem names_yes {s : ByteArray} {f : Nat} (he : parseE f s = 0) (ho : (parseT f s).op = 20) (hn : (parseT f s).name = s) (hl : ∀ hp : s.size - 1 < s.size, s[s.size - 1] ≠ 39) : identB s = true := by
  unfold parseE at he
  unfold parseT at ho hn
  by_cases hb : 65536 < s.size
  · rw [if_pos hb] at he; cases he
  · rw [if_neg hb] at he ho hn
    cases hq : parseQ f s with
    | error r => rw [hq] at he; simp only [] at he; split at he <;> cases he
    | ok q =>
      rw [hq] at he ho hn
      simp only [] at he ho hn
      cases hv : validB q.1
      · rw [hv] at he; cases he
      · rw [hv, if_pos rfl] at ho hn
        have := valid_named hv ho
        rw [hn] at this
        unfold namedB at this
        rwa [trim_same hl] at this
open Go.ChangeShapes Go.WideShapes Go.ChangeAt Go.RowKit
def nmF (s : ByteArray) : Nat := 14 * (s.size + 2) + 1
theorem toList_inj {a b : ByteArray} (h : a.toList = b.toList) : a = b := by
  rw [Go.ByteArray.toList_eq, Go.ByteArray.toList_eq] at h; exact ba_ext h
theorem u8_39 {c : UInt8} (h : (c.toNat : Int) = 39) : c = 39 := by
  apply UInt8.toNat_inj.1
  have : c.toNat = 39 := by omega
  rw [this]; rfl
/-- What the law's tests decide. -/
structure NmT (s : ByteArray) (b : Bool) (e1 : Int) (t1 : Tm) : Prop where
  yes : e1 = 0 → t1.op = 20 → t1.name = s → (∀ hp : s.size - 1 < s.size, s[s.size - 1] ≠ 39) → b = true
  no : b = true → e1 = 0 ∧ t1.op = 20 ∧ t1.name = s ∧ 0 < s.size ∧ ∀ hp : s.size - 1 < s.size, s[s.size - 1] ≠ 39
theorem NmT.mk' (s : ByteArray) : NmT s (identB s) (parseE (nmF s) s) (parseT (nmF s) s) := by
  refine ⟨names_yes, fun h => ?_⟩
  obtain ⟨h1, h2⟩ := names_read (f := nmF s) (by unfold nmF; omega) h
  rw [h2]
  exact ⟨h1, rfl, rfl, (idn h).pos, last_ident (idn h)⟩
theorem NmT.last {s : ByteArray} {b : Bool} {e1 : Int} {t1 : Tm} (h : NmT s b e1 t1) (h1 : e1 = 0) (h2 : t1.op = 20) (h3 : t1.name.toList = s.toList) (hp : s.size - 1 < s.size) : (((s[s.size - 1]'hp).toNat : Int) != 39) = b := by
  by_cases hl : s[s.size - 1]'hp = 39
  · cases b
    · rw [hl]; decide
    · exact absurd hl ((h.no rfl).2.2.2.2 hp)
  · rw [h.yes h1 h2 (toList_inj h3) (fun _ => hl)]
    rw [bne_iff_ne]
    exact fun e => hl (u8_39 e)
theorem NmT.off {s : ByteArray} {b : Bool} {e1 : Int} {t1 : Tm} (h : NmT s b e1 t1) (h' : ¬ (e1 = 0 ∧ t1.op = 20 ∧ t1.name.toList = s.toList ∧ 0 < s.size)) : b = false := by
  cases b
  · rfl
  · obtain ⟨a1, a2, a3, a4, _⟩ := h.no rfl
    exact absurd ⟨a1, a2, by rw [a3], a4⟩ h'
set_option maxRecDepth 100000 in
set_option maxHeartbeats 8000000 in
theorem nm_any (s : ByteArray) (w : World) (hgl : Gl w) (hs : s.size ≤ 140737488355328) : Calls Tryz.prog 5 #[.string s] w (EsOk w) := by
  have HP := Lib.hid (parse_any (f := nmF s) (s := s) (w := w) (by unfold nmF; omega) (by omega) hgl)
  have HGL := Lib.hid hgl
  have HI : Hid (∀ W : World, Calls Tryz.prog 18 #[.string s] W fun e w' => e = .returned (.bool (identB s)) ∧ W = w') := Lib.hid (fun W => ident_any s W (by omega))
  have HR : Hid (∀ W : World, Calls Tryz.prog 19 #[.string s] W fun e w' => e = .returned (.bool (identB s)) ∧ Kept (fun _ => False) W w') := Lib.hid (fun W => rident_any s W (by omega))
  have HN := Lib.hid (NmT.mk' s)
  generalize identB s = b at *
  clear hgl
  go_enter Tryz.func5, Tryz.ntmps5
  go_wp2_with fail
  refine HP.out.mono ?_
  rintro e w1 ⟨tv, rfl, ⟨tk, kk, rfl, hty, htm⟩, k1⟩
  obtain ⟨ta, tn, tc, rfl⟩ := hty.slice
  obtain ⟨ma, mn, mc, rfl⟩ := htm.slice
  clear hty htm HP
  unfold tmVal
  generalize parseT (nmF s) s = t1 at *
  generalize parseE (nmF s) s = e1 at *
  generalize parseA (nmF s) s = a1 at *
  go_wp2_with fail
  · have hp : s.size - 1 < s.size := by omega
    rw [HN.out.last (by assumption) (by assumption) (by assumption) hp]
    refine (HI.out _).mono ?_
    rintro e w' ⟨rfl, rfl⟩
    go_wp2_with fail
    refine (HR.out _).mono ?_
    rintro e w3 ⟨rfl, k3⟩
    have K3 := (k1.alloc _).trans k3
    clear k3
    cases b
    all_goals
      go_wp2_with fail
      refine (HI.out _).mono ?_
      rintro e w' ⟨rfl, rfl⟩
      go_wp2_with fail
      refine (awake_any _ (HGL.out.kept K3 (fun h => h) (fun h => h))).mono ?_
      rintro e w4 ⟨rfl, k4⟩
      go_wp2_with fail
      go_ret
      exact ⟨rfl, K3.trans k4⟩
  all_goals
    obtain rfl := HN.out.off (fun h => by obtain ⟨a1, a2, a3, a4⟩ := h; contradiction)
    refine (HI.out _).mono ?_
    rintro e w' ⟨rfl, rfl⟩
    go_wp2_with fail
    refine (HR.out _).mono ?_
    rintro e w3 ⟨rfl, k3⟩
    have K3 := (k1.alloc _).trans k3
    clear k3
    go_wp2_with fail
    refine (HI.out _).mono ?_
    rintro e w' ⟨rfl, rfl⟩
    go_wp2_with fail
    refine (awake_any _ (HGL.out.kept K3 (fun h => h) (fun h => h))).mono ?_
    rintro e w4 ⟨rfl, k4⟩
    go_wp2_with fail
    go_ret
    exact ⟨rfl, K3.trans k4⟩
set_option maxRecDepth 100000 in
theorem nm_contract (H : Type) (enc : TypeId × Value → H) (W : World) (base : Nat) (args : Array Value) (ds gs : List (DataW H)) (before : List MemPlace)
    (hval : ∀ (j : Nat) t v, Tryz.f5.params[j]? = some t → args[j]? = some v → Value.okWide Tryz.prog W .any base t v)
    (hW : DataW.Whole enc Tryz.prog Tryz.f5.params.toList Rows.termNamesSpec.vars false W args.toList ds gs before)
    (hwt : (DataW.weightsEach Tryz.prog (Tryz.f5.params.toList ++ (OpenSpec.ofChange Rows.termNamesSpec).bare.plain.varTypes Tryz.prog) (ds ++ gs)).all (· ≤ reachBytes) = true) (hL : laidMetH Tryz.prog Rows.termNamesRow.laid W) :
    Calls Tryz.prog 5 args W fun e W' => ∃ v, e = .returned v ∧ Rows.termNamesSpec.post enc Tryz.prog Tryz.f5 false true false false W args v W' := by
  have hW' := hW
  obtain ⟨p, q, hA0, hV, rfl, hfz, hnd⟩ := hW
  have hA : DataW.TrodAll enc Tryz.prog W 0 (fun _ => true) true Tryz.f5.params.toList args.toList ds p := hA0
  rw [Tryz.params5] at hA hval hwt
  obtain ⟨v0, d0, rfl, rfl, h0⟩ := trodAll_one hA
  obtain ⟨rfl, rfl⟩ := trodVars_none hV
  obtain ⟨s, rfl, rfl, rfl, hs⟩ := ChangeMaps.open_string Tryz.underlying9 (hval 0 9 v0 rfl rfl) h0
  clear hA0
  have hz : s.size ≤ 140737488351232 := by
    simp only [List.append_nil, DataW.weightsEach, DataW.weights, List.all_cons, List.all_nil, Bool.and_true, Bool.and_eq_true, decide_eq_true_eq, List.cons_append, List.nil_append, ba_len, reachBytes] at hwt
    first | exact of_decide_eq_true hwt | exact of_decide_eq_true hwt.1 | exact hwt
  refine (nm_any s W (gl_of_laid hL) (by omega)).mono fun e W' hE => ?_
  obtain ⟨rfl, hk⟩ := hE
  have e1 : Rows.termNamesSpec.fn H ([.lit (.string s.data.toList)] ++ []) = { results := [.lit (.bool true)], args := [.lit (.string s.data.toList)] } := by simp [Rows.termNamesSpec]
  refine ⟨_, rfl, _, _, _, [], [], [], hW', ?_, ?_, ?_, keptBut_of_kept hk _, fun h => by cases h⟩
  · rw [e1]; exact trodAll_mk1 (shut_bool Tryz.underlying4 true)
  · rw [e1]; exact trodAll_mk1 (ChangeMaps.shut_string Tryz.underlying9 hs)
  · rw [e1]; rfl
set_option maxRecDepth 100000 in
theorem nm_laid (os : Os) : laidMet Tryz.prog Rows.termNamesRow.laid ((laidWorld os).forCall (fun _ _ => 0) ⟨#[], #[.string ⟨#[]⟩], []⟩).memory :=
  laidMet_of_run3 8 (by kernel_rfl) (by kernel_rfl) (by kernel_rfl)
theorem nm_reads (os : Os) {H : Type} (enc : TypeId × Value → H) : ∃ places, DataW.whole enc Tryz.prog ((laidWorld os).forCall (fun _ _ => 0) ⟨#[], #[.string ⟨#[]⟩], []⟩).memory Tryz.f5.params.toList Rows.termNamesSpec.vars false #[Value.string ⟨#[]⟩].toList 8 = some ([.lit (.string [])], [], places) :=
  ⟨[], by kernel_rfl⟩
set_option maxRecDepth 100000 in
theorem nm_lifted (os : Os) (started : os.Started) (H : Type) (enc : TypeId × Value → H) (F : Stop.Interp) :
    ReturnsInHanded {} Tryz.checked os 5 .any ((OpenSpec.ofChange Rows.termNamesSpec).preRow enc Tryz.prog Tryz.f5 Rows.termNamesRow.domain false Rows.termNamesRow.laid) (((OpenSpec.ofChange Rows.termNamesSpec).at F).post enc Tryz.prog Tryz.f5 false true false false) := by
  obtain ⟨places, hx⟩ := nm_reads os enc
  refine returnsInHanded_of_row (C := Tryz.checked) (s := OpenSpec.ofChange Rows.termNamesSpec) own0 started (by kernel_rfl) Tryz.func5
    (witness_row_at (enc := enc) (C := Tryz.checked) false (laidWorld os) #[.string ⟨#[]⟩] rfl (by kernel_rfl) (by kernel_rfl) (by kernel_rfl)
      (OpenSpec.preRow_of_cond 8 hx (by kernel_rfl) (fun k hk => by cases hk) (by kernel_rfl) (nm_laid os))) ?_
  intro W base args ds gs before hval hW _ _ hwt hL _ _
  exact nm_contract H enc W base args ds gs before hval hW hwt hL
theorem nm_said : Rows.TermNamesSaid :=
  OpenClaim.holds_of_cond 5 Tryz.f5 rfl rfl rfl rfl rfl rfl rfl ⟨rfl, rfl, rfl, rfl, rfl⟩ rfl rfl rfl rfl rfl (by kernel_rfl) Tryz.func5 (by kernel_rfl)
    (of_decide_eq_true (by kernel_rfl)) (by unfold Func.isWrapper; first | (rw [if_pos (by decide +kernel)]; kernel_rfl) | (rw [if_neg (by decide +kernel)]; exact ⟨rfl, rfl⟩))
    (fun os started H enc _ F => by rw [OpenClaim.pre_eq_preRow]; exact nm_lifted os started H enc F)
theorem nm_plain (f : FuncId) (fn : Func) (hf : Tryz.pinned.checked.prog.funcNamed "refinement/refinementlaw01.TermNames" = some f) (hfn : Tryz.pinned.checked.prog.funcs[f]? = some fn) :
    true = Tryz.pinned.checked.prog.looks [] ∧ ∀ (j : Nat) t, fn.params[j]? = some t → Tryz.pinned.checked.prog.wantsStandIn t = false := by
  obtain rfl : f = 5 := Option.some.inj ((show Tryz.prog.funcNamed "refinement/refinementlaw01.TermNames" = some 5 by kernel_rfl).symm.trans hf) |>.symm
  obtain rfl : fn = Tryz.f5 := (Option.some.inj (Tryz.func5.symm.trans hfn)).symm
  refine ⟨by kernel_rfl, fun j t ht => ?_⟩
  rw [Tryz.params5] at ht
  obtain rfl : t = 9 := by
    have := Array.mem_of_getElem? ht
    simpa using this
  exact (show Tryz.prog.wantsStandIn 9 = false by kernel_rfl)
theorem termNames_card : Rows.TermNamesCardSaid :=
  Claim7.holds_tied_plain_at .later [] _ _ _ _ nm_said (fun _ h => by cases h) (by kernel_rfl) (fun _ h => by cases h) termNames_row_tie rfl ⟨rfl, rfl⟩ (by kernel_rfl) rfl nm_plain (by kernel_rfl)
#print axioms termNames_card
end Go.Proofs.YtckjlliobebodaaGreatDoor
