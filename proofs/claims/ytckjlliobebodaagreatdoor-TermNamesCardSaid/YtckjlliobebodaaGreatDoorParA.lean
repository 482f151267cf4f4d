/- The parser's small methods: is, eat, fail, want, open, shut, name: what each does to the parser's block. -/
import Derived.Test.YtckjlliobebodaaGreatDoorAdv
namespace Go.Proofs.YtckjlliobebodaaGreatDoor
open Go.RowKit
structure PS where
  p : Nat
  k : Int
  tx : ByteArray
  n : Int
  ta : Nat
  nest : Nat
def PAt (w : World) (b : Nat) (s : ByteArray) (σ : PS) : Prop := Blk w b 86 (pcells s σ.p σ.k σ.tx σ.n σ.ta σ.nest)
/-- A parser that lies in memory, over a source that is not too long. -/
structure PW (w : World) (b : Nat) (s : ByteArray) (σ : PS) : Prop where
  blk : PAt w b s σ
  le : σ.p ≤ s.size
  tx : σ.tx.size ≤ 65536
  src : s.size ≤ 65536
  two : 2 ≤ b
  gl : Gl w
  nest : σ.nest ≤ 64
def pan (d : Bool) (pos : Nat) : PanicEntry := { v := .iface (if d then 82 else 81) (.agg #[.int .i64 pos]), recovered := false }
abbrev ER := Bool × Nat
def advS (s : ByteArray) (σ : PS) : Except ER PS :=
  match tokAt s (skip s σ.p) with
  | some t => .ok ⟨t.1, t.2.1, t.2.2.1, t.2.2.2, skip s σ.p, σ.nest⟩
  | none => .error (false, skip s σ.p)
theorem extract_le (s : ByteArray) (a c : Nat) : (s.extract a c).size ≤ s.size := by rw [ByteArray.size_extract]; omega
theorem skip_le (s : ByteArray) (p : Nat) (h : p ≤ s.size) : skip s p ≤ s.size := (scan_spec _ s p h).2.1
theorem wordTo_le (s : ByteArray) (fr : Nat) (h : fr ≤ s.size) : wordTo s fr ≤ s.size := by
  have := (scan_spec inWordB s fr h).2.1
  unfold wordTo
  split
  · exact this
  · split
    · split
      · rename_i h _; exact h
      · exact this
    · exact this
theorem sign_le (s : ByteArray) (fr : Nat) (h : fr ≤ s.size) (hi : ¬ sIdx (s.data.toList.drop fr) signs < 0) : fr + (signs.getD (sIdx (s.data.toList.drop fr) signs).toNat ⟨#[]⟩).size ≤ s.size := by
  rcases sIdx_cases (s.data.toList.drop fr) signs with h1 | ⟨j, hj, h1, hp⟩
  · rw [h1] at hi; exact absurd (by decide) hi
  · rw [h1, Int.toNat_natCast, List.getD_eq_getElem?_getD, List.getElem?_eq_getElem hj]
    exact pre_len s signs[j] fr h hp
theorem tokAt_le {s : ByteArray} {fr : Nat} {t : Nat × Int × ByteArray × Int} (h : fr ≤ s.size) (ht : tokAt s fr = some t) : t.1 ≤ s.size ∧ t.2.2.1.size ≤ s.size := by
  unfold tokAt at ht
  split at ht
  · split at ht
    · split at ht
      · cases ht
      · cases ht; exact ⟨wordTo_le s fr h, extract_le _ _ _⟩
    · split at ht
      · cases hn : numTok (s.extract fr (wend s fr)) with
        | none => rw [hn] at ht; cases ht
        | some v => rw [hn] at ht; cases ht; exact ⟨(scan_spec inWordB s fr h).2.1, Nat.zero_le _⟩
      · split at ht
        · cases ht
        · rename_i hi; cases ht; exact ⟨sign_le s fr h hi, extract_le _ _ _⟩
  · cases ht; exact ⟨h, Nat.zero_le _⟩
theorem adv_ok {w : World} {b : Nat} {s : ByteArray} {σ σ' : PS} (h : PW w b s σ) (ha : advS s σ = .ok σ') :
    Calls Tryz.prog 63 #[.pointer (some ⟨b, 0, none⟩)] w fun e w' => e = .returned (.tuple #[]) ∧ PW w' b s σ' ∧ Kept (· = b) w w' := by
  refine (adv_any b s σ.p σ.ta σ.nest σ.k σ.n σ.tx w h.src h.le h.blk h.two h.gl).mono ?_
  intro e w' hp
  unfold AdvPost at hp
  unfold advS at ha
  cases ht : tokAt s (skip s σ.p) with
  | none => rw [ht] at ha; cases ha
  | some t =>
    rw [ht] at ha hp
    cases ha
    obtain ⟨he, hb, hk⟩ := hp
    have := tokAt_le (skip_le s σ.p h.le) ht
    exact ⟨he, ⟨hb, this.1, Nat.le_trans this.2 h.src, h.src, h.two, h.gl.kept hk (by have := h.two; omega) (by have := h.two; omega), h.nest⟩, hk⟩
theorem adv_err {w : World} {b : Nat} {s : ByteArray} {σ : PS} {r : ER} (h : PW w b s σ) (ha : advS s σ = .error r) :
    Calls Tryz.prog 63 #[.pointer (some ⟨b, 0, none⟩)] w fun e w' => e = .panicked [pan r.1 r.2] ∧ Kept (· = b) w w' := by
  refine (adv_any b s σ.p σ.ta σ.nest σ.k σ.n σ.tx w h.src h.le h.blk h.two h.gl).mono ?_
  intro e w' hp
  unfold AdvPost at hp
  unfold advS at ha
  cases ht : tokAt s (skip s σ.p) with
  | some t => rw [ht] at ha; cases ha
  | none => rw [ht] at ha hp; cases ha; exact hp
def isB (k : Int) (tx t : ByteArray) : Bool := (k == 3 && tx.toList == t.toList) || (k == 1 && tx.toList == t.toList && keywordB t)
def isS (σ : PS) (t : ByteArray) : Bool := isB σ.k σ.tx t
theorem PW.kd {w : World} {b : Nat} {s : ByteArray} {σ : PS} (h : PW w b s σ) : w.cell? ⟨b, 2, none⟩ = some (.int .i64 σ.k) := h.blk.cell 2
theorem PW.txt {w : World} {b : Nat} {s : ByteArray} {σ : PS} (h : PW w b s σ) : w.cell? ⟨b, 3, none⟩ = some (.string σ.tx) := h.blk.cell 3
theorem PW.num {w : World} {b : Nat} {s : ByteArray} {σ : PS} (h : PW w b s σ) : w.cell? ⟨b, 4, none⟩ = some (.int .i64 σ.n) := h.blk.cell 4
theorem PW.tat {w : World} {b : Nat} {s : ByteArray} {σ : PS} (h : PW w b s σ) : w.cell? ⟨b, 5, none⟩ = some (.int .i64 σ.ta) := h.blk.cell 5
theorem PW.nst {w : World} {b : Nat} {s : ByteArray} {σ : PS} (h : PW w b s σ) : w.cell? ⟨b, 6, none⟩ = some (.int .i64 σ.nest) := h.blk.cell 6
theorem PW.nfr {w : World} {b : Nat} {s : ByteArray} {σ : PS} (h : PW w b s σ) : w.frozen? ⟨b, 6, none⟩ = false := h.blk.frozen 6
theorem PW.lt {w : World} {b : Nat} {s : ByteArray} {σ : PS} (h : PW w b s σ) : b < w.heap.size := Blk.lt h.blk
set_option maxHeartbeats 1000000 in
theorem is_any {w : World} {b : Nat} {s : ByteArray} {σ : PS} (h : PW w b s σ) (t : ByteArray) {v : Bool} (hv : isS σ t = v) :
    Calls Tryz.prog 116 #[.pointer (some ⟨b, 0, none⟩), .string t] w fun e w' => e = .returned (.bool v) ∧ w = w' := by
  have h2 := h.kd
  have h3 := h.txt
  unfold isS isB at hv
  generalize σ.k = k at *
  generalize σ.tx = tx at *
  cases hk3 : (k == 3) <;> cases hk1 : (k == 1) <;> cases ht : (tx.toList == t.toList)
  all_goals
    rw [hk3, hk1, ht] at hv
    have HV := Lib.hid hv
    clear hv
    go_enter Tryz.func116, Tryz.ntmps116
    go_wp2_with (go_at_call 46; refine (keyword_any _ _).mono ?_; rintro e w' ⟨rfl, rfl⟩)
    go_ret
    exact ⟨by rw [← HV.out]; simp, rfl⟩
set_option maxHeartbeats 1000000 in
theorem fail_any {w : World} {b : Nat} {s : ByteArray} {σ : PS} (h : PW w b s σ) :
    Calls Tryz.prog 64 #[.pointer (some ⟨b, 0, none⟩)] w fun e w' => e = .panicked [pan false σ.ta] ∧ w = w' := by
  have h5 := h.tat
  go_enter Tryz.func64, Tryz.ntmps64
  go_wp2_with fail
  exact ⟨rfl, rfl, rfl⟩
def eatS (s : ByteArray) (σ : PS) (t : ByteArray) : Except ER (Bool × PS) :=
  if isS σ t then match advS s σ with | .ok σ' => .ok (true, σ') | .error r => .error r else .ok (false, σ)
set_option maxHeartbeats 1000000 in
theorem eat_ok {w : World} {b : Nat} {s : ByteArray} {σ σ' : PS} (h : PW w b s σ) (t : ByteArray) {v : Bool} (hv : eatS s σ t = .ok (v, σ')) :
    Calls Tryz.prog 65 #[.pointer (some ⟨b, 0, none⟩), .string t] w fun e w' => e = .returned (.bool v) ∧ PW w' b s σ' ∧ Kept (· = b) w w' := by
  unfold eatS at hv
  cases hi : isS σ t
  · rw [hi] at hv; cases hv
    go_enter Tryz.func65, Tryz.ntmps65
    go_wp2_with (go_at_call 116; refine (is_any h t hi).mono ?_; rintro e w' ⟨rfl, rfl⟩)
    go_ret
    exact ⟨rfl, h, Kept.refl _ _⟩
  · rw [hi, if_pos rfl] at hv
    cases ha : advS s σ with
    | error r => rw [ha] at hv; cases hv
    | ok σ1 =>
      rw [ha] at hv; cases hv
      go_enter Tryz.func65, Tryz.ntmps65
      go_wp2_with (first | (go_at_call 116; refine (is_any h t hi).mono ?_; rintro e w' ⟨rfl, rfl⟩) | (go_at_call 63; refine (adv_ok h ha).mono ?_; rintro e w' ⟨rfl, hp', hk'⟩))
      go_ret
      exact ⟨rfl, hp', hk'⟩
set_option maxHeartbeats 1000000 in
theorem eat_err {w : World} {b : Nat} {s : ByteArray} {σ : PS} {r : ER} (h : PW w b s σ) (t : ByteArray) (hv : eatS s σ t = .error r) :
    Calls Tryz.prog 65 #[.pointer (some ⟨b, 0, none⟩), .string t] w fun e w' => e = .panicked [pan r.1 r.2] ∧ Kept (· = b) w w' := by
  unfold eatS at hv
  cases hi : isS σ t
  · rw [hi] at hv; cases hv
  · rw [hi, if_pos rfl] at hv
    cases ha : advS s σ with
    | ok r => rw [ha] at hv; cases hv
    | error r1 =>
      rw [ha] at hv; cases hv
      go_enter Tryz.func65, Tryz.ntmps65
      go_wp2_with (first | (go_at_call 116; refine (is_any h t hi).mono ?_; rintro e w' ⟨rfl, rfl⟩) | (go_at_call 63; refine (adv_err h ha).mono ?_; rintro e w' ⟨rfl, hk'⟩))
      exact ⟨rfl, rfl, hk'⟩
end Go.Proofs.YtckjlliobebodaaGreatDoor
