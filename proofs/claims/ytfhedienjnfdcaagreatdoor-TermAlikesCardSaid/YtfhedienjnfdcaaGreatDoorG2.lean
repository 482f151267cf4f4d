/- Texts ParA ParB Rd Rep Levels Typed Ops Spec of this proof, in one. -/
import Derived.Test.YtfhedienjnfdcaaGreatDoorG1
import Derived.Recover
import Derived.Deep.MidRow
set_option linter.unusedVariables false
set_option linter.unusedSimpArgs false
set_option maxRecDepth 100000
set_option maxHeartbeats 32000000
namespace Go.Proofs.YtfhedienjnfdcaaGreatDoor
open Go.RowKit
structure PS where
 p : Nat
 k : Int
 tx : ByteArray
 n : Int
 ta : Nat
 nest : Nat
def PAt (w : World) (b : Nat) (s : ByteArray) (σ : PS) : Prop := Blk w b 153 (pcells s σ.p σ.k σ.tx σ.n σ.ta σ.nest)
structure PW (w : World) (b : Nat) (s : ByteArray) (σ : PS) : Prop where
 blk : PAt w b s σ
 le : σ.p ≤ s.size
 tx : σ.tx.size ≤ 65536
 src : s.size ≤ 65536
 two : 4 ≤ b
 gl : Gl w
 nest : σ.nest ≤ 64
def pan (d : Bool) (pos : Nat) : PanicEntry := { v := .iface (if d then 149 else 148) (.agg #[.int .i64 pos]), recovered := false }
abbrev ER := Bool × Nat
def advS (s : ByteArray) (σ : PS) : Except ER PS :=
 match tokAt s (skip s σ.p) with
 | some t => .ok ⟨t.1, t.2.1, t.2.2.1, t.2.2.2, skip s σ.p, σ.nest⟩
 | none => .error (false, skip s σ.p)
theorem extract_le (s : ByteArray) (a c : Nat) : (s.extract a c).size ≤ s.size := by rw [ByteArray.size_extract]; omega
theorem skip_le (s : ByteArray) (p : Nat) (h : p ≤ s.size) : skip s p ≤ s.size := (scan_spec _ s p h).2.1
theorem wordTo_le (s : ByteArray) (fr : Nat) (h : fr ≤ s.size) : wordTo s fr ≤ s.size := by
 have := (scan_spec inWordB s fr h).2.1
 unfold wordTo
 split
 ·exact this
 ·split
  ·split
   ·rename_i h _; exact h
   ·exact this
  ·exact this
theorem sign_le (s : ByteArray) (fr : Nat) (h : fr ≤ s.size) (hi : ¬ sIdx (s.data.toList.drop fr) signs < 0) : fr + (signs.getD (sIdx (s.data.toList.drop fr) signs).toNat ⟨#[]⟩).size ≤ s.size := by
 rcases sIdx_cases (s.data.toList.drop fr) signs with h1 | ⟨j, hj, h1, hp⟩
 ·rw [h1] at hi; exact absurd (by decide) hi
 ·rw [h1, Int.toNat_natCast, List.getD_eq_getElem?_getD, List.getElem?_eq_getElem hj]
  exact pre_len s signs[j] fr h hp
theorem tokAt_le {s : ByteArray} {fr : Nat} {t : Nat × Int × ByteArray × Int} (h : fr ≤ s.size) (ht : tokAt s fr = some t) : t.1 ≤ s.size ∧ t.2.2.1.size ≤ s.size := by
 unfold tokAt at ht
 split at ht
 ·split at ht
  ·split at ht
   ·cases ht
   ·cases ht; exact ⟨wordTo_le s fr h, extract_le _ _ _⟩
  ·split at ht
   ·cases hn : numTok (s.extract fr (wend s fr)) with
    | none => rw [hn] at ht; cases ht
    | some v => rw [hn] at ht; cases ht; exact ⟨(scan_spec inWordB s fr h).2.1, Nat.zero_le _⟩
   ·split at ht
    ·cases ht
    ·rename_i hi; cases ht; exact ⟨sign_le s fr h hi, extract_le _ _ _⟩
 ·cases ht; exact ⟨h, Nat.zero_le _⟩
theorem adv_ok {w : World} {b : Nat} {s : ByteArray} {σ σ' : PS} (h : PW w b s σ) (ha : advS s σ = .ok σ') :
  Calls Tryz.prog 146 #[.pointer (some ⟨b, 0, none⟩)] w fun e w' => e = .returned (.tuple #[]) ∧ PW w' b s σ' ∧ Kept (· = b) w w' := by
 refine (adv_any b s σ.p σ.ta σ.nest σ.k σ.n σ.tx w h.src h.le h.blk h.two h.gl).mono ?_
 intro e w' hp
 unfold AdvPost at hp
 unfold advS at ha
 cases ht : tokAt s (skip s σ.p) with
 | none => rw [ht] at ha; cases ha
 | some t =>
  rw [ht] at ha hp
  cases ha
  obtain ⟨he, hb, hk⟩ := hp
  have := tokAt_le (skip_le s σ.p h.le) ht
  exact ⟨he, ⟨hb, this.1, Nat.le_trans this.2 h.src, h.src, h.two, h.gl.kept hk (by have := h.two; omega) (by have := h.two; omega), h.nest⟩, hk⟩
theorem adv_err {w : World} {b : Nat} {s : ByteArray} {σ : PS} {r : ER} (h : PW w b s σ) (ha : advS s σ = .error r) :
  Calls Tryz.prog 146 #[.pointer (some ⟨b, 0, none⟩)] w fun e w' => e = .panicked [pan r.1 r.2] ∧ Kept (· = b) w w' := by
 refine (adv_any b s σ.p σ.ta σ.nest σ.k σ.n σ.tx w h.src h.le h.blk h.two h.gl).mono ?_
 intro e w' hp
 unfold AdvPost at hp
 unfold advS at ha
 cases ht : tokAt s (skip s σ.p) with
 | some t => rw [ht] at ha; cases ha
 | none => rw [ht] at ha hp; cases ha; exact hp
def isB (k : Int) (tx t : ByteArray) : Bool := (k == 3 && tx.toList == t.toList) || (k == 1 && tx.toList == t.toList && keywordB t)
def isS (σ : PS) (t : ByteArray) : Bool := isB σ.k σ.tx t
theorem PW.kd {w : World} {b : Nat} {s : ByteArray} {σ : PS} (h : PW w b s σ) : w.cell? ⟨b, 2, none⟩ = some (.int .i64 σ.k) := h.blk.cell 2
theorem PW.txt {w : World} {b : Nat} {s : ByteArray} {σ : PS} (h : PW w b s σ) : w.cell? ⟨b, 3, none⟩ = some (.string σ.tx) := h.blk.cell 3
theorem PW.num {w : World} {b : Nat} {s : ByteArray} {σ : PS} (h : PW w b s σ) : w.cell? ⟨b, 4, none⟩ = some (.int .i64 σ.n) := h.blk.cell 4
theorem PW.tat {w : World} {b : Nat} {s : ByteArray} {σ : PS} (h : PW w b s σ) : w.cell? ⟨b, 5, none⟩ = some (.int .i64 σ.ta) := h.blk.cell 5
theorem PW.nst {w : World} {b : Nat} {s : ByteArray} {σ : PS} (h : PW w b s σ) : w.cell? ⟨b, 6, none⟩ = some (.int .i64 σ.nest) := h.blk.cell 6
theorem PW.nfr {w : World} {b : Nat} {s : ByteArray} {σ : PS} (h : PW w b s σ) : w.frozen? ⟨b, 6, none⟩ = false := h.blk.frozen 6
theorem PW.lt {w : World} {b : Nat} {s : ByteArray} {σ : PS} (h : PW w b s σ) : b < w.heap.size := Blk.lt h.blk
theorem is_any {w : World} {b : Nat} {s : ByteArray} {σ : PS} (h : PW w b s σ) (t : ByteArray) {v : Bool} (hv : isS σ t = v) :
  Calls Tryz.prog 195 #[.pointer (some ⟨b, 0, none⟩), .string t] w fun e w' => e = .returned (.bool v) ∧ w = w' := by
 have h2 := h.kd
 have h3 := h.txt
 unfold isS isB at hv
 generalize σ.k = k at *
 generalize σ.tx = tx at *
 cases hk3 : (k == 3) <;> cases hk1 : (k == 1) <;> cases ht : (tx.toList == t.toList)
 all_goals
  rw [hk3, hk1, ht] at hv
  have HV := Ld hv
  clear hv
  go_enter Tryz.func195, Tryz.ntmps195
  go_wp2_with (go_at_call 101; refine (keyword_any _ _).mono ?_; rintro e w' ⟨rfl, rfl⟩)
  go_ret
  exact ⟨by rw [← HV.out]; simp, rfl⟩
theorem fail_any {w : World} {b : Nat} {s : ByteArray} {σ : PS} (h : PW w b s σ) :
  Calls Tryz.prog 147 #[.pointer (some ⟨b, 0, none⟩)] w fun e w' => e = .panicked [pan false σ.ta] ∧ w = w' := by
 have h5 := h.tat
 go_enter Tryz.func147, Tryz.ntmps147
 go_wp2_with fail
 exact ⟨rfl, rfl, rfl⟩
def eatS (s : ByteArray) (σ : PS) (t : ByteArray) : Except ER (Bool × PS) :=
 if isS σ t then match advS s σ with | .ok σ' => .ok (true, σ') | .error r => .error r else .ok (false, σ)
theorem eat_ok {w : World} {b : Nat} {s : ByteArray} {σ σ' : PS} (h : PW w b s σ) (t : ByteArray) {v : Bool} (hv : eatS s σ t = .ok (v, σ')) :
  Calls Tryz.prog 148 #[.pointer (some ⟨b, 0, none⟩), .string t] w fun e w' => e = .returned (.bool v) ∧ PW w' b s σ' ∧ Kept (· = b) w w' := by
 unfold eatS at hv
 cases hi : isS σ t
 ·rw [hi] at hv; cases hv
  go_enter Tryz.func148, Tryz.ntmps148
  go_wp2_with (go_at_call 195; refine (is_any h t hi).mono ?_; rintro e w' ⟨rfl, rfl⟩)
  go_ret
  exact ⟨rfl, h, Kept.refl _ _⟩
 ·rw [hi, if_pos rfl] at hv
  cases ha : advS s σ with
  | error r => rw [ha] at hv; cases hv
  | ok σ1 =>
   rw [ha] at hv; cases hv
   go_enter Tryz.func148, Tryz.ntmps148
   go_wp2_with (first | (go_at_call 195; refine (is_any h t hi).mono ?_; rintro e w' ⟨rfl, rfl⟩) | (go_at_call 146; refine (adv_ok h ha).mono ?_; rintro e w' ⟨rfl, hp', hk'⟩))
   go_ret
   exact ⟨rfl, hp', hk'⟩
theorem eat_err {w : World} {b : Nat} {s : ByteArray} {σ : PS} {r : ER} (h : PW w b s σ) (t : ByteArray) (hv : eatS s σ t = .error r) :
  Calls Tryz.prog 148 #[.pointer (some ⟨b, 0, none⟩), .string t] w fun e w' => e = .panicked [pan r.1 r.2] ∧ Kept (· = b) w w' := by
 unfold eatS at hv
 cases hi : isS σ t
 ·rw [hi] at hv; cases hv
 ·rw [hi, if_pos rfl] at hv
  cases ha : advS s σ with
  | ok r => rw [ha] at hv; cases hv
  | error r1 =>
   rw [ha] at hv; cases hv
   go_enter Tryz.func148, Tryz.ntmps148
   go_wp2_with (first | (go_at_call 195; refine (is_any h t hi).mono ?_; rintro e w' ⟨rfl, rfl⟩) | (go_at_call 146; refine (adv_err h ha).mono ?_; rintro e w' ⟨rfl, hk'⟩))
   exact ⟨rfl, rfl, hk'⟩
def wantS (s : ByteArray) (σ : PS) (t : ByteArray) : Except ER PS :=
 match eatS s σ t with
 | .error r => .error r
 | .ok (true, σ') => .ok σ'
 | .ok (false, σ') => .error (false, σ'.ta)
theorem want_ok {w : World} {b : Nat} {s : ByteArray} {σ σ' : PS} (h : PW w b s σ) (t : ByteArray) (hv : wantS s σ t = .ok σ') :
  Calls Tryz.prog 238 #[.pointer (some ⟨b, 0, none⟩), .string t] w fun e w' => e = .returned (.tuple #[]) ∧ PW w' b s σ' ∧ Kept (· = b) w w' := by
 unfold wantS at hv
 cases he : eatS s σ t with
 | error r => rw [he] at hv; cases hv
 | ok q =>
  obtain ⟨v, σ1⟩ := q
  rw [he] at hv
  cases v
  ·cases hv
  ·cases hv
   go_enter Tryz.func238, Tryz.ntmps238
   go_wp2_with (go_at_call 148; refine (eat_ok h t he).mono ?_; rintro e w' ⟨rfl, hp', hk'⟩)
   go_end0
   exact ⟨rfl, hp', hk'⟩
theorem want_err {w : World} {b : Nat} {s : ByteArray} {σ : PS} {r : ER} (h : PW w b s σ) (t : ByteArray) (hv : wantS s σ t = .error r) :
  Calls Tryz.prog 238 #[.pointer (some ⟨b, 0, none⟩), .string t] w fun e w' => e = .panicked [pan r.1 r.2] ∧ Kept (· = b) w w' := by
 unfold wantS at hv
 cases he : eatS s σ t with
 | error r1 =>
  rw [he] at hv; cases hv
  go_enter Tryz.func238, Tryz.ntmps238
  go_wp2_with (go_at_call 148; refine (eat_err h t he).mono ?_; rintro e w' ⟨rfl, hk'⟩)
  exact ⟨rfl, rfl, hk'⟩
 | ok q =>
  obtain ⟨v, σ1⟩ := q
  rw [he] at hv
  cases v
  ·cases hv
   go_enter Tryz.func238, Tryz.ntmps238
   go_wp2_with (first | (go_at_call 148; refine (eat_ok h t he).mono ?_; rintro e w' ⟨rfl, hp', hk'⟩) | (go_at_call 147; refine (fail_any hp').mono ?_; rintro e w'' ⟨rfl, rfl⟩))
   exact ⟨rfl, rfl, hk'⟩
  ·cases hv
def openS (s : ByteArray) (σ : PS) (t : ByteArray) : Except ER PS :=
 if isS σ t then (if σ.nest = 64 then .error (true, σ.ta) else advS s { σ with nest := σ.nest + 1 }) else .error (false, σ.ta)
theorem PW.nested {w : World} {b : Nat} {s : ByteArray} {σ : PS} (h : PW w b s σ) (m : Nat) (hm : m ≤ 64) : PW (w.setCell ⟨b, 6, none⟩ (.int .i64 m)) b s { σ with nest := m } :=
 ⟨h.blk.set 6 _, h.le, h.tx, h.src, h.two, h.gl.kept (S := (· = b)) ((Kept.refl (fun x => x = b) _).setCell (Or.inl rfl) _) (by have := h.two; omega) (by have := h.two; omega), hm⟩
theorem open_ok {w : World} {b : Nat} {s : ByteArray} {σ σ' : PS} (h : PW w b s σ) (t : ByteArray) (hv : openS s σ t = .ok σ') :
  Calls Tryz.prog 218 #[.pointer (some ⟨b, 0, none⟩), .string t] w fun e w' => e = .returned (.tuple #[]) ∧ PW w' b s σ' ∧ Kept (· = b) w w' := by
 unfold openS at hv
 cases hi : isS σ t
 ·rw [hi] at hv; cases hv
 ·rw [hi, if_pos rfl] at hv
  by_cases hn : σ.nest = 64
  ·rw [if_pos hn] at hv; cases hv
  ·rw [if_neg hn] at hv
   have hle := h.nest
   have c6 := h.nst
   have f6 := h.nfr
   have i1 : ((σ.nest : Int) == 64) = false := by simp; omega
   have h' := h.nested (σ.nest + 1) (by omega)
   go_enter Tryz.func218, Tryz.ntmps218
   go_wp2_with (first | (go_at_call 195; refine (is_any h t hi).mono ?_; rintro e w' ⟨rfl, rfl⟩) | (go_at_call 146; refine (adv_ok h' hv).mono ?_; rintro e w' ⟨rfl, hp', hk'⟩))
   go_end0
   exact ⟨rfl, hp', ((Kept.refl (fun x => x = b) _).setCell (Or.inl rfl) _).trans hk'⟩
theorem open_err {w : World} {b : Nat} {s : ByteArray} {σ : PS} {r : ER} (h : PW w b s σ) (t : ByteArray) (hv : openS s σ t = .error r) :
  Calls Tryz.prog 218 #[.pointer (some ⟨b, 0, none⟩), .string t] w fun e w' => e = .panicked [pan r.1 r.2] ∧ Kept (· = b) w w' := by
 unfold openS at hv
 have c5 := h.tat
 have c6 := h.nst
 have f6 := h.nfr
 cases hi : isS σ t
 ·rw [hi] at hv; cases hv
  go_enter Tryz.func218, Tryz.ntmps218
  go_wp2_with (first | (go_at_call 195; refine (is_any h t hi).mono ?_; rintro e w' ⟨rfl, rfl⟩) | (go_at_call 147; refine (fail_any h).mono ?_; rintro e w'' ⟨rfl, rfl⟩))
  exact ⟨rfl, rfl, Kept.refl _ _⟩
 ·rw [hi, if_pos rfl] at hv
  by_cases hn : σ.nest = 64
  ·rw [if_pos hn] at hv; cases hv
   have i1 : ((σ.nest : Int) == 64) = true := by simp; omega
   clear hn
   go_enter Tryz.func218, Tryz.ntmps218
   go_wp2_with (go_at_call 195; refine (is_any h t hi).mono ?_; rintro e w' ⟨rfl, rfl⟩)
   exact ⟨rfl, rfl, Kept.refl _ _⟩
  ·rw [if_neg hn] at hv
   have hle := h.nest
   have i1 : ((σ.nest : Int) == 64) = false := by simp; omega
   have h' := h.nested (σ.nest + 1) (by omega)
   go_enter Tryz.func218, Tryz.ntmps218
   go_wp2_with (first | (go_at_call 195; refine (is_any h t hi).mono ?_; rintro e w' ⟨rfl, rfl⟩) | (go_at_call 146; refine (adv_err h' hv).mono ?_; rintro e w' ⟨rfl, hk'⟩))
   exact ⟨rfl, rfl, ((Kept.refl (fun x => x = b) _).setCell (Or.inl rfl) _).trans hk'⟩
def shutS (s : ByteArray) (σ : PS) (t : ByteArray) : Except ER PS :=
 match wantS s σ t with
 | .error r => .error r
 | .ok σ' => .ok { σ' with nest := σ'.nest - 1 }
theorem adv_nest {s : ByteArray} {σ σ' : PS} (h : advS s σ = .ok σ') : σ'.nest = σ.nest := by
 unfold advS at h
 cases ht : tokAt s (skip s σ.p) with
 | none => rw [ht] at h; cases h
 | some t => rw [ht] at h; cases h; rfl
theorem eat_nest {s : ByteArray} {σ σ' : PS} {t : ByteArray} {v : Bool} (h : eatS s σ t = .ok (v, σ')) : σ'.nest = σ.nest := by
 unfold eatS at h
 split at h
 ·cases ha : advS s σ with
  | ok σ1 => rw [ha] at h; cases h; exact adv_nest ha
  | error r => rw [ha] at h; cases h
 ·cases h; rfl
theorem want_nest {s : ByteArray} {σ σ' : PS} {t : ByteArray} (h : wantS s σ t = .ok σ') : σ'.nest = σ.nest := by
 unfold wantS at h
 cases he : eatS s σ t with
 | error r => rw [he] at h; cases h
 | ok q =>
  obtain ⟨v, σ1⟩ := q
  rw [he] at h
  cases v
  ·cases h
  ·cases h; exact eat_nest he
theorem shut_ok {w : World} {b : Nat} {s : ByteArray} {σ σ' : PS} (h : PW w b s σ) (hn : 1 ≤ σ.nest) (t : ByteArray) (hv : shutS s σ t = .ok σ') :
  Calls Tryz.prog 219 #[.pointer (some ⟨b, 0, none⟩), .string t] w fun e w' => e = .returned (.tuple #[]) ∧ PW w' b s σ' ∧ Kept (· = b) w w' := by
 unfold shutS at hv
 cases he : wantS s σ t with
 | error r => rw [he] at hv; cases hv
 | ok σ1 =>
  rw [he] at hv
  have hn1 := want_nest he
  cases hv
  have HN := Ld hn1
  clear hn1
  go_enter Tryz.func219, Tryz.ntmps219
  go_wp2_with (fail)
  refine (want_ok h t he).mono ?_
  rintro e w' ⟨rfl, hp', hk'⟩
  have c6 := hp'.nst
  have f6 := hp'.nfr
  have hle := hp'.nest
  have hn1 : 1 ≤ σ1.nest := by rw [HN.out]; exact hn
  have hp2 := hp'.nested (σ1.nest - 1) (by omega)
  rw [show ((σ1.nest - 1 : Nat) : Int) = (σ1.nest : Int) - 1 by omega] at hp2
  go_wp2_with (fail)
  go_end0
  exact ⟨rfl, hp2, hk'.setCell (Or.inl rfl) _⟩
theorem shut_err {w : World} {b : Nat} {s : ByteArray} {σ : PS} {r : ER} (h : PW w b s σ) (t : ByteArray) (hv : shutS s σ t = .error r) :
  Calls Tryz.prog 219 #[.pointer (some ⟨b, 0, none⟩), .string t] w fun e w' => e = .panicked [pan r.1 r.2] ∧ Kept (· = b) w w' := by
 unfold shutS at hv
 cases he : wantS s σ t with
 | ok σ1 => rw [he] at hv; cases hv
 | error r1 =>
  rw [he] at hv; cases hv
  go_enter Tryz.func219, Tryz.ntmps219
  go_wp2_with (go_at_call 238; refine (want_err h t he).mono ?_; rintro e w' ⟨rfl, hk'⟩)
  exact ⟨rfl, rfl, hk'⟩
def nameS (s : ByteArray) (σ : PS) : Except ER (ByteArray × PS) :=
 if σ.k = 1 ∧ identB σ.tx = true then (match advS s σ with | .ok σ' => .ok (σ.tx, σ') | .error r => .error r) else .error (false, σ.ta)
theorem ident_t {t : ByteArray} {v : Bool} (h : identB t = v) (ht : t.size ≤ 65536) (w : World) : Calls Tryz.prog 132 #[.string t] w fun e w' => e = .returned (.bool v) ∧ w = w' := (ident_any t w (by omega)).mono fun _ _ q => ⟨by rw [← h]; exact q.1, q.2⟩
theorem name_ok {w : World} {b : Nat} {s : ByteArray} {σ σ' : PS} {x : ByteArray} (h : PW w b s σ) (hv : nameS s σ = .ok (x, σ')) :
  Calls Tryz.prog 239 #[.pointer (some ⟨b, 0, none⟩)] w fun e w' => e = .returned (.string x) ∧ PW w' b s σ' ∧ Kept (· = b) w w' := by
 unfold nameS at hv
 by_cases hc : σ.k = 1 ∧ identB σ.tx = true
 ·rw [if_pos hc] at hv
  obtain ⟨hk, hi⟩ := hc
  cases ha : advS s σ with
  | error r => rw [ha] at hv; cases hv
  | ok σ1 =>
   rw [ha] at hv; cases hv
   have c2 := h.kd
   have c3 := h.txt
   have ht := h.tx
   have i1 : (σ.k != 1) = false := by simp [hk]
   clear hk
   go_enter Tryz.func239, Tryz.ntmps239
   go_wp2_with (first | (go_at_call 132; refine (ident_t hi ht _).mono ?_; rintro e w' ⟨rfl, rfl⟩) | (go_at_call 146; refine (adv_ok h ha).mono ?_; rintro e w' ⟨rfl, hp', hk'⟩))
   go_ret
   exact ⟨rfl, hp', hk'⟩
 ·rw [if_neg hc] at hv; cases hv
theorem name_err {w : World} {b : Nat} {s : ByteArray} {σ : PS} {r : ER} (h : PW w b s σ) (hv : nameS s σ = .error r) :
  Calls Tryz.prog 239 #[.pointer (some ⟨b, 0, none⟩)] w fun e w' => e = .panicked [pan r.1 r.2] ∧ Kept (· = b) w w' := by
 unfold nameS at hv
 have c2 := h.kd
 have c3 := h.txt
 have ht := h.tx
 cases hk : (σ.k != 1) <;> cases hi : identB σ.tx
 case false.true =>
  have hk' : σ.k = 1 := by simpa using hk
  rw [if_pos ⟨hk', hi⟩] at hv
  cases ha : advS s σ with
  | ok σ1 => rw [ha] at hv; cases hv
  | error r1 =>
   rw [ha] at hv; cases hv
   clear hk'
   go_enter Tryz.func239, Tryz.ntmps239
   go_wp2_with (first | (go_at_call 132; refine (ident_t hi ht _).mono ?_; rintro e w' ⟨rfl, rfl⟩) | (go_at_call 146; refine (adv_err h ha).mono ?_; rintro e w' ⟨rfl, hk'⟩))
   exact ⟨rfl, rfl, hk'⟩
 all_goals
  rw [if_neg (by rintro ⟨a, c⟩; simp [a] at hk; try (simp [hi] at c))] at hv
  cases hv
  go_enter Tryz.func239, Tryz.ntmps239
  go_wp2_with (first | (go_at_call 132; refine (ident_t hi ht _).mono ?_; rintro e w' ⟨rfl, rfl⟩) | (go_at_call 147; refine (fail_any h).mono ?_; rintro e w' ⟨rfl, rfl⟩))
  exact ⟨rfl, rfl, Kept.refl _ _⟩
theorem ta_mal (v : Value) (w : World) : (Instr.typeAssert (.iface 148 v) 20 148 true).run Tryz.prog w = .ok (.tuple #[v, .bool true]) w := by kernel_rfl
theorem ta_no (v : Value) (w : World) : (Instr.typeAssert (.iface 149 v) 20 148 true).run Tryz.prog w = .ok (.tuple #[.agg #[.int .i64 0], .bool false]) w := by kernel_rfl
theorem ta_deep (v : Value) (w : World) : (Instr.typeAssert (.iface 149 v) 20 149 true).run Tryz.prog w = .ok (.tuple #[v, .bool true]) w := by kernel_rfl
theorem rd_mal (A E : Nat) (pos : Nat) (x y : Int) (older : List PanicEntry) (w : World) (lA : A < w.heap.size) (lE : E < w.heap.size) (hAE : A ≠ E) (hA : w.cell? ⟨A, 0, none⟩ = some (.int .i64 x)) (hE : w.cell? ⟨E, 0, none⟩ = some (.int .i64 y)) (fA : w.frozen? ⟨A, 0, none⟩ = false) (fE : w.frozen? ⟨E, 0, none⟩ = false) :
  CallsD Tryz.prog 145 #[.pointer (some ⟨A, 0, none⟩), .pointer (some ⟨E, 0, none⟩)] (.panicking ({ v := .iface 148 (.agg #[.int .i64 pos]), recovered := false } :: older)) w fun e u' w' =>
   e = .returned (.tuple #[]) ∧ u' = .panicking ({ v := .iface 148 (.agg #[.int .i64 pos]), recovered := true } :: older) ∧ w' = ((w.setCell ⟨A, 0, none⟩ (.int .i64 pos)).setCell ⟨E, 0, none⟩ (.int .i64 2)).alloc (.cells #[.int .i64 pos] 148) := by
 have t1 := ta_mal (.agg #[.int .i64 pos]) w
 refine callsD_of_wpS Tryz.func145 rfl fun c₀ cs hu => ?_
 simp only [Tryz.ntmps145, List.size_toArray, List.length_cons, List.length_nil, Nat.reduceAdd, Nat.reduceSub, Array.replicate_succ,
   Array.replicate_zero, List.push_toArray, List.append_toArray, List.nil_append, List.cons_append]
 apply wpS_seq
 apply wpS_region
 simp [wpOpsS, go_sem, recoverD, hu, Exit.thenS]
 refine wpS_of_wp ?_
 have nA : A ≠ w.heap.size := by omega
 have nE : E ≠ w.heap.size := by omega
 go_wp2_with fail
 simp only [bodyPostS]
 exact ⟨trivial, _, rfl, _, results_none rfl _ _ _, rfl, rfl, trivial⟩
theorem rd_deep (A E : Nat) (pos : Nat) (x y : Int) (older : List PanicEntry) (w : World) (lA : A < w.heap.size) (lE : E < w.heap.size) (hAE : A ≠ E) (hA : w.cell? ⟨A, 0, none⟩ = some (.int .i64 x)) (hE : w.cell? ⟨E, 0, none⟩ = some (.int .i64 y)) (fA : w.frozen? ⟨A, 0, none⟩ = false) (fE : w.frozen? ⟨E, 0, none⟩ = false) :
  CallsD Tryz.prog 145 #[.pointer (some ⟨A, 0, none⟩), .pointer (some ⟨E, 0, none⟩)] (.panicking ({ v := .iface 149 (.agg #[.int .i64 pos]), recovered := false } :: older)) w fun e u' w' =>
   e = .returned (.tuple #[]) ∧ u' = .panicking ({ v := .iface 149 (.agg #[.int .i64 pos]), recovered := true } :: older) ∧ w' = ((w.setCell ⟨A, 0, none⟩ (.int .i64 pos)).setCell ⟨E, 0, none⟩ (.int .i64 4)).alloc (.cells #[.int .i64 pos] 149) := by
 have t1 := ta_no (.agg #[.int .i64 pos]) w
 have t2 := ta_deep (.agg #[.int .i64 pos]) w
 refine callsD_of_wpS Tryz.func145 rfl fun c₀ cs hu => ?_
 simp only [Tryz.ntmps145, List.size_toArray, List.length_cons, List.length_nil, Nat.reduceAdd, Nat.reduceSub, Array.replicate_succ,
   Array.replicate_zero, List.push_toArray, List.append_toArray, List.nil_append, List.cons_append]
 apply wpS_seq
 apply wpS_region
 simp [wpOpsS, go_sem, recoverD, hu, Exit.thenS]
 refine wpS_of_wp ?_
 have nA : A ≠ w.heap.size := by omega
 have nE : E ≠ w.heap.size := by omega
 go_wp2_with fail
 simp only [bodyPostS]
 exact ⟨trivial, _, rfl, _, results_none rfl _ _ _, rfl, rfl, trivial⟩
theorem rd_idle (A E : Nat) (w : World) :
  CallsD Tryz.prog 145 #[.pointer (some ⟨A, 0, none⟩), .pointer (some ⟨E, 0, none⟩)] .returning w fun e u' w' => e = .returned (.tuple #[]) ∧ u' = .returning ∧ w' = w := by
 refine callsD_of_wpS Tryz.func145 rfl fun c₀ cs hu => ?_
 simp only [Tryz.ntmps145, List.size_toArray, List.length_cons, List.length_nil, Nat.reduceAdd, Nat.reduceSub, Array.replicate_succ,
   Array.replicate_zero, List.push_toArray, List.append_toArray, List.nil_append, List.cons_append]
 apply wpS_seq
 apply wpS_region
 simp [wpOpsS, go_sem, recoverD, hu, Exit.thenS]
 refine wpS_of_wp ?_
 go_wp2_with fail
 simp only [bodyPostS]
 cases c₀
 exact ⟨trivial, _, by simp_all, _, results_none rfl _ _ _, rfl, rfl, trivial⟩
inductive Ty where
 | mk (kind : Int) (name : ByteArray) (kids : List Ty)
def Ty.kind : Ty → Int | .mk k _ _ => k
def Ty.name : Ty → ByteArray | .mk _ n _ => n
def Ty.kids : Ty → List Ty | .mk _ _ l => l
inductive Tm where
 | mk (op : Int) (name : ByteArray) (n : Int) (ty : Ty) (kids : List Tm)
def Tm.op : Tm → Int | .mk o _ _ _ _ => o
def Tm.name : Tm → ByteArray | .mk _ n _ _ _ => n
def Tm.n : Tm → Int | .mk _ _ n _ _ => n
def Tm.ty : Tm → Ty | .mk _ _ _ t _ => t
def Tm.kids : Tm → List Tm | .mk _ _ _ _ l => l
def ty0 : Ty := .mk 0 ⟨#[]⟩ []
def empty0 (v : Value) : Prop := v = .slice none 0 0 ∨ ∃ a c, v = .slice (some a) 0 c
inductive TyL (ok : Nat → Prop) (w : World) : List Ty → Value → Prop
 | nil {v : Value} (h : empty0 v) : TyL ok w [] v
 | mk {l : List Ty} {b off cap : Nat} (K : Nat → Value) (hne : l ≠ []) (hb : ok b) (hc : l.length ≤ cap)
   (hcell : ∀ i (h : i < l.length), w.cell? ⟨b, off + i * 3, none⟩ = some (.int .i64 l[i].kind) ∧ w.cell? ⟨b, off + i * 3 + 1, none⟩ = some (.string l[i].name) ∧ w.cell? ⟨b, off + i * 3 + 2, none⟩ = some (K i))
   (hk : ∀ i (h : i < l.length), TyL ok w l[i].kids (K i)) : TyL ok w l (.slice (some ⟨b, off, none⟩) l.length cap)
def tyVal (t : Ty) (tk : Value) : Value := .agg #[.int .i64 t.kind, .string t.name, tk]
def TyV (ok : Nat → Prop) (w : World) (t : Ty) (v : Value) : Prop := ∃ tk, v = tyVal t tk ∧ TyL ok w t.kids tk
inductive TmL (ok : Nat → Prop) (w : World) : List Tm → Value → Prop
 | nil {v : Value} (h : empty0 v) : TmL ok w [] v
 | mk {l : List Tm} {b off cap : Nat} (K M : Nat → Value) (hne : l ≠ []) (hb : ok b) (hc : l.length ≤ cap)
   (hcell : ∀ i (h : i < l.length), w.cell? ⟨b, off + i * 7, none⟩ = some (.int .i64 l[i].op) ∧ w.cell? ⟨b, off + i * 7 + 1, none⟩ = some (.string l[i].name) ∧ w.cell? ⟨b, off + i * 7 + 2, none⟩ = some (.int .i64 l[i].n) ∧ w.cell? ⟨b, off + i * 7 + 3, none⟩ = some (.int .i64 l[i].ty.kind) ∧ w.cell? ⟨b, off + i * 7 + 4, none⟩ = some (.string l[i].ty.name) ∧ w.cell? ⟨b, off + i * 7 + 5, none⟩ = some (K i) ∧ w.cell? ⟨b, off + i * 7 + 6, none⟩ = some (M i))
   (hk : ∀ i (h : i < l.length), TyL ok w l[i].ty.kids (K i)) (hm : ∀ i (h : i < l.length), TmL ok w l[i].kids (M i)) : TmL ok w l (.slice (some ⟨b, off, none⟩) l.length cap)
def tmVal (t : Tm) (tk kk : Value) : Value := .agg #[.int .i64 t.op, .string t.name, .int .i64 t.n, .int .i64 t.ty.kind, .string t.ty.name, tk, kk]
def TmV (ok : Nat → Prop) (w : World) (t : Tm) (v : Value) : Prop := ∃ tk kk, v = tmVal t tk kk ∧ TyL ok w t.ty.kids tk ∧ TmL ok w t.kids kk
theorem cell_lt {w : World} {b o : Nat} {v : Value} (h : w.cell? ⟨b, o, none⟩ = some v) : b < w.heap.size := by
 unfold World.cell? at h
 by_cases hl : b < w.heap.size
 ·exact hl
 ·rw [Array.getElem?_eq_none (by show w.heap.size ≤ b; omega)] at h; simp at h
def Same (ok : Nat → Prop) (w w' : World) : Prop := ∀ k, ok k → k < w.heap.size → w'.heap[k]? = w.heap[k]?
theorem Same.cell {ok : Nat → Prop} {w w' : World} (h : Same ok w w') {b o : Nat} {v : Value} (hb : ok b) (hc : w.cell? ⟨b, o, none⟩ = some v) : w'.cell? ⟨b, o, none⟩ = some v := by
 rw [World.cell?_of_block (w := w) (a := ⟨b, o, none⟩) (h b hb (cell_lt hc))]; exact hc
theorem TyL.frame {ok : Nat → Prop} {w w' : World} (hs : Same ok w w') {l : List Ty} {v : Value} (h : TyL ok w l v) : TyL ok w' l v := by
 induction h with
 | nil h => exact .nil h
 | mk K hne hb hc hcell hk ih =>
  exact .mk K hne hb hc (fun i h => ⟨hs.cell hb (hcell i h).1, hs.cell hb (hcell i h).2.1, hs.cell hb (hcell i h).2.2⟩) ih
theorem TmL.frame {ok : Nat → Prop} {w w' : World} (hs : Same ok w w') {l : List Tm} {v : Value} (h : TmL ok w l v) : TmL ok w' l v := by
 induction h with
 | nil h => exact .nil h
 | mk K M hne hb hc hcell hk hm ih =>
  exact .mk K M hne hb hc (fun i h => let c := hcell i h; ⟨hs.cell hb c.1, hs.cell hb c.2.1, hs.cell hb c.2.2.1, hs.cell hb c.2.2.2.1, hs.cell hb c.2.2.2.2.1, hs.cell hb c.2.2.2.2.2.1, hs.cell hb c.2.2.2.2.2.2⟩) (fun i h => (hk i h).frame hs) ih
theorem TyL.mono {ok ok' : Nat → Prop} {w : World} (ho : ∀ k, k < w.heap.size → ok k → ok' k) {l : List Ty} {v : Value} (h : TyL ok w l v) : TyL ok' w l v := by
 induction h with
 | nil h => exact .nil h
 | mk K hne hb hc hcell hk ih =>
  rename_i l b off cap
  have h0 : 0 < l.length := List.length_pos_iff.2 hne
  exact .mk K hne (ho _ (cell_lt (hcell 0 h0).1) hb) hc hcell ih
theorem TmL.mono {ok ok' : Nat → Prop} {w : World} (ho : ∀ k, k < w.heap.size → ok k → ok' k) {l : List Tm} {v : Value} (h : TmL ok w l v) : TmL ok' w l v := by
 induction h with
 | nil h => exact .nil h
 | mk K M hne hb hc hcell hk hm ih =>
  rename_i l b off cap
  have h0 : 0 < l.length := List.length_pos_iff.2 hne
  exact .mk K M hne (ho _ (cell_lt (hcell 0 h0).1) hb) hc hcell (fun i h => (hk i h).mono ho) ih
theorem TyV.frame {ok : Nat → Prop} {w w' : World} (hs : Same ok w w') {t : Ty} {v : Value} (h : TyV ok w t v) : TyV ok w' t v := by
 obtain ⟨tk, rfl, h⟩ := h; exact ⟨tk, rfl, h.frame hs⟩
theorem TmV.frame {ok : Nat → Prop} {w w' : World} (hs : Same ok w w') {t : Tm} {v : Value} (h : TmV ok w t v) : TmV ok w' t v := by
 obtain ⟨tk, kk, rfl, h, h'⟩ := h; exact ⟨tk, kk, rfl, h.frame hs, h'.frame hs⟩
theorem Same.of_kept {S ok : Nat → Prop} {w w' : World} (h : Kept S w w') (hS : ∀ k, ok k → ¬ S k) : Same ok w w' := fun k hk hl => h.block k hl (hS k hk)
theorem TyL.one {ok : Nat → Prop} {w : World} {g cap : Nat} {t : Ty} {tk : Value} {r : List Value} {ty : TypeId} (hg : ok g) (hc : 1 ≤ cap) (hb : Blk w g ty ([.int .i64 t.kind, .string t.name, tk] ++ r)) (hk : TyL ok w t.kids tk) : TyL ok w [t] (.slice (some ⟨g, 0, none⟩) 1 cap) := by
 refine TyL.mk (l := [t]) (fun _ => tk) (by simp) hg hc (fun i h => ?_) (fun i h => ?_)
 ·have : i = 0 := by simp at h; exact h
  subst this
  exact ⟨hb.cell 0, hb.cell 1, hb.cell 2⟩
 ·have : i = 0 := by simp at h; exact h
  subst this; exact hk
theorem TyL.two {ok : Nat → Prop} {w : World} {g cap : Nat} {t u : Ty} {tk uk : Value} {ty : TypeId} (hg : ok g) (hc : 2 ≤ cap) (hb : Blk w g ty [.int .i64 t.kind, .string t.name, tk, .int .i64 u.kind, .string u.name, uk]) (hk : TyL ok w t.kids tk) (hk' : TyL ok w u.kids uk) : TyL ok w [t, u] (.slice (some ⟨g, 0, none⟩) 2 cap) := by
 refine TyL.mk (l := [t, u]) (fun i => if i = 0 then tk else uk) (by simp) hg hc (fun i h => ?_) (fun i h => ?_)
 ·rcases (show i = 0 ∨ i = 1 by simp at h; omega) with rfl | rfl
  ·exact ⟨hb.cell 0, hb.cell 1, hb.cell 2⟩
  ·exact ⟨hb.cell 3, hb.cell 4, hb.cell 5⟩
 ·rcases (show i = 0 ∨ i = 1 by simp at h; omega) with rfl | rfl
  ·exact hk
  ·exact hk'
def tmCells (t : Tm) (tk kk : Value) : List Value := [.int .i64 t.op, .string t.name, .int .i64 t.n, .int .i64 t.ty.kind, .string t.ty.name, tk, kk]
theorem TmL.one {ok : Nat → Prop} {w : World} {g cap : Nat} {t : Tm} {tk kk : Value} {ty : TypeId} (hg : ok g) (hc : 1 ≤ cap) (hb : Blk w g ty (tmCells t tk kk)) (hk : TyL ok w t.ty.kids tk) (hm : TmL ok w t.kids kk) : TmL ok w [t] (.slice (some ⟨g, 0, none⟩) 1 cap) := by
 refine TmL.mk (l := [t]) (fun _ => tk) (fun _ => kk) (by simp) hg hc (fun i h => ?_) (fun i h => ?_) (fun i h => ?_)
 all_goals (have : i = 0 := by simp at h; exact h); subst this
 ·exact ⟨hb.cell 0, hb.cell 1, hb.cell 2, hb.cell 3, hb.cell 4, hb.cell 5, hb.cell 6⟩
 ·exact hk
 ·exact hm
theorem TmL.two {ok : Nat → Prop} {w : World} {g cap : Nat} {t u : Tm} {tk kk uk uu : Value} {ty : TypeId} (hg : ok g) (hc : 2 ≤ cap) (hb : Blk w g ty (tmCells t tk kk ++ tmCells u uk uu)) (hk : TyL ok w t.ty.kids tk) (hm : TmL ok w t.kids kk) (hk' : TyL ok w u.ty.kids uk) (hm' : TmL ok w u.kids uu) : TmL ok w [t, u] (.slice (some ⟨g, 0, none⟩) 2 cap) := by
 refine TmL.mk (l := [t, u]) (fun i => if i = 0 then tk else uk) (fun i => if i = 0 then kk else uu) (by simp) hg hc (fun i h => ?_) (fun i h => ?_) (fun i h => ?_)
 all_goals rcases (show i = 0 ∨ i = 1 by simp at h; omega) with rfl | rfl
 ·exact ⟨hb.cell 0, hb.cell 1, hb.cell 2, hb.cell 3, hb.cell 4, hb.cell 5, hb.cell 6⟩
 ·exact ⟨hb.cell 7, hb.cell 8, hb.cell 9, hb.cell 10, hb.cell 11, hb.cell 12, hb.cell 13⟩
 ·exact hk
 ·exact hk'
 ·exact hm
 ·exact hm'
theorem sK {ok : Nat → Prop} {w w' : World} (k : Kept (fun _ => False) w w') : Same ok w w' := Same.of_kept k (fun _ _ e => e)
theorem heap_allocs (os : List Obj) (w : World) (i : Nat) (h : i < os.length) : (os.foldl World.alloc w).heap[w.heap.size + i]? = os[i]? := by
 induction os generalizing w i with
 | nil => simp at h
 | cons o os ih =>
  have hb : ∀ (l : List Obj) (u : World) (k : Nat), k < u.heap.size → (l.foldl World.alloc u).heap[k]? = u.heap[k]? := by
   intro l
   induction l with
   | nil => intro u k _; rfl
   | cons x l ihl =>
    intro u k hk
    rw [List.foldl_cons, ihl (u.alloc x) k (by simp; omega), Below.heap_alloc _ _ _ hk]
  rw [List.foldl_cons]
  cases i with
  | zero =>
   rw [Nat.add_zero, hb os (w.alloc o) w.heap.size (by simp)]
   show (w.heap.push o)[w.heap.size]? = _
   simp
  | succ i =>
   have := ih (w.alloc o) i (by simpa using h)
   rw [show (w.alloc o).heap.size = w.heap.size + 1 by simp] at this
   rw [show w.heap.size + (i + 1) = w.heap.size + 1 + i by omega, this]
   simp
theorem below_allocs (os : List Obj) (w : World) : Below w.heap.size w (os.foldl World.alloc w) := by
 induction os generalizing w with
 | nil => exact Below.refl _ _
 | cons o os ih =>
  rw [List.foldl_cons]
  exact ((Below.refl _ _).alloc (Nat.le_refl _) o).trans ((ih (w.alloc o)).mono (by simp))
theorem heap_setCells (l : List Value) (w : World) (b o : Nat) (k : Nat) (h : k ≠ b) : (w.setCells b o l).heap[k]? = w.heap[k]? := by
 induction l generalizing w o with
 | nil => rfl
 | cons v l ih =>
  rw [World.setCells, ih, Below.heap_setCell _ _ _ _ h]
theorem Blk.setCells_at (l' : List Value) : ∀ {w : World} {b : Nat} {t : TypeId} {l : List Value} (o : Nat), Blk w b t l → o + l'.length ≤ l.length → Blk (w.setCells b o l') b t (l.take o ++ l' ++ l.drop (o + l'.length)) := by
 induction l' with
 | nil => intro w b t l o h _; simpa [World.setCells] using h
 | cons v l' ih =>
  intro w b t l o h ho
  rw [List.length_cons] at ho
  have := ih (o + 1) (h.set o v) (by rw [List.length_set]; omega)
  rw [World.setCells]
  have e : (l.set o v).take (o + 1) ++ l' ++ (l.set o v).drop (o + 1 + l'.length) = l.take o ++ (v :: l') ++ l.drop (o + (v :: l').length) := by
   rw [List.take_set, List.drop_set_of_lt (by omega), List.length_cons, show o + (l'.length + 1) = o + 1 + l'.length by omega]
   congr 1
   rw [List.take_succ_eq_append_getElem (by omega), List.set_append_right _ _ (by simp; omega)]
   simp [Nat.min_eq_left (show o ≤ l.length by omega)]
  rw [← e]
  exact this
theorem Blk.setCells {w : World} {b : Nat} {t : TypeId} {l l' : List Value} (h : Blk w b t l) (hl : l'.length = l.length) : Blk (w.setCells b 0 l') b t l' := by
 have := Blk.setCells_at l' 0 h (by omega)
 simpa [hl] using this
theorem Blk.there {w : World} {b : Nat} {t : TypeId} {l : List Value} (h : Blk w b t l) : w.there b 0 l.length := by
 intro j hj
 rw [Nat.zero_add, h.cell j, List.getElem?_eq_getElem hj]
 exact ⟨rfl, h.frozen j⟩
theorem Blk.rangeAt {w : World} {b : Nat} {t : TypeId} {l : List Value} (h : Blk w b t l) : w.rangeAt b 0 l := by
 intro j v hv
 rw [Nat.zero_add, h.cell j, hv]
theorem Blk.setCells_other {w : World} {b c : Nat} {t : TypeId} {l l' : List Value} {o : Nat} (h : Blk w b t l) (hc : b ≠ c) : Blk (w.setCells c o l') b t l := by
 unfold Blk; rw [heap_setCells _ _ _ _ _ hc]; exact h
theorem Kept.setCells {S : Nat → Prop} {a w : World} {b o : Nat} {l : List Value} (h : Kept S a w) (hp : S b ∨ a.heap.size ≤ b) : Kept S a (w.setCells b o l) := by
 induction l generalizing w o with
 | nil => exact h
 | cons v l ih => rw [World.setCells]; exact ih (h.setCell hp v)
def lvTab : List (Int × List ByteArray × List Int) := [(0, [], []), (0, [⟨#[60, 61, 62]⟩], [7]), (2, [⟨#[61, 62]⟩], [6]), (1, [⟨#[111, 114]⟩], [5]), (1, [⟨#[38]⟩], [4]), (0, [], []), (0, [⟨#[61]⟩, ⟨#[47, 61]⟩, ⟨#[60]⟩, ⟨#[60, 61]⟩, ⟨#[62]⟩, ⟨#[62, 61]⟩, ⟨#[105, 110]⟩, ⟨#[110, 111, 116, 105, 110]⟩, ⟨#[115, 117, 98]⟩], [10, 11, 12, 13, 14, 15, 16, 17, 18]), (0, [⟨#[60, 45, 62]⟩, ⟨#[43, 45, 62]⟩, ⟨#[45, 45, 62]⟩, ⟨#[62, 45, 62]⟩, ⟨#[62, 45, 62, 62]⟩], [41, 42, 43, 44, 45]), (1, [⟨#[124, 45, 62]⟩], [27]), (1, [⟨#[92, 47]⟩, ⟨#[47, 92]⟩, ⟨#[92]⟩, ⟨#[62, 60]⟩, ⟨#[60, 43]⟩, ⟨#[59]⟩, ⟨#[60, 124]⟩, ⟨#[60, 60, 124]⟩, ⟨#[124, 62]⟩, ⟨#[124, 62, 62]⟩], [31, 32, 33, 34, 35, 36, 37, 38, 39, 40]), (0, [⟨#[46, 46]⟩], [30]), (1, [⟨#[43]⟩, ⟨#[45]⟩], [22, 23]), (1, [⟨#[42]⟩, ⟨#[47]⟩, ⟨#[109, 111, 100]⟩], [24, 25, 26])]
def lvGroup (n : Nat) : Int := (lvTab.getD n (0, [], [])).1
def lvSigns (n : Nat) : List ByteArray := (lvTab.getD n (0, [], [])).2.1
def lvOps (n : Nat) : List Int := (lvTab.getD n (0, [], [])).2.2
def sl (b n : Nat) : Value := .slice (some ⟨b, 0, none⟩) n n
def lvGo : List (Int × List ByteArray × List Int) → Nat → List Value
 | [], _ => []
 | (g, [], _) :: r, b => .int .i64 g :: .slice none 0 0 :: .slice none 0 0 :: lvGo r b
 | (g, s :: ss, os) :: r, b => .int .i64 g :: sl b (s :: ss).length :: sl (b + 1) os.length :: lvGo r (b + 1 + 1)
def lvBlocks : List (Int × List ByteArray × List Int) → List Obj
 | [] => []
 | (_, [], _) :: r => lvBlocks r
 | (_, s :: ss, os) :: r => .cells ((s :: ss).map Value.string).toArray 9 :: .cells (os.map (Value.int .i64)).toArray 3 :: lvBlocks r
def lvZero : List Value := [.int .i64 0, .slice none 0 0, .slice none 0 0, .int .i64 0, .slice none 0 0, .slice none 0 0, .int .i64 0, .slice none 0 0, .slice none 0 0, .int .i64 0, .slice none 0 0, .slice none 0 0, .int .i64 0, .slice none 0 0, .slice none 0 0, .int .i64 0, .slice none 0 0, .slice none 0 0, .int .i64 0, .slice none 0 0, .slice none 0 0, .int .i64 0, .slice none 0 0, .slice none 0 0, .int .i64 0, .slice none 0 0, .slice none 0 0, .int .i64 0, .slice none 0 0, .slice none 0 0, .int .i64 0, .slice none 0 0, .slice none 0 0, .int .i64 0, .slice none 0 0, .slice none 0 0, .int .i64 0, .slice none 0 0, .slice none 0 0]
def lvObjs : List Obj := .cells lvZero.toArray 190 :: lvBlocks lvTab
theorem lv_blk (w : World) : Blk (lvObjs.foldl World.alloc w) w.heap.size 190 lvZero := heap_allocs lvObjs w 0 (by decide)
theorem results_one {P : Program} {fn : Func} {p : Tmp} {ty : TypeId} (h : fn.results = #[.cell p ty]) {tmps : Array Value} {a : Addr} (ha : tmps.getD p undef = .pointer (some a)) {v : Value} {W : World}
  (hl : (loadVar ty a).run P W = .ok v W) : (results fn tmps).run P W = .ok v W := by
 have e : (results fn tmps) = (do let v ← (do loadVar ty (← asAddr (tmps.getD p undef))); pure v) := by
  unfold results; rw [h]; simp
 rw [e, ha]
 exact hl
theorem lv_res (w : World) (tmps : Array Value) (h : tmps.getD 0 undef = .pointer (some ⟨w.heap.size, 0, none⟩)) (W : World) (hb : Blk W w.heap.size 190 (lvGo lvTab (w.heap.size + 1))) :
  (results Tryz.f199 tmps).run Tryz.prog W = .ok (.agg (lvGo lvTab (w.heap.size + 1)).toArray) W :=
 results_one Tryz.results199 h (run_loadVar_mid W _ 0 190 _ _ hb.rangeAt Tryz.underlying190 rfl (by kernel_rfl))
theorem levels_any (w : World) : Calls Tryz.prog 199 #[] w fun e w' => e = .returned (.agg (lvGo lvTab (w.heap.size + 1)).toArray) ∧ w' = (lvObjs.foldl World.alloc w).setCells w.heap.size 0 (lvGo lvTab (w.heap.size + 1)) := by
 have hb := lv_blk w
 have HB := Ld hb
 clear hb
 go_enter Tryz.func199, Tryz.ntmps199
 go_wp2_with (refine wpList_store_mid rfl 190 _ _ rfl _ 0 _ rfl rfl ?ht ?hi ?h1 ?_)
 case ht => exact HB.out.there
 case hi => kernel_rfl
 case h1 => kernel_rfl
 exact bodyPost_ret (lv_res w _ rfl _ (HB.out.setCells rfl)) rfl ⟨rfl, rfl⟩
def kInt : ByteArray := ⟨#[105, 110, 116]⟩
def kSet : ByteArray := ⟨#[115, 101, 116]⟩
def kPair : ByteArray := ⟨#[112, 97, 105, 114]⟩
def kLpar : ByteArray := ⟨#[40]⟩
def kRpar : ByteArray := ⟨#[41]⟩
def kComma : ByteArray := ⟨#[44]⟩
def typedS : Nat → ByteArray → PS → Except ER (Ty × PS)
 | 0, _, _ => .error (false, 0)
 | f + 1, s, σ =>
  if σ.k = 1 ∧ identB σ.tx = true then
   match advS s σ with
   | .error r => .error r
   | .ok σ1 => .ok (.mk 3 σ.tx [], σ1)
  else if isS σ kInt = true then
   match advS s σ with
   | .error r => .error r
   | .ok σ1 => .ok (.mk 1 ⟨#[]⟩ [], σ1)
  else if isS σ kSet = true then
   match advS s σ with
   | .error r => .error r
   | .ok σ1 =>
    match openS s σ1 kLpar with
    | .error r => .error r
    | .ok σ2 =>
     match typedS f s σ2 with
     | .error r => .error r
     | .ok (t, σ3) =>
      match shutS s σ3 kRpar with
      | .error r => .error r
      | .ok σ4 => .ok (.mk 5 ⟨#[]⟩ [t], σ4)
  else if isS σ kPair = true then
   match advS s σ with
   | .error r => .error r
   | .ok σ1 =>
    match openS s σ1 kLpar with
    | .error r => .error r
    | .ok σ2 =>
     match typedS f s σ2 with
     | .error r => .error r
     | .ok (t, σ3) =>
      match wantS s σ3 kComma with
      | .error r => .error r
      | .ok σ4 =>
       match typedS f s σ4 with
       | .error r => .error r
       | .ok (u, σ5) =>
        match shutS s σ5 kRpar with
        | .error r => .error r
        | .ok σ6 => .ok (.mk 4 ⟨#[]⟩ [t, u], σ6)
  else .error (false, σ.ta)
theorem eat_no {w : World} {b : Nat} {s : ByteArray} {σ : PS} (h : PW w b s σ) (t : ByteArray) (hv : isS σ t = false) :
  Calls Tryz.prog 148 #[.pointer (some ⟨b, 0, none⟩), .string t] w fun e w' => e = .returned (.bool false) ∧ w = w' := by
 go_enter Tryz.func148, Tryz.ntmps148
 go_wp2_with (go_at_call 195; refine (is_any h t hv).mono ?_; rintro e w' ⟨rfl, rfl⟩)
 go_ret
 exact ⟨rfl, rfl⟩
theorem eat_yes {w : World} {b : Nat} {s : ByteArray} {σ σ' : PS} (h : PW w b s σ) (t : ByteArray) (hv : isS σ t = true) (ha : advS s σ = .ok σ') :
  Calls Tryz.prog 148 #[.pointer (some ⟨b, 0, none⟩), .string t] w fun e w' => e = .returned (.bool true) ∧ PW w' b s σ' ∧ Kept (· = b) w w' :=
 eat_ok h t (by unfold eatS; rw [if_pos hv, ha])
theorem eat_bad {w : World} {b : Nat} {s : ByteArray} {σ : PS} {r : ER} (h : PW w b s σ) (t : ByteArray) (hv : isS σ t = true) (ha : advS s σ = .error r) :
  Calls Tryz.prog 148 #[.pointer (some ⟨b, 0, none⟩), .string t] w fun e w' => e = .panicked [pan r.1 r.2] ∧ Kept (· = b) w w' :=
 eat_err h t (by unfold eatS; rw [if_pos hv, ha])
theorem Gl.alloc {w : World} (h : Gl w) (o : Obj) : Gl (w.alloc o) := h.kept (S := fun _ => False) ((Kept.refl _ _).alloc o) id id
theorem PW.grow {w w' : World} {b : Nat} {s : ByteArray} {σ : PS} {S : Nat → Prop} (h : PW w b s σ) (hk : Kept S w w') (hb : ¬ S b) (h0 : ¬ S 2) (h1 : ¬ S 3) : PW w' b s σ :=
 ⟨Blk.kept h.blk hk hb, h.le, h.tx, h.src, h.two, h.gl.kept hk h0 h1, h.nest⟩
theorem PW.store {w : World} {b : Nat} {s : ByteArray} {σ : PS} (h : PW w b s σ) {p : Addr} (hb : p.block ≠ b) (h2 : 4 ≤ p.block) (v : Value) : PW (w.setCell p v) b s σ :=
 h.grow (S := (· = p.block)) ((Kept.refl (fun x => x = p.block) _).setCell (Or.inl rfl) v) (fun e => hb e.symm) (by show ¬ 2 = p.block; omega) (by show ¬ 3 = p.block; omega)
theorem PW.alloc {w : World} {b : Nat} {s : ByteArray} {σ : PS} (h : PW w b s σ) (o : Obj) : PW (w.alloc o) b s σ := h.grow (S := fun _ => False) ((Kept.refl _ _).alloc o) id id id
def ROk (b : Nat) (s : ByteArray) (σ' : PS) (V : World → Value → Prop) (w : World) (e : Ending) (w' : World) : Prop := ∃ v, e = .returned v ∧ V w' v ∧ PW w' b s σ' ∧ Kept (· = b) w w'
def RErr (b : Nat) (r : ER) (w : World) (e : Ending) (w' : World) : Prop := e = .panicked [pan r.1 r.2] ∧ Kept (· = b) w w'
def RPost {α : Type} (b : Nat) (s : ByteArray) (V : α → World → Value → Prop) (q : Except ER (α × PS)) (w : World) (e : Ending) (w' : World) : Prop :=
 match q with
 | .error r => RErr b r w e w'
 | .ok (a, σ') => ROk b s σ' (V a) w e w'
theorem RPost.ok {α : Type} {b : Nat} {s : ByteArray} {V : α → World → Value → Prop} {q : Except ER (α × PS)} {a : α} {σ' : PS} {w : World} {e : Ending} {w' : World} (hq : q = .ok (a, σ')) (h : ROk b s σ' (V a) w e w') : RPost b s V q w e w' := by
 rw [hq]; exact h
theorem RPost.err {α : Type} {b : Nat} {s : ByteArray} {V : α → World → Value → Prop} {q : Except ER (α × PS)} {r : ER} {w : World} {e : Ending} {w' : World} (hq : q = .error r) (h : RErr b r w e w') : RPost b s V q w e w' := by
 rw [hq]; exact h
theorem RPost.getErr {α : Type} {b : Nat} {s : ByteArray} {V : α → World → Value → Prop} {q : Except ER (α × PS)} {r : ER} {w : World} {e : Ending} {w' : World} (h : RPost b s V q w e w') (hq : q = .error r) : RErr b r w e w' := by
 rw [hq] at h; exact h
theorem RPost.getOk {α : Type} {b : Nat} {s : ByteArray} {V : α → World → Value → Prop} {q : Except ER (α × PS)} {a : α} {σ' : PS} {w : World} {e : Ending} {w' : World} (h : RPost b s V q w e w') (hq : q = .ok (a, σ')) : ROk b s σ' (V a) w e w' := by
 rw [hq] at h; exact h
def mu (s : ByteArray) (σ : PS) : Nat := (s.size - σ.p) + (if σ.k = 0 then 0 else 1)
theorem word_grow (s : ByteArray) (fr : Nat) (h : fr < s.size) (hc : inWordB s[fr].toNat = true) : fr < wend s fr := by
 have e : wend s fr = scan inWordB s (fr + 1) := scan_yes _ s fr h hc
 have := (scan_spec inWordB s (fr + 1) (by omega)).1
 omega
theorem wordTo_ge (s : ByteArray) (fr : Nat) : wend s fr ≤ wordTo s fr := by
 unfold wordTo
 split
 ·exact Nat.le_refl _
 ·split
  ·split
   ·omega
   ·exact Nat.le_refl _
  ·exact Nat.le_refl _
theorem signs_pos : ∀ x ∈ signs, 0 < x.size := by decide
theorem tok_grow {s : ByteArray} {fr : Nat} {t : Nat × Int × ByteArray × Int} (ht : tokAt s fr = some t) : fr ≤ t.1 ∧ (t.2.1 ≠ 0 → fr < t.1) := by
 unfold tokAt at ht
 split at ht
 ·rename_i hlt
  split at ht
  ·rename_i hl
   split at ht
   ·cases ht
   ·cases ht
    have h1 := word_grow s fr hlt (by unfold inWordB; rw [hl]; rfl)
    have h2 := wordTo_ge s fr
    exact ⟨by omega, fun _ => by omega⟩
  ·split at ht
   ·rename_i hl hd
    have h1 := word_grow s fr hlt (by unfold inWordB; rw [hd]; simp)
    cases hn : numTok (s.extract fr (wend s fr)) with
    | none => rw [hn] at ht; cases ht
    | some v => rw [hn] at ht; cases ht; exact ⟨by show fr ≤ wend s fr; omega, fun _ => h1⟩
   ·split at ht
    ·cases ht
    ·rename_i hi
     cases ht
     rcases sIdx_cases (s.data.toList.drop fr) signs with h1 | ⟨j, hj, h1, hp⟩
     ·rw [h1] at hi; exact absurd (by decide) hi
     ·rw [h1, Int.toNat_natCast, List.getD_eq_getElem?_getD, List.getElem?_eq_getElem hj]
      have := signs_pos _ (List.getElem_mem hj)
      simp only [Option.getD_some]
      exact ⟨by omega, fun _ => by omega⟩
 ·cases ht; exact ⟨Nat.le_refl _, fun h => absurd rfl h⟩
theorem mu_adv {s : ByteArray} {σ σ' : PS} (hp : σ.p ≤ s.size) (hk : σ.k ≠ 0) (h : advS s σ = .ok σ') : mu s σ' < mu s σ := by
 unfold advS at h
 have h1 := (scan_spec blankB s σ.p hp).1
 have h2 := (scan_spec blankB s σ.p hp).2.1
 cases ht : tokAt s (skip s σ.p) with
 | none => rw [ht] at h; cases h
 | some t =>
  rw [ht] at h; cases h
  have hg := tok_grow ht
  have hl := tokAt_le (skip_le s σ.p hp) ht
  unfold mu
  simp only
  rw [if_neg hk]
  have e : skip s σ.p = scan blankB s σ.p := rfl
  by_cases h0 : t.2.1 = 0
  ·rw [if_pos h0]; omega
  ·rw [if_neg h0]; have := hg.2 h0; omega
theorem isS_ne {σ : PS} {t : ByteArray} (h : isS σ t = true) : σ.k ≠ 0 := by
 unfold isS isB at h
 intro h0
 rw [h0] at h
 simp at h
theorem mu_open {s : ByteArray} {σ σ' : PS} {t : ByteArray} (hp : σ.p ≤ s.size) (h : openS s σ t = .ok σ') : mu s σ' < mu s σ := by
 unfold openS at h
 split at h
 ·split at h
  ·cases h
  ·rename_i hi _
   exact mu_adv (σ := { σ with nest := σ.nest + 1 }) hp (isS_ne hi) h
 ·cases h
theorem mu_want {s : ByteArray} {σ σ' : PS} {t : ByteArray} (hp : σ.p ≤ s.size) (h : wantS s σ t = .ok σ') : mu s σ' < mu s σ := by
 unfold wantS eatS at h
 cases hi : isS σ t
 ·rw [hi] at h; cases h
 ·rw [hi, if_pos rfl] at h
  cases ha : advS s σ with
  | error r => rw [ha] at h; cases h
  | ok σ1 => rw [ha] at h; cases h; exact mu_adv hp (isS_ne hi) ha
theorem open_nest {s : ByteArray} {σ σ' : PS} {t : ByteArray} (h : openS s σ t = .ok σ') : σ'.nest = σ.nest + 1 := by
 unfold openS at h
 split at h
 ·split at h
  ·cases h
  ·exact adv_nest h
 ·cases h
theorem shut_nest {s : ByteArray} {σ σ' : PS} {t : ByteArray} (h : shutS s σ t = .ok σ') : σ'.nest = σ.nest - 1 := by
 unfold shutS at h
 cases he : wantS s σ t with
 | error r => rw [he] at h; cases h
 | ok σ1 => rw [he] at h; cases h; show σ1.nest - 1 = _; rw [want_nest he]
theorem typed_nest (f : Nat) : ∀ {s : ByteArray} {σ σ' : PS} {t : Ty}, typedS f s σ = .ok (t, σ') → σ'.nest = σ.nest := by
 induction f with
 | zero => intro s σ σ' t h; cases h
 | succ f ih =>
  intro s σ σ' t h
  unfold typedS at h
  repeat' split at h
  all_goals first
   | (cases h; done)
   | (cases h; exact adv_nest ‹_›)
   | (cases h
      have h1 := adv_nest ‹advS s σ = _›
      have h2 := open_nest ‹_›
      have h3 := ih ‹_›
      have h4 := shut_nest ‹_›
      omega)
   | skip
  rename_i _ _ _ _ _ σa ha _ σb hb _ ta σc hc _ σd hd _ tb σe he _ σf hf
  cases h
  have h1 := adv_nest ha
  have h2 := open_nest hb
  have h3 := ih hc
  have h4 := want_nest hd
  have h5 := ih he
  have h6 := shut_nest hf
  omega
def VTy (n : Nat) (t : Ty) (w : World) (v : Value) : Prop := TyV (fun k => n ≤ k) w t v
def VTm (n : Nat) (t : Tm) (w : World) (v : Value) : Prop := TmV (fun k => n ≤ k) w t v
theorem load_ty {W : World} {R : Nat} {t : Ty} {tk : Value} (hb : Blk W R 26 [.int .i64 t.kind, .string t.name, tk]) : (loadVar 26 ⟨R, 0, none⟩).run Tryz.prog W = .ok (tyVal t tk) W :=
 run_loadVar_mid W R 0 26 _ _ hb.rangeAt Tryz.underlying26 rfl (by kernel_rfl)
theorem load_tm {W : World} {R : Nat} {t : Tm} {tk kk : Value} (hb : Blk W R 28 (tmCells t tk kk)) : (loadVar 28 ⟨R, 0, none⟩).run Tryz.prog W = .ok (tmVal t tk kk) W :=
 run_loadVar_mid W R 0 28 _ _ hb.rangeAt Tryz.underlying28 rfl (by kernel_rfl)
theorem ret_ty {b : Nat} {s : ByteArray} {q : Except ER (Ty × PS)} {σ' : PS} {w W : World} {t : Ty} {tk : Value} {R : Nat} {a : Act} (hq : q = .ok (t, σ')) (hR : a.tmps.getD 2 undef = .pointer (some ⟨R, 0, none⟩)) (hd : a.defers = [])
  (hb : Blk W R 26 [.int .i64 t.kind, .string t.name, tk]) (hk : TyL (fun k => w.heap.size ≤ k) W t.kids tk) (hp : PW W b s σ') (hkp : Kept (· = b) w W) : bodyPost Tryz.prog Tryz.f222 (RPost b s (VTy w.heap.size) q w) Exit.ret a W :=
 bodyPost_ret (results_one Tryz.results222 hR (load_ty hb)) hd (RPost.ok hq ⟨_, rfl, ⟨tk, rfl, hk⟩, hp, hkp⟩)
theorem r3 {W : World} {R : Nat} {l : List Value} {x y z : Value} (h : Blk W R 26 l) (hl : l.length = 3) : Blk (((W.setCell ⟨R, 0, none⟩ x).setCell ⟨R, 1, none⟩ y).setCell ⟨R, 2, none⟩ z) R 26 [x, y, z] := by
 match l, hl with
 | [a, c, d], _ => exact ((h.set 0 x).set 1 y).set 2 z
theorem p3w {W : World} {b : Nat} {s : ByteArray} {σ : PS} {R : Nat} {x y z : Value} (h : PW W b s σ) (hb : R ≠ b) (h2 : 4 ≤ R) : PW (((W.setCell ⟨R, 0, none⟩ x).setCell ⟨R, 1, none⟩ y).setCell ⟨R, 2, none⟩ z) b s σ :=
 ((h.store (p := ⟨R, 0, none⟩) hb h2 x).store (p := ⟨R, 1, none⟩) hb h2 y).store (p := ⟨R, 2, none⟩) hb h2 z
theorem k3w {w W : World} {b R : Nat} {x y z : Value} (h : Kept (· = b) w W) (hR : w.heap.size ≤ R) : Kept (· = b) w (((W.setCell ⟨R, 0, none⟩ x).setCell ⟨R, 1, none⟩ y).setCell ⟨R, 2, none⟩ z) :=
 ((h.setCell (p := ⟨R, 0, none⟩) (Or.inr hR) x).setCell (p := ⟨R, 1, none⟩) (Or.inr hR) y).setCell (p := ⟨R, 2, none⟩) (Or.inr hR) z
theorem same3 {W : World} {n R : Nat} {x y z : Value} (h : R < n) : Same (fun k => n ≤ k) W (((W.setCell ⟨R, 0, none⟩ x).setCell ⟨R, 1, none⟩ y).setCell ⟨R, 2, none⟩ z) := by
 intro k hk _
 rw [Below.heap_setCell _ _ _ _ (by show k ≠ R; omega), Below.heap_setCell _ _ _ _ (by show k ≠ R; omega), Below.heap_setCell _ _ _ _ (by show k ≠ R; omega)]
theorem Same.alloc {ok : Nat → Prop} (W : World) (o : Obj) : Same ok W (W.alloc o) := fun _ _ hl => Below.heap_alloc _ _ _ hl
theorem Same.trans {ok : Nat → Prop} {a c d : World} (h : Same ok a c) (h' : Same ok c d) (hz : a.heap.size ≤ c.heap.size) : Same ok a d := fun k hk hl => (h' k hk (by omega)).trans (h k hk hl)
theorem Same.mono {ok ok' : Nat → Prop} {a c : World} (h : Same ok a c) (ho : ∀ k, ok' k → ok k) : Same ok' a c := fun k hk hl => h k (ho k hk) hl
theorem Blk.new' {w : World} {g : Nat} (t : TypeId) (l : List Value) (h : g = w.heap.size) : Blk (w.alloc (.cells l.toArray t)) g t l := h ▸ Blk.new w t l
theorem TyL.slice {ok : Nat → Prop} {w : World} {l : List Ty} {v : Value} (h : TyL ok w l v) : ∃ a n c, v = .slice a n c := by
 cases h with
 | nil h => rcases h with rfl | ⟨a, c, rfl⟩ <;> exact ⟨_, _, _, rfl⟩
 | mk K hne hb hc hcell hk => exact ⟨_, _, _, rfl⟩
theorem TmL.slice {ok : Nat → Prop} {w : World} {l : List Tm} {v : Value} (h : TmL ok w l v) : ∃ a n c, v = .slice a n c := by
 cases h with
 | nil h => rcases h with rfl | ⟨a, c, rfl⟩ <;> exact ⟨_, _, _, rfl⟩
 | mk K M hne hb hc hcell hk hm => exact ⟨_, _, _, rfl⟩
def z24 : List Value := [.int .i64 0, .string ⟨#[]⟩, .slice none 0 0]
theorem typed_car {w : World} {b : Nat} {s : ByteArray} {σ : PS} {f : Nat} (h : PW w b s σ) (hk : (σ.k == 1) = true) (hi : identB σ.tx = true) :
  Calls Tryz.prog 222 #[.pointer (some ⟨b, 0, none⟩)] w (RPost b s (VTy w.heap.size) (typedS (f + 1) s σ) w) := by
 have h0 := h.alloc (.cells #[.int .i64 0, .string ⟨#[]⟩, .slice none 0 0] 26)
 have c2 := h0.kd
 have c3 := h0.txt
 have ht := h.tx
 have hlt := h.lt
 have hgl := h.gl.lt
 have hB : Blk (w.alloc (.cells #[.int .i64 0, .string ⟨#[]⟩, .slice none 0 0] 26)) w.heap.size 26 z24 := Blk.new w 26 z24
 have K0 : Kept (· = b) w (w.alloc (.cells #[.int .i64 0, .string ⟨#[]⟩, .slice none 0 0] 26)) := (Kept.refl _ _).alloc _
 have HC := Ld (show σ.k = 1 ∧ identB σ.tx = true from ⟨eq_of_beq hk, hi⟩)
 cases ha : advS s σ with
 | error r =>
  have hq : Hid (typedS (f + 1) s σ = .error r) := Ld (by unfold typedS; rw [if_pos HC.out, ha])
  go_enter Tryz.func222, Tryz.ntmps222
  go_wp2_with (first | (go_at_call 132; refine (ident_t hi ht _).mono ?_; rintro e w' ⟨rfl, rfl⟩) | (go_at_call 146; refine (adv_err h0 ha).mono ?_; rintro e w' ⟨rfl, hk'⟩))
  exact ⟨rfl, RPost.err hq.out ⟨rfl, K0.trans hk'⟩⟩
 | ok σ1 =>
  have hq : Hid (typedS (f + 1) s σ = .ok (.mk 3 σ.tx [], σ1)) := Ld (by unfold typedS; rw [if_pos HC.out, ha])
  go_enter Tryz.func222, Tryz.ntmps222
  go_wp2_with (go_at_call 132; refine (ident_t hi ht _).mono ?_; rintro e w' ⟨rfl, rfl⟩)
  refine (adv_ok h0 ha).mono ?_
  rintro e w1 ⟨rfl, p1, k1⟩
  have hB1 := hB.kept k1 (by show ¬ w.heap.size = b; omega)
  have g0 : w1.cell? ⟨w.heap.size, 0, none⟩ = some (.int .i64 0) := hB1.cell 0
  have g1 : w1.cell? ⟨w.heap.size, 1, none⟩ = some (.string ⟨#[]⟩) := hB1.cell 1
  have g2 : w1.cell? ⟨w.heap.size, 2, none⟩ = some (.slice none 0 0) := hB1.cell 2
  have f0 : w1.frozen? ⟨w.heap.size, 0, none⟩ = false := hB1.frozen 0
  have f1 : w1.frozen? ⟨w.heap.size, 1, none⟩ = false := hB1.frozen 1
  have f2 : w1.frozen? ⟨w.heap.size, 2, none⟩ = false := hB1.frozen 2
  go_wp2_with fail
  exact ret_ty hq.out rfl rfl (r3 hB1 rfl) (.nil (Or.inl rfl)) (p3w p1 (by omega) (by omega)) (k3w (K0.trans k1) (Nat.le_refl _))
def NoId (σ : PS) : Prop := ¬ (σ.k = 1 ∧ identB σ.tx = true)
theorem typed_int {w : World} {b : Nat} {s : ByteArray} {σ : PS} {f : Nat} (h : PW w b s σ) {c : Bool} (hk : (σ.k == 1) = c) {d : Bool} (hi : identB σ.tx = d) (hn : Hid (NoId σ)) (hcd : (c && d) = false) (hI : isS σ kInt = true) :
  Calls Tryz.prog 222 #[.pointer (some ⟨b, 0, none⟩)] w (RPost b s (VTy w.heap.size) (typedS (f + 1) s σ) w) := by
 have h0 := h.alloc (.cells #[.int .i64 0, .string ⟨#[]⟩, .slice none 0 0] 26)
 have c2 := h0.kd
 have c3 := h0.txt
 have ht := h.tx
 have hlt := h.lt
 have hgl := h.gl.lt
 have hB : Blk (w.alloc (.cells #[.int .i64 0, .string ⟨#[]⟩, .slice none 0 0] 26)) w.heap.size 26 z24 := Blk.new w 26 z24
 have K0 : Kept (· = b) w (w.alloc (.cells #[.int .i64 0, .string ⟨#[]⟩, .slice none 0 0] 26)) := (Kept.refl _ _).alloc _
 cases c <;> cases d
 case true.true => cases hcd
 all_goals
  clear hcd
  cases ha : advS s σ with
  | error r =>
   have hq : Hid (typedS (f + 1) s σ = .error r) := Ld (by unfold typedS; rw [if_neg hn.out, if_pos hI, ha])
   go_enter Tryz.func222, Tryz.ntmps222
   go_wp2_with (first | (go_at_call 132; refine (ident_t hi ht _).mono ?_; rintro e w' ⟨rfl, rfl⟩) | (go_at_call 148; refine (eat_bad h0 kInt hI ha).mono ?_; rintro e w' ⟨rfl, hk'⟩))
   exact ⟨rfl, RPost.err hq.out ⟨rfl, K0.trans hk'⟩⟩
  | ok σ1 =>
   have hq : Hid (typedS (f + 1) s σ = .ok (.mk 1 ⟨#[]⟩ [], σ1)) := Ld (by unfold typedS; rw [if_neg hn.out, if_pos hI, ha])
   go_enter Tryz.func222, Tryz.ntmps222
   go_wp2_with (go_at_call 132; refine (ident_t hi ht _).mono ?_; rintro e w' ⟨rfl, rfl⟩)
   refine (eat_yes h0 kInt hI ha).mono ?_
   rintro e w1 ⟨rfl, p1, k1⟩
   have hB1 := hB.kept k1 (by show ¬ w.heap.size = b; omega)
   have g0 : w1.cell? ⟨w.heap.size, 0, none⟩ = some (.int .i64 0) := hB1.cell 0
   have g1 : w1.cell? ⟨w.heap.size, 1, none⟩ = some (.string ⟨#[]⟩) := hB1.cell 1
   have g2 : w1.cell? ⟨w.heap.size, 2, none⟩ = some (.slice none 0 0) := hB1.cell 2
   have f0 : w1.frozen? ⟨w.heap.size, 0, none⟩ = false := hB1.frozen 0
   have f1 : w1.frozen? ⟨w.heap.size, 1, none⟩ = false := hB1.frozen 1
   have f2 : w1.frozen? ⟨w.heap.size, 2, none⟩ = false := hB1.frozen 2
   go_wp2_with fail
   exact ret_ty hq.out rfl rfl (r3 hB1 rfl) (.nil (Or.inl rfl)) (p3w p1 (by omega) (by omega)) (k3w (K0.trans k1) (Nat.le_refl _))
theorem typed_none {w : World} {b : Nat} {s : ByteArray} {σ : PS} {f : Nat} (h : PW w b s σ) {c : Bool} (hk : (σ.k == 1) = c) {d : Bool} (hi : identB σ.tx = d) (hn : Hid (NoId σ)) (hcd : (c && d) = false) (hI : isS σ kInt = false) (hS : isS σ kSet = false) (hP : isS σ kPair = false) :
  Calls Tryz.prog 222 #[.pointer (some ⟨b, 0, none⟩)] w (RPost b s (VTy w.heap.size) (typedS (f + 1) s σ) w) := by
 have h0 := h.alloc (.cells #[.int .i64 0, .string ⟨#[]⟩, .slice none 0 0] 26)
 have c2 := h0.kd
 have c3 := h0.txt
 have ht := h.tx
 have hlt := h.lt
 have hgl := h.gl.lt
 have hB : Blk (w.alloc (.cells #[.int .i64 0, .string ⟨#[]⟩, .slice none 0 0] 26)) w.heap.size 26 z24 := Blk.new w 26 z24
 have K0 : Kept (· = b) w (w.alloc (.cells #[.int .i64 0, .string ⟨#[]⟩, .slice none 0 0] 26)) := (Kept.refl _ _).alloc _
 have hq : Hid (typedS (f + 1) s σ = .error (false, σ.ta)) := Ld (by unfold typedS; rw [if_neg hn.out, if_neg (by rw [hI]; simp), if_neg (by rw [hS]; simp), if_neg (by rw [hP]; simp)])
 cases c <;> cases d
 case true.true => cases hcd
 all_goals
  clear hcd
  go_enter Tryz.func222, Tryz.ntmps222
  go_wp2_with (go_at_call 132; refine (ident_t hi ht _).mono ?_; rintro e w' ⟨rfl, rfl⟩)
  refine (eat_no h0 kInt hI).mono ?_
  rintro e w' ⟨rfl, rfl⟩
  go_wp2_with fail
  refine (eat_no h0 kSet hS).mono ?_
  rintro e w' ⟨rfl, rfl⟩
  go_wp2_with fail
  refine (eat_no h0 kPair hP).mono ?_
  rintro e w' ⟨rfl, rfl⟩
  go_wp2_with fail
  refine (fail_any h0).mono ?_
  rintro e w' ⟨rfl, rfl⟩
  go_wp2_with fail
  exact ⟨rfl, RPost.err hq.out ⟨rfl, K0⟩⟩
theorem typed_set {w : World} {b : Nat} {s : ByteArray} {σ : PS} {f : Nat} (ih : ∀ (σ : PS) (w : World), PW w b s σ → mu s σ < f → Calls Tryz.prog 222 #[.pointer (some ⟨b, 0, none⟩)] w (RPost b s (VTy w.heap.size) (typedS f s σ) w)) (hmu : mu s σ < f + 1)
  (h : PW w b s σ) {c : Bool} (hk : (σ.k == 1) = c) {d : Bool} (hi : identB σ.tx = d) (hn : Hid (NoId σ)) (hcd : (c && d) = false) (hI : isS σ kInt = false) (hS : isS σ kSet = true) :
  Calls Tryz.prog 222 #[.pointer (some ⟨b, 0, none⟩)] w (RPost b s (VTy w.heap.size) (typedS (f + 1) s σ) w) := by
 have IH := Ld ih
 clear ih
 have h0 := h.alloc (.cells #[.int .i64 0, .string ⟨#[]⟩, .slice none 0 0] 26)
 have c2 := h0.kd
 have c3 := h0.txt
 have ht := h.tx
 have hlt := h.lt
 have hgl := h.gl.lt
 have hB : Blk (w.alloc (.cells #[.int .i64 0, .string ⟨#[]⟩, .slice none 0 0] 26)) w.heap.size 26 z24 := Blk.new w 26 z24
 have K0 : Kept (· = b) w (w.alloc (.cells #[.int .i64 0, .string ⟨#[]⟩, .slice none 0 0] 26)) := (Kept.refl _ _).alloc _
 cases c <;> cases d
 case true.true => cases hcd
 all_goals
  clear hcd
  go_enter Tryz.func222, Tryz.ntmps222
  go_wp2_with (go_at_call 132; refine (ident_t hi ht _).mono ?_; rintro e w' ⟨rfl, rfl⟩)
  refine (eat_no h0 kInt hI).mono ?_
  rintro e w' ⟨rfl, rfl⟩
  go_wp2_with fail
  cases ha : advS s σ with
  | error r =>
   have hq : Hid (typedS (f + 1) s σ = .error r) := Ld (by unfold typedS; rw [if_neg hn.out, if_neg (by rw [hI]; simp), if_pos hS, ha])
   refine (eat_bad h0 kSet hS ha).mono ?_
   rintro e w1 ⟨rfl, k1⟩
   go_wp2_with fail
   exact ⟨rfl, RPost.err hq.out ⟨rfl, K0.trans k1⟩⟩
  | ok σ1 =>
   have m1 := mu_adv h.le (isS_ne hS) ha
   refine (eat_yes h0 kSet hS ha).mono ?_
   rintro e w1 ⟨rfl, p1, k1⟩
   go_wp2_with fail
   cases ho : openS s σ1 kLpar with
   | error r =>
    have hq : Hid (typedS (f + 1) s σ = .error r) := Ld (by unfold typedS; rw [if_neg hn.out, if_neg (by rw [hI]; simp), if_pos hS, ha]; simp only [ho])
    refine (open_err p1 kLpar ho).mono ?_
    rintro e w2 ⟨rfl, k2⟩
    go_wp2_with fail
    exact ⟨rfl, RPost.err hq.out ⟨rfl, (K0.trans k1).trans k2⟩⟩
   | ok σ2 =>
    have m2 := mu_open p1.le ho
    have n2 := open_nest ho
    refine (open_ok p1 kLpar ho).mono ?_
    rintro e w2 ⟨rfl, p2, k2⟩
    go_wp2_with fail
    refine (IH.out _ _ p2 (by omega)).mono ?_
    rintro e w3 hr
    cases htt : typedS f s σ2 with
    | error r =>
     have hq : Hid (typedS (f + 1) s σ = .error r) := Ld (by unfold typedS; rw [if_neg hn.out, if_neg (by rw [hI]; simp), if_pos hS, ha]; simp only [ho, htt])
     obtain ⟨rfl, k3⟩ := hr.getErr htt
     clear hr
     go_wp2_with fail
     exact ⟨rfl, RPost.err hq.out ⟨rfl, ((K0.trans k1).trans k2).trans k3⟩⟩
    | ok q =>
     obtain ⟨t, σ3⟩ := q
     obtain ⟨v, rfl, ⟨tk, rfl, htk⟩, p3, k3⟩ := hr.getOk htt
     have n3 := typed_nest f htt
     clear hr
     obtain ⟨ta, tn, tc, rfl⟩ := htk.slice
     unfold tyVal
     have hB3 := ((hB.kept k1 (by show ¬ w.heap.size = b; omega)).kept k2 (by show ¬ w.heap.size = b; omega)).kept k3 (by show ¬ w.heap.size = b; omega)
     have KK := ((K0.trans k1).trans k2).trans k3
     have z3 := KK.size
     have hb3 := p3.lt
     have HN := Ld (show 1 ≤ σ3.nest by omega)
     clear n2 n3
     have h4 := p3.alloc (.cells #[.int .i64 t.kind, .string t.name, .slice ta tn tc] 26)
     have K4 := KK.alloc (.cells #[.int .i64 t.kind, .string t.name, .slice ta tn tc] 26)
     have hB4 := hB3.alloc (.cells #[.int .i64 t.kind, .string t.name, .slice ta tn tc] 26)
     have hT4 : Blk (w3.alloc (.cells #[.int .i64 t.kind, .string t.name, .slice ta tn tc] 26)) w3.heap.size 26 [.int .i64 t.kind, .string t.name, .slice ta tn tc] := Blk.new w3 26 _
     have t4 := htk.frame (Same.alloc _ (.cells #[.int .i64 t.kind, .string t.name, .slice ta tn tc] 26))
     have z2 := ((K0.trans k1).trans k2).size
     have hb2 := p2.lt
     have hR2 := ((hB.kept k1 (by show ¬ w.heap.size = b; omega)).kept k2 (by show ¬ w.heap.size = b; omega)).lt
     have hRlt := hB3.lt
     go_wp2_with fail
     cases hs : shutS s σ3 kRpar with
     | error r =>
      have hq : Hid (typedS (f + 1) s σ = .error r) := Ld (by unfold typedS; rw [if_neg hn.out, if_neg (by rw [hI]; simp), if_pos hS, ha]; simp only [ho, htt, hs])
      refine (shut_err h4 kRpar hs).mono ?_
      rintro e w4 ⟨rfl, k4⟩
      go_wp2_with fail
      exact ⟨rfl, RPost.err hq.out ⟨rfl, K4.trans k4⟩⟩
     | ok σ4 =>
      have hq : Hid (typedS (f + 1) s σ = .ok (.mk 5 ⟨#[]⟩ [t], σ4)) := Ld (by unfold typedS; rw [if_neg hn.out, if_neg (by rw [hI]; simp), if_pos hS, ha]; simp only [ho, htt, hs])
      refine (shut_ok h4 HN.out kRpar hs).mono ?_
      rintro e w4 ⟨rfl, p4, k4⟩
      have hR := hB4.kept k4 (by show ¬ w.heap.size = b; omega)
      have hT := hT4.kept k4 (by show ¬ w3.heap.size = b; omega)
      have t5 := t4.frame (Same.of_kept k4 (fun k h e => by omega))
      have K5 := K4.trans k4
      have g0 : w4.cell? ⟨w.heap.size, 0, none⟩ = some (.int .i64 0) := hR.cell 0
      have g1 : w4.cell? ⟨w.heap.size, 1, none⟩ = some (.string ⟨#[]⟩) := hR.cell 1
      have g2 : w4.cell? ⟨w.heap.size, 2, none⟩ = some (.slice none 0 0) := hR.cell 2
      have f0 : w4.frozen? ⟨w.heap.size, 0, none⟩ = false := hR.frozen 0
      have f1 : w4.frozen? ⟨w.heap.size, 1, none⟩ = false := hR.frozen 1
      have f2 : w4.frozen? ⟨w.heap.size, 2, none⟩ = false := hR.frozen 2
      have y0 : w4.cell? ⟨w3.heap.size, 0, none⟩ = some (.int .i64 t.kind) := hT.cell 0
      have y1 : w4.cell? ⟨w3.heap.size, 1, none⟩ = some (.string t.name) := hT.cell 1
      have y2 : w4.cell? ⟨w3.heap.size, 2, none⟩ = some (.slice ta tn tc) := hT.cell 2
      have l4 : w.heap.size < w4.heap.size := hR.lt
      go_wp2_with fail
      refine ret_ty hq.out rfl rfl ((r3 hR rfl).alloc _) ?_ ((p3w p4 (by omega) (by omega)).alloc _) ((k3w K5 (Nat.le_refl _)).alloc _)
      refine TyL.one (r := []) (ty := 26) (by omega) (Nat.le_refl _) (Blk.new' 26 _ (by simp)) ?_
      exact ((t5.frame (same3 (R := w.heap.size) hR2)).frame (Same.alloc _ _)).mono (fun k _ h => by omega)
theorem typed_pair {w : World} {b : Nat} {s : ByteArray} {σ : PS} {f : Nat} (ih : ∀ (σ : PS) (w : World), PW w b s σ → mu s σ < f → Calls Tryz.prog 222 #[.pointer (some ⟨b, 0, none⟩)] w (RPost b s (VTy w.heap.size) (typedS f s σ) w)) (hmu : mu s σ < f + 1)
  (hmono : ∀ {σ σ' : PS} {t : Ty}, σ.p ≤ s.size → typedS f s σ = .ok (t, σ') → mu s σ' ≤ mu s σ)
  (h : PW w b s σ) {c : Bool} (hk : (σ.k == 1) = c) {d : Bool} (hi : identB σ.tx = d) (hn : Hid (NoId σ)) (hcd : (c && d) = false) (hI : isS σ kInt = false) (hS : isS σ kSet = false) (hP : isS σ kPair = true) :
  Calls Tryz.prog 222 #[.pointer (some ⟨b, 0, none⟩)] w (RPost b s (VTy w.heap.size) (typedS (f + 1) s σ) w) := by
 have IH := Ld ih
 clear ih
 have h0 := h.alloc (.cells #[.int .i64 0, .string ⟨#[]⟩, .slice none 0 0] 26)
 have c2 := h0.kd
 have c3 := h0.txt
 have ht := h.tx
 have hlt := h.lt
 have hgl := h.gl.lt
 have hB : Blk (w.alloc (.cells #[.int .i64 0, .string ⟨#[]⟩, .slice none 0 0] 26)) w.heap.size 26 z24 := Blk.new w 26 z24
 have K0 : Kept (· = b) w (w.alloc (.cells #[.int .i64 0, .string ⟨#[]⟩, .slice none 0 0] 26)) := (Kept.refl _ _).alloc _
 cases c <;> cases d
 case true.true => cases hcd
 all_goals
  clear hcd
  go_enter Tryz.func222, Tryz.ntmps222
  go_wp2_with (go_at_call 132; refine (ident_t hi ht _).mono ?_; rintro e w' ⟨rfl, rfl⟩)
  refine (eat_no h0 kInt hI).mono ?_
  rintro e w' ⟨rfl, rfl⟩
  go_wp2_with fail
  refine (eat_no h0 kSet hS).mono ?_
  rintro e w' ⟨rfl, rfl⟩
  go_wp2_with fail
  cases ha : advS s σ with
  | error r =>
   have hq : Hid (typedS (f + 1) s σ = .error r) := Ld (by unfold typedS; rw [if_neg hn.out, if_neg (by rw [hI]; simp), if_neg (by rw [hS]; simp), if_pos hP, ha])
   refine (eat_bad h0 kPair hP ha).mono ?_
   rintro e w1 ⟨rfl, k1⟩
   go_wp2_with fail
   exact ⟨rfl, RPost.err hq.out ⟨rfl, K0.trans k1⟩⟩
  | ok σ1 =>
   have m1 := mu_adv h.le (isS_ne hP) ha
   refine (eat_yes h0 kPair hP ha).mono ?_
   rintro e w1 ⟨rfl, p1, k1⟩
   go_wp2_with fail
   cases ho : openS s σ1 kLpar with
   | error r =>
    have hq : Hid (typedS (f + 1) s σ = .error r) := Ld (by unfold typedS; rw [if_neg hn.out, if_neg (by rw [hI]; simp), if_neg (by rw [hS]; simp), if_pos hP, ha]; simp only [ho])
    refine (open_err p1 kLpar ho).mono ?_
    rintro e w2 ⟨rfl, k2⟩
    go_wp2_with fail
    exact ⟨rfl, RPost.err hq.out ⟨rfl, (K0.trans k1).trans k2⟩⟩
   | ok σ2 =>
    have m2 := mu_open p1.le ho
    have n2 := open_nest ho
    refine (open_ok p1 kLpar ho).mono ?_
    rintro e w2 ⟨rfl, p2, k2⟩
    go_wp2_with fail
    refine (IH.out _ _ p2 (by omega)).mono ?_
    rintro e w3 hr
    cases htt : typedS f s σ2 with
    | error r =>
     have hq : Hid (typedS (f + 1) s σ = .error r) := Ld (by unfold typedS; rw [if_neg hn.out, if_neg (by rw [hI]; simp), if_neg (by rw [hS]; simp), if_pos hP, ha]; simp only [ho, htt])
     obtain ⟨rfl, k3⟩ := hr.getErr htt
     clear hr
     go_wp2_with fail
     exact ⟨rfl, RPost.err hq.out ⟨rfl, ((K0.trans k1).trans k2).trans k3⟩⟩
    | ok q =>
     obtain ⟨t, σ3⟩ := q
     obtain ⟨v, rfl, ⟨tk, rfl, htk⟩, p3, k3⟩ := hr.getOk htt
     have n3 := typed_nest f htt
     have m3 := hmono p2.le htt
     clear hr
     obtain ⟨ta, tn, tc, rfl⟩ := htk.slice
     unfold tyVal
     have hB2 := (hB.kept k1 (by show ¬ w.heap.size = b; omega)).kept k2 (by show ¬ w.heap.size = b; omega)
     have hB3 := hB2.kept k3 (by show ¬ w.heap.size = b; omega)
     have KK := ((K0.trans k1).trans k2).trans k3
     have z3 := KK.size
     have hb2 := p2.lt
     have hR2 := hB2.lt
     have hb3 := p3.lt
     have h4 := p3.alloc (.cells #[.int .i64 t.kind, .string t.name, .slice ta tn tc] 26)
     have K4 := KK.alloc (.cells #[.int .i64 t.kind, .string t.name, .slice ta tn tc] 26)
     have hB4 := hB3.alloc (.cells #[.int .i64 t.kind, .string t.name, .slice ta tn tc] 26)
     have hT4 : Blk (w3.alloc (.cells #[.int .i64 t.kind, .string t.name, .slice ta tn tc] 26)) w3.heap.size 26 [.int .i64 t.kind, .string t.name, .slice ta tn tc] := Blk.new w3 26 _
     have t4 := htk.frame (Same.alloc _ (.cells #[.int .i64 t.kind, .string t.name, .slice ta tn tc] 26))
     have hRlt := hB3.lt
     go_wp2_with fail
     cases hw : wantS s σ3 kComma with
     | error r =>
      have hq : Hid (typedS (f + 1) s σ = .error r) := Ld (by unfold typedS; rw [if_neg hn.out, if_neg (by rw [hI]; simp), if_neg (by rw [hS]; simp), if_pos hP, ha]; simp only [ho, htt, hw])
      refine (want_err h4 kComma hw).mono ?_
      rintro e w4 ⟨rfl, k4⟩
      go_wp2_with fail
      exact ⟨rfl, RPost.err hq.out ⟨rfl, K4.trans k4⟩⟩
     | ok σ4 =>
      have m4 := mu_want p3.le hw
      have n4 := want_nest hw
      refine (want_ok h4 kComma hw).mono ?_
      rintro e w4 ⟨rfl, p4, k4⟩
      go_wp2_with fail
      have hB5 := hB4.kept k4 (by show ¬ w.heap.size = b; omega)
      have hT5 := hT4.kept k4 (by show ¬ w3.heap.size = b; omega)
      have t5 := t4.frame (Same.of_kept k4 (fun k h e => by omega))
      have K5 := K4.trans k4
      have hb4 := p4.lt
      have hT5lt := hT5.lt
      have z32 := k3.size
      have z4 := k4.size
      refine (IH.out _ _ p4 (by omega)).mono ?_
      rintro e w5 hr
      cases htu : typedS f s σ4 with
      | error r =>
       have hq : Hid (typedS (f + 1) s σ = .error r) := Ld (by unfold typedS; rw [if_neg hn.out, if_neg (by rw [hI]; simp), if_neg (by rw [hS]; simp), if_pos hP, ha]; simp only [ho, htt, hw, htu])
       obtain ⟨rfl, k5⟩ := hr.getErr htu
       clear hr
       go_wp2_with fail
       exact ⟨rfl, RPost.err hq.out ⟨rfl, K5.trans k5⟩⟩
      | ok q =>
       obtain ⟨u, σ5⟩ := q
       obtain ⟨v, rfl, ⟨uk, rfl, huk⟩, p5, k5⟩ := hr.getOk htu
       have n5 := typed_nest f htu
       clear hr
       obtain ⟨ua, un, uc, rfl⟩ := huk.slice
       unfold tyVal
       have hB6 := hB5.kept k5 (by show ¬ w.heap.size = b; omega)
       have hT6 := hT5.kept k5 (by show ¬ w3.heap.size = b; omega)
       have t6 := t5.frame (Same.of_kept k5 (fun k h e => by omega))
       have hb5 := p5.lt
       have hT6lt := hT6.lt
       have hB6lt := hB6.lt
       have HN := Ld (show 1 ≤ σ5.nest by omega)
       clear n2 n3 n4 n5
       have h7 := p5.alloc (.cells #[.int .i64 u.kind, .string u.name, .slice ua un uc] 26)
       have K7 := (K5.trans k5).alloc (.cells #[.int .i64 u.kind, .string u.name, .slice ua un uc] 26)
       have hB7 := hB6.alloc (.cells #[.int .i64 u.kind, .string u.name, .slice ua un uc] 26)
       have hT7 := hT6.alloc (.cells #[.int .i64 u.kind, .string u.name, .slice ua un uc] 26)
       have hU7 : Blk (w5.alloc (.cells #[.int .i64 u.kind, .string u.name, .slice ua un uc] 26)) w5.heap.size 26 [.int .i64 u.kind, .string u.name, .slice ua un uc] := Blk.new w5 26 _
       have t7 := t6.frame (Same.alloc _ (.cells #[.int .i64 u.kind, .string u.name, .slice ua un uc] 26))
       have u7 := huk.frame (Same.alloc _ (.cells #[.int .i64 u.kind, .string u.name, .slice ua un uc] 26))
       go_wp2_with fail
       cases hs : shutS s σ5 kRpar with
       | error r =>
        have hq : Hid (typedS (f + 1) s σ = .error r) := Ld (by unfold typedS; rw [if_neg hn.out, if_neg (by rw [hI]; simp), if_neg (by rw [hS]; simp), if_pos hP, ha]; simp only [ho, htt, hw, htu, hs])
        refine (shut_err h7 kRpar hs).mono ?_
        rintro e w8 ⟨rfl, k8⟩
        go_wp2_with fail
        exact ⟨rfl, RPost.err hq.out ⟨rfl, K7.trans k8⟩⟩
       | ok σ6 =>
        have hq : Hid (typedS (f + 1) s σ = .ok (.mk 4 ⟨#[]⟩ [t, u], σ6)) := Ld (by unfold typedS; rw [if_neg hn.out, if_neg (by rw [hI]; simp), if_neg (by rw [hS]; simp), if_pos hP, ha]; simp only [ho, htt, hw, htu, hs])
        refine (shut_ok h7 HN.out kRpar hs).mono ?_
        rintro e w8 ⟨rfl, p8, k8⟩
        have hR := hB7.kept k8 (by show ¬ w.heap.size = b; omega)
        have hT := hT7.kept k8 (by show ¬ w3.heap.size = b; omega)
        have hU := hU7.kept k8 (by show ¬ w5.heap.size = b; omega)
        have t8 := t7.frame (Same.of_kept k8 (fun k h e => by omega))
        have u8' := u7.frame (Same.of_kept k8 (fun k h e => by omega))
        have K8 := K7.trans k8
        have g0 : w8.cell? ⟨w.heap.size, 0, none⟩ = some (.int .i64 0) := hR.cell 0
        have g1 : w8.cell? ⟨w.heap.size, 1, none⟩ = some (.string ⟨#[]⟩) := hR.cell 1
        have g2 : w8.cell? ⟨w.heap.size, 2, none⟩ = some (.slice none 0 0) := hR.cell 2
        have f0 : w8.frozen? ⟨w.heap.size, 0, none⟩ = false := hR.frozen 0
        have f1 : w8.frozen? ⟨w.heap.size, 1, none⟩ = false := hR.frozen 1
        have f2 : w8.frozen? ⟨w.heap.size, 2, none⟩ = false := hR.frozen 2
        have y0 : w8.cell? ⟨w3.heap.size, 0, none⟩ = some (.int .i64 t.kind) := hT.cell 0
        have y1 : w8.cell? ⟨w3.heap.size, 1, none⟩ = some (.string t.name) := hT.cell 1
        have y2 : w8.cell? ⟨w3.heap.size, 2, none⟩ = some (.slice ta tn tc) := hT.cell 2
        have x0 : w8.cell? ⟨w5.heap.size, 0, none⟩ = some (.int .i64 u.kind) := hU.cell 0
        have x1 : w8.cell? ⟨w5.heap.size, 1, none⟩ = some (.string u.name) := hU.cell 1
        have x2 : w8.cell? ⟨w5.heap.size, 2, none⟩ = some (.slice ua un uc) := hU.cell 2
        have l8 : w.heap.size < w8.heap.size := hR.lt
        go_wp2_with fail
        refine ret_ty hq.out rfl rfl ((r3 hR rfl).alloc _) ?_ ((p3w p8 (by omega) (by omega)).alloc _) ((k3w K8 (Nat.le_refl _)).alloc _)
        refine TyL.two (ty := 26) (by omega) (Nat.le_refl _) (Blk.new' 26 _ (by simp)) ?_ ?_
        ·exact ((t8.frame (same3 (R := w.heap.size) hR2)).frame (Same.alloc _ _)).mono (fun k _ h => by omega)
        ·exact ((u8'.frame (same3 (R := w.heap.size) (by omega))).frame (Same.alloc _ _)).mono (fun k _ h => by omega)
theorem adv_le {s : ByteArray} {σ σ' : PS} (hp : σ.p ≤ s.size) (h : advS s σ = .ok σ') : σ'.p ≤ s.size := by
 unfold advS at h
 cases ht : tokAt s (skip s σ.p) with
 | none => rw [ht] at h; cases h
 | some t => rw [ht] at h; cases h; exact (tokAt_le (skip_le s σ.p hp) ht).1
theorem open_le {s : ByteArray} {σ σ' : PS} {t : ByteArray} (hp : σ.p ≤ s.size) (h : openS s σ t = .ok σ') : σ'.p ≤ s.size := by
 unfold openS at h
 split at h
 ·split at h
  ·cases h
  ·exact adv_le (σ := { σ with nest := σ.nest + 1 }) hp h
 ·cases h
theorem want_le {s : ByteArray} {σ σ' : PS} {t : ByteArray} (hp : σ.p ≤ s.size) (h : wantS s σ t = .ok σ') : σ'.p ≤ s.size := by
 unfold wantS eatS at h
 cases hi : isS σ t
 ·rw [hi] at h; cases h
 ·rw [hi, if_pos rfl] at h
  cases ha : advS s σ with
  | error r => rw [ha] at h; cases h
  | ok σ1 => rw [ha] at h; cases h; exact adv_le hp ha
theorem shut_mu {s : ByteArray} {σ σ' : PS} {t : ByteArray} (hp : σ.p ≤ s.size) (h : shutS s σ t = .ok σ') : mu s σ' < mu s σ ∧ σ'.p ≤ s.size := by
 unfold shutS at h
 cases hw : wantS s σ t with
 | error r => rw [hw] at h; cases h
 | ok σ1 => rw [hw] at h; cases h; exact ⟨(mu_want hp hw : mu s σ1 < mu s σ), (want_le hp hw : σ1.p ≤ s.size)⟩
theorem typed_mu (f : Nat) : ∀ {s : ByteArray} {σ σ' : PS} {t : Ty}, σ.p ≤ s.size → typedS f s σ = .ok (t, σ') → mu s σ' ≤ mu s σ ∧ σ'.p ≤ s.size := by
 induction f with
 | zero => intro s σ σ' t _ h; cases h
 | succ f ih =>
  intro s σ σ' t hp h
  unfold typedS at h
  repeat' split at h
  all_goals try (cases h; done)
  ·rename_i hc _ σ1 ha
   cases h
   exact ⟨Nat.le_of_lt (mu_adv hp (by rw [hc.1]; decide) ha), adv_le hp ha⟩
  ·rename_i hi _ σ1 ha
   cases h
   exact ⟨Nat.le_of_lt (mu_adv hp (isS_ne hi) ha), adv_le hp ha⟩
  ·rename_i _ _ hi _ σ1 ha _ σ2 hb _ t3 σ3 hc _ σ4 hd
   cases h
   have a1 := mu_adv hp (isS_ne hi) ha
   have b1 := adv_le hp ha
   have a2 := mu_open b1 hb
   have b2 := open_le b1 hb
   have a3 := ih b2 hc
   have a4 := shut_mu a3.2 hd
   exact ⟨by omega, a4.2⟩
  ·rename_i _ _ _ hi _ σ1 ha _ σ2 hb _ t3 σ3 hc _ σ4 hd _ t5 σ5 he _ σ6 hf
   cases h
   have a1 := mu_adv hp (isS_ne hi) ha
   have b1 := adv_le hp ha
   have a2 := mu_open b1 hb
   have b2 := open_le b1 hb
   have a3 := ih b2 hc
   have a4 := mu_want a3.2 hd
   have b4 := want_le a3.2 hd
   have a5 := ih b4 he
   have a6 := shut_mu a5.2 hf
   exact ⟨by omega, a6.2⟩
theorem typed_any (f : Nat) : ∀ {b : Nat} {s : ByteArray} (σ : PS) (w : World), PW w b s σ → mu s σ < f → Calls Tryz.prog 222 #[.pointer (some ⟨b, 0, none⟩)] w (RPost b s (VTy w.heap.size) (typedS f s σ) w) := by
 induction f with
 | zero => intro b s σ w _ h; omega
 | succ f ih =>
  intro b s σ w h hmu
  by_cases hc : σ.k = 1 ∧ identB σ.tx = true
  ·exact typed_car h (by rw [hc.1]; rfl) hc.2
  ·have hcd : ((σ.k == 1) && identB σ.tx) = false := by
    cases h1 : (σ.k == 1) <;> cases h2 : identB σ.tx <;> first | rfl | (exact absurd ⟨eq_of_beq h1, h2⟩ hc)
   cases hI : isS σ kInt
   ·cases hS : isS σ kSet
    ·cases hP : isS σ kPair
     ·exact typed_none h rfl rfl (Ld hc) hcd hI hS hP
     ·exact typed_pair (fun σ w => ih σ w) hmu (fun hp ht => (typed_mu f hp ht).1) h rfl rfl (Ld hc) hcd hI hS hP
    ·exact typed_set (fun σ w => ih σ w) hmu h rfl rfl (Ld hc) hcd hI hS
   ·exact typed_int h rfl rfl (Ld hc) hcd hI
def kidsN (op : Int) : Int × Bool :=
 if op = 1 ∨ op = 2 ∨ op = 19 ∨ op = 20 ∨ op = 29 then (0, true)
 else if op = 3 ∨ op = 21 ∨ (46 ≤ op ∧ op ≤ 52) then (1, true)
 else if op = 28 then (-1, true)
 else if 1 ≤ op ∧ op ≤ 56 then (2, true) else (0, false)
theorem kids_any (op : Int) (w : World) :
  Calls Tryz.prog 209 #[.int .i64 op] w fun e w' => e = .returned (.tuple #[.int .i64 (kidsN op).1, .bool (kidsN op).2]) ∧ w = w' := by
 by_cases h : op = 1 ∨ op = 2 ∨ op = 19 ∨ op = 20 ∨ op = 29 ∨ op = 3 ∨ op = 21 ∨ op = 52 ∨ op = 28
 ·rcases h with rfl | rfl | rfl | rfl | rfl | rfl | rfl | rfl | rfl
  all_goals
   go_enter Tryz.func209, Tryz.ntmps209
   go_wp2_with fail
   go_ret2
   exact ⟨rfl, rfl⟩
 ·by_cases h1 : 46 ≤ op ∧ op ≤ 51
  ·have hk := Ld (show kidsN op = (1, true) by unfold kidsN; rw [if_neg (by omega), if_pos (by omega)])
   obtain ⟨ha, hb⟩ := h1
   have n1 : (op == 1) = false := by simp; omega
   have n2 : (op == 2) = false := by simp; omega
   have n19 : (op == 19) = false := by simp; omega
   have n20 : (op == 20) = false := by simp; omega
   have n29 : (op == 29) = false := by simp; omega
   have n3 : (op == 3) = false := by simp; omega
   have n21 : (op == 21) = false := by simp; omega
   clear h
   go_enter Tryz.func209, Tryz.ntmps209
   go_wp2_with fail
   go_ret2
   exact ⟨by rw [hk.out]; rfl, rfl⟩
  ·have n1 : (op == 1) = false := by simp; omega
   have n2 : (op == 2) = false := by simp; omega
   have n19 : (op == 19) = false := by simp; omega
   have n20 : (op == 20) = false := by simp; omega
   have n29 : (op == 29) = false := by simp; omega
   have n3 : (op == 3) = false := by simp; omega
   have n21 : (op == 21) = false := by simp; omega
   have n52 : (op == 52) = false := by simp; omega
   have n28 : (op == 28) = false := by simp; omega
   cases a1 : decide (46 ≤ op) <;> cases a2 : decide (op ≤ 51) <;> cases a3 : decide (1 ≤ op) <;> cases a4 : decide (op ≤ 56)
   all_goals
    first
    | (exfalso; simp only [decide_eq_true_eq, decide_eq_false_iff_not] at a1 a2 a3 a4; omega)
    | (have hk := Ld (show kidsN op = (if 1 ≤ op ∧ op ≤ 56 then (2, true) else (0, false)) by
        simp only [decide_eq_true_eq, decide_eq_false_iff_not] at a1 a2 a3 a4
        unfold kidsN; rw [if_neg (by omega), if_neg (by omega), if_neg (by omega)])
       clear h h1
       go_enter Tryz.func209, Tryz.ntmps209
       go_wp2_with fail
       go_ret2
       refine ⟨?_, rfl⟩
       rw [hk.out]
       simp only [decide_eq_true_eq, decide_eq_false_iff_not] at a3 a4
       first
       | (rw [if_pos ⟨a3, a4⟩]; rfl)
       | (rw [if_neg (by omega)]; rfl))
def binderB (op : Int) : Bool := op == 8 || op == 9 || op == 55 || op == 56
theorem binder_any (op : Int) (w : World) :
  Calls Tryz.prog 65 #[.int .i64 op] w fun e w' => e = .returned (.bool (binderB op)) ∧ w = w' := by
 cases h1 : (op == 8) <;> cases h2 : (op == 9) <;> cases h3 : (op == 55) <;> cases h4 : (op == 56)
 all_goals
  have hk := Ld (show binderB op = _ by unfold binderB; rw [h1, h2, h3, h4])
  go_enter Tryz.func65, Tryz.ntmps65
  go_wp2_with fail
  go_ret
  exact ⟨by rw [hk.out]; rfl, rfl⟩
def fns : List (List UInt8) := [[80, 79, 87], [99, 97, 114, 100], [109, 105, 110], [109, 97, 120], [100, 111, 109], [114, 97, 110]]
def functionN (s : ByteArray) : Int := if s.toList ∈ fns then 46 + fns.idxOf s.toList else 0
theorem function_any (s : ByteArray) (w : World) :
  Calls Tryz.prog 220 #[.string s] w fun e w' => e = .returned (.int .i64 (functionN s)) ∧ w = w' := by
 cases h0 : (s.toList == [80, 79, 87]) 
 case true => 
  have hk := Ld (show functionN s = 46 by unfold functionN; rw [eq_of_beq h0]; rfl)
  go_enter Tryz.func220, Tryz.ntmps220
  go_wp2_with fail
  go_ret
  exact ⟨by rw [hk.out]; rfl, rfl⟩
 cases h1 : (s.toList == [99, 97, 114, 100]) 
 case true => 
  have hk := Ld (show functionN s = 47 by unfold functionN; rw [eq_of_beq h1]; rfl)
  go_enter Tryz.func220, Tryz.ntmps220
  go_wp2_with fail
  go_ret
  exact ⟨by rw [hk.out]; rfl, rfl⟩
 cases h2 : (s.toList == [109, 105, 110]) 
 case true => 
  have hk := Ld (show functionN s = 48 by unfold functionN; rw [eq_of_beq h2]; rfl)
  go_enter Tryz.func220, Tryz.ntmps220
  go_wp2_with fail
  go_ret
  exact ⟨by rw [hk.out]; rfl, rfl⟩
 cases h3 : (s.toList == [109, 97, 120]) 
 case true => 
  have hk := Ld (show functionN s = 49 by unfold functionN; rw [eq_of_beq h3]; rfl)
  go_enter Tryz.func220, Tryz.ntmps220
  go_wp2_with fail
  go_ret
  exact ⟨by rw [hk.out]; rfl, rfl⟩
 cases h4 : (s.toList == [100, 111, 109]) 
 case true => 
  have hk := Ld (show functionN s = 50 by unfold functionN; rw [eq_of_beq h4]; rfl)
  go_enter Tryz.func220, Tryz.ntmps220
  go_wp2_with fail
  go_ret
  exact ⟨by rw [hk.out]; rfl, rfl⟩
 cases h5 : (s.toList == [114, 97, 110]) 
 case true => 
  have hk := Ld (show functionN s = 51 by unfold functionN; rw [eq_of_beq h5]; rfl)
  go_enter Tryz.func220, Tryz.ntmps220
  go_wp2_with fail
  go_ret
  exact ⟨by rw [hk.out]; rfl, rfl⟩
 have hk := Ld (show functionN s = 0 by
  unfold functionN fns; rw [if_neg]
  simp only [beq_eq_false_iff_ne, ne_eq] at h0 h1 h2 h3 h4 h5
  simp only [List.mem_cons, List.not_mem_nil, h0, h1, h2, h3, h4, h5, or_self, not_false_eq_true])
 go_enter Tryz.func220, Tryz.ntmps220
 go_wp2_with fail
 go_ret
 exact ⟨by rw [hk.out]; rfl, rfl⟩
def kLbr : ByteArray := ⟨#[91]⟩
def kRbr : ByteArray := ⟨#[93]⟩
def kLcu : ByteArray := ⟨#[123]⟩
def kRcu : ByteArray := ⟨#[125]⟩
def kBar : ByteArray := ⟨#[124]⟩
def kDot : ByteArray := ⟨#[46]⟩
def kTilde : ByteArray := ⟨#[126]⟩
def kMinus : ByteArray := ⟨#[45]⟩
def kIn : ByteArray := ⟨#[105, 110]⟩
def kNot : ByteArray := ⟨#[110, 111, 116]⟩
def kTrue : ByteArray := ⟨#[116, 114, 117, 101]⟩
def kFalse : ByteArray := ⟨#[102, 97, 108, 115, 101]⟩
def kForall : ByteArray := ⟨#[102, 111, 114, 97, 108, 108]⟩
def kExists : ByteArray := ⟨#[101, 120, 105, 115, 116, 115]⟩
def kFun : ByteArray := ⟨#[102, 117, 110]⟩
def nil0 : ByteArray := ⟨#[]⟩
def nd (op : Int) (l : List Tm) : Tm := .mk op nil0 0 ty0 l
abbrev RT := Except ER (Tm × PS)
abbrev TF := Nat → PS → RT
def insideS (T : TF) (s o c : ByteArray) (σ : PS) : RT :=
 match openS s σ o with
 | .error r => .error r
 | .ok σ1 =>
  match T 1 σ1 with
  | .error r => .error r
  | .ok (t, σ2) =>
   match shutS s σ2 c with
   | .error r => .error r
   | .ok σ3 => .ok (t, σ3)
def boundS (T : TF) (s : ByteArray) (op : Int) (σ : PS) : RT :=
 match nameS s σ with
 | .error r => .error r
 | .ok (x, σ1) =>
  match wantS s σ1 kIn with
  | .error r => .error r
  | .ok σ2 =>
   match T 7 σ2 with
   | .error r => .error r
   | .ok (d, σ3) =>
    match wantS s σ3 kDot with
    | .error r => .error r
    | .ok σ4 =>
     match T 1 σ4 with
     | .error r => .error r
     | .ok (c, σ5) => .ok (.mk op x 0 ty0 [d, c], σ5)
def leafS (s : ByteArray) (t : Tm) (σ : PS) : RT :=
 match advS s σ with
 | .error r => .error r
 | .ok σ1 => .ok (t, σ1)
def binderS (T : TF) (s : ByteArray) (op : Int) (σ : PS) : RT :=
 match advS s σ with
 | .error r => .error r
 | .ok σ1 => boundS T s op σ1
def wordedS (T : TF) (s : ByteArray) (σ : PS) : RT :=
 match keywordB σ.tx with
 | false => leafS s (.mk 20 σ.tx 0 ty0 []) σ
 | true =>
  match (functionN σ.tx != 0) with
  | true =>
   match advS s σ with
   | .error r => .error r
   | .ok σ1 =>
    match insideS T s kLpar kRpar σ1 with
    | .error r => .error r
    | .ok (t, σ2) => .ok (nd (functionN σ.tx) [t], σ2)
  | false =>
   match isS σ kTrue with
   | true => leafS s (nd 1 []) σ
   | false =>
    match isS σ kFalse with
    | true => leafS s (nd 2 []) σ
    | false =>
     match isS σ kForall with
     | true => binderS T s 8 σ
     | false =>
      match isS σ kExists with
      | true => binderS T s 9 σ
      | false =>
       match isS σ kFun with
       | true => binderS T s 56 σ
       | false => .error (false, σ.ta)
def elemsS (T : TF) (s : ByteArray) : Nat → List Tm → PS → Except ER (List Tm × PS)
 | 0, _, _ => .error (false, 0)
 | g + 1, l, σ =>
  match isS σ kComma with
  | false => .ok (l, σ)
  | true =>
   match advS s σ with
   | .error r => .error r
   | .ok σ1 =>
    match T 1 σ1 with
    | .error r => .error r
    | .ok (t, σ2) => elemsS T s g (l ++ [t]) σ2
def headB (first : Tm) : Bool :=
 (first.op == 16) && (match first.kids with | k :: _ => (k.op == 20) && identB k.name | [] => false)
def elementsS (T : TF) (s : ByteArray) (first : Tm) (bare : Bool) (σ : PS) : RT :=
 match isS σ kBar && bare && headB first with
 | true =>
  match advS s σ with
  | .error r => .error r
  | .ok σ1 =>
   match T 1 σ1 with
   | .error r => .error r
   | .ok (c, σ2) =>
    match shutS s σ2 kRcu with
    | .error r => .error r
    | .ok σ3 => .ok (.mk 55 ((first.kids.getD 0 first).name) 0 ty0 [first.kids.getD 1 first, c], σ3)
 | false =>
  match elemsS T s (s.size + 2) [first] σ with
  | .error r => .error r
  | .ok (l, σ1) =>
   match shutS s σ1 kRcu with
   | .error r => .error r
   | .ok σ2 => .ok (nd 28 l, σ2)
def bracesS (T : TF) (s : ByteArray) (σ : PS) : RT :=
 match openS s σ kLcu with
 | .error r => .error r
 | .ok σ1 =>
  match isS σ1 kRcu with
  | true =>
   match advS s σ1 with
   | .error r => .error r
   | .ok σ2 =>
    match openS s { σ2 with nest := σ2.nest - 1 } kLbr with
    | .error r => .error r
    | .ok σ3 =>
     match typedS (s.size + 2) s σ3 with
     | .error r => .error r
     | .ok (t, σ4) =>
      match shutS s σ4 kRbr with
      | .error r => .error r
      | .ok σ5 => .ok (.mk 29 nil0 0 t [], σ5)
  | false =>
   match T 1 σ1 with
   | .error r => .error r
   | .ok (t, σ2) => elementsS T s t (σ1.k == 1) σ2
def atomS (T : TF) (s : ByteArray) (σ : PS) : RT :=
 match (σ.k == 2) with
 | true => leafS s (.mk 19 nil0 σ.n ty0 []) σ
 | false =>
  match (σ.k == 1) with
  | true => wordedS T s σ
  | false =>
   match isS σ kLpar with
   | true => insideS T s kLpar kRpar σ
   | false =>
    match isS σ kLcu with
    | true => bracesS T s σ
    | false => .error (false, σ.ta)
def afterS (T : TF) (s : ByteArray) : Nat → Tm → PS → RT
 | 0, _, _ => .error (false, 0)
 | g + 1, t, σ =>
  match isS σ kLpar with
  | true =>
   match insideS T s kLpar kRpar σ with
   | .error r => .error r
   | .ok (u, σ1) => afterS T s g (nd 54 [t, u]) σ1
  | false =>
   match isS σ kLbr with
   | true =>
    match insideS T s kLbr kRbr σ with
    | .error r => .error r
    | .ok (u, σ1) => afterS T s g (nd 53 [t, u]) σ1
   | false =>
    match isS σ kTilde with
    | true =>
     match advS s σ with
     | .error r => .error r
     | .ok σ1 => afterS T s g (nd 52 [t]) σ1
    | false => .ok (t, σ)
def opGo (σ : PS) : List ByteArray → List Int → Int
 | x :: xs, o :: os => match isS σ x with | true => o | false => opGo σ xs os
 | _, _ => 0
def opOf (n : Nat) (σ : PS) : Int := opGo σ (lvSigns n) (lvOps n)
def restS (T : TF) (s : ByteArray) (n : Nat) : Nat → Tm → PS → RT
 | 0, _, _ => .error (false, 0)
 | g + 1, t, σ =>
  match (opOf n σ == 0) with
  | true => .ok (t, σ)
  | false =>
   match advS s σ with
   | .error r => .error r
   | .ok σ1 =>
    match T (if lvGroup n = 2 then n else n + 1) σ1 with
    | .error r => .error r
    | .ok (u, σ2) =>
     match (lvGroup n != 1) with
     | true => .ok (nd (opOf n σ) [t, u], σ2)
     | false => restS T s n g (nd (opOf n σ) [t, u]) σ2
def termS : Nat → ByteArray → Nat → PS → RT
 | 0, _, _, _ => .error (false, 0)
 | f + 1, s, n, σ =>
  match (n == 5), (n == 13) with
  | true, _ =>
   match isS σ kNot with
   | true =>
    match advS s σ with
    | .error r => .error r
    | .ok σ1 =>
     match termS f s 5 σ1 with
     | .error r => .error r
     | .ok (t, σ2) => .ok (nd 3 [t], σ2)
   | false => termS f s 6 σ
  | false, true =>
   match isS σ kMinus with
   | true =>
    match advS s σ with
    | .error r => .error r
    | .ok σ1 =>
     match termS f s 13 σ1 with
     | .error r => .error r
     | .ok (t, σ2) => .ok (nd 21 [t], σ2)
   | false =>
    match atomS (termS f s) s σ with
    | .error r => .error r
    | .ok (t, σ1) => afterS (termS f s) s (s.size + 2) t σ1
  | false, false =>
   match termS f s (n + 1) σ with
   | .error r => .error r
   | .ok (t, σ1) => restS (termS f s) s n (s.size + 2) t σ1
def good (t : Tm) : Prop := t.op = 16 → t.kids.length = 2
def Inv (s : ByteArray) (σ σ' : PS) : Prop := mu s σ' ≤ mu s σ ∧ σ'.p ≤ s.size ∧ σ'.nest = σ.nest
def TInv (s : ByteArray) (T : TF) : Prop := ∀ n σ t σ', σ.p ≤ s.size → T n σ = .ok (t, σ') → Inv s σ σ' ∧ good t
end Go.Proofs.YtfhedienjnfdcaaGreatDoor
