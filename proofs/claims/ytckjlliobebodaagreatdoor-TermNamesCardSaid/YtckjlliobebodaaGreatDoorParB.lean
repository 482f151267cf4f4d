/- The parser's methods want, open, shut, name. -/
import Derived.Test.YtckjlliobebodaaGreatDoorParA
namespace Go.Proofs.YtckjlliobebodaaGreatDoor
open Go.RowKit
def wantS (s : ByteArray) (σ : PS) (t : ByteArray) : Except ER PS :=
  match eatS s σ t with
  | .error r => .error r
  | .ok (true, σ') => .ok σ'
  | .ok (false, σ') => .error (false, σ'.ta)
set_option maxHeartbeats 1000000 in
theorem want_ok {w : World} {b : Nat} {s : ByteArray} {σ σ' : PS} (h : PW w b s σ) (t : ByteArray) (hv : wantS s σ t = .ok σ') :
    Calls Tryz.prog 86 #[.pointer (some ⟨b, 0, none⟩), .string t] w fun e w' => e = .returned (.tuple #[]) ∧ PW w' b s σ' ∧ Kept (· = b) w w' := by
  unfold wantS at hv
  cases he : eatS s σ t with
  | error r => rw [he] at hv; cases hv
  | ok q =>
    obtain ⟨v, σ1⟩ := q
    rw [he] at hv
    cases v
    · cases hv
    · cases hv
      go_enter Tryz.func86, Tryz.ntmps86
      go_wp2_with (go_at_call 65; refine (eat_ok h t he).mono ?_; rintro e w' ⟨rfl, hp', hk'⟩)
      go_end0
      exact ⟨rfl, hp', hk'⟩
set_option maxHeartbeats 1000000 in
theorem want_err {w : World} {b : Nat} {s : ByteArray} {σ : PS} {r : ER} (h : PW w b s σ) (t : ByteArray) (hv : wantS s σ t = .error r) :
    Calls Tryz.prog 86 #[.pointer (some ⟨b, 0, none⟩), .string t] w fun e w' => e = .panicked [pan r.1 r.2] ∧ Kept (· = b) w w' := by
  unfold wantS at hv
  cases he : eatS s σ t with
  | error r1 =>
    rw [he] at hv; cases hv
    go_enter Tryz.func86, Tryz.ntmps86
    go_wp2_with (go_at_call 65; refine (eat_err h t he).mono ?_; rintro e w' ⟨rfl, hk'⟩)
    exact ⟨rfl, rfl, hk'⟩
  | ok q =>
    obtain ⟨v, σ1⟩ := q
    rw [he] at hv
    cases v
    · cases hv
      go_enter Tryz.func86, Tryz.ntmps86
      go_wp2_with (first | (go_at_call 65; refine (eat_ok h t he).mono ?_; rintro e w' ⟨rfl, hp', hk'⟩) | (go_at_call 64; refine (fail_any hp').mono ?_; rintro e w'' ⟨rfl, rfl⟩))
      exact ⟨rfl, rfl, hk'⟩
    · cases hv
def openS (s : ByteArray) (σ : PS) (t : ByteArray) : Except ER PS :=
  if isS σ t then (if σ.nest = 64 then .error (true, σ.ta) else advS s { σ with nest := σ.nest + 1 }) else .error (false, σ.ta)
theorem PW.nested {w : World} {b : Nat} {s : ByteArray} {σ : PS} (h : PW w b s σ) (m : Nat) (hm : m ≤ 64) : PW (w.setCell ⟨b, 6, none⟩ (.int .i64 m)) b s { σ with nest := m } :=
  ⟨h.blk.set 6 _, h.le, h.tx, h.src, h.two, h.gl.kept (S := (· = b)) ((Kept.refl (fun x => x = b) _).setCell (Or.inl rfl) _) (by have := h.two; omega) (by have := h.two; omega), hm⟩
set_option maxHeartbeats 1000000 in
theorem open_ok {w : World} {b : Nat} {s : ByteArray} {σ σ' : PS} (h : PW w b s σ) (t : ByteArray) (hv : openS s σ t = .ok σ') :
    Calls Tryz.prog 84 #[.pointer (some ⟨b, 0, none⟩), .string t] w fun e w' => e = .returned (.tuple #[]) ∧ PW w' b s σ' ∧ Kept (· = b) w w' := by
  unfold openS at hv
  cases hi : isS σ t
  · rw [hi] at hv; cases hv
  · rw [hi, if_pos rfl] at hv
    by_cases hn : σ.nest = 64
    · rw [if_pos hn] at hv; cases hv
    · rw [if_neg hn] at hv
      have hle := h.nest
      have c6 := h.nst
      have f6 := h.nfr
      have i1 : ((σ.nest : Int) == 64) = false := by simp; omega
      have h' := h.nested (σ.nest + 1) (by omega)
      go_enter Tryz.func84, Tryz.ntmps84
      go_wp2_with (first | (go_at_call 116; refine (is_any h t hi).mono ?_; rintro e w' ⟨rfl, rfl⟩) | (go_at_call 63; refine (adv_ok h' hv).mono ?_; rintro e w' ⟨rfl, hp', hk'⟩))
      go_end0
      exact ⟨rfl, hp', ((Kept.refl (fun x => x = b) _).setCell (Or.inl rfl) _).trans hk'⟩
set_option maxHeartbeats 1000000 in
theorem open_err {w : World} {b : Nat} {s : ByteArray} {σ : PS} {r : ER} (h : PW w b s σ) (t : ByteArray) (hv : openS s σ t = .error r) :
    Calls Tryz.prog 84 #[.pointer (some ⟨b, 0, none⟩), .string t] w fun e w' => e = .panicked [pan r.1 r.2] ∧ Kept (· = b) w w' := by
  unfold openS at hv
  have c5 := h.tat
  have c6 := h.nst
  have f6 := h.nfr
  cases hi : isS σ t
  · rw [hi] at hv; cases hv
    go_enter Tryz.func84, Tryz.ntmps84
    go_wp2_with (first | (go_at_call 116; refine (is_any h t hi).mono ?_; rintro e w' ⟨rfl, rfl⟩) | (go_at_call 64; refine (fail_any h).mono ?_; rintro e w'' ⟨rfl, rfl⟩))
    exact ⟨rfl, rfl, Kept.refl _ _⟩
  · rw [hi, if_pos rfl] at hv
    by_cases hn : σ.nest = 64
    · rw [if_pos hn] at hv; cases hv
      have i1 : ((σ.nest : Int) == 64) = true := by simp; omega
      clear hn
      go_enter Tryz.func84, Tryz.ntmps84
      go_wp2_with (go_at_call 116; refine (is_any h t hi).mono ?_; rintro e w' ⟨rfl, rfl⟩)
      exact ⟨rfl, rfl, Kept.refl _ _⟩
    · rw [if_neg hn] at hv
      have hle := h.nest
      have i1 : ((σ.nest : Int) == 64) = false := by simp; omega
      have h' := h.nested (σ.nest + 1) (by omega)
      go_enter Tryz.func84, Tryz.ntmps84
      go_wp2_with (first | (go_at_call 116; refine (is_any h t hi).mono ?_; rintro e w' ⟨rfl, rfl⟩) | (go_at_call 63; refine (adv_err h' hv).mono ?_; rintro e w' ⟨rfl, hk'⟩))
      exact ⟨rfl, rfl, ((Kept.refl (fun x => x = b) _).setCell (Or.inl rfl) _).trans hk'⟩
def shutS (s : ByteArray) (σ : PS) (t : ByteArray) : Except ER PS :=
  match wantS s σ t with
  | .error r => .error r
  | .ok σ' => .ok { σ' with nest := σ'.nest - 1 }
theorem adv_nest {s : ByteArray} {σ σ' : PS} (h : advS s σ = .ok σ') : σ'.nest = σ.nest := by
  unfold advS at h
  cases ht : tokAt s (skip s σ.p) with
  | none => rw [ht] at h; cases h
  | some t => rw [ht] at h; cases h; rfl
theorem eat_nest {s : ByteArray} {σ σ' : PS} {t : ByteArray} {v : Bool} (h : eatS s σ t = .ok (v, σ')) : σ'.nest = σ.nest := by
  unfold eatS at h
  split at h
  · cases ha : advS s σ with
    | ok σ1 => rw [ha] at h; cases h; exact adv_nest ha
    | error r => rw [ha] at h; cases h
  · cases h; rfl
theorem want_nest {s : ByteArray} {σ σ' : PS} {t : ByteArray} (h : wantS s σ t = .ok σ') : σ'.nest = σ.nest := by
  unfold wantS at h
  cases he : eatS s σ t with
  | error r => rw [he] at h; cases h
  | ok q =>
    obtain ⟨v, σ1⟩ := q
    rw [he] at h
    cases v
    · cases h
    · cases h; exact eat_nest he
set_option maxHeartbeats 1000000 in
theorem shut_ok {w : World} {b : Nat} {s : ByteArray} {σ σ' : PS} (h : PW w b s σ) (hn : 1 ≤ σ.nest) (t : ByteArray) (hv : shutS s σ t = .ok σ') :
    Calls Tryz.prog 85 #[.pointer (some ⟨b, 0, none⟩), .string t] w fun e w' => e = .returned (.tuple #[]) ∧ PW w' b s σ' ∧ Kept (· = b) w w' := by
  unfold shutS at hv
  cases he : wantS s σ t with
  | error r => rw [he] at hv; cases hv
  | ok σ1 =>
    rw [he] at hv
    have hn1 := want_nest he
    cases hv
    have HN := Lib.hid hn1
    clear hn1
    go_enter Tryz.func85, Tryz.ntmps85
    go_wp2_with (fail)
    refine (want_ok h t he).mono ?_
    rintro e w' ⟨rfl, hp', hk'⟩
    have c6 := hp'.nst
    have f6 := hp'.nfr
    have hle := hp'.nest
    have hn1 : 1 ≤ σ1.nest := by rw [HN.out]; exact hn
    have hp2 := hp'.nested (σ1.nest - 1) (by omega)
    rw [show ((σ1.nest - 1 : Nat) : Int) = (σ1.nest : Int) - 1 by omega] at hp2
    go_wp2_with (fail)
    go_end0
    exact ⟨rfl, hp2, hk'.setCell (Or.inl rfl) _⟩
set_option maxHeartbeats 1000000 in
theorem shut_err {w : World} {b : Nat} {s : ByteArray} {σ : PS} {r : ER} (h : PW w b s σ) (t : ByteArray) (hv : shutS s σ t = .error r) :
    Calls Tryz.prog 85 #[.pointer (some ⟨b, 0, none⟩), .string t] w fun e w' => e = .panicked [pan r.1 r.2] ∧ Kept (· = b) w w' := by
  unfold shutS at hv
  cases he : wantS s σ t with
  | ok σ1 => rw [he] at hv; cases hv
  | error r1 =>
    rw [he] at hv; cases hv
    go_enter Tryz.func85, Tryz.ntmps85
    go_wp2_with (go_at_call 86; refine (want_err h t he).mono ?_; rintro e w' ⟨rfl, hk'⟩)
    exact ⟨rfl, rfl, hk'⟩
def nameS (s : ByteArray) (σ : PS) : Except ER (ByteArray × PS) :=
  if σ.k = 1 ∧ identB σ.tx = true then (match advS s σ with | .ok σ' => .ok (σ.tx, σ') | .error r => .error r) else .error (false, σ.ta)
theorem ident_t {t : ByteArray} {v : Bool} (h : identB t = v) (ht : t.size ≤ 65536) (w : World) : Calls Tryz.prog 18 #[.string t] w fun e w' => e = .returned (.bool v) ∧ w = w' := (ident_any t w (by omega)).mono fun _ _ q => ⟨by rw [← h]; exact q.1, q.2⟩
set_option maxHeartbeats 1000000 in
theorem name_ok {w : World} {b : Nat} {s : ByteArray} {σ σ' : PS} {x : ByteArray} (h : PW w b s σ) (hv : nameS s σ = .ok (x, σ')) :
    Calls Tryz.prog 167 #[.pointer (some ⟨b, 0, none⟩)] w fun e w' => e = .returned (.string x) ∧ PW w' b s σ' ∧ Kept (· = b) w w' := by
  unfold nameS at hv
  by_cases hc : σ.k = 1 ∧ identB σ.tx = true
  · rw [if_pos hc] at hv
    obtain ⟨hk, hi⟩ := hc
    cases ha : advS s σ with
    | error r => rw [ha] at hv; cases hv
    | ok σ1 =>
      rw [ha] at hv; cases hv
      have c2 := h.kd
      have c3 := h.txt
      have ht := h.tx
      have i1 : (σ.k != 1) = false := by simp [hk]
      clear hk
      go_enter Tryz.func167, Tryz.ntmps167
      go_wp2_with (first | (go_at_call 18; refine (ident_t hi ht _).mono ?_; rintro e w' ⟨rfl, rfl⟩) | (go_at_call 63; refine (adv_ok h ha).mono ?_; rintro e w' ⟨rfl, hp', hk'⟩))
      go_ret
      exact ⟨rfl, hp', hk'⟩
  · rw [if_neg hc] at hv; cases hv
set_option maxHeartbeats 1000000 in
theorem name_err {w : World} {b : Nat} {s : ByteArray} {σ : PS} {r : ER} (h : PW w b s σ) (hv : nameS s σ = .error r) :
    Calls Tryz.prog 167 #[.pointer (some ⟨b, 0, none⟩)] w fun e w' => e = .panicked [pan r.1 r.2] ∧ Kept (· = b) w w' := by
  unfold nameS at hv
  have c2 := h.kd
  have c3 := h.txt
  have ht := h.tx
  cases hk : (σ.k != 1) <;> cases hi : identB σ.tx
  case false.true =>
    have hk' : σ.k = 1 := by simpa using hk
    rw [if_pos ⟨hk', hi⟩] at hv
    cases ha : advS s σ with
    | ok σ1 => rw [ha] at hv; cases hv
    | error r1 =>
      rw [ha] at hv; cases hv
      clear hk'
      go_enter Tryz.func167, Tryz.ntmps167
      go_wp2_with (first | (go_at_call 18; refine (ident_t hi ht _).mono ?_; rintro e w' ⟨rfl, rfl⟩) | (go_at_call 63; refine (adv_err h ha).mono ?_; rintro e w' ⟨rfl, hk'⟩))
      exact ⟨rfl, rfl, hk'⟩
  all_goals
    rw [if_neg (by rintro ⟨a, c⟩; simp [a] at hk; try (simp [hi] at c))] at hv
    cases hv
    go_enter Tryz.func167, Tryz.ntmps167
    go_wp2_with (first | (go_at_call 18; refine (ident_t hi ht _).mono ?_; rintro e w' ⟨rfl, rfl⟩) | (go_at_call 64; refine (fail_any h).mono ?_; rintro e w' ⟨rfl, rfl⟩))
    exact ⟨rfl, rfl, Kept.refl _ _⟩
end Go.Proofs.YtckjlliobebodaaGreatDoor
