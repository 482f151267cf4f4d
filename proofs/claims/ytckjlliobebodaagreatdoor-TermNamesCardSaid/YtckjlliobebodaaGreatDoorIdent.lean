import Derived.Test.YtckjlliobebodaaGreatDoorLeaf
namespace Go.Proofs.YtckjlliobebodaaGreatDoor
open Go.RowKit
def allW (l : List UInt8) : Bool := l.all fun c => inWordB c.toNat
def identB (s : ByteArray) : Bool := decide (0 < s.size) && decide (s.size ≤ 16) && letterB (s.data.toList.headD 0).toNat && !keywordB s && allW s.data.toList
theorem empty_iff (s : ByteArray) : s.toList.isEmpty = !decide (0 < s.size) := by
  rw [Go.ByteArray.toList_eq]; obtain ⟨⟨l⟩⟩ := s; cases l <;> simp [ByteArray.size]
theorem head_of (s : ByteArray) (h : 0 < s.size) : s.data.toList.headD 0 = s[0] := by
  obtain ⟨⟨l⟩⟩ := s
  cases l with
  | nil => simp [ByteArray.size] at h
  | cons a t => rfl
theorem take_snoc (s : ByteArray) (k : Nat) (h : k < s.size) : s.data.toList.take (k + 1) = s.data.toList.take k ++ [s[k]] := by
  rw [List.take_succ_eq_append_getElem (by simpa using h)]; rfl
theorem allW_snoc (l : List UInt8) (c : UInt8) : allW (l ++ [c]) = (allW l && inWordB c.toNat) := by
  simp [allW]
theorem allW_false (s : ByteArray) (k : Nat) (h : k < s.size) (hc : inWordB s[k].toNat = false) : allW s.data.toList = false := by
  have e : s.data.toList = s.data.toList.take (k + 1) ++ s.data.toList.drop (k + 1) := (List.take_append_drop _ _).symm
  rw [e, take_snoc s k h]; simp only [allW, List.all_append, List.all_cons, List.all_nil, hc]; simp
set_option maxHeartbeats 1000000 in
theorem ident_any (s : ByteArray) (w : World) (hs : s.size ≤ 9223372036854775807) :
    Calls Tryz.prog 18 #[.string s] w fun e w' => e = .returned (.bool (identB s)) ∧ w = w' := by
  by_cases h0 : 0 < s.size
  case neg =>
    have h1 : s.toList.isEmpty = true := by rw [empty_iff, decide_eq_false h0]; rfl
    have hk := Lib.hid (show identB s = false by unfold identB; rw [decide_eq_false h0]; rfl)
    clear h0
    go_enter Tryz.func18, Tryz.ntmps18
    go_wp2_with fail
    go_ret
    exact ⟨by rw [hk.out]; rfl, rfl⟩
  have h1 : s.toList.isEmpty = false := by rw [empty_iff, decide_eq_true h0]; rfl
  by_cases h16 : s.size ≤ 16
  case neg =>
    have hd : decide (16 < (s.size : Int)) = true := by simp; omega
    have hk := Lib.hid (show identB s = false by unfold identB; rw [decide_eq_false h16]; simp)
    clear h16
    go_enter Tryz.func18, Tryz.ntmps18
    go_wp2_with fail
    go_ret
    exact ⟨by rw [hk.out]; rfl, rfl⟩
  have hd : decide (16 < (s.size : Int)) = false := by simp; omega
  have hh := head_of s h0
  cases hl : letterB (s[0].toNat)
  case false =>
    have hk := Lib.hid (show identB s = false by unfold identB; rw [hh, hl]; simp)
    clear hh
    go_enter Tryz.func18, Tryz.ntmps18
    go_wp2_with (first | (go_at_call 45; refine (letter_any _ _).mono ?_; rintro e w' ⟨rfl, rfl⟩) | (go_at_call 46; refine (keyword_any _ _).mono ?_; rintro e w' ⟨rfl, rfl⟩))
    go_ret
    exact ⟨by rw [hk.out]; rfl, rfl⟩
  cases hkw : keywordB s
  case true =>
    have hk := Lib.hid (show identB s = false by unfold identB; rw [hkw]; simp)
    clear hh
    go_enter Tryz.func18, Tryz.ntmps18
    go_wp2_with (first | (go_at_call 45; refine (letter_any _ _).mono ?_; rintro e w' ⟨rfl, rfl⟩) | (go_at_call 46; refine (keyword_any _ _).mono ?_; rintro e w' ⟨rfl, rfl⟩))
    go_ret
    exact ⟨by rw [hk.out]; rfl, rfl⟩
  have hk := Lib.hid (show identB s = allW s.data.toList by unfold identB; rw [hh, hl, hkw, decide_eq_true h0, decide_eq_true h16]; simp)
  clear hh
  go_enter Tryz.func18, Tryz.ntmps18
  go_wp2_with (first | (go_at_call 45; refine (letter_any _ _).mono ?_; rintro e w' ⟨rfl, rfl⟩) | (go_at_call 46; refine (keyword_any _ _).mono ?_; rintro e w' ⟨rfl, rfl⟩))
  go_loop [23] (fun i => ∃ k : Nat, k ≤ s.size ∧ i = .int .i64 k ∧ Hid (allW (s.data.toList.take k) = true)) (fun i => s.size - (intOf i).toNat)
  case atStart => exact ⟨0, Nat.zero_le _, rfl, Lib.hid (by simp [allW])⟩
  case round =>
    obtain ⟨k, hks, rfl, hall⟩ := hrel
    by_cases hlt : k < s.size
    · cases hw : inWordB s[k].toNat
      · have hf := Lib.hid (allW_false s k hlt hw)
        go_wp2_with (go_at_call 47; refine (inWord_any _ _).mono ?_; rintro e w' ⟨rfl, rfl⟩)
        go_ret
        exact ⟨by rw [hk.out, hf.out]; rfl, rfl⟩
      · have hall' : Hid (allW (s.data.toList.take (k + 1)) = true) := Lib.hid (by rw [take_snoc s k hlt, allW_snoc, hall.out, hw]; rfl)
        go_wp2_with (go_at_call 47; refine (inWord_any _ _).mono ?_; rintro e w' ⟨rfl, rfl⟩)
        go_round
        case rel => exact ⟨k + 1, by omega, by go_num, hall'⟩
        case measure => simp [intOf]; omega
    · have hf : Hid (allW s.data.toList = true) := by
        have h := hall.out
        rw [List.take_of_length_le (by simp; omega)] at h
        exact Lib.hid h
      go_wp2_with fail
      go_ret
      exact ⟨by rw [hk.out, hf.out]; rfl, rfl⟩
end Go.Proofs.YtckjlliobebodaaGreatDoor
