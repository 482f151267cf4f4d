import Derived.Test.YtckjlliobebodaaGreatDoorProg
import Derived.WalkKit
import Derived.WalkSpells
import Derived.WalkLawsBesides
import Derived.Lib.Hide
namespace Go.Proofs.YtckjlliobebodaaGreatDoor
open Go.RowKit
def kws : List (List UInt8) := [[116, 114, 117, 101], [102, 97, 108, 115, 101], [110, 111, 116], [111, 114], [102, 111, 114, 97, 108, 108], [101, 120, 105, 115, 116, 115], [105, 110], [110, 111, 116, 105, 110], [115, 117, 98], [109, 111, 100], [102, 117, 110], [99, 97, 114, 100], [109, 105, 110], [109, 97, 120], [100, 111, 109], [114, 97, 110], [80, 79, 87], [105, 110, 116], [98, 111, 111, 108], [115, 101, 116], [112, 97, 105, 114]]
def keywordB (s : ByteArray) : Bool := kws.contains s.toList
def letterB (c : Int) : Bool := (decide (97 ≤ c) && decide (c ≤ 122)) || (decide (65 ≤ c) && decide (c ≤ 90))
def digitB (c : Int) : Bool := decide (48 ≤ c) && decide (c ≤ 57)
def inWordB (c : Int) : Bool := letterB c || digitB c || c == 95
set_option maxHeartbeats 400000 in
theorem letter_any (c : Int) (w : World) :
    Calls Tryz.prog 45 #[.int .u8 c] w fun e w' => e = .returned (.bool (letterB c)) ∧ w = w' := by
  cases h1 : decide (97 ≤ c) <;> cases h2 : decide (c ≤ 122) <;> cases h3 : decide (65 ≤ c) <;> cases h4 : decide (c ≤ 90)
  all_goals
    have hk := Lib.hid (show letterB c = _ by unfold letterB; rw [h1, h2, h3, h4])
    go_enter Tryz.func45, Tryz.ntmps45
    go_wp2_with fail
    go_ret
    exact ⟨by rw [hk.out]; rfl, rfl⟩
set_option maxHeartbeats 400000 in
theorem digit_any (c : Int) (w : World) :
    Calls Tryz.prog 91 #[.int .u8 c] w fun e w' => e = .returned (.bool (digitB c)) ∧ w = w' := by
  cases h1 : decide (48 ≤ c) <;> cases h2 : decide (c ≤ 57)
  all_goals
    have hk := Lib.hid (show digitB c = _ by unfold digitB; rw [h1, h2])
    go_enter Tryz.func91, Tryz.ntmps91
    go_wp2_with fail
    go_ret
    exact ⟨by rw [hk.out]; rfl, rfl⟩
set_option maxHeartbeats 400000 in
theorem inWord_any (c : Int) (w : World) :
    Calls Tryz.prog 47 #[.int .u8 c] w fun e w' => e = .returned (.bool (inWordB c)) ∧ w = w' := by
  cases h1 : letterB c <;> cases h2 : digitB c <;> cases h3 : (c == 95)
  all_goals
    have hk := Lib.hid (show inWordB c = _ by unfold inWordB; rw [h1, h2, h3])
    go_enter Tryz.func47, Tryz.ntmps47
    go_wp2_with (first | (go_at_call 45; refine (letter_any _ _).mono ?_; rintro e w' ⟨rfl, rfl⟩) | (go_at_call 91; refine (digit_any _ _).mono ?_; rintro e w' ⟨rfl, rfl⟩))
    go_ret
    exact ⟨by rw [hk.out]; rfl, rfl⟩
set_option maxHeartbeats 1000000 in
theorem keyword_any (s : ByteArray) (w : World) :
    Calls Tryz.prog 46 #[.string s] w fun e w' => e = .returned (.bool (keywordB s)) ∧ w = w' := by
  cases h0 : (s.toList == [116, 114, 117, 101])
  case true =>
    have hk := Lib.hid (show keywordB s = true by simp only [keywordB, kws]; rw [eq_of_beq h0]; rfl)
    go_enter Tryz.func46, Tryz.ntmps46
    go_wp2_with fail
    go_ret
    exact ⟨by rw [hk.out]; rfl, rfl⟩
  cases h1 : (s.toList == [102, 97, 108, 115, 101])
  case true =>
    have hk := Lib.hid (show keywordB s = true by simp only [keywordB, kws]; rw [eq_of_beq h1]; rfl)
    go_enter Tryz.func46, Tryz.ntmps46
    go_wp2_with fail
    go_ret
    exact ⟨by rw [hk.out]; rfl, rfl⟩
  cases h2 : (s.toList == [110, 111, 116])
  case true =>
    have hk := Lib.hid (show keywordB s = true by simp only [keywordB, kws]; rw [eq_of_beq h2]; rfl)
    go_enter Tryz.func46, Tryz.ntmps46
    go_wp2_with fail
    go_ret
    exact ⟨by rw [hk.out]; rfl, rfl⟩
  cases h3 : (s.toList == [111, 114])
  case true =>
    have hk := Lib.hid (show keywordB s = true by simp only [keywordB, kws]; rw [eq_of_beq h3]; rfl)
    go_enter Tryz.func46, Tryz.ntmps46
    go_wp2_with fail
    go_ret
    exact ⟨by rw [hk.out]; rfl, rfl⟩
  cases h4 : (s.toList == [102, 111, 114, 97, 108, 108])
  case true =>
    have hk := Lib.hid (show keywordB s = true by simp only [keywordB, kws]; rw [eq_of_beq h4]; rfl)
    go_enter Tryz.func46, Tryz.ntmps46
    go_wp2_with fail
    go_ret
    exact ⟨by rw [hk.out]; rfl, rfl⟩
  cases h5 : (s.toList == [101, 120, 105, 115, 116, 115])
  case true =>
    have hk := Lib.hid (show keywordB s = true by simp only [keywordB, kws]; rw [eq_of_beq h5]; rfl)
    go_enter Tryz.func46, Tryz.ntmps46
    go_wp2_with fail
    go_ret
    exact ⟨by rw [hk.out]; rfl, rfl⟩
  cases h6 : (s.toList == [105, 110])
  case true =>
    have hk := Lib.hid (show keywordB s = true by simp only [keywordB, kws]; rw [eq_of_beq h6]; rfl)
    go_enter Tryz.func46, Tryz.ntmps46
    go_wp2_with fail
    go_ret
    exact ⟨by rw [hk.out]; rfl, rfl⟩
  cases h7 : (s.toList == [110, 111, 116, 105, 110])
  case true =>
    have hk := Lib.hid (show keywordB s = true by simp only [keywordB, kws]; rw [eq_of_beq h7]; rfl)
    go_enter Tryz.func46, Tryz.ntmps46
    go_wp2_with fail
    go_ret
    exact ⟨by rw [hk.out]; rfl, rfl⟩
  cases h8 : (s.toList == [115, 117, 98])
  case true =>
    have hk := Lib.hid (show keywordB s = true by simp only [keywordB, kws]; rw [eq_of_beq h8]; rfl)
    go_enter Tryz.func46, Tryz.ntmps46
    go_wp2_with fail
    go_ret
    exact ⟨by rw [hk.out]; rfl, rfl⟩
  cases h9 : (s.toList == [109, 111, 100])
  case true =>
    have hk := Lib.hid (show keywordB s = true by simp only [keywordB, kws]; rw [eq_of_beq h9]; rfl)
    go_enter Tryz.func46, Tryz.ntmps46
    go_wp2_with fail
    go_ret
    exact ⟨by rw [hk.out]; rfl, rfl⟩
  cases h10 : (s.toList == [102, 117, 110])
  case true =>
    have hk := Lib.hid (show keywordB s = true by simp only [keywordB, kws]; rw [eq_of_beq h10]; rfl)
    go_enter Tryz.func46, Tryz.ntmps46
    go_wp2_with fail
    go_ret
    exact ⟨by rw [hk.out]; rfl, rfl⟩
  cases h11 : (s.toList == [99, 97, 114, 100])
  case true =>
    have hk := Lib.hid (show keywordB s = true by simp only [keywordB, kws]; rw [eq_of_beq h11]; rfl)
    go_enter Tryz.func46, Tryz.ntmps46
    go_wp2_with fail
    go_ret
    exact ⟨by rw [hk.out]; rfl, rfl⟩
  cases h12 : (s.toList == [109, 105, 110])
  case true =>
    have hk := Lib.hid (show keywordB s = true by simp only [keywordB, kws]; rw [eq_of_beq h12]; rfl)
    go_enter Tryz.func46, Tryz.ntmps46
    go_wp2_with fail
    go_ret
    exact ⟨by rw [hk.out]; rfl, rfl⟩
  cases h13 : (s.toList == [109, 97, 120])
  case true =>
    have hk := Lib.hid (show keywordB s = true by simp only [keywordB, kws]; rw [eq_of_beq h13]; rfl)
    go_enter Tryz.func46, Tryz.ntmps46
    go_wp2_with fail
    go_ret
    exact ⟨by rw [hk.out]; rfl, rfl⟩
  cases h14 : (s.toList == [100, 111, 109])
  case true =>
    have hk := Lib.hid (show keywordB s = true by simp only [keywordB, kws]; rw [eq_of_beq h14]; rfl)
    go_enter Tryz.func46, Tryz.ntmps46
    go_wp2_with fail
    go_ret
    exact ⟨by rw [hk.out]; rfl, rfl⟩
  cases h15 : (s.toList == [114, 97, 110])
  case true =>
    have hk := Lib.hid (show keywordB s = true by simp only [keywordB, kws]; rw [eq_of_beq h15]; rfl)
    go_enter Tryz.func46, Tryz.ntmps46
    go_wp2_with fail
    go_ret
    exact ⟨by rw [hk.out]; rfl, rfl⟩
  cases h16 : (s.toList == [80, 79, 87])
  case true =>
    have hk := Lib.hid (show keywordB s = true by simp only [keywordB, kws]; rw [eq_of_beq h16]; rfl)
    go_enter Tryz.func46, Tryz.ntmps46
    go_wp2_with fail
    go_ret
    exact ⟨by rw [hk.out]; rfl, rfl⟩
  cases h17 : (s.toList == [105, 110, 116])
  case true =>
    have hk := Lib.hid (show keywordB s = true by simp only [keywordB, kws]; rw [eq_of_beq h17]; rfl)
    go_enter Tryz.func46, Tryz.ntmps46
    go_wp2_with fail
    go_ret
    exact ⟨by rw [hk.out]; rfl, rfl⟩
  cases h18 : (s.toList == [98, 111, 111, 108])
  case true =>
    have hk := Lib.hid (show keywordB s = true by simp only [keywordB, kws]; rw [eq_of_beq h18]; rfl)
    go_enter Tryz.func46, Tryz.ntmps46
    go_wp2_with fail
    go_ret
    exact ⟨by rw [hk.out]; rfl, rfl⟩
  cases h19 : (s.toList == [115, 101, 116])
  case true =>
    have hk := Lib.hid (show keywordB s = true by simp only [keywordB, kws]; rw [eq_of_beq h19]; rfl)
    go_enter Tryz.func46, Tryz.ntmps46
    go_wp2_with fail
    go_ret
    exact ⟨by rw [hk.out]; rfl, rfl⟩
  cases h20 : (s.toList == [112, 97, 105, 114])
  case true =>
    have hk := Lib.hid (show keywordB s = true by simp only [keywordB, kws]; rw [eq_of_beq h20]; rfl)
    go_enter Tryz.func46, Tryz.ntmps46
    go_wp2_with fail
    go_ret
    exact ⟨by rw [hk.out]; rfl, rfl⟩
  have hk := Lib.hid (show keywordB s = false by simp only [keywordB, kws, List.contains_cons, List.contains_nil, Bool.or_false, h0, h1, h2, h3, h4, h5, h6, h7, h8, h9, h10, h11, h12, h13, h14, h15, h16, h17, h18, h19, h20])
  go_enter Tryz.func46, Tryz.ntmps46
  go_wp2_with fail
  go_ret
  exact ⟨by rw [hk.out]; rfl, rfl⟩
end Go.Proofs.YtckjlliobebodaaGreatDoor
