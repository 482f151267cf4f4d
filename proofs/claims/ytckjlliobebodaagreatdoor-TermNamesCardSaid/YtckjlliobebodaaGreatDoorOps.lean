import Derived.Test.YtckjlliobebodaaGreatDoorLeaf
namespace Go.Proofs.YtckjlliobebodaaGreatDoor
open Go.RowKit
def kidsN (op : Int) : Int × Bool :=
  if op = 1 ∨ op = 2 ∨ op = 19 ∨ op = 20 ∨ op = 29 then (0, true)
  else if op = 3 ∨ op = 21 ∨ (46 ≤ op ∧ op ≤ 52) then (1, true)
  else if op = 28 then (-1, true)
  else if 1 ≤ op ∧ op ≤ 56 then (2, true) else (0, false)
set_option maxHeartbeats 2000000 in
theorem kids_any (op : Int) (w : World) :
    Calls Tryz.prog 141 #[.int .i64 op] w fun e w' => e = .returned (.tuple #[.int .i64 (kidsN op).1, .bool (kidsN op).2]) ∧ w = w' := by
  by_cases h : op = 1 ∨ op = 2 ∨ op = 19 ∨ op = 20 ∨ op = 29 ∨ op = 3 ∨ op = 21 ∨ op = 52 ∨ op = 28
  · rcases h with rfl | rfl | rfl | rfl | rfl | rfl | rfl | rfl | rfl
    all_goals
      go_enter Tryz.func141, Tryz.ntmps141
      go_wp2_with fail
      go_ret2
      exact ⟨rfl, rfl⟩
  · by_cases h1 : 46 ≤ op ∧ op ≤ 51
    · have hk := Lib.hid (show kidsN op = (1, true) by unfold kidsN; rw [if_neg (by omega), if_pos (by omega)])
      obtain ⟨ha, hb⟩ := h1
      have n1 : (op == 1) = false := by simp; omega
      have n2 : (op == 2) = false := by simp; omega
      have n19 : (op == 19) = false := by simp; omega
      have n20 : (op == 20) = false := by simp; omega
      have n29 : (op == 29) = false := by simp; omega
      have n3 : (op == 3) = false := by simp; omega
      have n21 : (op == 21) = false := by simp; omega
      clear h
      go_enter Tryz.func141, Tryz.ntmps141
      go_wp2_with fail
      go_ret2
      exact ⟨by rw [hk.out]; rfl, rfl⟩
    · have n1 : (op == 1) = false := by simp; omega
      have n2 : (op == 2) = false := by simp; omega
      have n19 : (op == 19) = false := by simp; omega
      have n20 : (op == 20) = false := by simp; omega
      have n29 : (op == 29) = false := by simp; omega
      have n3 : (op == 3) = false := by simp; omega
      have n21 : (op == 21) = false := by simp; omega
      have n52 : (op == 52) = false := by simp; omega
      have n28 : (op == 28) = false := by simp; omega
      cases a1 : decide (46 ≤ op) <;> cases a2 : decide (op ≤ 51) <;> cases a3 : decide (1 ≤ op) <;> cases a4 : decide (op ≤ 56)
      all_goals
        first
        | (exfalso; simp only [decide_eq_true_eq, decide_eq_false_iff_not] at a1 a2 a3 a4; omega)
        | (have hk := Lib.hid (show kidsN op = (if 1 ≤ op ∧ op ≤ 56 then (2, true) else (0, false)) by
             simp only [decide_eq_true_eq, decide_eq_false_iff_not] at a1 a2 a3 a4
             unfold kidsN; rw [if_neg (by omega), if_neg (by omega), if_neg (by omega)])
           clear h h1
           go_enter Tryz.func141, Tryz.ntmps141
           go_wp2_with fail
           go_ret2
           refine ⟨?_, rfl⟩
           rw [hk.out]
           simp only [decide_eq_true_eq, decide_eq_false_iff_not] at a3 a4
           first
           | (rw [if_pos ⟨a3, a4⟩]; rfl)
           | (rw [if_neg (by omega)]; rfl))
def binderB (op : Int) : Bool := op == 8 || op == 9 || op == 55 || op == 56
set_option maxHeartbeats 2000000 in
theorem binder_any (op : Int) (w : World) :
    Calls Tryz.prog 142 #[.int .i64 op] w fun e w' => e = .returned (.bool (binderB op)) ∧ w = w' := by
  cases h1 : (op == 8) <;> cases h2 : (op == 9) <;> cases h3 : (op == 55) <;> cases h4 : (op == 56)
  all_goals
    have hk := Lib.hid (show binderB op = _ by unfold binderB; rw [h1, h2, h3, h4])
    go_enter Tryz.func142, Tryz.ntmps142
    go_wp2_with fail
    go_ret
    exact ⟨by rw [hk.out]; rfl, rfl⟩
def fns : List (List UInt8) := [[80, 79, 87], [99, 97, 114, 100], [109, 105, 110], [109, 97, 120], [100, 111, 109], [114, 97, 110]]
def functionN (s : ByteArray) : Int := if s.toList ∈ fns then 46 + fns.idxOf s.toList else 0
set_option maxHeartbeats 2000000 in
theorem function_any (s : ByteArray) (w : World) :
    Calls Tryz.prog 149 #[.string s] w fun e w' => e = .returned (.int .i64 (functionN s)) ∧ w = w' := by
  cases h0 : (s.toList == [80, 79, 87]) 
  case true => 
    have hk := Lib.hid (show functionN s = 46 by unfold functionN; rw [eq_of_beq h0]; rfl)
    go_enter Tryz.func149, Tryz.ntmps149
    go_wp2_with fail
    go_ret
    exact ⟨by rw [hk.out]; rfl, rfl⟩
  cases h1 : (s.toList == [99, 97, 114, 100]) 
  case true => 
    have hk := Lib.hid (show functionN s = 47 by unfold functionN; rw [eq_of_beq h1]; rfl)
    go_enter Tryz.func149, Tryz.ntmps149
    go_wp2_with fail
    go_ret
    exact ⟨by rw [hk.out]; rfl, rfl⟩
  cases h2 : (s.toList == [109, 105, 110]) 
  case true => 
    have hk := Lib.hid (show functionN s = 48 by unfold functionN; rw [eq_of_beq h2]; rfl)
    go_enter Tryz.func149, Tryz.ntmps149
    go_wp2_with fail
    go_ret
    exact ⟨by rw [hk.out]; rfl, rfl⟩
  cases h3 : (s.toList == [109, 97, 120]) 
  case true => 
    have hk := Lib.hid (show functionN s = 49 by unfold functionN; rw [eq_of_beq h3]; rfl)
    go_enter Tryz.func149, Tryz.ntmps149
    go_wp2_with fail
    go_ret
    exact ⟨by rw [hk.out]; rfl, rfl⟩
  cases h4 : (s.toList == [100, 111, 109]) 
  case true => 
    have hk := Lib.hid (show functionN s = 50 by unfold functionN; rw [eq_of_beq h4]; rfl)
    go_enter Tryz.func149, Tryz.ntmps149
    go_wp2_with fail
    go_ret
    exact ⟨by rw [hk.out]; rfl, rfl⟩
  cases h5 : (s.toList == [114, 97, 110]) 
  case true => 
    have hk := Lib.hid (show functionN s = 51 by unfold functionN; rw [eq_of_beq h5]; rfl)
    go_enter Tryz.func149, Tryz.ntmps149
    go_wp2_with fail
    go_ret
    exact ⟨by rw [hk.out]; rfl, rfl⟩
  have hk := Lib.hid (show functionN s = 0 by
    unfold functionN fns; rw [if_neg]
    simp only [beq_eq_false_iff_ne, ne_eq] at h0 h1 h2 h3 h4 h5
    simp only [List.mem_cons, List.not_mem_nil, h0, h1, h2, h3, h4, h5, or_self, not_false_eq_true])
  go_enter Tryz.func149, Tryz.ntmps149
  go_wp2_with fail
  go_ret
  exact ⟨by rw [hk.out]; rfl, rfl⟩
end Go.Proofs.YtckjlliobebodaaGreatDoor
