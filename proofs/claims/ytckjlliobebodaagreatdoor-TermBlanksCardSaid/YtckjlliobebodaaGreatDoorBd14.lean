/- Texts RSgo of this proof, in one. -/
import Derived.Test.YtckjlliobebodaaGreatDoorBd13
set_option linter.unusedVariables false
set_option linter.unusedSimpArgs false
namespace Go.Proofs.YtckjlliobebodaaGreatDoor
open Go.RowKit
def SgC (op : Int) : Prop := ∀ W, Calls Tryz.prog 104 #[.int .i64 op] W fun e w' => e = .returned (.string (binS op)) ∧ Kept (fun _ => False) W w'
set_option maxRecDepth 100000 in
set_option maxHeartbeats 16000000 in
theorem rsgOf_any (n : Nat) (h : n ≤ 56) : SgC (n : Int) := by
  match n, h with
  | 0, _ =>
    intro W
    have HB : Hid (binS ((0 : Nat) : Int) = ⟨#[]⟩) := Lib.hid (by decide)
    rw [HB.out]
    change Calls Tryz.prog 104 #[.int .i64 0] W _
    go_enter Tryz.func104, Tryz.ntmps104
    go_wp2_with fail
    go_ret
    first | exact ⟨rfl, Kept.refl _ _⟩ | exact ⟨rfl, (Kept.refl _ _).alloc _⟩
  | 1, _ =>
    intro W
    have HB : Hid (binS ((1 : Nat) : Int) = ⟨#[]⟩) := Lib.hid (by decide)
    rw [HB.out]
    change Calls Tryz.prog 104 #[.int .i64 1] W _
    go_enter Tryz.func104, Tryz.ntmps104
    go_wp2_with fail
    go_ret
    first | exact ⟨rfl, Kept.refl _ _⟩ | exact ⟨rfl, (Kept.refl _ _).alloc _⟩
  | 2, _ =>
    intro W
    have HB : Hid (binS ((2 : Nat) : Int) = ⟨#[]⟩) := Lib.hid (by decide)
    rw [HB.out]
    change Calls Tryz.prog 104 #[.int .i64 2] W _
    go_enter Tryz.func104, Tryz.ntmps104
    go_wp2_with fail
    go_ret
    first | exact ⟨rfl, Kept.refl _ _⟩ | exact ⟨rfl, (Kept.refl _ _).alloc _⟩
  | 3, _ =>
    intro W
    have HB : Hid (binS ((3 : Nat) : Int) = ⟨#[]⟩) := Lib.hid (by decide)
    rw [HB.out]
    change Calls Tryz.prog 104 #[.int .i64 3] W _
    go_enter Tryz.func104, Tryz.ntmps104
    go_wp2_with fail
    go_ret
    first | exact ⟨rfl, Kept.refl _ _⟩ | exact ⟨rfl, (Kept.refl _ _).alloc _⟩
  | 4, _ =>
    intro W
    have HB : Hid (binS ((4 : Nat) : Int) = ⟨#[38]⟩) := Lib.hid (by decide)
    rw [HB.out]
    change Calls Tryz.prog 104 #[.int .i64 4] W _
    go_enter Tryz.func104, Tryz.ntmps104
    go_wp2_with fail
    go_ret
    first | exact ⟨rfl, Kept.refl _ _⟩ | exact ⟨rfl, (Kept.refl _ _).alloc _⟩
  | 5, _ =>
    intro W
    have HB : Hid (binS ((5 : Nat) : Int) = ⟨#[111, 114]⟩) := Lib.hid (by decide)
    rw [HB.out]
    change Calls Tryz.prog 104 #[.int .i64 5] W _
    go_enter Tryz.func104, Tryz.ntmps104
    go_wp2_with fail
    go_ret
    first | exact ⟨rfl, Kept.refl _ _⟩ | exact ⟨rfl, (Kept.refl _ _).alloc _⟩
  | 6, _ =>
    intro W
    have HB : Hid (binS ((6 : Nat) : Int) = ⟨#[61, 62]⟩) := Lib.hid (by decide)
    rw [HB.out]
    change Calls Tryz.prog 104 #[.int .i64 6] W _
    go_enter Tryz.func104, Tryz.ntmps104
    go_wp2_with fail
    go_ret
    first | exact ⟨rfl, Kept.refl _ _⟩ | exact ⟨rfl, (Kept.refl _ _).alloc _⟩
  | 7, _ =>
    intro W
    have HB : Hid (binS ((7 : Nat) : Int) = ⟨#[60, 61, 62]⟩) := Lib.hid (by decide)
    rw [HB.out]
    change Calls Tryz.prog 104 #[.int .i64 7] W _
    go_enter Tryz.func104, Tryz.ntmps104
    go_wp2_with fail
    go_ret
    first | exact ⟨rfl, Kept.refl _ _⟩ | exact ⟨rfl, (Kept.refl _ _).alloc _⟩
  | 8, _ =>
    intro W
    have HB : Hid (binS ((8 : Nat) : Int) = ⟨#[]⟩) := Lib.hid (by decide)
    rw [HB.out]
    change Calls Tryz.prog 104 #[.int .i64 8] W _
    go_enter Tryz.func104, Tryz.ntmps104
    go_wp2_with fail
    go_ret
    first | exact ⟨rfl, Kept.refl _ _⟩ | exact ⟨rfl, (Kept.refl _ _).alloc _⟩
  | 9, _ =>
    intro W
    have HB : Hid (binS ((9 : Nat) : Int) = ⟨#[]⟩) := Lib.hid (by decide)
    rw [HB.out]
    change Calls Tryz.prog 104 #[.int .i64 9] W _
    go_enter Tryz.func104, Tryz.ntmps104
    go_wp2_with fail
    go_ret
    first | exact ⟨rfl, Kept.refl _ _⟩ | exact ⟨rfl, (Kept.refl _ _).alloc _⟩
  | 10, _ =>
    intro W
    have HB : Hid (binS ((10 : Nat) : Int) = ⟨#[61]⟩) := Lib.hid (by decide)
    rw [HB.out]
    change Calls Tryz.prog 104 #[.int .i64 10] W _
    go_enter Tryz.func104, Tryz.ntmps104
    go_wp2_with fail
    go_ret
    first | exact ⟨rfl, Kept.refl _ _⟩ | exact ⟨rfl, (Kept.refl _ _).alloc _⟩
  | 11, _ =>
    intro W
    have HB : Hid (binS ((11 : Nat) : Int) = ⟨#[47, 61]⟩) := Lib.hid (by decide)
    rw [HB.out]
    change Calls Tryz.prog 104 #[.int .i64 11] W _
    go_enter Tryz.func104, Tryz.ntmps104
    go_wp2_with fail
    go_ret
    first | exact ⟨rfl, Kept.refl _ _⟩ | exact ⟨rfl, (Kept.refl _ _).alloc _⟩
  | 12, _ =>
    intro W
    have HB : Hid (binS ((12 : Nat) : Int) = ⟨#[60]⟩) := Lib.hid (by decide)
    rw [HB.out]
    change Calls Tryz.prog 104 #[.int .i64 12] W _
    go_enter Tryz.func104, Tryz.ntmps104
    go_wp2_with fail
    go_ret
    first | exact ⟨rfl, Kept.refl _ _⟩ | exact ⟨rfl, (Kept.refl _ _).alloc _⟩
  | 13, _ =>
    intro W
    have HB : Hid (binS ((13 : Nat) : Int) = ⟨#[60, 61]⟩) := Lib.hid (by decide)
    rw [HB.out]
    change Calls Tryz.prog 104 #[.int .i64 13] W _
    go_enter Tryz.func104, Tryz.ntmps104
    go_wp2_with fail
    go_ret
    first | exact ⟨rfl, Kept.refl _ _⟩ | exact ⟨rfl, (Kept.refl _ _).alloc _⟩
  | 14, _ =>
    intro W
    have HB : Hid (binS ((14 : Nat) : Int) = ⟨#[62]⟩) := Lib.hid (by decide)
    rw [HB.out]
    change Calls Tryz.prog 104 #[.int .i64 14] W _
    go_enter Tryz.func104, Tryz.ntmps104
    go_wp2_with fail
    go_ret
    first | exact ⟨rfl, Kept.refl _ _⟩ | exact ⟨rfl, (Kept.refl _ _).alloc _⟩
  | 15, _ =>
    intro W
    have HB : Hid (binS ((15 : Nat) : Int) = ⟨#[62, 61]⟩) := Lib.hid (by decide)
    rw [HB.out]
    change Calls Tryz.prog 104 #[.int .i64 15] W _
    go_enter Tryz.func104, Tryz.ntmps104
    go_wp2_with fail
    go_ret
    first | exact ⟨rfl, Kept.refl _ _⟩ | exact ⟨rfl, (Kept.refl _ _).alloc _⟩
  | 16, _ =>
    intro W
    have HB : Hid (binS ((16 : Nat) : Int) = ⟨#[105, 110]⟩) := Lib.hid (by decide)
    rw [HB.out]
    change Calls Tryz.prog 104 #[.int .i64 16] W _
    go_enter Tryz.func104, Tryz.ntmps104
    go_wp2_with fail
    go_ret
    first | exact ⟨rfl, Kept.refl _ _⟩ | exact ⟨rfl, (Kept.refl _ _).alloc _⟩
  | 17, _ =>
    intro W
    have HB : Hid (binS ((17 : Nat) : Int) = ⟨#[110, 111, 116, 105, 110]⟩) := Lib.hid (by decide)
    rw [HB.out]
    change Calls Tryz.prog 104 #[.int .i64 17] W _
    go_enter Tryz.func104, Tryz.ntmps104
    go_wp2_with fail
    go_ret
    first | exact ⟨rfl, Kept.refl _ _⟩ | exact ⟨rfl, (Kept.refl _ _).alloc _⟩
  | 18, _ =>
    intro W
    have HB : Hid (binS ((18 : Nat) : Int) = ⟨#[115, 117, 98]⟩) := Lib.hid (by decide)
    rw [HB.out]
    change Calls Tryz.prog 104 #[.int .i64 18] W _
    go_enter Tryz.func104, Tryz.ntmps104
    go_wp2_with fail
    go_ret
    first | exact ⟨rfl, Kept.refl _ _⟩ | exact ⟨rfl, (Kept.refl _ _).alloc _⟩
  | 19, _ =>
    intro W
    have HB : Hid (binS ((19 : Nat) : Int) = ⟨#[]⟩) := Lib.hid (by decide)
    rw [HB.out]
    change Calls Tryz.prog 104 #[.int .i64 19] W _
    go_enter Tryz.func104, Tryz.ntmps104
    go_wp2_with fail
    go_ret
    first | exact ⟨rfl, Kept.refl _ _⟩ | exact ⟨rfl, (Kept.refl _ _).alloc _⟩
  | 20, _ =>
    intro W
    have HB : Hid (binS ((20 : Nat) : Int) = ⟨#[]⟩) := Lib.hid (by decide)
    rw [HB.out]
    change Calls Tryz.prog 104 #[.int .i64 20] W _
    go_enter Tryz.func104, Tryz.ntmps104
    go_wp2_with fail
    go_ret
    first | exact ⟨rfl, Kept.refl _ _⟩ | exact ⟨rfl, (Kept.refl _ _).alloc _⟩
  | 21, _ =>
    intro W
    have HB : Hid (binS ((21 : Nat) : Int) = ⟨#[]⟩) := Lib.hid (by decide)
    rw [HB.out]
    change Calls Tryz.prog 104 #[.int .i64 21] W _
    go_enter Tryz.func104, Tryz.ntmps104
    go_wp2_with fail
    go_ret
    first | exact ⟨rfl, Kept.refl _ _⟩ | exact ⟨rfl, (Kept.refl _ _).alloc _⟩
  | 22, _ =>
    intro W
    have HB : Hid (binS ((22 : Nat) : Int) = ⟨#[43]⟩) := Lib.hid (by decide)
    rw [HB.out]
    change Calls Tryz.prog 104 #[.int .i64 22] W _
    go_enter Tryz.func104, Tryz.ntmps104
    go_wp2_with fail
    go_ret
    first | exact ⟨rfl, Kept.refl _ _⟩ | exact ⟨rfl, (Kept.refl _ _).alloc _⟩
  | 23, _ =>
    intro W
    have HB : Hid (binS ((23 : Nat) : Int) = ⟨#[45]⟩) := Lib.hid (by decide)
    rw [HB.out]
    change Calls Tryz.prog 104 #[.int .i64 23] W _
    go_enter Tryz.func104, Tryz.ntmps104
    go_wp2_with fail
    go_ret
    first | exact ⟨rfl, Kept.refl _ _⟩ | exact ⟨rfl, (Kept.refl _ _).alloc _⟩
  | 24, _ =>
    intro W
    have HB : Hid (binS ((24 : Nat) : Int) = ⟨#[42]⟩) := Lib.hid (by decide)
    rw [HB.out]
    change Calls Tryz.prog 104 #[.int .i64 24] W _
    go_enter Tryz.func104, Tryz.ntmps104
    go_wp2_with fail
    go_ret
    first | exact ⟨rfl, Kept.refl _ _⟩ | exact ⟨rfl, (Kept.refl _ _).alloc _⟩
  | 25, _ =>
    intro W
    have HB : Hid (binS ((25 : Nat) : Int) = ⟨#[47]⟩) := Lib.hid (by decide)
    rw [HB.out]
    change Calls Tryz.prog 104 #[.int .i64 25] W _
    go_enter Tryz.func104, Tryz.ntmps104
    go_wp2_with fail
    go_ret
    first | exact ⟨rfl, Kept.refl _ _⟩ | exact ⟨rfl, (Kept.refl _ _).alloc _⟩
  | 26, _ =>
    intro W
    have HB : Hid (binS ((26 : Nat) : Int) = ⟨#[109, 111, 100]⟩) := Lib.hid (by decide)
    rw [HB.out]
    change Calls Tryz.prog 104 #[.int .i64 26] W _
    go_enter Tryz.func104, Tryz.ntmps104
    go_wp2_with fail
    go_ret
    first | exact ⟨rfl, Kept.refl _ _⟩ | exact ⟨rfl, (Kept.refl _ _).alloc _⟩
  | 27, _ =>
    intro W
    have HB : Hid (binS ((27 : Nat) : Int) = ⟨#[124, 45, 62]⟩) := Lib.hid (by decide)
    rw [HB.out]
    change Calls Tryz.prog 104 #[.int .i64 27] W _
    go_enter Tryz.func104, Tryz.ntmps104
    go_wp2_with fail
    go_ret
    first | exact ⟨rfl, Kept.refl _ _⟩ | exact ⟨rfl, (Kept.refl _ _).alloc _⟩
  | 28, _ =>
    intro W
    have HB : Hid (binS ((28 : Nat) : Int) = ⟨#[]⟩) := Lib.hid (by decide)
    rw [HB.out]
    change Calls Tryz.prog 104 #[.int .i64 28] W _
    go_enter Tryz.func104, Tryz.ntmps104
    go_wp2_with fail
    go_ret
    first | exact ⟨rfl, Kept.refl _ _⟩ | exact ⟨rfl, (Kept.refl _ _).alloc _⟩
  | 29, _ =>
    intro W
    have HB : Hid (binS ((29 : Nat) : Int) = ⟨#[]⟩) := Lib.hid (by decide)
    rw [HB.out]
    change Calls Tryz.prog 104 #[.int .i64 29] W _
    go_enter Tryz.func104, Tryz.ntmps104
    go_wp2_with fail
    go_ret
    first | exact ⟨rfl, Kept.refl _ _⟩ | exact ⟨rfl, (Kept.refl _ _).alloc _⟩
  | 30, _ =>
    intro W
    have HB : Hid (binS ((30 : Nat) : Int) = ⟨#[46, 46]⟩) := Lib.hid (by decide)
    rw [HB.out]
    change Calls Tryz.prog 104 #[.int .i64 30] W _
    go_enter Tryz.func104, Tryz.ntmps104
    go_wp2_with fail
    go_ret
    first | exact ⟨rfl, Kept.refl _ _⟩ | exact ⟨rfl, (Kept.refl _ _).alloc _⟩
  | 31, _ =>
    intro W
    have HB : Hid (binS ((31 : Nat) : Int) = ⟨#[92, 47]⟩) := Lib.hid (by decide)
    rw [HB.out]
    change Calls Tryz.prog 104 #[.int .i64 31] W _
    go_enter Tryz.func104, Tryz.ntmps104
    go_wp2_with fail
    go_ret
    first | exact ⟨rfl, Kept.refl _ _⟩ | exact ⟨rfl, (Kept.refl _ _).alloc _⟩
  | 32, _ =>
    intro W
    have HB : Hid (binS ((32 : Nat) : Int) = ⟨#[47, 92]⟩) := Lib.hid (by decide)
    rw [HB.out]
    change Calls Tryz.prog 104 #[.int .i64 32] W _
    go_enter Tryz.func104, Tryz.ntmps104
    go_wp2_with fail
    go_ret
    first | exact ⟨rfl, Kept.refl _ _⟩ | exact ⟨rfl, (Kept.refl _ _).alloc _⟩
  | 33, _ =>
    intro W
    have HB : Hid (binS ((33 : Nat) : Int) = ⟨#[92]⟩) := Lib.hid (by decide)
    rw [HB.out]
    change Calls Tryz.prog 104 #[.int .i64 33] W _
    go_enter Tryz.func104, Tryz.ntmps104
    go_wp2_with fail
    go_ret
    first | exact ⟨rfl, Kept.refl _ _⟩ | exact ⟨rfl, (Kept.refl _ _).alloc _⟩
  | 34, _ =>
    intro W
    have HB : Hid (binS ((34 : Nat) : Int) = ⟨#[62, 60]⟩) := Lib.hid (by decide)
    rw [HB.out]
    change Calls Tryz.prog 104 #[.int .i64 34] W _
    go_enter Tryz.func104, Tryz.ntmps104
    go_wp2_with fail
    go_ret
    first | exact ⟨rfl, Kept.refl _ _⟩ | exact ⟨rfl, (Kept.refl _ _).alloc _⟩
  | 35, _ =>
    intro W
    have HB : Hid (binS ((35 : Nat) : Int) = ⟨#[60, 43]⟩) := Lib.hid (by decide)
    rw [HB.out]
    change Calls Tryz.prog 104 #[.int .i64 35] W _
    go_enter Tryz.func104, Tryz.ntmps104
    go_wp2_with fail
    go_ret
    first | exact ⟨rfl, Kept.refl _ _⟩ | exact ⟨rfl, (Kept.refl _ _).alloc _⟩
  | 36, _ =>
    intro W
    have HB : Hid (binS ((36 : Nat) : Int) = ⟨#[59]⟩) := Lib.hid (by decide)
    rw [HB.out]
    change Calls Tryz.prog 104 #[.int .i64 36] W _
    go_enter Tryz.func104, Tryz.ntmps104
    go_wp2_with fail
    go_ret
    first | exact ⟨rfl, Kept.refl _ _⟩ | exact ⟨rfl, (Kept.refl _ _).alloc _⟩
  | 37, _ =>
    intro W
    have HB : Hid (binS ((37 : Nat) : Int) = ⟨#[60, 124]⟩) := Lib.hid (by decide)
    rw [HB.out]
    change Calls Tryz.prog 104 #[.int .i64 37] W _
    go_enter Tryz.func104, Tryz.ntmps104
    go_wp2_with fail
    go_ret
    first | exact ⟨rfl, Kept.refl _ _⟩ | exact ⟨rfl, (Kept.refl _ _).alloc _⟩
  | 38, _ =>
    intro W
    have HB : Hid (binS ((38 : Nat) : Int) = ⟨#[60, 60, 124]⟩) := Lib.hid (by decide)
    rw [HB.out]
    change Calls Tryz.prog 104 #[.int .i64 38] W _
    go_enter Tryz.func104, Tryz.ntmps104
    go_wp2_with fail
    go_ret
    first | exact ⟨rfl, Kept.refl _ _⟩ | exact ⟨rfl, (Kept.refl _ _).alloc _⟩
  | 39, _ =>
    intro W
    have HB : Hid (binS ((39 : Nat) : Int) = ⟨#[124, 62]⟩) := Lib.hid (by decide)
    rw [HB.out]
    change Calls Tryz.prog 104 #[.int .i64 39] W _
    go_enter Tryz.func104, Tryz.ntmps104
    go_wp2_with fail
    go_ret
    first | exact ⟨rfl, Kept.refl _ _⟩ | exact ⟨rfl, (Kept.refl _ _).alloc _⟩
  | 40, _ =>
    intro W
    have HB : Hid (binS ((40 : Nat) : Int) = ⟨#[124, 62, 62]⟩) := Lib.hid (by decide)
    rw [HB.out]
    change Calls Tryz.prog 104 #[.int .i64 40] W _
    go_enter Tryz.func104, Tryz.ntmps104
    go_wp2_with fail
    go_ret
    first | exact ⟨rfl, Kept.refl _ _⟩ | exact ⟨rfl, (Kept.refl _ _).alloc _⟩
  | 41, _ =>
    intro W
    have HB : Hid (binS ((41 : Nat) : Int) = ⟨#[60, 45, 62]⟩) := Lib.hid (by decide)
    rw [HB.out]
    change Calls Tryz.prog 104 #[.int .i64 41] W _
    go_enter Tryz.func104, Tryz.ntmps104
    go_wp2_with fail
    go_ret
    first | exact ⟨rfl, Kept.refl _ _⟩ | exact ⟨rfl, (Kept.refl _ _).alloc _⟩
  | 42, _ =>
    intro W
    have HB : Hid (binS ((42 : Nat) : Int) = ⟨#[43, 45, 62]⟩) := Lib.hid (by decide)
    rw [HB.out]
    change Calls Tryz.prog 104 #[.int .i64 42] W _
    go_enter Tryz.func104, Tryz.ntmps104
    go_wp2_with fail
    go_ret
    first | exact ⟨rfl, Kept.refl _ _⟩ | exact ⟨rfl, (Kept.refl _ _).alloc _⟩
  | 43, _ =>
    intro W
    have HB : Hid (binS ((43 : Nat) : Int) = ⟨#[45, 45, 62]⟩) := Lib.hid (by decide)
    rw [HB.out]
    change Calls Tryz.prog 104 #[.int .i64 43] W _
    go_enter Tryz.func104, Tryz.ntmps104
    go_wp2_with fail
    go_ret
    first | exact ⟨rfl, Kept.refl _ _⟩ | exact ⟨rfl, (Kept.refl _ _).alloc _⟩
  | 44, _ =>
    intro W
    have HB : Hid (binS ((44 : Nat) : Int) = ⟨#[62, 45, 62]⟩) := Lib.hid (by decide)
    rw [HB.out]
    change Calls Tryz.prog 104 #[.int .i64 44] W _
    go_enter Tryz.func104, Tryz.ntmps104
    go_wp2_with fail
    go_ret
    first | exact ⟨rfl, Kept.refl _ _⟩ | exact ⟨rfl, (Kept.refl _ _).alloc _⟩
  | 45, _ =>
    intro W
    have HB : Hid (binS ((45 : Nat) : Int) = ⟨#[62, 45, 62, 62]⟩) := Lib.hid (by decide)
    rw [HB.out]
    change Calls Tryz.prog 104 #[.int .i64 45] W _
    go_enter Tryz.func104, Tryz.ntmps104
    go_wp2_with fail
    go_ret
    first | exact ⟨rfl, Kept.refl _ _⟩ | exact ⟨rfl, (Kept.refl _ _).alloc _⟩
  | 46, _ =>
    intro W
    have HB : Hid (binS ((46 : Nat) : Int) = ⟨#[]⟩) := Lib.hid (by decide)
    rw [HB.out]
    change Calls Tryz.prog 104 #[.int .i64 46] W _
    go_enter Tryz.func104, Tryz.ntmps104
    go_wp2_with fail
    go_ret
    first | exact ⟨rfl, Kept.refl _ _⟩ | exact ⟨rfl, (Kept.refl _ _).alloc _⟩
  | 47, _ =>
    intro W
    have HB : Hid (binS ((47 : Nat) : Int) = ⟨#[]⟩) := Lib.hid (by decide)
    rw [HB.out]
    change Calls Tryz.prog 104 #[.int .i64 47] W _
    go_enter Tryz.func104, Tryz.ntmps104
    go_wp2_with fail
    go_ret
    first | exact ⟨rfl, Kept.refl _ _⟩ | exact ⟨rfl, (Kept.refl _ _).alloc _⟩
  | 48, _ =>
    intro W
    have HB : Hid (binS ((48 : Nat) : Int) = ⟨#[]⟩) := Lib.hid (by decide)
    rw [HB.out]
    change Calls Tryz.prog 104 #[.int .i64 48] W _
    go_enter Tryz.func104, Tryz.ntmps104
    go_wp2_with fail
    go_ret
    first | exact ⟨rfl, Kept.refl _ _⟩ | exact ⟨rfl, (Kept.refl _ _).alloc _⟩
  | 49, _ =>
    intro W
    have HB : Hid (binS ((49 : Nat) : Int) = ⟨#[]⟩) := Lib.hid (by decide)
    rw [HB.out]
    change Calls Tryz.prog 104 #[.int .i64 49] W _
    go_enter Tryz.func104, Tryz.ntmps104
    go_wp2_with fail
    go_ret
    first | exact ⟨rfl, Kept.refl _ _⟩ | exact ⟨rfl, (Kept.refl _ _).alloc _⟩
  | 50, _ =>
    intro W
    have HB : Hid (binS ((50 : Nat) : Int) = ⟨#[]⟩) := Lib.hid (by decide)
    rw [HB.out]
    change Calls Tryz.prog 104 #[.int .i64 50] W _
    go_enter Tryz.func104, Tryz.ntmps104
    go_wp2_with fail
    go_ret
    first | exact ⟨rfl, Kept.refl _ _⟩ | exact ⟨rfl, (Kept.refl _ _).alloc _⟩
  | 51, _ =>
    intro W
    have HB : Hid (binS ((51 : Nat) : Int) = ⟨#[]⟩) := Lib.hid (by decide)
    rw [HB.out]
    change Calls Tryz.prog 104 #[.int .i64 51] W _
    go_enter Tryz.func104, Tryz.ntmps104
    go_wp2_with fail
    go_ret
    first | exact ⟨rfl, Kept.refl _ _⟩ | exact ⟨rfl, (Kept.refl _ _).alloc _⟩
  | 52, _ =>
    intro W
    have HB : Hid (binS ((52 : Nat) : Int) = ⟨#[]⟩) := Lib.hid (by decide)
    rw [HB.out]
    change Calls Tryz.prog 104 #[.int .i64 52] W _
    go_enter Tryz.func104, Tryz.ntmps104
    go_wp2_with fail
    go_ret
    first | exact ⟨rfl, Kept.refl _ _⟩ | exact ⟨rfl, (Kept.refl _ _).alloc _⟩
  | 53, _ =>
    intro W
    have HB : Hid (binS ((53 : Nat) : Int) = ⟨#[]⟩) := Lib.hid (by decide)
    rw [HB.out]
    change Calls Tryz.prog 104 #[.int .i64 53] W _
    go_enter Tryz.func104, Tryz.ntmps104
    go_wp2_with fail
    go_ret
    first | exact ⟨rfl, Kept.refl _ _⟩ | exact ⟨rfl, (Kept.refl _ _).alloc _⟩
  | 54, _ =>
    intro W
    have HB : Hid (binS ((54 : Nat) : Int) = ⟨#[]⟩) := Lib.hid (by decide)
    rw [HB.out]
    change Calls Tryz.prog 104 #[.int .i64 54] W _
    go_enter Tryz.func104, Tryz.ntmps104
    go_wp2_with fail
    go_ret
    first | exact ⟨rfl, Kept.refl _ _⟩ | exact ⟨rfl, (Kept.refl _ _).alloc _⟩
  | 55, _ =>
    intro W
    have HB : Hid (binS ((55 : Nat) : Int) = ⟨#[]⟩) := Lib.hid (by decide)
    rw [HB.out]
    change Calls Tryz.prog 104 #[.int .i64 55] W _
    go_enter Tryz.func104, Tryz.ntmps104
    go_wp2_with fail
    go_ret
    first | exact ⟨rfl, Kept.refl _ _⟩ | exact ⟨rfl, (Kept.refl _ _).alloc _⟩
  | 56, _ =>
    intro W
    have HB : Hid (binS ((56 : Nat) : Int) = ⟨#[]⟩) := Lib.hid (by decide)
    rw [HB.out]
    change Calls Tryz.prog 104 #[.int .i64 56] W _
    go_enter Tryz.func104, Tryz.ntmps104
    go_wp2_with fail
    go_ret
    first | exact ⟨rfl, Kept.refl _ _⟩ | exact ⟨rfl, (Kept.refl _ _).alloc _⟩
  | n + 57, h => omega
set_option maxHeartbeats 4000000 in
theorem rcomp_any {op : Int} (h0 : 0 ≤ op) (h56 : op ≤ 56) {nm : ByteArray} {N : Int} {tkd : Int} {tnm : ByteArray} {ta : Option Addr} {tn tc : Nat} {ma : Option Addr} {mn mc : Nat} (w : World) :
    Calls Tryz.prog 140 #[.agg #[.int .i64 op, .string nm, .int .i64 N, .int .i64 tkd, .string tnm, .slice ta tn tc, .slice ma mn mc]] w fun e w' => e = .returned (.bool (compB op)) ∧ Kept (fun _ => False) w w' := by
  have K0 : Kept (fun _ => False) w (w.alloc (.cells #[.int .i64 op, .string nm, .int .i64 N, .int .i64 tkd, .string tnm, .slice ta tn tc, .slice ma mn mc] 27)) := (Kept.refl _ _).alloc _
  by_cases h : op = 3 ∨ op = 21 ∨ op = 8 ∨ op = 9 ∨ op = 56
  · clear h0 h56
    rcases h with rfl | rfl | rfl | rfl | rfl
    all_goals
      go_enter Tryz.func140, Tryz.ntmps140
      go_wp2_with fail
      go_ret
      exact ⟨rfl, K0⟩
  · have q3 : (op == 3) = false := beq_false_of_ne (fun e => h (by simp [e]))
    have q21 : (op == 21) = false := beq_false_of_ne (fun e => h (by simp [e]))
    have q8 : (op == 8) = false := beq_false_of_ne (fun e => h (by simp [e]))
    have q9 : (op == 9) = false := beq_false_of_ne (fun e => h (by simp [e]))
    have q56 : (op == 56) = false := beq_false_of_ne (fun e => h (by simp [e]))
    have HQ : Hid (compB op = !((binS op).toList == [])) := Lib.hid (by unfold compB; rw [q3, q21, q8, q9, q56]; rfl)
    have HB : Hid (SgC op) := Lib.hid (by obtain ⟨n, rfl⟩ := Int.eq_ofNat_of_zero_le h0; exact rsgOf_any n (by omega))
    clear h h0 h56
    go_enter Tryz.func140, Tryz.ntmps140
    go_wp2_with (go_at_call 104; refine (HB.out _).mono ?_; rintro e w1 ⟨rfl, k1⟩)
    go_ret
    exact ⟨by rw [HQ.out]; first | rfl | simp [bne], K0.trans k1⟩
set_option maxRecDepth 100000 in
set_option maxHeartbeats 4000000 in
theorem ro_any {t : Tm} {out : List UInt8} (hp : RS t out) (h0 : 0 ≤ t.op) (h56 : t.op ≤ 56) : RO t (parS t.op out) := by
  intro w ok tk kk hty htm hlen
  obtain ⟨ta, tn, tc, rfl⟩ := hty.slice
  obtain ⟨ma, mn, mc, rfl⟩ := htm.slice
  unfold tmVal
  have K0 : Kept (fun _ => False) w (w.alloc (.cells #[.int .i64 t.op, .string t.name, .int .i64 t.n, .int .i64 t.ty.kind, .string t.ty.name, .slice ta tn tc, .slice ma mn mc] 27)) := (Kept.refl _ _).alloc _
  have bX : Blk (w.alloc (.cells #[.int .i64 t.op, .string t.name, .int .i64 t.n, .int .i64 t.ty.kind, .string t.ty.name, .slice ta tn tc, .slice ma mn mc] 27)) w.heap.size 27 [.int .i64 t.op, .string t.name, .int .i64 t.n, .int .i64 t.ty.kind, .string t.ty.name, .slice ta tn tc, .slice ma mn mc] := Blk.new w 27 _
  have HCO := Lib.hid (fun W => rcomp_any (op := t.op) h0 h56 (nm := t.name) (N := t.n) (tkd := t.ty.kind) (tnm := t.ty.name) (ta := ta) (tn := tn) (tc := tc) (ma := ma) (mn := mn) (mc := mc) W)
  have HLo : Hid (out.length ≤ 100000000) := Lib.hid (by
    have h2 := hlen
    unfold parS at h2
    split at h2
    · simp only [List.length_append, List.length_cons, List.length_nil] at h2; omega
    · exact h2)
  have HP := Lib.hid (fun W (k : Kept (fun _ => False) w W) => hp W ok _ _ (hty.frame (Same.of_kept (ok := ok) k (fun _ _ e => e))) (htm.frame (Same.of_kept (ok := ok) k (fun _ _ e => e))) HLo.out)
  unfold tmVal at HP
  have hz : (str out).size ≤ 100000000 := by rw [str_size]; exact HLo.out
  clear hp h0 h56 hlen
  cases hc : compB t.op
  · have hps : parS t.op out = out := by unfold parS; rw [hc]; rfl
    rw [hps]
    clear hps
    generalize str out = so at *
    go_enter Tryz.func103, Tryz.ntmps103
    go_wp2_with fail
    refine (HCO.out _).mono ?_
    rintro e w1 ⟨rfl, k1⟩
    rw [hc]
    have K1 := K0.trans k1
    have g : ∀ i, w1.cell? ⟨w.heap.size, i, none⟩ = [Value.int .i64 t.op, .string t.name, .int .i64 t.n, .int .i64 t.ty.kind, .string t.ty.name, .slice ta tn tc, .slice ma mn mc][i]? := (bX.kept k1 (fun h => h)).cell
    go_wp2_with fail
    refine (HP.out _ K1).mono ?_
    rintro e w2 ⟨rfl, k2⟩
    go_wp2_with fail
    go_ret
    exact ⟨rfl, K1.trans k2⟩
  · have hps : parS t.op out = ([40] : List UInt8) ++ out ++ [41] := by unfold parS; rw [hc]; rfl
    obtain ⟨sq, hsq⟩ : ∃ sq, sq = str (parS t.op out) := ⟨_, rfl⟩
    rw [← hsq]
    have HSQ := Lib.hid hsq
    clear hsq
    have HT : Hid (sq = ⟨#[40]⟩ ++ str out ++ ⟨#[41]⟩) := Lib.hid (by
      rw [HSQ.out, hps, ← str_app, ← str_app]
      rfl)
    clear hps
    generalize str out = so at *
    go_enter Tryz.func103, Tryz.ntmps103
    go_wp2_with fail
    refine (HCO.out _).mono ?_
    rintro e w1 ⟨rfl, k1⟩
    rw [hc]
    have K1 := K0.trans k1
    have g : ∀ i, w1.cell? ⟨w.heap.size, i, none⟩ = [Value.int .i64 t.op, .string t.name, .int .i64 t.n, .int .i64 t.ty.kind, .string t.ty.name, .slice ta tn tc, .slice ma mn mc][i]? := (bX.kept k1 (fun h => h)).cell
    go_wp2_with fail
    refine (HP.out _ K1).mono ?_
    rintro e w2 ⟨rfl, k2⟩
    go_wp2_with fail
    go_ret
    exact ⟨by rw [HT.out]; rfl, K1.trans k2⟩
end Go.Proofs.YtckjlliobebodaaGreatDoor
