/- binary: the sign of a binary operator. Printed by genbin.py. -/
import Derived.Test.YtckjlliobebodaaGreatDoorBld
import Derived.Test.YtckjlliobebodaaGreatDoorOper
set_option linter.unusedVariables false
set_option linter.unusedSimpArgs false
namespace Go.Proofs.YtckjlliobebodaaGreatDoor
open Go.RowKit
def RowOk (w W : World) (A : Array Value) (n : Nat) : Prop := ∃ vs vo, (∀ W', (Instr.index 118 (.agg A) (.int .i64 n)).run Tryz.prog W' = .ok (.agg #[.int .i64 (lvGroup n), vs, vo]) W') ∧
  ((lvOps n = [] ∧ vs = .slice none 0 0 ∧ vo = .slice none 0 0) ∨ ∃ g g', vs = .slice (some ⟨g, 0, none⟩) (lvSigns n).length (lvSigns n).length ∧ vo = .slice (some ⟨g', 0, none⟩) (lvOps n).length (lvOps n).length ∧ Blk W g 9 ((lvSigns n).map Value.string) ∧ Blk W g' 3 ((lvOps n).map (Value.int .i64)))
/-- The world behind levels(). -/
def lvW (w : World) : World := (lvObjs.foldl World.alloc w).setCells w.heap.size 0 (lvGo lvTab (w.heap.size + 1))
def lvA (w : World) : Array Value := (lvGo lvTab (w.heap.size + 1)).toArray
theorem lvrow_0 (w : World) : RowOk w (lvW w) (lvA w) 0 := ⟨_, _, fun _ => by kernel_rfl, Or.inl ⟨rfl, rfl, rfl⟩⟩
theorem lvrow_1 (w : World) : RowOk w (lvW w) (lvA w) 1 := ⟨.slice (some ⟨w.heap.size + (0 + 1), 0, none⟩) (lvSigns 1).length (lvSigns 1).length, .slice (some ⟨w.heap.size + (1 + 1), 0, none⟩) (lvOps 1).length (lvOps 1).length, fun _ => by kernel_rfl, Or.inr ⟨_, _, rfl, rfl, lv_new w 0 9 _ rfl, lv_new w 1 3 _ rfl⟩⟩
theorem lvrow_2 (w : World) : RowOk w (lvW w) (lvA w) 2 := ⟨.slice (some ⟨w.heap.size + (2 + 1), 0, none⟩) (lvSigns 2).length (lvSigns 2).length, .slice (some ⟨w.heap.size + (3 + 1), 0, none⟩) (lvOps 2).length (lvOps 2).length, fun _ => by kernel_rfl, Or.inr ⟨_, _, rfl, rfl, lv_new w 2 9 _ rfl, lv_new w 3 3 _ rfl⟩⟩
theorem lvrow_3 (w : World) : RowOk w (lvW w) (lvA w) 3 := ⟨.slice (some ⟨w.heap.size + (4 + 1), 0, none⟩) (lvSigns 3).length (lvSigns 3).length, .slice (some ⟨w.heap.size + (5 + 1), 0, none⟩) (lvOps 3).length (lvOps 3).length, fun _ => by kernel_rfl, Or.inr ⟨_, _, rfl, rfl, lv_new w 4 9 _ rfl, lv_new w 5 3 _ rfl⟩⟩
theorem lvrow_4 (w : World) : RowOk w (lvW w) (lvA w) 4 := ⟨.slice (some ⟨w.heap.size + (6 + 1), 0, none⟩) (lvSigns 4).length (lvSigns 4).length, .slice (some ⟨w.heap.size + (7 + 1), 0, none⟩) (lvOps 4).length (lvOps 4).length, fun _ => by kernel_rfl, Or.inr ⟨_, _, rfl, rfl, lv_new w 6 9 _ rfl, lv_new w 7 3 _ rfl⟩⟩
theorem lvrow_5 (w : World) : RowOk w (lvW w) (lvA w) 5 := ⟨_, _, fun _ => by kernel_rfl, Or.inl ⟨rfl, rfl, rfl⟩⟩
theorem lvrow_6 (w : World) : RowOk w (lvW w) (lvA w) 6 := ⟨.slice (some ⟨w.heap.size + (8 + 1), 0, none⟩) (lvSigns 6).length (lvSigns 6).length, .slice (some ⟨w.heap.size + (9 + 1), 0, none⟩) (lvOps 6).length (lvOps 6).length, fun _ => by kernel_rfl, Or.inr ⟨_, _, rfl, rfl, lv_new w 8 9 _ rfl, lv_new w 9 3 _ rfl⟩⟩
theorem lvrow_7 (w : World) : RowOk w (lvW w) (lvA w) 7 := ⟨.slice (some ⟨w.heap.size + (10 + 1), 0, none⟩) (lvSigns 7).length (lvSigns 7).length, .slice (some ⟨w.heap.size + (11 + 1), 0, none⟩) (lvOps 7).length (lvOps 7).length, fun _ => by kernel_rfl, Or.inr ⟨_, _, rfl, rfl, lv_new w 10 9 _ rfl, lv_new w 11 3 _ rfl⟩⟩
theorem lvrow_8 (w : World) : RowOk w (lvW w) (lvA w) 8 := ⟨.slice (some ⟨w.heap.size + (12 + 1), 0, none⟩) (lvSigns 8).length (lvSigns 8).length, .slice (some ⟨w.heap.size + (13 + 1), 0, none⟩) (lvOps 8).length (lvOps 8).length, fun _ => by kernel_rfl, Or.inr ⟨_, _, rfl, rfl, lv_new w 12 9 _ rfl, lv_new w 13 3 _ rfl⟩⟩
theorem lvrow_9 (w : World) : RowOk w (lvW w) (lvA w) 9 := ⟨.slice (some ⟨w.heap.size + (14 + 1), 0, none⟩) (lvSigns 9).length (lvSigns 9).length, .slice (some ⟨w.heap.size + (15 + 1), 0, none⟩) (lvOps 9).length (lvOps 9).length, fun _ => by kernel_rfl, Or.inr ⟨_, _, rfl, rfl, lv_new w 14 9 _ rfl, lv_new w 15 3 _ rfl⟩⟩
theorem lvrow_10 (w : World) : RowOk w (lvW w) (lvA w) 10 := ⟨.slice (some ⟨w.heap.size + (16 + 1), 0, none⟩) (lvSigns 10).length (lvSigns 10).length, .slice (some ⟨w.heap.size + (17 + 1), 0, none⟩) (lvOps 10).length (lvOps 10).length, fun _ => by kernel_rfl, Or.inr ⟨_, _, rfl, rfl, lv_new w 16 9 _ rfl, lv_new w 17 3 _ rfl⟩⟩
theorem lvrow_11 (w : World) : RowOk w (lvW w) (lvA w) 11 := ⟨.slice (some ⟨w.heap.size + (18 + 1), 0, none⟩) (lvSigns 11).length (lvSigns 11).length, .slice (some ⟨w.heap.size + (19 + 1), 0, none⟩) (lvOps 11).length (lvOps 11).length, fun _ => by kernel_rfl, Or.inr ⟨_, _, rfl, rfl, lv_new w 18 9 _ rfl, lv_new w 19 3 _ rfl⟩⟩
theorem lvrow_12 (w : World) : RowOk w (lvW w) (lvA w) 12 := ⟨.slice (some ⟨w.heap.size + (20 + 1), 0, none⟩) (lvSigns 12).length (lvSigns 12).length, .slice (some ⟨w.heap.size + (21 + 1), 0, none⟩) (lvOps 12).length (lvOps 12).length, fun _ => by kernel_rfl, Or.inr ⟨_, _, rfl, rfl, lv_new w 20 9 _ rfl, lv_new w 21 3 _ rfl⟩⟩
theorem lvrow_any (w : World) (n : Nat) (h : n < 13) : RowOk w (lvW w) (lvA w) n := by
  rcases (show n = 0 ∨ n = 1 ∨ n = 2 ∨ n = 3 ∨ n = 4 ∨ n = 5 ∨ n = 6 ∨ n = 7 ∨ n = 8 ∨ n = 9 ∨ n = 10 ∨ n = 11 ∨ n = 12 by omega) with rfl | rfl | rfl | rfl | rfl | rfl | rfl | rfl | rfl | rfl | rfl | rfl | rfl
  · exact lvrow_0 w
  · exact lvrow_1 w
  · exact lvrow_2 w
  · exact lvrow_3 w
  · exact lvrow_4 w
  · exact lvrow_5 w
  · exact lvrow_6 w
  · exact lvrow_7 w
  · exact lvrow_8 w
  · exact lvrow_9 w
  · exact lvrow_10 w
  · exact lvrow_11 w
  · exact lvrow_12 w
theorem levels_w (w : World) : Calls Tryz.prog 120 #[] w fun e w' => e = .returned (.agg (lvA w)) ∧ w' = lvW w := levels_any w
theorem lvW_kept (w : World) : Kept (fun _ => False) w (lvW w) := Kept.of_below (lv_below w)
theorem idx_from (x : Int) : ∀ (zs : List Int) (i : Nat), Lib.idxFrom zs x i = -1 ∨ ∃ m, m < zs.length ∧ Lib.idxFrom zs x i = ((i + m : Nat) : Int)
  | [], i => Or.inl rfl
  | z :: zs, i => by
    by_cases h : z = x
    · exact Or.inr ⟨0, by simp, by simp [Lib.idxFrom, h]⟩
    · rcases idx_from x zs (i + 1) with h' | ⟨m, hm, h'⟩
      · left; simp [Lib.idxFrom, h, h']
      · right; exact ⟨m + 1, by simp; omega, by simp only [Lib.idxFrom, h, if_false, h']; congr 1; omega⟩
theorem idx_lt (zs : List Int) (x : Int) (h : 0 ≤ Lib.idxOf zs x) : ∃ m, m < zs.length ∧ Lib.idxOf zs x = (m : Int) := by
  rcases idx_from x zs 0 with h' | ⟨m, hm, h'⟩
  · unfold Lib.idxOf at h; rw [h'] at h; exact absurd h (by decide)
  · exact ⟨m, hm, by unfold Lib.idxOf; rw [h', Nat.zero_add]⟩
def binG (op : Int) : List Nat → ByteArray
  | [] => ⟨#[]⟩
  | n :: r => if 0 ≤ Lib.idxOf (lvOps n) op then (lvSigns n).getD (Lib.idxOf (lvOps n) op).toNat ⟨#[]⟩ else binG op r
def binS (op : Int) : ByteArray := binG op (List.range 13)
theorem lv_lens' (n : Nat) (h : n < 13) : (lvSigns n).length = (lvOps n).length ∧ (lvOps n).length ≤ 1000 := by
  rcases (show n = 0 ∨ n = 1 ∨ n = 2 ∨ n = 3 ∨ n = 4 ∨ n = 5 ∨ n = 6 ∨ n = 7 ∨ n = 8 ∨ n = 9 ∨ n = 10 ∨ n = 11 ∨ n = 12 by omega) with rfl | rfl | rfl | rfl | rfl | rfl | rfl | rfl | rfl | rfl | rfl | rfl | rfl <;> decide
set_option maxRecDepth 100000 in
set_option maxHeartbeats 4000000 in
theorem binary_any (op : Int) (w : World) : Calls Tryz.prog 94 #[.int .i64 op] w fun e w' => e = .returned (.string (binS op)) ∧ Kept (fun _ => False) w w' := by
  go_enter Tryz.func94, Tryz.ntmps94
  go_wp2_with (go_at_call 120; refine (levels_w w).mono ?_; rintro e w' ⟨rfl, rfl⟩)
  have HR := Lib.hid (lvrow_any w)
  have HKW := Lib.hid (lvW_kept w)
  generalize lvA w = A at *
  generalize lvW w = W at *
  go_loopw [7] (fun i wr => ∃ k : Nat, k ≤ 13 ∧ i = .int .i64 k ∧ Hid (binS op = binG op ((List.range 13).drop k)) ∧ Hid (Kept (fun _ => False) W wr)) (fun i _ => 13 - (intOf i).toNat)
  case atStart => exact ⟨0, Nat.zero_le _, rfl, Lib.hid rfl, Lib.hid (Kept.refl _ _)⟩
  case round =>
    obtain ⟨k, hk, rfl, hq, hkr⟩ := hrel
    by_cases hlt : k < 13
    · have i1 : (k : Int) < 13 := by omega
      have hdrop : Hid ((List.range 13).drop k = k :: (List.range 13).drop (k + 1)) := Lib.hid (by
        rw [drop_cons (List.range 13) k (by simpa using hlt)]; simp)
      have hl := lv_lens' k hlt
      obtain ⟨vs, vo, hidx, hrow⟩ := HR.out k hlt
      rcases hrow with ⟨he, rfl, rfl⟩ | ⟨g, g', rfl, rfl, bg, bg'⟩
      · have hq' : Hid (binS op = binG op ((List.range 13).drop (k + 1))) := Lib.hid (by rw [hq.out, hdrop.out, binG, he, if_neg (by rw [Lib.idxOf_nonneg_iff]; simp)])
        have hi := Lib.hid (Tryz.slices_Index_int_empty none 0 op)
        have HX := Lib.hid hidx
        clear he hl
        go_wp2_with (go_at_call 137; refine (hi.out _).mono ?_; rintro e w' ⟨rfl, rfl⟩)
        go_roundw
        case rel => exact ⟨k + 1, by omega, by go_num, hq', Lib.hid (hkr.out.alloc _)⟩
        case measure => simp [intOf]; omega
      · have bgr := bg.kept hkr.out (fun h => h)
        have bgr' := bg'.kept hkr.out (fun h => h)
        have HX := Lib.hid hidx
        have hl2 := hl.2
        have HL := Lib.hid hl
        have hcon : Hid (∀ o : Obj, Calls Tryz.prog 137 #[.slice (some ⟨g', 0, none⟩) (lvOps k).length (lvOps k).length, .int .i64 op] (wr.alloc o) fun e w' => e = .returned (.int .i64 (Lib.idxOf (lvOps k) op)) ∧ wr.alloc o = w') := Lib.hid (by
          intro o
          refine (Tryz.slices_Index_int g' 0 _ _ (lvOps k) op _ (Nat.le_refl _) (by omega) (fun j hj => ?_)).mono fun e w' ⟨h1, h2⟩ => ⟨by rw [h1, List.take_length], h2.symm⟩
          rw [Nat.zero_add, (bgr'.alloc o).cell j, List.getElem?_map, List.getElem?_eq_getElem hj, List.getD_eq_getElem?_getD, List.getElem?_eq_getElem hj]; rfl)
        by_cases hge : 0 ≤ Lib.idxOf (lvOps k) op
        · obtain ⟨m, hm, hmi⟩ := idx_lt _ _ hge
          have hq' : Hid (binS op = (lvSigns k).getD m ⟨#[]⟩) := Lib.hid (by rw [hq.out, hdrop.out, binG, if_pos hge, hmi]; rfl)
          have hms : m < (lvSigns k).length := by have := HL.out.1; omega
          have cg : wr.cell? ⟨g, m, none⟩ = some (.string ((lvSigns k).getD m ⟨#[]⟩)) := by
            rw [bgr.cell m, List.getElem?_map, List.getElem?_eq_getElem hms, List.getD_eq_getElem?_getD, List.getElem?_eq_getElem hms]; rfl
          have lg := bgr.lt
          have ng : g ≠ wr.heap.size := by omega
          have i2 : (m : Int) < ((lvSigns k).length : Int) := by omega
          clear hge
          go_wp2_with (go_at_call 137; refine (hcon.out _).mono ?_; rintro e w' ⟨rfl, rfl⟩)
          go_ret
          exact ⟨by rw [hq'.out, List.getD_eq_getElem?_getD, List.getElem?_eq_getElem hms]; rfl, HKW.out.trans (hkr.out.alloc _)⟩
        · have hq' : Hid (binS op = binG op ((List.range 13).drop (k + 1))) := Lib.hid (by rw [hq.out, hdrop.out, binG, if_neg hge])
          have hd : decide (0 ≤ Lib.idxOf (lvOps k) op) = false := by simp; omega
          clear hge
          go_wp2_with (go_at_call 137; refine (hcon.out _).mono ?_; rintro e w' ⟨rfl, rfl⟩)
          go_roundw
          case rel => exact ⟨k + 1, by omega, by go_num, hq', Lib.hid (hkr.out.alloc _)⟩
          case measure => simp [intOf]; omega
    · have hz : Hid (binS op = ⟨#[]⟩) := Lib.hid (by rw [hq.out, List.drop_eq_nil_of_le (by simp; omega), binG])
      go_wp2_with fail
      go_ret
      exact ⟨by rw [hz.out]; rfl, HKW.out.trans hkr.out⟩
end Go.Proofs.YtckjlliobebodaaGreatDoor
