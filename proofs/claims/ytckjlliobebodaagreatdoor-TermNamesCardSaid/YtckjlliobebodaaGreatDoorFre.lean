/- Fresh at the input of awake. -/
import Derived.Test.YtckjlliobebodaaGreatDoorFmt
set_option linter.unusedVariables false
set_option linter.unusedSimpArgs false
namespace Go.Proofs.YtckjlliobebodaaGreatDoor
open Go.RowKit
def digS : ByteArray := ⟨#[48, 49, 50, 51, 52, 53, 54, 55, 56, 57]⟩
def digL : List Value := (Lib.setCells digS.data.toList).toList
theorem dig_zero : ∀ w, (zeroValue 126).run Tryz.prog w = .ok (.agg (Array.replicate 256 (.bool false))) w := fun w => by kernel_rfl
theorem dig_set (w : World) : Calls Tryz.prog 128 #[.string digS] w fun e w' => e = .returned (.tuple #[.agg digL.toArray, .bool true]) ∧ w' = w.alloc (.cells digL.toArray 126) := by
  refine (Tryz.strings_makeASCIISet dig_zero digS w (by decide) ?_).mono fun e w' ⟨h1, h2⟩ => ⟨by rw [h1]; unfold digL; rw [Array.toArray_toList], by rw [h2]; unfold digL; rw [Array.toArray_toList]⟩
  intro j b hj
  have hlt : j < 10 := (List.getElem?_eq_some_iff.1 hj).1
  rcases (show j = 0 ∨ j = 1 ∨ j = 2 ∨ j = 3 ∨ j = 4 ∨ j = 5 ∨ j = 6 ∨ j = 7 ∨ j = 8 ∨ j = 9 by omega) with rfl | rfl | rfl | rfl | rfl | rfl | rfl | rfl | rfl | rfl <;> (cases hj; decide)
theorem dig_len : digL.length = 256 := by kernel_rfl
theorem dig_50 : digL[50]? = some (.bool true) := by kernel_rfl
theorem dig_49 : digL[49]? = some (.bool true) := by kernel_rfl
theorem dig_120 : digL[120]? = some (.bool false) := by kernel_rfl
def strSz : Value → Nat
  | .string s => s.size
  | _ => 0
set_option maxRecDepth 100000 in
set_option maxHeartbeats 2000000 in
theorem trimR (w : World) (X : Nat) (h50 : w.cell? ⟨X, 50, none⟩ = some (.bool true)) (h49 : w.cell? ⟨X, 49, none⟩ = some (.bool true)) (h120 : w.cell? ⟨X, 120, none⟩ = some (.bool false)) :
    Calls Tryz.prog 129 #[.string ⟨#[120, 49, 50]⟩, .pointer (some ⟨X, 0, none⟩)] w fun e w' => e = .returned (.string ⟨#[120]⟩) ∧ w = w' := by
  have c50 := Lib.hid (Tryz.asciiSet_contains X 50 true w h50)
  have c49 := Lib.hid (Tryz.asciiSet_contains X 49 true w h49)
  have c120 := Lib.hid (Tryz.asciiSet_contains X 120 false w h120)
  clear h50 h49 h120
  go_enter Tryz.func129, Tryz.ntmps129
  go_wp2_with fail
  go_loop [0] (fun v => v = .string ⟨#[120, 49, 50]⟩ ∨ v = .string ⟨#[120, 49]⟩ ∨ v = .string ⟨#[120]⟩) (fun v => strSz v)
  case atStart => exact Or.inl rfl
  case round =>
    rcases hrel with rfl | rfl | rfl
    · go_wp2_with (go_at_call 156; refine c50.out.mono ?_; rintro e w' ⟨rfl, rfl⟩)
      go_round
      case rel => exact Or.inr (Or.inl rfl)
      case measure => decide
    · go_wp2_with (go_at_call 156; refine c49.out.mono ?_; rintro e w' ⟨rfl, rfl⟩)
      go_round
      case rel => exact Or.inr (Or.inr rfl)
      case measure => decide
    · go_wp2_with (go_at_call 156; refine c120.out.mono ?_; rintro e w' ⟨rfl, rfl⟩)
      go_ret
      exact ⟨rfl, rfl⟩
theorem wpList_store_at {P : Program} {ops : Array Oper} {rest : List Oper} {o : Oper} {a : Act} {Q : Exit → Act → World → Prop} {w0 w : World} {ty : TypeId} {Z L : List Value} (hb : Blk w w0.heap.size ty Z) (hk : Kept (fun _ => False) w0 w) (hgd : o.guard = none) (x y : Operand) (ho : o.op = .store ty x y) (hx : a.eval x = .pointer (some ⟨w0.heap.size, 0, none⟩)) (hy : a.eval y = .agg L.toArray)
    (hi : (P.info? ty).map (·.size) = some L.length) (hZ : Z.length = L.length) (h1 : L.toArray.all (·.oneCell') = true)
    (h : ∀ W, Blk W w0.heap.size ty L → Kept (fun _ => False) w0 W → wpList P ops Q rest (a.put o.dst undef) W) : wpList P ops Q (o :: rest) a w := by
  refine wpList_store_mid hgd ty x y ho w0.heap.size 0 L.toArray hx hy ?_ (by simpa using hi) h1 ?_
  · have := hb.there; rw [hZ] at this; simpa using this
  · refine h _ ?_ ?_
    · have := hb.setCells (l' := L) hZ.symm; simpa using this
    · exact hk.setCells (Or.inr (Nat.le_refl _))
theorem dig_blk (w : World) : Blk (w.alloc (.cells Tryz.zeroCells126 126)) w.heap.size 126 Tryz.zeroCells126.toList := by
  have := Blk.new w 126 Tryz.zeroCells126.toList
  rwa [Array.toArray_toList] at this
theorem dig_zl : Tryz.zeroCells126.toList.length = digL.length := by kernel_rfl
set_option maxRecDepth 100000 in
set_option maxHeartbeats 2000000 in
theorem trimRight_x (w : World) : Calls Tryz.prog 81 #[.string ⟨#[120, 49, 50]⟩, .string digS] w fun e w' => e = .returned (.string ⟨#[120]⟩) ∧ Kept (fun _ => False) w w' := by
  have i1 : digS.toList.isEmpty = false := by kernel_rfl
  have i2 : digS.size = 10 := rfl
  have i3 : (digS.toList == []) = false := by kernel_rfl
  have HD := Lib.hid dig_set
  go_enter Tryz.func81, Tryz.ntmps81
  go_wp2_with (first | (go_at_call 128; refine (HD.out _).mono ?_; rintro e w1 ⟨rfl, hw1⟩; have k1 : Kept (fun _ => False) w w1 := (by rw [hw1]; exact (Kept.refl _ _).alloc _); clear hw1) | (refine wpList_store_at (w0 := w1) (L := digL) (dig_blk w1) ((Kept.refl _ _).alloc _) rfl _ _ rfl rfl rfl (by kernel_rfl) dig_zl (by kernel_rfl) ?_; intro W bW kW; have h50 : W.cell? ⟨w1.heap.size, 50, none⟩ = some (.bool true) := (by rw [bW.cell]; exact dig_50); have h49 : W.cell? ⟨w1.heap.size, 49, none⟩ = some (.bool true) := (by rw [bW.cell]; exact dig_49); have h120 : W.cell? ⟨w1.heap.size, 120, none⟩ = some (.bool false) := (by rw [bW.cell]; exact dig_120); have HT := Lib.hid (trimR W w1.heap.size h50 h49 h120)) | (go_at_call 129; refine HT.out.mono ?_; rintro e w' ⟨rfl, rfl⟩))
  go_ret
  exact ⟨rfl, k1.trans kW⟩
def sX12 : ByteArray := ⟨#[120, 49, 50]⟩
def sX1 : ByteArray := ⟨#[120, 49]⟩
def sX2 : ByteArray := ⟨#[120, 50]⟩
theorem fx1 : Lib.containsS (List.take 2 [sX12, sX1]) sX12 = true := by rw [Lib.containsS_iff]; simp [sX12]
theorem fx2 : Lib.containsS (List.take 2 [sX12, sX1]) sX1 = true := by rw [Lib.containsS_iff]; simp [sX1]
theorem fx3 : Lib.containsS (List.take 2 [sX12, sX1]) sX2 = false := by
  cases h : Lib.containsS (List.take 2 [sX12, sX1]) sX2
  · rfl
  · rw [Lib.containsS_iff] at h; simp [sX12, sX1, sX2] at h
theorem fx4 : namedB ⟨#[120, 49, 50]⟩ = true := by kernel_rfl
theorem fx5 : Lib.decDigits 1 = [49] := by unfold Lib.decDigits; rfl
theorem fx6 : Lib.decDigits 2 = [50] := by unfold Lib.decDigits; rfl
theorem fx7 : keywordB ⟨#[120, 49]⟩ = false := by kernel_rfl
theorem fx8 : keywordB ⟨#[120, 50]⟩ = false := by kernel_rfl
set_option maxRecDepth 100000 in
set_option maxHeartbeats 2000000 in
theorem fresh_x (w : World) (g : Nat) (h0 : w.cell? ⟨g, 0, none⟩ = some (.string ⟨#[120, 49, 50]⟩)) (h1 : w.cell? ⟨g, 1, none⟩ = some (.string ⟨#[120, 49]⟩)) :
    Calls Tryz.prog 40 #[.string ⟨#[120, 49, 50]⟩, .slice (some ⟨g, 0, none⟩) 2 2] w fun e w' => e = .returned (.string ⟨#[120, 50]⟩) ∧ Kept (fun _ => False) w w' := by
  have hcl : ∀ W : World, Kept (fun _ => False) w W → ∀ j, j < [sX12, sX1].length → W.cell? ⟨g, 0 + j, none⟩ = some (.string ([sX12, sX1].getD j ByteArray.empty)) := by
    intro W k j hj
    have : j = 0 ∨ j = 1 := by simp at hj; omega
    rcases this with rfl | rfl
    · rw [k.cell (p := ⟨g, 0 + 0, none⟩) (cell_lt h0) (fun h => h)]; exact h0
    · rw [k.cell (p := ⟨g, 0 + 1, none⟩) (cell_lt h1) (fun h => h)]; exact h1
  have cA : Hid (∀ W : World, Kept (fun _ => False) w W → Calls Tryz.prog 80 #[.slice (some ⟨g, 0, none⟩) 2 2, .string ⟨#[120, 49, 50]⟩] W fun e w' => e = .returned (.bool true) ∧ W = w') := Lib.hid (fun W k => (Tryz.slices_Contains_string g 0 2 2 [sX12, sX1] sX12 W (by decide) (by decide) (hcl W k)).mono fun e w' ⟨q1, q2⟩ => ⟨by rw [q1, fx1], q2.symm⟩)
  have cB : Hid (∀ W : World, Kept (fun _ => False) w W → Calls Tryz.prog 80 #[.slice (some ⟨g, 0, none⟩) 2 2, .string ⟨#[120, 49]⟩] W fun e w' => e = .returned (.bool true) ∧ W = w') := Lib.hid (fun W k => (Tryz.slices_Contains_string g 0 2 2 [sX12, sX1] sX1 W (by decide) (by decide) (hcl W k)).mono fun e w' ⟨q1, q2⟩ => ⟨by rw [q1, fx2], q2.symm⟩)
  have cC : Hid (∀ W : World, Kept (fun _ => False) w W → Calls Tryz.prog 80 #[.slice (some ⟨g, 0, none⟩) 2 2, .string ⟨#[120, 50]⟩] W fun e w' => e = .returned (.bool false) ∧ W = w') := Lib.hid (fun W k => (Tryz.slices_Contains_string g 0 2 2 [sX12, sX1] sX2 W (by decide) (by decide) (hcl W k)).mono fun e w' ⟨q1, q2⟩ => ⟨by rw [q1, fx3], q2.symm⟩)
  have HN : Hid (∀ W, Calls Tryz.prog 79 #[.string ⟨#[120, 49, 50]⟩] W fun e w' => e = .returned (.bool true) ∧ W = w') := Lib.hid (fun W => (named_any _ W (by decide)).mono fun e w' ⟨q1, q2⟩ => ⟨by rw [q1, fx4], q2⟩)
  have HT : Hid (∀ W, Calls Tryz.prog 82 #[.string ⟨#[120, 49, 50]⟩, .string ⟨#[39]⟩] W fun e w' => e = .returned (.string ⟨#[120, 49, 50]⟩) ∧ W = w') := Lib.hid (fun W => (Tryz.strings_TrimSuffix _ _ W (by decide)).mono fun e w' ⟨q1, q2⟩ => ⟨by rw [q1]; rfl, q2.symm⟩)
  have HI1 : Hid (∀ W, Calls Tryz.prog 83 #[.int .i64 1] W fun e w' => e = .returned (.string ⟨#[49]⟩) ∧ W = w') := Lib.hid (fun W => (Tryz.strconv_Itoa_small 1 (by decide) W).mono fun e w' ⟨q1, q2⟩ => ⟨by rw [q1, fx5], q2.symm⟩)
  have HI2 : Hid (∀ W, Calls Tryz.prog 83 #[.int .i64 2] W fun e w' => e = .returned (.string ⟨#[50]⟩) ∧ W = w') := Lib.hid (fun W => (Tryz.strconv_Itoa_small 2 (by decide) W).mono fun e w' ⟨q1, q2⟩ => ⟨by rw [q1, fx6], q2.symm⟩)
  have HK1 : Hid (∀ W, Calls Tryz.prog 46 #[.string ⟨#[120, 49]⟩] W fun e w' => e = .returned (.bool false) ∧ W = w') := Lib.hid (fun W => (keyword_any _ W).mono fun e w' ⟨q1, q2⟩ => ⟨by rw [q1, fx7], q2⟩)
  have HK2 : Hid (∀ W, Calls Tryz.prog 46 #[.string ⟨#[120, 50]⟩] W fun e w' => e = .returned (.bool false) ∧ W = w') := Lib.hid (fun W => (keyword_any _ W).mono fun e w' ⟨q1, q2⟩ => ⟨by rw [q1, fx8], q2⟩)
  have HR := Lib.hid trimRight_x
  clear hcl
  go_enter Tryz.func40, Tryz.ntmps40
  go_wp2_with (first | (go_at_call 79; refine (HN.out _).mono ?_; rintro e w' ⟨rfl, rfl⟩) | (go_at_call 80; refine (cA.out w (Kept.refl _ _)).mono ?_; rintro e w' ⟨rfl, rfl⟩) | (go_at_call 82; refine (HT.out _).mono ?_; rintro e w' ⟨rfl, rfl⟩) | (go_at_call 81; refine (HR.out _).mono ?_; rintro e w1 ⟨rfl, k1⟩))
  have hcu : digS = digS := rfl
  go_loop [6] (fun i => i = .int .i64 1 ∨ i = .int .i64 2) (fun i => 2 - (intOf i).toNat)
  case atStart => exact Or.inl rfl
  case round =>
    rcases hrel with rfl | rfl
    · go_wp2_with (first | (go_at_call 83; refine (HI1.out _).mono ?_; rintro e w' ⟨rfl, rfl⟩) | (go_at_call 46; refine (HK1.out _).mono ?_; rintro e w' ⟨rfl, rfl⟩) | (go_at_call 80; refine (cB.out w1 k1).mono ?_; rintro e w' ⟨rfl, rfl⟩))
      go_round
      case rel => exact Or.inr rfl
      case measure => decide
    · go_wp2_with (first | (go_at_call 83; refine (HI2.out _).mono ?_; rintro e w' ⟨rfl, rfl⟩) | (go_at_call 46; refine (HK2.out _).mono ?_; rintro e w' ⟨rfl, rfl⟩) | (go_at_call 80; refine (cC.out w1 k1).mono ?_; rintro e w' ⟨rfl, rfl⟩))
      go_ret
      exact ⟨rfl, k1⟩
end Go.Proofs.YtckjlliobebodaaGreatDoor
