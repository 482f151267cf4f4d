/- Texts Fre Awk Con RefA RNum RSgn RLex RTok RCon of this proof, in one. -/
import Derived.Test.YtckjlliobebodaaGreatDoorBa9
import Derived.Test.YtckjlliobebodaaGreatDoorRows
import Derived.Deep.DeepLaidRun
import Derived.ProofKit
import Derived.Test.YtckjlliobebodaaGreatDoorCards
import Derived.Test.YtckjlliobebodaaGreatDoorTie
import Derived.OpenShut
import Derived.Deep.DeepHandedRow
import Derived.Stop.LaidErr
import Derived.LaidLaws
import Derived.ChangeMaps5
import Derived.Test.YtckjlliobebodaaGreatDoorBa7
/- Fresh at the input of awake. -/
set_option linter.unusedVariables false
set_option linter.unusedSimpArgs false
namespace Go.Proofs.YtckjlliobebodaaGreatDoor
open Go.RowKit
def digS : ByteArray := ⟨#[48, 49, 50, 51, 52, 53, 54, 55, 56, 57]⟩
def digL : List Value := (Lib.setCells digS.data.toList).toList
theorem dig_zero : ∀ w, (zeroValue 126).run Tryz.prog w = .ok (.agg (Array.replicate 256 (.bool false))) w := fun w => by kernel_rfl
theorem dig_set (w : World) : Calls Tryz.prog 128 #[.string digS] w fun e w' => e = .returned (.tuple #[.agg digL.toArray, .bool true]) ∧ w' = w.alloc (.cells digL.toArray 126) := by
  refine (Tryz.strings_makeASCIISet dig_zero digS w (by decide) ?_).mono fun e w' ⟨h1, h2⟩ => ⟨by rw [h1]; unfold digL; rw [Array.toArray_toList], by rw [h2]; unfold digL; rw [Array.toArray_toList]⟩
  intro j b hj
  have hlt : j < 10 := (List.getElem?_eq_some_iff.1 hj).1
  rcases (show j = 0 ∨ j = 1 ∨ j = 2 ∨ j = 3 ∨ j = 4 ∨ j = 5 ∨ j = 6 ∨ j = 7 ∨ j = 8 ∨ j = 9 by omega) with rfl | rfl | rfl | rfl | rfl | rfl | rfl | rfl | rfl | rfl <;> (cases hj; decide)
theorem dig_len : digL.length = 256 := by kernel_rfl
theorem dig_50 : digL[50]? = some (.bool true) := by kernel_rfl
theorem dig_49 : digL[49]? = some (.bool true) := by kernel_rfl
theorem dig_120 : digL[120]? = some (.bool false) := by kernel_rfl
def strSz : Value → Nat
  | .string s => s.size
  | _ => 0
set_option maxRecDepth 100000 in
set_option maxHeartbeats 2000000 in
theorem trimR (w : World) (X : Nat) (h50 : w.cell? ⟨X, 50, none⟩ = some (.bool true)) (h49 : w.cell? ⟨X, 49, none⟩ = some (.bool true)) (h120 : w.cell? ⟨X, 120, none⟩ = some (.bool false)) :
    Calls Tryz.prog 129 #[.string ⟨#[120, 49, 50]⟩, .pointer (some ⟨X, 0, none⟩)] w fun e w' => e = .returned (.string ⟨#[120]⟩) ∧ w = w' := by
  have c50 := Lib.hid (Tryz.asciiSet_contains X 50 true w h50)
  have c49 := Lib.hid (Tryz.asciiSet_contains X 49 true w h49)
  have c120 := Lib.hid (Tryz.asciiSet_contains X 120 false w h120)
  clear h50 h49 h120
  go_enter Tryz.func129, Tryz.ntmps129
  go_wp2_with fail
  go_loop [0] (fun v => v = .string ⟨#[120, 49, 50]⟩ ∨ v = .string ⟨#[120, 49]⟩ ∨ v = .string ⟨#[120]⟩) (fun v => strSz v)
  case atStart => exact Or.inl rfl
  case round =>
    rcases hrel with rfl | rfl | rfl
    · go_wp2_with (go_at_call 156; refine c50.out.mono ?_; rintro e w' ⟨rfl, rfl⟩)
      go_round
      case rel => exact Or.inr (Or.inl rfl)
      case measure => decide
    · go_wp2_with (go_at_call 156; refine c49.out.mono ?_; rintro e w' ⟨rfl, rfl⟩)
      go_round
      case rel => exact Or.inr (Or.inr rfl)
      case measure => decide
    · go_wp2_with (go_at_call 156; refine c120.out.mono ?_; rintro e w' ⟨rfl, rfl⟩)
      go_ret
      exact ⟨rfl, rfl⟩
theorem wpList_store_at {P : Program} {ops : Array Oper} {rest : List Oper} {o : Oper} {a : Act} {Q : Exit → Act → World → Prop} {w0 w : World} {ty : TypeId} {Z L : List Value} (hb : Blk w w0.heap.size ty Z) (hk : Kept (fun _ => False) w0 w) (hgd : o.guard = none) (x y : Operand) (ho : o.op = .store ty x y) (hx : a.eval x = .pointer (some ⟨w0.heap.size, 0, none⟩)) (hy : a.eval y = .agg L.toArray)
    (hi : (P.info? ty).map (·.size) = some L.length) (hZ : Z.length = L.length) (h1 : L.toArray.all (·.oneCell') = true)
    (h : ∀ W, Blk W w0.heap.size ty L → Kept (fun _ => False) w0 W → wpList P ops Q rest (a.put o.dst undef) W) : wpList P ops Q (o :: rest) a w := by
  refine wpList_store_mid hgd ty x y ho w0.heap.size 0 L.toArray hx hy ?_ (by simpa using hi) h1 ?_
  · have := hb.there; rw [hZ] at this; simpa using this
  · refine h _ ?_ ?_
    · have := hb.setCells (l' := L) hZ.symm; simpa using this
    · exact hk.setCells (Or.inr (Nat.le_refl _))
theorem dig_blk (w : World) : Blk (w.alloc (.cells Tryz.zeroCells126 126)) w.heap.size 126 Tryz.zeroCells126.toList := by
  have := Blk.new w 126 Tryz.zeroCells126.toList
  rwa [Array.toArray_toList] at this
theorem dig_zl : Tryz.zeroCells126.toList.length = digL.length := by kernel_rfl
set_option maxRecDepth 100000 in
set_option maxHeartbeats 2000000 in
theorem trimRight_x (w : World) : Calls Tryz.prog 81 #[.string ⟨#[120, 49, 50]⟩, .string digS] w fun e w' => e = .returned (.string ⟨#[120]⟩) ∧ Kept (fun _ => False) w w' := by
  have i1 : digS.toList.isEmpty = false := by kernel_rfl
  have i2 : digS.size = 10 := rfl
  have i3 : (digS.toList == []) = false := by kernel_rfl
  have HD := Lib.hid dig_set
  go_enter Tryz.func81, Tryz.ntmps81
  go_wp2_with (first | (go_at_call 128; refine (HD.out _).mono ?_; rintro e w1 ⟨rfl, hw1⟩; have k1 : Kept (fun _ => False) w w1 := (by rw [hw1]; exact (Kept.refl _ _).alloc _); clear hw1) | (refine wpList_store_at (w0 := w1) (L := digL) (dig_blk w1) ((Kept.refl _ _).alloc _) rfl _ _ rfl rfl rfl (by kernel_rfl) dig_zl (by kernel_rfl) ?_; intro W bW kW; have h50 : W.cell? ⟨w1.heap.size, 50, none⟩ = some (.bool true) := (by rw [bW.cell]; exact dig_50); have h49 : W.cell? ⟨w1.heap.size, 49, none⟩ = some (.bool true) := (by rw [bW.cell]; exact dig_49); have h120 : W.cell? ⟨w1.heap.size, 120, none⟩ = some (.bool false) := (by rw [bW.cell]; exact dig_120); have HT := Lib.hid (trimR W w1.heap.size h50 h49 h120)) | (go_at_call 129; refine HT.out.mono ?_; rintro e w' ⟨rfl, rfl⟩))
  go_ret
  exact ⟨rfl, k1.trans kW⟩
def sX12 : ByteArray := ⟨#[120, 49, 50]⟩
def sX1 : ByteArray := ⟨#[120, 49]⟩
def sX2 : ByteArray := ⟨#[120, 50]⟩
theorem fx1 : Lib.containsS (List.take 2 [sX12, sX1]) sX12 = true := by rw [Lib.containsS_iff]; simp [sX12]
theorem fx2 : Lib.containsS (List.take 2 [sX12, sX1]) sX1 = true := by rw [Lib.containsS_iff]; simp [sX1]
theorem fx3 : Lib.containsS (List.take 2 [sX12, sX1]) sX2 = false := by
  cases h : Lib.containsS (List.take 2 [sX12, sX1]) sX2
  · rfl
  · rw [Lib.containsS_iff] at h; simp [sX12, sX1, sX2] at h
theorem fx4 : namedB ⟨#[120, 49, 50]⟩ = true := by kernel_rfl
theorem fx5 : Lib.decDigits 1 = [49] := by unfold Lib.decDigits; rfl
theorem fx6 : Lib.decDigits 2 = [50] := by unfold Lib.decDigits; rfl
theorem fx7 : keywordB ⟨#[120, 49]⟩ = false := by kernel_rfl
theorem fx8 : keywordB ⟨#[120, 50]⟩ = false := by kernel_rfl
set_option maxRecDepth 100000 in
set_option maxHeartbeats 2000000 in
theorem fresh_x (w : World) (g : Nat) (h0 : w.cell? ⟨g, 0, none⟩ = some (.string ⟨#[120, 49, 50]⟩)) (h1 : w.cell? ⟨g, 1, none⟩ = some (.string ⟨#[120, 49]⟩)) :
    Calls Tryz.prog 40 #[.string ⟨#[120, 49, 50]⟩, .slice (some ⟨g, 0, none⟩) 2 2] w fun e w' => e = .returned (.string ⟨#[120, 50]⟩) ∧ Kept (fun _ => False) w w' := by
  have hcl : ∀ W : World, Kept (fun _ => False) w W → ∀ j, j < [sX12, sX1].length → W.cell? ⟨g, 0 + j, none⟩ = some (.string ([sX12, sX1].getD j ByteArray.empty)) := by
    intro W k j hj
    have : j = 0 ∨ j = 1 := by simp at hj; omega
    rcases this with rfl | rfl
    · rw [k.cell (p := ⟨g, 0 + 0, none⟩) (cell_lt h0) (fun h => h)]; exact h0
    · rw [k.cell (p := ⟨g, 0 + 1, none⟩) (cell_lt h1) (fun h => h)]; exact h1
  have cA : Hid (∀ W : World, Kept (fun _ => False) w W → Calls Tryz.prog 80 #[.slice (some ⟨g, 0, none⟩) 2 2, .string ⟨#[120, 49, 50]⟩] W fun e w' => e = .returned (.bool true) ∧ W = w') := Lib.hid (fun W k => (Tryz.slices_Contains_string g 0 2 2 [sX12, sX1] sX12 W (by decide) (by decide) (hcl W k)).mono fun e w' ⟨q1, q2⟩ => ⟨by rw [q1, fx1], q2.symm⟩)
  have cB : Hid (∀ W : World, Kept (fun _ => False) w W → Calls Tryz.prog 80 #[.slice (some ⟨g, 0, none⟩) 2 2, .string ⟨#[120, 49]⟩] W fun e w' => e = .returned (.bool true) ∧ W = w') := Lib.hid (fun W k => (Tryz.slices_Contains_string g 0 2 2 [sX12, sX1] sX1 W (by decide) (by decide) (hcl W k)).mono fun e w' ⟨q1, q2⟩ => ⟨by rw [q1, fx2], q2.symm⟩)
  have cC : Hid (∀ W : World, Kept (fun _ => False) w W → Calls Tryz.prog 80 #[.slice (some ⟨g, 0, none⟩) 2 2, .string ⟨#[120, 50]⟩] W fun e w' => e = .returned (.bool false) ∧ W = w') := Lib.hid (fun W k => (Tryz.slices_Contains_string g 0 2 2 [sX12, sX1] sX2 W (by decide) (by decide) (hcl W k)).mono fun e w' ⟨q1, q2⟩ => ⟨by rw [q1, fx3], q2.symm⟩)
  have HN : Hid (∀ W, Calls Tryz.prog 79 #[.string ⟨#[120, 49, 50]⟩] W fun e w' => e = .returned (.bool true) ∧ W = w') := Lib.hid (fun W => (named_any _ W (by decide)).mono fun e w' ⟨q1, q2⟩ => ⟨by rw [q1, fx4], q2⟩)
  have HT : Hid (∀ W, Calls Tryz.prog 82 #[.string ⟨#[120, 49, 50]⟩, .string ⟨#[39]⟩] W fun e w' => e = .returned (.string ⟨#[120, 49, 50]⟩) ∧ W = w') := Lib.hid (fun W => (Tryz.strings_TrimSuffix _ _ W (by decide)).mono fun e w' ⟨q1, q2⟩ => ⟨by rw [q1]; rfl, q2.symm⟩)
  have HI1 : Hid (∀ W, Calls Tryz.prog 83 #[.int .i64 1] W fun e w' => e = .returned (.string ⟨#[49]⟩) ∧ W = w') := Lib.hid (fun W => (Tryz.strconv_Itoa_small 1 (by decide) W).mono fun e w' ⟨q1, q2⟩ => ⟨by rw [q1, fx5], q2.symm⟩)
  have HI2 : Hid (∀ W, Calls Tryz.prog 83 #[.int .i64 2] W fun e w' => e = .returned (.string ⟨#[50]⟩) ∧ W = w') := Lib.hid (fun W => (Tryz.strconv_Itoa_small 2 (by decide) W).mono fun e w' ⟨q1, q2⟩ => ⟨by rw [q1, fx6], q2.symm⟩)
  have HK1 : Hid (∀ W, Calls Tryz.prog 46 #[.string ⟨#[120, 49]⟩] W fun e w' => e = .returned (.bool false) ∧ W = w') := Lib.hid (fun W => (keyword_any _ W).mono fun e w' ⟨q1, q2⟩ => ⟨by rw [q1, fx7], q2⟩)
  have HK2 : Hid (∀ W, Calls Tryz.prog 46 #[.string ⟨#[120, 50]⟩] W fun e w' => e = .returned (.bool false) ∧ W = w') := Lib.hid (fun W => (keyword_any _ W).mono fun e w' ⟨q1, q2⟩ => ⟨by rw [q1, fx8], q2⟩)
  have HR := Lib.hid trimRight_x
  clear hcl
  go_enter Tryz.func40, Tryz.ntmps40
  go_wp2_with (first | (go_at_call 79; refine (HN.out _).mono ?_; rintro e w' ⟨rfl, rfl⟩) | (go_at_call 80; refine (cA.out w (Kept.refl _ _)).mono ?_; rintro e w' ⟨rfl, rfl⟩) | (go_at_call 82; refine (HT.out _).mono ?_; rintro e w' ⟨rfl, rfl⟩) | (go_at_call 81; refine (HR.out _).mono ?_; rintro e w1 ⟨rfl, k1⟩))
  have hcu : digS = digS := rfl
  go_loop [6] (fun i => i = .int .i64 1 ∨ i = .int .i64 2) (fun i => 2 - (intOf i).toNat)
  case atStart => exact Or.inl rfl
  case round =>
    rcases hrel with rfl | rfl
    · go_wp2_with (first | (go_at_call 83; refine (HI1.out _).mono ?_; rintro e w' ⟨rfl, rfl⟩) | (go_at_call 46; refine (HK1.out _).mono ?_; rintro e w' ⟨rfl, rfl⟩) | (go_at_call 80; refine (cB.out w1 k1).mono ?_; rintro e w' ⟨rfl, rfl⟩))
      go_round
      case rel => exact Or.inr rfl
      case measure => decide
    · go_wp2_with (first | (go_at_call 83; refine (HI2.out _).mono ?_; rintro e w' ⟨rfl, rfl⟩) | (go_at_call 46; refine (HK2.out _).mono ?_; rintro e w' ⟨rfl, rfl⟩) | (go_at_call 80; refine (cC.out w1 k1).mono ?_; rintro e w' ⟨rfl, rfl⟩))
      go_ret
      exact ⟨rfl, k1⟩
end Go.Proofs.YtckjlliobebodaaGreatDoor
/- awake returns true. -/
set_option linter.unusedVariables false
set_option linter.unusedSimpArgs false
namespace Go.Proofs.YtckjlliobebodaaGreatDoor
open Go.RowKit
def awkS : ByteArray := ⟨#[120, 32, 43, 32, 49, 32, 60, 61, 32, 99, 97, 114, 100, 40, 115, 41]⟩
def awX : Tm := .mk 20 ⟨#[120]⟩ 0 ty0 []
def aw1 : Tm := .mk 19 nil0 1 ty0 []
def awS : Tm := .mk 20 ⟨#[115]⟩ 0 ty0 []
def awAdd : Tm := nd 22 [awX, aw1]
def awCard : Tm := nd 47 [awS]
def awT : Tm := nd 13 [awAdd, awCard]
theorem awk_T : parseT 300 awkS = awT := by kernel_rfl
theorem awk_A : parseA 300 awkS = 0 := by kernel_rfl
theorem awk_E : parseE 300 awkS = 0 := by kernel_rfl
theorem awk_V : validB awT = true := by kernel_rfl
def awOut : List UInt8 := [40, 120, 32, 43, 32, 49, 41, 32, 60, 61, 32, 99, 97, 114, 100, 40, 115, 41]
theorem pc_x : PC awX [120] := pt_name (nm := ⟨#[120]⟩) (N := 0) (ty := ty0) (kl := [])
theorem pc_s : PC awS [115] := pt_name (nm := ⟨#[115]⟩) (N := 0) (ty := ty0) (kl := [])
theorem pc_1 : PC aw1 [49] := pt_int (nm := nil0) (N := 1) (ty := ty0) (kl := []) (ds := ⟨#[49]⟩) (fun W => (Tryz.strconv_Itoa_small 1 (by decide) W).mono fun e w' ⟨q1, q2⟩ => ⟨by rw [q1, fx5], q2.symm⟩)
theorem oc_x : OC awX [120] := by
  have h := operand_any pc_x
  rw [show parS awX.op [120] = [120] by kernel_rfl] at h
  exact h
theorem oc_1 : OC aw1 [49] := by
  have h := operand_any pc_1
  rw [show parS aw1.op [49] = [49] by kernel_rfl] at h
  exact h
theorem pc_add : PC awAdd [120, 32, 43, 32, 49] := pt_bin (t := awAdd) rfl (by kernel_rfl) oc_x oc_1
theorem oc_add : OC awAdd [40, 120, 32, 43, 32, 49, 41] := by
  have h := operand_any pc_add
  rw [show parS awAdd.op [120, 32, 43, 32, 49] = [40, 120, 32, 43, 32, 49, 41] by kernel_rfl] at h
  exact h
theorem pc_kid : ∀ i (h : i < [awS].length), PC [awS][i] ((fun _ => [115] : Nat → List UInt8) i) := by
  intro i h
  have h1 : i = 0 := by have : i < 1 := h; omega
  subst h1
  exact pc_s
theorem pc_card : PC awCard [99, 97, 114, 100, 40, 115, 41] := pt_card (nm := nil0) (N := 0) (ty := ty0) (kl := [awS]) (list_one (kl := [awS]) (O := fun _ => [115]) pc_kid (by decide))
theorem oc_card : OC awCard [99, 97, 114, 100, 40, 115, 41] := by
  have h := operand_any pc_card
  rw [show parS awCard.op [99, 97, 114, 100, 40, 115, 41] = [99, 97, 114, 100, 40, 115, 41] by kernel_rfl] at h
  exact h
theorem pc_aw : PC awT awOut := pt_bin (t := awT) rfl (by kernel_rfl) oc_add oc_card
theorem sm_aw : SmTm big awT := by
  have h0 : ∀ (n : ByteArray), n.size ≤ big → ∀ (o i : Int), SmTm big (.mk o n i ty0 []) := fun n hn o i => .mk hn (sm_ty0 _) (fun k h => by cases h)
  exact sm_nd (all2 (sm_nd (all2 (h0 _ (by decide) _ _) (h0 _ (by decide) _ _))) (sm_nd (all1 (h0 _ (by decide) _ _))))
set_option maxRecDepth 100000 in
set_option maxHeartbeats 4000000 in
theorem awake_any (w : World) (hgl : Gl w) : Calls Tryz.prog 14 #[] w fun e w' => e = .returned (.bool true) ∧ Kept (fun _ => False) w w' := by
  have HP : Hid (Calls Tryz.prog 11 #[.string ⟨#[120, 32, 43, 32, 49, 32, 60, 61, 32, 99, 97, 114, 100, 40, 115, 41]⟩] w fun e w' => ∃ tv, e = .returned (.tuple #[tv, .int .i64 0, .int .i64 0]) ∧ VTm w.heap.size awT w' tv ∧ Kept (fun _ => False) w w') := Lib.hid ((parse_any (f := 300) (s := awkS) (by decide) (by decide) hgl).mono fun e w' ⟨tv, h1, h2, h3⟩ => ⟨tv, by rw [h1, awk_A, awk_E], by rw [← awk_T]; exact h2, h3⟩)
  go_enter Tryz.func14, Tryz.ntmps14
  go_wp2_with fail
  refine HP.out.mono ?_
  rintro e w1 ⟨tv, rfl, ⟨tk, kk, rfl, hty, htm⟩, k1⟩
  obtain ⟨ta, tn, tc, rfl⟩ := hty.slice
  obtain ⟨ma, mn, mc, rfl⟩ := htm.slice
  have hmn : mn = 2 := htm.len
  subst hmn
  have HF : Hid (Calls Tryz.prog 21 #[.agg #[.int .i64 13, .string nil0, .int .i64 0, .int .i64 0, .string ⟨#[]⟩, .slice ta tn tc, .slice ma 2 mc]] (w1.alloc (.cells #[.int .i64 13, .string nil0, .int .i64 0, .int .i64 0, .string ⟨#[]⟩, .slice ta tn tc, .slice ma 2 mc] 27)) fun e w' => e = .returned (.string ⟨awOut.toArray⟩) ∧ Kept (fun _ => False) (w1.alloc (.cells #[.int .i64 13, .string nil0, .int .i64 0, .int .i64 0, .string ⟨#[]⟩, .slice ta tn tc, .slice ma 2 mc] 27)) w') := Lib.hid (format_ok (t := awT) (hty.frame (Same.alloc w1 _)) (htm.frame (Same.alloc w1 _)) pc_aw awk_V sm_aw (by decide) (by decide))
  have K1 : Kept (fun _ => False) w (w1.alloc (.cells #[.int .i64 13, .string nil0, .int .i64 0, .int .i64 0, .string ⟨#[]⟩, .slice ta tn tc, .slice ma 2 mc] 27)) := k1.alloc _
  clear hty htm
  have htv : tmVal awT (.slice ta tn tc) (.slice ma 2 mc) = .agg #[.int .i64 13, .string nil0, .int .i64 0, .int .i64 0, .string ⟨#[]⟩, .slice ta tn tc, .slice ma 2 mc] := rfl
  rw [htv]
  clear htv
  have HN : Hid (nil0 = ⟨#[]⟩) := Lib.hid rfl
  generalize nil0 = nl at *
  go_wp2_with fail
  refine HF.out.mono ?_
  rintro e w2 ⟨rfl, k2⟩
  have K2 := K1.trans k2
  have e1 : ((⟨awOut.toArray⟩ : ByteArray).toList == [40, 120, 32, 43, 32, 49, 41, 32, 60, 61, 32, 99, 97, 114, 100, 40, 115, 41]) = true := by kernel_rfl
  generalize (⟨awOut.toArray⟩ : ByteArray) = ao at *
  have bS : Blk (w2.alloc (.cells #[.string ⟨#[120, 49, 50]⟩, .string ⟨#[120, 49]⟩] 9)) w2.heap.size 9 [.string ⟨#[120, 49, 50]⟩, .string ⟨#[120, 49]⟩] := Blk.new w2 9 _
  have HX := Lib.hid (fresh_x _ w2.heap.size (bS.cell 0) (bS.cell 1))
  go_wp2_with fail
  refine HX.out.mono ?_
  rintro e w3 ⟨rfl, k3⟩
  go_wp2_with fail
  go_ret
  exact ⟨rfl, (K2.alloc _).trans k3⟩
end Go.Proofs.YtckjlliobebodaaGreatDoor
/- What every card of this seat needs: a world for the witness, the laid variables. -/
set_option linter.unusedVariables false
set_option linter.unusedSimpArgs false
namespace Go.Proofs.YtckjlliobebodaaGreatDoor
open Go.ChangeShapes Go.WideShapes Go.ChangeAt Go.RowKit
def litV : DataW Unit → Value
  | .lit (.int k n) => .int k n
  | _ => undef
def flat1 : DataW Unit → List Value
  | .agg l => l.map litV
  | _ => []
def flat2 : DataW Unit → List Value
  | .agg l => (l.map flat1).flatten
  | _ => []
abbrev ranS : ByteArray := { data := #[118, 97, 108, 117, 101, 32, 111, 117, 116, 32, 111, 102, 32, 114, 97, 110, 103, 101] }
abbrev synS : ByteArray := { data := #[105, 110, 118, 97, 108, 105, 100, 32, 115, 121, 110, 116, 97, 120] }
noncomputable def low0 : Nat := (World.holding Tryz.prog default ⟨#[], #[], []⟩).heap.size
def putC (c : Array Value) : Obj → Obj
  | .cells _ t frozen => .cells c t frozen
  | o => o
/-- A world for the witness: the settled one, the listed variables laid. -/
noncomputable def laidWorld (os : Os) : World :=
  let w0 := World.holding Tryz.prog os ⟨#[.cells #[.string synS] 177, .cells #[.string ranS] 177], #[], []⟩
  { w0 with heap := ((((((w0.heap.modify 0 (putC #[.iface 175 (.pointer (some ⟨low0, 0, none⟩))])).modify 1 (putC #[.iface 175 (.pointer (some ⟨low0 + 1, 0, none⟩))])).modify 2 (putC (flat1 Rows.laid_internal_strconv_uint64pow10).toArray)).modify 3 (putC (flat1 Rows.laid_unicode_utf8_first).toArray)).modify 4 (putC (flat2 Rows.laid_unicode_utf8_acceptRanges).toArray)).modify 6 (putC (flat1 Rows.laid_math_bits_deBruijn32tab).toArray)).modify 7 (putC (flat1 Rows.laid_math_bits_deBruijn64tab).toArray) }
theorem own0 : ownKnob Tryz.prog.godebug = none := by kernel_rfl
theorem gSyn : Tryz.prog.globalNamed "strconv.ErrSyntax" = some 0 := by kernel_rfl
theorem gRan : Tryz.prog.globalNamed "strconv.ErrRange" = some 1 := by kernel_rfl
theorem gSynT : (Tryz.prog.globals[0]?).map (·.type) = some 100 := by kernel_rfl
theorem gRanT : (Tryz.prog.globals[1]?).map (·.type) = some 100 := by kernel_rfl
theorem cells177 : Tryz.prog.cellsOf 177 = 1 := by kernel_rfl
theorem cells9 : Tryz.prog.cellsOf 9 = 1 := by kernel_rfl
theorem star0 : "*" ++ "errors.errorString" = "*errors.errorString" := by decide
theorem row175 (u : TypeId) (h : Tryz.prog.typeName? 3 u = some "*errors.errorString") : u = 175 :=
  typeName_ptr_named (nm := "errors.errorString") (by rw [star0]; kernel_rfl) (by kernel_rfl) (by decide) u (by rw [star0]; exact h)
/-- What a law promises: true, and all that was there is as it was. -/
def EsOk (w : World) (e : Ending) (w' : World) : Prop := e = .returned (.bool true) ∧ Kept (fun _ => False) w w'
theorem gl_of_laid {W : World} (h : laidMetH Tryz.prog Rows.termErrorStaysRow.laid W) : Gl W := by
  have h0 : laidMet Tryz.prog Rows.termErrorStaysRow.laid W := h
  have h4 := h0.tail.tail.tail.tail
  obtain ⟨a1, s1, hv1, _⟩ := laid_sentinel h4 gRan gRanT Tryz.underlying100 row175 Tryz.underlying175 Tryz.underlying177 rfl rfl Tryz.underlying9 cells177 cells9
  obtain ⟨a0, s0, hv0, _⟩ := laid_sentinel h4.tail gSyn gSynT Tryz.underlying100 row175 Tryz.underlying175 Tryz.underlying177 rfl rfl Tryz.underlying9 cells177 cells9
  exact ⟨⟨175, _, by simpa using World.var?_cell gSyn hv0 0⟩, ⟨175, _, by simpa using World.var?_cell gRan hv1 0⟩⟩
theorem keptBut_of_kept {w w' : World} (h : Kept (fun _ => False) w w') (may : MemPlace → Prop) : w.keptBut w' may := by
  refine ⟨h.os, h.output, fun i hi => ?_⟩
  have := (World.keptBut_refl w may).2.2 i hi
  rw [h.block i hi (fun h => h)]
  exact this
end Go.Proofs.YtckjlliobebodaaGreatDoor
/- The document's letters, digits, keywords and Identifier walked. -/
set_option linter.unusedVariables false
set_option linter.unusedSimpArgs false
namespace Go.Proofs.YtckjlliobebodaaGreatDoor
open Go.RowKit
set_option maxHeartbeats 400000 in
theorem rletter_any (c : Int) (w : World) :
    Calls Tryz.prog 48 #[.int .u8 c] w fun e w' => e = .returned (.bool (letterB c)) ∧ w = w' := by
  cases h1 : decide (97 ≤ c) <;> cases h2 : decide (c ≤ 122) <;> cases h3 : decide (65 ≤ c) <;> cases h4 : decide (c ≤ 90)
  all_goals
    have hk := Lib.hid (show letterB c = _ by unfold letterB; rw [h1, h2, h3, h4])
    go_enter Tryz.func48, Tryz.ntmps48
    go_wp2_with fail
    go_ret
    exact ⟨by rw [hk.out]; rfl, rfl⟩
set_option maxHeartbeats 400000 in
theorem rdigit_any (c : Int) (w : World) :
    Calls Tryz.prog 50 #[.int .u8 c] w fun e w' => e = .returned (.bool (digitB c)) ∧ w = w' := by
  cases h1 : decide (48 ≤ c) <;> cases h2 : decide (c ≤ 57)
  all_goals
    have hk := Lib.hid (show digitB c = _ by unfold digitB; rw [h1, h2])
    go_enter Tryz.func50, Tryz.ntmps50
    go_wp2_with fail
    go_ret
    exact ⟨by rw [hk.out]; rfl, rfl⟩
def inB (s : ByteArray) (l : List ByteArray) : Bool := l.any fun x => x.toList == s.toList
theorem inB_yes (s : ByteArray) (l : List ByteArray) (k : Nat) (h : k < l.length) (hy : (l[k].toList == s.toList) = true) : inB s l = true := by
  unfold inB; rw [List.any_eq_true]; exact ⟨l[k], List.getElem_mem h, hy⟩
theorem inB_no (s : ByteArray) (l : List ByteArray) (hno : ∀ j (h : j < l.length), (l[j].toList == s.toList) = false) : inB s l = false := by
  unfold inB; rw [List.any_eq_false]
  intro x hx
  obtain ⟨j, hj, rfl⟩ := List.getElem_of_mem hx
  rw [hno j hj]; simp
set_option maxHeartbeats 1000000 in
theorem rin_any (s : ByteArray) (xs : List ByteArray) (g cap : Nat) (w : World) (hx : ∀ i (h : i < xs.length), w.cell? ⟨g, i, none⟩ = some (.string xs[i])) (hl : xs.length ≤ 1000) :
    Calls Tryz.prog 92 #[.string s, .slice (some ⟨g, 0, none⟩) xs.length cap] w fun e w' => e = .returned (.bool (inB s xs)) ∧ w = w' := by
  have HX := Lib.hid hx
  clear hx
  go_enter Tryz.func92, Tryz.ntmps92
  go_wp2_with fail
  go_loop [5] (fun i => ∃ k : Nat, k ≤ xs.length ∧ i = .int .i64 k ∧ Hid (∀ j (h : j < k) (h' : j < xs.length), (xs[j].toList == s.toList) = false)) (fun i => xs.length - (intOf i).toNat)
  case atStart => exact ⟨0, Nat.zero_le _, rfl, Lib.hid (fun j h => by omega)⟩
  case round =>
    obtain ⟨k, hk, rfl, hno⟩ := hrel
    by_cases hlt : k < xs.length
    · have hc := HX.out k hlt
      have i1 : (k : Int) < (xs.length : Int) := by omega
      cases hy : (xs[k].toList == s.toList)
      · have hno' : Hid (∀ j (h : j < k + 1) (h' : j < xs.length), (xs[j].toList == s.toList) = false) := Lib.hid (fun j h h' => by
          rcases Nat.lt_succ_iff_lt_or_eq.1 h with h | rfl
          · exact hno.out j h h'
          · exact hy)
        go_wp2_with fail
        go_round
        case rel => exact ⟨k + 1, by omega, by go_num, hno'⟩
        case measure => simp [intOf]; omega
      · have hi := Lib.hid (inB_yes s xs k hlt hy)
        go_wp2_with fail
        go_ret
        exact ⟨by rw [hi.out]; rfl, rfl⟩
    · have hi := Lib.hid (inB_no s xs (fun j h => hno.out j (by omega) h))
      go_wp2_with fail
      go_ret
      exact ⟨by rw [hi.out]; rfl, rfl⟩
def kwsB : List ByteArray := kws.map fun l => ⟨l.toArray⟩
theorem inB_kws (s : ByteArray) : inB s kwsB = keywordB s := by
  unfold inB kwsB keywordB
  rw [List.any_map, List.contains_eq_any_beq]
  congr 1
  funext l
  simp only [Function.comp]
  rw [Go.ByteArray.toList_eq]
  exact Bool.beq_comm
set_option maxRecDepth 10000 in
set_option maxHeartbeats 1000000 in
theorem rkeyword_any (s : ByteArray) (w : World) :
    Calls Tryz.prog 49 #[.string s] w fun e w' => e = .returned (.bool (keywordB s)) ∧ w' = w.alloc (.cells (kwsB.map Value.string).toArray 9) := by
  have hx : ∀ i (h : i < kwsB.length), (w.alloc (.cells (kwsB.map Value.string).toArray 9)).cell? ⟨w.heap.size, i, none⟩ = some (.string kwsB[i]) := by
    intro i h
    have := (Blk.new w 9 (kwsB.map Value.string)).cell i
    rw [this, List.getElem?_map, List.getElem?_eq_getElem h]; rfl
  have HX := Lib.hid hx
  clear hx
  go_enter Tryz.func49, Tryz.ntmps49
  go_wp2_with fail
  refine (rin_any s kwsB w.heap.size 21 _ HX.out (by decide)).mono ?_
  rintro e w' ⟨rfl, rfl⟩
  rw [inB_kws]
  go_wp2_with fail
  go_ret
  exact ⟨rfl, rfl⟩
def KwW (w : World) : World := w.alloc (.cells (kwsB.map Value.string).toArray 9)
theorem rkw_t {s : ByteArray} {v : Bool} (h : keywordB s = v) (w : World) : Calls Tryz.prog 49 #[.string s] w fun e w' => e = .returned (.bool v) ∧ w' = KwW w := by
  rw [← h]; exact rkeyword_any s w
theorem KwW.kept (w : World) : Kept (fun _ => False) w (KwW w) := (Kept.refl _ _).alloc _
theorem head_in {s : ByteArray} (h : 0 < s.size) (hl : letterB (s[0].toNat) = true) : allW (s.data.toList.take 1) = true := by
  rw [take_snoc s 0 h, List.take_zero, List.nil_append]; simp [allW, inWordB, hl]
set_option maxRecDepth 10000 in
set_option maxHeartbeats 2000000 in
theorem rident_any (s : ByteArray) (w : World) (hs : s.size ≤ 9223372036854775807) :
    Calls Tryz.prog 19 #[.string s] w fun e w' => e = .returned (.bool (identB s)) ∧ Kept (fun _ => False) w w' := by
  by_cases h0 : 0 < s.size
  case neg =>
    have h1 : (s.size : Int) < 1 := by omega
    have hk := Lib.hid (show identB s = false by unfold identB; rw [decide_eq_false h0]; rfl)
    clear h0
    go_enter Tryz.func19, Tryz.ntmps19
    go_wp2_with fail
    go_ret
    exact ⟨by rw [hk.out]; rfl, Kept.refl _ _⟩
  have h1 : decide ((s.size : Int) < 1) = false := by simp; omega
  by_cases h16 : s.size ≤ 16
  case neg =>
    have hd : decide (16 < (s.size : Int)) = true := by simp; omega
    have hk := Lib.hid (show identB s = false by unfold identB; rw [decide_eq_false h16]; simp)
    clear h16
    go_enter Tryz.func19, Tryz.ntmps19
    go_wp2_with fail
    go_ret
    exact ⟨by rw [hk.out]; rfl, Kept.refl _ _⟩
  have hd : decide (16 < (s.size : Int)) = false := by simp; omega
  have hh := head_of s h0
  cases hl : letterB (s[0].toNat)
  case false =>
    have hk := Lib.hid (show identB s = false by unfold identB; rw [hh, hl]; simp)
    clear hh
    go_enter Tryz.func19, Tryz.ntmps19
    go_wp2_with (go_at_call 48; refine (rletter_any _ _).mono ?_; rintro e w' ⟨rfl, rfl⟩)
    go_ret
    exact ⟨by rw [hk.out]; rfl, Kept.refl _ _⟩
  cases hkw : keywordB s
  case true =>
    have hk := Lib.hid (show identB s = false by unfold identB; rw [hkw]; simp)
    have HK := Lib.hid hkw
    clear hh hkw
    go_enter Tryz.func19, Tryz.ntmps19
    go_wp2_with (go_at_call 48; refine (rletter_any _ _).mono ?_; rintro e w' ⟨rfl, rfl⟩)
    refine (rkw_t HK.out _).mono ?_
    rintro e w' ⟨rfl, rfl⟩
    go_wp2_with fail
    go_ret
    exact ⟨by rw [hk.out]; rfl, KwW.kept _⟩
  have hk := Lib.hid (show identB s = allW s.data.toList by unfold identB; rw [hh, hl, hkw, decide_eq_true h0, decide_eq_true h16]; simp)
  have HK := Lib.hid hkw
  have HI := Lib.hid (head_in h0 hl)
  clear hh hkw
  go_enter Tryz.func19, Tryz.ntmps19
  go_wp2_with (go_at_call 48; refine (rletter_any _ _).mono ?_; rintro e w' ⟨rfl, rfl⟩)
  refine (rkw_t HK.out _).mono ?_
  rintro e w' ⟨rfl, rfl⟩
  have kW := KwW.kept w
  generalize KwW w = w1 at *
  go_wp2_with fail
  go_loop [3] (fun i => ∃ k : Nat, k ≤ s.size ∧ i = .int .i64 k ∧ Hid (allW (s.data.toList.take k) = true)) (fun i => s.size - (intOf i).toNat)
  case atStart => exact ⟨1, by omega, rfl, HI⟩
  case round =>
    obtain ⟨k, hks, rfl, hall⟩ := hrel
    by_cases hlt : k < s.size
    · cases a1 : letterB s[k].toNat <;> cases a2 : digitB s[k].toNat <;> cases a3 : ((s[k].toNat : Int) == 95)
      case false.false.false =>
        have hf := Lib.hid (allW_false s k hlt (by unfold inWordB; rw [a1, a2, a3]; rfl))
        go_wp2_with (first | (go_at_call 48; refine (rletter_any _ _).mono ?_; rintro e w' ⟨rfl, rfl⟩) | (go_at_call 50; refine (rdigit_any _ _).mono ?_; rintro e w' ⟨rfl, rfl⟩))
        go_ret
        exact ⟨by rw [hk.out, hf.out]; rfl, kW⟩
      all_goals
        have hall' : Hid (allW (s.data.toList.take (k + 1)) = true) := Lib.hid (by rw [take_snoc s k hlt, allW_snoc, hall.out]; unfold inWordB; rw [a1, a2, a3]; rfl)
        go_wp2_with (first | (go_at_call 48; refine (rletter_any _ _).mono ?_; rintro e w' ⟨rfl, rfl⟩) | (go_at_call 50; refine (rdigit_any _ _).mono ?_; rintro e w' ⟨rfl, rfl⟩))
        go_round
        case rel => exact ⟨k + 1, by omega, by go_num, hall'⟩
        case measure => simp [intOf]; omega
    · have hf : Hid (allW s.data.toList = true) := by
        have h := hall.out
        rw [List.take_of_length_le (by simp; omega)] at h
        exact Lib.hid h
      go_wp2_with fail
      go_ret
      exact ⟨by rw [hk.out, hf.out]; rfl, kW⟩
theorem extract_all (s : ByteArray) : s.extract 0 s.size = s := by
  apply ba_ext
  rw [ext_list, List.drop_zero, List.take_of_length_le (by simp)]
theorem is_word {s t : ByteArray} (h : keywordB s = false) (σ : PS) (hk : σ.k = 1) (ht : σ.tx = s) : isS σ t = false := by
  unfold isS isB
  rw [hk, ht]
  cases he : (s.toList == t.toList)
  · simp
  · have : keywordB t = keywordB s := by unfold keywordB; rw [eq_of_beq he]
    rw [this, h]; simp
def nmT (s : ByteArray) : Tm := .mk 20 s 0 ty0 []
theorem toList_inj {a b : ByteArray} (h : a.toList = b.toList) : a = b := by
  rw [Go.ByteArray.toList_eq, Go.ByteArray.toList_eq] at h; exact ba_ext h
end Go.Proofs.YtckjlliobebodaaGreatDoor
/- The document's lexer: parts of words, numbers. -/
set_option linter.unusedVariables false
set_option linter.unusedSimpArgs false
namespace Go.Proofs.YtckjlliobebodaaGreatDoor
open Go.RowKit
set_option maxHeartbeats 400000 in
theorem rpart_any (c : Int) (w : World) :
    Calls Tryz.prog 71 #[.int .u8 c] w fun e w' => e = .returned (.bool (inWordB c)) ∧ w = w' := by
  cases h1 : letterB c <;> cases h2 : digitB c <;> cases h3 : (c == 95)
  all_goals
    have hk := Lib.hid (show inWordB c = _ by unfold inWordB; rw [h1, h2, h3])
    go_enter Tryz.func71, Tryz.ntmps71
    go_wp2_with (first | (go_at_call 48; refine (rletter_any _ _).mono ?_; rintro e w' ⟨rfl, rfl⟩) | (go_at_call 50; refine (rdigit_any _ _).mono ?_; rintro e w' ⟨rfl, rfl⟩))
    go_ret
    exact ⟨by rw [hk.out]; rfl, rfl⟩
def digs (acc : Nat) : List UInt8 → Option Nat
  | [] => some acc
  | c :: r => if digitB c.toNat = true then digs (acc * 10 + (c.toNat - 48)) r else none
theorem digs_snoc (l : List UInt8) : ∀ (acc : Nat) (c : UInt8), digs acc (l ++ [c]) = (digs acc l).bind fun v => if digitB c.toNat = true then some (v * 10 + (c.toNat - 48)) else none := by
  induction l with
  | nil => intro acc c; rfl
  | cons a l ih =>
    intro acc c
    show (if digitB a.toNat = true then digs _ (l ++ [c]) else none) = (if digitB a.toNat = true then digs _ l else none).bind _
    by_cases h : digitB a.toNat = true
    · rw [if_pos h, if_pos h, ih]
    · rw [if_neg h, if_neg h]; rfl
theorem digs_app_none (l m : List UInt8) : ∀ (acc : Nat), digs acc l = none → digs acc (l ++ m) = none := by
  induction l with
  | nil => intro acc h; cases h
  | cons a l ih =>
    intro acc h
    show (if digitB a.toNat = true then digs _ (l ++ m) else none) = none
    by_cases hd : digitB a.toNat = true
    · rw [if_pos hd]; apply ih
      have : (if digitB a.toNat = true then digs (acc * 10 + (a.toNat - 48)) l else none) = none := h
      rwa [if_pos hd] at this
    · rw [if_neg hd]
/-- The number that digits denote, or -1. -/
def amt (s : ByteArray) : Int :=
  if 10 < s.size ∨ (1 < s.size ∧ (s.data.toList.headD 0).toNat = 48) then -1
  else match digs 0 s.data.toList with
    | none => -1
    | some n => if 1000000000 < n then -1 else n
def DigAt (s : ByteArray) (k v : Nat) : Prop := digs 0 (s.data.toList.take k) = some v ∧ v < 10 ^ k
theorem DigAt.next {s : ByteArray} {k v : Nat} (h : DigAt s k v) (hk : k < s.size) (hd : digitB s[k].toNat = true) : DigAt s (k + 1) (v * 10 + (s[k].toNat - 48)) := by
  have hb : s[k].toNat - 48 ≤ 9 := by unfold digitB at hd; simp at hd; omega
  refine ⟨?_, ?_⟩
  · rw [take_snoc s k hk, digs_snoc, h.1]; simp [hd]
  · have := h.2; rw [Nat.pow_succ]; omega
theorem DigAt.stop {s : ByteArray} {k v : Nat} (h : DigAt s k v) (hk : k < s.size) (hd : digitB s[k].toNat = false) : digs 0 s.data.toList = none := by
  have e : s.data.toList = s.data.toList.take (k + 1) ++ s.data.toList.drop (k + 1) := (List.take_append_drop _ _).symm
  rw [e]
  apply digs_app_none
  rw [take_snoc s k hk, digs_snoc, h.1]; simp [hd]
set_option maxHeartbeats 2000000 in
theorem ramount_any (s : ByteArray) (w : World) (hs : s.size ≤ 9223372036854775807) :
    Calls Tryz.prog 72 #[.string s] w fun e w' => e = .returned (.int .i64 (amt s)) ∧ w = w' := by
  by_cases h10 : 10 < s.size
  · have hd : decide (10 < (s.size : Int)) = true := by simp; omega
    have hk := Lib.hid (show amt s = -1 by unfold amt; rw [if_pos (Or.inl h10)])
    clear h10
    go_enter Tryz.func72, Tryz.ntmps72
    go_wp2_with fail
    go_ret
    exact ⟨by rw [hk.out]; rfl, rfl⟩
  have hd : decide (10 < (s.size : Int)) = false := by simp; omega
  by_cases hz : 1 < s.size ∧ (s.data.toList.headD 0).toNat = 48
  · have h0 : 0 < s.size := by omega
    have i1 : decide (1 < (s.size : Int)) = true := by simp; omega
    have i2 : ((s[0].toNat : Int) == 48) = true := by have := hz.2; rw [head_of s h0] at this; rw [this]; rfl
    have hk := Lib.hid (show amt s = -1 by unfold amt; rw [if_pos (Or.inr hz)])
    clear hz
    go_enter Tryz.func72, Tryz.ntmps72
    go_wp2_with fail
    go_ret
    exact ⟨by rw [hk.out]; rfl, rfl⟩
  have hk := Lib.hid (show amt s = (match digs 0 s.data.toList with | none => -1 | some n => if 1000000000 < n then -1 else n) by unfold amt; rw [if_neg (by rintro (h | h); exact h10 h; exact hz h)])
  have HZ : Hid (1 < s.size → ∀ h0 : 0 < s.size, ((s[0].toNat : Int) == 48) = false) := Lib.hid (fun h h0 => by
    rw [beq_eq_false_iff_ne]; intro e; apply hz; refine ⟨h, ?_⟩; rw [head_of s h0]; omega)
  clear hz
  have h10' : s.size ≤ 10 := by omega
  by_cases h1 : 1 < s.size
  all_goals
    first
    | (have i1 : decide (1 < (s.size : Int)) = true := by simp; omega)
    | (have i1 : decide (1 < (s.size : Int)) = false := by simp; omega)
    try (have i2 := HZ.out h1 (by omega))
    go_enter Tryz.func72, Tryz.ntmps72
    go_wp2_with fail
    go_loop [3, 4] (fun n i => ∃ k v : Nat, k ≤ s.size ∧ i = .int .i64 k ∧ n = .int .i64 v ∧ Hid (DigAt s k v)) (fun _ i => s.size - (intOf i).toNat)
    case atStart => exact ⟨0, 0, Nat.zero_le _, rfl, rfl, Lib.hid ⟨rfl, by decide⟩⟩
    case round =>
      obtain ⟨k, v, hks, rfl, rfl, hD⟩ := hrel
      by_cases hlt : k < s.size
      · cases hw : digitB s[k].toNat
        · have hf := Lib.hid (hD.out.stop hlt hw)
          go_wp2_with (go_at_call 50; refine (rdigit_any _ _).mono ?_; rintro e w' ⟨rfl, rfl⟩)
          go_ret
          exact ⟨by rw [hk.out, hf.out]; rfl, rfl⟩
        · have hN := Lib.hid (hD.out.next hlt hw)
          have hv : v < 1000000000000 := by
            have h1 := hD.out.2
            have h2 : 10 ^ k ≤ 10 ^ 10 := Nat.pow_le_pow_right (by decide) (by omega)
            omega
          have hb : 48 ≤ s[k].toNat ∧ s[k].toNat ≤ 57 := by unfold digitB at hw; simp at hw; omega
          go_wp2_with (go_at_call 50; refine (rdigit_any _ _).mono ?_; rintro e w' ⟨rfl, rfl⟩)
          go_round
          case rel => exact ⟨k + 1, v * 10 + (s[k].toNat - 48), by omega, by go_num, congrArg (Value.int .i64) (by omega), hN⟩
          case measure => simp [intOf]; omega
      · have hv : digs 0 s.data.toList = some v := by
          have h := hD.out.1
          rwa [List.take_of_length_le (by simp; omega)] at h
        have hv2 : v < 1000000000000 := by
          have h1 := hD.out.2
          have h2 : 10 ^ k ≤ 10 ^ 10 := Nat.pow_le_pow_right (by decide) (by omega)
          omega
        by_cases hb : 1000000000 < v
        · have hf := Lib.hid (show amt s = -1 by rw [hk.out, hv]; exact if_pos hb)
          have i3 : decide ((1000000000 : Int) < (v : Int)) = true := by simp; omega
          clear hv hk hb
          go_wp2_with fail
          go_ret
          exact ⟨by rw [hf.out]; rfl, rfl⟩
        · have hf := Lib.hid (show amt s = v by rw [hk.out, hv]; exact if_neg hb)
          have i3 : decide ((1000000000 : Int) < (v : Int)) = false := by simp; omega
          clear hv hk hb
          go_wp2_with fail
          go_ret
          exact ⟨by rw [hf.out]; rfl, rfl⟩
theorem uint_digs (l : List UInt8) : ∀ (acc v : Nat), digs acc l = some v → acc * 10 ^ l.length + 10 ^ l.length ≤ 18446744073709551616 → Lib.parseUint10 acc l = .ok v := by
  induction l with
  | nil => intro acc v h _; cases h; rfl
  | cons c l ih =>
    intro acc v h hb
    have h' : (if digitB c.toNat = true then digs (acc * 10 + (c.toNat - 48)) l else none) = some v := h
    by_cases hd : digitB c.toNat = true
    · rw [if_pos hd] at h'
      have hc : 48 ≤ c.toNat ∧ c.toNat ≤ 57 := by unfold digitB at hd; simp at hd; omega
      have hp : 1 ≤ 10 ^ l.length := Nat.pow_pos (by decide)
      rw [List.length_cons, Nat.pow_succ] at hb
      generalize 10 ^ l.length = P at *
      have e1 : acc * (P * 10) = acc * 10 * P := by rw [Nat.mul_comm P, Nat.mul_assoc]
      have e2 : (acc * 10 + (c.toNat - 48)) * P + P ≤ acc * 10 * P + P * 10 := by
        rw [Nat.add_mul]
        have : (c.toNat - 48) * P ≤ 9 * P := Nat.mul_le_mul_right _ (by omega)
        omega
      have e3 : acc * 10 ≤ acc * 10 * P := Nat.le_mul_of_pos_right _ hp
      show (if _ then _ else _) = _
      rw [if_pos hc, if_neg (by omega), if_neg (by omega)]
      exact ih _ _ h' (by omega)
    · rw [if_neg hd] at h'; cases h'
theorem digs_uint (l : List UInt8) : ∀ (acc v : Nat), Lib.parseUint10 acc l = .ok v → digs acc l = some v := by
  induction l with
  | nil => intro acc v h; cases h; rfl
  | cons c l ih =>
    intro acc v h
    unfold Lib.parseUint10 at h
    by_cases hc : 48 ≤ c.toNat ∧ c.toNat ≤ 57
    · rw [if_pos hc] at h
      have hd : digitB c.toNat = true := by unfold digitB; simp; omega
      show (if _ then _ else _) = _
      rw [if_pos hd]
      split at h
      · cases h
      · split at h
        · cases h
        · exact ih _ _ h
    · rw [if_neg hc] at h; cases h
theorem digs_ge (l : List UInt8) : ∀ (acc v : Nat), digs acc l = some v → acc * 10 ^ l.length ≤ v := by
  induction l with
  | nil => intro acc v h; cases h; simp
  | cons c l ih =>
    intro acc v h
    have h' : (if digitB c.toNat = true then digs (acc * 10 + (c.toNat - 48)) l else none) = some v := h
    by_cases hd : digitB c.toNat = true
    · rw [if_pos hd] at h'
      have := ih _ _ h'
      rw [List.length_cons, Nat.pow_succ]
      have e1 : acc * (10 ^ l.length * 10) = acc * 10 * 10 ^ l.length := by rw [Nat.mul_comm (10 ^ l.length), Nat.mul_assoc]
      rw [Nat.add_mul] at this
      omega
    · rw [if_neg hd] at h'; cases h'
theorem digs_lt (l : List UInt8) : ∀ (acc v : Nat), digs acc l = some v → v < (acc + 1) * 10 ^ l.length := by
  induction l with
  | nil => intro acc v h; cases h; simp
  | cons c l ih =>
    intro acc v h
    have h' : (if digitB c.toNat = true then digs (acc * 10 + (c.toNat - 48)) l else none) = some v := h
    by_cases hd : digitB c.toNat = true
    · rw [if_pos hd] at h'
      have hc : 48 ≤ c.toNat ∧ c.toNat ≤ 57 := by unfold digitB at hd; simp at hd; omega
      have h1 := ih _ _ h'
      rw [List.length_cons, Nat.pow_succ]
      have e1 : (acc + 1) * (10 ^ l.length * 10) = (acc * 10 + 10) * 10 ^ l.length := by rw [Nat.mul_comm (10 ^ l.length), ← Nat.mul_assoc, Nat.add_mul acc 1 10]
      have e2 : (acc * 10 + (c.toNat - 48) + 1) * 10 ^ l.length ≤ (acc * 10 + 10) * 10 ^ l.length := Nat.mul_le_mul_right _ (by omega)
      omega
    · rw [if_neg hd] at h'; cases h'
theorem atoi_digit {l : List UInt8} {c : UInt8} {r : List UInt8} (hl : l = c :: r) (hd : digitB c.toNat = true) (v : Int) : Lib.atoiAll l = .ok v ↔ ∃ u : Nat, v = u ∧ u < 9223372036854775808 ∧ Lib.parseUint10 0 l = .ok u := by
  subst hl
  have hc : 48 ≤ c.toNat ∧ c.toNat ≤ 57 := by unfold digitB at hd; simp at hd; omega
  have e : Lib.parseMag (c :: r) = Lib.parseUint10 0 (c :: r) := by unfold Lib.parseMag; rw [if_neg (by simp)]
  unfold Lib.atoiAll
  simp only []
  rw [if_neg (by omega), e]
  cases hp : Lib.parseUint10 0 (c :: r) with
  | ok u =>
    simp only [show ¬ c.toNat = 45 by omega, not_false_iff, true_and, false_and, if_false]
    by_cases hu : 9223372036854775808 ≤ u
    · rw [if_pos hu]
      constructor
      · intro h; cases h
      · rintro ⟨x, rfl, hx, h⟩; cases h; omega
    · rw [if_neg hu]
      constructor
      · intro h; cases h; exact ⟨u, rfl, by omega, rfl⟩
      · rintro ⟨x, rfl, hx, h⟩; cases h; rfl
  | range => simp
  | _ => simp
theorem num_amt {t : ByteArray} (h0 : 0 < t.size) (hd : digitB t[0].toNat = true) : numTok t = if amt t < 0 then none else some (amt t) := by
  obtain ⟨c, r, hl⟩ : ∃ c r, t.data.toList = c :: r := by
    cases h : t.data.toList with
    | nil => rw [Lib.size_eq, h] at h0; cases h0
    | cons c r => exact ⟨c, r, rfl⟩
  have hh : t[0] = c := by rw [← head_of t h0, hl]; rfl
  have hsz : t.size = r.length + 1 := by rw [Lib.size_eq, hl]; rfl
  rw [hh] at hd
  have hc : 48 ≤ c.toNat ∧ c.toNat ≤ 57 := by unfold digitB at hd; simp at hd; omega
  have hA := atoi_digit hl hd
  have dg : digs 0 (c :: r) = digs (c.toNat - 48) r := by show (if _ then _ else _) = _; rw [if_pos hd, Nat.zero_mul, Nat.zero_add]
  unfold numTok amt
  rw [hl] at hA ⊢
  cases ha : Lib.atoiAll (c :: r) with
  | ok v =>
    obtain ⟨u, rfl, hu, hp⟩ := (hA v).1 ha
    have hg := digs_uint _ _ _ hp
    simp only []
    by_cases hz : 1 < t.size ∧ ((c :: r).headD 0).toNat = 48
    · rw [if_pos (Or.inr hz), if_pos (Or.inr hz), if_pos (by decide)]
    · by_cases h10 : 10 < t.size
      · have h1 : 1 ≤ c.toNat - 48 := by
          have : ¬ c.toNat = 48 := fun e => hz ⟨by omega, e⟩
          omega
        have h2 := digs_ge r _ u (by rw [← dg]; exact hg)
        have h3 : 10 ^ 10 ≤ 10 ^ r.length := Nat.pow_le_pow_right (by decide) (by omega)
        have h4 : 10 ^ r.length ≤ (c.toNat - 48) * 10 ^ r.length := Nat.le_mul_of_pos_left _ h1
        rw [if_pos (Or.inl (by omega)), if_pos (Or.inl h10), if_pos (by decide)]
      · rw [if_neg (show ¬ (10 < t.size ∨ 1 < t.size ∧ ((c :: r).headD 0).toNat = 48) by rintro (h | h); exact h10 h; exact hz h), hg]
        simp only []
        by_cases hb : 1000000000 < u
        · rw [if_pos (Or.inl (by omega)), if_pos hb, if_pos (by decide)]
        · rw [if_neg (by rintro (h | h); omega; exact hz h), if_neg hb, if_neg (by omega)]
  | range =>
    simp only []
    by_cases hz : 10 < t.size ∨ 1 < t.size ∧ ((c :: r).headD 0).toNat = 48
    · rw [if_pos hz, if_pos (by decide)]
    · rw [if_neg hz]
      cases hg : digs 0 (c :: r) with
      | none => simp
      | some u =>
        have h3 : 10 ^ (c :: r).length ≤ 10 ^ 10 := Nat.pow_le_pow_right (by decide) (by rw [List.length_cons]; have : ¬ 10 < t.size := fun h => hz (Or.inl h); omega)
        have hp := uint_digs _ _ _ hg (by omega)
        have hv := (hA u).2 ⟨u, rfl, by have := digs_lt _ _ _ hg; omega, hp⟩
        rw [ha] at hv; cases hv
  | _ =>
    simp only []
    by_cases hz : 10 < t.size ∨ 1 < t.size ∧ ((c :: r).headD 0).toNat = 48
    · rw [if_pos hz, if_pos (by decide)]
    · rw [if_neg hz]
      cases hg : digs 0 (c :: r) with
      | none => simp
      | some u =>
        have h3 : 10 ^ (c :: r).length ≤ 10 ^ 10 := Nat.pow_le_pow_right (by decide) (by rw [List.length_cons]; have : ¬ 10 < t.size := fun h => hz (Or.inl h); omega)
        have hp := uint_digs _ _ _ hg (by omega)
        have hv := (hA u).2 ⟨u, rfl, by have := digs_lt _ _ _ hg; omega, hp⟩
        rw [ha] at hv; cases hv
end Go.Proofs.YtckjlliobebodaaGreatDoor
/- The document's lexer: signs. -/
set_option linter.unusedVariables false
set_option linter.unusedSimpArgs false
namespace Go.Proofs.YtckjlliobebodaaGreatDoor
open Go.RowKit
def sgs1 : List ByteArray := ⟨#[62, 45, 62, 62]⟩ :: ⟨#[60, 61, 62]⟩ :: (signs.drop 2).take 18
def sgs2 : List ByteArray := signs.drop 20
theorem pre_at (s p : ByteArray) (i : Nat) : Lib.hasPrefix (s.data.toList.drop i) p.data.toList = (decide (p.size ≤ s.size - i) && ((s.extract i (i + p.size)).toList == p.toList)) := by
  rw [Lib.extract_toList, Go.ByteArray.toList_eq, Nat.add_sub_cancel_left, Lib.size_eq p, Lib.size_eq s]
  generalize p.data.toList = q
  have hl : (s.data.toList.drop i).length = s.data.toList.length - i := List.length_drop
  generalize s.data.toList.drop i = L at *
  rw [← hl]
  unfold Lib.hasPrefix
  rw [Bool.eq_iff_iff, List.isPrefixOf_iff_prefix, List.prefix_iff_eq_take, Bool.and_eq_true, decide_eq_true_eq, beq_iff_eq]
  constructor
  · intro h
    refine ⟨?_, h.symm⟩
    have := congrArg List.length h
    rw [List.length_take] at this
    omega
  · rintro ⟨_, h⟩; exact h.symm
/-- The sign that stands at a place of a source. -/
def sgnF (l : List UInt8) : Option ByteArray := (sgs1 ++ sgs2).find? fun x => Lib.hasPrefix l x.data.toList
theorem find_swap {α : Type} (P : α → Bool) (a b : α) (l : List α) (h : ¬ (P a = true ∧ P b = true)) : (a :: b :: l).find? P = (b :: a :: l).find? P := by
  simp only [List.find?_cons]
  cases ha : P a <;> cases hb : P b <;> simp_all
theorem sgn_signs (l : List UInt8) : sgnF l = signs.find? fun x => Lib.hasPrefix l x.data.toList := by
  unfold sgnF
  have e : sgs1 ++ sgs2 = ⟨#[62, 45, 62, 62]⟩ :: ⟨#[60, 61, 62]⟩ :: signs.drop 2 := rfl
  have e2 : signs = ⟨#[60, 61, 62]⟩ :: ⟨#[62, 45, 62, 62]⟩ :: signs.drop 2 := rfl
  rw [e]
  conv => rhs; rw [e2]
  apply find_swap
  rintro ⟨h1, h2⟩
  unfold Lib.hasPrefix at h1 h2
  cases l with
  | nil => cases h1
  | cons c l =>
    simp [List.isPrefixOf] at h1 h2
    rw [← h1.1] at h2
    exact absurd h2.1 (by decide)
theorem sIdx_find (l : List UInt8) (xs : List ByteArray) : (sIdx l xs < 0 ∧ (xs.find? fun x => Lib.hasPrefix l x.data.toList) = none) ∨ (¬ sIdx l xs < 0 ∧ (xs.find? fun x => Lib.hasPrefix l x.data.toList) = some (xs.getD (sIdx l xs).toNat ⟨#[]⟩)) := by
  unfold sIdx
  cases h : xs.findIdx? (fun x => Lib.hasPrefix l x.data.toList) with
  | none =>
    left
    refine ⟨by decide, ?_⟩
    rw [List.findIdx?_eq_none_iff] at h
    rw [List.find?_eq_none]
    intro x hx; rw [h x hx]; simp
  | some k =>
    right
    rw [List.findIdx?_eq_some_iff_getElem] at h
    obtain ⟨hk, hy, hno⟩ := h
    refine ⟨by simp only []; omega, ?_⟩
    rw [List.find?_eq_some_iff_getElem]
    refine ⟨?_, k, hk, ?_, fun j hj => by simpa using hno j hj⟩
    · simp only [Int.toNat_natCast, List.getD_eq_getElem?_getD, List.getElem?_eq_getElem hk, Option.getD_some]; exact hy
    · simp only [Int.toNat_natCast, List.getD_eq_getElem?_getD, List.getElem?_eq_getElem hk, Option.getD_some]
theorem sgs1_len : sgs1.length = 20 := rfl
theorem find_app_some {α : Type} (P : α → Bool) (l m : List α) (k : Nat) (hk : k < l.length) (hno : ∀ j (h : j < k), P (l[j]'(by omega)) = false) (hy : P l[k] = true) : (l ++ m).find? P = some l[k] := by
  rw [List.find?_append]
  have : l.find? P = some l[k] := by
    rw [List.find?_eq_some_iff_getElem]
    exact ⟨hy, k, hk, rfl, fun j hj => by simpa using hno j hj⟩
  rw [this]; rfl
theorem find_inB (c : ByteArray) (xs : List ByteArray) : (xs.find? fun x => x.toList == c.toList) = if inB c xs = true then some c else none := by
  induction xs with
  | nil => rfl
  | cons x xs ih =>
    rw [List.find?_cons]
    have e : inB c (x :: xs) = ((x.toList == c.toList) || inB c xs) := rfl
    rw [e]
    cases h : (x.toList == c.toList)
    · rw [ih, Bool.false_or]
    · obtain rfl := toList_inj (eq_of_beq h); simp
theorem sgs2_one : ∀ x ∈ sgs2, x.size = 1 := by decide
theorem find_congr {α : Type} {P Q : α → Bool} {l : List α} (h : ∀ x ∈ l, P x = Q x) : l.find? P = l.find? Q := by
  induction l with
  | nil => rfl
  | cons a l ih => rw [List.find?_cons, List.find?_cons, h a (by simp), ih (fun x hx => h x (by simp [hx]))]
theorem sgn_one {s : ByteArray} {i : Nat} (hi : i < s.size) (hno : ∀ j (h : j < sgs1.length), Lib.hasPrefix (s.data.toList.drop i) sgs1[j].data.toList = false) : sgnF (s.data.toList.drop i) = if inB (s.extract i (i + 1)) sgs2 = true then some (s.extract i (i + 1)) else none := by
  unfold sgnF
  rw [List.find?_append]
  have h1 : (sgs1.find? fun x => Lib.hasPrefix (s.data.toList.drop i) x.data.toList) = none := by
    rw [List.find?_eq_none]; intro x hx
    obtain ⟨j, hj, rfl⟩ := List.getElem_of_mem hx
    rw [hno j hj]; simp
  rw [h1, Option.none_or, ← find_inB]
  apply find_congr
  intro x hx
  rw [pre_at, sgs2_one x hx, decide_eq_true (by omega), Bool.true_and]
  exact Bool.beq_comm
set_option maxHeartbeats 2000000 in
theorem rsign_any (s : ByteArray) (i : Nat) (w : World) (hi : i < s.size) (hs : s.size ≤ 65536) :
    Calls Tryz.prog 73 #[.string s, .int .i64 i] w fun e w' => e = .returned (.string ((sgnF (s.data.toList.drop i)).getD ⟨#[]⟩)) ∧ Kept (fun _ => False) w w' := by
  have hx : ∀ k (h : k < sgs1.length), (w.alloc (.cells (sgs1.map Value.string).toArray 9)).cell? ⟨w.heap.size, k, none⟩ = some (.string sgs1[k]) := by
    intro k h
    have := (Blk.new w 9 (sgs1.map Value.string)).cell k
    rw [this, List.getElem?_map, List.getElem?_eq_getElem h]; rfl
  have HX := Lib.hid hx
  have HL : Hid (∀ k (h : k < sgs1.length), (sgs1[k]).size ≤ 4) := Lib.hid (by decide)
  have kW : Kept (fun _ => False) w (w.alloc (.cells (sgs1.map Value.string).toArray 9)) := (Kept.refl _ _).alloc _
  clear hx
  go_enter Tryz.func73, Tryz.ntmps73
  go_wp2_with fail
  refine wp_gen (fun W => (∀ k (h : k < sgs1.length), W.cell? ⟨w.heap.size, k, none⟩ = some (.string sgs1[k])) ∧ Kept (fun _ => False) w W) ⟨HX.out, kW⟩ ?_
  clear HX kW
  rintro W ⟨hx, kW⟩
  have HX := Lib.hid hx
  clear hx
  generalize w.heap.size = g at *
  go_loopw [6] (fun i_ wr => ∃ k n : Nat, k ≤ sgs1.length ∧ i_ = .int .i64 k ∧ W.drewN n = wr ∧ Hid (∀ j (h : j < k) (h' : j < sgs1.length), Lib.hasPrefix (s.data.toList.drop i) sgs1[j].data.toList = false)) (fun i_ _ => sgs1.length - (intOf i_).toNat)
  case atStart => exact ⟨0, 0, Nat.zero_le _, rfl, rfl, Lib.hid (fun j h => by omega)⟩
  case round =>
    obtain ⟨k, n, hk, rfl, rfl, hno⟩ := hrel
    have hl20 := sgs1_len
    by_cases hlt : k < sgs1.length
    · have hc := HX.out k hlt
      have i1 : (k : Int) < 20 := by omega
      have hP := Lib.hid (pre_at s sgs1[k] i)
      have h4 := HL.out k hlt
      by_cases hlong : sgs1[k].size ≤ s.size - i
      · have i2 : decide ((sgs1[k].size : Int) ≤ (s.size : Int) - (i : Int)) = true := by simp; omega
        have i3 : (0 : Int) ≤ (i : Int) := by omega
        have i4 : (i : Int) ≤ (i : Int) + (sgs1[k].size : Int) := by omega
        have i5 : (i : Int) + (sgs1[k].size : Int) ≤ (s.size : Int) := by omega
        cases heq : ((s.extract i (i + sgs1[k].size)).toList == sgs1[k].toList)
        · have hno' : Hid (∀ j (h : j < k + 1) (h' : j < sgs1.length), Lib.hasPrefix (s.data.toList.drop i) sgs1[j].data.toList = false) := Lib.hid (fun j h h' => by
            rcases Nat.lt_succ_iff_lt_or_eq.1 h with h | rfl
            · exact hno.out j h h'
            · rw [hP.out, heq, Bool.and_false])
          go_wp2_with fail
          go_quiet (fail)
          go_wp2_with fail
          go_roundw
          case rel => exact ⟨k + 1, n + nq, by omega, by go_num, rfl, hno'⟩
          case measure => simp [intOf]; omega
        · have hf := Lib.hid (find_app_some (fun x => Lib.hasPrefix (s.data.toList.drop i) x.data.toList) sgs1 sgs2 k hlt (fun j h => hno.out j h (by omega)) (by rw [hP.out, heq, decide_eq_true hlong]; rfl))
          go_wp2_with fail
          go_quiet (fail)
          go_wp2_with fail
          go_ret
          exact ⟨by unfold sgnF; rw [hf.out]; rfl, kW.drewN _⟩
      · have i2 : decide ((sgs1[k].size : Int) ≤ (s.size : Int) - (i : Int)) = false := by simp; omega
        have hno' : Hid (∀ j (h : j < k + 1) (h' : j < sgs1.length), Lib.hasPrefix (s.data.toList.drop i) sgs1[j].data.toList = false) := Lib.hid (fun j h h' => by
            rcases Nat.lt_succ_iff_lt_or_eq.1 h with h | rfl
            · exact hno.out j h h'
            · rw [hP.out, decide_eq_false hlong, Bool.false_and])
        go_wp2_with fail
        go_quiet (fail)
        go_wp2_with fail
        go_roundw
        case rel => exact ⟨k + 1, n + nq, by omega, by go_num, rfl, hno'⟩
        case measure => simp [intOf]; omega
    · have HS := Lib.hid (sgn_one hi (fun j h => hno.out j (by omega) h))
      have hk20 : k = 20 := by omega
      subst hk20
      have i3 : (0 : Int) ≤ (i : Int) := by omega
      have i4 : (i : Int) ≤ (i : Int) + 1 := by omega
      have i5 : (i : Int) + 1 ≤ (s.size : Int) := by omega
      have hy : ∀ j (h : j < sgs2.length), ((W.drewN n).alloc (.cells (sgs2.map Value.string).toArray 9)).cell? ⟨W.heap.size, j, none⟩ = some (.string sgs2[j]) := by
        intro j h
        have := (Blk.new (W.drewN n) 9 (sgs2.map Value.string)).cell j
        refine Eq.trans this ?_
        rw [List.getElem?_map, List.getElem?_eq_getElem h]; rfl
      have HY := Lib.hid (rin_any (s.extract i (i + 1)) sgs2 W.heap.size 20 _ hy (by decide))
      have kY : Kept (fun _ => False) w ((W.drewN n).alloc (.cells (sgs2.map Value.string).toArray 9)) := (kW.drewN _).alloc _
      clear hy
      go_wp2_with fail
      refine HY.out.mono ?_
      rintro e w' ⟨rfl, rfl⟩
      have S := HS.out
      clear HS HY HX hno
      cases hb : inB (s.extract i (i + 1)) sgs2
      · rw [hb] at S
        have HS := Lib.hid S
        clear S hb
        go_wp2_with fail
        go_ret
        exact ⟨by rw [HS.out]; rfl, kY⟩
      · rw [hb] at S
        have HS := Lib.hid S
        clear S hb
        go_wp2_with fail
        go_ret
        exact ⟨by rw [HS.out]; rfl, kY⟩
end Go.Proofs.YtckjlliobebodaaGreatDoor
/- The document's lexer. -/
set_option linter.unusedVariables false
set_option linter.unusedSimpArgs false
namespace Go.Proofs.YtckjlliobebodaaGreatDoor
open Go.RowKit
/-- The token at a byte that is no blank: kind, text. -/
def lexW (s : ByteArray) (fr : Nat) : Int × ByteArray :=
  if h : fr < s.size then
    if letterB s[fr].toNat = true then
      if keywordB (s.extract fr (wend s fr)) = true then (2, s.extract fr (wend s fr))
      else if 16 < wend s fr - fr then (5, s.extract fr (wend s fr))
      else (1, s.extract fr (wordTo s fr))
    else if digitB s[fr].toNat = true then
      (if amt (s.extract fr (wend s fr)) < 0 then 5 else 3, s.extract fr (wend s fr))
    else match sgnF (s.data.toList.drop fr) with
      | some x => (4, x)
      | none => (5, ⟨#[]⟩)
  else (0, ⟨#[]⟩)
def LexP (s : ByteArray) (i : Nat) (w : World) (e : Ending) (w' : World) : Prop := e = .returned (.agg #[.int .i64 (lexW s (skip s i)).1, .string (lexW s (skip s i)).2, .int .i64 (skip s i)]) ∧ Kept (fun _ => False) w w'
theorem load_tok {W : World} {R : Nat} {k : Int} {x : ByteArray} {a : Int} (hb : Blk W R 55 [.int .i64 k, .string x, .int .i64 a]) : (loadVar 55 ⟨R, 0, none⟩).run Tryz.prog W = .ok (.agg #[.int .i64 k, .string x, .int .i64 a]) W :=
  run_loadVar_mid W R 0 55 _ _ hb.rangeAt Tryz.underlying55 rfl (by kernel_rfl)
theorem r55 {W : World} {R : Nat} {l : List Value} {x y z : Value} (h : Blk W R 55 l) (hl : l.length = 3) : Blk (((W.setCell ⟨R, 0, none⟩ x).setCell ⟨R, 1, none⟩ y).setCell ⟨R, 2, none⟩ z) R 55 [x, y, z] := by
  match l, hl with
  | [a, c, d], _ => exact ((h.set 0 x).set 1 y).set 2 z
theorem ret_tok {s : ByteArray} {i : Nat} {w W : World} {R fr : Nat} {k : Int} {x : ByteArray} {a : Act} (hf : skip s i = fr) (hl : lexW s fr = (k, x)) (hR : a.tmps.getD 4 undef = .pointer (some ⟨R, 0, none⟩)) (hd : a.defers = [])
    (hb : Blk W R 55 [.int .i64 k, .string x, .int .i64 fr]) (hk : Kept (fun _ => False) w W) : bodyPost Tryz.prog Tryz.f35 (LexP s i w) Exit.ret a W :=
  bodyPost_ret (results_one Tryz.results35 hR (load_tok hb)) hd ⟨by rw [hf, hl], hk⟩
theorem k55 {w W : World} {R : Nat} {x y z : Value} (h : Kept (fun _ => False) w W) (hR : w.heap.size ≤ R) : Kept (fun _ => False) w (((W.setCell ⟨R, 0, none⟩ x).setCell ⟨R, 1, none⟩ y).setCell ⟨R, 2, none⟩ z) :=
  ((h.setCell (p := ⟨R, 0, none⟩) (Or.inr hR) x).setCell (p := ⟨R, 1, none⟩) (Or.inr hR) y).setCell (p := ⟨R, 2, none⟩) (Or.inr hR) z
def z55 : List Value := [.int .i64 0, .string ⟨#[]⟩, .int .i64 0]
theorem sgn_ne {l : List UInt8} {x : ByteArray} (h : sgnF l = some x) : (x.toList == []) = false := by
  have hm := List.mem_of_find?_eq_some h
  have key : ∀ x ∈ sgs1 ++ sgs2, 0 < x.size := by decide
  have h0 := key x hm
  rw [beq_eq_false_iff_ne]
  intro e
  have e2 := empty_iff x
  rw [e, decide_eq_true h0] at e2
  cases e2
set_option maxRecDepth 10000 in
set_option maxHeartbeats 8000000 in
theorem rlex_any (s : ByteArray) (i : Nat) (w : World) (hi : i ≤ s.size) (hs : s.size ≤ 65536) :
    Calls Tryz.prog 35 #[.string s, .int .i64 i] w (LexP s i w) := by
  go_enter Tryz.func35, Tryz.ntmps35
  go_wp2_with fail
  refine wp_gen (fun W => Blk W w.heap.size 55 z55 ∧ Kept (fun _ => False) w W) ⟨Blk.new w 55 z55, (Kept.refl _ _).alloc _⟩ ?_
  rintro W ⟨B0, K0⟩
  have hR : w.heap.size ≤ w.heap.size := Nat.le_refl _
  generalize hRR : w.heap.size = R at B0 hR ⊢
  rw [← hRR] at hR
  have hR : w.heap.size ≤ R := by omega
  clear hRR
  have g0 : W.cell? ⟨R, 0, none⟩ = some (.int .i64 0) := B0.cell 0
  have g1 : W.cell? ⟨R, 1, none⟩ = some (.string ⟨#[]⟩) := B0.cell 1
  have g2 : W.cell? ⟨R, 2, none⟩ = some (.int .i64 0) := B0.cell 2
  have f0 : W.frozen? ⟨R, 0, none⟩ = false := B0.frozen 0
  have f1 : W.frozen? ⟨R, 1, none⟩ = false := B0.frozen 1
  have f2 : W.frozen? ⟨R, 2, none⟩ = false := B0.frozen 2
  go_loop [1] (fun v => ∃ k : Nat, k ≤ s.size ∧ v = .int .i64 k ∧ Hid (skip s k = skip s i)) (fun v => s.size - (intOf v).toNat)
  case atStart => exact ⟨i, hi, rfl, Lib.hid rfl⟩
  case round =>
    obtain ⟨k, hks, rfl, hK⟩ := hrel
    by_cases hlt : k < s.size
    · cases a1 : ((s[k].toNat : Int) == 32) <;> cases a2 : ((s[k].toNat : Int) == 9) <;> cases a3 : ((s[k].toNat : Int) == 10)
      case false.false.false =>
        have hE := Lib.hid (show skip s i = k by rw [← hK.out]; exact scan_no _ s k hlt (by unfold blankB; rw [a1, a2, a3]; rfl))
        clear hK
        have hne : ((k : Int) == (s.size : Int)) = false := by simp; omega
        go_wp2_with fail
        go_loop [5] (fun v => ∃ m : Nat, k ≤ m ∧ m ≤ s.size ∧ v = .int .i64 m ∧ Hid (wend s m = wend s k)) (fun v => s.size - (intOf v).toNat)
        case atStart => exact ⟨k, Nat.le_refl _, hks, rfl, Lib.hid rfl⟩
        case round =>
          obtain ⟨m, hkm, hms, rfl, hM⟩ := hrel
          by_cases hmt : m < s.size ∧ (∀ h : m < s.size, inWordB s[m].toNat = true)
          · obtain ⟨hmt, b0⟩ := hmt
            have b1 := b0 hmt
            have hM' : Hid (wend s (m + 1) = wend s k) := Lib.hid (by rw [← hM.out]; exact (scan_yes _ s m hmt b1).symm)
            clear b0
            go_wp2_with (go_at_call 71; refine (rpart_any _ _).mono ?_; rintro e w' ⟨rfl, rfl⟩)
            go_round
            case rel => exact ⟨m + 1, by omega, by omega, by go_num, hM'⟩
            case measure => simp [intOf]; omega
          · have hT := Lib.hid (show wend s k = m by
              rw [← hM.out]
              by_cases h : m < s.size
              · cases b1 : inWordB s[m].toNat
                · exact scan_no _ s m h b1
                · exact absurd ⟨h, fun _ => b1⟩ hmt
              · exact scan_end _ s m (by omega))
            have hB : Hid (∀ h : m < s.size, inWordB s[m].toNat = false) := Lib.hid (fun h => by
              cases b1 : inWordB s[m].toNat
              · rfl
              · exact absurd ⟨h, fun _ => b1⟩ hmt)
            clear hmt hM
            have j1 : (0 : Int) ≤ (k : Int) := by omega
            have j2 : (k : Int) ≤ (m : Int) := by omega
            have j3 : (m : Int) ≤ (s.size : Int) := by omega
            have hxz : (s.extract k m).size = m - k := by rw [ByteArray.size_extract]; omega
            have hsz : (s.extract k m).size ≤ 9223372036854775807 := by omega
            by_cases hm : m < s.size
            · have b1 := hB.out hm
              cases hl : letterB s[k].toNat
              case true =>
                cases hkw : keywordB (s.extract k m)
                case true =>
                  have hL := Lib.hid (show lexW s k = (2, s.extract k m) by unfold lexW; rw [dif_pos hlt, if_pos hl, hT.out, if_pos hkw])
                  have HK := Lib.hid hkw
                  clear hkw
                  go_wp2_with (first | (go_at_call 71; refine (rpart_any _ _).mono ?_; rintro e w' ⟨rfl, rfl⟩) | (go_at_call 48; refine (rletter_any _ _).mono ?_; rintro e w' ⟨rfl, rfl⟩) | (go_at_call 50; refine (rdigit_any _ _).mono ?_; rintro e w' ⟨rfl, rfl⟩) | (go_at_call 72; refine (ramount_any _ _ hsz).mono ?_; rintro e w' ⟨rfl, rfl⟩))
                  refine (rkw_t HK.out _).mono ?_
                  rintro e w' ⟨rfl, rfl⟩
                  have B1 : Blk (KwW W) R 55 z55 := B0.kept (KwW.kept W) (fun h => h)
                  have K1 := K0.trans (KwW.kept W)
                  clear HK
                  generalize KwW W = W1 at *
                  have g0 : W1.cell? ⟨R, 0, none⟩ = some (.int .i64 0) := B1.cell 0
                  have g1 : W1.cell? ⟨R, 1, none⟩ = some (.string ⟨#[]⟩) := B1.cell 1
                  have g2 : W1.cell? ⟨R, 2, none⟩ = some (.int .i64 0) := B1.cell 2
                  have f0 : W1.frozen? ⟨R, 0, none⟩ = false := B1.frozen 0
                  have f1 : W1.frozen? ⟨R, 1, none⟩ = false := B1.frozen 1
                  have f2 : W1.frozen? ⟨R, 2, none⟩ = false := B1.frozen 2
                  go_wp2_with (first | (go_at_call 71; refine (rpart_any _ _).mono ?_; rintro e w' ⟨rfl, rfl⟩) | (go_at_call 48; refine (rletter_any _ _).mono ?_; rintro e w' ⟨rfl, rfl⟩) | (go_at_call 50; refine (rdigit_any _ _).mono ?_; rintro e w' ⟨rfl, rfl⟩) | (go_at_call 72; refine (ramount_any _ _ hsz).mono ?_; rintro e w' ⟨rfl, rfl⟩))
                  exact ret_tok hE.out hL.out rfl rfl (r55 B1 rfl) (k55 K1 hR)
                case false =>
                  by_cases h16 : 16 < m - k
                  · have hL := Lib.hid (show lexW s k = (5, s.extract k m) by unfold lexW; rw [dif_pos hlt, if_pos hl, hT.out, if_neg (by rw [hkw]; simp), if_pos h16])
                    have HK := Lib.hid hkw
                    have q1 : decide (16 < ((m - k : Nat) : Int)) = true := by simp; omega
                    clear hkw
                    go_wp2_with (first | (go_at_call 71; refine (rpart_any _ _).mono ?_; rintro e w' ⟨rfl, rfl⟩) | (go_at_call 48; refine (rletter_any _ _).mono ?_; rintro e w' ⟨rfl, rfl⟩) | (go_at_call 50; refine (rdigit_any _ _).mono ?_; rintro e w' ⟨rfl, rfl⟩) | (go_at_call 72; refine (ramount_any _ _ hsz).mono ?_; rintro e w' ⟨rfl, rfl⟩))
                    refine (rkw_t HK.out _).mono ?_
                    rintro e w' ⟨rfl, rfl⟩
                    have B1 : Blk (KwW W) R 55 z55 := B0.kept (KwW.kept W) (fun h => h)
                    have K1 := K0.trans (KwW.kept W)
                    clear HK
                    generalize KwW W = W1 at *
                    have g0 : W1.cell? ⟨R, 0, none⟩ = some (.int .i64 0) := B1.cell 0
                    have g1 : W1.cell? ⟨R, 1, none⟩ = some (.string ⟨#[]⟩) := B1.cell 1
                    have g2 : W1.cell? ⟨R, 2, none⟩ = some (.int .i64 0) := B1.cell 2
                    have f0 : W1.frozen? ⟨R, 0, none⟩ = false := B1.frozen 0
                    have f1 : W1.frozen? ⟨R, 1, none⟩ = false := B1.frozen 1
                    have f2 : W1.frozen? ⟨R, 2, none⟩ = false := B1.frozen 2
                    go_wp2_with (first | (go_at_call 71; refine (rpart_any _ _).mono ?_; rintro e w' ⟨rfl, rfl⟩) | (go_at_call 48; refine (rletter_any _ _).mono ?_; rintro e w' ⟨rfl, rfl⟩) | (go_at_call 50; refine (rdigit_any _ _).mono ?_; rintro e w' ⟨rfl, rfl⟩) | (go_at_call 72; refine (ramount_any _ _ hsz).mono ?_; rintro e w' ⟨rfl, rfl⟩))
                    exact ret_tok hE.out hL.out rfl rfl (r55 B1 rfl) (k55 K1 hR)
                  · have q1 : decide (16 < ((m - k : Nat) : Int)) = false := by simp; omega
                    by_cases h39 : s[m].toNat = 39
                    · have q2 : ((s[m].toNat : Int) == 39) = true := by rw [h39]; rfl
                      have q3 : (k : Int) ≤ (m : Int) + 1 := by omega
                      have q4 : (m : Int) + 1 ≤ (s.size : Int) := by omega
                      have hL := Lib.hid (show lexW s k = (1, s.extract k (m + 1)) by unfold lexW wordTo; rw [dif_pos hlt, if_pos hl, hT.out, if_neg (by rw [hkw]; simp), if_neg h16, if_neg (by rw [hkw]; simp), dif_pos hm, if_pos h39])
                      have HK := Lib.hid hkw
                      clear hkw
                      go_wp2_with (first | (go_at_call 71; refine (rpart_any _ _).mono ?_; rintro e w' ⟨rfl, rfl⟩) | (go_at_call 48; refine (rletter_any _ _).mono ?_; rintro e w' ⟨rfl, rfl⟩) | (go_at_call 50; refine (rdigit_any _ _).mono ?_; rintro e w' ⟨rfl, rfl⟩) | (go_at_call 72; refine (ramount_any _ _ hsz).mono ?_; rintro e w' ⟨rfl, rfl⟩))
                      refine (rkw_t HK.out _).mono ?_
                      rintro e w' ⟨rfl, rfl⟩
                      have B1 : Blk (KwW W) R 55 z55 := B0.kept (KwW.kept W) (fun h => h)
                      have K1 := K0.trans (KwW.kept W)
                      clear HK
                      generalize KwW W = W1 at *
                      have g0 : W1.cell? ⟨R, 0, none⟩ = some (.int .i64 0) := B1.cell 0
                      have g1 : W1.cell? ⟨R, 1, none⟩ = some (.string ⟨#[]⟩) := B1.cell 1
                      have g2 : W1.cell? ⟨R, 2, none⟩ = some (.int .i64 0) := B1.cell 2
                      have f0 : W1.frozen? ⟨R, 0, none⟩ = false := B1.frozen 0
                      have f1 : W1.frozen? ⟨R, 1, none⟩ = false := B1.frozen 1
                      have f2 : W1.frozen? ⟨R, 2, none⟩ = false := B1.frozen 2
                      go_wp2_with (first | (go_at_call 71; refine (rpart_any _ _).mono ?_; rintro e w' ⟨rfl, rfl⟩) | (go_at_call 48; refine (rletter_any _ _).mono ?_; rintro e w' ⟨rfl, rfl⟩) | (go_at_call 50; refine (rdigit_any _ _).mono ?_; rintro e w' ⟨rfl, rfl⟩) | (go_at_call 72; refine (ramount_any _ _ hsz).mono ?_; rintro e w' ⟨rfl, rfl⟩))
                      exact ret_tok hE.out hL.out rfl rfl (r55 B1 rfl) (k55 K1 hR)
                    · have q2 : ((s[m].toNat : Int) == 39) = false := by rw [beq_eq_false_iff_ne]; omega
                      have hL := Lib.hid (show lexW s k = (1, s.extract k m) by unfold lexW wordTo; rw [dif_pos hlt, if_pos hl, hT.out, if_neg (by rw [hkw]; simp), if_neg h16, if_neg (by rw [hkw]; simp), dif_pos hm, if_neg h39])
                      have HK := Lib.hid hkw
                      clear hkw
                      go_wp2_with (first | (go_at_call 71; refine (rpart_any _ _).mono ?_; rintro e w' ⟨rfl, rfl⟩) | (go_at_call 48; refine (rletter_any _ _).mono ?_; rintro e w' ⟨rfl, rfl⟩) | (go_at_call 50; refine (rdigit_any _ _).mono ?_; rintro e w' ⟨rfl, rfl⟩) | (go_at_call 72; refine (ramount_any _ _ hsz).mono ?_; rintro e w' ⟨rfl, rfl⟩))
                      refine (rkw_t HK.out _).mono ?_
                      rintro e w' ⟨rfl, rfl⟩
                      have B1 : Blk (KwW W) R 55 z55 := B0.kept (KwW.kept W) (fun h => h)
                      have K1 := K0.trans (KwW.kept W)
                      clear HK
                      generalize KwW W = W1 at *
                      have g0 : W1.cell? ⟨R, 0, none⟩ = some (.int .i64 0) := B1.cell 0
                      have g1 : W1.cell? ⟨R, 1, none⟩ = some (.string ⟨#[]⟩) := B1.cell 1
                      have g2 : W1.cell? ⟨R, 2, none⟩ = some (.int .i64 0) := B1.cell 2
                      have f0 : W1.frozen? ⟨R, 0, none⟩ = false := B1.frozen 0
                      have f1 : W1.frozen? ⟨R, 1, none⟩ = false := B1.frozen 1
                      have f2 : W1.frozen? ⟨R, 2, none⟩ = false := B1.frozen 2
                      go_wp2_with (first | (go_at_call 71; refine (rpart_any _ _).mono ?_; rintro e w' ⟨rfl, rfl⟩) | (go_at_call 48; refine (rletter_any _ _).mono ?_; rintro e w' ⟨rfl, rfl⟩) | (go_at_call 50; refine (rdigit_any _ _).mono ?_; rintro e w' ⟨rfl, rfl⟩) | (go_at_call 72; refine (ramount_any _ _ hsz).mono ?_; rintro e w' ⟨rfl, rfl⟩))
                      exact ret_tok hE.out hL.out rfl rfl (r55 B1 rfl) (k55 K1 hR)
              case false =>
                cases hd : digitB s[k].toNat
                case true =>
                  by_cases ha : amt (s.extract k m) < 0
                  · have hL := Lib.hid (show lexW s k = (5, s.extract k m) by unfold lexW; rw [dif_pos hlt, if_neg (by rw [hl]; simp), if_pos hd, hT.out, if_pos ha])
                    have q1 : decide (amt (s.extract k m) < 0) = true := by simp; omega
                    go_wp2_with (first | (go_at_call 71; refine (rpart_any _ _).mono ?_; rintro e w' ⟨rfl, rfl⟩) | (go_at_call 48; refine (rletter_any _ _).mono ?_; rintro e w' ⟨rfl, rfl⟩) | (go_at_call 50; refine (rdigit_any _ _).mono ?_; rintro e w' ⟨rfl, rfl⟩) | (go_at_call 72; refine (ramount_any _ _ hsz).mono ?_; rintro e w' ⟨rfl, rfl⟩))
                    exact ret_tok hE.out hL.out rfl rfl (r55 B0 rfl) (k55 K0 hR)
                  · have hL := Lib.hid (show lexW s k = (3, s.extract k m) by unfold lexW; rw [dif_pos hlt, if_neg (by rw [hl]; simp), if_pos hd, hT.out, if_neg ha])
                    have q1 : decide (amt (s.extract k m) < 0) = false := by simp; omega
                    go_wp2_with (first | (go_at_call 71; refine (rpart_any _ _).mono ?_; rintro e w' ⟨rfl, rfl⟩) | (go_at_call 48; refine (rletter_any _ _).mono ?_; rintro e w' ⟨rfl, rfl⟩) | (go_at_call 50; refine (rdigit_any _ _).mono ?_; rintro e w' ⟨rfl, rfl⟩) | (go_at_call 72; refine (ramount_any _ _ hsz).mono ?_; rintro e w' ⟨rfl, rfl⟩))
                    exact ret_tok hE.out hL.out rfl rfl (r55 B0 rfl) (k55 K0 hR)
                case false =>
                  have HSg := Lib.hid (rsign_any s k W hlt hs)
                  cases hsg : sgnF (s.data.toList.drop k) with
                  | none =>
                    have hL := Lib.hid (show lexW s k = (5, ⟨#[]⟩) by unfold lexW; rw [dif_pos hlt, if_neg (by rw [hl]; simp), if_neg (by rw [hd]; simp), hsg])
                    rw [hsg] at HSg
                    clear hsg
                    go_wp2_with (first | (go_at_call 71; refine (rpart_any _ _).mono ?_; rintro e w' ⟨rfl, rfl⟩) | (go_at_call 48; refine (rletter_any _ _).mono ?_; rintro e w' ⟨rfl, rfl⟩) | (go_at_call 50; refine (rdigit_any _ _).mono ?_; rintro e w' ⟨rfl, rfl⟩) | (go_at_call 72; refine (ramount_any _ _ hsz).mono ?_; rintro e w' ⟨rfl, rfl⟩))
                    refine HSg.out.mono ?_
                    rintro e W1 ⟨rfl, kS⟩
                    have B1 : Blk W1 R 55 z55 := B0.kept kS (fun h => h)
                    have K1 := K0.trans kS
                    have g0 : W1.cell? ⟨R, 0, none⟩ = some (.int .i64 0) := B1.cell 0
                    have g1 : W1.cell? ⟨R, 1, none⟩ = some (.string ⟨#[]⟩) := B1.cell 1
                    have g2 : W1.cell? ⟨R, 2, none⟩ = some (.int .i64 0) := B1.cell 2
                    have f0 : W1.frozen? ⟨R, 0, none⟩ = false := B1.frozen 0
                    have f1 : W1.frozen? ⟨R, 1, none⟩ = false := B1.frozen 1
                    have f2 : W1.frozen? ⟨R, 2, none⟩ = false := B1.frozen 2
                    go_wp2_with (first | (go_at_call 71; refine (rpart_any _ _).mono ?_; rintro e w' ⟨rfl, rfl⟩) | (go_at_call 48; refine (rletter_any _ _).mono ?_; rintro e w' ⟨rfl, rfl⟩) | (go_at_call 50; refine (rdigit_any _ _).mono ?_; rintro e w' ⟨rfl, rfl⟩) | (go_at_call 72; refine (ramount_any _ _ hsz).mono ?_; rintro e w' ⟨rfl, rfl⟩))
                    exact ret_tok hE.out hL.out rfl rfl (r55 B1 rfl) (k55 K1 hR)
                  | some x =>
                    have hL := Lib.hid (show lexW s k = (4, x) by unfold lexW; rw [dif_pos hlt, if_neg (by rw [hl]; simp), if_neg (by rw [hd]; simp), hsg])
                    have hxe : (x.toList == []) = false := sgn_ne hsg
                    rw [hsg] at HSg
                    clear hsg
                    go_wp2_with (first | (go_at_call 71; refine (rpart_any _ _).mono ?_; rintro e w' ⟨rfl, rfl⟩) | (go_at_call 48; refine (rletter_any _ _).mono ?_; rintro e w' ⟨rfl, rfl⟩) | (go_at_call 50; refine (rdigit_any _ _).mono ?_; rintro e w' ⟨rfl, rfl⟩) | (go_at_call 72; refine (ramount_any _ _ hsz).mono ?_; rintro e w' ⟨rfl, rfl⟩))
                    refine HSg.out.mono ?_
                    rintro e W1 ⟨rfl, kS⟩
                    have B1 : Blk W1 R 55 z55 := B0.kept kS (fun h => h)
                    have K1 := K0.trans kS
                    have g0 : W1.cell? ⟨R, 0, none⟩ = some (.int .i64 0) := B1.cell 0
                    have g1 : W1.cell? ⟨R, 1, none⟩ = some (.string ⟨#[]⟩) := B1.cell 1
                    have g2 : W1.cell? ⟨R, 2, none⟩ = some (.int .i64 0) := B1.cell 2
                    have f0 : W1.frozen? ⟨R, 0, none⟩ = false := B1.frozen 0
                    have f1 : W1.frozen? ⟨R, 1, none⟩ = false := B1.frozen 1
                    have f2 : W1.frozen? ⟨R, 2, none⟩ = false := B1.frozen 2
                    go_wp2_with (first | (go_at_call 71; refine (rpart_any _ _).mono ?_; rintro e w' ⟨rfl, rfl⟩) | (go_at_call 48; refine (rletter_any _ _).mono ?_; rintro e w' ⟨rfl, rfl⟩) | (go_at_call 50; refine (rdigit_any _ _).mono ?_; rintro e w' ⟨rfl, rfl⟩) | (go_at_call 72; refine (ramount_any _ _ hsz).mono ?_; rintro e w' ⟨rfl, rfl⟩))
                    exact ret_tok hE.out hL.out rfl rfl (r55 B1 rfl) (k55 K1 hR)
            · cases hl : letterB s[k].toNat
              case true =>
                cases hkw : keywordB (s.extract k m)
                case true =>
                  have hL := Lib.hid (show lexW s k = (2, s.extract k m) by unfold lexW; rw [dif_pos hlt, if_pos hl, hT.out, if_pos hkw])
                  have HK := Lib.hid hkw
                  clear hkw
                  go_wp2_with (first | (go_at_call 71; refine (rpart_any _ _).mono ?_; rintro e w' ⟨rfl, rfl⟩) | (go_at_call 48; refine (rletter_any _ _).mono ?_; rintro e w' ⟨rfl, rfl⟩) | (go_at_call 50; refine (rdigit_any _ _).mono ?_; rintro e w' ⟨rfl, rfl⟩) | (go_at_call 72; refine (ramount_any _ _ hsz).mono ?_; rintro e w' ⟨rfl, rfl⟩))
                  refine (rkw_t HK.out _).mono ?_
                  rintro e w' ⟨rfl, rfl⟩
                  have B1 : Blk (KwW W) R 55 z55 := B0.kept (KwW.kept W) (fun h => h)
                  have K1 := K0.trans (KwW.kept W)
                  clear HK
                  generalize KwW W = W1 at *
                  have g0 : W1.cell? ⟨R, 0, none⟩ = some (.int .i64 0) := B1.cell 0
                  have g1 : W1.cell? ⟨R, 1, none⟩ = some (.string ⟨#[]⟩) := B1.cell 1
                  have g2 : W1.cell? ⟨R, 2, none⟩ = some (.int .i64 0) := B1.cell 2
                  have f0 : W1.frozen? ⟨R, 0, none⟩ = false := B1.frozen 0
                  have f1 : W1.frozen? ⟨R, 1, none⟩ = false := B1.frozen 1
                  have f2 : W1.frozen? ⟨R, 2, none⟩ = false := B1.frozen 2
                  go_wp2_with (first | (go_at_call 71; refine (rpart_any _ _).mono ?_; rintro e w' ⟨rfl, rfl⟩) | (go_at_call 48; refine (rletter_any _ _).mono ?_; rintro e w' ⟨rfl, rfl⟩) | (go_at_call 50; refine (rdigit_any _ _).mono ?_; rintro e w' ⟨rfl, rfl⟩) | (go_at_call 72; refine (ramount_any _ _ hsz).mono ?_; rintro e w' ⟨rfl, rfl⟩))
                  exact ret_tok hE.out hL.out rfl rfl (r55 B1 rfl) (k55 K1 hR)
                case false =>
                  by_cases h16 : 16 < m - k
                  · have hL := Lib.hid (show lexW s k = (5, s.extract k m) by unfold lexW; rw [dif_pos hlt, if_pos hl, hT.out, if_neg (by rw [hkw]; simp), if_pos h16])
                    have HK := Lib.hid hkw
                    have q1 : decide (16 < ((m - k : Nat) : Int)) = true := by simp; omega
                    clear hkw
                    go_wp2_with (first | (go_at_call 71; refine (rpart_any _ _).mono ?_; rintro e w' ⟨rfl, rfl⟩) | (go_at_call 48; refine (rletter_any _ _).mono ?_; rintro e w' ⟨rfl, rfl⟩) | (go_at_call 50; refine (rdigit_any _ _).mono ?_; rintro e w' ⟨rfl, rfl⟩) | (go_at_call 72; refine (ramount_any _ _ hsz).mono ?_; rintro e w' ⟨rfl, rfl⟩))
                    refine (rkw_t HK.out _).mono ?_
                    rintro e w' ⟨rfl, rfl⟩
                    have B1 : Blk (KwW W) R 55 z55 := B0.kept (KwW.kept W) (fun h => h)
                    have K1 := K0.trans (KwW.kept W)
                    clear HK
                    generalize KwW W = W1 at *
                    have g0 : W1.cell? ⟨R, 0, none⟩ = some (.int .i64 0) := B1.cell 0
                    have g1 : W1.cell? ⟨R, 1, none⟩ = some (.string ⟨#[]⟩) := B1.cell 1
                    have g2 : W1.cell? ⟨R, 2, none⟩ = some (.int .i64 0) := B1.cell 2
                    have f0 : W1.frozen? ⟨R, 0, none⟩ = false := B1.frozen 0
                    have f1 : W1.frozen? ⟨R, 1, none⟩ = false := B1.frozen 1
                    have f2 : W1.frozen? ⟨R, 2, none⟩ = false := B1.frozen 2
                    go_wp2_with (first | (go_at_call 71; refine (rpart_any _ _).mono ?_; rintro e w' ⟨rfl, rfl⟩) | (go_at_call 48; refine (rletter_any _ _).mono ?_; rintro e w' ⟨rfl, rfl⟩) | (go_at_call 50; refine (rdigit_any _ _).mono ?_; rintro e w' ⟨rfl, rfl⟩) | (go_at_call 72; refine (ramount_any _ _ hsz).mono ?_; rintro e w' ⟨rfl, rfl⟩))
                    exact ret_tok hE.out hL.out rfl rfl (r55 B1 rfl) (k55 K1 hR)
                  · have q1 : decide (16 < ((m - k : Nat) : Int)) = false := by simp; omega
                    have hL := Lib.hid (show lexW s k = (1, s.extract k m) by unfold lexW wordTo; rw [dif_pos hlt, if_pos hl, hT.out, if_neg (by rw [hkw]; simp), if_neg h16, if_neg (by rw [hkw]; simp), dif_neg hm])
                    have HK := Lib.hid hkw
                    clear hkw
                    go_wp2_with (first | (go_at_call 71; refine (rpart_any _ _).mono ?_; rintro e w' ⟨rfl, rfl⟩) | (go_at_call 48; refine (rletter_any _ _).mono ?_; rintro e w' ⟨rfl, rfl⟩) | (go_at_call 50; refine (rdigit_any _ _).mono ?_; rintro e w' ⟨rfl, rfl⟩) | (go_at_call 72; refine (ramount_any _ _ hsz).mono ?_; rintro e w' ⟨rfl, rfl⟩))
                    refine (rkw_t HK.out _).mono ?_
                    rintro e w' ⟨rfl, rfl⟩
                    have B1 : Blk (KwW W) R 55 z55 := B0.kept (KwW.kept W) (fun h => h)
                    have K1 := K0.trans (KwW.kept W)
                    clear HK
                    generalize KwW W = W1 at *
                    have g0 : W1.cell? ⟨R, 0, none⟩ = some (.int .i64 0) := B1.cell 0
                    have g1 : W1.cell? ⟨R, 1, none⟩ = some (.string ⟨#[]⟩) := B1.cell 1
                    have g2 : W1.cell? ⟨R, 2, none⟩ = some (.int .i64 0) := B1.cell 2
                    have f0 : W1.frozen? ⟨R, 0, none⟩ = false := B1.frozen 0
                    have f1 : W1.frozen? ⟨R, 1, none⟩ = false := B1.frozen 1
                    have f2 : W1.frozen? ⟨R, 2, none⟩ = false := B1.frozen 2
                    go_wp2_with (first | (go_at_call 71; refine (rpart_any _ _).mono ?_; rintro e w' ⟨rfl, rfl⟩) | (go_at_call 48; refine (rletter_any _ _).mono ?_; rintro e w' ⟨rfl, rfl⟩) | (go_at_call 50; refine (rdigit_any _ _).mono ?_; rintro e w' ⟨rfl, rfl⟩) | (go_at_call 72; refine (ramount_any _ _ hsz).mono ?_; rintro e w' ⟨rfl, rfl⟩))
                    exact ret_tok hE.out hL.out rfl rfl (r55 B1 rfl) (k55 K1 hR)
              case false =>
                cases hd : digitB s[k].toNat
                case true =>
                  by_cases ha : amt (s.extract k m) < 0
                  · have hL := Lib.hid (show lexW s k = (5, s.extract k m) by unfold lexW; rw [dif_pos hlt, if_neg (by rw [hl]; simp), if_pos hd, hT.out, if_pos ha])
                    have q1 : decide (amt (s.extract k m) < 0) = true := by simp; omega
                    go_wp2_with (first | (go_at_call 71; refine (rpart_any _ _).mono ?_; rintro e w' ⟨rfl, rfl⟩) | (go_at_call 48; refine (rletter_any _ _).mono ?_; rintro e w' ⟨rfl, rfl⟩) | (go_at_call 50; refine (rdigit_any _ _).mono ?_; rintro e w' ⟨rfl, rfl⟩) | (go_at_call 72; refine (ramount_any _ _ hsz).mono ?_; rintro e w' ⟨rfl, rfl⟩))
                    exact ret_tok hE.out hL.out rfl rfl (r55 B0 rfl) (k55 K0 hR)
                  · have hL := Lib.hid (show lexW s k = (3, s.extract k m) by unfold lexW; rw [dif_pos hlt, if_neg (by rw [hl]; simp), if_pos hd, hT.out, if_neg ha])
                    have q1 : decide (amt (s.extract k m) < 0) = false := by simp; omega
                    go_wp2_with (first | (go_at_call 71; refine (rpart_any _ _).mono ?_; rintro e w' ⟨rfl, rfl⟩) | (go_at_call 48; refine (rletter_any _ _).mono ?_; rintro e w' ⟨rfl, rfl⟩) | (go_at_call 50; refine (rdigit_any _ _).mono ?_; rintro e w' ⟨rfl, rfl⟩) | (go_at_call 72; refine (ramount_any _ _ hsz).mono ?_; rintro e w' ⟨rfl, rfl⟩))
                    exact ret_tok hE.out hL.out rfl rfl (r55 B0 rfl) (k55 K0 hR)
                case false =>
                  have HSg := Lib.hid (rsign_any s k W hlt hs)
                  cases hsg : sgnF (s.data.toList.drop k) with
                  | none =>
                    have hL := Lib.hid (show lexW s k = (5, ⟨#[]⟩) by unfold lexW; rw [dif_pos hlt, if_neg (by rw [hl]; simp), if_neg (by rw [hd]; simp), hsg])
                    rw [hsg] at HSg
                    clear hsg
                    go_wp2_with (first | (go_at_call 71; refine (rpart_any _ _).mono ?_; rintro e w' ⟨rfl, rfl⟩) | (go_at_call 48; refine (rletter_any _ _).mono ?_; rintro e w' ⟨rfl, rfl⟩) | (go_at_call 50; refine (rdigit_any _ _).mono ?_; rintro e w' ⟨rfl, rfl⟩) | (go_at_call 72; refine (ramount_any _ _ hsz).mono ?_; rintro e w' ⟨rfl, rfl⟩))
                    refine HSg.out.mono ?_
                    rintro e W1 ⟨rfl, kS⟩
                    have B1 : Blk W1 R 55 z55 := B0.kept kS (fun h => h)
                    have K1 := K0.trans kS
                    have g0 : W1.cell? ⟨R, 0, none⟩ = some (.int .i64 0) := B1.cell 0
                    have g1 : W1.cell? ⟨R, 1, none⟩ = some (.string ⟨#[]⟩) := B1.cell 1
                    have g2 : W1.cell? ⟨R, 2, none⟩ = some (.int .i64 0) := B1.cell 2
                    have f0 : W1.frozen? ⟨R, 0, none⟩ = false := B1.frozen 0
                    have f1 : W1.frozen? ⟨R, 1, none⟩ = false := B1.frozen 1
                    have f2 : W1.frozen? ⟨R, 2, none⟩ = false := B1.frozen 2
                    go_wp2_with (first | (go_at_call 71; refine (rpart_any _ _).mono ?_; rintro e w' ⟨rfl, rfl⟩) | (go_at_call 48; refine (rletter_any _ _).mono ?_; rintro e w' ⟨rfl, rfl⟩) | (go_at_call 50; refine (rdigit_any _ _).mono ?_; rintro e w' ⟨rfl, rfl⟩) | (go_at_call 72; refine (ramount_any _ _ hsz).mono ?_; rintro e w' ⟨rfl, rfl⟩))
                    exact ret_tok hE.out hL.out rfl rfl (r55 B1 rfl) (k55 K1 hR)
                  | some x =>
                    have hL := Lib.hid (show lexW s k = (4, x) by unfold lexW; rw [dif_pos hlt, if_neg (by rw [hl]; simp), if_neg (by rw [hd]; simp), hsg])
                    have hxe : (x.toList == []) = false := sgn_ne hsg
                    rw [hsg] at HSg
                    clear hsg
                    go_wp2_with (first | (go_at_call 71; refine (rpart_any _ _).mono ?_; rintro e w' ⟨rfl, rfl⟩) | (go_at_call 48; refine (rletter_any _ _).mono ?_; rintro e w' ⟨rfl, rfl⟩) | (go_at_call 50; refine (rdigit_any _ _).mono ?_; rintro e w' ⟨rfl, rfl⟩) | (go_at_call 72; refine (ramount_any _ _ hsz).mono ?_; rintro e w' ⟨rfl, rfl⟩))
                    refine HSg.out.mono ?_
                    rintro e W1 ⟨rfl, kS⟩
                    have B1 : Blk W1 R 55 z55 := B0.kept kS (fun h => h)
                    have K1 := K0.trans kS
                    have g0 : W1.cell? ⟨R, 0, none⟩ = some (.int .i64 0) := B1.cell 0
                    have g1 : W1.cell? ⟨R, 1, none⟩ = some (.string ⟨#[]⟩) := B1.cell 1
                    have g2 : W1.cell? ⟨R, 2, none⟩ = some (.int .i64 0) := B1.cell 2
                    have f0 : W1.frozen? ⟨R, 0, none⟩ = false := B1.frozen 0
                    have f1 : W1.frozen? ⟨R, 1, none⟩ = false := B1.frozen 1
                    have f2 : W1.frozen? ⟨R, 2, none⟩ = false := B1.frozen 2
                    go_wp2_with (first | (go_at_call 71; refine (rpart_any _ _).mono ?_; rintro e w' ⟨rfl, rfl⟩) | (go_at_call 48; refine (rletter_any _ _).mono ?_; rintro e w' ⟨rfl, rfl⟩) | (go_at_call 50; refine (rdigit_any _ _).mono ?_; rintro e w' ⟨rfl, rfl⟩) | (go_at_call 72; refine (ramount_any _ _ hsz).mono ?_; rintro e w' ⟨rfl, rfl⟩))
                    exact ret_tok hE.out hL.out rfl rfl (r55 B1 rfl) (k55 K1 hR)
      all_goals
        have hK' : Hid (skip s (k + 1) = skip s i) := Lib.hid (by rw [← hK.out]; exact (scan_yes _ s k hlt (by unfold blankB; rw [a1, a2, a3]; rfl)).symm)
        go_wp2_with fail
        go_round
        case rel => exact ⟨k + 1, by omega, by go_num, hK'⟩
        case measure => simp [intOf]; omega
    · obtain rfl : k = s.size := by omega
      have hE := Lib.hid (show skip s i = s.size by rw [← hK.out]; exact scan_end _ s _ (Nat.le_refl _))
      have hL := Lib.hid (show lexW s s.size = (0, ⟨#[]⟩) by unfold lexW; rw [dif_neg (by omega)])
      go_wp2_with fail
      exact ret_tok hE.out hL.out rfl rfl (r55 B0 rfl) (k55 K0 hR)
end Go.Proofs.YtckjlliobebodaaGreatDoor
/- The document's tokens against the program's: plain facts. -/
set_option linter.unusedVariables false
set_option linter.unusedSimpArgs false
namespace Go.Proofs.YtckjlliobebodaaGreatDoor
open Go.RowKit
/-- A name with a prime. -/
def primB (x : ByteArray) : Bool := if h : 1 < x.size then ((x[x.size - 1].toNat : Int) == 39) && identB (x.extract 0 (x.size - 1)) else false
def openers : List ByteArray := [⟨#[40]⟩, ⟨#[91]⟩, ⟨#[123]⟩]
def closers : List ByteArray := [⟨#[41]⟩, ⟨#[93]⟩, ⟨#[125]⟩]
theorem kw_len {x : ByteArray} (h : keywordB x = true) : x.size ≤ 6 := by
  unfold keywordB at h
  have hm : x.toList ∈ kws := by simpa using h
  have key : ∀ l ∈ kws, l.length ≤ 6 := by decide
  have := key _ hm
  rw [Go.ByteArray.toList_eq] at this
  simpa using this
theorem kw_word {x : ByteArray} (h : keywordB x = true) : allW x.data.toList = true := by
  unfold keywordB at h
  have hm : x.toList ∈ kws := by simpa using h
  have key : ∀ l ∈ kws, allW l = true := by decide
  have := key _ hm
  rw [Go.ByteArray.toList_eq] at this
  exact this
theorem allW_at {x : ByteArray} (h : allW x.data.toList = true) (i : Nat) (hi : i < x.size) : inWordB x[i].toNat = true := by
  cases hc : inWordB x[i].toNat
  · rw [allW_false x i hi hc] at h; cases h
  · rfl
theorem allW_of {x : ByteArray} (h : ∀ i (hi : i < x.size), inWordB x[i].toNat = true) : allW x.data.toList = true := by
  unfold allW
  rw [List.all_eq_true]
  intro c hc
  obtain ⟨i, hi, rfl⟩ := List.getElem_of_mem hc
  exact h i (by simpa using hi)
theorem ext_get (s : ByteArray) (a c i : Nat) (h : i < (s.extract a c).size) (h' : a + i < s.size) : (s.extract a c)[i] = s[a + i] := by
  exact ByteArray.getElem_extract ..
theorem inB_iff {x : ByteArray} {l : List ByteArray} : inB x l = true ↔ x ∈ l := by
  unfold inB
  rw [List.any_eq_true]
  constructor
  · rintro ⟨y, hy, e⟩; rw [← toList_inj (eq_of_beq e)]; exact hy
  · intro h; exact ⟨x, h, by simp⟩
/-- No bracket. -/
def noBr (x : ByteArray) : Prop := inB x openers = false ∧ inB x closers = false
theorem br_head {x : ByteArray} (h : inB x openers = true ∨ inB x closers = true) : ∃ h : 0 < x.size, inWordB x[0].toNat = false := by
  have key : ∀ y ∈ openers ++ closers, ∃ h : 0 < y.size, inWordB y[0].toNat = false := by decide
  refine key x (List.mem_append.2 ?_)
  rcases h with h | h
  · exact Or.inl (inB_iff.1 h)
  · exact Or.inr (inB_iff.1 h)
theorem noBr_word {x : ByteArray} (h : ∀ h0 : 0 < x.size, inWordB x[0].toNat = true) : noBr x := by
  constructor
  · cases e : inB x openers
    · rfl
    · obtain ⟨h0, hc⟩ := br_head (Or.inl e); rw [h h0] at hc; cases hc
  · cases e : inB x closers
    · rfl
    · obtain ⟨h0, hc⟩ := br_head (Or.inr e); rw [h h0] at hc; cases hc
/-- What the program's token at a byte is in the document. -/
inductive TokR (s : ByteArray) (fr : Nat) : Int → ByteArray → Int → Prop
  | fin (h : lexW s fr = (0, ⟨#[]⟩)) (hf : fr = s.size) : TokR s fr 0 ⟨#[]⟩ 0
  | word (x : ByteArray) (h : lexW s fr = (2, x)) (hk : keywordB x = true) (hn : noBr x) : TokR s fr 1 x 0
  | name (x : ByteArray) (h : lexW s fr = (1, x)) (hk : keywordB x = false) (hp : primB x = !identB x) (hn : noBr x) : TokR s fr 1 x 0
  | num (x : ByteArray) (n : Int) (h : lexW s fr = (3, x)) (ha : amt x = n) (hn : noBr x) : TokR s fr 2 ⟨#[]⟩ n
  | sgn (x : ByteArray) (h : lexW s fr = (4, x)) (hx : x ∈ signs) : TokR s fr 3 x 0
theorem ext_all {s : ByteArray} {fr : Nat} (h : fr ≤ s.size) : allW (s.extract fr (wend s fr)).data.toList = true := by
  refine allW_of fun i hi => ?_
  have hw := scan_spec inWordB s fr h
  have hsz : (s.extract fr (wend s fr)).size = wend s fr - fr := by rw [ByteArray.size_extract]; have : wend s fr ≤ s.size := hw.2.1; omega
  have h2 : fr + i < wend s fr := by omega
  have h1 : fr + i < s.size := by have : wend s fr ≤ s.size := hw.2.1; omega
  rw [ext_get s _ _ i hi h1]
  exact hw.2.2.2 _ (by omega) h2 h1
theorem sgn_fits {s x : ByteArray} {fr : Nat} (h : fr ≤ s.size) (hx : Lib.hasPrefix (s.data.toList.drop fr) x.data.toList = true) : s.extract fr (fr + x.size) = x ∧ fr + x.size ≤ s.size := by
  refine ⟨?_, pre_len s x fr h hx⟩
  rw [pre_at, Bool.and_eq_true] at hx
  exact toList_inj (eq_of_beq hx.2)
theorem lex_tok {s : ByteArray} {fr : Nat} (h : fr ≤ s.size) : match tokAt s fr with
    | none => (lexW s fr).1 = 5 ∧ fr + (lexW s fr).2.size ≤ s.size
    | some t => t.1 = fr + (lexW s fr).2.size ∧ t.1 ≤ s.size ∧ TokR s fr t.2.1 t.2.2.1 t.2.2.2 := by
  have hw := scan_spec inWordB s fr h
  have hw1 : fr ≤ wend s fr := hw.1
  have hw2 : wend s fr ≤ s.size := hw.2.1
  have hsz : (s.extract fr (wend s fr)).size = wend s fr - fr := by rw [ByteArray.size_extract]; omega
  by_cases hlt : fr < s.size
  · cases hl : letterB s[fr].toNat
    · cases hd : digitB s[fr].toNat
      · -- a sign
        have e1 : tokAt s fr = if sIdx (s.data.toList.drop fr) signs < 0 then none else some (fr + (signs.getD (sIdx (s.data.toList.drop fr) signs).toNat ⟨#[]⟩).size, 3, s.extract fr (fr + (signs.getD (sIdx (s.data.toList.drop fr) signs).toNat ⟨#[]⟩).size), 0) := by
          unfold tokAt; rw [dif_pos hlt, if_neg (by rw [hl]; simp), if_neg (by rw [hd]; simp)]
        have e2 : lexW s fr = match sgnF (s.data.toList.drop fr) with | some x => (4, x) | none => (5, ⟨#[]⟩) := by
          unfold lexW; rw [dif_pos hlt, if_neg (by rw [hl]; simp), if_neg (by rw [hd]; simp)]
          all_goals rfl
        rw [e1]
        rcases sIdx_find (s.data.toList.drop fr) signs with ⟨h1, h2⟩ | ⟨h1, h2⟩
        · rw [if_pos h1]
          rw [sgn_signs, h2] at e2
          have e3 : lexW s fr = (5, ⟨#[]⟩) := e2
          rw [e3]
          exact ⟨rfl, h⟩
        · rw [if_neg h1]
          rw [sgn_signs, h2] at e2
          generalize signs.getD (sIdx (s.data.toList.drop fr) signs).toNat ⟨#[]⟩ = x at *
          have hp := List.find?_some h2
          have hm := List.mem_of_find?_eq_some h2
          obtain ⟨hx, hle⟩ := sgn_fits h hp
          have e3 : lexW s fr = (4, x) := e2
          rw [e3]
          refine ⟨rfl, hle, ?_⟩
          show TokR s fr 3 (s.extract fr (fr + x.size)) 0
          rw [hx]
          exact .sgn x e3 hm
      · -- a number
        have e1 : tokAt s fr = (numTok (s.extract fr (wend s fr))).map fun v => (wend s fr, 2, ⟨#[]⟩, v) := by
          unfold tokAt; rw [dif_pos hlt, if_neg (by rw [hl]; simp), if_pos hd]
        have e2 : lexW s fr = (if amt (s.extract fr (wend s fr)) < 0 then 5 else 3, s.extract fr (wend s fr)) := by
          unfold lexW; rw [dif_pos hlt, if_neg (by rw [hl]; simp), if_pos hd]
        have hg := word_grow s fr hlt (by unfold inWordB; rw [hd]; simp)
        have h0 : 0 < (s.extract fr (wend s fr)).size := by omega
        have hd0 : digitB (s.extract fr (wend s fr))[0].toNat = true := by rw [ext_get s _ _ 0 h0 (by omega)]; exact hd
        rw [num_amt h0 hd0] at e1
        by_cases ha : amt (s.extract fr (wend s fr)) < 0
        · rw [if_pos ha] at e1 e2
          rw [e1, e2]
          exact ⟨rfl, by show fr + (s.extract fr (wend s fr)).size ≤ s.size; omega⟩
        · rw [if_neg ha] at e1 e2
          rw [e1]
          refine ⟨?_, hw2, ?_⟩
          · rw [e2]; show wend s fr = fr + (s.extract fr (wend s fr)).size; omega
          · exact .num _ _ e2 rfl (noBr_word fun h0 => allW_at (ext_all h) 0 h0)
    · -- a word
      have hg := word_grow s fr hlt (by unfold inWordB; rw [hl]; rfl)
      have h0 : 0 < (s.extract fr (wend s fr)).size := by omega
      have hx0 : (s.extract fr (wend s fr))[0] = s[fr] := ext_get s _ _ 0 h0 (by omega)
      cases hk : keywordB (s.extract fr (wend s fr))
      · by_cases h16 : 16 < wend s fr - fr
        · have e1 : tokAt s fr = none := by unfold tokAt; rw [dif_pos hlt, if_pos hl, if_pos h16]
          have e2 : lexW s fr = (5, s.extract fr (wend s fr)) := by unfold lexW; rw [dif_pos hlt, if_pos hl, if_neg (by rw [hk]; simp), if_pos h16]
          rw [e1, e2]
          exact ⟨rfl, by show fr + (s.extract fr (wend s fr)).size ≤ s.size; omega⟩
        · have e1 : tokAt s fr = some (wordTo s fr, 1, s.extract fr (wordTo s fr), 0) := by unfold tokAt; rw [dif_pos hlt, if_pos hl, if_neg h16]
          have e2 : lexW s fr = (1, s.extract fr (wordTo s fr)) := by unfold lexW; rw [dif_pos hlt, if_pos hl, if_neg (by rw [hk]; simp), if_neg h16]
          have hwt := wordTo_le s fr h
          have hwg := wordTo_ge s fr
          have hid : identB (s.extract fr (wend s fr)) = true := by
            unfold identB
            rw [decide_eq_true h0, decide_eq_true (by omega), head_of _ h0, hx0, hl, hk, ext_all h]; rfl
          rw [e1]
          refine ⟨?_, hwt, ?_⟩
          · rw [e2]; show wordTo s fr = fr + (s.extract fr (wordTo s fr)).size; rw [ByteArray.size_extract]; omega
          · have hcase : wordTo s fr = wend s fr ∨ (wordTo s fr = wend s fr + 1 ∧ ∃ hm : wend s fr < s.size, s[wend s fr].toNat = 39) := by
              unfold wordTo
              rw [if_neg (by rw [hk]; simp)]
              split
              · rename_i hm
                split
                · rename_i h39; exact Or.inr ⟨rfl, hm, h39⟩
                · exact Or.inl rfl
              · exact Or.inl rfl
            rcases hcase with hc | ⟨hc, hm, h39⟩
            · rw [hc] at e2 ⊢
              refine .name _ e2 hk ?_ (noBr_word fun h0 => allW_at (ext_all h) 0 h0)
              rw [hid]
              unfold primB
              split
              · rename_i h1
                have hin := allW_at (ext_all (s := s) (fr := fr) h) ((s.extract fr (wend s fr)).size - 1) (by omega)
                generalize (s.extract fr (wend s fr))[(s.extract fr (wend s fr)).size - 1].toNat = c at hin ⊢
                have : ((c : Int) == 39) = false := by
                  rw [beq_eq_false_iff_ne]
                  intro e
                  rw [e] at hin
                  revert hin; decide
                rw [this]; rfl
              · rfl
            · rw [hc] at e2 ⊢
              have hz1 : (s.extract fr (wend s fr + 1)).size = wend s fr + 1 - fr := by rw [ByteArray.size_extract]; omega
              have hlast : (s.extract fr (wend s fr + 1))[wend s fr - fr]'(by omega) = s[wend s fr] := by
                rw [ext_get s _ _ _ _ (by omega)]
                congr 1; omega
              have hno : allW (s.extract fr (wend s fr + 1)).data.toList = false := by
                refine allW_false _ (wend s fr - fr) (by omega) ?_
                rw [hlast, h39]; rfl
              refine .name _ e2 ?_ ?_ (noBr_word fun h0 => ?_)
              · cases hk1 : keywordB (s.extract fr (wend s fr + 1))
                · rfl
                · rw [kw_word hk1] at hno; cases hno
              · have : identB (s.extract fr (wend s fr + 1)) = false := by unfold identB; rw [hno]; simp
                rw [this]
                unfold primB
                have h1z : 1 < (s.extract fr (wend s fr + 1)).size := by rw [hz1]; omega
                rw [dif_pos h1z]
                have e3 : (s.extract fr (wend s fr + 1)).extract 0 ((s.extract fr (wend s fr + 1)).size - 1) = s.extract fr (wend s fr) := by
                  rw [ByteArray.extract_extract, hz1]
                  congr 1
                  omega
                rw [e3, hid]
                have : ∀ i (hi : i < (s.extract fr (wend s fr + 1)).size), i = wend s fr - fr → (((s.extract fr (wend s fr + 1))[i].toNat : Int) == 39) = true := by
                  intro i hi e
                  subst e
                  rw [hlast, h39]; rfl
                rw [this _ (by rw [hz1]; omega) (by rw [hz1]; omega)]; rfl
              · rw [ext_get s _ _ 0 h0 (by omega)]
                unfold inWordB
                show (letterB s[fr].toNat || _ || _) = true
                rw [hl]; rfl
      · have hk6 := kw_len hk
        have e1 : tokAt s fr = some (wend s fr, 1, s.extract fr (wend s fr), 0) := by
          unfold tokAt; rw [dif_pos hlt, if_pos hl, if_neg (by omega)]
          have : wordTo s fr = wend s fr := by unfold wordTo; rw [if_pos hk]
          rw [this]
        have e2 : lexW s fr = (2, s.extract fr (wend s fr)) := by unfold lexW; rw [dif_pos hlt, if_pos hl, if_pos hk]
        rw [e1]
        refine ⟨?_, hw2, .word _ e2 hk (noBr_word fun h0 => allW_at (ext_all h) 0 h0)⟩
        rw [e2]; show wend s fr = fr + (s.extract fr (wend s fr)).size; omega
  · have e1 : tokAt s fr = some (fr, 0, ⟨#[]⟩, 0) := by unfold tokAt; rw [dif_neg hlt]
    have e2 : lexW s fr = (0, ⟨#[]⟩) := by unfold lexW; rw [dif_neg hlt]
    rw [e1]
    exact ⟨by rw [e2]; rfl, h, .fin e2 (by omega)⟩
end Go.Proofs.YtckjlliobebodaaGreatDoor
/- The plain parser: its fuel does not matter; braces as the document reads them. -/
set_option linter.unusedVariables false
set_option linter.unusedSimpArgs false
namespace Go.Proofs.YtckjlliobebodaaGreatDoor
open Go.RowKit
theorem bP_congr {β : Type} {q : Except ER PS} {k k' : PS → Except ER β} (h : ∀ σ, q = .ok σ → k σ = k' σ) : bP q k = bP q k' := by
  cases q with
  | error r => rfl
  | ok σ => exact h σ rfl
theorem bT_congr {α β : Type} {q q' : Except ER (α × PS)} {k k' : α → PS → Except ER β} (e : q = q') (h : ∀ a σ, q = .ok (a, σ) → k a σ = k' a σ) : bT q k = bT q' k' := by
  subst e
  cases q with
  | error r => rfl
  | ok p => exact h p.1 p.2 rfl
/-- Two readers of terms agree as far as f reaches. -/
def TQ (s : ByteArray) (f : Nat) (T T' : TF) : Prop := ∀ n σ, 1 ≤ n → n ≤ 13 → 14 * mu s σ + (14 - n) < f → σ.p ≤ s.size → T n σ = T' n σ
section
variable {s : ByteArray} {T T' : TF} {f : Nat}
theorem inside_q (hI : TInv s T) (hR : TQ s f T T') (o c : ByteArray) {σ : PS} (hp : σ.p ≤ s.size) (hf : 14 * mu s σ ≤ f) : insideS T s o c σ = insideS T' s o c σ := by
  rw [inside_eq, inside_eq]
  refine bP_congr fun σ1 h1 => ?_
  have a1 := inv_open hp h1
  exact bT_congr (hR 1 σ1 (by decide) (by decide) (by omega) a1.2.1) fun t σ2 h2 => rfl
theorem bound_q (hI : TInv s T) (hR : TQ s f T T') (op : Int) {σ : PS} (hp : σ.p ≤ s.size) (hf : 14 * mu s σ ≤ f) : boundS T s op σ = boundS T' s op σ := by
  rw [bound_eq, bound_eq]
  refine bT_congr rfl fun x σ1 h1 => ?_
  have a1 := inv_name hp h1
  refine bP_congr fun σ2 h2 => ?_
  have a2 := inv_want a1.2.1 h2
  refine bT_congr (hR _ _ (by decide) (by decide) (by omega) a2.2.1) fun t σ3 h3 => ?_
  have a3 := (hI _ _ _ _ a2.2.1 h3).1
  unfold Inv at a3
  refine bP_congr fun σ4 h4 => ?_
  have a4 := inv_want a3.2.1 h4
  exact bT_congr (hR _ _ (by decide) (by decide) (by omega) a4.2.1) fun t σ5 h5 => rfl
theorem binder_q (hI : TInv s T) (hR : TQ s f T T') (op : Int) {σ : PS} (hp : σ.p ≤ s.size) (hk : σ.k ≠ 0) (hf : 14 * mu s σ ≤ f) : binderS T s op σ = binderS T' s op σ := by
  rw [binder_eq, binder_eq]
  exact bP_congr fun σ1 h1 => bound_q hI hR op (inv_adv hp hk h1).2.1 (by have := (inv_adv hp hk h1).1; omega)
theorem worded_q (hI : TInv s T) (hR : TQ s f T T') {σ : PS} (hp : σ.p ≤ s.size) (hk : σ.k ≠ 0) (hf : 14 * mu s σ ≤ f) : wordedS T s σ = wordedS T' s σ := by
  rw [worded_eq, worded_eq]
  have e1 : funK T s (functionN σ.tx) σ = funK T' s (functionN σ.tx) σ := by
    unfold funK
    refine bP_congr fun σ1 h1 => ?_
    have a1 := inv_adv hp hk h1
    exact bT_congr (inside_q hI hR _ _ a1.2.1 (by omega)) fun t σ2 h2 => rfl
  rw [e1, binder_q hI hR 8 hp hk hf, binder_q hI hR 9 hp hk hf, binder_q hI hR 56 hp hk hf]
theorem elems_q (hI : TInv s T) (hR : TQ s f T T') (g : Nat) : ∀ (l : List Tm) (σ : PS), σ.p ≤ s.size → 14 * mu s σ ≤ f → elemsS T s g l σ = elemsS T' s g l σ := by
  induction g with
  | zero => intro l σ _ _; rfl
  | succ g ih =>
    intro l σ hp hf
    cases hi : isS σ kComma
    · unfold elemsS; rw [hi]
    · rw [elems_eq _ _ _ _ _ hi, elems_eq _ _ _ _ _ hi]
      refine bP_congr fun σ1 h1 => ?_
      have a1 := inv_adv hp (isS_ne hi) h1
      refine bT_congr (hR _ _ (by decide) (by decide) (by omega) a1.2.1) fun t σ2 h2 => ?_
      have a2 := (hI _ _ _ _ a1.2.1 h2).1
      unfold Inv at a2
      exact ih _ σ2 a2.2.1 (by omega)
theorem elements_q (hI : TInv s T) (hR : TQ s f T T') (first : Tm) (bare : Bool) {σ : PS} (hp : σ.p ≤ s.size) (hf : 14 * mu s σ ≤ f) : elementsS T s first bare σ = elementsS T' s first bare σ := by
  rw [elements_eq, elements_eq]
  split
  · rename_i hc
    have hi : isS σ kBar = true := by
      cases e : isS σ kBar
      · rw [e] at hc; simp at hc
      · rfl
    refine bP_congr fun σ1 h1 => ?_
    have a1 := inv_adv hp (isS_ne hi) h1
    exact bT_congr (hR _ _ (by decide) (by decide) (by omega) a1.2.1) fun t σ2 h2 => rfl
  · unfold elemsK
    exact bT_congr (elems_q hI hR _ _ σ hp hf) fun l σ1 h1 => rfl
theorem braces_q (hI : TInv s T) (hR : TQ s f T T') {σ : PS} (hp : σ.p ≤ s.size) (hf : 14 * mu s σ ≤ f) : bracesS T s σ = bracesS T' s σ := by
  rw [braces_eq, braces_eq]
  refine bP_congr fun σ1 h1 => ?_
  have a1 := inv_open hp h1
  split
  · rfl
  · refine bT_congr (hR _ _ (by decide) (by decide) (by omega) a1.2.1) fun t σ2 h2 => ?_
    have a2 := (hI _ _ _ _ a1.2.1 h2).1
    unfold Inv at a2
    exact elements_q hI hR t _ a2.2.1 (by omega)
theorem atom_q (hI : TInv s T) (hR : TQ s f T T') {σ : PS} (hp : σ.p ≤ s.size) (hf : 14 * mu s σ ≤ f) : atomS T s σ = atomS T' s σ := by
  unfold atomS
  split
  · rfl
  · split
    · rename_i hk
      exact worded_q hI hR hp (by rw [eq_of_beq hk]; decide) hf
    · split
      · exact inside_q hI hR _ _ hp hf
      · split
        · exact braces_q hI hR hp hf
        · rfl
theorem after_q (hI : TInv s T) (hR : TQ s f T T') (g : Nat) : ∀ (t : Tm) (σ : PS), σ.p ≤ s.size → 14 * mu s σ ≤ f → afterS T s g t σ = afterS T' s g t σ := by
  induction g with
  | zero => intro l σ _ _; rfl
  | succ g ih =>
    intro t σ hp hf
    rw [after_eq, after_eq]
    split
    · refine bT_congr (inside_q hI hR _ _ hp hf) fun u σ1 h1 => ?_
      have a1 := (inv_inside hI hp h1).1
      unfold Inv1 at a1
      exact ih _ σ1 a1.2.1 (by omega)
    split
    · refine bT_congr (inside_q hI hR _ _ hp hf) fun u σ1 h1 => ?_
      have a1 := (inv_inside hI hp h1).1
      unfold Inv1 at a1
      exact ih _ σ1 a1.2.1 (by omega)
    split
    · rename_i hi
      refine bP_congr fun σ1 h1 => ?_
      have a1 := inv_adv hp (isS_ne hi) h1
      exact ih _ σ1 a1.2.1 (by omega)
    · rfl
theorem rest_q {N : Nat} (hn1 : ∀ n, n = (if lvGroup N = 2 then N else N + 1) → 1 ≤ n ∧ n ≤ 13) (hI : TInv s T) (hR : TQ s f T T') (g : Nat) : ∀ (t : Tm) (σ : PS), σ.p ≤ s.size → 14 * mu s σ ≤ f → restS T s N g t σ = restS T' s N g t σ := by
  induction g with
  | zero => intro l σ _ _; rfl
  | succ g ih =>
    intro t σ hp hf
    rw [rest_eq, rest_eq]
    split
    · rfl
    rename_i ho
    refine bP_congr fun σ1 h1 => ?_
    have a1 := inv_adv hp (opGo_ne (ne_of_beq_false (Bool.eq_false_iff.2 ho))) h1
    refine bT_congr (hR _ _ (hn1 _ rfl).1 (hn1 _ rfl).2 (by have := (hn1 _ rfl).1; omega) a1.2.1) fun u σ2 h2 => ?_
    have a2 := (hI _ _ _ _ a1.2.1 h2).1
    unfold Inv at a2
    split
    · rfl
    · exact ih _ σ2 a2.2.1 (by omega)
end
theorem term_q (s : ByteArray) (f : Nat) : TQ s f (termS f s) (termS (f + 1) s) := by
  induction f with
  | zero => intro n σ _ _ h; omega
  | succ f ih =>
    intro n σ h1 h13 hf hp
    have hI := inv_term f s
    by_cases e5 : n = 5
    · subst e5
      rw [term5_eq, term5_eq (f + 1)]
      split
      · rename_i hi
        refine bP_congr fun σ1 h1 => ?_
        have a1 := inv_adv hp (isS_ne hi) h1
        exact bT_congr (ih _ _ (by decide) (by decide) (by omega) a1.2.1) fun t σ2 h2 => rfl
      · exact ih 6 σ (by decide) (by decide) (by omega) hp
    by_cases e13 : n = 13
    · subst e13
      rw [term13_eq, term13_eq (f + 1)]
      split
      · rename_i hi
        refine bP_congr fun σ1 h1 => ?_
        have a1 := inv_adv hp (isS_ne hi) h1
        exact bT_congr (ih _ _ (by decide) (by decide) (by omega) a1.2.1) fun t σ2 h2 => rfl
      · refine bT_congr (atom_q hI ih hp (by omega)) fun t σ1 h1 => ?_
        have a1 := (inv_atom hI hp h1).1
        unfold Inv1 at a1
        exact after_q hI ih _ t σ1 a1.2.1 (by omega)
    rw [termn_eq f s n σ e5 e13, termn_eq (f + 1) s n σ e5 e13]
    refine bT_congr (ih _ _ (by omega) (by omega) (by omega) hp) fun t σ1 h1' => ?_
    have a1 := (hI _ _ _ _ hp h1').1
    unfold Inv at a1
    exact rest_q (lv_next n h1 (by omega)) hI ih _ t σ1 a1.2.1 (by omega)
theorem term_fuel (s : ByteArray) (f d : Nat) : TQ s f (termS f s) (termS (f + d) s) := by
  induction d with
  | zero => intro n σ _ _ _ _; rfl
  | succ d ih =>
    intro n σ h1 h2 h3 h4
    rw [ih n σ h1 h2 h3 h4]
    exact term_q s (f + d) n σ h1 h2 (by omega) h4
end Go.Proofs.YtckjlliobebodaaGreatDoor
