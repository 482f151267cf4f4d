/- Texts Fmt Fre Awk Con of this proof, in one. -/
import Derived.Test.YtfhedienjnfdcaaGreatDoorG16
import Derived.Test.YtfhedienjnfdcaaGreatDoorRows
import Derived.Deep.DeepLaidRun
import Derived.ProofKit
import Derived.Test.YtfhedienjnfdcaaGreatDoorCards
import Derived.Test.YtfhedienjnfdcaaGreatDoorTie
import Derived.OpenShut
import Derived.Deep.DeepHandedRow
import Derived.Stop.LaidErr
import Derived.LaidLaws
import Derived.ChangeMaps5
set_option linter.unusedVariables false
set_option linter.unusedSimpArgs false
set_option maxRecDepth 100000
set_option maxHeartbeats 32000000
namespace Go.Proofs.YtfhedienjnfdcaaGreatDoor
open Go.RowKit
theorem format_ok {t : Tm} {out : List UInt8} {ok : Nat → Prop} {w : World} {ta : Option Addr} {tn tc : Nat} {ma : Option Addr} {mn mc : Nat} (hty : TyL ok w t.ty.kids (.slice ta tn tc)) (htm : TmL ok w t.kids (.slice ma mn mc)) (hp : PC t out) (hv : validB t = true) (hs : SmTm big t) (h0 : out ≠ []) (hlen : out.length ≤ 1000000000) :
  Calls Tryz.prog 47 #[.agg #[.int .i64 t.op, .string t.name, .int .i64 t.n, .int .i64 t.ty.kind, .string t.ty.name, .slice ta tn tc, .slice ma mn mc]] w fun e w' => e = .returned (.string ⟨out.toArray⟩) ∧ Kept (fun _ => False) w w' := by
 have K0 : Kept (fun _ => False) w (w.alloc (.cells #[.int .i64 t.op, .string t.name, .int .i64 t.n, .int .i64 t.ty.kind, .string t.ty.name, .slice ta tn tc, .slice ma mn mc] 28)) := (Kept.refl _ _).alloc _
 have bX : Blk (w.alloc (.cells #[.int .i64 t.op, .string t.name, .int .i64 t.n, .int .i64 t.ty.kind, .string t.ty.name, .slice ta tn tc, .slice ma mn mc] 28)) w.heap.size 28 (tmCells t (.slice ta tn tc) (.slice ma mn mc)) := Blk.new w 28 _
 have HV := Ld (valid_any (hty.frame (Same.alloc w (.cells #[.int .i64 t.op, .string t.name, .int .i64 t.n, .int .i64 t.ty.kind, .string t.ty.name, .slice ta tn tc, .slice ma mn mc] 28))) (htm.frame (Same.alloc w (.cells #[.int .i64 t.op, .string t.name, .int .i64 t.n, .int .i64 t.ty.kind, .string t.ty.name, .slice ta tn tc, .slice ma mn mc] 28))) hs)
 have HP := Ld hp
 have H0 := Ld h0
 have HL := Ld hlen
 clear hp h0 hlen hs
 go_enter Tryz.func47, Tryz.ntmps47
 go_wp2_with fail
 refine HV.out.mono ?_
 rintro e w1 ⟨rfl, k1⟩
 rw [hv]
 have K1 := K0.trans k1
 have b1 := bX.kept k1 (fun h => h)
 have bB : Blk (w1.alloc (.cells #[.pointer none, .slice none 0 0] 111)) w1.heap.size 111 [.pointer none, .slice none 0 0] := Blk.new w1 111 _
 have K2 : Kept (fun _ => False) w1 (w1.alloc (.cells #[.pointer none, .slice none 0 0] 111)) := (Kept.refl _ _).alloc _
 have hU : Bu w1.heap.size w1.heap.size [] (w1.alloc (.cells #[.pointer none, .slice none 0 0] 111)) := Or.inl ⟨Nat.le_refl _, .slice none 0 0, bB, World.ownsRow_nil _ _ _ _, by simp [Value.ownBlock]⟩
 have t5 := ((hty.frame (sK K1)).mono (ok' := fun q => q < w1.heap.size) (fun q h _ => h)).frame (sK K2)
 have t6 := ((htm.frame (sK K1)).mono (ok' := fun q => q < w1.heap.size) (fun q h _ => h)).frame (sK K2)
 have HC := Ld (HP.out w1.heap.size w1.heap.size [] _ _ _ hU (by simp) t5 t6 (by have := HL.out; simpa using this))
 have b2 := b1.alloc (.cells #[.pointer none, .slice none 0 0] 111)
 have l1 := b1.lt
 have n1 : w.heap.size ≠ w1.heap.size := by omega
 have g0 : w1.cell? ⟨w.heap.size, 0, none⟩ = some (.int .i64 t.op) := b1.cell 0
 have g1 : w1.cell? ⟨w.heap.size, 1, none⟩ = some (.string t.name) := b1.cell 1
 have g2 : w1.cell? ⟨w.heap.size, 2, none⟩ = some (.int .i64 t.n) := b1.cell 2
 have g3 : w1.cell? ⟨w.heap.size, 3, none⟩ = some (.int .i64 t.ty.kind) := b1.cell 3
 have g4 : w1.cell? ⟨w.heap.size, 4, none⟩ = some (.string t.ty.name) := b1.cell 4
 have g5 : w1.cell? ⟨w.heap.size, 5, none⟩ = some (.slice ta tn tc) := b1.cell 5
 have g6 : w1.cell? ⟨w.heap.size, 6, none⟩ = some (.slice ma mn mc) := b1.cell 6
 go_wp2_with fail
 refine HC.out.mono ?_
 rintro e w3 ⟨rfl, u3, k3⟩
 rw [List.nil_append] at u3
 have HS := Ld (bstr_any u3 H0.out)
 have K3 : Kept (fun k => w1.heap.size ≤ k) w1 w3 := (K2.mono (fun _ _ h => h.elim)).via k3 (fun x hx e => by
  rcases e with rfl | ⟨h, _⟩
  ·exact Nat.le_refl _
  ·exact h)
 go_wp2_with fail
 refine HS.out.mono ?_
 rintro e w4 ⟨rfl, k4⟩
 go_wp2_with fail
 go_ret
 refine ⟨rfl, K1.via (S' := fun k => w1.heap.size ≤ k) (K3.via (S' := fun k => w1.heap.size ≤ k) ⟨k4.os, k4.tape, k4.output, k4.size, fun q hq hn => k4.block q (by omega)⟩ (fun _ _ h => h)) (fun x hx h => ?_)⟩
 have := K1.size
 omega
def digS : ByteArray := ⟨#[48, 49, 50, 51, 52, 53, 54, 55, 56, 57]⟩
def digL : List Value := (Lib.setCells digS.data.toList).toList
theorem dig_zero : ∀ w, (zeroValue 166).run Tryz.prog w = .ok (.agg (Array.replicate 256 (.bool false))) w := fun w => by kernel_rfl
theorem dig_set (w : World) : Calls Tryz.prog 162 #[.string digS] w fun e w' => e = .returned (.tuple #[.agg digL.toArray, .bool true]) ∧ w' = w.alloc (.cells digL.toArray 166) := by
 refine (Tryz.strings_makeASCIISet dig_zero digS w (by decide) ?_).mono fun e w' ⟨h1, h2⟩ => ⟨by rw [h1]; unfold digL; rw [Array.toArray_toList], by rw [h2]; unfold digL; rw [Array.toArray_toList]⟩
 intro j b hj
 have hlt : j < 10 := (List.getElem?_eq_some_iff.1 hj).1
 rcases (show j = 0 ∨ j = 1 ∨ j = 2 ∨ j = 3 ∨ j = 4 ∨ j = 5 ∨ j = 6 ∨ j = 7 ∨ j = 8 ∨ j = 9 by omega) with rfl | rfl | rfl | rfl | rfl | rfl | rfl | rfl | rfl | rfl <;> (cases hj; decide)
theorem dig_50 : digL[50]? = some (.bool true) := by kernel_rfl
theorem dig_49 : digL[49]? = some (.bool true) := by kernel_rfl
theorem dig_120 : digL[120]? = some (.bool false) := by kernel_rfl
def strSz : Value → Nat
 | .string s => s.size
 | _ => 0
theorem trimR (w : World) (X : Nat) (h50 : w.cell? ⟨X, 50, none⟩ = some (.bool true)) (h49 : w.cell? ⟨X, 49, none⟩ = some (.bool true)) (h120 : w.cell? ⟨X, 120, none⟩ = some (.bool false)) :
  Calls Tryz.prog 163 #[.string ⟨#[120, 49, 50]⟩, .pointer (some ⟨X, 0, none⟩)] w fun e w' => e = .returned (.string ⟨#[120]⟩) ∧ w = w' := by
 have c50 := Ld (Tryz.asciiSet_contains X 50 true w h50)
 have c49 := Ld (Tryz.asciiSet_contains X 49 true w h49)
 have c120 := Ld (Tryz.asciiSet_contains X 120 false w h120)
 clear h50 h49 h120
 go_enter Tryz.func163, Tryz.ntmps163
 go_wp2_with fail
 go_loop [0] (fun v => v = .string ⟨#[120, 49, 50]⟩ ∨ v = .string ⟨#[120, 49]⟩ ∨ v = .string ⟨#[120]⟩) (fun v => strSz v)
 case atStart => exact Or.inl rfl
 case round =>
  rcases hrel with rfl | rfl | rfl
  ·go_wp2_with (go_at_call 204; refine c50.out.mono ?_; rintro e w' ⟨rfl, rfl⟩)
   go_round
   case rel => exact Or.inr (Or.inl rfl)
   case measure => decide
  ·go_wp2_with (go_at_call 204; refine c49.out.mono ?_; rintro e w' ⟨rfl, rfl⟩)
   go_round
   case rel => exact Or.inr (Or.inr rfl)
   case measure => decide
  ·go_wp2_with (go_at_call 204; refine c120.out.mono ?_; rintro e w' ⟨rfl, rfl⟩)
   go_ret
   exact ⟨rfl, rfl⟩
theorem wpList_store_at {P : Program} {ops : Array Oper} {rest : List Oper} {o : Oper} {a : Act} {Q : Exit → Act → World → Prop} {w0 w : World} {ty : TypeId} {Z L : List Value} (hb : Blk w w0.heap.size ty Z) (hk : Kept (fun _ => False) w0 w) (hgd : o.guard = none) (x y : Operand) (ho : o.op = .store ty x y) (hx : a.eval x = .pointer (some ⟨w0.heap.size, 0, none⟩)) (hy : a.eval y = .agg L.toArray)
  (hi : (P.info? ty).map (·.size) = some L.length) (hZ : Z.length = L.length) (h1 : L.toArray.all (·.oneCell') = true)
  (h : ∀ W, Blk W w0.heap.size ty L → Kept (fun _ => False) w0 W → wpList P ops Q rest (a.put o.dst undef) W) : wpList P ops Q (o :: rest) a w := by
 refine wpList_store_mid hgd ty x y ho w0.heap.size 0 L.toArray hx hy ?_ (by simpa using hi) h1 ?_
 ·have := hb.there; rw [hZ] at this; simpa using this
 ·refine h _ ?_ ?_
  ·have := hb.setCells (l' := L) hZ.symm; simpa using this
  ·exact hk.setCells (Or.inr (Nat.le_refl _))
theorem dig_blk (w : World) : Blk (w.alloc (.cells Tryz.zeroCells166 166)) w.heap.size 166 Tryz.zeroCells166.toList := by
 have := Blk.new w 166 Tryz.zeroCells166.toList
 rwa [Array.toArray_toList] at this
theorem dig_zl : Tryz.zeroCells166.toList.length = digL.length := by kernel_rfl
theorem trimRight_x (w : World) : Calls Tryz.prog 98 #[.string ⟨#[120, 49, 50]⟩, .string digS] w fun e w' => e = .returned (.string ⟨#[120]⟩) ∧ Kept (fun _ => False) w w' := by
 have i1 : digS.toList.isEmpty = false := by kernel_rfl
 have i2 : digS.size = 10 := rfl
 have i3 : (digS.toList == []) = false := by kernel_rfl
 have HD := Ld dig_set
 go_enter Tryz.func98, Tryz.ntmps98
 go_wp2_with (first | (go_at_call 162; refine (HD.out _).mono ?_; rintro e w1 ⟨rfl, hw1⟩; have k1 : Kept (fun _ => False) w w1 := (by rw [hw1]; exact (Kept.refl _ _).alloc _); clear hw1) | (refine wpList_store_at (w0 := w1) (L := digL) (dig_blk w1) ((Kept.refl _ _).alloc _) rfl _ _ rfl rfl rfl (by kernel_rfl) dig_zl (by kernel_rfl) ?_; intro W bW kW; have h50 : W.cell? ⟨w1.heap.size, 50, none⟩ = some (.bool true) := (by rw [bW.cell]; exact dig_50); have h49 : W.cell? ⟨w1.heap.size, 49, none⟩ = some (.bool true) := (by rw [bW.cell]; exact dig_49); have h120 : W.cell? ⟨w1.heap.size, 120, none⟩ = some (.bool false) := (by rw [bW.cell]; exact dig_120); have HT := Ld (trimR W w1.heap.size h50 h49 h120)) | (go_at_call 163; refine HT.out.mono ?_; rintro e w' ⟨rfl, rfl⟩))
 go_ret
 exact ⟨rfl, k1.trans kW⟩
def sX12 : ByteArray := ⟨#[120, 49, 50]⟩
def sX1 : ByteArray := ⟨#[120, 49]⟩
def sX2 : ByteArray := ⟨#[120, 50]⟩
theorem fx1 : Lib.containsS (List.take 2 [sX12, sX1]) sX12 = true := by rw [Lib.containsS_iff]; simp [sX12]
theorem fx2 : Lib.containsS (List.take 2 [sX12, sX1]) sX1 = true := by rw [Lib.containsS_iff]; simp [sX1]
theorem fx3 : Lib.containsS (List.take 2 [sX12, sX1]) sX2 = false := by
 cases h : Lib.containsS (List.take 2 [sX12, sX1]) sX2
 ·rfl
 ·rw [Lib.containsS_iff] at h; simp [sX12, sX1, sX2] at h
theorem fx4 : namedB ⟨#[120, 49, 50]⟩ = true := by kernel_rfl
theorem fx5 : Lib.decDigits 1 = [49] := by unfold Lib.decDigits; rfl
theorem fx6 : Lib.decDigits 2 = [50] := by unfold Lib.decDigits; rfl
theorem fx7 : keywordB ⟨#[120, 49]⟩ = false := by kernel_rfl
theorem fx8 : keywordB ⟨#[120, 50]⟩ = false := by kernel_rfl
theorem fresh_x (w : World) (g : Nat) (h0 : w.cell? ⟨g, 0, none⟩ = some (.string ⟨#[120, 49, 50]⟩)) (h1 : w.cell? ⟨g, 1, none⟩ = some (.string ⟨#[120, 49]⟩)) :
  Calls Tryz.prog 48 #[.string ⟨#[120, 49, 50]⟩, .slice (some ⟨g, 0, none⟩) 2 2] w fun e w' => e = .returned (.string ⟨#[120, 50]⟩) ∧ Kept (fun _ => False) w w' := by
 have hcl : ∀ W : World, Kept (fun _ => False) w W → ∀ j, j < [sX12, sX1].length → W.cell? ⟨g, 0 + j, none⟩ = some (.string ([sX12, sX1].getD j ByteArray.empty)) := by
  intro W k j hj
  have : j = 0 ∨ j = 1 := by simp at hj; omega
  rcases this with rfl | rfl
  ·rw [k.cell (p := ⟨g, 0 + 0, none⟩) (cell_lt h0) (fun h => h)]; exact h0
  ·rw [k.cell (p := ⟨g, 0 + 1, none⟩) (cell_lt h1) (fun h => h)]; exact h1
 have cA : Hid (∀ W : World, Kept (fun _ => False) w W → Calls Tryz.prog 97 #[.slice (some ⟨g, 0, none⟩) 2 2, .string ⟨#[120, 49, 50]⟩] W fun e w' => e = .returned (.bool true) ∧ W = w') := Ld (fun W k => (Tryz.slices_Contains_string g 0 2 2 [sX12, sX1] sX12 W (by decide) (by decide) (hcl W k)).mono fun e w' ⟨q1, q2⟩ => ⟨by rw [q1, fx1], q2.symm⟩)
 have cB : Hid (∀ W : World, Kept (fun _ => False) w W → Calls Tryz.prog 97 #[.slice (some ⟨g, 0, none⟩) 2 2, .string ⟨#[120, 49]⟩] W fun e w' => e = .returned (.bool true) ∧ W = w') := Ld (fun W k => (Tryz.slices_Contains_string g 0 2 2 [sX12, sX1] sX1 W (by decide) (by decide) (hcl W k)).mono fun e w' ⟨q1, q2⟩ => ⟨by rw [q1, fx2], q2.symm⟩)
 have cC : Hid (∀ W : World, Kept (fun _ => False) w W → Calls Tryz.prog 97 #[.slice (some ⟨g, 0, none⟩) 2 2, .string ⟨#[120, 50]⟩] W fun e w' => e = .returned (.bool false) ∧ W = w') := Ld (fun W k => (Tryz.slices_Contains_string g 0 2 2 [sX12, sX1] sX2 W (by decide) (by decide) (hcl W k)).mono fun e w' ⟨q1, q2⟩ => ⟨by rw [q1, fx3], q2.symm⟩)
 have HN : Hid (∀ W, Calls Tryz.prog 79 #[.string ⟨#[120, 49, 50]⟩] W fun e w' => e = .returned (.bool true) ∧ W = w') := Ld (fun W => (named_any _ W (by decide)).mono fun e w' ⟨q1, q2⟩ => ⟨by rw [q1, fx4], q2⟩)
 have HT : Hid (∀ W, Calls Tryz.prog 99 #[.string ⟨#[120, 49, 50]⟩, .string ⟨#[39]⟩] W fun e w' => e = .returned (.string ⟨#[120, 49, 50]⟩) ∧ W = w') := Ld (fun W => (Tryz.strings_TrimSuffix _ _ W (by decide)).mono fun e w' ⟨q1, q2⟩ => ⟨by rw [q1]; rfl, q2.symm⟩)
 have HI1 : Hid (∀ W, Calls Tryz.prog 100 #[.int .i64 1] W fun e w' => e = .returned (.string ⟨#[49]⟩) ∧ W = w') := Ld (fun W => (Tryz.strconv_Itoa_small 1 (by decide) W).mono fun e w' ⟨q1, q2⟩ => ⟨by rw [q1, fx5], q2.symm⟩)
 have HI2 : Hid (∀ W, Calls Tryz.prog 100 #[.int .i64 2] W fun e w' => e = .returned (.string ⟨#[50]⟩) ∧ W = w') := Ld (fun W => (Tryz.strconv_Itoa_small 2 (by decide) W).mono fun e w' ⟨q1, q2⟩ => ⟨by rw [q1, fx6], q2.symm⟩)
 have HK1 : Hid (∀ W, Calls Tryz.prog 101 #[.string ⟨#[120, 49]⟩] W fun e w' => e = .returned (.bool false) ∧ W = w') := Ld (fun W => (keyword_any _ W).mono fun e w' ⟨q1, q2⟩ => ⟨by rw [q1, fx7], q2⟩)
 have HK2 : Hid (∀ W, Calls Tryz.prog 101 #[.string ⟨#[120, 50]⟩] W fun e w' => e = .returned (.bool false) ∧ W = w') := Ld (fun W => (keyword_any _ W).mono fun e w' ⟨q1, q2⟩ => ⟨by rw [q1, fx8], q2⟩)
 have HR := Ld trimRight_x
 clear hcl
 go_enter Tryz.func48, Tryz.ntmps48
 go_wp2_with (first | (go_at_call 79; refine (HN.out _).mono ?_; rintro e w' ⟨rfl, rfl⟩) | (go_at_call 97; refine (cA.out w (Kept.refl _ _)).mono ?_; rintro e w' ⟨rfl, rfl⟩) | (go_at_call 99; refine (HT.out _).mono ?_; rintro e w' ⟨rfl, rfl⟩) | (go_at_call 98; refine (HR.out _).mono ?_; rintro e w1 ⟨rfl, k1⟩))
 have hcu : digS = digS := rfl
 go_loop [6] (fun i => i = .int .i64 1 ∨ i = .int .i64 2) (fun i => 2 - (intOf i).toNat)
 case atStart => exact Or.inl rfl
 case round =>
  rcases hrel with rfl | rfl
  ·go_wp2_with (first | (go_at_call 100; refine (HI1.out _).mono ?_; rintro e w' ⟨rfl, rfl⟩) | (go_at_call 101; refine (HK1.out _).mono ?_; rintro e w' ⟨rfl, rfl⟩) | (go_at_call 97; refine (cB.out w1 k1).mono ?_; rintro e w' ⟨rfl, rfl⟩))
   go_round
   case rel => exact Or.inr rfl
   case measure => decide
  ·go_wp2_with (first | (go_at_call 100; refine (HI2.out _).mono ?_; rintro e w' ⟨rfl, rfl⟩) | (go_at_call 101; refine (HK2.out _).mono ?_; rintro e w' ⟨rfl, rfl⟩) | (go_at_call 97; refine (cC.out w1 k1).mono ?_; rintro e w' ⟨rfl, rfl⟩))
   go_ret
   exact ⟨rfl, k1⟩
def awkS : ByteArray := ⟨#[120, 32, 43, 32, 49, 32, 60, 61, 32, 99, 97, 114, 100, 40, 115, 41]⟩
def awX : Tm := .mk 20 ⟨#[120]⟩ 0 ty0 []
def aw1 : Tm := .mk 19 nil0 1 ty0 []
def awS : Tm := .mk 20 ⟨#[115]⟩ 0 ty0 []
def awAdd : Tm := nd 22 [awX, aw1]
def awCard : Tm := nd 47 [awS]
def awT : Tm := nd 13 [awAdd, awCard]
theorem awk_T : parseT 300 awkS = awT := by kernel_rfl
theorem awk_A : parseA 300 awkS = 0 := by kernel_rfl
theorem awk_E : parseE 300 awkS = 0 := by kernel_rfl
theorem awk_V : validB awT = true := by kernel_rfl
def awOut : List UInt8 := [40, 120, 32, 43, 32, 49, 41, 32, 60, 61, 32, 99, 97, 114, 100, 40, 115, 41]
theorem pc_x : PC awX [120] := pt_name (nm := ⟨#[120]⟩) (N := 0) (ty := ty0) (kl := [])
theorem pc_s : PC awS [115] := pt_name (nm := ⟨#[115]⟩) (N := 0) (ty := ty0) (kl := [])
theorem pc_1 : PC aw1 [49] := pt_int (nm := nil0) (N := 1) (ty := ty0) (kl := []) (ds := ⟨#[49]⟩) (fun W => (Tryz.strconv_Itoa_small 1 (by decide) W).mono fun e w' ⟨q1, q2⟩ => ⟨by rw [q1, fx5], q2.symm⟩)
theorem oc_x : OC awX [120] := by
 have h := operand_any pc_x
 rw [show parS awX.op [120] = [120] by kernel_rfl] at h
 exact h
theorem oc_1 : OC aw1 [49] := by
 have h := operand_any pc_1
 rw [show parS aw1.op [49] = [49] by kernel_rfl] at h
 exact h
theorem pc_add : PC awAdd [120, 32, 43, 32, 49] := pt_bin (t := awAdd) rfl (by kernel_rfl) oc_x oc_1
theorem oc_add : OC awAdd [40, 120, 32, 43, 32, 49, 41] := by
 have h := operand_any pc_add
 rw [show parS awAdd.op [120, 32, 43, 32, 49] = [40, 120, 32, 43, 32, 49, 41] by kernel_rfl] at h
 exact h
theorem pc_kid : ∀ i (h : i < [awS].length), PC [awS][i] ((fun _ => [115] : Nat → List UInt8) i) := by
 intro i h
 have h1 : i = 0 := by have : i < 1 := h; omega
 subst h1
 exact pc_s
theorem pc_card : PC awCard [99, 97, 114, 100, 40, 115, 41] := pt_card (nm := nil0) (N := 0) (ty := ty0) (kl := [awS]) (list_one (kl := [awS]) (O := fun _ => [115]) pc_kid (by decide))
theorem oc_card : OC awCard [99, 97, 114, 100, 40, 115, 41] := by
 have h := operand_any pc_card
 rw [show parS awCard.op [99, 97, 114, 100, 40, 115, 41] = [99, 97, 114, 100, 40, 115, 41] by kernel_rfl] at h
 exact h
theorem pc_aw : PC awT awOut := pt_bin (t := awT) rfl (by kernel_rfl) oc_add oc_card
theorem sm_aw : SmTm big awT := by
 have h0 : ∀ (n : ByteArray), n.size ≤ big → ∀ (o i : Int), SmTm big (.mk o n i ty0 []) := fun n hn o i => .mk hn (sm_ty0 _) (fun k h => by cases h)
 exact sm_nd (all2 (sm_nd (all2 (h0 _ (by decide) _ _) (h0 _ (by decide) _ _))) (sm_nd (all1 (h0 _ (by decide) _ _))))
theorem awake_any (w : World) (hgl : Gl w) : Calls Tryz.prog 15 #[] w fun e w' => e = .returned (.bool true) ∧ Kept (fun _ => False) w w' := by
 have HP : Hid (Calls Tryz.prog 46 #[.string ⟨#[120, 32, 43, 32, 49, 32, 60, 61, 32, 99, 97, 114, 100, 40, 115, 41]⟩] w fun e w' => ∃ tv, e = .returned (.tuple #[tv, .int .i64 0, .int .i64 0]) ∧ VTm w.heap.size awT w' tv ∧ Kept (fun _ => False) w w') := Ld ((parse_any (f := 300) (s := awkS) (by decide) (by decide) hgl).mono fun e w' ⟨tv, h1, h2, h3⟩ => ⟨tv, by rw [h1, awk_A, awk_E], by rw [← awk_T]; exact h2, h3⟩)
 go_enter Tryz.func15, Tryz.ntmps15
 go_wp2_with fail
 refine HP.out.mono ?_
 rintro e w1 ⟨tv, rfl, ⟨tk, kk, rfl, hty, htm⟩, k1⟩
 obtain ⟨ta, tn, tc, rfl⟩ := hty.slice
 obtain ⟨ma, mn, mc, rfl⟩ := htm.slice
 have hmn : mn = 2 := htm.len
 subst hmn
 have HF : Hid (Calls Tryz.prog 47 #[.agg #[.int .i64 13, .string nil0, .int .i64 0, .int .i64 0, .string ⟨#[]⟩, .slice ta tn tc, .slice ma 2 mc]] (w1.alloc (.cells #[.int .i64 13, .string nil0, .int .i64 0, .int .i64 0, .string ⟨#[]⟩, .slice ta tn tc, .slice ma 2 mc] 28)) fun e w' => e = .returned (.string ⟨awOut.toArray⟩) ∧ Kept (fun _ => False) (w1.alloc (.cells #[.int .i64 13, .string nil0, .int .i64 0, .int .i64 0, .string ⟨#[]⟩, .slice ta tn tc, .slice ma 2 mc] 28)) w') := Ld (format_ok (t := awT) (hty.frame (Same.alloc w1 _)) (htm.frame (Same.alloc w1 _)) pc_aw awk_V sm_aw (by decide) (by decide))
 have K1 : Kept (fun _ => False) w (w1.alloc (.cells #[.int .i64 13, .string nil0, .int .i64 0, .int .i64 0, .string ⟨#[]⟩, .slice ta tn tc, .slice ma 2 mc] 28)) := k1.alloc _
 clear hty htm
 have htv : tmVal awT (.slice ta tn tc) (.slice ma 2 mc) = .agg #[.int .i64 13, .string nil0, .int .i64 0, .int .i64 0, .string ⟨#[]⟩, .slice ta tn tc, .slice ma 2 mc] := rfl
 rw [htv]
 clear htv
 have HN : Hid (nil0 = ⟨#[]⟩) := Ld rfl
 generalize nil0 = nl at *
 go_wp2_with fail
 refine HF.out.mono ?_
 rintro e w2 ⟨rfl, k2⟩
 have K2 := K1.trans k2
 have e1 : ((⟨awOut.toArray⟩ : ByteArray).toList == [40, 120, 32, 43, 32, 49, 41, 32, 60, 61, 32, 99, 97, 114, 100, 40, 115, 41]) = true := by kernel_rfl
 generalize (⟨awOut.toArray⟩ : ByteArray) = ao at *
 have bS : Blk (w2.alloc (.cells #[.string ⟨#[120, 49, 50]⟩, .string ⟨#[120, 49]⟩] 9)) w2.heap.size 9 [.string ⟨#[120, 49, 50]⟩, .string ⟨#[120, 49]⟩] := Blk.new w2 9 _
 have HX := Ld (fresh_x _ w2.heap.size (bS.cell 0) (bS.cell 1))
 go_wp2_with fail
 refine HX.out.mono ?_
 rintro e w3 ⟨rfl, k3⟩
 go_wp2_with fail
 go_ret
 exact ⟨rfl, (K2.alloc _).trans k3⟩
end Go.Proofs.YtfhedienjnfdcaaGreatDoor
namespace Go.Proofs.YtfhedienjnfdcaaGreatDoor
open Go.ChangeShapes Go.WideShapes Go.ChangeAt Go.RowKit
def litV : DataW Unit → Value
 | .lit (.int k n) => .int k n
 | _ => undef
def flat1 : DataW Unit → List Value
 | .agg l => l.map litV
 | _ => []
def flat2 : DataW Unit → List Value
 | .agg l => (l.map flat1).flatten
 | _ => []
abbrev ranS : ByteArray := { data := #[118, 97, 108, 117, 101, 32, 111, 117, 116, 32, 111, 102, 32, 114, 97, 110, 103, 101] }
abbrev synS : ByteArray := { data := #[105, 110, 118, 97, 108, 105, 100, 32, 115, 121, 110, 116, 97, 120] }
noncomputable def low0 : Nat := (World.holding Tryz.prog default ⟨#[], #[], []⟩).heap.size
def putC (c : Array Value) : Obj → Obj
 | .cells _ t frozen => .cells c t frozen
 | o => o
noncomputable def laidWorld (os : Os) : World :=
 let w0 := World.holding Tryz.prog os ⟨#[.cells #[.string synS] 247, .cells #[.string ranS] 247], #[], []⟩
 { w0 with heap := ((((((w0.heap.modify 2 (putC #[.iface 245 (.pointer (some ⟨low0, 0, none⟩))])).modify 3 (putC #[.iface 245 (.pointer (some ⟨low0 + 1, 0, none⟩))])).modify 1 (putC (flat1 Rows.laid_internal_strconv_uint64pow10).toArray)).modify 4 (putC (flat1 Rows.laid_unicode_utf8_first).toArray)).modify 5 (putC (flat2 Rows.laid_unicode_utf8_acceptRanges).toArray)).modify 6 (putC (flat1 Rows.laid_math_bits_deBruijn32tab).toArray)).modify 7 (putC (flat1 Rows.laid_math_bits_deBruijn64tab).toArray) }
theorem own0 : ownKnob Tryz.prog.godebug = none := by kernel_rfl
theorem gSyn : Tryz.prog.globalNamed "strconv.ErrSyntax" = some 2 := by kernel_rfl
theorem gRan : Tryz.prog.globalNamed "strconv.ErrRange" = some 3 := by kernel_rfl
theorem gSynT : (Tryz.prog.globals[2]?).map (·.type) = some 158 := by kernel_rfl
theorem gRanT : (Tryz.prog.globals[3]?).map (·.type) = some 158 := by kernel_rfl
theorem cells177 : Tryz.prog.cellsOf 247 = 1 := by kernel_rfl
theorem cells9 : Tryz.prog.cellsOf 9 = 1 := by kernel_rfl
theorem star0 : "*" ++ "errors.errorString" = "*errors.errorString" := by decide
theorem row245 (u : TypeId) (h : Tryz.prog.typeName? 3 u = some "*errors.errorString") : u = 245 :=
 typeName_ptr_named (nm := "errors.errorString") (by rw [star0]; kernel_rfl) (by kernel_rfl) (by decide) u (by rw [star0]; exact h)
def EsOk (w : World) (e : Ending) (w' : World) : Prop := e = .returned (.bool true) ∧ Kept (fun _ => False) w w'
theorem gl_of_laid {W : World} (h : laidMetH Tryz.prog Rows.termJoinsRow.laid W) : Gl W := by
 have h0 : laidMet Tryz.prog Rows.termJoinsRow.laid W := h
 have h4 := h0.tail.tail.tail.tail
 obtain ⟨a1, s1, hv1, _⟩ := laid_sentinel h4 gRan gRanT Tryz.underlying158 row245 Tryz.underlying245 Tryz.underlying247 rfl rfl Tryz.underlying9 cells177 cells9
 obtain ⟨a0, s0, hv0, _⟩ := laid_sentinel h4.tail gSyn gSynT Tryz.underlying158 row245 Tryz.underlying245 Tryz.underlying247 rfl rfl Tryz.underlying9 cells177 cells9
 exact ⟨⟨245, _, by simpa using World.var?_cell gSyn hv0 0⟩, ⟨245, _, by simpa using World.var?_cell gRan hv1 0⟩⟩
theorem keptBut_of_kept {w w' : World} (h : Kept (fun _ => False) w w') (may : MemPlace → Prop) : w.keptBut w' may := by
 refine ⟨h.os, h.output, fun i hi => ?_⟩
 have := (World.keptBut_refl w may).2.2 i hi
 rw [h.block i hi (fun h => h)]
 exact this
end Go.Proofs.YtfhedienjnfdcaaGreatDoor
