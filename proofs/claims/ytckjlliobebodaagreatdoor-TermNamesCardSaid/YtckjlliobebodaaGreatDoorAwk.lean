/- awake returns true. -/
import Derived.Test.YtckjlliobebodaaGreatDoorPrs
import Derived.Test.YtckjlliobebodaaGreatDoorFre
set_option linter.unusedVariables false
set_option linter.unusedSimpArgs false
namespace Go.Proofs.YtckjlliobebodaaGreatDoor
open Go.RowKit
def awkS : ByteArray := ⟨#[120, 32, 43, 32, 49, 32, 60, 61, 32, 99, 97, 114, 100, 40, 115, 41]⟩
def awX : Tm := .mk 20 ⟨#[120]⟩ 0 ty0 []
def aw1 : Tm := .mk 19 nil0 1 ty0 []
def awS : Tm := .mk 20 ⟨#[115]⟩ 0 ty0 []
def awAdd : Tm := nd 22 [awX, aw1]
def awCard : Tm := nd 47 [awS]
def awT : Tm := nd 13 [awAdd, awCard]
theorem awk_T : parseT 300 awkS = awT := by kernel_rfl
theorem awk_A : parseA 300 awkS = 0 := by kernel_rfl
theorem awk_E : parseE 300 awkS = 0 := by kernel_rfl
theorem awk_V : validB awT = true := by kernel_rfl
def awOut : List UInt8 := [40, 120, 32, 43, 32, 49, 41, 32, 60, 61, 32, 99, 97, 114, 100, 40, 115, 41]
theorem pc_x : PC awX [120] := pt_name (nm := ⟨#[120]⟩) (N := 0) (ty := ty0) (kl := [])
theorem pc_s : PC awS [115] := pt_name (nm := ⟨#[115]⟩) (N := 0) (ty := ty0) (kl := [])
theorem pc_1 : PC aw1 [49] := pt_int (nm := nil0) (N := 1) (ty := ty0) (kl := []) (ds := ⟨#[49]⟩) (fun W => (Tryz.strconv_Itoa_small 1 (by decide) W).mono fun e w' ⟨q1, q2⟩ => ⟨by rw [q1, fx5], q2.symm⟩)
theorem oc_x : OC awX [120] := by
  have h := operand_any pc_x
  rw [show parS awX.op [120] = [120] by kernel_rfl] at h
  exact h
theorem oc_1 : OC aw1 [49] := by
  have h := operand_any pc_1
  rw [show parS aw1.op [49] = [49] by kernel_rfl] at h
  exact h
theorem pc_add : PC awAdd [120, 32, 43, 32, 49] := pt_bin (t := awAdd) rfl (by kernel_rfl) oc_x oc_1
theorem oc_add : OC awAdd [40, 120, 32, 43, 32, 49, 41] := by
  have h := operand_any pc_add
  rw [show parS awAdd.op [120, 32, 43, 32, 49] = [40, 120, 32, 43, 32, 49, 41] by kernel_rfl] at h
  exact h
theorem pc_kid : ∀ i (h : i < [awS].length), PC [awS][i] ((fun _ => [115] : Nat → List UInt8) i) := by
  intro i h
  have h1 : i = 0 := by have : i < 1 := h; omega
  subst h1
  exact pc_s
theorem pc_card : PC awCard [99, 97, 114, 100, 40, 115, 41] := pt_card (nm := nil0) (N := 0) (ty := ty0) (kl := [awS]) (list_one (kl := [awS]) (O := fun _ => [115]) pc_kid (by decide))
theorem oc_card : OC awCard [99, 97, 114, 100, 40, 115, 41] := by
  have h := operand_any pc_card
  rw [show parS awCard.op [99, 97, 114, 100, 40, 115, 41] = [99, 97, 114, 100, 40, 115, 41] by kernel_rfl] at h
  exact h
theorem pc_aw : PC awT awOut := pt_bin (t := awT) rfl (by kernel_rfl) oc_add oc_card
theorem sm_aw : SmTm big awT := by
  have h0 : ∀ (n : ByteArray), n.size ≤ big → ∀ (o i : Int), SmTm big (.mk o n i ty0 []) := fun n hn o i => .mk hn (sm_ty0 _) (fun k h => by cases h)
  exact sm_nd (all2 (sm_nd (all2 (h0 _ (by decide) _ _) (h0 _ (by decide) _ _))) (sm_nd (all1 (h0 _ (by decide) _ _))))
set_option maxRecDepth 100000 in
set_option maxHeartbeats 4000000 in
theorem awake_any (w : World) (hgl : Gl w) : Calls Tryz.prog 14 #[] w fun e w' => e = .returned (.bool true) ∧ Kept (fun _ => False) w w' := by
  have HP : Hid (Calls Tryz.prog 11 #[.string ⟨#[120, 32, 43, 32, 49, 32, 60, 61, 32, 99, 97, 114, 100, 40, 115, 41]⟩] w fun e w' => ∃ tv, e = .returned (.tuple #[tv, .int .i64 0, .int .i64 0]) ∧ VTm w.heap.size awT w' tv ∧ Kept (fun _ => False) w w') := Lib.hid ((parse_any (f := 300) (s := awkS) (by decide) (by decide) hgl).mono fun e w' ⟨tv, h1, h2, h3⟩ => ⟨tv, by rw [h1, awk_A, awk_E], by rw [← awk_T]; exact h2, h3⟩)
  go_enter Tryz.func14, Tryz.ntmps14
  go_wp2_with fail
  refine HP.out.mono ?_
  rintro e w1 ⟨tv, rfl, ⟨tk, kk, rfl, hty, htm⟩, k1⟩
  obtain ⟨ta, tn, tc, rfl⟩ := hty.slice
  obtain ⟨ma, mn, mc, rfl⟩ := htm.slice
  have hmn : mn = 2 := htm.len
  subst hmn
  have HF : Hid (Calls Tryz.prog 21 #[.agg #[.int .i64 13, .string nil0, .int .i64 0, .int .i64 0, .string ⟨#[]⟩, .slice ta tn tc, .slice ma 2 mc]] (w1.alloc (.cells #[.int .i64 13, .string nil0, .int .i64 0, .int .i64 0, .string ⟨#[]⟩, .slice ta tn tc, .slice ma 2 mc] 27)) fun e w' => e = .returned (.string ⟨awOut.toArray⟩) ∧ Kept (fun _ => False) (w1.alloc (.cells #[.int .i64 13, .string nil0, .int .i64 0, .int .i64 0, .string ⟨#[]⟩, .slice ta tn tc, .slice ma 2 mc] 27)) w') := Lib.hid (format_ok (t := awT) (hty.frame (Same.alloc w1 _)) (htm.frame (Same.alloc w1 _)) pc_aw awk_V sm_aw (by decide) (by decide))
  have K1 : Kept (fun _ => False) w (w1.alloc (.cells #[.int .i64 13, .string nil0, .int .i64 0, .int .i64 0, .string ⟨#[]⟩, .slice ta tn tc, .slice ma 2 mc] 27)) := k1.alloc _
  clear hty htm
  have htv : tmVal awT (.slice ta tn tc) (.slice ma 2 mc) = .agg #[.int .i64 13, .string nil0, .int .i64 0, .int .i64 0, .string ⟨#[]⟩, .slice ta tn tc, .slice ma 2 mc] := rfl
  rw [htv]
  clear htv
  have HN : Hid (nil0 = ⟨#[]⟩) := Lib.hid rfl
  generalize nil0 = nl at *
  go_wp2_with fail
  refine HF.out.mono ?_
  rintro e w2 ⟨rfl, k2⟩
  have K2 := K1.trans k2
  have e1 : ((⟨awOut.toArray⟩ : ByteArray).toList == [40, 120, 32, 43, 32, 49, 41, 32, 60, 61, 32, 99, 97, 114, 100, 40, 115, 41]) = true := by kernel_rfl
  generalize (⟨awOut.toArray⟩ : ByteArray) = ao at *
  have bS : Blk (w2.alloc (.cells #[.string ⟨#[120, 49, 50]⟩, .string ⟨#[120, 49]⟩] 9)) w2.heap.size 9 [.string ⟨#[120, 49, 50]⟩, .string ⟨#[120, 49]⟩] := Blk.new w2 9 _
  have HX := Lib.hid (fresh_x _ w2.heap.size (bS.cell 0) (bS.cell 1))
  go_wp2_with fail
  refine HX.out.mono ?_
  rintro e w3 ⟨rfl, k3⟩
  go_wp2_with fail
  go_ret
  exact ⟨rfl, (K2.alloc _).trans k3⟩
end Go.Proofs.YtckjlliobebodaaGreatDoor
