/- Texts Sign Ident of this proof, in one. -/
import Derived.Test.YtfhedienjnfdcaaGreatDoorK0
import Derived.Deep.QuietTactic
import Derived.BigQuiet
set_option linter.unusedVariables false
set_option linter.unusedSimpArgs false
set_option maxRecDepth 100000
set_option maxHeartbeats 32000000
namespace Go.Proofs.YtfhedienjnfdcaaGreatDoor
open Go.RowKit
theorem adv1_any (x s : ByteArray) (b pb fb fr : Nat) (w : World) (hp : w.cell? ⟨pb, 0, none⟩ = some (.pointer (some ⟨b, 0, none⟩)))
  (h0 : w.cell? ⟨b, 0, none⟩ = some (.string s)) (hf : w.cell? ⟨fb, 0, none⟩ = some (.int .i64 fr)) (hfs : fr ≤ s.size) (_hs : s.size ≤ 9223372036854775807) :
  Calls Tryz.prog 193 #[.string x, .pointer (some ⟨pb, 0, none⟩), .pointer (some ⟨fb, 0, none⟩)] w fun e w' =>
   e = .returned (.bool (Lib.hasPrefix (s.data.toList.drop fr) x.data.toList)) ∧ ∃ n, w.drewN n = w' := by
 have i1 : (0 : Int) ≤ (fr : Int) := by omega
 have i2 : (fr : Int) ≤ (s.size : Int) := by omega
 go_enter Tryz.func193, Tryz.ntmps193
 go_wp2_with fail
 go_quiet ((go_at_call 194; exact Calls.quiet_of_same (Tryz.strings_HasPrefix _ _ _)))
 go_wp2_with fail
 go_ret
 exact ⟨by rw [← Lib.extract_to_end]; rfl, nq, rfl⟩
def signs : List ByteArray := [⟨#[60, 61, 62]⟩, ⟨#[62, 45, 62, 62]⟩, ⟨#[60, 60, 124]⟩, ⟨#[124, 62, 62]⟩, ⟨#[124, 45, 62]⟩, ⟨#[60, 45, 62]⟩, ⟨#[43, 45, 62]⟩, ⟨#[45, 45, 62]⟩, ⟨#[62, 45, 62]⟩, ⟨#[61, 62]⟩, ⟨#[47, 61]⟩, ⟨#[60, 61]⟩, ⟨#[62, 61]⟩, ⟨#[46, 46]⟩, ⟨#[92, 47]⟩, ⟨#[47, 92]⟩, ⟨#[62, 60]⟩, ⟨#[60, 43]⟩, ⟨#[60, 124]⟩, ⟨#[124, 62]⟩, ⟨#[38]⟩, ⟨#[61]⟩, ⟨#[60]⟩, ⟨#[62]⟩, ⟨#[43]⟩, ⟨#[45]⟩, ⟨#[42]⟩, ⟨#[47]⟩, ⟨#[92]⟩, ⟨#[59]⟩, ⟨#[126]⟩, ⟨#[46]⟩, ⟨#[44]⟩, ⟨#[124]⟩, ⟨#[40]⟩, ⟨#[41]⟩, ⟨#[91]⟩, ⟨#[93]⟩, ⟨#[123]⟩, ⟨#[125]⟩]
theorem signs_any (w : World) : Calls Tryz.prog 192 #[] w fun e w' =>
  e = .returned (.slice (some ⟨w.heap.size, 0, none⟩) 40 40) ∧ w' = w.alloc (.cells (signs.map Value.string).toArray 9) := by
 go_enter Tryz.func192, Tryz.ntmps192
 go_wp2_with fail
 go_ret
 exact ⟨rfl, rfl⟩
def sIdx (l : List UInt8) (xs : List ByteArray) : Int := match xs.findIdx? (fun x => Lib.hasPrefix l x.data.toList) with | some i => (i : Int) | none => -1
theorem sIdx_at (l : List UInt8) (xs : List ByteArray) (k : Nat) (hk : k < xs.length) (hno : ∀ j (h : j < k), Lib.hasPrefix l (xs[j]'(by omega)).data.toList = false) (hy : Lib.hasPrefix l xs[k].data.toList = true) : sIdx l xs = k := by
 unfold sIdx
 have : xs.findIdx? (fun x => Lib.hasPrefix l x.data.toList) = some k := by
  rw [List.findIdx?_eq_some_iff_getElem]
  exact ⟨hk, hy, fun j hj => by simpa using hno j hj⟩
 rw [this]
theorem sIdx_none (l : List UInt8) (xs : List ByteArray) (hno : ∀ j (h : j < xs.length), Lib.hasPrefix l xs[j].data.toList = false) : sIdx l xs = -1 := by
 unfold sIdx
 have : xs.findIdx? (fun x => Lib.hasPrefix l x.data.toList) = none := by
  rw [List.findIdx?_eq_none_iff]
  intro x hx
  obtain ⟨j, hj, rfl⟩ := List.getElem_of_mem hx
  exact hno j hj
 rw [this]
theorem idxSign_any (xs : List ByteArray) (s : ByteArray) (g b pb fb fr cap : Nat) (w : World) (hx : ∀ i (h : i < xs.length), w.cell? ⟨g, i, none⟩ = some (.string xs[i])) (hl : xs.length ≤ 1000)
  (hp : w.cell? ⟨pb, 0, none⟩ = some (.pointer (some ⟨b, 0, none⟩)))
  (h0 : w.cell? ⟨b, 0, none⟩ = some (.string s)) (hf : w.cell? ⟨fb, 0, none⟩ = some (.int .i64 fr)) (hfs : fr ≤ s.size) (hs : s.size ≤ 9223372036854775807) :
  Calls Tryz.prog 191 #[.slice (some ⟨g, 0, none⟩) xs.length cap, .func (.func 193) #[] #[.pointer (some ⟨pb, 0, none⟩), .pointer (some ⟨fb, 0, none⟩)]] w fun e w' =>
   e = .returned (.int .i64 (sIdx (s.data.toList.drop fr) xs)) ∧ ∃ n, w.drewN n = w' := by
 have HX := Ld hx
 clear hx
 go_enter Tryz.func191, Tryz.ntmps191
 go_wp2_with fail
 go_loopw [8] (fun i wr => ∃ k n : Nat, k ≤ xs.length ∧ i = .int .i64 k ∧ w.drewN n = wr ∧ Hid (∀ j (h : j < k) (h' : j < xs.length), Lib.hasPrefix (s.data.toList.drop fr) xs[j].data.toList = false)) (fun i _ => xs.length - (intOf i).toNat)
 case atStart => exact ⟨0, 0, Nat.zero_le _, rfl, rfl, Ld (fun j h => by omega)⟩
 case round =>
  obtain ⟨k, n, hk, rfl, rfl, hno⟩ := hrel
  by_cases hlt : k < xs.length
  ·have hc := HX.out k hlt
   have i1 : (k : Int) < (xs.length : Int) := by omega
   cases hy : Lib.hasPrefix (s.data.toList.drop fr) xs[k].data.toList
   ·have hno' : Hid (∀ j (h : j < k + 1) (h' : j < xs.length), Lib.hasPrefix (s.data.toList.drop fr) xs[j].data.toList = false) := Ld (fun j h h' => by
     rcases Nat.lt_succ_iff_lt_or_eq.1 h with h | rfl
     ·exact hno.out j h h'
     ·exact hy)
    go_wp2_with (go_at_call 193; refine (adv1_any xs[k] s b pb fb fr _ (by exact hp) (by exact h0) (by exact hf) hfs hs).mono ?_; rintro e w' ⟨rfl, m, rfl⟩)
    go_roundw
    case rel => exact ⟨k + 1, n + m, by omega, by go_num, rfl, hno'⟩
    case measure => simp [intOf]; omega
   ·have hi := Ld (sIdx_at _ xs k hlt (fun j h => hno.out j h (by omega)) hy)
    go_wp2_with (go_at_call 193; refine (adv1_any xs[k] s b pb fb fr _ (by exact hp) (by exact h0) (by exact hf) hfs hs).mono ?_; rintro e w' ⟨rfl, m, rfl⟩)
    go_ret
    exact ⟨by rw [hi.out]; rfl, n + m, rfl⟩
  ·go_wp2_with fail
   go_ret
   exact ⟨by rw [sIdx_none _ _ (fun j h => hno.out j (by omega) h)]; rfl, n, rfl⟩
def allW (l : List UInt8) : Bool := l.all fun c => inWordB c.toNat
def identB (s : ByteArray) : Bool := decide (0 < s.size) && decide (s.size ≤ 16) && letterB (s.data.toList.headD 0).toNat && !keywordB s && allW s.data.toList
theorem empty_iff (s : ByteArray) : s.toList.isEmpty = !decide (0 < s.size) := by
 rw [Go.ByteArray.toList_eq]; obtain ⟨⟨l⟩⟩ := s; cases l <;> simp [ByteArray.size]
theorem head_of (s : ByteArray) (h : 0 < s.size) : s.data.toList.headD 0 = s[0] := by
 obtain ⟨⟨l⟩⟩ := s
 cases l with
 | nil => simp [ByteArray.size] at h
 | cons a t => rfl
theorem take_snoc (s : ByteArray) (k : Nat) (h : k < s.size) : s.data.toList.take (k + 1) = s.data.toList.take k ++ [s[k]] := by
 rw [List.take_succ_eq_append_getElem (by simpa using h)]; rfl
theorem allW_snoc (l : List UInt8) (c : UInt8) : allW (l ++ [c]) = (allW l && inWordB c.toNat) := by
 simp [allW]
theorem allW_false (s : ByteArray) (k : Nat) (h : k < s.size) (hc : inWordB s[k].toNat = false) : allW s.data.toList = false := by
 have e : s.data.toList = s.data.toList.take (k + 1) ++ s.data.toList.drop (k + 1) := (List.take_append_drop _ _).symm
 rw [e, take_snoc s k h]; simp only [allW, List.all_append, List.all_cons, List.all_nil, hc]; simp
theorem ident_any (s : ByteArray) (w : World) (hs : s.size ≤ 9223372036854775807) :
  Calls Tryz.prog 132 #[.string s] w fun e w' => e = .returned (.bool (identB s)) ∧ w = w' := by
 by_cases h0 : 0 < s.size
 case neg =>
  have h1 : s.toList.isEmpty = true := by rw [empty_iff, decide_eq_false h0]; rfl
  have hk := Ld (show identB s = false by unfold identB; rw [decide_eq_false h0]; rfl)
  clear h0
  go_enter Tryz.func132, Tryz.ntmps132
  go_wp2_with fail
  go_ret
  exact ⟨by rw [hk.out]; rfl, rfl⟩
 have h1 : s.toList.isEmpty = false := by rw [empty_iff, decide_eq_true h0]; rfl
 by_cases h16 : s.size ≤ 16
 case neg =>
  have hd : decide (16 < (s.size : Int)) = true := by simp; omega
  have hk := Ld (show identB s = false by unfold identB; rw [decide_eq_false h16]; simp)
  clear h16
  go_enter Tryz.func132, Tryz.ntmps132
  go_wp2_with fail
  go_ret
  exact ⟨by rw [hk.out]; rfl, rfl⟩
 have hd : decide (16 < (s.size : Int)) = false := by simp; omega
 have hh := head_of s h0
 cases hl : letterB (s[0].toNat)
 case false =>
  have hk := Ld (show identB s = false by unfold identB; rw [hh, hl]; simp)
  clear hh
  go_enter Tryz.func132, Tryz.ntmps132
  go_wp2_with (first | (go_at_call 185; refine (letter_any _ _).mono ?_; rintro e w' ⟨rfl, rfl⟩) | (go_at_call 101; refine (keyword_any _ _).mono ?_; rintro e w' ⟨rfl, rfl⟩))
  go_ret
  exact ⟨by rw [hk.out]; rfl, rfl⟩
 cases hkw : keywordB s
 case true =>
  have hk := Ld (show identB s = false by unfold identB; rw [hkw]; simp)
  clear hh
  go_enter Tryz.func132, Tryz.ntmps132
  go_wp2_with (first | (go_at_call 185; refine (letter_any _ _).mono ?_; rintro e w' ⟨rfl, rfl⟩) | (go_at_call 101; refine (keyword_any _ _).mono ?_; rintro e w' ⟨rfl, rfl⟩))
  go_ret
  exact ⟨by rw [hk.out]; rfl, rfl⟩
 have hk := Ld (show identB s = allW s.data.toList by unfold identB; rw [hh, hl, hkw, decide_eq_true h0, decide_eq_true h16]; simp)
 clear hh
 go_enter Tryz.func132, Tryz.ntmps132
 go_wp2_with (first | (go_at_call 185; refine (letter_any _ _).mono ?_; rintro e w' ⟨rfl, rfl⟩) | (go_at_call 101; refine (keyword_any _ _).mono ?_; rintro e w' ⟨rfl, rfl⟩))
 go_loop [23] (fun i => ∃ k : Nat, k ≤ s.size ∧ i = .int .i64 k ∧ Hid (allW (s.data.toList.take k) = true)) (fun i => s.size - (intOf i).toNat)
 case atStart => exact ⟨0, Nat.zero_le _, rfl, Ld (by simp [allW])⟩
 case round =>
  obtain ⟨k, hks, rfl, hall⟩ := hrel
  by_cases hlt : k < s.size
  ·cases hw : inWordB s[k].toNat
   ·have hf := Ld (allW_false s k hlt hw)
    go_wp2_with (go_at_call 186; refine (inWord_any _ _).mono ?_; rintro e w' ⟨rfl, rfl⟩)
    go_ret
    exact ⟨by rw [hk.out, hf.out]; rfl, rfl⟩
   ·have hall' : Hid (allW (s.data.toList.take (k + 1)) = true) := Ld (by rw [take_snoc s k hlt, allW_snoc, hall.out, hw]; rfl)
    go_wp2_with (go_at_call 186; refine (inWord_any _ _).mono ?_; rintro e w' ⟨rfl, rfl⟩)
    go_round
    case rel => exact ⟨k + 1, by omega, by go_num, hall'⟩
    case measure => simp [intOf]; omega
  ·have hf : Hid (allW s.data.toList = true) := by
    have h := hall.out
    rw [List.take_of_length_le (by simp; omega)] at h
    exact Ld h
   go_wp2_with fail
   go_ret
   exact ⟨by rw [hk.out, hf.out]; rfl, rfl⟩
end Go.Proofs.YtfhedienjnfdcaaGreatDoor
