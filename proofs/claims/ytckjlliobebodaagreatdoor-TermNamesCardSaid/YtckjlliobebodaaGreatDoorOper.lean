/- The parser's method operator. -/
import Derived.Test.YtckjlliobebodaaGreatDoorSeven
set_option linter.unusedVariables false
set_option linter.unusedSimpArgs false
namespace Go.Proofs.YtckjlliobebodaaGreatDoor
open Go.RowKit
theorem opGo_no {σ : PS} : ∀ (k : Nat) (xs : List ByteArray) (os : List Int), k ≤ xs.length → xs.length = os.length → (∀ j (h : j < k) (h' : j < xs.length), isS σ xs[j] = false) → opGo σ xs os = opGo σ (xs.drop k) (os.drop k) := by
  intro k
  induction k with
  | zero => intro xs os _ _ _; rfl
  | succ k ih =>
    intro xs os hk hl hno
    match xs, os with
    | [], [] => rfl
    | x :: xs, o :: os =>
      have h0 := hno 0 (by omega) (by simp)
      simp only [List.getElem_cons_zero] at h0
      rw [opGo, h0]
      simp only [List.drop_succ_cons]
      exact ih xs os (by simpa using hk) (by simpa using hl) (fun j hj hj' => by have := hno (j + 1) (by omega) (by simp; omega); exact this)
theorem opGo_yes {σ : PS} {k : Nat} {xs : List ByteArray} {os : List Int} (hk : k < xs.length) (hl : xs.length = os.length) (hno : ∀ j (_ : j < k) (h' : j < xs.length), isS σ xs[j] = false) (hy : isS σ xs[k] = true) : opGo σ xs os = os[k]'(by omega) := by
  rw [opGo_no k xs os (by omega) hl hno, List.drop_eq_getElem_cons hk, List.drop_eq_getElem_cons (show k < os.length by omega), opGo, hy]
set_option maxHeartbeats 1000000 in
theorem operator_any {w : World} {b : Nat} {s : ByteArray} {σ : PS} (h : PW w b s σ) (gr : Int) (xs : List ByteArray) (os : List Int) (g g' : Nat) (hl : xs.length = os.length) (h9 : xs.length ≤ 1000)
    (hx : Blk w g 9 (xs.map Value.string)) (ho : Blk w g' 3 (os.map (Value.int .i64))) :
    Calls Tryz.prog 121 #[.pointer (some ⟨b, 0, none⟩), .agg #[.int .i64 gr, .slice (some ⟨g, 0, none⟩) xs.length xs.length, .slice (some ⟨g', 0, none⟩) os.length os.length]] w
      fun e w' => e = .returned (.int .i64 (opGo σ xs os)) ∧ Below w.heap.size w w' := by
  have h0 := h.alloc (.cells #[.int .i64 gr, .slice (some ⟨g, 0, none⟩) xs.length xs.length, .slice (some ⟨g', 0, none⟩) os.length os.length] 117)
  have HL := Lib.hid hl
  clear hl
  have X := Lib.hid (hx.alloc (.cells #[.int .i64 gr, .slice (some ⟨g, 0, none⟩) xs.length xs.length, .slice (some ⟨g', 0, none⟩) os.length os.length] 117))
  have O := Lib.hid (ho.alloc (.cells #[.int .i64 gr, .slice (some ⟨g, 0, none⟩) xs.length xs.length, .slice (some ⟨g', 0, none⟩) os.length os.length] 117))
  have lg := hx.lt
  have lg' := ho.lt
  go_enter Tryz.func121, Tryz.ntmps121
  go_wp2_with fail
  go_loopg [10] xs.length (fun m i wr => wr = w.alloc (.cells #[.int .i64 gr, .slice (some ⟨g, 0, none⟩) xs.length xs.length, .slice (some ⟨g', 0, none⟩) os.length os.length] 117) ∧ ∃ k : Nat, k ≤ xs.length ∧ m = xs.length - k ∧ i = .int .i64 k ∧ Hid (∀ j (h : j < k) (h' : j < xs.length), isS σ xs[j] = false))
  case atStart => exact ⟨rfl, 0, Nat.zero_le _, rfl, rfl, Lib.hid (fun j h => by omega)⟩
  case round =>
    obtain ⟨rfl, k, hk, rfl, rfl, hno⟩ := hrel
    by_cases hlt : k < xs.length
    · have i1 : (k : Int) < (xs.length : Int) := by omega
      have i2 : (0 : Int) ≤ (k : Int) := by omega
      have hc := X.out.cell k
      rw [List.getElem?_map, List.getElem?_eq_getElem hlt] at hc
      simp only [Option.map_some] at hc
      cases hy : isS σ xs[k]
      · have hno' : Hid (∀ j (h : j < k + 1) (h' : j < xs.length), isS σ xs[j] = false) := Lib.hid (fun j h h' => by
          rcases Nat.lt_succ_iff_lt_or_eq.1 h with h | rfl
          · exact hno.out j h h'
          · exact hy)
        go_wp2_with (go_at_call 116; refine (is_any h0 _ hy).mono ?_; rintro e w' ⟨rfl, rfl⟩)
        go_roundg (xs.length - (k + 1))
        case measure => omega
        case rel => exact ⟨rfl, k + 1, by omega, rfl, by go_num, hno'⟩
      · have hr := Lib.hid (opGo_yes hlt HL.out hno.out hy)
        have hlt' : k < os.length := by have := HL.out; omega
        have i3 : (k : Int) < (os.length : Int) := by omega
        have hc' := O.out.cell k
        rw [List.getElem?_map, List.getElem?_eq_getElem hlt'] at hc'
        simp only [Option.map_some] at hc'
        go_wp2_with (go_at_call 116; refine (is_any h0 _ hy).mono ?_; rintro e w' ⟨rfl, rfl⟩)
        go_ret
        exact ⟨by rw [hr.out]; rfl, (Below.refl _ _).alloc (Nat.le_refl _) _⟩
    · have hr : Hid (opGo σ xs os = 0) := Lib.hid (by
        rw [opGo_no k xs os hk HL.out hno.out, List.drop_of_length_le (by omega)]
        rfl)
      have i1 : decide ((k : Int) < (xs.length : Int)) = false := by simp; omega
      go_wp2_with fail
      go_ret
      exact ⟨by rw [hr.out]; rfl, (Below.refl _ _).alloc (Nat.le_refl _) _⟩
def lvOK (n : Nat) : Prop := n = 1 ∨ n = 2 ∨ n = 3 ∨ n = 4 ∨ n = 6 ∨ n = 7 ∨ n = 8 ∨ n = 9 ∨ n = 10 ∨ n = 11 ∨ n = 12
/-- What levels() hands out, as far as one level goes. -/
def LvPost (n : Nat) (w : World) (e : Ending) (w' : World) : Prop := ∃ A : Array Value, e = .returned (.agg A) ∧
  (∃ g g', w.heap.size ≤ g ∧ w.heap.size ≤ g' ∧ (∀ W, (Instr.index 118 (.agg A) (.int .i64 n)).run Tryz.prog W = .ok (.agg #[.int .i64 (lvGroup n), .slice (some ⟨g, 0, none⟩) (lvSigns n).length (lvSigns n).length, .slice (some ⟨g', 0, none⟩) (lvOps n).length (lvOps n).length]) W) ∧
    Blk w' g 9 ((lvSigns n).map Value.string) ∧ Blk w' g' 3 ((lvOps n).map (Value.int .i64))) ∧ Below w.heap.size w w'
theorem lv_new (w : World) (i : Nat) (t : TypeId) (l : List Value) (h : lvObjs[i + 1]? = some (.cells l.toArray t)) : Blk ((lvObjs.foldl World.alloc w).setCells w.heap.size 0 (lvGo lvTab (w.heap.size + 1))) (w.heap.size + (i + 1)) t l := by
  refine Blk.setCells_other ?_ (by omega)
  have hl : i + 1 < lvObjs.length := by
    by_cases hl : i + 1 < lvObjs.length
    · exact hl
    · rw [List.getElem?_eq_none (by omega)] at h; cases h
  exact (heap_allocs lvObjs w (i + 1) hl).trans h
theorem lv_below (w : World) : Below w.heap.size w ((lvObjs.foldl World.alloc w).setCells w.heap.size 0 (lvGo lvTab (w.heap.size + 1))) :=
  (Kept.setCells (S := fun _ => False) (Kept.of_below (below_allocs lvObjs w)) (Or.inr (Nat.le_refl _))).below
theorem levels_1 (w : World) : Calls Tryz.prog 120 #[] w (LvPost 1 w) :=
  (levels_any w).mono fun e w' h => ⟨_, h.1, ⟨w.heap.size + (0 + 1), w.heap.size + (1 + 1), by omega, by omega, fun _ => by kernel_rfl, by rw [h.2]; exact lv_new w 0 9 _ rfl, by rw [h.2]; exact lv_new w 1 3 _ rfl⟩, by rw [h.2]; exact lv_below w⟩
theorem levels_2 (w : World) : Calls Tryz.prog 120 #[] w (LvPost 2 w) :=
  (levels_any w).mono fun e w' h => ⟨_, h.1, ⟨w.heap.size + (2 + 1), w.heap.size + (3 + 1), by omega, by omega, fun _ => by kernel_rfl, by rw [h.2]; exact lv_new w 2 9 _ rfl, by rw [h.2]; exact lv_new w 3 3 _ rfl⟩, by rw [h.2]; exact lv_below w⟩
theorem levels_3 (w : World) : Calls Tryz.prog 120 #[] w (LvPost 3 w) :=
  (levels_any w).mono fun e w' h => ⟨_, h.1, ⟨w.heap.size + (4 + 1), w.heap.size + (5 + 1), by omega, by omega, fun _ => by kernel_rfl, by rw [h.2]; exact lv_new w 4 9 _ rfl, by rw [h.2]; exact lv_new w 5 3 _ rfl⟩, by rw [h.2]; exact lv_below w⟩
theorem levels_4 (w : World) : Calls Tryz.prog 120 #[] w (LvPost 4 w) :=
  (levels_any w).mono fun e w' h => ⟨_, h.1, ⟨w.heap.size + (6 + 1), w.heap.size + (7 + 1), by omega, by omega, fun _ => by kernel_rfl, by rw [h.2]; exact lv_new w 6 9 _ rfl, by rw [h.2]; exact lv_new w 7 3 _ rfl⟩, by rw [h.2]; exact lv_below w⟩
theorem levels_6 (w : World) : Calls Tryz.prog 120 #[] w (LvPost 6 w) :=
  (levels_any w).mono fun e w' h => ⟨_, h.1, ⟨w.heap.size + (8 + 1), w.heap.size + (9 + 1), by omega, by omega, fun _ => by kernel_rfl, by rw [h.2]; exact lv_new w 8 9 _ rfl, by rw [h.2]; exact lv_new w 9 3 _ rfl⟩, by rw [h.2]; exact lv_below w⟩
theorem levels_7 (w : World) : Calls Tryz.prog 120 #[] w (LvPost 7 w) :=
  (levels_any w).mono fun e w' h => ⟨_, h.1, ⟨w.heap.size + (10 + 1), w.heap.size + (11 + 1), by omega, by omega, fun _ => by kernel_rfl, by rw [h.2]; exact lv_new w 10 9 _ rfl, by rw [h.2]; exact lv_new w 11 3 _ rfl⟩, by rw [h.2]; exact lv_below w⟩
theorem levels_8 (w : World) : Calls Tryz.prog 120 #[] w (LvPost 8 w) :=
  (levels_any w).mono fun e w' h => ⟨_, h.1, ⟨w.heap.size + (12 + 1), w.heap.size + (13 + 1), by omega, by omega, fun _ => by kernel_rfl, by rw [h.2]; exact lv_new w 12 9 _ rfl, by rw [h.2]; exact lv_new w 13 3 _ rfl⟩, by rw [h.2]; exact lv_below w⟩
theorem levels_9 (w : World) : Calls Tryz.prog 120 #[] w (LvPost 9 w) :=
  (levels_any w).mono fun e w' h => ⟨_, h.1, ⟨w.heap.size + (14 + 1), w.heap.size + (15 + 1), by omega, by omega, fun _ => by kernel_rfl, by rw [h.2]; exact lv_new w 14 9 _ rfl, by rw [h.2]; exact lv_new w 15 3 _ rfl⟩, by rw [h.2]; exact lv_below w⟩
theorem levels_10 (w : World) : Calls Tryz.prog 120 #[] w (LvPost 10 w) :=
  (levels_any w).mono fun e w' h => ⟨_, h.1, ⟨w.heap.size + (16 + 1), w.heap.size + (17 + 1), by omega, by omega, fun _ => by kernel_rfl, by rw [h.2]; exact lv_new w 16 9 _ rfl, by rw [h.2]; exact lv_new w 17 3 _ rfl⟩, by rw [h.2]; exact lv_below w⟩
theorem levels_11 (w : World) : Calls Tryz.prog 120 #[] w (LvPost 11 w) :=
  (levels_any w).mono fun e w' h => ⟨_, h.1, ⟨w.heap.size + (18 + 1), w.heap.size + (19 + 1), by omega, by omega, fun _ => by kernel_rfl, by rw [h.2]; exact lv_new w 18 9 _ rfl, by rw [h.2]; exact lv_new w 19 3 _ rfl⟩, by rw [h.2]; exact lv_below w⟩
theorem levels_12 (w : World) : Calls Tryz.prog 120 #[] w (LvPost 12 w) :=
  (levels_any w).mono fun e w' h => ⟨_, h.1, ⟨w.heap.size + (20 + 1), w.heap.size + (21 + 1), by omega, by omega, fun _ => by kernel_rfl, by rw [h.2]; exact lv_new w 20 9 _ rfl, by rw [h.2]; exact lv_new w 21 3 _ rfl⟩, by rw [h.2]; exact lv_below w⟩
theorem levels_at {n : Nat} (hn : lvOK n) (w : World) : Calls Tryz.prog 120 #[] w (LvPost n w) := by
  rcases hn with rfl | rfl | rfl | rfl | rfl | rfl | rfl | rfl | rfl | rfl | rfl
  · exact levels_1 w
  · exact levels_2 w
  · exact levels_3 w
  · exact levels_4 w
  · exact levels_6 w
  · exact levels_7 w
  · exact levels_8 w
  · exact levels_9 w
  · exact levels_10 w
  · exact levels_11 w
  · exact levels_12 w
theorem lv_lens {n : Nat} (hn : lvOK n) : (lvSigns n).length = (lvOps n).length ∧ (lvSigns n).length ≤ 1000 := by
  rcases hn with rfl | rfl | rfl | rfl | rfl | rfl | rfl | rfl | rfl | rfl | rfl <;> decide
theorem lv_group {n : Nat} (hn : lvOK n) : lvGroup n = 0 ∨ lvGroup n = 1 ∨ lvGroup n = 2 := by
  rcases hn with rfl | rfl | rfl | rfl | rfl | rfl | rfl | rfl | rfl | rfl | rfl <;> decide
end Go.Proofs.YtckjlliobebodaaGreatDoor
