/- Texts Leaf Base Scan of this proof, in one. -/
import Derived.Test.YtfhedienjnfdcaaGreatDoorProg
import Derived.WalkKit
import Derived.WalkSpells
import Derived.WalkLawsBesides
import Derived.Lib.Hide
set_option linter.unusedVariables false
set_option linter.unusedSimpArgs false
namespace Go.Proofs.YtfhedienjnfdcaaGreatDoor
open Go.RowKit
def kws : List (List UInt8) := [[116, 114, 117, 101], [102, 97, 108, 115, 101], [110, 111, 116], [111, 114], [102, 111, 114, 97, 108, 108], [101, 120, 105, 115, 116, 115], [105, 110], [110, 111, 116, 105, 110], [115, 117, 98], [109, 111, 100], [102, 117, 110], [99, 97, 114, 100], [109, 105, 110], [109, 97, 120], [100, 111, 109], [114, 97, 110], [80, 79, 87], [105, 110, 116], [98, 111, 111, 108], [115, 101, 116], [112, 97, 105, 114]]
def keywordB (s : ByteArray) : Bool := kws.contains s.toList
def letterB (c : Int) : Bool := (decide (97 ≤ c) && decide (c ≤ 122)) || (decide (65 ≤ c) && decide (c ≤ 90))
def digitB (c : Int) : Bool := decide (48 ≤ c) && decide (c ≤ 57)
def inWordB (c : Int) : Bool := letterB c || digitB c || c == 95
set_option maxHeartbeats 400000 in
theorem letter_any (c : Int) (w : World) :
    Calls Tryz.prog 185 #[.int .u8 c] w fun e w' => e = .returned (.bool (letterB c)) ∧ w = w' := by
  cases h1 : decide (97 ≤ c) <;> cases h2 : decide (c ≤ 122) <;> cases h3 : decide (65 ≤ c) <;> cases h4 : decide (c ≤ 90)
  all_goals
    have hk := Lib.hid (show letterB c = _ by unfold letterB; rw [h1, h2, h3, h4])
    go_enter Tryz.func185, Tryz.ntmps185
    go_wp2_with fail
    go_ret
    exact ⟨by rw [hk.out]; rfl, rfl⟩
set_option maxHeartbeats 400000 in
theorem digit_any (c : Int) (w : World) :
    Calls Tryz.prog 189 #[.int .u8 c] w fun e w' => e = .returned (.bool (digitB c)) ∧ w = w' := by
  cases h1 : decide (48 ≤ c) <;> cases h2 : decide (c ≤ 57)
  all_goals
    have hk := Lib.hid (show digitB c = _ by unfold digitB; rw [h1, h2])
    go_enter Tryz.func189, Tryz.ntmps189
    go_wp2_with fail
    go_ret
    exact ⟨by rw [hk.out]; rfl, rfl⟩
set_option maxHeartbeats 400000 in
theorem inWord_any (c : Int) (w : World) :
    Calls Tryz.prog 186 #[.int .u8 c] w fun e w' => e = .returned (.bool (inWordB c)) ∧ w = w' := by
  cases h1 : letterB c <;> cases h2 : digitB c <;> cases h3 : (c == 95)
  all_goals
    have hk := Lib.hid (show inWordB c = _ by unfold inWordB; rw [h1, h2, h3])
    go_enter Tryz.func186, Tryz.ntmps186
    go_wp2_with (first | (go_at_call 185; refine (letter_any _ _).mono ?_; rintro e w' ⟨rfl, rfl⟩) | (go_at_call 189; refine (digit_any _ _).mono ?_; rintro e w' ⟨rfl, rfl⟩))
    go_ret
    exact ⟨by rw [hk.out]; rfl, rfl⟩
set_option maxHeartbeats 1000000 in
theorem keyword_any (s : ByteArray) (w : World) :
    Calls Tryz.prog 101 #[.string s] w fun e w' => e = .returned (.bool (keywordB s)) ∧ w = w' := by
  cases h0 : (s.toList == [116, 114, 117, 101])
  case true =>
    have hk := Lib.hid (show keywordB s = true by simp only [keywordB, kws]; rw [eq_of_beq h0]; rfl)
    go_enter Tryz.func101, Tryz.ntmps101
    go_wp2_with fail
    go_ret
    exact ⟨by rw [hk.out]; rfl, rfl⟩
  cases h1 : (s.toList == [102, 97, 108, 115, 101])
  case true =>
    have hk := Lib.hid (show keywordB s = true by simp only [keywordB, kws]; rw [eq_of_beq h1]; rfl)
    go_enter Tryz.func101, Tryz.ntmps101
    go_wp2_with fail
    go_ret
    exact ⟨by rw [hk.out]; rfl, rfl⟩
  cases h2 : (s.toList == [110, 111, 116])
  case true =>
    have hk := Lib.hid (show keywordB s = true by simp only [keywordB, kws]; rw [eq_of_beq h2]; rfl)
    go_enter Tryz.func101, Tryz.ntmps101
    go_wp2_with fail
    go_ret
    exact ⟨by rw [hk.out]; rfl, rfl⟩
  cases h3 : (s.toList == [111, 114])
  case true =>
    have hk := Lib.hid (show keywordB s = true by simp only [keywordB, kws]; rw [eq_of_beq h3]; rfl)
    go_enter Tryz.func101, Tryz.ntmps101
    go_wp2_with fail
    go_ret
    exact ⟨by rw [hk.out]; rfl, rfl⟩
  cases h4 : (s.toList == [102, 111, 114, 97, 108, 108])
  case true =>
    have hk := Lib.hid (show keywordB s = true by simp only [keywordB, kws]; rw [eq_of_beq h4]; rfl)
    go_enter Tryz.func101, Tryz.ntmps101
    go_wp2_with fail
    go_ret
    exact ⟨by rw [hk.out]; rfl, rfl⟩
  cases h5 : (s.toList == [101, 120, 105, 115, 116, 115])
  case true =>
    have hk := Lib.hid (show keywordB s = true by simp only [keywordB, kws]; rw [eq_of_beq h5]; rfl)
    go_enter Tryz.func101, Tryz.ntmps101
    go_wp2_with fail
    go_ret
    exact ⟨by rw [hk.out]; rfl, rfl⟩
  cases h6 : (s.toList == [105, 110])
  case true =>
    have hk := Lib.hid (show keywordB s = true by simp only [keywordB, kws]; rw [eq_of_beq h6]; rfl)
    go_enter Tryz.func101, Tryz.ntmps101
    go_wp2_with fail
    go_ret
    exact ⟨by rw [hk.out]; rfl, rfl⟩
  cases h7 : (s.toList == [110, 111, 116, 105, 110])
  case true =>
    have hk := Lib.hid (show keywordB s = true by simp only [keywordB, kws]; rw [eq_of_beq h7]; rfl)
    go_enter Tryz.func101, Tryz.ntmps101
    go_wp2_with fail
    go_ret
    exact ⟨by rw [hk.out]; rfl, rfl⟩
  cases h8 : (s.toList == [115, 117, 98])
  case true =>
    have hk := Lib.hid (show keywordB s = true by simp only [keywordB, kws]; rw [eq_of_beq h8]; rfl)
    go_enter Tryz.func101, Tryz.ntmps101
    go_wp2_with fail
    go_ret
    exact ⟨by rw [hk.out]; rfl, rfl⟩
  cases h9 : (s.toList == [109, 111, 100])
  case true =>
    have hk := Lib.hid (show keywordB s = true by simp only [keywordB, kws]; rw [eq_of_beq h9]; rfl)
    go_enter Tryz.func101, Tryz.ntmps101
    go_wp2_with fail
    go_ret
    exact ⟨by rw [hk.out]; rfl, rfl⟩
  cases h10 : (s.toList == [102, 117, 110])
  case true =>
    have hk := Lib.hid (show keywordB s = true by simp only [keywordB, kws]; rw [eq_of_beq h10]; rfl)
    go_enter Tryz.func101, Tryz.ntmps101
    go_wp2_with fail
    go_ret
    exact ⟨by rw [hk.out]; rfl, rfl⟩
  cases h11 : (s.toList == [99, 97, 114, 100])
  case true =>
    have hk := Lib.hid (show keywordB s = true by simp only [keywordB, kws]; rw [eq_of_beq h11]; rfl)
    go_enter Tryz.func101, Tryz.ntmps101
    go_wp2_with fail
    go_ret
    exact ⟨by rw [hk.out]; rfl, rfl⟩
  cases h12 : (s.toList == [109, 105, 110])
  case true =>
    have hk := Lib.hid (show keywordB s = true by simp only [keywordB, kws]; rw [eq_of_beq h12]; rfl)
    go_enter Tryz.func101, Tryz.ntmps101
    go_wp2_with fail
    go_ret
    exact ⟨by rw [hk.out]; rfl, rfl⟩
  cases h13 : (s.toList == [109, 97, 120])
  case true =>
    have hk := Lib.hid (show keywordB s = true by simp only [keywordB, kws]; rw [eq_of_beq h13]; rfl)
    go_enter Tryz.func101, Tryz.ntmps101
    go_wp2_with fail
    go_ret
    exact ⟨by rw [hk.out]; rfl, rfl⟩
  cases h14 : (s.toList == [100, 111, 109])
  case true =>
    have hk := Lib.hid (show keywordB s = true by simp only [keywordB, kws]; rw [eq_of_beq h14]; rfl)
    go_enter Tryz.func101, Tryz.ntmps101
    go_wp2_with fail
    go_ret
    exact ⟨by rw [hk.out]; rfl, rfl⟩
  cases h15 : (s.toList == [114, 97, 110])
  case true =>
    have hk := Lib.hid (show keywordB s = true by simp only [keywordB, kws]; rw [eq_of_beq h15]; rfl)
    go_enter Tryz.func101, Tryz.ntmps101
    go_wp2_with fail
    go_ret
    exact ⟨by rw [hk.out]; rfl, rfl⟩
  cases h16 : (s.toList == [80, 79, 87])
  case true =>
    have hk := Lib.hid (show keywordB s = true by simp only [keywordB, kws]; rw [eq_of_beq h16]; rfl)
    go_enter Tryz.func101, Tryz.ntmps101
    go_wp2_with fail
    go_ret
    exact ⟨by rw [hk.out]; rfl, rfl⟩
  cases h17 : (s.toList == [105, 110, 116])
  case true =>
    have hk := Lib.hid (show keywordB s = true by simp only [keywordB, kws]; rw [eq_of_beq h17]; rfl)
    go_enter Tryz.func101, Tryz.ntmps101
    go_wp2_with fail
    go_ret
    exact ⟨by rw [hk.out]; rfl, rfl⟩
  cases h18 : (s.toList == [98, 111, 111, 108])
  case true =>
    have hk := Lib.hid (show keywordB s = true by simp only [keywordB, kws]; rw [eq_of_beq h18]; rfl)
    go_enter Tryz.func101, Tryz.ntmps101
    go_wp2_with fail
    go_ret
    exact ⟨by rw [hk.out]; rfl, rfl⟩
  cases h19 : (s.toList == [115, 101, 116])
  case true =>
    have hk := Lib.hid (show keywordB s = true by simp only [keywordB, kws]; rw [eq_of_beq h19]; rfl)
    go_enter Tryz.func101, Tryz.ntmps101
    go_wp2_with fail
    go_ret
    exact ⟨by rw [hk.out]; rfl, rfl⟩
  cases h20 : (s.toList == [112, 97, 105, 114])
  case true =>
    have hk := Lib.hid (show keywordB s = true by simp only [keywordB, kws]; rw [eq_of_beq h20]; rfl)
    go_enter Tryz.func101, Tryz.ntmps101
    go_wp2_with fail
    go_ret
    exact ⟨by rw [hk.out]; rfl, rfl⟩
  have hk := Lib.hid (show keywordB s = false by simp only [keywordB, kws, List.contains_cons, List.contains_nil, Bool.or_false, h0, h1, h2, h3, h4, h5, h6, h7, h8, h9, h10, h11, h12, h13, h14, h15, h16, h17, h18, h19, h20])
  go_enter Tryz.func101, Tryz.ntmps101
  go_wp2_with fail
  go_ret
  exact ⟨by rw [hk.out]; rfl, rfl⟩
structure Kept (S : Nat → Prop) (w w' : World) : Prop where
  os : w'.os = w.os
  tape : w'.tape = w.tape
  output : w'.output = w.output
  size : w.heap.size ≤ w'.heap.size
  block : ∀ k, k < w.heap.size → ¬ S k → w'.heap[k]? = w.heap[k]?
theorem Kept.refl (S : Nat → Prop) (w : World) : Kept S w w := ⟨rfl, rfl, rfl, Nat.le_refl _, fun _ _ _ => rfl⟩
theorem Kept.trans {S : Nat → Prop} {a b c : World} (h : Kept S a b) (k : Kept S b c) : Kept S a c :=
  ⟨k.os.trans h.os, k.tape.trans h.tape, k.output.trans h.output, Nat.le_trans h.size k.size, fun i hi hs => (k.block i (Nat.lt_of_lt_of_le hi h.size) hs).trans (h.block i hi hs)⟩
theorem Kept.mono {S T : Nat → Prop} {w w' : World} (h : Kept S w w') (hST : ∀ k, k < w.heap.size → S k → T k) : Kept T w w' :=
  ⟨h.os, h.tape, h.output, h.size, fun k hk hs => h.block k hk fun hS => hs (hST k hk hS)⟩
theorem Kept.of_below {S : Nat → Prop} {w w' : World} (h : Below w.heap.size w w') : Kept S w w' :=
  ⟨h.os, h.tape, h.output, h.size, fun k hk _ => h.block k hk⟩
theorem Kept.below {w w' : World} (h : Kept (fun _ => False) w w') : Below w.heap.size w w' :=
  ⟨h.os, h.tape, h.output, h.size, fun k hk => h.block k hk (fun h => h)⟩
theorem Kept.drew {S : Nat → Prop} {a w : World} (h : Kept S a w) : Kept S a w.drew := ⟨h.os, h.tape, h.output, h.size, h.block⟩
theorem Kept.drewN {S : Nat → Prop} {a w : World} (h : Kept S a w) (n : Nat) : Kept S a (w.drewN n) := ⟨h.os, h.tape, h.output, h.size, h.block⟩
theorem Kept.alloc {S : Nat → Prop} {a w : World} (h : Kept S a w) (o : Obj) : Kept S a (w.alloc o) :=
  h.trans ⟨rfl, rfl, rfl, by simp, fun k hk _ => Below.heap_alloc _ _ _ hk⟩
theorem Kept.setCell {S : Nat → Prop} {a w : World} (h : Kept S a w) {p : Addr} (hp : S p.block ∨ a.heap.size ≤ p.block) (u : Value) : Kept S a (w.setCell p u) := by
  refine ⟨h.os, h.tape, h.output, by simpa [World.setCell] using h.size, fun k hk hs => ?_⟩
  rw [Below.heap_setCell _ _ _ _ (by rintro rfl; rcases hp with hp | hp; exact hs hp; omega)]
  exact h.block k hk hs
theorem Kept.cell {S : Nat → Prop} {w w' : World} (h : Kept S w w') {p : Addr} (hp : p.block < w.heap.size) (hs : ¬ S p.block) : w'.cell? p = w.cell? p := World.cell?_of_block (w := w) (h.block p.block hp hs)
theorem Kept.frozen {S : Nat → Prop} {w w' : World} (h : Kept S w w') {p : Addr} (hp : p.block < w.heap.size) (hs : ¬ S p.block) : w'.frozen? p = w.frozen? p := World.frozen?_of_block (w := w) (h.block p.block hp hs)
def Blk (w : World) (b : Nat) (t : TypeId) (l : List Value) : Prop := w.heap[b]? = some (.cells l.toArray t (0, 0))
theorem Blk.lt {w : World} {b : Nat} {t : TypeId} {l : List Value} (h : Blk w b t l) : b < w.heap.size := by
  have : w.heap[b]? ≠ none := by rw [show w.heap[b]? = _ from h]; simp
  exact Array.getElem?_eq_some_iff.1 (show w.heap[b]? = _ from h) |>.1
theorem Blk.cell {w : World} {b : Nat} {t : TypeId} {l : List Value} (h : Blk w b t l) (i : Nat) : w.cell? ⟨b, i, none⟩ = l[i]? := by
  unfold World.cell?; rw [show w.heap[b]? = _ from h]; simp
theorem Blk.frozen {w : World} {b : Nat} {t : TypeId} {l : List Value} (h : Blk w b t l) (i : Nat) : w.frozen? ⟨b, i, none⟩ = false := by
  unfold World.frozen?; rw [show w.heap[b]? = _ from h]; simp
theorem Blk.set {w : World} {b : Nat} {t : TypeId} {l : List Value} (h : Blk w b t l) (i : Nat) (v : Value) : Blk (w.setCell ⟨b, i, none⟩ v) b t (l.set i v) := by
  unfold Blk World.setCell
  rw [Array.getElem?_modify, if_pos rfl, show w.heap[b]? = _ from h]
  simp
theorem Blk.set_other {w : World} {b : Nat} {t : TypeId} {l : List Value} (h : Blk w b t l) (p : Addr) (v : Value) (hp : b ≠ p.block) : Blk (w.setCell p v) b t l := by
  unfold Blk; rw [Below.heap_setCell _ _ _ _ hp]; exact h
theorem Blk.alloc {w : World} {b : Nat} {t : TypeId} {l : List Value} (h : Blk w b t l) (o : Obj) : Blk (w.alloc o) b t l := by
  unfold Blk; rw [Below.heap_alloc _ _ _ h.lt]; exact h
theorem Blk.new (w : World) (t : TypeId) (l : List Value) : Blk (w.alloc (.cells l.toArray t)) w.heap.size t l := by
  unfold Blk; show (w.heap.push _)[w.heap.size]? = _; simp
theorem Blk.drew {w : World} {b : Nat} {t : TypeId} {l : List Value} (h : Blk w b t l) : Blk w.drew b t l := h
theorem Blk.drewN {w : World} {b : Nat} {t : TypeId} {l : List Value} (h : Blk w b t l) (n : Nat) : Blk (w.drewN n) b t l := h
theorem Blk.kept {S : Nat → Prop} {w w' : World} {b : Nat} {t : TypeId} {l : List Value} (h : Blk w b t l) (hk : Kept S w w') (hs : ¬ S b) : Blk w' b t l := by
  unfold Blk; rw [hk.block b h.lt hs]; exact h
def scanF (P : Int → Bool) (s : ByteArray) : Nat → Nat → Nat
  | 0, p => p
  | f + 1, p => if h : p < s.size then (if P s[p].toNat then scanF P s f (p + 1) else p) else p
def scan (P : Int → Bool) (s : ByteArray) (p : Nat) : Nat := scanF P s (s.size - p) p
theorem scan_yes (P : Int → Bool) (s : ByteArray) (p : Nat) (h : p < s.size) (hp : P s[p].toNat = true) : scan P s p = scan P s (p + 1) := by
  unfold scan
  rw [show s.size - p = (s.size - (p + 1)) + 1 by omega]
  rw [scanF, dif_pos h, if_pos hp]
theorem scan_no (P : Int → Bool) (s : ByteArray) (p : Nat) (h : p < s.size) (hp : P s[p].toNat = false) : scan P s p = p := by
  unfold scan
  rw [show s.size - p = (s.size - (p + 1)) + 1 by omega]
  rw [scanF, dif_pos h, if_neg (by simp [hp])]
theorem scan_end (P : Int → Bool) (s : ByteArray) (p : Nat) (h : s.size ≤ p) : scan P s p = p := by
  unfold scan
  rw [show s.size - p = 0 by omega]; rfl
theorem scan_spec (P : Int → Bool) (s : ByteArray) (p : Nat) (h : p ≤ s.size) : p ≤ scan P s p ∧ scan P s p ≤ s.size ∧
    (∀ hq : scan P s p < s.size, P s[scan P s p].toNat = false) ∧ ∀ q (_ : p ≤ q) (_ : q < scan P s p) (hs : q < s.size), P s[q].toNat = true := by
  generalize hn : s.size - p = n
  induction n generalizing p with
  | zero =>
    rw [scan_end P s p (by omega)]
    exact ⟨Nat.le_refl _, h, fun hq => absurd hq (by omega), fun q _ hq _ => by omega⟩
  | succ n ih =>
    have hlt : p < s.size := by omega
    cases hp : P s[p].toNat
    · rw [scan_no P s p hlt hp]
      refine ⟨Nat.le_refl _, h, ?_, fun q _ hq _ => by omega⟩
      intro hq
      have : ∀ (r : Nat) (e : r = p) (hr : r < s.size), P s[r].toNat = false := by intro r e hr; subst e; exact hp
      exact this _ rfl hq
    · have e := scan_yes P s p hlt hp
      obtain ⟨a, b, c, d⟩ := ih (p + 1) (by omega) (by omega)
      have key : ∀ r, r = scan P s (p + 1) → p ≤ r ∧ r ≤ s.size ∧ (∀ hq : r < s.size, P s[r].toNat = false) ∧ ∀ q (_ : p ≤ q) (_ : q < r) (hs : q < s.size), P s[q].toNat = true := by
        intro r hr
        subst hr
        refine ⟨by omega, b, c, fun q hq hq' hs => ?_⟩
        by_cases hqp : q = p
        · subst hqp; exact hp
        · exact d q (by omega) hq' hs
      exact key _ e
def blankB (c : Int) : Bool := c == 32 || c == 9 || c == 10
def skip (s : ByteArray) (p : Nat) : Nat := scan blankB s p
def wend (s : ByteArray) (p : Nat) : Nat := scan inWordB s p
def pcells (s : ByteArray) (at_ : Nat) (k : Int) (tx : ByteArray) (n : Int) (ta nest : Nat) : List Value :=
  [.string s, .int .i64 at_, .int .i64 k, .string tx, .int .i64 n, .int .i64 ta, .int .i64 nest]
end Go.Proofs.YtfhedienjnfdcaaGreatDoor
