/- Texts Leaf Base Scan Shelf Sign Ident Adv ParA ParB Rd Rep of this proof, in one. -/
import Derived.Test.YtckjlliobebodaaGreatDoorProg
import Derived.WalkKit
import Derived.WalkSpells
import Derived.WalkLawsBesides
import Derived.Lib.Hide
import Derived.Shelf.Strings.Builder1
import Derived.Shelf.Strings.Trim
import Derived.Shelf.Small.Utf8
import Derived.Shelf.Small.Strs
import Derived.Shelf.Strings.BuilderF
import Derived.Shelf.Strings.BuilderK
import Derived.Shelf.Strconv.Atoi
import Derived.Shelf.Strconv.Itoa0
import Derived.Shelf.Strconv.Itoa1
import Derived.Shelf.LaysM
import Derived.Shelf.Strconv.Itoa2
import Derived.Shelf.Strconv.Itoa3
import Derived.Shelf.Strconv.AtoiErrFast
import Derived.Shelf.Strconv.ParseIntEmpty
import Derived.Shelf.Strconv.AtoiFail
import Derived.Shelf.Strconv.Clone
import Derived.Shelf.Strconv.SyntaxError
import Derived.Shelf.LaysC
import Derived.Shelf.Strconv.ToError
import Derived.Shelf.Strconv.Lower
import Derived.Shelf.Strconv.ParseUint10
import Derived.Shelf.Strconv.ParseUint10Empty
import Derived.Shelf.Strconv.ParseUint10Any
import Derived.Shelf.Strconv.ParseInt10
import Derived.Shelf.Strconv.AtoiLong
import Derived.Shelf.Strconv.AtoiInnerAll
import Derived.Shelf.Strconv.RangeError
import Derived.Shelf.Strconv.ToErrorRange
import Derived.Shelf.Strconv.AtoiAll
import Derived.Shelf.Strconv.ErrVarAll
import Derived.Shelf.Strings.Search1
import Derived.Shelf.Strings.Prefix
import Derived.Shelf.Strings.Runes
import Derived.Shelf.Strings.AsciiSet
import Derived.Shelf.Unicode.DecodeSlow
import Derived.Shelf.Slices.Turned
import Derived.Deep.QuietTactic
import Derived.BigQuiet
import Derived.Deep.CutBlock
import Derived.Deep.DeepCutAuto
import Derived.Recover
set_option linter.unusedVariables false
set_option linter.unusedSimpArgs false
namespace Go.Proofs.YtckjlliobebodaaGreatDoor
open Go.RowKit
def kws : List (List UInt8) := [[116, 114, 117, 101], [102, 97, 108, 115, 101], [110, 111, 116], [111, 114], [102, 111, 114, 97, 108, 108], [101, 120, 105, 115, 116, 115], [105, 110], [110, 111, 116, 105, 110], [115, 117, 98], [109, 111, 100], [102, 117, 110], [99, 97, 114, 100], [109, 105, 110], [109, 97, 120], [100, 111, 109], [114, 97, 110], [80, 79, 87], [105, 110, 116], [98, 111, 111, 108], [115, 101, 116], [112, 97, 105, 114]]
def keywordB (s : ByteArray) : Bool := kws.contains s.toList
def letterB (c : Int) : Bool := (decide (97 ≤ c) && decide (c ≤ 122)) || (decide (65 ≤ c) && decide (c ≤ 90))
def digitB (c : Int) : Bool := decide (48 ≤ c) && decide (c ≤ 57)
def inWordB (c : Int) : Bool := letterB c || digitB c || c == 95
set_option maxHeartbeats 400000 in
theorem letter_any (c : Int) (w : World) :
    Calls Tryz.prog 45 #[.int .u8 c] w fun e w' => e = .returned (.bool (letterB c)) ∧ w = w' := by
  cases h1 : decide (97 ≤ c) <;> cases h2 : decide (c ≤ 122) <;> cases h3 : decide (65 ≤ c) <;> cases h4 : decide (c ≤ 90)
  all_goals
    have hk := Lib.hid (show letterB c = _ by unfold letterB; rw [h1, h2, h3, h4])
    go_enter Tryz.func45, Tryz.ntmps45
    go_wp2_with fail
    go_ret
    exact ⟨by rw [hk.out]; rfl, rfl⟩
set_option maxHeartbeats 400000 in
theorem digit_any (c : Int) (w : World) :
    Calls Tryz.prog 91 #[.int .u8 c] w fun e w' => e = .returned (.bool (digitB c)) ∧ w = w' := by
  cases h1 : decide (48 ≤ c) <;> cases h2 : decide (c ≤ 57)
  all_goals
    have hk := Lib.hid (show digitB c = _ by unfold digitB; rw [h1, h2])
    go_enter Tryz.func91, Tryz.ntmps91
    go_wp2_with fail
    go_ret
    exact ⟨by rw [hk.out]; rfl, rfl⟩
set_option maxHeartbeats 400000 in
theorem inWord_any (c : Int) (w : World) :
    Calls Tryz.prog 47 #[.int .u8 c] w fun e w' => e = .returned (.bool (inWordB c)) ∧ w = w' := by
  cases h1 : letterB c <;> cases h2 : digitB c <;> cases h3 : (c == 95)
  all_goals
    have hk := Lib.hid (show inWordB c = _ by unfold inWordB; rw [h1, h2, h3])
    go_enter Tryz.func47, Tryz.ntmps47
    go_wp2_with (first | (go_at_call 45; refine (letter_any _ _).mono ?_; rintro e w' ⟨rfl, rfl⟩) | (go_at_call 91; refine (digit_any _ _).mono ?_; rintro e w' ⟨rfl, rfl⟩))
    go_ret
    exact ⟨by rw [hk.out]; rfl, rfl⟩
set_option maxHeartbeats 1000000 in
theorem keyword_any (s : ByteArray) (w : World) :
    Calls Tryz.prog 46 #[.string s] w fun e w' => e = .returned (.bool (keywordB s)) ∧ w = w' := by
  cases h0 : (s.toList == [116, 114, 117, 101])
  case true =>
    have hk := Lib.hid (show keywordB s = true by simp only [keywordB, kws]; rw [eq_of_beq h0]; rfl)
    go_enter Tryz.func46, Tryz.ntmps46
    go_wp2_with fail
    go_ret
    exact ⟨by rw [hk.out]; rfl, rfl⟩
  cases h1 : (s.toList == [102, 97, 108, 115, 101])
  case true =>
    have hk := Lib.hid (show keywordB s = true by simp only [keywordB, kws]; rw [eq_of_beq h1]; rfl)
    go_enter Tryz.func46, Tryz.ntmps46
    go_wp2_with fail
    go_ret
    exact ⟨by rw [hk.out]; rfl, rfl⟩
  cases h2 : (s.toList == [110, 111, 116])
  case true =>
    have hk := Lib.hid (show keywordB s = true by simp only [keywordB, kws]; rw [eq_of_beq h2]; rfl)
    go_enter Tryz.func46, Tryz.ntmps46
    go_wp2_with fail
    go_ret
    exact ⟨by rw [hk.out]; rfl, rfl⟩
  cases h3 : (s.toList == [111, 114])
  case true =>
    have hk := Lib.hid (show keywordB s = true by simp only [keywordB, kws]; rw [eq_of_beq h3]; rfl)
    go_enter Tryz.func46, Tryz.ntmps46
    go_wp2_with fail
    go_ret
    exact ⟨by rw [hk.out]; rfl, rfl⟩
  cases h4 : (s.toList == [102, 111, 114, 97, 108, 108])
  case true =>
    have hk := Lib.hid (show keywordB s = true by simp only [keywordB, kws]; rw [eq_of_beq h4]; rfl)
    go_enter Tryz.func46, Tryz.ntmps46
    go_wp2_with fail
    go_ret
    exact ⟨by rw [hk.out]; rfl, rfl⟩
  cases h5 : (s.toList == [101, 120, 105, 115, 116, 115])
  case true =>
    have hk := Lib.hid (show keywordB s = true by simp only [keywordB, kws]; rw [eq_of_beq h5]; rfl)
    go_enter Tryz.func46, Tryz.ntmps46
    go_wp2_with fail
    go_ret
    exact ⟨by rw [hk.out]; rfl, rfl⟩
  cases h6 : (s.toList == [105, 110])
  case true =>
    have hk := Lib.hid (show keywordB s = true by simp only [keywordB, kws]; rw [eq_of_beq h6]; rfl)
    go_enter Tryz.func46, Tryz.ntmps46
    go_wp2_with fail
    go_ret
    exact ⟨by rw [hk.out]; rfl, rfl⟩
  cases h7 : (s.toList == [110, 111, 116, 105, 110])
  case true =>
    have hk := Lib.hid (show keywordB s = true by simp only [keywordB, kws]; rw [eq_of_beq h7]; rfl)
    go_enter Tryz.func46, Tryz.ntmps46
    go_wp2_with fail
    go_ret
    exact ⟨by rw [hk.out]; rfl, rfl⟩
  cases h8 : (s.toList == [115, 117, 98])
  case true =>
    have hk := Lib.hid (show keywordB s = true by simp only [keywordB, kws]; rw [eq_of_beq h8]; rfl)
    go_enter Tryz.func46, Tryz.ntmps46
    go_wp2_with fail
    go_ret
    exact ⟨by rw [hk.out]; rfl, rfl⟩
  cases h9 : (s.toList == [109, 111, 100])
  case true =>
    have hk := Lib.hid (show keywordB s = true by simp only [keywordB, kws]; rw [eq_of_beq h9]; rfl)
    go_enter Tryz.func46, Tryz.ntmps46
    go_wp2_with fail
    go_ret
    exact ⟨by rw [hk.out]; rfl, rfl⟩
  cases h10 : (s.toList == [102, 117, 110])
  case true =>
    have hk := Lib.hid (show keywordB s = true by simp only [keywordB, kws]; rw [eq_of_beq h10]; rfl)
    go_enter Tryz.func46, Tryz.ntmps46
    go_wp2_with fail
    go_ret
    exact ⟨by rw [hk.out]; rfl, rfl⟩
  cases h11 : (s.toList == [99, 97, 114, 100])
  case true =>
    have hk := Lib.hid (show keywordB s = true by simp only [keywordB, kws]; rw [eq_of_beq h11]; rfl)
    go_enter Tryz.func46, Tryz.ntmps46
    go_wp2_with fail
    go_ret
    exact ⟨by rw [hk.out]; rfl, rfl⟩
  cases h12 : (s.toList == [109, 105, 110])
  case true =>
    have hk := Lib.hid (show keywordB s = true by simp only [keywordB, kws]; rw [eq_of_beq h12]; rfl)
    go_enter Tryz.func46, Tryz.ntmps46
    go_wp2_with fail
    go_ret
    exact ⟨by rw [hk.out]; rfl, rfl⟩
  cases h13 : (s.toList == [109, 97, 120])
  case true =>
    have hk := Lib.hid (show keywordB s = true by simp only [keywordB, kws]; rw [eq_of_beq h13]; rfl)
    go_enter Tryz.func46, Tryz.ntmps46
    go_wp2_with fail
    go_ret
    exact ⟨by rw [hk.out]; rfl, rfl⟩
  cases h14 : (s.toList == [100, 111, 109])
  case true =>
    have hk := Lib.hid (show keywordB s = true by simp only [keywordB, kws]; rw [eq_of_beq h14]; rfl)
    go_enter Tryz.func46, Tryz.ntmps46
    go_wp2_with fail
    go_ret
    exact ⟨by rw [hk.out]; rfl, rfl⟩
  cases h15 : (s.toList == [114, 97, 110])
  case true =>
    have hk := Lib.hid (show keywordB s = true by simp only [keywordB, kws]; rw [eq_of_beq h15]; rfl)
    go_enter Tryz.func46, Tryz.ntmps46
    go_wp2_with fail
    go_ret
    exact ⟨by rw [hk.out]; rfl, rfl⟩
  cases h16 : (s.toList == [80, 79, 87])
  case true =>
    have hk := Lib.hid (show keywordB s = true by simp only [keywordB, kws]; rw [eq_of_beq h16]; rfl)
    go_enter Tryz.func46, Tryz.ntmps46
    go_wp2_with fail
    go_ret
    exact ⟨by rw [hk.out]; rfl, rfl⟩
  cases h17 : (s.toList == [105, 110, 116])
  case true =>
    have hk := Lib.hid (show keywordB s = true by simp only [keywordB, kws]; rw [eq_of_beq h17]; rfl)
    go_enter Tryz.func46, Tryz.ntmps46
    go_wp2_with fail
    go_ret
    exact ⟨by rw [hk.out]; rfl, rfl⟩
  cases h18 : (s.toList == [98, 111, 111, 108])
  case true =>
    have hk := Lib.hid (show keywordB s = true by simp only [keywordB, kws]; rw [eq_of_beq h18]; rfl)
    go_enter Tryz.func46, Tryz.ntmps46
    go_wp2_with fail
    go_ret
    exact ⟨by rw [hk.out]; rfl, rfl⟩
  cases h19 : (s.toList == [115, 101, 116])
  case true =>
    have hk := Lib.hid (show keywordB s = true by simp only [keywordB, kws]; rw [eq_of_beq h19]; rfl)
    go_enter Tryz.func46, Tryz.ntmps46
    go_wp2_with fail
    go_ret
    exact ⟨by rw [hk.out]; rfl, rfl⟩
  cases h20 : (s.toList == [112, 97, 105, 114])
  case true =>
    have hk := Lib.hid (show keywordB s = true by simp only [keywordB, kws]; rw [eq_of_beq h20]; rfl)
    go_enter Tryz.func46, Tryz.ntmps46
    go_wp2_with fail
    go_ret
    exact ⟨by rw [hk.out]; rfl, rfl⟩
  have hk := Lib.hid (show keywordB s = false by simp only [keywordB, kws, List.contains_cons, List.contains_nil, Bool.or_false, h0, h1, h2, h3, h4, h5, h6, h7, h8, h9, h10, h11, h12, h13, h14, h15, h16, h17, h18, h19, h20])
  go_enter Tryz.func46, Tryz.ntmps46
  go_wp2_with fail
  go_ret
  exact ⟨by rw [hk.out]; rfl, rfl⟩
structure Kept (S : Nat → Prop) (w w' : World) : Prop where
  os : w'.os = w.os
  tape : w'.tape = w.tape
  output : w'.output = w.output
  size : w.heap.size ≤ w'.heap.size
  block : ∀ k, k < w.heap.size → ¬ S k → w'.heap[k]? = w.heap[k]?
theorem Kept.refl (S : Nat → Prop) (w : World) : Kept S w w := ⟨rfl, rfl, rfl, Nat.le_refl _, fun _ _ _ => rfl⟩
theorem Kept.trans {S : Nat → Prop} {a b c : World} (h : Kept S a b) (k : Kept S b c) : Kept S a c :=
  ⟨k.os.trans h.os, k.tape.trans h.tape, k.output.trans h.output, Nat.le_trans h.size k.size, fun i hi hs => (k.block i (Nat.lt_of_lt_of_le hi h.size) hs).trans (h.block i hi hs)⟩
theorem Kept.mono {S T : Nat → Prop} {w w' : World} (h : Kept S w w') (hST : ∀ k, k < w.heap.size → S k → T k) : Kept T w w' :=
  ⟨h.os, h.tape, h.output, h.size, fun k hk hs => h.block k hk fun hS => hs (hST k hk hS)⟩
theorem Kept.of_below {S : Nat → Prop} {w w' : World} (h : Below w.heap.size w w') : Kept S w w' :=
  ⟨h.os, h.tape, h.output, h.size, fun k hk _ => h.block k hk⟩
theorem Kept.below {w w' : World} (h : Kept (fun _ => False) w w') : Below w.heap.size w w' :=
  ⟨h.os, h.tape, h.output, h.size, fun k hk => h.block k hk (fun h => h)⟩
theorem Kept.drew {S : Nat → Prop} {a w : World} (h : Kept S a w) : Kept S a w.drew := ⟨h.os, h.tape, h.output, h.size, h.block⟩
theorem Kept.drewN {S : Nat → Prop} {a w : World} (h : Kept S a w) (n : Nat) : Kept S a (w.drewN n) := ⟨h.os, h.tape, h.output, h.size, h.block⟩
theorem Kept.alloc {S : Nat → Prop} {a w : World} (h : Kept S a w) (o : Obj) : Kept S a (w.alloc o) :=
  h.trans ⟨rfl, rfl, rfl, by simp, fun k hk _ => Below.heap_alloc _ _ _ hk⟩
theorem Kept.setCell {S : Nat → Prop} {a w : World} (h : Kept S a w) {p : Addr} (hp : S p.block ∨ a.heap.size ≤ p.block) (u : Value) : Kept S a (w.setCell p u) := by
  refine ⟨h.os, h.tape, h.output, by simpa [World.setCell] using h.size, fun k hk hs => ?_⟩
  rw [Below.heap_setCell _ _ _ _ (by rintro rfl; rcases hp with hp | hp; exact hs hp; omega)]
  exact h.block k hk hs
theorem Kept.cell {S : Nat → Prop} {w w' : World} (h : Kept S w w') {p : Addr} (hp : p.block < w.heap.size) (hs : ¬ S p.block) : w'.cell? p = w.cell? p := World.cell?_of_block (w := w) (h.block p.block hp hs)
theorem Kept.frozen {S : Nat → Prop} {w w' : World} (h : Kept S w w') {p : Addr} (hp : p.block < w.heap.size) (hs : ¬ S p.block) : w'.frozen? p = w.frozen? p := World.frozen?_of_block (w := w) (h.block p.block hp hs)
def Blk (w : World) (b : Nat) (t : TypeId) (l : List Value) : Prop := w.heap[b]? = some (.cells l.toArray t (0, 0))
theorem Blk.lt {w : World} {b : Nat} {t : TypeId} {l : List Value} (h : Blk w b t l) : b < w.heap.size := by
  have : w.heap[b]? ≠ none := by rw [show w.heap[b]? = _ from h]; simp
  exact Array.getElem?_eq_some_iff.1 (show w.heap[b]? = _ from h) |>.1
theorem Blk.cell {w : World} {b : Nat} {t : TypeId} {l : List Value} (h : Blk w b t l) (i : Nat) : w.cell? ⟨b, i, none⟩ = l[i]? := by
  unfold World.cell?; rw [show w.heap[b]? = _ from h]; simp
theorem Blk.frozen {w : World} {b : Nat} {t : TypeId} {l : List Value} (h : Blk w b t l) (i : Nat) : w.frozen? ⟨b, i, none⟩ = false := by
  unfold World.frozen?; rw [show w.heap[b]? = _ from h]; simp
theorem Blk.set {w : World} {b : Nat} {t : TypeId} {l : List Value} (h : Blk w b t l) (i : Nat) (v : Value) : Blk (w.setCell ⟨b, i, none⟩ v) b t (l.set i v) := by
  unfold Blk World.setCell
  rw [Array.getElem?_modify, if_pos rfl, show w.heap[b]? = _ from h]
  simp
theorem Blk.set_other {w : World} {b : Nat} {t : TypeId} {l : List Value} (h : Blk w b t l) (p : Addr) (v : Value) (hp : b ≠ p.block) : Blk (w.setCell p v) b t l := by
  unfold Blk; rw [Below.heap_setCell _ _ _ _ hp]; exact h
theorem Blk.alloc {w : World} {b : Nat} {t : TypeId} {l : List Value} (h : Blk w b t l) (o : Obj) : Blk (w.alloc o) b t l := by
  unfold Blk; rw [Below.heap_alloc _ _ _ h.lt]; exact h
theorem Blk.new (w : World) (t : TypeId) (l : List Value) : Blk (w.alloc (.cells l.toArray t)) w.heap.size t l := by
  unfold Blk; show (w.heap.push _)[w.heap.size]? = _; simp
theorem Blk.drew {w : World} {b : Nat} {t : TypeId} {l : List Value} (h : Blk w b t l) : Blk w.drew b t l := h
theorem Blk.drewN {w : World} {b : Nat} {t : TypeId} {l : List Value} (h : Blk w b t l) (n : Nat) : Blk (w.drewN n) b t l := h
theorem Blk.kept {S : Nat → Prop} {w w' : World} {b : Nat} {t : TypeId} {l : List Value} (h : Blk w b t l) (hk : Kept S w w') (hs : ¬ S b) : Blk w' b t l := by
  unfold Blk; rw [hk.block b h.lt hs]; exact h
def scanF (P : Int → Bool) (s : ByteArray) : Nat → Nat → Nat
  | 0, p => p
  | f + 1, p => if h : p < s.size then (if P s[p].toNat then scanF P s f (p + 1) else p) else p
def scan (P : Int → Bool) (s : ByteArray) (p : Nat) : Nat := scanF P s (s.size - p) p
theorem scan_yes (P : Int → Bool) (s : ByteArray) (p : Nat) (h : p < s.size) (hp : P s[p].toNat = true) : scan P s p = scan P s (p + 1) := by
  unfold scan
  rw [show s.size - p = (s.size - (p + 1)) + 1 by omega]
  rw [scanF, dif_pos h, if_pos hp]
theorem scan_no (P : Int → Bool) (s : ByteArray) (p : Nat) (h : p < s.size) (hp : P s[p].toNat = false) : scan P s p = p := by
  unfold scan
  rw [show s.size - p = (s.size - (p + 1)) + 1 by omega]
  rw [scanF, dif_pos h, if_neg (by simp [hp])]
theorem scan_end (P : Int → Bool) (s : ByteArray) (p : Nat) (h : s.size ≤ p) : scan P s p = p := by
  unfold scan
  rw [show s.size - p = 0 by omega]; rfl
theorem scan_spec (P : Int → Bool) (s : ByteArray) (p : Nat) (h : p ≤ s.size) : p ≤ scan P s p ∧ scan P s p ≤ s.size ∧
    (∀ hq : scan P s p < s.size, P s[scan P s p].toNat = false) ∧ ∀ q (_ : p ≤ q) (_ : q < scan P s p) (hs : q < s.size), P s[q].toNat = true := by
  generalize hn : s.size - p = n
  induction n generalizing p with
  | zero =>
    rw [scan_end P s p (by omega)]
    exact ⟨Nat.le_refl _, h, fun hq => absurd hq (by omega), fun q _ hq _ => by omega⟩
  | succ n ih =>
    have hlt : p < s.size := by omega
    cases hp : P s[p].toNat
    · rw [scan_no P s p hlt hp]
      refine ⟨Nat.le_refl _, h, ?_, fun q _ hq _ => by omega⟩
      intro hq
      have : ∀ (r : Nat) (e : r = p) (hr : r < s.size), P s[r].toNat = false := by intro r e hr; subst e; exact hp
      exact this _ rfl hq
    · have e := scan_yes P s p hlt hp
      obtain ⟨a, b, c, d⟩ := ih (p + 1) (by omega) (by omega)
      have key : ∀ r, r = scan P s (p + 1) → p ≤ r ∧ r ≤ s.size ∧ (∀ hq : r < s.size, P s[r].toNat = false) ∧ ∀ q (_ : p ≤ q) (_ : q < r) (hs : q < s.size), P s[q].toNat = true := by
        intro r hr
        subst hr
        refine ⟨by omega, b, c, fun q hq hq' hs => ?_⟩
        by_cases hqp : q = p
        · subst hqp; exact hp
        · exact d q (by omega) hq' hs
      exact key _ e
def blankB (c : Int) : Bool := c == 32 || c == 9 || c == 10
def skip (s : ByteArray) (p : Nat) : Nat := scan blankB s p
def wend (s : ByteArray) (p : Nat) : Nat := scan inWordB s p
def pcells (s : ByteArray) (at_ : Nat) (k : Int) (tx : ByteArray) (n : Int) (ta nest : Nat) : List Value :=
  [.string s, .int .i64 at_, .int .i64 k, .string tx, .int .i64 n, .int .i64 ta, .int .i64 nest]
end Go.Proofs.YtckjlliobebodaaGreatDoor
namespace Go.Proofs
open Go.Shelf
def Tryz.laysM171_ren : Go.Shelf.Ren := ⟨fun | 171 => 83 | 243 => 132 | 246 => 160 | 283 => 176 | 284 => 177 | 285 => 178 | 286 => 179 | 129 => 189 | 317 => 188 | 318 => 190 | 319 => 191 | 320 => 192 | 337 => 196 | 338 => 197 | n => n, fun | 3 => 3 | 9 => 9 | 2 => 2 | 4 => 4 | 171 => 153 | 0 => 0 | 53 => 154 | 37 => 67 | 5 => 5 | 173 => 157 | 212 => 170 | 51 => 171 | 20 => 20 | 213 => 172 | 46 => 161 | 232 => 183 | 233 => 184 | n => n, fun | 17 => 2 | 18 => 6 | 19 => 7 | n => n⟩
theorem Tryz.laysM171 : Go.Proofs.LaysM.n171 Tryz.prog Tryz.laysM171_ren := {
  mixed := by kernel_rfl
  f129 := Tryz.func189.trans (congrArg some (by kernel_rfl))
  f171 := Tryz.func83.trans (congrArg some (by kernel_rfl))
  f243 := Tryz.func132.trans (congrArg some (by kernel_rfl))
  f246 := Tryz.func160.trans (congrArg some (by kernel_rfl))
  f283 := Tryz.func176.trans (congrArg some (by kernel_rfl))
  f284 := Tryz.func177.trans (congrArg some (by kernel_rfl))
  f285 := Tryz.func178.trans (congrArg some (by kernel_rfl))
  f286 := Tryz.func179.trans (congrArg some (by kernel_rfl))
  f317 := Tryz.func188.trans (congrArg some (by kernel_rfl))
  f318 := Tryz.func190.trans (congrArg some (by kernel_rfl))
  f319 := Tryz.func191.trans (congrArg some (by kernel_rfl))
  f320 := Tryz.func192.trans (congrArg some (by kernel_rfl))
  f337 := Tryz.func196.trans (congrArg some (by kernel_rfl))
  f338 := Tryz.func197.trans (congrArg some (by kernel_rfl))
  t0 := Tryz.underlying0
  a0 := Tryz.isAgg0
  z0 := Tryz.sizeOf0
  v0 := Tryz.zeroValue0
  t2 := Tryz.underlying2
  a2 := Tryz.isAgg2
  z2 := Tryz.sizeOf2
  v2 := Tryz.zeroValue2
  t3 := Tryz.underlying3
  a3 := Tryz.isAgg3
  z3 := Tryz.sizeOf3
  v3 := Tryz.zeroValue3
  t4 := Tryz.underlying4
  a4 := Tryz.isAgg4
  z4 := Tryz.sizeOf4
  v4 := Tryz.zeroValue4
  t5 := Tryz.underlying5
  a5 := Tryz.isAgg5
  z5 := Tryz.sizeOf5
  v5 := Tryz.zeroValue5
  t9 := Tryz.underlying9
  a9 := Tryz.isAgg9
  z9 := Tryz.sizeOf9
  v9 := Tryz.zeroValue9
  t20 := Tryz.underlying20
  a20 := Tryz.isAgg20
  z20 := Tryz.sizeOf20
  v20 := Tryz.zeroValue20
  t37 := Tryz.underlying67
  a37 := Tryz.isAgg67
  z37 := Tryz.sizeOf67
  v37 := Tryz.zeroValue67
  t46 := Tryz.underlying161
  a46 := Tryz.isAgg161
  z46 := Tryz.sizeOf161
  v46 := Tryz.zeroValue161
  t51 := Tryz.underlying171
  a51 := Tryz.isAgg171
  z51 := Tryz.sizeOf171
  v51 := Tryz.zeroValue171
  t53 := Tryz.underlying154
  a53 := Tryz.isAgg154
  z53 := Tryz.sizeOf154
  v53 := Tryz.zeroValue154
  t171 := Tryz.underlying153
  a171 := Tryz.isAgg153
  z171 := Tryz.sizeOf153
  v171 := Tryz.zeroValue153
  t173 := Tryz.underlying157
  a173 := Tryz.isAgg157
  z173 := Tryz.sizeOf157
  v173 := Tryz.zeroValue157
  t212 := Tryz.underlying170
  a212 := Tryz.isAgg170
  z212 := Tryz.sizeOf170
  v212 := Tryz.zeroValue170
  t213 := Tryz.underlying172
  a213 := Tryz.isAgg172
  z213 := Tryz.sizeOf172
  t232 := Tryz.underlying183
  a232 := Tryz.isAgg183
  z232 := Tryz.sizeOf183
  v232 := Tryz.zeroValue183
  t233 := Tryz.underlying184
  a233 := Tryz.isAgg184
  z233 := Tryz.sizeOf184
  v233 := Tryz.zeroValue184
  g17 := by kernel_rfl
  g18 := by kernel_rfl
  g19 := by kernel_rfl
  i0 := by kernel_rfl
  i2 := by kernel_rfl
  i3 := by kernel_rfl
  i4 := by kernel_rfl
  i5 := by kernel_rfl
  i9 := by kernel_rfl
  i20 := by kernel_rfl
  i37 := by kernel_rfl
  i46 := by kernel_rfl
  i51 := by kernel_rfl
  i53 := by kernel_rfl
  i171 := by kernel_rfl
  i173 := by kernel_rfl
  i212 := by kernel_rfl
  i232 := by kernel_rfl
  i233 := by kernel_rfl
  m17 := by kernel_rfl
  m18 := by kernel_rfl
  m19 := by kernel_rfl }
open Go.RowKit Go.Sort Go.Lib in
theorem Tryz.strconv_Itoa (n : Int) (h0 : -9223372036854775808 ≤ n) (h1 : n ≤ 9223372036854775807) (w : World) (htab : Lib.TabIs Tryz.prog w "internal/strconv.uint64pow10" .u64 Lib.pow10Tab) :
    Calls Tryz.prog 83 #[.int .i64 n] w fun e w' => e = .returned (.string ⟨(Lib.itoa n).toArray⟩) ∧ ∃ k os, w' = grow (w.drewN k) os := Any.strconv_Itoa Tryz.laysM171 n h0 h1 w htab
def Tryz.lays171_ren : Go.Shelf.Ren := ⟨fun | 171 => 83 | 243 => 132 | 246 => 160 | 283 => 176 | 284 => 177 | 285 => 178 | 286 => 179 | 129 => 189 | 317 => 188 | 318 => 190 | 319 => 191 | 320 => 192 | 337 => 196 | 338 => 197 | n => n, fun | 3 => 3 | 9 => 9 | 2 => 2 | 4 => 4 | 171 => 153 | 0 => 0 | 53 => 154 | 37 => 67 | 5 => 5 | 173 => 157 | 212 => 170 | 51 => 171 | 20 => 20 | 213 => 172 | 46 => 161 | 232 => 183 | 233 => 184 | n => n, fun | 17 => 2 | 18 => 6 | 19 => 7 | n => n⟩
theorem Tryz.lays171 : Go.Proofs.Lays.n171 Tryz.prog Tryz.lays171_ren := {
  mixed := by kernel_rfl
  f129 := Tryz.func189.trans (congrArg some (by kernel_rfl))
  f171 := Tryz.func83.trans (congrArg some (by kernel_rfl))
  f243 := Tryz.func132.trans (congrArg some (by kernel_rfl))
  f246 := Tryz.func160.trans (congrArg some (by kernel_rfl))
  f283 := Tryz.func176.trans (congrArg some (by kernel_rfl))
  f284 := Tryz.func177.trans (congrArg some (by kernel_rfl))
  f285 := Tryz.func178.trans (congrArg some (by kernel_rfl))
  f286 := Tryz.func179.trans (congrArg some (by kernel_rfl))
  f317 := Tryz.func188.trans (congrArg some (by kernel_rfl))
  f318 := Tryz.func190.trans (congrArg some (by kernel_rfl))
  f319 := Tryz.func191.trans (congrArg some (by kernel_rfl))
  f320 := Tryz.func192.trans (congrArg some (by kernel_rfl))
  f337 := Tryz.func196.trans (congrArg some (by kernel_rfl))
  f338 := Tryz.func197.trans (congrArg some (by kernel_rfl))
  t0 := Tryz.underlying0
  a0 := Tryz.isAgg0
  z0 := Tryz.sizeOf0
  v0 := Tryz.zeroValue0
  t2 := Tryz.underlying2
  a2 := Tryz.isAgg2
  z2 := Tryz.sizeOf2
  v2 := Tryz.zeroValue2
  t3 := Tryz.underlying3
  a3 := Tryz.isAgg3
  z3 := Tryz.sizeOf3
  v3 := Tryz.zeroValue3
  t4 := Tryz.underlying4
  a4 := Tryz.isAgg4
  z4 := Tryz.sizeOf4
  v4 := Tryz.zeroValue4
  t5 := Tryz.underlying5
  a5 := Tryz.isAgg5
  z5 := Tryz.sizeOf5
  v5 := Tryz.zeroValue5
  t9 := Tryz.underlying9
  a9 := Tryz.isAgg9
  z9 := Tryz.sizeOf9
  v9 := Tryz.zeroValue9
  t20 := Tryz.underlying20
  a20 := Tryz.isAgg20
  z20 := Tryz.sizeOf20
  v20 := Tryz.zeroValue20
  t37 := Tryz.underlying67
  a37 := Tryz.isAgg67
  z37 := Tryz.sizeOf67
  v37 := Tryz.zeroValue67
  t46 := Tryz.underlying161
  a46 := Tryz.isAgg161
  z46 := Tryz.sizeOf161
  v46 := Tryz.zeroValue161
  t51 := Tryz.underlying171
  a51 := Tryz.isAgg171
  z51 := Tryz.sizeOf171
  v51 := Tryz.zeroValue171
  t53 := Tryz.underlying154
  a53 := Tryz.isAgg154
  z53 := Tryz.sizeOf154
  v53 := Tryz.zeroValue154
  t171 := Tryz.underlying153
  a171 := Tryz.isAgg153
  z171 := Tryz.sizeOf153
  v171 := Tryz.zeroValue153
  t173 := Tryz.underlying157
  a173 := Tryz.isAgg157
  z173 := Tryz.sizeOf157
  v173 := Tryz.zeroValue157
  t212 := Tryz.underlying170
  a212 := Tryz.isAgg170
  z212 := Tryz.sizeOf170
  v212 := Tryz.zeroValue170
  t213 := Tryz.underlying172
  a213 := Tryz.isAgg172
  z213 := Tryz.sizeOf172
  t232 := Tryz.underlying183
  a232 := Tryz.isAgg183
  z232 := Tryz.sizeOf183
  v232 := Tryz.zeroValue183
  t233 := Tryz.underlying184
  a233 := Tryz.isAgg184
  z233 := Tryz.sizeOf184
  v233 := Tryz.zeroValue184
  g17 := by kernel_rfl
  g18 := by kernel_rfl
  g19 := by kernel_rfl }
open Go.RowKit Go.Sort Go.Lib in
theorem Tryz.strconv_Itoa_small (i : Nat) (hi : i < 100) (w : World) :
    Calls Tryz.prog 83 #[.int .i64 i] w fun e w' => e = .returned (.string ⟨(Lib.decDigits i).toArray⟩) ∧ w' = w := Any.strconv_Itoa_small Tryz.lays171 i hi w
def Tryz.laysC172_ren : Go.Shelf.Ren := ⟨fun | 172 => 111 | 244 => 146 | 245 => 147 | 247 => 162 | 279 => 163 | 280 => 164 | 281 => 165 | 282 => 166 | 287 => 180 | 316 => 181 | 171 => 83 | 205 => 182 | 321 => 193 | 322 => 194 | 243 => 132 | 246 => 160 | 283 => 176 | 284 => 177 | 285 => 178 | 286 => 179 | 129 => 189 | 317 => 188 | 318 => 190 | 319 => 191 | 320 => 192 | 337 => 196 | 338 => 197 | n => n, fun | 9 => 9 | 3 => 3 | 75 => 100 | 76 => 101 | 4 => 4 | 5 => 5 | 167 => 146 | 37 => 67 | 0 => 0 | 85 => 147 | 2 => 2 | 168 => 149 | 53 => 154 | 175 => 159 | 46 => 161 | 210 => 164 | 127 => 106 | 145 => 177 | 143 => 175 | 21 => 21 | 171 => 153 | 173 => 157 | 212 => 170 | 51 => 171 | 20 => 20 | 213 => 172 | 232 => 183 | 233 => 184 | 80 => 73 | n => n, fun | 15 => 0 | 16 => 1 | 17 => 2 | 18 => 6 | 19 => 7 | n => n⟩
theorem Tryz.laysC172 : Go.Proofs.LaysC.n172 Tryz.prog Tryz.laysC172_ren := {
  mixed := by kernel_rfl
  f129 := Tryz.func189.trans (congrArg some (by kernel_rfl))
  f171 := Tryz.func83.trans (congrArg some (by kernel_rfl))
  f172 := Tryz.func111.trans (congrArg some (by kernel_rfl))
  f205 := Tryz.func182.trans (congrArg some (by kernel_rfl))
  f243 := Tryz.func132.trans (congrArg some (by kernel_rfl))
  f244 := Tryz.func146.trans (congrArg some (by kernel_rfl))
  f245 := Tryz.func147.trans (congrArg some (by kernel_rfl))
  f246 := Tryz.func160.trans (congrArg some (by kernel_rfl))
  f247 := Tryz.func162.trans (congrArg some (by kernel_rfl))
  f279 := Tryz.func163.trans (congrArg some (by kernel_rfl))
  f280 := Tryz.func164.trans (congrArg some (by kernel_rfl))
  f281 := Tryz.func165.trans (congrArg some (by kernel_rfl))
  f282 := Tryz.func166.trans (congrArg some (by kernel_rfl))
  f283 := Tryz.func176.trans (congrArg some (by kernel_rfl))
  f284 := Tryz.func177.trans (congrArg some (by kernel_rfl))
  f285 := Tryz.func178.trans (congrArg some (by kernel_rfl))
  f286 := Tryz.func179.trans (congrArg some (by kernel_rfl))
  f287 := Tryz.func180.trans (congrArg some (by kernel_rfl))
  f316 := Tryz.func181.trans (congrArg some (by kernel_rfl))
  f317 := Tryz.func188.trans (congrArg some (by kernel_rfl))
  f318 := Tryz.func190.trans (congrArg some (by kernel_rfl))
  f319 := Tryz.func191.trans (congrArg some (by kernel_rfl))
  f320 := Tryz.func192.trans (congrArg some (by kernel_rfl))
  f321 := Tryz.func193.trans (congrArg some (by kernel_rfl))
  f322 := Tryz.func194.trans (congrArg some (by kernel_rfl))
  f337 := Tryz.func196.trans (congrArg some (by kernel_rfl))
  f338 := Tryz.func197.trans (congrArg some (by kernel_rfl))
  t0 := Tryz.underlying0
  a0 := Tryz.isAgg0
  z0 := Tryz.sizeOf0
  v0 := Tryz.zeroValue0
  t2 := Tryz.underlying2
  a2 := Tryz.isAgg2
  z2 := Tryz.sizeOf2
  v2 := Tryz.zeroValue2
  t3 := Tryz.underlying3
  a3 := Tryz.isAgg3
  z3 := Tryz.sizeOf3
  v3 := Tryz.zeroValue3
  t4 := Tryz.underlying4
  a4 := Tryz.isAgg4
  z4 := Tryz.sizeOf4
  v4 := Tryz.zeroValue4
  t5 := Tryz.underlying5
  a5 := Tryz.isAgg5
  z5 := Tryz.sizeOf5
  v5 := Tryz.zeroValue5
  t9 := Tryz.underlying9
  a9 := Tryz.isAgg9
  z9 := Tryz.sizeOf9
  v9 := Tryz.zeroValue9
  t20 := Tryz.underlying20
  a20 := Tryz.isAgg20
  z20 := Tryz.sizeOf20
  v20 := Tryz.zeroValue20
  t21 := Tryz.underlying21
  a21 := Tryz.isAgg21
  z21 := Tryz.sizeOf21
  v21 := Tryz.zeroValue21
  t37 := Tryz.underlying67
  a37 := Tryz.isAgg67
  z37 := Tryz.sizeOf67
  v37 := Tryz.zeroValue67
  t46 := Tryz.underlying161
  a46 := Tryz.isAgg161
  z46 := Tryz.sizeOf161
  v46 := Tryz.zeroValue161
  t51 := Tryz.underlying171
  a51 := Tryz.isAgg171
  z51 := Tryz.sizeOf171
  v51 := Tryz.zeroValue171
  t53 := Tryz.underlying154
  a53 := Tryz.isAgg154
  z53 := Tryz.sizeOf154
  v53 := Tryz.zeroValue154
  t75 := Tryz.underlying100
  a75 := Tryz.isAgg100
  z75 := Tryz.sizeOf100
  v75 := Tryz.zeroValue100
  t76 := Tryz.underlying101
  a76 := Tryz.isAgg101
  z76 := Tryz.sizeOf101
  v76 := Tryz.zeroValue101
  t85 := Tryz.underlying147
  a85 := Tryz.isAgg147
  z85 := Tryz.sizeOf147
  v85 := Tryz.zeroValue147
  t127 := Tryz.underlying106
  a127 := Tryz.isAgg106
  z127 := Tryz.sizeOf106
  v127 := Tryz.zeroValue106
  t143 := Tryz.underlying175
  a143 := Tryz.isAgg175
  z143 := Tryz.sizeOf175
  v143 := Tryz.zeroValue175
  t145 := Tryz.underlying177
  a145 := Tryz.isAgg177
  z145 := Tryz.sizeOf177
  v145 := Tryz.zeroValue177
  t167 := Tryz.underlying146
  a167 := Tryz.isAgg146
  z167 := Tryz.sizeOf146
  v167 := Tryz.zeroValue146
  t168 := Tryz.underlying149
  a168 := Tryz.isAgg149
  z168 := Tryz.sizeOf149
  v168 := Tryz.zeroValue149
  t171 := Tryz.underlying153
  a171 := Tryz.isAgg153
  z171 := Tryz.sizeOf153
  v171 := Tryz.zeroValue153
  t173 := Tryz.underlying157
  a173 := Tryz.isAgg157
  z173 := Tryz.sizeOf157
  v173 := Tryz.zeroValue157
  t175 := Tryz.underlying159
  a175 := Tryz.isAgg159
  z175 := Tryz.sizeOf159
  v175 := Tryz.zeroValue159
  t210 := Tryz.underlying164
  a210 := Tryz.isAgg164
  z210 := Tryz.sizeOf164
  v210 := Tryz.zeroValue164
  t212 := Tryz.underlying170
  a212 := Tryz.isAgg170
  z212 := Tryz.sizeOf170
  v212 := Tryz.zeroValue170
  t213 := Tryz.underlying172
  a213 := Tryz.isAgg172
  z213 := Tryz.sizeOf172
  t232 := Tryz.underlying183
  a232 := Tryz.isAgg183
  z232 := Tryz.sizeOf183
  v232 := Tryz.zeroValue183
  t233 := Tryz.underlying184
  a233 := Tryz.isAgg184
  z233 := Tryz.sizeOf184
  v233 := Tryz.zeroValue184
  g15 := by kernel_rfl
  g16 := by kernel_rfl
  g17 := by kernel_rfl
  g18 := by kernel_rfl
  g19 := by kernel_rfl
  t80 := Tryz.underlying73
  a80 := Tryz.isAgg73
  z80 := Tryz.sizeOf73
  v80 := Tryz.zeroValue73
  i0 := by kernel_rfl
  i2 := by kernel_rfl
  i3 := by kernel_rfl
  i4 := by kernel_rfl
  i5 := by kernel_rfl
  i9 := by kernel_rfl
  i20 := by kernel_rfl
  i21 := by kernel_rfl
  i37 := by kernel_rfl
  i46 := by kernel_rfl
  i51 := by kernel_rfl
  i53 := by kernel_rfl
  i75 := by kernel_rfl
  i76 := by kernel_rfl
  i80 := by kernel_rfl
  i85 := by kernel_rfl
  i127 := by kernel_rfl
  i143 := by kernel_rfl
  i145 := by kernel_rfl
  i167 := by kernel_rfl
  i168 := by kernel_rfl
  i171 := by kernel_rfl
  i173 := by kernel_rfl
  i175 := by kernel_rfl
  i210 := by kernel_rfl
  i212 := by kernel_rfl
  i232 := by kernel_rfl
  i233 := by kernel_rfl
  m15 := by kernel_rfl
  m16 := by kernel_rfl
  m17 := by kernel_rfl
  m18 := by kernel_rfl
  m19 := by kernel_rfl
  c0 := by kernel_rfl
  c2 := by kernel_rfl
  c3 := by kernel_rfl
  c4 := by kernel_rfl
  c5 := by kernel_rfl
  c9 := by kernel_rfl
  c20 := by kernel_rfl
  c21 := by kernel_rfl
  c37 := by kernel_rfl
  c46 := by kernel_rfl
  c51 := by kernel_rfl
  c53 := by kernel_rfl
  c75 := by kernel_rfl
  c76 := by kernel_rfl
  c80 := by kernel_rfl
  c85 := by kernel_rfl
  c127 := by kernel_rfl
  c143 := by kernel_rfl
  c145 := by kernel_rfl
  c167 := by kernel_rfl
  c168 := by kernel_rfl
  c171 := by kernel_rfl
  c173 := by kernel_rfl
  c175 := by kernel_rfl
  c210 := by kernel_rfl
  c212 := by kernel_rfl
  c213 := by kernel_rfl
  c232 := by kernel_rfl
  c233 := by kernel_rfl }
open Go.RowKit in
theorem Tryz.strconv_Atoi_ok (s : ByteArray) (hmax : s.size ≤ 9223372036854775806) (v : Int) (h : Lib.atoiAll s.data.toList = .ok v) (w : World) :
    Calls Tryz.prog 111 #[.string s] w fun e w' => e = .returned (.tuple #[.int .i64 v, .nilIface]) ∧ (w' = w ∨ ∃ t, w' = Lib.bytesWorld w 5 t) := Any.strconv_Atoi_ok Tryz.laysC172 s hmax v h w
open Go.RowKit in
theorem Tryz.strconv_Atoi_syntax (s : ByteArray) (hlim : s.size ≤ 281474976710656) (h : Lib.atoiAll s.data.toList = Lib.atoiAll []) (ev : Value) (w : World) (hv : w.cell? ⟨0, 0, none⟩ = some ev) (hev : ev = .nilIface ∨ ∃ te pe, ev = .iface te pe) :
    Calls Tryz.prog 111 #[.string s] w fun e w' => ∃ N, e = .returned (.tuple #[.int .i64 (0), .iface 149 (.pointer (some ⟨N, 0, none⟩))]) ∧ w.heap.size ≤ N ∧ w'.heap[N]? = some (.cells #[.string ⟨#[65, 116, 111, 105]⟩, .string s, ev] 164 (0, 0)) ∧ Below w.heap.size w w' := Any.strconv_Atoi_syntax Tryz.laysC172 s hlim h ev w hv hev
open Go.RowKit in
theorem Tryz.strconv_Atoi_range (s : ByteArray) (hlim : s.size ≤ 281474976710656) (h : Lib.atoiAll s.data.toList = .range) (ev : Value) (w : World) (hv : w.cell? ⟨1, 0, none⟩ = some ev) (hev : ev = .nilIface ∨ ∃ te pe, ev = .iface te pe) :
    Calls Tryz.prog 111 #[.string s] w fun e w' => ∃ N, e = .returned (.tuple #[.int .i64 (Lib.atoiSat s.data.toList), .iface 149 (.pointer (some ⟨N, 0, none⟩))]) ∧ w.heap.size ≤ N ∧ w'.heap[N]? = some (.cells #[.string ⟨#[65, 116, 111, 105]⟩, .string s, ev] 164 (0, 0)) ∧ Below w.heap.size w w' := Any.strconv_Atoi_range Tryz.laysC172 s hlim h ev w hv hev
def Tryz.lays99_ren : Go.Shelf.Ren := ⟨fun | 99 => 115 | 206 => 148 | n => n, fun | 9 => 9 | 4 => 4 | 3 => 3 | n => n, fun | n => n⟩
theorem Tryz.lays99 : Go.Proofs.Lays.n99 Tryz.prog Tryz.lays99_ren := {
  mixed := by kernel_rfl
  f99 := Tryz.func115.trans (congrArg some (by kernel_rfl))
  f206 := Tryz.func148.trans (congrArg some (by kernel_rfl))
  t3 := Tryz.underlying3
  a3 := Tryz.isAgg3
  z3 := Tryz.sizeOf3
  v3 := Tryz.zeroValue3
  t4 := Tryz.underlying4
  a4 := Tryz.isAgg4
  z4 := Tryz.sizeOf4
  v4 := Tryz.zeroValue4
  t9 := Tryz.underlying9
  a9 := Tryz.isAgg9
  z9 := Tryz.sizeOf9
  v9 := Tryz.zeroValue9 }
open Go.RowKit Go.Lib in
theorem Tryz.strings_HasPrefix (s p : ByteArray) (w : World) :
    Calls Tryz.prog 115 #[.string s, .string p] w fun e w' => e = .returned (.bool (Lib.hasPrefix s.data.toList p.data.toList)) ∧ w' = w := Any.strings_HasPrefix Tryz.lays99 s p w
def Tryz.lays102_ren : Go.Shelf.Ren := ⟨fun | 102 => 82 | 209 => 131 | 207 => 159 | n => n, fun | 9 => 9 | 4 => 4 | 3 => 3 | n => n, fun | n => n⟩
theorem Tryz.lays102 : Go.Proofs.Lays.n102 Tryz.prog Tryz.lays102_ren := {
  mixed := by kernel_rfl
  f102 := Tryz.func82.trans (congrArg some (by kernel_rfl))
  f207 := Tryz.func159.trans (congrArg some (by kernel_rfl))
  f209 := Tryz.func131.trans (congrArg some (by kernel_rfl))
  t3 := Tryz.underlying3
  a3 := Tryz.isAgg3
  z3 := Tryz.sizeOf3
  v3 := Tryz.zeroValue3
  t4 := Tryz.underlying4
  a4 := Tryz.isAgg4
  z4 := Tryz.sizeOf4
  v4 := Tryz.zeroValue4
  t9 := Tryz.underlying9
  a9 := Tryz.isAgg9
  z9 := Tryz.sizeOf9
  v9 := Tryz.zeroValue9 }
open Go.RowKit Go.Lib in
theorem Tryz.strings_TrimSuffix (s p : ByteArray) (w : World) (hs : s.size ≤ 9223372036854775807) :
    Calls Tryz.prog 82 #[.string s, .string p] w fun e w' => e = .returned (.string ⟨(Lib.trimSuffix s.data.toList p.data.toList).toArray⟩) ∧ w' = w := Any.strings_TrimSuffix Tryz.lays102 s p w hs
def Tryz.lays227_ren : Go.Shelf.Ren := ⟨fun | 227 => 128 | n => n, fun | 9 => 9 | 116 => 126 | 4 => 4 | 0 => 0 | 3 => 3 | 5 => 5 | n => n, fun | n => n⟩
theorem Tryz.lays227 : Go.Proofs.Lays.n227 Tryz.prog Tryz.lays227_ren := {
  mixed := by kernel_rfl
  f227 := Tryz.func128.trans (congrArg some (by kernel_rfl))
  t0 := Tryz.underlying0
  a0 := Tryz.isAgg0
  z0 := Tryz.sizeOf0
  v0 := Tryz.zeroValue0
  t3 := Tryz.underlying3
  a3 := Tryz.isAgg3
  z3 := Tryz.sizeOf3
  v3 := Tryz.zeroValue3
  t4 := Tryz.underlying4
  a4 := Tryz.isAgg4
  z4 := Tryz.sizeOf4
  v4 := Tryz.zeroValue4
  t5 := Tryz.underlying5
  a5 := Tryz.isAgg5
  z5 := Tryz.sizeOf5
  v5 := Tryz.zeroValue5
  t9 := Tryz.underlying9
  a9 := Tryz.isAgg9
  z9 := Tryz.sizeOf9
  v9 := Tryz.zeroValue9
  t116 := Tryz.underlying126
  a116 := Tryz.isAgg126
  z116 := Tryz.sizeOf126 }
open Go.RowKit Go.Lib in
theorem Tryz.strings_makeASCIISet (hv116 : ∀ w, (zeroValue 126).run Tryz.prog w = .ok (.agg (Array.replicate 256 (.bool false))) w) (chars : ByteArray) (w : World) (hs : chars.size < 4294967281) (hascii : ∀ (j : Nat) b, chars.data.toList[j]? = some b → b.toNat < 128) :
    Calls Tryz.prog 128 #[.string chars] w fun e w' => e = .returned (.tuple #[.agg (Lib.setCells chars.data.toList), .bool true]) ∧ w' = w.alloc (.cells (Lib.setCells chars.data.toList) 126) := Any.strings_makeASCIISet Tryz.lays227 hv116 (by kernel_rfl) chars w hs hascii
def Tryz.lays228_ren : Go.Shelf.Ren := ⟨fun | 228 => 156 | n => n, fun | 124 => 130 | 5 => 5 | 4 => 4 | 0 => 0 | 116 => 126 | n => n, fun | n => n⟩
theorem Tryz.lays228 : Go.Proofs.Lays.n228 Tryz.prog Tryz.lays228_ren := {
  mixed := by kernel_rfl
  f228 := Tryz.func156.trans (congrArg some (by kernel_rfl))
  t0 := Tryz.underlying0
  a0 := Tryz.isAgg0
  z0 := Tryz.sizeOf0
  v0 := Tryz.zeroValue0
  t4 := Tryz.underlying4
  a4 := Tryz.isAgg4
  z4 := Tryz.sizeOf4
  v4 := Tryz.zeroValue4
  t5 := Tryz.underlying5
  a5 := Tryz.isAgg5
  z5 := Tryz.sizeOf5
  v5 := Tryz.zeroValue5
  t116 := Tryz.underlying126
  a116 := Tryz.isAgg126
  z116 := Tryz.sizeOf126
  t124 := Tryz.underlying130
  a124 := Tryz.isAgg130
  z124 := Tryz.sizeOf130
  v124 := Tryz.zeroValue130 }
open Go.RowKit Go.Lib in
theorem Tryz.asciiSet_contains (b : Nat) (x : UInt8) (v : Bool) (w : World) (hc : w.cell? ⟨b, x.toNat, none⟩ = some (.bool v)) :
    Calls Tryz.prog 156 #[.pointer (some ⟨b, 0, none⟩), .int .u8 x.toNat] w fun e w' => e = .returned (.bool v) ∧ w' = w := Any.asciiSet_contains Tryz.lays228 b x v w hc
def Tryz.lays108_ren : Go.Shelf.Ren := ⟨fun | 108 => 137 | n => n, fun | 28 => 115 | 3 => 3 | 0 => 0 | 4 => 4 | n => n, fun | n => n⟩
theorem Tryz.lays108 : Go.Proofs.Lays.n108 Tryz.prog Tryz.lays108_ren := {
  mixed := by kernel_rfl
  f108 := Tryz.func137.trans (congrArg some (by kernel_rfl))
  t0 := Tryz.underlying0
  a0 := Tryz.isAgg0
  z0 := Tryz.sizeOf0
  v0 := Tryz.zeroValue0
  t3 := Tryz.underlying3
  a3 := Tryz.isAgg3
  z3 := Tryz.sizeOf3
  v3 := Tryz.zeroValue3
  t4 := Tryz.underlying4
  a4 := Tryz.isAgg4
  z4 := Tryz.sizeOf4
  v4 := Tryz.zeroValue4
  t28 := Tryz.underlying115
  a28 := Tryz.isAgg115
  z28 := Tryz.sizeOf115
  v28 := Tryz.zeroValue115 }
open Go.Lib in
theorem Tryz.slices_Index_int (b off n c : Nat) (zs : List Int) (x : Int) (w : World) (hz : n ≤ zs.length) (hbig : n ≤ 9223372036854775807) (hc : ∀ j, j < zs.length → w.cell? ⟨b, off + j, none⟩ = some (.int .i64 (zs.getD j 0))) :
    Calls Tryz.prog 137 #[.slice (some ⟨b, off, none⟩) n c, .int .i64 x] w fun e w' => e = .returned (.int .i64 (Lib.idxOf (zs.take n) x)) ∧ w' = w := Any.slices_Index_int Tryz.lays108 b off n c zs x w hz hbig hc
open Go.Lib in
theorem Tryz.slices_Index_int_empty (a : Option Addr) (c : Nat) (x : Int) (w : World) :
    Calls Tryz.prog 137 #[.slice a 0 c, .int .i64 x] w fun e w' => e = .returned (.int .i64 (Lib.idxOf [] x)) ∧ w' = w := Any.slices_Index_int_empty Tryz.lays108 a c x w
def Tryz.lays110_ren : Go.Shelf.Ren := ⟨fun | 110 => 80 | 109 => 126 | n => n, fun | 31 => 61 | 9 => 9 | 4 => 4 | 3 => 3 | 0 => 0 | n => n, fun | n => n⟩
theorem Tryz.lays110 : Go.Proofs.Lays.n110 Tryz.prog Tryz.lays110_ren := {
  mixed := by kernel_rfl
  f109 := Tryz.func126.trans (congrArg some (by kernel_rfl))
  f110 := Tryz.func80.trans (congrArg some (by kernel_rfl))
  t0 := Tryz.underlying0
  a0 := Tryz.isAgg0
  z0 := Tryz.sizeOf0
  v0 := Tryz.zeroValue0
  t3 := Tryz.underlying3
  a3 := Tryz.isAgg3
  z3 := Tryz.sizeOf3
  v3 := Tryz.zeroValue3
  t4 := Tryz.underlying4
  a4 := Tryz.isAgg4
  z4 := Tryz.sizeOf4
  v4 := Tryz.zeroValue4
  t9 := Tryz.underlying9
  a9 := Tryz.isAgg9
  z9 := Tryz.sizeOf9
  v9 := Tryz.zeroValue9
  t31 := Tryz.underlying61
  a31 := Tryz.isAgg61
  z31 := Tryz.sizeOf61
  v31 := Tryz.zeroValue61 }
open Go.Lib in
theorem Tryz.slices_Contains_string (b off n c : Nat) (zs : List ByteArray) (x : ByteArray) (w : World) (hz : n ≤ zs.length) (hbig : n ≤ 9223372036854775807) (hc : ∀ j, j < zs.length → w.cell? ⟨b, off + j, none⟩ = some (.string (zs.getD j ByteArray.empty))) :
    Calls Tryz.prog 80 #[.slice (some ⟨b, off, none⟩) n c, .string x] w fun e w' => e = .returned (.bool (Lib.containsS (zs.take n) x)) ∧ w' = w := Any.slices_Contains_string Tryz.lays110 b off n c zs x w hz hbig hc
end Go.Proofs
namespace Go.Proofs.YtckjlliobebodaaGreatDoor
open Go.RowKit
set_option maxHeartbeats 400000 in
theorem adv1_any (x s : ByteArray) (b pb fb fr : Nat) (w : World) (hp : w.cell? ⟨pb, 0, none⟩ = some (.pointer (some ⟨b, 0, none⟩)))
    (h0 : w.cell? ⟨b, 0, none⟩ = some (.string s)) (hf : w.cell? ⟨fb, 0, none⟩ = some (.int .i64 fr)) (hfs : fr ≤ s.size) (_hs : s.size ≤ 9223372036854775807) :
    Calls Tryz.prog 114 #[.string x, .pointer (some ⟨pb, 0, none⟩), .pointer (some ⟨fb, 0, none⟩)] w fun e w' =>
      e = .returned (.bool (Lib.hasPrefix (s.data.toList.drop fr) x.data.toList)) ∧ ∃ n, w.drewN n = w' := by
  have i1 : (0 : Int) ≤ (fr : Int) := by omega
  have i2 : (fr : Int) ≤ (s.size : Int) := by omega
  go_enter Tryz.func114, Tryz.ntmps114
  go_wp2_with fail
  go_quiet ((go_at_call 115; exact Calls.quiet_of_same (Tryz.strings_HasPrefix _ _ _)))
  go_wp2_with fail
  go_ret
  exact ⟨by rw [← Lib.extract_to_end]; rfl, nq, rfl⟩
def signs : List ByteArray := [⟨#[60, 61, 62]⟩, ⟨#[62, 45, 62, 62]⟩, ⟨#[60, 60, 124]⟩, ⟨#[124, 62, 62]⟩, ⟨#[124, 45, 62]⟩, ⟨#[60, 45, 62]⟩, ⟨#[43, 45, 62]⟩, ⟨#[45, 45, 62]⟩, ⟨#[62, 45, 62]⟩, ⟨#[61, 62]⟩, ⟨#[47, 61]⟩, ⟨#[60, 61]⟩, ⟨#[62, 61]⟩, ⟨#[46, 46]⟩, ⟨#[92, 47]⟩, ⟨#[47, 92]⟩, ⟨#[62, 60]⟩, ⟨#[60, 43]⟩, ⟨#[60, 124]⟩, ⟨#[124, 62]⟩, ⟨#[38]⟩, ⟨#[61]⟩, ⟨#[60]⟩, ⟨#[62]⟩, ⟨#[43]⟩, ⟨#[45]⟩, ⟨#[42]⟩, ⟨#[47]⟩, ⟨#[92]⟩, ⟨#[59]⟩, ⟨#[126]⟩, ⟨#[46]⟩, ⟨#[44]⟩, ⟨#[124]⟩, ⟨#[40]⟩, ⟨#[41]⟩, ⟨#[91]⟩, ⟨#[93]⟩, ⟨#[123]⟩, ⟨#[125]⟩]
set_option maxHeartbeats 400000 in
theorem signs_any (w : World) : Calls Tryz.prog 113 #[] w fun e w' =>
    e = .returned (.slice (some ⟨w.heap.size, 0, none⟩) 40 40) ∧ w' = w.alloc (.cells (signs.map Value.string).toArray 9) := by
  go_enter Tryz.func113, Tryz.ntmps113
  go_wp2_with fail
  go_ret
  exact ⟨rfl, rfl⟩
def sIdx (l : List UInt8) (xs : List ByteArray) : Int := match xs.findIdx? (fun x => Lib.hasPrefix l x.data.toList) with | some i => (i : Int) | none => -1
theorem sIdx_at (l : List UInt8) (xs : List ByteArray) (k : Nat) (hk : k < xs.length) (hno : ∀ j (h : j < k), Lib.hasPrefix l (xs[j]'(by omega)).data.toList = false) (hy : Lib.hasPrefix l xs[k].data.toList = true) : sIdx l xs = k := by
  unfold sIdx
  have : xs.findIdx? (fun x => Lib.hasPrefix l x.data.toList) = some k := by
    rw [List.findIdx?_eq_some_iff_getElem]
    exact ⟨hk, hy, fun j hj => by simpa using hno j hj⟩
  rw [this]
theorem sIdx_none (l : List UInt8) (xs : List ByteArray) (hno : ∀ j (h : j < xs.length), Lib.hasPrefix l xs[j].data.toList = false) : sIdx l xs = -1 := by
  unfold sIdx
  have : xs.findIdx? (fun x => Lib.hasPrefix l x.data.toList) = none := by
    rw [List.findIdx?_eq_none_iff]
    intro x hx
    obtain ⟨j, hj, rfl⟩ := List.getElem_of_mem hx
    exact hno j hj
  rw [this]
set_option maxHeartbeats 1000000 in
theorem idxSign_any (xs : List ByteArray) (s : ByteArray) (g b pb fb fr cap : Nat) (w : World) (hx : ∀ i (h : i < xs.length), w.cell? ⟨g, i, none⟩ = some (.string xs[i])) (hl : xs.length ≤ 1000)
    (hp : w.cell? ⟨pb, 0, none⟩ = some (.pointer (some ⟨b, 0, none⟩)))
    (h0 : w.cell? ⟨b, 0, none⟩ = some (.string s)) (hf : w.cell? ⟨fb, 0, none⟩ = some (.int .i64 fr)) (hfs : fr ≤ s.size) (hs : s.size ≤ 9223372036854775807) :
    Calls Tryz.prog 112 #[.slice (some ⟨g, 0, none⟩) xs.length cap, .func (.func 114) #[] #[.pointer (some ⟨pb, 0, none⟩), .pointer (some ⟨fb, 0, none⟩)]] w fun e w' =>
      e = .returned (.int .i64 (sIdx (s.data.toList.drop fr) xs)) ∧ ∃ n, w.drewN n = w' := by
  have HX := Lib.hid hx
  clear hx
  go_enter Tryz.func112, Tryz.ntmps112
  go_wp2_with fail
  go_loopw [8] (fun i wr => ∃ k n : Nat, k ≤ xs.length ∧ i = .int .i64 k ∧ w.drewN n = wr ∧ Hid (∀ j (h : j < k) (h' : j < xs.length), Lib.hasPrefix (s.data.toList.drop fr) xs[j].data.toList = false)) (fun i _ => xs.length - (intOf i).toNat)
  case atStart => exact ⟨0, 0, Nat.zero_le _, rfl, rfl, Lib.hid (fun j h => by omega)⟩
  case round =>
    obtain ⟨k, n, hk, rfl, rfl, hno⟩ := hrel
    by_cases hlt : k < xs.length
    · have hc := HX.out k hlt
      have i1 : (k : Int) < (xs.length : Int) := by omega
      cases hy : Lib.hasPrefix (s.data.toList.drop fr) xs[k].data.toList
      · have hno' : Hid (∀ j (h : j < k + 1) (h' : j < xs.length), Lib.hasPrefix (s.data.toList.drop fr) xs[j].data.toList = false) := Lib.hid (fun j h h' => by
          rcases Nat.lt_succ_iff_lt_or_eq.1 h with h | rfl
          · exact hno.out j h h'
          · exact hy)
        go_wp2_with (go_at_call 114; refine (adv1_any xs[k] s b pb fb fr _ (by exact hp) (by exact h0) (by exact hf) hfs hs).mono ?_; rintro e w' ⟨rfl, m, rfl⟩)
        go_roundw
        case rel => exact ⟨k + 1, n + m, by omega, by go_num, rfl, hno'⟩
        case measure => simp [intOf]; omega
      · have hi := Lib.hid (sIdx_at _ xs k hlt (fun j h => hno.out j h (by omega)) hy)
        go_wp2_with (go_at_call 114; refine (adv1_any xs[k] s b pb fb fr _ (by exact hp) (by exact h0) (by exact hf) hfs hs).mono ?_; rintro e w' ⟨rfl, m, rfl⟩)
        go_ret
        exact ⟨by rw [hi.out]; rfl, n + m, rfl⟩
    · go_wp2_with fail
      go_ret
      exact ⟨by rw [sIdx_none _ _ (fun j h => hno.out j (by omega) h)]; rfl, n, rfl⟩
def allW (l : List UInt8) : Bool := l.all fun c => inWordB c.toNat
def identB (s : ByteArray) : Bool := decide (0 < s.size) && decide (s.size ≤ 16) && letterB (s.data.toList.headD 0).toNat && !keywordB s && allW s.data.toList
theorem empty_iff (s : ByteArray) : s.toList.isEmpty = !decide (0 < s.size) := by
  rw [Go.ByteArray.toList_eq]; obtain ⟨⟨l⟩⟩ := s; cases l <;> simp [ByteArray.size]
theorem head_of (s : ByteArray) (h : 0 < s.size) : s.data.toList.headD 0 = s[0] := by
  obtain ⟨⟨l⟩⟩ := s
  cases l with
  | nil => simp [ByteArray.size] at h
  | cons a t => rfl
theorem take_snoc (s : ByteArray) (k : Nat) (h : k < s.size) : s.data.toList.take (k + 1) = s.data.toList.take k ++ [s[k]] := by
  rw [List.take_succ_eq_append_getElem (by simpa using h)]; rfl
theorem allW_snoc (l : List UInt8) (c : UInt8) : allW (l ++ [c]) = (allW l && inWordB c.toNat) := by
  simp [allW]
theorem allW_false (s : ByteArray) (k : Nat) (h : k < s.size) (hc : inWordB s[k].toNat = false) : allW s.data.toList = false := by
  have e : s.data.toList = s.data.toList.take (k + 1) ++ s.data.toList.drop (k + 1) := (List.take_append_drop _ _).symm
  rw [e, take_snoc s k h]; simp only [allW, List.all_append, List.all_cons, List.all_nil, hc]; simp
set_option maxHeartbeats 1000000 in
theorem ident_any (s : ByteArray) (w : World) (hs : s.size ≤ 9223372036854775807) :
    Calls Tryz.prog 18 #[.string s] w fun e w' => e = .returned (.bool (identB s)) ∧ w = w' := by
  by_cases h0 : 0 < s.size
  case neg =>
    have h1 : s.toList.isEmpty = true := by rw [empty_iff, decide_eq_false h0]; rfl
    have hk := Lib.hid (show identB s = false by unfold identB; rw [decide_eq_false h0]; rfl)
    clear h0
    go_enter Tryz.func18, Tryz.ntmps18
    go_wp2_with fail
    go_ret
    exact ⟨by rw [hk.out]; rfl, rfl⟩
  have h1 : s.toList.isEmpty = false := by rw [empty_iff, decide_eq_true h0]; rfl
  by_cases h16 : s.size ≤ 16
  case neg =>
    have hd : decide (16 < (s.size : Int)) = true := by simp; omega
    have hk := Lib.hid (show identB s = false by unfold identB; rw [decide_eq_false h16]; simp)
    clear h16
    go_enter Tryz.func18, Tryz.ntmps18
    go_wp2_with fail
    go_ret
    exact ⟨by rw [hk.out]; rfl, rfl⟩
  have hd : decide (16 < (s.size : Int)) = false := by simp; omega
  have hh := head_of s h0
  cases hl : letterB (s[0].toNat)
  case false =>
    have hk := Lib.hid (show identB s = false by unfold identB; rw [hh, hl]; simp)
    clear hh
    go_enter Tryz.func18, Tryz.ntmps18
    go_wp2_with (first | (go_at_call 45; refine (letter_any _ _).mono ?_; rintro e w' ⟨rfl, rfl⟩) | (go_at_call 46; refine (keyword_any _ _).mono ?_; rintro e w' ⟨rfl, rfl⟩))
    go_ret
    exact ⟨by rw [hk.out]; rfl, rfl⟩
  cases hkw : keywordB s
  case true =>
    have hk := Lib.hid (show identB s = false by unfold identB; rw [hkw]; simp)
    clear hh
    go_enter Tryz.func18, Tryz.ntmps18
    go_wp2_with (first | (go_at_call 45; refine (letter_any _ _).mono ?_; rintro e w' ⟨rfl, rfl⟩) | (go_at_call 46; refine (keyword_any _ _).mono ?_; rintro e w' ⟨rfl, rfl⟩))
    go_ret
    exact ⟨by rw [hk.out]; rfl, rfl⟩
  have hk := Lib.hid (show identB s = allW s.data.toList by unfold identB; rw [hh, hl, hkw, decide_eq_true h0, decide_eq_true h16]; simp)
  clear hh
  go_enter Tryz.func18, Tryz.ntmps18
  go_wp2_with (first | (go_at_call 45; refine (letter_any _ _).mono ?_; rintro e w' ⟨rfl, rfl⟩) | (go_at_call 46; refine (keyword_any _ _).mono ?_; rintro e w' ⟨rfl, rfl⟩))
  go_loop [23] (fun i => ∃ k : Nat, k ≤ s.size ∧ i = .int .i64 k ∧ Hid (allW (s.data.toList.take k) = true)) (fun i => s.size - (intOf i).toNat)
  case atStart => exact ⟨0, Nat.zero_le _, rfl, Lib.hid (by simp [allW])⟩
  case round =>
    obtain ⟨k, hks, rfl, hall⟩ := hrel
    by_cases hlt : k < s.size
    · cases hw : inWordB s[k].toNat
      · have hf := Lib.hid (allW_false s k hlt hw)
        go_wp2_with (go_at_call 47; refine (inWord_any _ _).mono ?_; rintro e w' ⟨rfl, rfl⟩)
        go_ret
        exact ⟨by rw [hk.out, hf.out]; rfl, rfl⟩
      · have hall' : Hid (allW (s.data.toList.take (k + 1)) = true) := Lib.hid (by rw [take_snoc s k hlt, allW_snoc, hall.out, hw]; rfl)
        go_wp2_with (go_at_call 47; refine (inWord_any _ _).mono ?_; rintro e w' ⟨rfl, rfl⟩)
        go_round
        case rel => exact ⟨k + 1, by omega, by go_num, hall'⟩
        case measure => simp [intOf]; omega
    · have hf : Hid (allW s.data.toList = true) := by
        have h := hall.out
        rw [List.take_of_length_le (by simp; omega)] at h
        exact Lib.hid h
      go_wp2_with fail
      go_ret
      exact ⟨by rw [hk.out, hf.out]; rfl, rfl⟩
def numTok (t : ByteArray) : Option Int := match Lib.atoiAll t.data.toList with
  | .ok v => if 1000000000 < v ∨ (1 < t.size ∧ (t.data.toList.headD 0).toNat = 48) then none else some v
  | _ => none
def wordTo (s : ByteArray) (fr : Nat) : Nat :=
  if keywordB (s.extract fr (wend s fr)) then wend s fr
  else if h : wend s fr < s.size then (if s[wend s fr].toNat = 39 then wend s fr + 1 else wend s fr) else wend s fr
def tokAt (s : ByteArray) (fr : Nat) : Option (Nat × Int × ByteArray × Int) :=
  if h : fr < s.size then
    if letterB s[fr].toNat then
      if 16 < wend s fr - fr then none else some (wordTo s fr, 1, s.extract fr (wordTo s fr), 0)
    else if digitB s[fr].toNat then (numTok (s.extract fr (wend s fr))).map fun v => (wend s fr, 2, ⟨#[]⟩, v)
    else if sIdx (s.data.toList.drop fr) signs < 0 then none
    else some (fr + (signs.getD (sIdx (s.data.toList.drop fr) signs).toNat ⟨#[]⟩).size, 3, s.extract fr (fr + (signs.getD (sIdx (s.data.toList.drop fr) signs).toNat ⟨#[]⟩).size), 0)
  else some (fr, 0, ⟨#[]⟩, 0)
def AdvPost (b : Nat) (s : ByteArray) (nest fr : Nat) (w : World) (e : Ending) (w' : World) : Prop :=
  match tokAt s fr with
  | some t => e = .returned (.tuple #[]) ∧ Blk w' b 86 (pcells s t.1 t.2.1 t.2.2.1 t.2.2.2 fr nest) ∧ Kept (· = b) w w'
  | none => e = .panicked [{ v := .iface 81 (.agg #[.int .i64 fr]), recovered := false }] ∧ Kept (· = b) w w'
theorem AdvPost.some {b : Nat} {s : ByteArray} {nest fr : Nat} {w : World} {e : Ending} {w' : World} {t1 : Nat} {k : Int} {tx : ByteArray} {n : Int} (h : tokAt s fr = some (t1, k, tx, n)) (he : e = .returned (.tuple #[])) (hb : Blk w' b 86 (pcells s t1 k tx n fr nest)) (hk : Kept (· = b) w w') : AdvPost b s nest fr w e w' := by
  unfold AdvPost; rw [h]; exact ⟨he, hb, hk⟩
theorem AdvPost.none {b : Nat} {s : ByteArray} {nest fr : Nat} {w : World} {e : Ending} {w' : World} (h : tokAt s fr = none) (he : e = .panicked [{ v := .iface 81 (.agg #[.int .i64 fr]), recovered := false }]) (hk : Kept (· = b) w w') : AdvPost b s nest fr w e w' := by
  unfold AdvPost; rw [h]; exact ⟨he, hk⟩
theorem tok_num_none {s : ByteArray} {fr t : Nat} (hlt : fr < s.size) (hl : letterB s[fr].toNat = false) (hd : digitB s[fr].toNat = true) (HT : wend s fr = t) (hn : numTok (s.extract fr t) = none) : tokAt s fr = none := by
  unfold tokAt; rw [dif_pos hlt, if_neg (by rw [hl]; simp), if_pos hd, HT, hn]; rfl
theorem tok_num_some {s : ByteArray} {fr t : Nat} {v : Int} (hlt : fr < s.size) (hl : letterB s[fr].toNat = false) (hd : digitB s[fr].toNat = true) (HT : wend s fr = t) (hn : numTok (s.extract fr t) = some v) : tokAt s fr = some (t, 2, ⟨#[]⟩, v) := by
  unfold tokAt; rw [dif_pos hlt, if_neg (by rw [hl]; simp), if_pos hd, HT, hn]; rfl
theorem num_bad {x : ByteArray} (h : ∀ v, Lib.atoiAll x.data.toList ≠ .ok v) : numTok x = none := by
  unfold numTok
  cases ha : Lib.atoiAll x.data.toList with
  | ok v => exact absurd ha (h v)
  | range => rfl
  | _ => rfl
theorem num_big {x : ByteArray} {v : Int} (ha : Lib.atoiAll x.data.toList = .ok v) (hv : 1000000000 < v) : numTok x = none := by
  unfold numTok; rw [ha]; simp only []; rw [if_pos (Or.inl hv)]
theorem num_zero {x : ByteArray} {v : Int} (ha : Lib.atoiAll x.data.toList = .ok v) (h1 : 1 < x.size) (h0 : 0 < x.size) (h48 : ((x[0].toNat : Int) == 48) = true) : numTok x = none := by
  unfold numTok; rw [ha]; simp only []
  have := head_of x h0
  rw [if_pos (Or.inr ⟨h1, by rw [this]; have := eq_of_beq h48; omega⟩)]
theorem num_ok {x : ByteArray} {v : Int} (ha : Lib.atoiAll x.data.toList = .ok v) (hv : ¬ 1000000000 < v) (h : 1 < x.size → ∀ h0 : 0 < x.size, ((x[0].toNat : Int) == 48) = false) : numTok x = some v := by
  unfold numTok; rw [ha]; simp only []
  rw [if_neg]
  rintro (h1 | ⟨h1, h2⟩)
  · exact hv h1
  · have h0 : 0 < x.size := by omega
    have := head_of x h0
    rw [this] at h2
    have := ne_of_beq_false (h h1 h0)
    omega
theorem sIdx_cases (l : List UInt8) (xs : List ByteArray) : sIdx l xs = -1 ∨ ∃ j, ∃ h : j < xs.length, sIdx l xs = (j : Int) ∧ Lib.hasPrefix l xs[j].data.toList = true := by
  unfold sIdx
  cases hf : xs.findIdx? (fun x => Lib.hasPrefix l x.data.toList) with
  | none => exact .inl rfl
  | some j =>
    obtain ⟨h, hy, _⟩ := List.findIdx?_eq_some_iff_getElem.1 hf
    exact .inr ⟨j, h, rfl, hy⟩
theorem pre_len (s x : ByteArray) (fr : Nat) (hf : fr ≤ s.size) (h : Lib.hasPrefix (s.data.toList.drop fr) x.data.toList = true) : fr + x.size ≤ s.size := by
  unfold Lib.hasPrefix at h
  have := (List.isPrefixOf_iff_prefix.1 h).length_le
  rw [List.length_drop] at this
  have e1 : s.data.toList.length = s.size := by rw [Array.length_toList]; rfl
  have e2 : x.data.toList.length = x.size := by rw [Array.length_toList]; rfl
  omega
theorem signs_at (W : World) (j : Nat) (h : j < signs.length) : (W.alloc (Obj.cells (List.map Value.string signs).toArray 9)).cell? ⟨W.heap.size, j, none⟩ = some (.string signs[j]) := by
  rw [(Blk.new W 9 (List.map Value.string signs)).cell j, List.getElem?_map, List.getElem?_eq_getElem h]; rfl
def Gl (w : World) : Prop := (∃ t p, w.cell? ⟨0, 0, none⟩ = some (.iface t p)) ∧ (∃ t p, w.cell? ⟨1, 0, none⟩ = some (.iface t p))
theorem Gl.lt {w : World} (h : Gl w) : 1 < w.heap.size := by
  obtain ⟨_, t, p, h⟩ := h
  unfold World.cell? at h
  by_cases hl : 1 < w.heap.size
  · exact hl
  · rw [Array.getElem?_eq_none (by show w.heap.size ≤ 1; omega)] at h; simp at h
theorem Gl.kept {S : Nat → Prop} {w w' : World} (h : Gl w) (hk : Kept S w w') (h0 : ¬ S 0) (h1 : ¬ S 1) : Gl w' := by
  have hl := h.lt
  obtain ⟨⟨t, p, a⟩, u, q, c⟩ := h
  exact ⟨⟨t, p, by rw [hk.cell (p := ⟨0, 0, none⟩) (by show 0 < _; omega) h0]; exact a⟩, u, q, by rw [hk.cell (p := ⟨1, 0, none⟩) (by show 1 < _; omega) h1]; exact c⟩
theorem atoi_ok (t : ByteArray) (hl : t.size ≤ 65536) (v : Int) (h : Lib.atoiAll t.data.toList = .ok v) (w : World) :
    Calls Tryz.prog 111 #[.string t] w fun e w' => e = .returned (.tuple #[.int .i64 v, .nilIface]) ∧ Below w.heap.size w w' :=
  (Tryz.strconv_Atoi_ok t (by omega) v h w).mono fun e w' ⟨he, hw⟩ => ⟨he, by
    rcases hw with rfl | ⟨u, rfl⟩
    · exact Below.refl _ _
    · exact Lib.bytesWorld_below _ _ _⟩
theorem atoi_bad (t : ByteArray) (hl : t.size ≤ 65536) (h : ∀ v, Lib.atoiAll t.data.toList ≠ .ok v) (w : World) (hg : Gl w) :
    Calls Tryz.prog 111 #[.string t] w fun e w' => ∃ v N, e = .returned (.tuple #[.int .i64 v, .iface 149 (.pointer (some ⟨N, 0, none⟩))]) ∧ Below w.heap.size w w' := by
  obtain ⟨⟨t0, p0, g0⟩, t1, p1, g1⟩ := hg
  cases ha : Lib.atoiAll t.data.toList with
  | ok v => exact absurd ha (h v)
  | range => exact (Tryz.strconv_Atoi_range t (by omega) ha _ w g1 (Or.inr ⟨_, _, rfl⟩)).mono fun e w' ⟨N, he, _, _, hb⟩ => ⟨_, N, he, hb⟩
  | _ => exact (Tryz.strconv_Atoi_syntax t (by omega) ha _ w g0 (Or.inr ⟨_, _, rfl⟩)).mono fun e w' ⟨N, he, _, _, hb⟩ => ⟨0, N, he, hb⟩
theorem letter_t {c : Int} {v : Bool} (h : letterB c = v) (w : World) : Calls Tryz.prog 45 #[.int .u8 c] w fun e w' => e = .returned (.bool v) ∧ w' = w := (letter_any c w).mono fun _ _ q => ⟨by rw [← h]; exact q.1, q.2.symm⟩
theorem digit_t {c : Int} {v : Bool} (h : digitB c = v) (w : World) : Calls Tryz.prog 91 #[.int .u8 c] w fun e w' => e = .returned (.bool v) ∧ w' = w := (digit_any c w).mono fun _ _ q => ⟨by rw [← h]; exact q.1, q.2.symm⟩
theorem keyword_t {t : ByteArray} {v : Bool} (h : keywordB t = v) (w : World) : Calls Tryz.prog 46 #[.string t] w fun e w' => e = .returned (.bool v) ∧ w = w' := (keyword_any t w).mono fun _ _ q => ⟨by rw [← h]; exact q.1, q.2⟩
set_option maxRecDepth 100000 in
set_option maxHeartbeats 4000000 in
theorem adv_any (b : Nat) (s : ByteArray) (p ta nest : Nat) (k n : Int) (tx : ByteArray) (w : World) (hs : s.size ≤ 65536) (hp : p ≤ s.size)
    (hB : Blk w b 86 (pcells s p k tx n ta nest)) (hb2 : 2 ≤ b) (hg : Gl w) :
    Calls Tryz.prog 63 #[.pointer (some ⟨b, 0, none⟩)] w (AdvPost b s nest (skip s p) w) := by
  have hblt := hB.lt
  go_enter Tryz.func63, Tryz.ntmps63
  go_upto_block 0 with (fail)
  go_cut [1] (fun v1 wc => v1 = .pointer (some ⟨w.heap.size, 0, none⟩) ∧ Blk wc b 86 (pcells s (skip s p) k tx n ta nest) ∧ Blk wc w.heap.size 49 [.pointer (some ⟨b, 0, none⟩)] ∧ Kept (· = b) w wc)
  case first =>
    go_wp2_with fail
    go_loopg [8] (s.size - p) (fun m _ wr => ∃ q : Nat, q ≤ s.size ∧ m = s.size - q ∧ Hid (skip s q = skip s p) ∧ Blk wr b 86 (pcells s q k tx n ta nest) ∧ Blk wr w.heap.size 49 [.pointer (some ⟨b, 0, none⟩)] ∧ Kept (· = b) w wr)
    case atStart => exact ⟨p, hp, rfl, Lib.hid rfl, hB.alloc _, Blk.new _ _ _, (Kept.refl _ _).alloc _⟩
    case round =>
      obtain ⟨q, hq, rfl, hsk, b1, b2, hk⟩ := hrel
      have c0 : wr.cell? ⟨b, 0, none⟩ = some (.string s) := b1.cell 0
      have c1 : wr.cell? ⟨b, 1, none⟩ = some (.int .i64 q) := b1.cell 1
      have d1 : wr.frozen? ⟨b, 1, none⟩ = false := b1.frozen 1
      have cp : wr.cell? ⟨w.heap.size, 0, none⟩ = some (.pointer (some ⟨b, 0, none⟩)) := b2.cell 0
      by_cases hlt : q < s.size
      · have i1 : (0 : Int) ≤ (q : Int) := by omega
        have i2 : (q : Int) < (s.size : Int) := by omega
        cases h32 : ((s[q].toNat : Int) == 32) <;> cases h9 : ((s[q].toNat : Int) == 9) <;> cases h10 : ((s[q].toNat : Int) == 10)
        · have e : Hid (q = skip s p) := Lib.hid (by rw [← hsk.out]; exact (scan_no _ _ _ hlt (by simp only [blankB, h32, h9, h10]; rfl)).symm)
          go_wp2_with fail
          go_quiet (fail)
          go_wp2_with fail
          go_meet
          case rel =>
            refine ⟨rfl, ?_, b2.drewN _, hk.drewN _⟩
            rw [← e.out]; exact b1.drewN _
        all_goals
          have e : Hid (skip s (q + 1) = skip s p) := Lib.hid (by rw [← hsk.out]; exact (scan_yes _ _ _ hlt (by simp only [blankB, h32, h9, h10]; rfl)).symm)
          go_wp2_with fail
          go_quiet (fail)
          go_wp2_with fail
          go_roundg (s.size - (q + 1))
          case measure => omega
          case rel => 
            refine ⟨q + 1, by omega, rfl, e, ?_, ?_, ?_⟩
            · exact (b1.drewN nq).set 1 _
            · exact (b2.drewN nq).set_other _ _ (by show w.heap.size ≠ b; omega)
            · exact (hk.drewN nq).setCell (Or.inl rfl) _
      · have hd : decide ((q : Int) < (s.size : Int)) = false := by simp; omega
        go_wp2_with fail
        go_quiet (fail)
        go_wp2_with fail
        go_meet
        case rel =>
          refine ⟨rfl, ?_, b2.drewN _, hk.drewN _⟩
          have e : q = skip s p := by rw [← hsk.out]; exact (scan_end _ _ _ (by omega)).symm
          rw [← e]; exact b1.drewN _
  case rest =>
    obtain ⟨rfl, b1, b2, hk⟩ := hcut
    have hz := hk.size
    have hfs : Hid (p ≤ skip s p ∧ skip s p ≤ s.size) := Lib.hid ⟨(scan_spec _ s p hp).1, (scan_spec _ s p hp).2.1⟩
    generalize skip s p = fr at *
    have hfs1 := hfs.out.1
    have hfs2 := hfs.out.2
    have c0 : wc.cell? ⟨b, 0, none⟩ = some (.string s) := b1.cell 0
    have c1 : wc.cell? ⟨b, 1, none⟩ = some (.int .i64 fr) := b1.cell 1
    have cp : wc.cell? ⟨w.heap.size, 0, none⟩ = some (.pointer (some ⟨b, 0, none⟩)) := b2.cell 0
    have hw1 := b2.lt
    go_upto_region 4 with (fail)
    have e1 := b1.alloc (Obj.cells #[Value.int IntKind.i64 fr] 3)
    have e2 := b2.alloc (Obj.cells #[Value.int IntKind.i64 fr] 3)
    have e3 := Blk.new wc 3 [Value.int IntKind.i64 fr]
    have hk1 := hk.alloc (Obj.cells #[Value.int IntKind.i64 fr] 3)
    have hz1 : w.heap.size < wc.heap.size := hw1
    generalize hW : wc.alloc (Obj.cells #[Value.int IntKind.i64 fr] 3) = w1 at *
    generalize wc.heap.size = fb at *
    clear hW c0 c1 cp b1 b2 hk hz hw1
    have c0 : w1.cell? ⟨b, 0, none⟩ = some (.string s) := e1.cell 0
    have c1 : w1.cell? ⟨b, 1, none⟩ = some (.int .i64 fr) := e1.cell 1
    have cp : w1.cell? ⟨w.heap.size, 0, none⟩ = some (.pointer (some ⟨b, 0, none⟩)) := e2.cell 0
    have cf : w1.cell? ⟨fb, 0, none⟩ = some (.int .i64 fr) := e3.cell 0
    by_cases hend : fr = s.size
    · have he : ((fr : Int) == (s.size : Int)) = true := by simp; omega
      have f2 : w1.frozen? ⟨b, 2, none⟩ = false := e1.frozen 2
      have f3 : w1.frozen? ⟨b, 3, none⟩ = false := e1.frozen 3
      have f4 : w1.frozen? ⟨b, 4, none⟩ = false := e1.frozen 4
      have f5 : w1.frozen? ⟨b, 5, none⟩ = false := e1.frozen 5
      have g2 : w1.cell? ⟨b, 2, none⟩ = some (.int .i64 k) := e1.cell 2
      have g3 : w1.cell? ⟨b, 3, none⟩ = some (.string tx) := e1.cell 3
      have g4 : w1.cell? ⟨b, 4, none⟩ = some (.int .i64 n) := e1.cell 4
      have g5 : w1.cell? ⟨b, 5, none⟩ = some (.int .i64 ta) := e1.cell 5
      have Hend := Lib.hid hend
      clear hend
      go_quiet (fail)
      go_wp2_with fail
      go_end0
      refine AdvPost.some (t1 := fr) (k := 0) (tx := ⟨#[]⟩) (n := 0) (by unfold tokAt; rw [dif_neg (by have := Hend.out; omega)]) rfl ?_ ?_
      · exact ((((e1.drewN nq).set 2 _).set 3 _).set 4 _).set 5 _
      · exact ((((hk1.drewN nq).setCell (Or.inl rfl) _).setCell (Or.inl rfl) _).setCell (Or.inl rfl) _).setCell (Or.inl rfl) _
    · have he : ((fr : Int) == (s.size : Int)) = false := by simp; omega
      have hlt : fr < s.size := by omega
      clear hend
      have hsp := scan_spec inWordB s fr (by omega)
      have hto1 : fr ≤ wend s fr := hsp.1
      have hto2 : wend s fr ≤ s.size := hsp.2.1
      clear hsp
      go_quiet (fail)
      have e1' := e1.drewN nq
      have e2' := e2.drewN nq
      have e3' := e3.drewN nq
      have hk1' := hk1.drewN nq
      generalize hW : w1.drewN nq = w2 at *
      clear hW c0 c1 cp cf e1 e2 e3 hk1
      have c0 : w2.cell? ⟨b, 0, none⟩ = some (.string s) := e1'.cell 0
      have cp : w2.cell? ⟨w.heap.size, 0, none⟩ = some (.pointer (some ⟨b, 0, none⟩)) := e2'.cell 0
      have cf : w2.cell? ⟨fb, 0, none⟩ = some (.int .i64 fr) := e3'.cell 0
      go_upto_block 2 with (fail)
      go_cut [3] (fun v3 wx => v3 = .int .i64 (wend s fr) ∧ wx = w2)
      case first =>
        go_wp2_with fail
        go_loopg [3] (s.size - fr) (fun m v3 wx => wx = w2 ∧ ∃ q : Nat, fr ≤ q ∧ q ≤ s.size ∧ m = s.size - q ∧ v3 = .int .i64 q ∧ Hid (wend s q = wend s fr))
        case atStart => exact ⟨rfl, fr, Nat.le_refl _, by omega, rfl, rfl, Lib.hid rfl⟩
        case round =>
          obtain ⟨rfl, q, hq0, hq, rfl, rfl, hsk⟩ := hrel
          by_cases hql : q < s.size
          · have i1 : (0 : Int) ≤ (q : Int) := by omega
            have i2 : (q : Int) < (s.size : Int) := by omega
            cases hw : inWordB s[q].toNat
            · have e : Hid (q = wend s fr) := Lib.hid (by rw [← hsk.out]; exact (scan_no _ _ _ hql hw).symm)
              go_wp2_with (go_at_call 47; refine (inWord_any _ _).mono ?_; rintro e w' ⟨rfl, rfl⟩)
              go_meet
              case rel => exact ⟨by rw [← e.out], rfl⟩
            · have e : Hid (wend s (q + 1) = wend s fr) := Lib.hid (by rw [← hsk.out]; exact (scan_yes _ _ _ hql hw).symm)
              go_wp2_with (go_at_call 47; refine (inWord_any _ _).mono ?_; rintro e w' ⟨rfl, rfl⟩)
              go_roundg (s.size - (q + 1))
              case measure => omega
              case rel => exact ⟨rfl, q + 1, by omega, by omega, rfl, by go_num, e⟩
          · have i2 : decide ((q : Int) < (s.size : Int)) = false := by simp; omega
            have e : Hid (q = wend s fr) := Lib.hid (by rw [← hsk.out]; exact (scan_end _ _ _ (by omega)).symm)
            go_wp2_with fail
            go_meet
            case rel => exact ⟨by rw [← e.out], rfl⟩
      case rest =>
        obtain ⟨rfl, rfl⟩ := hcut
        generalize hT : wend s fr = t at *
        have HT := Lib.hid hT
        clear hT
        go_wp2_with fail
        go_quiet (fail)
        have e1 := e1'.drewN nq
        have e2 := e2'.drewN nq
        have e3 := e3'.drewN nq
        have hk1 := hk1'.drewN nq
        generalize hW : wc.drewN nq = w3 at *
        clear hW c0 cp cf e1' e2' e3' hk1'
        have c0 : w3.cell? ⟨b, 0, none⟩ = some (.string s) := e1.cell 0
        have cp : w3.cell? ⟨w.heap.size, 0, none⟩ = some (.pointer (some ⟨b, 0, none⟩)) := e2.cell 0
        have cf : w3.cell? ⟨fb, 0, none⟩ = some (.int .i64 fr) := e3.cell 0
        have f1 : w3.frozen? ⟨b, 1, none⟩ = false := e1.frozen 1
        have f2 : w3.frozen? ⟨b, 2, none⟩ = false := e1.frozen 2
        have f3 : w3.frozen? ⟨b, 3, none⟩ = false := e1.frozen 3
        have f4 : w3.frozen? ⟨b, 4, none⟩ = false := e1.frozen 4
        have f5 : w3.frozen? ⟨b, 5, none⟩ = false := e1.frozen 5
        have g1 : w3.cell? ⟨b, 1, none⟩ = some (.int .i64 fr) := e1.cell 1
        have g2 : w3.cell? ⟨b, 2, none⟩ = some (.int .i64 k) := e1.cell 2
        have g3 : w3.cell? ⟨b, 3, none⟩ = some (.string tx) := e1.cell 3
        have g4 : w3.cell? ⟨b, 4, none⟩ = some (.int .i64 n) := e1.cell 4
        have g5 : w3.cell? ⟨b, 5, none⟩ = some (.int .i64 ta) := e1.cell 5
        have i1 : (0 : Int) ≤ (fr : Int) := by omega
        have i2 : (fr : Int) < (s.size : Int) := by omega
        cases hl : letterB s[fr].toNat
        case true =>
          go_upto_region 15 with (fail)
          go_quiet ((go_at_call 45; exact Calls.quiet_of_same (letter_t hl _)))
          by_cases h16 : 16 < t - fr
          · have H16 : Hid (tokAt s fr = none) := Lib.hid (by unfold tokAt; rw [dif_pos hlt, if_pos hl, HT.out, if_pos h16])
            go_wp2_with fail
            exact ⟨rfl, AdvPost.none H16.out rfl (hk1.drewN nq)⟩
          · have H16 : Hid (tokAt s fr = some (wordTo s fr, 1, s.extract fr (wordTo s fr), 0)) := Lib.hid (by unfold tokAt; rw [dif_pos hlt, if_pos hl, HT.out, if_neg h16])
            cases hkw : keywordB (s.extract fr t)
            case true =>
              have HW : Hid (wordTo s fr = t) := Lib.hid (by unfold wordTo; rw [HT.out, if_pos hkw])
              go_wp2_with (go_at_call 46; refine (keyword_t hkw _).mono ?_; rintro e w' ⟨rfl, rfl⟩)
              go_region
              go_wp2_with fail
              go_end0
              refine AdvPost.some (H16.out.trans (by rw [HW.out])) rfl ?_ ?_
              · exact (((((e1.drewN _).set 2 _).set 3 _).set 4 _).set 5 _).set 1 _
              · exact (((((hk1.drewN _).setCell (Or.inl rfl) _).setCell (Or.inl rfl) _).setCell (Or.inl rfl) _).setCell (Or.inl rfl) _).setCell (Or.inl rfl) _
            case false =>
              by_cases hts : t < s.size
              · have i3 : (0 : Int) ≤ (t : Int) := by omega
                have i4 : (t : Int) < (s.size : Int) := by omega
                cases h39 : ((s[t].toNat : Int) == 39)
                case true =>
                  have HW : Hid (wordTo s fr = t + 1) := Lib.hid (by
                    have h39' : s[t].toNat = 39 := by have := eq_of_beq h39; omega
                    unfold wordTo; simp only [HT.out]; rw [if_neg (by rw [hkw]; simp), dif_pos hts, if_pos h39'])
                  go_wp2_with (go_at_call 46; refine (keyword_t hkw _).mono ?_; rintro e w' ⟨rfl, rfl⟩)
                  go_region
                  go_wp2_with fail
                  go_end0
                  refine AdvPost.some (H16.out.trans (by rw [HW.out])) rfl ?_ ?_
                  · exact (((((e1.drewN _).set 2 _).set 3 _).set 4 _).set 5 _).set 1 _
                  · exact (((((hk1.drewN _).setCell (Or.inl rfl) _).setCell (Or.inl rfl) _).setCell (Or.inl rfl) _).setCell (Or.inl rfl) _).setCell (Or.inl rfl) _
                case false =>
                  have HW : Hid (wordTo s fr = t) := Lib.hid (by
                    have h39' : ¬ s[t].toNat = 39 := by have := ne_of_beq_false h39; omega
                    unfold wordTo; simp only [HT.out]; rw [if_neg (by rw [hkw]; simp), dif_pos hts, if_neg h39'])
                  go_wp2_with (go_at_call 46; refine (keyword_t hkw _).mono ?_; rintro e w' ⟨rfl, rfl⟩)
                  go_region
                  go_wp2_with fail
                  go_end0
                  refine AdvPost.some (H16.out.trans (by rw [HW.out])) rfl ?_ ?_
                  · exact (((((e1.drewN _).set 2 _).set 3 _).set 4 _).set 5 _).set 1 _
                  · exact (((((hk1.drewN _).setCell (Or.inl rfl) _).setCell (Or.inl rfl) _).setCell (Or.inl rfl) _).setCell (Or.inl rfl) _).setCell (Or.inl rfl) _
              · have i4 : decide ((t : Int) < (s.size : Int)) = false := by simp; omega
                have HW : Hid (wordTo s fr = t) := Lib.hid (by
                  unfold wordTo; simp only [HT.out]; rw [if_neg (by rw [hkw]; simp), dif_neg hts])
                go_wp2_with (go_at_call 46; refine (keyword_t hkw _).mono ?_; rintro e w' ⟨rfl, rfl⟩)
                go_region
                go_wp2_with fail
                go_end0
                refine AdvPost.some (H16.out.trans (by rw [HW.out])) rfl ?_ ?_
                · exact (((((e1.drewN _).set 2 _).set 3 _).set 4 _).set 5 _).set 1 _
                · exact (((((hk1.drewN _).setCell (Or.inl rfl) _).setCell (Or.inl rfl) _).setCell (Or.inl rfl) _).setCell (Or.inl rfl) _).setCell (Or.inl rfl) _
        case false =>
          go_upto_region 15 with (fail)
          go_quiet ((go_at_call 45; exact Calls.quiet_of_same (letter_t hl _)))
          go_wp2_with fail
          have e1' := e1.drewN nq
          have e2' := e2.drewN nq
          have e3' := e3.drewN nq
          have hk1' := hk1.drewN nq
          generalize hW : w3.drewN nq = w4 at *
          clear hW c0 cp cf e1 e2 e3 hk1 f1 f2 f3 f4 f5 g1 g2 g3 g4 g5
          have c0 : w4.cell? ⟨b, 0, none⟩ = some (.string s) := e1'.cell 0
          have cp : w4.cell? ⟨w.heap.size, 0, none⟩ = some (.pointer (some ⟨b, 0, none⟩)) := e2'.cell 0
          have cf : w4.cell? ⟨fb, 0, none⟩ = some (.int .i64 fr) := e3'.cell 0
          have hxs : (s.extract fr t).size ≤ 65536 := by rw [ByteArray.size_extract]; omega
          cases hd : digitB s[fr].toNat
          case true =>
            go_quiet ((go_at_call 91; exact Calls.quiet_of_same (digit_t hd _)))
            go_wp2_with fail
            have hg4 : Gl (w4.drewN nq) := hg.kept (hk1'.drewN nq) (by omega) (by omega)
            have HG := Lib.hid hg4
            clear hg4
            cases hA : Lib.atoiAll (s.extract fr t).data.toList with
            | ok v => 
              refine (atoi_ok _ hxs v hA _).mono ?_
              rintro e w5 ⟨rfl, hb⟩
              have q1 := (e1'.drewN nq).kept (Kept.of_below (S := fun _ => False) hb) id
              have q2 := (e2'.drewN nq).kept (Kept.of_below (S := fun _ => False) hb) id
              have q3 := (e3'.drewN nq).kept (Kept.of_below (S := fun _ => False) hb) id
              have hk5 := (hk1'.drewN nq).trans (Kept.of_below hb)
              clear c0 cp cf
              have c0 : w5.cell? ⟨b, 0, none⟩ = some (.string s) := q1.cell 0
              have cp : w5.cell? ⟨w.heap.size, 0, none⟩ = some (.pointer (some ⟨b, 0, none⟩)) := q2.cell 0
              have cf : w5.cell? ⟨fb, 0, none⟩ = some (.int .i64 fr) := q3.cell 0
              have f1 : w5.frozen? ⟨b, 1, none⟩ = false := q1.frozen 1
              have f2 : w5.frozen? ⟨b, 2, none⟩ = false := q1.frozen 2
              have f3 : w5.frozen? ⟨b, 3, none⟩ = false := q1.frozen 3
              have f4 : w5.frozen? ⟨b, 4, none⟩ = false := q1.frozen 4
              have f5 : w5.frozen? ⟨b, 5, none⟩ = false := q1.frozen 5
              have g1 : w5.cell? ⟨b, 1, none⟩ = some (.int .i64 fr) := q1.cell 1
              have g2 : w5.cell? ⟨b, 2, none⟩ = some (.int .i64 k) := q1.cell 2
              have g3 : w5.cell? ⟨b, 3, none⟩ = some (.string tx) := q1.cell 3
              have g4 : w5.cell? ⟨b, 4, none⟩ = some (.int .i64 n) := q1.cell 4
              have g5 : w5.cell? ⟨b, 5, none⟩ = some (.int .i64 ta) := q1.cell 5
              have hxz : (s.extract fr t).size = t - fr := by rw [ByteArray.size_extract]; omega
              have HX := Lib.hid hxz
              clear hxz
              by_cases hv : 1000000000 < v
              · have hN := Lib.hid (tok_num_none hlt hl hd HT.out (num_big hA hv))
                go_wp2_with fail
                exact ⟨rfl, AdvPost.none hN.out rfl hk5⟩
              · by_cases h1t : 1 < t - fr
                · have h0' := Lib.hid (show 0 < (s.extract fr t).size by rw [HX.out]; omega)
                  have Hv := Lib.hid hv
                  go_wp2_with fail
                  · have h : 1000000000 < v ∨ ((((s.extract fr t)[0]'h0'.out).toNat : Int) == 48) = true := by assumption
                    have hN := tok_num_none hlt hl hd HT.out (num_zero hA (by rw [HX.out]; omega) h0'.out (h.resolve_left (by have := Hv.out; omega)))
                    exact ⟨rfl, AdvPost.none hN rfl hk5⟩
                  · have h : v ≤ 1000000000 ∧ ((((s.extract fr t)[0]'h0'.out).toNat : Int) == 48) = false := by assumption
                    have hN := tok_num_some hlt hl hd HT.out (num_ok hA (by have := Hv.out; omega) (fun _ _ => h.2))
                    go_end0
                    refine AdvPost.some hN rfl ?_ ?_
                    · exact ((((q1.set 2 _).set 3 _).set 4 _).set 5 _).set 1 _
                    · exact ((((hk5.setCell (Or.inl rfl) _).setCell (Or.inl rfl) _).setCell (Or.inl rfl) _).setCell (Or.inl rfl) _).setCell (Or.inl rfl) _
                · have hd1 : decide (1 < ((t - fr : Nat) : Int)) = false := by simp; omega
                  have hN := Lib.hid (tok_num_some hlt hl hd HT.out (num_ok hA hv (fun h => by rw [HX.out] at h; omega)))
                  go_wp2_with fail
                  go_end0
                  refine AdvPost.some hN.out rfl ?_ ?_
                  · exact ((((q1.set 2 _).set 3 _).set 4 _).set 5 _).set 1 _
                  · exact ((((hk5.setCell (Or.inl rfl) _).setCell (Or.inl rfl) _).setCell (Or.inl rfl) _).setCell (Or.inl rfl) _).setCell (Or.inl rfl) _
            | _ =>
              have hN := Lib.hid (tok_num_none hlt hl hd HT.out (num_bad (fun v h => by rw [hA] at h; cases h)))
              refine (atoi_bad _ hxs (fun v h => by rw [hA] at h; cases h) _ HG.out).mono ?_
              rintro e w5 ⟨v, N, rfl, hb⟩
              have q3 := (e3'.drewN nq).kept (Kept.of_below (S := fun _ => False) hb) id
              have hk5 := (hk1'.drewN nq).trans (Kept.of_below hb)
              have cf : w5.cell? ⟨fb, 0, none⟩ = some (.int .i64 fr) := q3.cell 0
              go_wp2_with fail
              exact ⟨rfl, AdvPost.none hN.out rfl hk5⟩
          case false =>
            go_quiet ((go_at_call 91; exact Calls.quiet_of_same (digit_t hd _)))
            go_wp2_with fail
            refine (signs_any _).mono ?_
            rintro e w5 ⟨rfl, rfl⟩
            have r1 := (e1'.drewN nq).alloc (Obj.cells (List.map Value.string signs).toArray 9)
            have r2 := (e2'.drewN nq).alloc (Obj.cells (List.map Value.string signs).toArray 9)
            have r3 := (e3'.drewN nq).alloc (Obj.cells (List.map Value.string signs).toArray 9)
            have r4 := Blk.new (w4.drewN nq) 9 (List.map Value.string signs)
            have hk5 := (hk1'.drewN nq).alloc (Obj.cells (List.map Value.string signs).toArray 9)
            go_wp2_with fail
            generalize hW : (w4.drewN nq).alloc (Obj.cells (List.map Value.string signs).toArray 9) = w5 at *
            have r4' : Blk w5 w4.heap.size 9 (List.map Value.string signs) := r4
            generalize w4.heap.size = g at *
            clear hW c0 cp cf
            have c0 : w5.cell? ⟨b, 0, none⟩ = some (.string s) := r1.cell 0
            have cp : w5.cell? ⟨w.heap.size, 0, none⟩ = some (.pointer (some ⟨b, 0, none⟩)) := r2.cell 0
            have cf : w5.cell? ⟨fb, 0, none⟩ = some (.int .i64 fr) := r3.cell 0
            refine (idxSign_any signs s g b w.heap.size fb fr 40 w5 (fun i h => by rw [r4'.cell i, List.getElem?_map, List.getElem?_eq_getElem h]; rfl) (by decide) cp c0 cf (by omega) (by omega)).mono ?_
            rintro e w6 ⟨rfl, m, rfl⟩
            have y1 := r1.drewN m
            have y2 := r2.drewN m
            have y3 := r3.drewN m
            have hk6 := hk5.drewN m
            generalize hW : w5.drewN m = w6 at *
            clear hW c0 cp cf
            have c0 : w6.cell? ⟨b, 0, none⟩ = some (.string s) := y1.cell 0
            have cp : w6.cell? ⟨w.heap.size, 0, none⟩ = some (.pointer (some ⟨b, 0, none⟩)) := y2.cell 0
            have cf : w6.cell? ⟨fb, 0, none⟩ = some (.int .i64 fr) := y3.cell 0
            rcases sIdx_cases (s.data.toList.drop fr) signs with hi | ⟨j, hj, hi, hpre⟩
            · have hN : Hid (tokAt s fr = none) := Lib.hid (by unfold tokAt; rw [dif_pos hlt, if_neg (by rw [hl]; simp), if_neg (by rw [hd]; simp), hi, if_pos (by decide)])
              rw [hi]
              clear hi
              go_wp2_with fail
              exact ⟨rfl, AdvPost.none hN.out rfl hk6⟩
            · have hlen := pre_len s signs[j] fr (by omega) hpre
              have hN : Hid (tokAt s fr = some (fr + signs[j].size, 3, s.extract fr (fr + signs[j].size), 0)) := Lib.hid (by
                unfold tokAt; rw [dif_pos hlt, if_neg (by rw [hl]; simp), if_neg (by rw [hd]; simp), hi, if_neg (by omega)]
                simp only [Int.toNat_natCast, List.getD_eq_getElem?_getD, List.getElem?_eq_getElem hj, Option.getD_some])
              rw [hi]
              clear hi hpre
              have hj' : j < 40 := hj
              have hsa := fun W => signs_at W j hj
              generalize signs[j] = x at *
              have hsum : IntKind.i64.wrap ((fr : Int) + (x.size : Int)) = (fr : Int) + (x.size : Int) := IntWalk.i64_in _ (by omega)
              have HLEN := Lib.hid hlen
              have j1 : (0 : Int) ≤ (j : Int) := by omega
              have j2 : (j : Int) < 40 := by omega
              go_upto_region 13 with (fail)
              go_cut [3] (fun v3 wx => v3 = .int .i64 ((fr + x.size : Nat) : Int) ∧ Blk wx b 86 (pcells s fr k tx n ta nest) ∧ Blk wx w.heap.size 49 [.pointer (some ⟨b, 0, none⟩)] ∧ Blk wx fb 3 [.int .i64 fr] ∧ Kept (· = b) w wx)
              case first =>
                have hfb := y3.lt
                go_region_with (go_at_call 113; refine (signs_any _).mono ?_; rintro e w' ⟨rfl, rfl⟩)
                all_goals
                  go_wp2_with fail
                  go_meet
                  case rel => exact ⟨by go_num, y1.drew.alloc _, y2.drew.alloc _, y3.drew.alloc _, hk6.drew.alloc _⟩
              case rest =>
                obtain ⟨rfl, z1, z2, z3, hk7⟩ := hcut
                clear c0 cp cf
                have c0 : wc.cell? ⟨b, 0, none⟩ = some (.string s) := z1.cell 0
                have cp : wc.cell? ⟨w.heap.size, 0, none⟩ = some (.pointer (some ⟨b, 0, none⟩)) := z2.cell 0
                have cf : wc.cell? ⟨fb, 0, none⟩ = some (.int .i64 fr) := z3.cell 0
                have f1 : wc.frozen? ⟨b, 1, none⟩ = false := z1.frozen 1
                have f2 : wc.frozen? ⟨b, 2, none⟩ = false := z1.frozen 2
                have f3 : wc.frozen? ⟨b, 3, none⟩ = false := z1.frozen 3
                have f4 : wc.frozen? ⟨b, 4, none⟩ = false := z1.frozen 4
                have f5 : wc.frozen? ⟨b, 5, none⟩ = false := z1.frozen 5
                have g1 : wc.cell? ⟨b, 1, none⟩ = some (.int .i64 fr) := z1.cell 1
                have g2 : wc.cell? ⟨b, 2, none⟩ = some (.int .i64 k) := z1.cell 2
                have g3 : wc.cell? ⟨b, 3, none⟩ = some (.string tx) := z1.cell 3
                have g4 : wc.cell? ⟨b, 4, none⟩ = some (.int .i64 n) := z1.cell 4
                have g5 : wc.cell? ⟨b, 5, none⟩ = some (.int .i64 ta) := z1.cell 5
                clear hsum hsa
                have i5 : fr ≤ fr + x.size := by omega
                generalize fr + x.size = t1 at *
                have i3 : (fr : Int) ≤ (t1 : Int) := by omega
                have i4 : (t1 : Int) ≤ (s.size : Int) := by omega
                go_wp2_with fail
                go_region
                go_wp2_with fail
                go_end0
                refine AdvPost.some hN.out rfl ?_ ?_
                · exact (((((z1.set 2 _).set 3 _).set 4 _).set 5 _).set 1 _).drew
                · exact (((((hk7.setCell (Or.inl rfl) _).setCell (Or.inl rfl) _).setCell (Or.inl rfl) _).setCell (Or.inl rfl) _).setCell (Or.inl rfl) _).drew
structure PS where
  p : Nat
  k : Int
  tx : ByteArray
  n : Int
  ta : Nat
  nest : Nat
def PAt (w : World) (b : Nat) (s : ByteArray) (σ : PS) : Prop := Blk w b 86 (pcells s σ.p σ.k σ.tx σ.n σ.ta σ.nest)
structure PW (w : World) (b : Nat) (s : ByteArray) (σ : PS) : Prop where
  blk : PAt w b s σ
  le : σ.p ≤ s.size
  tx : σ.tx.size ≤ 65536
  src : s.size ≤ 65536
  two : 2 ≤ b
  gl : Gl w
  nest : σ.nest ≤ 64
def pan (d : Bool) (pos : Nat) : PanicEntry := { v := .iface (if d then 82 else 81) (.agg #[.int .i64 pos]), recovered := false }
abbrev ER := Bool × Nat
def advS (s : ByteArray) (σ : PS) : Except ER PS :=
  match tokAt s (skip s σ.p) with
  | some t => .ok ⟨t.1, t.2.1, t.2.2.1, t.2.2.2, skip s σ.p, σ.nest⟩
  | none => .error (false, skip s σ.p)
theorem extract_le (s : ByteArray) (a c : Nat) : (s.extract a c).size ≤ s.size := by rw [ByteArray.size_extract]; omega
theorem skip_le (s : ByteArray) (p : Nat) (h : p ≤ s.size) : skip s p ≤ s.size := (scan_spec _ s p h).2.1
theorem wordTo_le (s : ByteArray) (fr : Nat) (h : fr ≤ s.size) : wordTo s fr ≤ s.size := by
  have := (scan_spec inWordB s fr h).2.1
  unfold wordTo
  split
  · exact this
  · split
    · split
      · rename_i h _; exact h
      · exact this
    · exact this
theorem sign_le (s : ByteArray) (fr : Nat) (h : fr ≤ s.size) (hi : ¬ sIdx (s.data.toList.drop fr) signs < 0) : fr + (signs.getD (sIdx (s.data.toList.drop fr) signs).toNat ⟨#[]⟩).size ≤ s.size := by
  rcases sIdx_cases (s.data.toList.drop fr) signs with h1 | ⟨j, hj, h1, hp⟩
  · rw [h1] at hi; exact absurd (by decide) hi
  · rw [h1, Int.toNat_natCast, List.getD_eq_getElem?_getD, List.getElem?_eq_getElem hj]
    exact pre_len s signs[j] fr h hp
theorem tokAt_le {s : ByteArray} {fr : Nat} {t : Nat × Int × ByteArray × Int} (h : fr ≤ s.size) (ht : tokAt s fr = some t) : t.1 ≤ s.size ∧ t.2.2.1.size ≤ s.size := by
  unfold tokAt at ht
  split at ht
  · split at ht
    · split at ht
      · cases ht
      · cases ht; exact ⟨wordTo_le s fr h, extract_le _ _ _⟩
    · split at ht
      · cases hn : numTok (s.extract fr (wend s fr)) with
        | none => rw [hn] at ht; cases ht
        | some v => rw [hn] at ht; cases ht; exact ⟨(scan_spec inWordB s fr h).2.1, Nat.zero_le _⟩
      · split at ht
        · cases ht
        · rename_i hi; cases ht; exact ⟨sign_le s fr h hi, extract_le _ _ _⟩
  · cases ht; exact ⟨h, Nat.zero_le _⟩
theorem adv_ok {w : World} {b : Nat} {s : ByteArray} {σ σ' : PS} (h : PW w b s σ) (ha : advS s σ = .ok σ') :
    Calls Tryz.prog 63 #[.pointer (some ⟨b, 0, none⟩)] w fun e w' => e = .returned (.tuple #[]) ∧ PW w' b s σ' ∧ Kept (· = b) w w' := by
  refine (adv_any b s σ.p σ.ta σ.nest σ.k σ.n σ.tx w h.src h.le h.blk h.two h.gl).mono ?_
  intro e w' hp
  unfold AdvPost at hp
  unfold advS at ha
  cases ht : tokAt s (skip s σ.p) with
  | none => rw [ht] at ha; cases ha
  | some t =>
    rw [ht] at ha hp
    cases ha
    obtain ⟨he, hb, hk⟩ := hp
    have := tokAt_le (skip_le s σ.p h.le) ht
    exact ⟨he, ⟨hb, this.1, Nat.le_trans this.2 h.src, h.src, h.two, h.gl.kept hk (by have := h.two; omega) (by have := h.two; omega), h.nest⟩, hk⟩
theorem adv_err {w : World} {b : Nat} {s : ByteArray} {σ : PS} {r : ER} (h : PW w b s σ) (ha : advS s σ = .error r) :
    Calls Tryz.prog 63 #[.pointer (some ⟨b, 0, none⟩)] w fun e w' => e = .panicked [pan r.1 r.2] ∧ Kept (· = b) w w' := by
  refine (adv_any b s σ.p σ.ta σ.nest σ.k σ.n σ.tx w h.src h.le h.blk h.two h.gl).mono ?_
  intro e w' hp
  unfold AdvPost at hp
  unfold advS at ha
  cases ht : tokAt s (skip s σ.p) with
  | some t => rw [ht] at ha; cases ha
  | none => rw [ht] at ha hp; cases ha; exact hp
def isB (k : Int) (tx t : ByteArray) : Bool := (k == 3 && tx.toList == t.toList) || (k == 1 && tx.toList == t.toList && keywordB t)
def isS (σ : PS) (t : ByteArray) : Bool := isB σ.k σ.tx t
theorem PW.kd {w : World} {b : Nat} {s : ByteArray} {σ : PS} (h : PW w b s σ) : w.cell? ⟨b, 2, none⟩ = some (.int .i64 σ.k) := h.blk.cell 2
theorem PW.txt {w : World} {b : Nat} {s : ByteArray} {σ : PS} (h : PW w b s σ) : w.cell? ⟨b, 3, none⟩ = some (.string σ.tx) := h.blk.cell 3
theorem PW.num {w : World} {b : Nat} {s : ByteArray} {σ : PS} (h : PW w b s σ) : w.cell? ⟨b, 4, none⟩ = some (.int .i64 σ.n) := h.blk.cell 4
theorem PW.tat {w : World} {b : Nat} {s : ByteArray} {σ : PS} (h : PW w b s σ) : w.cell? ⟨b, 5, none⟩ = some (.int .i64 σ.ta) := h.blk.cell 5
theorem PW.nst {w : World} {b : Nat} {s : ByteArray} {σ : PS} (h : PW w b s σ) : w.cell? ⟨b, 6, none⟩ = some (.int .i64 σ.nest) := h.blk.cell 6
theorem PW.nfr {w : World} {b : Nat} {s : ByteArray} {σ : PS} (h : PW w b s σ) : w.frozen? ⟨b, 6, none⟩ = false := h.blk.frozen 6
theorem PW.lt {w : World} {b : Nat} {s : ByteArray} {σ : PS} (h : PW w b s σ) : b < w.heap.size := Blk.lt h.blk
set_option maxHeartbeats 1000000 in
theorem is_any {w : World} {b : Nat} {s : ByteArray} {σ : PS} (h : PW w b s σ) (t : ByteArray) {v : Bool} (hv : isS σ t = v) :
    Calls Tryz.prog 116 #[.pointer (some ⟨b, 0, none⟩), .string t] w fun e w' => e = .returned (.bool v) ∧ w = w' := by
  have h2 := h.kd
  have h3 := h.txt
  unfold isS isB at hv
  generalize σ.k = k at *
  generalize σ.tx = tx at *
  cases hk3 : (k == 3) <;> cases hk1 : (k == 1) <;> cases ht : (tx.toList == t.toList)
  all_goals
    rw [hk3, hk1, ht] at hv
    have HV := Lib.hid hv
    clear hv
    go_enter Tryz.func116, Tryz.ntmps116
    go_wp2_with (go_at_call 46; refine (keyword_any _ _).mono ?_; rintro e w' ⟨rfl, rfl⟩)
    go_ret
    exact ⟨by rw [← HV.out]; simp, rfl⟩
set_option maxHeartbeats 1000000 in
theorem fail_any {w : World} {b : Nat} {s : ByteArray} {σ : PS} (h : PW w b s σ) :
    Calls Tryz.prog 64 #[.pointer (some ⟨b, 0, none⟩)] w fun e w' => e = .panicked [pan false σ.ta] ∧ w = w' := by
  have h5 := h.tat
  go_enter Tryz.func64, Tryz.ntmps64
  go_wp2_with fail
  exact ⟨rfl, rfl, rfl⟩
def eatS (s : ByteArray) (σ : PS) (t : ByteArray) : Except ER (Bool × PS) :=
  if isS σ t then match advS s σ with | .ok σ' => .ok (true, σ') | .error r => .error r else .ok (false, σ)
set_option maxHeartbeats 1000000 in
theorem eat_ok {w : World} {b : Nat} {s : ByteArray} {σ σ' : PS} (h : PW w b s σ) (t : ByteArray) {v : Bool} (hv : eatS s σ t = .ok (v, σ')) :
    Calls Tryz.prog 65 #[.pointer (some ⟨b, 0, none⟩), .string t] w fun e w' => e = .returned (.bool v) ∧ PW w' b s σ' ∧ Kept (· = b) w w' := by
  unfold eatS at hv
  cases hi : isS σ t
  · rw [hi] at hv; cases hv
    go_enter Tryz.func65, Tryz.ntmps65
    go_wp2_with (go_at_call 116; refine (is_any h t hi).mono ?_; rintro e w' ⟨rfl, rfl⟩)
    go_ret
    exact ⟨rfl, h, Kept.refl _ _⟩
  · rw [hi, if_pos rfl] at hv
    cases ha : advS s σ with
    | error r => rw [ha] at hv; cases hv
    | ok σ1 =>
      rw [ha] at hv; cases hv
      go_enter Tryz.func65, Tryz.ntmps65
      go_wp2_with (first | (go_at_call 116; refine (is_any h t hi).mono ?_; rintro e w' ⟨rfl, rfl⟩) | (go_at_call 63; refine (adv_ok h ha).mono ?_; rintro e w' ⟨rfl, hp', hk'⟩))
      go_ret
      exact ⟨rfl, hp', hk'⟩
set_option maxHeartbeats 1000000 in
theorem eat_err {w : World} {b : Nat} {s : ByteArray} {σ : PS} {r : ER} (h : PW w b s σ) (t : ByteArray) (hv : eatS s σ t = .error r) :
    Calls Tryz.prog 65 #[.pointer (some ⟨b, 0, none⟩), .string t] w fun e w' => e = .panicked [pan r.1 r.2] ∧ Kept (· = b) w w' := by
  unfold eatS at hv
  cases hi : isS σ t
  · rw [hi] at hv; cases hv
  · rw [hi, if_pos rfl] at hv
    cases ha : advS s σ with
    | ok r => rw [ha] at hv; cases hv
    | error r1 =>
      rw [ha] at hv; cases hv
      go_enter Tryz.func65, Tryz.ntmps65
      go_wp2_with (first | (go_at_call 116; refine (is_any h t hi).mono ?_; rintro e w' ⟨rfl, rfl⟩) | (go_at_call 63; refine (adv_err h ha).mono ?_; rintro e w' ⟨rfl, hk'⟩))
      exact ⟨rfl, rfl, hk'⟩
def wantS (s : ByteArray) (σ : PS) (t : ByteArray) : Except ER PS :=
  match eatS s σ t with
  | .error r => .error r
  | .ok (true, σ') => .ok σ'
  | .ok (false, σ') => .error (false, σ'.ta)
set_option maxHeartbeats 1000000 in
theorem want_ok {w : World} {b : Nat} {s : ByteArray} {σ σ' : PS} (h : PW w b s σ) (t : ByteArray) (hv : wantS s σ t = .ok σ') :
    Calls Tryz.prog 86 #[.pointer (some ⟨b, 0, none⟩), .string t] w fun e w' => e = .returned (.tuple #[]) ∧ PW w' b s σ' ∧ Kept (· = b) w w' := by
  unfold wantS at hv
  cases he : eatS s σ t with
  | error r => rw [he] at hv; cases hv
  | ok q =>
    obtain ⟨v, σ1⟩ := q
    rw [he] at hv
    cases v
    · cases hv
    · cases hv
      go_enter Tryz.func86, Tryz.ntmps86
      go_wp2_with (go_at_call 65; refine (eat_ok h t he).mono ?_; rintro e w' ⟨rfl, hp', hk'⟩)
      go_end0
      exact ⟨rfl, hp', hk'⟩
set_option maxHeartbeats 1000000 in
theorem want_err {w : World} {b : Nat} {s : ByteArray} {σ : PS} {r : ER} (h : PW w b s σ) (t : ByteArray) (hv : wantS s σ t = .error r) :
    Calls Tryz.prog 86 #[.pointer (some ⟨b, 0, none⟩), .string t] w fun e w' => e = .panicked [pan r.1 r.2] ∧ Kept (· = b) w w' := by
  unfold wantS at hv
  cases he : eatS s σ t with
  | error r1 =>
    rw [he] at hv; cases hv
    go_enter Tryz.func86, Tryz.ntmps86
    go_wp2_with (go_at_call 65; refine (eat_err h t he).mono ?_; rintro e w' ⟨rfl, hk'⟩)
    exact ⟨rfl, rfl, hk'⟩
  | ok q =>
    obtain ⟨v, σ1⟩ := q
    rw [he] at hv
    cases v
    · cases hv
      go_enter Tryz.func86, Tryz.ntmps86
      go_wp2_with (first | (go_at_call 65; refine (eat_ok h t he).mono ?_; rintro e w' ⟨rfl, hp', hk'⟩) | (go_at_call 64; refine (fail_any hp').mono ?_; rintro e w'' ⟨rfl, rfl⟩))
      exact ⟨rfl, rfl, hk'⟩
    · cases hv
def openS (s : ByteArray) (σ : PS) (t : ByteArray) : Except ER PS :=
  if isS σ t then (if σ.nest = 64 then .error (true, σ.ta) else advS s { σ with nest := σ.nest + 1 }) else .error (false, σ.ta)
theorem PW.nested {w : World} {b : Nat} {s : ByteArray} {σ : PS} (h : PW w b s σ) (m : Nat) (hm : m ≤ 64) : PW (w.setCell ⟨b, 6, none⟩ (.int .i64 m)) b s { σ with nest := m } :=
  ⟨h.blk.set 6 _, h.le, h.tx, h.src, h.two, h.gl.kept (S := (· = b)) ((Kept.refl (fun x => x = b) _).setCell (Or.inl rfl) _) (by have := h.two; omega) (by have := h.two; omega), hm⟩
set_option maxHeartbeats 1000000 in
theorem open_ok {w : World} {b : Nat} {s : ByteArray} {σ σ' : PS} (h : PW w b s σ) (t : ByteArray) (hv : openS s σ t = .ok σ') :
    Calls Tryz.prog 84 #[.pointer (some ⟨b, 0, none⟩), .string t] w fun e w' => e = .returned (.tuple #[]) ∧ PW w' b s σ' ∧ Kept (· = b) w w' := by
  unfold openS at hv
  cases hi : isS σ t
  · rw [hi] at hv; cases hv
  · rw [hi, if_pos rfl] at hv
    by_cases hn : σ.nest = 64
    · rw [if_pos hn] at hv; cases hv
    · rw [if_neg hn] at hv
      have hle := h.nest
      have c6 := h.nst
      have f6 := h.nfr
      have i1 : ((σ.nest : Int) == 64) = false := by simp; omega
      have h' := h.nested (σ.nest + 1) (by omega)
      go_enter Tryz.func84, Tryz.ntmps84
      go_wp2_with (first | (go_at_call 116; refine (is_any h t hi).mono ?_; rintro e w' ⟨rfl, rfl⟩) | (go_at_call 63; refine (adv_ok h' hv).mono ?_; rintro e w' ⟨rfl, hp', hk'⟩))
      go_end0
      exact ⟨rfl, hp', ((Kept.refl (fun x => x = b) _).setCell (Or.inl rfl) _).trans hk'⟩
set_option maxHeartbeats 1000000 in
theorem open_err {w : World} {b : Nat} {s : ByteArray} {σ : PS} {r : ER} (h : PW w b s σ) (t : ByteArray) (hv : openS s σ t = .error r) :
    Calls Tryz.prog 84 #[.pointer (some ⟨b, 0, none⟩), .string t] w fun e w' => e = .panicked [pan r.1 r.2] ∧ Kept (· = b) w w' := by
  unfold openS at hv
  have c5 := h.tat
  have c6 := h.nst
  have f6 := h.nfr
  cases hi : isS σ t
  · rw [hi] at hv; cases hv
    go_enter Tryz.func84, Tryz.ntmps84
    go_wp2_with (first | (go_at_call 116; refine (is_any h t hi).mono ?_; rintro e w' ⟨rfl, rfl⟩) | (go_at_call 64; refine (fail_any h).mono ?_; rintro e w'' ⟨rfl, rfl⟩))
    exact ⟨rfl, rfl, Kept.refl _ _⟩
  · rw [hi, if_pos rfl] at hv
    by_cases hn : σ.nest = 64
    · rw [if_pos hn] at hv; cases hv
      have i1 : ((σ.nest : Int) == 64) = true := by simp; omega
      clear hn
      go_enter Tryz.func84, Tryz.ntmps84
      go_wp2_with (go_at_call 116; refine (is_any h t hi).mono ?_; rintro e w' ⟨rfl, rfl⟩)
      exact ⟨rfl, rfl, Kept.refl _ _⟩
    · rw [if_neg hn] at hv
      have hle := h.nest
      have i1 : ((σ.nest : Int) == 64) = false := by simp; omega
      have h' := h.nested (σ.nest + 1) (by omega)
      go_enter Tryz.func84, Tryz.ntmps84
      go_wp2_with (first | (go_at_call 116; refine (is_any h t hi).mono ?_; rintro e w' ⟨rfl, rfl⟩) | (go_at_call 63; refine (adv_err h' hv).mono ?_; rintro e w' ⟨rfl, hk'⟩))
      exact ⟨rfl, rfl, ((Kept.refl (fun x => x = b) _).setCell (Or.inl rfl) _).trans hk'⟩
def shutS (s : ByteArray) (σ : PS) (t : ByteArray) : Except ER PS :=
  match wantS s σ t with
  | .error r => .error r
  | .ok σ' => .ok { σ' with nest := σ'.nest - 1 }
theorem adv_nest {s : ByteArray} {σ σ' : PS} (h : advS s σ = .ok σ') : σ'.nest = σ.nest := by
  unfold advS at h
  cases ht : tokAt s (skip s σ.p) with
  | none => rw [ht] at h; cases h
  | some t => rw [ht] at h; cases h; rfl
theorem eat_nest {s : ByteArray} {σ σ' : PS} {t : ByteArray} {v : Bool} (h : eatS s σ t = .ok (v, σ')) : σ'.nest = σ.nest := by
  unfold eatS at h
  split at h
  · cases ha : advS s σ with
    | ok σ1 => rw [ha] at h; cases h; exact adv_nest ha
    | error r => rw [ha] at h; cases h
  · cases h; rfl
theorem want_nest {s : ByteArray} {σ σ' : PS} {t : ByteArray} (h : wantS s σ t = .ok σ') : σ'.nest = σ.nest := by
  unfold wantS at h
  cases he : eatS s σ t with
  | error r => rw [he] at h; cases h
  | ok q =>
    obtain ⟨v, σ1⟩ := q
    rw [he] at h
    cases v
    · cases h
    · cases h; exact eat_nest he
set_option maxHeartbeats 1000000 in
theorem shut_ok {w : World} {b : Nat} {s : ByteArray} {σ σ' : PS} (h : PW w b s σ) (hn : 1 ≤ σ.nest) (t : ByteArray) (hv : shutS s σ t = .ok σ') :
    Calls Tryz.prog 85 #[.pointer (some ⟨b, 0, none⟩), .string t] w fun e w' => e = .returned (.tuple #[]) ∧ PW w' b s σ' ∧ Kept (· = b) w w' := by
  unfold shutS at hv
  cases he : wantS s σ t with
  | error r => rw [he] at hv; cases hv
  | ok σ1 =>
    rw [he] at hv
    have hn1 := want_nest he
    cases hv
    have HN := Lib.hid hn1
    clear hn1
    go_enter Tryz.func85, Tryz.ntmps85
    go_wp2_with (fail)
    refine (want_ok h t he).mono ?_
    rintro e w' ⟨rfl, hp', hk'⟩
    have c6 := hp'.nst
    have f6 := hp'.nfr
    have hle := hp'.nest
    have hn1 : 1 ≤ σ1.nest := by rw [HN.out]; exact hn
    have hp2 := hp'.nested (σ1.nest - 1) (by omega)
    rw [show ((σ1.nest - 1 : Nat) : Int) = (σ1.nest : Int) - 1 by omega] at hp2
    go_wp2_with (fail)
    go_end0
    exact ⟨rfl, hp2, hk'.setCell (Or.inl rfl) _⟩
set_option maxHeartbeats 1000000 in
theorem shut_err {w : World} {b : Nat} {s : ByteArray} {σ : PS} {r : ER} (h : PW w b s σ) (t : ByteArray) (hv : shutS s σ t = .error r) :
    Calls Tryz.prog 85 #[.pointer (some ⟨b, 0, none⟩), .string t] w fun e w' => e = .panicked [pan r.1 r.2] ∧ Kept (· = b) w w' := by
  unfold shutS at hv
  cases he : wantS s σ t with
  | ok σ1 => rw [he] at hv; cases hv
  | error r1 =>
    rw [he] at hv; cases hv
    go_enter Tryz.func85, Tryz.ntmps85
    go_wp2_with (go_at_call 86; refine (want_err h t he).mono ?_; rintro e w' ⟨rfl, hk'⟩)
    exact ⟨rfl, rfl, hk'⟩
def nameS (s : ByteArray) (σ : PS) : Except ER (ByteArray × PS) :=
  if σ.k = 1 ∧ identB σ.tx = true then (match advS s σ with | .ok σ' => .ok (σ.tx, σ') | .error r => .error r) else .error (false, σ.ta)
theorem ident_t {t : ByteArray} {v : Bool} (h : identB t = v) (ht : t.size ≤ 65536) (w : World) : Calls Tryz.prog 18 #[.string t] w fun e w' => e = .returned (.bool v) ∧ w = w' := (ident_any t w (by omega)).mono fun _ _ q => ⟨by rw [← h]; exact q.1, q.2⟩
set_option maxHeartbeats 1000000 in
theorem name_ok {w : World} {b : Nat} {s : ByteArray} {σ σ' : PS} {x : ByteArray} (h : PW w b s σ) (hv : nameS s σ = .ok (x, σ')) :
    Calls Tryz.prog 167 #[.pointer (some ⟨b, 0, none⟩)] w fun e w' => e = .returned (.string x) ∧ PW w' b s σ' ∧ Kept (· = b) w w' := by
  unfold nameS at hv
  by_cases hc : σ.k = 1 ∧ identB σ.tx = true
  · rw [if_pos hc] at hv
    obtain ⟨hk, hi⟩ := hc
    cases ha : advS s σ with
    | error r => rw [ha] at hv; cases hv
    | ok σ1 =>
      rw [ha] at hv; cases hv
      have c2 := h.kd
      have c3 := h.txt
      have ht := h.tx
      have i1 : (σ.k != 1) = false := by simp [hk]
      clear hk
      go_enter Tryz.func167, Tryz.ntmps167
      go_wp2_with (first | (go_at_call 18; refine (ident_t hi ht _).mono ?_; rintro e w' ⟨rfl, rfl⟩) | (go_at_call 63; refine (adv_ok h ha).mono ?_; rintro e w' ⟨rfl, hp', hk'⟩))
      go_ret
      exact ⟨rfl, hp', hk'⟩
  · rw [if_neg hc] at hv; cases hv
set_option maxHeartbeats 1000000 in
theorem name_err {w : World} {b : Nat} {s : ByteArray} {σ : PS} {r : ER} (h : PW w b s σ) (hv : nameS s σ = .error r) :
    Calls Tryz.prog 167 #[.pointer (some ⟨b, 0, none⟩)] w fun e w' => e = .panicked [pan r.1 r.2] ∧ Kept (· = b) w w' := by
  unfold nameS at hv
  have c2 := h.kd
  have c3 := h.txt
  have ht := h.tx
  cases hk : (σ.k != 1) <;> cases hi : identB σ.tx
  case false.true =>
    have hk' : σ.k = 1 := by simpa using hk
    rw [if_pos ⟨hk', hi⟩] at hv
    cases ha : advS s σ with
    | ok σ1 => rw [ha] at hv; cases hv
    | error r1 =>
      rw [ha] at hv; cases hv
      clear hk'
      go_enter Tryz.func167, Tryz.ntmps167
      go_wp2_with (first | (go_at_call 18; refine (ident_t hi ht _).mono ?_; rintro e w' ⟨rfl, rfl⟩) | (go_at_call 63; refine (adv_err h ha).mono ?_; rintro e w' ⟨rfl, hk'⟩))
      exact ⟨rfl, rfl, hk'⟩
  all_goals
    rw [if_neg (by rintro ⟨a, c⟩; simp [a] at hk; try (simp [hi] at c))] at hv
    cases hv
    go_enter Tryz.func167, Tryz.ntmps167
    go_wp2_with (first | (go_at_call 18; refine (ident_t hi ht _).mono ?_; rintro e w' ⟨rfl, rfl⟩) | (go_at_call 64; refine (fail_any h).mono ?_; rintro e w' ⟨rfl, rfl⟩))
    exact ⟨rfl, rfl, Kept.refl _ _⟩
theorem ta_mal (v : Value) (w : World) : (Instr.typeAssert (.iface 81 v) 20 81 true).run Tryz.prog w = .ok (.tuple #[v, .bool true]) w := by kernel_rfl
theorem ta_no (v : Value) (w : World) : (Instr.typeAssert (.iface 82 v) 20 81 true).run Tryz.prog w = .ok (.tuple #[.agg #[.int .i64 0], .bool false]) w := by kernel_rfl
theorem ta_deep (v : Value) (w : World) : (Instr.typeAssert (.iface 82 v) 20 82 true).run Tryz.prog w = .ok (.tuple #[v, .bool true]) w := by kernel_rfl
set_option maxRecDepth 100000 in
set_option maxHeartbeats 1000000 in
theorem rd_mal (A E : Nat) (pos : Nat) (x y : Int) (older : List PanicEntry) (w : World) (lA : A < w.heap.size) (lE : E < w.heap.size) (hAE : A ≠ E) (hA : w.cell? ⟨A, 0, none⟩ = some (.int .i64 x)) (hE : w.cell? ⟨E, 0, none⟩ = some (.int .i64 y)) (fA : w.frozen? ⟨A, 0, none⟩ = false) (fE : w.frozen? ⟨E, 0, none⟩ = false) :
    CallsD Tryz.prog 62 #[.pointer (some ⟨A, 0, none⟩), .pointer (some ⟨E, 0, none⟩)] (.panicking ({ v := .iface 81 (.agg #[.int .i64 pos]), recovered := false } :: older)) w fun e u' w' =>
      e = .returned (.tuple #[]) ∧ u' = .panicking ({ v := .iface 81 (.agg #[.int .i64 pos]), recovered := true } :: older) ∧ w' = ((w.setCell ⟨A, 0, none⟩ (.int .i64 pos)).setCell ⟨E, 0, none⟩ (.int .i64 2)).alloc (.cells #[.int .i64 pos] 81) := by
  have t1 := ta_mal (.agg #[.int .i64 pos]) w
  refine callsD_of_wpS Tryz.func62 rfl fun c₀ cs hu => ?_
  simp only [Tryz.ntmps62, List.size_toArray, List.length_cons, List.length_nil, Nat.reduceAdd, Nat.reduceSub, Array.replicate_succ,
     Array.replicate_zero, List.push_toArray, List.append_toArray, List.nil_append, List.cons_append]
  apply wpS_seq
  apply wpS_region
  simp [wpOpsS, go_sem, recoverD, hu, Exit.thenS]
  refine wpS_of_wp ?_
  have nA : A ≠ w.heap.size := by omega
  have nE : E ≠ w.heap.size := by omega
  go_wp2_with fail
  simp only [bodyPostS]
  exact ⟨trivial, _, rfl, _, results_none rfl _ _ _, rfl, rfl, trivial⟩
set_option maxRecDepth 100000 in
set_option maxHeartbeats 1000000 in
theorem rd_deep (A E : Nat) (pos : Nat) (x y : Int) (older : List PanicEntry) (w : World) (lA : A < w.heap.size) (lE : E < w.heap.size) (hAE : A ≠ E) (hA : w.cell? ⟨A, 0, none⟩ = some (.int .i64 x)) (hE : w.cell? ⟨E, 0, none⟩ = some (.int .i64 y)) (fA : w.frozen? ⟨A, 0, none⟩ = false) (fE : w.frozen? ⟨E, 0, none⟩ = false) :
    CallsD Tryz.prog 62 #[.pointer (some ⟨A, 0, none⟩), .pointer (some ⟨E, 0, none⟩)] (.panicking ({ v := .iface 82 (.agg #[.int .i64 pos]), recovered := false } :: older)) w fun e u' w' =>
      e = .returned (.tuple #[]) ∧ u' = .panicking ({ v := .iface 82 (.agg #[.int .i64 pos]), recovered := true } :: older) ∧ w' = ((w.setCell ⟨A, 0, none⟩ (.int .i64 pos)).setCell ⟨E, 0, none⟩ (.int .i64 4)).alloc (.cells #[.int .i64 pos] 82) := by
  have t1 := ta_no (.agg #[.int .i64 pos]) w
  have t2 := ta_deep (.agg #[.int .i64 pos]) w
  refine callsD_of_wpS Tryz.func62 rfl fun c₀ cs hu => ?_
  simp only [Tryz.ntmps62, List.size_toArray, List.length_cons, List.length_nil, Nat.reduceAdd, Nat.reduceSub, Array.replicate_succ,
     Array.replicate_zero, List.push_toArray, List.append_toArray, List.nil_append, List.cons_append]
  apply wpS_seq
  apply wpS_region
  simp [wpOpsS, go_sem, recoverD, hu, Exit.thenS]
  refine wpS_of_wp ?_
  have nA : A ≠ w.heap.size := by omega
  have nE : E ≠ w.heap.size := by omega
  go_wp2_with fail
  simp only [bodyPostS]
  exact ⟨trivial, _, rfl, _, results_none rfl _ _ _, rfl, rfl, trivial⟩
set_option maxRecDepth 100000 in
set_option maxHeartbeats 1000000 in
theorem rd_idle (A E : Nat) (w : World) :
    CallsD Tryz.prog 62 #[.pointer (some ⟨A, 0, none⟩), .pointer (some ⟨E, 0, none⟩)] .returning w fun e u' w' => e = .returned (.tuple #[]) ∧ u' = .returning ∧ w' = w := by
  refine callsD_of_wpS Tryz.func62 rfl fun c₀ cs hu => ?_
  simp only [Tryz.ntmps62, List.size_toArray, List.length_cons, List.length_nil, Nat.reduceAdd, Nat.reduceSub, Array.replicate_succ,
     Array.replicate_zero, List.push_toArray, List.append_toArray, List.nil_append, List.cons_append]
  apply wpS_seq
  apply wpS_region
  simp [wpOpsS, go_sem, recoverD, hu, Exit.thenS]
  refine wpS_of_wp ?_
  go_wp2_with fail
  simp only [bodyPostS]
  cases c₀
  exact ⟨trivial, _, by simp_all, _, results_none rfl _ _ _, rfl, rfl, trivial⟩
inductive Ty where
  | mk (kind : Int) (name : ByteArray) (kids : List Ty)
def Ty.kind : Ty → Int | .mk k _ _ => k
def Ty.name : Ty → ByteArray | .mk _ n _ => n
def Ty.kids : Ty → List Ty | .mk _ _ l => l
inductive Tm where
  | mk (op : Int) (name : ByteArray) (n : Int) (ty : Ty) (kids : List Tm)
def Tm.op : Tm → Int | .mk o _ _ _ _ => o
def Tm.name : Tm → ByteArray | .mk _ n _ _ _ => n
def Tm.n : Tm → Int | .mk _ _ n _ _ => n
def Tm.ty : Tm → Ty | .mk _ _ _ t _ => t
def Tm.kids : Tm → List Tm | .mk _ _ _ _ l => l
def ty0 : Ty := .mk 0 ⟨#[]⟩ []
def empty0 (v : Value) : Prop := v = .slice none 0 0 ∨ ∃ a c, v = .slice (some a) 0 c
inductive TyL (ok : Nat → Prop) (w : World) : List Ty → Value → Prop
  | nil {v : Value} (h : empty0 v) : TyL ok w [] v
  | mk {l : List Ty} {b off cap : Nat} (K : Nat → Value) (hne : l ≠ []) (hb : ok b) (hc : l.length ≤ cap)
      (hcell : ∀ i (h : i < l.length), w.cell? ⟨b, off + i * 3, none⟩ = some (.int .i64 l[i].kind) ∧ w.cell? ⟨b, off + i * 3 + 1, none⟩ = some (.string l[i].name) ∧ w.cell? ⟨b, off + i * 3 + 2, none⟩ = some (K i))
      (hk : ∀ i (h : i < l.length), TyL ok w l[i].kids (K i)) : TyL ok w l (.slice (some ⟨b, off, none⟩) l.length cap)
def tyVal (t : Ty) (tk : Value) : Value := .agg #[.int .i64 t.kind, .string t.name, tk]
def TyV (ok : Nat → Prop) (w : World) (t : Ty) (v : Value) : Prop := ∃ tk, v = tyVal t tk ∧ TyL ok w t.kids tk
inductive TmL (ok : Nat → Prop) (w : World) : List Tm → Value → Prop
  | nil {v : Value} (h : empty0 v) : TmL ok w [] v
  | mk {l : List Tm} {b off cap : Nat} (K M : Nat → Value) (hne : l ≠ []) (hb : ok b) (hc : l.length ≤ cap)
      (hcell : ∀ i (h : i < l.length), w.cell? ⟨b, off + i * 7, none⟩ = some (.int .i64 l[i].op) ∧ w.cell? ⟨b, off + i * 7 + 1, none⟩ = some (.string l[i].name) ∧ w.cell? ⟨b, off + i * 7 + 2, none⟩ = some (.int .i64 l[i].n) ∧ w.cell? ⟨b, off + i * 7 + 3, none⟩ = some (.int .i64 l[i].ty.kind) ∧ w.cell? ⟨b, off + i * 7 + 4, none⟩ = some (.string l[i].ty.name) ∧ w.cell? ⟨b, off + i * 7 + 5, none⟩ = some (K i) ∧ w.cell? ⟨b, off + i * 7 + 6, none⟩ = some (M i))
      (hk : ∀ i (h : i < l.length), TyL ok w l[i].ty.kids (K i)) (hm : ∀ i (h : i < l.length), TmL ok w l[i].kids (M i)) : TmL ok w l (.slice (some ⟨b, off, none⟩) l.length cap)
def tmVal (t : Tm) (tk kk : Value) : Value := .agg #[.int .i64 t.op, .string t.name, .int .i64 t.n, .int .i64 t.ty.kind, .string t.ty.name, tk, kk]
def TmV (ok : Nat → Prop) (w : World) (t : Tm) (v : Value) : Prop := ∃ tk kk, v = tmVal t tk kk ∧ TyL ok w t.ty.kids tk ∧ TmL ok w t.kids kk
theorem cell_lt {w : World} {b o : Nat} {v : Value} (h : w.cell? ⟨b, o, none⟩ = some v) : b < w.heap.size := by
  unfold World.cell? at h
  by_cases hl : b < w.heap.size
  · exact hl
  · rw [Array.getElem?_eq_none (by show w.heap.size ≤ b; omega)] at h; simp at h
def Same (ok : Nat → Prop) (w w' : World) : Prop := ∀ k, ok k → k < w.heap.size → w'.heap[k]? = w.heap[k]?
theorem Same.cell {ok : Nat → Prop} {w w' : World} (h : Same ok w w') {b o : Nat} {v : Value} (hb : ok b) (hc : w.cell? ⟨b, o, none⟩ = some v) : w'.cell? ⟨b, o, none⟩ = some v := by
  rw [World.cell?_of_block (w := w) (a := ⟨b, o, none⟩) (h b hb (cell_lt hc))]; exact hc
theorem TyL.frame {ok : Nat → Prop} {w w' : World} (hs : Same ok w w') {l : List Ty} {v : Value} (h : TyL ok w l v) : TyL ok w' l v := by
  induction h with
  | nil h => exact .nil h
  | mk K hne hb hc hcell hk ih =>
    exact .mk K hne hb hc (fun i h => ⟨hs.cell hb (hcell i h).1, hs.cell hb (hcell i h).2.1, hs.cell hb (hcell i h).2.2⟩) ih
theorem TmL.frame {ok : Nat → Prop} {w w' : World} (hs : Same ok w w') {l : List Tm} {v : Value} (h : TmL ok w l v) : TmL ok w' l v := by
  induction h with
  | nil h => exact .nil h
  | mk K M hne hb hc hcell hk hm ih =>
    exact .mk K M hne hb hc (fun i h => let c := hcell i h; ⟨hs.cell hb c.1, hs.cell hb c.2.1, hs.cell hb c.2.2.1, hs.cell hb c.2.2.2.1, hs.cell hb c.2.2.2.2.1, hs.cell hb c.2.2.2.2.2.1, hs.cell hb c.2.2.2.2.2.2⟩) (fun i h => (hk i h).frame hs) ih
theorem TyL.mono {ok ok' : Nat → Prop} {w : World} (ho : ∀ k, k < w.heap.size → ok k → ok' k) {l : List Ty} {v : Value} (h : TyL ok w l v) : TyL ok' w l v := by
  induction h with
  | nil h => exact .nil h
  | mk K hne hb hc hcell hk ih =>
    rename_i l b off cap
    have h0 : 0 < l.length := List.length_pos_iff.2 hne
    exact .mk K hne (ho _ (cell_lt (hcell 0 h0).1) hb) hc hcell ih
theorem TmL.mono {ok ok' : Nat → Prop} {w : World} (ho : ∀ k, k < w.heap.size → ok k → ok' k) {l : List Tm} {v : Value} (h : TmL ok w l v) : TmL ok' w l v := by
  induction h with
  | nil h => exact .nil h
  | mk K M hne hb hc hcell hk hm ih =>
    rename_i l b off cap
    have h0 : 0 < l.length := List.length_pos_iff.2 hne
    exact .mk K M hne (ho _ (cell_lt (hcell 0 h0).1) hb) hc hcell (fun i h => (hk i h).mono ho) ih
theorem TyV.frame {ok : Nat → Prop} {w w' : World} (hs : Same ok w w') {t : Ty} {v : Value} (h : TyV ok w t v) : TyV ok w' t v := by
  obtain ⟨tk, rfl, h⟩ := h; exact ⟨tk, rfl, h.frame hs⟩
theorem TmV.frame {ok : Nat → Prop} {w w' : World} (hs : Same ok w w') {t : Tm} {v : Value} (h : TmV ok w t v) : TmV ok w' t v := by
  obtain ⟨tk, kk, rfl, h, h'⟩ := h; exact ⟨tk, kk, rfl, h.frame hs, h'.frame hs⟩
theorem Same.of_kept {S ok : Nat → Prop} {w w' : World} (h : Kept S w w') (hS : ∀ k, ok k → ¬ S k) : Same ok w w' := fun k hk hl => h.block k hl (hS k hk)
theorem TyL.one {ok : Nat → Prop} {w : World} {g cap : Nat} {t : Ty} {tk : Value} {r : List Value} {ty : TypeId} (hg : ok g) (hc : 1 ≤ cap) (hb : Blk w g ty ([.int .i64 t.kind, .string t.name, tk] ++ r)) (hk : TyL ok w t.kids tk) : TyL ok w [t] (.slice (some ⟨g, 0, none⟩) 1 cap) := by
  refine TyL.mk (l := [t]) (fun _ => tk) (by simp) hg hc (fun i h => ?_) (fun i h => ?_)
  · have : i = 0 := by simp at h; exact h
    subst this
    exact ⟨hb.cell 0, hb.cell 1, hb.cell 2⟩
  · have : i = 0 := by simp at h; exact h
    subst this; exact hk
theorem TyL.two {ok : Nat → Prop} {w : World} {g cap : Nat} {t u : Ty} {tk uk : Value} {ty : TypeId} (hg : ok g) (hc : 2 ≤ cap) (hb : Blk w g ty [.int .i64 t.kind, .string t.name, tk, .int .i64 u.kind, .string u.name, uk]) (hk : TyL ok w t.kids tk) (hk' : TyL ok w u.kids uk) : TyL ok w [t, u] (.slice (some ⟨g, 0, none⟩) 2 cap) := by
  refine TyL.mk (l := [t, u]) (fun i => if i = 0 then tk else uk) (by simp) hg hc (fun i h => ?_) (fun i h => ?_)
  · rcases (show i = 0 ∨ i = 1 by simp at h; omega) with rfl | rfl
    · exact ⟨hb.cell 0, hb.cell 1, hb.cell 2⟩
    · exact ⟨hb.cell 3, hb.cell 4, hb.cell 5⟩
  · rcases (show i = 0 ∨ i = 1 by simp at h; omega) with rfl | rfl
    · exact hk
    · exact hk'
def tmCells (t : Tm) (tk kk : Value) : List Value := [.int .i64 t.op, .string t.name, .int .i64 t.n, .int .i64 t.ty.kind, .string t.ty.name, tk, kk]
theorem TmL.one {ok : Nat → Prop} {w : World} {g cap : Nat} {t : Tm} {tk kk : Value} {ty : TypeId} (hg : ok g) (hc : 1 ≤ cap) (hb : Blk w g ty (tmCells t tk kk)) (hk : TyL ok w t.ty.kids tk) (hm : TmL ok w t.kids kk) : TmL ok w [t] (.slice (some ⟨g, 0, none⟩) 1 cap) := by
  refine TmL.mk (l := [t]) (fun _ => tk) (fun _ => kk) (by simp) hg hc (fun i h => ?_) (fun i h => ?_) (fun i h => ?_)
  all_goals (have : i = 0 := by simp at h; exact h); subst this
  · exact ⟨hb.cell 0, hb.cell 1, hb.cell 2, hb.cell 3, hb.cell 4, hb.cell 5, hb.cell 6⟩
  · exact hk
  · exact hm
theorem TmL.two {ok : Nat → Prop} {w : World} {g cap : Nat} {t u : Tm} {tk kk uk uu : Value} {ty : TypeId} (hg : ok g) (hc : 2 ≤ cap) (hb : Blk w g ty (tmCells t tk kk ++ tmCells u uk uu)) (hk : TyL ok w t.ty.kids tk) (hm : TmL ok w t.kids kk) (hk' : TyL ok w u.ty.kids uk) (hm' : TmL ok w u.kids uu) : TmL ok w [t, u] (.slice (some ⟨g, 0, none⟩) 2 cap) := by
  refine TmL.mk (l := [t, u]) (fun i => if i = 0 then tk else uk) (fun i => if i = 0 then kk else uu) (by simp) hg hc (fun i h => ?_) (fun i h => ?_) (fun i h => ?_)
  all_goals rcases (show i = 0 ∨ i = 1 by simp at h; omega) with rfl | rfl
  · exact ⟨hb.cell 0, hb.cell 1, hb.cell 2, hb.cell 3, hb.cell 4, hb.cell 5, hb.cell 6⟩
  · exact ⟨hb.cell 7, hb.cell 8, hb.cell 9, hb.cell 10, hb.cell 11, hb.cell 12, hb.cell 13⟩
  · exact hk
  · exact hk'
  · exact hm
  · exact hm'
end Go.Proofs.YtckjlliobebodaaGreatDoor
