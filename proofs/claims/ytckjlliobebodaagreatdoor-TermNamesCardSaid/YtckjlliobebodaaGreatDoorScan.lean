import Derived.Test.YtckjlliobebodaaGreatDoorBase
namespace Go.Proofs.YtckjlliobebodaaGreatDoor
open Go.RowKit
/-- The first byte from p on that P does not hold of. -/
def scanF (P : Int → Bool) (s : ByteArray) : Nat → Nat → Nat
  | 0, p => p
  | f + 1, p => if h : p < s.size then (if P s[p].toNat then scanF P s f (p + 1) else p) else p
def scan (P : Int → Bool) (s : ByteArray) (p : Nat) : Nat := scanF P s (s.size - p) p
theorem scan_yes (P : Int → Bool) (s : ByteArray) (p : Nat) (h : p < s.size) (hp : P s[p].toNat = true) : scan P s p = scan P s (p + 1) := by
  unfold scan
  rw [show s.size - p = (s.size - (p + 1)) + 1 by omega]
  rw [scanF, dif_pos h, if_pos hp]
theorem scan_no (P : Int → Bool) (s : ByteArray) (p : Nat) (h : p < s.size) (hp : P s[p].toNat = false) : scan P s p = p := by
  unfold scan
  rw [show s.size - p = (s.size - (p + 1)) + 1 by omega]
  rw [scanF, dif_pos h, if_neg (by simp [hp])]
theorem scan_end (P : Int → Bool) (s : ByteArray) (p : Nat) (h : s.size ≤ p) : scan P s p = p := by
  unfold scan
  rw [show s.size - p = 0 by omega]; rfl
theorem scan_spec (P : Int → Bool) (s : ByteArray) (p : Nat) (h : p ≤ s.size) : p ≤ scan P s p ∧ scan P s p ≤ s.size ∧
    (∀ hq : scan P s p < s.size, P s[scan P s p].toNat = false) ∧ ∀ q (_ : p ≤ q) (_ : q < scan P s p) (hs : q < s.size), P s[q].toNat = true := by
  generalize hn : s.size - p = n
  induction n generalizing p with
  | zero =>
    rw [scan_end P s p (by omega)]
    exact ⟨Nat.le_refl _, h, fun hq => absurd hq (by omega), fun q _ hq _ => by omega⟩
  | succ n ih =>
    have hlt : p < s.size := by omega
    cases hp : P s[p].toNat
    · rw [scan_no P s p hlt hp]
      refine ⟨Nat.le_refl _, h, ?_, fun q _ hq _ => by omega⟩
      intro hq
      have : ∀ (r : Nat) (e : r = p) (hr : r < s.size), P s[r].toNat = false := by intro r e hr; subst e; exact hp
      exact this _ rfl hq
    · have e := scan_yes P s p hlt hp
      obtain ⟨a, b, c, d⟩ := ih (p + 1) (by omega) (by omega)
      have key : ∀ r, r = scan P s (p + 1) → p ≤ r ∧ r ≤ s.size ∧ (∀ hq : r < s.size, P s[r].toNat = false) ∧ ∀ q (_ : p ≤ q) (_ : q < r) (hs : q < s.size), P s[q].toNat = true := by
        intro r hr
        subst hr
        refine ⟨by omega, b, c, fun q hq hq' hs => ?_⟩
        by_cases hqp : q = p
        · subst hqp; exact hp
        · exact d q (by omega) hq' hs
      exact key _ e
def blankB (c : Int) : Bool := c == 32 || c == 9 || c == 10
def skip (s : ByteArray) (p : Nat) : Nat := scan blankB s p
def wend (s : ByteArray) (p : Nat) : Nat := scan inWordB s p
/-- The parser's seven cells. -/
def pcells (s : ByteArray) (at_ : Nat) (k : Int) (tx : ByteArray) (n : Int) (ta nest : Nat) : List Value :=
  [.string s, .int .i64 at_, .int .i64 k, .string tx, .int .i64 n, .int .i64 ta, .int .i64 nest]
end Go.Proofs.YtckjlliobebodaaGreatDoor
