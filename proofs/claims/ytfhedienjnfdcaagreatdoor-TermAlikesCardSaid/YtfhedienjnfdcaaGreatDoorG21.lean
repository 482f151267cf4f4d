/- Texts Pth AtW of this proof, in one. -/
import Derived.Test.YtfhedienjnfdcaaGreatDoorG19
import Derived.Deep.RegionLaw
set_option linter.unusedVariables false
set_option linter.unusedSimpArgs false
set_option maxRecDepth 100000
set_option maxHeartbeats 32000000
namespace Go.Proofs.YtfhedienjnfdcaaGreatDoor
open Go.RowKit
theorem subt_ok {t u : Tm} (h : OkTm t ∧ tmN t ≤ 2000 ∧ tmD t ≤ 64) (hu : u ∈ t.kids) : OkTm u ∧ tmN u ≤ 2000 ∧ tmD u ≤ 64 := by
 obtain ⟨op, nm, N, ty, l⟩ := t
 obtain ⟨h1, h2, h3⟩ := h
 cases h1 with
 | mk _ _ hl =>
  have n1 : ∀ {l : List Tm}, u ∈ l → tmN u ≤ tmNs l := by
   intro l
   induction l with
   | nil => intro h; cases h
   | cons a l ih =>
    intro h
    rw [tmNs]
    rcases List.mem_cons.1 h with rfl | h
    ·omega
    ·have := ih h; omega
  have n2 : ∀ {l : List Tm}, u ∈ l → tmD u ≤ tmDs l := by
   intro l
   induction l with
   | nil => intro h; cases h
   | cons a l ih =>
    intro h
    rw [tmDs]
    rcases List.mem_cons.1 h with rfl | h
    ·exact Nat.le_max_left _ _
    ·have := ih h; exact Nat.le_trans this (Nat.le_max_right _ _)
  rw [tmN] at h2
  rw [tmD] at h3
  have := n1 (l := l) hu
  have := n2 (l := l) hu
  exact ⟨hl u hu, by omega, by omega⟩
def InL (ok : Nat → Prop) (w : World) (l : List Int) (v : Value) : Prop :=
 ∃ a n c, v = .slice a n c ∧ n = l.length ∧ n ≤ c ∧ ∀ i (h : i < l.length), ∃ g off, a = some ⟨g, off, none⟩ ∧ ok g ∧ w.cell? ⟨g, off + i, none⟩ = some (.int .i64 l[i])
theorem InL.frame {ok : Nat → Prop} {w W : World} {l : List Int} {v : Value} (h : InL ok w l v) (hs : Same ok w W) : InL ok W l v := by
 obtain ⟨a, n, c, h1, h2, h3, h4⟩ := h
 refine ⟨a, n, c, h1, h2, h3, fun i hi => ?_⟩
 obtain ⟨g, off, e, hg, hc⟩ := h4 i hi
 exact ⟨g, off, e, hg, hs.cell hg hc⟩
theorem InL.mono {ok ok' : Nat → Prop} {w : World} {l : List Int} {v : Value} (h : InL ok w l v) (ho : ∀ k, k < w.heap.size → ok k → ok' k) : InL ok' w l v := by
 obtain ⟨a, n, c, h1, h2, h3, h4⟩ := h
 refine ⟨a, n, c, h1, h2, h3, fun i hi => ?_⟩
 obtain ⟨g, off, e, hg, hc⟩ := h4 i hi
 exact ⟨g, off, e, ho _ (cell_lt hc) hg, hc⟩
theorem InL.slice {ok : Nat → Prop} {w : World} {l : List Int} {v : Value} (h : InL ok w l v) : ∃ a c, v = .slice a l.length c := by
 obtain ⟨a, n, c, h1, h2, _⟩ := h
 exact ⟨a, c, by rw [h1, h2]⟩
theorem InL.at {ok : Nat → Prop} {w : World} {l : List Int} {a : Option Addr} {n c : Nat} (h : InL ok w l (.slice a n c)) (i : Nat) (hi : i < l.length) : ∃ g off, a = some ⟨g, off, none⟩ ∧ ok g ∧ w.cell? ⟨g, off + i, none⟩ = some (.int .i64 l[i]) := by
 obtain ⟨a', n', c', h1, h2, h3, h4⟩ := h
 cases h1
 exact h4 i hi
end Go.Proofs.YtfhedienjnfdcaaGreatDoor
