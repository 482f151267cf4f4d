/- Texts Arg LwJ LwI of this proof, in one. -/
import Derived.Test.YtfhedienjnfdcaaGreatDoorG21
import Derived.Test.YtfhedienjnfdcaaGreatDoorG27
import Derived.ProofKit
import Derived.Deep.Slices
import Derived.Carry
set_option linter.unusedVariables false
set_option linter.unusedSimpArgs false
set_option maxRecDepth 100000
set_option maxHeartbeats 32000000
namespace Go.Proofs.YtfhedienjnfdcaaGreatDoor
open Go.RowKit
section
variable {H : Type} {enc : TypeId × Value → H} {w : World} {spare : Nat → Bool} {held : Bool}
theorem cells_3 : Tryz.prog.cellsOf 3 = 1 := by kernel_rfl
theorem at_some {α : Type} {x : Option α} {l : List α} {i : Nat} (h : x = l[i]?) (hi : i < l.length) : ∃ y, x = some y := ⟨l[i], by rw [h, List.getElem?_eq_getElem hi]⟩
theorem cell_plain {a : Addr} {v : Value} (h : w.cell? a = some v) : a = ⟨a.block, a.off, none⟩ := by
 obtain ⟨b, o, sp⟩ := a
 cases sp with
 | none => rfl
 | some k =>
  unfold World.cell? at h
  cases hb : w.heap[b]? with
  | none => simp [hb] at h
  | some ob => cases ob <;> simp [hb] at h
theorem add_plain (b o n : Nat) : (⟨b, o, none⟩ : Addr).add n = ⟨b, o + n, none⟩ := by unfold Addr.add; split <;> simp_all
theorem add_zero (a : Addr) : a.add 0 = a := rfl
theorem elems_at {α : Type} {a : Addr} {len k : Nat} {f : List Value → Option α} {elems : List α} (hl : elems.length = len) (hk : 0 < k) (h : ∀ i, i < len → (w.cells? 0 (a.add (i * k)) k).bind f = elems[i]?) (h0 : 0 < len) :
  ∃ b o, a = ⟨b, o, none⟩ ∧ ∀ i, i < len → ∃ cs y, cs.length = k ∧ (∀ j, j < k → w.cell? ⟨b, o + i * k + j, none⟩ = cs[j]?) ∧ f cs = some y := by
 have hc : ∀ i, i < len → ∃ cs y, w.cells? 0 (a.add (i * k)) k = some cs ∧ f cs = some y := by
  intro i hi
  obtain ⟨y, hy⟩ := at_some (h i hi) (by omega)
  obtain ⟨cs, h1, h2⟩ := Option.bind_eq_some_iff.1 hy
  exact ⟨cs, y, h1, h2⟩
 obtain ⟨cs, y, h1, h2⟩ := hc 0 h0
 obtain ⟨_, hl', hcell⟩ := World.cells?_some h1
 have h3 := hcell 0 hk
 rw [Nat.zero_mul, add_zero, add_zero, List.getElem?_eq_getElem (by omega)] at h3
 have ha := cell_plain h3
 refine ⟨a.block, a.off, ha, fun i hi => ?_⟩
 obtain ⟨cs, y, h1, h2⟩ := hc i hi
 obtain ⟨_, hl', hcell⟩ := World.cells?_some h1
 refine ⟨cs, y, hl', fun j hj => ?_, h2⟩
 rw [← hcell j hj]
 rw [ha, add_plain, add_plain]
end
end Go.Proofs.YtfhedienjnfdcaaGreatDoor
namespace Go.Proofs.YtfhedienjnfdcaaGreatDoor
open Go.ChangeShapes Go.WideShapes Go.ChangeAt Go.RowKit
theorem below_of_kept {w w' : World} (k : Kept (fun _ => False) w w') : Below w.heap.size w w' := ⟨k.os, k.tape, k.output, k.size, fun q hq => k.block q hq (fun e => e)⟩
theorem laidOut0 : laidOutB Tryz.prog = true := by kernel_rfl
theorem back_of {H : Type} {enc : TypeId × Value → H} {W W' : World} {T : TypeId} {v : Value} {d : DataW H} {p : List MemPlace} (h1 : Tryz.prog.readableRec T = true) (h2 : T < Tryz.prog.types.size) (h : DataW.Trod enc Tryz.prog W 0 (fun _ => true) true T v d p) (k : Kept (fun _ => False) W W') (hlt : ∀ x ∈ p, x.block < W.heap.size) :
  DataW.Trod enc Tryz.prog W' 0 (fun b => decide (b < W.heap.size)) true T v d p := Below.trod laidOut0 h1 h2 h (below_of_kept k) hlt
theorem size_ok {n : Nat} (h : n < 248) : n < Tryz.prog.types.size := Nat.lt_of_lt_of_le h (of_decide_eq_true (by kernel_rfl))
section
variable {H : Type} {enc : TypeId × Value → H} {w : World} {spare : Nat → Bool} {held : Bool}
end
end Go.Proofs.YtfhedienjnfdcaaGreatDoor
namespace Go.Proofs.YtfhedienjnfdcaaGreatDoor
open Go.ChangeShapes Go.WideShapes Go.ChangeAt Go.RowKit
section
variable {H : Type} {enc : TypeId × Value → H} {w : World} {spare : Nat → Bool} {held : Bool}
theorem open_ints {fuel : Nat} {a : Option Addr} {n c : Nat} {x : DataW H × List MemPlace} (h : DataW.trod enc Tryz.prog w 0 spare held fuel 36 [.slice a n c] = some x) :
  ∃ l : List Int, InL (fun _ => True) w l (.slice a n c) ∧ l.length ≤ 9223372036854775807 := by
 rcases DataW.trod_slice Tryz.underlying36 h with ⟨hc, -⟩ | ⟨a', len, cap, elems, rest, m, rfl, hc, -, -, hl, hm, hel, helt, -, -⟩
 ·cases hc
  exact ⟨[], ⟨_, _, _, rfl, rfl, Nat.le_refl _, fun i hi => absurd hi (Nat.not_lt_zero _)⟩, Nat.zero_le _⟩
 ·cases hc
  by_cases h0 : n = 0
  ·subst h0
   exact ⟨[], ⟨_, _, _, rfl, rfl, Nat.zero_le _, fun i hi => absurd hi (Nat.not_lt_zero _)⟩, Nat.zero_le _⟩
  ·rw [cells_3] at helt
   obtain ⟨b, o, rfl, hat⟩ := elems_at hel (by decide) helt (by omega)
   obtain ⟨F, hF⟩ := Go.Deep.choose_lt (α := Int) (n := n) (p := fun i q => w.cell? ⟨b, o + i, none⟩ = some (.int .i64 q)) (fun i hi => by
    obtain ⟨cs, y, hcl, hcell, hy⟩ := hat i hi
    obtain ⟨k, hk, -, -⟩ := DataW.trod_int Tryz.underlying3 hy
    have h1 := hcell 0 (by decide)
    rw [hk, Nat.mul_one, Nat.add_zero] at h1
    exact ⟨k, h1⟩)
   refine ⟨(List.range n).map F, ⟨_, _, _, rfl, by simp, by omega, fun i hi => ⟨b, o, rfl, trivial, ?_⟩⟩, by unfold maxLen at hm; simp; omega⟩
   have hi' : i < n := by simpa using hi
   rw [hF i hi']
   simp
end
theorem arg_ints {H : Type} {enc : TypeId × Value → H} {W : World} {v : Value} {d : DataW H} {p : List MemPlace} {r : Reach} {b0 : Nat} (hval : Value.okWide Tryz.prog W r b0 36 v) (h : DataW.Trod enc Tryz.prog W 0 (fun _ => true) true 36 v d p) :
  ∃ (l : List Int) (a : Option Addr) (n c : Nat), v = .slice a n c ∧ InL (fun _ => True) W l (.slice a n c) ∧ l.length ≤ 9223372036854775807 := by
 obtain ⟨a, n, c, rfl⟩ := Go.WideShapes.okWide_slice Tryz.underlying36 hval
 obtain ⟨fuel, h⟩ := h
 obtain ⟨l, h1, h2⟩ := open_ints (a := a) (n := n) (c := c) h
 exact ⟨l, a, n, c, rfl, h1, h2⟩
theorem back_ints {H : Type} {enc : TypeId × Value → H} {W W' : World} {v : Value} {d : DataW H} {p : List MemPlace} (h : DataW.Trod enc Tryz.prog W 0 (fun _ => true) true 36 v d p) (k : Kept (fun _ => False) W W') (hlt : ∀ x ∈ p, x.block < W.heap.size) :
  DataW.Trod enc Tryz.prog W' 0 (fun b => decide (b < W.heap.size)) true 36 v d p := back_of (by kernel_rfl) (size_ok (by decide)) h k hlt
end Go.Proofs.YtfhedienjnfdcaaGreatDoor
