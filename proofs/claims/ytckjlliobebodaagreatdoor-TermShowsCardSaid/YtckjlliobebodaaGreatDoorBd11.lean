/- Texts RStt of this proof, in one. -/
import Derived.Test.YtckjlliobebodaaGreatDoorBd10
set_option linter.unusedVariables false
set_option linter.unusedSimpArgs false
namespace Go.Proofs.YtckjlliobebodaaGreatDoor
open Go.RowKit
structure Tk (s : ByteArray) (σ : PS) : Prop where
  tok : tokAt s σ.ta = some (σ.p, σ.k, σ.tx, σ.n)
  le : σ.ta ≤ s.size
  nest : σ.nest ≤ 64
def RQ (w : World) (b : Nat) (s : ByteArray) : Except ER PS → Prop
  | .ok σ => RAt w b s (lexW s σ.ta).1 (lexW s σ.ta).2 σ.ta σ.nest 0 0 ∧ Tk s σ
  | .error r => (r.1 = false ∧ ∃ x nest, RAt w b s 5 x r.2 nest 0 0) ∨ ∃ k x a nest, RAt w b s k x a nest r.2 (if r.1 = true then 4 else 2)
structure RR (w : World) (b : Nat) (s : ByteArray) (q : Except ER PS) : Prop where
  src : s.size ≤ 65536
  st : RQ w b s q
theorem RQ.kept {w w' : World} {b : Nat} {s : ByteArray} {S : Nat → Prop} (hk : Kept S w w') (hs : ¬ S b) : ∀ {q : Except ER PS}, RQ w b s q → RQ w' b s q
  | .ok _, ⟨h, t⟩ => ⟨h.kept hk hs, t⟩
  | .error _, .inl ⟨h, x, n, r⟩ => .inl ⟨h, x, n, r.kept hk hs⟩
  | .error _, .inr ⟨k, x, a, n, r⟩ => .inr ⟨k, x, a, n, r.kept hk hs⟩
theorem RR.kept {w w' : World} {b : Nat} {s : ByteArray} {q : Except ER PS} {S : Nat → Prop} (h : RR w b s q) (hk : Kept S w w') (hs : ¬ S b) : RR w' b s q := ⟨h.src, h.st.kept hk hs⟩
theorem RR.lt {w : World} {b : Nat} {s : ByteArray} {q : Except ER PS} (h : RR w b s q) : b < w.heap.size := by
  have := h.st
  match q, this with
  | .ok _, ⟨h, _⟩ => exact Blk.lt h
  | .error _, .inl ⟨_, _, _, h⟩ => exact Blk.lt h
  | .error _, .inr ⟨_, _, _, _, h⟩ => exact Blk.lt h
theorem RR.alloc {w : World} {b : Nat} {s : ByteArray} {q : Except ER PS} (h : RR w b s q) (o : Obj) : RR (w.alloc o) b s q := h.kept (S := fun _ => False) ((Kept.refl _ _).alloc o) id
theorem RR.drew {w : World} {b : Nat} {s : ByteArray} {q : Except ER PS} (h : RR w b s q) : RR w.drew b s q := h.kept (S := fun _ => False) ((Kept.refl _ _).drew) id
theorem RR.store {w : World} {b : Nat} {s : ByteArray} {q : Except ER PS} (h : RR w b s q) {p : Addr} (hb : p.block ≠ b) (v : Value) : RR (w.setCell p v) b s q :=
  h.kept (S := (· = p.block)) ((Kept.refl (fun x => x = p.block) _).setCell (Or.inl rfl) v) (fun e => hb e.symm)
def LE {α : Type} (b : Nat) (s : ByteArray) (r : Except ER (α × PS)) (a : α) (w' : World) : Prop := match r with | .error x => RR w' b s (.error x) | .ok (a', σ') => a' = a ∧ RR w' b s (.ok σ')
def stT {α : Type} (r : Except ER (α × PS)) : Except ER PS := match r with | .error x => .error x | .ok (_, σ) => .ok σ
theorem LE.of {α : Type} {b : Nat} {s : ByteArray} {r : Except ER (α × PS)} {a : α} {w' : World} (h : RR w' b s (stT r)) (ha : ∀ a' σ', r = .ok (a', σ') → a' = a) : LE b s r a w' := by
  match r, h, ha with
  | .error x, h, _ => exact h
  | .ok (a', σ'), h, ha => exact ⟨ha _ _ rfl, h⟩
theorem LE.val {α : Type} {b : Nat} {s : ByteArray} {r : Except ER (α × PS)} {a : α} {w' : World} (h : LE b s r a w') : ∀ a' σ', r = .ok (a', σ') → a' = a := by
  rintro a' σ' rfl; exact h.1
theorem RR.tk {w : World} {b : Nat} {s : ByteArray} {q : Except ER PS} (h : RR w b s q) {σ : PS} (e : q = .ok σ) : Tk s σ := by subst e; exact h.st.2
section
variable {s : ByteArray} {q : Except ER PS} {m n : Nat}
end
section
variable {α β : Type} {b : Nat} {s : ByteArray} {w w' : World}
theorem LE.u {q : Except ER PS} (h : RR w b s q) : LE b s (bP q fun σ => .ok ((), σ)) () w := by
  match q, h with
  | .error _, h => exact h
  | .ok _, h => exact ⟨rfl, h⟩
theorem LE.map {r : Except ER (α × PS)} {a : α} (h : LE b s r a w) (g : α → β) : LE b s (bT r fun a' σ => .ok (g a', σ)) (g a) w := by
  match r, h with
  | .error _, h => exact h
  | .ok (_, _), h => exact ⟨by rw [h.1], h.2⟩
theorem LE.kept {r : Except ER (α × PS)} {a : α} (h : LE b s r a w) {S : Nat → Prop} (hk : Kept S w w') (hs : ¬ S b) : LE b s r a w' := by
  match r, h with
  | .error _, h => exact RR.kept h hk hs
  | .ok (_, _), h => exact ⟨h.1, h.2.kept hk hs⟩
end
end Go.Proofs.YtckjlliobebodaaGreatDoor
