/- Seven stores into a result's block; what a reader of terms promises. -/
import Derived.Test.YtckjlliobebodaaGreatDoorInv
namespace Go.Proofs.YtckjlliobebodaaGreatDoor
open Go.RowKit
def z27 : List Value := [.int .i64 0, .string ⟨#[]⟩, .int .i64 0, .int .i64 0, .string ⟨#[]⟩, .slice none 0 0, .slice none 0 0]
theorem r7 {W : World} {R : Nat} {l : List Value} {x0 x1 x2 x3 x4 x5 x6 : Value} (h : Blk W R 27 l) (hl : l.length = 7) :
    Blk (((((((W.setCell ⟨R, 0, none⟩ x0).setCell ⟨R, 1, none⟩ x1).setCell ⟨R, 2, none⟩ x2).setCell ⟨R, 3, none⟩ x3).setCell ⟨R, 4, none⟩ x4).setCell ⟨R, 5, none⟩ x5).setCell ⟨R, 6, none⟩ x6) R 27 [x0, x1, x2, x3, x4, x5, x6] := by
  match l, hl with
  | [a0, a1, a2, a3, a4, a5, a6], _ => exact ((((((h.set 0 x0).set 1 x1).set 2 x2).set 3 x3).set 4 x4).set 5 x5).set 6 x6
theorem p7w {W : World} {b : Nat} {s : ByteArray} {σ : PS} {R : Nat} {x0 x1 x2 x3 x4 x5 x6 : Value} (h : PW W b s σ) (hb : R ≠ b) (h2 : 2 ≤ R) :
    PW (((((((W.setCell ⟨R, 0, none⟩ x0).setCell ⟨R, 1, none⟩ x1).setCell ⟨R, 2, none⟩ x2).setCell ⟨R, 3, none⟩ x3).setCell ⟨R, 4, none⟩ x4).setCell ⟨R, 5, none⟩ x5).setCell ⟨R, 6, none⟩ x6) b s σ :=
  ((((((h.store (p := ⟨R, 0, none⟩) hb h2 x0).store (p := ⟨R, 1, none⟩) hb h2 x1).store (p := ⟨R, 2, none⟩) hb h2 x2).store (p := ⟨R, 3, none⟩) hb h2 x3).store (p := ⟨R, 4, none⟩) hb h2 x4).store (p := ⟨R, 5, none⟩) hb h2 x5).store (p := ⟨R, 6, none⟩) hb h2 x6
theorem k7w {w W : World} {S : Nat → Prop} {R : Nat} {x0 x1 x2 x3 x4 x5 x6 : Value} (h : Kept S w W) (hR : S R ∨ w.heap.size ≤ R) :
    Kept S w (((((((W.setCell ⟨R, 0, none⟩ x0).setCell ⟨R, 1, none⟩ x1).setCell ⟨R, 2, none⟩ x2).setCell ⟨R, 3, none⟩ x3).setCell ⟨R, 4, none⟩ x4).setCell ⟨R, 5, none⟩ x5).setCell ⟨R, 6, none⟩ x6) :=
  ((((((h.setCell (p := ⟨R, 0, none⟩) hR x0).setCell (p := ⟨R, 1, none⟩) hR x1).setCell (p := ⟨R, 2, none⟩) hR x2).setCell (p := ⟨R, 3, none⟩) hR x3).setCell (p := ⟨R, 4, none⟩) hR x4).setCell (p := ⟨R, 5, none⟩) hR x5).setCell (p := ⟨R, 6, none⟩) hR x6
theorem same7 {W : World} {n R : Nat} {x0 x1 x2 x3 x4 x5 x6 : Value} (h : R < n) : Same (fun k => n ≤ k) W (((((((W.setCell ⟨R, 0, none⟩ x0).setCell ⟨R, 1, none⟩ x1).setCell ⟨R, 2, none⟩ x2).setCell ⟨R, 3, none⟩ x3).setCell ⟨R, 4, none⟩ x4).setCell ⟨R, 5, none⟩ x5).setCell ⟨R, 6, none⟩ x6) := by
  intro k hk hl
  exact (k7w (S := (· = R)) (Kept.refl _ _) (Or.inl rfl)).block k hl (by show ¬ k = R; omega)
theorem b7w {W : World} {R c : Nat} {t : TypeId} {l : List Value} {x0 x1 x2 x3 x4 x5 x6 : Value} (h : Blk W c t l) (hc : c ≠ R) :
    Blk (((((((W.setCell ⟨R, 0, none⟩ x0).setCell ⟨R, 1, none⟩ x1).setCell ⟨R, 2, none⟩ x2).setCell ⟨R, 3, none⟩ x3).setCell ⟨R, 4, none⟩ x4).setCell ⟨R, 5, none⟩ x5).setCell ⟨R, 6, none⟩ x6) c t l :=
  h.kept (S := (· = R)) (k7w (Kept.refl _ _) (Or.inl rfl)) hc
theorem ret_tm {fn : Func} {p : Tmp} (hf : fn.results = #[.cell p 27]) {b n : Nat} {s : ByteArray} {q : RT} {σ' : PS} {w W : World} {t : Tm} {tk kk : Value} {R : Nat} {a : Act} (hq : q = .ok (t, σ')) (hR : a.tmps.getD p undef = .pointer (some ⟨R, 0, none⟩)) (hd : a.defers = [])
    (hb : Blk W R 27 (tmCells t tk kk)) (hk : TyL (fun k => n ≤ k) W t.ty.kids tk) (hm : TmL (fun k => n ≤ k) W t.kids kk) (hp : PW W b s σ') (hkp : Kept (· = b) w W) : bodyPost Tryz.prog fn (RPost b s (VTm n) q w) Exit.ret a W :=
  bodyPost_ret (results_one hf hR (load_tm hb)) hd (RPost.ok hq ⟨_, rfl, ⟨tk, kk, rfl, hk, hm⟩, hp, hkp⟩)
/-- The contract of the readers of terms, as far as f reaches. -/
def TC (b : Nat) (s : ByteArray) (f : Nat) (T : TF) : Prop := ∀ (n : Nat) (m : Int) (_ : m = n) (σ : PS) (w : World), 1 ≤ n → n ≤ 13 → PW w b s σ → 14 * mu s σ + (14 - n) < f →
  Calls Tryz.prog 33 #[.pointer (some ⟨b, 0, none⟩), .int .i64 m] w (RPost b s (VTm w.heap.size) (T n σ) w)
theorem TyL.nil0 {ok : Nat → Prop} {w : World} : TyL ok w [] (.slice none 0 0) := .nil (Or.inl rfl)
theorem TmL.nil0 {ok : Nat → Prop} {w : World} : TmL ok w [] (.slice none 0 0) := .nil (Or.inl rfl)
end Go.Proofs.YtckjlliobebodaaGreatDoor
