/- Types and terms as plain trees, and how they lie in memory. -/
import Derived.Test.YtckjlliobebodaaGreatDoorBase
namespace Go.Proofs.YtckjlliobebodaaGreatDoor
open Go.RowKit
inductive Ty where
  | mk (kind : Int) (name : ByteArray) (kids : List Ty)
def Ty.kind : Ty → Int | .mk k _ _ => k
def Ty.name : Ty → ByteArray | .mk _ n _ => n
def Ty.kids : Ty → List Ty | .mk _ _ l => l
inductive Tm where
  | mk (op : Int) (name : ByteArray) (n : Int) (ty : Ty) (kids : List Tm)
def Tm.op : Tm → Int | .mk o _ _ _ _ => o
def Tm.name : Tm → ByteArray | .mk _ n _ _ _ => n
def Tm.n : Tm → Int | .mk _ _ n _ _ => n
def Tm.ty : Tm → Ty | .mk _ _ _ t _ => t
def Tm.kids : Tm → List Tm | .mk _ _ _ _ l => l
def ty0 : Ty := .mk 0 ⟨#[]⟩ []
def empty0 (v : Value) : Prop := v = .slice none 0 0 ∨ ∃ a c, v = .slice (some a) 0 c
/-- The slice v holds the types l, in blocks of which ok holds. -/
inductive TyL (ok : Nat → Prop) (w : World) : List Ty → Value → Prop
  | nil {v : Value} (h : empty0 v) : TyL ok w [] v
  | mk {l : List Ty} {b off cap : Nat} (K : Nat → Value) (hne : l ≠ []) (hb : ok b) (hc : l.length ≤ cap)
      (hcell : ∀ i (h : i < l.length), w.cell? ⟨b, off + i * 3, none⟩ = some (.int .i64 l[i].kind) ∧ w.cell? ⟨b, off + i * 3 + 1, none⟩ = some (.string l[i].name) ∧ w.cell? ⟨b, off + i * 3 + 2, none⟩ = some (K i))
      (hk : ∀ i (h : i < l.length), TyL ok w l[i].kids (K i)) : TyL ok w l (.slice (some ⟨b, off, none⟩) l.length cap)
def tyVal (t : Ty) (tk : Value) : Value := .agg #[.int .i64 t.kind, .string t.name, tk]
/-- The value v is the type t. -/
def TyV (ok : Nat → Prop) (w : World) (t : Ty) (v : Value) : Prop := ∃ tk, v = tyVal t tk ∧ TyL ok w t.kids tk
/-- The slice v holds the terms l. -/
inductive TmL (ok : Nat → Prop) (w : World) : List Tm → Value → Prop
  | nil {v : Value} (h : empty0 v) : TmL ok w [] v
  | mk {l : List Tm} {b off cap : Nat} (K M : Nat → Value) (hne : l ≠ []) (hb : ok b) (hc : l.length ≤ cap)
      (hcell : ∀ i (h : i < l.length), w.cell? ⟨b, off + i * 7, none⟩ = some (.int .i64 l[i].op) ∧ w.cell? ⟨b, off + i * 7 + 1, none⟩ = some (.string l[i].name) ∧ w.cell? ⟨b, off + i * 7 + 2, none⟩ = some (.int .i64 l[i].n) ∧ w.cell? ⟨b, off + i * 7 + 3, none⟩ = some (.int .i64 l[i].ty.kind) ∧ w.cell? ⟨b, off + i * 7 + 4, none⟩ = some (.string l[i].ty.name) ∧ w.cell? ⟨b, off + i * 7 + 5, none⟩ = some (K i) ∧ w.cell? ⟨b, off + i * 7 + 6, none⟩ = some (M i))
      (hk : ∀ i (h : i < l.length), TyL ok w l[i].ty.kids (K i)) (hm : ∀ i (h : i < l.length), TmL ok w l[i].kids (M i)) : TmL ok w l (.slice (some ⟨b, off, none⟩) l.length cap)
def tmVal (t : Tm) (tk kk : Value) : Value := .agg #[.int .i64 t.op, .string t.name, .int .i64 t.n, .int .i64 t.ty.kind, .string t.ty.name, tk, kk]
def TmV (ok : Nat → Prop) (w : World) (t : Tm) (v : Value) : Prop := ∃ tk kk, v = tmVal t tk kk ∧ TyL ok w t.ty.kids tk ∧ TmL ok w t.kids kk
theorem cell_lt {w : World} {b o : Nat} {v : Value} (h : w.cell? ⟨b, o, none⟩ = some v) : b < w.heap.size := by
  unfold World.cell? at h
  by_cases hl : b < w.heap.size
  · exact hl
  · rw [Array.getElem?_eq_none (by show w.heap.size ≤ b; omega)] at h; simp at h
/-- The blocks in question are as they were. -/
def Same (ok : Nat → Prop) (w w' : World) : Prop := ∀ k, ok k → k < w.heap.size → w'.heap[k]? = w.heap[k]?
theorem Same.cell {ok : Nat → Prop} {w w' : World} (h : Same ok w w') {b o : Nat} {v : Value} (hb : ok b) (hc : w.cell? ⟨b, o, none⟩ = some v) : w'.cell? ⟨b, o, none⟩ = some v := by
  rw [World.cell?_of_block (w := w) (a := ⟨b, o, none⟩) (h b hb (cell_lt hc))]; exact hc
theorem TyL.frame {ok : Nat → Prop} {w w' : World} (hs : Same ok w w') {l : List Ty} {v : Value} (h : TyL ok w l v) : TyL ok w' l v := by
  induction h with
  | nil h => exact .nil h
  | mk K hne hb hc hcell hk ih =>
    exact .mk K hne hb hc (fun i h => ⟨hs.cell hb (hcell i h).1, hs.cell hb (hcell i h).2.1, hs.cell hb (hcell i h).2.2⟩) ih
theorem TmL.frame {ok : Nat → Prop} {w w' : World} (hs : Same ok w w') {l : List Tm} {v : Value} (h : TmL ok w l v) : TmL ok w' l v := by
  induction h with
  | nil h => exact .nil h
  | mk K M hne hb hc hcell hk hm ih =>
    exact .mk K M hne hb hc (fun i h => let c := hcell i h; ⟨hs.cell hb c.1, hs.cell hb c.2.1, hs.cell hb c.2.2.1, hs.cell hb c.2.2.2.1, hs.cell hb c.2.2.2.2.1, hs.cell hb c.2.2.2.2.2.1, hs.cell hb c.2.2.2.2.2.2⟩) (fun i h => (hk i h).frame hs) ih
theorem TyL.mono {ok ok' : Nat → Prop} {w : World} (ho : ∀ k, k < w.heap.size → ok k → ok' k) {l : List Ty} {v : Value} (h : TyL ok w l v) : TyL ok' w l v := by
  induction h with
  | nil h => exact .nil h
  | mk K hne hb hc hcell hk ih =>
    rename_i l b off cap
    have h0 : 0 < l.length := List.length_pos_iff.2 hne
    exact .mk K hne (ho _ (cell_lt (hcell 0 h0).1) hb) hc hcell ih
theorem TmL.mono {ok ok' : Nat → Prop} {w : World} (ho : ∀ k, k < w.heap.size → ok k → ok' k) {l : List Tm} {v : Value} (h : TmL ok w l v) : TmL ok' w l v := by
  induction h with
  | nil h => exact .nil h
  | mk K M hne hb hc hcell hk hm ih =>
    rename_i l b off cap
    have h0 : 0 < l.length := List.length_pos_iff.2 hne
    exact .mk K M hne (ho _ (cell_lt (hcell 0 h0).1) hb) hc hcell (fun i h => (hk i h).mono ho) ih
theorem TyV.frame {ok : Nat → Prop} {w w' : World} (hs : Same ok w w') {t : Ty} {v : Value} (h : TyV ok w t v) : TyV ok w' t v := by
  obtain ⟨tk, rfl, h⟩ := h; exact ⟨tk, rfl, h.frame hs⟩
theorem TmV.frame {ok : Nat → Prop} {w w' : World} (hs : Same ok w w') {t : Tm} {v : Value} (h : TmV ok w t v) : TmV ok w' t v := by
  obtain ⟨tk, kk, rfl, h, h'⟩ := h; exact ⟨tk, kk, rfl, h.frame hs, h'.frame hs⟩
theorem Same.of_kept {S ok : Nat → Prop} {w w' : World} (h : Kept S w w') (hS : ∀ k, ok k → ¬ S k) : Same ok w w' := fun k hk hl => h.block k hl (hS k hk)
theorem TyL.one {ok : Nat → Prop} {w : World} {g cap : Nat} {t : Ty} {tk : Value} {r : List Value} {ty : TypeId} (hg : ok g) (hc : 1 ≤ cap) (hb : Blk w g ty ([.int .i64 t.kind, .string t.name, tk] ++ r)) (hk : TyL ok w t.kids tk) : TyL ok w [t] (.slice (some ⟨g, 0, none⟩) 1 cap) := by
  refine TyL.mk (l := [t]) (fun _ => tk) (by simp) hg hc (fun i h => ?_) (fun i h => ?_)
  · have : i = 0 := by simp at h; exact h
    subst this
    exact ⟨hb.cell 0, hb.cell 1, hb.cell 2⟩
  · have : i = 0 := by simp at h; exact h
    subst this; exact hk
theorem TyL.two {ok : Nat → Prop} {w : World} {g cap : Nat} {t u : Ty} {tk uk : Value} {ty : TypeId} (hg : ok g) (hc : 2 ≤ cap) (hb : Blk w g ty [.int .i64 t.kind, .string t.name, tk, .int .i64 u.kind, .string u.name, uk]) (hk : TyL ok w t.kids tk) (hk' : TyL ok w u.kids uk) : TyL ok w [t, u] (.slice (some ⟨g, 0, none⟩) 2 cap) := by
  refine TyL.mk (l := [t, u]) (fun i => if i = 0 then tk else uk) (by simp) hg hc (fun i h => ?_) (fun i h => ?_)
  · rcases (show i = 0 ∨ i = 1 by simp at h; omega) with rfl | rfl
    · exact ⟨hb.cell 0, hb.cell 1, hb.cell 2⟩
    · exact ⟨hb.cell 3, hb.cell 4, hb.cell 5⟩
  · rcases (show i = 0 ∨ i = 1 by simp at h; omega) with rfl | rfl
    · exact hk
    · exact hk'
/-- The seven cells of a term. -/
def tmCells (t : Tm) (tk kk : Value) : List Value := [.int .i64 t.op, .string t.name, .int .i64 t.n, .int .i64 t.ty.kind, .string t.ty.name, tk, kk]
theorem TmL.one {ok : Nat → Prop} {w : World} {g cap : Nat} {t : Tm} {tk kk : Value} {ty : TypeId} (hg : ok g) (hc : 1 ≤ cap) (hb : Blk w g ty (tmCells t tk kk)) (hk : TyL ok w t.ty.kids tk) (hm : TmL ok w t.kids kk) : TmL ok w [t] (.slice (some ⟨g, 0, none⟩) 1 cap) := by
  refine TmL.mk (l := [t]) (fun _ => tk) (fun _ => kk) (by simp) hg hc (fun i h => ?_) (fun i h => ?_) (fun i h => ?_)
  all_goals (have : i = 0 := by simp at h; exact h); subst this
  · exact ⟨hb.cell 0, hb.cell 1, hb.cell 2, hb.cell 3, hb.cell 4, hb.cell 5, hb.cell 6⟩
  · exact hk
  · exact hm
theorem TmL.two {ok : Nat → Prop} {w : World} {g cap : Nat} {t u : Tm} {tk kk uk uu : Value} {ty : TypeId} (hg : ok g) (hc : 2 ≤ cap) (hb : Blk w g ty (tmCells t tk kk ++ tmCells u uk uu)) (hk : TyL ok w t.ty.kids tk) (hm : TmL ok w t.kids kk) (hk' : TyL ok w u.ty.kids uk) (hm' : TmL ok w u.kids uu) : TmL ok w [t, u] (.slice (some ⟨g, 0, none⟩) 2 cap) := by
  refine TmL.mk (l := [t, u]) (fun i => if i = 0 then tk else uk) (fun i => if i = 0 then kk else uu) (by simp) hg hc (fun i h => ?_) (fun i h => ?_) (fun i h => ?_)
  all_goals rcases (show i = 0 ∨ i = 1 by simp at h; omega) with rfl | rfl
  · exact ⟨hb.cell 0, hb.cell 1, hb.cell 2, hb.cell 3, hb.cell 4, hb.cell 5, hb.cell 6⟩
  · exact ⟨hb.cell 7, hb.cell 8, hb.cell 9, hb.cell 10, hb.cell 11, hb.cell 12, hb.cell 13⟩
  · exact hk
  · exact hk'
  · exact hm
  · exact hm'
end Go.Proofs.YtckjlliobebodaaGreatDoor
