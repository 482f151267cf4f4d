/- Texts Arg of this proof, in one. -/
import Derived.Test.YtfhedienjnfdcaaGreatDoorS11
import Derived.ProofKit
import Derived.Deep.Slices
set_option linter.unusedVariables false
set_option linter.unusedSimpArgs false
namespace Go.Proofs.YtfhedienjnfdcaaGreatDoor
open Go.RowKit
section
variable {H : Type} {enc : TypeId × Value → H} {w : World} {spare : Nat → Bool} {held : Bool}
theorem cells_3 : Tryz.prog.cellsOf 3 = 1 := by kernel_rfl
theorem cells_9 : Tryz.prog.cellsOf 9 = 1 := by kernel_rfl
theorem cells_22 : Tryz.prog.cellsOf 24 = 1 := by kernel_rfl
theorem cells_24 : Tryz.prog.cellsOf 26 = 3 := by kernel_rfl
theorem cells_25 : Tryz.prog.cellsOf 22 = 1 := by kernel_rfl
theorem cells_27 : Tryz.prog.cellsOf 28 = 7 := by kernel_rfl
theorem at_some {α : Type} {x : Option α} {l : List α} {i : Nat} (h : x = l[i]?) (hi : i < l.length) : ∃ y, x = some y := ⟨l[i], by rw [h, List.getElem?_eq_getElem hi]⟩
theorem cell_plain {a : Addr} {v : Value} (h : w.cell? a = some v) : a = ⟨a.block, a.off, none⟩ := by
  obtain ⟨b, o, sp⟩ := a
  cases sp with
  | none => rfl
  | some k =>
    unfold World.cell? at h
    cases hb : w.heap[b]? with
    | none => simp [hb] at h
    | some ob => cases ob <;> simp [hb] at h
theorem add_plain (b o n : Nat) : (⟨b, o, none⟩ : Addr).add n = ⟨b, o + n, none⟩ := by unfold Addr.add; split <;> simp_all
theorem add_zero (a : Addr) : a.add 0 = a := rfl
theorem elems_at {α : Type} {a : Addr} {len k : Nat} {f : List Value → Option α} {elems : List α} (hl : elems.length = len) (hk : 0 < k) (h : ∀ i, i < len → (w.cells? 0 (a.add (i * k)) k).bind f = elems[i]?) (h0 : 0 < len) :
    ∃ b o, a = ⟨b, o, none⟩ ∧ ∀ i, i < len → ∃ cs y, cs.length = k ∧ (∀ j, j < k → w.cell? ⟨b, o + i * k + j, none⟩ = cs[j]?) ∧ f cs = some y := by
  have hc : ∀ i, i < len → ∃ cs y, w.cells? 0 (a.add (i * k)) k = some cs ∧ f cs = some y := by
    intro i hi
    obtain ⟨y, hy⟩ := at_some (h i hi) (by omega)
    obtain ⟨cs, h1, h2⟩ := Option.bind_eq_some_iff.1 hy
    exact ⟨cs, y, h1, h2⟩
  obtain ⟨cs, y, h1, h2⟩ := hc 0 h0
  obtain ⟨_, hl', hcell⟩ := World.cells?_some h1
  have h3 := hcell 0 hk
  rw [Nat.zero_mul, add_zero, add_zero, List.getElem?_eq_getElem (by omega)] at h3
  have ha := cell_plain h3
  refine ⟨a.block, a.off, ha, fun i hi => ?_⟩
  obtain ⟨cs, y, h1, h2⟩ := hc i hi
  obtain ⟨_, hl', hcell⟩ := World.cells?_some h1
  refine ⟨cs, y, hl', fun j hj => ?_, h2⟩
  rw [← hcell j hj]
  rw [ha, add_plain, add_plain]
theorem list3 {α : Type} {l : List α} (h : l.length = 3) : ∃ a b c, l = [a, b, c] := by
  match l, h with
  | [a, b, c], _ => exact ⟨a, b, c, rfl⟩
theorem list7 {α : Type} {l : List α} (h : l.length = 7) : ∃ a b c d e f g, l = [a, b, c, d, e, f, g] := by
  match l, h with
  | [a, b, c, d, e, f, g], _ => exact ⟨a, b, c, d, e, f, g, rfl⟩
theorem open_ty (fuel : Nat) : ∀ {cs : List Value} {x : DataW H × List MemPlace}, DataW.trod enc Tryz.prog w 0 spare held fuel 26 cs = some x →
    ∃ (t : Ty) (tk : Value), cs = [.int .i64 t.kind, .string t.name, tk] ∧ TyL (fun _ => True) w t.kids tk ∧ SmTy big t := by
  induction fuel using Nat.strongRecOn with
  | _ fuel ih =>
    intro cs x h
    obtain ⟨xs, n, rfl, -, hlen, hxl, hf⟩ := DataW.trod_struct Tryz.underlying26 h
    rw [cells_24] at hlen
    obtain ⟨c0, c1, c2, rfl⟩ := list3 hlen
    have hx3 : xs.length = 3 := hxl
    obtain ⟨y0, e0⟩ := at_some (hf 0 _ rfl) (by omega)
    obtain ⟨y1, e1⟩ := at_some (hf 1 _ rfl) (by omega)
    obtain ⟨y2, e2⟩ := at_some (hf 2 _ rfl) (by omega)
    have e0 : DataW.trod enc Tryz.prog w 0 spare held n 3 ((([c0, c1, c2] : List Value).drop 0).take (Tryz.prog.cellsOf 3)) = some y0 := e0
    have e1 : DataW.trod enc Tryz.prog w 0 spare held n 9 ((([c0, c1, c2] : List Value).drop 1).take (Tryz.prog.cellsOf 9)) = some y1 := e1
    have e2 : DataW.trod enc Tryz.prog w 0 spare held n 24 ((([c0, c1, c2] : List Value).drop 2).take (Tryz.prog.cellsOf 24)) = some y2 := e2
    rw [cells_3] at e0
    rw [cells_9] at e1
    rw [cells_22] at e2
    obtain ⟨k, hk, -, -⟩ := DataW.trod_int Tryz.underlying3 e0
    obtain ⟨s, hs, -, hsz⟩ := DataW.trod_string Tryz.underlying9 e1
    obtain rfl : c0 = _ := List.head_eq_of_cons_eq hk
    obtain rfl : c1 = _ := List.head_eq_of_cons_eq hs
    have hsz : s.size ≤ big := by unfold maxLen at hsz; unfold big; omega
    rcases DataW.trod_slice Tryz.underlying24 e2 with ⟨hc, -⟩ | ⟨a, len, cap, elems, rest, m, rfl, hc, -, -, hl, hm, hel, helt, -, -⟩
    · obtain rfl : c2 = _ := List.head_eq_of_cons_eq hc
      exact ⟨.mk k s [], _, rfl, .nil (Or.inl rfl), .mk hsz (fun t h => by cases h)⟩
    · obtain rfl : c2 = _ := List.head_eq_of_cons_eq hc
      by_cases h0 : len = 0
      · subst h0
        exact ⟨.mk k s [], _, rfl, .nil (Or.inr ⟨_, _, rfl⟩), .mk hsz (fun t h => by cases h)⟩
      · rw [cells_24] at helt
        obtain ⟨b, o, rfl, hat⟩ := elems_at hel (by decide) helt (by omega)
        have iTy : Inhabited (Ty × Value) := ⟨(ty0, .slice none 0 0)⟩
        obtain ⟨F, hF⟩ := Go.Deep.choose_lt (α := Ty × Value) (n := len) (p := fun i q => (w.cell? ⟨b, o + i * 3, none⟩ = some (.int .i64 q.1.kind) ∧ w.cell? ⟨b, o + i * 3 + 1, none⟩ = some (.string q.1.name) ∧ w.cell? ⟨b, o + i * 3 + 2, none⟩ = some q.2) ∧ TyL (fun _ => True) w q.1.kids q.2 ∧ SmTy big q.1) (fun i hi => by
          obtain ⟨cs, y, hcl, hcell, hy⟩ := hat i hi
          obtain ⟨t, tk, rfl, ht, hst⟩ := ih m (by omega) hy
          exact ⟨(t, tk), ⟨hcell 0 (by decide), hcell 1 (by decide), hcell 2 (by decide)⟩, ht, hst⟩)
        have hlen2 : ((List.range len).map fun i => (F i).1).length = len := by simp
        have hget : ∀ i (h : i < ((List.range len).map fun i => (F i).1).length), ((List.range len).map fun i => (F i).1)[i] = (F i).1 := by intro i h; simp
        have hT : TyL (fun _ => True) w ((List.range len).map fun i => (F i).1) (.slice (some ⟨b, o, none⟩) ((List.range len).map fun i => (F i).1).length cap) := by
          refine TyL.mk (fun i => (F i).2) (by intro e; rw [e] at hlen2; simp at hlen2; omega) trivial (by omega) (fun i h => ?_) (fun i h => ?_)
          · rw [hget i h]; exact (hF i (by omega)).1
          · rw [hget i h]; exact (hF i (by omega)).2.1
        rw [hlen2] at hT
        refine ⟨.mk k s ((List.range len).map fun i => (F i).1), _, rfl, hT, .mk hsz (fun t ht => ?_)⟩
        obtain ⟨i, hi, rfl⟩ := List.mem_map.1 ht
        exact (hF i (List.mem_range.1 hi)).2.2
theorem open_tm (fuel : Nat) : ∀ {cs : List Value} {x : DataW H × List MemPlace}, DataW.trod enc Tryz.prog w 0 spare held fuel 28 cs = some x →
    ∃ (t : Tm) (tk kk : Value), cs = tmCells t tk kk ∧ TyL (fun _ => True) w t.ty.kids tk ∧ TmL (fun _ => True) w t.kids kk ∧ SmTm big t := by
  induction fuel using Nat.strongRecOn with
  | _ fuel ih =>
    intro cs x h
    obtain ⟨xs, n, rfl, -, hlen, hxl, hf⟩ := DataW.trod_struct Tryz.underlying28 h
    rw [cells_27] at hlen
    obtain ⟨c0, c1, c2, c3, c4, c5, c6, rfl⟩ := list7 hlen
    have hx3 : xs.length = 5 := hxl
    obtain ⟨y0, e0⟩ := at_some (hf 0 _ rfl) (by omega)
    obtain ⟨y1, e1⟩ := at_some (hf 1 _ rfl) (by omega)
    obtain ⟨y2, e2⟩ := at_some (hf 2 _ rfl) (by omega)
    obtain ⟨y3, e3⟩ := at_some (hf 3 _ rfl) (by omega)
    obtain ⟨y4, e4⟩ := at_some (hf 4 _ rfl) (by omega)
    have e0 : DataW.trod enc Tryz.prog w 0 spare held n 3 ((([c0, c1, c2, c3, c4, c5, c6] : List Value).drop 0).take (Tryz.prog.cellsOf 3)) = some y0 := e0
    have e1 : DataW.trod enc Tryz.prog w 0 spare held n 9 ((([c0, c1, c2, c3, c4, c5, c6] : List Value).drop 1).take (Tryz.prog.cellsOf 9)) = some y1 := e1
    have e2 : DataW.trod enc Tryz.prog w 0 spare held n 3 ((([c0, c1, c2, c3, c4, c5, c6] : List Value).drop 2).take (Tryz.prog.cellsOf 3)) = some y2 := e2
    have e3 : DataW.trod enc Tryz.prog w 0 spare held n 26 ((([c0, c1, c2, c3, c4, c5, c6] : List Value).drop 3).take (Tryz.prog.cellsOf 26)) = some y3 := e3
    have e4 : DataW.trod enc Tryz.prog w 0 spare held n 22 ((([c0, c1, c2, c3, c4, c5, c6] : List Value).drop 6).take (Tryz.prog.cellsOf 22)) = some y4 := e4
    rw [cells_3] at e0 e2
    rw [cells_9] at e1
    rw [cells_24] at e3
    rw [cells_25] at e4
    obtain ⟨k, hk, -, -⟩ := DataW.trod_int Tryz.underlying3 e0
    obtain ⟨s, hs, -, hsz⟩ := DataW.trod_string Tryz.underlying9 e1
    obtain ⟨N, hN, -, -⟩ := DataW.trod_int Tryz.underlying3 e2
    obtain ⟨ty, tk, hty, htl, hts⟩ := open_ty n e3
    obtain rfl : c0 = _ := List.head_eq_of_cons_eq hk
    obtain rfl : c1 = _ := List.head_eq_of_cons_eq hs
    obtain rfl : c2 = _ := List.head_eq_of_cons_eq hN
    have hty : [c3, c4, c5] = [.int .i64 ty.kind, .string ty.name, tk] := hty
    simp only [List.cons.injEq, and_true] at hty
    obtain ⟨rfl, rfl, rfl⟩ := hty
    have hsz : s.size ≤ big := by unfold maxLen at hsz; unfold big; omega
    rcases DataW.trod_slice Tryz.underlying22 e4 with ⟨hc, -⟩ | ⟨a, len, cap, elems, rest, m, rfl, hc, -, -, hl, hm, hel, helt, -, -⟩
    · obtain rfl : c6 = _ := List.head_eq_of_cons_eq hc
      exact ⟨.mk k s N ty [], _, _, rfl, htl, .nil (Or.inl rfl), .mk hsz hts (fun t h => by cases h)⟩
    · obtain rfl : c6 = _ := List.head_eq_of_cons_eq hc
      by_cases h0 : len = 0
      · subst h0
        exact ⟨.mk k s N ty [], _, _, rfl, htl, .nil (Or.inr ⟨_, _, rfl⟩), .mk hsz hts (fun t h => by cases h)⟩
      · rw [cells_27] at helt
        obtain ⟨b, o, rfl, hat⟩ := elems_at hel (by decide) helt (by omega)
        have iTm : Inhabited (Tm × Value × Value) := ⟨(.mk 0 ⟨#[]⟩ 0 ty0 [], .slice none 0 0, .slice none 0 0)⟩
        obtain ⟨F, hF⟩ := Go.Deep.choose_lt (α := Tm × Value × Value) (n := len) (p := fun i q => (w.cell? ⟨b, o + i * 7, none⟩ = some (.int .i64 q.1.op) ∧ w.cell? ⟨b, o + i * 7 + 1, none⟩ = some (.string q.1.name) ∧ w.cell? ⟨b, o + i * 7 + 2, none⟩ = some (.int .i64 q.1.n) ∧ w.cell? ⟨b, o + i * 7 + 3, none⟩ = some (.int .i64 q.1.ty.kind) ∧ w.cell? ⟨b, o + i * 7 + 4, none⟩ = some (.string q.1.ty.name) ∧ w.cell? ⟨b, o + i * 7 + 5, none⟩ = some q.2.1 ∧ w.cell? ⟨b, o + i * 7 + 6, none⟩ = some q.2.2) ∧ TyL (fun _ => True) w q.1.ty.kids q.2.1 ∧ TmL (fun _ => True) w q.1.kids q.2.2 ∧ SmTm big q.1) (fun i hi => by
          obtain ⟨cs, y, hcl, hcell, hy⟩ := hat i hi
          obtain ⟨t, tk, kk, rfl, ht, hm, hst⟩ := ih m (by omega) hy
          exact ⟨(t, tk, kk), ⟨hcell 0 (by decide), hcell 1 (by decide), hcell 2 (by decide), hcell 3 (by decide), hcell 4 (by decide), hcell 5 (by decide), hcell 6 (by decide)⟩, ht, hm, hst⟩)
        have hlen2 : ((List.range len).map fun i => (F i).1).length = len := by simp
        have hget : ∀ i (h : i < ((List.range len).map fun i => (F i).1).length), ((List.range len).map fun i => (F i).1)[i] = (F i).1 := by intro i h; simp
        have hT : TmL (fun _ => True) w ((List.range len).map fun i => (F i).1) (.slice (some ⟨b, o, none⟩) ((List.range len).map fun i => (F i).1).length cap) := by
          refine TmL.mk (fun i => (F i).2.1) (fun i => (F i).2.2) (by intro e; rw [e] at hlen2; simp at hlen2; omega) trivial (by omega) (fun i h => ?_) (fun i h => ?_) (fun i h => ?_)
          · rw [hget i h]; exact (hF i (by omega)).1
          · rw [hget i h]; exact (hF i (by omega)).2.1
          · rw [hget i h]; exact (hF i (by omega)).2.2.1
        rw [hlen2] at hT
        refine ⟨.mk k s N ty ((List.range len).map fun i => (F i).1), _, _, rfl, htl, hT, .mk hsz hts (fun t ht => ?_)⟩
        obtain ⟨i, hi, rfl⟩ := List.mem_map.1 ht
        exact (hF i (List.mem_range.1 hi)).2.2.2
end
end Go.Proofs.YtfhedienjnfdcaaGreatDoor
