/- Texts Cln Bd Prs Bld Bin Key Prn of this proof, in one. -/
import Derived.Test.YtfhedienjnfdcaaGreatDoorS1
import Derived.Test.YtfhedienjnfdcaaGreatDoorS5
import Derived.Test.YtfhedienjnfdcaaGreatDoorS6
import Derived.Test.YtfhedienjnfdcaaGreatDoorS7
import Derived.Test.YtfhedienjnfdcaaGreatDoorS10
import Derived.Lib.Builder
import Derived.Shelf.RegionOpenPlain
import Derived.Deep.RegionHeld3
set_option linter.unusedVariables false
set_option linter.unusedSimpArgs false
namespace Go.Proofs.YtfhedienjnfdcaaGreatDoor
open Go.RowKit
inductive BdTm : Tm → Prop
  | mk {o : Int} {n : ByteArray} {i : Int} {t : Ty} {l : List Tm} (hn : l.length ≤ 1000000) (ht : BdTy t) (hl : ∀ k, k ∈ l → BdTm k) : BdTm (.mk o n i t l)
def ClP (t : Tm) (w : World) (e : Ending) (w' : World) : Prop := ∃ v u, e = .returned (tmVal t v u) ∧ TyL (fun k => w.heap.size ≤ k) w' t.ty.kids v ∧ TmL (fun k => w.heap.size ≤ k) w' t.kids u ∧ Kept (fun _ => False) w w'
def ClC (t : Tm) : Prop := ∀ (w : World) (ok : Nat → Prop) (tk kk : Value), TyL ok w t.ty.kids tk → TmL ok w t.kids kk → Calls Tryz.prog 58 #[tmVal t tk kk] w (ClP t w)
theorem seven {n j : Nat} (h : j < n * 7) : ∃ i r, i < n ∧ r < 7 ∧ j = i * 7 + r := ⟨j / 7, j % 7, by omega, by omega, by omega⟩
theorem set7 {W : World} {ok : Nat → Prop} {g i0 i1 i2 i3 i4 i5 i6 : Nat} {x0 x1 x2 x3 x4 x5 x6 : Value} (h : ∀ k, ok k → k ≠ g) : Same ok W (((((((W.setCell ⟨g, i0, none⟩ (x0)).setCell ⟨g, i1, none⟩ (x1)).setCell ⟨g, i2, none⟩ (x2)).setCell ⟨g, i3, none⟩ (x3)).setCell ⟨g, i4, none⟩ (x4)).setCell ⟨g, i5, none⟩ (x5)).setCell ⟨g, i6, none⟩ (x6)) :=
  Same.of_kept (S := (· = g)) ((((((((Kept.refl (fun x => x = g) W).setCell (p := ⟨g, i0, none⟩) (Or.inl rfl) _).setCell (p := ⟨g, i1, none⟩) (Or.inl rfl) _).setCell (p := ⟨g, i2, none⟩) (Or.inl rfl) _).setCell (p := ⟨g, i3, none⟩) (Or.inl rfl) _).setCell (p := ⟨g, i4, none⟩) (Or.inl rfl) _).setCell (p := ⟨g, i5, none⟩) (Or.inl rfl) _).setCell (p := ⟨g, i6, none⟩) (Or.inl rfl) _) h
structure CJ (w : World) (l : List Tm) (hd : List Value) (n b off g k : Nat) (wr : World) : Prop where
  kp : Kept (fun _ => False) w wr
  a : Blk wr w.heap.size 28 (hd ++ [.slice (some ⟨g, 0, none⟩) n n])
  r : Blk wr (w.heap.size + 1) 28 z27
  row : ∃ (L : List Value) (K' M' : Nat → Value), Blk wr g 28 L ∧ n * 7 ≤ L.length ∧ (∀ j, k * 7 ≤ j → j < n * 7 → L[j]? = w.cell? ⟨b, off + j, none⟩) ∧
    ∀ i (_ : i < k) (h : i < l.length), L[i * 7]? = some (.int .i64 l[i].op) ∧ L[i * 7 + 1]? = some (.string l[i].name) ∧ L[i * 7 + 2]? = some (.int .i64 l[i].n) ∧ L[i * 7 + 3]? = some (.int .i64 l[i].ty.kind) ∧ L[i * 7 + 4]? = some (.string l[i].ty.name) ∧ L[i * 7 + 5]? = some (K' i) ∧ L[i * 7 + 6]? = some (M' i) ∧ TyL (fun q => w.heap.size + 2 ≤ q ∧ q ≠ g) wr l[i].ty.kids (K' i) ∧ TmL (fun q => w.heap.size + 2 ≤ q ∧ q ≠ g) wr l[i].kids (M' i)
set_option maxHeartbeats 2000000 in
theorem CJ.step {w wr w4 : World} {l : List Tm} {hd : List Value} {b off g k : Nat} {v u : Value} (h : CJ w l hd l.length b off g k wr) (hg : w.heap.size + 2 ≤ g) (hk : k < l.length) (kk : Kept (fun _ => False) wr w4) (hv : TyL (fun q => wr.heap.size ≤ q) w4 l[k].ty.kids v) (hu : TmL (fun q => wr.heap.size ≤ q) w4 l[k].kids u) :
    CJ w l hd l.length b off g (k + 1) (((((((w4.setCell ⟨g, k * 7, none⟩ (.int .i64 l[k].op)).setCell ⟨g, k * 7 + 1, none⟩ (.string l[k].name)).setCell ⟨g, k * 7 + 2, none⟩ (.int .i64 l[k].n)).setCell ⟨g, k * 7 + 3, none⟩ (.int .i64 l[k].ty.kind)).setCell ⟨g, k * 7 + 4, none⟩ (.string l[k].ty.name)).setCell ⟨g, k * 7 + 5, none⟩ (v)).setCell ⟨g, k * 7 + 6, none⟩ (u)) := by
  obtain ⟨L, K', M', bG, hLn, hLo, hLd⟩ := h.row
  have lg := bG.lt
  have b4 := bG.kept kk (fun h => h)
  refine ⟨((((((((h.kp.trans kk).setCell (p := ⟨g, k * 7, none⟩) (Or.inr (by show w.heap.size ≤ g; omega)) _).setCell (p := ⟨g, k * 7 + 1, none⟩) (Or.inr (by show w.heap.size ≤ g; omega)) _).setCell (p := ⟨g, k * 7 + 2, none⟩) (Or.inr (by show w.heap.size ≤ g; omega)) _).setCell (p := ⟨g, k * 7 + 3, none⟩) (Or.inr (by show w.heap.size ≤ g; omega)) _).setCell (p := ⟨g, k * 7 + 4, none⟩) (Or.inr (by show w.heap.size ≤ g; omega)) _).setCell (p := ⟨g, k * 7 + 5, none⟩) (Or.inr (by show w.heap.size ≤ g; omega)) _).setCell (p := ⟨g, k * 7 + 6, none⟩) (Or.inr (by show w.heap.size ≤ g; omega)) _),
    ((((((((h.a.kept kk (fun h => h)).set_other _ _ (by show w.heap.size ≠ g; omega)).set_other _ _ (by show w.heap.size ≠ g; omega)).set_other _ _ (by show w.heap.size ≠ g; omega)).set_other _ _ (by show w.heap.size ≠ g; omega)).set_other _ _ (by show w.heap.size ≠ g; omega)).set_other _ _ (by show w.heap.size ≠ g; omega)).set_other _ _ (by show w.heap.size ≠ g; omega)),
    ((((((((h.r.kept kk (fun h => h)).set_other _ _ (by show w.heap.size + 1 ≠ g; omega)).set_other _ _ (by show w.heap.size + 1 ≠ g; omega)).set_other _ _ (by show w.heap.size + 1 ≠ g; omega)).set_other _ _ (by show w.heap.size + 1 ≠ g; omega)).set_other _ _ (by show w.heap.size + 1 ≠ g; omega)).set_other _ _ (by show w.heap.size + 1 ≠ g; omega)).set_other _ _ (by show w.heap.size + 1 ≠ g; omega)),
    (((((((L.set (k * 7) (.int .i64 l[k].op)).set (k * 7 + 1) (.string l[k].name)).set (k * 7 + 2) (.int .i64 l[k].n)).set (k * 7 + 3) (.int .i64 l[k].ty.kind)).set (k * 7 + 4) (.string l[k].ty.name)).set (k * 7 + 5) (v)).set (k * 7 + 6) (u)), fun i => if i = k then v else K' i, fun i => if i = k then u else M' i,
    (((((((b4.set _ _).set _ _).set _ _).set _ _).set _ _).set _ _).set _ _), by simpa using hLn, fun j h1 h2 => ?_, fun i hi hl => ?_⟩
  · rw [List.getElem?_set_ne (by omega), List.getElem?_set_ne (by omega), List.getElem?_set_ne (by omega), List.getElem?_set_ne (by omega), List.getElem?_set_ne (by omega), List.getElem?_set_ne (by omega), List.getElem?_set_ne (by omega)]
    exact hLo j (by omega) h2
  · by_cases hik : i = k
    · subst hik
      refine ⟨?_, ?_, ?_, ?_, ?_, ?_, ?_, ?_, ?_⟩
      · rw [List.getElem?_set_ne (by omega), List.getElem?_set_ne (by omega), List.getElem?_set_ne (by omega), List.getElem?_set_ne (by omega), List.getElem?_set_ne (by omega), List.getElem?_set_ne (by omega), List.getElem?_set_self (by omega)]
      · rw [List.getElem?_set_ne (by omega), List.getElem?_set_ne (by omega), List.getElem?_set_ne (by omega), List.getElem?_set_ne (by omega), List.getElem?_set_ne (by omega), List.getElem?_set_self (by simp; omega)]
      · rw [List.getElem?_set_ne (by omega), List.getElem?_set_ne (by omega), List.getElem?_set_ne (by omega), List.getElem?_set_ne (by omega), List.getElem?_set_self (by simp; omega)]
      · rw [List.getElem?_set_ne (by omega), List.getElem?_set_ne (by omega), List.getElem?_set_ne (by omega), List.getElem?_set_self (by simp; omega)]
      · rw [List.getElem?_set_ne (by omega), List.getElem?_set_ne (by omega), List.getElem?_set_self (by simp; omega)]
      · rw [List.getElem?_set_ne (by omega), List.getElem?_set_self (by simp; omega)]; show some v = some (if i = i then v else K' i); rw [if_pos rfl]
      · rw [List.getElem?_set_self (by simp; omega)]; show some u = some (if i = i then u else M' i); rw [if_pos rfl]
      · show TyL _ _ _ (if i = i then v else K' i)
        rw [if_pos rfl]
        exact (hv.mono (ok' := fun q => w.heap.size + 2 ≤ q ∧ q ≠ g) (fun q _ h => ⟨by omega, by omega⟩)).frame (set7 (fun q h => h.2))
      · show TmL _ _ _ (if i = i then u else M' i)
        rw [if_pos rfl]
        exact (hu.mono (ok' := fun q => w.heap.size + 2 ≤ q ∧ q ≠ g) (fun q _ h => ⟨by omega, by omega⟩)).frame (set7 (fun q h => h.2))
    · obtain ⟨e0, e1, e2, e3, e4, e5, e6, e7, e8⟩ := hLd i (by omega) hl
      refine ⟨?_, ?_, ?_, ?_, ?_, ?_, ?_, ?_, ?_⟩
      · rw [List.getElem?_set_ne (by omega), List.getElem?_set_ne (by omega), List.getElem?_set_ne (by omega), List.getElem?_set_ne (by omega), List.getElem?_set_ne (by omega), List.getElem?_set_ne (by omega), List.getElem?_set_ne (by omega)]; exact e0
      · rw [List.getElem?_set_ne (by omega), List.getElem?_set_ne (by omega), List.getElem?_set_ne (by omega), List.getElem?_set_ne (by omega), List.getElem?_set_ne (by omega), List.getElem?_set_ne (by omega), List.getElem?_set_ne (by omega)]; exact e1
      · rw [List.getElem?_set_ne (by omega), List.getElem?_set_ne (by omega), List.getElem?_set_ne (by omega), List.getElem?_set_ne (by omega), List.getElem?_set_ne (by omega), List.getElem?_set_ne (by omega), List.getElem?_set_ne (by omega)]; exact e2
      · rw [List.getElem?_set_ne (by omega), List.getElem?_set_ne (by omega), List.getElem?_set_ne (by omega), List.getElem?_set_ne (by omega), List.getElem?_set_ne (by omega), List.getElem?_set_ne (by omega), List.getElem?_set_ne (by omega)]; exact e3
      · rw [List.getElem?_set_ne (by omega), List.getElem?_set_ne (by omega), List.getElem?_set_ne (by omega), List.getElem?_set_ne (by omega), List.getElem?_set_ne (by omega), List.getElem?_set_ne (by omega), List.getElem?_set_ne (by omega)]; exact e4
      · rw [List.getElem?_set_ne (by omega), List.getElem?_set_ne (by omega), List.getElem?_set_ne (by omega), List.getElem?_set_ne (by omega), List.getElem?_set_ne (by omega), List.getElem?_set_ne (by omega), List.getElem?_set_ne (by omega)]; show _ = some (if i = k then v else K' i); rw [if_neg hik]; exact e5
      · rw [List.getElem?_set_ne (by omega), List.getElem?_set_ne (by omega), List.getElem?_set_ne (by omega), List.getElem?_set_ne (by omega), List.getElem?_set_ne (by omega), List.getElem?_set_ne (by omega), List.getElem?_set_ne (by omega)]; show _ = some (if i = k then u else M' i); rw [if_neg hik]; exact e6
      · show TyL _ _ _ (if i = k then v else K' i)
        rw [if_neg hik]
        exact (e7.frame (Same.of_kept kk (fun _ _ e => e))).frame (set7 (fun q h => h.2))
      · show TmL _ _ _ (if i = k then u else M' i)
        rw [if_neg hik]
        exact (e8.frame (Same.of_kept kk (fun _ _ e => e))).frame (set7 (fun q h => h.2))
set_option maxRecDepth 100000 in
set_option maxHeartbeats 8000000 in
theorem clone_nil {op : Int} {nm : ByteArray} {N : Int} {ty : Ty} {w : World} {ok : Nat → Prop} {ta : Option Addr} {tn tc : Nat} (hcp : CpC ty) (hty : TyL ok w ty.kids (.slice ta tn tc))  : Calls Tryz.prog 58 #[.agg #[.int .i64 op, .string nm, .int .i64 N, .int .i64 ty.kind, .string ty.name, .slice ta tn tc, .slice none 0 0]] w (ClP (.mk op nm N ty []) w) := by
  have bA : Blk ((w.alloc (.cells #[.int .i64 op, .string nm, .int .i64 N, .int .i64 ty.kind, .string ty.name, .slice ta tn tc, .slice none 0 0] 28)).alloc (.cells #[.int .i64 0, .string ⟨#[]⟩, .int .i64 0, .int .i64 0, .string ⟨#[]⟩, .slice none 0 0, .slice none 0 0] 28)) w.heap.size 28 [.int .i64 op, .string nm, .int .i64 N, .int .i64 ty.kind, .string ty.name, .slice ta tn tc, .slice none 0 0] := (Blk.new w 28 _).alloc _
  have bR : Blk ((w.alloc (.cells #[.int .i64 op, .string nm, .int .i64 N, .int .i64 ty.kind, .string ty.name, .slice ta tn tc, .slice none 0 0] 28)).alloc (.cells #[.int .i64 0, .string ⟨#[]⟩, .int .i64 0, .int .i64 0, .string ⟨#[]⟩, .slice none 0 0, .slice none 0 0] 28)) (w.heap.size + 1) 28 z27 := Blk.new' 28 _ (by simp)
  have K0 : Kept (fun _ => False) w ((w.alloc (.cells #[.int .i64 op, .string nm, .int .i64 N, .int .i64 ty.kind, .string ty.name, .slice ta tn tc, .slice none 0 0] 28)).alloc (.cells #[.int .i64 0, .string ⟨#[]⟩, .int .i64 0, .int .i64 0, .string ⟨#[]⟩, .slice none 0 0, .slice none 0 0] 28)) := ((Kept.refl _ _).alloc _).alloc _
  have Z0 : Hid (((w.alloc (.cells #[.int .i64 op, .string nm, .int .i64 N, .int .i64 ty.kind, .string ty.name, .slice ta tn tc, .slice none 0 0] 28)).alloc (.cells #[.int .i64 0, .string ⟨#[]⟩, .int .i64 0, .int .i64 0, .string ⟨#[]⟩, .slice none 0 0, .slice none 0 0] 28)).heap.size = w.heap.size + 2) := Lib.hid (by simp)
  have HT0 := Lib.hid (hcp ((w.alloc (.cells #[.int .i64 op, .string nm, .int .i64 N, .int .i64 ty.kind, .string ty.name, .slice ta tn tc, .slice none 0 0] 28)).alloc (.cells #[.int .i64 0, .string ⟨#[]⟩, .int .i64 0, .int .i64 0, .string ⟨#[]⟩, .slice none 0 0, .slice none 0 0] 28)) ok (.slice ta tn tc) ((hty.frame (Same.alloc w (.cells #[.int .i64 op, .string nm, .int .i64 N, .int .i64 ty.kind, .string ty.name, .slice ta tn tc, .slice none 0 0] 28))).frame (Same.alloc _ _)))
  clear hcp
  go_enter Tryz.func58, Tryz.ntmps58
  go_wp2_with fail
  refine HT0.out.mono ?_
  rintro e w1 ⟨tv, rfl, hT1, k1⟩
  obtain ⟨va, vn, vc, rfl⟩ := hT1.slice
  unfold tyVal
  rw [Z0.out] at hT1
  have bA1 := bA.kept k1 (fun h => h)
  have bR1 := bR.kept k1 (fun h => h)
  have K1 := K0.trans k1
  have a0 : w1.cell? ⟨w.heap.size, 0, none⟩ = some (.int .i64 op) := bA1.cell 0
  have a1 : w1.cell? ⟨w.heap.size, 1, none⟩ = some (.string nm) := bA1.cell 1
  have a2 : w1.cell? ⟨w.heap.size, 2, none⟩ = some (.int .i64 N) := bA1.cell 2
  have a3 : w1.cell? ⟨w.heap.size, 3, none⟩ = some (.int .i64 ty.kind) := bA1.cell 3
  have a4 : w1.cell? ⟨w.heap.size, 4, none⟩ = some (.string ty.name) := bA1.cell 4
  have a5 : w1.cell? ⟨w.heap.size, 5, none⟩ = some (.slice ta tn tc) := bA1.cell 5
  have a6 : w1.cell? ⟨w.heap.size, 6, none⟩ = some (.slice none 0 0) := bA1.cell 6
  have fa3 := bA1.frozen 3
  have fa4 := bA1.frozen 4
  have fa5 := bA1.frozen 5
  have fa6 := bA1.frozen 6
  have r0 : w1.cell? ⟨w.heap.size + 1, 0, none⟩ = some (.int .i64 0) := bR1.cell 0
  have f0 := bR1.frozen 0
  have r1 : w1.cell? ⟨w.heap.size + 1, 1, none⟩ = some (.string ⟨#[]⟩) := bR1.cell 1
  have f1 := bR1.frozen 1
  have r2 : w1.cell? ⟨w.heap.size + 1, 2, none⟩ = some (.int .i64 0) := bR1.cell 2
  have f2 := bR1.frozen 2
  have r3 : w1.cell? ⟨w.heap.size + 1, 3, none⟩ = some (.int .i64 0) := bR1.cell 3
  have f3 := bR1.frozen 3
  have r4 : w1.cell? ⟨w.heap.size + 1, 4, none⟩ = some (.string ⟨#[]⟩) := bR1.cell 4
  have f4 := bR1.frozen 4
  have r5 : w1.cell? ⟨w.heap.size + 1, 5, none⟩ = some (.slice none 0 0) := bR1.cell 5
  have f5 := bR1.frozen 5
  have r6 : w1.cell? ⟨w.heap.size + 1, 6, none⟩ = some (.slice none 0 0) := bR1.cell 6
  have f6 := bR1.frozen 6
  have BR := Lib.hid bR1
  have KP := Lib.hid K1
  have HT1 := Lib.hid hT1
  have BA1 := Lib.hid bA1
  clear bR1 K1 bA1 bA bR hT1
  go_wp2_with (first | (go_at_call 106; refine (cloneTm_nil _).mono ?_; rintro e w' ⟨rfl, rfl⟩) | (go_at_call 53; refine (clipTm_nil _).mono ?_; rintro e w' ⟨rfl, rfl⟩))
  go_loop [17] (fun i => i = .int .i64 0) (fun i => 0)
  case atStart => rfl
  case round =>
    subst hrel
    go_wp2_with fail
    have bF := r7 (x0 := .int .i64 op) (x1 := .string nm) (x2 := .int .i64 N) (x3 := .int .i64 ty.kind) (x4 := .string ty.name) (x5 := .slice va vn vc) (x6 := .slice none 0 0) ((((BR.out.set_other ⟨w.heap.size, 3, none⟩ (.int .i64 ty.kind) (by show w.heap.size + 1 ≠ w.heap.size; omega)).set_other ⟨w.heap.size, 4, none⟩ (.string ty.name) (by show w.heap.size + 1 ≠ w.heap.size; omega)).set_other ⟨w.heap.size, 5, none⟩ (.slice va vn vc) (by show w.heap.size + 1 ≠ w.heap.size; omega)).set_other ⟨w.heap.size, 6, none⟩ (.slice none 0 0) (by show w.heap.size + 1 ≠ w.heap.size; omega)) rfl
    refine bodyPost_ret (results_one Tryz.results58 rfl (load_tm (t := .mk op nm N ty []) bF)) rfl ⟨_, _, rfl, ?_, ?_, ?_⟩
    · exact ((HT1.out.frame (Same.of_kept (S := (· = w.heap.size)) (((((Kept.refl (fun x => x = w.heap.size) _).setCell (p := ⟨w.heap.size, 3, none⟩) (Or.inl rfl) (.int .i64 ty.kind)).setCell (p := ⟨w.heap.size, 4, none⟩) (Or.inl rfl) (.string ty.name)).setCell (p := ⟨w.heap.size, 5, none⟩) (Or.inl rfl) (.slice va vn vc)).setCell (p := ⟨w.heap.size, 6, none⟩) (Or.inl rfl) (.slice none 0 0)) (fun q h e => by omega))).frame (set7 (g := w.heap.size + 1) (fun q h => by omega))).mono (fun q _ h => by omega)
    · exact .nil (Or.inl rfl)
    · exact (((((((((((KP.out.setCell (p := ⟨w.heap.size, 3, none⟩) (Or.inr (Nat.le_refl _)) _).setCell (p := ⟨w.heap.size, 4, none⟩) (Or.inr (Nat.le_refl _)) _).setCell (p := ⟨w.heap.size, 5, none⟩) (Or.inr (Nat.le_refl _)) _).setCell (p := ⟨w.heap.size, 6, none⟩) (Or.inr (Nat.le_refl _)) _).setCell (p := ⟨w.heap.size + 1, 0, none⟩) (Or.inr (by show w.heap.size ≤ w.heap.size + 1; omega)) _).setCell (p := ⟨w.heap.size + 1, 1, none⟩) (Or.inr (by show w.heap.size ≤ w.heap.size + 1; omega)) _).setCell (p := ⟨w.heap.size + 1, 2, none⟩) (Or.inr (by show w.heap.size ≤ w.heap.size + 1; omega)) _).setCell (p := ⟨w.heap.size + 1, 3, none⟩) (Or.inr (by show w.heap.size ≤ w.heap.size + 1; omega)) _).setCell (p := ⟨w.heap.size + 1, 4, none⟩) (Or.inr (by show w.heap.size ≤ w.heap.size + 1; omega)) _).setCell (p := ⟨w.heap.size + 1, 5, none⟩) (Or.inr (by show w.heap.size ≤ w.heap.size + 1; omega)) _).setCell (p := ⟨w.heap.size + 1, 6, none⟩) (Or.inr (by show w.heap.size ≤ w.heap.size + 1; omega)) _)
set_option maxRecDepth 100000 in
set_option maxHeartbeats 8000000 in
theorem clone_zero {op : Int} {nm : ByteArray} {N : Int} {ty : Ty} {w : World} {ok : Nat → Prop} {ta : Option Addr} {tn tc : Nat} (hcp : CpC ty) (hty : TyL ok w ty.kids (.slice ta tn tc)) (ad : Addr) (cp : Nat) : Calls Tryz.prog 58 #[.agg #[.int .i64 op, .string nm, .int .i64 N, .int .i64 ty.kind, .string ty.name, .slice ta tn tc, .slice (some ad) 0 cp]] w (ClP (.mk op nm N ty []) w) := by
  have bA : Blk ((w.alloc (.cells #[.int .i64 op, .string nm, .int .i64 N, .int .i64 ty.kind, .string ty.name, .slice ta tn tc, .slice (some ad) 0 cp] 28)).alloc (.cells #[.int .i64 0, .string ⟨#[]⟩, .int .i64 0, .int .i64 0, .string ⟨#[]⟩, .slice none 0 0, .slice none 0 0] 28)) w.heap.size 28 [.int .i64 op, .string nm, .int .i64 N, .int .i64 ty.kind, .string ty.name, .slice ta tn tc, .slice (some ad) 0 cp] := (Blk.new w 28 _).alloc _
  have bR : Blk ((w.alloc (.cells #[.int .i64 op, .string nm, .int .i64 N, .int .i64 ty.kind, .string ty.name, .slice ta tn tc, .slice (some ad) 0 cp] 28)).alloc (.cells #[.int .i64 0, .string ⟨#[]⟩, .int .i64 0, .int .i64 0, .string ⟨#[]⟩, .slice none 0 0, .slice none 0 0] 28)) (w.heap.size + 1) 28 z27 := Blk.new' 28 _ (by simp)
  have K0 : Kept (fun _ => False) w ((w.alloc (.cells #[.int .i64 op, .string nm, .int .i64 N, .int .i64 ty.kind, .string ty.name, .slice ta tn tc, .slice (some ad) 0 cp] 28)).alloc (.cells #[.int .i64 0, .string ⟨#[]⟩, .int .i64 0, .int .i64 0, .string ⟨#[]⟩, .slice none 0 0, .slice none 0 0] 28)) := ((Kept.refl _ _).alloc _).alloc _
  have Z0 : Hid (((w.alloc (.cells #[.int .i64 op, .string nm, .int .i64 N, .int .i64 ty.kind, .string ty.name, .slice ta tn tc, .slice (some ad) 0 cp] 28)).alloc (.cells #[.int .i64 0, .string ⟨#[]⟩, .int .i64 0, .int .i64 0, .string ⟨#[]⟩, .slice none 0 0, .slice none 0 0] 28)).heap.size = w.heap.size + 2) := Lib.hid (by simp)
  have HT0 := Lib.hid (hcp ((w.alloc (.cells #[.int .i64 op, .string nm, .int .i64 N, .int .i64 ty.kind, .string ty.name, .slice ta tn tc, .slice (some ad) 0 cp] 28)).alloc (.cells #[.int .i64 0, .string ⟨#[]⟩, .int .i64 0, .int .i64 0, .string ⟨#[]⟩, .slice none 0 0, .slice none 0 0] 28)) ok (.slice ta tn tc) ((hty.frame (Same.alloc w (.cells #[.int .i64 op, .string nm, .int .i64 N, .int .i64 ty.kind, .string ty.name, .slice ta tn tc, .slice (some ad) 0 cp] 28))).frame (Same.alloc _ _)))
  clear hcp
  go_enter Tryz.func58, Tryz.ntmps58
  go_wp2_with fail
  refine HT0.out.mono ?_
  rintro e w1 ⟨tv, rfl, hT1, k1⟩
  obtain ⟨va, vn, vc, rfl⟩ := hT1.slice
  unfold tyVal
  rw [Z0.out] at hT1
  have bA1 := bA.kept k1 (fun h => h)
  have bR1 := bR.kept k1 (fun h => h)
  have K1 := K0.trans k1
  have a0 : w1.cell? ⟨w.heap.size, 0, none⟩ = some (.int .i64 op) := bA1.cell 0
  have a1 : w1.cell? ⟨w.heap.size, 1, none⟩ = some (.string nm) := bA1.cell 1
  have a2 : w1.cell? ⟨w.heap.size, 2, none⟩ = some (.int .i64 N) := bA1.cell 2
  have a3 : w1.cell? ⟨w.heap.size, 3, none⟩ = some (.int .i64 ty.kind) := bA1.cell 3
  have a4 : w1.cell? ⟨w.heap.size, 4, none⟩ = some (.string ty.name) := bA1.cell 4
  have a5 : w1.cell? ⟨w.heap.size, 5, none⟩ = some (.slice ta tn tc) := bA1.cell 5
  have a6 : w1.cell? ⟨w.heap.size, 6, none⟩ = some (.slice (some ad) 0 cp) := bA1.cell 6
  have fa3 := bA1.frozen 3
  have fa4 := bA1.frozen 4
  have fa5 := bA1.frozen 5
  have fa6 := bA1.frozen 6
  go_wp2_with fail
  refine (cloneTm_zero ad cp).mono ?_
  rintro e w2 ⟨g, cap, rfl, k2⟩
  have bA2 := (((bA1.set 3 (.int .i64 ty.kind)).set 4 (.string ty.name)).set 5 (.slice va vn vc)).kept k2 (fun h => h)
  have bR2 := (((bR1.set_other _ _ (by show w.heap.size + 1 ≠ w.heap.size; omega)).set_other _ _ (by show w.heap.size + 1 ≠ w.heap.size; omega)).set_other _ _ (by show w.heap.size + 1 ≠ w.heap.size; omega)).kept k2 (fun h => h)
  have K2 := (((K1.setCell (p := ⟨w.heap.size, 3, none⟩) (Or.inr (by show w.heap.size ≤ w.heap.size; omega)) _).setCell (p := ⟨w.heap.size, 4, none⟩) (Or.inr (by show w.heap.size ≤ w.heap.size; omega)) _).setCell (p := ⟨w.heap.size, 5, none⟩) (Or.inr (by show w.heap.size ≤ w.heap.size; omega)) _).trans k2
  have HT1 := Lib.hid ((hT1.mono (ok' := fun k => w.heap.size + 2 ≤ k) (fun _ _ h => h)).frame (Same.trans (Same.of_kept (S := (· = w.heap.size)) ((((Kept.refl (fun x => x = w.heap.size) w1).setCell (p := ⟨w.heap.size, 3, none⟩) (Or.inl rfl) (.int .i64 ty.kind)).setCell (p := ⟨w.heap.size, 4, none⟩) (Or.inl rfl) (.string ty.name)).setCell (p := ⟨w.heap.size, 5, none⟩) (Or.inl rfl) (.slice va vn vc)) (fun q h e => by omega)) (Same.of_kept k2 (fun _ _ e => e)) (by simp [World.setCell])))
  clear a0 a1 a2 a3 a4 a5 a6 fa3 fa4 fa5 fa6
  have a0 : w2.cell? ⟨w.heap.size, 0, none⟩ = some (.int .i64 op) := bA2.cell 0
  have a1 : w2.cell? ⟨w.heap.size, 1, none⟩ = some (.string nm) := bA2.cell 1
  have a2 : w2.cell? ⟨w.heap.size, 2, none⟩ = some (.int .i64 N) := bA2.cell 2
  have a3 : w2.cell? ⟨w.heap.size, 3, none⟩ = some (.int .i64 ty.kind) := bA2.cell 3
  have a4 : w2.cell? ⟨w.heap.size, 4, none⟩ = some (.string ty.name) := bA2.cell 4
  have a5 : w2.cell? ⟨w.heap.size, 5, none⟩ = some (.slice va vn vc) := bA2.cell 5
  have a6 : w2.cell? ⟨w.heap.size, 6, none⟩ = some (.slice (some ad) 0 cp) := bA2.cell 6
  have fa6 := bA2.frozen 6
  have r0 : w2.cell? ⟨w.heap.size + 1, 0, none⟩ = some (.int .i64 0) := bR2.cell 0
  have f0 := bR2.frozen 0
  have r1 : w2.cell? ⟨w.heap.size + 1, 1, none⟩ = some (.string ⟨#[]⟩) := bR2.cell 1
  have f1 := bR2.frozen 1
  have r2 : w2.cell? ⟨w.heap.size + 1, 2, none⟩ = some (.int .i64 0) := bR2.cell 2
  have f2 := bR2.frozen 2
  have r3 : w2.cell? ⟨w.heap.size + 1, 3, none⟩ = some (.int .i64 0) := bR2.cell 3
  have f3 := bR2.frozen 3
  have r4 : w2.cell? ⟨w.heap.size + 1, 4, none⟩ = some (.string ⟨#[]⟩) := bR2.cell 4
  have f4 := bR2.frozen 4
  have r5 : w2.cell? ⟨w.heap.size + 1, 5, none⟩ = some (.slice none 0 0) := bR2.cell 5
  have f5 := bR2.frozen 5
  have r6 : w2.cell? ⟨w.heap.size + 1, 6, none⟩ = some (.slice none 0 0) := bR2.cell 6
  have f6 := bR2.frozen 6
  have BR := Lib.hid bR2
  have KP := Lib.hid K2
  clear bR1 K1 bA1 bA bR hT1 bR2 K2 bA2
  go_wp2_with (go_at_call 53; refine (clipTm_some _ g 0 cap (Nat.zero_le _) (Nat.zero_le _)).mono ?_; rintro e w' ⟨rfl, rfl⟩)
  go_loop [17] (fun i => i = .int .i64 0) (fun i => 0)
  case atStart => rfl
  case round =>
    subst hrel
    go_wp2_with fail
    have bF := r7 (x0 := .int .i64 op) (x1 := .string nm) (x2 := .int .i64 N) (x3 := .int .i64 ty.kind) (x4 := .string ty.name) (x5 := .slice va vn vc) (x6 := .slice (some ⟨g, 0, none⟩) 0 0) (BR.out.set_other ⟨w.heap.size, 6, none⟩ (.slice (some ⟨g, 0, none⟩) 0 0) (by show w.heap.size + 1 ≠ w.heap.size; omega)) rfl
    refine bodyPost_ret (results_one Tryz.results58 rfl (load_tm (t := .mk op nm N ty []) bF)) rfl ⟨_, _, rfl, ?_, ?_, ?_⟩
    · exact ((HT1.out.frame (Same.of_kept (S := (· = w.heap.size)) ((Kept.refl (fun x => x = w.heap.size) _).setCell (p := ⟨w.heap.size, 6, none⟩) (Or.inl rfl) (.slice (some ⟨g, 0, none⟩) 0 0)) (fun q h e => by omega))).frame (set7 (g := w.heap.size + 1) (fun q h => by omega))).mono (fun q _ h => by omega)
    · exact .nil (Or.inr ⟨_, _, rfl⟩)
    · exact ((((((((KP.out.setCell (p := ⟨w.heap.size, 6, none⟩) (Or.inr (Nat.le_refl _)) _).setCell (p := ⟨w.heap.size + 1, 0, none⟩) (Or.inr (by show w.heap.size ≤ w.heap.size + 1; omega)) _).setCell (p := ⟨w.heap.size + 1, 1, none⟩) (Or.inr (by show w.heap.size ≤ w.heap.size + 1; omega)) _).setCell (p := ⟨w.heap.size + 1, 2, none⟩) (Or.inr (by show w.heap.size ≤ w.heap.size + 1; omega)) _).setCell (p := ⟨w.heap.size + 1, 3, none⟩) (Or.inr (by show w.heap.size ≤ w.heap.size + 1; omega)) _).setCell (p := ⟨w.heap.size + 1, 4, none⟩) (Or.inr (by show w.heap.size ≤ w.heap.size + 1; omega)) _).setCell (p := ⟨w.heap.size + 1, 5, none⟩) (Or.inr (by show w.heap.size ≤ w.heap.size + 1; omega)) _).setCell (p := ⟨w.heap.size + 1, 6, none⟩) (Or.inr (by show w.heap.size ≤ w.heap.size + 1; omega)) _)
set_option maxRecDepth 100000 in
set_option maxHeartbeats 16000000 in
theorem clone_some {op : Int} {nm : ByteArray} {N : Int} {ty : Ty} {w : World} {ok : Nat → Prop} {ta : Option Addr} {tn tc : Nat} (hcp : CpC ty) (hty : TyL ok w ty.kids (.slice ta tn tc)) {l : List Tm} {b off cp : Nat} (IH : ∀ t, t ∈ l → ClC t) (hn : l.length ≤ 1000000) (K M : Nat → Value) (hcell : ∀ i (h : i < l.length), w.cell? ⟨b, off + i * 7, none⟩ = some (.int .i64 l[i].op) ∧ w.cell? ⟨b, off + i * 7 + 1, none⟩ = some (.string l[i].name) ∧ w.cell? ⟨b, off + i * 7 + 2, none⟩ = some (.int .i64 l[i].n) ∧ w.cell? ⟨b, off + i * 7 + 3, none⟩ = some (.int .i64 l[i].ty.kind) ∧ w.cell? ⟨b, off + i * 7 + 4, none⟩ = some (.string l[i].ty.name) ∧ w.cell? ⟨b, off + i * 7 + 5, none⟩ = some (K i) ∧ w.cell? ⟨b, off + i * 7 + 6, none⟩ = some (M i)) (hk : ∀ i (h : i < l.length), TyL ok w l[i].ty.kids (K i)) (hm : ∀ i (h : i < l.length), TmL ok w l[i].kids (M i)) : Calls Tryz.prog 58 #[.agg #[.int .i64 op, .string nm, .int .i64 N, .int .i64 ty.kind, .string ty.name, .slice ta tn tc, .slice (some ⟨b, off, none⟩) l.length cp]] w (ClP (.mk op nm N ty l) w) := by
  have HCELL := Lib.hid hcell
  have HK := Lib.hid hk
  have HM := Lib.hid hm
  have HIH := Lib.hid IH
  clear hcell hk hm IH
  have hone : Hid (∀ j, j < l.length * 7 → ∃ v, w.cell? ⟨b, off + j, none⟩ = some v ∧ v.oneCell' = true) := Lib.hid (by
    intro j hj
    obtain ⟨i, r, hi, hr, rfl⟩ := seven hj
    have c := HCELL.out i hi
    rcases (show r = 0 ∨ r = 1 ∨ r = 2 ∨ r = 3 ∨ r = 4 ∨ r = 5 ∨ r = 6 by omega) with rfl | rfl | rfl | rfl | rfl | rfl | rfl
    · exact ⟨_, c.1, rfl⟩
    · exact ⟨_, by rw [show off + (i * 7 + 1) = off + i * 7 + 1 by omega]; exact c.2.1, rfl⟩
    · exact ⟨_, by rw [show off + (i * 7 + 2) = off + i * 7 + 2 by omega]; exact c.2.2.1, rfl⟩
    · exact ⟨_, by rw [show off + (i * 7 + 3) = off + i * 7 + 3 by omega]; exact c.2.2.2.1, rfl⟩
    · exact ⟨_, by rw [show off + (i * 7 + 4) = off + i * 7 + 4 by omega]; exact c.2.2.2.2.1, rfl⟩
    · obtain ⟨a, n, c', hh⟩ := (HK.out i hi).slice
      exact ⟨_, by rw [show off + (i * 7 + 5) = off + i * 7 + 5 by omega]; exact c.2.2.2.2.2.1, by rw [hh]; rfl⟩
    · obtain ⟨a, n, c', hh⟩ := (HM.out i hi).slice
      exact ⟨_, by rw [show off + (i * 7 + 6) = off + i * 7 + 6 by omega]; exact c.2.2.2.2.2.2, by rw [hh]; rfl⟩)
  have bA : Blk ((w.alloc (.cells #[.int .i64 op, .string nm, .int .i64 N, .int .i64 ty.kind, .string ty.name, .slice ta tn tc, .slice (some ⟨b, off, none⟩) l.length cp] 28)).alloc (.cells #[.int .i64 0, .string ⟨#[]⟩, .int .i64 0, .int .i64 0, .string ⟨#[]⟩, .slice none 0 0, .slice none 0 0] 28)) w.heap.size 28 [.int .i64 op, .string nm, .int .i64 N, .int .i64 ty.kind, .string ty.name, .slice ta tn tc, .slice (some ⟨b, off, none⟩) l.length cp] := (Blk.new w 28 _).alloc _
  have bR : Blk ((w.alloc (.cells #[.int .i64 op, .string nm, .int .i64 N, .int .i64 ty.kind, .string ty.name, .slice ta tn tc, .slice (some ⟨b, off, none⟩) l.length cp] 28)).alloc (.cells #[.int .i64 0, .string ⟨#[]⟩, .int .i64 0, .int .i64 0, .string ⟨#[]⟩, .slice none 0 0, .slice none 0 0] 28)) (w.heap.size + 1) 28 z27 := Blk.new' 28 _ (by simp)
  have K0 : Kept (fun _ => False) w ((w.alloc (.cells #[.int .i64 op, .string nm, .int .i64 N, .int .i64 ty.kind, .string ty.name, .slice ta tn tc, .slice (some ⟨b, off, none⟩) l.length cp] 28)).alloc (.cells #[.int .i64 0, .string ⟨#[]⟩, .int .i64 0, .int .i64 0, .string ⟨#[]⟩, .slice none 0 0, .slice none 0 0] 28)) := ((Kept.refl _ _).alloc _).alloc _
  have Z0 : Hid (((w.alloc (.cells #[.int .i64 op, .string nm, .int .i64 N, .int .i64 ty.kind, .string ty.name, .slice ta tn tc, .slice (some ⟨b, off, none⟩) l.length cp] 28)).alloc (.cells #[.int .i64 0, .string ⟨#[]⟩, .int .i64 0, .int .i64 0, .string ⟨#[]⟩, .slice none 0 0, .slice none 0 0] 28)).heap.size = w.heap.size + 2) := Lib.hid (by simp)
  have HT0 := Lib.hid (hcp ((w.alloc (.cells #[.int .i64 op, .string nm, .int .i64 N, .int .i64 ty.kind, .string ty.name, .slice ta tn tc, .slice (some ⟨b, off, none⟩) l.length cp] 28)).alloc (.cells #[.int .i64 0, .string ⟨#[]⟩, .int .i64 0, .int .i64 0, .string ⟨#[]⟩, .slice none 0 0, .slice none 0 0] 28)) ok (.slice ta tn tc) ((hty.frame (Same.alloc w (.cells #[.int .i64 op, .string nm, .int .i64 N, .int .i64 ty.kind, .string ty.name, .slice ta tn tc, .slice (some ⟨b, off, none⟩) l.length cp] 28))).frame (Same.alloc _ _)))
  clear hcp
  go_enter Tryz.func58, Tryz.ntmps58
  go_wp2_with fail
  refine HT0.out.mono ?_
  rintro e w1 ⟨tv, rfl, hT1, k1⟩
  obtain ⟨va, vn, vc, rfl⟩ := hT1.slice
  unfold tyVal
  rw [Z0.out] at hT1
  have bA1 := bA.kept k1 (fun h => h)
  have bR1 := bR.kept k1 (fun h => h)
  have K1 := K0.trans k1
  have a0 : w1.cell? ⟨w.heap.size, 0, none⟩ = some (.int .i64 op) := bA1.cell 0
  have a1 : w1.cell? ⟨w.heap.size, 1, none⟩ = some (.string nm) := bA1.cell 1
  have a2 : w1.cell? ⟨w.heap.size, 2, none⟩ = some (.int .i64 N) := bA1.cell 2
  have a3 : w1.cell? ⟨w.heap.size, 3, none⟩ = some (.int .i64 ty.kind) := bA1.cell 3
  have a4 : w1.cell? ⟨w.heap.size, 4, none⟩ = some (.string ty.name) := bA1.cell 4
  have a5 : w1.cell? ⟨w.heap.size, 5, none⟩ = some (.slice ta tn tc) := bA1.cell 5
  have a6 : w1.cell? ⟨w.heap.size, 6, none⟩ = some (.slice (some ⟨b, off, none⟩) l.length cp) := bA1.cell 6
  have fa3 := bA1.frozen 3
  have fa4 := bA1.frozen 4
  have fa5 := bA1.frozen 5
  have fa6 := bA1.frozen 6
  go_wp2_with fail
  have K1s := (((K1.setCell (p := ⟨w.heap.size, 3, none⟩) (Or.inr (by show w.heap.size ≤ w.heap.size; omega)) (.int .i64 ty.kind)).setCell (p := ⟨w.heap.size, 4, none⟩) (Or.inr (by show w.heap.size ≤ w.heap.size; omega)) (.string ty.name)).setCell (p := ⟨w.heap.size, 5, none⟩) (Or.inr (by show w.heap.size ≤ w.heap.size; omega)) (.slice va vn vc))
  refine (cloneTm_some b off l.length cp hn (fun j hj => ?_)).mono ?_
  · obtain ⟨v, hv, h1⟩ := hone.out j hj
    exact ⟨v, by rw [K1s.cell (p := ⟨b, off + j, none⟩) (cell_lt hv) (fun h => h)]; exact hv, h1⟩
  rintro e w2 ⟨v, rfl, ⟨g, cap, L, rfl, hcap, hg, hL, hLl, hLc⟩, k2⟩
  have hsz1 := K1.size
  have z1 := bR1.lt
  have hg1 : w1.heap.size ≤ g := by simpa [World.setCell] using hg
  have hg2 : w.heap.size + 2 ≤ g := Nat.le_trans z1 hg1
  have bA2 := (((bA1.set 3 (.int .i64 ty.kind)).set 4 (.string ty.name)).set 5 (.slice va vn vc)).kept k2 (fun h => h)
  have bR2 := (((bR1.set_other _ _ (by show w.heap.size + 1 ≠ w.heap.size; omega)).set_other _ _ (by show w.heap.size + 1 ≠ w.heap.size; omega)).set_other _ _ (by show w.heap.size + 1 ≠ w.heap.size; omega)).kept k2 (fun h => h)
  have K2 := K1s.trans k2
  have HT1 : Hid (TyL (fun q => w.heap.size + 2 ≤ q ∧ q ≠ g) w2 ty.kids (.slice va vn vc)) := Lib.hid ((hT1.mono (ok' := fun q => w.heap.size + 2 ≤ q ∧ q ≠ g) (fun q hq h => ⟨h, by omega⟩)).frame (Same.trans (Same.of_kept (S := (· = w.heap.size)) ((((Kept.refl (fun x => x = w.heap.size) w1).setCell (p := ⟨w.heap.size, 3, none⟩) (Or.inl rfl) (.int .i64 ty.kind)).setCell (p := ⟨w.heap.size, 4, none⟩) (Or.inl rfl) (.string ty.name)).setCell (p := ⟨w.heap.size, 5, none⟩) (Or.inl rfl) (.slice va vn vc)) (fun q h e => by omega)) (Same.of_kept k2 (fun _ _ e => e)) (by simp [World.setCell])))
  have HLC := Lib.hid hLc
  have HLL := Lib.hid hLl
  have HG := Lib.hid hg2
  have HK1s := Lib.hid K1s
  clear a0 a1 a2 a3 a4 a5 a6 fa3 fa4 fa5 fa6 hLc hLl hg2 hg hg1 K1s hT1
  have a6 : w2.cell? ⟨w.heap.size, 6, none⟩ = some (.slice (some ⟨b, off, none⟩) l.length cp) := bA2.cell 6
  have fa6 := bA2.frozen 6
  go_wp2_with (go_at_call 53; refine (clipTm_some _ g l.length cap hcap hn).mono ?_; rintro e w' ⟨rfl, rfl⟩)
  have c1 : CJ w l [.int .i64 op, .string nm, .int .i64 N, .int .i64 ty.kind, .string ty.name, .slice va vn vc] l.length b off g 0 (w2.setCell ⟨w.heap.size, 6, none⟩ (.slice (some ⟨g, 0, none⟩) l.length l.length)) := by
    have hg := HG.out
    refine ⟨K2.setCell (p := ⟨w.heap.size, 6, none⟩) (Or.inr (Nat.le_refl _)) _, bA2.set 6 _, bR2.set_other _ _ (by show w.heap.size + 1 ≠ w.heap.size; omega), L, K, M, hL.set_other _ _ (by show g ≠ w.heap.size; omega), HLL.out, fun j _ hj => ?_, fun i hi => absurd hi (Nat.not_lt_zero _)⟩
    rw [HLC.out j hj]
    obtain ⟨v, hv, _⟩ := hone.out j hj
    rw [HK1s.out.cell (p := ⟨b, off + j, none⟩) (cell_lt hv) (fun h => h)]
  have HT2 : Hid (TyL (fun q => w.heap.size + 2 ≤ q ∧ q ≠ g) (w2.setCell ⟨w.heap.size, 6, none⟩ (.slice (some ⟨g, 0, none⟩) l.length l.length)) ty.kids (.slice va vn vc)) := Lib.hid (HT1.out.frame (Same.of_kept (S := (· = w.heap.size)) ((Kept.refl (fun x => x = w.heap.size) w2).setCell (p := ⟨w.heap.size, 6, none⟩) (Or.inl rfl) _) (fun q h e => by omega)))
  have C1 := Lib.hid c1
  clear c1 a6 fa6 bA1 bR1 bA bR hL bA2 bR2 K1 K2
  go_loopw [17] (fun i wr => ∃ k : Nat, k ≤ l.length ∧ i = .int .i64 k ∧ Hid (CJ w l [.int .i64 op, .string nm, .int .i64 N, .int .i64 ty.kind, .string ty.name, .slice va vn vc] l.length b off g k wr) ∧ Hid (TyL (fun q => w.heap.size + 2 ≤ q ∧ q ≠ g) wr ty.kids (.slice va vn vc))) (fun i _ => l.length - (intOf i).toNat)
  case atStart => exact ⟨0, Nat.zero_le _, rfl, C1, HT2⟩
  case round =>
    obtain ⟨k, hkl, rfl, HCI, HTk⟩ := hrel
    have hg := HG.out
    have qA := HCI.out.a
    have qR := HCI.out.r
    have kp := HCI.out.kp
    obtain ⟨L, K', M', bG, hLn, hLo, hLd⟩ := HCI.out.row
    have HLo := Lib.hid hLo
    have HLd := Lib.hid hLd
    have HLn := Lib.hid hLn
    have BG := Lib.hid bG
    clear hLo hLd hLn bG
    by_cases hlt : k < l.length
    · obtain ⟨xa, xn, xc, hKk⟩ := (HK.out k hlt).slice
      obtain ⟨ya, yn, yc, hMk⟩ := (HM.out k hlt).slice
      have c0 : wr.cell? ⟨g, k * 7, none⟩ = some (.int .i64 l[k].op) := by
        rw [BG.out.cell, HLo.out (k * 7) (by omega) (by omega)]; exact (HCELL.out k hlt).1
      have c1 : wr.cell? ⟨g, k * 7 + 1, none⟩ = some (.string l[k].name) := by
        rw [BG.out.cell, HLo.out (k * 7 + 1) (by omega) (by omega)]; exact (HCELL.out k hlt).2.1
      have c2 : wr.cell? ⟨g, k * 7 + 2, none⟩ = some (.int .i64 l[k].n) := by
        rw [BG.out.cell, HLo.out (k * 7 + 2) (by omega) (by omega)]; exact (HCELL.out k hlt).2.2.1
      have c3 : wr.cell? ⟨g, k * 7 + 3, none⟩ = some (.int .i64 l[k].ty.kind) := by
        rw [BG.out.cell, HLo.out (k * 7 + 3) (by omega) (by omega)]; exact (HCELL.out k hlt).2.2.2.1
      have c4 : wr.cell? ⟨g, k * 7 + 4, none⟩ = some (.string l[k].ty.name) := by
        rw [BG.out.cell, HLo.out (k * 7 + 4) (by omega) (by omega)]; exact (HCELL.out k hlt).2.2.2.2.1
      have c5 : wr.cell? ⟨g, k * 7 + 5, none⟩ = some (.slice xa xn xc) := by
        rw [BG.out.cell, HLo.out (k * 7 + 5) (by omega) (by omega), ← hKk]; exact (HCELL.out k hlt).2.2.2.2.2.1
      have c6 : wr.cell? ⟨g, k * 7 + 6, none⟩ = some (.slice ya yn yc) := by
        rw [BG.out.cell, HLo.out (k * 7 + 6) (by omega) (by omega), ← hMk]; exact (HCELL.out k hlt).2.2.2.2.2.2
      have i1 : (k : Int) < (l.length : Int) := by omega
      have a6 : wr.cell? ⟨w.heap.size, 6, none⟩ = some (.slice (some ⟨g, 0, none⟩) l.length l.length) := qA.cell 6
      have lA := qA.lt
      have lG := BG.out.lt
      have hcon := Lib.hid (HIH.out _ (List.getElem_mem hlt))
      have hty' : Hid (TyL ok wr l[k].ty.kids (.slice xa xn xc)) := Lib.hid (by rw [← hKk]; exact (HK.out k hlt).frame (Same.of_kept kp (fun _ _ e => e)))
      have htm' : Hid (TmL ok wr l[k].kids (.slice ya yn yc)) := Lib.hid (by rw [← hMk]; exact (HM.out k hlt).frame (Same.of_kept kp (fun _ _ e => e)))
      clear hKk hMk
      go_wp2_with fail
      have bX : Blk (wr.alloc (.cells #[.int .i64 l[k].op, .string l[k].name, .int .i64 l[k].n, .int .i64 l[k].ty.kind, .string l[k].ty.name, .slice xa xn xc, .slice ya yn yc] 28)) wr.heap.size 28 [.int .i64 l[k].op, .string l[k].name, .int .i64 l[k].n, .int .i64 l[k].ty.kind, .string l[k].ty.name, .slice xa xn xc, .slice ya yn yc] := Blk.new wr 28 _
      have hAX : w.heap.size ≠ wr.heap.size := by omega
      have hGX : g ≠ wr.heap.size := by omega
      have hAG : g ≠ w.heap.size := by omega
      refine wp_gen (F := fun W3 => Kept (fun _ => False) wr W3 ∧ Blk W3 wr.heap.size 28 [.int .i64 l[k].op, .string l[k].name, .int .i64 l[k].n, .int .i64 l[k].ty.kind, .string l[k].ty.name, .slice xa xn xc, .slice ya yn yc] ∧ wr.heap.size < W3.heap.size) ⟨(Kept.refl _ _).alloc _, bX, bX.lt⟩ ?_
      rintro W3 ⟨k3, b3, z3⟩
      have a3 : W3.cell? ⟨w.heap.size, 6, none⟩ = some (.slice (some ⟨g, 0, none⟩) l.length l.length) := (qA.kept k3 (fun h => h)).cell 6
      have x0 : W3.cell? ⟨wr.heap.size, 0, none⟩ = some (.int .i64 l[k].op) := b3.cell 0
      have x1 : W3.cell? ⟨wr.heap.size, 1, none⟩ = some (.string l[k].name) := b3.cell 1
      have x2 : W3.cell? ⟨wr.heap.size, 2, none⟩ = some (.int .i64 l[k].n) := b3.cell 2
      have x3 : W3.cell? ⟨wr.heap.size, 3, none⟩ = some (.int .i64 l[k].ty.kind) := b3.cell 3
      have x4 : W3.cell? ⟨wr.heap.size, 4, none⟩ = some (.string l[k].ty.name) := b3.cell 4
      have x5 : W3.cell? ⟨wr.heap.size, 5, none⟩ = some (.slice xa xn xc) := b3.cell 5
      have x6 : W3.cell? ⟨wr.heap.size, 6, none⟩ = some (.slice ya yn yc) := b3.cell 6
      have HC3 : Hid (Calls Tryz.prog 58 #[.agg #[.int .i64 l[k].op, .string l[k].name, .int .i64 l[k].n, .int .i64 l[k].ty.kind, .string l[k].ty.name, .slice xa xn xc, .slice ya yn yc]] W3.drew fun e w' => ∃ v u, e = .returned (tmVal l[k] v u) ∧ TyL (fun q => W3.heap.size ≤ q) w' l[k].ty.kids v ∧ TmL (fun q => W3.heap.size ≤ q) w' l[k].kids u ∧ Kept (fun _ => False) W3 w') := Lib.hid ((hcon.out W3.drew ok (.slice xa xn xc) (.slice ya yn yc) ((hty'.out.frame (Same.of_kept k3 (fun _ _ e => e))).frame (Same.drew _)) ((htm'.out.frame (Same.of_kept k3 (fun _ _ e => e))).frame (Same.drew _))).mono fun e w' ⟨v, u, h1, h2, h3, h4⟩ => ⟨v, u, h1, h2, h3, ((Kept.refl _ _).drew).trans h4⟩)
      have B3 := Lib.hid b3
      have G3 := Lib.hid (BG.out.kept k3 (fun h => h))
      clear b3 bX c0 c1 c2 c3 c4 c5 c6 a6
      go_region_held3 (fun w' => w'.cell? ⟨w.heap.size, 6, none⟩ = some (.slice (some ⟨g, 0, none⟩) l.length l.length) ∧ w'.cell? ⟨wr.heap.size, 0, none⟩ = some (.int .i64 l[k].op) ∧ w'.cell? ⟨wr.heap.size, 1, none⟩ = some (.string l[k].name) ∧ w'.cell? ⟨wr.heap.size, 2, none⟩ = some (.int .i64 l[k].n) ∧ w'.cell? ⟨wr.heap.size, 3, none⟩ = some (.int .i64 l[k].ty.kind) ∧ w'.cell? ⟨wr.heap.size, 4, none⟩ = some (.string l[k].ty.name) ∧ w'.cell? ⟨wr.heap.size, 5, none⟩ = some (.slice xa xn xc) ∧ w'.cell? ⟨wr.heap.size, 6, none⟩ = some (.slice ya yn yc)) (go_keep)
        (first | (go_at_call 58; refine HC3.out.mono ?_; rintro e w4 ⟨v, u, rfl, hv, hu, k4⟩; obtain ⟨va4, vn4, vc4, rfl⟩ := hv.slice; obtain ⟨ua4, un4, uc4, rfl⟩ := hu.slice; unfold tmVal; have G4 := G3.out.kept k4 (fun h => h); have y0 : w4.cell? ⟨w.heap.size, 6, none⟩ = some (.slice (some ⟨g, 0, none⟩) l.length l.length) := (by rw [k4.cell (p := ⟨w.heap.size, 6, none⟩) (by show w.heap.size < _; omega) (fun h => h)]; exact a3); have y1 : w4.cell? ⟨wr.heap.size, 0, none⟩ = some (.int .i64 l[k].op) := (B3.out.kept k4 (fun h => h)).cell 0; have y2 : w4.cell? ⟨wr.heap.size, 1, none⟩ = some (.string l[k].name) := (B3.out.kept k4 (fun h => h)).cell 1; have y3 : w4.cell? ⟨wr.heap.size, 2, none⟩ = some (.int .i64 l[k].n) := (B3.out.kept k4 (fun h => h)).cell 2; have y4 : w4.cell? ⟨wr.heap.size, 3, none⟩ = some (.int .i64 l[k].ty.kind) := (B3.out.kept k4 (fun h => h)).cell 3; have y5 : w4.cell? ⟨wr.heap.size, 4, none⟩ = some (.string l[k].ty.name) := (B3.out.kept k4 (fun h => h)).cell 4; have y6 : w4.cell? ⟨wr.heap.size, 5, none⟩ = some (.slice xa xn xc) := (B3.out.kept k4 (fun h => h)).cell 5; have y7 : w4.cell? ⟨wr.heap.size, 6, none⟩ = some (.slice ya yn yc) := (B3.out.kept k4 (fun h => h)).cell 6; have t0 : w4.cell? ⟨g, k * 7, none⟩ = some (L[k * 7]'(by have := HLn.out; omega)) := (by rw [G4.cell]; exact List.getElem?_eq_getElem _); have t1 : w4.cell? ⟨g, k * 7 + 1, none⟩ = some (L[k * 7 + 1]'(by have := HLn.out; omega)) := (by rw [G4.cell]; exact List.getElem?_eq_getElem _); have t2 : w4.cell? ⟨g, k * 7 + 2, none⟩ = some (L[k * 7 + 2]'(by have := HLn.out; omega)) := (by rw [G4.cell]; exact List.getElem?_eq_getElem _); have t3 : w4.cell? ⟨g, k * 7 + 3, none⟩ = some (L[k * 7 + 3]'(by have := HLn.out; omega)) := (by rw [G4.cell]; exact List.getElem?_eq_getElem _); have t4 : w4.cell? ⟨g, k * 7 + 4, none⟩ = some (L[k * 7 + 4]'(by have := HLn.out; omega)) := (by rw [G4.cell]; exact List.getElem?_eq_getElem _); have t5 : w4.cell? ⟨g, k * 7 + 5, none⟩ = some (L[k * 7 + 5]'(by have := HLn.out; omega)) := (by rw [G4.cell]; exact List.getElem?_eq_getElem _); have t6 : w4.cell? ⟨g, k * 7 + 6, none⟩ = some (L[k * 7 + 6]'(by have := HLn.out; omega)) := (by rw [G4.cell]; exact List.getElem?_eq_getElem _); have f0 := G4.frozen (k * 7); have f1 := G4.frozen (k * 7 + 1); have f2 := G4.frozen (k * 7 + 2); have f3 := G4.frozen (k * 7 + 3); have f4 := G4.frozen (k * 7 + 4); have f5 := G4.frozen (k * 7 + 5); have f6 := G4.frozen (k * 7 + 6)))
      have HST := Lib.hid (HCI.out.step hg hlt (k3.trans k4) (hv.mono (fun q _ h => by omega)) (hu.mono (fun q _ h => by omega)))
      have HTS := Lib.hid ((HTk.out.frame (Same.of_kept (k3.trans k4) (fun _ _ e => e))).frame (set7 (g := g) (i0 := k * 7) (i1 := k * 7 + 1) (i2 := k * 7 + 2) (i3 := k * 7 + 3) (i4 := k * 7 + 4) (i5 := k * 7 + 5) (i6 := k * 7 + 6) (x0 := .int .i64 l[k].op) (x1 := .string l[k].name) (x2 := .int .i64 l[k].n) (x3 := .int .i64 l[k].ty.kind) (x4 := .string l[k].ty.name) (x5 := .slice va4 vn4 vc4) (x6 := .slice ua4 un4 uc4) (fun q h => h.2)))
      go_wp2_with fail
      go_roundw
      case rel => exact ⟨k + 1, by omega, by go_num, HST, HTS⟩
      case measure => simp [intOf]; omega
    · have hkk : k = l.length := by omega
      subst hkk
      have a0 : wr.cell? ⟨w.heap.size, 0, none⟩ = some (.int .i64 op) := qA.cell 0
      have a1 : wr.cell? ⟨w.heap.size, 1, none⟩ = some (.string nm) := qA.cell 1
      have a2 : wr.cell? ⟨w.heap.size, 2, none⟩ = some (.int .i64 N) := qA.cell 2
      have a3 : wr.cell? ⟨w.heap.size, 3, none⟩ = some (.int .i64 ty.kind) := qA.cell 3
      have a4 : wr.cell? ⟨w.heap.size, 4, none⟩ = some (.string ty.name) := qA.cell 4
      have a5 : wr.cell? ⟨w.heap.size, 5, none⟩ = some (.slice va vn vc) := qA.cell 5
      have a6 : wr.cell? ⟨w.heap.size, 6, none⟩ = some (.slice (some ⟨g, 0, none⟩) l.length l.length) := qA.cell 6
      have r0 : wr.cell? ⟨w.heap.size + 1, 0, none⟩ = some (.int .i64 0) := qR.cell 0
      have f0 := qR.frozen 0
      have r1 : wr.cell? ⟨w.heap.size + 1, 1, none⟩ = some (.string ⟨#[]⟩) := qR.cell 1
      have f1 := qR.frozen 1
      have r2 : wr.cell? ⟨w.heap.size + 1, 2, none⟩ = some (.int .i64 0) := qR.cell 2
      have f2 := qR.frozen 2
      have r3 : wr.cell? ⟨w.heap.size + 1, 3, none⟩ = some (.int .i64 0) := qR.cell 3
      have f3 := qR.frozen 3
      have r4 : wr.cell? ⟨w.heap.size + 1, 4, none⟩ = some (.string ⟨#[]⟩) := qR.cell 4
      have f4 := qR.frozen 4
      have r5 : wr.cell? ⟨w.heap.size + 1, 5, none⟩ = some (.slice none 0 0) := qR.cell 5
      have f5 := qR.frozen 5
      have r6 : wr.cell? ⟨w.heap.size + 1, 6, none⟩ = some (.slice none 0 0) := qR.cell 6
      have f6 := qR.frozen 6
      have QR := Lib.hid qR
      have KP := Lib.hid kp
      clear qR kp qA
      go_wp2_with fail
      have bF := r7 (x0 := .int .i64 op) (x1 := .string nm) (x2 := .int .i64 N) (x3 := .int .i64 ty.kind) (x4 := .string ty.name) (x5 := .slice va vn vc) (x6 := .slice (some ⟨g, 0, none⟩) l.length l.length) QR.out rfl
      refine bodyPost_ret (results_one Tryz.results58 rfl (load_tm (t := .mk op nm N ty l) bF)) rfl ⟨_, _, rfl, ?_, ?_, ?_⟩
      · exact (HTk.out.frame (set7 (g := w.heap.size + 1) (fun q h => by omega))).mono (fun q _ h => by omega)
      · by_cases hne : l = []
        · subst hne; exact .nil (Or.inr ⟨_, _, rfl⟩)
        · obtain ⟨L, K', M', bG, hLn, hLo, hLd⟩ := HCI.out.row
          refine TmL.mk K' M' hne (by omega) (Nat.le_refl _) (fun i hi => ?_) (fun i hi => ?_) (fun i hi => ?_)
          · obtain ⟨e0, e1, e2, e3, e4, e5, e6, e7, e8⟩ := hLd i hi hi
            rw [Nat.zero_add]
            have bG' := (((((((bG.set_other ⟨w.heap.size + 1, 0, none⟩ (.int .i64 op) (by show g ≠ w.heap.size + 1; omega)).set_other ⟨w.heap.size + 1, 1, none⟩ (.string nm) (by show g ≠ w.heap.size + 1; omega)).set_other ⟨w.heap.size + 1, 2, none⟩ (.int .i64 N) (by show g ≠ w.heap.size + 1; omega)).set_other ⟨w.heap.size + 1, 3, none⟩ (.int .i64 ty.kind) (by show g ≠ w.heap.size + 1; omega)).set_other ⟨w.heap.size + 1, 4, none⟩ (.string ty.name) (by show g ≠ w.heap.size + 1; omega)).set_other ⟨w.heap.size + 1, 5, none⟩ (.slice va vn vc) (by show g ≠ w.heap.size + 1; omega)).set_other ⟨w.heap.size + 1, 6, none⟩ (.slice (some ⟨g, 0, none⟩) l.length l.length) (by show g ≠ w.heap.size + 1; omega))
            exact ⟨by rw [bG'.cell]; exact e0, by rw [bG'.cell]; exact e1, by rw [bG'.cell]; exact e2, by rw [bG'.cell]; exact e3, by rw [bG'.cell]; exact e4, by rw [bG'.cell]; exact e5, by rw [bG'.cell]; exact e6⟩
          · exact ((hLd i hi hi).2.2.2.2.2.2.2.1.frame (set7 (g := w.heap.size + 1) (fun q h => by omega))).mono (fun q _ h => by omega)
          · exact ((hLd i hi hi).2.2.2.2.2.2.2.2.frame (set7 (g := w.heap.size + 1) (fun q h => by omega))).mono (fun q _ h => by omega)
      · exact (((((((KP.out.setCell (p := ⟨w.heap.size + 1, 0, none⟩) (Or.inr (by show w.heap.size ≤ w.heap.size + 1; omega)) _).setCell (p := ⟨w.heap.size + 1, 1, none⟩) (Or.inr (by show w.heap.size ≤ w.heap.size + 1; omega)) _).setCell (p := ⟨w.heap.size + 1, 2, none⟩) (Or.inr (by show w.heap.size ≤ w.heap.size + 1; omega)) _).setCell (p := ⟨w.heap.size + 1, 3, none⟩) (Or.inr (by show w.heap.size ≤ w.heap.size + 1; omega)) _).setCell (p := ⟨w.heap.size + 1, 4, none⟩) (Or.inr (by show w.heap.size ≤ w.heap.size + 1; omega)) _).setCell (p := ⟨w.heap.size + 1, 5, none⟩) (Or.inr (by show w.heap.size ≤ w.heap.size + 1; omega)) _).setCell (p := ⟨w.heap.size + 1, 6, none⟩) (Or.inr (by show w.heap.size ≤ w.heap.size + 1; omega)) _)
theorem clone_any {t : Tm} (hb : BdTm t) : ClC t := by
  induction hb with
  | mk hn ht hl ih =>
    intro w ok tk kk h h'
    obtain ⟨ta, tn, tc, rfl⟩ := h.slice
    cases h' with
    | nil h' =>
      rcases h' with rfl | ⟨ad, c, rfl⟩
      · exact clone_nil (copyTy_any ht) h
      · exact clone_zero (copyTy_any ht) h ad c
    | mk K M hne hb hc hcell hk hm => exact clone_some (copyTy_any ht) h ih hn K M hcell hk hm
theorem SmTy.mono {N N' : Nat} (h : N ≤ N') {t : Ty} (ht : SmTy N t) : SmTy N' t := by
  induction ht with
  | mk hn hl ih => exact .mk (Nat.le_trans hn h) ih
theorem SmTm.mono {N N' : Nat} (h : N ≤ N') {t : Tm} (ht : SmTm N t) : SmTm N' t := by
  induction ht with
  | mk hn ht hl ih => exact .mk (Nat.le_trans hn h) (ht.mono h) ih
theorem tf_bd (most deep : Nat) (hmo : most ≤ 1000000) : ∀ (t : Ty) (d : Nat) (wi : Bool) (c : Nat), c ≤ most → (tfS most deep t d wi c).1 = true → BdTy t := by
  intro t
  induction t using Ty.rec (motive_2 := fun l => ∀ (d c : Nat), c ≤ most → (tfsS most deep l d c).1 = true → c + l.length ≤ (tfsS most deep l d c).2 ∧ (tfsS most deep l d c).2 ≤ most ∧ ∀ t, t ∈ l → BdTy t) with
  | mk k nm l ih =>
    intro d wi c hc h
    rw [tf_eq] at h
    split at h
    · rename_i hb
      have : c + 1 ≤ most := by simp at hb; exact hb.1.1
      have q := ih _ _ this h
      exact .mk (by omega) q.2.2
    · cases h
  | nil => rename_i d c hc h; exact ⟨Nat.le_refl _, hc, fun t h => by cases h⟩
  | cons t l iht ihl =>
    rename_i d c hc h
    rw [tfsS] at h ⊢
    cases hr : tfS most deep t d true c with
    | mk b c' =>
      cases b
      · rw [hr] at h; cases h
      · rw [hr] at h
        have a := tf_le most deep t d true c hc (by rw [hr])
        rw [hr] at a
        have q := ihl d c' a.2 h
        have p := iht d true c hc (by rw [hr])
        simp only at a q ⊢
        refine ⟨by rw [List.length_cons]; omega, q.2.1, fun t' h' => ?_⟩
        rcases List.mem_cons.1 h' with rfl | h'
        · exact p
        · exact q.2.2 t' h'
theorem validTy_bd {t : Ty} (h : validTyB t = true) : BdTy t := tf_bd 16 6 (by decide) t 1 false 0 (by decide) h
theorem zeroTy_bd {t : Ty} (h : zeroTyB t = true) : BdTy t := by
  unfold zeroTyB at h
  obtain ⟨k, nm, l⟩ := t
  cases l with
  | nil => exact .mk (Nat.zero_le _) (fun t h => by cases h)
  | cons a l => simp [Ty.kids] at h
theorem formed_bd {op : Int} {nm : ByteArray} {N : Int} {ty : Ty} {n : Nat} (h : formedB op nm N ty n = true) : BdTy ty := by
  unfold formedB at h
  simp only [Bool.and_eq_true] at h
  have := h.2.2
  unfold tyOk at this
  split at this
  · simp only [Bool.and_eq_true] at this; exact validTy_bd this.2
  · exact zeroTy_bd this
theorem f_bd (most deep : Nat) (hmo : most ≤ 1000000) : ∀ (t : Tm) (d : Nat) (c : Nat), c ≤ most → (fS most deep t d c).1 = true → BdTm t := by
  intro t
  induction t using Tm.rec (motive_2 := fun l => ∀ (d c : Nat), c ≤ most → (fsS most deep l d c).1 = true → c + l.length ≤ (fsS most deep l d c).2 ∧ (fsS most deep l d c).2 ≤ most ∧ ∀ t, t ∈ l → BdTm t) with
  | mk op nm N ty l ih =>
    intro d c hc h
    rw [f_eq] at h
    split at h
    · rename_i hb
      have hb' := hb
      simp only [Bool.and_eq_true, decide_eq_true_eq] at hb'
      have q := ih _ _ hb'.1.1 h
      exact .mk (by omega) (formed_bd hb'.2) q.2.2
    · cases h
  | nil => rename_i d c hc h; exact ⟨Nat.le_refl _, hc, fun t h => by cases h⟩
  | cons t l iht ihl =>
    rename_i d c hc h
    rw [fsS] at h ⊢
    cases hr : fS most deep t d c with
    | mk b c' =>
      cases b
      · rw [hr] at h; cases h
      · rw [hr] at h
        have a := f_le most deep t d c hc (by rw [hr])
        rw [hr] at a
        have q := ihl d c' a.2 h
        have p := iht d c hc (by rw [hr])
        simp only at a q ⊢
        refine ⟨by rw [List.length_cons]; omega, q.2.1, fun t' h' => ?_⟩
        rcases List.mem_cons.1 h' with rfl | h'
        · exact p
        · exact q.2.2 t' h'
theorem valid_bd {t : Tm} (h : validB t = true) : BdTm t := f_bd 2000 64 (by decide) t 1 0 (by decide) h
set_option maxRecDepth 100000 in
set_option maxHeartbeats 4000000 in
theorem read_long {s : ByteArray} {cl : Value} {w : World} (hs : 65536 < s.size) (hs2 : s.size ≤ 9223372036854775807) :
    Calls Tryz.prog 92 #[.string s, cl] w fun e w' => e = .returned (.tuple #[.int .i64 0, .int .i64 3]) ∧ Kept (fun _ => False) w w' := by
  have i1 : (65536 : Int) < s.size := by omega
  go_enter_defers Tryz.func92, Tryz.ntmps92
  go_wp2_with fail
  refine ⟨_, results_cc Tryz.results92 rfl rfl (load_i (x := 0) ?_) (load_e (x := 3) ?_), rfl, ?_⟩
  · exact (Blk.new w 3 _).alloc _
  · exact Blk.new' 29 _ (by simp)
  · exact ((Kept.refl _ _).alloc _).alloc _
def tm0 : Tm := .mk 0 nil0 0 ty0 []
def parseQ (f : Nat) (s : ByteArray) : Except ER (Tm × PS) := wholeF s (fun σ => termS f s 1 σ)
def parseT (f : Nat) (s : ByteArray) : Tm := if 65536 < s.size then tm0 else match parseQ f s with | .error _ => tm0 | .ok q => if validB q.1 then q.1 else tm0
def parseA (f : Nat) (s : ByteArray) : Int := if 65536 < s.size then 0 else rdAt (parseQ f s)
def parseE (f : Nat) (s : ByteArray) : Int := if 65536 < s.size then 3 else match parseQ f s with | .error r => if r.1 then 4 else 2 | .ok q => if validB q.1 then 0 else 5
def ParseP (f : Nat) (s : ByteArray) (w : World) (e : Ending) (w' : World) : Prop := ∃ tv, e = .returned (.tuple #[tv, .int .i64 (parseA f s), .int .i64 (parseE f s)]) ∧ VTm w.heap.size (parseT f s) w' tv ∧ Kept (fun _ => False) w w'
theorem sm_whole {f : Nat} {s : ByteArray} {t : Tm} {σ : PS} (hs : s.size ≤ 65536) (h : parseQ f s = .ok (t, σ)) : SmTm 65536 t := by
  unfold parseQ wholeF at h
  cases h1 : advS s ps0 with
  | error r => rw [h1] at h; cases h
  | ok σ1 =>
    rw [h1] at h
    simp only [bP] at h
    cases h2 : termS f s 1 σ1 with
    | error r => rw [h2] at h; cases h
    | ok q =>
      obtain ⟨t2, σ2⟩ := q
      rw [h2] at h
      simp only [bT] at h
      split at h
      · cases h
        exact (sm_term hs f _ _ _ _ (st_adv hs ⟨Nat.zero_le _, Nat.zero_le _⟩ h1) h2).1
      · cases h
set_option maxRecDepth 100000 in
set_option maxHeartbeats 8000000 in
theorem parse_any {f : Nat} {s : ByteArray} {w : World} (hf : 14 * (s.size + 2) < f) (hs2 : s.size ≤ 9223372036854775807) (hgl : Gl w) : Calls Tryz.prog 46 #[.string s] w (ParseP f s w) := by
  have hmf : ∀ (fn : Fn) (first cap : Array Value) (w : World), (Instr.makeFunc fn first cap).run Tryz.prog w = .ok (.func fn first cap) w := fun _ _ _ _ => rfl
  have hgt := hgl.lt
  have bR : Blk ((w.alloc (.cells #[.int .i64 0, .string ⟨#[]⟩, .int .i64 0, .int .i64 0, .string ⟨#[]⟩, .slice none 0 0, .slice none 0 0] 28)).alloc (.cells #[.int .i64 0, .string ⟨#[]⟩, .int .i64 0, .int .i64 0, .string ⟨#[]⟩, .slice none 0 0, .slice none 0 0] 28)) w.heap.size 28 z27 := (Blk.new w 28 _).alloc _
  have bO : Blk ((w.alloc (.cells #[.int .i64 0, .string ⟨#[]⟩, .int .i64 0, .int .i64 0, .string ⟨#[]⟩, .slice none 0 0, .slice none 0 0] 28)).alloc (.cells #[.int .i64 0, .string ⟨#[]⟩, .int .i64 0, .int .i64 0, .string ⟨#[]⟩, .slice none 0 0, .slice none 0 0] 28)) (w.heap.size + 1) 28 z27 := Blk.new' 28 _ (by simp)
  have K0 : Kept (fun _ => False) w ((w.alloc (.cells #[.int .i64 0, .string ⟨#[]⟩, .int .i64 0, .int .i64 0, .string ⟨#[]⟩, .slice none 0 0, .slice none 0 0] 28)).alloc (.cells #[.int .i64 0, .string ⟨#[]⟩, .int .i64 0, .int .i64 0, .string ⟨#[]⟩, .slice none 0 0, .slice none 0 0] 28)) := ((Kept.refl _ _).alloc _).alloc _
  have G0 : Gl ((w.alloc (.cells #[.int .i64 0, .string ⟨#[]⟩, .int .i64 0, .int .i64 0, .string ⟨#[]⟩, .slice none 0 0, .slice none 0 0] 28)).alloc (.cells #[.int .i64 0, .string ⟨#[]⟩, .int .i64 0, .int .i64 0, .string ⟨#[]⟩, .slice none 0 0, .slice none 0 0] 28)) := (hgl.alloc _).alloc _
  have Z0 : Hid (((w.alloc (.cells #[.int .i64 0, .string ⟨#[]⟩, .int .i64 0, .int .i64 0, .string ⟨#[]⟩, .slice none 0 0, .slice none 0 0] 28)).alloc (.cells #[.int .i64 0, .string ⟨#[]⟩, .int .i64 0, .int .i64 0, .string ⟨#[]⟩, .slice none 0 0, .slice none 0 0] 28)).heap.size = w.heap.size + 2) := Lib.hid (by simp)
  by_cases hs : 65536 < s.size
  · have HA : Hid (parseA f s = 0) := Lib.hid (if_pos hs)
    have HE : Hid (parseE f s = 3) := Lib.hid (if_pos hs)
    have HT : Hid (parseT f s = tm0) := Lib.hid (if_pos hs)
    go_enter Tryz.func46, Tryz.ntmps46
    go_wp2_with fail
    refine (read_long hs hs2).mono ?_
    rintro e w1 ⟨rfl, k1⟩
    have bR1 := bR.kept k1 (fun h => h)
    have K1 := K0.trans k1
    have r0 : w1.cell? ⟨w.heap.size, 0, none⟩ = some (.int .i64 0) := bR1.cell 0
    have f0 := bR1.frozen 0
    have r1 : w1.cell? ⟨w.heap.size, 1, none⟩ = some (.string ⟨#[]⟩) := bR1.cell 1
    have f1 := bR1.frozen 1
    have r2 : w1.cell? ⟨w.heap.size, 2, none⟩ = some (.int .i64 0) := bR1.cell 2
    have f2 := bR1.frozen 2
    have r3 : w1.cell? ⟨w.heap.size, 3, none⟩ = some (.int .i64 0) := bR1.cell 3
    have f3 := bR1.frozen 3
    have r4 : w1.cell? ⟨w.heap.size, 4, none⟩ = some (.string ⟨#[]⟩) := bR1.cell 4
    have f4 := bR1.frozen 4
    have r5 : w1.cell? ⟨w.heap.size, 5, none⟩ = some (.slice none 0 0) := bR1.cell 5
    have f5 := bR1.frozen 5
    have r6 : w1.cell? ⟨w.heap.size, 6, none⟩ = some (.slice none 0 0) := bR1.cell 6
    have f6 := bR1.frozen 6
    have BR := Lib.hid bR1
    have KP := Lib.hid K1
    clear bR1 K1
    go_wp2_with fail
    have bF := r7 (x0 := .int .i64 0) (x1 := .string ⟨#[]⟩) (x2 := .int .i64 0) (x3 := .int .i64 0) (x4 := .string ⟨#[]⟩) (x5 := .slice none 0 0) (x6 := .slice none 0 0) BR.out rfl
    exact bodyPost_ret (results_ctt Tryz.results46 rfl (load_tm (t := tm0) bF)) rfl ⟨_, by rw [HA.out, HE.out]; rfl, by rw [HT.out]; exact ⟨_, _, rfl, .nil0, .nil0⟩, (((((((KP.out.setCell (p := ⟨w.heap.size, 0, none⟩) (Or.inr (Nat.le_refl _)) _).setCell (p := ⟨w.heap.size, 1, none⟩) (Or.inr (Nat.le_refl _)) _).setCell (p := ⟨w.heap.size, 2, none⟩) (Or.inr (Nat.le_refl _)) _).setCell (p := ⟨w.heap.size, 3, none⟩) (Or.inr (Nat.le_refl _)) _).setCell (p := ⟨w.heap.size, 4, none⟩) (Or.inr (Nat.le_refl _)) _).setCell (p := ⟨w.heap.size, 5, none⟩) (Or.inr (Nat.le_refl _)) _).setCell (p := ⟨w.heap.size, 6, none⟩) (Or.inr (Nat.le_refl _)) _)⟩
  have hs' : s.size ≤ 65536 := by omega
  have hrd := read_any (o := w.heap.size + 1) (s := s) (F := fun σ => termS f s 1 σ) (V := Lies (w.heap.size + 1) (w.heap.size + 5)) (w := ((w.alloc (.cells #[.int .i64 0, .string ⟨#[]⟩, .int .i64 0, .int .i64 0, .string ⟨#[]⟩, .slice none 0 0, .slice none 0 0] 28)).alloc (.cells #[.int .i64 0, .string ⟨#[]⟩, .int .i64 0, .int .i64 0, .string ⟨#[]⟩, .slice none 0 0, .slice none 0 0] 28))) hs' G0 (by rw [Z0.out]; omega) (by omega)
    (by
      intro σ1 w1 p1 k1 z1 h1
      rw [Z0.out] at p1 z1 ⊢
      have hm := mu_le s σ1
      refine (parse1_any (f := f) hs' p1 (by omega) rfl (bO.kept k1 (fun h => h)) (by omega) (by omega)).mono ?_
      intro e w2 hc
      cases hq : termS f s 1 σ1 with
      | error r => rw [hq] at hc; exact hc
      | ok q =>
        obtain ⟨t, σ2⟩ := q
        rw [hq] at hc
        obtain ⟨c1, ⟨tk, kk, c2, c3, c4⟩, c5⟩ := hc
        exact ⟨c1, ⟨tk, kk, c2, c3.mono (fun k _ h => by omega), c4.mono (fun k _ h => by omega)⟩, c5⟩)
    (by
      rintro a w2 w3 ⟨tk, kk, c2, c3, c4⟩ z2 k3
      rw [Z0.out] at z2 k3
      exact ⟨tk, kk, c2.kept k3 (by show ¬ (w.heap.size + 1 = w.heap.size + 2 ∨ w.heap.size + 1 = w.heap.size + 2 + 1); omega), c3.frame (Same.of_kept k3 (fun k h e => by omega)), c4.frame (Same.of_kept k3 (fun k h e => by omega))⟩)
  have HRD := Lib.hid hrd
  clear hrd
  cases hq : parseQ f s with
  | error r =>
    have HA : Hid (parseA f s = r.2) := Lib.hid (by unfold parseA; rw [if_neg hs, hq]; rfl)
    have HE : Hid (parseE f s = if r.1 then 4 else 2) := Lib.hid (by unfold parseE; rw [if_neg hs, hq])
    have HT : Hid (parseT f s = tm0) := Lib.hid (by unfold parseT; rw [if_neg hs, hq])
    have HAA : Hid (rdAt (wholeF s (fun σ => termS f s 1 σ)) = r.2) := Lib.hid (by show rdAt (parseQ f s) = _; rw [hq]; rfl)
    have HEE : Hid (rdE (wholeF s (fun σ => termS f s 1 σ)) = if r.1 then 4 else 2) := Lib.hid (by show rdE (parseQ f s) = _; rw [hq]; rfl)
    clear hq
    go_enter Tryz.func46, Tryz.ntmps46
    go_wp2_with fail
    refine HRD.out.mono ?_
    rintro e w1 ⟨rfl, k1, _⟩
    rw [HAA.out, HEE.out]
    have bR1 := bR.kept k1 (by show ¬ w.heap.size = w.heap.size + 1; omega)
    have K1 := K0.via k1 (fun x hx e => by omega)
    have r0 : w1.cell? ⟨w.heap.size, 0, none⟩ = some (.int .i64 0) := bR1.cell 0
    have f0 := bR1.frozen 0
    have r1 : w1.cell? ⟨w.heap.size, 1, none⟩ = some (.string ⟨#[]⟩) := bR1.cell 1
    have f1 := bR1.frozen 1
    have r2 : w1.cell? ⟨w.heap.size, 2, none⟩ = some (.int .i64 0) := bR1.cell 2
    have f2 := bR1.frozen 2
    have r3 : w1.cell? ⟨w.heap.size, 3, none⟩ = some (.int .i64 0) := bR1.cell 3
    have f3 := bR1.frozen 3
    have r4 : w1.cell? ⟨w.heap.size, 4, none⟩ = some (.string ⟨#[]⟩) := bR1.cell 4
    have f4 := bR1.frozen 4
    have r5 : w1.cell? ⟨w.heap.size, 5, none⟩ = some (.slice none 0 0) := bR1.cell 5
    have f5 := bR1.frozen 5
    have r6 : w1.cell? ⟨w.heap.size, 6, none⟩ = some (.slice none 0 0) := bR1.cell 6
    have f6 := bR1.frozen 6
    have BR := Lib.hid bR1
    have KP := Lib.hid K1
    clear bR1 K1
    obtain ⟨r1, r2⟩ := r
    cases r1
    · rw [if_neg (by simp)] at HE ⊢
      go_wp2_with fail
      have bF := r7 (x0 := .int .i64 0) (x1 := .string ⟨#[]⟩) (x2 := .int .i64 0) (x3 := .int .i64 0) (x4 := .string ⟨#[]⟩) (x5 := .slice none 0 0) (x6 := .slice none 0 0) BR.out rfl
      exact bodyPost_ret (results_ctt Tryz.results46 rfl (load_tm (t := tm0) bF)) rfl ⟨_, by rw [HA.out, HE.out]; rfl, by rw [HT.out]; exact ⟨_, _, rfl, .nil0, .nil0⟩, (((((((KP.out.setCell (p := ⟨w.heap.size, 0, none⟩) (Or.inr (Nat.le_refl _)) _).setCell (p := ⟨w.heap.size, 1, none⟩) (Or.inr (Nat.le_refl _)) _).setCell (p := ⟨w.heap.size, 2, none⟩) (Or.inr (Nat.le_refl _)) _).setCell (p := ⟨w.heap.size, 3, none⟩) (Or.inr (Nat.le_refl _)) _).setCell (p := ⟨w.heap.size, 4, none⟩) (Or.inr (Nat.le_refl _)) _).setCell (p := ⟨w.heap.size, 5, none⟩) (Or.inr (Nat.le_refl _)) _).setCell (p := ⟨w.heap.size, 6, none⟩) (Or.inr (Nat.le_refl _)) _)⟩
    · rw [if_pos rfl] at HE ⊢
      go_wp2_with fail
      have bF := r7 (x0 := .int .i64 0) (x1 := .string ⟨#[]⟩) (x2 := .int .i64 0) (x3 := .int .i64 0) (x4 := .string ⟨#[]⟩) (x5 := .slice none 0 0) (x6 := .slice none 0 0) BR.out rfl
      exact bodyPost_ret (results_ctt Tryz.results46 rfl (load_tm (t := tm0) bF)) rfl ⟨_, by rw [HA.out, HE.out]; rfl, by rw [HT.out]; exact ⟨_, _, rfl, .nil0, .nil0⟩, (((((((KP.out.setCell (p := ⟨w.heap.size, 0, none⟩) (Or.inr (Nat.le_refl _)) _).setCell (p := ⟨w.heap.size, 1, none⟩) (Or.inr (Nat.le_refl _)) _).setCell (p := ⟨w.heap.size, 2, none⟩) (Or.inr (Nat.le_refl _)) _).setCell (p := ⟨w.heap.size, 3, none⟩) (Or.inr (Nat.le_refl _)) _).setCell (p := ⟨w.heap.size, 4, none⟩) (Or.inr (Nat.le_refl _)) _).setCell (p := ⟨w.heap.size, 5, none⟩) (Or.inr (Nat.le_refl _)) _).setCell (p := ⟨w.heap.size, 6, none⟩) (Or.inr (Nat.le_refl _)) _)⟩
  | ok q =>
    obtain ⟨t, σ2⟩ := q
    have hsm := (sm_whole hs' hq).mono (N' := big) (by decide)
    have HAA : Hid (rdAt (wholeF s (fun σ => termS f s 1 σ)) = 0) := Lib.hid (by show rdAt (parseQ f s) = _; rw [hq]; rfl)
    have HEE : Hid (rdE (wholeF s (fun σ => termS f s 1 σ)) = 0) := Lib.hid (by show rdE (parseQ f s) = _; rw [hq]; rfl)
    have HA : Hid (parseA f s = 0) := Lib.hid (by unfold parseA; rw [if_neg hs, hq]; rfl)
    have HEV : Hid (parseE f s = if validB t then 0 else 5) := Lib.hid (by unfold parseE; rw [if_neg hs, hq])
    have HTV : Hid (parseT f s = if validB t then t else tm0) := Lib.hid (by unfold parseT; rw [if_neg hs, hq])
    have HQ := Lib.hid hq
    clear hq
    go_enter Tryz.func46, Tryz.ntmps46
    go_wp2_with fail
    refine HRD.out.mono ?_
    rintro e w1 ⟨rfl, k1, hl⟩
    rw [HAA.out, HEE.out]
    obtain ⟨tk, kk, bT, hty, htm⟩ := hl t σ2 HQ.out
    clear hl
    obtain ⟨ta, tn, tc, rfl⟩ := hty.slice
    obtain ⟨ma, mn, mc, rfl⟩ := htm.slice
    have bR1 := bR.kept k1 (by show ¬ w.heap.size = w.heap.size + 1; omega)
    have K1 := K0.via k1 (fun x hx e => by omega)
    have y0 : w1.cell? ⟨w.heap.size + 1, 0, none⟩ = some (.int .i64 t.op) := bT.cell 0
    have y1 : w1.cell? ⟨w.heap.size + 1, 1, none⟩ = some (.string t.name) := bT.cell 1
    have y2 : w1.cell? ⟨w.heap.size + 1, 2, none⟩ = some (.int .i64 t.n) := bT.cell 2
    have y3 : w1.cell? ⟨w.heap.size + 1, 3, none⟩ = some (.int .i64 t.ty.kind) := bT.cell 3
    have y4 : w1.cell? ⟨w.heap.size + 1, 4, none⟩ = some (.string t.ty.name) := bT.cell 4
    have y5 : w1.cell? ⟨w.heap.size + 1, 5, none⟩ = some (.slice ta tn tc) := bT.cell 5
    have y6 : w1.cell? ⟨w.heap.size + 1, 6, none⟩ = some (.slice ma mn mc) := bT.cell 6
    have HV := Lib.hid (valid_any hty htm hsm)
    go_wp2_with fail
    refine HV.out.mono ?_
    rintro e w2 ⟨rfl, k2⟩
    have bR2 := bR1.kept k2 (fun h => h)
    have bT2 := bT.kept k2 (fun h => h)
    have K2 := K1.trans k2
    have l2 := bT2.lt
    cases hv : validB t
    · have HE : Hid (parseE f s = 5) := Lib.hid (by rw [HEV.out, hv]; rfl)
      have HT : Hid (parseT f s = tm0) := Lib.hid (by rw [HTV.out, hv]; rfl)
      have r0 : w2.cell? ⟨w.heap.size, 0, none⟩ = some (.int .i64 0) := bR2.cell 0
      have f0 := bR2.frozen 0
      have r1 : w2.cell? ⟨w.heap.size, 1, none⟩ = some (.string ⟨#[]⟩) := bR2.cell 1
      have f1 := bR2.frozen 1
      have r2 : w2.cell? ⟨w.heap.size, 2, none⟩ = some (.int .i64 0) := bR2.cell 2
      have f2 := bR2.frozen 2
      have r3 : w2.cell? ⟨w.heap.size, 3, none⟩ = some (.int .i64 0) := bR2.cell 3
      have f3 := bR2.frozen 3
      have r4 : w2.cell? ⟨w.heap.size, 4, none⟩ = some (.string ⟨#[]⟩) := bR2.cell 4
      have f4 := bR2.frozen 4
      have r5 : w2.cell? ⟨w.heap.size, 5, none⟩ = some (.slice none 0 0) := bR2.cell 5
      have f5 := bR2.frozen 5
      have r6 : w2.cell? ⟨w.heap.size, 6, none⟩ = some (.slice none 0 0) := bR2.cell 6
      have f6 := bR2.frozen 6
      have BR := Lib.hid bR2
      have KP := Lib.hid K2
      clear bR1 K1 bR2 K2 bT bT2
      go_wp2_with fail
      have bF := r7 (x0 := .int .i64 0) (x1 := .string ⟨#[]⟩) (x2 := .int .i64 0) (x3 := .int .i64 0) (x4 := .string ⟨#[]⟩) (x5 := .slice none 0 0) (x6 := .slice none 0 0) BR.out rfl
      exact bodyPost_ret (results_ctt Tryz.results46 rfl (load_tm (t := tm0) bF)) rfl ⟨_, by rw [HA.out, HE.out]; rfl, by rw [HT.out]; exact ⟨_, _, rfl, .nil0, .nil0⟩, (((((((KP.out.setCell (p := ⟨w.heap.size, 0, none⟩) (Or.inr (Nat.le_refl _)) _).setCell (p := ⟨w.heap.size, 1, none⟩) (Or.inr (Nat.le_refl _)) _).setCell (p := ⟨w.heap.size, 2, none⟩) (Or.inr (Nat.le_refl _)) _).setCell (p := ⟨w.heap.size, 3, none⟩) (Or.inr (Nat.le_refl _)) _).setCell (p := ⟨w.heap.size, 4, none⟩) (Or.inr (Nat.le_refl _)) _).setCell (p := ⟨w.heap.size, 5, none⟩) (Or.inr (Nat.le_refl _)) _).setCell (p := ⟨w.heap.size, 6, none⟩) (Or.inr (Nat.le_refl _)) _)⟩
    · have HE : Hid (parseE f s = 0) := Lib.hid (by rw [HEV.out, hv]; rfl)
      have HT : Hid (parseT f s = t) := Lib.hid (by rw [HTV.out, hv]; rfl)
      have hty2 := hty.frame (Same.of_kept k2 (fun _ _ e => e))
      have htm2 := htm.frame (Same.of_kept k2 (fun _ _ e => e))
      have x0 : w2.cell? ⟨w.heap.size + 1, 0, none⟩ = some (.int .i64 t.op) := bT2.cell 0
      have x1 : w2.cell? ⟨w.heap.size + 1, 1, none⟩ = some (.string t.name) := bT2.cell 1
      have x2 : w2.cell? ⟨w.heap.size + 1, 2, none⟩ = some (.int .i64 t.n) := bT2.cell 2
      have x3 : w2.cell? ⟨w.heap.size + 1, 3, none⟩ = some (.int .i64 t.ty.kind) := bT2.cell 3
      have x4 : w2.cell? ⟨w.heap.size + 1, 4, none⟩ = some (.string t.ty.name) := bT2.cell 4
      have x5 : w2.cell? ⟨w.heap.size + 1, 5, none⟩ = some (.slice ta tn tc) := bT2.cell 5
      have x6 : w2.cell? ⟨w.heap.size + 1, 6, none⟩ = some (.slice ma mn mc) := bT2.cell 6
      have HC := Lib.hid (clone_any (valid_bd hv) w2 _ _ _ hty2 htm2)
      clear hty2 htm2 y0 y1 y2 y3 y4 y5 y6
      go_wp2_with fail
      refine HC.out.mono ?_
      rintro e w3 ⟨v, u, rfl, hv3, hu3, k3⟩
      obtain ⟨va, vn, vc, rfl⟩ := hv3.slice
      obtain ⟨ua, un, uc, rfl⟩ := hu3.slice
      unfold tmVal
      have bR3 := bR2.kept k3 (fun h => h)
      have K3 := K2.trans k3
      have r0 : w3.cell? ⟨w.heap.size, 0, none⟩ = some (.int .i64 0) := bR3.cell 0
      have f0 := bR3.frozen 0
      have r1 : w3.cell? ⟨w.heap.size, 1, none⟩ = some (.string ⟨#[]⟩) := bR3.cell 1
      have f1 := bR3.frozen 1
      have r2 : w3.cell? ⟨w.heap.size, 2, none⟩ = some (.int .i64 0) := bR3.cell 2
      have f2 := bR3.frozen 2
      have r3 : w3.cell? ⟨w.heap.size, 3, none⟩ = some (.int .i64 0) := bR3.cell 3
      have f3 := bR3.frozen 3
      have r4 : w3.cell? ⟨w.heap.size, 4, none⟩ = some (.string ⟨#[]⟩) := bR3.cell 4
      have f4 := bR3.frozen 4
      have r5 : w3.cell? ⟨w.heap.size, 5, none⟩ = some (.slice none 0 0) := bR3.cell 5
      have f5 := bR3.frozen 5
      have r6 : w3.cell? ⟨w.heap.size, 6, none⟩ = some (.slice none 0 0) := bR3.cell 6
      have f6 := bR3.frozen 6
      have BR := Lib.hid bR3
      have KP := Lib.hid K3
      have V3 := Lib.hid hv3
      have U3 := Lib.hid hu3
      clear bR1 K1 bR2 K2 bT bT2 bR3 K3 hv3 hu3
      go_wp2_with fail
      have bF := r7 (x0 := .int .i64 t.op) (x1 := .string t.name) (x2 := .int .i64 t.n) (x3 := .int .i64 t.ty.kind) (x4 := .string t.ty.name) (x5 := .slice va vn vc) (x6 := .slice ua un uc) BR.out rfl
      refine bodyPost_ret (results_ctt Tryz.results46 rfl (load_tm (t := t) bF)) rfl ⟨_, by rw [HA.out, HE.out]; rfl, ?_, (((((((KP.out.setCell (p := ⟨w.heap.size, 0, none⟩) (Or.inr (Nat.le_refl _)) _).setCell (p := ⟨w.heap.size, 1, none⟩) (Or.inr (Nat.le_refl _)) _).setCell (p := ⟨w.heap.size, 2, none⟩) (Or.inr (Nat.le_refl _)) _).setCell (p := ⟨w.heap.size, 3, none⟩) (Or.inr (Nat.le_refl _)) _).setCell (p := ⟨w.heap.size, 4, none⟩) (Or.inr (Nat.le_refl _)) _).setCell (p := ⟨w.heap.size, 5, none⟩) (Or.inr (Nat.le_refl _)) _).setCell (p := ⟨w.heap.size, 6, none⟩) (Or.inr (Nat.le_refl _)) _)⟩
      rw [HT.out]
      exact ⟨_, _, rfl, (V3.out.frame (set7 (g := w.heap.size) (fun q h => by omega))).mono (fun q _ h => by omega), (U3.out.frame (set7 (g := w.heap.size) (fun q h => by omega))).mono (fun q _ h => by omega)⟩
theorem sz69 : (Tryz.prog.info? 109).map (·.size) = some 2 := by kernel_rfl
theorem lies71 : liesAt Tryz.prog Tryz.prog.depth 111 (2 / Tryz.prog.cellsOf 111) 0 109 1 = true := by kernel_rfl
theorem info5 : (Tryz.prog.info? 5).map (fun i => (i.zero, i.size, i.bytes)) = some (some (.int .u8 0), 1, 1) := by kernel_rfl
theorem cells5 : Tryz.prog.cellsOf 5 = 1 := by kernel_rfl
set_option maxHeartbeats 1000000 in
set_option maxRecDepth 100000 in
theorem cc_used (b : Nat) (w : World) (h0 : w.cell? ⟨b, 0, none⟩ = some (.pointer (some ⟨b, 0, none⟩))) :
    Calls Tryz.prog 203 #[.pointer (some ⟨b, 0, none⟩)] w fun e w' => e = .returned (.tuple #[]) ∧ w = w' := by
  obtain ⟨j, hj, _⟩ := Option.map_eq_some_iff.1 sz69
  have hne := fun W => Lib.run_neq_ptr_same W ⟨b, 0, none⟩ Tryz.underlying106 hj
  go_enter Tryz.func203, Tryz.ntmps203
  go_wp2_with fail
  go_end0
  exact ⟨rfl, rfl⟩
set_option maxHeartbeats 1000000 in
set_option maxRecDepth 100000 in
theorem cc_fresh (b : Nat) (w : World) (h0 : w.cell? ⟨b, 0, none⟩ = some (.pointer none)) (hsh : w.shape? b = some (111, 2)) (hfz : w.frozen? ⟨b, 0, none⟩ = false) :
    Calls Tryz.prog 203 #[.pointer (some ⟨b, 0, none⟩)] w fun e w' => e = .returned (.tuple #[]) ∧ w' = w.setCell ⟨b, 0, none⟩ (.pointer (some ⟨b, 0, none⟩)) := by
  obtain ⟨j, hj, hjs⟩ := Option.map_eq_some_iff.1 sz69
  go_enter Tryz.func203, Tryz.ntmps203
  go_wp2
  rw [Lib.run_to_unsafe w ⟨b, 0, none⟩ Tryz.underlying106 Tryz.underlying208 hj (by rw [hjs]; decide) hsh (Nat.zero_lt_succ 1)]
  simp only [Result.andThen]
  rw [Oper.upon_value]
  go_wp2
  rw [run_callFunc_extern Tryz.func224 (by kernel_rfl) (by kernel_rfl) (by kernel_rfl) (e := Extern.AbiNoEscape.same) (by kernel_rfl)]
  rw [Lib.run_noEscape]
  simp only [Result.andThen]
  rw [Oper.upon_value]
  go_wp2
  rw [Lib.run_from_unsafe w ⟨b, 0, none⟩ Tryz.underlying208 Tryz.underlying106 hj hsh lies71]
  simp only [Result.andThen]
  rw [Oper.upon_value]
  go_wp2
  go_end0
  exact ⟨rfl, rfl⟩
def SB (b B : Nat) (w : World) (k : Nat) : Prop := k = b ∨ (B ≤ k ∧ ∃ cur, w.heap[k]? = some (.cells cur 5 (0, 0)))
def KB (b B : Nat) (w w' : World) : Prop := Kept (SB b B w) w w'
theorem KB.refl (b B : Nat) (w : World) : KB b B w w := Kept.refl _ _
theorem KB.trans {b B : Nat} {w w' w'' : World} (h : KB b B w w') (k : KB b B w' w'') : KB b B w w'' :=
  ⟨k.os.trans h.os, k.tape.trans h.tape, k.output.trans h.output, Nat.le_trans h.size k.size, fun i hi hs => by
    have e := h.block i hi hs
    rw [k.block i (Nat.lt_of_lt_of_le hi h.size) (fun hS => hs (by
      rcases hS with rfl | ⟨hB, cur, hc⟩
      · exact Or.inl rfl
      · exact Or.inr ⟨hB, cur, by rw [← e]; exact hc⟩)), e]⟩
theorem KB.of_kept {b B : Nat} {w w' : World} (h : Kept (fun _ => False) w w') : KB b B w w' := h.mono (fun _ _ h => h.elim)
theorem KB.alloc {b B : Nat} {w w' : World} (h : KB b B w w') (o : Obj) : KB b B w (w'.alloc o) := Kept.alloc h o
theorem KB.drew {b B : Nat} {w w' : World} (h : KB b B w w') : KB b B w w'.drew := Kept.drew h
theorem Blk.kb {b B x : Nat} {t : TypeId} {l : List Value} {w w' : World} (h : Blk w x t l) (k : KB b B w w') (hx : x ≠ b) (ht : t ≠ 5) : Blk w' x t l := h.kept k (by
  rintro (rfl | ⟨_, cur, hc⟩)
  · exact hx rfl
  · rw [show w.heap[x]? = _ from h] at hc
    cases hc
    exact ht rfl)
theorem Same.kb {b B : Nat} {w w' : World} (k : KB b B w w') (hb : B ≤ b) : Same (fun q => q < B) w w' := Same.of_kept k (fun q h e => by
  rcases e with rfl | ⟨hB, _⟩
  · omega
  · omega)
abbrev Bu (B b : Nat) (l : List UInt8) (w : World) : Prop := Lib.IsBuilder 111 5 B b (Lib.byteCells l) w
theorem Bu.lt {B b : Nat} {l : List UInt8} {w : World} (h : Bu B b l w) : b < w.heap.size := by rcases h with h | h <;> exact h.lt
theorem Bu.le {B b : Nat} {l : List UInt8} {w : World} (h : Bu B b l w) : B ≤ b := by rcases h with h | h <;> exact h.1
def BuP (B b : Nat) (l : List UInt8) (w w' : World) : Prop := Bu B b l w' ∧ KB b B w w'
theorem cc_any {B b : Nat} {bs : List Value} {w : World} (h : Lib.IsBuilder 111 5 B b bs w) :
    Calls Tryz.prog 203 #[.pointer (some ⟨b, 0, none⟩)] w fun e w' => e = .returned (.tuple #[]) ∧ (Lib.BuilderAt 111 5 B b (.pointer (some ⟨b, 0, none⟩)) bs w' ∧ KB b B w w') := by
  rcases h with h | h
  · refine (cc_fresh b w h.cell0 h.shape h.frozen0).mono ?_
    rintro e w' ⟨rfl, rfl⟩
    exact ⟨rfl, h.used _, (Kept.refl (SB b B w) w).setCell (p := ⟨b, 0, none⟩) (Or.inl (Or.inl rfl)) _⟩
  · refine (cc_used b w h.cell0).mono ?_
    rintro e w' ⟨rfl, rfl⟩
    exact ⟨rfl, h, KB.refl _ _ _⟩
theorem own_sb {B b : Nat} {v : Value} {n : Nat} {xs : List Value} {w : World} (h : w.ownsRow B 5 1 v n xs) : ∀ k, v.ownBlock = some k → SB b B w k := by
  intro k hk
  rcases h.2 with ⟨rfl, _⟩ | ⟨g, cap, cur, rfl, hg, hh, _⟩
  · cases hk
  · cases hk; exact Or.inr ⟨hg, cur, hh⟩
set_option maxHeartbeats 2000000 in
set_option maxRecDepth 100000 in
theorem wb_any {B b : Nat} {l : List UInt8} {w : World} (c : UInt8) {ci : Int} (hc : ci = c.toNat) (h : Bu B b l w) (hlen : l.length ≤ 1000000000) (hBw : B ≤ w.heap.size) :
    Calls Tryz.prog 156 #[.pointer (some ⟨b, 0, none⟩), .int .u8 ci] w fun e w' => e = .returned .nilIface ∧ BuP B b (l ++ [c]) w w' := by
  have HCI := Lib.hid hc
  clear hc
  obtain ⟨i0, hi, hz0, hz1, hz2⟩ : ∃ i, Tryz.prog.info? 5 = some i ∧ i.zero = some (.int .u8 0) ∧ i.size = 1 ∧ i.bytes = 1 := by
    have := info5
    cases hh : Tryz.prog.info? 5 with
    | none => rw [hh] at this; cases this
    | some i => rw [hh] at this; simp only [Option.map_some, Option.some.injEq, Prod.mk.injEq] at this; exact ⟨i, rfl, this.1, this.2.1, this.2.2⟩
  have HI := Lib.hid hi
  have HZ := Lib.hid hz0
  have HS := Lib.hid hz1
  have HY := Lib.hid hz2
  clear hi hz0 hz1 hz2
  go_enter Tryz.func156, Tryz.ntmps156
  go_wp2_with (go_at_call 203; refine (cc_any h).mono ?_)
  rintro e w1 ⟨rfl, h1, hb1⟩
  obtain ⟨hB, v, hbk, hown, hne⟩ := h1
  have c0 : w1.cell? ⟨b, 0, none⟩ = some (.pointer (some ⟨b, 0, none⟩)) := by rw [Lib.cell_of_heap hbk]; rfl
  have c1 : w1.cell? ⟨b, 1, none⟩ = some v := by rw [Lib.cell_of_heap hbk]; rfl
  have hsz := hb1.size
  rw [Lib.byteCells_length] at hown
  have HOWN := Lib.hid hown
  have HBK := Lib.hid hbk
  clear hown hbk
  go_wp2_with (at_builtin; refine wpList_append_own _ rfl _ _ 107 rfl B 5 i0 (.int .u8 0) 1 1 Tryz.underlying107 HI.out HZ.out HS.out HY.out rfl (by decide) _ _ _ rfl (HOWN.out.alloc _) ⟨w1.heap.size, 0, none⟩ 1 1 [.int .u8 ci] rfl rfl ?c1 ?c2 ?c3 ?c4 ?c5 ?_)
  case c1 =>
    intro j u hj
    match j, hj with
    | 0, hj => simp at hj; subst hj; simp [Addr.add]
  case c2 => intro u hu; simp at hu; subst hu; rfl
  case c3 => unfold maxLen; omega
  case c4 => omega
  case c5 => simp; omega
  intro v' w2 hown' hgrow _
  have hbk := HBK.out
  have hlt : b < w1.heap.size := by
    rcases Nat.lt_or_ge b w1.heap.size with h' | h'
    · exact h'
    · simp [Array.getElem?_eq_none h'] at hbk
  have hb2 : w2.heap[b]? = some (.cells #[.pointer (some ⟨b, 0, none⟩), v] 111 (0, 0)) := by
    rw [hgrow.block b (by simp; omega) (fun e => hne e.symm), Lib.alloc_old w1 _ b hlt]
    exact hbk
  have d0 : w2.cell? ⟨b, 0, none⟩ = some (.pointer (some ⟨b, 0, none⟩)) := by rw [Lib.cell_of_heap hb2]; rfl
  have d1 : w2.cell? ⟨b, 1, none⟩ = some v := by rw [Lib.cell_of_heap hb2]; rfl
  have f1 : w2.frozen? ⟨b, 1, none⟩ = false := Lib.frozen_of_heap hb2 1
  obtain ⟨g, cap, rfl⟩ : ∃ g cap, v' = .slice (some ⟨g, 0, none⟩) (l.length + 1) cap := by
    rcases hown'.2 with ⟨_, h0⟩ | ⟨g, cap, cur, hv, _⟩
    · omega
    · exact ⟨g, cap, hv⟩
  have HO' := Lib.hid hown'
  have KG : KB b B w1 w2 := ((Kept.refl (SB b B w1) w1).alloc _).via (kept_grown hgrow) (fun x hx hk => own_sb HOWN.out x hk)
  have HG := Lib.hid KG
  have HB2 := Lib.hid hb2
  have HB1 := Lib.hid hb1
  clear hown' KG hb2 hgrow hbk hb1
  go_wp2_with fail
  go_ret
  refine ⟨rfl, Or.inr ?_, ?_⟩
  · refine Lib.BuilderAt.put (T := 111) (e := 5) hB HB2.out (bs' := Lib.byteCells (l ++ [c])) ?_ (by decide)
    have := HO'.out
    rw [HCI.out] at this
    simpa [Lib.byteCells] using this
  · exact HB1.out.trans ((Kept.setCell HG.out (p := ⟨b, 1, none⟩) (Or.inl (Or.inl rfl)) _))
set_option maxHeartbeats 2000000 in
set_option maxRecDepth 100000 in
theorem ws_any {B b : Nat} {l : List UInt8} {w : World} (s : ByteArray) (h : Bu B b l w) (hlen : l.length + s.size ≤ 1000000000) (hBw : B ≤ w.heap.size) :
    Calls Tryz.prog 154 #[.pointer (some ⟨b, 0, none⟩), .string s] w fun e w' => e = .returned (.tuple #[.int .i64 s.size, .nilIface]) ∧ BuP B b (l ++ s.data.toList) w w' := by
  obtain ⟨i0, hi, hz0, hz1, hz2⟩ : ∃ i, Tryz.prog.info? 5 = some i ∧ i.zero = some (.int .u8 0) ∧ i.size = 1 ∧ i.bytes = 1 := by
    have := info5
    cases hh : Tryz.prog.info? 5 with
    | none => rw [hh] at this; cases this
    | some i => rw [hh] at this; simp only [Option.map_some, Option.some.injEq, Prod.mk.injEq] at this; exact ⟨i, rfl, this.1, this.2.1, this.2.2⟩
  have HI := Lib.hid hi
  have HZ := Lib.hid hz0
  have HS := Lib.hid hz1
  have HY := Lib.hid hz2
  clear hi hz0 hz1 hz2
  go_enter Tryz.func154, Tryz.ntmps154
  go_wp2_with (go_at_call 203; refine (cc_any h).mono ?_)
  rintro e w1 ⟨rfl, h1, hb1⟩
  obtain ⟨hB, v, hbk, hown, hne⟩ := h1
  have c0 : w1.cell? ⟨b, 0, none⟩ = some (.pointer (some ⟨b, 0, none⟩)) := by rw [Lib.cell_of_heap hbk]; rfl
  have c1 : w1.cell? ⟨b, 1, none⟩ = some v := by rw [Lib.cell_of_heap hbk]; rfl
  have hsz := hb1.size
  rw [Lib.byteCells_length] at hown
  have HOWN := Lib.hid hown
  have HBK := Lib.hid hbk
  clear hown hbk
  go_wp2_with (at_builtin; refine Lib.wpList_append_own_string _ rfl _ _ 107 9 rfl B 5 i0 Tryz.underlying107 Tryz.underlying9 HI.out HZ.out HS.out HY.out _ _ _ rfl HOWN.out s rfl ?c3 ?c4 ?c5 ?_)
  case c3 => unfold maxLen; omega
  case c4 => omega
  case c5 => omega
  intro v' w2 hown' hgrow _
  have hbk := HBK.out
  have hlt : b < w1.heap.size := by
    rcases Nat.lt_or_ge b w1.heap.size with h' | h'
    · exact h'
    · simp [Array.getElem?_eq_none h'] at hbk
  have hb2 : w2.heap[b]? = some (.cells #[.pointer (some ⟨b, 0, none⟩), v] 111 (0, 0)) := by
    rw [hgrow.block b hlt (fun e => hne e.symm)]
    exact hbk
  have d0 : w2.cell? ⟨b, 0, none⟩ = some (.pointer (some ⟨b, 0, none⟩)) := by rw [Lib.cell_of_heap hb2]; rfl
  have d1 : w2.cell? ⟨b, 1, none⟩ = some v := by rw [Lib.cell_of_heap hb2]; rfl
  have f1 : w2.frozen? ⟨b, 1, none⟩ = false := Lib.frozen_of_heap hb2 1
  obtain ⟨ao, n', cap, rfl⟩ : ∃ ao n' cap, v' = .slice ao n' cap := by
    rcases hown'.2 with ⟨hv, _⟩ | ⟨g, cap, cur, hv, _⟩
    · exact ⟨_, _, _, hv⟩
    · exact ⟨_, _, _, hv⟩
  have HO' := Lib.hid hown'
  have KG : KB b B w1 w2 := (Kept.refl (SB b B w1) w1).via (kept_grown hgrow) (fun x hx hk => own_sb HOWN.out x hk)
  have HG := Lib.hid KG
  have HB2 := Lib.hid hb2
  have HB1 := Lib.hid hb1
  clear hown' KG hb2 hgrow hbk hb1
  go_wp2_with fail
  go_ret2
  refine ⟨rfl, Or.inr ?_, ?_⟩
  · refine Lib.BuilderAt.put (T := 111) (e := 5) hB HB2.out (bs' := Lib.byteCells (l ++ s.data.toList)) ?_ (by decide)
    have e1 : Lib.byteCells (l ++ s.data.toList) = Lib.byteCells l ++ Lib.strCells s := by unfold Lib.byteCells Lib.strCells; rw [List.map_append]
    rw [e1, List.length_append, Lib.byteCells_length, Lib.strCells_length]
    exact HO'.out
  · exact HB1.out.trans ((Kept.setCell HG.out (p := ⟨b, 1, none⟩) (Or.inl (Or.inl rfl)) _))
set_option maxHeartbeats 1000000 in
set_option maxRecDepth 100000 in
theorem bstr_any {B b : Nat} {l : List UInt8} {w : World} (h : Bu B b l w) (h0 : l ≠ []) :
    Calls Tryz.prog 96 #[.pointer (some ⟨b, 0, none⟩)] w fun e w' => e = .returned (.string ⟨l.toArray⟩) ∧ Below B w w' := by
  obtain ⟨p, hB, v, hbk, hown, hne⟩ : ∃ p, Lib.BuilderAt 111 5 B b p (Lib.byteCells l) w := by
    rcases h with h | h
    · exact ⟨_, h⟩
    · exact ⟨_, h⟩
  have hl0 : l.length ≠ 0 := by simpa using h0
  rw [Lib.byteCells_length] at hown
  obtain ⟨g, cap, cur, rfl, hbg, hg, hnc, hcm, hcs, htake⟩ : ∃ g cap cur, v = .slice (some ⟨g, 0, none⟩) l.length cap ∧ B ≤ g ∧ w.heap[g]? = some (.cells cur 5 (0, 0)) ∧ l.length ≤ cap ∧ cap ≤ maxLen ∧ cur.size = cap * 1 ∧ cur.toList.take (l.length * 1) = Lib.byteCells l := by
    rcases hown.2 with ⟨_, hz⟩ | ⟨g, cap, cur, hv, r⟩
    · exact absurd hz hl0
    · exact ⟨g, cap, cur, hv, r⟩
  have c1 : w.drew.cell? ⟨b, 1, none⟩ = some (.slice (some ⟨g, 0, none⟩) l.length cap) := by
    have : w.drew.heap[b]? = some (.cells #[p, .slice (some ⟨g, 0, none⟩) l.length cap] 111 (0, 0)) := hbk
    rw [Lib.cell_of_heap this]; rfl
  have hSD : (Builtin.unsafeSliceData_ #[107] 163 #[.slice (some ⟨g, 0, none⟩) l.length cap]).run Tryz.prog w.drew = .ok (.pointer (some ⟨g, 0, none⟩)) w.drew :=
    Lib.run_unsafeSliceData_row _ _ _ _ _ _ (by omega)
  have hUS : (Builtin.unsafeString_ #[163, 3] 9 #[.pointer (some ⟨g, 0, none⟩), .int .i64 l.length]).run Tryz.prog w.drew = .ok (.string ⟨l.toArray⟩) (w.drew.freeze ⟨g, 0, none⟩ l.length) := by
    refine Lib.run_unsafeString_row w.drew 163 3 9 5 Tryz.underlying163 cells5 g cur.size (by have hg' : w.drew.heap[g]? = some (.cells cur 5 (0, 0)) := hg; simp [World.shape?, hg']) l h0 (by omega) (by unfold maxLen at hcm; omega) ?_
    intro j x hx
    have := hown.cells (g := g) rfl j (.int .u8 x.toNat) (by simp [Lib.byteCells, hx])
    exact this
  have mixed : Tryz.prog.follows .mixedOrders = true := by kernel_rfl
  go_enter Tryz.func96, Tryz.ntmps96
  go_wp2
  go_region_o
  all_goals (go_wp2; go_ret; exact ⟨rfl, Lib.below_freeze (Below.drew (Below.refl B w)) (p := ⟨g, 0, none⟩) hbg _⟩)
def RowOk (w W : World) (A : Array Value) (n : Nat) : Prop := ∃ vs vo, (∀ W', (Instr.index 190 (.agg A) (.int .i64 n)).run Tryz.prog W' = .ok (.agg #[.int .i64 (lvGroup n), vs, vo]) W') ∧
  ((lvOps n = [] ∧ vs = .slice none 0 0 ∧ vo = .slice none 0 0) ∨ ∃ g g', vs = .slice (some ⟨g, 0, none⟩) (lvSigns n).length (lvSigns n).length ∧ vo = .slice (some ⟨g', 0, none⟩) (lvOps n).length (lvOps n).length ∧ Blk W g 9 ((lvSigns n).map Value.string) ∧ Blk W g' 3 ((lvOps n).map (Value.int .i64)))
def lvW (w : World) : World := (lvObjs.foldl World.alloc w).setCells w.heap.size 0 (lvGo lvTab (w.heap.size + 1))
def lvA (w : World) : Array Value := (lvGo lvTab (w.heap.size + 1)).toArray
theorem lvrow_0 (w : World) : RowOk w (lvW w) (lvA w) 0 := ⟨_, _, fun _ => by kernel_rfl, Or.inl ⟨rfl, rfl, rfl⟩⟩
theorem lvrow_1 (w : World) : RowOk w (lvW w) (lvA w) 1 := ⟨.slice (some ⟨w.heap.size + (0 + 1), 0, none⟩) (lvSigns 1).length (lvSigns 1).length, .slice (some ⟨w.heap.size + (1 + 1), 0, none⟩) (lvOps 1).length (lvOps 1).length, fun _ => by kernel_rfl, Or.inr ⟨_, _, rfl, rfl, lv_new w 0 9 _ rfl, lv_new w 1 3 _ rfl⟩⟩
theorem lvrow_2 (w : World) : RowOk w (lvW w) (lvA w) 2 := ⟨.slice (some ⟨w.heap.size + (2 + 1), 0, none⟩) (lvSigns 2).length (lvSigns 2).length, .slice (some ⟨w.heap.size + (3 + 1), 0, none⟩) (lvOps 2).length (lvOps 2).length, fun _ => by kernel_rfl, Or.inr ⟨_, _, rfl, rfl, lv_new w 2 9 _ rfl, lv_new w 3 3 _ rfl⟩⟩
theorem lvrow_3 (w : World) : RowOk w (lvW w) (lvA w) 3 := ⟨.slice (some ⟨w.heap.size + (4 + 1), 0, none⟩) (lvSigns 3).length (lvSigns 3).length, .slice (some ⟨w.heap.size + (5 + 1), 0, none⟩) (lvOps 3).length (lvOps 3).length, fun _ => by kernel_rfl, Or.inr ⟨_, _, rfl, rfl, lv_new w 4 9 _ rfl, lv_new w 5 3 _ rfl⟩⟩
theorem lvrow_4 (w : World) : RowOk w (lvW w) (lvA w) 4 := ⟨.slice (some ⟨w.heap.size + (6 + 1), 0, none⟩) (lvSigns 4).length (lvSigns 4).length, .slice (some ⟨w.heap.size + (7 + 1), 0, none⟩) (lvOps 4).length (lvOps 4).length, fun _ => by kernel_rfl, Or.inr ⟨_, _, rfl, rfl, lv_new w 6 9 _ rfl, lv_new w 7 3 _ rfl⟩⟩
theorem lvrow_5 (w : World) : RowOk w (lvW w) (lvA w) 5 := ⟨_, _, fun _ => by kernel_rfl, Or.inl ⟨rfl, rfl, rfl⟩⟩
theorem lvrow_6 (w : World) : RowOk w (lvW w) (lvA w) 6 := ⟨.slice (some ⟨w.heap.size + (8 + 1), 0, none⟩) (lvSigns 6).length (lvSigns 6).length, .slice (some ⟨w.heap.size + (9 + 1), 0, none⟩) (lvOps 6).length (lvOps 6).length, fun _ => by kernel_rfl, Or.inr ⟨_, _, rfl, rfl, lv_new w 8 9 _ rfl, lv_new w 9 3 _ rfl⟩⟩
theorem lvrow_7 (w : World) : RowOk w (lvW w) (lvA w) 7 := ⟨.slice (some ⟨w.heap.size + (10 + 1), 0, none⟩) (lvSigns 7).length (lvSigns 7).length, .slice (some ⟨w.heap.size + (11 + 1), 0, none⟩) (lvOps 7).length (lvOps 7).length, fun _ => by kernel_rfl, Or.inr ⟨_, _, rfl, rfl, lv_new w 10 9 _ rfl, lv_new w 11 3 _ rfl⟩⟩
theorem lvrow_8 (w : World) : RowOk w (lvW w) (lvA w) 8 := ⟨.slice (some ⟨w.heap.size + (12 + 1), 0, none⟩) (lvSigns 8).length (lvSigns 8).length, .slice (some ⟨w.heap.size + (13 + 1), 0, none⟩) (lvOps 8).length (lvOps 8).length, fun _ => by kernel_rfl, Or.inr ⟨_, _, rfl, rfl, lv_new w 12 9 _ rfl, lv_new w 13 3 _ rfl⟩⟩
theorem lvrow_9 (w : World) : RowOk w (lvW w) (lvA w) 9 := ⟨.slice (some ⟨w.heap.size + (14 + 1), 0, none⟩) (lvSigns 9).length (lvSigns 9).length, .slice (some ⟨w.heap.size + (15 + 1), 0, none⟩) (lvOps 9).length (lvOps 9).length, fun _ => by kernel_rfl, Or.inr ⟨_, _, rfl, rfl, lv_new w 14 9 _ rfl, lv_new w 15 3 _ rfl⟩⟩
theorem lvrow_10 (w : World) : RowOk w (lvW w) (lvA w) 10 := ⟨.slice (some ⟨w.heap.size + (16 + 1), 0, none⟩) (lvSigns 10).length (lvSigns 10).length, .slice (some ⟨w.heap.size + (17 + 1), 0, none⟩) (lvOps 10).length (lvOps 10).length, fun _ => by kernel_rfl, Or.inr ⟨_, _, rfl, rfl, lv_new w 16 9 _ rfl, lv_new w 17 3 _ rfl⟩⟩
theorem lvrow_11 (w : World) : RowOk w (lvW w) (lvA w) 11 := ⟨.slice (some ⟨w.heap.size + (18 + 1), 0, none⟩) (lvSigns 11).length (lvSigns 11).length, .slice (some ⟨w.heap.size + (19 + 1), 0, none⟩) (lvOps 11).length (lvOps 11).length, fun _ => by kernel_rfl, Or.inr ⟨_, _, rfl, rfl, lv_new w 18 9 _ rfl, lv_new w 19 3 _ rfl⟩⟩
theorem lvrow_12 (w : World) : RowOk w (lvW w) (lvA w) 12 := ⟨.slice (some ⟨w.heap.size + (20 + 1), 0, none⟩) (lvSigns 12).length (lvSigns 12).length, .slice (some ⟨w.heap.size + (21 + 1), 0, none⟩) (lvOps 12).length (lvOps 12).length, fun _ => by kernel_rfl, Or.inr ⟨_, _, rfl, rfl, lv_new w 20 9 _ rfl, lv_new w 21 3 _ rfl⟩⟩
theorem lvrow_any (w : World) (n : Nat) (h : n < 13) : RowOk w (lvW w) (lvA w) n := by
  rcases (show n = 0 ∨ n = 1 ∨ n = 2 ∨ n = 3 ∨ n = 4 ∨ n = 5 ∨ n = 6 ∨ n = 7 ∨ n = 8 ∨ n = 9 ∨ n = 10 ∨ n = 11 ∨ n = 12 by omega) with rfl | rfl | rfl | rfl | rfl | rfl | rfl | rfl | rfl | rfl | rfl | rfl | rfl
  · exact lvrow_0 w
  · exact lvrow_1 w
  · exact lvrow_2 w
  · exact lvrow_3 w
  · exact lvrow_4 w
  · exact lvrow_5 w
  · exact lvrow_6 w
  · exact lvrow_7 w
  · exact lvrow_8 w
  · exact lvrow_9 w
  · exact lvrow_10 w
  · exact lvrow_11 w
  · exact lvrow_12 w
theorem levels_w (w : World) : Calls Tryz.prog 199 #[] w fun e w' => e = .returned (.agg (lvA w)) ∧ w' = lvW w := levels_any w
theorem lvW_kept (w : World) : Kept (fun _ => False) w (lvW w) := Kept.of_below (lv_below w)
theorem idx_from (x : Int) : ∀ (zs : List Int) (i : Nat), Lib.idxFrom zs x i = -1 ∨ ∃ m, m < zs.length ∧ Lib.idxFrom zs x i = ((i + m : Nat) : Int)
  | [], i => Or.inl rfl
  | z :: zs, i => by
    by_cases h : z = x
    · exact Or.inr ⟨0, by simp, by simp [Lib.idxFrom, h]⟩
    · rcases idx_from x zs (i + 1) with h' | ⟨m, hm, h'⟩
      · left; simp [Lib.idxFrom, h, h']
      · right; exact ⟨m + 1, by simp; omega, by simp only [Lib.idxFrom, h, if_false, h']; congr 1; omega⟩
theorem idx_lt (zs : List Int) (x : Int) (h : 0 ≤ Lib.idxOf zs x) : ∃ m, m < zs.length ∧ Lib.idxOf zs x = (m : Int) := by
  rcases idx_from x zs 0 with h' | ⟨m, hm, h'⟩
  · unfold Lib.idxOf at h; rw [h'] at h; exact absurd h (by decide)
  · exact ⟨m, hm, by unfold Lib.idxOf; rw [h', Nat.zero_add]⟩
def binG (op : Int) : List Nat → ByteArray
  | [] => ⟨#[]⟩
  | n :: r => if 0 ≤ Lib.idxOf (lvOps n) op then (lvSigns n).getD (Lib.idxOf (lvOps n) op).toNat ⟨#[]⟩ else binG op r
def binS (op : Int) : ByteArray := binG op (List.range 13)
theorem lv_lens' (n : Nat) (h : n < 13) : (lvSigns n).length = (lvOps n).length ∧ (lvOps n).length ≤ 1000 := by
  rcases (show n = 0 ∨ n = 1 ∨ n = 2 ∨ n = 3 ∨ n = 4 ∨ n = 5 ∨ n = 6 ∨ n = 7 ∨ n = 8 ∨ n = 9 ∨ n = 10 ∨ n = 11 ∨ n = 12 by omega) with rfl | rfl | rfl | rfl | rfl | rfl | rfl | rfl | rfl | rfl | rfl | rfl | rfl <;> decide
set_option maxRecDepth 100000 in
set_option maxHeartbeats 4000000 in
theorem binary_any (op : Int) (w : World) : Calls Tryz.prog 152 #[.int .i64 op] w fun e w' => e = .returned (.string (binS op)) ∧ Kept (fun _ => False) w w' := by
  go_enter Tryz.func152, Tryz.ntmps152
  go_wp2_with (go_at_call 199; refine (levels_w w).mono ?_; rintro e w' ⟨rfl, rfl⟩)
  have HR := Lib.hid (lvrow_any w)
  have HKW := Lib.hid (lvW_kept w)
  generalize lvA w = A at *
  generalize lvW w = W at *
  go_loopw [7] (fun i wr => ∃ k : Nat, k ≤ 13 ∧ i = .int .i64 k ∧ Hid (binS op = binG op ((List.range 13).drop k)) ∧ Hid (Kept (fun _ => False) W wr)) (fun i _ => 13 - (intOf i).toNat)
  case atStart => exact ⟨0, Nat.zero_le _, rfl, Lib.hid rfl, Lib.hid (Kept.refl _ _)⟩
  case round =>
    obtain ⟨k, hk, rfl, hq, hkr⟩ := hrel
    by_cases hlt : k < 13
    · have i1 : (k : Int) < 13 := by omega
      have hdrop : Hid ((List.range 13).drop k = k :: (List.range 13).drop (k + 1)) := Lib.hid (by
        rw [drop_cons (List.range 13) k (by simpa using hlt)]; simp)
      have hl := lv_lens' k hlt
      obtain ⟨vs, vo, hidx, hrow⟩ := HR.out k hlt
      rcases hrow with ⟨he, rfl, rfl⟩ | ⟨g, g', rfl, rfl, bg, bg'⟩
      · have hq' : Hid (binS op = binG op ((List.range 13).drop (k + 1))) := Lib.hid (by rw [hq.out, hdrop.out, binG, he, if_neg (by rw [Lib.idxOf_nonneg_iff]; simp)])
        have hi := Lib.hid (Tryz.slices_Index_int_empty none 0 op)
        have HX := Lib.hid hidx
        clear he hl
        go_wp2_with (go_at_call 201; refine (hi.out _).mono ?_; rintro e w' ⟨rfl, rfl⟩)
        go_roundw
        case rel => exact ⟨k + 1, by omega, by go_num, hq', Lib.hid (hkr.out.alloc _)⟩
        case measure => simp [intOf]; omega
      · have bgr := bg.kept hkr.out (fun h => h)
        have bgr' := bg'.kept hkr.out (fun h => h)
        have HX := Lib.hid hidx
        have hl2 := hl.2
        have HL := Lib.hid hl
        have hcon : Hid (∀ o : Obj, Calls Tryz.prog 201 #[.slice (some ⟨g', 0, none⟩) (lvOps k).length (lvOps k).length, .int .i64 op] (wr.alloc o) fun e w' => e = .returned (.int .i64 (Lib.idxOf (lvOps k) op)) ∧ wr.alloc o = w') := Lib.hid (by
          intro o
          refine (Tryz.slices_Index_int g' 0 _ _ (lvOps k) op _ (Nat.le_refl _) (by omega) (fun j hj => ?_)).mono fun e w' ⟨h1, h2⟩ => ⟨by rw [h1, List.take_length], h2.symm⟩
          rw [Nat.zero_add, (bgr'.alloc o).cell j, List.getElem?_map, List.getElem?_eq_getElem hj, List.getD_eq_getElem?_getD, List.getElem?_eq_getElem hj]; rfl)
        by_cases hge : 0 ≤ Lib.idxOf (lvOps k) op
        · obtain ⟨m, hm, hmi⟩ := idx_lt _ _ hge
          have hq' : Hid (binS op = (lvSigns k).getD m ⟨#[]⟩) := Lib.hid (by rw [hq.out, hdrop.out, binG, if_pos hge, hmi]; rfl)
          have hms : m < (lvSigns k).length := by have := HL.out.1; omega
          have cg : wr.cell? ⟨g, m, none⟩ = some (.string ((lvSigns k).getD m ⟨#[]⟩)) := by
            rw [bgr.cell m, List.getElem?_map, List.getElem?_eq_getElem hms, List.getD_eq_getElem?_getD, List.getElem?_eq_getElem hms]; rfl
          have lg := bgr.lt
          have ng : g ≠ wr.heap.size := by omega
          have i2 : (m : Int) < ((lvSigns k).length : Int) := by omega
          clear hge
          go_wp2_with (go_at_call 201; refine (hcon.out _).mono ?_; rintro e w' ⟨rfl, rfl⟩)
          go_ret
          exact ⟨by rw [hq'.out, List.getD_eq_getElem?_getD, List.getElem?_eq_getElem hms]; rfl, HKW.out.trans (hkr.out.alloc _)⟩
        · have hq' : Hid (binS op = binG op ((List.range 13).drop (k + 1))) := Lib.hid (by rw [hq.out, hdrop.out, binG, if_neg hge])
          have hd : decide (0 ≤ Lib.idxOf (lvOps k) op) = false := by simp; omega
          clear hge
          go_wp2_with (go_at_call 201; refine (hcon.out _).mono ?_; rintro e w' ⟨rfl, rfl⟩)
          go_roundw
          case rel => exact ⟨k + 1, by omega, by go_num, hq', Lib.hid (hkr.out.alloc _)⟩
          case measure => simp [intOf]; omega
    · have hz : Hid (binS op = ⟨#[]⟩) := Lib.hid (by rw [hq.out, List.drop_eq_nil_of_le (by simp; omega), binG])
      go_wp2_with fail
      go_ret
      exact ⟨by rw [hz.out]; rfl, HKW.out.trans hkr.out⟩
def keyT : List ByteArray := [⟨#[]⟩, ⟨#[116, 114, 117, 101]⟩, ⟨#[102, 97, 108, 115, 101]⟩, ⟨#[]⟩, ⟨#[]⟩, ⟨#[]⟩, ⟨#[]⟩, ⟨#[]⟩, ⟨#[102, 111, 114, 97, 108, 108, 32]⟩, ⟨#[101, 120, 105, 115, 116, 115, 32]⟩, ⟨#[]⟩, ⟨#[]⟩, ⟨#[]⟩, ⟨#[]⟩, ⟨#[]⟩, ⟨#[]⟩, ⟨#[]⟩, ⟨#[]⟩, ⟨#[]⟩, ⟨#[]⟩, ⟨#[]⟩, ⟨#[]⟩, ⟨#[]⟩, ⟨#[]⟩, ⟨#[]⟩, ⟨#[]⟩, ⟨#[]⟩, ⟨#[]⟩, ⟨#[]⟩, ⟨#[]⟩, ⟨#[]⟩, ⟨#[]⟩, ⟨#[]⟩, ⟨#[]⟩, ⟨#[]⟩, ⟨#[]⟩, ⟨#[]⟩, ⟨#[]⟩, ⟨#[]⟩, ⟨#[]⟩, ⟨#[]⟩, ⟨#[]⟩, ⟨#[]⟩, ⟨#[]⟩, ⟨#[]⟩, ⟨#[]⟩, ⟨#[80, 79, 87]⟩, ⟨#[99, 97, 114, 100]⟩, ⟨#[109, 105, 110]⟩, ⟨#[109, 97, 120]⟩, ⟨#[100, 111, 109]⟩, ⟨#[114, 97, 110]⟩, ⟨#[]⟩, ⟨#[]⟩, ⟨#[]⟩, ⟨#[]⟩, ⟨#[102, 117, 110, 32]⟩]
def keyS (op : Int) : ByteArray := if op < 57 then keyT.getD op.toNat ⟨#[]⟩ else ⟨#[]⟩
def keyA : List Value := keyT.map Value.string
theorem wpList_build {P : Program} {w : World} {ops : Array Oper} {rest : List Oper} {o : Oper} {a : Act} {Q : Exit → Act → World → Prop} (hgd : o.guard = none) (t : TypeId) (parts : Array (Nat × Operand)) (ho : o.op = .build t parts) {v : Value}
    (hr : (Instr.build t (parts.map fun (i, x) => (i, a.eval x))).run P w = .ok v w) (h : wpList P ops Q rest (a.put o.dst v) w) : wpList P ops Q (o :: rest) a w := by
  refine wpList_plain hgd fun K hK => ?_
  unfold Oper.wp execOp
  simp only [ho, Sem.run_bind, Sem.run_pure, Result.andThen_ok, hr]
  exact hK _ _ h
def keyZ : List Value := List.replicate 57 (.string ⟨#[]⟩)
theorem wpList_alloc {P : Program} {w w' : World} {ops : Array Oper} {rest : List Oper} {o : Oper} {a : Act} {Q : Exit → Act → World → Prop} (hgd : o.guard = none) (t : TypeId) (ho : o.op = .alloc t) {v : Value}
    (hr : (Instr.alloc t true (.tuple #[])).run P w = .ok v w') (h : wpList P ops Q rest (a.put o.dst v) w') : wpList P ops Q (o :: rest) a w := by
  refine wpList_plain hgd fun K hK => ?_
  unfold Oper.wp execOp
  simp only [ho, Sem.run_bind, Sem.run_pure, Result.andThen_ok, hr]
  exact hK _ _ h
theorem wpList_gen {P : Program} {ops : Array Oper} {l : List Oper} {Q : Exit → Act → World → Prop} {a : Act} {W : World} (F : World → Prop) (hF : F W) (h : ∀ w6, F w6 → wpList P ops Q l a w6) : wpList P ops Q l a W := h W hF
def KeyF (w w' : World) : Prop := Blk w' w.heap.size 194 keyA ∧ Kept (fun _ => False) w w'
theorem keyF (w : World) : KeyF w ((w.alloc (.cells keyZ.toArray 194)).setCells w.heap.size 0 keyA.toArray.toList) :=
  ⟨(Blk.new w 194 keyZ).setCells rfl, ((Kept.refl (fun _ => False) w).alloc _).setCells (Or.inr (Nat.le_refl _))⟩
theorem key_there (w : World) : (w.alloc (.cells keyZ.toArray 194)).there w.heap.size 0 keyA.toArray.size := (Blk.new w 194 keyZ).there
theorem key_len : keyT.length = 57 := rfl
theorem key_at (op : Nat) (h : op < 57) : keyA[op]? = some (.string (keyS op)) := by
  unfold keyA keyS
  rw [List.getElem?_map, if_pos (by omega), Int.toNat_natCast, List.getD_eq_getElem?_getD]
  rw [List.getElem?_eq_getElem (by rw [key_len]; exact h)]
  rfl
set_option maxRecDepth 100000 in
set_option maxHeartbeats 2000000 in
theorem keyed_any (op : Nat) (w : World) : Calls Tryz.prog 155 #[.int .i64 op] w fun e w' => e = .returned (.string (keyS op)) ∧ Kept (fun _ => False) w w' := by
  by_cases h : op < 57
  · have i1 : (op : Int) < 57 := by omega
    have HA := Lib.hid (key_at op h)
    clear h
    go_enter Tryz.func155, Tryz.ntmps155
    go_wp2_with (first | (refine wpList_build rfl 132 _ rfl (v := .agg keyA.toArray) (by kernel_rfl) ?_) | (refine wpList_alloc rfl 132 rfl (v := .pointer (some ⟨w.heap.size, 0, none⟩)) (w' := w.alloc (.cells keyZ.toArray 194)) (by kernel_rfl) ?_) | (refine wpList_store_mid rfl 194 _ _ rfl w.heap.size 0 keyA.toArray rfl rfl (key_there w) (by kernel_rfl) (by kernel_rfl) ?_; refine wpList_gen (KeyF w) (keyF w) ?_; rintro W ⟨bW, kW⟩; have cW : W.cell? ⟨w.heap.size, op, none⟩ = some (.string (keyS op)) := (by rw [bW.cell]; exact HA.out)))
    go_ret
    exact ⟨rfl, kW⟩
  · have i1 : ((57 : Int) ≤ op) := by omega
    have HS : Hid (keyS op = ⟨#[]⟩) := Lib.hid (by unfold keyS; rw [if_neg (by omega)])
    clear h
    go_enter Tryz.func155, Tryz.ntmps155
    go_wp2_with (first | (refine wpList_build rfl 132 _ rfl (v := .agg keyA.toArray) (by kernel_rfl) ?_) | (refine wpList_alloc rfl 132 rfl (v := .pointer (some ⟨w.heap.size, 0, none⟩)) (w' := w.alloc (.cells keyZ.toArray 194)) (by kernel_rfl) ?_) | (refine wpList_store_mid rfl 194 _ _ rfl w.heap.size 0 keyA.toArray rfl rfl (key_there w) (by kernel_rfl) (by kernel_rfl) ?_; refine wpList_gen (KeyF w) (keyF w) ?_; rintro W ⟨bW, kW⟩))
    go_ret
    exact ⟨by rw [HS.out]; rfl, kW⟩
def compB (op : Int) : Bool := op == 3 || op == 21 || op == 8 || op == 9 || op == 56 || !((binS op).toList == [])
set_option maxHeartbeats 4000000 in
theorem compound_any {op : Int} {nm : ByteArray} {N : Int} {tkd : Int} {tnm : ByteArray} {tk kk : Value} {ta : Option Addr} {tn tc : Nat} {ma : Option Addr} {mn mc : Nat} (h1 : tk = .slice ta tn tc) (h2 : kk = .slice ma mn mc) (w : World) :
    Calls Tryz.prog 202 #[.agg #[.int .i64 op, .string nm, .int .i64 N, .int .i64 tkd, .string tnm, tk, kk]] w fun e w' => e = .returned (.bool (compB op)) ∧ Kept (fun _ => False) w w' := by
  subst h1 h2
  have K0 : Kept (fun _ => False) w (w.alloc (.cells #[.int .i64 op, .string nm, .int .i64 N, .int .i64 tkd, .string tnm, .slice ta tn tc, .slice ma mn mc] 28)) := (Kept.refl _ _).alloc _
  by_cases h : op = 3 ∨ op = 21 ∨ op = 8 ∨ op = 9 ∨ op = 56
  · rcases h with rfl | rfl | rfl | rfl | rfl
    all_goals
      go_enter Tryz.func202, Tryz.ntmps202
      go_wp2_with fail
      go_ret
      exact ⟨rfl, K0⟩
  · have q3 : (op == 3) = false := beq_false_of_ne (fun e => h (by simp [e]))
    have q21 : (op == 21) = false := beq_false_of_ne (fun e => h (by simp [e]))
    have q8 : (op == 8) = false := beq_false_of_ne (fun e => h (by simp [e]))
    have q9 : (op == 9) = false := beq_false_of_ne (fun e => h (by simp [e]))
    have q56 : (op == 56) = false := beq_false_of_ne (fun e => h (by simp [e]))
    have HQ : Hid (compB op = !((binS op).toList == [])) := Lib.hid (by unfold compB; rw [q3, q21, q8, q9, q56]; rfl)
    clear h
    have HB := Lib.hid (binary_any op)
    go_enter Tryz.func202, Tryz.ntmps202
    go_wp2_with (go_at_call 152; refine (HB.out _).mono ?_; rintro e w1 ⟨rfl, k1⟩)
    go_ret
    exact ⟨by rw [HQ.out]; first | rfl | simp [bne], K0.trans k1⟩
def PP (B b : Nat) (l : List UInt8) (w : World) (e : Ending) (w' : World) : Prop := e = .returned (.tuple #[]) ∧ BuP B b l w w'
def PC (t : Tm) (out : List UInt8) : Prop := ∀ (B b : Nat) (l : List UInt8) (w : World) (tk kk : Value), Bu B b l w → B ≤ w.heap.size → TyL (fun q => q < B) w t.ty.kids tk → TmL (fun q => q < B) w t.kids kk → l.length + out.length ≤ 1000000000 →
  Calls Tryz.prog 95 #[.pointer (some ⟨b, 0, none⟩), tmVal t tk kk] w (PP B b (l ++ out) w)
def OC (t : Tm) (out : List UInt8) : Prop := ∀ (B b : Nat) (l : List UInt8) (w : World) (tk kk : Value), Bu B b l w → B ≤ w.heap.size → TyL (fun q => q < B) w t.ty.kids tk → TmL (fun q => q < B) w t.kids kk → l.length + out.length ≤ 1000000000 →
  Calls Tryz.prog 153 #[.pointer (some ⟨b, 0, none⟩), tmVal t tk kk] w (PP B b (l ++ out) w)
theorem Bu.kept {B b : Nat} {l : List UInt8} {w w' : World} (h : Bu B b l w) (k : Kept (fun _ => False) w w') : Bu B b l w' := by
  have go : ∀ p, Lib.BuilderAt 111 5 B b p (Lib.byteCells l) w → Lib.BuilderAt 111 5 B b p (Lib.byteCells l) w' := by
    rintro p ⟨hB, v, hb, hown, hne⟩
    have hlt : b < w.heap.size := by
      rcases Nat.lt_or_ge b w.heap.size with h' | h'
      · exact h'
      · simp [Array.getElem?_eq_none h'] at hb
    refine ⟨hB, v, by rw [k.block b hlt (fun h => h)]; exact hb, ?_, hne⟩
    refine ⟨hown.1, ?_⟩
    rcases hown.2 with h | ⟨g, cap, cur, hv, hg, hh, r⟩
    · exact Or.inl h
    · have hl : g < w.heap.size := by
        rcases Nat.lt_or_ge g w.heap.size with h' | h'
        · exact h'
        · simp [Array.getElem?_eq_none h'] at hh
      exact Or.inr ⟨g, cap, cur, hv, hg, by rw [k.block g hl (fun h => h)]; exact hh, r⟩
  rcases h with h | h
  · exact Or.inl (go _ h)
  · exact Or.inr (go _ h)
def parS (op : Int) (out : List UInt8) : List UInt8 := if compB op then [40] ++ out ++ [41] else out
set_option maxRecDepth 100000 in
set_option maxHeartbeats 4000000 in
theorem operand_any {t : Tm} {out : List UInt8} (hp : PC t out) : OC t (parS t.op out) := by
  intro B b l w tk kk hb hB hty htm hlen
  obtain ⟨ta, tn, tc, rfl⟩ := hty.slice
  obtain ⟨ma, mn, mc, rfl⟩ := htm.slice
  unfold tmVal
  have K0 : Kept (fun _ => False) w (w.alloc (.cells #[.int .i64 t.op, .string t.name, .int .i64 t.n, .int .i64 t.ty.kind, .string t.ty.name, .slice ta tn tc, .slice ma mn mc] 28)) := (Kept.refl _ _).alloc _
  have bX : Blk (w.alloc (.cells #[.int .i64 t.op, .string t.name, .int .i64 t.n, .int .i64 t.ty.kind, .string t.ty.name, .slice ta tn tc, .slice ma mn mc] 28)) w.heap.size 28 (tmCells t (.slice ta tn tc) (.slice ma mn mc)) := Blk.new w 28 _
  have hbl := hb.lt
  have hbB := hb.le
  have HP := Lib.hid hp
  have HCO := Lib.hid (fun W => compound_any (op := t.op) (nm := t.name) (N := t.n) (tkd := t.ty.kind) (tnm := t.ty.name) (ta := ta) (tn := tn) (tc := tc) (ma := ma) (mn := mn) (mc := mc) rfl rfl W)
  clear hp
  cases hc : compB t.op
  · have hps : parS t.op out = out := by unfold parS; rw [hc]; rfl
    rw [hps] at hlen ⊢
    have HL := Lib.hid hlen
    clear hlen hps
    go_enter Tryz.func153, Tryz.ntmps153
    go_wp2_with fail
    refine (HCO.out _).mono ?_
    rintro e w1 ⟨rfl, k1⟩
    rw [hc]
    have K1 := K0.trans k1
    have b1 := bX.kept k1 (fun h => h)
    have g0 : w1.cell? ⟨w.heap.size, 0, none⟩ = some (.int .i64 t.op) := b1.cell 0
    have g1 : w1.cell? ⟨w.heap.size, 1, none⟩ = some (.string t.name) := b1.cell 1
    have g2 : w1.cell? ⟨w.heap.size, 2, none⟩ = some (.int .i64 t.n) := b1.cell 2
    have g3 : w1.cell? ⟨w.heap.size, 3, none⟩ = some (.int .i64 t.ty.kind) := b1.cell 3
    have g4 : w1.cell? ⟨w.heap.size, 4, none⟩ = some (.string t.ty.name) := b1.cell 4
    have g5 : w1.cell? ⟨w.heap.size, 5, none⟩ = some (.slice ta tn tc) := b1.cell 5
    have g6 : w1.cell? ⟨w.heap.size, 6, none⟩ = some (.slice ma mn mc) := b1.cell 6
    have HC := Lib.hid (HP.out B b l w1 _ _ (hb.kept K1) (Nat.le_trans hB K1.size) (hty.frame (Same.of_kept K1 (fun _ _ e => e))) (htm.frame (Same.of_kept K1 (fun _ _ e => e))) HL.out)
    go_wp2_with fail
    refine HC.out.mono ?_
    rintro e w2 ⟨rfl, h1, h2⟩
    go_wp2_with fail
    first | go_end0 | refine bodyPost_ret (results_none rfl _ _ _) rfl ?_
    exact ⟨rfl, h1, (KB.of_kept K1).trans h2⟩
  · have hps : parS t.op out = [40] ++ out ++ [41] := by unfold parS; rw [hc]; rfl
    rw [hps] at hlen ⊢
    have HL : Hid (l.length + out.length + 2 ≤ 1000000000) := Lib.hid (by simp at hlen; omega)
    clear hlen hps
    go_enter Tryz.func153, Tryz.ntmps153
    go_wp2_with fail
    refine (HCO.out _).mono ?_
    rintro e w1 ⟨rfl, k1⟩
    rw [hc]
    have K1 := K0.trans k1
    have b1 := bX.kept k1 (fun h => h)
    have HW1 := Lib.hid (wb_any (40 : UInt8) (ci := 40) rfl (hb.kept K1) (by have := HL.out; omega) (Nat.le_trans hB K1.size))
    go_wp2_with fail
    refine HW1.out.mono ?_
    rintro e w2 ⟨rfl, u2, k2⟩
    have K2 : KB b B w w2 := (KB.of_kept K1).trans k2
    have b2 := b1.kb k2 (by omega) (by decide)
    have g0 : w2.cell? ⟨w.heap.size, 0, none⟩ = some (.int .i64 t.op) := b2.cell 0
    have g1 : w2.cell? ⟨w.heap.size, 1, none⟩ = some (.string t.name) := b2.cell 1
    have g2 : w2.cell? ⟨w.heap.size, 2, none⟩ = some (.int .i64 t.n) := b2.cell 2
    have g3 : w2.cell? ⟨w.heap.size, 3, none⟩ = some (.int .i64 t.ty.kind) := b2.cell 3
    have g4 : w2.cell? ⟨w.heap.size, 4, none⟩ = some (.string t.ty.name) := b2.cell 4
    have g5 : w2.cell? ⟨w.heap.size, 5, none⟩ = some (.slice ta tn tc) := b2.cell 5
    have g6 : w2.cell? ⟨w.heap.size, 6, none⟩ = some (.slice ma mn mc) := b2.cell 6
    have HC := Lib.hid (HP.out B b (l ++ [40]) w2 _ _ u2 (Nat.le_trans hB K2.size) (hty.frame (Same.kb K2 hbB)) (htm.frame (Same.kb K2 hbB)) (by have := HL.out; simp; omega))
    go_wp2_with fail
    refine HC.out.mono ?_
    rintro e w3 ⟨rfl, u3, k3⟩
    have K3 := K2.trans k3
    have HW3 := Lib.hid (wb_any (41 : UInt8) (ci := 41) rfl u3 (by have := HL.out; simp; omega) (Nat.le_trans hB K3.size))
    go_wp2_with fail
    refine HW3.out.mono ?_
    rintro e w4 ⟨rfl, u4, k4⟩
    go_wp2_with fail
    first | go_end0 | refine bodyPost_ret (results_none rfl _ _ _) rfl ?_
    exact ⟨rfl, by simpa using u4, K3.trans k4⟩
end Go.Proofs.YtfhedienjnfdcaaGreatDoor
