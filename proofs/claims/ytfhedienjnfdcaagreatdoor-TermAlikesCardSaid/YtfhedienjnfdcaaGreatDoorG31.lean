/- Texts BwL of this proof, in one. -/
import Derived.Test.YtfhedienjnfdcaaGreatDoorG18
import Derived.RangeFuncBox
import Derived.RangeFuncLeaves
import Derived.Shelf.Abstract
import Derived.OwnWalkIn
import Derived.TacticsInMore
import Derived.LoopNIn
import Derived.LoopIn
set_option linter.unusedVariables false
set_option linter.unusedSimpArgs false
set_option maxRecDepth 100000
set_option maxHeartbeats 32000000
namespace Go.Proofs.YtfhedienjnfdcaaGreatDoor
open Go.RowKit Go.Shelf
attribute [local go_sem] Oper.semAt_some
theorem lastI_at {s : ByteArray} {l : List ByteArray} {m : Nat} (hm : m < l.length) (h : l[m] = s) (hn : ∀ j (hj : j < l.length), m < j → l[j] ≠ s) : lastI s l = m := by
 have key : ∀ d, m + 1 + d ≤ l.length → lastI s (l.take (m + 1 + d)) = m := by
  intro d
  induction d with
  | zero => intro _; rw [Nat.add_zero, last_take hm, if_pos h]
  | succ d ih =>
   intro hd
   rw [show m + 1 + (d + 1) = (m + 1 + d) + 1 by omega, last_take (by omega), if_neg (hn _ (by omega) (by omega))]
   exact ih (by omega)
 have := key (l.length - (m + 1)) (by omega)
 rw [show m + 1 + (l.length - (m + 1)) = l.length by omega, List.take_length] at this
 exact this
theorem lastI_no {s : ByteArray} {l : List ByteArray} (hn : ∀ j (hj : j < l.length), l[j] ≠ s) : lastI s l = -1 := by
 have key : ∀ d, d ≤ l.length → lastI s (l.take d) = -1 := by
  intro d
  induction d with
  | zero => intro _; rfl
  | succ d ih =>
   intro hd
   rw [last_take (by omega), if_neg (hn _ (by omega))]
   exact ih (by omega)
 have := key l.length (Nat.le_refl _)
 rwa [List.take_length] at this
def upto {α : Type} (f : Nat → α) (k : Nat) : List α := (List.range k).map f
theorem upto_succ {α : Type} (f : Nat → α) (k : Nat) : upto f (k + 1) = upto f k ++ [f k] := by simp [upto, List.range_succ]
theorem upto_len {α : Type} (f : Nat → α) (k : Nat) : (upto f k).length = k := by simp [upto]
theorem upto_mem {α : Type} {f : Nat → α} {k j : Nat} (h : j < k) : f j ∈ upto f k := by simp only [upto, List.mem_map, List.mem_range]; exact ⟨j, h, rfl⟩
def bwF (l : List ByteArray) (j : Nat) : Nat × ByteArray := (l.length - 1 - j, l[l.length - 1 - j]?.getD ⟨#[]⟩)
theorem bwF_at {l : List ByteArray} {m : Nat} (h : m < l.length) : bwF l (l.length - (m + 1)) = (m, l[m]) := by
 unfold bwF
 rw [show l.length - 1 - (l.length - (m + 1)) = m by omega, List.getElem?_eq_getElem h]; rfl
theorem back1_in (F : Fence) (n : Nat) (h7 : F.fn 213) (hro : F.round = none) (hn : 1 ≤ n) (L Bs n₀ : Nat) (l : List ByteArray) (a : Option Addr) (cap : Nat) (hl : l.length ≤ 1000000) (hBn : Bs < n₀) (J Jx : List (Nat × ByteArray) → World → Prop)
  (hY : ∀ pre x W, J pre W → pre.length < l.length → YieldAt F (n - 1) Tryz.prog L #[.int .i64 (x.1 : Int), .string x.2] W fun e W' =>
   (e = .returned (.bool true) ∧ J (pre ++ [x]) W' ∧ Below n₀ W W') ∨ (e = .returned (.bool false) ∧ Jx (pre ++ [x]) W'))
  (W : World) (hBs : W.cell? ⟨Bs, 0, none⟩ = some (.slice a l.length cap)) (hc : NmL (fun q => q < n₀) W l (.slice a l.length cap)) (h0 : J [] W) :
  CallsIn F n Tryz.prog 213 #[.func (.yield L) #[] #[], .pointer (some ⟨Bs, 0, none⟩)] W fun e W' => (∃ v, e = .returned v) ∧
   ((∃ ys, ys = upto (bwF l) l.length ∧ J ys W') ∨ (∃ pre, (∃ k, k ≤ l.length ∧ pre = upto (bwF l) k) ∧ Jx pre W')) := by
 have HAT := Ld hc.at
 have HL := Ld hl
 have hBS := Ld hBs
 have hln : (l.length : Int) ≤ 1000000 := by omega
 clear hc hl
 refine callsIn_of_wp Tryz.func213 rfl h7 ?_ hro
 simp only [Tryz.ntmps213, List.size_toArray, List.length_cons, List.length_nil, Nat.reduceAdd, Nat.reduceSub, Array.replicate_succ, Array.replicate_zero, List.push_toArray, List.append_toArray, List.nil_append, List.cons_append]
 gi_wp2
 gi_loopw [3] (fun i wr => ∃ m : Nat, m ≤ l.length ∧ i = .int .i64 ((m : Int) - 1) ∧ J (upto (bwF l) (l.length - m)) wr ∧ Below n₀ W wr)
  (fun i _ => (intOf i + 1).toNat)
 case atStart =>
  exact ⟨l.length, Nat.le_refl _, rfl, by rw [Nat.sub_self]; exact h0, Below.refl _ _⟩
 case round =>
  obtain ⟨m, hm, rfl, hJs, hnx⟩ := hrel
  have hb2 : wr.cell? ⟨Bs, 0, none⟩ = some (.slice a l.length cap) := (hnx.cell (p := ⟨Bs, 0, none⟩) hBn).trans hBS.out
  clear hBs
  cases m with
  | zero =>
   have i0 : ((0 : Nat) : Int) - 1 = -1 := rfl
   rw [i0]
   have HJ := Ld hJs
   clear hJs hY
   gi_wp2
   go_end0
   exact ⟨⟨_, rfl⟩, .inl ⟨_, rfl, HJ.out⟩⟩
  | succ m =>
   have hml : m < l.length := by omega
   obtain ⟨g, off, rfl, hg, c0⟩ := HAT.out m hml
   have c1 : wr.cell? ⟨g, off + m, none⟩ = some (.string l[m]) := (hnx.cell (p := ⟨g, off + m, none⟩) hg).trans c0
   have i0 : ((m + 1 : Nat) : Int) - 1 = m := by omega
   have i1 : (m : Int) < (l.length : Int) := by omega
   have i2 : (m : Int) < 1000000 := by have := HL.out; omega
   have HX := Ld (bwF_at hml)
   have HU : Hid (upto (bwF l) (l.length - m) = upto (bwF l) (l.length - (m + 1)) ++ [(m, l[m])]) := Ld (by
    rw [show l.length - m = (l.length - (m + 1)) + 1 by omega, upto_succ, HX.out])
   obtain ⟨fn, tmps, assign, body, hy, hR⟩ := hY _ (m, l[m]) wr hJs (by rw [upto_len]; omega)
   dsimp only at hy
   rw [i0]
   have HN := Ld hnx
   clear i0 hm hY c0 hnx hJs
   gi_wp2
   refine hR.mono ?_
   rintro e W3 (⟨rfl, hJ3, hk3⟩ | ⟨rfl, hJx3⟩)
   ·gi_wp2
    go_roundw
    case rel => exact ⟨m, by omega, rfl, by rw [HU.out]; exact hJ3, HN.out.trans hk3⟩
    case measure => simp [intOf]
   ·gi_wp2
    refine bodyPost_ret (results_none rfl _ _ _) rfl ?_
    exact ⟨⟨_, rfl⟩, .inr ⟨_, ⟨l.length - m, by omega, HU.out.symm⟩, hJx3⟩⟩
theorem back_in (F : Fence) (n : Nat) (h5 : F.fn 177) (hro : F.round = none) (a : Option Addr) (len cap : Nat) (w : World) :
  CallsIn F n Tryz.prog 177 #[.slice a len cap] w fun e w' => e = .returned (.func (.func 213) #[] #[.pointer (some ⟨w.heap.size, 0, none⟩)]) ∧ w' = w.alloc (.cells #[.slice a len cap] 41) := by
 refine callsIn_of_wp Tryz.func177 rfl h5 ?_ hro
 simp only [Tryz.ntmps177, List.size_toArray, List.length_cons, List.length_nil, Nat.reduceAdd, Nat.reduceSub, Array.replicate_succ, Array.replicate_zero, List.push_toArray, List.append_toArray, List.nil_append, List.cons_append]
 gi_wp2
 go_ret
 exact ⟨rfl, rfl⟩
theorem NmL.belowF {n₀ : Nat} {l : List ByteArray} {v : Value} {A B : World} (h : NmL (fun q => q < n₀) A l v) (hb : Below n₀ A B) : NmL (fun q => q < n₀) B l v := by
 refine h.frame (fun k hk _ => hb.block k hk)
theorem back_stops (F : Fence) (n : Nat) (h7 : F.fn 213) (hro : F.round = none) (hn : 1 ≤ n) (Bs n₀ : Nat) (l : List ByteArray) (a : Option Addr) (cap : Nat) (hl : l.length ≤ 1000000) (hBn : Bs < n₀) (w : World) (hn₀ : n₀ ≤ w.heap.size)
  (hc : w.cell? ⟨Bs, 0, none⟩ = some (.slice a l.length cap)) (hI : NmL (fun q => q < n₀) w l (.slice a l.length cap)) :
  SeqStopsK F n Tryz.prog 213 #[.pointer (some ⟨Bs, 0, none⟩)] (fun x : Nat × ByteArray => #[Value.int .i64 (x.1 : Int), Value.string x.2]) (Below n₀) (fun ys => ys = upto (bwF l) l.length) (fun pre => ∃ k, k ≤ l.length ∧ pre = upto (bwF l) k) l.length w := fun L J Jx W hW _ _ hY h0 =>
 back1_in F n h7 hro hn L Bs n₀ l a cap hl hBn J Jx hY W ((hW.cell (p := ⟨Bs, 0, none⟩) (by show Bs < _; omega)).trans hc) (hI.belowF (hW.mono hn₀)) h0
theorem last_in (F : Fence) (n : Nat) (h4 : F.fn 111) (h6 : F.fn 177) (h8 : F.fn 213) (hro : F.round = none) (hn : 3 ≤ n) (a : Option Addr) (cap : Nat) (l : List ByteArray) (s : ByteArray) (hl : l.length ≤ 1000000) (w : World) (hI : NmL (fun q => q < w.heap.size) w l (.slice a l.length cap)) :
  CallsIn F n Tryz.prog 111 #[.slice a l.length cap, .string s] w fun e W' => e = .returned (.int .i64 (lastI s l)) ∧ Below w.heap.size w W' := by
 have h1 : 1 ≤ n := by omega
 refine callsIn_of_wp_marks Tryz.func111 rfl h4 ?_ hro
 simp only [Tryz.ntmps111, List.size_toArray, List.length_cons, List.length_nil, Nat.reduceAdd, Nat.reduceSub, Array.replicate_succ, Array.replicate_zero, List.push_toArray, List.append_toArray, List.nil_append, List.cons_append]
 gi_wp2_with (gi_at_call 177; refine (back_in F (n - 1) h6 hro _ _ _ _).mono ?_; rintro e w' ⟨rfl, rfl⟩)
 have bS := Boxed.new w 9 (.string s)
 have bR := Boxed.new (w.alloc (.cells #[.string s] 9)) 3 (.int .i64 0)
 have bN := Boxed.new ((w.alloc (.cells #[.string s] 9)).alloc (.cells #[.int .i64 0] 3)) 41 (.slice a l.length cap)
 rw [World.size_alloc] at bR
 rw [World.size_alloc, World.size_alloc] at bN
 have hB0 : Below w.heap.size w (((w.alloc (.cells #[.string s] 9)).alloc (.cells #[.int .i64 0] 3)).alloc (.cells #[.slice a l.length cap] 41)) := (((Below.refl _ w).alloc (Nat.le_refl _) _).alloc (by simp) _).alloc (by simp; omega) _
 have hI2 : NmL (fun q => q < w.heap.size + 3) (((w.alloc (.cells #[.string s] 9)).alloc (.cells #[.int .i64 0] 3)).alloc (.cells #[.slice a l.length cap] 41)) l (.slice a l.length cap) := (hI.belowF hB0).mono (fun q _ h => by omega)
 refine wpIn_rangeFunc_ownG hro h1 (gf := 213) (lb := #[.pointer (some ⟨w.heap.size + 2, 0, none⟩)]) rfl h8 (enters_of Tryz.func213 (by kernel_rfl) rfl)
  (back_stops F (n - 1) h8 hro (by omega) (w.heap.size + 2) (w.heap.size + 3) l a cap hl (by omega) _ (by simp) bN.cell hI2) belowK_t (belowK_b (by simp)) (Below.refl _ _) (fun _ => rfl)
  (fun pre W => ((∀ p ∈ pre, p.2 ≠ s) ∧ W.cell? ⟨w.heap.size, 0, none⟩ = some (.string s) ∧ W.cell? ⟨w.heap.size + 1, 0, none⟩ = some (.int .i64 0) ∧ W.frozen? ⟨w.heap.size + 1, 0, none⟩ = false) ∧ Below w.heap.size w W)
  (fun c pre W => (c = .ret ∧ ∃ ini last, pre = ini ++ [last] ∧ (∀ p ∈ ini, p.2 ≠ s) ∧ last.2 = s ∧ W.cell? ⟨w.heap.size + 1, 0, none⟩ = some (.int .i64 (last.1 : Int))) ∧ Below w.heap.size w W)
  (OwnFrom.and (Own.from (fun s A B row hs hg hr => ⟨hs.1, cell_kept hs.2.1 hg hr, cell_kept hs.2.2.1 hg hr, (frozen_kept hs.2.2.1 hg hr).trans hs.2.2.2⟩) _) (ownFrom_below (Nat.le_refl _) (by simp; omega)))
  (fun c => OwnFrom.and (Own.from (fun s A B row hs hg hr => by obtain ⟨hc, ini, last, e1, e2, e3, e4⟩ := hs; exact ⟨hc, ini, last, e1, e2, e3, cell_kept e4 hg hr⟩) _) (ownFrom_below (Nat.le_refl _) (by simp; omega)))
  ⟨⟨by simp, ((bS.alloc _).alloc _).cell, (bR.alloc _).cell, (bR.alloc _).frozen⟩, hB0⟩
  (fun x => { tmps := #[.slice a l.length cap, .string s, undef, .pointer (some ⟨w.heap.size, 0, none⟩), .pointer (some ⟨w.heap.size + 1, 0, none⟩), .int .i64 (x.1 : Int), .string x.2, .slice a l.length cap, .func (.func 213) #[] #[.pointer (some ⟨w.heap.size + 2, 0, none⟩)], .int .i64 (x.1 : Int), .string x.2, undef, undef, undef, undef], defers := [] }) ?assign ?body ?done ?stop
 case assign =>
  intro l x W K hK
  gi_wp2
  exact hK
 case body =>
  rintro L pre x W ⟨⟨hp, hcs, hcr, hfr⟩, hB⟩ _
  have HP := Ld hp
  clear hp
  cases hx : (x.2.toList == s.toList)
  ·have hne : Hid (x.2 ≠ s) := Ld (by intro e; rw [e] at hx; simp at hx)
   gi_wp2
   exact ⟨KeepsFrom.refl _ _, Below.refl _ _, ⟨fun p hp' => (List.mem_append.1 hp').elim (HP.out p) (fun e => by simp at e; subst e; exact hne.out), hcs, hcr, hfr⟩, hB⟩
  ·have hye : Hid (x.2 = s) := Ld (by rw [nm_eq] at hx; exact of_decide_eq_true hx)
   gi_wp2
   exact ⟨(KeepsOthers.setCell _ _ _).from _, ⟨rfl, pre, x, rfl, HP.out, hye.out, World.cell?_setCell_same' _ _ _ (by rw [hcr]; rfl)⟩, hB.setCell (p := ⟨w.heap.size + 1, 0, none⟩) (by show w.heap.size ≤ w.heap.size + 1; omega) _⟩
 case done =>
  rintro D ys W hD rfl ⟨⟨hne, hcs, hcr, hfr⟩, hB⟩ hK
  have HNE := Ld hne
  clear hne
  gi_wp2
  have hK' := (KeepsOthers.setCell W ⟨w.heap.size + 1, 0, none⟩ (.int .i64 (-1))).same D _ hK rfl
  refine ⟨by simp, .inl ⟨_, _, rfl, run_takeDeferred hK', ?_⟩⟩
  have hc5 := cell_kept (World.cell?_setCell_same' W ⟨w.heap.size + 1, 0, none⟩ (.int .i64 (-1)) (by rw [hcr]; rfl)) (grownBy_putObj' _ D (.deferred none)) (fun r e => by cases e; exact ⟨_, hK', rfl⟩)
  have hno : lastI s l = -1 := lastI_no (fun j hj => by
   have := HNE.out _ (upto_mem (f := bwF l) (k := l.length) (j := l.length - (j + 1)) (by omega))
   rw [bwF_at hj] at this; exact this)
  refine ⟨.int .i64 (-1), ?_, by rw [hno], (hB.setCell (p := ⟨w.heap.size + 1, 0, none⟩) (by show w.heap.size ≤ w.heap.size + 1; omega) _).trans (belowK_b (w := w) (Nat.le_refl _) _ D _ _ (by simp at hD; omega) hK' rfl rfl)⟩
  simp [results, Tryz.f111, go_sem, hc5]
 case stop =>
  rintro D c pre W hD ⟨k, hk, rfl⟩ ⟨⟨rfl, ini, last, e1, e2, e3, hcr⟩, hB⟩ hK
  have E1 := Ld e1
  have E2 := Ld e2
  have E3 := Ld e3
  clear e1 e2 e3
  gi_wp2
  refine ⟨by simp, .inl ⟨_, _, rfl, run_takeDeferred hK, ?_⟩⟩
  have hc5 := cell_kept hcr (grownBy_putObj' _ D (.deferred none)) (fun r e => by cases e; exact ⟨_, hK, rfl⟩)
  have e1 := E1.out
  obtain ⟨k', rfl⟩ : ∃ k', k = k' + 1 := by
   cases k with
   | zero => simp [upto] at e1
   | succ k' => exact ⟨k', rfl⟩
  rw [upto_succ] at e1
  obtain ⟨e6, e5⟩ := List.append_inj' e1 rfl
  have e5 : bwF l k' = last := by simpa using e5
  have hm : bwF l k' = (l.length - (k' + 1), l[l.length - (k' + 1)]'(by omega)) := by
   have := bwF_at (l := l) (m := l.length - (k' + 1)) (by omega)
   rw [show l.length - (l.length - (k' + 1) + 1) = k' by omega] at this; exact this
  have hla : lastI s l = (last.1 : Int) := by
   have e7 := E3.out
   rw [← e5, hm] at e7 ⊢
   refine lastI_at (by omega) e7 (fun j hj hjm => ?_)
   have := E2.out (bwF l (l.length - (j + 1))) (by rw [← e6]; exact upto_mem (by omega))
   rw [bwF_at hj] at this; exact this
  refine ⟨.int .i64 (last.1 : Int), ?_, by rw [hla], hB.trans (belowK_b (w := w) (Nat.le_refl _) W D _ _ (by simp at hD; omega) hK rfl rfl)⟩
  simp [results, Tryz.f111, go_sem, hc5]
theorem last_any {ok : Nat → Prop} {w : World} {l : List ByteArray} {v : Value} (s : ByteArray) (h : NmL ok w l v) (hn : l.length ≤ 1000000) :
  Calls Tryz.prog 111 #[v, .string s] w fun e w' => e = .returned (.int .i64 (lastI s l)) ∧ Kept (fun _ => False) w w' := by
 obtain ⟨a, c, rfl⟩ := h.slice
 have h2 : NmL (fun q => q < w.heap.size) w l (.slice a l.length c) := by
  obtain ⟨a', n', c', h1, h2, h3, h5, h4⟩ := h
  refine ⟨a', n', c', h1, h2, h3, h5, fun i hi => ?_⟩
  obtain ⟨g, off, e, _, hc⟩ := h4 i hi
  exact ⟨g, off, e, cell_lt hc, hc⟩
 exact ((callsIn_wide (n := 3)).1 (last_in Fence.wide 3 trivial trivial trivial rfl (by omega) a c l s hn w h2)).mono fun e w' ⟨h1, h2⟩ => ⟨h1, .of_below h2⟩
end Go.Proofs.YtfhedienjnfdcaaGreatDoor
