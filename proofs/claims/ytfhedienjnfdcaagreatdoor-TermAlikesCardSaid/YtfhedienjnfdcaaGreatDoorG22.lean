/- Texts BdL RowT RowB AppS Var NmQ RFrW RRmW RDec RFsW of this proof, in one. -/
import Derived.Test.YtfhedienjnfdcaaGreatDoorG19
import Derived.Test.YtfhedienjnfdcaaGreatDoorG20
import Derived.Deep.RegionLaw
import Derived.Laws.IdiomStrings
set_option linter.unusedVariables false
set_option linter.unusedSimpArgs false
set_option maxRecDepth 100000
set_option maxHeartbeats 32000000
namespace Go.Proofs.YtfhedienjnfdcaaGreatDoor
open Go.RowKit
def BnL (ok : Nat → Prop) (w : World) (l : List (ByteArray × Tm)) (v : Value) : Prop :=
 ∃ a n c, v = .slice a n c ∧ n = l.length ∧ n ≤ c ∧ (a = none → c = 0) ∧ ∀ i (h : i < l.length), ∃ g off ta tn tc ma mn mc, a = some ⟨g, off, none⟩ ∧ ok g ∧ g < w.heap.size ∧ w.cell? ⟨g, off + i * 8, none⟩ = some (.string l[i].1) ∧ C7 w g (off + i * 8 + 1) l[i].2 (.slice ta tn tc) (.slice ma mn mc) ∧ TyL ok w l[i].2.ty.kids (.slice ta tn tc) ∧ TmL ok w l[i].2.kids (.slice ma mn mc)
theorem BnL.nil {ok : Nat → Prop} {w : World} : BnL ok w [] (.slice none 0 0) := ⟨none, 0, 0, rfl, rfl, Nat.le_refl _, fun _ => rfl, fun i h => absurd h (Nat.not_lt_zero _)⟩
theorem BnL.frame {ok : Nat → Prop} {w W : World} {l : List (ByteArray × Tm)} {v : Value} (h : BnL ok w l v) (hs : Same ok w W) : BnL ok W l v := by
 obtain ⟨a, n, c, h1, h2, h3, h5, h4⟩ := h
 refine ⟨a, n, c, h1, h2, h3, h5, fun i hi => ?_⟩
 obtain ⟨g, off, ta, tn, tc, ma, mn, mc, e, hg, _, hc, h7, ht, hm⟩ := h4 i hi
 have hc' := hs.cell hg hc
 exact ⟨g, off, ta, tn, tc, ma, mn, mc, e, hg, cell_lt hc', hc', h7.same hs hg, ht.frame hs, hm.frame hs⟩
theorem BnL.mono {ok ok' : Nat → Prop} {w : World} {l : List (ByteArray × Tm)} {v : Value} (h : BnL ok w l v) (ho : ∀ k, k < w.heap.size → ok k → ok' k) : BnL ok' w l v := by
 obtain ⟨a, n, c, h1, h2, h3, h5, h4⟩ := h
 refine ⟨a, n, c, h1, h2, h3, h5, fun i hi => ?_⟩
 obtain ⟨g, off, ta, tn, tc, ma, mn, mc, e, hg, hl, hc, h7, ht, hm⟩ := h4 i hi
 exact ⟨g, off, ta, tn, tc, ma, mn, mc, e, ho _ hl hg, hl, hc, h7, ht.mono ho, hm.mono ho⟩
theorem BnL.slice {ok : Nat → Prop} {w : World} {l : List (ByteArray × Tm)} {v : Value} (h : BnL ok w l v) : ∃ a c, v = .slice a l.length c := by
 obtain ⟨a, n, c, h1, h2, _⟩ := h
 exact ⟨a, c, by rw [h1, h2]⟩
theorem BnL.at {ok : Nat → Prop} {w : World} {l : List (ByteArray × Tm)} {a : Option Addr} {n c : Nat} (h : BnL ok w l (.slice a n c)) (i : Nat) (hi : i < l.length) : ∃ g off ta tn tc ma mn mc, a = some ⟨g, off, none⟩ ∧ ok g ∧ g < w.heap.size ∧ w.cell? ⟨g, off + i * 8, none⟩ = some (.string l[i].1) ∧ C7 w g (off + i * 8 + 1) l[i].2 (.slice ta tn tc) (.slice ma mn mc) ∧ TyL ok w l[i].2.ty.kids (.slice ta tn tc) ∧ TmL ok w l[i].2.kids (.slice ma mn mc) := by
 obtain ⟨a', n', c', h1, h2, h3, h5, h4⟩ := h
 cases h1
 exact h4 i hi
theorem look_drop {l : List (ByteArray × Tm)} {s : ByteArray} {k : Nat} (h : k < l.length) : look (l.drop k) s = if l[k].1 = s then some l[k].2 else look (l.drop (k + 1)) s := by
 rw [List.drop_eq_getElem_cons h, look]
def BofP (ok : Nat → Prop) (r : Option Tm) (w : World) (e : Ending) (w' : World) : Prop := ∃ tk kk, e = .returned (.tuple #[tmVal (r.getD tm0) tk kk, .bool r.isSome]) ∧ TyL ok w' (r.getD tm0).ty.kids tk ∧ TmL ok w' (r.getD tm0).kids kk ∧ Kept (fun _ => False) w w'
theorem rbof_any {ok : Nat → Prop} {w : World} {l : List (ByteArray × Tm)} {v : Value} (s : ByteArray) (h : BnL ok w l v) (hn : l.length ≤ 1000000) :
  Calls Tryz.prog 130 #[v, .string s] w (BofP (fun q => ok q ∧ q < w.heap.size) (look l s) w) := by
 obtain ⟨a, c, rfl⟩ := h.slice
 have K0 : Kept (fun _ => False) w (w.alloc Z7) := (Kept.refl _ _).alloc _
 have bR : Blk (w.alloc Z7) w.heap.size 28 z27 := Blk.new w 28 z27
 have HAT := Ld (((h.mono (ok' := fun q => ok q ∧ q < w.heap.size) (fun q h1 h2 => ⟨h2, h1⟩)).frame (sK K0)).at)
 have HN := Ld hn
 have HK := Ld K0
 have BR := Ld bR
 clear h hn K0 bR
 go_enter Tryz.func130, Tryz.ntmps130
 go_wp2_with fail
 generalize w.alloc Z7 = w1 at *
 have gR : ∀ i, w1.cell? ⟨w.heap.size, i, none⟩ = [Value.int .i64 0, .string ⟨#[]⟩, .int .i64 0, .int .i64 0, .string ⟨#[]⟩, .slice none 0 0, .slice none 0 0][i]? := BR.out.cell
 have fR : ∀ i, w1.frozen? ⟨w.heap.size, i, none⟩ = false := BR.out.frozen
 go_loop [6] (fun i => ∃ k : Nat, k ≤ l.length ∧ i = .int .i64 k ∧ Hid (look l s = look (l.drop k) s)) (fun i => l.length - (intOf i).toNat)
 case atStart => exact ⟨0, Nat.zero_le _, rfl, Ld rfl⟩
 case round =>
  obtain ⟨k, hk, rfl, hq⟩ := hrel
  by_cases hlt : k < l.length
  ·have i1 : (k : Int) < (l.length : Int) := by omega
   have i2 : (k : Int) < 1000000 := by have := HN.out; omega
   obtain ⟨g, off, ta, tn, tc, ma, mn, mc, rfl, hg, lg, c0, ⟨d0, d1, d2, d3, d4, d5, d6⟩, hty, htm⟩ := HAT.out k hlt
   have HD := Ld (look_drop (s := s) hlt)
   have HTY := Ld hty
   have HTM := Ld htm
   clear hty htm
   cases hs : (l[k].1.toList == s.toList)
   ·have hne : Hid (l[k].1 ≠ s) := Ld (by intro e; rw [e] at hs; simp at hs)
    go_wp2_with fail
    go_round
    case rel => exact ⟨k + 1, by omega, by go_num, Ld (by rw [hq.out, HD.out, if_neg hne.out])⟩
    case measure => simp [intOf]; omega
   ·have hye : Hid (look l s = some l[k].2) := Ld (by
     have e : l[k].1 = s := by rw [nm_eq] at hs; exact of_decide_eq_true hs
     rw [hq.out, HD.out, if_pos e])
    go_wp2_with fail
    exact bodyPost_ret (results_ct Tryz.results130 rfl (load_tm (t := l[k].2) (r7 BR.out rfl))) rfl ⟨_, _, by rw [hye.out]; rfl, by rw [hye.out]; exact HTY.out.frame (set7 (fun q hq => by omega)), by rw [hye.out]; exact HTM.out.frame (set7 (fun q hq => by omega)), k7w HK.out (Or.inr (Nat.le_refl _))⟩
  ·have hkk : k = l.length := by omega
   subst hkk
   have HE : Hid (look l s = none) := Ld (by rw [hq.out, List.drop_length]; rfl)
   go_wp2_with fail
   exact bodyPost_ret (results_ct Tryz.results130 rfl (load_tm (t := tm0) (r7 BR.out rfl))) rfl ⟨_, _, by rw [HE.out]; rfl, by rw [HE.out]; exact .nil (Or.inl rfl), by rw [HE.out]; exact .nil (Or.inl rfl), k7w HK.out (Or.inr (Nat.le_refl _))⟩
def okb (base : Nat) (v : Value) (q : Nat) : Prop := base ≤ q ∧ v.ownBlock ≠ some q
structure RowT (w : World) (base : Nat) (wr : World) (E : List E3) (v : Value) : Prop where
 kp : Kept (fun _ => False) w wr
 own : wr.ownsRow base 28 7 v E.length (flat E)
 el : EL (okb base v) wr E
theorem RowT.tml {w wr : World} {base : Nat} {E : List E3} {v : Value} (h : RowT w base wr E v) : TmL (fun q => base ≤ q) wr (E.map (·.1)) v :=
 tml_of_row' h.own (h.el.mono (fun _ _ h => h.1)) (fun g hg => (h.own.lt g hg).1)
theorem RowT.kept {w wr w' : World} {base : Nat} {E : List E3} {v : Value} (h : RowT w base wr E v) (k : Kept (fun _ => False) wr w') : RowT w base w' E v :=
 ⟨h.kp.trans k, own_keptT h.own k (fun _ _ h => h), h.el.frame (sK k)⟩
theorem RowT.nil {w wr : World} {base : Nat} (k : Kept (fun _ => False) w wr) : RowT w base wr [] (.slice none 0 0) := ⟨k, World.ownsRow_nil _ _ _ _, fun e he => by cases he⟩
theorem RowT.app {w wr w6 W8 : World} {base : Nat} {E F : List E3} {v : Value} {gg n cap H : Nat} (hb : w.heap.size ≤ base) (h : RowT w base wr E v) (k6 : Kept (fun _ => False) wr w6) (hbl : base ≤ wr.heap.size)
  (hF : EL (fun q => wr.heap.size ≤ q) w6 F)
  (own8 : W8.ownsRow base 28 7 (.slice (some ⟨gg, 0, none⟩) n cap) n (flat E ++ flat F)) (hn : n = E.length + F.length) (hgrow : w6.grownBy W8 v.ownBlock) (hat : v.ownBlock = some gg ∨ gg = H) (hH : H = w6.heap.size) :
  RowT w base W8 (E ++ F) (.slice (some ⟨gg, 0, none⟩) n cap) := by
 have kG := kept_grown hgrow
 have z6 := k6.size
 have zk := h.kp.size
 have hvb : ∀ x, v.ownBlock = some x → base ≤ x ∧ x < wr.heap.size := fun x e => h.own.lt x e
 refine ⟨(h.kp.trans k6).via kG (fun x hx e => by have := (hvb x e).1; omega), by rw [flat_app, List.length_append, ← hn]; exact own8, ?_⟩
 have e1 : EL (okb base v) w6 (E ++ F) := (h.el.frame (sK k6)).app (hF.mono (fun q _ hq => ⟨by omega, fun e => by have := (hvb q e).2; omega⟩))
 have e2 := e1.mono (ok' := fun q => okb base v q ∧ okb base (.slice (some ⟨gg, 0, none⟩) n cap) q) (fun q hq hh => ⟨hh, hh.1, fun e => by
  have e1 : gg = q := Option.some.inj e
  rcases hat with hat | hat
  ·exact hh.2 (by rw [hat, e1])
  ·omega⟩)
 exact (e2.frame (Same.of_kept kG (fun q hq e => hq.1.2 e))).mono (fun q _ hq => hq.2)
theorem RowT.step {w wr w6 W8 : World} {base : Nat} {E : List E3} {v tk kk : Value} {t : Tm} {gg cap H : Nat} (hb : w.heap.size ≤ base) (h : RowT w base wr E v) (k6 : Kept (fun _ => False) wr w6) (hbl : base ≤ wr.heap.size)
  (hty : TyL (fun q => wr.heap.size ≤ q) w6 t.ty.kids tk) (htm : TmL (fun q => wr.heap.size ≤ q) w6 t.kids kk)
  (own8 : W8.ownsRow base 28 7 (.slice (some ⟨gg, 0, none⟩) (E.length + 1) cap) (E.length + 1) (flat E ++ tmCells t tk kk)) (o : Obj) (hgrow : (w6.alloc o).grownBy W8 v.ownBlock) (hat : v.ownBlock = some gg ∨ gg = H) (hH : H = w6.heap.size + 1) :
  RowT w base W8 (E ++ [(t, tk, kk)]) (.slice (some ⟨gg, 0, none⟩) (E.length + 1) cap) := by
 refine RowT.app (w6 := w6.alloc o) (F := [(t, tk, kk)]) hb h (k6.alloc _) hbl ?_ (by show W8.ownsRow base 28 7 _ _ (flat E ++ (tmCells t tk kk ++ [])); rw [List.append_nil]; exact own8) rfl hgrow hat (by rw [hH]; simp)
 intro e he
 rw [List.mem_singleton.1 he]
 exact ⟨hty.frame (Same.alloc _ _), htm.frame (Same.alloc _ _)⟩
theorem RowT.one {w wr : World} {base g : Nat} {t : Tm} {tk kk : Value} (k : Kept (fun _ => False) w wr) (hb : Blk wr g 28 (tmCells t tk kk)) (hg : base ≤ g) (hty : TyL (fun q => base ≤ q ∧ q ≠ g) wr t.ty.kids tk) (htm : TmL (fun q => base ≤ q ∧ q ≠ g) wr t.kids kk) :
  RowT w base wr [(t, tk, kk)] (.slice (some ⟨g, 0, none⟩) 1 1) :=
 ⟨k, own_one hb hg, fun e he => by
  rw [List.mem_singleton.1 he]
  exact ⟨hty.mono (fun q _ h => ⟨h.1, fun e => h.2 (Option.some.inj e).symm⟩), htm.mono (fun q _ h => ⟨h.1, fun e => h.2 (Option.some.inj e).symm⟩)⟩⟩
abbrev E4 := (ByteArray × Tm) × Value × Value
def bCells (e : E4) : List Value := .string e.1.1 :: tmCells e.1.2 e.2.1 e.2.2
def flatB : List E4 → List Value
 | [] => []
 | e :: E => bCells e ++ flatB E
def BEL (ok : Nat → Prop) (w : World) (E : List E4) : Prop := ∀ e ∈ E, TyL ok w e.1.2.ty.kids e.2.1 ∧ TmL ok w e.1.2.kids e.2.2
theorem flatB_app : ∀ (E F : List E4), flatB (E ++ F) = flatB E ++ flatB F
 | [], F => rfl
 | x :: E, F => by rw [List.cons_append, flatB, flatB_app E F, flatB, List.append_assoc]
theorem flatB_get : ∀ (E : List E4) (i j : Nat) (h : i < E.length), j < 8 → (flatB E)[i * 8 + j]? = (bCells E[i])[j]?
 | e :: E, 0, j, _, hj => by
  rw [flatB, Nat.zero_mul, Nat.zero_add, List.getElem?_append_left (by show j < 8; exact hj)]; rfl
 | e :: E, i + 1, j, h, hj => by
  rw [flatB, List.getElem?_append_right (by show 8 ≤ _; omega)]
  have := flatB_get E i j (by simpa using h) hj
  rw [show (i + 1) * 8 + j - (bCells e).length = i * 8 + j by show (i + 1) * 8 + j - 8 = _; omega, this]
  rfl
theorem BEL.frame {ok : Nat → Prop} {w w' : World} {E : List E4} (h : BEL ok w E) (hs : Same ok w w') : BEL ok w' E := fun e he => ⟨(h e he).1.frame hs, (h e he).2.frame hs⟩
theorem BEL.snoc {ok : Nat → Prop} {w : World} {E : List E4} {e : E4} (h : BEL ok w E) (ha : TyL ok w e.1.2.ty.kids e.2.1) (hc : TmL ok w e.1.2.kids e.2.2) : BEL ok w (E ++ [e]) := by
 intro x hx
 rcases List.mem_append.1 hx with hx | hx
 ·exact h x hx
 ·rw [List.mem_singleton.1 hx]; exact ⟨ha, hc⟩
theorem bnl_of_row {ok : Nat → Prop} {w : World} {base : Nat} {v : Value} {E : List E4} (hown : w.ownsRow base 53 8 v E.length (flatB E)) (hl : BEL ok w E) (hok : ∀ g, v.ownBlock = some g → ok g) : BnL ok w (E.map (·.1)) v := by
 rcases hown.2 with ⟨rfl, hn⟩ | ⟨g, cap, cur, rfl, hbg, hg, hnc, hcm, hcs, htake⟩
 ·have : E = [] := List.length_eq_zero_iff.1 hn
  subst this; exact .nil
 ·have hb : Blk w g 53 cur.toList := by show w.heap[g]? = _; rw [hg]
  have hc : ∀ i j, i < E.length → j < 8 → w.cell? ⟨g, 0 + i * 8 + j, none⟩ = (flatB E)[i * 8 + j]? := by
   intro i j hi hj
   rw [hb.cell, ← htake, List.getElem?_take, if_pos (by omega), Nat.zero_add]
  refine ⟨some ⟨g, 0, none⟩, E.length, cap, rfl, by simp, by omega, (fun e => by cases e), fun i hi => ?_⟩
  have hi' : i < E.length := by simpa using hi
  have e1 : (E.map (·.1))[i] = E[i].1 := List.getElem_map ..
  obtain ⟨ta, tn, tc, hT⟩ := (hl _ (List.getElem_mem hi')).1.slice
  obtain ⟨ma, mn, mc, hM⟩ := (hl _ (List.getElem_mem hi')).2.slice
  have q : ∀ j (hj : j < 8), w.cell? ⟨g, 0 + i * 8 + j, none⟩ = (bCells E[i])[j]? := fun j hj => (hc i j hi' hj).trans (flatB_get E i j hi' hj)
  rw [e1]
  refine ⟨g, 0, ta, tn, tc, ma, mn, mc, rfl, hok g rfl, hb.lt, q 0 (by omega), ⟨?_, ?_, ?_, ?_, ?_, ?_, ?_⟩, by rw [← hT]; exact (hl _ (List.getElem_mem hi')).1, by rw [← hM]; exact (hl _ (List.getElem_mem hi')).2⟩
  ·exact q 1 (by omega)
  ·exact q 2 (by omega)
  ·exact q 3 (by omega)
  ·exact q 4 (by omega)
  ·exact q 5 (by omega)
  ·rw [← hT]; exact q 6 (by omega)
  ·rw [← hM]; exact q 7 (by omega)
structure RowB (ok : Nat → Prop) (w : World) (base : Nat) (wr : World) (E : List E4) (v : Value) : Prop where
 kp : Kept (fun _ => False) w wr
 own : wr.ownsRow base 53 8 v E.length (flatB E)
 el : BEL ok wr E
 lo : ∀ q, ok q → q < base
theorem RowB.nil {ok : Nat → Prop} {w wr : World} {base : Nat} (k : Kept (fun _ => False) w wr) (lo : ∀ q, ok q → q < base) : RowB ok w base wr [] (.slice none 0 0) := ⟨k, World.ownsRow_nil _ _ _ _, (fun e he => by cases he), lo⟩
theorem RowB.kept {ok : Nat → Prop} {w wr w' : World} {base : Nat} {E : List E4} {v : Value} (h : RowB ok w base wr E v) (k : Kept (fun _ => False) wr w') : RowB ok w base w' E v :=
 ⟨h.kp.trans k, own_keptT h.own k (fun _ _ h => h), h.el.frame (sK k), h.lo⟩
theorem BEL.mono {ok ok' : Nat → Prop} {w : World} {E : List E4} (h : BEL ok w E) (ho : ∀ k, k < w.heap.size → ok k → ok' k) : BEL ok' w E := fun e he => ⟨(h e he).1.mono ho, (h e he).2.mono ho⟩
theorem RowB.bnl {ok : Nat → Prop} {w wr : World} {base : Nat} {E : List E4} {v : Value} (h : RowB ok w base wr E v) : BnL (fun q => ok q ∨ base ≤ q) wr (E.map (·.1)) v :=
 bnl_of_row h.own (h.el.mono (fun _ _ h => .inl h)) (fun g hg => .inr (World.ownsRow.lt h.own g hg).1)
theorem RowB.app1 {ok : Nat → Prop} {w wr w6 W8 : World} {base : Nat} {E : List E4} {v v' : Value} {e : E4} (hb : w.heap.size ≤ base) (h : RowB ok w base wr E v) (k6 : Kept (fun _ => False) wr w6) (ht : TyL ok w6 e.1.2.ty.kids e.2.1) (hm : TmL ok w6 e.1.2.kids e.2.2)
  (own8 : W8.ownsRow base 53 8 v' (E.length + 1) (flatB E ++ bCells e)) (hgrow : w6.grownBy W8 v.ownBlock) : RowB ok w base W8 (E ++ [e]) v' := by
 have kG := kept_grown1 hgrow
 have hvb : ∀ x, v.ownBlock = some x → base ≤ x := fun x e => (World.ownsRow.lt h.own x e).1
 refine ⟨(h.kp.trans k6).via1 kG (fun x hx e => by have := hvb x e; omega), ?_, ?_, h.lo⟩
 ·rw [flatB_app, List.length_append]
  show W8.ownsRow base 53 8 v' (E.length + 1) (flatB E ++ (bCells e ++ []))
  rw [List.append_nil]; exact own8
 ·exact ((h.el.frame (sK k6)).snoc ht hm).frame (Same.of_kept kG (fun q hq e => by have := hvb q e; have := h.lo q hq; omega))
theorem info_bd : ∃ i, Tryz.prog.info? 53 = some i ∧ i.zero = some (.agg #[.string ⟨#[]⟩, .int .i64 0, .string ⟨#[]⟩, .int .i64 0, .int .i64 0, .string ⟨#[]⟩, .slice none 0 0, .slice none 0 0]) ∧ i.size = 8 ∧ i.bytes = 120 := by
 have : (Tryz.prog.info? 53).map (fun i => (i.zero, i.size, i.bytes)) = some (some (.agg #[.string ⟨#[]⟩, .int .i64 0, .string ⟨#[]⟩, .int .i64 0, .int .i64 0, .string ⟨#[]⟩, .slice none 0 0, .slice none 0 0]), 8, 120) := by kernel_rfl
 cases hh : Tryz.prog.info? 53 with
 | none => rw [hh] at this; cases this
 | some i => rw [hh] at this; simp only [Option.map_some, Option.some.injEq, Prod.mk.injEq] at this; exact ⟨i, rfl, this.1, this.2.1, this.2.2⟩
theorem oneB {s : ByteArray} {u : Tm} {a d : Option Addr} {n c e f : Nat} : ∀ x, x ∈ bCells ((s, u), .slice a n c, .slice d e f) → x.oneCell' = true := by
 intro x hx
 rcases List.mem_cons.1 hx with rfl | hx
 ·rfl
 ·exact oneT x hx
theorem TmL.src {ok : Nat → Prop} {w : World} {l : List Tm} {v : Value} (h : TmL ok w l v) : ∃ E : List E3, E.map (·.1) = l ∧ EL ok w E ∧ Src w v l.length (flat E) := by
 obtain ⟨a, n, c, rfl⟩ := h.slice
 have hn := h.len
 cases a with
 | none =>
  have : l = [] ∧ n = 0 ∧ c = 0 := by
   generalize hv : Value.slice none n c = v at h
   cases h with
   | nil he =>
    rcases he with he | ⟨_, _, he⟩ <;> rw [he] at hv <;> cases hv
    exact ⟨rfl, rfl, rfl⟩
   | mk => cases hv
  obtain ⟨rfl, rfl, rfl⟩ := this
  exact ⟨[], rfl, (fun e he => by cases he), .inl ⟨rfl, rfl, rfl⟩⟩
 | some ad =>
  obtain ⟨E, h1, h2, h3, h4⟩ := h.row
  exact ⟨E, h1, h2, .inr ⟨ad, c, by rw [hn], h4⟩⟩
theorem flat_size (E : List E3) : (flat E).length = E.length * 7 := flat_len E
theorem RowT.app2 {w wr W8 : World} {base : Nat} {E F : List E3} {v v' : Value} (hb : w.heap.size ≤ base) (h : RowT w base wr E v) (hF : EL (okb base v) wr F)
  (own8 : W8.ownsRow base 28 7 v' (E.length + F.length) (flat E ++ flat F)) (hgrow : wr.grownBy W8 v.ownBlock) (hat : v'.ownBlock = v.ownBlock ∨ v'.ownBlock = some wr.heap.size) :
  RowT w base W8 (E ++ F) v' := by
 have kG := kept_grown hgrow
 have zk := h.kp.size
 have hvb : ∀ x, v.ownBlock = some x → base ≤ x ∧ x < wr.heap.size := fun x e => h.own.lt x e
 refine ⟨h.kp.via kG (fun x hx e => by have := (hvb x e).1; omega), by rw [flat_app, List.length_append]; exact own8, ?_⟩
 have e2 := (h.el.app hF).mono (ok' := fun q => okb base v q ∧ okb base v' q) (fun q hq hh => ⟨hh, hh.1, fun e => by
  rcases hat with hat | hat
  ·exact hh.2 (by rw [← hat, e])
  ·rw [hat] at e
   have := Option.some.inj e
   omega⟩)
 exact (e2.frame (Same.of_kept kG (fun q hq e => hq.1.2 e))).mono (fun q _ hq => hq.2)
theorem RowT.src {w wr : World} {base : Nat} {E : List E3} {v : Value} (h : RowT w base wr E v) : Src wr v E.length (flat E) := by
 have h0 := h.own
 rcases h.own.2 with ⟨rfl, hn⟩ | ⟨g, cap, cur, rfl, hr⟩
 ·have : E = [] := List.length_eq_zero_iff.1 hn
  subst this
  exact .inl ⟨rfl, rfl, rfl⟩
 ·exact .inr ⟨_, _, rfl, own_cells h0⟩
theorem RowT.one' {w wr : World} {base : Nat} {E : List E3} {v : Value} (h : RowT w base wr E v) : ∀ x ∈ flat E, x.oneCell' = true := h.el.one
theorem frGo_ext {U V : List ByteArray} (h : ∀ s, mb s U = mb s V) (b : List UInt8) : ∀ (f k : Nat), frGo b U f k = frGo b V f k
 | 0, k => rfl
 | f + 1, k => by rw [frGo, frGo, h, frGo_ext h b f]
theorem freshS_ext {U V : List ByteArray} (h : ∀ s, mb s U = mb s V) (n : ByteArray) : freshS n U = freshS n V := by
 unfold freshS frFrom
 rw [h, frGo_ext h]
def wordV (nm : ByteArray) (k : Nat) : ByteArray := match k with
 | 0 => nm
 | 1 => str [120]
 | 2 => str [121]
 | 3 => str [122]
 | 4 => str [110]
 | 5 => str [120, 49]
 | 6 => str [97]
 | _ => str [102]
def pickV (l : List Int) (at_ : Nat) : Nat := if l.length = 0 then 0 else (l.getD (at_ % l.length) 0 % 8).toNat
def exL (l : List ByteArray) (s : ByteArray) : List ByteArray := l.filter fun x => !decide (x = s)
def varZ (l : List Int) (nm : ByteArray) (body : Tm) (at_ : Nat) : ByteArray := freshS (wordV nm (pickV l at_)) (exL (fr body) nm)
def varK (g : Tm → Nat → Tm × Nat) : List Tm → Nat → List Tm × Nat
 | [], i => ([], i)
 | t :: ks, i => ((g t i).1 :: (varK g ks (g t i).2).1, (varK g ks (g t i).2).2)
def varF (l : List Int) : Nat → Tm → Nat → Tm × Nat
 | 0, t, i => (t, i)
 | f + 1, .mk op nm N ty ks, i =>
  if binderB op then
   (.mk op (varZ l nm (ks.getD 1 (nameT nm)) i) N ty (varK (varF l f) (ks.set 1 (subT freshS (ks.getD 1 (nameT nm)) [(nm, nameT (varZ l nm (ks.getD 1 (nameT nm)) i))])) (i + 1)).1,
    (varK (varF l f) (ks.set 1 (subT freshS (ks.getD 1 (nameT nm)) [(nm, nameT (varZ l nm (ks.getD 1 (nameT nm)) i))])) (i + 1)).2)
  else (.mk op nm N ty (varK (varF l f) ks i).1, (varK (varF l f) ks i).2)
theorem exL_mem {l : List ByteArray} {s x : ByteArray} : x ∈ exL l s ↔ x ∈ l ∧ x ≠ s := by
 unfold exL; rw [List.mem_filter]; simp
theorem exL_len (l : List ByteArray) (s : ByteArray) : (exL l s).length ≤ l.length := List.length_filter_le _ _
theorem word_ident {nm : ByteArray} (h : identB nm = true) (k : Nat) : identB (wordV nm k) = true := by
 unfold wordV
 split <;> first | exact h | kernel_rfl
theorem varZ_ident {l : List Int} {nm : ByteArray} {body : Tm} {i : Nat} (h : identB nm = true) (hM : tmN body ≤ 700000) : identB (varZ l nm body i) = true := by
 unfold varZ
 refine freshS_ident (word_ident h _) ?_
 have := exL_len (fr body) nm
 have := frs_len body
 omega
theorem varZ_not {l : List Int} {nm : ByteArray} {body : Tm} {i : Nat} (hM : tmN body ≤ 700000) {s : ByteArray} (hs : s ∈ fr body) (hn : s ≠ nm) : s ≠ varZ l nm body i := by
 intro e
 have := freshS_good (wordV nm (pickV l i)) (exL (fr body) nm) (by
  have := exL_len (fr body) nm
  have := frs_len body
  omega)
 have h2 := (mb_iff s _).2 (exL_mem.2 ⟨hs, hn⟩)
 unfold varZ at e
 rw [← e, h2] at this; cases this
theorem frB_one (nm z : ByteArray) : frB [(nm, nameT z)] = [z] := by rw [frB, frB, fr_nameT]; rfl
theorem rename_body {nm z : ByteArray} {body : Tm} (hM : tmN body ≤ 700000) (hz : ∀ s, s ∈ fr body → s ≠ nm → s ≠ z) (ρ : ByteArray → Db) : ev (upE z ρ) (subT freshS body [(nm, nameT z)]) = ev (upE nm ρ) body := by
 rw [ev_sub freshS_FS body _ _ (by rw [frB_one, List.length_singleton]; omega)]
 apply ev_cong
 intro s hs
 unfold evB
 rw [look]
 by_cases e : nm = s
 ·rw [if_pos e]
  simp only
  rw [nameT_ev]
  unfold upE; rw [if_pos rfl, if_pos e.symm]
 ·rw [if_neg e]
  simp only [look]
  unfold upE
  rw [if_neg (hz s hs (Ne.symm e)), if_neg (Ne.symm e)]
theorem varK_len (g : Tm → Nat → Tm × Nat) : ∀ (ks : List Tm) (i : Nat), (varK g ks i).1.length = ks.length
 | [], i => rfl
 | t :: ks, i => by rw [varK, List.length_cons, varK_len g ks, List.length_cons]
theorem varK_mem {g : Tm → Nat → Tm × Nat} {P : Tm → Prop} : ∀ {ks : List Tm} {i : Nat}, (∀ t ∈ ks, ∀ j, P (g t j).1) → ∀ u ∈ (varK g ks i).1, P u
 | [], i, h, u, hu => by cases hu
 | t :: ks, i, h, u, hu => by
  rw [varK] at hu
  rcases List.mem_cons.1 hu with rfl | hu
  ·exact h t (by simp) i
  ·exact varK_mem (fun t ht => h t (List.mem_cons_of_mem _ ht)) u hu
theorem varK_ev {g : Tm → Nat → Tm × Nat} (bi : Bool) (nm : ByteArray) (ρ : ByteArray → Db) : ∀ {ks : List Tm} {i j : Nat}, (∀ t ∈ ks, ∀ j ρ, ev ρ (g t j).1 = ev ρ t) → evs bi nm ρ j (varK g ks i).1 = evs bi nm ρ j ks
 | [], i, j, h => rfl
 | t :: ks, i, j, h => by
  rw [varK, evs, evs, varK_ev bi nm ρ (fun t ht => h t (List.mem_cons_of_mem _ ht)), h t (by simp)]
theorem tmD_kid {ks : List Tm} {t : Tm} (h : t ∈ ks) : tmD t ≤ tmDs ks ∧ tmN t ≤ tmNs ks := by
 induction ks with
 | nil => cases h
 | cons a ks ih =>
  rw [tmDs, tmNs]
  rcases List.mem_cons.1 h with rfl | h
  ·omega
  ·have := ih h; omega
theorem sub1_ok {nm z : ByteArray} {body : Tm} (hb : OkTm body) (hz : namedB z = true) (hM : tmN body ≤ 700000) : OkTm (subT freshS body [(nm, nameT z)]) :=
 sub_ok hb _ (fun b hb => by rw [List.mem_singleton.1 hb]; exact nameT_ok hz) (by rw [frB_one, List.length_singleton]; omega)
theorem szD_up {ρ : ByteArray → Db} (h : ∀ s, szD (ρ s) = 1) (nm s : ByteArray) : szD (upE nm ρ s) = 1 := by
 unfold upE; split
 ·rfl
 ·rw [szD_ren]; exact h s
theorem dpD_up {ρ : ByteArray → Db} (h : ∀ s, dpD (ρ s) = 1) (nm s : ByteArray) : dpD (upE nm ρ s) = 1 := by
 unfold upE; split
 ·rfl
 ·rw [dpD_ren]; exact h s
theorem sub1_size {nm z : ByteArray} {body : Tm} (hb : OkTm body) (hz : namedB z = true) (hzf : ∀ s, s ∈ fr body → s ≠ nm → s ≠ z) (hM : tmN body ≤ 700000) : tmN (subT freshS body [(nm, nameT z)]) = tmN body ∧ tmD (subT freshS body [(nm, nameT z)]) = tmD body := by
 have e := rename_body hM hzf .fv
 have h1 := sub1_ok (nm := nm) hb hz hM
 constructor
 ·rw [← ev_size _ (upE z .fv) h1.nw (szD_up (fun _ => rfl) z), e, ev_size _ (upE nm .fv) hb.nw (szD_up (fun _ => rfl) nm)]
 ·rw [← ev_depth _ (upE z .fv) h1.nw (dpD_up (fun _ => rfl) z), e, ev_depth _ (upE nm .fv) hb.nw (dpD_up (fun _ => rfl) nm)]
theorem vary_main (l : List Int) : ∀ (f : Nat) (t : Tm) (i : Nat), OkTm t → tmN t ≤ 700000 → tmD t ≤ f → OkTm (varF l f t i).1 ∧ ∀ ρ, ev ρ (varF l f t i).1 = ev ρ t := by
 intro f
 induction f with
 | zero => intro t i h _ _; exact ⟨h, fun _ => rfl⟩
 | succ f ih =>
  intro t i h hM hD
  cases h with
  | mk hf hn hk =>
   rename_i op nm N ty ks
   rw [tmN] at hM
   rw [tmD] at hD
   rw [varF]
   cases hb : binderB op
   ·simp only [Bool.false_eq_true, if_false]
    have hkk : ∀ t ∈ ks, ∀ j, OkTm (varF l f t j).1 ∧ ∀ ρ, ev ρ (varF l f t j).1 = ev ρ t := fun t ht j => ih t j (hk t ht) (by have := (tmD_kid ht).2; omega) (by have := (tmD_kid ht).1; omega)
    refine ⟨.mk (by rw [varK_len]; exact hf) (by rw [varK_len]; exact hn) (varK_mem (fun t ht j => (hkk t ht j).1)), fun ρ => ?_⟩
    rw [ev, ev]
    split
    ·rfl
    ·rw [varK_ev _ _ _ (fun t ht j ρ => (hkk t ht j).2 ρ)]
   ·simp only [if_true]
    have hid := formed_ident hf hb
    have e2 := binder_kids hb (formed_parts hf).1
    match ks, e2 with
    | [d, body], _ =>
     have eg : ([d, body] : List Tm).getD 1 (nameT nm) = body := rfl
     rw [eg]
     have hbo := hk body (by simp)
     simp only [tmNs] at hM
     simp only [tmDs] at hD
     have hz1 := varZ_ident (l := l) (i := i) hid (show tmN body ≤ 700000 by omega)
     have hz2 := fun s hs hn => varZ_not (l := l) (nm := nm) (body := body) (i := i) (by omega) (s := s) hs hn
     generalize varZ l nm body i = z at *
     have hsz := sub1_size hbo (ident_named hz1) hz2 (by omega)
     have hso := sub1_ok (nm := nm) hbo (ident_named hz1) (by omega)
     have hre := rename_body (nm := nm) (z := z) (body := body) (by omega) hz2
     generalize subT freshS body [(nm, nameT z)] = body' at *
     have hkk : ∀ t ∈ ([d, body] : List Tm).set 1 body', ∀ j, OkTm (varF l f t j).1 ∧ ∀ ρ, ev ρ (varF l f t j).1 = ev ρ t := by
      intro t ht j
      have ht : t ∈ [d, body'] := ht
      rcases List.mem_cons.1 ht with rfl | ht
      ·exact ih _ j (hk _ (by simp)) (by omega) (by omega)
      ·rw [List.mem_singleton.1 ht]
       exact ih _ j hso (by omega) (by omega)
     refine ⟨.mk (by rw [varK_len]; exact formed_name2 hf hb hz1) (by rw [varK_len]; exact hn) (varK_mem (fun t ht j => (hkk t ht j).1)), fun ρ => ?_⟩
     rw [ev, ev, if_neg (binder_ne hb).1, if_neg (binder_ne hb).1, varK_ev _ _ _ (fun t ht j ρ => (hkk t ht j).2 ρ), hb]
     show Db.nd op N ty [ev ρ d, ev (upE z ρ) body'] = Db.nd op N ty [ev ρ d, ev (upE nm ρ) body]
     rw [hre]
def varyT (l : List Int) (t : Tm) : Tm := (varF l (tmD t) t 0).1
theorem vary_ok {l : List Int} {t : Tm} (h : OkTm t) (hM : tmN t ≤ 700000) : OkTm (varyT l t) := (vary_main l _ t 0 h hM (Nat.le_refl _)).1
theorem vary_db {l : List Int} {t : Tm} (h : OkTm t) (hM : tmN t ≤ 700000) : dbT (varyT l t) = dbT t := (vary_main l _ t 0 h hM (Nat.le_refl _)).2 _
theorem mb_drop {s : ByteArray} {l : List ByteArray} {k : Nat} (h : k < l.length) : mb s (l.drop k) = (decide (l[k] = s) || mb s (l.drop (k + 1))) := by
 rw [List.drop_eq_getElem_cons h]; unfold mb; rw [List.any_cons]
theorem rinN_any {ok : Nat → Prop} {w : World} {l : List ByteArray} {v : Value} (s : ByteArray) (h : NmL ok w l v) (hn : l.length ≤ 10000000) :
  Calls Tryz.prog 129 #[.string s, v] w fun e w' => e = .returned (.bool (mb s l)) ∧ w = w' := by
 obtain ⟨a, c, rfl⟩ := h.slice
 have HAT := Ld (fun i hi => h.at i hi)
 have HN := Ld hn
 clear h hn
 go_enter Tryz.func129, Tryz.ntmps129
 go_wp2_with fail
 go_loop [5] (fun i => ∃ k : Nat, k ≤ l.length ∧ i = .int .i64 k ∧ Hid (mb s l = mb s (l.drop k))) (fun i => l.length - (intOf i).toNat)
 case atStart => exact ⟨0, Nat.zero_le _, rfl, Ld rfl⟩
 case round =>
  obtain ⟨k, hk, rfl, hq⟩ := hrel
  by_cases hlt : k < l.length
  ·have i1 : (k : Int) < (l.length : Int) := by omega
   have i2 : (k : Int) < 10000000 := by have := HN.out; omega
   obtain ⟨g, off, rfl, _, c0⟩ := HAT.out k hlt
   have HS := Ld (mb_drop (s := s) hlt)
   cases hs : (l[k].toList == s.toList)
   ·have hne : Hid (decide (l[k] = s) = false) := Ld (by rw [nm_eq] at hs; exact hs)
    go_wp2_with fail
    go_round
    case rel => exact ⟨k + 1, by omega, by go_num, Ld (by rw [hq.out, HS.out, hne.out]; rfl)⟩
    case measure => simp [intOf]; omega
   ·have hye : Hid (decide (l[k] = s) = true) := Ld (by rw [nm_eq] at hs; exact hs)
    go_wp2_with fail
    go_ret
    exact ⟨by rw [hq.out, HS.out, hye.out]; rfl, rfl⟩
  ·have hkk : k = l.length := by omega
   subst hkk
   have HE : Hid (mb s l = false) := Ld (by rw [hq.out, List.drop_length]; rfl)
   go_wp2_with fail
   go_ret
   exact ⟨by rw [HE.out]; rfl, rfl⟩
theorem exL_drop {s : ByteArray} {l : List ByteArray} {k : Nat} (h : k < l.length) : exL (l.drop k) s = (if decide (l[k] = s) then [] else [l[k]]) ++ exL (l.drop (k + 1)) s := by
 rw [List.drop_eq_getElem_cons h]; unfold exL; rw [List.filter_cons]
 cases hd : decide (l[k] = s) <;> simp
theorem rexc_any {ok : Nat → Prop} {w : World} {l : List ByteArray} {v : Value} (s : ByteArray) (h : NmL ok w l v) (hn : l.length ≤ 1000000) :
  Calls Tryz.prog 124 #[v, .string s] w fun e w' => ∃ v', e = .returned v' ∧ NRow w w.heap.size w' (exL l s) v' := by
 obtain ⟨i9, hi9, hz9, hs9, hb9⟩ := info_str
 have HI := Ld hi9
 have HZ := Ld hz9
 have HS := Ld hs9
 have HB := Ld hb9
 obtain ⟨a, c, rfl⟩ := h.slice
 have HAT := Ld (fun W (k : Kept (fun _ => False) w W) => (h.frame (sK k)).at)
 have HN := Ld hn
 clear h hi9 hz9 hs9 hb9 hn
 go_enter Tryz.func124, Tryz.ntmps124
 go_wp2_with fail
 go_loopw [5, 6] (fun v i wr => ∃ (k : Nat) (out : List ByteArray), k ≤ l.length ∧ i = .int .i64 k ∧ NRow w w.heap.size wr out v ∧ Hid (exL l s = out ++ exL (l.drop k) s ∧ out.length ≤ k)) (fun v i _ => l.length - (intOf i).toNat)
 case atStart => exact ⟨0, [], Nat.zero_le _, rfl, ⟨Kept.refl _ _, World.ownsRow_nil _ _ _ _⟩, Ld ⟨rfl, Nat.le_refl _⟩⟩
 case round =>
  obtain ⟨k, out, hkl, rfl, hR, hq⟩ := hrel
  obtain ⟨va, vc, hv⟩ := hR.nml.slice
  subst hv
  have R := Ld hR
  clear hR
  by_cases hlt : k < l.length
  ·have i1 : (k : Int) < (l.length : Int) := by omega
   have i2 : (k : Int) < 1000000 := by have := HN.out; omega
   obtain ⟨g, off, rfl, _, c0⟩ := HAT.out wr R.out.kp k hlt
   have HD := Ld (exL_drop (s := s) hlt)
   cases hs : (l[k].toList == s.toList)
   ·have hne : Hid (decide (l[k] = s) = false) := Ld (by rw [nm_eq] at hs; exact hs)
    have hN2 : Hid (exL l s = (out ++ [l[k]]) ++ exL (l.drop (k + 1)) s) := Ld (by rw [hq.out.1, HD.out, hne.out, List.append_assoc]; rfl)
    have hLn : Hid (out.length ≤ k) := Ld hq.out.2
    go_wp2_with (at_builtin; refine wpList_app_src rfl (.tmp 19) (.tmp 24) _ rfl w.heap.size 9 i9 _ 1 16 Tryz.underlying41 HI.out HZ.out HS.out HB.out rfl (by decide) (.slice va out.length vc) out.length (out.map Value.string) rfl (R.out.own.alloc _) (.slice (some ⟨wr.heap.size, 0, none⟩) 1 1) 1 [.string l[k]] rfl (.inr ⟨_, _, rfl, cell_one_new _ _ _⟩) rfl (strs_one [l[k]]) ?_ ?_ ?_ ?_)
    ·have := hLn.out; unfold maxLen; omega
    ·have := hLn.out; omega
    ·have := R.out.kp.size; simp; omega
    intro v2 w2 own2 hg2 hat2
    have R2 := Ld (NRow.app (W := wr.alloc (.cells #[.string l[k]] 9)) (r := [l[k]]) ⟨R.out.kp.alloc _, R.out.own.alloc _⟩ (Nat.le_refl _) own2 hg2)
    clear own2 hg2 hat2
    go_wp2_with fail
    go_roundw
    case rel => exact ⟨k + 1, _, by omega, by go_num, R2.out, Ld ⟨hN2.out, by have := hLn.out; simp; omega⟩⟩
    case measure => simp [intOf]; omega
   ·have hye : Hid (decide (l[k] = s) = true) := Ld (by rw [nm_eq] at hs; exact hs)
    have hN2 : Hid (exL l s = out ++ exL (l.drop (k + 1)) s) := Ld (by rw [hq.out.1, HD.out, hye.out]; rfl)
    go_wp2_with fail
    go_roundw
    case rel => exact ⟨k + 1, _, by omega, by go_num, R.out, Ld ⟨hN2.out, by have := hq.out.2; omega⟩⟩
    case measure => simp [intOf]; omega
  ·have hkk : k = l.length := by omega
   subst hkk
   have HE : Hid (exL l s = out) := Ld (by rw [hq.out.1, List.drop_length]; simp [exL])
   go_wp2_with fail
   go_ret
   exact ⟨_, rfl, by rw [HE.out]; exact R.out⟩
theorem frLs_drop {B : List ByteArray} {bi : Bool} {nm : ByteArray} {l : List Tm} {k : Nat} (h : k < l.length) : frLs B bi nm k (l.drop k) = frL (if bi && k == 1 then B ++ [nm] else B) l[k] ++ frLs B bi nm (k + 1) (l.drop (k + 1)) := by
 rw [List.drop_eq_getElem_cons h, frLs]
theorem frL_len : ∀ (t : Tm) (B : List ByteArray), (frL B t).length ≤ tmN t := by
 intro t
 induction t using Tm.rec (motive_2 := fun l => ∀ (B : List ByteArray) (bi : Bool) (nm : ByteArray) (i : Nat), (frLs B bi nm i l).length ≤ tmNs l) with
 | mk op nm N ty l ih =>
  intro B
  rw [frL, tmN]
  split
  ·split <;> simp
  ·have := ih B (binderB op) nm 0; omega
 | nil => exact Nat.le_refl _
 | cons t l iht ihl =>
  rename_i B bi nm i
  rw [frLs, List.length_append, tmNs]
  have h1 := iht (if bi && i == 1 then B ++ [nm] else B)
  have h2 := ihl B bi nm (i + 1)
  omega
theorem own_name {w : World} {base g : Nat} {s : ByteArray} (hb : Blk w g 9 [.string s]) (hg : base ≤ g) : w.ownsRow base 9 1 (.slice (some ⟨g, 0, none⟩) 1 1) [s].length ([s].map Value.string) :=
 ⟨rfl, .inr ⟨g, 1, _, rfl, hg, hb, Nat.le_refl _, by unfold maxLen; omega, rfl, rfl⟩⟩
def RFrC (t : Tm) : Prop := ∀ (B : List ByteArray) (w : World) (ok okB : Nat → Prop) (tk kk v : Value), TyL ok w t.ty.kids tk → TmL ok w t.kids kk → NmL okB w B v → B.length + tmD t ≤ 900000 → tmN t ≤ 700000 →
 Calls Tryz.prog 88 #[tmVal t tk kk, v] w fun e w' => ∃ v', e = .returned v' ∧ NRow w w.heap.size w' (frL B t) v'
theorem rfree_name {nm : ByteArray} {N : Int} {ty : Ty} {l : List Tm} : RFrC (.mk 20 nm N ty l) := by
 intro B w ok okB tk kk v h1 h2 hB hd hz
 have h1 : TyL ok w ty.kids tk := h1
 have h2 : TmL ok w l kk := h2
 obtain ⟨a, n, c, rfl⟩ := h1.slice
 obtain ⟨ma, mn, mc, rfl⟩ := h2.slice
 change Calls Tryz.prog 88 #[.agg #[.int .i64 20, .string nm, .int .i64 N, .int .i64 ty.kind, .string ty.name, .slice a n c, .slice ma mn mc], v] w _
 have K1 : Kept (fun _ => False) w (w.alloc (.cells #[.int .i64 20, .string nm, .int .i64 N, .int .i64 ty.kind, .string ty.name, .slice a n c, .slice ma mn mc] 28)) := (Kept.refl _ _).alloc _
 have HI := Ld (rinN_any nm (hB.frame (sK K1)) (by omega))
 have HK := Ld K1
 have HR : Hid (frL B (.mk 20 nm N ty l) = if mb nm B then [] else [nm]) := Ld (by rw [frL, if_pos rfl])
 clear h1 h2 hB hd hz K1
 generalize frL B (.mk 20 nm N ty l) = r at *
 go_enter Tryz.func88, Tryz.ntmps88
 go_wp2_with fail
 have bA := Ld (Blk.new w 28 [.int .i64 20, .string nm, .int .i64 N, .int .i64 ty.kind, .string ty.name, .slice a n c, .slice ma mn mc])
 change Hid (Blk (w.alloc (.cells #[.int .i64 20, .string nm, .int .i64 N, .int .i64 ty.kind, .string ty.name, .slice a n c, .slice ma mn mc] 28)) _ _ _) at bA
 generalize w.alloc (.cells #[.int .i64 20, .string nm, .int .i64 N, .int .i64 ty.kind, .string ty.name, .slice a n c, .slice ma mn mc] 28) = w1 at *
 refine HI.out.mono ?_
 rintro e w2 ⟨rfl, rfl⟩
 cases hm : mb nm B
 ·have hq : Hid (r = [nm]) := Ld (by rw [HR.out, hm]; rfl)
  have gA := bA.out.cell
  clear hm HI
  go_wp2_with fail
  go_ret
  exact ⟨_, rfl, by rw [hq.out]; exact ⟨HK.out.alloc _, own_name (Blk.new w1 9 [.string nm]) HK.out.size⟩⟩
 ·have hq : Hid (r = []) := Ld (by rw [HR.out, hm]; rfl)
  clear hm HI
  go_wp2_with fail
  go_ret
  exact ⟨_, rfl, by rw [hq.out]; exact ⟨HK.out, World.ownsRow_nil _ _ _ _⟩⟩
theorem rfree_one {op : Int} {nm : ByteArray} {N : Int} {ty : Ty} {l : List Tm} (hop : op ≠ 20) (IH : ∀ u, u ∈ l → RFrC u) (hn : l.length ≤ 1000000) : RFrC (.mk op nm N ty l) := by
 intro B w ok okB tk kk v h1 h2 hB hd hz
 have h1 : TyL ok w ty.kids tk := h1
 have h2 : TmL ok w l kk := h2
 obtain ⟨a, n, c, rfl⟩ := h1.slice
 obtain ⟨ma, mn, mc, rfl⟩ := h2.slice
 obtain ⟨ba, bc, rfl⟩ := hB.slice
 obtain rfl : mn = l.length := h2.len
 change Calls Tryz.prog 88 #[.agg #[.int .i64 op, .string nm, .int .i64 N, .int .i64 ty.kind, .string ty.name, .slice a n c, .slice ma l.length mc], .slice ba B.length bc] w _
 have K1 : Kept (fun _ => False) w (w.alloc (.cells #[.int .i64 op, .string nm, .int .i64 N, .int .i64 ty.kind, .string ty.name, .slice a n c, .slice ma l.length mc] 28)) := (Kept.refl _ _).alloc _
 have hop2 : (op == 20) = false := by simp [hop]
 have bA := Ld (Blk.new w 28 [.int .i64 op, .string nm, .int .i64 N, .int .i64 ty.kind, .string ty.name, .slice a n c, .slice ma l.length mc])
 have HR : Hid (frL B (.mk op nm N ty l) = frLs B (binderB op) nm 0 l) := Ld (by rw [frL, if_neg hop])
 rw [tmD] at hd
 rw [tmN] at hz
 have HD := Ld hd
 have HZ0 := Ld hz
 have HN := Ld hn
 have HAT := Ld (fun W (k : Kept (fun _ => False) w W) => (h2.frame (sK k)).at)
 have HBF := Ld (fun W (k : Kept (fun _ => False) w W) => hB.frame (sK k))
 have HIH := Ld IH
 have HK := Ld K1
 clear h1 h2 hB hd hz K1 IH hn hop
 have hRL : Hid ((frL B (.mk op nm N ty l)).length ≤ 700000) := Ld (by have h1 := frL_len (.mk op nm N ty l) B; rw [tmN] at h1; have := HZ0.out; omega)
 generalize frL B (.mk op nm N ty l) = r at *
 go_enter Tryz.func88, Tryz.ntmps88
 go_wp2_with fail
 change Hid (Blk (w.alloc (.cells #[.int .i64 op, .string nm, .int .i64 N, .int .i64 ty.kind, .string ty.name, .slice a n c, .slice ma l.length mc] 28)) _ _ _) at bA
 generalize w.alloc (.cells #[.int .i64 op, .string nm, .int .i64 N, .int .i64 ty.kind, .string ty.name, .slice a n c, .slice ma l.length mc] 28) = w1 at *
 go_loopw [5, 6, 7] (fun v i b wr => ∃ (k : Nat) (out : List ByteArray), k ≤ l.length ∧ i = .int .i64 k ∧ NRow w w.heap.size wr out v ∧ Hid (Blk wr w.heap.size 28 [.int .i64 op, .string nm, .int .i64 N, .int .i64 ty.kind, .string ty.name, .slice a n c, .slice ma l.length mc] ∧ r = out ++ frLs B (binderB op) nm k (l.drop k) ∧ v.ownBlock ≠ some w.heap.size)) (fun v i b _ => l.length - (intOf i).toNat)
 case atStart => exact ⟨0, [], Nat.zero_le _, rfl, ⟨HK.out, World.ownsRow_nil _ _ _ _⟩, Ld ⟨bA.out, HR.out, fun e => by cases e⟩⟩
 case round =>
  obtain ⟨k, out, hkl, rfl, hR, hq⟩ := hrel
  obtain ⟨va, vc, hv⟩ := hR.nml.slice
  subst hv
  have R := Ld hR
  clear hR
  have gA := hq.out.1.cell
  by_cases hlt : k < l.length
  ·have i1 : (k : Int) < (l.length : Int) := by omega
   have i2 : (k : Int) < 1000000 := by have := HN.out; omega
   obtain ⟨g, off, ta, tn, tc, qa, qn, qc, rfl, _, lg, ⟨c0, c1, c2, c3, c4, c5, c6⟩, hty, htm⟩ := HAT.out wr R.out.kp k hlt
   have HD2 := Ld (frLs_drop (B := B) (bi := binderB op) (nm := nm) hlt)
   have HBD : Hid (∀ B' : List ByteArray, B'.length ≤ B.length + 1 → B'.length + tmD l[k] ≤ 900000) := Ld (fun B' hb' => by
    have h1 := tmDs_mem (List.getElem_mem hlt)
    have h2 := HD.out
    omega)
   have HZ1 : Hid (tmN l[k] ≤ 700000) := Ld (by
    have h1 := (tmD_kid (List.getElem_mem hlt)).2
    have h2 := HZ0.out
    omega)
   obtain ⟨i9, hi9, hz9, hs9, hb9⟩ := info_str
   have HI9 := Ld hi9
   have HZ9 := Ld hz9
   have HS9 := Ld hs9
   have HB9 := Ld hb9
   have HKF := Ld (fun (B' : List ByteArray) (v' : Value) (ok3 : Nat → Prop) W (kW : Kept (fun _ => False) wr W) (hb' : B'.length ≤ B.length + 1) (hB' : NmL ok3 W B' v') => (HIH.out _ (List.getElem_mem hlt)) B' W ok ok3 _ _ _ (hty.frame (sK kW)) (htm.frame (sK kW)) hB' (HBD.out _ hb') HZ1.out)
   unfold tmVal at HKF
   have RW := Ld (fun W (kW : Kept (fun _ => False) wr W) => (⟨R.out.kp.trans kW, own_keptT R.out.own kW (fun _ _ h => h)⟩ : NRow w w.heap.size W out (.slice va out.length vc)))
   have hbx : Hid (∀ W, Kept (fun _ => False) wr W → Blk W w.heap.size 28 [.int .i64 op, .string nm, .int .i64 N, .int .i64 ty.kind, .string ty.name, .slice a n c, .slice (some ⟨g, off, none⟩) l.length mc]) := Ld (fun W kW => hq.out.1.kept kW (fun h => h))
   clear hty htm hi9 hz9 hs9 hb9 HBD HZ1
   go_wp2_with fail
   cases hbi : binderB op
   ·have hBI : Hid ((if binderB op && k == 1 then B ++ [nm] else B) = B) := Ld (by rw [hbi]; rfl)
    refine (rbinder_t hbi _).mono ?_
    rintro e w4 ⟨rfl, rfl⟩
    clear hbi
    have KWW : Kept (fun _ => False) wr wr := Kept.refl _ _
    skip
    go_wp2_with fail
    refine (HKF.out B _ _ wr (Kept.refl _ _) (Nat.le_succ _) (HBF.out wr R.out.kp)).mono ?_
    rintro e w6 ⟨v3, rfl, h3⟩
    obtain ⟨xa, xc, hv3⟩ := h3.nml.slice
    subst hv3
    have K6 := (KWW).trans h3.kp
    have R6 := Ld (RW.out w6 K6)
    have B6 := Ld (hbx.out w6 K6)
    have S3 := Ld h3.nml.src
    have hz6 := (frL_len l[k] (B))
    have HLEN : Hid (out.length + (frL (B) l[k]).length ≤ 700000) := Ld (by
     have h5 := hRL.out
     rw [hq.out.2.1, HD2.out, hBI.out, List.length_append, List.length_append] at h5
     omega)
    have hEQ : Hid (r = (out ++ frL (B) l[k]) ++ frLs B (binderB op) nm (k + 1) (l.drop (k + 1))) := Ld (by rw [hq.out.2.1, HD2.out, hBI.out, List.append_assoc])
    have hOB := hq.out.2.2
    have zw6 := R6.out.kp.size
    clear h3 K6 hz6 gA
    go_wp2_with (at_builtin; refine wpList_app_src rfl (.tmp 37) (.tmp 44) _ rfl w.heap.size 9 i9 _ 1 16 Tryz.underlying41 HI9.out HZ9.out HS9.out HB9.out rfl (by decide) (.slice va out.length vc) out.length (out.map Value.string) rfl R6.out.own (.slice xa (frL (B) l[k]).length xc) (frL (B) l[k]).length ((frL (B) l[k]).map Value.string) rfl S3.out (by simp) (strs_one _) ?_ ?_ zw6 ?_)
    ·have := HLEN.out; unfold maxLen; omega
    ·have := HLEN.out; omega
    intro v7 w7 own7 hg7 hat7
    have R7 := Ld (NRow.app R6.out (Nat.le_refl _) own7 hg7)
    have B7 := Ld (B6.out.kept (kept_grown1 hg7) (fun e => hOB e))
    have hO7 : Hid (v7.ownBlock ≠ some w.heap.size) := Ld (by
     have lb := B6.out.lt
     rcases hat7 with h | h
     ·rw [h]; exact hOB
     ·rw [h]; intro e; have := Option.some.inj e; omega)
    clear own7 hg7 hat7 hOB zw6
    go_wp2_with fail
    go_roundw
    case rel => exact ⟨k + 1, _, by omega, by go_num, R7.out, Ld ⟨B7.out, hEQ.out, hO7.out⟩⟩
    case measure => simp [intOf]; omega
   ·cases hk1 : ((k : Int) == 1)
    ·have hBI : Hid ((if binderB op && k == 1 then B ++ [nm] else B) = B) := Ld (by
      have : (k == 1) = false := by simp at hk1; simp; omega
      rw [this]; simp)
     refine (rbinder_t hbi _).mono ?_
     rintro e w4 ⟨rfl, rfl⟩
     clear hbi
     have KWW : Kept (fun _ => False) wr wr := Kept.refl _ _
     skip
     go_wp2_with fail
     refine (HKF.out B _ _ wr (Kept.refl _ _) (Nat.le_succ _) (HBF.out wr R.out.kp)).mono ?_
     rintro e w6 ⟨v3, rfl, h3⟩
     obtain ⟨xa, xc, hv3⟩ := h3.nml.slice
     subst hv3
     have K6 := (KWW).trans h3.kp
     have R6 := Ld (RW.out w6 K6)
     have B6 := Ld (hbx.out w6 K6)
     have S3 := Ld h3.nml.src
     have hz6 := (frL_len l[k] (B))
     have HLEN : Hid (out.length + (frL (B) l[k]).length ≤ 700000) := Ld (by
      have h5 := hRL.out
      rw [hq.out.2.1, HD2.out, hBI.out, List.length_append, List.length_append] at h5
      omega)
     have hEQ : Hid (r = (out ++ frL (B) l[k]) ++ frLs B (binderB op) nm (k + 1) (l.drop (k + 1))) := Ld (by rw [hq.out.2.1, HD2.out, hBI.out, List.append_assoc])
     have hOB := hq.out.2.2
     have zw6 := R6.out.kp.size
     clear h3 K6 hz6 gA
     go_wp2_with (at_builtin; refine wpList_app_src rfl (.tmp 37) (.tmp 44) _ rfl w.heap.size 9 i9 _ 1 16 Tryz.underlying41 HI9.out HZ9.out HS9.out HB9.out rfl (by decide) (.slice va out.length vc) out.length (out.map Value.string) rfl R6.out.own (.slice xa (frL (B) l[k]).length xc) (frL (B) l[k]).length ((frL (B) l[k]).map Value.string) rfl S3.out (by simp) (strs_one _) ?_ ?_ zw6 ?_)
     ·have := HLEN.out; unfold maxLen; omega
     ·have := HLEN.out; omega
     intro v7 w7 own7 hg7 hat7
     have R7 := Ld (NRow.app R6.out (Nat.le_refl _) own7 hg7)
     have B7 := Ld (B6.out.kept (kept_grown1 hg7) (fun e => hOB e))
     have hO7 : Hid (v7.ownBlock ≠ some w.heap.size) := Ld (by
      have lb := B6.out.lt
      rcases hat7 with h | h
      ·rw [h]; exact hOB
      ·rw [h]; intro e; have := Option.some.inj e; omega)
     clear own7 hg7 hat7 hOB zw6
     go_wp2_with fail
     go_roundw
     case rel => exact ⟨k + 1, _, by omega, by go_num, R7.out, Ld ⟨B7.out, hEQ.out, hO7.out⟩⟩
     case measure => simp [intOf]; omega
    ·have hBI : Hid ((if binderB op && k == 1 then B ++ [nm] else B) = B ++ [nm]) := Ld (by
      have : (k == 1) = true := by simp at hk1; simp; omega
      rw [this, hbi]; rfl)
     refine (rbinder_t hbi _).mono ?_
     rintro e w4 ⟨rfl, rfl⟩
     clear hbi
     have HW := Ld (rwith_any nm (HBF.out wr R.out.kp) (by have := HD.out; omega))
     go_wp2_with fail
     refine HW.out.mono ?_
     rintro e w5 ⟨v5, rfl, h5⟩
     obtain ⟨ya, yc, hv5⟩ := h5.nml.slice
     rw [List.length_append, List.length_singleton] at hv5
     subst hv5
     have KWW : Kept (fun _ => False) wr w5 := h5.kp
     have HN5 := Ld h5.nml
     have gA5 := (hbx.out w5 KWW).cell
     have C5 : C7 w5 g (off + k * 7) l[k] (.slice ta tn tc) (.slice qa qn qc) := C7.kept ⟨c0, c1, c2, c3, c4, c5, c6⟩ KWW (fun h => h)
     obtain ⟨d0, d1, d2, d3, d4, d5, d6⟩ := C5
     clear h5 HW gA c0 c1 c2 c3 c4 c5 c6
     have gA := gA5
     clear gA5
     skip
     go_wp2_with fail
     refine (HKF.out (B ++ [nm]) _ _ w5 KWW (by simp) HN5.out).mono ?_
     rintro e w6 ⟨v3, rfl, h3⟩
     obtain ⟨xa, xc, hv3⟩ := h3.nml.slice
     subst hv3
     have K6 := (KWW).trans h3.kp
     have R6 := Ld (RW.out w6 K6)
     have B6 := Ld (hbx.out w6 K6)
     have S3 := Ld h3.nml.src
     have hz6 := (frL_len l[k] (B ++ [nm]))
     have HLEN : Hid (out.length + (frL (B ++ [nm]) l[k]).length ≤ 700000) := Ld (by
      have h5 := hRL.out
      rw [hq.out.2.1, HD2.out, hBI.out, List.length_append, List.length_append] at h5
      omega)
     have hEQ : Hid (r = (out ++ frL (B ++ [nm]) l[k]) ++ frLs B (binderB op) nm (k + 1) (l.drop (k + 1))) := Ld (by rw [hq.out.2.1, HD2.out, hBI.out, List.append_assoc])
     have hOB := hq.out.2.2
     have zw6 := R6.out.kp.size
     clear h3 K6 hz6 gA
     go_wp2_with (at_builtin; refine wpList_app_src rfl (.tmp 37) (.tmp 44) _ rfl w.heap.size 9 i9 _ 1 16 Tryz.underlying41 HI9.out HZ9.out HS9.out HB9.out rfl (by decide) (.slice va out.length vc) out.length (out.map Value.string) rfl R6.out.own (.slice xa (frL (B ++ [nm]) l[k]).length xc) (frL (B ++ [nm]) l[k]).length ((frL (B ++ [nm]) l[k]).map Value.string) rfl S3.out (by simp) (strs_one _) ?_ ?_ zw6 ?_)
     ·have := HLEN.out; unfold maxLen; omega
     ·have := HLEN.out; omega
     intro v7 w7 own7 hg7 hat7
     have R7 := Ld (NRow.app R6.out (Nat.le_refl _) own7 hg7)
     have B7 := Ld (B6.out.kept (kept_grown1 hg7) (fun e => hOB e))
     have hO7 : Hid (v7.ownBlock ≠ some w.heap.size) := Ld (by
      have lb := B6.out.lt
      rcases hat7 with h | h
      ·rw [h]; exact hOB
      ·rw [h]; intro e; have := Option.some.inj e; omega)
     clear own7 hg7 hat7 hOB zw6
     go_wp2_with fail
     go_roundw
     case rel => exact ⟨k + 1, _, by omega, by go_num, R7.out, Ld ⟨B7.out, hEQ.out, hO7.out⟩⟩
     case measure => simp [intOf]; omega
  ·have hkk : k = l.length := by omega
   subst hkk
   have HE : Hid (r = out) := Ld (by rw [hq.out.2.1, List.drop_length]; simp [frLs])
   go_wp2_with fail
   go_ret
   exact ⟨_, rfl, by rw [HE.out]; exact R.out⟩
theorem rfree_any {t : Tm} (hb : BdTm t) : RFrC t := by
 induction hb with
 | mk hn ht hl ih =>
  rename_i o n i t l
  by_cases h : o = 20
  ·subst h; exact rfree_name
  ·exact rfree_one h ih hn
theorem frL_nil (t : Tm) : frL [] t = fr t := by
 rw [frL_eq]
 exact List.filter_eq_self.2 (fun s _ => rfl)
theorem remG_drop {x : ByteArray} {F : List ByteArray} {out l : List (ByteArray × Tm)} {k : Nat} (h : k < l.length) : remG x F out (l.drop k) = if (look out l[k].1).isSome || decide (l[k].1 = x) || !mb l[k].1 F then remG x F out (l.drop (k + 1)) else remG x F (out ++ [l[k]]) (l.drop (k + 1)) := by
 rw [List.drop_eq_getElem_cons h, remG]
theorem rrem_any {l : List (ByteArray × Tm)} {x : ByteArray} {body : Tm} {ok ok' : Nat → Prop} {w : World} {vl tk kk : Value} (hB : BnL ok w l vl) (hn : l.length ≤ 100000) (h1 : TyL ok' w body.ty.kids tk) (h2 : TmL ok' w body.kids kk) (hb : BdTm body) (hd : tmD body ≤ 900000) (hz : tmN body ≤ 700000) :
  Calls Tryz.prog 131 #[vl, .string x, tmVal body tk kk] w fun e w' => ∃ E v, e = .returned v ∧ RowB (fun q => ok q ∧ q < w.heap.size) w (w.heap.size + 1) w' E v ∧ E.map (·.1) = remL l x (fr body) := by
 obtain ⟨a, c, rfl⟩ := hB.slice
 obtain ⟨p, n, cp, rfl⟩ := h1.slice
 obtain ⟨ma, mn, mc, rfl⟩ := h2.slice
 have K0 : Kept (fun _ => False) w (w.alloc (.cells #[.int .i64 body.op, .string body.name, .int .i64 body.n, .int .i64 body.ty.kind, .string body.ty.name, .slice p n cp, .slice ma mn mc] 28)) := (Kept.refl _ _).alloc _
 have z0 : w.heap.size + 1 ≤ (w.alloc (.cells #[.int .i64 body.op, .string body.name, .int .i64 body.n, .int .i64 body.ty.kind, .string body.ty.name, .slice p n cp, .slice ma mn mc] 28)).heap.size := by simp
 have HF := Ld (rfree_any hb [] _ _ (fun _ => True) _ _ _ (h1.frame (sK K0)) (h2.frame (sK K0)) .nil (by simpa using hd) hz)
 rw [frL_nil] at HF
 have HFL : Hid ((fr body).length ≤ 700000) := Ld (by have h5 := frL_len body []; rw [frL_nil] at h5; omega)
 have HAT := Ld (fun W (k : Kept (fun _ => False) w W) => ((hB.mono (ok' := fun q => ok q ∧ q < w.heap.size) (fun q h1 h2 => ⟨h2, h1⟩)).frame (sK k)).at)
 have HN := Ld hn
 have HK := Ld K0
 have HZ := Ld z0
 clear hB hn h1 h2 hb hd hz K0 z0
 unfold tmVal at HF ⊢
 have HRL : Hid (remL l x (fr body) = remG x (fr body) [] l) := Ld rfl
 generalize remL l x (fr body) = rr at *
 generalize fr body = F at *
 go_enter Tryz.func131, Tryz.ntmps131
 go_wp2_with fail
 generalize w.alloc (.cells #[.int .i64 body.op, .string body.name, .int .i64 body.n, .int .i64 body.ty.kind, .string body.ty.name, .slice p n cp, .slice ma mn mc] 28) = w1 at *
 refine HF.out.mono ?_
 rintro e w2 ⟨v7, rfl, h7⟩
 obtain ⟨fa, fc, hv7⟩ := h7.nml.slice
 subst hv7
 have K2 := HK.out.trans h7.kp
 have HIN := Ld (fun W (k : Kept (fun _ => False) w2 W) (s : ByteArray) => rinN_any s (h7.nml.frame (sK k)) (by have := HFL.out; omega))
 have HK2 := Ld K2
 have hz2 : Hid (w.heap.size + 1 ≤ w2.heap.size) := Ld (Nat.le_trans HZ.out h7.kp.size)
 clear h7 K2 HF HK HZ
 go_wp2_with fail
 go_loopw [8, 9, 10, 11] (fun v i q b wr => ∃ (k : Nat) (E : List E4), k ≤ l.length ∧ i = .int .i64 k ∧ RowB (fun q => ok q ∧ q < w.heap.size) w2 w2.heap.size wr E v ∧ Hid (rr = remG x F (E.map (·.1)) (l.drop k) ∧ E.length ≤ k)) (fun v i q b _ => l.length - (intOf i).toNat)
 case atStart => exact ⟨0, [], Nat.zero_le _, rfl, RowB.nil (Kept.refl _ _) (fun q hq => by have := hz2.out; omega), Ld ⟨HRL.out, Nat.le_refl _⟩⟩
 case round =>
  obtain ⟨k, E, hkl, rfl, hR, hq⟩ := hrel
  obtain ⟨va, vc, hv⟩ := hR.bnl.slice
  rw [List.length_map] at hv
  subst hv
  have R := Ld hR
  clear hR
  by_cases hlt : k < l.length
  ·have i1 : (k : Int) < (l.length : Int) := by omega
   have i2 : (k : Int) < 1000000 := by have := HN.out; omega
   obtain ⟨g, off, ta, tn, tc, qa, qn, qc, rfl, hg, lg, c0, C0, hty, htm⟩ := HAT.out wr (HK2.out.trans R.out.kp) k hlt
   have HD := Ld (remG_drop (x := x) (F := F) (out := E.map (·.1)) hlt)
   have hlen : (E.map (·.1)).length ≤ 1000000 := by rw [List.length_map]; have := hq.out.2; have := HN.out; omega
   have HBO := Ld (rbof_any l[k].1 R.out.bnl hlen)
   rw [List.length_map] at hlen
   have HTY := Ld (fun W (kW : Kept (fun _ => False) wr W) => hty.frame (sK kW))
   have HTM := Ld (fun W (kW : Kept (fun _ => False) wr W) => htm.frame (sK kW))
   have HC7 := Ld (fun W (kW : Kept (fun _ => False) wr W) => C0.kept kW (fun h => h))
   have HC0 := Ld (fun W (kW : Kept (fun _ => False) wr W) => (by rw [kW.cell (p := ⟨g, off + k * 8, none⟩) (cell_lt c0) (fun h => h)]; exact c0 : W.cell? ⟨g, off + k * 8, none⟩ = some (.string l[k].1)))
   have HSK : Hid (((look (E.map (·.1)) l[k].1).isSome || decide (l[k].1 = x) || !mb l[k].1 F) = true → rr = remG x F (E.map (·.1)) (l.drop (k + 1))) := Ld (fun h => by rw [hq.out.1, HD.out, if_pos h])
   have HAD : Hid (((look (E.map (·.1)) l[k].1).isSome || decide (l[k].1 = x) || !mb l[k].1 F) = false → rr = remG x F (E.map (·.1) ++ [l[k]]) (l.drop (k + 1))) := Ld (fun h => by rw [hq.out.1, HD.out, if_neg (by rw [h]; simp)])
   clear hty htm C0
   unfold BofP tmVal at HBO
   generalize (look (E.map (·.1)) l[k].1).getD tm0 = o at *
   generalize (look (E.map (·.1)) l[k].1).isSome = b0 at *
   go_wp2_with fail
   refine HBO.out.mono ?_
   rintro e w5 ⟨otk, okk, rfl, ht5, hm5, k5⟩
   obtain ⟨ua, un, uc, rfl⟩ := ht5.slice
   obtain ⟨ya, yn, yc, rfl⟩ := hm5.slice
   clear ht5 hm5 HBO c0
   go_upto_region 7 with (fail)
   have K6 : Kept (fun _ => False) wr (w5.alloc (.cells #[.int .i64 o.op, .string o.name, .int .i64 o.n, .int .i64 o.ty.kind, .string o.ty.name, .slice ua un uc, .slice ya yn yc] 28)) := k5.alloc _
   generalize w5.alloc (.cells #[.int .i64 o.op, .string o.name, .int .i64 o.n, .int .i64 o.ty.kind, .string o.ty.name, .slice ua un uc, .slice ya yn yc] 28) = w6 at *
   have R6 := Ld (R.out.kept K6)
   have d0 := HC0.out w6 K6
   obtain ⟨e0, e1, e2, e3, e4, e5, e6⟩ := HC7.out w6 K6
   have T6 := Ld (HTY.out w6 K6)
   have M6 := Ld (HTM.out w6 K6)
   have HI6 := Ld (HIN.out w6 R6.out.kp l[k].1)
   clear k5 K6 R HTY HTM HC7 HC0
   cases b0
   ·cases hs : (l[k].1.toList == x.toList)
    ·have hne : decide (l[k].1 = x) = false := by rw [nm_eq] at hs; exact hs
     go_wp2_with fail
     refine HI6.out.mono ?_
     rintro e w7 ⟨rfl, rfl⟩
     cases hm : mb l[k].1 F
     ·have HSK2 : Hid (rr = remG x F (E.map (·.1)) (l.drop (k + 1))) := Ld (HSK.out (by rw [hne, hm]; rfl))
      clear HSK HAD hm hne
      go_wp2_with fail
      go_roundw
      case rel => exact ⟨k + 1, E, by omega, by go_num, R6.out, Ld ⟨HSK2.out, by have := hq.out.2; omega⟩⟩
      case measure => simp [intOf]; omega
     ·have HAD2 : Hid (rr = remG x F ((E ++ [((l[k], Value.slice ta tn tc, Value.slice qa qn qc) : E4)]).map (fun e => e.1)) (l.drop (k + 1))) := Ld (by rw [List.map_append]; exact HAD.out (by rw [hne, hm]; rfl))
      clear HSK HAD hm hne
      obtain ⟨i53, hi, hz, hsz, hby⟩ := info_bd
      have HI := Ld hi
      have HZ := Ld hz
      have HS := Ld hsz
      have HB := Ld hby
      have zw := R6.out.kp.size
      have HEL : Hid (E.length ≤ 100000) := Ld (by have := hq.out.2; have := HN.out; omega)
      clear hi hz hsz hby
      go_wp2_with (at_builtin; refine wpList_app_src rfl (.tmp 50) (.tmp 55) _ rfl w2.heap.size 53 i53 _ 8 120 Tryz.underlying48 HI.out HZ.out HS.out HB.out rfl (by decide) (.slice va E.length vc) E.length (flatB E) rfl (own_keptT R6.out.own ((Kept.refl (fun _ => False) w6).alloc (.cells (bCells (l[k], .slice ta tn tc, .slice qa qn qc)).toArray 53)) (fun _ _ h => h)) (.slice (some ⟨w6.heap.size, 0, none⟩) 1 1) 1 (bCells (l[k], .slice ta tn tc, .slice qa qn qc)) rfl (.inr ⟨_, _, rfl, newsT (Blk.new w6 53 (bCells (l[k], .slice ta tn tc, .slice qa qn qc)))⟩) rfl oneB ?_ ?_ ?_ ?_)
      ·have := HEL.out; unfold maxLen; omega
      ·have := HEL.out; omega
      ·simp; omega
      intro v8 w8 own8 hg8 hat8
      have R8 := Ld (RowB.app1 (e := (l[k], .slice ta tn tc, .slice qa qn qc)) (Nat.le_refl _) R6.out ((Kept.refl (fun _ => False) w6).alloc (.cells (bCells (l[k], .slice ta tn tc, .slice qa qn qc)).toArray 53)) (T6.out.frame (Same.alloc _ _)) (M6.out.frame (Same.alloc _ _)) own8 hg8)
      clear own8 hg8 hat8 zw
      go_wp2_with fail
      go_roundw
      case rel => exact ⟨k + 1, _, by omega, by go_num, R8.out, Ld ⟨HAD2.out, by have := hq.out.2; simp; omega⟩⟩
      case measure => simp [intOf]; omega
    ·have HSK2 : Hid (rr = remG x F (E.map (·.1)) (l.drop (k + 1))) := Ld (HSK.out (by rw [nm_eq] at hs; rw [hs]; rfl))
     clear HSK HAD
     go_wp2_with fail
     go_roundw
     case rel => exact ⟨k + 1, E, by omega, by go_num, R6.out, Ld ⟨HSK2.out, by have := hq.out.2; omega⟩⟩
     case measure => simp [intOf]; omega
   ·have HSK2 : Hid (rr = remG x F (E.map (·.1)) (l.drop (k + 1))) := Ld (HSK.out rfl)
    clear HSK HAD
    go_wp2_with fail
    go_roundw
    case rel => exact ⟨k + 1, E, by omega, by go_num, R6.out, Ld ⟨HSK2.out, by have := hq.out.2; omega⟩⟩
    case measure => simp [intOf]; omega
  ·have hkk : k = l.length := by omega
   subst hkk
   have HE : Hid (E.map (·.1) = rr) := Ld (by rw [hq.out.1, List.drop_length, remG])
   go_wp2_with fail
   go_ret
   exact ⟨E, _, rfl, ⟨HK2.out.trans R.out.kp, own_base R.out.own (fun g hg => by have := (World.ownsRow.lt R.out.own g hg).1; have := hz2.out; omega), R.out.el, fun q hq => by omega⟩, HE.out⟩
def DcC (n : Nat) : Prop := ∀ W, Calls Tryz.prog 181 #[.int .i64 n] W fun e w' => e = .returned (.string (str (Lib.decDigits n))) ∧ Kept (fun _ => False) W w'
theorem dig_lt (n : Nat) (h : n < 10) : ((UInt8.ofNat (48 + n)).toNat : Int) = 48 + (n : Int) := by
 have all : ∀ m : Fin 10, (UInt8.ofNat (48 + m.val)).toNat = 48 + m.val := by decide
 have : (UInt8.ofNat (48 + n)).toNat = 48 + n := all ⟨n, h⟩
 rw [this]; omega
theorem conv_dig (W : World) (B n : Nat) (h : n < 10) (hc : W.cell? ⟨B, 0, none⟩ = some (.int .u8 (48 + (n : Int)))) : (convert 107 9 (.slice (some ⟨B, 0, none⟩) 1 1)).run Tryz.prog W = .ok (.string ⟨#[UInt8.ofNat (48 + n)]⟩) W :=
 run_convert_bytes_back (P := Tryz.prog) W 107 9 5 ⟨B, 0, none⟩ 1 [UInt8.ofNat (48 + n)] Tryz.underlying107 Tryz.underlying5 Tryz.underlying9 (fun j hj => by
  have h0 : j = 0 := by simpa using hj
  subst h0
  show W.cell? _ = some (.int .u8 ((UInt8.ofNat (48 + n)).toNat : Int))
  rw [dig_lt n h]
  exact hc)
theorem dec_small (n : Nat) (h : n < 10) : DcC n := by
 intro W
 have i0 : ((n : Int) == -9223372036854775808) = false := by rw [beq_eq_false_iff_ne]; omega
 have i1 : decide ((n : Int) < 0) = false := decide_eq_false (by omega)
 have i2 : decide ((n : Int) < 10) = true := decide_eq_true (by omega)
 have hcv := conv_dig (W.alloc (.cells #[.int .u8 (48 + (n : Int))] 5)) W.heap.size n h ((Blk.new W 5 [.int .u8 (48 + (n : Int))]).cell 0)
 have HT : Hid (str (Lib.decDigits n) = ⟨#[UInt8.ofNat (48 + n)]⟩) := Ld (by unfold Lib.decDigits; rw [dif_pos h]; rfl)
 generalize UInt8.ofNat (48 + n) = dg at *
 go_enter Tryz.func181, Tryz.ntmps181
 go_wp2_with fail
 go_ret
 exact ⟨by rw [HT.out]; rfl, (Kept.refl _ _).alloc _⟩
theorem decDigits_len (n : Nat) : (Lib.decDigits n).length ≤ n + 1 := by
 induction n using Nat.strongRecOn with
 | _ n ih =>
  unfold Lib.decDigits
  by_cases h : n < 10
  ·rw [dif_pos h]; simp
  ·rw [dif_neg h]
   have := ih (n / 10) (by omega)
   simp only [List.length_append, List.length_cons, List.length_nil]
   omega
theorem dec_more (n : Nat) (h : ¬ n < 10) (hn : n ≤ 1000000000) (ih : DcC (n / 10)) : DcC n := by
 intro W
 have i0 : ((n : Int) == -9223372036854775808) = false := by rw [beq_eq_false_iff_ne]; omega
 have i1 : decide ((n : Int) < 0) = false := decide_eq_false (by omega)
 have i2 : decide ((n : Int) < 10) = false := decide_eq_false (by omega)
 have hq : (n : Int).tdiv 10 = ((n / 10 : Nat) : Int) := by rw [Int.tdiv_eq_ediv_of_nonneg (by omega)]; omega
 have hr : (n : Int).tmod 10 = ((n % 10 : Nat) : Int) := by rw [Int.tmod_eq_emod_of_nonneg (by omega)]; omega
 have hm : n % 10 < 10 := Nat.mod_lt _ (by decide)
 have hqb : n / 10 ≤ 100000000 := by omega
 have HSZ : Hid ((str (Lib.decDigits (n / 10))).size ≤ 1000000001) := Ld (by rw [str_size]; have := decDigits_len (n / 10); omega)
 have HT : Hid (str (Lib.decDigits n) = str (Lib.decDigits (n / 10)) ++ ⟨#[UInt8.ofNat (48 + n % 10)]⟩) := Ld (by
  conv => lhs; unfold Lib.decDigits
  rw [dif_neg h, ← str_app]; rfl)
 have HCV := Ld (fun (X : World) (B : Nat) => conv_dig X B (n % 10) hm)
 have IH := Ld ih
 unfold DcC at IH
 generalize UInt8.ofNat (48 + n % 10) = dg at *
 generalize str (Lib.decDigits (n / 10)) = sq at *
 have hz1 : ¬ 9223372036854775807 < sq.size + 1 := by have := HSZ.out; omega
 clear ih h hn
 generalize hmm : n % 10 = m at *
 generalize hqq : n / 10 = q at *
 have HMQ := Ld (And.intro hmm hqq)
 have m10 : (m : Int) < 10 := by omega
 have q10 : (q : Int) < 100000001 := by omega
 have wq : IntKind.i64.wrap (q : Int) = q := by rw [IntKind.wrap_i64]; omega
 have wm : IntKind.i64.wrap (m : Int) = m := by rw [IntKind.wrap_i64]; omega
 have w48 : IntKind.i64.wrap (48 + (m : Int)) = 48 + m := by rw [IntKind.wrap_i64]; omega
 have w8 : IntKind.u8.wrap (48 + (m : Int)) = 48 + m := by rw [show IntKind.u8.wrap (48 + (m : Int)) = (48 + (m : Int)) % 256 by simp [IntKind.wrap, IntKind.bits, IntKind.signed]]; omega
 clear hmm hqq hm hqb
 have bA : Blk (W.drew.alloc (.cells #[.int .u8 (48 + (m : Int))] 5)) W.heap.size 5 [.int .u8 (48 + (m : Int))] := Blk.new W.drew 5 _
 have hcv0 := HCV.out _ W.heap.size (bA.cell 0)
 have hcv1 := HCV.out _ W.heap.size ((Blk.drew (Blk.new W 5 [.int .u8 (48 + (m : Int))])).cell 0)
 have KD : Kept (fun _ => False) W W.drew := (Kept.refl _ _).drew
 have KA : Kept (fun _ => False) W (W.alloc (.cells #[.int .u8 (48 + (m : Int))] 5)).drew := ((Kept.refl _ _).alloc _).drew
 go_enter Tryz.func181, Tryz.ntmps181
 go_wp2_with fail
 go_region_law
  (first | (go_simp; go_at_call 181; refine (IH.out _).mono ?_; rintro e wq ⟨rfl, kq⟩; first | (have KE := KA.trans kq; have hcvA := HCV.out wq W.heap.size (((Blk.drew (Blk.new W 5 [.int .u8 (48 + (m : Int))])).kept kq (fun h => h)).cell 0)) | (have KE := KD.trans kq; have hcvB := HCV.out (wq.alloc (.cells #[.int .u8 (48 + (m : Int))] 5)) wq.heap.size ((Blk.new wq 5 [.int .u8 (48 + (m : Int))]).cell 0))))
 all_goals
  go_wp2_with fail
  go_ret
  exact ⟨by rw [HT.out]; rfl, by first | exact KE | exact KE.alloc _⟩
theorem dec_nat (n : Nat) (hn : n ≤ 1000000000) : DcC n := by
 induction n using Nat.strongRecOn with
 | _ n ih =>
  by_cases h : n < 10
  ·exact dec_small n h
  ·exact dec_more n h hn (ih (n / 10) (by omega) (by omega))
theorem strip_at (s : ByteArray) (h : s.size - 1 < s.size) : stripD s.data.toList = if digitB (s[s.size - 1].toNat) then stripD (s.extract 0 (s.size - 1)).data.toList else s.data.toList := by
 have e1 := take_snoc s (s.size - 1) h
 have e2 : s.data.toList.take (s.size - 1 + 1) = s.data.toList := List.take_of_length_le (by
  have : s.data.toList.length = s.size := ba_len s
  omega)
 rw [e2] at e1
 rw [ext_take]
 have e3 := stripD_snoc (s.data.toList.take (s.size - 1)) s[s.size - 1]
 rw [← e1] at e3
 rw [e3]
theorem prim_trim {nm : ByteArray} (h : namedB nm = true) : (primB nm = true ∧ 1 < nm.size ∧ trimQ nm = nm.extract 0 (nm.size - 1)) ∨ (primB nm = false ∧ trimQ nm = nm) := by
 unfold namedB at h
 rcases trim_parts nm with ⟨h1, h2, h3⟩ | ⟨h1, h2⟩
 ·rw [h3] at h
  have h4 : 1 < nm.size := by
   by_cases hs : 1 < nm.size
   ·exact hs
   ·have hz : (nm.extract 0 (nm.size - 1)).size = 0 := by rw [ByteArray.size_extract]; omega
    unfold identB at h
    rw [hz] at h
    simp at h
  refine .inl ⟨?_, h4, h3⟩
  unfold primB
  rw [dif_pos h4, h]
  have : ((nm[nm.size - 1].toNat : Int) == 39) = true := by rw [h2]; decide
  rw [this]; rfl
 ·refine .inr ⟨?_, h2⟩
  unfold primB
  by_cases h4 : 1 < nm.size
  ·rw [dif_pos h4]
   have h5 := h1 (by omega)
   have : ((nm[nm.size - 1].toNat : Int) == 39) = false := by
    rw [beq_eq_false_iff_ne]
    intro e
    exact h5 (UInt8.toNat.inj (by rw [show (39 : UInt8).toNat = 39 from rfl]; omega))
   rw [this]; rfl
  ·rw [dif_neg h4]
theorem cand_str {B : ByteArray} {k : Nat} : (if 16 < B.size + (str (Lib.decDigits k)).size then B.extract 0 (16 - (str (Lib.decDigits k)).size) else B) ++ str (Lib.decDigits k) = str (candL B.data.toList k) := by
 apply ByteArray.ext
 apply Array.toList_inj.1
 have hs : (str (Lib.decDigits k)).size = (Lib.decDigits k).length := by rw [str_size]
 have hl : B.data.toList.length = B.size := ba_len B
 rw [ByteArray.data_append, Array.toList_append, str_list, str_list]
 unfold candL
 congr 1
 rw [hs]
 split
 ·rw [ext_take]
 ·rw [List.take_of_length_le (by omega)]
theorem fresh_at {nm : ByteArray} {used : List ByteArray} (hn : namedB nm = true) (hu : used.length ≤ 800000) (hm : mb nm used = true) : ∃ j, 1 ≤ j ∧ j ≤ 1000001 ∧ frFrom nm used = str (candL (baseL nm) j) ∧ mb (str (candL (baseL nm) j)) used = false ∧ ∀ i, 1 ≤ i → i < j → mb (str (candL (baseL nm) i)) used = true := by
 obtain ⟨j, h1, h2, h3, h4, h5⟩ := frGo_at (baseL nm) used 1000000 1 (cand_free (baseL nm) used hu)
 refine ⟨j, h3, by omega, ?_, h2, h5⟩
 unfold frFrom
 rw [if_pos hm, h1]
theorem base_size {nm : ByteArray} (hn : namedB nm = true) : (baseL nm).length ≤ 16 := by
 unfold baseL
 obtain ⟨r, hr⟩ := stripD_pre (trimQ nm).data.toList
 have h1 := congrArg List.length hr
 rw [List.length_append] at h1
 unfold namedB identB at hn
 simp only [Bool.and_eq_true, decide_eq_true_eq] at hn
 have h2 : (trimQ nm).data.toList.length = (trimQ nm).size := ba_len _
 omega
def strOf : Value → ByteArray
 | .string s => s
 | _ => ⟨#[]⟩
theorem rfresh_any {ok : Nat → Prop} {w : World} {used : List ByteArray} {vu : Value} (name : ByteArray) (hN : NmL ok w used vu) (hu : used.length ≤ 800000) (hsz : name.size ≤ 9223372036854775807) :
  Calls Tryz.prog 123 #[.string name, vu] w fun e w' => e = .returned (.string (freshS name used)) ∧ Kept (fun _ => False) w w' := by
 have HIN := Ld (fun W (k : Kept (fun _ => False) w W) (s : ByteArray) => rinN_any s (hN.frame (sK k)) (by omega))
 have HNV := Ld (fun (v : Bool) (hv : namedB name = v) => rnamed_t hv hsz w)
 have HU := Ld hu
 have HFR : Hid (freshS name used = frFrom (if namedB name then name else xS) used) := Ld rfl
 have HSZ := Ld hsz
 clear hN hu hsz
 generalize freshS name used = res at *
 cases hv : namedB name
 ·have HRN : Hid (res = frFrom xS used) := Ld (by rw [HFR.out, hv]; rfl)
  have HNV2 := Ld (HNV.out _ hv)
  clear hv HNV HFR
  go_enter Tryz.func123, Tryz.ntmps123
  go_wp2_with fail
  refine HNV2.out.mono ?_
  rintro e w2 ⟨rfl, k2⟩
  have HK := Ld k2
  clear k2 HNV2
  have HNM : Hid (namedB xS = true) := Ld (ident_named x_ident)
  have HSN : Hid (xS.size ≤ 9223372036854775807) := Ld (by decide)
  go_upto_region 3 with (fail)
  change Hid (namedB (⟨#[120]⟩ : ByteArray) = true) at HNM
  change Hid ((⟨#[120]⟩ : ByteArray).size ≤ 9223372036854775807) at HSN
  change Hid (res = frFrom (⟨#[120]⟩ : ByteArray) used) at HRN
  generalize (⟨#[120]⟩ : ByteArray) = nm at *
  go_wp2_with fail
  refine (HIN.out _ HK.out nm).mono ?_
  rintro e w3 ⟨rfl, rfl⟩
  cases hm : mb nm used
  ·have HE : Hid (res = nm) := Ld (by rw [HRN.out]; unfold frFrom; rw [hm]; rfl)
   clear hm HIN
   go_wp2_with fail
   go_ret
   exact ⟨by rw [HE.out]; rfl, HK.out⟩
  ·obtain ⟨j, hj1, hj2, hj3, hj4, hj5⟩ := fresh_at HNM.out HU.out hm
   have HRJ : Hid (res = str (candL (baseL nm) j)) := Ld (by rw [HRN.out, hj3])
   have HJ4 := Ld hj4
   have HJ5 := Ld hj5
   have HBS := Ld (base_size HNM.out)
   have HBN := Ld (base_ok HNM.out).1
   have HPT := Ld (prim_trim HNM.out)
   have HP := Ld (fun (v : Bool) (hv : primB nm = v) => primed_big nm w2 HSN.out hv)
   have HBL : Hid (baseL nm = stripD (trimQ nm).data.toList) := Ld rfl
   generalize baseL nm = b at *
   clear hm hj3 hj4 hj5 HRN HNM
   rcases HPT.out with ⟨hp, hp1, hp2⟩ | ⟨hp, hp2⟩
   ·have HPC := Ld (HP.out _ hp)
    have HST : Hid (stripD (nm.extract 0 (nm.size - 1)).data.toList = b ∧ (nm.extract 0 (nm.size - 1)).size ≤ 9223372036854775807) := Ld ⟨by rw [← hp2]; exact HBL.out.symm, by rw [ByteArray.size_extract]; have := HSN.out; omega⟩
    have i1 : (1 : Int) < (nm.size : Int) := by omega
    have i2 : nm.size - 1 < nm.size := by omega
    have i3 : (nm.size : Int) - 1 = ((nm.size - 1 : Nat) : Int) := by omega
    have i4 := HSN.out
    clear hp hp1 hp2 HP HPT
    go_wp2_with fail
    refine HPC.out.mono ?_
    rintro e w4 ⟨rfl, k4⟩
    have HK3 := Ld (HK.out.trans k4)
    clear HPC k4 HK
    go_wp2_with fail
    clear i1 i2 i3 i4
    go_loopw [0] (fun v wr => ∃ s : ByteArray, v = .string s ∧ Kept (fun _ => False) w wr ∧ Hid (stripD s.data.toList = b ∧ s.size ≤ 9223372036854775807)) (fun v _ => (strOf v).size)
    case atStart => exact ⟨_, rfl, HK3.out, HST⟩
    case round =>
     obtain ⟨s, rfl, kr, hq⟩ := hrel
     have hpos : 0 < s.size := by
      have h1 := hq.out.1
      have h2 := HBN.out
      by_cases h : 0 < s.size
      ·exact h
      ·exfalso
       have h3 : s.data.toList = [] := List.length_eq_zero_iff.1 (by rw [ba_len]; omega)
       rw [h3] at h1
       exact h2 h1.symm
     have i1 : (0 : Int) < (s.size : Int) := by omega
     have i2 : s.size - 1 < s.size := by omega
     have i3 : (s.size : Int) - 1 = ((s.size - 1 : Nat) : Int) := by omega
     have i4 := hq.out.2
     have HSA := Ld (strip_at s i2)
     cases hd : digitB (s[s.size - 1].toNat)
     ·have HB : Hid (s.data.toList = b) := Ld (by rw [← hq.out.1, HSA.out, hd]; rfl)
      go_wp2_with (go_at_call 137; refine (rdigit_any _ _).mono ?_; rintro e w' ⟨rfl, rfl⟩)
      clear hd HSA i1 i3 hpos
      have i4 : s.size ≤ 16 := by have h1 := HBS.out; have h2 := congrArg List.length HB.out; rw [ba_len] at h2; omega
      go_loopw [5, 6, 7] (fun i x y wr => ∃ k : Nat, 1 ≤ k ∧ k ≤ j ∧ i = .int .i64 k ∧ Kept (fun _ => False) w wr) (fun i x y _ => j - (intOf i).toNat)
      case atStart => exact ⟨1, Nat.le_refl _, hj1, rfl, kr⟩
      case round =>
       obtain ⟨k, hk1, hk2, rfl, kr2⟩ := hrel
       have k1 : (k : Int) < 1000002 := by omega
       have hdl := dec_len2 6 k (by omega)
       have HDD := Ld (dec_nat k (by omega) wr)
       have HCS := Ld (cand_str (B := s) (k := k))
       rw [HB.out] at HCS
       have hDs : (str (Lib.decDigits k)).size ≤ 7 := by rw [str_size]; exact hdl
       clear hdl
       generalize str (Lib.decDigits k) = D at *
       go_wp2_with fail
       refine HDD.out.mono ?_
       rintro e w7 ⟨rfl, k7⟩
       have KK7 := Ld (kr2.trans k7)
       clear HDD
       have n1 : (D.size : Int) ≤ 7 := by omega
       have n2 : (s.size : Int) ≤ 16 := by omega
       have n3 : (0 : Int) ≤ (D.size : Int) := by omega
       have n4 : (0 : Int) ≤ (s.size : Int) := by omega
       by_cases hc : 16 < s.size + D.size
       ·have t1 : decide ((16 : Int) < (s.size : Int) + (D.size : Int)) = true := decide_eq_true (by omega)
        have n5 : (16 : Int) - (D.size : Int) = ((16 - D.size : Nat) : Int) := by omega
        have n6 : 16 - D.size ≤ s.size := by omega
        have n7 : ((16 - D.size : Nat) : Int) ≤ (s.size : Int) := by omega
        rw [if_pos hc] at HCS
        clear hc
        by_cases hkj : k = j
        ·have hmb : mb (s.extract 0 (16 - D.size) ++ D) used = false := by rw [HCS.out, hkj]; exact HJ4.out
         have HRE : Hid (res = s.extract 0 (16 - D.size) ++ D) := Ld (by rw [HRJ.out, ← hkj, HCS.out])
         go_wp2_with fail
         refine (HIN.out w7 KK7.out (s.extract 0 (16 - D.size) ++ D)).mono ?_
         rintro e w8 ⟨rfl, rfl⟩
         go_wp2_with fail
         go_ret
         exact ⟨by rw [HRE.out]; rfl, KK7.out⟩
        ·have hmb : mb (s.extract 0 (16 - D.size) ++ D) used = true := by rw [HCS.out]; exact HJ5.out k hk1 (by omega)
         go_wp2_with fail
         refine (HIN.out w7 KK7.out (s.extract 0 (16 - D.size) ++ D)).mono ?_
         rintro e w8 ⟨rfl, rfl⟩
         go_wp2_with fail
         go_roundw
         case rel => exact ⟨k + 1, by omega, by omega, by go_num, KK7.out⟩
         case measure => simp [intOf]; omega
       ·have t1 : decide ((16 : Int) < (s.size : Int) + (D.size : Int)) = false := decide_eq_false (by omega)
        rw [if_neg hc] at HCS
        clear hc
        by_cases hkj : k = j
        ·have hmb : mb (s ++ D) used = false := by rw [HCS.out, hkj]; exact HJ4.out
         have HRE : Hid (res = s ++ D) := Ld (by rw [HRJ.out, ← hkj, HCS.out])
         go_wp2_with fail
         refine (HIN.out w7 KK7.out (s ++ D)).mono ?_
         rintro e w8 ⟨rfl, rfl⟩
         go_wp2_with fail
         go_ret
         exact ⟨by rw [HRE.out]; rfl, KK7.out⟩
        ·have hmb : mb (s ++ D) used = true := by rw [HCS.out]; exact HJ5.out k hk1 (by omega)
         go_wp2_with fail
         refine (HIN.out w7 KK7.out (s ++ D)).mono ?_
         rintro e w8 ⟨rfl, rfl⟩
         go_wp2_with fail
         go_roundw
         case rel => exact ⟨k + 1, by omega, by omega, by go_num, KK7.out⟩
         case measure => simp [intOf]; omega
     ·have HN2 : Hid (stripD (s.extract 0 (s.size - 1)).data.toList = b ∧ (s.extract 0 (s.size - 1)).size ≤ 9223372036854775807) := Ld ⟨by rw [← hq.out.1, HSA.out, hd]; rfl, by rw [ByteArray.size_extract]; omega⟩
      go_wp2_with (go_at_call 137; refine (rdigit_any _ _).mono ?_; rintro e w' ⟨rfl, rfl⟩)
      go_roundw
      case rel => exact ⟨_, rfl, kr, HN2⟩
      case measure => simp only [strOf, ByteArray.size_extract]; omega
   ·have HPC := Ld (HP.out _ hp)
    have HST : Hid (stripD nm.data.toList = b ∧ nm.size ≤ 9223372036854775807) := Ld ⟨by rw [hp2] at HBL; exact HBL.out.symm, HSN.out⟩
    clear hp hp2 HP HPT
    go_wp2_with fail
    refine HPC.out.mono ?_
    rintro e w4 ⟨rfl, k4⟩
    have HK3 := Ld (HK.out.trans k4)
    clear HPC k4 HK
    go_wp2_with fail
    go_loopw [0] (fun v wr => ∃ s : ByteArray, v = .string s ∧ Kept (fun _ => False) w wr ∧ Hid (stripD s.data.toList = b ∧ s.size ≤ 9223372036854775807)) (fun v _ => (strOf v).size)
    case atStart => exact ⟨_, rfl, HK3.out, HST⟩
    case round =>
     obtain ⟨s, rfl, kr, hq⟩ := hrel
     have hpos : 0 < s.size := by
      have h1 := hq.out.1
      have h2 := HBN.out
      by_cases h : 0 < s.size
      ·exact h
      ·exfalso
       have h3 : s.data.toList = [] := List.length_eq_zero_iff.1 (by rw [ba_len]; omega)
       rw [h3] at h1
       exact h2 h1.symm
     have i1 : (0 : Int) < (s.size : Int) := by omega
     have i2 : s.size - 1 < s.size := by omega
     have i3 : (s.size : Int) - 1 = ((s.size - 1 : Nat) : Int) := by omega
     have i4 := hq.out.2
     have HSA := Ld (strip_at s i2)
     cases hd : digitB (s[s.size - 1].toNat)
     ·have HB : Hid (s.data.toList = b) := Ld (by rw [← hq.out.1, HSA.out, hd]; rfl)
      go_wp2_with (go_at_call 137; refine (rdigit_any _ _).mono ?_; rintro e w' ⟨rfl, rfl⟩)
      clear hd HSA i1 i3 hpos
      have i4 : s.size ≤ 16 := by have h1 := HBS.out; have h2 := congrArg List.length HB.out; rw [ba_len] at h2; omega
      go_loopw [5, 6, 7] (fun i x y wr => ∃ k : Nat, 1 ≤ k ∧ k ≤ j ∧ i = .int .i64 k ∧ Kept (fun _ => False) w wr) (fun i x y _ => j - (intOf i).toNat)
      case atStart => exact ⟨1, Nat.le_refl _, hj1, rfl, kr⟩
      case round =>
       obtain ⟨k, hk1, hk2, rfl, kr2⟩ := hrel
       have k1 : (k : Int) < 1000002 := by omega
       have hdl := dec_len2 6 k (by omega)
       have HDD := Ld (dec_nat k (by omega) wr)
       have HCS := Ld (cand_str (B := s) (k := k))
       rw [HB.out] at HCS
       have hDs : (str (Lib.decDigits k)).size ≤ 7 := by rw [str_size]; exact hdl
       clear hdl
       generalize str (Lib.decDigits k) = D at *
       go_wp2_with fail
       refine HDD.out.mono ?_
       rintro e w7 ⟨rfl, k7⟩
       have KK7 := Ld (kr2.trans k7)
       clear HDD
       have n1 : (D.size : Int) ≤ 7 := by omega
       have n2 : (s.size : Int) ≤ 16 := by omega
       have n3 : (0 : Int) ≤ (D.size : Int) := by omega
       have n4 : (0 : Int) ≤ (s.size : Int) := by omega
       by_cases hc : 16 < s.size + D.size
       ·have t1 : decide ((16 : Int) < (s.size : Int) + (D.size : Int)) = true := decide_eq_true (by omega)
        have n5 : (16 : Int) - (D.size : Int) = ((16 - D.size : Nat) : Int) := by omega
        have n6 : 16 - D.size ≤ s.size := by omega
        have n7 : ((16 - D.size : Nat) : Int) ≤ (s.size : Int) := by omega
        rw [if_pos hc] at HCS
        clear hc
        by_cases hkj : k = j
        ·have hmb : mb (s.extract 0 (16 - D.size) ++ D) used = false := by rw [HCS.out, hkj]; exact HJ4.out
         have HRE : Hid (res = s.extract 0 (16 - D.size) ++ D) := Ld (by rw [HRJ.out, ← hkj, HCS.out])
         go_wp2_with fail
         refine (HIN.out w7 KK7.out (s.extract 0 (16 - D.size) ++ D)).mono ?_
         rintro e w8 ⟨rfl, rfl⟩
         go_wp2_with fail
         go_ret
         exact ⟨by rw [HRE.out]; rfl, KK7.out⟩
        ·have hmb : mb (s.extract 0 (16 - D.size) ++ D) used = true := by rw [HCS.out]; exact HJ5.out k hk1 (by omega)
         go_wp2_with fail
         refine (HIN.out w7 KK7.out (s.extract 0 (16 - D.size) ++ D)).mono ?_
         rintro e w8 ⟨rfl, rfl⟩
         go_wp2_with fail
         go_roundw
         case rel => exact ⟨k + 1, by omega, by omega, by go_num, KK7.out⟩
         case measure => simp [intOf]; omega
       ·have t1 : decide ((16 : Int) < (s.size : Int) + (D.size : Int)) = false := decide_eq_false (by omega)
        rw [if_neg hc] at HCS
        clear hc
        by_cases hkj : k = j
        ·have hmb : mb (s ++ D) used = false := by rw [HCS.out, hkj]; exact HJ4.out
         have HRE : Hid (res = s ++ D) := Ld (by rw [HRJ.out, ← hkj, HCS.out])
         go_wp2_with fail
         refine (HIN.out w7 KK7.out (s ++ D)).mono ?_
         rintro e w8 ⟨rfl, rfl⟩
         go_wp2_with fail
         go_ret
         exact ⟨by rw [HRE.out]; rfl, KK7.out⟩
        ·have hmb : mb (s ++ D) used = true := by rw [HCS.out]; exact HJ5.out k hk1 (by omega)
         go_wp2_with fail
         refine (HIN.out w7 KK7.out (s ++ D)).mono ?_
         rintro e w8 ⟨rfl, rfl⟩
         go_wp2_with fail
         go_roundw
         case rel => exact ⟨k + 1, by omega, by omega, by go_num, KK7.out⟩
         case measure => simp [intOf]; omega
     ·have HN2 : Hid (stripD (s.extract 0 (s.size - 1)).data.toList = b ∧ (s.extract 0 (s.size - 1)).size ≤ 9223372036854775807) := Ld ⟨by rw [← hq.out.1, HSA.out, hd]; rfl, by rw [ByteArray.size_extract]; omega⟩
      go_wp2_with (go_at_call 137; refine (rdigit_any _ _).mono ?_; rintro e w' ⟨rfl, rfl⟩)
      go_roundw
      case rel => exact ⟨_, rfl, kr, HN2⟩
      case measure => simp only [strOf, ByteArray.size_extract]; omega
 ·have HRN : Hid (res = frFrom name used) := Ld (by rw [HFR.out, hv]; rfl)
  have HNV2 := Ld (HNV.out _ hv)
  have HNM := Ld hv
  have HSN := HSZ
  clear hv HNV HFR HSZ
  generalize name = nm at *
  go_enter Tryz.func123, Tryz.ntmps123
  go_wp2_with fail
  refine HNV2.out.mono ?_
  rintro e w2 ⟨rfl, k2⟩
  have HK := Ld k2
  clear k2 HNV2
  go_wp2_with fail
  refine (HIN.out _ HK.out nm).mono ?_
  rintro e w3 ⟨rfl, rfl⟩
  cases hm : mb nm used
  ·have HE : Hid (res = nm) := Ld (by rw [HRN.out]; unfold frFrom; rw [hm]; rfl)
   clear hm HIN
   go_wp2_with fail
   go_ret
   exact ⟨by rw [HE.out]; rfl, HK.out⟩
  ·obtain ⟨j, hj1, hj2, hj3, hj4, hj5⟩ := fresh_at HNM.out HU.out hm
   have HRJ : Hid (res = str (candL (baseL nm) j)) := Ld (by rw [HRN.out, hj3])
   have HJ4 := Ld hj4
   have HJ5 := Ld hj5
   have HBS := Ld (base_size HNM.out)
   have HBN := Ld (base_ok HNM.out).1
   have HPT := Ld (prim_trim HNM.out)
   have HP := Ld (fun (v : Bool) (hv : primB nm = v) => primed_big nm w2 HSN.out hv)
   have HBL : Hid (baseL nm = stripD (trimQ nm).data.toList) := Ld rfl
   generalize baseL nm = b at *
   clear hm hj3 hj4 hj5 HRN HNM
   rcases HPT.out with ⟨hp, hp1, hp2⟩ | ⟨hp, hp2⟩
   ·have HPC := Ld (HP.out _ hp)
    have HST : Hid (stripD (nm.extract 0 (nm.size - 1)).data.toList = b ∧ (nm.extract 0 (nm.size - 1)).size ≤ 9223372036854775807) := Ld ⟨by rw [← hp2]; exact HBL.out.symm, by rw [ByteArray.size_extract]; have := HSN.out; omega⟩
    have i1 : (1 : Int) < (nm.size : Int) := by omega
    have i2 : nm.size - 1 < nm.size := by omega
    have i3 : (nm.size : Int) - 1 = ((nm.size - 1 : Nat) : Int) := by omega
    have i4 := HSN.out
    clear hp hp1 hp2 HP HPT
    go_wp2_with fail
    refine HPC.out.mono ?_
    rintro e w4 ⟨rfl, k4⟩
    have HK3 := Ld (HK.out.trans k4)
    clear HPC k4 HK
    go_wp2_with fail
    clear i1 i2 i3 i4
    go_loopw [0] (fun v wr => ∃ s : ByteArray, v = .string s ∧ Kept (fun _ => False) w wr ∧ Hid (stripD s.data.toList = b ∧ s.size ≤ 9223372036854775807)) (fun v _ => (strOf v).size)
    case atStart => exact ⟨_, rfl, HK3.out, HST⟩
    case round =>
     obtain ⟨s, rfl, kr, hq⟩ := hrel
     have hpos : 0 < s.size := by
      have h1 := hq.out.1
      have h2 := HBN.out
      by_cases h : 0 < s.size
      ·exact h
      ·exfalso
       have h3 : s.data.toList = [] := List.length_eq_zero_iff.1 (by rw [ba_len]; omega)
       rw [h3] at h1
       exact h2 h1.symm
     have i1 : (0 : Int) < (s.size : Int) := by omega
     have i2 : s.size - 1 < s.size := by omega
     have i3 : (s.size : Int) - 1 = ((s.size - 1 : Nat) : Int) := by omega
     have i4 := hq.out.2
     have HSA := Ld (strip_at s i2)
     cases hd : digitB (s[s.size - 1].toNat)
     ·have HB : Hid (s.data.toList = b) := Ld (by rw [← hq.out.1, HSA.out, hd]; rfl)
      go_wp2_with (go_at_call 137; refine (rdigit_any _ _).mono ?_; rintro e w' ⟨rfl, rfl⟩)
      clear hd HSA i1 i3 hpos
      have i4 : s.size ≤ 16 := by have h1 := HBS.out; have h2 := congrArg List.length HB.out; rw [ba_len] at h2; omega
      go_loopw [5, 6, 7] (fun i x y wr => ∃ k : Nat, 1 ≤ k ∧ k ≤ j ∧ i = .int .i64 k ∧ Kept (fun _ => False) w wr) (fun i x y _ => j - (intOf i).toNat)
      case atStart => exact ⟨1, Nat.le_refl _, hj1, rfl, kr⟩
      case round =>
       obtain ⟨k, hk1, hk2, rfl, kr2⟩ := hrel
       have k1 : (k : Int) < 1000002 := by omega
       have hdl := dec_len2 6 k (by omega)
       have HDD := Ld (dec_nat k (by omega) wr)
       have HCS := Ld (cand_str (B := s) (k := k))
       rw [HB.out] at HCS
       have hDs : (str (Lib.decDigits k)).size ≤ 7 := by rw [str_size]; exact hdl
       clear hdl
       generalize str (Lib.decDigits k) = D at *
       go_wp2_with fail
       refine HDD.out.mono ?_
       rintro e w7 ⟨rfl, k7⟩
       have KK7 := Ld (kr2.trans k7)
       clear HDD
       have n1 : (D.size : Int) ≤ 7 := by omega
       have n2 : (s.size : Int) ≤ 16 := by omega
       have n3 : (0 : Int) ≤ (D.size : Int) := by omega
       have n4 : (0 : Int) ≤ (s.size : Int) := by omega
       by_cases hc : 16 < s.size + D.size
       ·have t1 : decide ((16 : Int) < (s.size : Int) + (D.size : Int)) = true := decide_eq_true (by omega)
        have n5 : (16 : Int) - (D.size : Int) = ((16 - D.size : Nat) : Int) := by omega
        have n6 : 16 - D.size ≤ s.size := by omega
        have n7 : ((16 - D.size : Nat) : Int) ≤ (s.size : Int) := by omega
        rw [if_pos hc] at HCS
        clear hc
        by_cases hkj : k = j
        ·have hmb : mb (s.extract 0 (16 - D.size) ++ D) used = false := by rw [HCS.out, hkj]; exact HJ4.out
         have HRE : Hid (res = s.extract 0 (16 - D.size) ++ D) := Ld (by rw [HRJ.out, ← hkj, HCS.out])
         go_wp2_with fail
         refine (HIN.out w7 KK7.out (s.extract 0 (16 - D.size) ++ D)).mono ?_
         rintro e w8 ⟨rfl, rfl⟩
         go_wp2_with fail
         go_ret
         exact ⟨by rw [HRE.out]; rfl, KK7.out⟩
        ·have hmb : mb (s.extract 0 (16 - D.size) ++ D) used = true := by rw [HCS.out]; exact HJ5.out k hk1 (by omega)
         go_wp2_with fail
         refine (HIN.out w7 KK7.out (s.extract 0 (16 - D.size) ++ D)).mono ?_
         rintro e w8 ⟨rfl, rfl⟩
         go_wp2_with fail
         go_roundw
         case rel => exact ⟨k + 1, by omega, by omega, by go_num, KK7.out⟩
         case measure => simp [intOf]; omega
       ·have t1 : decide ((16 : Int) < (s.size : Int) + (D.size : Int)) = false := decide_eq_false (by omega)
        rw [if_neg hc] at HCS
        clear hc
        by_cases hkj : k = j
        ·have hmb : mb (s ++ D) used = false := by rw [HCS.out, hkj]; exact HJ4.out
         have HRE : Hid (res = s ++ D) := Ld (by rw [HRJ.out, ← hkj, HCS.out])
         go_wp2_with fail
         refine (HIN.out w7 KK7.out (s ++ D)).mono ?_
         rintro e w8 ⟨rfl, rfl⟩
         go_wp2_with fail
         go_ret
         exact ⟨by rw [HRE.out]; rfl, KK7.out⟩
        ·have hmb : mb (s ++ D) used = true := by rw [HCS.out]; exact HJ5.out k hk1 (by omega)
         go_wp2_with fail
         refine (HIN.out w7 KK7.out (s ++ D)).mono ?_
         rintro e w8 ⟨rfl, rfl⟩
         go_wp2_with fail
         go_roundw
         case rel => exact ⟨k + 1, by omega, by omega, by go_num, KK7.out⟩
         case measure => simp [intOf]; omega
     ·have HN2 : Hid (stripD (s.extract 0 (s.size - 1)).data.toList = b ∧ (s.extract 0 (s.size - 1)).size ≤ 9223372036854775807) := Ld ⟨by rw [← hq.out.1, HSA.out, hd]; rfl, by rw [ByteArray.size_extract]; omega⟩
      go_wp2_with (go_at_call 137; refine (rdigit_any _ _).mono ?_; rintro e w' ⟨rfl, rfl⟩)
      go_roundw
      case rel => exact ⟨_, rfl, kr, HN2⟩
      case measure => simp only [strOf, ByteArray.size_extract]; omega
   ·have HPC := Ld (HP.out _ hp)
    have HST : Hid (stripD nm.data.toList = b ∧ nm.size ≤ 9223372036854775807) := Ld ⟨by rw [hp2] at HBL; exact HBL.out.symm, HSN.out⟩
    clear hp hp2 HP HPT
    go_wp2_with fail
    refine HPC.out.mono ?_
    rintro e w4 ⟨rfl, k4⟩
    have HK3 := Ld (HK.out.trans k4)
    clear HPC k4 HK
    go_wp2_with fail
    go_loopw [0] (fun v wr => ∃ s : ByteArray, v = .string s ∧ Kept (fun _ => False) w wr ∧ Hid (stripD s.data.toList = b ∧ s.size ≤ 9223372036854775807)) (fun v _ => (strOf v).size)
    case atStart => exact ⟨_, rfl, HK3.out, HST⟩
    case round =>
     obtain ⟨s, rfl, kr, hq⟩ := hrel
     have hpos : 0 < s.size := by
      have h1 := hq.out.1
      have h2 := HBN.out
      by_cases h : 0 < s.size
      ·exact h
      ·exfalso
       have h3 : s.data.toList = [] := List.length_eq_zero_iff.1 (by rw [ba_len]; omega)
       rw [h3] at h1
       exact h2 h1.symm
     have i1 : (0 : Int) < (s.size : Int) := by omega
     have i2 : s.size - 1 < s.size := by omega
     have i3 : (s.size : Int) - 1 = ((s.size - 1 : Nat) : Int) := by omega
     have i4 := hq.out.2
     have HSA := Ld (strip_at s i2)
     cases hd : digitB (s[s.size - 1].toNat)
     ·have HB : Hid (s.data.toList = b) := Ld (by rw [← hq.out.1, HSA.out, hd]; rfl)
      go_wp2_with (go_at_call 137; refine (rdigit_any _ _).mono ?_; rintro e w' ⟨rfl, rfl⟩)
      clear hd HSA i1 i3 hpos
      have i4 : s.size ≤ 16 := by have h1 := HBS.out; have h2 := congrArg List.length HB.out; rw [ba_len] at h2; omega
      go_loopw [5, 6, 7] (fun i x y wr => ∃ k : Nat, 1 ≤ k ∧ k ≤ j ∧ i = .int .i64 k ∧ Kept (fun _ => False) w wr) (fun i x y _ => j - (intOf i).toNat)
      case atStart => exact ⟨1, Nat.le_refl _, hj1, rfl, kr⟩
      case round =>
       obtain ⟨k, hk1, hk2, rfl, kr2⟩ := hrel
       have k1 : (k : Int) < 1000002 := by omega
       have hdl := dec_len2 6 k (by omega)
       have HDD := Ld (dec_nat k (by omega) wr)
       have HCS := Ld (cand_str (B := s) (k := k))
       rw [HB.out] at HCS
       have hDs : (str (Lib.decDigits k)).size ≤ 7 := by rw [str_size]; exact hdl
       clear hdl
       generalize str (Lib.decDigits k) = D at *
       go_wp2_with fail
       refine HDD.out.mono ?_
       rintro e w7 ⟨rfl, k7⟩
       have KK7 := Ld (kr2.trans k7)
       clear HDD
       have n1 : (D.size : Int) ≤ 7 := by omega
       have n2 : (s.size : Int) ≤ 16 := by omega
       have n3 : (0 : Int) ≤ (D.size : Int) := by omega
       have n4 : (0 : Int) ≤ (s.size : Int) := by omega
       by_cases hc : 16 < s.size + D.size
       ·have t1 : decide ((16 : Int) < (s.size : Int) + (D.size : Int)) = true := decide_eq_true (by omega)
        have n5 : (16 : Int) - (D.size : Int) = ((16 - D.size : Nat) : Int) := by omega
        have n6 : 16 - D.size ≤ s.size := by omega
        have n7 : ((16 - D.size : Nat) : Int) ≤ (s.size : Int) := by omega
        rw [if_pos hc] at HCS
        clear hc
        by_cases hkj : k = j
        ·have hmb : mb (s.extract 0 (16 - D.size) ++ D) used = false := by rw [HCS.out, hkj]; exact HJ4.out
         have HRE : Hid (res = s.extract 0 (16 - D.size) ++ D) := Ld (by rw [HRJ.out, ← hkj, HCS.out])
         go_wp2_with fail
         refine (HIN.out w7 KK7.out (s.extract 0 (16 - D.size) ++ D)).mono ?_
         rintro e w8 ⟨rfl, rfl⟩
         go_wp2_with fail
         go_ret
         exact ⟨by rw [HRE.out]; rfl, KK7.out⟩
        ·have hmb : mb (s.extract 0 (16 - D.size) ++ D) used = true := by rw [HCS.out]; exact HJ5.out k hk1 (by omega)
         go_wp2_with fail
         refine (HIN.out w7 KK7.out (s.extract 0 (16 - D.size) ++ D)).mono ?_
         rintro e w8 ⟨rfl, rfl⟩
         go_wp2_with fail
         go_roundw
         case rel => exact ⟨k + 1, by omega, by omega, by go_num, KK7.out⟩
         case measure => simp [intOf]; omega
       ·have t1 : decide ((16 : Int) < (s.size : Int) + (D.size : Int)) = false := decide_eq_false (by omega)
        rw [if_neg hc] at HCS
        clear hc
        by_cases hkj : k = j
        ·have hmb : mb (s ++ D) used = false := by rw [HCS.out, hkj]; exact HJ4.out
         have HRE : Hid (res = s ++ D) := Ld (by rw [HRJ.out, ← hkj, HCS.out])
         go_wp2_with fail
         refine (HIN.out w7 KK7.out (s ++ D)).mono ?_
         rintro e w8 ⟨rfl, rfl⟩
         go_wp2_with fail
         go_ret
         exact ⟨by rw [HRE.out]; rfl, KK7.out⟩
        ·have hmb : mb (s ++ D) used = true := by rw [HCS.out]; exact HJ5.out k hk1 (by omega)
         go_wp2_with fail
         refine (HIN.out w7 KK7.out (s ++ D)).mono ?_
         rintro e w8 ⟨rfl, rfl⟩
         go_wp2_with fail
         go_roundw
         case rel => exact ⟨k + 1, by omega, by omega, by go_num, KK7.out⟩
         case measure => simp [intOf]; omega
     ·have HN2 : Hid (stripD (s.extract 0 (s.size - 1)).data.toList = b ∧ (s.extract 0 (s.size - 1)).size ≤ 9223372036854775807) := Ld ⟨by rw [← hq.out.1, HSA.out, hd]; rfl, by rw [ByteArray.size_extract]; omega⟩
      go_wp2_with (go_at_call 137; refine (rdigit_any _ _).mono ?_; rintro e w' ⟨rfl, rfl⟩)
      go_roundw
      case rel => exact ⟨_, rfl, kr, HN2⟩
      case measure => simp only [strOf, ByteArray.size_extract]; omega
end Go.Proofs.YtfhedienjnfdcaaGreatDoor
