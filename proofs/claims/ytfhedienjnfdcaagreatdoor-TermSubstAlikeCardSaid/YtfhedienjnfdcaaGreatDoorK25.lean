/- Texts RAl2 VrA Srt SrtW FreW VarQ of this proof, in one. -/
import Derived.Test.YtfhedienjnfdcaaGreatDoorK22
import Derived.BigQuiet
set_option linter.unusedVariables false
set_option linter.unusedSimpArgs false
set_option maxRecDepth 100000
set_option maxHeartbeats 32000000
namespace Go.Proofs.YtfhedienjnfdcaaGreatDoor
open Go.RowKit
theorem ralikes_any {a b : Tm} {ok ok' : Nat → Prop} {w : World} {tk kk tk' kk' : Value} (h1 : TyL ok w a.ty.kids tk) (h2 : TmL ok w a.kids kk) (h3 : TyL ok' w b.ty.kids tk') (h4 : TmL ok' w b.kids kk') (ha : SmTm big a) (hb : SmTm big b) :
  Calls Tryz.prog 32 #[tmVal a tk kk, tmVal b tk' kk'] w fun e w' => e = .returned (.bool (alB a b)) ∧ Kept (fun _ => False) w w' := by
 obtain ⟨p, n, c, rfl⟩ := h1.slice
 obtain ⟨ma, mn, mc, rfl⟩ := h2.slice
 obtain ⟨p', n', c', rfl⟩ := h3.slice
 obtain ⟨ma', mn', mc', rfl⟩ := h4.slice
 have K1 : Kept (fun _ => False) w ((w.alloc (.cells #[.int .i64 a.op, .string a.name, .int .i64 a.n, .int .i64 a.ty.kind, .string a.ty.name, .slice p n c, .slice ma mn mc] 28)).alloc (.cells #[.int .i64 b.op, .string b.name, .int .i64 b.n, .int .i64 b.ty.kind, .string b.ty.name, .slice p' n' c', .slice ma' mn' mc'] 28)) := ((Kept.refl _ _).alloc _).alloc _
 have bA : Blk ((w.alloc (.cells #[.int .i64 a.op, .string a.name, .int .i64 a.n, .int .i64 a.ty.kind, .string a.ty.name, .slice p n c, .slice ma mn mc] 28)).alloc (.cells #[.int .i64 b.op, .string b.name, .int .i64 b.n, .int .i64 b.ty.kind, .string b.ty.name, .slice p' n' c', .slice ma' mn' mc'] 28)) w.heap.size 28 (tmCells a (.slice p n c) (.slice ma mn mc)) := (Blk.new w 28 _).alloc _
 have bB : Blk ((w.alloc (.cells #[.int .i64 a.op, .string a.name, .int .i64 a.n, .int .i64 a.ty.kind, .string a.ty.name, .slice p n c, .slice ma mn mc] 28)).alloc (.cells #[.int .i64 b.op, .string b.name, .int .i64 b.n, .int .i64 b.ty.kind, .string b.ty.name, .slice p' n' c', .slice ma' mn' mc'] 28)) (w.heap.size + 1) 28 (tmCells b (.slice p' n' c') (.slice ma' mn' mc')) := Blk.new' 28 _ (by simp)
 have HVA := Ld (fun W (k : Kept (fun _ => False) w W) => rvalid_any (h1.frame (sK k)) (h2.frame (sK k)) ha)
 have HVB := Ld (fun W (k : Kept (fun _ => False) w W) => rvalid_any (h3.frame (sK k)) (h4.frame (sK k)) hb)
 have HS := Ld (fun (hv : validB a = true) W (k : Kept (fun _ => False) w W) => ralike_any (valid_bd hv) b [] [] W ok ok' (fun _ => True) (fun _ => True) _ _ _ _ _ _ (h1.frame (sK k)) (h2.frame (sK k)) (h3.frame (sK k)) (h4.frame (sK k)) .nil .nil (by have := ((valid_iff a).1 hv).2.2; simp only [List.length_nil]; omega) (by have := ((valid_iff a).1 hv).2.2; simp only [List.length_nil]; omega))
 clear h1 h2 h3 h4 ha hb
 unfold tmVal at HS ⊢
 have HR : Hid (alB a b = ((validB a && validB b) && alikeT a b [] [])) := Ld rfl
 generalize alikeT a b [] [] = z at *
 go_enter Tryz.func32, Tryz.ntmps32
 go_wp2_with fail
 generalize ((w.alloc (.cells #[.int .i64 a.op, .string a.name, .int .i64 a.n, .int .i64 a.ty.kind, .string a.ty.name, .slice p n c, .slice ma mn mc] 28)).alloc (.cells #[.int .i64 b.op, .string b.name, .int .i64 b.n, .int .i64 b.ty.kind, .string b.ty.name, .slice p' n' c', .slice ma' mn' mc'] 28)) = w1 at *
 refine (HVA.out w1 K1).mono ?_
 rintro e w2 ⟨rfl, k2⟩
 have KK := Ld (K1.trans k2)
 have BA2 := Ld (bA.kept k2 (fun h => h))
 have BB2 := Ld (bB.kept k2 (fun h => h))
 clear K1 k2 bA bB HVA
 cases hv : validB a
 ·have HR2 : Hid (alB a b = false) := Ld (by rw [HR.out, hv]; rfl)
  clear hv HS HR HVB
  go_wp2_with fail
  go_ret
  exact ⟨by rw [HR2.out]; rfl, KK.out⟩
 ·have hvt := Ld hv
  clear hv
  have gB : ∀ i, w2.cell? ⟨w.heap.size + 1, i, none⟩ = [Value.int .i64 b.op, .string b.name, .int .i64 b.n, .int .i64 b.ty.kind, .string b.ty.name, .slice p' n' c', .slice ma' mn' mc'][i]? := BB2.out.cell
  go_wp2_with fail
  clear gB
  refine (HVB.out w2 KK.out).mono ?_
  rintro e w3 ⟨rfl, k3⟩
  have KK3 := Ld (KK.out.trans k3)
  have BA3 := Ld (BA2.out.kept k3 (fun h => h))
  have BB3 := Ld (BB2.out.kept k3 (fun h => h))
  clear KK k3 BA2 BB2 HVB
  cases hv : validB b
  ·have HR2 : Hid (alB a b = false) := Ld (by rw [HR.out, hvt.out, hv]; rfl)
   clear hv HS HR
   go_wp2_with fail
   go_ret
   exact ⟨by rw [HR2.out]; rfl, KK3.out⟩
  ·have HR2 : Hid (alB a b = z) := Ld (by rw [HR.out, hvt.out, hv]; rfl)
   have HS2 := Ld (HS.out hvt.out w3 KK3.out)
   have gA : ∀ i, w3.cell? ⟨w.heap.size, i, none⟩ = [Value.int .i64 a.op, .string a.name, .int .i64 a.n, .int .i64 a.ty.kind, .string a.ty.name, .slice p n c, .slice ma mn mc][i]? := BA3.out.cell
   have gB : ∀ i, w3.cell? ⟨w.heap.size + 1, i, none⟩ = [Value.int .i64 b.op, .string b.name, .int .i64 b.n, .int .i64 b.ty.kind, .string b.ty.name, .slice p' n' c', .slice ma' mn' mc'][i]? := BB3.out.cell
   clear hv HS HR
   go_wp2_with fail
   refine HS2.out.mono ?_
   rintro e w4 ⟨rfl, k4⟩
   go_wp2_with fail
   go_ret
   exact ⟨by rw [HR2.out]; rfl, KK3.out.trans k4⟩
structure VS (w : World) (op : Int) (nm : ByteArray) (N : Int) (ty : Ty) (v : Value) (O b0 : Nat) (E : List E3) (u : Value) (W : World) : Prop where
 kp : Kept (fun _ => False) w W
 rb : Blk W (w.heap.size + 1) 28 z27
 o : Blk W O 28 [.int .i64 op, .string nm, .int .i64 N, .int .i64 ty.kind, .string ty.name, v, .slice none 0 0]
 ho : w.heap.size + 2 ≤ O ∧ O < b0 ∧ b0 ≤ W.heap.size
 ty : TyL (fun q => w.heap.size + 2 ≤ q ∧ q ≠ O ∧ q < b0) W ty.kids v
 own : W.ownsRow b0 28 7 u E.length (flat E)
 el : EL (fun q => q ≠ O ∧ q ≠ w.heap.size + 1 ∧ u.ownBlock ≠ some q) W E
section
variable {w W W1 w5 w6 : World} {op : Int} {nm : ByteArray} {N : Int} {ty : Ty} {v u : Value} {O b0 : Nat} {E : List E3}
theorem VS.start {ak bk : Value} (h : CT w op nm N ty ak bk v O w5) (hE : EL (fun q => q < w.heap.size) w E) (hg : (w5.alloc (.cells #[] 28)).grownBy w6 (some w5.heap.size)) (own6 : w6.ownsRow w5.heap.size 28 7 u E.length (flat E)) : VS w op nm N ty v O w5.heap.size E u w6 := by
 have kG := kept_grown1 hg
 have l5 := h.o.lt
 have hw := h.kp.size
 have hho := h.ho
 have e1 : ∀ x, some w5.heap.size = some x → x = w5.heap.size := fun x e => (Option.some.inj e).symm
 have k6 : Kept (fun q => q = w5.heap.size) w5 w6 := ((Kept.refl (fun q => q = w5.heap.size) w5).alloc _).via1 kG (fun x hx e => e1 x e)
 have kw : Kept (fun _ => False) w w6 := h.kp.via1 k6 (fun x hx e => by omega)
 exact ⟨kw, h.r.kept k6 (fun e => by omega), h.o.kept k6 (fun e => by omega), ⟨h.ho, l5, k6.size⟩, (h.ty.mono (ok' := fun q => w.heap.size + 2 ≤ q ∧ q ≠ O ∧ q < w5.heap.size) (fun q hq h => ⟨h.1, h.2, hq⟩)).frame (Same.of_kept k6 (fun q hq e => by omega)), own6,
  (hE.frame (sK kw)).mono (fun q _ hq => ⟨by omega, by omega, fun e => by have := (World.ownsRow.lt own6 q e).1; omega⟩)⟩
theorem VS.kept (h : VS w op nm N ty v O b0 E u W) (k : Kept (fun _ => False) W W1) : VS w op nm N ty v O b0 E u W1 :=
 ⟨h.kp.trans k, h.rb.kept k (fun h => h), h.o.kept k (fun h => h), ⟨h.ho.1, h.ho.2.1, Nat.le_trans h.ho.2.2 k.size⟩, h.ty.frame (sK k), own_keptT h.own k (fun _ _ h => h), h.el.frame (sK k)⟩
theorem VS.name (h : VS w op nm N ty v O b0 E u W) (s : ByteArray) : VS w op s N ty v O b0 E u (W.setCell ⟨O, 1, none⟩ (.string s)) := by
 have kS : Kept (fun q => q = O) W (W.setCell ⟨O, 1, none⟩ (.string s)) := (Kept.refl (fun q => q = O) W).setCell (p := ⟨O, 1, none⟩) (Or.inl rfl) _
 obtain ⟨h1, h2, h3⟩ := h.ho
 exact ⟨h.kp.setCell (p := ⟨O, 1, none⟩) (Or.inr (by show w.heap.size ≤ O; omega)) _, h.rb.kept kS (fun e => by omega), h.o.set 1 (.string s), ⟨h1, h2, Nat.le_trans h3 kS.size⟩, h.ty.frame (Same.of_kept kS (fun q hq e => hq.2.1 e)), own_keptT h.own kS (fun g hg e => by have := (World.ownsRow.lt h.own g hg).1; omega), h.el.frame (Same.of_kept kS (fun q hq e => hq.1 e))⟩
theorem VS.body {g c B : Nat} {d y z : Tm} {dk dm yk ym zk zm : Value} (h : VS w op nm N ty v O b0 [(d, dk, dm), (y, yk, ym)] (.slice (some ⟨g, 0, none⟩) 2 c) W) (hB : b0 ≤ B ∧ g < B) (h1 : TyL (fun q => B ≤ q) W z.ty.kids zk) (h2 : TmL (fun q => B ≤ q) W z.kids zm) (W3 : World)
  (hW : W3 = ((((((W.setCell ⟨g, 7, none⟩ (.int .i64 z.op)).setCell ⟨g, 8, none⟩ (.string z.name)).setCell ⟨g, 9, none⟩ (.int .i64 z.n)).setCell ⟨g, 10, none⟩ (.int .i64 z.ty.kind)).setCell ⟨g, 11, none⟩ (.string z.ty.name)).setCell ⟨g, 12, none⟩ zk).setCell ⟨g, 13, none⟩ zm) :
  VS w op nm N ty v O b0 [(d, dk, dm), (z, zk, zm)] (.slice (some ⟨g, 0, none⟩) 2 c) W3 := by
 have lg := (World.ownsRow.lt h.own g rfl).1
 obtain ⟨l1, l2, l3⟩ := h.ho
 have kS : Kept (fun q => q = g) W W3 := by
  rw [hW]
  exact (((((((Kept.refl (fun q => q = g) W).setCell (p := ⟨g, 7, none⟩) (Or.inl rfl) _).setCell (p := ⟨g, 8, none⟩) (Or.inl rfl) _).setCell (p := ⟨g, 9, none⟩) (Or.inl rfl) _).setCell (p := ⟨g, 10, none⟩) (Or.inl rfl) _).setCell (p := ⟨g, 11, none⟩) (Or.inl rfl) _).setCell (p := ⟨g, 12, none⟩) (Or.inl rfl) _).setCell (p := ⟨g, 13, none⟩) (Or.inl rfl) _
 have own3 : W3.ownsRow b0 28 7 (.slice (some ⟨g, 0, none⟩) 2 c) 2 (flat [(d, dk, dm), (z, zk, zm)]) := by
  rw [hW]
  exact (((((((World.ownsRow.stored h.own 7 (.int .i64 z.op)).1.stored 8 (.string z.name)).1.stored 9 (.int .i64 z.n)).1.stored 10 (.int .i64 z.ty.kind)).1.stored 11 (.string z.ty.name)).1.stored 12 zk).1.stored 13 zm).1
 refine ⟨h.kp.via1 kS (fun x hx e => by have := h.kp.size; omega), h.rb.kept kS (fun e => by omega), h.o.kept kS (fun e => by omega), ⟨l1, l2, Nat.le_trans l3 kS.size⟩, h.ty.frame (Same.of_kept kS (fun q hq e => by omega)), own3, fun e he => ?_⟩
 rcases List.mem_cons.1 he with rfl | he
 ·have := h.el _ (List.mem_cons_self ..)
  exact ⟨this.1.frame (Same.of_kept kS (fun q hq e => hq.2.2 (by rw [e]; rfl))), this.2.frame (Same.of_kept kS (fun q hq e => hq.2.2 (by rw [e]; rfl)))⟩
 ·rw [List.mem_singleton.1 he]
  exact ⟨(h1.frame (Same.of_kept kS (fun q hq e => by omega))).mono (fun q _ hq => ⟨by omega, by omega, fun e => by have : g = q := Option.some.inj e; omega⟩), (h2.frame (Same.of_kept kS (fun q hq e => by omega))).mono (fun q _ hq => ⟨by omega, by omega, fun e => by have : g = q := Option.some.inj e; omega⟩)⟩
structure VL (w : World) (op : Int) (nm : ByteArray) (N : Int) (ty : Ty) (v : Value) (O b0 base : Nat) (K : List E3) (ku : Value) (E : List E3) (W : World) (U : Value) : Prop where
 row : RowT w base W E U
 rb : Blk W (w.heap.size + 1) 28 z27
 o : Blk W O 28 [.int .i64 op, .string nm, .int .i64 N, .int .i64 ty.kind, .string ty.name, v, U]
 ho : w.heap.size + 2 ≤ O ∧ O < b0 ∧ b0 ≤ base ∧ base ≤ W.heap.size
 ty : TyL (fun q => w.heap.size + 2 ≤ q ∧ q ≠ O ∧ q < b0) W ty.kids v
 kown : W.ownsRow b0 28 7 ku K.length (flat K)
 kel : EL (fun q => q ≠ O ∧ q < base) W K
 kb : ∀ g, ku.ownBlock = some g → g < base
theorem VL.start (h : VS w op nm N ty v O b0 E u W) : VL w op nm N ty v O b0 W.heap.size E u [] W (.slice none 0 0) :=
 ⟨RowT.nil h.kp, h.rb, h.o, ⟨h.ho.1, h.ho.2.1, h.ho.2.2, Nat.le_refl _⟩, h.ty, h.own, h.el.mono (fun q hq ho => ⟨ho.1, hq⟩), fun g hg => (World.ownsRow.lt h.own g hg).2⟩
variable {K : List E3} {ku U U8 : Value} {base : Nat} {W8 : World} {E8 : List E3}
theorem VL.kept (h : VL w op nm N ty v O b0 base K ku E W U) (k : Kept (fun _ => False) W W1) : VL w op nm N ty v O b0 base K ku E W1 U :=
 ⟨h.row.kept k, h.rb.kept k (fun h => h), h.o.kept k (fun h => h), ⟨h.ho.1, h.ho.2.1, h.ho.2.2.1, Nat.le_trans h.ho.2.2.2 k.size⟩, h.ty.frame (sK k), own_keptT h.kown k (fun _ _ h => h), h.kel.frame (sK k), h.kb⟩
theorem VL.kids (h : VL w op nm N ty v O b0 base K ku E W U) : TmL (fun _ => True) W (K.map (·.1)) ku :=
 tml_of_row' h.kown (h.kel.mono (fun _ _ _ => trivial)) (fun g hg => trivial)
theorem VL.step (h : VL w op nm N ty v O b0 base K ku E W U) (hg : W.grownBy W8 U.ownBlock) (hr : RowT w base W8 E8 U8) :
  Blk W8 O 28 [.int .i64 op, .string nm, .int .i64 N, .int .i64 ty.kind, .string ty.name, v, U] ∧ VL w op nm N ty v O b0 base K ku E8 (W8.setCell ⟨O, 6, none⟩ U8) U8 := by
 have kG := kept_grown1 hg
 have hub : ∀ x, U.ownBlock = some x → base ≤ x := fun x e => (h.row.own.lt x e).1
 have hub8 : ∀ x, U8.ownBlock = some x → base ≤ x := fun x e => (hr.own.lt x e).1
 obtain ⟨h1, h2, h3, h4⟩ := h.ho
 have bO := h.o.kept kG (fun e => by have := hub O e; omega)
 have kS : Kept (fun q => q = O) W8 (W8.setCell ⟨O, 6, none⟩ U8) := (Kept.refl (fun q => q = O) W8).setCell (p := ⟨O, 6, none⟩) (Or.inl rfl) _
 refine ⟨bO, ⟨⟨hr.kp.via1 kS (fun x hx e => by omega), own_keptT hr.own kS (fun g hg e => by have := hub8 g hg; omega), hr.el.frame (Same.of_kept kS (fun q hq e => by have := hq.1; omega))⟩, ?_, bO.set 6 _, ⟨h1, h2, h3, Nat.le_trans h4 (Nat.le_trans kG.size kS.size)⟩, ?_, ?_, ?_, h.kb⟩⟩
 ·exact (h.rb.kept kG (fun e => by have := hub _ e; omega)).kept kS (fun e => by omega)
 ·exact (h.ty.frame (Same.of_kept kG (fun q hq e => by have := hub q e; omega))).frame (Same.of_kept kS (fun q hq e => hq.2.1 e))
 ·exact own_keptT (own_keptT h.kown kG (fun g hg e => by have := hub g e; have := h.kb g hg; omega)) kS (fun g hg e => by have := (World.ownsRow.lt h.kown g hg).1; omega)
 ·exact (h.kel.frame (Same.of_kept kG (fun q hq e => by have := hub q e; omega))).frame (Same.of_kept kS (fun q hq e => hq.1 e))
end
def insS (s : ByteArray) : List ByteArray → List ByteArray
 | [] => [s]
 | x :: r => if Op.bytesLess x.toList s.toList then x :: insS s r else if x = s then x :: r else s :: x :: r
def srtS (out : List ByteArray) : List ByteArray → List ByteArray
 | [] => out
 | s :: l => srtS (insS s out) l
theorem insS_len (s : ByteArray) : ∀ (l : List ByteArray), l.length ≤ (insS s l).length ∧ (insS s l).length ≤ l.length + 1
 | [] => ⟨Nat.zero_le _, Nat.le_refl _⟩
 | x :: r => by
  rw [insS]
  have := insS_len s r
  split
  ·simp only [List.length_cons]; omega
  ·split
   ·simp
   ·simp
theorem insS_mb (s t : ByteArray) : ∀ (l : List ByteArray), mb t (insS s l) = (decide (s = t) || mb t l)
 | [] => by rw [insS]; unfold mb; rw [List.any_cons]
 | x :: r => by
  rw [insS]
  have ih := insS_mb s t r
  unfold mb at ih ⊢
  split
  ·rw [List.any_cons, ih, List.any_cons]
   cases decide (x = t) <;> cases decide (s = t) <;> rfl
  ·split
   ·rename_i _ h
    subst h
    rw [List.any_cons]
    cases decide (x = t) <;> rfl
   ·rw [List.any_cons, List.any_cons]
theorem srtS_mb (t : ByteArray) : ∀ (l out : List ByteArray), mb t (srtS out l) = (mb t out || mb t l)
 | [], out => by rw [srtS]; simp [mb]
 | s :: l, out => by
  rw [srtS, srtS_mb t l, insS_mb]
  have : mb t (s :: l) = (decide (s = t) || mb t l) := by unfold mb; rw [List.any_cons]
  rw [this]
  cases mb t out <;> cases decide (s = t) <;> rfl
theorem srtS_len : ∀ (l out : List ByteArray), (srtS out l).length ≤ out.length + l.length
 | [], out => Nat.le_refl _
 | s :: l, out => by
  rw [srtS, List.length_cons]
  have := srtS_len l (insS s out)
  have := (insS_len s out).2
  omega
theorem insS_skip (s : ByteArray) : ∀ (l : List ByteArray) (k : Nat), (∀ j (h : j < l.length), j < k → Op.bytesLess l[j].toList s.toList = true) → insS s l = l.take k ++ insS s (l.drop k)
 | l, 0, _ => rfl
 | [], k + 1, _ => rfl
 | x :: r, k + 1, h => by
  have h0 : Op.bytesLess x.toList s.toList = true := h 0 (by simp) (by omega)
  rw [insS, if_pos h0, insS_skip s r k (fun j hj hk => h (j + 1) (by simpa using hj) (by omega))]
  rfl
theorem insS_end {s : ByteArray} {l : List ByteArray} {k : Nat} (hk : l.length ≤ k) (h : ∀ j (h : j < l.length), j < k → Op.bytesLess l[j].toList s.toList = true) : insS s l = l.take k ++ s :: l.drop k := by
 rw [insS_skip s l k h, List.drop_eq_nil_of_le hk, insS]
theorem insS_eq {s : ByteArray} {l : List ByteArray} {k : Nat} (hk : k < l.length) (h : ∀ j (h : j < l.length), j < k → Op.bytesLess l[j].toList s.toList = true) (hn : Op.bytesLess l[k].toList s.toList = false) (he : l[k] = s) : insS s l = l := by
 rw [insS_skip s l k h, List.drop_eq_getElem_cons hk, insS, hn]
 simp only [Bool.false_eq_true, if_false]
 rw [if_pos he, ← List.drop_eq_getElem_cons hk, List.take_append_drop]
theorem insS_ne {s : ByteArray} {l : List ByteArray} {k : Nat} (hk : k < l.length) (h : ∀ j (h : j < l.length), j < k → Op.bytesLess l[j].toList s.toList = true) (hn : Op.bytesLess l[k].toList s.toList = false) (he : l[k] ≠ s) : insS s l = l.take k ++ s :: l.drop k := by
 rw [insS_skip s l k h, List.drop_eq_getElem_cons hk, insS, hn]
 simp only [Bool.false_eq_true, if_false]
 rw [if_neg he]
theorem gap_set {l : List ByteArray} {z : ByteArray} {j : Nat} (hj : j + 1 ≤ l.length) : (l.take (j + 1) ++ z :: l.drop (j + 1)).set (j + 1) (l[j]'(by omega)) = l.take j ++ (l[j]'(by omega)) :: l.drop j := by
 have h1 : (l.take (j + 1)).length = j + 1 := List.length_take_of_le hj
 rw [List.set_append_right _ _ (by omega), h1, Nat.sub_self, List.set_cons_zero, List.drop_eq_getElem_cons (show j < l.length by omega), List.take_succ_eq_append_getElem (show j < l.length by omega), List.append_assoc]
 rfl
theorem gap_get {l : List ByteArray} {z : ByteArray} {j : Nat} (hj : j + 1 ≤ l.length) : (l.take (j + 1) ++ z :: l.drop (j + 1))[j]? = some (l[j]'(by omega)) := by
 have h1 : (l.take (j + 1)).length = j + 1 := List.length_take_of_le hj
 rw [List.getElem?_append_left (by omega), List.getElem?_take, if_pos (by omega), List.getElem?_eq_getElem (by omega)]
theorem gap_fill {l : List ByteArray} {z s : ByteArray} {k : Nat} (hk : k ≤ l.length) : (l.take k ++ z :: l.drop k).set k s = l.take k ++ s :: l.drop k := by
 have h1 : (l.take k).length = k := List.length_take_of_le hk
 rw [List.set_append_right _ _ (by omega), h1, Nat.sub_self, List.set_cons_zero]
theorem gap_len {l : List ByteArray} {z : ByteArray} {k : Nat} (hk : k ≤ l.length) : (l.take k ++ z :: l.drop k).length = l.length + 1 := by
 rw [List.length_append, List.length_take_of_le hk, List.length_cons, List.length_drop]; omega
theorem srtS_drop {out l : List ByteArray} {m : Nat} (h : m < l.length) : srtS out (l.drop m) = srtS (insS l[m] out) (l.drop (m + 1)) := by
 rw [List.drop_eq_getElem_cons h, srtS]
theorem own_get {W : World} {base g n cap : Nat} {L : List ByteArray} (h : W.ownsRow base 9 1 (.slice (some ⟨g, 0, none⟩) n cap) n (L.map Value.string)) {j : Nat} (hj : j < n) {s : ByteArray} (hs : L[j]? = some s) : W.cell? ⟨g, j, none⟩ = some (.string s) := by
 rw [h.cellAt j (by omega), List.getElem?_map, hs]; rfl
theorem own_put {w W : World} {base g n cap : Nat} {L : List ByteArray} (k : Kept (fun _ => False) w W) (hb : w.heap.size ≤ base) (h : W.ownsRow base 9 1 (.slice (some ⟨g, 0, none⟩) n cap) n (L.map Value.string)) (j : Nat) (s : ByteArray) :
  (W.setCell ⟨g, j, none⟩ (.string s)).ownsRow base 9 1 (.slice (some ⟨g, 0, none⟩) n cap) n ((L.set j s).map Value.string) ∧ Kept (fun _ => False) w (W.setCell ⟨g, j, none⟩ (.string s)) := by
 have h2 := (h.lt g rfl).1
 exact ⟨by rw [List.map_set]; exact (h.stored j (.string s)).1, k.setCell (p := ⟨g, j, none⟩) (Or.inr (by show w.heap.size ≤ g; omega)) _⟩
theorem rsort_any {ok : Nat → Prop} {w : World} {l : List ByteArray} {v : Value} (h : NmL ok w l v) (hn : l.length ≤ 1000000) :
  Calls Tryz.prog 182 #[v] w fun e w' => ∃ v', e = .returned v' ∧ NRow w w.heap.size w' (srtS [] l) v' := by
 obtain ⟨i9, hi9, hz9, hs9, hb9⟩ := info_str
 have HI := Ld hi9
 have HZ := Ld hz9
 have HS := Ld hs9
 have HB := Ld hb9
 obtain ⟨a, c, rfl⟩ := h.slice
 have HAT := Ld (fun W (k : Kept (fun _ => False) w W) => (h.frame (sK k)).at)
 have HN := Ld hn
 clear h hi9 hz9 hs9 hb9 hn
 go_enter Tryz.func182, Tryz.ntmps182
 go_wp2_with fail
 go_loopw [3, 4, 5, 6] (fun v i x y wr => ∃ (m : Nat) (out : List ByteArray), m ≤ l.length ∧ i = .int .i64 m ∧ NRow w w.heap.size wr out v ∧ Hid (srtS [] l = srtS out (l.drop m) ∧ out.length ≤ m)) (fun v i x y _ => l.length - (intOf i).toNat)
 case atStart => exact ⟨0, [], Nat.zero_le _, rfl, ⟨Kept.refl _ _, World.ownsRow_nil _ _ _ _⟩, Ld ⟨rfl, Nat.le_refl _⟩⟩
 case round =>
  obtain ⟨m, out, hml, rfl, hR, hq⟩ := hrel
  obtain ⟨va, vc, hv⟩ := hR.nml.slice
  subst hv
  have R := Ld hR
  clear hR
  by_cases hlt : m < l.length
  ·have i1 : (m : Int) < (l.length : Int) := by omega
   have i2 : (m : Int) < 1000000 := by have := HN.out; omega
   have HD := Ld (srtS_drop (out := out) hlt)
   have HOL := Ld hq.out.2
   have HQ1 := Ld hq.out.1
   obtain ⟨g, off, had, _, _⟩ := HAT.out wr R.out.kp m hlt
   subst had
   have HS0 := Ld (fun W (k : Kept (fun _ => False) w W) => (by obtain ⟨g', off', e, _, h⟩ := HAT.out W k m hlt; cases e; exact h : W.cell? ⟨g, off + m, none⟩ = some (.string l[m])))
   clear hq
   generalize hs : l[m] = s at *
   clear hs
   go_wp2_with fail
   go_loopw [5] (fun x wr' => ∃ k : Nat, k ≤ out.length ∧ x = .int .i64 k ∧ NRow w w.heap.size wr' out (.slice va out.length vc) ∧ Hid (∀ j (h : j < out.length), j < k → Op.bytesLess out[j].toList s.toList = true)) (fun x _ => out.length - (intOf x).toNat)
   case atStart => exact ⟨0, Nat.zero_le _, rfl, R.out, Ld (fun j _ h => absurd h (Nat.not_lt_zero _))⟩
   case round =>
    obtain ⟨k, hkl, rfl, hR2, hless⟩ := hrel
    have R2 := Ld hR2
    have c0 := HS0.out _ hR2.kp
    clear hR2
    by_cases hko : k < out.length
    ·have k1 : (k : Int) < (out.length : Int) := by omega
     have k2 : (k : Int) < 1000000 := by have := HN.out; have := HOL.out; omega
     have t1 : decide ((k : Int) < (out.length : Int)) = true := decide_eq_true k1
     obtain ⟨g2, off2, had2, _, c2⟩ := R2.out.nml.at k hko
     subst had2
     obtain ⟨x, hx⟩ : ∃ x, x = out[k] := ⟨_, rfl⟩
     have HX := Ld hx
     rw [← hx] at c2
     clear hx
     cases hlo : Op.bytesLess x.toList s.toList
     ·go_upto_region 6 with (fail)
      go_quiet (fail)
      have kd : Kept (fun _ => False) wr (World.drewN wr nq) := (Kept.refl _ _).drewN nq
      generalize World.drewN wr nq = wd at *
      have Rd := Ld (NRow.mk (R2.out.kp.trans kd) (own_keptT R2.out.own kd (fun _ _ h => h)))
      have c0d := HS0.out _ Rd.out.kp
      have c2d : wd.cell? ⟨g2, off2 + k, none⟩ = some (.string x) := by rw [kd.cell (p := ⟨g2, off2 + k, none⟩) (cell_lt c2) (fun h => h)]; exact c2
      clear kd c0 c2
      cases heq : (x.toList == s.toList)
      ·have HNE : Hid (x ≠ s) := Ld (by rw [nm_eq] at heq; exact of_decide_eq_false heq)
       go_upto_region 8 with (fail)
       go_quiet (fail)
       have kd : Kept (fun _ => False) wd (World.drewN wd nq) := (Kept.refl _ _).drewN nq
       have R3 := Ld (NRow.mk (Rd.out.kp.trans kd) (own_keptT Rd.out.own kd (fun _ _ h => h)))
       generalize World.drewN wd nq = w3 at *
       clear kd c0d c2d Rd heq t1
       have HINS : Hid (insS s out = out.take k ++ s :: out.drop k) := Ld (insS_ne hko hless.out (by rw [← HX.out]; exact hlo) (by rw [← HX.out]; exact HNE.out))
       clear hless
       have HKL := Ld hkl
       clear hkl
       clear hlo HX HNE hko k1 k2
       go_wp2_with (at_builtin; refine wpList_app_src rfl (.tmp 45) (.tmp 46) _ rfl w.heap.size 9 i9 _ 1 16 Tryz.underlying41 HI.out HZ.out HS.out HB.out rfl (by decide) (.slice (some ⟨g2, off2, none⟩) out.length vc) out.length (out.map Value.string) rfl (R3.out.own.alloc _) (.slice (some ⟨w3.heap.size, 0, none⟩) 1 1) 1 [.string ⟨#[]⟩] rfl (.inr ⟨_, _, rfl, cell_one_new _ _ _⟩) rfl (strs_one [⟨#[]⟩]) ?_ ?_ ?_ ?_)
       ·have := HOL.out; have := HN.out; unfold maxLen; omega
       ·have := HOL.out; have := HN.out; omega
       ·have := R3.out.kp.size; simp; omega
       intro v4 w4 own4 hg4 hat4
       have R4 : NRow w w.heap.size w4 (out ++ [⟨#[]⟩]) v4 := NRow.app (W := w3.alloc (.cells #[.string ⟨#[]⟩] 9)) (r := [⟨#[]⟩]) ⟨R3.out.kp.alloc _, R3.out.own.alloc _⟩ (Nat.le_refl _) own4 hg4
       clear own4 hg4 hat4
       obtain ⟨g4, cap4, hv4⟩ : ∃ g4 cap4, v4 = .slice (some ⟨g4, 0, none⟩) (out.length + 1) cap4 := by
        rcases R4.own.2 with ⟨_, hn⟩ | ⟨g', cap', cur, hv, _⟩
        ·simp at hn
        ·exact ⟨g', cap', by rw [hv]; simp⟩
       subst hv4
       have O4 : Hid (w4.ownsRow w.heap.size 9 1 (.slice (some ⟨g4, 0, none⟩) (out.length + 1) cap4) (out.length + 1) ((out.take out.length ++ (⟨#[]⟩ : ByteArray) :: out.drop out.length).map Value.string)) := Ld (by
        have h := R4.own
        rw [List.length_append, List.length_singleton] at h
        rw [List.take_length, List.drop_length]
        exact h)
       have K4 := Ld R4.kp
       clear R4 R3 R2
       have j0 : ((out.length + 1 : Nat) : Int) - 1 = (out.length : Int) := by omega
       have jb : (out.length : Int) < 1000000 := by have := HOL.out; have := HN.out; omega
       go_wp2_with fail
       go_loopw [6] (fun y wr' => ∃ (j : Nat) (z : ByteArray), k ≤ j ∧ j ≤ out.length ∧ y = .int .i64 j ∧ Kept (fun _ => False) w wr' ∧ Hid (wr'.ownsRow w.heap.size 9 1 (.slice (some ⟨g4, 0, none⟩) (out.length + 1) cap4) (out.length + 1) ((out.take j ++ z :: out.drop j).map Value.string))) (fun y _ => (intOf y).toNat)
       case atStart => exact ⟨out.length, ⟨#[]⟩, HKL.out, Nat.le_refl _, by go_num, K4.out, O4⟩
       case round =>
        obtain ⟨j, z, hkj, hjo, rfl, kr, HO⟩ := hrel
        have KR := Ld kr
        have f4 : ∀ i, wr.frozen? ⟨g4, i, none⟩ = false := HO.out.frozenAt
        have l4 : g4 < wr.heap.size := (HO.out.lt g4 rfl).2
        have c0 := HS0.out _ kr
        clear kr
        by_cases hj : k < j
        ·obtain ⟨j', hjj⟩ : ∃ j', j = j' + 1 := ⟨j - 1, by omega⟩
         have hx1 : (out.take j ++ z :: out.drop j)[j']? = some (out[j']'(by omega)) := by subst hjj; exact gap_get hjo
         have x1 : wr.cell? ⟨g4, j', none⟩ = some (.string (out[j']'(by omega))) := own_get HO.out (by omega) hx1
         have x2 : wr.cell? ⟨g4, j, none⟩ = some (.string z) := own_get HO.out (by omega) (by have h1 : (out.take j).length = j := List.length_take_of_le hjo; rw [List.getElem?_append_right (by omega), h1, Nat.sub_self]; rfl)
         have HP := Ld (own_put KR.out (Nat.le_refl _) HO.out j (out[j']'(by omega)))
         have hg : (out.take j ++ z :: out.drop j).set j (out[j']'(by omega)) = out.take j' ++ (out[j']'(by omega)) :: out.drop j' := by subst hjj; exact gap_set hjo
         rw [hg] at HP
         generalize hu : out[j']'(by omega) = u at *
         have j1 : (j : Int) - 1 = (j' : Int) := by omega
         have j2 : (k : Int) < (j : Int) := by omega
         have j3 : (j' : Int) < (out.length : Int) + 1 := by omega
         have j4 : (j : Int) < (out.length : Int) + 1 := by omega
         have j5 : (j : Int) < 1000001 := by omega
         have HJJ := Ld hjj
         clear hu HO c0 hx1 hg hjj
         go_wp2_with fail
         go_roundw
         case rel => exact ⟨j', u, by have := HJJ.out; omega, by have := HJJ.out; omega, by go_num, HP.out.2, Ld HP.out.1⟩
         case measure => have := HJJ.out; simp [intOf]; omega
        ·obtain rfl : j = k := by omega
         have x2 : wr.cell? ⟨g4, j, none⟩ = some (.string z) := own_get HO.out (by omega) (by have h1 : (out.take j).length = j := List.length_take_of_le hjo; rw [List.getElem?_append_right (by omega), h1, Nat.sub_self]; rfl)
         have HP := Ld (own_put KR.out (Nat.le_refl _) HO.out j s)
         rw [gap_fill hjo, ← HINS.out] at HP
         have j4 : (j : Int) < (out.length : Int) + 1 := by omega
         have HLN : Hid (out.length + 1 = (insS s out).length) := Ld (by rw [HINS.out, gap_len hjo])
         clear HO
         go_wp2_with fail
         go_roundw
         case rel => exact ⟨m + 1, insS s out, by omega, by go_num, ⟨HP.out.2, by have h := HP.out.1; rw [HLN.out] at h; rw [← HLN.out] at h ⊢; exact h⟩, Ld ⟨by rw [HQ1.out, HD.out], by have := (insS_len s out).2; have := HOL.out; omega⟩⟩
         case measure => simp [intOf]; omega
      ·have hye : x = s := by rw [nm_eq] at heq; exact of_decide_eq_true heq
       have HSAME : Hid (insS s out = out) := Ld (insS_eq hko hless.out (by rw [← HX.out]; exact hlo) (by rw [← HX.out]; exact hye))
       go_upto_region 8 with (fail)
       go_quiet (fail)
       have kd : Kept (fun _ => False) wd (World.drewN wd nq) := (Kept.refl _ _).drewN nq
       have R3 := Ld (NRow.mk (Rd.out.kp.trans kd) (own_keptT Rd.out.own kd (fun _ _ h => h)))
       generalize World.drewN wd nq = w3 at *
       clear kd c0d c2d Rd heq hye t1
       go_wp2_with fail
       go_roundw
       case rel => exact ⟨m + 1, out, by omega, by go_num, R3.out, Ld ⟨by rw [HQ1.out, HD.out, HSAME.out], by have := HOL.out; omega⟩⟩
       case measure => simp [intOf]; omega
     ·go_upto_region 6 with (fail)
      go_quiet (fail)
      have kd : Kept (fun _ => False) wr (World.drewN wr nq) := (Kept.refl _ _).drewN nq
      have Rd := Ld (NRow.mk (R2.out.kp.trans kd) (own_keptT R2.out.own kd (fun _ _ h => h)))
      generalize World.drewN wr nq = wd at *
      clear kd c0 c2 t1
      go_wp2_with fail
      go_roundw
      case rel => exact ⟨k + 1, by omega, by go_num, Rd.out, Ld (fun j hj hjk => by
       by_cases e : j < k
       ·exact hless.out j hj e
       ·obtain rfl : j = k := by omega
        rw [← HX.out]; exact hlo)⟩
      case measure => simp [intOf]; omega
    ·have t1 : decide ((k : Int) < (out.length : Int)) = false := by simp; omega
     have hko' : out.length ≤ k := by omega
     go_upto_region 6 with (fail)
     go_quiet (fail)
     have kd : Kept (fun _ => False) wr (World.drewN wr nq) := (Kept.refl _ _).drewN nq
     have Rd := Ld (NRow.mk (R2.out.kp.trans kd) (own_keptT R2.out.own kd (fun _ _ h => h)))
     generalize World.drewN wr nq = wd at *
     clear kd c0
     go_upto_region 8 with (fail)
     go_quiet (fail)
     have kd : Kept (fun _ => False) wd (World.drewN wd nq) := (Kept.refl _ _).drewN nq
     have R3 := Ld (NRow.mk (Rd.out.kp.trans kd) (own_keptT Rd.out.own kd (fun _ _ h => h)))
     generalize World.drewN wd nq = w3 at *
     clear kd Rd t1
     have HINS : Hid (insS s out = out.take k ++ s :: out.drop k) := Ld (insS_end hko' hless.out)
     clear hless
     have HKL := Ld hkl
     clear hkl
     clear hko hko'
     go_wp2_with (at_builtin; refine wpList_app_src rfl (.tmp 45) (.tmp 46) _ rfl w.heap.size 9 i9 _ 1 16 Tryz.underlying41 HI.out HZ.out HS.out HB.out rfl (by decide) (.slice va out.length vc) out.length (out.map Value.string) rfl (R3.out.own.alloc _) (.slice (some ⟨w3.heap.size, 0, none⟩) 1 1) 1 [.string ⟨#[]⟩] rfl (.inr ⟨_, _, rfl, cell_one_new _ _ _⟩) rfl (strs_one [⟨#[]⟩]) ?_ ?_ ?_ ?_)
     ·have := HOL.out; have := HN.out; unfold maxLen; omega
     ·have := HOL.out; have := HN.out; omega
     ·have := R3.out.kp.size; simp; omega
     intro v4 w4 own4 hg4 hat4
     have R4 : NRow w w.heap.size w4 (out ++ [⟨#[]⟩]) v4 := NRow.app (W := w3.alloc (.cells #[.string ⟨#[]⟩] 9)) (r := [⟨#[]⟩]) ⟨R3.out.kp.alloc _, R3.out.own.alloc _⟩ (Nat.le_refl _) own4 hg4
     clear own4 hg4 hat4
     obtain ⟨g4, cap4, hv4⟩ : ∃ g4 cap4, v4 = .slice (some ⟨g4, 0, none⟩) (out.length + 1) cap4 := by
      rcases R4.own.2 with ⟨_, hn⟩ | ⟨g', cap', cur, hv, _⟩
      ·simp at hn
      ·exact ⟨g', cap', by rw [hv]; simp⟩
     subst hv4
     have O4 : Hid (w4.ownsRow w.heap.size 9 1 (.slice (some ⟨g4, 0, none⟩) (out.length + 1) cap4) (out.length + 1) ((out.take out.length ++ (⟨#[]⟩ : ByteArray) :: out.drop out.length).map Value.string)) := Ld (by
      have h := R4.own
      rw [List.length_append, List.length_singleton] at h
      rw [List.take_length, List.drop_length]
      exact h)
     have K4 := Ld R4.kp
     clear R4 R3 R2
     have j0 : ((out.length + 1 : Nat) : Int) - 1 = (out.length : Int) := by omega
     have jb : (out.length : Int) < 1000000 := by have := HOL.out; have := HN.out; omega
     go_wp2_with fail
     go_loopw [6] (fun y wr' => ∃ (j : Nat) (z : ByteArray), k ≤ j ∧ j ≤ out.length ∧ y = .int .i64 j ∧ Kept (fun _ => False) w wr' ∧ Hid (wr'.ownsRow w.heap.size 9 1 (.slice (some ⟨g4, 0, none⟩) (out.length + 1) cap4) (out.length + 1) ((out.take j ++ z :: out.drop j).map Value.string))) (fun y _ => (intOf y).toNat)
     case atStart => exact ⟨out.length, ⟨#[]⟩, HKL.out, Nat.le_refl _, by go_num, K4.out, O4⟩
     case round =>
      obtain ⟨j, z, hkj, hjo, rfl, kr, HO⟩ := hrel
      have KR := Ld kr
      have f4 : ∀ i, wr.frozen? ⟨g4, i, none⟩ = false := HO.out.frozenAt
      have l4 : g4 < wr.heap.size := (HO.out.lt g4 rfl).2
      have c0 := HS0.out _ kr
      clear kr
      by_cases hj : k < j
      ·obtain ⟨j', hjj⟩ : ∃ j', j = j' + 1 := ⟨j - 1, by omega⟩
       have hx1 : (out.take j ++ z :: out.drop j)[j']? = some (out[j']'(by omega)) := by subst hjj; exact gap_get hjo
       have x1 : wr.cell? ⟨g4, j', none⟩ = some (.string (out[j']'(by omega))) := own_get HO.out (by omega) hx1
       have x2 : wr.cell? ⟨g4, j, none⟩ = some (.string z) := own_get HO.out (by omega) (by have h1 : (out.take j).length = j := List.length_take_of_le hjo; rw [List.getElem?_append_right (by omega), h1, Nat.sub_self]; rfl)
       have HP := Ld (own_put KR.out (Nat.le_refl _) HO.out j (out[j']'(by omega)))
       have hg : (out.take j ++ z :: out.drop j).set j (out[j']'(by omega)) = out.take j' ++ (out[j']'(by omega)) :: out.drop j' := by subst hjj; exact gap_set hjo
       rw [hg] at HP
       generalize hu : out[j']'(by omega) = u at *
       have j1 : (j : Int) - 1 = (j' : Int) := by omega
       have j2 : (k : Int) < (j : Int) := by omega
       have j3 : (j' : Int) < (out.length : Int) + 1 := by omega
       have j4 : (j : Int) < (out.length : Int) + 1 := by omega
       have j5 : (j : Int) < 1000001 := by omega
       have HJJ := Ld hjj
       clear hu HO c0 hx1 hg hjj
       go_wp2_with fail
       go_roundw
       case rel => exact ⟨j', u, by have := HJJ.out; omega, by have := HJJ.out; omega, by go_num, HP.out.2, Ld HP.out.1⟩
       case measure => have := HJJ.out; simp [intOf]; omega
      ·obtain rfl : j = k := by omega
       have x2 : wr.cell? ⟨g4, j, none⟩ = some (.string z) := own_get HO.out (by omega) (by have h1 : (out.take j).length = j := List.length_take_of_le hjo; rw [List.getElem?_append_right (by omega), h1, Nat.sub_self]; rfl)
       have HP := Ld (own_put KR.out (Nat.le_refl _) HO.out j s)
       rw [gap_fill hjo, ← HINS.out] at HP
       have j4 : (j : Int) < (out.length : Int) + 1 := by omega
       have HLN : Hid (out.length + 1 = (insS s out).length) := Ld (by rw [HINS.out, gap_len hjo])
       clear HO
       go_wp2_with fail
       go_roundw
       case rel => exact ⟨m + 1, insS s out, by omega, by go_num, ⟨HP.out.2, by have h := HP.out.1; rw [HLN.out] at h; rw [← HLN.out] at h ⊢; exact h⟩, Ld ⟨by rw [HQ1.out, HD.out], by have := (insS_len s out).2; have := HOL.out; omega⟩⟩
       case measure => simp [intOf]; omega
  ·have hmm : m = l.length := by omega
   subst hmm
   have HE : Hid (srtS [] l = out) := Ld (by rw [hq.out.1, List.drop_length, srtS])
   go_wp2_with fail
   go_ret
   exact ⟨_, rfl, by rw [HE.out]; exact R.out⟩
def freS (t : Tm) : List ByteArray := if validB t then srtS [] (fr t) else []
theorem freS_mb {t : Tm} (h : validB t = true) (s : ByteArray) : mb s (freS t) = mb s (fr t) := by
 unfold freS; rw [h]; simp only [if_true]; rw [srtS_mb]; simp [mb]
theorem freS_len (t : Tm) : (freS t).length ≤ 700000 := by
 unfold freS
 split
 ·rename_i h
  have h1 := srtS_len (fr t) []
  have h2 := frs_len t
  have h3 := ((valid_iff t).1 h).2.1
  simp at h1
  omega
 ·simp
theorem rFree_any {t : Tm} {ok : Nat → Prop} {w : World} {tk kk : Value} (h1 : TyL ok w t.ty.kids tk) (h2 : TmL ok w t.kids kk) (hs : SmTm big t) :
  Calls Tryz.prog 125 #[tmVal t tk kk] w fun e w' => ∃ v', e = .returned v' ∧ NRow w w.heap.size w' (freS t) v' := by
 obtain ⟨a, n, c, rfl⟩ := h1.slice
 obtain ⟨ma, mn, mc, rfl⟩ := h2.slice
 have K0 : Kept (fun _ => False) w (w.alloc (.cells #[.int .i64 t.op, .string t.name, .int .i64 t.n, .int .i64 t.ty.kind, .string t.ty.name, .slice a n c, .slice ma mn mc] 28)) := (Kept.refl _ _).alloc _
 have BA := Ld (Blk.new w 28 [.int .i64 t.op, .string t.name, .int .i64 t.n, .int .i64 t.ty.kind, .string t.ty.name, .slice a n c, .slice ma mn mc])
 change Hid (Blk (w.alloc (.cells #[.int .i64 t.op, .string t.name, .int .i64 t.n, .int .i64 t.ty.kind, .string t.ty.name, .slice a n c, .slice ma mn mc] 28)) _ _ _) at BA
 have HV := Ld (rvalid_any (h1.frame (sK K0)) (h2.frame (sK K0)) hs)
 have HF := Ld (fun (hv : validB t = true) W (k : Kept (fun _ => False) w W) => rfree_any (valid_bd hv) [] W ok (fun _ => True) _ _ _ (h1.frame (sK k)) (h2.frame (sK k)) .nil (by have := ((valid_iff t).1 hv).2.2; simp; omega) (by have := ((valid_iff t).1 hv).2.1; omega))
 rw [frL_nil] at HF
 have HK := Ld K0
 have HFL : Hid (validB t = true → (fr t).length ≤ 1000000) := Ld (fun hv => by have h2 := frs_len t; have h3 := ((valid_iff t).1 hv).2.1; omega)
 have HQ : Hid (freS t = if validB t then srtS [] (fr t) else []) := Ld rfl
 clear h1 h2 hs K0
 unfold tmVal at HF ⊢
 generalize freS t = q at *
 generalize fr t = F at *
 go_enter Tryz.func125, Tryz.ntmps125
 go_wp2_with fail
 generalize w.alloc (.cells #[.int .i64 t.op, .string t.name, .int .i64 t.n, .int .i64 t.ty.kind, .string t.ty.name, .slice a n c, .slice ma mn mc] 28) = w1 at *
 refine HV.out.mono ?_
 rintro e w2 ⟨rfl, k2⟩
 have K2 := Ld (HK.out.trans k2)
 have B2 := Ld (BA.out.kept k2 (fun h => h))
 clear k2 HV HK BA
 cases hv : validB t
 ·have HE : Hid (q = []) := Ld (by rw [HQ.out, hv]; rfl)
  clear HF HFL HQ hv
  go_wp2_with fail
  go_ret
  exact ⟨_, rfl, by rw [HE.out]; exact ⟨K2.out, World.ownsRow_nil _ _ _ _⟩⟩
 ·have HE : Hid (q = srtS [] F) := Ld (by rw [HQ.out, hv]; rfl)
  have HF2 := Ld (HF.out hv w2 K2.out)
  have HL2 := Ld (HFL.out hv)
  have gA : ∀ i, w2.cell? ⟨w.heap.size, i, none⟩ = [Value.int .i64 t.op, .string t.name, .int .i64 t.n, .int .i64 t.ty.kind, .string t.ty.name, .slice a n c, .slice ma mn mc][i]? := B2.out.cell
  clear HF HFL HQ hv
  go_wp2_with fail
  clear gA
  refine HF2.out.mono ?_
  rintro e w3 ⟨v3, rfl, h3⟩
  obtain ⟨xa, xc, hv3⟩ := h3.nml.slice
  subst hv3
  have HS := Ld (rsort_any h3.nml HL2.out)
  have K3 := Ld (K2.out.trans h3.kp)
  clear h3 HF2
  go_wp2_with fail
  refine HS.out.mono ?_
  rintro e w4 ⟨v4, rfl, h4⟩
  obtain ⟨ya, yc, hv4⟩ := h4.nml.slice
  subst hv4
  have R4 : Hid (NRow w w.heap.size w4 (srtS [] F) (.slice ya (srtS [] F).length yc)) := Ld ⟨K3.out.trans h4.kp, own_base h4.own (fun g hg => by have h5 := (h4.own.lt g hg).1; have h6 := K3.out.size; omega)⟩
  clear h4 HS
  go_wp2_with fail
  go_ret
  exact ⟨_, rfl, by rw [HE.out]; exact R4.out⟩
theorem varK_at {g : Tm → Nat → Tm × Nat} : ∀ {ks : List Tm} {i : Nat}, (∀ t ∈ ks, ∀ j, (g t j).2 ≤ j + tmN t) → (varK g ks i).2 ≤ i + tmNs ks
 | [], i, h => Nat.le_refl _
 | t :: ks, i, h => by
  rw [varK, tmNs]
  have h1 := h t (by simp) i
  have h2 := varK_at (i := (g t i).2) (fun t ht => h t (List.mem_cons_of_mem _ ht))
  show (varK g ks (g t i).2).2 ≤ _
  omega
theorem varK_drop {g : Tm → Nat → Tm × Nat} {ks : List Tm} {k a : Nat} (h : k < ks.length) : varK g (ks.drop k) a = ((g ks[k] a).1 :: (varK g (ks.drop (k + 1)) (g ks[k] a).2).1, (varK g (ks.drop (k + 1)) (g ks[k] a).2).2) := by
 rw [List.drop_eq_getElem_cons h, varK]
theorem tmNs_drop {ks : List Tm} {k : Nat} (h : k < ks.length) : tmNs (ks.drop k) = tmN ks[k] + tmNs (ks.drop (k + 1)) := by
 rw [List.drop_eq_getElem_cons h, tmNs]
theorem var_body {l : List Int} {i : Nat} {op : Int} {nm : ByteArray} {N : Int} {ty : Ty} {d y : Tm} (h : OkTm (.mk op nm N ty [d, y])) (hb : binderB op = true) (hM : tmN y ≤ 700000) :
  OkTm (subT freshS y [(nm, nameT (varZ l nm y i))]) ∧ tmN (subT freshS y [(nm, nameT (varZ l nm y i))]) = tmN y ∧ tmD (subT freshS y [(nm, nameT (varZ l nm y i))]) = tmD y ∧ identB (varZ l nm y i) = true := by
 have hy : OkTm y := h.kid (by simp [Tm.kids])
 have hid := formed_ident h.formed hb
 have hz1 := varZ_ident (l := l) (i := i) hid hM
 have hz2 := fun s hs hn => varZ_not (l := l) (nm := nm) (body := y) (i := i) hM (s := s) hs hn
 obtain ⟨h1, h2⟩ := sub1_size hy (ident_named hz1) hz2 hM
 exact ⟨sub1_ok hy (ident_named hz1) hM, h1, h2, hz1⟩
theorem varF_at (l : List Int) : ∀ (f : Nat) (t : Tm) (i : Nat), OkTm t → tmN t ≤ 700000 → tmD t ≤ f → (varF l f t i).2 ≤ i + tmN t := by
 intro f
 induction f with
 | zero => intro t i _ _ h; rw [varF]; omega
 | succ f ih =>
  intro t i h hM hD
  cases t with
  | mk op nm N ty ks =>
   rw [tmN] at hM ⊢
   rw [tmD] at hD
   rw [varF]
   cases hb : binderB op
   ·simp only [Bool.false_eq_true, if_false]
    have := varK_at (g := varF l f) (i := i) (ks := ks) (fun t ht j => ih t j (h.kid ht) (by have := (tmD_kid ht).2; omega) (by have := (tmD_kid ht).1; omega))
    omega
   ·simp only [if_true]
    have e2 := binder_kids hb (formed_parts h.formed).1
    match ks, e2 with
    | [d, y], _ =>
     have eg : ([d, y] : List Tm).getD 1 (nameT nm) = y := rfl
     rw [eg]
     simp only [tmNs] at hM ⊢
     simp only [tmDs] at hD
     obtain ⟨h1, h2, h3, _⟩ := var_body (l := l) (i := i) h hb (by omega)
     generalize subT freshS y [(nm, nameT (varZ l nm y i))] = y' at *
     have := varK_at (g := varF l f) (i := i + 1) (ks := ([d, y] : List Tm).set 1 y') (fun t ht j => by
      have ht : t ∈ [d, y'] := ht
      rcases List.mem_cons.1 ht with rfl | ht
      ·exact ih _ j (h.kid (by simp [Tm.kids])) (by omega) (by omega)
      ·rw [List.mem_singleton.1 ht]
       exact ih _ j h1 (by omega) (by omega))
     have e3 : tmNs (([d, y] : List Tm).set 1 y') = tmN d + (tmN y' + 0) := rfl
     rw [e3] at this
     show (varK (varF l f) (([d, y] : List Tm).set 1 y') (i + 1)).2 ≤ _
     omega
theorem exL_mb (s x : ByteArray) (L : List ByteArray) : mb s (exL L x) = (mb s L && !decide (s = x)) := by
 rw [Bool.eq_iff_iff, mb_iff, exL_mem, Bool.and_eq_true, mb_iff]
 simp
theorem varZ_free {l : List Int} {nm : ByteArray} {y : Tm} {i : Nat} (hv : validB y = true) : freshS (wordV nm (pickV l i)) (exL (freS y) nm) = varZ l nm y i := by
 unfold varZ
 exact freshS_ext (fun s => by rw [exL_mb, exL_mb, freS_mb hv]) _
theorem pickV_lt (l : List Int) (i : Nat) : pickV l i < 8 := by
 unfold pickV
 split
 ·omega
 ·have := Int.emod_lt_of_pos (l.getD (i % l.length) 0) (show (0 : Int) < 8 by omega)
  have := Int.emod_nonneg (l.getD (i % l.length) 0) (show (8 : Int) ≠ 0 by omega)
  omega
end Go.Proofs.YtfhedienjnfdcaaGreatDoor
