/- Texts RCpy RCps RCpt Cl2 BxT PutW RSbN SuB RSbA of this proof, in one. -/
import Derived.Test.YtfhedienjnfdcaaGreatDoorG21
import Derived.Test.YtfhedienjnfdcaaGreatDoorG22
import Derived.Deep.RegionLaw
import Derived.Deep.RegionHeld3
set_option linter.unusedVariables false
set_option linter.unusedSimpArgs false
set_option maxRecDepth 100000
set_option maxHeartbeats 32000000
namespace Go.Proofs.YtfhedienjnfdcaaGreatDoor
open Go.RowKit
def RCpC (t : Ty) : Prop := ∀ (w : World) (ok : Nat → Prop) (tk : Value), TyL ok w t.kids tk →
 Calls Tryz.prog 84 #[tyVal t tk] w fun e w' => ∃ v, e = .returned (tyVal t v) ∧ TyL (fun k => w.heap.size ≤ k) w' t.kids v ∧ Kept (fun _ => False) w w'
structure RC (w : World) (kd : Int) (nm : ByteArray) (l : List Ty) (a : Option Addr) (c k : Nat) (wr : World) (E : List E2) (v : Value) : Prop where
 kp : Kept (fun _ => False) w wr
 a : Blk wr w.heap.size 26 [.int .i64 kd, .string nm, .slice a l.length c]
 r : Blk wr (w.heap.size + 1) 26 [.int .i64 0, .string ⟨#[]⟩, .slice none 0 0]
 o : Blk wr (w.heap.size + 2) 26 [.int .i64 kd, .string nm, v]
 own : wr.ownsRow (w.heap.size + 3) 26 3 v E.length (flatY E)
 el : ELY (fun q => w.heap.size + 3 ≤ q ∧ v.ownBlock ≠ some q) wr E
 len : E.length = k
 mp : E.map (·.1) = l.take k
theorem RC.step {w wr w6 W8 : World} {kd : Int} {nm : ByteArray} {l : List Ty} {a : Option Addr} {c k : Nat} {E : List E2} {v u : Value} {va : Option Addr} {vn vc gg cap : Nat} (h : RC w kd nm l a c k wr E v) (hk : k < l.length) (k6 : Kept (fun _ => False) wr w6) (hu : TyL (fun q => wr.heap.size ≤ q) w6 l[k].kids u)
  (hv : v = .slice va vn vc) (o : Obj) (own8 : W8.ownsRow (w.heap.size + 3) 26 3 (.slice (some ⟨gg, 0, none⟩) (E.length + 1) cap) (E.length + 1) (flatY E ++ tyCells l[k] u)) (hgrow : (w6.alloc o).grownBy W8 v.ownBlock) (hat : v.ownBlock = some gg ∨ gg = w6.heap.size + 1) :
  RC w kd nm l a c (k + 1) (W8.setCell ⟨w.heap.size + 2, 2, none⟩ (.slice (some ⟨gg, 0, none⟩) (E.length + 1) cap)) (E ++ [(l[k], u)]) (.slice (some ⟨gg, 0, none⟩) (E.length + 1) cap) := by
 have kA : Kept (fun _ => False) wr (w6.alloc o) := k6.alloc _
 have kG := kept_grown hgrow
 have zA : (w6.alloc o).heap.size = w6.heap.size + 1 := by simp
 have z6 := k6.size
 have zr := h.o.lt
 have hg3 : w.heap.size + 3 ≤ gg := by
  have := (own8.lt gg rfl).1; exact this
 have hvb : ∀ x, v.ownBlock = some x → w.heap.size + 3 ≤ x ∧ x < wr.heap.size := fun x e => h.own.lt x e
 have kS : Kept (· = w.heap.size + 2) W8 (W8.setCell ⟨w.heap.size + 2, 2, none⟩ (.slice (some ⟨gg, 0, none⟩) (E.length + 1) cap)) := (Kept.refl (fun x => x = w.heap.size + 2) _).setCell (p := ⟨w.heap.size + 2, 2, none⟩) (Or.inl rfl) _
 refine ⟨((h.kp.trans kA).via kG (fun x hx e => by have := (hvb x e).1; omega)).via kS (fun x hx e => by have e' : x = w.heap.size + 2 := e; omega),
  ((h.a.kept kA (fun h => h)).kept kG (fun e => by have := (hvb _ e).1; omega)).kept kS (by show ¬ w.heap.size = w.heap.size + 2; omega),
  ((h.r.kept kA (fun h => h)).kept kG (fun e => by have := (hvb _ e).1; omega)).kept kS (by show ¬ w.heap.size + 1 = w.heap.size + 2; omega),
  ((h.o.kept kA (fun h => h)).kept kG (fun e => by have := (hvb _ e).1; omega)).set 2 _, ?_, ?_, by simp [h.len], ?_⟩
 ·have := own_keptT own8 kS (fun g hg e => by have e' : some gg = some g := hg; have e2 := Option.some.inj e'; have e3 : g = w.heap.size + 2 := e; omega)
  rw [flatY_snoc, List.length_append]; exact this
 ·have e1 : ELY (fun q => w.heap.size + 3 ≤ q ∧ v.ownBlock ≠ some q) w6 (E ++ [(l[k], u)]) := (h.el.frame (sK k6)).snoc (e := (l[k], u)) (hu.mono (fun q _ hq => ⟨by omega, fun e => by have := (hvb q e).2; omega⟩))
  have e2 := (e1.frame (Same.alloc _ o)).mono (ok' := fun q => (w.heap.size + 3 ≤ q ∧ v.ownBlock ≠ some q) ∧ w.heap.size + 3 ≤ q ∧ (Value.slice (some ⟨gg, 0, none⟩) (E.length + 1) cap).ownBlock ≠ some q) (fun q hq hh => ⟨hh, hh.1, fun e => by
   have e1 : gg = q := Option.some.inj e
   rcases hat with hat | hat
   ·exact hh.2 (by rw [hat, e1])
   ·omega⟩)
  exact ((e2.frame (Same.of_kept kG (fun q hq e => hq.1.2 e))).frame (Same.of_kept kS (fun q hq e => by have e' : q = w.heap.size + 2 := e; have := hq.1.1; omega))).mono (fun q _ hq => hq.2)
 ·rw [List.map_append, h.mp, List.take_succ_eq_append_getElem hk]; rfl
theorem rcopyTy_one {kd : Int} {nm : ByteArray} {l : List Ty} (IH : ∀ t, t ∈ l → RCpC t) (hn1 : l.length ≤ 1000000) : RCpC (.mk kd nm l) := by
 intro w ok tk hk
 obtain ⟨a, n, c, rfl⟩ := hk.slice
 have hn : n = l.length := hk.len
 subst hn
 have hk' : TyL ok w l (.slice a l.length c) := hk
 clear hk
 have HIH := Ld IH
 have HN1 := Ld hn1
 clear IH hn1
 have HAT := Ld (fun W (k : Kept (fun _ => False) w W) => (hk'.frame (sK k)).at)
 clear hk'
 change Calls Tryz.prog 84 #[.agg #[.int .i64 kd, .string nm, .slice a l.length c]] w _
 have b3 := Blk.new' (w := (w.alloc (.cells #[.int .i64 kd, .string nm, .slice a l.length c] 26)).alloc (.cells #[.int .i64 0, .string ⟨#[]⟩, .slice none 0 0] 26)) (g := w.heap.size + 2) 26 [.int .i64 kd, .string nm, .slice none 0 0] (by simp)
 have bA := (((Blk.new w 26 [.int .i64 kd, .string nm, .slice a l.length c]).alloc (.cells #[.int .i64 0, .string ⟨#[]⟩, .slice none 0 0] 26)).alloc (.cells #[.int .i64 kd, .string nm, .slice none 0 0] 26))
 have bR := ((Blk.new' (w := w.alloc (.cells #[.int .i64 kd, .string nm, .slice a l.length c] 26)) (g := w.heap.size + 1) 26 [.int .i64 0, .string ⟨#[]⟩, .slice none 0 0] (by simp)).alloc (.cells #[.int .i64 kd, .string nm, .slice none 0 0] 26))
 have K0 : Kept (fun _ => False) w (((w.alloc (.cells #[.int .i64 kd, .string nm, .slice a l.length c] 26)).alloc (.cells #[.int .i64 0, .string ⟨#[]⟩, .slice none 0 0] 26)).alloc (.cells #[.int .i64 kd, .string nm, .slice none 0 0] 26)) := (((Kept.refl _ _).alloc _).alloc _).alloc _
 have HRC : Hid (RC w kd nm l a c 0 (((w.alloc (.cells #[.int .i64 kd, .string nm, .slice a l.length c] 26)).alloc (.cells #[.int .i64 0, .string ⟨#[]⟩, .slice none 0 0] 26)).alloc (.cells #[.int .i64 kd, .string nm, .slice none 0 0] 26)) [] (.slice none 0 0)) := Ld
  ⟨K0, bA, bR, b3, World.ownsRow_nil _ _ _ _, (fun e he => by cases he), rfl, by simp⟩
 clear b3 bA bR K0
 go_enter Tryz.func84, Tryz.ntmps84
 go_wp2_with fail
 go_loopw [4] (fun i wr => ∃ (k : Nat) (E : List E2) (v : Value), k ≤ l.length ∧ i = .int .i64 k ∧ RC w kd nm l a c k wr E v) (fun i _ => l.length - (intOf i).toNat)
 case atStart => exact ⟨0, [], _, Nat.zero_le _, rfl, HRC.out⟩
 case round =>
  clear HRC
  obtain ⟨k, E, v, hkl, rfl, h⟩ := hrel
  obtain ⟨va, vn, vc, rfl⟩ := (tyl_of_row (ok := fun _ => True) h.own (h.el.mono (fun _ _ _ => trivial)) (fun _ _ => trivial)).slice
  have gA : ∀ i, wr.cell? ⟨w.heap.size, i, none⟩ = [Value.int .i64 kd, .string nm, .slice a l.length c][i]? := h.a.cell
  have gO : ∀ i, wr.cell? ⟨w.heap.size + 1 + 1, i, none⟩ = [Value.int .i64 kd, .string nm, .slice va vn vc][i]? := h.o.cell
  have gR : ∀ i, wr.cell? ⟨w.heap.size + 1, i, none⟩ = [Value.int .i64 0, .string ⟨#[]⟩, .slice none 0 0][i]? := h.r.cell
  have fO : ∀ i, wr.frozen? ⟨w.heap.size + 1 + 1, i, none⟩ = false := h.o.frozen
  have fR : ∀ i, wr.frozen? ⟨w.heap.size + 1, i, none⟩ = false := h.r.frozen
  have lO := h.o.lt
  have H := Ld h
  clear h
  by_cases hlt : k < l.length
  ·have hn2 := HN1.out
   have i1 : (k : Int) < (l.length : Int) := by omega
   have i2 : (k : Int) < 1000000 := by omega
   obtain ⟨g, off, ta, tn, tc, rfl, _, lg, ⟨c0, c1, c2⟩, hty⟩ := HAT.out wr H.out.kp k hlt
   have hcon := Ld ((HIH.out _ (List.getElem_mem hlt)) wr.drew ok _ (hty.frame (Same.drew _)))
   unfold tyVal at hcon
   have hlen := Ld H.out.len
   have hmx : Hid (E.length + 1 ≤ maxLen) := Ld (by have := hlen.out; unfold maxLen; omega)
   have hby : Hid ((E.length + 1) * 48 ≤ 140737488355328) := Ld (by have := hlen.out; omega)
   obtain ⟨i26, hi26, hz26, hs26, hb26⟩ := info_ty
   have HI26 := Ld hi26
   have HZ26 := Ld hz26
   have HS26 := Ld hs26
   have HB26 := Ld hb26
   clear hty hn2 hi26 hz26 hs26 hb26
   go_upto_region 5 with (fail)
   go_region_law (first | (refine step_append_lies _ (by rfl) _ _ _ (by rfl) (w.heap.size + 3) 26 i26 _ 3 48 Tryz.underlying24 HI26.out HZ26.out HS26.out HB26.out rfl (by decide) (.slice va vn vc) E.length (flatY E) (by rfl) (own6.alloc _) ⟨w6.heap.size, 0, none⟩ 1 1 (tyCells l[k] (.slice ua un uc)) (by rfl) rfl (newsT (Blk.new w6 26 (tyCells l[k] (.slice ua un uc)))) oneY (by omega) hmx.out hby.out (by simp; omega) (w6.heap.size + 1) (by simp) ?_; intro gg cap w8 own8 hgrow hatg hltg; have hO8 := (hO6.alloc (.cells #[.int .i64 l[k].kind, .string l[k].name, .slice ua un uc] 26)).kept (kept_grown hgrow) (fun e => hvS e); have q8 : w8.cell? ⟨w.heap.size + 1 + 1, 2, none⟩ = some (.slice va vn vc) := hO8.cell 2; have f8 : w8.frozen? ⟨w.heap.size + 1 + 1, 2, none⟩ = false := hO8.frozen 2) | (go_simp; go_at_call 84; refine hcon.out.mono ?_; rintro e w6 ⟨u, rfl, hu, k6'⟩; obtain ⟨ua, un, uc, rfl⟩ := hu.slice; have k6 : Kept (fun _ => False) wr w6 := ((Kept.refl _ _).drew).trans k6'; have hO6 := H.out.o.kept k6 (fun h => h); have own6 := own_keptT H.out.own k6 (fun _ _ h => h); have gO6 : ∀ i, w6.cell? ⟨w.heap.size + 1 + 1, i, none⟩ = [Value.int .i64 kd, .string nm, .slice va vn vc][i]? := hO6.cell; have hvS : (Value.slice va vn vc).ownBlock ≠ some (w.heap.size + 2) := (fun e => by have := (own6.lt _ e).1; omega); have l6 := hO6.lt))
   all_goals
    have HX := Ld (RC.step H.out hlt k6 (hu.mono (fun q _ h => h)) rfl _ own8 hgrow hatg)
    clear hO6 hO8 own6 own8 hgrow hu k6' hcon
    go_wp2_with fail
    go_roundw
    case rel => exact ⟨k + 1, _, _, by omega, by go_num, HX.out⟩
    case measure => simp [intOf]; omega
  ·have hkk : k = l.length := by omega
   subst hkk
   go_wp2_with fail
   have bF := r3' (x := .int .i64 kd) (y := .string nm) (z := .slice va vn vc) H.out.r rfl
   have hml := tyl_of_row (ok := fun q => w.heap.size + 3 ≤ q) H.out.own (H.out.el.mono (fun _ _ h => h.1)) (fun g hg => (H.out.own.lt g hg).1)
   rw [H.out.mp, List.take_length] at hml
   refine bodyPost_ret (results_one Tryz.results84 rfl (load_ty (t := .mk kd nm l) bF)) rfl ⟨_, rfl, ?_, ?_⟩
   ·exact (hml.frame (set3 (g := w.heap.size + 1) (fun q h => by omega))).mono (fun q _ h => by omega)
   ·exact ((H.out.kp.setCell (p := ⟨w.heap.size + 1, 0, none⟩) (Or.inr (by show w.heap.size ≤ w.heap.size + 1; omega)) _).setCell (p := ⟨w.heap.size + 1, 1, none⟩) (Or.inr (by show w.heap.size ≤ w.heap.size + 1; omega)) _).setCell (p := ⟨w.heap.size + 1, 2, none⟩) (Or.inr (by show w.heap.size ≤ w.heap.size + 1; omega)) _
theorem rcopyTy_any {t : Ty} (hb : BdTy t) : RCpC t := by
 induction hb with
 | mk hn hl ih => exact rcopyTy_one ih hn
def CpyP (t : Tm) (w : World) (e : Ending) (w' : World) : Prop := ∃ (tk : Value) (E : List E3) (kk : Value), e = .returned (tmVal t tk kk) ∧ TyL (okb w.heap.size kk) w' t.ty.kids tk ∧ RowT w w.heap.size w' E kk ∧ E.map (·.1) = t.kids
def RClC (t : Tm) : Prop := ∀ (w : World) (ok : Nat → Prop) (tk kk : Value), TyL ok w t.ty.kids tk → TmL ok w t.kids kk → Calls Tryz.prog 42 #[tmVal t tk kk] w (CpyP t w)
theorem rcopies_any {l : List Tm} {ok : Nat → Prop} {w : World} {a : Option Addr} {n c : Nat} (IH : ∀ t, t ∈ l → RClC t) (hn1 : l.length ≤ 1000000) (hk : TmL ok w l (.slice a n c)) :
  Calls Tryz.prog 85 #[.slice a n c] w fun e w' => ∃ (E : List E3) (v : Value), e = .returned v ∧ RowT w w.heap.size w' E v ∧ E.map (·.1) = l := by
 have hn : n = l.length := hk.len
 subst hn
 have HIH := Ld IH
 have HN1 := Ld hn1
 have HAT := Ld (fun W (k : Kept (fun _ => False) w W) => (hk.frame (sK k)).at)
 clear IH hn1 hk
 go_enter Tryz.func85, Tryz.ntmps85
 go_wp2_with fail
 go_loopw [3, 4] (fun v i wr => ∃ (k : Nat) (E : List E3), k ≤ l.length ∧ i = .int .i64 k ∧ RowT w w.heap.size wr E v ∧ E.map (·.1) = l.take k) (fun v i _ => l.length - (intOf i).toNat)
 case atStart => exact ⟨0, [], Nat.zero_le _, rfl, RowT.nil (Kept.refl _ _), by simp⟩
 case round =>
  obtain ⟨k, E, hkl, rfl, h, hmp⟩ := hrel
  obtain ⟨va, vn, vc, rfl⟩ := h.tml.slice
  have hEk : E.length = k := by have := congrArg List.length hmp; simpa [Nat.min_eq_left hkl] using this
  have H := Ld h
  have HM := Ld hmp
  have HE := Ld hEk
  clear h hmp hEk
  by_cases hlt : k < l.length
  ·have hn2 := HN1.out
   have i1 : (k : Int) < (l.length : Int) := by omega
   have i2 : (k : Int) < 1000000 := by omega
   obtain ⟨g, off, ta, tn, tc, ma, mn, mc, rfl, _, lg, ⟨c0, c1, c2, c3, c4, c5, c6⟩, hty, htm⟩ := HAT.out wr H.out.kp k hlt
   have hcon := Ld ((HIH.out _ (List.getElem_mem hlt)) wr ok _ _ hty htm)
   unfold tmVal at hcon
   obtain ⟨i28, hi28, hz28, hs28, hb28⟩ := info_tm
   have HI := Ld hi28
   have HZ := Ld hz28
   have HS := Ld hs28
   have HB := Ld hb28
   clear hty htm hn2 hi28 hz28 hs28 hb28
   go_wp2_with fail
   refine hcon.out.mono ?_
   rintro e w6 ⟨tk, F, kk, rfl, hty6, hr6, hm6⟩
   have htm6 : TmL (fun q => wr.heap.size ≤ q) w6 l[k].kids kk := by rw [← hm6]; exact hr6.tml
   obtain ⟨ua, un, uc, rfl⟩ := hty6.slice
   obtain ⟨ud, ue, uf, rfl⟩ := htm6.slice
   have k6 := hr6.kp
   have H6 := H.out.kept k6
   unfold tmVal
   go_wp2_with (at_builtin; refine wpList_append_lies _ rfl _ _ _ rfl w.heap.size 28 i28 _ 7 104 Tryz.underlying22 HI.out HZ.out HS.out HB.out rfl (by decide) (.slice va vn vc) E.length (flat E) rfl (H6.own.alloc _) ⟨w6.heap.size, 0, none⟩ 1 1 (tmCells l[k] (.slice ua un uc) (.slice ud ue uf)) rfl rfl (newsT (Blk.new w6 28 (tmCells l[k] (.slice ua un uc) (.slice ud ue uf)))) oneT (by omega) ?_ ?_ ?_ (w6.heap.size + 1) (by simp) ?_)
   ·have := HE.out; unfold maxLen; omega
   ·have := HE.out; omega
   ·have := H6.kp.size; simp; omega
   ·intro gg cap w8 own8 hgrow hatg hltg
    have HX := Ld (RowT.step (Nat.le_refl _) H.out k6 H.out.kp.size (hty6.mono (fun q _ h => h.1)) htm6 own8 _ hgrow hatg rfl)
    clear own8 hgrow hty6 hr6 htm6 H6
    go_wp2_with fail
    go_roundw
    case rel => exact ⟨k + 1, _, by omega, by go_num, HX.out, by rw [List.map_append, HM.out, List.take_succ_eq_append_getElem hlt]; rfl⟩
    case measure => simp [intOf]; omega
  ·have hkk : k = l.length := by omega
   subst hkk
   go_wp2_with fail
   go_ret
   exact ⟨E, _, rfl, H.out, by rw [HM.out, List.take_length]⟩
structure CT (w : World) (op : Int) (nm : ByteArray) (N : Int) (ty : Ty) (tk kk v : Value) (O : Nat) (W : World) : Prop where
 kp : Kept (fun _ => False) w W
 a : Blk W w.heap.size 28 [.int .i64 op, .string nm, .int .i64 N, .int .i64 ty.kind, .string ty.name, tk, kk]
 r : Blk W (w.heap.size + 1) 28 z27
 o : Blk W O 28 [.int .i64 op, .string nm, .int .i64 N, .int .i64 ty.kind, .string ty.name, v, .slice none 0 0]
 ho : w.heap.size + 2 ≤ O
 ty : TyL (fun q => w.heap.size + 2 ≤ q ∧ q ≠ O) W ty.kids v
theorem CT.late {w w4 : World} {op : Int} {nm : ByteArray} {N : Int} {ty : Ty} {tk kk v : Value} (K : Kept (fun _ => False) w w4) (bA : Blk w4 w.heap.size 28 [.int .i64 op, .string nm, .int .i64 N, .int .i64 ty.kind, .string ty.name, tk, kk]) (bR : Blk w4 (w.heap.size + 1) 28 z27) (hv : TyL (fun q => w.heap.size + 2 ≤ q) w4 ty.kids v) :
  CT w op nm N ty tk kk v w4.heap.size (w4.alloc (.cells #[.int .i64 op, .string nm, .int .i64 N, .int .i64 ty.kind, .string ty.name, v, .slice none 0 0] 28)) :=
 ⟨K.alloc _, bA.alloc _, bR.alloc _, Blk.new w4 28 _, by have := bR.lt; omega, (hv.mono (fun q hq h => ⟨h, by omega⟩)).frame (Same.alloc _ _)⟩
theorem CT.early {w w4 : World} {op : Int} {nm : ByteArray} {N : Int} {ty : Ty} {tk kk v : Value} {O : Nat} (K : Kept (fun _ => False) w w4) (bA : Blk w4 w.heap.size 28 [.int .i64 op, .string nm, .int .i64 N, .int .i64 ty.kind, .string ty.name, tk, kk]) (bR : Blk w4 (w.heap.size + 1) 28 z27) (bO : Blk w4 O 28 z27) (ho : w.heap.size + 2 ≤ O) (hv : TyL (fun q => w.heap.size + 2 ≤ q ∧ q ≠ O) w4 ty.kids v) :
  CT w op nm N ty tk kk v O (((((((w4.setCell ⟨O, 0, none⟩ (.int .i64 op)).setCell ⟨O, 1, none⟩ (.string nm)).setCell ⟨O, 2, none⟩ (.int .i64 N)).setCell ⟨O, 3, none⟩ (.int .i64 ty.kind)).setCell ⟨O, 4, none⟩ (.string ty.name)).setCell ⟨O, 5, none⟩ v).setCell ⟨O, 6, none⟩ (.slice none 0 0)) := by
 have n1 : w.heap.size ≠ O := by omega
 have n2 : w.heap.size + 1 ≠ O := by omega
 exact ⟨k7w K (Or.inr (by omega)), ((((((bA.set_other _ _ n1).set_other _ _ n1).set_other _ _ n1).set_other _ _ n1).set_other _ _ n1).set_other _ _ n1).set_other _ _ n1, ((((((bR.set_other _ _ n2).set_other _ _ n2).set_other _ _ n2).set_other _ _ n2).set_other _ _ n2).set_other _ _ n2).set_other _ _ n2, r7 bO rfl, ho, hv.frame (set7 (fun q hq => hq.2))⟩
theorem CT.kept {w W W' : World} {op : Int} {nm : ByteArray} {N : Int} {ty : Ty} {tk kk v : Value} {O : Nat} (h : CT w op nm N ty tk kk v O W) (k : Kept (fun _ => False) W W') : CT w op nm N ty tk kk v O W' :=
 ⟨h.kp.trans k, h.a.kept k (fun h => h), h.r.kept k (fun h => h), h.o.kept k (fun h => h), h.ho, h.ty.frame (sK k)⟩
theorem CT.done {w W : World} {op : Int} {nm : ByteArray} {N : Int} {ty : Ty} {l : List Tm} {tk kk v u : Value} {O : Nat} {E : List E3} {base : Nat} (h : CT w op nm N ty tk kk v O W) (hb : base ≤ W.heap.size) (hO : O < base) (hu : W.ownsRow base 28 7 u E.length (flat E)) (hel : EL (okb base u) W E) (hm : E.map (·.1) = l) (hv : TyL (fun q => w.heap.size + 2 ≤ q ∧ q ≠ O ∧ u.ownBlock ≠ some q) W ty.kids v) (W2 : World)
  (hW2 : W2 = (((((((W.setCell ⟨O, 6, none⟩ u).setCell ⟨w.heap.size + 1, 0, none⟩ (.int .i64 op)).setCell ⟨w.heap.size + 1, 1, none⟩ (.string nm)).setCell ⟨w.heap.size + 1, 2, none⟩ (.int .i64 N)).setCell ⟨w.heap.size + 1, 3, none⟩ (.int .i64 ty.kind)).setCell ⟨w.heap.size + 1, 4, none⟩ (.string ty.name)).setCell ⟨w.heap.size + 1, 5, none⟩ v).setCell ⟨w.heap.size + 1, 6, none⟩ u) :
  Blk W2 (w.heap.size + 1) 28 (tmCells (.mk op nm N ty l) v u) ∧ TyL (okb w.heap.size u) W2 ty.kids v ∧ RowT w w.heap.size W2 E u := by
 subst hW2
 have n1 : w.heap.size + 1 ≠ O := by have := h.ho; omega
 have hub : ∀ g, u.ownBlock = some g → base ≤ g := fun g hg => (hu.lt g hg).1
 have kS : Kept (fun q => q = O ∨ q = w.heap.size + 1) W ((((((((W.setCell ⟨O, 6, none⟩ u).setCell ⟨w.heap.size + 1, 0, none⟩ (.int .i64 op)).setCell ⟨w.heap.size + 1, 1, none⟩ (.string nm)).setCell ⟨w.heap.size + 1, 2, none⟩ (.int .i64 N)).setCell ⟨w.heap.size + 1, 3, none⟩ (.int .i64 ty.kind)).setCell ⟨w.heap.size + 1, 4, none⟩ (.string ty.name)).setCell ⟨w.heap.size + 1, 5, none⟩ v).setCell ⟨w.heap.size + 1, 6, none⟩ u) :=
  k7w ((Kept.refl (fun q => q = O ∨ q = w.heap.size + 1) W).setCell (p := ⟨O, 6, none⟩) (Or.inl (Or.inl rfl)) u) (Or.inl (Or.inr rfl))
 have hho := h.ho
 refine ⟨r7 (h.r.set_other ⟨O, 6, none⟩ u n1) rfl, (hv.frame (Same.of_kept kS (fun q hq e => by rcases e with e | e <;> omega))).mono (fun q _ hq => ⟨by omega, hq.2.2⟩), k7w (h.kp.setCell (p := ⟨O, 6, none⟩) (Or.inr (by show w.heap.size ≤ O; omega)) u) (Or.inr (by omega)), ?_, ?_⟩
 ·exact own_base (own_keptT hu kS (fun g hg e => by have := hub g hg; rcases e with e | e <;> omega)) (fun g hg => by have := hub g hg; omega)
 ·exact (hel.frame (Same.of_kept kS (fun q hq e => by have := hq.1; rcases e with e | e <;> omega))).mono (fun q _ hq => ⟨by have := hq.1; omega, hq.2⟩)
theorem rcopy_one {op : Int} {nm : ByteArray} {N : Int} {ty : Ty} {l : List Tm} (hty : BdTy ty) (IH : ∀ u, u ∈ l → RClC u) (hn : l.length ≤ 1000000) : RClC (.mk op nm N ty l) := by
 intro w ok tk kk h1 h2
 have h1 : TyL ok w ty.kids tk := h1
 have h2 : TmL ok w l kk := h2
 obtain ⟨a, n, c, rfl⟩ := h1.slice
 obtain ⟨ma, mn, mc, rfl⟩ := h2.slice
 have HT := Ld (fun W (k : Kept (fun _ => False) w W) => rcopyTy_any hty W ok _ (h1.frame (sK k)))
 have HK := Ld (fun W (k : Kept (fun _ => False) w W) => rcopies_any IH hn (h2.frame (sK k)))
 unfold tyVal at HT
 change Calls Tryz.prog 42 #[.agg #[.int .i64 op, .string nm, .int .i64 N, .int .i64 ty.kind, .string ty.name, .slice a n c, .slice ma mn mc]] w _
 clear h1 h2 IH
 have bA : Blk ((w.alloc (.cells #[.int .i64 op, .string nm, .int .i64 N, .int .i64 ty.kind, .string ty.name, .slice a n c, .slice ma mn mc] 28)).alloc Z7) w.heap.size 28 [.int .i64 op, .string nm, .int .i64 N, .int .i64 ty.kind, .string ty.name, .slice a n c, .slice ma mn mc] := (Blk.new w 28 _).alloc _
 have bR : Blk ((w.alloc (.cells #[.int .i64 op, .string nm, .int .i64 N, .int .i64 ty.kind, .string ty.name, .slice a n c, .slice ma mn mc] 28)).alloc Z7) (w.heap.size + 1) 28 z27 := Blk.new' 28 _ (by simp)
 have K0 : Kept (fun _ => False) w ((w.alloc (.cells #[.int .i64 op, .string nm, .int .i64 N, .int .i64 ty.kind, .string ty.name, .slice a n c, .slice ma mn mc] 28)).alloc Z7) := ((Kept.refl _ _).alloc _).alloc _
 go_enter Tryz.func42, Tryz.ntmps42
 go_upto_region 1 with (fail)
 refine wp_gen (F := fun W3 => Kept (fun _ => False) w W3 ∧ W3.heap.size = w.heap.size + 2 ∧ Blk W3 w.heap.size 28 [.int .i64 op, .string nm, .int .i64 N, .int .i64 ty.kind, .string ty.name, .slice a n c, .slice ma mn mc] ∧ Blk W3 (w.heap.size + 1) 28 z27) ⟨K0, by simp, bA, bR⟩ ?_
 clear K0 bA bR
 rintro w1 ⟨K1, z1, bA, bR⟩
 have gA : ∀ i, w1.cell? ⟨w.heap.size, i, none⟩ = [Value.int .i64 op, .string nm, .int .i64 N, .int .i64 ty.kind, .string ty.name, .slice a n c, .slice ma mn mc][i]? := bA.cell
 have Z1 := Ld z1
 have KK1 := Ld K1
 have BA := Ld bA
 have BR := Ld bR
 have lA := bA.lt
 have lR := bR.lt
 have nA : w.heap.size ≠ w1.heap.size := by omega
 have nA2 : w1.heap.size ≠ w.heap.size := by omega
 clear z1 K1 bA bR
 have x0 : w1.cell? ⟨w.heap.size, 0, none⟩ = some (.int .i64 op) := gA 0
 have x1 : w1.cell? ⟨w.heap.size, 1, none⟩ = some (.string nm) := gA 1
 have x2 : w1.cell? ⟨w.heap.size, 2, none⟩ = some (.int .i64 N) := gA 2
 have x3 : w1.cell? ⟨w.heap.size, 3, none⟩ = some (.int .i64 ty.kind) := gA 3
 have x4 : w1.cell? ⟨w.heap.size, 4, none⟩ = some (.string ty.name) := gA 4
 have x5 : w1.cell? ⟨w.heap.size, 5, none⟩ = some (.slice a n c) := gA 5
 go_region_held3 (fun w' => w'.cell? ⟨w.heap.size, 0, none⟩ = some (.int .i64 op) ∧ w'.cell? ⟨w.heap.size, 1, none⟩ = some (.string nm) ∧ w'.cell? ⟨w.heap.size, 2, none⟩ = some (.int .i64 N) ∧ w'.cell? ⟨w.heap.size, 3, none⟩ = some (.int .i64 ty.kind) ∧ w'.cell? ⟨w.heap.size, 4, none⟩ = some (.string ty.name) ∧ w'.cell? ⟨w.heap.size, 5, none⟩ = some (.slice a n c)) (go_keep) (first | (go_at_call 84; refine (HT.out _ (by first | exact KK1.out.drew | exact KK1.out.drew.alloc _ | exact (KK1.out.alloc _).drew)).mono ?_; rintro e w4 ⟨v, rfl, hv, k4⟩; obtain ⟨va, vn, vc, rfl⟩ := hv.slice; have k5 : Kept (fun _ => False) w1 w4 := (by first | exact (Kept.refl _ _).drew.trans k4 | exact ((Kept.refl _ _).drew.alloc _).trans k4); have lA4 := (BA.out.kept k5 (fun h => h)).lt; (try (have bO : Blk w4 w1.heap.size 28 [.int .i64 0, .string ⟨#[]⟩, .int .i64 0, .int .i64 0, .string ⟨#[]⟩, .slice none 0 0, .slice none 0 0] := (by first | exact ((Blk.new w1 28 [.int .i64 0, .string ⟨#[]⟩, .int .i64 0, .int .i64 0, .string ⟨#[]⟩, .slice none 0 0, .slice none 0 0]).drew).kept k4 (fun h => h) | exact (Blk.new w1.drew 28 [.int .i64 0, .string ⟨#[]⟩, .int .i64 0, .int .i64 0, .string ⟨#[]⟩, .slice none 0 0, .slice none 0 0]).kept k4 (fun h => h)); have gO : ∀ i, w4.cell? ⟨w1.heap.size, i, none⟩ = [Value.int .i64 0, .string ⟨#[]⟩, .int .i64 0, .int .i64 0, .string ⟨#[]⟩, .slice none 0 0, .slice none 0 0][i]? := bO.cell; have fO : ∀ i, w4.frozen? ⟨w1.heap.size, i, none⟩ = false := bO.frozen; have lO := bO.lt)); have y0 : w4.cell? ⟨w.heap.size, 0, none⟩ = some (.int .i64 op) := (BA.out.kept k5 (fun h => h)).cell 0; have y1 : w4.cell? ⟨w.heap.size, 1, none⟩ = some (.string nm) := (BA.out.kept k5 (fun h => h)).cell 1; have y2 : w4.cell? ⟨w.heap.size, 2, none⟩ = some (.int .i64 N) := (BA.out.kept k5 (fun h => h)).cell 2; have y3 : w4.cell? ⟨w.heap.size, 3, none⟩ = some (.int .i64 ty.kind) := (BA.out.kept k5 (fun h => h)).cell 3; have y4 : w4.cell? ⟨w.heap.size, 4, none⟩ = some (.string ty.name) := (BA.out.kept k5 (fun h => h)).cell 4; have y5 : w4.cell? ⟨w.heap.size, 5, none⟩ = some (.slice a n c) := (BA.out.kept k5 (fun h => h)).cell 5))
 all_goals
  first
  | (have HX := Ld (CT.late (KK1.out.trans k5) (BA.out.kept k5 (fun h => h)) (BR.out.kept k5 (fun h => h)) (hv.mono (fun q _ hq => by have := Z1.out; have hq2 : w1.heap.size ≤ q := hq; omega)))
     generalize hOO : w4.heap.size = O at *
     generalize w4.alloc (.cells #[.int .i64 op, .string nm, .int .i64 N, .int .i64 ty.kind, .string ty.name, .slice va vn vc, .slice none 0 0] 28) = w5 at *
     clear hOO)
  | (have HX := Ld (CT.early (O := w1.heap.size) (KK1.out.trans k5) (BA.out.kept k5 (fun h => h)) (BR.out.kept k5 (fun h => h)) bO (by have := Z1.out; omega) (hv.mono (fun q _ hq => by have := Z1.out; have hq2 : w1.heap.size + 1 ≤ q := (by simpa using hq); omega)))
     generalize hOO : w1.heap.size = O at *
     generalize (((((((w4.setCell ⟨O, 0, none⟩ (.int .i64 op)).setCell ⟨O, 1, none⟩ (.string nm)).setCell ⟨O, 2, none⟩ (.int .i64 N)).setCell ⟨O, 3, none⟩ (.int .i64 ty.kind)).setCell ⟨O, 4, none⟩ (.string ty.name)).setCell ⟨O, 5, none⟩ (.slice va vn vc)).setCell ⟨O, 6, none⟩ (.slice none 0 0)) = w5 at *
     clear hOO)
 all_goals
  have h6 : Hid (Calls Tryz.prog 85 #[.slice ma mn mc] w5 fun e w' => ∃ (E : List E3) (v : Value), e = .returned v ∧ RowT w5 w5.heap.size w' E v ∧ E.map (·.1) = l) := Ld (HK.out w5 HX.out.kp)
  clear HK HT hv KK1 Z1 BA BR k4 k5 gA x0 x1 x2 x3 x4 x5
  have gA5 : ∀ i, w5.cell? ⟨w.heap.size, i, none⟩ = [Value.int .i64 op, .string nm, .int .i64 N, .int .i64 ty.kind, .string ty.name, .slice a n c, .slice ma mn mc][i]? := HX.out.a.cell
  go_wp2_with fail
  refine h6.out.mono ?_
  rintro e w6 ⟨E, u, rfl, R6, hm6⟩
  have HX6 := Ld (HX.out.kept R6.kp)
  have gO6 : ∀ i, w6.cell? ⟨O, i, none⟩ = [Value.int .i64 op, .string nm, .int .i64 N, .int .i64 ty.kind, .string ty.name, .slice va vn vc, .slice none 0 0][i]? := HX6.out.o.cell
  have fO6 : ∀ i, w6.frozen? ⟨O, i, none⟩ = false := HX6.out.o.frozen
  have gR6 : ∀ i, w6.cell? ⟨w.heap.size + 1, i, none⟩ = [Value.int .i64 0, .string ⟨#[]⟩, .int .i64 0, .int .i64 0, .string ⟨#[]⟩, .slice none 0 0, .slice none 0 0][i]? := HX6.out.r.cell
  have fR6 : ∀ i, w6.frozen? ⟨w.heap.size + 1, i, none⟩ = false := HX6.out.r.frozen
  have nO : O ≠ w.heap.size + 1 := by have := HX6.out.ho; omega
  have nO2 : w.heap.size + 1 ≠ O := by have := HX6.out.ho; omega
  have lO5 := HX.out.o.lt
  obtain ⟨ua, un, uc, rfl⟩ := R6.tml.slice
  have hv6 : TyL (fun q => w.heap.size + 2 ≤ q ∧ q ≠ O ∧ (Value.slice ua un uc).ownBlock ≠ some q) w6 ty.kids (.slice va vn vc) :=
   (HX.out.ty.mono (ok' := fun q => (w.heap.size + 2 ≤ q ∧ q ≠ O) ∧ q < w5.heap.size) (fun q hq h => ⟨h, hq⟩)).frame (sK R6.kp) |>.mono (fun q _ h => ⟨h.1.1, h.1.2, fun e => by have := (R6.own.lt q e).1; omega⟩)
  have HM := Ld hm6
  have HD := Ld (CT.done HX6.out R6.kp.size lO5 R6.own R6.el hm6 hv6 _ rfl)
  clear gA5 HX R6 hm6 hv6 h6 lO5
  go_wp2_with fail
  exact bodyPost_ret (results_one Tryz.results42 rfl (load_tm (t := .mk op nm N ty l) HD.out.1)) rfl ⟨_, E, _, rfl, HD.out.2.1, HD.out.2.2, HM.out⟩
theorem rcopy_any {t : Tm} (hb : BdTm t) : RClC t := by
 induction hb with
 | mk hn ht hl ih => exact rcopy_one ht ih hn
structure KRow (W : World) (base g : Nat) (l : List Tm) : Prop where
 row : ∃ (L : List Value) (K M : Nat → Value), Blk W g 28 L ∧ l.length * 7 ≤ L.length ∧ ∀ i (h : i < l.length), L[i * 7]? = some (.int .i64 l[i].op) ∧ L[i * 7 + 1]? = some (.string l[i].name) ∧ L[i * 7 + 2]? = some (.int .i64 l[i].n) ∧ L[i * 7 + 3]? = some (.int .i64 l[i].ty.kind) ∧ L[i * 7 + 4]? = some (.string l[i].ty.name) ∧ L[i * 7 + 5]? = some (K i) ∧ L[i * 7 + 6]? = some (M i) ∧ TyL (fun q => base ≤ q ∧ q ≠ g) W l[i].ty.kids (K i) ∧ TmL (fun q => base ≤ q ∧ q ≠ g) W l[i].kids (M i)
theorem KRow.tml {W : World} {base g c : Nat} {l : List Tm} (h : KRow W base g l) (hg : base ≤ g) (hc : l.length ≤ c) : TmL (fun q => base ≤ q) W l (.slice (some ⟨g, 0, none⟩) l.length c) := by
 by_cases hne : l = []
 ·subst hne; exact .nil (Or.inr ⟨_, _, rfl⟩)
 ·obtain ⟨L, K, M, bG, hL, hR⟩ := h.row
  refine TmL.mk K M hne hg hc (fun i hi => ?_) (fun i hi => ?_) (fun i hi => ?_)
  ·obtain ⟨e0, e1, e2, e3, e4, e5, e6, e7, e8⟩ := hR i hi
   rw [Nat.zero_add]
   exact ⟨by rw [bG.cell]; exact e0, by rw [bG.cell]; exact e1, by rw [bG.cell]; exact e2, by rw [bG.cell]; exact e3, by rw [bG.cell]; exact e4, by rw [bG.cell]; exact e5, by rw [bG.cell]; exact e6⟩
  ·exact (hR i hi).2.2.2.2.2.2.2.1.mono (fun q _ h => h.1)
  ·exact (hR i hi).2.2.2.2.2.2.2.2.mono (fun q _ h => h.1)
theorem KRow.kept {W W' : World} {base g : Nat} {l : List Tm} (h : KRow W base g l) {S : Nat → Prop} (k : Kept S W W') (h1 : ¬ S g) (h2 : ∀ q, base ≤ q → q ≠ g → ¬ S q) : KRow W' base g l := by
 obtain ⟨L, K, M, bG, hL, hR⟩ := h.row
 refine ⟨⟨L, K, M, bG.kept k h1, hL, fun i hi => ?_⟩⟩
 obtain ⟨e0, e1, e2, e3, e4, e5, e6, e7, e8⟩ := hR i hi
 exact ⟨e0, e1, e2, e3, e4, e5, e6, e7.frame (Same.of_kept k (fun q hq => h2 q hq.1 hq.2)), e8.frame (Same.of_kept k (fun q hq => h2 q hq.1 hq.2))⟩
theorem KRow.put {W : World} {base g j : Nat} {l : List Tm} {u : Tm} {v x : Value} (h : KRow W base g l) (hj : j < l.length) (hv : TyL (fun q => base ≤ q ∧ q ≠ g) W u.ty.kids v) (hx : TmL (fun q => base ≤ q ∧ q ≠ g) W u.kids x) :
  KRow (((((((W.setCell ⟨g, j * 7, none⟩ (.int .i64 u.op)).setCell ⟨g, j * 7 + 1, none⟩ (.string u.name)).setCell ⟨g, j * 7 + 2, none⟩ (.int .i64 u.n)).setCell ⟨g, j * 7 + 3, none⟩ (.int .i64 u.ty.kind)).setCell ⟨g, j * 7 + 4, none⟩ (.string u.ty.name)).setCell ⟨g, j * 7 + 5, none⟩ v).setCell ⟨g, j * 7 + 6, none⟩ x) base g (l.set j u) := by
 obtain ⟨L, K, M, bG, hL, hR⟩ := h.row
 refine ⟨⟨((((((L.set (j * 7) (.int .i64 u.op)).set (j * 7 + 1) (.string u.name)).set (j * 7 + 2) (.int .i64 u.n)).set (j * 7 + 3) (.int .i64 u.ty.kind)).set (j * 7 + 4) (.string u.ty.name)).set (j * 7 + 5) v).set (j * 7 + 6) x, fun i => if i = j then v else K i, fun i => if i = j then x else M i,
  (((((((bG.set _ _).set _ _).set _ _).set _ _).set _ _).set _ _).set _ _), by simpa using hL, fun i hi => ?_⟩⟩
 have hi' : i < l.length := by simpa using hi
 by_cases hij : i = j
 ·subst hij
  simp only [List.getElem_set_self, if_pos]
  refine ⟨?_, ?_, ?_, ?_, ?_, ?_, ?_, ?_, ?_⟩
  ·rw [List.getElem?_set_ne (by omega), List.getElem?_set_ne (by omega), List.getElem?_set_ne (by omega), List.getElem?_set_ne (by omega), List.getElem?_set_ne (by omega), List.getElem?_set_ne (by omega), List.getElem?_set_self (by omega)]
  ·rw [List.getElem?_set_ne (by omega), List.getElem?_set_ne (by omega), List.getElem?_set_ne (by omega), List.getElem?_set_ne (by omega), List.getElem?_set_ne (by omega), List.getElem?_set_self (by simp; omega)]
  ·rw [List.getElem?_set_ne (by omega), List.getElem?_set_ne (by omega), List.getElem?_set_ne (by omega), List.getElem?_set_ne (by omega), List.getElem?_set_self (by simp; omega)]
  ·rw [List.getElem?_set_ne (by omega), List.getElem?_set_ne (by omega), List.getElem?_set_ne (by omega), List.getElem?_set_self (by simp; omega)]
  ·rw [List.getElem?_set_ne (by omega), List.getElem?_set_ne (by omega), List.getElem?_set_self (by simp; omega)]
  ·rw [List.getElem?_set_ne (by omega), List.getElem?_set_self (by simp; omega)]
  ·rw [List.getElem?_set_self (by simp; omega)]
  ·exact hv.frame (set7 (fun q h => h.2))
  ·exact hx.frame (set7 (fun q h => h.2))
 ·obtain ⟨e0, e1, e2, e3, e4, e5, e6, e7, e8⟩ := hR i hi'
  have eg : (l.set j u)[i] = l[i] := List.getElem_set_ne (Ne.symm hij) _
  rw [eg]
  simp only [if_neg hij]
  refine ⟨?_, ?_, ?_, ?_, ?_, ?_, ?_, e7.frame (set7 (fun q h => h.2)), e8.frame (set7 (fun q h => h.2))⟩
  all_goals (rw [List.getElem?_set_ne (by omega), List.getElem?_set_ne (by omega), List.getElem?_set_ne (by omega), List.getElem?_set_ne (by omega), List.getElem?_set_ne (by omega), List.getElem?_set_ne (by omega), List.getElem?_set_ne (by omega)]; assumption)
structure Bx3 (w : World) (ca cb cc : List Value) (W : World) : Prop where
 a : Blk W w.heap.size 28 ca
 b : Blk W (w.heap.size + 1) 28 cb
 c : Blk W (w.heap.size + 1 + 1) 28 cc
 k : Kept (fun _ => False) w W
theorem Bx3.kept {w : World} {ca cb cc : List Value} {W W' : World} (h : Bx3 w ca cb cc W) (k : Kept (fun _ => False) W W') : Bx3 w ca cb cc W' :=
 ⟨h.a.kept k (fun h => h), h.b.kept k (fun h => h), h.c.kept k (fun h => h), h.k.trans k⟩
theorem Bx3.new (w : World) (ca cb cc : List Value) : Bx3 w ca cb cc (((w.alloc (.cells ca.toArray 28)).alloc (.cells cb.toArray 28)).alloc (.cells cc.toArray 28)) :=
 ⟨((Blk.new w 28 ca).alloc _).alloc _, (Blk.new' 28 _ (by simp)).alloc _, Blk.new' 28 _ (by simp), (((Kept.refl _ _).alloc _).alloc _).alloc _⟩
def PutP (r : Tm) (w : World) (e : Ending) (w' : World) : Prop := ∃ tk kk, e = .returned (tmVal r tk kk) ∧ TyL (fun q => w.heap.size ≤ q) w' r.ty.kids tk ∧ TmL (fun q => w.heap.size ≤ q) w' r.kids kk ∧ Kept (fun _ => False) w w'
theorem rcopy_put {t : Tm} (hb : BdTm t) {w : World} {ok : Nat → Prop} {tk kk : Value} (h1 : TyL ok w t.ty.kids tk) (h2 : TmL ok w t.kids kk) : Calls Tryz.prog 42 #[tmVal t tk kk] w (PutP t w) :=
 (rcopy_any hb w ok tk kk h1 h2).mono fun e w' ⟨v, E, k, h, h3, h4, h5⟩ => ⟨v, k, h, h3.mono (fun q _ hq => hq.1), by rw [← h5]; exact h4.tml, h4.kp⟩
def FitB (l : List (ByteArray × Tm)) (t : Tm) (M : Nat) : Prop := ∀ (x : ByteArray) (F : List ByteArray), (∀ s, mb s F = true → s ≠ x → mb s (fr t) = true) → (frB (remL l x F)).length ≤ M
def RSuC (t : Tm) : Prop := ∀ (l : List (ByteArray × Tm)) (M : Nat) (w : World) (ok okb : Nat → Prop) (tk kk vl : Value), TyL ok w t.ty.kids tk → TmL ok w t.kids kk → BnL okb w l vl → (∀ b ∈ l, BdTm b.2 ∧ tmD b.2 ≤ 900000 ∧ tmN b.2 ≤ 700000) → l.length + tmD t ≤ 100000 → FitB l t M → M + tmN t ≤ 700000 →
 Calls Tryz.prog 78 #[tmVal t tk kk, vl] w (PutP (subT freshS t l) w)
theorem rsub_name {nm : ByteArray} {N : Int} {ty : Ty} {ks : List Tm} (hb : BdTm (.mk 20 nm N ty ks)) : RSuC (.mk 20 nm N ty ks) := by
 intro l M w ok okb tk kk vl h1 h2 hB hbl hn _ _
 have h1 : TyL ok w ty.kids tk := h1
 have h2 : TmL ok w ks kk := h2
 obtain ⟨a, n, c, rfl⟩ := h1.slice
 obtain ⟨ma, mn, mc, rfl⟩ := h2.slice
 obtain ⟨la, lc, rfl⟩ := hB.slice
 change Calls Tryz.prog 78 #[.agg #[.int .i64 20, .string nm, .int .i64 N, .int .i64 ty.kind, .string ty.name, .slice a n c, .slice ma mn mc], .slice la l.length lc] w _
 have B0 : Hid (Blk ((w.alloc (.cells #[.int .i64 20, .string nm, .int .i64 N, .int .i64 ty.kind, .string ty.name, .slice a n c, .slice ma mn mc] 28)).alloc Z7) w.heap.size 28 [.int .i64 20, .string nm, .int .i64 N, .int .i64 ty.kind, .string ty.name, .slice a n c, .slice ma mn mc] ∧ Blk ((w.alloc (.cells #[.int .i64 20, .string nm, .int .i64 N, .int .i64 ty.kind, .string ty.name, .slice a n c, .slice ma mn mc] 28)).alloc Z7) (w.heap.size + 1) 28 z27 ∧ Kept (fun _ => False) w ((w.alloc (.cells #[.int .i64 20, .string nm, .int .i64 N, .int .i64 ty.kind, .string ty.name, .slice a n c, .slice ma mn mc] 28)).alloc Z7)) := Ld
  ⟨(Blk.new w 28 _).alloc _, Blk.new' 28 _ (by simp), ((Kept.refl _ _).alloc _).alloc _⟩
 have HBO := Ld (fun W (k : Kept (fun _ => False) w W) => rbof_any nm (hB.frame (sK k)) (by omega))
 have HCT := Ld (fun W (k : Kept (fun _ => False) w W) => rcopy_put hb (w := W) (show TyL ok W ty.kids _ from h1.frame (sK k)) (show TmL ok W ks _ from h2.frame (sK k)))
 change Hid (∀ W, Kept (fun _ => False) w W → Calls Tryz.prog 42 #[.agg #[.int .i64 20, .string nm, .int .i64 N, .int .i64 ty.kind, .string ty.name, .slice a n c, .slice ma mn mc]] W _) at HCT
 have HRE : Hid (subT freshS (.mk 20 nm N ty ks) l = if (look l nm).isSome then (look l nm).getD tm0 else .mk 20 nm N ty ks) := Ld (by rw [subT, if_pos rfl]; cases look l nm <;> rfl)
 have HBD : Hid ((look l nm).isSome = true → BdTm ((look l nm).getD tm0)) := Ld (fun h => by
  have key : ∀ (l : List (ByteArray × Tm)), (∀ b ∈ l, BdTm b.2) → (look l nm).isSome = true → BdTm ((look l nm).getD tm0) := by
   intro l
   induction l with
   | nil => intro _ h; cases h
   | cons b l ih =>
    intro hb' h
    rw [look] at h ⊢
    by_cases e : b.1 = nm
    ·rw [if_pos e]; exact hb' b (by simp)
    ·rw [if_neg e] at h ⊢; exact ih (fun b hb => hb' b (List.mem_cons_of_mem _ hb)) h
  exact key l (fun b hb => (hbl b hb).1) h)
 clear h1 h2 hB hbl hn hb
 unfold BofP tmVal at HBO
 unfold PutP tmVal at HCT
 generalize subT freshS (.mk 20 nm N ty ks) l = res at *
 generalize (look l nm).getD tm0 = r at *
 generalize (look l nm).isSome = b at *
 go_enter Tryz.func78, Tryz.ntmps78
 go_wp2_with fail
 generalize ((w.alloc (.cells #[.int .i64 20, .string nm, .int .i64 N, .int .i64 ty.kind, .string ty.name, .slice a n c, .slice ma mn mc] 28)).alloc Z7) = w1 at *
 refine (HBO.out w1 B0.out.2.2).mono ?_
 rintro e w3 ⟨otk, okk, rfl, hty, htm, k3⟩
 obtain ⟨ua, un, uc, rfl⟩ := hty.slice
 obtain ⟨va, vn, vc, rfl⟩ := htm.slice
 have BA3 := Ld (B0.out.1.kept k3 (fun h => h))
 have BR3 := Ld (B0.out.2.1.kept k3 (fun h => h))
 have KK3 := Ld (B0.out.2.2.trans k3)
 have HTY := Ld hty
 have HTM := Ld htm
 clear hty htm k3 B0 HBO
 go_upto_region 3 with (fail)
 have KK4 := Ld (KK3.out.alloc (.cells #[.int .i64 r.op, .string r.name, .int .i64 r.n, .int .i64 r.ty.kind, .string r.ty.name, .slice ua un uc, .slice va vn vc] 28))
 have BA4 := Ld (BA3.out.alloc (.cells #[.int .i64 r.op, .string r.name, .int .i64 r.n, .int .i64 r.ty.kind, .string r.ty.name, .slice ua un uc, .slice va vn vc] 28))
 have BR4 := Ld (BR3.out.alloc (.cells #[.int .i64 r.op, .string r.name, .int .i64 r.n, .int .i64 r.ty.kind, .string r.ty.name, .slice ua un uc, .slice va vn vc] 28))
 have BN4 := Ld (Blk.new w3 28 [.int .i64 r.op, .string r.name, .int .i64 r.n, .int .i64 r.ty.kind, .string r.ty.name, .slice ua un uc, .slice va vn vc])
 change Hid (Blk (w3.alloc (.cells #[.int .i64 r.op, .string r.name, .int .i64 r.n, .int .i64 r.ty.kind, .string r.ty.name, .slice ua un uc, .slice va vn vc] 28)) _ _ _) at BN4
 have HCR := Ld (fun (hb : BdTm r) => rcopy_put hb (w := w3.alloc (.cells #[.int .i64 r.op, .string r.name, .int .i64 r.n, .int .i64 r.ty.kind, .string r.ty.name, .slice ua un uc, .slice va vn vc] 28)) (HTY.out.frame (Same.alloc _ _)) (HTM.out.frame (Same.alloc _ _)))
 unfold PutP tmVal at HCR
 clear KK3 BA3 BR3 HTY HTM
 generalize w3.alloc (.cells #[.int .i64 r.op, .string r.name, .int .i64 r.n, .int .i64 r.ty.kind, .string r.ty.name, .slice ua un uc, .slice va vn vc] 28) = w4 at *
 cases b
 ·have hres : Hid (res = .mk 20 nm N ty ks) := Ld (by rw [HRE.out]; rfl)
  have HC := Ld (HCT.out w4 KK4.out)
  have gA : ∀ i, w4.cell? ⟨w.heap.size, i, none⟩ = [Value.int .i64 20, .string nm, .int .i64 N, .int .i64 ty.kind, .string ty.name, .slice a n c, .slice ma mn mc][i]? := BA4.out.cell
  clear HRE HBD HCT HCR BN4
  go_wp2_with fail
  clear gA
  refine HC.out.mono ?_
  rintro e w5 ⟨tk, kk, rfl, hty5, htm5, k5⟩
  obtain ⟨pa, pn, pc, rfl⟩ := hty5.slice
  obtain ⟨qa, qn, qc, rfl⟩ := htm5.slice
  have lw4 := BR4.out.lt
  have BR5 := Ld (BR4.out.kept k5 (fun h => h))
  have KK5 := Ld (KK4.out.trans k5)
  have HTY := Ld hty5
  have HTM := Ld htm5
  clear hty5 htm5 k5 BR4 KK4 HC BA4
  have gR : ∀ i, w5.cell? ⟨w.heap.size + 1, i, none⟩ = [Value.int .i64 0, .string ⟨#[]⟩, .int .i64 0, .int .i64 0, .string ⟨#[]⟩, .slice none 0 0, .slice none 0 0][i]? := BR5.out.cell
  have fR : ∀ i, w5.frozen? ⟨w.heap.size + 1, i, none⟩ = false := BR5.out.frozen
  go_wp2_with fail
  exact bodyPost_ret (results_one Tryz.results78 rfl (load_tm (t := .mk 20 nm N ty ks) (r7 BR5.out rfl))) rfl ⟨_, _, by rw [hres.out], by rw [hres.out]; exact (HTY.out.frame (set7 (fun q hq => by omega))).mono (fun q _ hq => by omega), by rw [hres.out]; exact (HTM.out.frame (set7 (fun q hq => by omega))).mono (fun q _ hq => by omega), k7w KK5.out (Or.inr (Nat.le_succ _))⟩
 ·have hres : Hid (res = r) := Ld (by rw [HRE.out]; rfl)
  have HC := Ld (HCR.out (HBD.out rfl))
  have gN : ∀ i, w4.cell? ⟨w3.heap.size, i, none⟩ = [Value.int .i64 r.op, .string r.name, .int .i64 r.n, .int .i64 r.ty.kind, .string r.ty.name, .slice ua un uc, .slice va vn vc][i]? := BN4.out.cell
  clear HRE HBD HCT HCR BA4
  go_wp2_with fail
  clear gN
  refine HC.out.mono ?_
  rintro e w5 ⟨tk, kk, rfl, hty5, htm5, k5⟩
  obtain ⟨pa, pn, pc, rfl⟩ := hty5.slice
  obtain ⟨qa, qn, qc, rfl⟩ := htm5.slice
  have lw4 := BR4.out.lt
  have BR5 := Ld (BR4.out.kept k5 (fun h => h))
  have KK5 := Ld (KK4.out.trans k5)
  have HTY := Ld hty5
  have HTM := Ld htm5
  clear hty5 htm5 k5 BR4 KK4 HC BN4
  have gR : ∀ i, w5.cell? ⟨w.heap.size + 1, i, none⟩ = [Value.int .i64 0, .string ⟨#[]⟩, .int .i64 0, .int .i64 0, .string ⟨#[]⟩, .slice none 0 0, .slice none 0 0][i]? := BR5.out.cell
  have fR : ∀ i, w5.frozen? ⟨w.heap.size + 1, i, none⟩ = false := BR5.out.frozen
  go_wp2_with fail
  exact bodyPost_ret (results_one Tryz.results78 rfl (load_tm (t := r) (r7 BR5.out rfl))) rfl ⟨_, _, by rw [hres.out], by rw [hres.out]; exact (HTY.out.frame (set7 (fun q hq => by omega))).mono (fun q _ hq => by omega), by rw [hres.out]; exact (HTM.out.frame (set7 (fun q hq => by omega))).mono (fun q _ hq => by omega), k7w KK5.out (Or.inr (Nat.le_succ _))⟩
theorem remG_frB (x : ByteArray) (F : List ByteArray) : ∀ (l out : List (ByteArray × Tm)), (frB (remG x F out l)).length ≤ (frB out).length + (frB l).length ∧ (remG x F out l).length ≤ out.length + l.length
 | [], out => ⟨Nat.le_refl _, Nat.le_refl _⟩
 | b :: l, out => by
  rw [remG, frB, List.length_append, List.length_cons]
  split
  ·have := remG_frB x F l out; omega
  ·have := remG_frB x F l (out ++ [b])
   rw [frB_app, List.length_append, frB, List.length_append, List.length_append, List.length_singleton] at this
   simp only [frB, List.length_nil] at this
   omega
theorem remL_count (l : List (ByteArray × Tm)) (x : ByteArray) (F : List ByteArray) : (remL l x F).length ≤ l.length := by
 have := (remG_frB x F l []).2; unfold remL; simpa using this
theorem remL_frB (l : List (ByteArray × Tm)) (x : ByteArray) (F : List ByteArray) : (frB (remL l x F)).length ≤ (frB l).length := by
 have := (remG_frB x F l []).1; unfold remL; simpa [frB] using this
theorem fr_bind {op : Int} {nm : ByteArray} {N : Int} {ty : Ty} {d y : Tm} (hop : op ≠ 20) (hb : binderB op = true) : fr (.mk op nm N ty [d, y]) = fr d ++ (fr y).filter (fun s => !decide (s = nm)) := by
 rw [fr, if_neg hop, hb, frs, frs, frs, List.append_nil]; rfl
theorem FitB.dom {l : List (ByteArray × Tm)} {op : Int} {nm : ByteArray} {N : Int} {ty : Ty} {d y : Tm} {M : Nat} (hop : op ≠ 20) (hb : binderB op = true) (h : FitB l (.mk op nm N ty [d, y]) M) : FitB l d M :=
 fun x F hF => h x F (fun s hs hx => by rw [fr_bind hop hb, mb_app, hF s hs hx]; rfl)
theorem FitB.rem {l : List (ByteArray × Tm)} {op : Int} {nm : ByteArray} {N : Int} {ty : Ty} {d y : Tm} {M : Nat} (hop : op ≠ 20) (hb : binderB op = true) (h : FitB l (.mk op nm N ty [d, y]) M) : (frB (remL l nm (fr y))).length ≤ M :=
 h nm (fr y) (fun s hs hx => by
  rw [fr_bind hop hb, mb_app]
  have : mb s ((fr y).filter (fun s => !decide (s = nm))) = true := (mb_iff _ _).2 (List.mem_filter.2 ⟨(mb_iff _ _).1 hs, by simp [hx]⟩)
  rw [this]; simp)
theorem inner_frB (nm : ByteArray) (y : Tm) (l : List (ByteArray × Tm)) : (frB (inner freshS nm y l)).length ≤ (frB (remL l nm (fr y))).length + 1 ∧ (inner freshS nm y l).length ≤ l.length + 1 := by
 have h := remL_count l nm (fr y)
 unfold inner
 split
 ·rw [frB_app, List.length_append, List.length_append, List.length_singleton, frB, fr_nameT]
  simp only [frB, List.append_nil, List.length_singleton]
  omega
 ·omega
theorem FitB.inn {l : List (ByteArray × Tm)} {op : Int} {nm : ByteArray} {N : Int} {ty : Ty} {d y : Tm} {M : Nat} (hop : op ≠ 20) (hb : binderB op = true) (h : FitB l (.mk op nm N ty [d, y]) M) : FitB (inner freshS nm y l) y (M + 1) :=
 fun x F _ => by
  have h1 := remL_frB (inner freshS nm y l) x F
  have h2 := (inner_frB nm y l).1
  have h3 := FitB.rem hop hb h
  omega
theorem bd_nameT (z : ByteArray) : BdTm (nameT z) := .mk (by decide) (.mk (by decide) (fun t h => by cases h)) (fun t h => by cases h)
theorem inner_bd {nm : ByteArray} {y : Tm} {l : List (ByteArray × Tm)} (h : ∀ b ∈ l, BdTm b.2 ∧ tmD b.2 ≤ 900000 ∧ tmN b.2 ≤ 700000) : ∀ b ∈ inner freshS nm y l, BdTm b.2 ∧ tmD b.2 ≤ 900000 ∧ tmN b.2 ≤ 700000 := by
 have hz : ∀ z, BdTm (nameT z) ∧ tmD (nameT z) ≤ 900000 ∧ tmN (nameT z) ≤ 700000 := fun z => ⟨bd_nameT z, by unfold nameT; rw [tmD]; simp only [tmDs]; omega, by unfold nameT; rw [tmN]; simp only [tmNs]; omega⟩
 intro b hb
 unfold inner at hb
 split at hb
 ·rcases List.mem_append.1 hb with hb | hb
  ·exact h b (remL_mem hb)
  ·rw [List.mem_singleton.1 hb]; exact hz _
 ·exact h b (remL_mem hb)
theorem frB_drop {l : List (ByteArray × Tm)} {k : Nat} (h : k < l.length) : frB (l.drop k) = fr l[k].2 ++ frB (l.drop (k + 1)) := by
 rw [List.drop_eq_getElem_cons h, frB]
theorem fitB_one (nm z : ByteArray) (t : Tm) : FitB [(nm, nameT z)] t 1 := fun x F _ => by
 have h := remL_frB [(nm, nameT z)] x F
 rw [frB, frB, fr_nameT] at h
 simpa using h
structure B13 (w5 : World) (r y : Tm) (tk kk a b : Value) (O9 O10 : Nat) (W : World) : Prop where
 kp : Kept (fun _ => False) w5 W
 b9 : Blk W O9 28 (tmCells r tk kk)
 b10 : Blk W O10 28 (tmCells y a b)
 lo : w5.heap.size ≤ O9 ∧ w5.heap.size ≤ O10
 ty : TyL (fun q => w5.heap.size ≤ q) W r.ty.kids tk
 tm : TmL (fun q => w5.heap.size ≤ q) W r.kids kk
structure B13s (w5 : World) (r : Tm) (tk kk : Value) (c : Nat) (W : World) : Prop where
 kp : Kept (fun _ => False) w5 W
 ty : TyL (fun q => c ≤ q) W r.ty.kids tk
 tm : TmL (fun q => c ≤ q) W r.kids kk
theorem B13s.al {w5 W : World} {r : Tm} {tk kk : Value} {c : Nat} (h : B13s w5 r tk kk c W) (o : Obj) : B13s w5 r tk kk c (W.alloc o) := ⟨h.kp.alloc _, h.ty.frame (Same.alloc _ _), h.tm.frame (Same.alloc _ _)⟩
def st7 (W : World) (g : Nat) (t : Tm) (a b : Value) : World := ((((((W.setCell ⟨g, 0, none⟩ (.int .i64 t.op)).setCell ⟨g, 1, none⟩ (.string t.name)).setCell ⟨g, 2, none⟩ (.int .i64 t.n)).setCell ⟨g, 3, none⟩ (.int .i64 t.ty.kind)).setCell ⟨g, 4, none⟩ (.string t.ty.name)).setCell ⟨g, 5, none⟩ a).setCell ⟨g, 6, none⟩ b
def al7 (W : World) (t : Tm) (a b : Value) : World := W.alloc (.cells #[.int .i64 t.op, .string t.name, .int .i64 t.n, .int .i64 t.ty.kind, .string t.ty.name, a, b] 28)
theorem B13s.st {w5 W : World} {r : Tm} {tk kk : Value} {c g : Nat} {t : Tm} {a b : Value} (h : B13s w5 r tk kk c W) (h1 : w5.heap.size ≤ g) (h2 : g < c) : B13s w5 r tk kk c (st7 W g t a b) :=
 ⟨k7w h.kp (Or.inr h1), h.ty.frame (set7 (fun q hq => by omega)), h.tm.frame (set7 (fun q hq => by omega))⟩
theorem B13s.a7 {w5 W : World} {r : Tm} {tk kk : Value} {c : Nat} {t : Tm} {a b : Value} (h : B13s w5 r tk kk c W) : B13s w5 r tk kk c (al7 W t a b) := h.al _
theorem so7 {W : World} {b g : Nat} {l : List Value} {t : Tm} {x y : Value} (h : Blk W b 28 l) (hn : b ≠ g) : Blk (st7 W g t x y) b 28 l :=
 (((((((h.set_other _ _ hn).set_other _ _ hn).set_other _ _ hn).set_other _ _ hn).set_other _ _ hn).set_other _ _ hn).set_other _ _ hn)
theorem at7 {W : World} {g : Nat} {t : Tm} {x y : Value} (h : Blk W g 28 z27) : Blk (st7 W g t x y) g 28 (tmCells t x y) := r7 h rfl
theorem nw7 {W : World} {g : Nat} {t : Tm} {x y : Value} (h : g = W.heap.size) : Blk (al7 W t x y) g 28 (tmCells t x y) := Blk.new' 28 _ h
theorem ao7 {W : World} {b : Nat} {l : List Value} {t : Tm} {x y : Value} (h : Blk W b 28 l) : Blk (al7 W t x y) b 28 l := h.alloc _
theorem sz7 (W : World) (g : Nat) (t : Tm) (x y : Value) : (st7 W g t x y).heap.size = W.heap.size := by simp [st7, World.setCell]
theorem za7 (W : World) (t : Tm) (x y : Value) : (al7 W t x y).heap.size = W.heap.size + 1 := by simp [al7]
theorem B13s.fin {w5 W : World} {r y : Tm} {tk kk a b : Value} {c O9 O10 : Nat} (h : B13s w5 r tk kk c W) (hc : w5.heap.size ≤ c) (h9 : w5.heap.size ≤ O9) (h10 : w5.heap.size ≤ O10) (b9 : Blk W O9 28 (tmCells r tk kk)) (b10 : Blk W O10 28 (tmCells y a b)) : B13 w5 r y tk kk a b O9 O10 W :=
 ⟨h.kp, b9, b10, ⟨h9, h10⟩, h.ty.mono (fun q _ hq => by omega), h.tm.mono (fun q _ hq => by omega)⟩
section
variable {w5 w4 : World} {r y : Tm} {tk kk a b : Value} {c : Nat}
theorem b13_ll (h : B13s w5 r tk kk c w4) (hc : w5.heap.size ≤ c) : B13 w5 r y tk kk a b w4.heap.size (w4.heap.size + 1) (al7 (al7 w4 r tk kk) y a b) :=
 h.a7.a7.fin hc h.kp.size (by have := h.kp.size; omega) (ao7 (nw7 rfl)) (nw7 (by rw [za7]))
theorem b13_ll' (h : B13s w5 r tk kk c w4) (hc : w5.heap.size ≤ c) : B13 w5 r y tk kk a b (w4.heap.size + 1) w4.heap.size (al7 (al7 w4 y a b) r tk kk) :=
 h.a7.a7.fin hc (by have := h.kp.size; omega) h.kp.size (nw7 (by rw [za7])) (ao7 (nw7 rfl))
theorem b13_el (h : B13s w5 r tk kk c w4) (hc : w5.heap.size + 1 ≤ c) (bP : Blk w4 w5.heap.size 28 z27) : B13 w5 r y tk kk a b w5.heap.size w4.heap.size (al7 (st7 w4 w5.heap.size r tk kk) y a b) :=
 (h.st (Nat.le_refl _) (by omega)).a7.fin (by omega) (Nat.le_refl _) h.kp.size (ao7 (at7 bP)) (nw7 (by rw [sz7]))
theorem b13_le2 (h : B13s w5 r tk kk c w4) (hc : w5.heap.size + 1 ≤ c) (bP : Blk w4 w5.heap.size 28 z27) : B13 w5 r y tk kk a b w4.heap.size w5.heap.size (al7 (st7 w4 w5.heap.size y a b) r tk kk) :=
 (h.st (Nat.le_refl _) (by omega)).a7.fin (by omega) h.kp.size (Nat.le_refl _) (nw7 (by rw [sz7])) (ao7 (at7 bP))
theorem b13_ee (h : B13s w5 r tk kk c w4) (hc : w5.heap.size + 2 ≤ c) (bP : Blk w4 w5.heap.size 28 z27) (bQ : Blk w4 (w5.heap.size + 1) 28 z27) : B13 w5 r y tk kk a b w5.heap.size (w5.heap.size + 1) (st7 (st7 w4 w5.heap.size r tk kk) (w5.heap.size + 1) y a b) :=
 ((h.st (Nat.le_refl _) (by omega)).st (Nat.le_succ _) (by omega)).fin (by omega) (Nat.le_refl _) (Nat.le_succ _) (so7 (at7 bP) (by omega)) (at7 (so7 bQ (by omega)))
theorem b13_ee' (h : B13s w5 r tk kk c w4) (hc : w5.heap.size + 2 ≤ c) (bP : Blk w4 w5.heap.size 28 z27) (bQ : Blk w4 (w5.heap.size + 1) 28 z27) : B13 w5 r y tk kk a b (w5.heap.size + 1) w5.heap.size (st7 (st7 w4 (w5.heap.size + 1) r tk kk) w5.heap.size y a b) :=
 ((h.st (Nat.le_succ _) (by omega)).st (Nat.le_refl _) (by omega)).fin (by omega) (Nat.le_succ _) (Nat.le_refl _) (so7 (at7 bQ) (by omega)) (at7 (so7 bP (by omega)))
end
structure S20 (w : World) (op : Int) (nm : ByteArray) (N : Int) (ty : Ty) (v : Value) (r y : Tm) (tk kk a b : Value) (O O9 O10 B : Nat) (W : World) : Prop where
 kp : Kept (fun _ => False) w W
 rb : Blk W (w.heap.size + 1) 28 z27
 o : Blk W O 28 [.int .i64 op, .string nm, .int .i64 N, .int .i64 ty.kind, .string ty.name, v, .slice none 0 0]
 b9 : Blk W O9 28 (tmCells r tk kk)
 b10 : Blk W O10 28 (tmCells y a b)
 lo : w.heap.size + 2 ≤ O ∧ O < O9 ∧ O < O10 ∧ O9 < B ∧ O10 < B
 ty : TyL (fun q => w.heap.size + 2 ≤ q ∧ q ≠ O ∧ q < B) W ty.kids v
 rt : TyL (fun q => O < q ∧ q < B) W r.ty.kids tk
 rm : TmL (fun q => O < q ∧ q < B) W r.kids kk
section
variable {w W W1 w5 : World} {op : Int} {nm : ByteArray} {N : Int} {ty : Ty} {v : Value} {r y z : Tm} {tk kk a b zt zk : Value} {O O9 O10 B : Nat}
theorem S20.start {ak bk : Value} (h : CT w op nm N ty ak bk v O w5) (g : B13 w5 r y tk kk a b O9 O10 W) : S20 w op nm N ty v r y tk kk a b O O9 O10 W.heap.size W :=
 have h5 := h.kept g.kp
 have l5 := h.o.lt
 ⟨h5.kp, h5.r, h5.o, g.b9, g.b10, ⟨h.ho, by have := g.lo.1; omega, by have := g.lo.2; omega, g.b9.lt, g.b10.lt⟩, h5.ty.mono (fun q hq h => ⟨h.1, h.2, hq⟩), g.ty.mono (fun q hq h => ⟨by omega, hq⟩), g.tm.mono (fun q hq h => ⟨by omega, hq⟩)⟩
theorem S20.keptS {S : Nat → Prop} (h : S20 w op nm N ty v r y tk kk a b O O9 O10 B W) (k : Kept S W W1) (hS : ∀ q, S q → B ≤ q) : S20 w op nm N ty v r y tk kk a b O O9 O10 B W1 := by
 obtain ⟨l1, l2, l3, l4, l5⟩ := h.lo
 have l6 := h.kp.size
 exact ⟨h.kp.via1 k (fun x hx hs => by have := hS x hs; omega), h.rb.kept k (fun e => by have := hS _ e; omega), h.o.kept k (fun e => by have := hS _ e; omega), h.b9.kept k (fun e => by have := hS _ e; omega), h.b10.kept k (fun e => by have := hS _ e; omega), h.lo, h.ty.frame (Same.of_kept k (fun q hq e => by have := hS _ e; omega)), h.rt.frame (Same.of_kept k (fun q hq e => by have := hS _ e; omega)), h.rm.frame (Same.of_kept k (fun q hq e => by have := hS _ e; omega))⟩
theorem S20.kept (h : S20 w op nm N ty v r y tk kk a b O O9 O10 B W) (k : Kept (fun _ => False) W W1) : S20 w op nm N ty v r y tk kk a b O O9 O10 B W1 := h.keptS k (fun _ e => e.elim)
theorem S20.name (h : S20 w op nm N ty v r y tk kk a b O O9 O10 B W) (s : ByteArray) : S20 w op s N ty v r y tk kk a b O O9 O10 B (W.setCell ⟨O, 1, none⟩ (.string s)) := by
 have kS : Kept (fun q => q = O) W (W.setCell ⟨O, 1, none⟩ (.string s)) := (Kept.refl (fun q => q = O) W).setCell (p := ⟨O, 1, none⟩) (Or.inl rfl) _
 obtain ⟨h1, h2, h3, h4, h5⟩ := h.lo
 exact ⟨h.kp.setCell (p := ⟨O, 1, none⟩) (Or.inr (by show w.heap.size ≤ O; omega)) _, h.rb.kept kS (fun e => by omega), h.o.set 1 (.string s), h.b9.kept kS (fun e => by omega), h.b10.kept kS (fun e => by omega), h.lo, h.ty.frame (Same.of_kept kS (fun q hq e => hq.2.1 e)), h.rt.frame (Same.of_kept kS (fun q hq e => by omega)), h.rm.frame (Same.of_kept kS (fun q hq e => by omega))⟩
theorem two_row {base g : Nat} (k : Kept (fun _ => False) w W) (hb : Blk W g 28 (tmCells r tk kk ++ tmCells z zt zk)) (hg : base ≤ g) (h1 : TyL (fun q => base ≤ q ∧ q ≠ g) W r.ty.kids tk) (h2 : TmL (fun q => base ≤ q ∧ q ≠ g) W r.kids kk) (h3 : TyL (fun q => base ≤ q ∧ q ≠ g) W z.ty.kids zt) (h4 : TmL (fun q => base ≤ q ∧ q ≠ g) W z.kids zk) :
  RowT w base W [(r, tk, kk), (z, zt, zk)] (.slice (some ⟨g, 0, none⟩) 2 2) :=
 ⟨k, ⟨rfl, .inr ⟨g, 2, _, rfl, hg, hb, Nat.le_refl _, by unfold maxLen; omega, rfl, rfl⟩⟩, fun e he => by
  rcases List.mem_cons.1 he with rfl | he
  ·exact ⟨h1.mono (fun q _ h => ⟨h.1, fun e => h.2 (Option.some.inj e).symm⟩), h2.mono (fun q _ h => ⟨h.1, fun e => h.2 (Option.some.inj e).symm⟩)⟩
  ·rw [List.mem_singleton.1 he]
   exact ⟨h3.mono (fun q _ h => ⟨h.1, fun e => h.2 (Option.some.inj e).symm⟩), h4.mono (fun q _ h => ⟨h.1, fun e => h.2 (Option.some.inj e).symm⟩)⟩⟩
theorem S20.done (h : S20 w op nm N ty v r y tk kk a b O O9 O10 B W) (k1 : Kept (fun _ => False) W W1) (h3 : TyL (fun q => W.heap.size ≤ q) W1 z.ty.kids zt) (h4 : TmL (fun q => W.heap.size ≤ q) W1 z.kids zk) (W3 : World)
  (hW : W3 = (W1.setCell ⟨O, 6, none⟩ (.slice (some ⟨W1.heap.size, 0, none⟩) 2 2)).alloc (.cells #[.int .i64 r.op, .string r.name, .int .i64 r.n, .int .i64 r.ty.kind, .string r.ty.name, tk, kk, .int .i64 z.op, .string z.name, .int .i64 z.n, .int .i64 z.ty.kind, .string z.ty.name, zt, zk] 28)) :
  Blk W3 (w.heap.size + 1) 28 z27 ∧ Blk W3 O 28 [.int .i64 op, .string nm, .int .i64 N, .int .i64 ty.kind, .string ty.name, v, .slice (some ⟨W1.heap.size, 0, none⟩) 2 2] ∧ Kept (fun _ => False) w W3 ∧ TyL (fun q => w.heap.size + 2 ≤ q) W3 ty.kids v ∧ TmL (fun q => w.heap.size + 2 ≤ q) W3 [r, z] (.slice (some ⟨W1.heap.size, 0, none⟩) 2 2) := by
 subst hW
 have h1 := h.kept k1
 obtain ⟨l1, l2, l3, l4, l5⟩ := h.lo
 have lO := h1.o.lt
 have l9 := h.b9.lt
 have zsz := k1.size
 have kS : Kept (fun q => q = O) W1 (W1.setCell ⟨O, 6, none⟩ (.slice (some ⟨W1.heap.size, 0, none⟩) 2 2)) := (Kept.refl (fun q => q = O) W1).setCell (p := ⟨O, 6, none⟩) (Or.inl rfl) _
 have kp2 : Kept (fun _ => False) w (W1.setCell ⟨O, 6, none⟩ (.slice (some ⟨W1.heap.size, 0, none⟩) 2 2)) := h1.kp.setCell (p := ⟨O, 6, none⟩) (Or.inr (by show w.heap.size ≤ O; omega)) _
 have bO := h1.o.set 6 (.slice (some ⟨W1.heap.size, 0, none⟩) 2 2)
 have bR := h1.rb.kept kS (fun e => by omega)
 have eT := h1.ty.frame (Same.of_kept kS (fun q hq e => hq.2.1 e))
 have e1 := (h1.rt.mono (ok' := fun q => O < q ∧ q ≠ W1.heap.size) (fun q hq ho => ⟨ho.1, by omega⟩)).frame (Same.of_kept kS (fun q hq e => by omega))
 have e2 := (h1.rm.mono (ok' := fun q => O < q ∧ q ≠ W1.heap.size) (fun q hq ho => ⟨ho.1, by omega⟩)).frame (Same.of_kept kS (fun q hq e => by omega))
 have e3 := (h3.mono (ok' := fun q => W.heap.size ≤ q ∧ q ≠ W1.heap.size) (fun q hq ho => ⟨ho, by omega⟩)).frame (Same.of_kept kS (fun q hq e => by omega))
 have e4 := (h4.mono (ok' := fun q => W.heap.size ≤ q ∧ q ≠ W1.heap.size) (fun q hq ho => ⟨ho, by omega⟩)).frame (Same.of_kept kS (fun q hq e => by omega))
 have z2 : (W1.setCell ⟨O, 6, none⟩ (.slice (some ⟨W1.heap.size, 0, none⟩) 2 2)).heap.size = W1.heap.size := by simp [World.setCell]
 generalize W1.setCell ⟨O, 6, none⟩ (.slice (some ⟨W1.heap.size, 0, none⟩) 2 2) = W2 at *
 have kA : Kept (fun _ => False) W2 (W2.alloc (.cells #[.int .i64 r.op, .string r.name, .int .i64 r.n, .int .i64 r.ty.kind, .string r.ty.name, tk, kk, .int .i64 z.op, .string z.name, .int .i64 z.n, .int .i64 z.ty.kind, .string z.ty.name, zt, zk] 28)) := (Kept.refl _ _).alloc _
 have bG : Blk (W2.alloc (.cells #[.int .i64 r.op, .string r.name, .int .i64 r.n, .int .i64 r.ty.kind, .string r.ty.name, tk, kk, .int .i64 z.op, .string z.name, .int .i64 z.n, .int .i64 z.ty.kind, .string z.ty.name, zt, zk] 28)) W1.heap.size 28 (tmCells r tk kk ++ tmCells z zt zk) := Blk.new' 28 (tmCells r tk kk ++ tmCells z zt zk) z2.symm
 have kp3 := kp2.trans kA
 refine ⟨bR.kept kA (fun e => e), bO.kept kA (fun e => e), kp3, (eT.frame (sK kA)).mono (fun q _ hq => hq.1), ?_⟩
 exact RowT.tml (two_row (base := w.heap.size + 2) kp3 bG (by omega)
  ((e1.frame (sK kA)).mono (fun q _ hq => ⟨by omega, hq.2⟩)) ((e2.frame (sK kA)).mono (fun q _ hq => ⟨by omega, hq.2⟩))
  ((e3.frame (sK kA)).mono (fun q _ hq => ⟨by omega, hq.2⟩)) ((e4.frame (sK kA)).mono (fun q _ hq => ⟨by omega, hq.2⟩)))
theorem RowB.to {ok : Nat → Prop} {w6 W : World} {base : Nat} {E : List E4} {u : Value} (h : RowB ok w6 base W E u) (hw : Kept (fun _ => False) w W) : RowB ok w base W E u := ⟨hw, h.own, h.el, h.lo⟩
theorem RowB.put {ok : Nat → Prop} {base : Nat} {E : List E4} {u : Value} (h : RowB ok w base W E u) (hO : w.heap.size ≤ O) (hb : O < base) (hok : ∀ q, ok q → q ≠ O) (i : Nat) (x : Value) : RowB ok w base (W.setCell ⟨O, i, none⟩ x) E u := by
 have kS : Kept (fun q => q = O) W (W.setCell ⟨O, i, none⟩ x) := (Kept.refl (fun q => q = O) W).setCell (p := ⟨O, i, none⟩) (Or.inl rfl) _
 exact ⟨h.kp.setCell (p := ⟨O, i, none⟩) (Or.inr hO) _, own_keptT h.own kS (fun g hg e => by have := (World.ownsRow.lt h.own g hg).1; omega), h.el.frame (Same.of_kept kS (fun q hq e => hok q hq e)), h.lo⟩
end
end Go.Proofs.YtfhedienjnfdcaaGreatDoor
