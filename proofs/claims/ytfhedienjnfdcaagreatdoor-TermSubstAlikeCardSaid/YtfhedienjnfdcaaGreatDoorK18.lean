/- Texts LmW TyQ TmQ RAlk BwL of this proof, in one. -/
import Derived.Test.YtfhedienjnfdcaaGreatDoorK17
import Derived.BigQuiet
import Derived.StillTailTactics
import Derived.Deep.RegionHeld3
import Derived.Deep.QuietTactic
import Derived.RangeFuncBox
import Derived.RangeFuncLeaves
import Derived.Shelf.Abstract
import Derived.OwnWalkIn
import Derived.TacticsInMore
import Derived.LoopNIn
import Derived.LoopIn
set_option linter.unusedVariables false
set_option linter.unusedSimpArgs false
set_option maxRecDepth 100000
set_option maxHeartbeats 32000000
namespace Go.Proofs.YtfhedienjnfdcaaGreatDoor
open Go.RowKit
def wgS (σ : ByteArray → Option Tm) (s : ByteArray) : Nat := match σ s with | some u => tmN u | none => 1
def wgC (σ : ByteArray → Option Tm) (c : ByteArray → Nat) : ByteArray → Nat := fun s => if c s = 0 then wgS σ s else 1
theorem wgC_up (σ : ByteArray → Option Tm) (c : ByteArray → Nat) (nm : ByteArray) : wgC σ (fun t => if t = nm then c nm + 1 else c t) = upW nm (wgC σ c) := by
 funext s
 unfold wgC upW
 by_cases h : s = nm
 ·simp [h]
 ·simp [h]
def ndW (σ : ByteArray → Option Tm) (c : ByteArray → Nat) (op : Int) (nm : ByteArray) : Nat := if op = 20 then wgC σ c nm else 1
theorem szR_nd {σ : ByteArray → Option Tm} {c : ByteArray → Nat} {op : Int} {nm : ByteArray} {N : Int} {ty : Ty} {ks : List Tm} (h20 : op = 20 → ks = []) : szR (wgC σ c) (.mk op nm N ty ks) = ndW σ c op nm + szRs (binderB op) nm (wgC σ c) 0 (ks.drop 0) := by
 rw [szR]
 unfold ndW
 by_cases ho : op = 20
 ·rw [if_pos ho, if_pos ho, h20 ho]; rfl
 ·rw [if_neg ho, if_neg ho, List.drop_zero]; omega
theorem szRs_drop {bi : Bool} {nm : ByteArray} {ρ : ByteArray → Nat} {ks : List Tm} {k : Nat} (h : k < ks.length) : szRs bi nm ρ k (ks.drop k) = szR (if bi && k == 1 then upW nm ρ else ρ) ks[k] + szRs bi nm ρ (k + 1) (ks.drop (k + 1)) := by
 rw [List.drop_eq_getElem_cons h, szRs]
structure LmX (X Y Z pm : Nat) (G : Nat) (W : World) : Prop where
 x : Blk W X 85 [.map (some pm)]
 y : Blk W Y 3 [.int .i64 G]
 z : Blk W Z 132 [.func (.func 127) #[] #[.pointer (some ⟨X, 0, none⟩), .pointer (some ⟨Y, 0, none⟩), .pointer (some ⟨Z, 0, none⟩)]]
structure LmR (b X Y Z pm n : Nat) (c : ByteArray → Nat) (G : Nat) (w w' : World) : Prop where
 kp : Kept (fun q => q = b ∨ q = Y) w w'
 bo : ∃ f, MapF w' b n f ∧ CntF f c
 bx : LmX X Y Z pm G w'
def LmC (t : Tm) : Prop := ∀ (σ : ByteArray → Option Tm) (c : ByteArray → Nat) (G : Nat) (w : World) (ok okm : Nat → Prop) (tk kk : Value) (b n pm np X Y Z : Nat), TyL ok w t.ty.kids tk → TmL ok w t.kids kk → PrM okm w pm np σ → SgOk σ → (∃ f, MapF w b n f ∧ CntF f c) → LmX X Y Z pm G w →
 (∀ q, ok q → q ≠ b ∧ q ≠ Y) → (∀ q, okm q → q ≠ b ∧ q ≠ Y) → (b ≠ Y ∧ b ≠ X ∧ b ≠ Z ∧ b ≠ pm ∧ Y ≠ X ∧ Y ≠ Z ∧ Y ≠ pm) → n + 2 * tmN t ≤ 1000000 → (∀ s, c s + tmD t ≤ 1000000) → G + szR (wgC σ c) t ≤ 1000000000 →
 Calls Tryz.prog 127 #[tmVal t tk kk, .map (some b), .pointer (some ⟨X, 0, none⟩), .pointer (some ⟨Y, 0, none⟩), .pointer (some ⟨Z, 0, none⟩)] w fun e w' => e = .returned (.tuple #[]) ∧ LmR b X Y Z pm (n + 2 * tmN t) c (G + szR (wgC σ c) t) w w'
structure LmS (w : World) (ce : List Value) (b X Y Z pm n : Nat) (c : ByteArray → Nat) (G : Nat) (W : World) : Prop where
 r : LmR b X Y Z pm n c G w W
 a : Blk W w.heap.size 28 ce
theorem LmX.kept {X Y Z pm G : Nat} {W W' : World} (h : LmX X Y Z pm G W) {S : Nat → Prop} (k : Kept S W W') (h1 : ¬ S X) (h2 : ¬ S Y) (h3 : ¬ S Z) : LmX X Y Z pm G W' := ⟨h.x.kept k h1, h.y.kept k h2, h.z.kept k h3⟩
section
variable {w W W' : World} {ce : List Value} {b X Y Z pm n n' : Nat} {c c' : ByteArray → Nat} {G G' : Nat}
theorem LmS.kept (h : LmS w ce b X Y Z pm n c G W) (k : Kept (fun _ => False) W W') : LmS w ce b X Y Z pm n c G W' := by
 obtain ⟨⟨h1, ⟨f, h2, h3⟩, h4⟩, h5⟩ := h
 exact ⟨⟨h1.trans (k.mono (fun _ _ e => e.elim)), ⟨f, h2.kept k (fun e => e), h3⟩, h4.kept k (fun e => e) (fun e => e) (fun e => e)⟩, h5.kept k (fun e => e)⟩
theorem LmS.step (h : LmS w ce b X Y Z pm n c G W) (hl : b < w.heap.size ∧ Y < w.heap.size) (r : LmR b X Y Z pm n' c' G' W W') : LmS w ce b X Y Z pm n' c' G' W' :=
 ⟨⟨h.r.kp.trans r.kp, r.bo, r.bx⟩, h.a.kept r.kp (fun e => by rcases e with e | e <;> omega)⟩
theorem LmS.cnt (h : LmS w ce b X Y Z pm n c G W) (hl : b < w.heap.size) (hd : b ≠ Y ∧ b ≠ X ∧ b ≠ Z) {f' : ByteArray → Option Value} (hm : MapF W' b n' f') (hf : CntF f' c') (k : Kept (fun q => q = b) W W') : LmS w ce b X Y Z pm n' c' G W' :=
 ⟨⟨h.r.kp.trans (k.mono (fun _ _ e => Or.inl e)), ⟨f', hm, hf⟩, h.r.bx.kept k (fun e => hd.2.1 e.symm) (fun e => hd.1 e.symm) (fun e => hd.2.2 e.symm)⟩, h.a.kept k (fun e => by omega)⟩
theorem LmS.grow (h : LmS w ce b X Y Z pm n c G W) (hl : Y < w.heap.size) (hd : b ≠ Y ∧ Y ≠ X ∧ Y ≠ Z) (G' : Nat) : LmS w ce b X Y Z pm n c G' (W.setCell ⟨Y, 0, none⟩ (.int .i64 G')) := by
 have k : Kept (fun q => q = Y) W (W.setCell ⟨Y, 0, none⟩ (.int .i64 G')) := (Kept.refl (fun q => q = Y) W).setCell (p := ⟨Y, 0, none⟩) (Or.inl rfl) _
 obtain ⟨f, h1, h2⟩ := h.r.bo
 exact ⟨⟨h.r.kp.trans (k.mono (fun _ _ e => Or.inr e)), ⟨f, h1.kept k (fun e => hd.1 e), h2⟩, ⟨h.r.bx.x.kept k (fun e => hd.2.1 e.symm), h.r.bx.y.set 0 _, h.r.bx.z.kept k (fun e => hd.2.2 e.symm)⟩⟩, h.a.kept k (fun e => by omega)⟩
end
theorem lim_one {op : Int} {nm : ByteArray} {N : Int} {ty : Ty} {ks : List Tm} (IH : ∀ u, u ∈ ks → LmC u) (hkn : ks.length ≤ 1000000) (h20 : op = 20 → ks = []) (hnz : nm.size ≤ maxLen) : LmC (.mk op nm N ty ks) := by
 intro σ c G w ok okm tk kk b n pm np X Y Z h1 h2 hpm hσ hb hx hok hokm hne hn hc hG
 have h1 : TyL ok w ty.kids tk := h1
 have h2 : TmL ok w ks kk := h2
 obtain ⟨a, an, ac, rfl⟩ := h1.slice
 obtain ⟨ma, mn, mc, rfl⟩ := h2.slice
 change Calls Tryz.prog 127 #[.agg #[.int .i64 op, .string nm, .int .i64 N, .int .i64 ty.kind, .string ty.name, .slice a an ac, .slice ma mn mc], .map (some b), .pointer (some ⟨X, 0, none⟩), .pointer (some ⟨Y, 0, none⟩), .pointer (some ⟨Z, 0, none⟩)] w _
 obtain rfl : mn = ks.length := h2.len
 have K0 : Kept (fun _ => False) w (w.alloc (.cells #[.int .i64 op, .string nm, .int .i64 N, .int .i64 ty.kind, .string ty.name, .slice a an ac, .slice ma ks.length mc] 28)) := (Kept.refl _ _).alloc _
 have S1 : Hid (LmS w [Value.int .i64 op, .string nm, .int .i64 N, .int .i64 ty.kind, .string ty.name, .slice a an ac, .slice ma ks.length mc] b X Y Z pm n c G (w.alloc (.cells #[.int .i64 op, .string nm, .int .i64 N, .int .i64 ty.kind, .string ty.name, .slice a an ac, .slice ma ks.length mc] 28))) := Ld (by
  obtain ⟨f, hb1, hb2⟩ := hb
  exact ⟨⟨K0.mono (fun _ _ e => e.elim), ⟨f, hb1.kept K0 (fun e => e), hb2⟩, hx.kept K0 (fun e => e) (fun e => e) (fun e => e)⟩, Blk.new w 28 _⟩)
 have HAT := Ld (fun W (k : Kept (fun q => q = b ∨ q = Y) w W) => (h2.frame (Same.of_kept k (fun q hq e => by rcases e with e | e; exact (hok q hq).1 e; exact (hok q hq).2 e))).at)
 have HPM := Ld (fun W (k : Kept (fun q => q = b ∨ q = Y) w W) => hpm.kept k (fun e => by rcases e with e | e; exact hne.2.2.2.1 e.symm; exact hne.2.2.2.2.2.2 e.symm) (fun q hq e => by rcases e with e | e; exact (hokm q hq).1 e; exact (hokm q hq).2 e))
 have LB : Hid (b < w.heap.size ∧ Y < w.heap.size) := Ld ⟨by obtain ⟨f, hb1, _⟩ := hb; exact hb1.lt, hx.y.lt⟩
 have HNE := Ld hne
 have HOK := Ld hok
 have HOKM := Ld hokm
 have HSG := Ld hσ
 have HIH := Ld IH
 have HKN := Ld hkn
 have HN0 : Hid (n + 2 * tmNs ks + 2 ≤ n + 2 * tmN (.mk op nm N ty ks)) := Ld (by rw [tmN]; omega)
 have HNB := Ld hn
 have HNZ := Ld hnz
 have HCB : Hid (∀ s, c s + tmDs ks + 1 ≤ 1000000) := Ld (fun s => by have := hc s; rw [tmD] at this; omega)
 have HSZ := Ld (szR_nd (σ := σ) (c := c) (nm := nm) (N := N) (ty := ty) h20)
 have HGB := Ld hG
 clear h1 h2 hpm hσ hb hx hok hokm hne hn hc hG IH hkn h20 hnz K0
 obtain ⟨GF, hGF⟩ : ∃ GF, GF = G + szR (wgC σ c) (.mk op nm N ty ks) := ⟨_, rfl⟩
 rw [← hGF] at HGB
 rw [← hGF]
 have HGF : Hid (GF = (G + ndW σ c op nm) + szRs (binderB op) nm (wgC σ c) 0 (ks.drop 0)) := Ld (by rw [hGF, HSZ.out]; omega)
 clear hGF HSZ
 go_enter Tryz.func127, Tryz.ntmps127
 go_upto_region 1 with (fail)
 generalize w.alloc (.cells #[.int .i64 op, .string nm, .int .i64 N, .int .i64 ty.kind, .string ty.name, .slice a an ac, .slice ma ks.length mc] 28) = w1 at *
 go_upto_region 2 with (fail)
 go_cut [8, 9] (fun v8 v9 wd => ∃ B8, v8 = .pointer (some ⟨B8, 0, none⟩) ∧ v9 = .bool (σ nm).isSome ∧ LmS w [Value.int .i64 op, .string nm, .int .i64 N, .int .i64 ty.kind, .string ty.name, .slice a an ac, .slice ma ks.length mc] b X Y Z pm n c G wd ∧ (∀ v, σ nm = some v → ∃ xa xn xc za zn zc, Blk wd B8 28 [Value.int .i64 v.op, .string v.name, .int .i64 v.n, .int .i64 v.ty.kind, .string v.ty.name, .slice xa xn xc, .slice za zn zc] ∧ TyL okm wd v.ty.kids (.slice xa xn xc) ∧ TmL okm wd v.kids (.slice za zn zc)))
 case first =>
  obtain ⟨fp, hfp, hvp⟩ := HPM.out w1 S1.out.r.kp
  have hlk := hfp.look_ok Tryz.underlying85 (z28 _) HNZ.out
  have gA := S1.out.a.cell
  have gX : ∀ i, w1.cell? ⟨X, i, none⟩ = [Value.map (some pm)][i]? := S1.out.r.bx.x.cell
  have h3 := PrM.some_iff hvp nm
  cases hs : σ nm with
  | none =>
   have hfn : fp nm = none := by cases h : fp nm with
    | none => rfl
    | some u => rw [h, hs] at h3; cases h3
   rw [hfn] at hlk
   change _ = Result.ok (Value.tuple #[.agg #[.int .i64 0, .string ⟨#[]⟩, .int .i64 0, .int .i64 0, .string ⟨#[]⟩, .slice none 0 0, .slice none 0 0], .bool false]) w1 at hlk
   clear hvp h3 hfn hfp
   have KZ : Hid (Kept (fun _ => False) w1 (w1.alloc Z7)) := Ld ((Kept.refl _ _).alloc _)
   go_wp2_with fail
   go_meet
   case rel => exact ⟨_, rfl, by rw [hs]; rfl, S1.out.kept KZ.out, fun v h => by rw [hs] at h; cases h⟩
  | some v =>
   have h4 := hvp nm
   rw [hs] at h4
   obtain ⟨xa, xn, xc, za, zn, zc, hfn, hty, htm⟩ := h4
   rw [hfn] at hlk
   change _ = Result.ok (Value.tuple #[.agg #[.int .i64 v.op, .string v.name, .int .i64 v.n, .int .i64 v.ty.kind, .string v.ty.name, .slice xa xn xc, .slice za zn zc], .bool true]) w1 at hlk
   have HTY := Ld hty
   have HTM := Ld htm
   clear hvp h3 hfn hfp hty htm
   have KZ : Hid (Kept (fun _ => False) w1 (w1.alloc (.cells #[.int .i64 v.op, .string v.name, .int .i64 v.n, .int .i64 v.ty.kind, .string v.ty.name, .slice xa xn xc, .slice za zn zc] 28))) := Ld ((Kept.refl _ _).alloc _)
   have bU : Hid (Blk (w1.alloc (.cells #[.int .i64 v.op, .string v.name, .int .i64 v.n, .int .i64 v.ty.kind, .string v.ty.name, .slice xa xn xc, .slice za zn zc] 28)) w1.heap.size 28 [Value.int .i64 v.op, .string v.name, .int .i64 v.n, .int .i64 v.ty.kind, .string v.ty.name, .slice xa xn xc, .slice za zn zc]) := Ld (Blk.new w1 28 _)
   go_wp2_with fail
   go_meet
   case rel => exact ⟨_, rfl, by rw [hs]; rfl, S1.out.kept KZ.out, fun v' h => by rw [hs] at h; cases h; exact ⟨xa, xn, xc, za, zn, zc, bU.out, HTY.out.frame (sK KZ.out), HTM.out.frame (sK KZ.out)⟩⟩
 case rest =>
  obtain ⟨B8, rfl, rfl, hS2, hU⟩ := hcut
  have S2 := Ld hS2
  have HU := Ld hU
  clear hS2 hU S1
  generalize wc = w2 at *
  obtain ⟨f1, hb1, hf1⟩ := S2.out.r.bo
  have hlk := hb1.look Tryz.underlying95 (z3 _) HNZ.out
  rw [hf1 nm] at hlk
  have gA := S2.out.a.cell
  clear hf1 hb1
  generalize hsm : (σ nm).isSome = sm at *
  have HSM := Ld hsm
  clear hsm
  go_upto_region 3 with (fail)
  go_cut [32] (fun v wd => v = .bool (sm && decide (op = 20) && decide (c nm = 0)) ∧ wd = w2)
  case first =>
   cases sm
   ·go_wp2_with fail
    go_meet
    case rel => exact ⟨by rfl, rfl⟩
   ·by_cases ho : op = 20
    ·have ho1 : (op == 20) = true := by simp [ho]
     by_cases hc0 : c nm = 0
     ·have hc1 : ((c nm : Int) == 0) = true := by simp [hc0]
      have HC0 := Ld hc0
      have HO := Ld ho
      clear hc0 ho
      go_wp2_with fail
      go_meet
      case rel => exact ⟨by rw [decide_eq_true HO.out, decide_eq_true HC0.out]; rfl, rfl⟩
     ·have hc1 : ((c nm : Int) == 0) = false := by simp; exact hc0
      have HC0 := Ld hc0
      have HO := Ld ho
      clear hc0 ho
      go_wp2_with fail
      go_meet
      case rel => exact ⟨by rw [decide_eq_false HC0.out]; simp, rfl⟩
    ·have ho1 : (op == 20) = false := by simp [ho]
     have HO := Ld ho
     clear ho
     go_wp2_with fail
     go_meet
     case rel => exact ⟨by rw [decide_eq_false HO.out]; simp, rfl⟩
  case rest =>
   obtain ⟨rfl, hwc⟩ := hcut
   subst hwc
   clear hlk gA
   generalize hq0 : (sm && decide (op = 20) && decide (c nm = 0)) = q0 at *
   have HQ0 := Ld hq0
   clear hq0
   go_upto_if 32 with (fail)
   go_cut [7] (fun v wd => v = .int .i64 (ndW σ c op nm) ∧ LmS w [Value.int .i64 op, .string nm, .int .i64 N, .int .i64 ty.kind, .string ty.name, .slice a an ac, .slice ma ks.length mc] b X Y Z pm n c G wd)
   case first =>
    cases q0
    ·have HW1 : Hid (ndW σ c op nm = 1) := Ld (by
      have h := HQ0.out
      unfold ndW wgC wgS
      by_cases ho : op = 20
      ·rw [if_pos ho]
       by_cases hc0 : c nm = 0
       ·rw [if_pos hc0]
        cases hs : σ nm with
        | none => rfl
        | some u => rw [HSM.out.symm, hs] at h; simp [ho, hc0] at h
       ·rw [if_neg hc0]
      ·rw [if_neg ho])
     go_wp2_with fail
     go_meet
     case rel => exact ⟨by rw [HW1.out]; rfl, S2.out⟩
    ·have HQ1 : Hid (op = 20 ∧ c nm = 0 ∧ (σ nm).isSome = true) := Ld (by
      have h := HQ0.out
      simp only [Bool.and_eq_true, decide_eq_true_eq] at h
      exact ⟨h.1.2, h.2, by rw [HSM.out]; exact h.1.1⟩)
     obtain ⟨v, hv⟩ := Option.isSome_iff_exists.1 HQ1.out.2.2
     obtain ⟨xa, xn, xc, za, zn, zc, hB8, hty, htm⟩ := HU.out v hv
     have HW1 : Hid (ndW σ c op nm = tmN v) := Ld (by unfold ndW wgC wgS; rw [if_pos HQ1.out.1, if_pos HQ1.out.2.1, hv])
     have HC := Ld (size_any v wc okm _ _ (by have := (HSG.out nm v hv).2.1; omega) hty htm)
     unfold tmVal at HC
     have g8 := hB8.cell
     clear hty htm hB8 hv
     go_wp2_with fail
     refine HC.out.mono ?_
     rintro e w3 ⟨rfl, k3⟩
     have S3 := Ld (S2.out.kept k3)
     clear k3 HC g8
     go_wp2_with fail
     go_meet
     case rel => exact ⟨by rw [HW1.out], S3.out⟩
   case rest =>
    obtain ⟨rfl, hS3⟩ := hcut
    have S3 := Ld hS3
    have HWB : Hid (G + ndW σ c op nm ≤ 1000000000) := Ld (by have := HGF.out; have := HGB.out; omega)
    clear hS3 S2 HU HQ0
    generalize wc = w3 at *
    have gY : ∀ i, w3.cell? ⟨Y, i, none⟩ = [Value.int .i64 G][i]? := S3.out.r.bx.y.cell
    have fY := S3.out.r.bx.y.frozen
    have hgw : Hid (wrap64 ((G : Int) + (ndW σ c op nm : Int)) = ((G + ndW σ c op nm : Nat) : Int)) := Ld (by have := HWB.out; unfold wrap64; omega)
    have S4 := Ld (S3.out.grow LB.out.2 ⟨HNE.out.1, HNE.out.2.2.2.2.1, HNE.out.2.2.2.2.2.1⟩ (G + ndW σ c op nm))
    rw [← hgw.out] at S4
    go_upto_region 6 with (fail)
    generalize w3.setCell ⟨Y, 0, none⟩ (.int .i64 (wrap64 ((G : Int) + (ndW σ c op nm : Int)))) = w4 at *
    clear gY fY hgw S3
    have gA := S4.out.a.cell
    go_wp2_with fail
    go_loopw [44] (fun i wr => ∃ (k n' Gk : Nat), k ≤ ks.length ∧ i = .int .i64 k ∧ LmS w [Value.int .i64 op, .string nm, .int .i64 N, .int .i64 ty.kind, .string ty.name, .slice a an ac, .slice ma ks.length mc] b X Y Z pm n' c Gk wr ∧ Hid (GF = Gk + szRs (binderB op) nm (wgC σ c) k (ks.drop k)) ∧ Hid (n' + 2 * tmNs (ks.drop k) + (if k ≤ 1 then 2 else 0) ≤ n + 2 * tmN (.mk op nm N ty ks))) (fun i _ => ks.length - (intOf i).toNat)
    case atStart => exact ⟨0, n, _, Nat.zero_le _, rfl, S4.out, HGF, Ld (by have := HN0.out; simpa using this)⟩
    case round =>
     obtain ⟨k, n', Gk, hkl, rfl, hS, hq, hn'⟩ := hrel
     have S := Ld hS
     clear hS S4 gA
     by_cases hlt : k < ks.length
     ·have i1 : (k : Int) < (ks.length : Int) := by omega
      have i2 : (k : Int) < 1000000 := by have := HKN.out; omega
      obtain ⟨q1, o1, ta, tn, tc, pa, pn, pc, rfl, hq1, lq, hC, hkt, hkm⟩ := HAT.out wr S.out.r.kp k hlt
      have HD := Ld (szRs_drop (bi := binderB op) (nm := nm) (ρ := wgC σ c) hlt)
      obtain ⟨c0, c1, c2, c3, c4, c5, c6⟩ := hC
      have KR : Kept (fun _ => False) wr (wr.alloc (.cells #[.int .i64 ks[k].op, .string ks[k].name, .int .i64 ks[k].n, .int .i64 ks[k].ty.kind, .string ks[k].ty.name, .slice ta tn tc, .slice pa pn pc] 28)) := (Kept.refl _ _).alloc _
      have S3 := Ld (S.out.kept KR)
      have bK := Ld (Blk.new wr 28 [.int .i64 ks[k].op, .string ks[k].name, .int .i64 ks[k].n, .int .i64 ks[k].ty.kind, .string ks[k].ty.name, .slice ta tn tc, .slice pa pn pc])
      change Hid (Blk (wr.alloc (.cells #[.int .i64 ks[k].op, .string ks[k].name, .int .i64 ks[k].n, .int .i64 ks[k].ty.kind, .string ks[k].ty.name, .slice ta tn tc, .slice pa pn pc] 28)) _ _ _) at bK
      have HKT := Ld (fun W (kw : Kept (fun q => q = b ∨ q = Y) wr W) => hkt.frame (Same.of_kept kw (fun q hq e => by rcases e with e | e; exact (HOK.out q hq).1 e; exact (HOK.out q hq).2 e)))
      have HKM := Ld (fun W (kw : Kept (fun q => q = b ∨ q = Y) wr W) => hkm.frame (Same.of_kept kw (fun q hq e => by rcases e with e | e; exact (HOK.out q hq).1 e; exact (HOK.out q hq).2 e)))
      have KR2 : Hid (Kept (fun q => q = b ∨ q = Y) wr (wr.alloc (.cells #[.int .i64 ks[k].op, .string ks[k].name, .int .i64 ks[k].n, .int .i64 ks[k].ty.kind, .string ks[k].ty.name, .slice ta tn tc, .slice pa pn pc] 28))) := Ld (KR.mono (fun _ _ e => e.elim))
      have LBR : Hid (b < wr.heap.size) := Ld (by have := LB.out.1; have := S.out.r.kp.size; omega)
      have HPMR := Ld (fun W (kw : Kept (fun q => q = b ∨ q = Y) wr W) => HPM.out W (S.out.r.kp.trans kw))
      have HK1 := Ld (fun W ck gk (kw : Kept (fun q => q = b ∨ q = Y) wr W) nk hb hx hn hc hG => HIH.out _ (List.getElem_mem hlt) σ ck gk W ok okm _ _ b nk pm np X Y Z (HKT.out W kw) (HKM.out W kw) (HPMR.out W kw) HSG.out hb hx HOK.out HOKM.out HNE.out hn hc hG)
      unfold tmVal at HK1
      have HDM : Hid (tmD ks[k] ≤ tmDs ks ∧ tmNs (ks.drop k) = tmN ks[k] + tmNs (ks.drop (k + 1)) ∧ 1 ≤ tmN ks[k]) := Ld ⟨kid_dn (List.getElem_mem hlt), by rw [List.drop_eq_getElem_cons hlt, tmNs], by cases ks[k] with | mk => rw [tmN]; omega⟩
      clear hkt hkm KR
      generalize ks[k] = u at *
      go_upto_region 9 with (fail)
      clear c0 c1 c2 c3 c4 c5 c6
      generalize wr.alloc (.cells #[.int .i64 u.op, .string u.name, .int .i64 u.n, .int .i64 u.ty.kind, .string u.ty.name, .slice ta tn tc, .slice pa pn pc] 28) = w3 at *
      have gA := S3.out.a.cell
      have HI : Hid ((binderB op && k == 1) = true → GF = (Gk + szR (wgC σ (fun t => if t = nm then c nm + 1 else c t)) u) + szRs (binderB op) nm (wgC σ c) (k + 1) (ks.drop (k + 1))) := Ld (fun hin => by
       rw [hq.out, HD.out, hin, wgC_up]; simp only [if_true]; omega)
      have HJ : Hid ((binderB op && k == 1) = false → GF = (Gk + szR (wgC σ c) u) + szRs (binderB op) nm (wgC σ c) (k + 1) (ks.drop (k + 1))) := Ld (fun hin => by
       rw [hq.out, HD.out, hin]; simp only [Bool.false_eq_true, if_false]; omega)
      clear hq HD
      go_cut [12] (fun v wc => v = .bool (binderB op && k == 1) ∧ wc = w3)
      case first =>
       by_cases hk1 : k = 1
       ·have hk2 : ((k : Int) == 1) = true := by simp; omega
        have hk3 : (k == 1) = true := by simp [hk1]
        clear hk1
        go_wp2_with fail
        refine (binder_any op _).mono ?_
        rintro e w3' ⟨rfl, rfl⟩
        cases hbo : binderB op
        all_goals
         go_wp2_with fail
         go_meet
         case rel => exact ⟨by rw [hk3, hbo]; rfl, rfl⟩
       ·have hk2 : ((k : Int) == 1) = false := by simp; omega
        have hk3 : (k == 1) = false := by simp [hk1]
        clear hk1
        go_wp2_with fail
        refine (binder_any op _).mono ?_
        rintro e w3' ⟨rfl, rfl⟩
        cases hbo : binderB op
        all_goals
         go_wp2_with fail
         go_meet
         case rel => exact ⟨by rw [hk3, hbo]; rfl, rfl⟩
      case rest =>
       obtain ⟨rfl, rfl⟩ := hcut
       have HNM : Hid (n' + 2 * tmN u + (if k ≤ 1 then 2 else 0) ≤ 1000000 ∧ (n' + 2 * tmN u + 2 * tmNs (ks.drop (k + 1)) + (if k ≤ 1 then 2 else 0) ≤ n + 2 * tmN (.mk op nm N ty ks))) := Ld (by
        have h1 := hn'.out; have h3 := HDM.out.2.1; have h4 := HNB.out
        rw [h3] at h1
        omega)
       clear hn'
       have gZ : ∀ i, wc.cell? ⟨Z, i, none⟩ = [Value.func (.func 127) #[] #[.pointer (some ⟨X, 0, none⟩), .pointer (some ⟨Y, 0, none⟩), .pointer (some ⟨Z, 0, none⟩)]][i]? := S3.out.r.bx.z.cell
       cases hin : (binderB op && k == 1)
       ·have HJ2 := Ld (HJ.out hin)
        clear HI HJ hin
        have HC := Ld (HK1.out wc c Gk KR2.out n' S3.out.r.bo S3.out.r.bx (by have := HNM.out.1; omega) (fun s => by have := HCB.out s; have := HDM.out.1; omega) (by have := HJ2.out; have := HGB.out; omega))
        have gK := bK.out.cell
        clear gA
        go_wp2_with fail
        clear gK gZ
        refine HC.out.mono ?_
        rintro e w5 ⟨rfl, hR5⟩
        have S5 := Ld (S3.out.step LB.out hR5)
        clear hR5 HC S3 S bK HK1 KR2
        go_wp2_with fail
        go_roundw
        case rel => exact ⟨k + 1, _, _, by omega, by go_num, S5.out, HJ2, Ld (by have := HNM.out.2; split <;> split at this <;> omega)⟩
        case measure => simp [intOf]; omega
       ·have HI2 := Ld (HI.out hin)
        have hk1 : k = 1 := by
         rw [Bool.and_eq_true] at hin
         simpa using hin.2
        clear HI HJ hin
        obtain ⟨f3, hb3, hf3⟩ := S3.out.r.bo
        have HF3 := Ld hf3
        have HNX : Hid (n' + 2 + 2 * tmN u + 2 * tmNs (ks.drop (k + 1)) ≤ n + 2 * tmN (.mk op nm N ty ks) ∧ n' + 2 + 2 * tmN u ≤ 1000000) := Ld (by have h1 := HNM.out.2; have h2 := HNM.out.1; rw [if_pos (by omega)] at h1 h2; omega)
        have HK1E := Ld hk1
        clear hk1
        have hlk := hb3.look Tryz.underlying95 (z3 _) HNZ.out
        rw [hf3 nm] at hlk
        have HW1 : Hid (wrap64 ((c nm : Int) + 1) = ((c nm + 1 : Nat) : Int)) := Ld (by have := HCB.out nm; unfold wrap64; omega)
        have HB3 := Ld hb3
        have HLX : Hid (n' < maxLen ∧ n' + 1 + 2 * tmN u < maxLen) := Ld (by have := HNX.out.2; unfold maxLen; omega)
        clear hf3 hb3 gZ
        go_upto_region 12 with (at_mapUpdate; refine wpList_storeF rfl _ _ _ _ 3 rfl Tryz.underlying95 rfl HB3.out nm rfl HNZ.out HLX.out.1 (.int .i64 (wrap64 ((c nm : Int) + 1))) rfl ?_; intro w4 hm4 k4)
        rw [HW1.out] at hm4
        have S4 := Ld (S3.out.cnt LB.out.1 ⟨HNE.out.1, HNE.out.2.1, HNE.out.2.2.1⟩ hm4 (HF3.out.upd nm (c nm + 1)) k4)
        have bK4 := Ld (bK.out.kept k4 (fun e => by have := LBR.out; omega))
        have HC := Ld (HK1.out w4 (fun t => if t = nm then c nm + 1 else c t) Gk (KR2.out.trans (k4.mono (fun _ _ e => Or.inl e))) (n' + 1) S4.out.r.bo S4.out.r.bx (by have := HNX.out.2; omega) (fun s => by have h1 := HCB.out s; have h2 := HCB.out nm; have := HDM.out.1; show (if s = nm then c nm + 1 else c s) + _ ≤ _; split <;> omega) (by have := HI2.out; have := HGB.out; omega))
        have gK := bK4.out.cell
        have gZ : ∀ i, w4.cell? ⟨Z, i, none⟩ = [Value.func (.func 127) #[] #[.pointer (some ⟨X, 0, none⟩), .pointer (some ⟨Y, 0, none⟩), .pointer (some ⟨Z, 0, none⟩)]][i]? := S4.out.r.bx.z.cell
        clear hm4 k4 hlk HW1 HB3 HF3 S3 gA bK
        go_wp2_with fail
        clear gK gZ
        refine HC.out.mono ?_
        rintro e w5 ⟨rfl, hR5⟩
        have S5 := Ld (S4.out.step LB.out hR5)
        clear hR5 HC S4 S bK4 HK1 KR2
        obtain ⟨f5, hb5, hf5⟩ := S5.out.r.bo
        have HF5 := Ld hf5
        have hlk := hb5.look Tryz.underlying95 (z3 _) HNZ.out
        rw [hf5 nm] at hlk
        simp only [if_true] at hlk
        have HW1 : Hid (wrap64 (c nm : Int) = (c nm : Int)) := Ld (by have := HCB.out nm; unfold wrap64; omega)
        have HB5 := Ld hb5
        have gA := S5.out.a.cell
        clear hf5 hb5
        go_wp2_with (at_mapUpdate; refine wpList_storeF rfl _ _ _ _ 3 rfl Tryz.underlying95 rfl HB5.out nm rfl HNZ.out HLX.out.2 (.int .i64 (wrap64 (c nm : Int))) rfl ?_; intro w6 hm6 k6; clear gA hlk)
        rw [HW1.out] at hm6
        have S6 := Ld (S5.out.cnt LB.out.1 ⟨HNE.out.1, HNE.out.2.1, HNE.out.2.2.1⟩ hm6 (HF5.out.upd nm (c nm)) k6)
        have HCE : Hid ((fun t => if t = nm then c nm else if t = nm then c nm + 1 else c t) = c) := Ld (by funext t; by_cases ht : t = nm <;> simp [ht])
        rw [HCE.out] at S6
        clear hm6 k6 HW1 HB5 HF5 S5
        go_wp2_with fail
        go_roundw
        case rel => exact ⟨k + 1, _, _, by omega, by go_num, S6.out, HI2, Ld (by have := HNX.out.1; have := HK1E.out; rw [if_neg (by omega)]; omega)⟩
        case measure => simp [intOf]; omega
     ·have hkk : k = ks.length := by omega
      subst hkk
      have HEQ : Hid (GF = Gk) := Ld (by rw [hq.out, List.drop_length]; simp [szRs])
      have gA := S.out.a.cell
      go_wp2_with fail
      go_end0
      refine ⟨rfl, S.out.r.kp, ?_, ?_⟩
      ·obtain ⟨f, hb1, hb2⟩ := S.out.r.bo
       exact ⟨f, hb1.mono (by have := hn'.out; omega), hb2⟩
      ·rw [HEQ.out]; exact S.out.r.bx
theorem lim_any {t : Tm} (h : OkTm t) : LmC t := by
 induction h with
 | mk hf hn hl ih =>
  rename_i op nm N ty ks
  refine lim_one ih (by omega) (fun h => ?_) (by have := (formed_sm hf).1; unfold maxLen; omega)
  subst h
  have h1 := (OkTm.mk hf hn hl).nw
  cases h1 with
  | mk h2 _ => exact (h2 rfl).2.2
def EqyC (f : FuncId) (t : Ty) : Prop := ∀ (t' : Ty) (w : World) (ok ok' : Nat → Prop) (tk tk' : Value), TyL ok w t.kids tk → TyL ok' w t'.kids tk' →
 Calls Tryz.prog f #[tyVal t tk, tyVal t' tk'] w fun e w' => e = .returned (.bool (tyEq t t')) ∧ Kept (fun _ => False) w w'
theorem tysEq_len : ∀ (l l' : List Ty), l.length ≠ l'.length → tysEq l l' = false
 | [], [], h => absurd rfl h
 | [], _ :: _, _ => rfl
 | _ :: _, [], _ => rfl
 | a :: l, b :: l', h => by rw [tysEq, tysEq_len l l' (by simpa using h), Bool.and_false]
theorem tysEq_drop {l l' : List Ty} {k : Nat} (h : k < l.length) (h' : k < l'.length) : tysEq (l.drop k) (l'.drop k) = (tyEq l[k] l'[k] && tysEq (l.drop (k + 1)) (l'.drop (k + 1))) := by
 rw [List.drop_eq_getElem_cons h, List.drop_eq_getElem_cons h', tysEq]
theorem tysEq_end {l l' : List Ty} {k : Nat} (h : l.length ≤ k) (h' : l'.length ≤ k) : tysEq (l.drop k) (l'.drop k) = true := by
 rw [List.drop_eq_nil_of_le h, List.drop_eq_nil_of_le h']; rfl
theorem rsame_one {kd : Int} {nm : ByteArray} {l : List Ty} (IH : ∀ u, u ∈ l → EqyC 51 u) (hn : l.length ≤ 1000000) : EqyC 51 (.mk kd nm l) := by
 rintro ⟨kd', nm', l'⟩ w ok ok' tk tk' h h'
 have h : TyL ok w l tk := h
 have h' : TyL ok' w l' tk' := h'
 obtain ⟨a, n, c, rfl⟩ := h.slice
 obtain ⟨a', n', c', rfl⟩ := h'.slice
 obtain rfl : n = l.length := h.len
 obtain rfl : n' = l'.length := h'.len
 have HIH := Ld IH
 have HAT := Ld (fun W (k : Kept (fun _ => False) w W) => (h.frame (sK k)).at)
 have HAT' := Ld (fun W (k : Kept (fun _ => False) w W) => (h'.frame (sK k)).at)
 clear h h' IH
 change Calls Tryz.prog 51 #[.agg #[.int .i64 kd, .string nm, .slice a l.length c], .agg #[.int .i64 kd', .string nm', .slice a' l'.length c']] w _
 have bA : Blk ((w.alloc (.cells #[.int .i64 kd, .string nm, .slice a l.length c] 26)).alloc (.cells #[.int .i64 kd', .string nm', .slice a' l'.length c'] 26)) w.heap.size 26 [.int .i64 kd, .string nm, .slice a l.length c] := (Blk.new w 26 _).alloc _
 have bB : Blk ((w.alloc (.cells #[.int .i64 kd, .string nm, .slice a l.length c] 26)).alloc (.cells #[.int .i64 kd', .string nm', .slice a' l'.length c'] 26)) (w.heap.size + 1) 26 [.int .i64 kd', .string nm', .slice a' l'.length c'] := Blk.new' 26 _ (by simp)
 have K1 : Kept (fun _ => False) w ((w.alloc (.cells #[.int .i64 kd, .string nm, .slice a l.length c] 26)).alloc (.cells #[.int .i64 kd', .string nm', .slice a' l'.length c'] 26)) := ((Kept.refl _ _).alloc _).alloc _
 have HD := Ld (show tyEq (.mk kd nm l) (.mk kd' nm' l') = (decide (kd = kd') && decide (nm = nm') && tysEq l l') from rfl)
 by_cases e1 : kd = kd'
 case neg =>
  have t1 : (kd == kd') = false := by simpa using e1
  have t2 : (kd != kd') = true := by simpa using e1
  have HR : Hid (tyEq (.mk kd nm l) (.mk kd' nm' l') = false) := Ld (by rw [HD.out]; simp [e1])
  clear e1
  go_enter Tryz.func51, Tryz.ntmps51
  go_wp2_with fail
  go_ret
  exact ⟨by rw [HR.out]; rfl, K1⟩
 subst e1
 cases e2 : (nm.toList == nm'.toList)
 case false =>
  have t2 : (nm.toList != nm'.toList) = true := by rw [bne, e2]; rfl
  have HR : Hid (tyEq (.mk kd nm l) (.mk kd nm' l') = false) := Ld (by rw [HD.out, ← nm_eq, e2]; simp)
  go_enter Tryz.func51, Tryz.ntmps51
  go_wp2_with fail
  go_ret
  exact ⟨by rw [HR.out]; rfl, K1⟩
 have t2 : (nm.toList != nm'.toList) = false := by rw [bne, e2]; rfl
 have HD2 : Hid (tyEq (.mk kd nm l) (.mk kd nm' l') = tysEq l l') := Ld (by rw [HD.out, ← nm_eq, e2]; simp)
 clear HD
 by_cases e3 : l.length = l'.length
 case neg =>
  have t3 : ((l.length : Int) != (l'.length : Int)) = true := by simp; omega
  have t4 : ((l.length : Int) == (l'.length : Int)) = false := by simp; omega
  have HR : Hid (tyEq (.mk kd nm l) (.mk kd nm' l') = false) := Ld (by rw [HD2.out, tysEq_len _ _ e3])
  clear e3
  go_enter Tryz.func51, Tryz.ntmps51
  go_wp2_with fail
  go_ret
  exact ⟨by rw [HR.out]; rfl, K1⟩
 have E3 := Ld e3
 rw [← e3] at bA bB K1 ⊢
 clear e3
 go_enter Tryz.func51, Tryz.ntmps51
 go_wp2_with fail
 generalize ((w.alloc (.cells #[.int .i64 kd, .string nm, .slice a l.length c] 26)).alloc (.cells #[.int .i64 kd, .string nm', .slice a' l.length c'] 26)) = w1 at *
 go_loopw [5] (fun i wr => ∃ j : Nat, j ≤ l.length ∧ i = .int .i64 j ∧ Kept (fun _ => False) w1 wr ∧ Hid (tysEq l l' = tysEq (l.drop j) (l'.drop j))) (fun i _ => l.length - (intOf i).toNat)
 case atStart => exact ⟨0, Nat.zero_le _, rfl, Kept.refl _ _, Ld rfl⟩
 case round =>
  obtain ⟨j, hj, rfl, kr, hq⟩ := hrel
  have g2 : wr.cell? ⟨w.heap.size, 2, none⟩ = some (.slice a l.length c) := (bA.kept kr (fun h => h)).cell 2
  have g2' : wr.cell? ⟨w.heap.size + 1, 2, none⟩ = some (.slice a' l.length c') := (bB.kept kr (fun h => h)).cell 2
  by_cases hlt : j < l.length
  ·have KR := K1.trans kr
   have hlt' : j < l'.length := by rw [← E3.out]; exact hlt
   obtain ⟨g, off, ta, tn, tc, rfl, _, lg, ⟨c0, c1, c2⟩, hty⟩ := HAT.out wr KR j hlt
   obtain ⟨g', off', ta', tn', tc', rfl, _, lg', ⟨d0, d1, d2⟩, hty'⟩ := HAT'.out wr KR j hlt'
   have hcon := Ld (fun (W : World) (kW : Kept (fun _ => False) wr W) => HIH.out _ (List.getElem_mem hlt) l'[j] W ok ok' _ _ (hty.frame (Same.of_kept kW (fun k h e => e))) (hty'.frame (Same.of_kept kW (fun k h e => e))))
   unfold tyVal at hcon
   have HS := Ld (tysEq_drop hlt hlt')
   clear hty hty'
   have hj2 : (j : Int) < (l.length : Int) := by omega
   have hj3 : (j : Int) < 1000000 := by omega
   go_wp2_with fail
   go_still_tail 10, (by kernel_rfl)
   change wpList _ _ _ _ _ wr.drew
   have kd : Kept (fun _ => False) wr wr.drew := (Kept.refl _ _).drew
   generalize wr.drew = w2 at *
   cases hr : tyEq l[j] l'[j]
   ·rw [hr] at hcon
    go_wp2_with (go_at_call 51; refine (hcon.out _ kd).mono ?_; rintro e w' ⟨rfl, k2⟩)
    go_ret
    exact ⟨by rw [HD2.out, hq.out, HS.out, hr]; rfl, K1.trans (kr.trans (kd.trans k2))⟩
   ·rw [hr] at hcon
    go_wp2_with (go_at_call 51; refine (hcon.out _ kd).mono ?_; rintro e w' ⟨rfl, k2⟩)
    go_roundw
    case rel => exact ⟨j + 1, by omega, by go_num, kr.trans (kd.trans k2), Ld (by rw [hq.out, HS.out, hr]; rfl)⟩
    case measure => simp [intOf]; omega
  ·have HZ : Hid (tysEq l l' = true) := Ld (by rw [hq.out, tysEq_end (by omega) (by rw [← E3.out]; omega)])
   go_wp2_with fail
   go_ret
   exact ⟨by rw [HD2.out, HZ.out]; rfl, K1.trans kr⟩
theorem rsameTy_any {t : Ty} (hb : BdTy t) : EqyC 51 t := by
 induction hb with
 | mk hn hl ih => exact rsame_one ih hn
theorem eqf_any {l l' : List Ty} {w : World} {ok ok' : Nat → Prop} {tk tk' : Value} (IH : ∀ u, u ∈ l → EqyC 110 u) (hn : l.length ≤ 1000000) (h : TyL ok w l tk) (h' : TyL ok' w l' tk') :
  Calls Tryz.prog 176 #[tk, tk', .func (.func 110) #[] #[]] w fun e w' => e = .returned (.bool (tysEq l l')) ∧ Kept (fun _ => False) w w' := by
 obtain ⟨a, n, c, rfl⟩ := h.slice
 obtain ⟨a', n', c', rfl⟩ := h'.slice
 obtain rfl : n = l.length := h.len
 obtain rfl : n' = l'.length := h'.len
 have HIH := Ld IH
 have HAT := Ld (fun W (k : Kept (fun _ => False) w W) => (h.frame (sK k)).at)
 have HAT' := Ld (fun W (k : Kept (fun _ => False) w W) => (h'.frame (sK k)).at)
 clear h h' IH
 by_cases e3 : l.length = l'.length
 case neg =>
  have t3 : ((l.length : Int) != (l'.length : Int)) = true := by simp; omega
  have t4 : ((l.length : Int) == (l'.length : Int)) = false := by simp; omega
  have HR : Hid (tysEq l l' = false) := Ld (by rw [tysEq_len _ _ e3])
  clear e3
  go_enter Tryz.func176, Tryz.ntmps176
  go_wp2_with fail
  go_ret
  exact ⟨by rw [HR.out]; rfl, Kept.refl _ _⟩
 have E3 := Ld e3
 rw [← e3]
 clear e3
 go_enter Tryz.func176, Tryz.ntmps176
 go_wp2_with fail
 go_loopw [17] (fun i wr => ∃ j : Nat, j ≤ l.length ∧ i = .int .i64 j ∧ Kept (fun _ => False) w wr ∧ Hid (tysEq l l' = tysEq (l.drop j) (l'.drop j))) (fun i _ => l.length - (intOf i).toNat)
 case atStart => exact ⟨0, Nat.zero_le _, rfl, Kept.refl _ _, Ld rfl⟩
 case round =>
  obtain ⟨j, hj, rfl, kr, hq⟩ := hrel
  by_cases hlt : j < l.length
  ·have hlt' : j < l'.length := by rw [← E3.out]; exact hlt
   obtain ⟨g, off, ta, tn, tc, rfl, _, lg, ⟨c0, c1, c2⟩, hty⟩ := HAT.out wr kr j hlt
   obtain ⟨g', off', ta', tn', tc', rfl, _, lg', ⟨d0, d1, d2⟩, hty'⟩ := HAT'.out wr kr j hlt'
   have hcon := Ld (fun (W : World) (kW : Kept (fun _ => False) wr W) => HIH.out _ (List.getElem_mem hlt) l'[j] W ok ok' _ _ (hty.frame (Same.of_kept kW (fun k h e => e))) (hty'.frame (Same.of_kept kW (fun k h e => e))))
   unfold tyVal at hcon
   have HS := Ld (tysEq_drop hlt hlt')
   clear hty hty'
   have hj2 : (j : Int) < (l.length : Int) := by omega
   have hj3 : (j : Int) < 1000000 := by omega
   have kA : Kept (fun _ => False) wr ((wr.alloc (.cells #[.int .i64 l[j].kind, .string l[j].name, .slice ta tn tc] 26)).alloc (.cells #[.int .i64 l'[j].kind, .string l'[j].name, .slice ta' tn' tc'] 26)) := ((Kept.refl _ _).alloc _).alloc _
   cases hr : tyEq l[j] l'[j]
   ·rw [hr] at hcon
    go_wp2_with (go_at_call 110; refine (hcon.out _ kA).mono ?_; rintro e w' ⟨rfl, k2⟩)
    go_ret
    exact ⟨by rw [hq.out, HS.out, hr]; rfl, kr.trans (kA.trans k2)⟩
   ·rw [hr] at hcon
    go_wp2_with (go_at_call 110; refine (hcon.out _ kA).mono ?_; rintro e w' ⟨rfl, k2⟩)
    go_roundw
    case rel => exact ⟨j + 1, by omega, by go_num, kr.trans (kA.trans k2), Ld (by rw [hq.out, HS.out, hr]; rfl)⟩
    case measure => simp [intOf]; omega
  ·have HZ : Hid (tysEq l l' = true) := Ld (by rw [hq.out, tysEq_end (by omega) (by rw [← E3.out]; omega)])
   go_wp2_with fail
   go_ret
   exact ⟨by rw [HZ.out]; rfl, kr⟩
theorem same_one1 {kd : Int} {nm : ByteArray} {l : List Ty} (IH : ∀ u, u ∈ l → EqyC 110 u) (hn : l.length ≤ 1000000) : EqyC 110 (.mk kd nm l) := by
 rintro ⟨kd', nm', l'⟩ w ok ok' tk tk' h h'
 have h : TyL ok w l tk := h
 have h' : TyL ok' w l' tk' := h'
 obtain ⟨a, n, c, rfl⟩ := h.slice
 obtain ⟨a', n', c', rfl⟩ := h'.slice
 have bA : Blk ((w.alloc (.cells #[.int .i64 kd, .string nm, .slice a n c] 26)).alloc (.cells #[.int .i64 kd', .string nm', .slice a' n' c'] 26)) w.heap.size 26 [.int .i64 kd, .string nm, .slice a n c] := (Blk.new w 26 _).alloc _
 have bB : Blk ((w.alloc (.cells #[.int .i64 kd, .string nm, .slice a n c] 26)).alloc (.cells #[.int .i64 kd', .string nm', .slice a' n' c'] 26)) (w.heap.size + 1) 26 [.int .i64 kd', .string nm', .slice a' n' c'] := Blk.new' 26 _ (by simp)
 have K1 : Kept (fun _ => False) w ((w.alloc (.cells #[.int .i64 kd, .string nm, .slice a n c] 26)).alloc (.cells #[.int .i64 kd', .string nm', .slice a' n' c'] 26)) := ((Kept.refl _ _).alloc _).alloc _
 have HQ := Ld (eqf_any IH hn (h.frame (sK K1)) (h'.frame (sK K1)))
 clear h h' IH
 change Calls Tryz.prog 110 #[.agg #[.int .i64 kd, .string nm, .slice a n c], .agg #[.int .i64 kd', .string nm', .slice a' n' c']] w _
 have HD := Ld (show tyEq (.mk kd nm l) (.mk kd' nm' l') = (decide (kd = kd') && decide (nm = nm') && tysEq l l') from rfl)
 by_cases e1 : kd = kd'
 case neg =>
  have t1 : (kd == kd') = false := by simpa using e1
  have t2 : (kd != kd') = true := by simpa using e1
  have HR : Hid (tyEq (.mk kd nm l) (.mk kd' nm' l') = false) := Ld (by rw [HD.out]; simp [e1])
  clear e1 HQ
  go_enter Tryz.func110, Tryz.ntmps110
  go_wp2_with fail
  go_ret
  exact ⟨by rw [HR.out]; rfl, K1⟩
 subst e1
 cases e2 : (nm.toList == nm'.toList)
 case false =>
  have t2 : (nm.toList != nm'.toList) = true := by rw [bne, e2]; rfl
  have HR : Hid (tyEq (.mk kd nm l) (.mk kd nm' l') = false) := Ld (by rw [HD.out, ← nm_eq, e2]; simp)
  clear HQ
  go_enter Tryz.func110, Tryz.ntmps110
  go_wp2_with fail
  go_ret
  exact ⟨by rw [HR.out]; rfl, K1⟩
 have t2 : (nm.toList != nm'.toList) = false := by rw [bne, e2]; rfl
 have HD2 : Hid (tyEq (.mk kd nm l) (.mk kd nm' l') = tysEq l l') := Ld (by rw [HD.out, ← nm_eq, e2]; simp)
 clear HD
 go_enter Tryz.func110, Tryz.ntmps110
 go_wp2_with (go_at_call 176; refine HQ.out.mono ?_; rintro e w' ⟨rfl, k2⟩)
 go_ret
 exact ⟨by rw [HD2.out]; rfl, K1.trans k2⟩
theorem sameType_any {t : Ty} (hb : BdTy t) : EqyC 110 t := by
 induction hb with
 | mk hn hl ih => exact same_one1 ih hn
def EqmC (t : Tm) : Prop := ∀ (t' : Tm) (w : World) (ok ok' : Nat → Prop) (tk kk tk' kk' : Value), TyL ok w t.ty.kids tk → TmL ok w t.kids kk → TyL ok' w t'.ty.kids tk' → TmL ok' w t'.kids kk' →
 Calls Tryz.prog 20 #[tmVal t tk kk, tmVal t' tk' kk'] w fun e w' => e = .returned (.bool (tmEq t t')) ∧ Kept (fun _ => False) w w'
theorem tmsEq_len : ∀ (l l' : List Tm), l.length ≠ l'.length → tmsEq l l' = false
 | [], [], h => absurd rfl h
 | [], _ :: _, _ => rfl
 | _ :: _, [], _ => rfl
 | a :: l, b :: l', h => by rw [tmsEq, tmsEq_len l l' (by simpa using h), Bool.and_false]
theorem tmsEq_drop {l l' : List Tm} {k : Nat} (h : k < l.length) (h' : k < l'.length) : tmsEq (l.drop k) (l'.drop k) = (tmEq l[k] l'[k] && tmsEq (l.drop (k + 1)) (l'.drop (k + 1))) := by
 rw [List.drop_eq_getElem_cons h, List.drop_eq_getElem_cons h', tmsEq]
theorem tmsEq_end {l l' : List Tm} {k : Nat} (h : l.length ≤ k) (h' : l'.length ≤ k) : tmsEq (l.drop k) (l'.drop k) = true := by
 rw [List.drop_eq_nil_of_le h, List.drop_eq_nil_of_le h']; rfl
theorem rsames_any {l l' : List Tm} {w : World} {ok ok' : Nat → Prop} {v v' : Value} (IH : ∀ u, u ∈ l → EqmC u) (hn : l.length ≤ 1000000) (h : TmL ok w l v) (h' : TmL ok' w l' v') :
  Calls Tryz.prog 22 #[v, v'] w fun e w' => e = .returned (.bool (tmsEq l l')) ∧ Kept (fun _ => False) w w' := by
 obtain ⟨a, n, c, rfl⟩ := h.slice
 obtain ⟨a', n', c', rfl⟩ := h'.slice
 obtain rfl : n = l.length := h.len
 obtain rfl : n' = l'.length := h'.len
 have HIH := Ld IH
 have HAT := Ld (fun W (k : Kept (fun _ => False) w W) => (h.frame (sK k)).at)
 have HAT' := Ld (fun W (k : Kept (fun _ => False) w W) => (h'.frame (sK k)).at)
 clear h h' IH
 by_cases e3 : l.length = l'.length
 case neg =>
  have t3 : ((l.length : Int) != (l'.length : Int)) = true := by simp; omega
  have t4 : ((l.length : Int) == (l'.length : Int)) = false := by simp; omega
  have HR : Hid (tmsEq l l' = false) := Ld (by rw [tmsEq_len _ _ e3])
  clear e3
  go_enter Tryz.func22, Tryz.ntmps22
  go_wp2_with fail
  go_ret
  exact ⟨by rw [HR.out]; rfl, Kept.refl _ _⟩
 have E3 := Ld e3
 rw [← e3]
 clear e3
 go_enter Tryz.func22, Tryz.ntmps22
 go_wp2_with fail
 go_loopw [5] (fun i wr => ∃ j : Nat, j ≤ l.length ∧ i = .int .i64 j ∧ Kept (fun _ => False) w wr ∧ Hid (tmsEq l l' = tmsEq (l.drop j) (l'.drop j))) (fun i _ => l.length - (intOf i).toNat)
 case atStart => exact ⟨0, Nat.zero_le _, rfl, Kept.refl _ _, Ld rfl⟩
 case round =>
  obtain ⟨j, hj, rfl, kr, hq⟩ := hrel
  by_cases hlt : j < l.length
  ·have hlt' : j < l'.length := by rw [← E3.out]; exact hlt
   obtain ⟨g, off, ta, tn, tc, ma, mn, mc, rfl, _, lg, ⟨c0, c1, c2, c3, c4, c5, c6⟩, hty, htm⟩ := HAT.out wr kr j hlt
   obtain ⟨g', off', ta', tn', tc', ma', mn', mc', rfl, _, lg', ⟨d0, d1, d2, d3, d4, d5, d6⟩, hty', htm'⟩ := HAT'.out wr kr j hlt'
   have hcon := Ld (fun (W : World) (kW : Kept (fun _ => False) wr W) => HIH.out _ (List.getElem_mem hlt) l'[j] W ok ok' _ _ _ _ (hty.frame (Same.of_kept kW (fun k h e => e))) (htm.frame (Same.of_kept kW (fun k h e => e))) (hty'.frame (Same.of_kept kW (fun k h e => e))) (htm'.frame (Same.of_kept kW (fun k h e => e))))
   unfold tmVal at hcon
   have HS := Ld (tmsEq_drop hlt hlt')
   clear hty hty' htm htm'
   have hj2 : (j : Int) < (l.length : Int) := by omega
   have hj3 : (j : Int) < 1000000 := by omega
   go_wp2_with fail
   go_still_tail 8, (by kernel_rfl)
   change wpList _ _ _ _ _ wr.drew
   have kd : Kept (fun _ => False) wr wr.drew := (Kept.refl _ _).drew
   generalize wr.drew = w2 at *
   cases hr : tmEq l[j] l'[j]
   ·rw [hr] at hcon
    go_wp2_with (go_at_call 20; refine (hcon.out _ kd).mono ?_; rintro e w' ⟨rfl, k2⟩)
    go_ret
    exact ⟨by rw [hq.out, HS.out, hr]; rfl, kr.trans (kd.trans k2)⟩
   ·rw [hr] at hcon
    go_wp2_with (go_at_call 20; refine (hcon.out _ kd).mono ?_; rintro e w' ⟨rfl, k2⟩)
    go_roundw
    case rel => exact ⟨j + 1, by omega, by go_num, kr.trans (kd.trans k2), Ld (by rw [hq.out, HS.out, hr]; rfl)⟩
    case measure => simp [intOf]; omega
  ·have HZ : Hid (tmsEq l l' = true) := Ld (by rw [hq.out, tmsEq_end (by omega) (by rw [← E3.out]; omega)])
   go_wp2_with fail
   go_ret
   exact ⟨by rw [HZ.out]; rfl, kr⟩
theorem rsameTm_one {op : Int} {nm : ByteArray} {N : Int} {ty : Ty} {l : List Tm} (hty : BdTy ty) (IH : ∀ u, u ∈ l → EqmC u) (hn : l.length ≤ 1000000) : EqmC (.mk op nm N ty l) := by
 rintro ⟨op', nm', N', ty', l'⟩ w ok ok' tk kk tk' kk' h1 h2 h3 h4
 have h1 : TyL ok w ty.kids tk := h1
 have h2 : TmL ok w l kk := h2
 have h3 : TyL ok' w ty'.kids tk' := h3
 have h4 : TmL ok' w l' kk' := h4
 obtain ⟨a, n, c, rfl⟩ := h1.slice
 obtain ⟨ma, mn, mc, rfl⟩ := h2.slice
 obtain ⟨a', n', c', rfl⟩ := h3.slice
 obtain ⟨ma', mn', mc', rfl⟩ := h4.slice
 change Calls Tryz.prog 20 #[.agg #[.int .i64 op, .string nm, .int .i64 N, .int .i64 ty.kind, .string ty.name, .slice a n c, .slice ma mn mc], .agg #[.int .i64 op', .string nm', .int .i64 N', .int .i64 ty'.kind, .string ty'.name, .slice a' n' c', .slice ma' mn' mc']] w _
 have bA : Blk ((w.alloc (.cells #[.int .i64 op, .string nm, .int .i64 N, .int .i64 ty.kind, .string ty.name, .slice a n c, .slice ma mn mc] 28)).alloc (.cells #[.int .i64 op', .string nm', .int .i64 N', .int .i64 ty'.kind, .string ty'.name, .slice a' n' c', .slice ma' mn' mc'] 28)) w.heap.size 28 [.int .i64 op, .string nm, .int .i64 N, .int .i64 ty.kind, .string ty.name, .slice a n c, .slice ma mn mc] := (Blk.new w 28 _).alloc _
 have bB : Blk ((w.alloc (.cells #[.int .i64 op, .string nm, .int .i64 N, .int .i64 ty.kind, .string ty.name, .slice a n c, .slice ma mn mc] 28)).alloc (.cells #[.int .i64 op', .string nm', .int .i64 N', .int .i64 ty'.kind, .string ty'.name, .slice a' n' c', .slice ma' mn' mc'] 28)) (w.heap.size + 1) 28 [.int .i64 op', .string nm', .int .i64 N', .int .i64 ty'.kind, .string ty'.name, .slice a' n' c', .slice ma' mn' mc'] := Blk.new' 28 _ (by simp)
 have K1 : Kept (fun _ => False) w ((w.alloc (.cells #[.int .i64 op, .string nm, .int .i64 N, .int .i64 ty.kind, .string ty.name, .slice a n c, .slice ma mn mc] 28)).alloc (.cells #[.int .i64 op', .string nm', .int .i64 N', .int .i64 ty'.kind, .string ty'.name, .slice a' n' c', .slice ma' mn' mc'] 28)) := ((Kept.refl _ _).alloc _).alloc _
 have HT := Ld (fun W (kW : Kept (fun _ => False) w W) => rsameTy_any hty ty' W ok ok' _ _ (h1.frame (Same.of_kept kW (fun k h e => e))) (h3.frame (Same.of_kept kW (fun k h e => e))))
 have HS := Ld (fun W (kW : Kept (fun _ => False) w W) => rsames_any IH hn (h2.frame (Same.of_kept kW (fun k h e => e))) (h4.frame (Same.of_kept kW (fun k h e => e))))
 unfold tyVal at HT
 have HD := Ld (show tmEq (.mk op nm N ty l) (.mk op' nm' N' ty' l') = (decide (op = op') && decide (nm = nm') && decide (N = N') && tyEq ty ty' && tmsEq l l') from rfl)
 clear h1 h2 h3 h4 IH
 generalize tmEq (.mk op nm N ty l) (.mk op' nm' N' ty' l') = rr at *
 by_cases e1 : op = op'
 case neg =>
  have t1 : (op == op') = false := by simpa using e1
  have HR : Hid (rr = false) := Ld (by rw [HD.out]; simp [e1])
  clear e1
  go_enter Tryz.func20, Tryz.ntmps20
  go_wp2_with fail
  go_ret
  exact ⟨by rw [HR.out]; rfl, K1⟩
 subst e1
 cases e2 : (nm.toList == nm'.toList)
 case false =>
  have HR : Hid (rr = false) := Ld (by rw [HD.out, ← nm_eq, e2]; simp)
  go_enter Tryz.func20, Tryz.ntmps20
  go_wp2_with fail
  go_ret
  exact ⟨by rw [HR.out]; rfl, K1⟩
 by_cases e3 : N = N'
 case neg =>
  have t1 : (N == N') = false := by simpa using e3
  have HR : Hid (rr = false) := Ld (by rw [HD.out]; simp [e3])
  clear e3
  go_enter Tryz.func20, Tryz.ntmps20
  go_wp2_with fail
  go_ret
  exact ⟨by rw [HR.out]; rfl, K1⟩
 subst e3
 have HD2 : Hid (rr = (tyEq ty ty' && tmsEq l l')) := Ld (by rw [HD.out, ← nm_eq, e2]; simp)
 clear HD
 go_enter Tryz.func20, Tryz.ntmps20
 go_wp2_with fail
 generalize ((w.alloc (.cells #[.int .i64 op, .string nm, .int .i64 N, .int .i64 ty.kind, .string ty.name, .slice a n c, .slice ma mn mc] 28)).alloc (.cells #[.int .i64 op, .string nm', .int .i64 N, .int .i64 ty'.kind, .string ty'.name, .slice a' n' c', .slice ma' mn' mc'] 28)) = w1 at *
 cases ht : tyEq ty ty'
 ·have HR : Hid (rr = false) := Ld (by rw [HD2.out, ht]; rfl)
  refine (HT.out _ K1).mono ?_
  rintro e w2 ⟨rfl, k2⟩
  go_wp2_with fail
  go_ret
  exact ⟨by rw [HR.out]; rfl, K1.trans k2⟩
 ·have HR : Hid (rr = tmsEq l l') := Ld (by rw [HD2.out, ht]; rfl)
  refine (HT.out _ K1).mono ?_
  rintro e w2 ⟨rfl, k2⟩
  have gA2 : ∀ i, w2.cell? ⟨w.heap.size, i, none⟩ = [Value.int .i64 op, .string nm, .int .i64 N, .int .i64 ty.kind, .string ty.name, .slice a n c, .slice ma mn mc][i]? := (bA.kept k2 (fun h => h)).cell
  have gB2 : ∀ i, w2.cell? ⟨w.heap.size + 1, i, none⟩ = [Value.int .i64 op, .string nm', .int .i64 N, .int .i64 ty'.kind, .string ty'.name, .slice a' n' c', .slice ma' mn' mc'][i]? := (bB.kept k2 (fun h => h)).cell
  go_wp2_with fail
  refine (HS.out _ (K1.trans k2)).mono ?_
  rintro e w3 ⟨rfl, k3⟩
  go_wp2_with fail
  go_ret
  exact ⟨by rw [HR.out]; rfl, (K1.trans k2).trans k3⟩
theorem rsameTm_any {t : Tm} (hb : BdTm t) : EqmC t := by
 induction hb with
 | mk hn ht hl ih => exact rsameTm_one ht ih hn
theorem alikeK_drop {bi : Bool} {nm nm' : ByteArray} {l l' : List Tm} {k : Nat} {X Y : List ByteArray} (h : k < l.length) (h' : k < l'.length) : alikeK bi nm nm' k (l.drop k) (l'.drop k) X Y = (alikeT l[k] l'[k] (if bi && k == 1 then X ++ [nm] else X) (if bi && k == 1 then Y ++ [nm'] else Y) && alikeK bi nm nm' (k + 1) (l.drop (k + 1)) (l'.drop (k + 1)) X Y) := by
 rw [List.drop_eq_getElem_cons h, List.drop_eq_getElem_cons h', alikeK]
theorem alikeK_end {bi : Bool} {nm nm' : ByteArray} {l l' : List Tm} {k : Nat} {X Y : List ByteArray} (h : l.length ≤ k) : alikeK bi nm nm' k (l.drop k) (l'.drop k) X Y = true := by
 rw [List.drop_eq_nil_of_le h]; simp [alikeK]
theorem tmDs_mem {u : Tm} : ∀ {l : List Tm}, u ∈ l → tmD u ≤ tmDs l
 | a :: l, h => by
  rw [tmDs]
  rcases List.mem_cons.1 h with rfl | h
  ·exact Nat.le_max_left _ _
  ·exact Nat.le_trans (tmDs_mem h) (Nat.le_max_right _ _)
def RAlC (t : Tm) : Prop := ∀ (t' : Tm) (X Y : List ByteArray) (w : World) (ok ok' kx ky : Nat → Prop) (tk kk tk' kk' vx vy : Value), TyL ok w t.ty.kids tk → TmL ok w t.kids kk → TyL ok' w t'.ty.kids tk' → TmL ok' w t'.kids kk' → NmL kx w X vx → NmL ky w Y vy → X.length + tmD t ≤ 900000 → Y.length + tmD t ≤ 900000 →
 Calls Tryz.prog 70 #[tmVal t tk kk, tmVal t' tk' kk', vx, vy] w fun e w' => e = .returned (.bool (alikeT t t' X Y)) ∧ Kept (fun _ => False) w w'
theorem ralike_name {nm : ByteArray} {N : Int} {ty : Ty} {l : List Tm} (hty : BdTy ty) (hn : l.length ≤ 1000000) : RAlC (.mk 20 nm N ty l) := by
 rintro ⟨op', nm', N', ty', l'⟩ X Y w ok ok' kx ky tk kk tk' kk' vx vy h1 h2 h3 h4 hx hy bx bY
 have h1 : TyL ok w ty.kids tk := h1
 have h2 : TmL ok w l kk := h2
 have h3 : TyL ok' w ty'.kids tk' := h3
 have h4 : TmL ok' w l' kk' := h4
 obtain ⟨a, n, c, rfl⟩ := h1.slice
 obtain ⟨ma, mn, mc, rfl⟩ := h2.slice
 obtain ⟨a', n', c', rfl⟩ := h3.slice
 obtain ⟨ma', mn', mc', rfl⟩ := h4.slice
 obtain rfl : mn = l.length := h2.len
 obtain rfl : mn' = l'.length := h4.len
 change Calls Tryz.prog 70 #[.agg #[.int .i64 20, .string nm, .int .i64 N, .int .i64 ty.kind, .string ty.name, .slice a n c, .slice ma l.length mc], .agg #[.int .i64 op', .string nm', .int .i64 N', .int .i64 ty'.kind, .string ty'.name, .slice a' n' c', .slice ma' l'.length mc'], vx, vy] w _
 have bA : Blk ((w.alloc (.cells #[.int .i64 20, .string nm, .int .i64 N, .int .i64 ty.kind, .string ty.name, .slice a n c, .slice ma l.length mc] 28)).alloc (.cells #[.int .i64 op', .string nm', .int .i64 N', .int .i64 ty'.kind, .string ty'.name, .slice a' n' c', .slice ma' l'.length mc'] 28)) w.heap.size 28 [.int .i64 20, .string nm, .int .i64 N, .int .i64 ty.kind, .string ty.name, .slice a n c, .slice ma l.length mc] := (Blk.new w 28 _).alloc _
 have bB : Blk ((w.alloc (.cells #[.int .i64 20, .string nm, .int .i64 N, .int .i64 ty.kind, .string ty.name, .slice a n c, .slice ma l.length mc] 28)).alloc (.cells #[.int .i64 op', .string nm', .int .i64 N', .int .i64 ty'.kind, .string ty'.name, .slice a' n' c', .slice ma' l'.length mc'] 28)) (w.heap.size + 1) 28 [.int .i64 op', .string nm', .int .i64 N', .int .i64 ty'.kind, .string ty'.name, .slice a' n' c', .slice ma' l'.length mc'] := Blk.new' 28 _ (by simp)
 have K1 : Kept (fun _ => False) w ((w.alloc (.cells #[.int .i64 20, .string nm, .int .i64 N, .int .i64 ty.kind, .string ty.name, .slice a n c, .slice ma l.length mc] 28)).alloc (.cells #[.int .i64 op', .string nm', .int .i64 N', .int .i64 ty'.kind, .string ty'.name, .slice a' n' c', .slice ma' l'.length mc'] 28)) := ((Kept.refl _ _).alloc _).alloc _
 have HT := Ld (fun W (kW : Kept (fun _ => False) w W) => rsameTy_any hty ty' W ok ok' _ _ (h1.frame (Same.of_kept kW (fun k h e => e))) (h3.frame (Same.of_kept kW (fun k h e => e))))
 have HLX := Ld (fun W (kW : Kept (fun _ => False) w W) => rlast_any nm (hx.frame (Same.of_kept kW (fun k h e => e))) (by omega))
 have HLY := Ld (fun W (kW : Kept (fun _ => False) w W) => rlast_any nm' (hy.frame (Same.of_kept kW (fun k h e => e))) (by omega))
 unfold tyVal at HT
 have HD := Ld (show alikeT (.mk 20 nm N ty l) (.mk op' nm' N' ty' l') X Y = ((decide (20 = op') && decide (N = N') && tyEq ty ty' && decide (l.length = l'.length)) && (decide (lastI nm X = lastI nm' Y) && (decide (0 ≤ lastI nm X) || decide (nm = nm')))) by rw [alikeT]; simp)
 clear h1 h2 h3 h4 hx hy bx bY
 generalize alikeT (.mk 20 nm N ty l) (.mk op' nm' N' ty' l') X Y = rr at *
 by_cases e1 : (20 : Int) = op'
 case neg =>
  have t1 : ((20 : Int) == op') = false := by simpa using e1
  have t2 : ((20 : Int) != op') = true := by simpa using e1
  have HR : Hid (rr = false) := Ld (by rw [HD.out]; simp [e1])
  clear e1
  go_enter Tryz.func70, Tryz.ntmps70
  go_wp2_with fail
  go_ret
  exact ⟨by rw [HR.out]; rfl, K1⟩
 subst e1
 by_cases e3 : N = N'
 case neg =>
  have t1 : (N == N') = false := by simpa using e3
  have t2 : (N != N') = true := by simpa using e3
  have HR : Hid (rr = false) := Ld (by rw [HD.out]; simp [e3])
  clear e3
  go_enter Tryz.func70, Tryz.ntmps70
  go_wp2_with fail
  go_ret
  exact ⟨by rw [HR.out]; rfl, K1⟩
 subst e3
 go_enter Tryz.func70, Tryz.ntmps70
 go_wp2_with fail
 generalize ((w.alloc (.cells #[.int .i64 20, .string nm, .int .i64 N, .int .i64 ty.kind, .string ty.name, .slice a n c, .slice ma l.length mc] 28)).alloc (.cells #[.int .i64 20, .string nm', .int .i64 N, .int .i64 ty'.kind, .string ty'.name, .slice a' n' c', .slice ma' l'.length mc'] 28)) = w1 at *
 cases ht : tyEq ty ty'
 ·have HR : Hid (rr = false) := Ld (by rw [HD.out, ht]; simp)
  refine (HT.out _ K1).mono ?_
  rintro e w2 ⟨rfl, k2⟩
  go_wp2_with fail
  go_ret
  exact ⟨by rw [HR.out]; rfl, K1.trans k2⟩
 refine (HT.out _ K1).mono ?_
 rintro e w2 ⟨rfl, k2⟩
 have gA2 : ∀ i, w2.cell? ⟨w.heap.size, i, none⟩ = [Value.int .i64 20, .string nm, .int .i64 N, .int .i64 ty.kind, .string ty.name, .slice a n c, .slice ma l.length mc][i]? := (bA.kept k2 (fun h => h)).cell
 have gB2 : ∀ i, w2.cell? ⟨w.heap.size + 1, i, none⟩ = [Value.int .i64 20, .string nm', .int .i64 N, .int .i64 ty'.kind, .string ty'.name, .slice a' n' c', .slice ma' l'.length mc'][i]? := (bB.kept k2 (fun h => h)).cell
 have K2 := K1.trans k2
 clear gA2 gB2
 have bA2 := bA.kept k2 (fun h => h)
 have bB2 := bB.kept k2 (fun h => h)
 clear bA bB K1 k2
 have gA : ∀ i, w2.cell? ⟨w.heap.size, i, none⟩ = [Value.int .i64 20, .string nm, .int .i64 N, .int .i64 ty.kind, .string ty.name, .slice a n c, .slice ma l.length mc][i]? := bA2.cell
 have gB : ∀ i, w2.cell? ⟨w.heap.size + 1, i, none⟩ = [Value.int .i64 20, .string nm', .int .i64 N, .int .i64 ty'.kind, .string ty'.name, .slice a' n' c', .slice ma' l'.length mc'][i]? := bB2.cell
 by_cases e4 : l.length = l'.length
 case neg =>
  have t1 : ((l.length : Int) != (l'.length : Int)) = true := by simp; omega
  have t2 : ((l.length : Int) == (l'.length : Int)) = false := by simp; omega
  have HR : Hid (rr = false) := Ld (by rw [HD.out]; simp [e4])
  clear e4
  go_wp2_with fail
  go_ret
  exact ⟨by rw [HR.out]; rfl, K2⟩
 have HR : Hid (rr = (decide (lastI nm X = lastI nm' Y) && (decide (0 ≤ lastI nm X) || (nm.toList == nm'.toList)))) := Ld (by rw [HD.out, ht, nm_eq]; simp [e4])
 clear HD
 rw [← e4] at gB ⊢
 clear e4
 have t4 : ((l.length : Int) != (l.length : Int)) = false := by simp
 have x1 : w2.cell? ⟨w.heap.size, 1, none⟩ = some (.string nm) := gA 1
 have x2 : w2.cell? ⟨w.heap.size + 1, 1, none⟩ = some (.string nm') := gB 1
 have HS := Ld (fun W (k : Kept (fun _ => False) w2 W) => (⟨(bA2.kept k (fun h => h)).cell 1, (bB2.kept k (fun h => h)).cell 1⟩ : W.cell? ⟨w.heap.size, 1, none⟩ = some (.string nm) ∧ W.cell? ⟨w.heap.size + 1, 1, none⟩ = some (.string nm')))
 have KD : Kept (fun _ => False) w2 w2.drew := (Kept.refl _ _).drew
 have HXY : Hid (∀ (W : World) (v : Value) (s : ByteArray) (r : Int), Kept (fun _ => False) w2 W → ((s = nm ∧ v = vx ∧ r = lastI nm X) ∨ (s = nm' ∧ v = vy ∧ r = lastI nm' Y)) → Calls Tryz.prog 113 #[.string s, v] W fun e w' => e = .returned (.int .i64 r) ∧ Kept (fun _ => False) W w') := Ld (by
  rintro W v s r k (⟨rfl, rfl, rfl⟩ | ⟨rfl, rfl, rfl⟩)
  ·exact (HLX.out W (K2.trans k)).mono fun e w' h => ⟨h.1, h.2 ▸ Kept.refl _ _⟩
  ·exact (HLY.out W (K2.trans k)).mono fun e w' h => ⟨h.1, h.2 ▸ Kept.refl _ _⟩)
 go_wp2_with fail
 clear HT bA2 bB2 HLX HLY t4 ht gA gB
 generalize lastI nm X = p at *
 generalize lastI nm' Y = q at *
 go_region_held3 (fun w' => w'.cell? ⟨w.heap.size, 1, none⟩ = some (.string nm) ∧ w'.cell? ⟨w.heap.size + 1, 1, none⟩ = some (.string nm')) (go_keep)
  (first | (go_at_call 113; refine (HXY.out _ _ _ _ (by first | exact KD | exact KE) (by first | exact Or.inl ⟨rfl, rfl, rfl⟩ | exact Or.inr ⟨rfl, rfl, rfl⟩)).mono ?_; rintro e wq ⟨rfl, kq⟩; first | (have KF := KE.trans kq; obtain ⟨n0, n1⟩ := HS.out _ KF) | (have KE := KD.trans kq; obtain ⟨m0, m1⟩ := HS.out _ KE)))
 all_goals
  by_cases f1 : p = q
  case neg =>
   have g1 : (p == q) = false := by simpa using f1
   go_wp2_with fail
   go_ret
   exact ⟨by rw [HR.out]; simp [f1], K2.trans KF⟩
  subst f1
  by_cases f2 : 0 ≤ p
  case pos =>
   have g2 : decide (0 ≤ p) = true := by simpa using f2
   go_wp2_with fail
   go_ret
   exact ⟨by rw [HR.out]; simp [f2], K2.trans KF⟩
  have g2 : decide (0 ≤ p) = false := by simpa using f2
  cases f3 : (nm.toList == nm'.toList)
  ·go_wp2_with fail
   go_ret
   exact ⟨by rw [HR.out]; simp [f2, f3], K2.trans KF⟩
  ·go_wp2_with fail
   go_ret
   exact ⟨by rw [HR.out]; simp [f2, f3], K2.trans KF⟩
theorem ralike_one {op : Int} {nm : ByteArray} {N : Int} {ty : Ty} {l : List Tm} (h20 : op ≠ 20) (hty : BdTy ty) (IH : ∀ u, u ∈ l → RAlC u) (hn : l.length ≤ 1000000) : RAlC (.mk op nm N ty l) := by
 rintro ⟨op', nm', N', ty', l'⟩ X Y w ok ok' kx ky tk kk tk' kk' vx vy h1 h2 h3 h4 hx hy bx bY
 have h1 : TyL ok w ty.kids tk := h1
 have h2 : TmL ok w l kk := h2
 have h3 : TyL ok' w ty'.kids tk' := h3
 have h4 : TmL ok' w l' kk' := h4
 obtain ⟨a, n, c, rfl⟩ := h1.slice
 obtain ⟨ma, mn, mc, rfl⟩ := h2.slice
 obtain ⟨a', n', c', rfl⟩ := h3.slice
 obtain ⟨ma', mn', mc', rfl⟩ := h4.slice
 obtain rfl : mn = l.length := h2.len
 obtain rfl : mn' = l'.length := h4.len
 change Calls Tryz.prog 70 #[.agg #[.int .i64 op, .string nm, .int .i64 N, .int .i64 ty.kind, .string ty.name, .slice a n c, .slice ma l.length mc], .agg #[.int .i64 op', .string nm', .int .i64 N', .int .i64 ty'.kind, .string ty'.name, .slice a' n' c', .slice ma' l'.length mc'], vx, vy] w _
 have bA : Blk ((w.alloc (.cells #[.int .i64 op, .string nm, .int .i64 N, .int .i64 ty.kind, .string ty.name, .slice a n c, .slice ma l.length mc] 28)).alloc (.cells #[.int .i64 op', .string nm', .int .i64 N', .int .i64 ty'.kind, .string ty'.name, .slice a' n' c', .slice ma' l'.length mc'] 28)) w.heap.size 28 [.int .i64 op, .string nm, .int .i64 N, .int .i64 ty.kind, .string ty.name, .slice a n c, .slice ma l.length mc] := (Blk.new w 28 _).alloc _
 have bB : Blk ((w.alloc (.cells #[.int .i64 op, .string nm, .int .i64 N, .int .i64 ty.kind, .string ty.name, .slice a n c, .slice ma l.length mc] 28)).alloc (.cells #[.int .i64 op', .string nm', .int .i64 N', .int .i64 ty'.kind, .string ty'.name, .slice a' n' c', .slice ma' l'.length mc'] 28)) (w.heap.size + 1) 28 [.int .i64 op', .string nm', .int .i64 N', .int .i64 ty'.kind, .string ty'.name, .slice a' n' c', .slice ma' l'.length mc'] := Blk.new' 28 _ (by simp)
 have K1 : Kept (fun _ => False) w ((w.alloc (.cells #[.int .i64 op, .string nm, .int .i64 N, .int .i64 ty.kind, .string ty.name, .slice a n c, .slice ma l.length mc] 28)).alloc (.cells #[.int .i64 op', .string nm', .int .i64 N', .int .i64 ty'.kind, .string ty'.name, .slice a' n' c', .slice ma' l'.length mc'] 28)) := ((Kept.refl _ _).alloc _).alloc _
 have HT := Ld (fun W (kW : Kept (fun _ => False) w W) => rsameTy_any hty ty' W ok ok' _ _ (h1.frame (Same.of_kept kW (fun k h e => e))) (h3.frame (Same.of_kept kW (fun k h e => e))))
 have bX : X.length + (tmDs l + 1) ≤ 900000 := by rw [tmD] at bx; exact bx
 have bY2 : Y.length + (tmDs l + 1) ≤ 900000 := by rw [tmD] at bY; exact bY
 have HIH := Ld IH
 have HAT := Ld (fun W (k : Kept (fun _ => False) w W) => (h2.frame (sK k)).at)
 have HAT' := Ld (fun W (k : Kept (fun _ => False) w W) => (h4.frame (sK k)).at)
 have HX := Ld (fun W (k : Kept (fun _ => False) w W) => hx.frame (sK k))
 have HY := Ld (fun W (k : Kept (fun _ => False) w W) => hy.frame (sK k))
 have HBX := Ld bX
 have HBY := Ld bY2
 unfold tyVal at HT
 have HD := Ld (show alikeT (.mk op nm N ty l) (.mk op' nm' N' ty' l') X Y = ((decide (op = op') && decide (N = N') && tyEq ty ty' && decide (l.length = l'.length)) && alikeK (binderB op) nm nm' 0 l l' X Y) by rw [alikeT, if_neg h20])
 clear h1 h2 h3 h4 hx hy bx bY bX bY2 IH
 generalize alikeT (.mk op nm N ty l) (.mk op' nm' N' ty' l') X Y = rr at *
 by_cases e1 : op = op'
 case neg =>
  have t1 : (op == op') = false := by simpa using e1
  have t2 : (op != op') = true := by simpa using e1
  have HR : Hid (rr = false) := Ld (by rw [HD.out]; simp [e1])
  clear e1
  go_enter Tryz.func70, Tryz.ntmps70
  go_wp2_with fail
  go_ret
  exact ⟨by rw [HR.out]; rfl, K1⟩
 subst e1
 by_cases e3 : N = N'
 case neg =>
  have t1 : (N == N') = false := by simpa using e3
  have t2 : (N != N') = true := by simpa using e3
  have HR : Hid (rr = false) := Ld (by rw [HD.out]; simp [e3])
  clear e3
  go_enter Tryz.func70, Tryz.ntmps70
  go_wp2_with fail
  go_ret
  exact ⟨by rw [HR.out]; rfl, K1⟩
 subst e3
 go_enter Tryz.func70, Tryz.ntmps70
 go_wp2_with fail
 generalize ((w.alloc (.cells #[.int .i64 op, .string nm, .int .i64 N, .int .i64 ty.kind, .string ty.name, .slice a n c, .slice ma l.length mc] 28)).alloc (.cells #[.int .i64 op, .string nm', .int .i64 N, .int .i64 ty'.kind, .string ty'.name, .slice a' n' c', .slice ma' l'.length mc'] 28)) = w1 at *
 cases ht : tyEq ty ty'
 ·have HR : Hid (rr = false) := Ld (by rw [HD.out, ht]; simp)
  refine (HT.out _ K1).mono ?_
  rintro e w2 ⟨rfl, k2⟩
  go_wp2_with fail
  go_ret
  exact ⟨by rw [HR.out]; rfl, K1.trans k2⟩
 refine (HT.out _ K1).mono ?_
 rintro e w2 ⟨rfl, k2⟩
 have gA2 : ∀ i, w2.cell? ⟨w.heap.size, i, none⟩ = [Value.int .i64 op, .string nm, .int .i64 N, .int .i64 ty.kind, .string ty.name, .slice a n c, .slice ma l.length mc][i]? := (bA.kept k2 (fun h => h)).cell
 have gB2 : ∀ i, w2.cell? ⟨w.heap.size + 1, i, none⟩ = [Value.int .i64 op, .string nm', .int .i64 N, .int .i64 ty'.kind, .string ty'.name, .slice a' n' c', .slice ma' l'.length mc'][i]? := (bB.kept k2 (fun h => h)).cell
 have K2 := K1.trans k2
 clear gA2 gB2
 have bA2 := bA.kept k2 (fun h => h)
 have bB2 := bB.kept k2 (fun h => h)
 clear bA bB K1 k2
 have gA : ∀ i, w2.cell? ⟨w.heap.size, i, none⟩ = [Value.int .i64 op, .string nm, .int .i64 N, .int .i64 ty.kind, .string ty.name, .slice a n c, .slice ma l.length mc][i]? := bA2.cell
 have gB : ∀ i, w2.cell? ⟨w.heap.size + 1, i, none⟩ = [Value.int .i64 op, .string nm', .int .i64 N, .int .i64 ty'.kind, .string ty'.name, .slice a' n' c', .slice ma' l'.length mc'][i]? := bB2.cell
 by_cases e4 : l.length = l'.length
 case neg =>
  have t1 : ((l.length : Int) != (l'.length : Int)) = true := by simp; omega
  have t2 : ((l.length : Int) == (l'.length : Int)) = false := by simp; omega
  have HR : Hid (rr = false) := Ld (by rw [HD.out]; simp [e4])
  clear e4
  go_wp2_with fail
  go_ret
  exact ⟨by rw [HR.out]; rfl, K2⟩
 have HR : Hid (rr = alikeK (binderB op) nm nm' 0 l l' X Y) := Ld (by rw [HD.out, ht]; simp [e4])
 clear HD
 have E4 := Ld e4
 rw [← e4] at gB ⊢
 clear e4
 have t4 : ((l.length : Int) != (l.length : Int)) = false := by simp
 have t5 : (op == 20) = false := by simpa using h20
 have BA := Ld bA2
 have BB := Ld bB2
 clear bA2 bB2
 go_wp2_with fail
 clear HT t4 ht gA gB
 go_loopw [11] (fun i wr => ∃ j : Nat, j ≤ l.length ∧ i = .int .i64 j ∧ Kept (fun _ => False) w2 wr ∧ Hid (rr = alikeK (binderB op) nm nm' j (l.drop j) (l'.drop j) X Y)) (fun i _ => l.length - (intOf i).toNat)
 case atStart => exact ⟨0, Nat.zero_le _, rfl, Kept.refl _ _, HR⟩
 case round =>
  obtain ⟨j, hj, rfl, kr, hq⟩ := hrel
  have gA : ∀ i, wr.cell? ⟨w.heap.size, i, none⟩ = [Value.int .i64 op, .string nm, .int .i64 N, .int .i64 ty.kind, .string ty.name, .slice a n c, .slice ma l.length mc][i]? := (BA.out.kept kr (fun h => h)).cell
  by_cases hlt : j < l.length
  ·have hlt' : j < l'.length := by rw [← E4.out]; exact hlt
   obtain ⟨g, off, ta, tn, tc, na, nn, nc, rfl, _, lg, ⟨c0, c1, c2, c3, c4, c5, c6⟩, hty, htm⟩ := HAT.out wr (K2.trans kr) j hlt
   obtain ⟨g', off', ta', tn', tc', na', nn', nc', rfl, _, lg', ⟨d0, d1, d2, d3, d4, d5, d6⟩, hty', htm'⟩ := HAT'.out wr (K2.trans kr) j hlt'
   have gB : ∀ i, wr.cell? ⟨w.heap.size + 1, i, none⟩ = [Value.int .i64 op, .string nm', .int .i64 N, .int .i64 ty'.kind, .string ty'.name, .slice a' n' c', .slice (some ⟨g', off', none⟩) l.length mc'][i]? := by rw [E4.out]; exact (BB.out.kept kr (fun h => h)).cell
   cases hbi : binderB op
   ·have hco : (binderB op && j == 1) = false := by rw [hbi]; rfl
    have hcon := Ld (fun (W : World) (kW : Kept (fun _ => False) wr W) => HIH.out _ (List.getElem_mem hlt) l'[j] X Y W ok ok' _ _ _ _ _ _ _ _ (hty.frame (Same.of_kept kW (fun k h e => e))) (htm.frame (Same.of_kept kW (fun k h e => e))) (hty'.frame (Same.of_kept kW (fun k h e => e))) (htm'.frame (Same.of_kept kW (fun k h e => e))) ((HX.out wr (K2.trans kr)).frame (Same.of_kept kW (fun k h e => e))) ((HY.out wr (K2.trans kr)).frame (Same.of_kept kW (fun k h e => e))) (by have := HBX.out; have := tmDs_mem (List.getElem_mem hlt); simp; omega) (by have := HBY.out; have := tmDs_mem (List.getElem_mem hlt); simp; omega))
    unfold tmVal at hcon
    have HS := Ld (alikeK_drop (bi := binderB op) (nm := nm) (nm' := nm') (X := X) (Y := Y) hlt hlt')
    rw [hco] at HS
    simp only [Bool.false_eq_true, if_false, if_true] at HS
    clear hty hty' htm htm'
    have hj2 : (j : Int) < (l.length : Int) := by omega
    have hj3 : (j : Int) < 1000000 := by omega
    go_wp2_with (go_at_call 67; refine cR (rbinder_t hbi _) ?_)
    go_still_tail 12, (by kernel_rfl)
    change wpList _ _ _ _ _ (World.drew wr)
    have kd : Kept (fun _ => False) wr (World.drew wr) := (Kept.refl _ _).drew
    generalize World.drew wr = w4 at *
    cases hr : alikeT l[j] l'[j] X Y
    ·rw [hr] at hcon HS
     go_wp2_with (go_at_call 70; refine (hcon.out _ kd).mono ?_; rintro e w' ⟨rfl, k2⟩)
     go_ret
     exact ⟨by rw [hq.out, HS.out]; rfl, ((K2.trans kr).trans kd).trans k2⟩
    ·rw [hr] at hcon HS
     go_wp2_with (go_at_call 70; refine (hcon.out _ kd).mono ?_; rintro e w' ⟨rfl, k2⟩)
     go_roundw
     case rel => exact ⟨j + 1, by omega, by go_num, (kr.trans kd).trans k2, Ld (by rw [hq.out, HS.out]; first | rfl | (rw [hbi]; rfl))⟩
     case measure => simp [intOf]; omega
   by_cases hj1 : j = 1
   case neg =>
    have hco : (binderB op && j == 1) = false := by simp [hj1]
    have hj4 : ((j : Int) == 1) = false := by simp; omega
    have hcon := Ld (fun (W : World) (kW : Kept (fun _ => False) wr W) => HIH.out _ (List.getElem_mem hlt) l'[j] X Y W ok ok' _ _ _ _ _ _ _ _ (hty.frame (Same.of_kept kW (fun k h e => e))) (htm.frame (Same.of_kept kW (fun k h e => e))) (hty'.frame (Same.of_kept kW (fun k h e => e))) (htm'.frame (Same.of_kept kW (fun k h e => e))) ((HX.out wr (K2.trans kr)).frame (Same.of_kept kW (fun k h e => e))) ((HY.out wr (K2.trans kr)).frame (Same.of_kept kW (fun k h e => e))) (by have := HBX.out; have := tmDs_mem (List.getElem_mem hlt); simp; omega) (by have := HBY.out; have := tmDs_mem (List.getElem_mem hlt); simp; omega))
    unfold tmVal at hcon
    have HS := Ld (alikeK_drop (bi := binderB op) (nm := nm) (nm' := nm') (X := X) (Y := Y) hlt hlt')
    rw [hco] at HS
    simp only [Bool.false_eq_true, if_false, if_true] at HS
    clear hty hty' htm htm'
    have hj2 : (j : Int) < (l.length : Int) := by omega
    have hj3 : (j : Int) < 1000000 := by omega
    go_wp2_with (go_at_call 67; refine cR (rbinder_t hbi _) ?_)
    go_still_tail 12, (by kernel_rfl)
    change wpList _ _ _ _ _ (World.drew wr)
    have kd : Kept (fun _ => False) wr (World.drew wr) := (Kept.refl _ _).drew
    generalize World.drew wr = w4 at *
    cases hr : alikeT l[j] l'[j] X Y
    ·rw [hr] at hcon HS
     go_wp2_with (go_at_call 70; refine (hcon.out _ kd).mono ?_; rintro e w' ⟨rfl, k2⟩)
     go_ret
     exact ⟨by rw [hq.out, HS.out]; rfl, ((K2.trans kr).trans kd).trans k2⟩
    ·rw [hr] at hcon HS
     go_wp2_with (go_at_call 70; refine (hcon.out _ kd).mono ?_; rintro e w' ⟨rfl, k2⟩)
     go_roundw
     case rel => exact ⟨j + 1, by omega, by go_num, (kr.trans kd).trans k2, Ld (by rw [hq.out, HS.out]; first | rfl | (rw [hbi]; rfl))⟩
     case measure => simp [intOf]; omega
   subst hj1
   have hco : (binderB op && 1 == 1) = true := by rw [hbi]; rfl
   have x1 : wr.cell? ⟨w.heap.size, 1, none⟩ = some (.string nm) := gA 1
   have x2 : wr.cell? ⟨w.heap.size + 1, 1, none⟩ = some (.string nm') := gB 1
   have HS2 := Ld (fun W (k : Kept (fun _ => False) wr W) => (⟨(BA.out.kept (kr.trans k) (fun h => h)).cell 1, (BB.out.kept (kr.trans k) (fun h => h)).cell 1⟩ : W.cell? ⟨w.heap.size, 1, none⟩ = some (.string nm) ∧ W.cell? ⟨w.heap.size + 1, 1, none⟩ = some (.string nm')))
   have KD : Kept (fun _ => False) wr wr.drew := (Kept.refl _ _).drew
   have HXY : Hid (∀ (W : World) (v : Value) (s : ByteArray) (Z : List ByteArray), Kept (fun _ => False) wr W → ((s = nm ∧ v = vx ∧ Z = X) ∨ (s = nm' ∧ v = vy ∧ Z = Y)) → Calls Tryz.prog 114 #[v, .string s] W fun e w' => ∃ v', e = .returned v' ∧ NmL (fun _ => True) w' (Z ++ [s]) v' ∧ Kept (fun _ => False) W w') := Ld (by
    have h1 := HBX.out
    have h2 := HBY.out
    rintro W v s Z k (⟨rfl, rfl, rfl⟩ | ⟨rfl, rfl, rfl⟩)
    ·exact (rwith_any _ (HX.out W ((K2.trans kr).trans k)) (by omega)).mono fun e w' ⟨v, h1, h2⟩ => ⟨v, h1, h2.nml.mono (fun _ _ _ => trivial), h2.kp⟩
    ·exact (rwith_any _ (HY.out W ((K2.trans kr).trans k)) (by omega)).mono fun e w' ⟨v, h1, h2⟩ => ⟨v, h1, h2.nml.mono (fun _ _ _ => trivial), h2.kp⟩)
   clear c0 c1 c2 c3 c4 c5 c6 d0 d1 d2 d3 d4 d5 d6 hty hty' htm htm'
   go_wp2_with (go_at_call 67; refine cR (rbinder_t hbi _) ?_)
   clear gA gB
   go_region_held3 (fun w' => w'.cell? ⟨w.heap.size, 1, none⟩ = some (.string nm) ∧ w'.cell? ⟨w.heap.size + 1, 1, none⟩ = some (.string nm')) (go_keep)
    (first | (go_at_call 114; refine (HXY.out _ _ _ _ (by first | exact KD | exact KE) (by first | exact Or.inl ⟨rfl, rfl, rfl⟩ | exact Or.inr ⟨rfl, rfl, rfl⟩)).mono ?_; rintro e wq ⟨vq, rfl, Rq, kq⟩; first | (have KF := KE.trans kq; have RF := Rq; have RE2 := RE.frame (sK kq); obtain ⟨n0, n1⟩ := HS2.out _ KF) | (have KE := KD.trans kq; have RE := Rq; obtain ⟨m0, m1⟩ := HS2.out _ KE)))
   all_goals
    have KW := kr.trans KF
    have gA2 : ∀ i, wq.cell? ⟨w.heap.size, i, none⟩ = [Value.int .i64 op, .string nm, .int .i64 N, .int .i64 ty.kind, .string ty.name, .slice a n c, .slice (some ⟨g, off, none⟩) l.length mc][i]? := (BA.out.kept KW (fun h => h)).cell
    have gB2 : ∀ i, wq.cell? ⟨w.heap.size + 1, i, none⟩ = [Value.int .i64 op, .string nm', .int .i64 N, .int .i64 ty'.kind, .string ty'.name, .slice a' n' c', .slice (some ⟨g', off', none⟩) l.length mc'][i]? := by rw [E4.out]; exact (BB.out.kept KW (fun h => h)).cell
    obtain ⟨g2, off2, ta, tn, tc, na, nn, nc, e2, _, lg, ⟨c0, c1, c2, c3, c4, c5, c6⟩, hty, htm⟩ := HAT.out wq (K2.trans KW) 1 hlt
    cases e2
    obtain ⟨g2', off2', ta', tn', tc', na', nn', nc', e2, _, lg', ⟨d0, d1, d2, d3, d4, d5, d6⟩, hty', htm'⟩ := HAT'.out wq (K2.trans KW) 1 hlt'
    cases e2
    clear n0 n1 m0 m1 x1 x2 HS2 HXY KD KE RE
    have hcon := Ld (fun (W : World) (kW : Kept (fun _ => False) wq W) => HIH.out _ (List.getElem_mem hlt) l'[1] (X ++ [nm]) (Y ++ [nm']) W ok ok' _ _ _ _ _ _ _ _ (hty.frame (Same.of_kept kW (fun k h e => e))) (htm.frame (Same.of_kept kW (fun k h e => e))) (hty'.frame (Same.of_kept kW (fun k h e => e))) (htm'.frame (Same.of_kept kW (fun k h e => e))) ((RE2).frame (Same.of_kept kW (fun k h e => e))) ((RF).frame (Same.of_kept kW (fun k h e => e))) (by have := HBX.out; have := tmDs_mem (List.getElem_mem hlt); simp; omega) (by have := HBY.out; have := tmDs_mem (List.getElem_mem hlt); simp; omega))
    unfold tmVal at hcon
    have HS := Ld (alikeK_drop (bi := binderB op) (nm := nm) (nm' := nm') (X := X) (Y := Y) hlt hlt')
    rw [hco] at HS
    simp only [Bool.false_eq_true, if_false, if_true] at HS
    clear hty hty' htm htm'
    have hj2 : ((1 : Nat) : Int) < (l.length : Int) := by omega
    have hj3 : ((1 : Nat) : Int) < 1000000 := by omega
    go_wp2_with fail
    go_still_tail 12, (by kernel_rfl)
    change wpList _ _ _ _ _ (World.drew wq)
    have kd : Kept (fun _ => False) wq (World.drew wq) := (Kept.refl _ _).drew
    generalize World.drew wq = w4 at *
    cases hr : alikeT l[1] l'[1] (X ++ [nm]) (Y ++ [nm'])
    ·rw [hr] at hcon HS
     go_wp2_with (go_at_call 70; refine (hcon.out _ kd).mono ?_; rintro e w' ⟨rfl, k2⟩)
     go_ret
     exact ⟨by rw [hq.out, HS.out]; rfl, ((K2.trans KW).trans kd).trans k2⟩
    ·rw [hr] at hcon HS
     go_wp2_with (go_at_call 70; refine (hcon.out _ kd).mono ?_; rintro e w' ⟨rfl, k2⟩)
     go_roundw
     case rel => exact ⟨1 + 1, by omega, by go_num, (KW.trans kd).trans k2, Ld (by rw [hq.out, HS.out]; first | rfl | (rw [hbi]; rfl))⟩
     case measure => simp [intOf]; omega
  ·have HZ : Hid (rr = true) := Ld (by rw [hq.out, alikeK_end (by omega)])
   go_wp2_with fail
   go_ret
   exact ⟨by rw [HZ.out]; rfl, K2.trans kr⟩
theorem ralike_any {t : Tm} (hb : BdTm t) : RAlC t := by
 induction hb with
 | mk hn ht hl ih =>
  rename_i o n i t l
  by_cases h : o = 20
  ·subst h; exact ralike_name ht hn
  ·exact ralike_one h ht ih hn
end Go.Proofs.YtfhedienjnfdcaaGreatDoor
namespace Go.Proofs.YtfhedienjnfdcaaGreatDoor
open Go.RowKit Go.Shelf
attribute [local go_sem] Oper.semAt_some
theorem lastI_at {s : ByteArray} {l : List ByteArray} {m : Nat} (hm : m < l.length) (h : l[m] = s) (hn : ∀ j (hj : j < l.length), m < j → l[j] ≠ s) : lastI s l = m := by
 have key : ∀ d, m + 1 + d ≤ l.length → lastI s (l.take (m + 1 + d)) = m := by
  intro d
  induction d with
  | zero => intro _; rw [Nat.add_zero, last_take hm, if_pos h]
  | succ d ih =>
   intro hd
   rw [show m + 1 + (d + 1) = (m + 1 + d) + 1 by omega, last_take (by omega), if_neg (hn _ (by omega) (by omega))]
   exact ih (by omega)
 have := key (l.length - (m + 1)) (by omega)
 rw [show m + 1 + (l.length - (m + 1)) = l.length by omega, List.take_length] at this
 exact this
theorem lastI_no {s : ByteArray} {l : List ByteArray} (hn : ∀ j (hj : j < l.length), l[j] ≠ s) : lastI s l = -1 := by
 have key : ∀ d, d ≤ l.length → lastI s (l.take d) = -1 := by
  intro d
  induction d with
  | zero => intro _; rfl
  | succ d ih =>
   intro hd
   rw [last_take (by omega), if_neg (hn _ (by omega))]
   exact ih (by omega)
 have := key l.length (Nat.le_refl _)
 rwa [List.take_length] at this
def upto {α : Type} (f : Nat → α) (k : Nat) : List α := (List.range k).map f
theorem upto_succ {α : Type} (f : Nat → α) (k : Nat) : upto f (k + 1) = upto f k ++ [f k] := by simp [upto, List.range_succ]
theorem upto_len {α : Type} (f : Nat → α) (k : Nat) : (upto f k).length = k := by simp [upto]
theorem upto_mem {α : Type} {f : Nat → α} {k j : Nat} (h : j < k) : f j ∈ upto f k := by simp only [upto, List.mem_map, List.mem_range]; exact ⟨j, h, rfl⟩
def bwF (l : List ByteArray) (j : Nat) : Nat × ByteArray := (l.length - 1 - j, l[l.length - 1 - j]?.getD ⟨#[]⟩)
theorem bwF_at {l : List ByteArray} {m : Nat} (h : m < l.length) : bwF l (l.length - (m + 1)) = (m, l[m]) := by
 unfold bwF
 rw [show l.length - 1 - (l.length - (m + 1)) = m by omega, List.getElem?_eq_getElem h]; rfl
theorem back1_in (F : Fence) (n : Nat) (h7 : F.fn 213) (hro : F.round = none) (hn : 1 ≤ n) (L Bs n₀ : Nat) (l : List ByteArray) (a : Option Addr) (cap : Nat) (hl : l.length ≤ 1000000) (hBn : Bs < n₀) (J Jx : List (Nat × ByteArray) → World → Prop)
  (hY : ∀ pre x W, J pre W → pre.length < l.length → YieldAt F (n - 1) Tryz.prog L #[.int .i64 (x.1 : Int), .string x.2] W fun e W' =>
   (e = .returned (.bool true) ∧ J (pre ++ [x]) W' ∧ Below n₀ W W') ∨ (e = .returned (.bool false) ∧ Jx (pre ++ [x]) W'))
  (W : World) (hBs : W.cell? ⟨Bs, 0, none⟩ = some (.slice a l.length cap)) (hc : NmL (fun q => q < n₀) W l (.slice a l.length cap)) (h0 : J [] W) :
  CallsIn F n Tryz.prog 213 #[.func (.yield L) #[] #[], .pointer (some ⟨Bs, 0, none⟩)] W fun e W' => (∃ v, e = .returned v) ∧
   ((∃ ys, ys = upto (bwF l) l.length ∧ J ys W') ∨ (∃ pre, (∃ k, k ≤ l.length ∧ pre = upto (bwF l) k) ∧ Jx pre W')) := by
 have HAT := Ld hc.at
 have HL := Ld hl
 have hBS := Ld hBs
 have hln : (l.length : Int) ≤ 1000000 := by omega
 clear hc hl
 refine callsIn_of_wp Tryz.func213 rfl h7 ?_ hro
 simp only [Tryz.ntmps213, List.size_toArray, List.length_cons, List.length_nil, Nat.reduceAdd, Nat.reduceSub, Array.replicate_succ, Array.replicate_zero, List.push_toArray, List.append_toArray, List.nil_append, List.cons_append]
 gi_wp2
 gi_loopw [3] (fun i wr => ∃ m : Nat, m ≤ l.length ∧ i = .int .i64 ((m : Int) - 1) ∧ J (upto (bwF l) (l.length - m)) wr ∧ Below n₀ W wr)
  (fun i _ => (intOf i + 1).toNat)
 case atStart =>
  exact ⟨l.length, Nat.le_refl _, rfl, by rw [Nat.sub_self]; exact h0, Below.refl _ _⟩
 case round =>
  obtain ⟨m, hm, rfl, hJs, hnx⟩ := hrel
  have hb2 : wr.cell? ⟨Bs, 0, none⟩ = some (.slice a l.length cap) := (hnx.cell (p := ⟨Bs, 0, none⟩) hBn).trans hBS.out
  clear hBs
  cases m with
  | zero =>
   have i0 : ((0 : Nat) : Int) - 1 = -1 := rfl
   rw [i0]
   have HJ := Ld hJs
   clear hJs hY
   gi_wp2
   go_end0
   exact ⟨⟨_, rfl⟩, .inl ⟨_, rfl, HJ.out⟩⟩
  | succ m =>
   have hml : m < l.length := by omega
   obtain ⟨g, off, rfl, hg, c0⟩ := HAT.out m hml
   have c1 : wr.cell? ⟨g, off + m, none⟩ = some (.string l[m]) := (hnx.cell (p := ⟨g, off + m, none⟩) hg).trans c0
   have i0 : ((m + 1 : Nat) : Int) - 1 = m := by omega
   have i1 : (m : Int) < (l.length : Int) := by omega
   have i2 : (m : Int) < 1000000 := by have := HL.out; omega
   have HX := Ld (bwF_at hml)
   have HU : Hid (upto (bwF l) (l.length - m) = upto (bwF l) (l.length - (m + 1)) ++ [(m, l[m])]) := Ld (by
    rw [show l.length - m = (l.length - (m + 1)) + 1 by omega, upto_succ, HX.out])
   obtain ⟨fn, tmps, assign, body, hy, hR⟩ := hY _ (m, l[m]) wr hJs (by rw [upto_len]; omega)
   dsimp only at hy
   rw [i0]
   have HN := Ld hnx
   clear i0 hm hY c0 hnx hJs
   gi_wp2
   refine hR.mono ?_
   rintro e W3 (⟨rfl, hJ3, hk3⟩ | ⟨rfl, hJx3⟩)
   ·gi_wp2
    go_roundw
    case rel => exact ⟨m, by omega, rfl, by rw [HU.out]; exact hJ3, HN.out.trans hk3⟩
    case measure => simp [intOf]
   ·gi_wp2
    refine bodyPost_ret (results_none rfl _ _ _) rfl ?_
    exact ⟨⟨_, rfl⟩, .inr ⟨_, ⟨l.length - m, by omega, HU.out.symm⟩, hJx3⟩⟩
theorem back_in (F : Fence) (n : Nat) (h5 : F.fn 177) (hro : F.round = none) (a : Option Addr) (len cap : Nat) (w : World) :
  CallsIn F n Tryz.prog 177 #[.slice a len cap] w fun e w' => e = .returned (.func (.func 213) #[] #[.pointer (some ⟨w.heap.size, 0, none⟩)]) ∧ w' = w.alloc (.cells #[.slice a len cap] 41) := by
 refine callsIn_of_wp Tryz.func177 rfl h5 ?_ hro
 simp only [Tryz.ntmps177, List.size_toArray, List.length_cons, List.length_nil, Nat.reduceAdd, Nat.reduceSub, Array.replicate_succ, Array.replicate_zero, List.push_toArray, List.append_toArray, List.nil_append, List.cons_append]
 gi_wp2
 go_ret
 exact ⟨rfl, rfl⟩
theorem NmL.belowF {n₀ : Nat} {l : List ByteArray} {v : Value} {A B : World} (h : NmL (fun q => q < n₀) A l v) (hb : Below n₀ A B) : NmL (fun q => q < n₀) B l v := by
 refine h.frame (fun k hk _ => hb.block k hk)
theorem back_stops (F : Fence) (n : Nat) (h7 : F.fn 213) (hro : F.round = none) (hn : 1 ≤ n) (Bs n₀ : Nat) (l : List ByteArray) (a : Option Addr) (cap : Nat) (hl : l.length ≤ 1000000) (hBn : Bs < n₀) (w : World) (hn₀ : n₀ ≤ w.heap.size)
  (hc : w.cell? ⟨Bs, 0, none⟩ = some (.slice a l.length cap)) (hI : NmL (fun q => q < n₀) w l (.slice a l.length cap)) :
  SeqStopsK F n Tryz.prog 213 #[.pointer (some ⟨Bs, 0, none⟩)] (fun x : Nat × ByteArray => #[Value.int .i64 (x.1 : Int), Value.string x.2]) (Below n₀) (fun ys => ys = upto (bwF l) l.length) (fun pre => ∃ k, k ≤ l.length ∧ pre = upto (bwF l) k) l.length w := fun L J Jx W hW _ _ hY h0 =>
 back1_in F n h7 hro hn L Bs n₀ l a cap hl hBn J Jx hY W ((hW.cell (p := ⟨Bs, 0, none⟩) (by show Bs < _; omega)).trans hc) (hI.belowF (hW.mono hn₀)) h0
theorem last_in (F : Fence) (n : Nat) (h4 : F.fn 111) (h6 : F.fn 177) (h8 : F.fn 213) (hro : F.round = none) (hn : 3 ≤ n) (a : Option Addr) (cap : Nat) (l : List ByteArray) (s : ByteArray) (hl : l.length ≤ 1000000) (w : World) (hI : NmL (fun q => q < w.heap.size) w l (.slice a l.length cap)) :
  CallsIn F n Tryz.prog 111 #[.slice a l.length cap, .string s] w fun e W' => e = .returned (.int .i64 (lastI s l)) ∧ Below w.heap.size w W' := by
 have h1 : 1 ≤ n := by omega
 refine callsIn_of_wp_marks Tryz.func111 rfl h4 ?_ hro
 simp only [Tryz.ntmps111, List.size_toArray, List.length_cons, List.length_nil, Nat.reduceAdd, Nat.reduceSub, Array.replicate_succ, Array.replicate_zero, List.push_toArray, List.append_toArray, List.nil_append, List.cons_append]
 gi_wp2_with (gi_at_call 177; refine (back_in F (n - 1) h6 hro _ _ _ _).mono ?_; rintro e w' ⟨rfl, rfl⟩)
 have bS := Boxed.new w 9 (.string s)
 have bR := Boxed.new (w.alloc (.cells #[.string s] 9)) 3 (.int .i64 0)
 have bN := Boxed.new ((w.alloc (.cells #[.string s] 9)).alloc (.cells #[.int .i64 0] 3)) 41 (.slice a l.length cap)
 rw [World.size_alloc] at bR
 rw [World.size_alloc, World.size_alloc] at bN
 have hB0 : Below w.heap.size w (((w.alloc (.cells #[.string s] 9)).alloc (.cells #[.int .i64 0] 3)).alloc (.cells #[.slice a l.length cap] 41)) := (((Below.refl _ w).alloc (Nat.le_refl _) _).alloc (by simp) _).alloc (by simp; omega) _
 have hI2 : NmL (fun q => q < w.heap.size + 3) (((w.alloc (.cells #[.string s] 9)).alloc (.cells #[.int .i64 0] 3)).alloc (.cells #[.slice a l.length cap] 41)) l (.slice a l.length cap) := (hI.belowF hB0).mono (fun q _ h => by omega)
 refine wpIn_rangeFunc_ownG hro h1 (gf := 213) (lb := #[.pointer (some ⟨w.heap.size + 2, 0, none⟩)]) rfl h8 (enters_of Tryz.func213 (by kernel_rfl) rfl)
  (back_stops F (n - 1) h8 hro (by omega) (w.heap.size + 2) (w.heap.size + 3) l a cap hl (by omega) _ (by simp) bN.cell hI2) belowK_t (belowK_b (by simp)) (Below.refl _ _) (fun _ => rfl)
  (fun pre W => ((∀ p ∈ pre, p.2 ≠ s) ∧ W.cell? ⟨w.heap.size, 0, none⟩ = some (.string s) ∧ W.cell? ⟨w.heap.size + 1, 0, none⟩ = some (.int .i64 0) ∧ W.frozen? ⟨w.heap.size + 1, 0, none⟩ = false) ∧ Below w.heap.size w W)
  (fun c pre W => (c = .ret ∧ ∃ ini last, pre = ini ++ [last] ∧ (∀ p ∈ ini, p.2 ≠ s) ∧ last.2 = s ∧ W.cell? ⟨w.heap.size + 1, 0, none⟩ = some (.int .i64 (last.1 : Int))) ∧ Below w.heap.size w W)
  (OwnFrom.and (Own.from (fun s A B row hs hg hr => ⟨hs.1, cell_kept hs.2.1 hg hr, cell_kept hs.2.2.1 hg hr, (frozen_kept hs.2.2.1 hg hr).trans hs.2.2.2⟩) _) (ownFrom_below (Nat.le_refl _) (by simp; omega)))
  (fun c => OwnFrom.and (Own.from (fun s A B row hs hg hr => by obtain ⟨hc, ini, last, e1, e2, e3, e4⟩ := hs; exact ⟨hc, ini, last, e1, e2, e3, cell_kept e4 hg hr⟩) _) (ownFrom_below (Nat.le_refl _) (by simp; omega)))
  ⟨⟨by simp, ((bS.alloc _).alloc _).cell, (bR.alloc _).cell, (bR.alloc _).frozen⟩, hB0⟩
  (fun x => { tmps := #[.slice a l.length cap, .string s, undef, .pointer (some ⟨w.heap.size, 0, none⟩), .pointer (some ⟨w.heap.size + 1, 0, none⟩), .int .i64 (x.1 : Int), .string x.2, .slice a l.length cap, .func (.func 213) #[] #[.pointer (some ⟨w.heap.size + 2, 0, none⟩)], .int .i64 (x.1 : Int), .string x.2, undef, undef, undef, undef], defers := [] }) ?assign ?body ?done ?stop
 case assign =>
  intro l x W K hK
  gi_wp2
  exact hK
 case body =>
  rintro L pre x W ⟨⟨hp, hcs, hcr, hfr⟩, hB⟩ _
  have HP := Ld hp
  clear hp
  cases hx : (x.2.toList == s.toList)
  ·have hne : Hid (x.2 ≠ s) := Ld (by intro e; rw [e] at hx; simp at hx)
   gi_wp2
   exact ⟨KeepsFrom.refl _ _, Below.refl _ _, ⟨fun p hp' => (List.mem_append.1 hp').elim (HP.out p) (fun e => by simp at e; subst e; exact hne.out), hcs, hcr, hfr⟩, hB⟩
  ·have hye : Hid (x.2 = s) := Ld (by rw [nm_eq] at hx; exact of_decide_eq_true hx)
   gi_wp2
   exact ⟨(KeepsOthers.setCell _ _ _).from _, ⟨rfl, pre, x, rfl, HP.out, hye.out, World.cell?_setCell_same' _ _ _ (by rw [hcr]; rfl)⟩, hB.setCell (p := ⟨w.heap.size + 1, 0, none⟩) (by show w.heap.size ≤ w.heap.size + 1; omega) _⟩
 case done =>
  rintro D ys W hD rfl ⟨⟨hne, hcs, hcr, hfr⟩, hB⟩ hK
  have HNE := Ld hne
  clear hne
  gi_wp2
  have hK' := (KeepsOthers.setCell W ⟨w.heap.size + 1, 0, none⟩ (.int .i64 (-1))).same D _ hK rfl
  refine ⟨by simp, .inl ⟨_, _, rfl, run_takeDeferred hK', ?_⟩⟩
  have hc5 := cell_kept (World.cell?_setCell_same' W ⟨w.heap.size + 1, 0, none⟩ (.int .i64 (-1)) (by rw [hcr]; rfl)) (grownBy_putObj' _ D (.deferred none)) (fun r e => by cases e; exact ⟨_, hK', rfl⟩)
  have hno : lastI s l = -1 := lastI_no (fun j hj => by
   have := HNE.out _ (upto_mem (f := bwF l) (k := l.length) (j := l.length - (j + 1)) (by omega))
   rw [bwF_at hj] at this; exact this)
  refine ⟨.int .i64 (-1), ?_, by rw [hno], (hB.setCell (p := ⟨w.heap.size + 1, 0, none⟩) (by show w.heap.size ≤ w.heap.size + 1; omega) _).trans (belowK_b (w := w) (Nat.le_refl _) _ D _ _ (by simp at hD; omega) hK' rfl rfl)⟩
  simp [results, Tryz.f111, go_sem, hc5]
 case stop =>
  rintro D c pre W hD ⟨k, hk, rfl⟩ ⟨⟨rfl, ini, last, e1, e2, e3, hcr⟩, hB⟩ hK
  have E1 := Ld e1
  have E2 := Ld e2
  have E3 := Ld e3
  clear e1 e2 e3
  gi_wp2
  refine ⟨by simp, .inl ⟨_, _, rfl, run_takeDeferred hK, ?_⟩⟩
  have hc5 := cell_kept hcr (grownBy_putObj' _ D (.deferred none)) (fun r e => by cases e; exact ⟨_, hK, rfl⟩)
  have e1 := E1.out
  obtain ⟨k', rfl⟩ : ∃ k', k = k' + 1 := by
   cases k with
   | zero => simp [upto] at e1
   | succ k' => exact ⟨k', rfl⟩
  rw [upto_succ] at e1
  obtain ⟨e6, e5⟩ := List.append_inj' e1 rfl
  have e5 : bwF l k' = last := by simpa using e5
  have hm : bwF l k' = (l.length - (k' + 1), l[l.length - (k' + 1)]'(by omega)) := by
   have := bwF_at (l := l) (m := l.length - (k' + 1)) (by omega)
   rw [show l.length - (l.length - (k' + 1) + 1) = k' by omega] at this; exact this
  have hla : lastI s l = (last.1 : Int) := by
   have e7 := E3.out
   rw [← e5, hm] at e7 ⊢
   refine lastI_at (by omega) e7 (fun j hj hjm => ?_)
   have := E2.out (bwF l (l.length - (j + 1))) (by rw [← e6]; exact upto_mem (by omega))
   rw [bwF_at hj] at this; exact this
  refine ⟨.int .i64 (last.1 : Int), ?_, by rw [hla], hB.trans (belowK_b (w := w) (Nat.le_refl _) W D _ _ (by simp at hD; omega) hK rfl rfl)⟩
  simp [results, Tryz.f111, go_sem, hc5]
theorem last_any {ok : Nat → Prop} {w : World} {l : List ByteArray} {v : Value} (s : ByteArray) (h : NmL ok w l v) (hn : l.length ≤ 1000000) :
  Calls Tryz.prog 111 #[v, .string s] w fun e w' => e = .returned (.int .i64 (lastI s l)) ∧ Kept (fun _ => False) w w' := by
 obtain ⟨a, c, rfl⟩ := h.slice
 have h2 : NmL (fun q => q < w.heap.size) w l (.slice a l.length c) := by
  obtain ⟨a', n', c', h1, h2, h3, h5, h4⟩ := h
  refine ⟨a', n', c', h1, h2, h3, h5, fun i hi => ?_⟩
  obtain ⟨g, off, e, _, hc⟩ := h4 i hi
  exact ⟨g, off, e, cell_lt hc, hc⟩
 exact ((callsIn_wide (n := 3)).1 (last_in Fence.wide 3 trivial trivial trivial rfl (by omega) a c l s hn w h2)).mono fun e w' ⟨h1, h2⟩ => ⟨h1, .of_below h2⟩
end Go.Proofs.YtfhedienjnfdcaaGreatDoor
