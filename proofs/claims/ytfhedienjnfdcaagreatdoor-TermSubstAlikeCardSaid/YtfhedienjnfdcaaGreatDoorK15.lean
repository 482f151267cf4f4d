/- Texts UndW RowT RCpy RCps RCpt Cl2 SbP KyW CpyM Fmt Fre AppS Var NmQ of this proof, in one. -/
import Derived.Test.YtfhedienjnfdcaaGreatDoorK14
import Derived.Deep.RegionLaw
import Derived.Deep.RegionHeld3
import Derived.Shelf.SlIter.Collect
set_option linter.unusedVariables false
set_option linter.unusedSimpArgs false
set_option maxRecDepth 100000
set_option maxHeartbeats 32000000
namespace Go.Proofs.YtfhedienjnfdcaaGreatDoor
open Go.RowKit
def PrV (ok : Nat → Prop) (w : World) (σ : ByteArray → Option Tm) (f : ByteArray → Option Value) : Prop := ∀ s, match σ s with
 | none => f s = none
 | some u => ∃ ta tn tc pa pn pc, f s = some (tmVal u (.slice ta tn tc) (.slice pa pn pc)) ∧ TyL ok w u.ty.kids (.slice ta tn tc) ∧ TmL ok w u.kids (.slice pa pn pc)
def PrM (ok : Nat → Prop) (w : World) (b n : Nat) (σ : ByteArray → Option Tm) : Prop := ∃ f, MapF w b n f ∧ PrV ok w σ f
theorem PrV.frame {ok : Nat → Prop} {w W : World} {σ : ByteArray → Option Tm} {f : ByteArray → Option Value} (h : PrV ok w σ f) (hs : Same ok w W) : PrV ok W σ f := by
 intro s
 have h1 := h s
 cases hu : σ s with
 | none => rw [hu] at h1; exact h1
 | some u =>
  rw [hu] at h1
  obtain ⟨ta, tn, tc, pa, pn, pc, h1, h2, h3⟩ := h1
  exact ⟨ta, tn, tc, pa, pn, pc, h1, h2.frame hs, h3.frame hs⟩
theorem PrV.mono {ok ok' : Nat → Prop} {w : World} {σ : ByteArray → Option Tm} {f : ByteArray → Option Value} (h : PrV ok w σ f) (ho : ∀ k, k < w.heap.size → ok k → ok' k) : PrV ok' w σ f := by
 intro s
 have h1 := h s
 cases hu : σ s with
 | none => rw [hu] at h1; exact h1
 | some u =>
  rw [hu] at h1
  obtain ⟨ta, tn, tc, pa, pn, pc, h1, h2, h3⟩ := h1
  exact ⟨ta, tn, tc, pa, pn, pc, h1, h2.mono ho, h3.mono ho⟩
theorem PrV.at {ok : Nat → Prop} {w : World} {σ : ByteArray → Option Tm} {f : ByteArray → Option Value} (h : PrV ok w σ f) {s : ByteArray} {v : Value} (hv : f s = some v) : ∃ u ta tn tc pa pn pc, σ s = some u ∧ v = tmVal u (.slice ta tn tc) (.slice pa pn pc) ∧ TyL ok w u.ty.kids (.slice ta tn tc) ∧ TmL ok w u.kids (.slice pa pn pc) := by
 have h1 := h s
 cases hu : σ s with
 | none => rw [hu] at h1; rw [h1] at hv; cases hv
 | some u =>
  rw [hu] at h1
  obtain ⟨ta, tn, tc, pa, pn, pc, h1, h2, h3⟩ := h1
  rw [h1] at hv
  cases hv
  exact ⟨u, ta, tn, tc, pa, pn, pc, rfl, rfl, h2, h3⟩
theorem PrM.kept {ok : Nat → Prop} {w W : World} {b n : Nat} {σ : ByteArray → Option Tm} {S : Nat → Prop} (h : PrM ok w b n σ) (k : Kept S w W) (hb : ¬ S b) (ho : ∀ q, ok q → ¬ S q) : PrM ok W b n σ := by
 obtain ⟨f, h1, h2⟩ := h
 exact ⟨f, h1.kept k hb, h2.frame (Same.of_kept k ho)⟩
theorem PrM.some_iff {ok : Nat → Prop} {w : World} {σ : ByteArray → Option Tm} {f : ByteArray → Option Value} (h : PrV ok w σ f) (s : ByteArray) : (f s).isSome = (σ s).isSome := by
 have h1 := h s
 cases hu : σ s with
 | none => rw [hu] at h1; rw [h1]; rfl
 | some u => rw [hu] at h1; obtain ⟨_, _, _, _, _, _, h1, _⟩ := h1; rw [h1]; rfl
theorem u85 : Tryz.prog.underlying 85 = some (.map 9 28) := Tryz.underlying85
def undF (x : ByteArray) (B : ByteArray → Bool) (σ : ByteArray → Option Tm) : ByteArray → Option Tm := fun s => if !decide (s = x) && B s then σ s else none
theorem under_any {x : ByteArray} {B : ByteArray → Bool} {σ : ByteArray → Option Tm} {ok : Nat → Prop} {w : World} {b n c m : Nat} (hm : PrM ok w b n σ) (hc : MapF w c m (bagF B)) (hn : n ≤ 1000000) :
  Calls Tryz.prog 183 #[.map (some b), .string x, .map (some c)] w fun e w' => ∃ p, e = .returned (.map (some p)) ∧ w.heap.size ≤ p ∧ PrM (fun q => ok q ∧ q < w.heap.size) w' p n (undF x B σ) ∧ Kept (fun _ => False) w w' := by
 obtain ⟨f, hf, hv⟩ := hm
 have HV := Ld hv
 have HNN := Ld hn
 have hmm := @run_makeMap Tryz.prog
 have HF := Ld hf
 have HC := Ld hc
 have HL : Hid (b < w.heap.size ∧ c < w.heap.size) := Ld ⟨hf.lt, hc.lt⟩
 clear hf hc hn hv
 go_enter Tryz.func183, Tryz.ntmps183
 go_upto_region 2 with (fail)
 have M1 := Ld (MapF.made w)
 have K1 : Hid (Kept (fun _ => False) w (w.alloc (.map #[] 0))) := Ld ((Kept.refl _ _).alloc _)
 have Z1 : Hid ((w.alloc (.map #[] 0)).heap.size = w.heap.size + 1) := Ld (World.size_alloc _ _)
 generalize w.alloc (.map #[] 0) = w1 at *
 have F1 := Ld (HF.out.kept K1.out (fun e => e))
 go_wp2_with (at_range; refine wpList_rangeF rfl _ _ 28 rfl u85 rfl F1.out ?_; intro w2 cnt hR k2 z2 hcn)
 have M2 := Ld (M1.out.kept k2 (fun e => e))
 have KW2 := Ld (K1.out.trans k2)
 have HR := Ld hR
 have HCN : Hid (cnt ≤ 1000000 ∧ cnt ≤ n) := Ld (by have := HNN.out; omega)
 rw [Z1.out] at HR
 have Z2 : Hid (w2.heap.size = w.heap.size + 2) := Ld (by have := Z1.out; omega)
 have e1 := Z1.out
 rw [e1]
 clear hR k2 z2 hcn M1 K1 F1 e1
 go_frame
 go_loopw [] (fun wr => ∃ (cnt' k : Nat) (g : ByteArray → Bool), Kept (fun _ => False) w wr ∧ MapR wr b (w.heap.size + 1) n f g cnt' ∧ cnt' + k ≤ cnt ∧ (∀ s, g s = true → (f s).isSome = true) ∧ MapF wr w.heap.size k (fun s => if g s then none else if !decide (s = x) && B s then f s else none)) (fun wr => wr.rangeLeft b (w.heap.size + 1))
 case atStart =>
  refine ⟨cnt, 0, fun s => (f s).isSome, KW2.out, HR.out, Nat.le_refl _, fun _ h => h, ?_⟩
  have e : (fun s => if (f s).isSome then none else if !decide (s = x) && B s then f s else none) = fun _ => none := by
   funext s
   cases hs : f s <;> simp
  rw [e]
  exact M2.out
 case round =>
  obtain ⟨cnt', k, g, hk, hR', hle, hgs, hM⟩ := hrel
  have HK := Ld hk
  have HRR := Ld hR'
  have HM := Ld hM
  have HLE := Ld hle
  have HGS := Ld hgs
  clear hk hR' hle hM hgs HR M2 KW2 hmm
  go_wp2_with (at_next; refine wpList_nextF rfl _ rfl rfl HRR.out ?_ ?_)
  ·intro h0
   have HE : Hid (PrM (fun q => ok q ∧ q < w.heap.size) wr w.heap.size n (undF x B σ)) := Ld (by
    refine ⟨_, HM.out.mono (by have := HLE.out; have := HCN.out.2; omega), ?_⟩
    have hv := (HV.out.mono (ok' := fun q => ok q ∧ q < w.heap.size) (fun q h1 h2 => ⟨h2, h1⟩)).frame (sK HK.out)
    intro s
    have hg : g s = false := by
     cases hg : g s with
     | false => rfl
     | true => rw [h0 s (HRR.out.map.small (HGS.out s hg))] at hg; cases hg
    unfold undF
    simp only [hg, Bool.false_eq_true, if_false]
    cases hq : (!decide (s = x) && B s)
    ·simp
    ·simp only [if_true]
     exact hv s)
   go_wp2_with fail
   go_ret
   exact ⟨_, rfl, Nat.le_refl _, HE.out, HK.out⟩
  ·intro s v w3 cnt3 hs hg hfs hR3 hlt k3 z3 hen
   obtain ⟨u, ta, tn, tc, pa, pn, pc, hu, rfl, hty, htm⟩ := HV.out.at hfs
   unfold tmVal at hen hfs ⊢
   have KW3 := Ld (HK.out.via1 k3 (fun q hq e => by omega))
   have M3 := Ld (HM.out.kept k3 (fun e => by omega))
   have HR3 := Ld hR3
   have HLT := Ld hlt
   have HS := Ld hs
   have HG := Ld hg
   have HFS := Ld hfs
   have HLO := Ld HRR.out.left
   clear hu hty htm k3 hR3 hlt hg hfs hs HRR HM
   go_upto_region 5 with (fail)
   clear hen
   have bK := Ld (Blk.new w3 28 [.int .i64 u.op, .string u.name, .int .i64 u.n, .int .i64 u.ty.kind, .string u.ty.name, .slice ta tn tc, .slice pa pn pc])
   change Hid (Blk (w3.alloc (.cells #[.int .i64 u.op, .string u.name, .int .i64 u.n, .int .i64 u.ty.kind, .string u.ty.name, .slice ta tn tc, .slice pa pn pc] 28)) w3.heap.size _ _) at bK
   rw [z3] at bK
   have K4 : Hid (Kept (fun _ => False) w3 (w3.alloc (.cells #[.int .i64 u.op, .string u.name, .int .i64 u.n, .int .i64 u.ty.kind, .string u.ty.name, .slice ta tn tc, .slice pa pn pc] 28))) := Ld ((Kept.refl _ _).alloc _)
   generalize w3.alloc (.cells #[.int .i64 u.op, .string u.name, .int .i64 u.n, .int .i64 u.ty.kind, .string u.ty.name, .slice ta tn tc, .slice pa pn pc] 28) = w4 at *
   have KW4 := Ld (KW3.out.trans K4.out)
   have M4 := Ld (M3.out.kept K4.out (fun e => e))
   have HR4 := Ld (HR3.out.kept K4.out (fun e => e) (fun e => e))
   have hlk := (HC.out.kept KW4.out (fun e => e)).look u90 (z4 _) HS.out
   rw [bagF_get] at hlk
   have gB := bK.out.cell
   have HGN : Hid (∀ t, (g t && !decide (t = s)) = true → (f t).isSome = true) := Ld (fun t ht => HGS.out t (by rw [Bool.and_eq_true] at ht; exact ht.1))
   have HST : Hid (((!decide (s = x) && B s) = true) → updF (fun t => if g t then none else if !decide (t = x) && B t then f t else none) s (.agg #[.int .i64 u.op, .string u.name, .int .i64 u.n, .int .i64 u.ty.kind, .string u.ty.name, .slice ta tn tc, .slice pa pn pc]) = fun t => if g t && !decide (t = s) then none else if !decide (t = x) && B t then f t else none) := Ld (fun hq => by
    funext t
    unfold updF
    by_cases ht : t = s
    ·subst ht; simp only [if_true, decide_true, Bool.not_true, Bool.and_false, Bool.false_eq_true, if_false, hq]; exact HFS.out.symm
    ·simp [ht])
   have HSF : Hid (((!decide (s = x) && B s) = false) → (fun t => if g t then none else if !decide (t = x) && B t then f t else none) = fun t => if g t && !decide (t = s) then none else if !decide (t = x) && B t then f t else none) := Ld (fun hq => by
    funext t
    by_cases ht : t = s
    ·subst ht; simp only [decide_true, Bool.not_true, Bool.and_false, Bool.false_eq_true, if_false, hq, HG.out, if_true]
    ·simp [ht])
   have HX : Hid ((s.toList == x.toList) = decide (s = x)) := Ld nm_eq
   have HNK : Hid (k < maxLen) := Ld (by have := HLE.out; have := HCN.out.1; unfold maxLen; omega)
   clear M3 HR3 K4 KW3 HFS HGS
   cases hx : (s.toList == x.toList)
   ·have HX2 : Hid (decide (s = x) = false) := Ld (by rw [← HX.out]; exact hx)
    cases hB : B s
    ·have HSQ := Ld (HSF.out (by rw [hB]; simp))
     rw [hB] at hlk
     clear hB HSF HST
     go_wp2_with fail
     go_roundw
     case rel => exact ⟨cnt3, k, _, KW4.out, HR4.out, by have := HLE.out; have := HLT.out; omega, HGN.out, by rw [← HSQ.out]; exact M4.out⟩
     case measure => rw [HR4.out.left, HLO.out]; exact HLT.out
    ·have HSQ := Ld (HST.out (by rw [hB, HX2.out]; rfl))
     rw [hB] at hlk
     clear hB HSF HST
     go_wp2_with (at_mapUpdate; refine wpList_storeF rfl _ _ _ _ 28 rfl u85 rfl M4.out s rfl HS.out HNK.out (.agg #[.int .i64 u.op, .string u.name, .int .i64 u.n, .int .i64 u.ty.kind, .string u.ty.name, .slice ta tn tc, .slice pa pn pc]) rfl ?_; intro w5 hm5 k5; clear gB hlk)
     rw [HSQ.out] at hm5
     have KW5 := Ld (KW4.out.via1 k5 (fun q hq e => by omega))
     have HR5 := Ld (HR4.out.kept k5 (fun e => by have := HL.out.1; omega) (fun e => by omega))
     have HM5 := Ld hm5
     clear hm5 k5
     go_wp2_with fail
     go_frame
     go_roundw
     case rel => exact ⟨cnt3, k + 1, _, KW5.out, HR5.out, by have := HLE.out; have := HLT.out; omega, HGN.out, HM5.out⟩
     case measure => rw [HR5.out.left, HLO.out]; exact HLT.out
   ·have HX2 : Hid (decide (s = x) = true) := Ld (by rw [← HX.out]; exact hx)
    have HSQ := Ld (HSF.out (by rw [HX2.out]; rfl))
    clear HSF HST hlk
    go_wp2_with fail
    go_roundw
    case rel => exact ⟨cnt3, k, _, KW4.out, HR4.out, by have := HLE.out; have := HLT.out; omega, HGN.out, by rw [← HSQ.out]; exact M4.out⟩
    case measure => rw [HR4.out.left, HLO.out]; exact HLT.out
def okb (base : Nat) (v : Value) (q : Nat) : Prop := base ≤ q ∧ v.ownBlock ≠ some q
structure RowT (w : World) (base : Nat) (wr : World) (E : List E3) (v : Value) : Prop where
 kp : Kept (fun _ => False) w wr
 own : wr.ownsRow base 28 7 v E.length (flat E)
 el : EL (okb base v) wr E
theorem RowT.tml {w wr : World} {base : Nat} {E : List E3} {v : Value} (h : RowT w base wr E v) : TmL (fun q => base ≤ q) wr (E.map (·.1)) v :=
 tml_of_row' h.own (h.el.mono (fun _ _ h => h.1)) (fun g hg => (h.own.lt g hg).1)
theorem RowT.kept {w wr w' : World} {base : Nat} {E : List E3} {v : Value} (h : RowT w base wr E v) (k : Kept (fun _ => False) wr w') : RowT w base w' E v :=
 ⟨h.kp.trans k, own_keptT h.own k (fun _ _ h => h), h.el.frame (sK k)⟩
theorem RowT.nil {w wr : World} {base : Nat} (k : Kept (fun _ => False) w wr) : RowT w base wr [] (.slice none 0 0) := ⟨k, World.ownsRow_nil _ _ _ _, fun e he => by cases he⟩
theorem RowT.app {w wr w6 W8 : World} {base : Nat} {E F : List E3} {v : Value} {gg n cap H : Nat} (hb : w.heap.size ≤ base) (h : RowT w base wr E v) (k6 : Kept (fun _ => False) wr w6) (hbl : base ≤ wr.heap.size)
  (hF : EL (fun q => wr.heap.size ≤ q) w6 F)
  (own8 : W8.ownsRow base 28 7 (.slice (some ⟨gg, 0, none⟩) n cap) n (flat E ++ flat F)) (hn : n = E.length + F.length) (hgrow : w6.grownBy W8 v.ownBlock) (hat : v.ownBlock = some gg ∨ gg = H) (hH : H = w6.heap.size) :
  RowT w base W8 (E ++ F) (.slice (some ⟨gg, 0, none⟩) n cap) := by
 have kG := kept_grown hgrow
 have z6 := k6.size
 have zk := h.kp.size
 have hvb : ∀ x, v.ownBlock = some x → base ≤ x ∧ x < wr.heap.size := fun x e => h.own.lt x e
 refine ⟨(h.kp.trans k6).via kG (fun x hx e => by have := (hvb x e).1; omega), by rw [flat_app, List.length_append, ← hn]; exact own8, ?_⟩
 have e1 : EL (okb base v) w6 (E ++ F) := (h.el.frame (sK k6)).app (hF.mono (fun q _ hq => ⟨by omega, fun e => by have := (hvb q e).2; omega⟩))
 have e2 := e1.mono (ok' := fun q => okb base v q ∧ okb base (.slice (some ⟨gg, 0, none⟩) n cap) q) (fun q hq hh => ⟨hh, hh.1, fun e => by
  have e1 : gg = q := Option.some.inj e
  rcases hat with hat | hat
  ·exact hh.2 (by rw [hat, e1])
  ·omega⟩)
 exact (e2.frame (Same.of_kept kG (fun q hq e => hq.1.2 e))).mono (fun q _ hq => hq.2)
theorem RowT.step {w wr w6 W8 : World} {base : Nat} {E : List E3} {v tk kk : Value} {t : Tm} {gg cap H : Nat} (hb : w.heap.size ≤ base) (h : RowT w base wr E v) (k6 : Kept (fun _ => False) wr w6) (hbl : base ≤ wr.heap.size)
  (hty : TyL (fun q => wr.heap.size ≤ q) w6 t.ty.kids tk) (htm : TmL (fun q => wr.heap.size ≤ q) w6 t.kids kk)
  (own8 : W8.ownsRow base 28 7 (.slice (some ⟨gg, 0, none⟩) (E.length + 1) cap) (E.length + 1) (flat E ++ tmCells t tk kk)) (o : Obj) (hgrow : (w6.alloc o).grownBy W8 v.ownBlock) (hat : v.ownBlock = some gg ∨ gg = H) (hH : H = w6.heap.size + 1) :
  RowT w base W8 (E ++ [(t, tk, kk)]) (.slice (some ⟨gg, 0, none⟩) (E.length + 1) cap) := by
 refine RowT.app (w6 := w6.alloc o) (F := [(t, tk, kk)]) hb h (k6.alloc _) hbl ?_ (by show W8.ownsRow base 28 7 _ _ (flat E ++ (tmCells t tk kk ++ [])); rw [List.append_nil]; exact own8) rfl hgrow hat (by rw [hH]; simp)
 intro e he
 rw [List.mem_singleton.1 he]
 exact ⟨hty.frame (Same.alloc _ _), htm.frame (Same.alloc _ _)⟩
theorem RowT.one {w wr : World} {base g : Nat} {t : Tm} {tk kk : Value} (k : Kept (fun _ => False) w wr) (hb : Blk wr g 28 (tmCells t tk kk)) (hg : base ≤ g) (hty : TyL (fun q => base ≤ q ∧ q ≠ g) wr t.ty.kids tk) (htm : TmL (fun q => base ≤ q ∧ q ≠ g) wr t.kids kk) :
  RowT w base wr [(t, tk, kk)] (.slice (some ⟨g, 0, none⟩) 1 1) :=
 ⟨k, own_one hb hg, fun e he => by
  rw [List.mem_singleton.1 he]
  exact ⟨hty.mono (fun q _ h => ⟨h.1, fun e => h.2 (Option.some.inj e).symm⟩), htm.mono (fun q _ h => ⟨h.1, fun e => h.2 (Option.some.inj e).symm⟩)⟩⟩
def RCpC (t : Ty) : Prop := ∀ (w : World) (ok : Nat → Prop) (tk : Value), TyL ok w t.kids tk →
 Calls Tryz.prog 84 #[tyVal t tk] w fun e w' => ∃ v, e = .returned (tyVal t v) ∧ TyL (fun k => w.heap.size ≤ k) w' t.kids v ∧ Kept (fun _ => False) w w'
structure RC (w : World) (kd : Int) (nm : ByteArray) (l : List Ty) (a : Option Addr) (c k : Nat) (wr : World) (E : List E2) (v : Value) : Prop where
 kp : Kept (fun _ => False) w wr
 a : Blk wr w.heap.size 26 [.int .i64 kd, .string nm, .slice a l.length c]
 r : Blk wr (w.heap.size + 1) 26 [.int .i64 0, .string ⟨#[]⟩, .slice none 0 0]
 o : Blk wr (w.heap.size + 2) 26 [.int .i64 kd, .string nm, v]
 own : wr.ownsRow (w.heap.size + 3) 26 3 v E.length (flatY E)
 el : ELY (fun q => w.heap.size + 3 ≤ q ∧ v.ownBlock ≠ some q) wr E
 len : E.length = k
 mp : E.map (·.1) = l.take k
theorem RC.step {w wr w6 W8 : World} {kd : Int} {nm : ByteArray} {l : List Ty} {a : Option Addr} {c k : Nat} {E : List E2} {v u : Value} {va : Option Addr} {vn vc gg cap : Nat} (h : RC w kd nm l a c k wr E v) (hk : k < l.length) (k6 : Kept (fun _ => False) wr w6) (hu : TyL (fun q => wr.heap.size ≤ q) w6 l[k].kids u)
  (hv : v = .slice va vn vc) (o : Obj) (own8 : W8.ownsRow (w.heap.size + 3) 26 3 (.slice (some ⟨gg, 0, none⟩) (E.length + 1) cap) (E.length + 1) (flatY E ++ tyCells l[k] u)) (hgrow : (w6.alloc o).grownBy W8 v.ownBlock) (hat : v.ownBlock = some gg ∨ gg = w6.heap.size + 1) :
  RC w kd nm l a c (k + 1) (W8.setCell ⟨w.heap.size + 2, 2, none⟩ (.slice (some ⟨gg, 0, none⟩) (E.length + 1) cap)) (E ++ [(l[k], u)]) (.slice (some ⟨gg, 0, none⟩) (E.length + 1) cap) := by
 have kA : Kept (fun _ => False) wr (w6.alloc o) := k6.alloc _
 have kG := kept_grown hgrow
 have zA : (w6.alloc o).heap.size = w6.heap.size + 1 := by simp
 have z6 := k6.size
 have zr := h.o.lt
 have hg3 : w.heap.size + 3 ≤ gg := by
  have := (own8.lt gg rfl).1; exact this
 have hvb : ∀ x, v.ownBlock = some x → w.heap.size + 3 ≤ x ∧ x < wr.heap.size := fun x e => h.own.lt x e
 have kS : Kept (· = w.heap.size + 2) W8 (W8.setCell ⟨w.heap.size + 2, 2, none⟩ (.slice (some ⟨gg, 0, none⟩) (E.length + 1) cap)) := (Kept.refl (fun x => x = w.heap.size + 2) _).setCell (p := ⟨w.heap.size + 2, 2, none⟩) (Or.inl rfl) _
 refine ⟨((h.kp.trans kA).via kG (fun x hx e => by have := (hvb x e).1; omega)).via kS (fun x hx e => by have e' : x = w.heap.size + 2 := e; omega),
  ((h.a.kept kA (fun h => h)).kept kG (fun e => by have := (hvb _ e).1; omega)).kept kS (by show ¬ w.heap.size = w.heap.size + 2; omega),
  ((h.r.kept kA (fun h => h)).kept kG (fun e => by have := (hvb _ e).1; omega)).kept kS (by show ¬ w.heap.size + 1 = w.heap.size + 2; omega),
  ((h.o.kept kA (fun h => h)).kept kG (fun e => by have := (hvb _ e).1; omega)).set 2 _, ?_, ?_, by simp [h.len], ?_⟩
 ·have := own_keptT own8 kS (fun g hg e => by have e' : some gg = some g := hg; have e2 := Option.some.inj e'; have e3 : g = w.heap.size + 2 := e; omega)
  rw [flatY_snoc, List.length_append]; exact this
 ·have e1 : ELY (fun q => w.heap.size + 3 ≤ q ∧ v.ownBlock ≠ some q) w6 (E ++ [(l[k], u)]) := (h.el.frame (sK k6)).snoc (e := (l[k], u)) (hu.mono (fun q _ hq => ⟨by omega, fun e => by have := (hvb q e).2; omega⟩))
  have e2 := (e1.frame (Same.alloc _ o)).mono (ok' := fun q => (w.heap.size + 3 ≤ q ∧ v.ownBlock ≠ some q) ∧ w.heap.size + 3 ≤ q ∧ (Value.slice (some ⟨gg, 0, none⟩) (E.length + 1) cap).ownBlock ≠ some q) (fun q hq hh => ⟨hh, hh.1, fun e => by
   have e1 : gg = q := Option.some.inj e
   rcases hat with hat | hat
   ·exact hh.2 (by rw [hat, e1])
   ·omega⟩)
  exact ((e2.frame (Same.of_kept kG (fun q hq e => hq.1.2 e))).frame (Same.of_kept kS (fun q hq e => by have e' : q = w.heap.size + 2 := e; have := hq.1.1; omega))).mono (fun q _ hq => hq.2)
 ·rw [List.map_append, h.mp, List.take_succ_eq_append_getElem hk]; rfl
theorem rcopyTy_one {kd : Int} {nm : ByteArray} {l : List Ty} (IH : ∀ t, t ∈ l → RCpC t) (hn1 : l.length ≤ 1000000) : RCpC (.mk kd nm l) := by
 intro w ok tk hk
 obtain ⟨a, n, c, rfl⟩ := hk.slice
 have hn : n = l.length := hk.len
 subst hn
 have hk' : TyL ok w l (.slice a l.length c) := hk
 clear hk
 have HIH := Ld IH
 have HN1 := Ld hn1
 clear IH hn1
 have HAT := Ld (fun W (k : Kept (fun _ => False) w W) => (hk'.frame (sK k)).at)
 clear hk'
 change Calls Tryz.prog 84 #[.agg #[.int .i64 kd, .string nm, .slice a l.length c]] w _
 have b3 := Blk.new' (w := (w.alloc (.cells #[.int .i64 kd, .string nm, .slice a l.length c] 26)).alloc (.cells #[.int .i64 0, .string ⟨#[]⟩, .slice none 0 0] 26)) (g := w.heap.size + 2) 26 [.int .i64 kd, .string nm, .slice none 0 0] (by simp)
 have bA := (((Blk.new w 26 [.int .i64 kd, .string nm, .slice a l.length c]).alloc (.cells #[.int .i64 0, .string ⟨#[]⟩, .slice none 0 0] 26)).alloc (.cells #[.int .i64 kd, .string nm, .slice none 0 0] 26))
 have bR := ((Blk.new' (w := w.alloc (.cells #[.int .i64 kd, .string nm, .slice a l.length c] 26)) (g := w.heap.size + 1) 26 [.int .i64 0, .string ⟨#[]⟩, .slice none 0 0] (by simp)).alloc (.cells #[.int .i64 kd, .string nm, .slice none 0 0] 26))
 have K0 : Kept (fun _ => False) w (((w.alloc (.cells #[.int .i64 kd, .string nm, .slice a l.length c] 26)).alloc (.cells #[.int .i64 0, .string ⟨#[]⟩, .slice none 0 0] 26)).alloc (.cells #[.int .i64 kd, .string nm, .slice none 0 0] 26)) := (((Kept.refl _ _).alloc _).alloc _).alloc _
 have HRC : Hid (RC w kd nm l a c 0 (((w.alloc (.cells #[.int .i64 kd, .string nm, .slice a l.length c] 26)).alloc (.cells #[.int .i64 0, .string ⟨#[]⟩, .slice none 0 0] 26)).alloc (.cells #[.int .i64 kd, .string nm, .slice none 0 0] 26)) [] (.slice none 0 0)) := Ld
  ⟨K0, bA, bR, b3, World.ownsRow_nil _ _ _ _, (fun e he => by cases he), rfl, by simp⟩
 clear b3 bA bR K0
 go_enter Tryz.func84, Tryz.ntmps84
 go_wp2_with fail
 go_loopw [4] (fun i wr => ∃ (k : Nat) (E : List E2) (v : Value), k ≤ l.length ∧ i = .int .i64 k ∧ RC w kd nm l a c k wr E v) (fun i _ => l.length - (intOf i).toNat)
 case atStart => exact ⟨0, [], _, Nat.zero_le _, rfl, HRC.out⟩
 case round =>
  clear HRC
  obtain ⟨k, E, v, hkl, rfl, h⟩ := hrel
  obtain ⟨va, vn, vc, rfl⟩ := (tyl_of_row (ok := fun _ => True) h.own (h.el.mono (fun _ _ _ => trivial)) (fun _ _ => trivial)).slice
  have gA : ∀ i, wr.cell? ⟨w.heap.size, i, none⟩ = [Value.int .i64 kd, .string nm, .slice a l.length c][i]? := h.a.cell
  have gO : ∀ i, wr.cell? ⟨w.heap.size + 1 + 1, i, none⟩ = [Value.int .i64 kd, .string nm, .slice va vn vc][i]? := h.o.cell
  have gR : ∀ i, wr.cell? ⟨w.heap.size + 1, i, none⟩ = [Value.int .i64 0, .string ⟨#[]⟩, .slice none 0 0][i]? := h.r.cell
  have fO : ∀ i, wr.frozen? ⟨w.heap.size + 1 + 1, i, none⟩ = false := h.o.frozen
  have fR : ∀ i, wr.frozen? ⟨w.heap.size + 1, i, none⟩ = false := h.r.frozen
  have lO := h.o.lt
  have H := Ld h
  clear h
  by_cases hlt : k < l.length
  ·have hn2 := HN1.out
   have i1 : (k : Int) < (l.length : Int) := by omega
   have i2 : (k : Int) < 1000000 := by omega
   obtain ⟨g, off, ta, tn, tc, rfl, _, lg, ⟨c0, c1, c2⟩, hty⟩ := HAT.out wr H.out.kp k hlt
   have hcon := Ld ((HIH.out _ (List.getElem_mem hlt)) wr.drew ok _ (hty.frame (Same.drew _)))
   unfold tyVal at hcon
   have hlen := Ld H.out.len
   have hmx : Hid (E.length + 1 ≤ maxLen) := Ld (by have := hlen.out; unfold maxLen; omega)
   have hby : Hid ((E.length + 1) * 48 ≤ 140737488355328) := Ld (by have := hlen.out; omega)
   obtain ⟨i26, hi26, hz26, hs26, hb26⟩ := info_ty
   have HI26 := Ld hi26
   have HZ26 := Ld hz26
   have HS26 := Ld hs26
   have HB26 := Ld hb26
   clear hty hn2 hi26 hz26 hs26 hb26
   go_upto_region 5 with (fail)
   go_region_law (first | (refine step_append_lies _ (by rfl) _ _ _ (by rfl) (w.heap.size + 3) 26 i26 _ 3 48 Tryz.underlying24 HI26.out HZ26.out HS26.out HB26.out rfl (by decide) (.slice va vn vc) E.length (flatY E) (by rfl) (own6.alloc _) ⟨w6.heap.size, 0, none⟩ 1 1 (tyCells l[k] (.slice ua un uc)) (by rfl) rfl (newsT (Blk.new w6 26 (tyCells l[k] (.slice ua un uc)))) oneY (by omega) hmx.out hby.out (by simp; omega) (w6.heap.size + 1) (by simp) ?_; intro gg cap w8 own8 hgrow hatg hltg; have hO8 := (hO6.alloc (.cells #[.int .i64 l[k].kind, .string l[k].name, .slice ua un uc] 26)).kept (kept_grown hgrow) (fun e => hvS e); have q8 : w8.cell? ⟨w.heap.size + 1 + 1, 2, none⟩ = some (.slice va vn vc) := hO8.cell 2; have f8 : w8.frozen? ⟨w.heap.size + 1 + 1, 2, none⟩ = false := hO8.frozen 2) | (go_simp; go_at_call 84; refine hcon.out.mono ?_; rintro e w6 ⟨u, rfl, hu, k6'⟩; obtain ⟨ua, un, uc, rfl⟩ := hu.slice; have k6 : Kept (fun _ => False) wr w6 := ((Kept.refl _ _).drew).trans k6'; have hO6 := H.out.o.kept k6 (fun h => h); have own6 := own_keptT H.out.own k6 (fun _ _ h => h); have gO6 : ∀ i, w6.cell? ⟨w.heap.size + 1 + 1, i, none⟩ = [Value.int .i64 kd, .string nm, .slice va vn vc][i]? := hO6.cell; have hvS : (Value.slice va vn vc).ownBlock ≠ some (w.heap.size + 2) := (fun e => by have := (own6.lt _ e).1; omega); have l6 := hO6.lt))
   all_goals
    have HX := Ld (RC.step H.out hlt k6 (hu.mono (fun q _ h => h)) rfl _ own8 hgrow hatg)
    clear hO6 hO8 own6 own8 hgrow hu k6' hcon
    go_wp2_with fail
    go_roundw
    case rel => exact ⟨k + 1, _, _, by omega, by go_num, HX.out⟩
    case measure => simp [intOf]; omega
  ·have hkk : k = l.length := by omega
   subst hkk
   go_wp2_with fail
   have bF := r3' (x := .int .i64 kd) (y := .string nm) (z := .slice va vn vc) H.out.r rfl
   have hml := tyl_of_row (ok := fun q => w.heap.size + 3 ≤ q) H.out.own (H.out.el.mono (fun _ _ h => h.1)) (fun g hg => (H.out.own.lt g hg).1)
   rw [H.out.mp, List.take_length] at hml
   refine bodyPost_ret (results_one Tryz.results84 rfl (load_ty (t := .mk kd nm l) bF)) rfl ⟨_, rfl, ?_, ?_⟩
   ·exact (hml.frame (set3 (g := w.heap.size + 1) (fun q h => by omega))).mono (fun q _ h => by omega)
   ·exact ((H.out.kp.setCell (p := ⟨w.heap.size + 1, 0, none⟩) (Or.inr (by show w.heap.size ≤ w.heap.size + 1; omega)) _).setCell (p := ⟨w.heap.size + 1, 1, none⟩) (Or.inr (by show w.heap.size ≤ w.heap.size + 1; omega)) _).setCell (p := ⟨w.heap.size + 1, 2, none⟩) (Or.inr (by show w.heap.size ≤ w.heap.size + 1; omega)) _
theorem rcopyTy_any {t : Ty} (hb : BdTy t) : RCpC t := by
 induction hb with
 | mk hn hl ih => exact rcopyTy_one ih hn
def CpyP (t : Tm) (w : World) (e : Ending) (w' : World) : Prop := ∃ (tk : Value) (E : List E3) (kk : Value), e = .returned (tmVal t tk kk) ∧ TyL (okb w.heap.size kk) w' t.ty.kids tk ∧ RowT w w.heap.size w' E kk ∧ E.map (·.1) = t.kids
def RClC (t : Tm) : Prop := ∀ (w : World) (ok : Nat → Prop) (tk kk : Value), TyL ok w t.ty.kids tk → TmL ok w t.kids kk → Calls Tryz.prog 42 #[tmVal t tk kk] w (CpyP t w)
theorem rcopies_any {l : List Tm} {ok : Nat → Prop} {w : World} {a : Option Addr} {n c : Nat} (IH : ∀ t, t ∈ l → RClC t) (hn1 : l.length ≤ 1000000) (hk : TmL ok w l (.slice a n c)) :
  Calls Tryz.prog 85 #[.slice a n c] w fun e w' => ∃ (E : List E3) (v : Value), e = .returned v ∧ RowT w w.heap.size w' E v ∧ E.map (·.1) = l := by
 have hn : n = l.length := hk.len
 subst hn
 have HIH := Ld IH
 have HN1 := Ld hn1
 have HAT := Ld (fun W (k : Kept (fun _ => False) w W) => (hk.frame (sK k)).at)
 clear IH hn1 hk
 go_enter Tryz.func85, Tryz.ntmps85
 go_wp2_with fail
 go_loopw [3, 4] (fun v i wr => ∃ (k : Nat) (E : List E3), k ≤ l.length ∧ i = .int .i64 k ∧ RowT w w.heap.size wr E v ∧ E.map (·.1) = l.take k) (fun v i _ => l.length - (intOf i).toNat)
 case atStart => exact ⟨0, [], Nat.zero_le _, rfl, RowT.nil (Kept.refl _ _), by simp⟩
 case round =>
  obtain ⟨k, E, hkl, rfl, h, hmp⟩ := hrel
  obtain ⟨va, vn, vc, rfl⟩ := h.tml.slice
  have hEk : E.length = k := by have := congrArg List.length hmp; simpa [Nat.min_eq_left hkl] using this
  have H := Ld h
  have HM := Ld hmp
  have HE := Ld hEk
  clear h hmp hEk
  by_cases hlt : k < l.length
  ·have hn2 := HN1.out
   have i1 : (k : Int) < (l.length : Int) := by omega
   have i2 : (k : Int) < 1000000 := by omega
   obtain ⟨g, off, ta, tn, tc, ma, mn, mc, rfl, _, lg, ⟨c0, c1, c2, c3, c4, c5, c6⟩, hty, htm⟩ := HAT.out wr H.out.kp k hlt
   have hcon := Ld ((HIH.out _ (List.getElem_mem hlt)) wr ok _ _ hty htm)
   unfold tmVal at hcon
   obtain ⟨i28, hi28, hz28, hs28, hb28⟩ := info_tm
   have HI := Ld hi28
   have HZ := Ld hz28
   have HS := Ld hs28
   have HB := Ld hb28
   clear hty htm hn2 hi28 hz28 hs28 hb28
   go_wp2_with fail
   refine hcon.out.mono ?_
   rintro e w6 ⟨tk, F, kk, rfl, hty6, hr6, hm6⟩
   have htm6 : TmL (fun q => wr.heap.size ≤ q) w6 l[k].kids kk := by rw [← hm6]; exact hr6.tml
   obtain ⟨ua, un, uc, rfl⟩ := hty6.slice
   obtain ⟨ud, ue, uf, rfl⟩ := htm6.slice
   have k6 := hr6.kp
   have H6 := H.out.kept k6
   unfold tmVal
   go_wp2_with (at_builtin; refine wpList_append_lies _ rfl _ _ _ rfl w.heap.size 28 i28 _ 7 104 Tryz.underlying22 HI.out HZ.out HS.out HB.out rfl (by decide) (.slice va vn vc) E.length (flat E) rfl (H6.own.alloc _) ⟨w6.heap.size, 0, none⟩ 1 1 (tmCells l[k] (.slice ua un uc) (.slice ud ue uf)) rfl rfl (newsT (Blk.new w6 28 (tmCells l[k] (.slice ua un uc) (.slice ud ue uf)))) oneT (by omega) ?_ ?_ ?_ (w6.heap.size + 1) (by simp) ?_)
   ·have := HE.out; unfold maxLen; omega
   ·have := HE.out; omega
   ·have := H6.kp.size; simp; omega
   ·intro gg cap w8 own8 hgrow hatg hltg
    have HX := Ld (RowT.step (Nat.le_refl _) H.out k6 H.out.kp.size (hty6.mono (fun q _ h => h.1)) htm6 own8 _ hgrow hatg rfl)
    clear own8 hgrow hty6 hr6 htm6 H6
    go_wp2_with fail
    go_roundw
    case rel => exact ⟨k + 1, _, by omega, by go_num, HX.out, by rw [List.map_append, HM.out, List.take_succ_eq_append_getElem hlt]; rfl⟩
    case measure => simp [intOf]; omega
  ·have hkk : k = l.length := by omega
   subst hkk
   go_wp2_with fail
   go_ret
   exact ⟨E, _, rfl, H.out, by rw [HM.out, List.take_length]⟩
structure CT (w : World) (op : Int) (nm : ByteArray) (N : Int) (ty : Ty) (tk kk v : Value) (O : Nat) (W : World) : Prop where
 kp : Kept (fun _ => False) w W
 a : Blk W w.heap.size 28 [.int .i64 op, .string nm, .int .i64 N, .int .i64 ty.kind, .string ty.name, tk, kk]
 r : Blk W (w.heap.size + 1) 28 z27
 o : Blk W O 28 [.int .i64 op, .string nm, .int .i64 N, .int .i64 ty.kind, .string ty.name, v, .slice none 0 0]
 ho : w.heap.size + 2 ≤ O
 ty : TyL (fun q => w.heap.size + 2 ≤ q ∧ q ≠ O) W ty.kids v
theorem CT.late {w w4 : World} {op : Int} {nm : ByteArray} {N : Int} {ty : Ty} {tk kk v : Value} (K : Kept (fun _ => False) w w4) (bA : Blk w4 w.heap.size 28 [.int .i64 op, .string nm, .int .i64 N, .int .i64 ty.kind, .string ty.name, tk, kk]) (bR : Blk w4 (w.heap.size + 1) 28 z27) (hv : TyL (fun q => w.heap.size + 2 ≤ q) w4 ty.kids v) :
  CT w op nm N ty tk kk v w4.heap.size (w4.alloc (.cells #[.int .i64 op, .string nm, .int .i64 N, .int .i64 ty.kind, .string ty.name, v, .slice none 0 0] 28)) :=
 ⟨K.alloc _, bA.alloc _, bR.alloc _, Blk.new w4 28 _, by have := bR.lt; omega, (hv.mono (fun q hq h => ⟨h, by omega⟩)).frame (Same.alloc _ _)⟩
theorem CT.early {w w4 : World} {op : Int} {nm : ByteArray} {N : Int} {ty : Ty} {tk kk v : Value} {O : Nat} (K : Kept (fun _ => False) w w4) (bA : Blk w4 w.heap.size 28 [.int .i64 op, .string nm, .int .i64 N, .int .i64 ty.kind, .string ty.name, tk, kk]) (bR : Blk w4 (w.heap.size + 1) 28 z27) (bO : Blk w4 O 28 z27) (ho : w.heap.size + 2 ≤ O) (hv : TyL (fun q => w.heap.size + 2 ≤ q ∧ q ≠ O) w4 ty.kids v) :
  CT w op nm N ty tk kk v O (((((((w4.setCell ⟨O, 0, none⟩ (.int .i64 op)).setCell ⟨O, 1, none⟩ (.string nm)).setCell ⟨O, 2, none⟩ (.int .i64 N)).setCell ⟨O, 3, none⟩ (.int .i64 ty.kind)).setCell ⟨O, 4, none⟩ (.string ty.name)).setCell ⟨O, 5, none⟩ v).setCell ⟨O, 6, none⟩ (.slice none 0 0)) := by
 have n1 : w.heap.size ≠ O := by omega
 have n2 : w.heap.size + 1 ≠ O := by omega
 exact ⟨k7w K (Or.inr (by omega)), ((((((bA.set_other _ _ n1).set_other _ _ n1).set_other _ _ n1).set_other _ _ n1).set_other _ _ n1).set_other _ _ n1).set_other _ _ n1, ((((((bR.set_other _ _ n2).set_other _ _ n2).set_other _ _ n2).set_other _ _ n2).set_other _ _ n2).set_other _ _ n2).set_other _ _ n2, r7 bO rfl, ho, hv.frame (set7 (fun q hq => hq.2))⟩
theorem CT.kept {w W W' : World} {op : Int} {nm : ByteArray} {N : Int} {ty : Ty} {tk kk v : Value} {O : Nat} (h : CT w op nm N ty tk kk v O W) (k : Kept (fun _ => False) W W') : CT w op nm N ty tk kk v O W' :=
 ⟨h.kp.trans k, h.a.kept k (fun h => h), h.r.kept k (fun h => h), h.o.kept k (fun h => h), h.ho, h.ty.frame (sK k)⟩
theorem CT.done {w W : World} {op : Int} {nm : ByteArray} {N : Int} {ty : Ty} {l : List Tm} {tk kk v u : Value} {O : Nat} {E : List E3} {base : Nat} (h : CT w op nm N ty tk kk v O W) (hb : base ≤ W.heap.size) (hO : O < base) (hu : W.ownsRow base 28 7 u E.length (flat E)) (hel : EL (okb base u) W E) (hm : E.map (·.1) = l) (hv : TyL (fun q => w.heap.size + 2 ≤ q ∧ q ≠ O ∧ u.ownBlock ≠ some q) W ty.kids v) (W2 : World)
  (hW2 : W2 = (((((((W.setCell ⟨O, 6, none⟩ u).setCell ⟨w.heap.size + 1, 0, none⟩ (.int .i64 op)).setCell ⟨w.heap.size + 1, 1, none⟩ (.string nm)).setCell ⟨w.heap.size + 1, 2, none⟩ (.int .i64 N)).setCell ⟨w.heap.size + 1, 3, none⟩ (.int .i64 ty.kind)).setCell ⟨w.heap.size + 1, 4, none⟩ (.string ty.name)).setCell ⟨w.heap.size + 1, 5, none⟩ v).setCell ⟨w.heap.size + 1, 6, none⟩ u) :
  Blk W2 (w.heap.size + 1) 28 (tmCells (.mk op nm N ty l) v u) ∧ TyL (okb w.heap.size u) W2 ty.kids v ∧ RowT w w.heap.size W2 E u := by
 subst hW2
 have n1 : w.heap.size + 1 ≠ O := by have := h.ho; omega
 have hub : ∀ g, u.ownBlock = some g → base ≤ g := fun g hg => (hu.lt g hg).1
 have kS : Kept (fun q => q = O ∨ q = w.heap.size + 1) W ((((((((W.setCell ⟨O, 6, none⟩ u).setCell ⟨w.heap.size + 1, 0, none⟩ (.int .i64 op)).setCell ⟨w.heap.size + 1, 1, none⟩ (.string nm)).setCell ⟨w.heap.size + 1, 2, none⟩ (.int .i64 N)).setCell ⟨w.heap.size + 1, 3, none⟩ (.int .i64 ty.kind)).setCell ⟨w.heap.size + 1, 4, none⟩ (.string ty.name)).setCell ⟨w.heap.size + 1, 5, none⟩ v).setCell ⟨w.heap.size + 1, 6, none⟩ u) :=
  k7w ((Kept.refl (fun q => q = O ∨ q = w.heap.size + 1) W).setCell (p := ⟨O, 6, none⟩) (Or.inl (Or.inl rfl)) u) (Or.inl (Or.inr rfl))
 have hho := h.ho
 refine ⟨r7 (h.r.set_other ⟨O, 6, none⟩ u n1) rfl, (hv.frame (Same.of_kept kS (fun q hq e => by rcases e with e | e <;> omega))).mono (fun q _ hq => ⟨by omega, hq.2.2⟩), k7w (h.kp.setCell (p := ⟨O, 6, none⟩) (Or.inr (by show w.heap.size ≤ O; omega)) u) (Or.inr (by omega)), ?_, ?_⟩
 ·exact own_base (own_keptT hu kS (fun g hg e => by have := hub g hg; rcases e with e | e <;> omega)) (fun g hg => by have := hub g hg; omega)
 ·exact (hel.frame (Same.of_kept kS (fun q hq e => by have := hq.1; rcases e with e | e <;> omega))).mono (fun q _ hq => ⟨by have := hq.1; omega, hq.2⟩)
theorem rcopy_one {op : Int} {nm : ByteArray} {N : Int} {ty : Ty} {l : List Tm} (hty : BdTy ty) (IH : ∀ u, u ∈ l → RClC u) (hn : l.length ≤ 1000000) : RClC (.mk op nm N ty l) := by
 intro w ok tk kk h1 h2
 have h1 : TyL ok w ty.kids tk := h1
 have h2 : TmL ok w l kk := h2
 obtain ⟨a, n, c, rfl⟩ := h1.slice
 obtain ⟨ma, mn, mc, rfl⟩ := h2.slice
 have HT := Ld (fun W (k : Kept (fun _ => False) w W) => rcopyTy_any hty W ok _ (h1.frame (sK k)))
 have HK := Ld (fun W (k : Kept (fun _ => False) w W) => rcopies_any IH hn (h2.frame (sK k)))
 unfold tyVal at HT
 change Calls Tryz.prog 42 #[.agg #[.int .i64 op, .string nm, .int .i64 N, .int .i64 ty.kind, .string ty.name, .slice a n c, .slice ma mn mc]] w _
 clear h1 h2 IH
 have bA : Blk ((w.alloc (.cells #[.int .i64 op, .string nm, .int .i64 N, .int .i64 ty.kind, .string ty.name, .slice a n c, .slice ma mn mc] 28)).alloc Z7) w.heap.size 28 [.int .i64 op, .string nm, .int .i64 N, .int .i64 ty.kind, .string ty.name, .slice a n c, .slice ma mn mc] := (Blk.new w 28 _).alloc _
 have bR : Blk ((w.alloc (.cells #[.int .i64 op, .string nm, .int .i64 N, .int .i64 ty.kind, .string ty.name, .slice a n c, .slice ma mn mc] 28)).alloc Z7) (w.heap.size + 1) 28 z27 := Blk.new' 28 _ (by simp)
 have K0 : Kept (fun _ => False) w ((w.alloc (.cells #[.int .i64 op, .string nm, .int .i64 N, .int .i64 ty.kind, .string ty.name, .slice a n c, .slice ma mn mc] 28)).alloc Z7) := ((Kept.refl _ _).alloc _).alloc _
 go_enter Tryz.func42, Tryz.ntmps42
 go_upto_region 1 with (fail)
 refine wp_gen (F := fun W3 => Kept (fun _ => False) w W3 ∧ W3.heap.size = w.heap.size + 2 ∧ Blk W3 w.heap.size 28 [.int .i64 op, .string nm, .int .i64 N, .int .i64 ty.kind, .string ty.name, .slice a n c, .slice ma mn mc] ∧ Blk W3 (w.heap.size + 1) 28 z27) ⟨K0, by simp, bA, bR⟩ ?_
 clear K0 bA bR
 rintro w1 ⟨K1, z1, bA, bR⟩
 have gA : ∀ i, w1.cell? ⟨w.heap.size, i, none⟩ = [Value.int .i64 op, .string nm, .int .i64 N, .int .i64 ty.kind, .string ty.name, .slice a n c, .slice ma mn mc][i]? := bA.cell
 have Z1 := Ld z1
 have KK1 := Ld K1
 have BA := Ld bA
 have BR := Ld bR
 have lA := bA.lt
 have lR := bR.lt
 have nA : w.heap.size ≠ w1.heap.size := by omega
 have nA2 : w1.heap.size ≠ w.heap.size := by omega
 clear z1 K1 bA bR
 have x0 : w1.cell? ⟨w.heap.size, 0, none⟩ = some (.int .i64 op) := gA 0
 have x1 : w1.cell? ⟨w.heap.size, 1, none⟩ = some (.string nm) := gA 1
 have x2 : w1.cell? ⟨w.heap.size, 2, none⟩ = some (.int .i64 N) := gA 2
 have x3 : w1.cell? ⟨w.heap.size, 3, none⟩ = some (.int .i64 ty.kind) := gA 3
 have x4 : w1.cell? ⟨w.heap.size, 4, none⟩ = some (.string ty.name) := gA 4
 have x5 : w1.cell? ⟨w.heap.size, 5, none⟩ = some (.slice a n c) := gA 5
 go_region_held3 (fun w' => w'.cell? ⟨w.heap.size, 0, none⟩ = some (.int .i64 op) ∧ w'.cell? ⟨w.heap.size, 1, none⟩ = some (.string nm) ∧ w'.cell? ⟨w.heap.size, 2, none⟩ = some (.int .i64 N) ∧ w'.cell? ⟨w.heap.size, 3, none⟩ = some (.int .i64 ty.kind) ∧ w'.cell? ⟨w.heap.size, 4, none⟩ = some (.string ty.name) ∧ w'.cell? ⟨w.heap.size, 5, none⟩ = some (.slice a n c)) (go_keep) (first | (go_at_call 84; refine (HT.out _ (by first | exact KK1.out.drew | exact KK1.out.drew.alloc _ | exact (KK1.out.alloc _).drew)).mono ?_; rintro e w4 ⟨v, rfl, hv, k4⟩; obtain ⟨va, vn, vc, rfl⟩ := hv.slice; have k5 : Kept (fun _ => False) w1 w4 := (by first | exact (Kept.refl _ _).drew.trans k4 | exact ((Kept.refl _ _).drew.alloc _).trans k4); have lA4 := (BA.out.kept k5 (fun h => h)).lt; (try (have bO : Blk w4 w1.heap.size 28 [.int .i64 0, .string ⟨#[]⟩, .int .i64 0, .int .i64 0, .string ⟨#[]⟩, .slice none 0 0, .slice none 0 0] := (by first | exact ((Blk.new w1 28 [.int .i64 0, .string ⟨#[]⟩, .int .i64 0, .int .i64 0, .string ⟨#[]⟩, .slice none 0 0, .slice none 0 0]).drew).kept k4 (fun h => h) | exact (Blk.new w1.drew 28 [.int .i64 0, .string ⟨#[]⟩, .int .i64 0, .int .i64 0, .string ⟨#[]⟩, .slice none 0 0, .slice none 0 0]).kept k4 (fun h => h)); have gO : ∀ i, w4.cell? ⟨w1.heap.size, i, none⟩ = [Value.int .i64 0, .string ⟨#[]⟩, .int .i64 0, .int .i64 0, .string ⟨#[]⟩, .slice none 0 0, .slice none 0 0][i]? := bO.cell; have fO : ∀ i, w4.frozen? ⟨w1.heap.size, i, none⟩ = false := bO.frozen; have lO := bO.lt)); have y0 : w4.cell? ⟨w.heap.size, 0, none⟩ = some (.int .i64 op) := (BA.out.kept k5 (fun h => h)).cell 0; have y1 : w4.cell? ⟨w.heap.size, 1, none⟩ = some (.string nm) := (BA.out.kept k5 (fun h => h)).cell 1; have y2 : w4.cell? ⟨w.heap.size, 2, none⟩ = some (.int .i64 N) := (BA.out.kept k5 (fun h => h)).cell 2; have y3 : w4.cell? ⟨w.heap.size, 3, none⟩ = some (.int .i64 ty.kind) := (BA.out.kept k5 (fun h => h)).cell 3; have y4 : w4.cell? ⟨w.heap.size, 4, none⟩ = some (.string ty.name) := (BA.out.kept k5 (fun h => h)).cell 4; have y5 : w4.cell? ⟨w.heap.size, 5, none⟩ = some (.slice a n c) := (BA.out.kept k5 (fun h => h)).cell 5))
 all_goals
  first
  | (have HX := Ld (CT.late (KK1.out.trans k5) (BA.out.kept k5 (fun h => h)) (BR.out.kept k5 (fun h => h)) (hv.mono (fun q _ hq => by have := Z1.out; have hq2 : w1.heap.size ≤ q := hq; omega)))
     generalize hOO : w4.heap.size = O at *
     generalize w4.alloc (.cells #[.int .i64 op, .string nm, .int .i64 N, .int .i64 ty.kind, .string ty.name, .slice va vn vc, .slice none 0 0] 28) = w5 at *
     clear hOO)
  | (have HX := Ld (CT.early (O := w1.heap.size) (KK1.out.trans k5) (BA.out.kept k5 (fun h => h)) (BR.out.kept k5 (fun h => h)) bO (by have := Z1.out; omega) (hv.mono (fun q _ hq => by have := Z1.out; have hq2 : w1.heap.size + 1 ≤ q := (by simpa using hq); omega)))
     generalize hOO : w1.heap.size = O at *
     generalize (((((((w4.setCell ⟨O, 0, none⟩ (.int .i64 op)).setCell ⟨O, 1, none⟩ (.string nm)).setCell ⟨O, 2, none⟩ (.int .i64 N)).setCell ⟨O, 3, none⟩ (.int .i64 ty.kind)).setCell ⟨O, 4, none⟩ (.string ty.name)).setCell ⟨O, 5, none⟩ (.slice va vn vc)).setCell ⟨O, 6, none⟩ (.slice none 0 0)) = w5 at *
     clear hOO)
 all_goals
  have h6 : Hid (Calls Tryz.prog 85 #[.slice ma mn mc] w5 fun e w' => ∃ (E : List E3) (v : Value), e = .returned v ∧ RowT w5 w5.heap.size w' E v ∧ E.map (·.1) = l) := Ld (HK.out w5 HX.out.kp)
  clear HK HT hv KK1 Z1 BA BR k4 k5 gA x0 x1 x2 x3 x4 x5
  have gA5 : ∀ i, w5.cell? ⟨w.heap.size, i, none⟩ = [Value.int .i64 op, .string nm, .int .i64 N, .int .i64 ty.kind, .string ty.name, .slice a n c, .slice ma mn mc][i]? := HX.out.a.cell
  go_wp2_with fail
  refine h6.out.mono ?_
  rintro e w6 ⟨E, u, rfl, R6, hm6⟩
  have HX6 := Ld (HX.out.kept R6.kp)
  have gO6 : ∀ i, w6.cell? ⟨O, i, none⟩ = [Value.int .i64 op, .string nm, .int .i64 N, .int .i64 ty.kind, .string ty.name, .slice va vn vc, .slice none 0 0][i]? := HX6.out.o.cell
  have fO6 : ∀ i, w6.frozen? ⟨O, i, none⟩ = false := HX6.out.o.frozen
  have gR6 : ∀ i, w6.cell? ⟨w.heap.size + 1, i, none⟩ = [Value.int .i64 0, .string ⟨#[]⟩, .int .i64 0, .int .i64 0, .string ⟨#[]⟩, .slice none 0 0, .slice none 0 0][i]? := HX6.out.r.cell
  have fR6 : ∀ i, w6.frozen? ⟨w.heap.size + 1, i, none⟩ = false := HX6.out.r.frozen
  have nO : O ≠ w.heap.size + 1 := by have := HX6.out.ho; omega
  have nO2 : w.heap.size + 1 ≠ O := by have := HX6.out.ho; omega
  have lO5 := HX.out.o.lt
  obtain ⟨ua, un, uc, rfl⟩ := R6.tml.slice
  have hv6 : TyL (fun q => w.heap.size + 2 ≤ q ∧ q ≠ O ∧ (Value.slice ua un uc).ownBlock ≠ some q) w6 ty.kids (.slice va vn vc) :=
   (HX.out.ty.mono (ok' := fun q => (w.heap.size + 2 ≤ q ∧ q ≠ O) ∧ q < w5.heap.size) (fun q hq h => ⟨h, hq⟩)).frame (sK R6.kp) |>.mono (fun q _ h => ⟨h.1.1, h.1.2, fun e => by have := (R6.own.lt q e).1; omega⟩)
  have HM := Ld hm6
  have HD := Ld (CT.done HX6.out R6.kp.size lO5 R6.own R6.el hm6 hv6 _ rfl)
  clear gA5 HX R6 hm6 hv6 h6 lO5
  go_wp2_with fail
  exact bodyPost_ret (results_one Tryz.results42 rfl (load_tm (t := .mk op nm N ty l) HD.out.1)) rfl ⟨_, E, _, rfl, HD.out.2.1, HD.out.2.2, HM.out⟩
theorem rcopy_any {t : Tm} (hb : BdTm t) : RClC t := by
 induction hb with
 | mk hn ht hl ih => exact rcopy_one ht ih hn
structure KRow (W : World) (base g : Nat) (l : List Tm) : Prop where
 row : ∃ (L : List Value) (K M : Nat → Value), Blk W g 28 L ∧ l.length * 7 ≤ L.length ∧ ∀ i (h : i < l.length), L[i * 7]? = some (.int .i64 l[i].op) ∧ L[i * 7 + 1]? = some (.string l[i].name) ∧ L[i * 7 + 2]? = some (.int .i64 l[i].n) ∧ L[i * 7 + 3]? = some (.int .i64 l[i].ty.kind) ∧ L[i * 7 + 4]? = some (.string l[i].ty.name) ∧ L[i * 7 + 5]? = some (K i) ∧ L[i * 7 + 6]? = some (M i) ∧ TyL (fun q => base ≤ q ∧ q ≠ g) W l[i].ty.kids (K i) ∧ TmL (fun q => base ≤ q ∧ q ≠ g) W l[i].kids (M i)
theorem KRow.tml {W : World} {base g c : Nat} {l : List Tm} (h : KRow W base g l) (hg : base ≤ g) (hc : l.length ≤ c) : TmL (fun q => base ≤ q) W l (.slice (some ⟨g, 0, none⟩) l.length c) := by
 by_cases hne : l = []
 ·subst hne; exact .nil (Or.inr ⟨_, _, rfl⟩)
 ·obtain ⟨L, K, M, bG, hL, hR⟩ := h.row
  refine TmL.mk K M hne hg hc (fun i hi => ?_) (fun i hi => ?_) (fun i hi => ?_)
  ·obtain ⟨e0, e1, e2, e3, e4, e5, e6, e7, e8⟩ := hR i hi
   rw [Nat.zero_add]
   exact ⟨by rw [bG.cell]; exact e0, by rw [bG.cell]; exact e1, by rw [bG.cell]; exact e2, by rw [bG.cell]; exact e3, by rw [bG.cell]; exact e4, by rw [bG.cell]; exact e5, by rw [bG.cell]; exact e6⟩
  ·exact (hR i hi).2.2.2.2.2.2.2.1.mono (fun q _ h => h.1)
  ·exact (hR i hi).2.2.2.2.2.2.2.2.mono (fun q _ h => h.1)
theorem KRow.kept {W W' : World} {base g : Nat} {l : List Tm} (h : KRow W base g l) {S : Nat → Prop} (k : Kept S W W') (h1 : ¬ S g) (h2 : ∀ q, base ≤ q → q ≠ g → ¬ S q) : KRow W' base g l := by
 obtain ⟨L, K, M, bG, hL, hR⟩ := h.row
 refine ⟨⟨L, K, M, bG.kept k h1, hL, fun i hi => ?_⟩⟩
 obtain ⟨e0, e1, e2, e3, e4, e5, e6, e7, e8⟩ := hR i hi
 exact ⟨e0, e1, e2, e3, e4, e5, e6, e7.frame (Same.of_kept k (fun q hq => h2 q hq.1 hq.2)), e8.frame (Same.of_kept k (fun q hq => h2 q hq.1 hq.2))⟩
theorem KRow.put {W : World} {base g j : Nat} {l : List Tm} {u : Tm} {v x : Value} (h : KRow W base g l) (hj : j < l.length) (hv : TyL (fun q => base ≤ q ∧ q ≠ g) W u.ty.kids v) (hx : TmL (fun q => base ≤ q ∧ q ≠ g) W u.kids x) :
  KRow (((((((W.setCell ⟨g, j * 7, none⟩ (.int .i64 u.op)).setCell ⟨g, j * 7 + 1, none⟩ (.string u.name)).setCell ⟨g, j * 7 + 2, none⟩ (.int .i64 u.n)).setCell ⟨g, j * 7 + 3, none⟩ (.int .i64 u.ty.kind)).setCell ⟨g, j * 7 + 4, none⟩ (.string u.ty.name)).setCell ⟨g, j * 7 + 5, none⟩ v).setCell ⟨g, j * 7 + 6, none⟩ x) base g (l.set j u) := by
 obtain ⟨L, K, M, bG, hL, hR⟩ := h.row
 refine ⟨⟨((((((L.set (j * 7) (.int .i64 u.op)).set (j * 7 + 1) (.string u.name)).set (j * 7 + 2) (.int .i64 u.n)).set (j * 7 + 3) (.int .i64 u.ty.kind)).set (j * 7 + 4) (.string u.ty.name)).set (j * 7 + 5) v).set (j * 7 + 6) x, fun i => if i = j then v else K i, fun i => if i = j then x else M i,
  (((((((bG.set _ _).set _ _).set _ _).set _ _).set _ _).set _ _).set _ _), by simpa using hL, fun i hi => ?_⟩⟩
 have hi' : i < l.length := by simpa using hi
 by_cases hij : i = j
 ·subst hij
  simp only [List.getElem_set_self, if_pos]
  refine ⟨?_, ?_, ?_, ?_, ?_, ?_, ?_, ?_, ?_⟩
  ·rw [List.getElem?_set_ne (by omega), List.getElem?_set_ne (by omega), List.getElem?_set_ne (by omega), List.getElem?_set_ne (by omega), List.getElem?_set_ne (by omega), List.getElem?_set_ne (by omega), List.getElem?_set_self (by omega)]
  ·rw [List.getElem?_set_ne (by omega), List.getElem?_set_ne (by omega), List.getElem?_set_ne (by omega), List.getElem?_set_ne (by omega), List.getElem?_set_ne (by omega), List.getElem?_set_self (by simp; omega)]
  ·rw [List.getElem?_set_ne (by omega), List.getElem?_set_ne (by omega), List.getElem?_set_ne (by omega), List.getElem?_set_ne (by omega), List.getElem?_set_self (by simp; omega)]
  ·rw [List.getElem?_set_ne (by omega), List.getElem?_set_ne (by omega), List.getElem?_set_ne (by omega), List.getElem?_set_self (by simp; omega)]
  ·rw [List.getElem?_set_ne (by omega), List.getElem?_set_ne (by omega), List.getElem?_set_self (by simp; omega)]
  ·rw [List.getElem?_set_ne (by omega), List.getElem?_set_self (by simp; omega)]
  ·rw [List.getElem?_set_self (by simp; omega)]
  ·exact hv.frame (set7 (fun q h => h.2))
  ·exact hx.frame (set7 (fun q h => h.2))
 ·obtain ⟨e0, e1, e2, e3, e4, e5, e6, e7, e8⟩ := hR i hi'
  have eg : (l.set j u)[i] = l[i] := List.getElem_set_ne (Ne.symm hij) _
  rw [eg]
  simp only [if_neg hij]
  refine ⟨?_, ?_, ?_, ?_, ?_, ?_, ?_, e7.frame (set7 (fun q h => h.2)), e8.frame (set7 (fun q h => h.2))⟩
  all_goals (rw [List.getElem?_set_ne (by omega), List.getElem?_set_ne (by omega), List.getElem?_set_ne (by omega), List.getElem?_set_ne (by omega), List.getElem?_set_ne (by omega), List.getElem?_set_ne (by omega), List.getElem?_set_ne (by omega)]; assumption)
theorem RowT.krow {w wr : World} {base : Nat} {E : List E3} {v : Value} (h : RowT w base wr E v) (hne : E ≠ []) : ∃ g c, v = .slice (some ⟨g, 0, none⟩) E.length c ∧ base ≤ g ∧ E.length ≤ c ∧ KRow wr base g (E.map (·.1)) := by
 rcases h.own.2 with ⟨_, hn⟩ | ⟨g, cap, cur, hv, hbg, hg, hnc, hcm, hcs, htake⟩
 ·exact absurd (List.length_eq_zero_iff.1 hn) hne
 ·have hE := h.el
  subst hv
  have hb : Blk wr g 28 cur.toList := by show wr.heap[g]? = _; rw [hg]
  have hlen : E.length * 7 ≤ cur.toList.length := by
   have := congrArg List.length htake
   rw [List.length_take, flat_len] at this
   omega
  have hget : ∀ i (h : i < E.length) (r : Nat), r < 7 → cur.toList[i * 7 + r]? = (tmCells E[i].1 E[i].2.1 E[i].2.2)[r]? := by
   intro i hi r hr
   have h1 := flat_get E i r hi hr
   rw [← htake, List.getElem?_take, if_pos (by omega)] at h1
   exact h1
  have iv : Inhabited E3 := ⟨(.mk 0 ⟨#[]⟩ 0 ty0 [], .slice none 0 0, .slice none 0 0)⟩
  refine ⟨g, cap, rfl, hbg, hnc, ⟨⟨cur.toList, fun i => E[i]!.2.1, fun i => E[i]!.2.2, hb, by simpa using hlen, fun i hi => ?_⟩⟩⟩
  have hi' : i < E.length := by simpa using hi
  have e1 : (E.map (·.1))[i] = E[i].1 := by simp
  have e2 : E[i]! = E[i] := getElem!_pos E i hi'
  have hm := hE _ (List.getElem_mem hi')
  rw [e1]
  simp only [e2]
  exact ⟨hget i hi' 0 (by decide), hget i hi' 1 (by decide), hget i hi' 2 (by decide), hget i hi' 3 (by decide), hget i hi' 4 (by decide), hget i hi' 5 (by decide), hget i hi' 6 (by decide), hm.1.mono (fun q _ h => ⟨h.1, fun e => h.2 (by rw [e]; rfl)⟩), hm.2.mono (fun q _ h => ⟨h.1, fun e => h.2 (by rw [e]; rfl)⟩)⟩
theorem remG_once (x : ByteArray) (F : List ByteArray) : ∀ (l out : List (ByteArray × Tm)), (∀ b ∈ out, look out b.1 = some b.2) → ∀ b ∈ remG x F out l, look (remG x F out l) b.1 = some b.2
 | [], out, h => by rw [remG]; exact h
 | b :: l, out, h => by
  rw [remG]
  split
  ·exact remG_once x F l out h
  ·rename_i hc
   refine remG_once x F l (out ++ [b]) (fun c hcm => ?_)
   simp only [Bool.or_eq_true, not_or, Bool.not_eq_true] at hc
   have hn : look out b.1 = none := by
    cases hl : look out b.1 with
    | none => rfl
    | some u => rw [hl] at hc; exact absurd hc.1.1 (by simp)
   rw [look_app]
   rcases List.mem_append.1 hcm with hcm | hcm
   ·rw [h c hcm]
   ·rw [List.mem_singleton.1 hcm, hn]
    simp [look]
theorem frB_look {l : List (ByteArray × Tm)} (h : ∀ b ∈ l, look l b.1 = some b.2) (x : ByteArray) : mb x (frB l) = true ↔ ∃ s u, look l s = some u ∧ mb x (fr u) = true := by
 constructor
 ·intro hx
  have key : ∀ (r : List (ByteArray × Tm)), mb x (frB r) = true → ∃ b ∈ r, mb x (fr b.2) = true := by
   intro r
   induction r with
   | nil => intro h; cases h
   | cons b r ih =>
    intro h
    rw [frB, mb_app, Bool.or_eq_true] at h
    rcases h with h | h
    ·exact ⟨b, by simp, h⟩
    ·obtain ⟨c, hc, hx⟩ := ih h
     exact ⟨c, List.mem_cons_of_mem _ hc, hx⟩
  obtain ⟨b, hb, hx⟩ := key l hx
  exact ⟨b.1, b.2, h b hb, hx⟩
 ·rintro ⟨s, u, hs, hx⟩
  rw [mb_iff] at hx ⊢
  exact frB_mem hs hx
theorem rem_und {l : List (ByteArray × Tm)} {σ : ByteArray → Option Tm} (h : ∀ s, look l s = σ s) (x : ByteArray) (y : Tm) (s : ByteArray) : look (remL l x (fr y)) s = undF x (fun s => mb s (fr y)) σ s := by
 rw [remL_look, h]
 unfold undF
 by_cases hx : s = x
 ·simp [hx]
 ·cases hm : mb s (fr y) <;> simp [hx, hm]
theorem rem_caught {l : List (ByteArray × Tm)} {σ : ByteArray → Option Tm} (h : ∀ s, look l s = σ s) (x : ByteArray) (y : Tm) (z : ByteArray) : mb z (frB (remL l x (fr y))) = true ↔ ∃ s u, undF x (fun s => mb s (fr y)) σ s = some u ∧ mb z (fr u) = true := by
 have h0 : ∀ b ∈ remL l x (fr y), look (remL l x (fr y)) b.1 = some b.2 := remG_once x (fr y) l [] (fun b hb => by cases hb)
 rw [frB_look h0]
 constructor
 ·rintro ⟨s, u, hs, hz⟩; exact ⟨s, u, by rw [← rem_und h]; exact hs, hz⟩
 ·rintro ⟨s, u, hs, hz⟩; exact ⟨s, u, by have := rem_und h x y s; rw [hs] at this; exact this, hz⟩
theorem look_none {l : List (ByteArray × Tm)} (h : ∀ s, look l s = none) : l = [] := by
 cases l with
 | nil => rfl
 | cons b l => have := h b.1; rw [look, if_pos rfl] at this; cases this
structure KP (W : World) (base g n : Nat) (R : Nat → Option Tm) : Prop where
 row : ∃ (L : List Value) (K M : Nat → Value), Blk W g 28 L ∧ L.length = n * 7 ∧ ∀ i, i < n → ∀ u, R i = some u → L[i * 7]? = some (.int .i64 u.op) ∧ L[i * 7 + 1]? = some (.string u.name) ∧ L[i * 7 + 2]? = some (.int .i64 u.n) ∧ L[i * 7 + 3]? = some (.int .i64 u.ty.kind) ∧ L[i * 7 + 4]? = some (.string u.ty.name) ∧ L[i * 7 + 5]? = some (K i) ∧ L[i * 7 + 6]? = some (M i) ∧ TyL (fun q => base ≤ q ∧ q ≠ g) W u.ty.kids (K i) ∧ TmL (fun q => base ≤ q ∧ q ≠ g) W u.kids (M i)
theorem KP.kept {W W' : World} {base g n : Nat} {R : Nat → Option Tm} (h : KP W base g n R) {S : Nat → Prop} (k : Kept S W W') (h1 : ¬ S g) (h2 : ∀ q, base ≤ q → q ≠ g → ¬ S q) : KP W' base g n R := by
 obtain ⟨L, K, M, bG, hL, hR⟩ := h.row
 refine ⟨⟨L, K, M, bG.kept k h1, hL, fun i hi u hu => ?_⟩⟩
 obtain ⟨e0, e1, e2, e3, e4, e5, e6, e7, e8⟩ := hR i hi u hu
 exact ⟨e0, e1, e2, e3, e4, e5, e6, e7.frame (Same.of_kept k (fun q hq => h2 q hq.1 hq.2)), e8.frame (Same.of_kept k (fun q hq => h2 q hq.1 hq.2))⟩
theorem KP.lt {W : World} {base g n : Nat} {R : Nat → Option Tm} (h : KP W base g n R) : g < W.heap.size := by obtain ⟨L, K, M, bG, _⟩ := h.row; exact bG.lt
theorem KP.frozen {W : World} {base g n : Nat} {R : Nat → Option Tm} (h : KP W base g n R) : ∀ i, W.frozen? ⟨g, i, none⟩ = false := by obtain ⟨L, K, M, bG, _⟩ := h.row; exact bG.frozen
theorem KP.there {W : World} {base g n : Nat} {R : Nat → Option Tm} (h : KP W base g n R) {i : Nat} (hi : i < n * 7) : ∃ v, W.cell? ⟨g, i, none⟩ = some v := by
 obtain ⟨L, K, M, bG, hL, _⟩ := h.row
 exact ⟨L[i], by rw [bG.cell, List.getElem?_eq_getElem]⟩
theorem KP.lay {W : World} {base g n j : Nat} (h : KP W base g n (fun _ => none)) (hj : j < n) (x0 x1 x2 x3 x4 x5 x6 : Value) (W3 : World)
  (hW : W3 = ((((((W.setCell ⟨g, j * 7, none⟩ x0).setCell ⟨g, j * 7 + 1, none⟩ x1).setCell ⟨g, j * 7 + 2, none⟩ x2).setCell ⟨g, j * 7 + 3, none⟩ x3).setCell ⟨g, j * 7 + 4, none⟩ x4).setCell ⟨g, j * 7 + 5, none⟩ x5).setCell ⟨g, j * 7 + 6, none⟩ x6) : KP W3 base g n (fun _ => none) := by
 obtain ⟨L, K, M, bG, hL, hR⟩ := h.row
 subst hW
 exact ⟨⟨_, K, M, (((((((bG.set _ _).set _ _).set _ _).set _ _).set _ _).set _ _).set _ _), by simpa using hL, fun i hi u hu => by cases hu⟩⟩
theorem KP.put {W : World} {base g n j : Nat} {R : Nat → Option Tm} {u : Tm} {v x : Value} (h : KP W base g n R) (hj : j < n) (hv : TyL (fun q => base ≤ q ∧ q ≠ g) W u.ty.kids v) (hx : TmL (fun q => base ≤ q ∧ q ≠ g) W u.kids x) (W3 : World)
  (hW : W3 = ((((((W.setCell ⟨g, j * 7, none⟩ (.int .i64 u.op)).setCell ⟨g, j * 7 + 1, none⟩ (.string u.name)).setCell ⟨g, j * 7 + 2, none⟩ (.int .i64 u.n)).setCell ⟨g, j * 7 + 3, none⟩ (.int .i64 u.ty.kind)).setCell ⟨g, j * 7 + 4, none⟩ (.string u.ty.name)).setCell ⟨g, j * 7 + 5, none⟩ v).setCell ⟨g, j * 7 + 6, none⟩ x) : KP W3 base g n (fun i => if i = j then some u else R i) := by
 obtain ⟨L, K, M, bG, hL, hR⟩ := h.row
 subst hW
 refine ⟨⟨((((((L.set (j * 7) (.int .i64 u.op)).set (j * 7 + 1) (.string u.name)).set (j * 7 + 2) (.int .i64 u.n)).set (j * 7 + 3) (.int .i64 u.ty.kind)).set (j * 7 + 4) (.string u.ty.name)).set (j * 7 + 5) v).set (j * 7 + 6) x, fun i => if i = j then v else K i, fun i => if i = j then x else M i,
  (((((((bG.set _ _).set _ _).set _ _).set _ _).set _ _).set _ _).set _ _), by simpa using hL, fun i hi t ht => ?_⟩⟩
 by_cases hij : i = j
 ·subst hij
  simp only [if_true, Option.some.injEq] at ht ⊢
  subst ht
  refine ⟨?_, ?_, ?_, ?_, ?_, ?_, ?_, ?_, ?_⟩
  ·rw [List.getElem?_set_ne (by omega), List.getElem?_set_ne (by omega), List.getElem?_set_ne (by omega), List.getElem?_set_ne (by omega), List.getElem?_set_ne (by omega), List.getElem?_set_ne (by omega), List.getElem?_set_self (by omega)]
  ·rw [List.getElem?_set_ne (by omega), List.getElem?_set_ne (by omega), List.getElem?_set_ne (by omega), List.getElem?_set_ne (by omega), List.getElem?_set_ne (by omega), List.getElem?_set_self (by simp; omega)]
  ·rw [List.getElem?_set_ne (by omega), List.getElem?_set_ne (by omega), List.getElem?_set_ne (by omega), List.getElem?_set_ne (by omega), List.getElem?_set_self (by simp; omega)]
  ·rw [List.getElem?_set_ne (by omega), List.getElem?_set_ne (by omega), List.getElem?_set_ne (by omega), List.getElem?_set_self (by simp; omega)]
  ·rw [List.getElem?_set_ne (by omega), List.getElem?_set_ne (by omega), List.getElem?_set_self (by simp; omega)]
  ·rw [List.getElem?_set_ne (by omega), List.getElem?_set_self (by simp; omega)]
  ·rw [List.getElem?_set_self (by simp; omega)]
  ·exact hv.frame (set7 (fun q h => h.2))
  ·exact hx.frame (set7 (fun q h => h.2))
 ·simp only [if_neg hij] at ht ⊢
  obtain ⟨e0, e1, e2, e3, e4, e5, e6, e7, e8⟩ := hR i hi t ht
  refine ⟨?_, ?_, ?_, ?_, ?_, ?_, ?_, e7.frame (set7 (fun q h => h.2)), e8.frame (set7 (fun q h => h.2))⟩
  all_goals (rw [List.getElem?_set_ne (by omega), List.getElem?_set_ne (by omega), List.getElem?_set_ne (by omega), List.getElem?_set_ne (by omega), List.getElem?_set_ne (by omega), List.getElem?_set_ne (by omega), List.getElem?_set_ne (by omega)]; assumption)
theorem KP.krow {W : World} {base g : Nat} {l : List Tm} {R : Nat → Option Tm} (h : KP W base g l.length R) (hR : ∀ i (hi : i < l.length), R i = some l[i]) : KRow W base g l := by
 obtain ⟨L, K, M, bG, hL, h1⟩ := h.row
 exact ⟨⟨L, K, M, bG, by omega, fun i hi => h1 i hi _ (hR i hi)⟩⟩
end Go.Proofs.YtfhedienjnfdcaaGreatDoor
namespace Go.Proofs.YtfhedienjnfdcaaGreatDoor
open Go.RowKit Go.Maps Go.Sort Go.Shelf
def keysA_ren : Go.Shelf.Ren := ⟨fun | 7 => 142 | 10 => 188 | n => n, fun | 23 => 90 | 26 => 9 | 3 => 4 | 28 => 143 | 0 => 0 | 27 => 142 | 33 => 56 | 4 => 4 | n => n, fun | n => n⟩
def collA_ren : Go.Shelf.Ren := ⟨fun | 8 => 141 | 11 => 187 | n => n, fun | 26 => 9 | 28 => 143 | 24 => 41 | 0 => 0 | 33 => 56 | 4 => 4 | n => n, fun | n => n⟩
theorem keysA : SlLaysZ.n7 Tryz.prog keysA_ren := {
 mixed := by kernel_rfl
 f7 := ⟨"maps.Keys[map[string]bool,string,bool]", by decide, Tryz.func142.trans (congrArg some (by kernel_rfl))⟩
 f10 := ⟨"maps.Keys[map[string]bool,string,bool]$1", by decide, Tryz.func188.trans (congrArg some (by kernel_rfl))⟩
 t0 := Tryz.underlying0, a0 := Tryz.isAgg0, z0 := Tryz.sizeOf0, v0 := Tryz.zeroValue0
 t4 := Tryz.underlying4, a4 := Tryz.isAgg4, z4 := Tryz.sizeOf4, v4 := Tryz.zeroValue4
 t23 := Tryz.underlying90, a23 := Tryz.isAgg90, z23 := Tryz.sizeOf90, v23 := Tryz.zeroValue90
 t26 := Tryz.underlying9, a26 := Tryz.isAgg9, z26 := Tryz.sizeOf9, v26 := Tryz.zeroValue9
 t27 := Tryz.underlying142, a27 := Tryz.isAgg142, z27 := Tryz.sizeOf142, v27 := Tryz.zeroValue142
 t28 := Tryz.underlying143, a28 := Tryz.isAgg143, z28 := Tryz.sizeOf143, v28 := Tryz.zeroValue143
 t33 := Tryz.underlying56, a33 := Tryz.isAgg56, z33 := Tryz.sizeOf56, v33 := Tryz.zeroValue56 }
theorem collA : SlLaysZ.n8 Tryz.prog collA_ren := {
 mixed := by kernel_rfl
 f8 := ⟨"slices.Collect[string]", by decide, Tryz.func141.trans (congrArg some (by kernel_rfl))⟩
 f11 := ⟨"slices.AppendSeq[[]string,string]", by decide, Tryz.func187.trans (congrArg some (by kernel_rfl))⟩
 t0 := Tryz.underlying0, a0 := Tryz.isAgg0, z0 := Tryz.sizeOf0, v0 := Tryz.zeroValue0
 t24 := Tryz.underlying41, a24 := Tryz.isAgg41, z24 := Tryz.sizeOf41, v24 := Tryz.zeroValue41
 t26 := Tryz.underlying9, a26 := Tryz.isAgg9, z26 := Tryz.sizeOf9, v26 := Tryz.zeroValue9
 t28 := Tryz.underlying143, a28 := Tryz.isAgg143, z28 := Tryz.sizeOf143, v28 := Tryz.zeroValue143
 i26 := by kernel_rfl }
theorem keys_any (mb : Option Nat) (W : World) : Calls Tryz.prog 142 #[.map mb] W fun e w' => e = .returned (.func (.func 188) #[] #[.pointer (some ⟨W.heap.size, 0, none⟩)]) ∧ w' = W.alloc (.cells #[.map mb] 90) :=
 (callsIn_wide (n := 5)).1 (AnyZ.keys_in keysA Fence.wide 5 trivial rfl mb W)
theorem mem_strKeys {w : World} {p n : Nat} {R : Value → Option (DataW Value × List MemPlace)} {D : DataW Value} (h : w.ownsMap Tryz.prog 9 R p n D) (x : List UInt8) : x ∈ strKeys D ↔ Maps.has D (.string x) = true := by
 obtain ⟨es, rfl, hko⟩ := h.keysOf
 rw [Maps.has_eq, List.any_eq_true]
 show x ∈ es.map (fun p => strOf p.1) ↔ _
 rw [List.mem_map]
 constructor
 ·rintro ⟨q, hq, rfl⟩
  obtain ⟨v, hv⟩ := hko q hq
  obtain ⟨y, _, hy, _⟩ := Maps.keyOf_str Tryz.underlying9 hv
  exact ⟨q, hq, by rw [hy]; simp [Lit.sameKey, strOf]⟩
 ·rintro ⟨q, hq, hs⟩
  obtain ⟨v, hv⟩ := hko q hq
  obtain ⟨y, _, hy, _⟩ := Maps.keyOf_str Tryz.underlying9 hv
  rw [hy] at hs
  exact ⟨q, hq, by rw [hy]; simpa [Lit.sameKey, strOf] using hs⟩
theorem strKeys_size {w : World} {p n : Nat} {R : Value → Option (DataW Value × List MemPlace)} {D : DataW Value} (h : w.ownsMap Tryz.prog 9 R p n D) : (strKeys D).length ≤ n := by
 have h1 := h.size_le
 obtain ⟨es, rfl, hko⟩ := h.keysOf
 rw [Maps.size_eq] at h1
 simpa [strKeys] using h1
theorem collect_any {w : World} {p n Bm : Nat} {B : ByteArray → Bool} (hM : MapF w p n (bagF B)) (hn : n ≤ 800000) (hBm : Bm < w.heap.size) (hbox : w.cell? ⟨Bm, 0, none⟩ = some (.map (some p))) :
  Calls Tryz.prog 141 #[.func (.func 188) #[] #[.pointer (some ⟨Bm, 0, none⟩)]] w fun e w' => ∃ (l : List ByteArray) (v : Value), e = .returned v ∧ (∀ s, mb s l = B s) ∧ l.length ≤ n ∧ NRow w w.heap.size w' l v := by
 obtain ⟨D, hD, hf⟩ := hM
 have hs := hD.size_le
 have hseq : SeqGives Fence.wide 3 Tryz.prog 188 #[.pointer (some ⟨Bm, 0, none⟩)] encStr (fun ss => ss.Perm (strKeys D)) (Maps.size D) w :=
  AnyZ.keys_gives (ρ := keysA_ren) { keysA with } Fence.wide 3 trivial rfl (by omega) Bm p n D w hBm hbox hD
 have h := AnyZ.collect_in collA Fence.wide 5 trivial trivial rfl (by omega) 188 #[.pointer (some ⟨Bm, 0, none⟩)] trivial (enters_of Tryz.func188 (by kernel_rfl) rfl) (fun ss => ss.Perm (strKeys D)) (Maps.size D) (by unfold maxLen; omega) (by omega) w hseq
 refine ((callsIn_wide (n := 5)).1 h).mono ?_
 rintro e w' ⟨v, ss, rfl, hp, hrow, _, hb⟩
 refine ⟨ss.map (fun x => ⟨x.toArray⟩), v, rfl, fun s => ?_, ?_, Kept.of_below hb, ?_⟩
 ·rw [Bool.eq_iff_iff, mb_iff, List.mem_map]
  have h1 : (bagF B s).isSome = B s := by unfold bagF; cases B s <;> rfl
  rw [← h1, ← hf.has s]
  unfold kL
  rw [← mem_strKeys hD, ← hp.mem_iff]
  constructor
  ·rintro ⟨x, hx, rfl⟩; simpa using hx
  ·intro hx; exact ⟨_, hx, by simp⟩
 ·rw [List.length_map, hp.length_eq]; exact strKeys_size hD
 ·rw [List.length_map, List.map_map]; exact hrow
end Go.Proofs.YtfhedienjnfdcaaGreatDoor
namespace Go.Proofs.YtfhedienjnfdcaaGreatDoor
open Go.RowKit
theorem bagF_some (B : ByteArray → Bool) (s : ByteArray) : (bagF B s).isSome = B s := by unfold bagF; cases B s <;> rfl
theorem copyM_any {w : World} {d c m n : Nat} {B C : ByteArray → Bool} (hd : MapF w d m (bagF B)) (hc : MapF w c n (bagF C)) (hdc : d ≠ c) (hb : m + n ≤ 1000000) :
  Calls Tryz.prog 184 #[.map (some d), .map (some c)] w fun e w' => e = .returned (.tuple #[]) ∧ MapF w' d (m + n) (bagF (fun s => B s || C s)) ∧ Kept (fun q => q = d) w w' := by
 have HD := Ld hd
 have HC := Ld hc
 have HL : Hid (d < w.heap.size ∧ c < w.heap.size ∧ d ≠ c) := Ld ⟨hd.lt, hc.lt, hdc⟩
 have HB := Ld hb
 clear hd hc hdc hb
 go_enter Tryz.func184, Tryz.ntmps184
 go_wp2_with (at_range; refine wpList_rangeF rfl _ _ 4 rfl u90 rfl HC.out ?_; intro w2 cnt hR k2 z2 hcn)
 have HR := Ld hR
 have HCN := Ld hcn
 have M2 := Ld (HD.out.kept k2 (fun e => e))
 have K2 : Hid (Kept (fun q => q = d) w w2) := Ld (k2.mono (fun _ _ e => e.elim))
 clear hR k2 z2 hcn
 go_frame
 go_loopw [] (fun wr => ∃ (cnt' k : Nat) (g : ByteArray → Bool), Kept (fun q => q = d) w wr ∧ MapR wr c w.heap.size n (bagF C) g cnt' ∧ cnt' + k ≤ cnt ∧ (∀ s, g s = true → C s = true) ∧ MapF wr d (m + k) (bagF (fun s => B s || (C s && !g s)))) (fun wr => wr.rangeLeft c w.heap.size)
 case atStart =>
  refine ⟨cnt, 0, fun s => (bagF C s).isSome, K2.out, HR.out, Nat.le_refl _, fun s h => by have h2 : (bagF C s).isSome = true := h; rw [bagF_some] at h2; exact h2, ?_⟩
  have e : (fun s => B s || (C s && !(bagF C s).isSome)) = B := by funext s; rw [bagF_some]; cases B s <;> cases C s <;> rfl
  rw [e]
  exact M2.out
 case round =>
  obtain ⟨cnt', k, g, hk, hR', hle, hgs, hM⟩ := hrel
  have HK := Ld hk
  have HRR := Ld hR'
  have HM := Ld hM
  have HLE := Ld hle
  have HGS := Ld hgs
  clear hk hR' hle hM hgs HR M2 K2
  go_wp2_with (at_next; refine wpList_nextF rfl _ rfl rfl HRR.out ?_ ?_)
  ·intro h0
   have HE : Hid (MapF wr d (m + n) (bagF (fun s => B s || C s))) := Ld (by
    have e : (fun s => B s || (C s && !g s)) = fun s => B s || C s := by
     funext s
     cases hg : g s with
     | false => simp
     | true =>
      have hc := HGS.out s hg
      rw [h0 s (HRR.out.map.small (by rw [bagF_some]; exact hc))] at hg
      cases hg
    rw [← e]
    exact HM.out.mono (by have := HLE.out; have := HCN.out; omega))
   go_wp2_with fail
   go_end0
   exact ⟨rfl, HE.out, HK.out⟩
  ·intro s v w3 cnt3 hs hg hfs hR3 hlt k3 z3 hen
   have hCs := HGS.out s hg
   obtain rfl : v = .bool true := by
    unfold bagF at hfs
    rw [hCs] at hfs
    simpa using hfs.symm
   have HLO := Ld HRR.out.left
   have KW3 := Ld (HK.out.via1 k3 (fun q hq e => by omega))
   have M3 := Ld (HM.out.kept k3 (fun e => by have := HL.out.1; omega))
   have HR3 := Ld hR3
   have HLT := Ld hlt
   have HS := Ld hs
   have HG := Ld hg
   have HCS := Ld hCs
   have HGN : Hid (∀ t, (g t && !decide (t = s)) = true → C t = true) := Ld (fun t ht => HGS.out t (by rw [Bool.and_eq_true] at ht; exact ht.1))
   have HST : Hid (updF (bagF (fun t => B t || (C t && !g t))) s (.bool true) = bagF (fun t => B t || (C t && !(g t && !decide (t = s))))) := Ld (by
    rw [bagF_upd]
    congr 1
    funext t
    by_cases ht : t = s
    ·subst ht; simp [HCS.out]
    ·simp [ht])
   have HNK : Hid (m + k < maxLen) := Ld (by have := HLE.out; have := HCN.out; have := HB.out; unfold maxLen; omega)
   clear k3 hR3 hlt hg hfs hs HRR HM hCs HGS
   go_wp2_with (at_mapUpdate; refine wpList_storeF rfl _ _ _ _ 4 rfl u90 rfl M3.out s rfl HS.out HNK.out (.bool true) rfl ?_; intro w5 hm5 k5; clear hen)
   rw [HST.out] at hm5
   have KW5 := Ld (KW3.out.trans k5)
   have HR5 := Ld (HR3.out.kept k5 (fun e => HL.out.2.2 e.symm) (fun e => by have := HL.out.1; omega))
   have HM5 := Ld hm5
   clear hm5 k5
   go_wp2_with fail
   go_frame
   go_roundw
   case rel => exact ⟨cnt3, k + 1, _, KW5.out, HR5.out, by have := HLE.out; have := HLT.out; omega, HGN.out, HM5.out⟩
   case measure => rw [HR5.out.left, HLO.out]; exact HLT.out
theorem format_ok {t : Tm} {out : List UInt8} {ok : Nat → Prop} {w : World} {ta : Option Addr} {tn tc : Nat} {ma : Option Addr} {mn mc : Nat} (hty : TyL ok w t.ty.kids (.slice ta tn tc)) (htm : TmL ok w t.kids (.slice ma mn mc)) (hp : PC t out) (hv : validB t = true) (hs : SmTm big t) (h0 : out ≠ []) (hlen : out.length ≤ 1000000000) :
  Calls Tryz.prog 47 #[.agg #[.int .i64 t.op, .string t.name, .int .i64 t.n, .int .i64 t.ty.kind, .string t.ty.name, .slice ta tn tc, .slice ma mn mc]] w fun e w' => e = .returned (.string ⟨out.toArray⟩) ∧ Kept (fun _ => False) w w' := by
 have K0 : Kept (fun _ => False) w (w.alloc (.cells #[.int .i64 t.op, .string t.name, .int .i64 t.n, .int .i64 t.ty.kind, .string t.ty.name, .slice ta tn tc, .slice ma mn mc] 28)) := (Kept.refl _ _).alloc _
 have bX : Blk (w.alloc (.cells #[.int .i64 t.op, .string t.name, .int .i64 t.n, .int .i64 t.ty.kind, .string t.ty.name, .slice ta tn tc, .slice ma mn mc] 28)) w.heap.size 28 (tmCells t (.slice ta tn tc) (.slice ma mn mc)) := Blk.new w 28 _
 have HV := Ld (valid_any (hty.frame (Same.alloc w (.cells #[.int .i64 t.op, .string t.name, .int .i64 t.n, .int .i64 t.ty.kind, .string t.ty.name, .slice ta tn tc, .slice ma mn mc] 28))) (htm.frame (Same.alloc w (.cells #[.int .i64 t.op, .string t.name, .int .i64 t.n, .int .i64 t.ty.kind, .string t.ty.name, .slice ta tn tc, .slice ma mn mc] 28))) hs)
 have HP := Ld hp
 have H0 := Ld h0
 have HL := Ld hlen
 clear hp h0 hlen hs
 go_enter Tryz.func47, Tryz.ntmps47
 go_wp2_with fail
 refine HV.out.mono ?_
 rintro e w1 ⟨rfl, k1⟩
 rw [hv]
 have K1 := K0.trans k1
 have b1 := bX.kept k1 (fun h => h)
 have bB : Blk (w1.alloc (.cells #[.pointer none, .slice none 0 0] 111)) w1.heap.size 111 [.pointer none, .slice none 0 0] := Blk.new w1 111 _
 have K2 : Kept (fun _ => False) w1 (w1.alloc (.cells #[.pointer none, .slice none 0 0] 111)) := (Kept.refl _ _).alloc _
 have hU : Bu w1.heap.size w1.heap.size [] (w1.alloc (.cells #[.pointer none, .slice none 0 0] 111)) := Or.inl ⟨Nat.le_refl _, .slice none 0 0, bB, World.ownsRow_nil _ _ _ _, by simp [Value.ownBlock]⟩
 have t5 := ((hty.frame (sK K1)).mono (ok' := fun q => q < w1.heap.size) (fun q h _ => h)).frame (sK K2)
 have t6 := ((htm.frame (sK K1)).mono (ok' := fun q => q < w1.heap.size) (fun q h _ => h)).frame (sK K2)
 have HC := Ld (HP.out w1.heap.size w1.heap.size [] _ _ _ hU (by simp) t5 t6 (by have := HL.out; simpa using this))
 have b2 := b1.alloc (.cells #[.pointer none, .slice none 0 0] 111)
 have l1 := b1.lt
 have n1 : w.heap.size ≠ w1.heap.size := by omega
 have g0 : w1.cell? ⟨w.heap.size, 0, none⟩ = some (.int .i64 t.op) := b1.cell 0
 have g1 : w1.cell? ⟨w.heap.size, 1, none⟩ = some (.string t.name) := b1.cell 1
 have g2 : w1.cell? ⟨w.heap.size, 2, none⟩ = some (.int .i64 t.n) := b1.cell 2
 have g3 : w1.cell? ⟨w.heap.size, 3, none⟩ = some (.int .i64 t.ty.kind) := b1.cell 3
 have g4 : w1.cell? ⟨w.heap.size, 4, none⟩ = some (.string t.ty.name) := b1.cell 4
 have g5 : w1.cell? ⟨w.heap.size, 5, none⟩ = some (.slice ta tn tc) := b1.cell 5
 have g6 : w1.cell? ⟨w.heap.size, 6, none⟩ = some (.slice ma mn mc) := b1.cell 6
 go_wp2_with fail
 refine HC.out.mono ?_
 rintro e w3 ⟨rfl, u3, k3⟩
 rw [List.nil_append] at u3
 have HS := Ld (bstr_any u3 H0.out)
 have K3 : Kept (fun k => w1.heap.size ≤ k) w1 w3 := (K2.mono (fun _ _ h => h.elim)).via k3 (fun x hx e => by
  rcases e with rfl | ⟨h, _⟩
  ·exact Nat.le_refl _
  ·exact h)
 go_wp2_with fail
 refine HS.out.mono ?_
 rintro e w4 ⟨rfl, k4⟩
 go_wp2_with fail
 go_ret
 refine ⟨rfl, K1.via (S' := fun k => w1.heap.size ≤ k) (K3.via (S' := fun k => w1.heap.size ≤ k) ⟨k4.os, k4.tape, k4.output, k4.size, fun q hq hn => k4.block q (by omega)⟩ (fun _ _ h => h)) (fun x hx h => ?_)⟩
 have := K1.size
 omega
def digS : ByteArray := ⟨#[48, 49, 50, 51, 52, 53, 54, 55, 56, 57]⟩
def digL : List Value := (Lib.setCells digS.data.toList).toList
theorem dig_zero : ∀ w, (zeroValue 166).run Tryz.prog w = .ok (.agg (Array.replicate 256 (.bool false))) w := fun w => by kernel_rfl
theorem dig_set (w : World) : Calls Tryz.prog 162 #[.string digS] w fun e w' => e = .returned (.tuple #[.agg digL.toArray, .bool true]) ∧ w' = w.alloc (.cells digL.toArray 166) := by
 refine (Tryz.strings_makeASCIISet dig_zero digS w (by decide) ?_).mono fun e w' ⟨h1, h2⟩ => ⟨by rw [h1]; unfold digL; rw [Array.toArray_toList], by rw [h2]; unfold digL; rw [Array.toArray_toList]⟩
 intro j b hj
 have hlt : j < 10 := (List.getElem?_eq_some_iff.1 hj).1
 rcases (show j = 0 ∨ j = 1 ∨ j = 2 ∨ j = 3 ∨ j = 4 ∨ j = 5 ∨ j = 6 ∨ j = 7 ∨ j = 8 ∨ j = 9 by omega) with rfl | rfl | rfl | rfl | rfl | rfl | rfl | rfl | rfl | rfl <;> (cases hj; decide)
theorem dig_50 : digL[50]? = some (.bool true) := by kernel_rfl
theorem dig_49 : digL[49]? = some (.bool true) := by kernel_rfl
theorem dig_120 : digL[120]? = some (.bool false) := by kernel_rfl
def strSz : Value → Nat
 | .string s => s.size
 | _ => 0
theorem trimR (w : World) (X : Nat) (h50 : w.cell? ⟨X, 50, none⟩ = some (.bool true)) (h49 : w.cell? ⟨X, 49, none⟩ = some (.bool true)) (h120 : w.cell? ⟨X, 120, none⟩ = some (.bool false)) :
  Calls Tryz.prog 163 #[.string ⟨#[120, 49, 50]⟩, .pointer (some ⟨X, 0, none⟩)] w fun e w' => e = .returned (.string ⟨#[120]⟩) ∧ w = w' := by
 have c50 := Ld (Tryz.asciiSet_contains X 50 true w h50)
 have c49 := Ld (Tryz.asciiSet_contains X 49 true w h49)
 have c120 := Ld (Tryz.asciiSet_contains X 120 false w h120)
 clear h50 h49 h120
 go_enter Tryz.func163, Tryz.ntmps163
 go_wp2_with fail
 go_loop [0] (fun v => v = .string ⟨#[120, 49, 50]⟩ ∨ v = .string ⟨#[120, 49]⟩ ∨ v = .string ⟨#[120]⟩) (fun v => strSz v)
 case atStart => exact Or.inl rfl
 case round =>
  rcases hrel with rfl | rfl | rfl
  ·go_wp2_with (go_at_call 204; refine c50.out.mono ?_; rintro e w' ⟨rfl, rfl⟩)
   go_round
   case rel => exact Or.inr (Or.inl rfl)
   case measure => decide
  ·go_wp2_with (go_at_call 204; refine c49.out.mono ?_; rintro e w' ⟨rfl, rfl⟩)
   go_round
   case rel => exact Or.inr (Or.inr rfl)
   case measure => decide
  ·go_wp2_with (go_at_call 204; refine c120.out.mono ?_; rintro e w' ⟨rfl, rfl⟩)
   go_ret
   exact ⟨rfl, rfl⟩
theorem wpList_store_at {P : Program} {ops : Array Oper} {rest : List Oper} {o : Oper} {a : Act} {Q : Exit → Act → World → Prop} {w0 w : World} {ty : TypeId} {Z L : List Value} (hb : Blk w w0.heap.size ty Z) (hk : Kept (fun _ => False) w0 w) (hgd : o.guard = none) (x y : Operand) (ho : o.op = .store ty x y) (hx : a.eval x = .pointer (some ⟨w0.heap.size, 0, none⟩)) (hy : a.eval y = .agg L.toArray)
  (hi : (P.info? ty).map (·.size) = some L.length) (hZ : Z.length = L.length) (h1 : L.toArray.all (·.oneCell') = true)
  (h : ∀ W, Blk W w0.heap.size ty L → Kept (fun _ => False) w0 W → wpList P ops Q rest (a.put o.dst undef) W) : wpList P ops Q (o :: rest) a w := by
 refine wpList_store_mid hgd ty x y ho w0.heap.size 0 L.toArray hx hy ?_ (by simpa using hi) h1 ?_
 ·have := hb.there; rw [hZ] at this; simpa using this
 ·refine h _ ?_ ?_
  ·have := hb.setCells (l' := L) hZ.symm; simpa using this
  ·exact hk.setCells (Or.inr (Nat.le_refl _))
theorem dig_blk (w : World) : Blk (w.alloc (.cells Tryz.zeroCells166 166)) w.heap.size 166 Tryz.zeroCells166.toList := by
 have := Blk.new w 166 Tryz.zeroCells166.toList
 rwa [Array.toArray_toList] at this
theorem dig_zl : Tryz.zeroCells166.toList.length = digL.length := by kernel_rfl
theorem trimRight_x (w : World) : Calls Tryz.prog 98 #[.string ⟨#[120, 49, 50]⟩, .string digS] w fun e w' => e = .returned (.string ⟨#[120]⟩) ∧ Kept (fun _ => False) w w' := by
 have i1 : digS.toList.isEmpty = false := by kernel_rfl
 have i2 : digS.size = 10 := rfl
 have i3 : (digS.toList == []) = false := by kernel_rfl
 have HD := Ld dig_set
 go_enter Tryz.func98, Tryz.ntmps98
 go_wp2_with (first | (go_at_call 162; refine (HD.out _).mono ?_; rintro e w1 ⟨rfl, hw1⟩; have k1 : Kept (fun _ => False) w w1 := (by rw [hw1]; exact (Kept.refl _ _).alloc _); clear hw1) | (refine wpList_store_at (w0 := w1) (L := digL) (dig_blk w1) ((Kept.refl _ _).alloc _) rfl _ _ rfl rfl rfl (by kernel_rfl) dig_zl (by kernel_rfl) ?_; intro W bW kW; have h50 : W.cell? ⟨w1.heap.size, 50, none⟩ = some (.bool true) := (by rw [bW.cell]; exact dig_50); have h49 : W.cell? ⟨w1.heap.size, 49, none⟩ = some (.bool true) := (by rw [bW.cell]; exact dig_49); have h120 : W.cell? ⟨w1.heap.size, 120, none⟩ = some (.bool false) := (by rw [bW.cell]; exact dig_120); have HT := Ld (trimR W w1.heap.size h50 h49 h120)) | (go_at_call 163; refine HT.out.mono ?_; rintro e w' ⟨rfl, rfl⟩))
 go_ret
 exact ⟨rfl, k1.trans kW⟩
def sX12 : ByteArray := ⟨#[120, 49, 50]⟩
def sX1 : ByteArray := ⟨#[120, 49]⟩
def sX2 : ByteArray := ⟨#[120, 50]⟩
theorem fx1 : Lib.containsS (List.take 2 [sX12, sX1]) sX12 = true := by rw [Lib.containsS_iff]; simp [sX12]
theorem fx2 : Lib.containsS (List.take 2 [sX12, sX1]) sX1 = true := by rw [Lib.containsS_iff]; simp [sX1]
theorem fx3 : Lib.containsS (List.take 2 [sX12, sX1]) sX2 = false := by
 cases h : Lib.containsS (List.take 2 [sX12, sX1]) sX2
 ·rfl
 ·rw [Lib.containsS_iff] at h; simp [sX12, sX1, sX2] at h
theorem fx4 : namedB ⟨#[120, 49, 50]⟩ = true := by kernel_rfl
theorem fx5 : Lib.decDigits 1 = [49] := by unfold Lib.decDigits; rfl
theorem fx6 : Lib.decDigits 2 = [50] := by unfold Lib.decDigits; rfl
theorem fx7 : keywordB ⟨#[120, 49]⟩ = false := by kernel_rfl
theorem fx8 : keywordB ⟨#[120, 50]⟩ = false := by kernel_rfl
theorem fresh_x (w : World) (g : Nat) (h0 : w.cell? ⟨g, 0, none⟩ = some (.string ⟨#[120, 49, 50]⟩)) (h1 : w.cell? ⟨g, 1, none⟩ = some (.string ⟨#[120, 49]⟩)) :
  Calls Tryz.prog 48 #[.string ⟨#[120, 49, 50]⟩, .slice (some ⟨g, 0, none⟩) 2 2] w fun e w' => e = .returned (.string ⟨#[120, 50]⟩) ∧ Kept (fun _ => False) w w' := by
 have hcl : ∀ W : World, Kept (fun _ => False) w W → ∀ j, j < [sX12, sX1].length → W.cell? ⟨g, 0 + j, none⟩ = some (.string ([sX12, sX1].getD j ByteArray.empty)) := by
  intro W k j hj
  have : j = 0 ∨ j = 1 := by simp at hj; omega
  rcases this with rfl | rfl
  ·rw [k.cell (p := ⟨g, 0 + 0, none⟩) (cell_lt h0) (fun h => h)]; exact h0
  ·rw [k.cell (p := ⟨g, 0 + 1, none⟩) (cell_lt h1) (fun h => h)]; exact h1
 have cA : Hid (∀ W : World, Kept (fun _ => False) w W → Calls Tryz.prog 97 #[.slice (some ⟨g, 0, none⟩) 2 2, .string ⟨#[120, 49, 50]⟩] W fun e w' => e = .returned (.bool true) ∧ W = w') := Ld (fun W k => (Tryz.slices_Contains_string g 0 2 2 [sX12, sX1] sX12 W (by decide) (by decide) (hcl W k)).mono fun e w' ⟨q1, q2⟩ => ⟨by rw [q1, fx1], q2.symm⟩)
 have cB : Hid (∀ W : World, Kept (fun _ => False) w W → Calls Tryz.prog 97 #[.slice (some ⟨g, 0, none⟩) 2 2, .string ⟨#[120, 49]⟩] W fun e w' => e = .returned (.bool true) ∧ W = w') := Ld (fun W k => (Tryz.slices_Contains_string g 0 2 2 [sX12, sX1] sX1 W (by decide) (by decide) (hcl W k)).mono fun e w' ⟨q1, q2⟩ => ⟨by rw [q1, fx2], q2.symm⟩)
 have cC : Hid (∀ W : World, Kept (fun _ => False) w W → Calls Tryz.prog 97 #[.slice (some ⟨g, 0, none⟩) 2 2, .string ⟨#[120, 50]⟩] W fun e w' => e = .returned (.bool false) ∧ W = w') := Ld (fun W k => (Tryz.slices_Contains_string g 0 2 2 [sX12, sX1] sX2 W (by decide) (by decide) (hcl W k)).mono fun e w' ⟨q1, q2⟩ => ⟨by rw [q1, fx3], q2.symm⟩)
 have HN : Hid (∀ W, Calls Tryz.prog 79 #[.string ⟨#[120, 49, 50]⟩] W fun e w' => e = .returned (.bool true) ∧ W = w') := Ld (fun W => (named_any _ W (by decide)).mono fun e w' ⟨q1, q2⟩ => ⟨by rw [q1, fx4], q2⟩)
 have HT : Hid (∀ W, Calls Tryz.prog 99 #[.string ⟨#[120, 49, 50]⟩, .string ⟨#[39]⟩] W fun e w' => e = .returned (.string ⟨#[120, 49, 50]⟩) ∧ W = w') := Ld (fun W => (Tryz.strings_TrimSuffix _ _ W (by decide)).mono fun e w' ⟨q1, q2⟩ => ⟨by rw [q1]; rfl, q2.symm⟩)
 have HI1 : Hid (∀ W, Calls Tryz.prog 100 #[.int .i64 1] W fun e w' => e = .returned (.string ⟨#[49]⟩) ∧ W = w') := Ld (fun W => (Tryz.strconv_Itoa_small 1 (by decide) W).mono fun e w' ⟨q1, q2⟩ => ⟨by rw [q1, fx5], q2.symm⟩)
 have HI2 : Hid (∀ W, Calls Tryz.prog 100 #[.int .i64 2] W fun e w' => e = .returned (.string ⟨#[50]⟩) ∧ W = w') := Ld (fun W => (Tryz.strconv_Itoa_small 2 (by decide) W).mono fun e w' ⟨q1, q2⟩ => ⟨by rw [q1, fx6], q2.symm⟩)
 have HK1 : Hid (∀ W, Calls Tryz.prog 101 #[.string ⟨#[120, 49]⟩] W fun e w' => e = .returned (.bool false) ∧ W = w') := Ld (fun W => (keyword_any _ W).mono fun e w' ⟨q1, q2⟩ => ⟨by rw [q1, fx7], q2⟩)
 have HK2 : Hid (∀ W, Calls Tryz.prog 101 #[.string ⟨#[120, 50]⟩] W fun e w' => e = .returned (.bool false) ∧ W = w') := Ld (fun W => (keyword_any _ W).mono fun e w' ⟨q1, q2⟩ => ⟨by rw [q1, fx8], q2⟩)
 have HR := Ld trimRight_x
 clear hcl
 go_enter Tryz.func48, Tryz.ntmps48
 go_wp2_with (first | (go_at_call 79; refine (HN.out _).mono ?_; rintro e w' ⟨rfl, rfl⟩) | (go_at_call 97; refine (cA.out w (Kept.refl _ _)).mono ?_; rintro e w' ⟨rfl, rfl⟩) | (go_at_call 99; refine (HT.out _).mono ?_; rintro e w' ⟨rfl, rfl⟩) | (go_at_call 98; refine (HR.out _).mono ?_; rintro e w1 ⟨rfl, k1⟩))
 have hcu : digS = digS := rfl
 go_loop [6] (fun i => i = .int .i64 1 ∨ i = .int .i64 2) (fun i => 2 - (intOf i).toNat)
 case atStart => exact Or.inl rfl
 case round =>
  rcases hrel with rfl | rfl
  ·go_wp2_with (first | (go_at_call 100; refine (HI1.out _).mono ?_; rintro e w' ⟨rfl, rfl⟩) | (go_at_call 101; refine (HK1.out _).mono ?_; rintro e w' ⟨rfl, rfl⟩) | (go_at_call 97; refine (cB.out w1 k1).mono ?_; rintro e w' ⟨rfl, rfl⟩))
   go_round
   case rel => exact Or.inr rfl
   case measure => decide
  ·go_wp2_with (first | (go_at_call 100; refine (HI2.out _).mono ?_; rintro e w' ⟨rfl, rfl⟩) | (go_at_call 101; refine (HK2.out _).mono ?_; rintro e w' ⟨rfl, rfl⟩) | (go_at_call 97; refine (cC.out w1 k1).mono ?_; rintro e w' ⟨rfl, rfl⟩))
   go_ret
   exact ⟨rfl, k1⟩
theorem TmL.src {ok : Nat → Prop} {w : World} {l : List Tm} {v : Value} (h : TmL ok w l v) : ∃ E : List E3, E.map (·.1) = l ∧ EL ok w E ∧ Src w v l.length (flat E) := by
 obtain ⟨a, n, c, rfl⟩ := h.slice
 have hn := h.len
 cases a with
 | none =>
  have : l = [] ∧ n = 0 ∧ c = 0 := by
   generalize hv : Value.slice none n c = v at h
   cases h with
   | nil he =>
    rcases he with he | ⟨_, _, he⟩ <;> rw [he] at hv <;> cases hv
    exact ⟨rfl, rfl, rfl⟩
   | mk => cases hv
  obtain ⟨rfl, rfl, rfl⟩ := this
  exact ⟨[], rfl, (fun e he => by cases he), .inl ⟨rfl, rfl, rfl⟩⟩
 | some ad =>
  obtain ⟨E, h1, h2, h3, h4⟩ := h.row
  exact ⟨E, h1, h2, .inr ⟨ad, c, by rw [hn], h4⟩⟩
theorem flat_size (E : List E3) : (flat E).length = E.length * 7 := flat_len E
theorem RowT.app2 {w wr W8 : World} {base : Nat} {E F : List E3} {v v' : Value} (hb : w.heap.size ≤ base) (h : RowT w base wr E v) (hF : EL (okb base v) wr F)
  (own8 : W8.ownsRow base 28 7 v' (E.length + F.length) (flat E ++ flat F)) (hgrow : wr.grownBy W8 v.ownBlock) (hat : v'.ownBlock = v.ownBlock ∨ v'.ownBlock = some wr.heap.size) :
  RowT w base W8 (E ++ F) v' := by
 have kG := kept_grown hgrow
 have zk := h.kp.size
 have hvb : ∀ x, v.ownBlock = some x → base ≤ x ∧ x < wr.heap.size := fun x e => h.own.lt x e
 refine ⟨h.kp.via kG (fun x hx e => by have := (hvb x e).1; omega), by rw [flat_app, List.length_append]; exact own8, ?_⟩
 have e2 := (h.el.app hF).mono (ok' := fun q => okb base v q ∧ okb base v' q) (fun q hq hh => ⟨hh, hh.1, fun e => by
  rcases hat with hat | hat
  ·exact hh.2 (by rw [← hat, e])
  ·rw [hat] at e
   have := Option.some.inj e
   omega⟩)
 exact (e2.frame (Same.of_kept kG (fun q hq e => hq.1.2 e))).mono (fun q _ hq => hq.2)
theorem RowT.src {w wr : World} {base : Nat} {E : List E3} {v : Value} (h : RowT w base wr E v) : Src wr v E.length (flat E) := by
 have h0 := h.own
 rcases h.own.2 with ⟨rfl, hn⟩ | ⟨g, cap, cur, rfl, hr⟩
 ·have : E = [] := List.length_eq_zero_iff.1 hn
  subst this
  exact .inl ⟨rfl, rfl, rfl⟩
 ·exact .inr ⟨_, _, rfl, own_cells h0⟩
theorem frGo_ext {U V : List ByteArray} (h : ∀ s, mb s U = mb s V) (b : List UInt8) : ∀ (f k : Nat), frGo b U f k = frGo b V f k
 | 0, k => rfl
 | f + 1, k => by rw [frGo, frGo, h, frGo_ext h b f]
theorem freshS_ext {U V : List ByteArray} (h : ∀ s, mb s U = mb s V) (n : ByteArray) : freshS n U = freshS n V := by
 unfold freshS frFrom
 rw [h, frGo_ext h]
def wordV (nm : ByteArray) (k : Nat) : ByteArray := match k with
 | 0 => nm
 | 1 => str [120]
 | 2 => str [121]
 | 3 => str [122]
 | 4 => str [110]
 | 5 => str [120, 49]
 | 6 => str [97]
 | _ => str [102]
def pickV (l : List Int) (at_ : Nat) : Nat := if l.length = 0 then 0 else (l.getD (at_ % l.length) 0 % 8).toNat
def exL (l : List ByteArray) (s : ByteArray) : List ByteArray := l.filter fun x => !decide (x = s)
def varZ (l : List Int) (nm : ByteArray) (body : Tm) (at_ : Nat) : ByteArray := freshS (wordV nm (pickV l at_)) (exL (fr body) nm)
def varK (g : Tm → Nat → Tm × Nat) : List Tm → Nat → List Tm × Nat
 | [], i => ([], i)
 | t :: ks, i => ((g t i).1 :: (varK g ks (g t i).2).1, (varK g ks (g t i).2).2)
def varF (l : List Int) : Nat → Tm → Nat → Tm × Nat
 | 0, t, i => (t, i)
 | f + 1, .mk op nm N ty ks, i =>
  if binderB op then
   (.mk op (varZ l nm (ks.getD 1 (nameT nm)) i) N ty (varK (varF l f) (ks.set 1 (subT freshS (ks.getD 1 (nameT nm)) [(nm, nameT (varZ l nm (ks.getD 1 (nameT nm)) i))])) (i + 1)).1,
    (varK (varF l f) (ks.set 1 (subT freshS (ks.getD 1 (nameT nm)) [(nm, nameT (varZ l nm (ks.getD 1 (nameT nm)) i))])) (i + 1)).2)
  else (.mk op nm N ty (varK (varF l f) ks i).1, (varK (varF l f) ks i).2)
theorem exL_mem {l : List ByteArray} {s x : ByteArray} : x ∈ exL l s ↔ x ∈ l ∧ x ≠ s := by
 unfold exL; rw [List.mem_filter]; simp
theorem exL_len (l : List ByteArray) (s : ByteArray) : (exL l s).length ≤ l.length := List.length_filter_le _ _
theorem word_ident {nm : ByteArray} (h : identB nm = true) (k : Nat) : identB (wordV nm k) = true := by
 unfold wordV
 split <;> first | exact h | kernel_rfl
theorem varZ_ident {l : List Int} {nm : ByteArray} {body : Tm} {i : Nat} (h : identB nm = true) (hM : tmN body ≤ 700000) : identB (varZ l nm body i) = true := by
 unfold varZ
 refine freshS_ident (word_ident h _) ?_
 have := exL_len (fr body) nm
 have := frs_len body
 omega
theorem varZ_not {l : List Int} {nm : ByteArray} {body : Tm} {i : Nat} (hM : tmN body ≤ 700000) {s : ByteArray} (hs : s ∈ fr body) (hn : s ≠ nm) : s ≠ varZ l nm body i := by
 intro e
 have := freshS_good (wordV nm (pickV l i)) (exL (fr body) nm) (by
  have := exL_len (fr body) nm
  have := frs_len body
  omega)
 have h2 := (mb_iff s _).2 (exL_mem.2 ⟨hs, hn⟩)
 unfold varZ at e
 rw [← e, h2] at this; cases this
theorem frB_one (nm z : ByteArray) : frB [(nm, nameT z)] = [z] := by rw [frB, frB, fr_nameT]; rfl
theorem rename_body {nm z : ByteArray} {body : Tm} (hM : tmN body ≤ 700000) (hz : ∀ s, s ∈ fr body → s ≠ nm → s ≠ z) (ρ : ByteArray → Db) : ev (upE z ρ) (subT freshS body [(nm, nameT z)]) = ev (upE nm ρ) body := by
 rw [ev_sub freshS_FS body _ _ (by rw [frB_one, List.length_singleton]; omega)]
 apply ev_cong
 intro s hs
 unfold evB
 rw [look]
 by_cases e : nm = s
 ·rw [if_pos e]
  simp only
  rw [nameT_ev]
  unfold upE; rw [if_pos rfl, if_pos e.symm]
 ·rw [if_neg e]
  simp only [look]
  unfold upE
  rw [if_neg (hz s hs (Ne.symm e)), if_neg (Ne.symm e)]
theorem varK_len (g : Tm → Nat → Tm × Nat) : ∀ (ks : List Tm) (i : Nat), (varK g ks i).1.length = ks.length
 | [], i => rfl
 | t :: ks, i => by rw [varK, List.length_cons, varK_len g ks, List.length_cons]
theorem varK_mem {g : Tm → Nat → Tm × Nat} {P : Tm → Prop} : ∀ {ks : List Tm} {i : Nat}, (∀ t ∈ ks, ∀ j, P (g t j).1) → ∀ u ∈ (varK g ks i).1, P u
 | [], i, h, u, hu => by cases hu
 | t :: ks, i, h, u, hu => by
  rw [varK] at hu
  rcases List.mem_cons.1 hu with rfl | hu
  ·exact h t (by simp) i
  ·exact varK_mem (fun t ht => h t (List.mem_cons_of_mem _ ht)) u hu
theorem varK_ev {g : Tm → Nat → Tm × Nat} (bi : Bool) (nm : ByteArray) (ρ : ByteArray → Db) : ∀ {ks : List Tm} {i j : Nat}, (∀ t ∈ ks, ∀ j ρ, ev ρ (g t j).1 = ev ρ t) → evs bi nm ρ j (varK g ks i).1 = evs bi nm ρ j ks
 | [], i, j, h => rfl
 | t :: ks, i, j, h => by
  rw [varK, evs, evs, varK_ev bi nm ρ (fun t ht => h t (List.mem_cons_of_mem _ ht)), h t (by simp)]
theorem tmD_kid {ks : List Tm} {t : Tm} (h : t ∈ ks) : tmD t ≤ tmDs ks ∧ tmN t ≤ tmNs ks := by
 induction ks with
 | nil => cases h
 | cons a ks ih =>
  rw [tmDs, tmNs]
  rcases List.mem_cons.1 h with rfl | h
  ·omega
  ·have := ih h; omega
theorem sub1_ok {nm z : ByteArray} {body : Tm} (hb : OkTm body) (hz : namedB z = true) (hM : tmN body ≤ 700000) : OkTm (subT freshS body [(nm, nameT z)]) :=
 sub_ok hb _ (fun b hb => by rw [List.mem_singleton.1 hb]; exact nameT_ok hz) (by rw [frB_one, List.length_singleton]; omega)
theorem szD_up {ρ : ByteArray → Db} (h : ∀ s, szD (ρ s) = 1) (nm s : ByteArray) : szD (upE nm ρ s) = 1 := by
 unfold upE; split
 ·rfl
 ·rw [szD_ren]; exact h s
theorem dpD_up {ρ : ByteArray → Db} (h : ∀ s, dpD (ρ s) = 1) (nm s : ByteArray) : dpD (upE nm ρ s) = 1 := by
 unfold upE; split
 ·rfl
 ·rw [dpD_ren]; exact h s
theorem sub1_size {nm z : ByteArray} {body : Tm} (hb : OkTm body) (hz : namedB z = true) (hzf : ∀ s, s ∈ fr body → s ≠ nm → s ≠ z) (hM : tmN body ≤ 700000) : tmN (subT freshS body [(nm, nameT z)]) = tmN body ∧ tmD (subT freshS body [(nm, nameT z)]) = tmD body := by
 have e := rename_body hM hzf .fv
 have h1 := sub1_ok (nm := nm) hb hz hM
 constructor
 ·rw [← ev_size _ (upE z .fv) h1.nw (szD_up (fun _ => rfl) z), e, ev_size _ (upE nm .fv) hb.nw (szD_up (fun _ => rfl) nm)]
 ·rw [← ev_depth _ (upE z .fv) h1.nw (dpD_up (fun _ => rfl) z), e, ev_depth _ (upE nm .fv) hb.nw (dpD_up (fun _ => rfl) nm)]
theorem vary_main (l : List Int) : ∀ (f : Nat) (t : Tm) (i : Nat), OkTm t → tmN t ≤ 700000 → tmD t ≤ f → OkTm (varF l f t i).1 ∧ ∀ ρ, ev ρ (varF l f t i).1 = ev ρ t := by
 intro f
 induction f with
 | zero => intro t i h _ _; exact ⟨h, fun _ => rfl⟩
 | succ f ih =>
  intro t i h hM hD
  cases h with
  | mk hf hn hk =>
   rename_i op nm N ty ks
   rw [tmN] at hM
   rw [tmD] at hD
   rw [varF]
   cases hb : binderB op
   ·simp only [Bool.false_eq_true, if_false]
    have hkk : ∀ t ∈ ks, ∀ j, OkTm (varF l f t j).1 ∧ ∀ ρ, ev ρ (varF l f t j).1 = ev ρ t := fun t ht j => ih t j (hk t ht) (by have := (tmD_kid ht).2; omega) (by have := (tmD_kid ht).1; omega)
    refine ⟨.mk (by rw [varK_len]; exact hf) (by rw [varK_len]; exact hn) (varK_mem (fun t ht j => (hkk t ht j).1)), fun ρ => ?_⟩
    rw [ev, ev]
    split
    ·rfl
    ·rw [varK_ev _ _ _ (fun t ht j ρ => (hkk t ht j).2 ρ)]
   ·simp only [if_true]
    have hid := formed_ident hf hb
    have e2 := binder_kids hb (formed_parts hf).1
    match ks, e2 with
    | [d, body], _ =>
     have eg : ([d, body] : List Tm).getD 1 (nameT nm) = body := rfl
     rw [eg]
     have hbo := hk body (by simp)
     simp only [tmNs] at hM
     simp only [tmDs] at hD
     have hz1 := varZ_ident (l := l) (i := i) hid (show tmN body ≤ 700000 by omega)
     have hz2 := fun s hs hn => varZ_not (l := l) (nm := nm) (body := body) (i := i) (by omega) (s := s) hs hn
     generalize varZ l nm body i = z at *
     have hsz := sub1_size hbo (ident_named hz1) hz2 (by omega)
     have hso := sub1_ok (nm := nm) hbo (ident_named hz1) (by omega)
     have hre := rename_body (nm := nm) (z := z) (body := body) (by omega) hz2
     generalize subT freshS body [(nm, nameT z)] = body' at *
     have hkk : ∀ t ∈ ([d, body] : List Tm).set 1 body', ∀ j, OkTm (varF l f t j).1 ∧ ∀ ρ, ev ρ (varF l f t j).1 = ev ρ t := by
      intro t ht j
      have ht : t ∈ [d, body'] := ht
      rcases List.mem_cons.1 ht with rfl | ht
      ·exact ih _ j (hk _ (by simp)) (by omega) (by omega)
      ·rw [List.mem_singleton.1 ht]
       exact ih _ j hso (by omega) (by omega)
     refine ⟨.mk (by rw [varK_len]; exact formed_name2 hf hb hz1) (by rw [varK_len]; exact hn) (varK_mem (fun t ht j => (hkk t ht j).1)), fun ρ => ?_⟩
     rw [ev, ev, if_neg (binder_ne hb).1, if_neg (binder_ne hb).1, varK_ev _ _ _ (fun t ht j ρ => (hkk t ht j).2 ρ), hb]
     show Db.nd op N ty [ev ρ d, ev (upE z ρ) body'] = Db.nd op N ty [ev ρ d, ev (upE nm ρ) body]
     rw [hre]
def varyT (l : List Int) (t : Tm) : Tm := (varF l (tmD t) t 0).1
theorem vary_ok {l : List Int} {t : Tm} (h : OkTm t) (hM : tmN t ≤ 700000) : OkTm (varyT l t) := (vary_main l _ t 0 h hM (Nat.le_refl _)).1
theorem vary_db {l : List Int} {t : Tm} (h : OkTm t) (hM : tmN t ≤ 700000) : dbT (varyT l t) = dbT t := (vary_main l _ t 0 h hM (Nat.le_refl _)).2 _
theorem mb_drop {s : ByteArray} {l : List ByteArray} {k : Nat} (h : k < l.length) : mb s (l.drop k) = (decide (l[k] = s) || mb s (l.drop (k + 1))) := by
 rw [List.drop_eq_getElem_cons h]; unfold mb; rw [List.any_cons]
theorem rinN_any {ok : Nat → Prop} {w : World} {l : List ByteArray} {v : Value} (s : ByteArray) (h : NmL ok w l v) (hn : l.length ≤ 10000000) :
  Calls Tryz.prog 129 #[.string s, v] w fun e w' => e = .returned (.bool (mb s l)) ∧ w = w' := by
 obtain ⟨a, c, rfl⟩ := h.slice
 have HAT := Ld (fun i hi => h.at i hi)
 have HN := Ld hn
 clear h hn
 go_enter Tryz.func129, Tryz.ntmps129
 go_wp2_with fail
 go_loop [5] (fun i => ∃ k : Nat, k ≤ l.length ∧ i = .int .i64 k ∧ Hid (mb s l = mb s (l.drop k))) (fun i => l.length - (intOf i).toNat)
 case atStart => exact ⟨0, Nat.zero_le _, rfl, Ld rfl⟩
 case round =>
  obtain ⟨k, hk, rfl, hq⟩ := hrel
  by_cases hlt : k < l.length
  ·have i1 : (k : Int) < (l.length : Int) := by omega
   have i2 : (k : Int) < 10000000 := by have := HN.out; omega
   obtain ⟨g, off, rfl, _, c0⟩ := HAT.out k hlt
   have HS := Ld (mb_drop (s := s) hlt)
   cases hs : (l[k].toList == s.toList)
   ·have hne : Hid (decide (l[k] = s) = false) := Ld (by rw [nm_eq] at hs; exact hs)
    go_wp2_with fail
    go_round
    case rel => exact ⟨k + 1, by omega, by go_num, Ld (by rw [hq.out, HS.out, hne.out]; rfl)⟩
    case measure => simp [intOf]; omega
   ·have hye : Hid (decide (l[k] = s) = true) := Ld (by rw [nm_eq] at hs; exact hs)
    go_wp2_with fail
    go_ret
    exact ⟨by rw [hq.out, HS.out, hye.out]; rfl, rfl⟩
  ·have hkk : k = l.length := by omega
   subst hkk
   have HE : Hid (mb s l = false) := Ld (by rw [hq.out, List.drop_length]; rfl)
   go_wp2_with fail
   go_ret
   exact ⟨by rw [HE.out]; rfl, rfl⟩
theorem exL_drop {s : ByteArray} {l : List ByteArray} {k : Nat} (h : k < l.length) : exL (l.drop k) s = (if decide (l[k] = s) then [] else [l[k]]) ++ exL (l.drop (k + 1)) s := by
 rw [List.drop_eq_getElem_cons h]; unfold exL; rw [List.filter_cons]
 cases hd : decide (l[k] = s) <;> simp
theorem rexc_any {ok : Nat → Prop} {w : World} {l : List ByteArray} {v : Value} (s : ByteArray) (h : NmL ok w l v) (hn : l.length ≤ 1000000) :
  Calls Tryz.prog 124 #[v, .string s] w fun e w' => ∃ v', e = .returned v' ∧ NRow w w.heap.size w' (exL l s) v' := by
 obtain ⟨i9, hi9, hz9, hs9, hb9⟩ := info_str
 have HI := Ld hi9
 have HZ := Ld hz9
 have HS := Ld hs9
 have HB := Ld hb9
 obtain ⟨a, c, rfl⟩ := h.slice
 have HAT := Ld (fun W (k : Kept (fun _ => False) w W) => (h.frame (sK k)).at)
 have HN := Ld hn
 clear h hi9 hz9 hs9 hb9 hn
 go_enter Tryz.func124, Tryz.ntmps124
 go_wp2_with fail
 go_loopw [5, 6] (fun v i wr => ∃ (k : Nat) (out : List ByteArray), k ≤ l.length ∧ i = .int .i64 k ∧ NRow w w.heap.size wr out v ∧ Hid (exL l s = out ++ exL (l.drop k) s ∧ out.length ≤ k)) (fun v i _ => l.length - (intOf i).toNat)
 case atStart => exact ⟨0, [], Nat.zero_le _, rfl, ⟨Kept.refl _ _, World.ownsRow_nil _ _ _ _⟩, Ld ⟨rfl, Nat.le_refl _⟩⟩
 case round =>
  obtain ⟨k, out, hkl, rfl, hR, hq⟩ := hrel
  obtain ⟨va, vc, hv⟩ := hR.nml.slice
  subst hv
  have R := Ld hR
  clear hR
  by_cases hlt : k < l.length
  ·have i1 : (k : Int) < (l.length : Int) := by omega
   have i2 : (k : Int) < 1000000 := by have := HN.out; omega
   obtain ⟨g, off, rfl, _, c0⟩ := HAT.out wr R.out.kp k hlt
   have HD := Ld (exL_drop (s := s) hlt)
   cases hs : (l[k].toList == s.toList)
   ·have hne : Hid (decide (l[k] = s) = false) := Ld (by rw [nm_eq] at hs; exact hs)
    have hN2 : Hid (exL l s = (out ++ [l[k]]) ++ exL (l.drop (k + 1)) s) := Ld (by rw [hq.out.1, HD.out, hne.out, List.append_assoc]; rfl)
    have hLn : Hid (out.length ≤ k) := Ld hq.out.2
    go_wp2_with (at_builtin; refine wpList_app_src rfl (.tmp 19) (.tmp 24) _ rfl w.heap.size 9 i9 _ 1 16 Tryz.underlying41 HI.out HZ.out HS.out HB.out rfl (by decide) (.slice va out.length vc) out.length (out.map Value.string) rfl (R.out.own.alloc _) (.slice (some ⟨wr.heap.size, 0, none⟩) 1 1) 1 [.string l[k]] rfl (.inr ⟨_, _, rfl, cell_one_new _ _ _⟩) rfl (strs_one [l[k]]) ?_ ?_ ?_ ?_)
    ·have := hLn.out; unfold maxLen; omega
    ·have := hLn.out; omega
    ·have := R.out.kp.size; simp; omega
    intro v2 w2 own2 hg2 hat2
    have R2 := Ld (NRow.app (W := wr.alloc (.cells #[.string l[k]] 9)) (r := [l[k]]) ⟨R.out.kp.alloc _, R.out.own.alloc _⟩ (Nat.le_refl _) own2 hg2)
    clear own2 hg2 hat2
    go_wp2_with fail
    go_roundw
    case rel => exact ⟨k + 1, _, by omega, by go_num, R2.out, Ld ⟨hN2.out, by have := hLn.out; simp; omega⟩⟩
    case measure => simp [intOf]; omega
   ·have hye : Hid (decide (l[k] = s) = true) := Ld (by rw [nm_eq] at hs; exact hs)
    have hN2 : Hid (exL l s = out ++ exL (l.drop (k + 1)) s) := Ld (by rw [hq.out.1, HD.out, hye.out]; rfl)
    go_wp2_with fail
    go_roundw
    case rel => exact ⟨k + 1, _, by omega, by go_num, R.out, Ld ⟨hN2.out, by have := hq.out.2; omega⟩⟩
    case measure => simp [intOf]; omega
  ·have hkk : k = l.length := by omega
   subst hkk
   have HE : Hid (exL l s = out) := Ld (by rw [hq.out.1, List.drop_length]; simp [exL])
   go_wp2_with fail
   go_ret
   exact ⟨_, rfl, by rw [HE.out]; exact R.out⟩
end Go.Proofs.YtfhedienjnfdcaaGreatDoor
