/- Texts RWgW RSsW SbsW of this proof, in one. -/
import Derived.Test.YtfhedienjnfdcaaGreatDoorK23
set_option linter.unusedVariables false
set_option linter.unusedSimpArgs false
set_option maxRecDepth 100000
set_option maxHeartbeats 32000000
namespace Go.Proofs.YtfhedienjnfdcaaGreatDoor
open Go.RowKit
def wgI (o : Option Nat) : Int := match o with | some m => m | none => -1
def WgC (t : Tm) : Prop := ∀ (l : List (ByteArray × Tm)) (B : List ByteArray) (n at_ : Nat) (w : World) (ok okb okB : Nat → Prop) (tk kk vl v : Value), TyL ok w t.ty.kids tk → TmL ok w t.kids kk → BnL okb w l vl → (∀ b, b ∈ l → SmTm big b.2 ∧ validB b.2 = true) → l.length ≤ 1000 → NmL okB w B v → B.length + tmD t ≤ 900000 → n ≤ 2000 → at_ + tmD t ≤ 900000 →
 Calls Tryz.prog 77 #[tmVal t tk kk, vl, v, .int .i64 n, .int .i64 at_] w fun e w' => e = .returned (.int .i64 (wgI (wgT l B n at_ t))) ∧ Kept (fun _ => False) w w'
theorem wgTs_drop {l : List (ByteArray × Tm)} {B : List ByteArray} {bi : Bool} {nm : ByteArray} {n at_ : Nat} {ks : List Tm} {k : Nat} (h : k < ks.length) : wgTs l B bi nm k n at_ (ks.drop k) = (match wgT l (if bi && k == 1 then B ++ [nm] else B) n at_ ks[k] with | none => none | some m => wgTs l B bi nm (k + 1) m at_ (ks.drop (k + 1))) := by
 rw [List.drop_eq_getElem_cons h, wgTs]
 cases wgT l (if bi && k == 1 then B ++ [nm] else B) n at_ ks[k] <;> rfl
mutual
theorem wgT_le (l : List (ByteArray × Tm)) : ∀ (t : Tm) (B : List ByteArray) (n at_ m : Nat), wgT l B n at_ t = some m → m ≤ 2000
 | .mk op nm N ty ks, B, n, at_, m, h => by
  rw [wgT] at h
  split at h
  ·split at h
   ·cases h
   ·cases h; omega
  ·split at h
   ·cases h
   ·exact wgTs_le l ks B _ nm 0 _ _ m (by omega) h
theorem wgTs_le (l : List (ByteArray × Tm)) : ∀ (ks : List Tm) (B : List ByteArray) (bi : Bool) (nm : ByteArray) (i n at_ m : Nat), n ≤ 2000 → wgTs l B bi nm i n at_ ks = some m → m ≤ 2000
 | [], B, bi, nm, i, n, at_, m, hn, h => by rw [wgTs] at h; cases h; exact hn
 | t :: ks, B, bi, nm, i, n, at_, m, hn, h => by
  rw [wgTs] at h
  split at h
  ·cases h
  ·rename_i k hk
   exact wgTs_le l ks B bi nm (i + 1) k at_ m (wgT_le l t _ _ _ _ hk) h
end
theorem rwg_name {nm : ByteArray} {N : Int} {ty : Ty} : WgC (.mk 20 nm N ty []) := by
 intro l B n at_ w ok okb okB tk kk vl v h1 h2 hB hl hll hN hd hn hat
 have h1 : TyL ok w ty.kids tk := h1
 have h2 : TmL ok w [] kk := h2
 obtain ⟨a, an, ac, rfl⟩ := h1.slice
 obtain ⟨ma, mn, mc, rfl⟩ := h2.slice
 obtain rfl : mn = 0 := h2.len
 have hD : tmD (.mk 20 nm N ty []) = 1 := rfl
 rw [hD] at hd hat
 change Calls Tryz.prog 77 #[.agg #[.int .i64 20, .string nm, .int .i64 N, .int .i64 ty.kind, .string ty.name, .slice a an ac, .slice ma 0 mc], vl, v, .int .i64 n, .int .i64 at_] w _
 have K1 : Kept (fun _ => False) w (w.alloc (.cells #[.int .i64 20, .string nm, .int .i64 N, .int .i64 ty.kind, .string ty.name, .slice a an ac, .slice ma 0 mc] 28)) := (Kept.refl _ _).alloc _
 have HI := Ld (rinN_any nm (hN.frame (sK K1)) (by omega))
 have HBO := Ld (fun W (k : Kept (fun _ => False) w W) => rbof_any nm (hB.frame (sK k)) (by omega))
 have HSU : Hid (∀ u, look l nm = some u → SmTm big u ∧ szA u = (tmN u : Int) ∧ szB u = (tmD u : Int) ∧ tmN u ≤ 2000 ∧ tmD u ≤ 64) := Ld (fun u hu => by
  obtain ⟨b, hb, rfl⟩ := look_mem hu
  have h := hl b hb
  have h3 := (valid_iff b.2).1 h.2
  exact ⟨h.1, by unfold szA; rw [h.2]; rfl, by unfold szB; rw [h.2]; rfl, h3.2.1, h3.2.2⟩)
 have HR : Hid (wgT l B n at_ (.mk 20 nm N ty []) = if (mb nm B = false ∧ (look l nm).isSome = true) then
   (if n + tmN ((look l nm).getD tm0) > 2000 ∨ at_ + tmD ((look l nm).getD tm0) > 65 then none else some (n + tmN ((look l nm).getD tm0)))
  else if n + 1 > 2000 ∨ at_ > 64 then none else some (n + 1)) := Ld (by
  rw [wgT]; simp only [true_and]; rfl)
 have HK := Ld K1
 have HN := Ld (⟨hn, hat⟩ : _ ∧ _)
 obtain ⟨va, vc, rfl⟩ := hN.slice
 obtain ⟨la, lc, rfl⟩ := hB.slice
 clear h1 h2 hB hd hN hll hl K1 hn hat hD
 generalize wgT l B n at_ (.mk 20 nm N ty []) = r at *
 go_enter Tryz.func77, Tryz.ntmps77
 go_upto_region 1 with (fail)
 have bA := Ld (Blk.new w 28 [Value.int .i64 20, .string nm, .int .i64 N, .int .i64 ty.kind, .string ty.name, .slice a an ac, .slice ma 0 mc])
 change Hid (Blk (w.alloc (.cells #[.int .i64 20, .string nm, .int .i64 N, .int .i64 ty.kind, .string ty.name, .slice a an ac, .slice ma 0 mc] 28)) _ _ _) at bA
 generalize w.alloc (.cells #[.int .i64 20, .string nm, .int .i64 N, .int .i64 ty.kind, .string ty.name, .slice a an ac, .slice ma 0 mc] 28) = w1 at *
 have gA : ∀ i, w1.cell? ⟨w.heap.size, i, none⟩ = [Value.int .i64 20, .string nm, .int .i64 N, .int .i64 ty.kind, .string ty.name, .slice a an ac, .slice ma 0 mc][i]? := bA.out.cell
 go_wp2_with fail
 refine HI.out.mono ?_
 rintro e w2 ⟨rfl, rfl⟩
 clear HI
 cases hm : mb nm B
 ·have HBO1 := Ld (HBO.out w1 HK.out)
  clear HBO
  go_wp2_with fail
  refine HBO1.out.mono ?_
  unfold BofP
  cases hu : look l nm with
  | some u =>
   obtain ⟨hu1, hu2, hu3, hu4, hu5⟩ := HSU.out u hu
   rintro e w3 ⟨ta', ka', rfl, hty, htm, k3⟩
   have hty : TyL _ w3 u.ty.kids ta' := hty
   have htm : TmL _ w3 u.kids ka' := htm
   obtain ⟨ta, tn, tc, rfl⟩ := hty.slice
   obtain ⟨qa, qn, qc, rfl⟩ := htm.slice
   have HQ : Hid (r = if n + tmN u > 2000 ∨ at_ + tmD u > 65 then none else some (n + tmN u)) := Ld (by rw [HR.out, hm, hu]; simp only [Option.isSome_some, and_self, if_true, Option.getD_some])
   have k4 : Kept (fun _ => False) w3 (w3.alloc (.cells #[.int .i64 u.op, .string u.name, .int .i64 u.n, .int .i64 u.ty.kind, .string u.ty.name, .slice ta tn tc, .slice qa qn qc] 28)) := (Kept.refl _ _).alloc _
   have HSZ := Ld (rsize_of (hty.frame (Same.of_kept (ok := fun _ => True) k4 (fun _ _ e => e) |> fun s => by exact sK k4)) (htm.frame (sK k4)) hu1)
   rw [hu2, hu3] at HSZ
   have K4 := Ld ((HK.out.trans k3).trans k4)
   clear hu HR HSU hm HBO1 hty htm hu1 hu2 hu3 k3 HK
   unfold tmVal
   simp only [Option.getD_some, Option.isSome_some]
   have HNM : Hid (tmN u ≤ 2000 ∧ tmD u ≤ 64) := Ld ⟨hu4, hu5⟩
   clear hu4 hu5 k4
   go_upto_region 3 with (fail)
   have bU := Ld (Blk.new w3 28 [Value.int .i64 u.op, .string u.name, .int .i64 u.n, .int .i64 u.ty.kind, .string u.ty.name, .slice ta tn tc, .slice qa qn qc])
   change Hid (Blk (w3.alloc (.cells #[.int .i64 u.op, .string u.name, .int .i64 u.n, .int .i64 u.ty.kind, .string u.ty.name, .slice ta tn tc, .slice qa qn qc] 28)) w3.heap.size _ _) at bU
   generalize w3.alloc (.cells #[.int .i64 u.op, .string u.name, .int .i64 u.n, .int .i64 u.ty.kind, .string u.ty.name, .slice ta tn tc, .slice qa qn qc] 28) = w4 at *
   generalize w3.heap.size = Q at *
   have gU : ∀ i, w4.cell? ⟨Q, i, none⟩ = [Value.int .i64 u.op, .string u.name, .int .i64 u.n, .int .i64 u.ty.kind, .string u.ty.name, .slice ta tn tc, .slice qa qn qc][i]? := bU.out.cell
   clear gA
   go_wp2_with fail
   refine HSZ.out.mono ?_
   rintro e w5 ⟨rfl, k5⟩
   have K5 := Ld (K4.out.trans k5)
   clear k5 HSZ gU
   have wr1 : IntKind.i64.wrap ((n : Int) + (tmN u : Int)) = (n : Int) + (tmN u : Int) := by rw [IntKind.wrap_i64]; have := HNM.out; have := HN.out; omega
   have wr2 : IntKind.i64.wrap ((at_ : Int) + (tmD u : Int)) = (at_ : Int) + (tmD u : Int) := by rw [IntKind.wrap_i64]; have := HNM.out; have := HN.out; omega
   have wr3 : IntKind.i64.wrap ((at_ : Int) + (tmD u : Int) - 1) = (at_ : Int) + (tmD u : Int) - 1 := by rw [IntKind.wrap_i64]; have := HNM.out; have := HN.out; omega
   by_cases hc1 : n + tmN u > 2000
   ·have t1 : decide ((2000 : Int) < (n : Int) + (tmN u : Int)) = true := decide_eq_true (by omega)
    have HE : Hid (r = none) := Ld (by rw [HQ.out, if_pos (Or.inl hc1)])
    clear hc1
    go_wp2_with fail
    go_ret
    exact ⟨by rw [HE.out]; rfl, K5.out⟩
   ·have t1 : decide ((2000 : Int) < (n : Int) + (tmN u : Int)) = false := decide_eq_false (by omega)
    by_cases hc2 : at_ + tmD u > 65
    ·have t2 : decide ((64 : Int) < (at_ : Int) + (tmD u : Int) - 1) = true := decide_eq_true (by omega)
     have HE : Hid (r = none) := Ld (by rw [HQ.out, if_pos (Or.inr hc2)])
     clear hc1 hc2
     go_wp2_with fail
     go_ret
     exact ⟨by rw [HE.out]; rfl, K5.out⟩
    ·have t2 : decide ((64 : Int) < (at_ : Int) + (tmD u : Int) - 1) = false := decide_eq_false (by omega)
     have HE : Hid (r = some (n + tmN u)) := Ld (by rw [HQ.out, if_neg (by omega)])
     clear hc1 hc2
     go_wp2_with fail
     go_ret
     exact ⟨by rw [HE.out]; show Ending.returned (.int .i64 ((n : Int) + (tmN u : Int))) = Ending.returned (.int .i64 ((n + tmN u : Nat) : Int)); rw [Int.natCast_add], K5.out⟩
  | none =>
   rintro e w3 ⟨ta', ka', rfl, hty, htm, k3⟩
   have hty : TyL _ w3 [] ta' := hty
   have htm : TmL _ w3 [] ka' := htm
   obtain ⟨ta, tn, tc, rfl⟩ := hty.slice
   obtain ⟨qa, qn, qc, rfl⟩ := htm.slice
   have HQ : Hid (r = if n + 1 > 2000 ∨ at_ > 64 then none else some (n + 1)) := Ld (by rw [HR.out, hu]; simp only [Option.isSome_none, Bool.false_eq_true, and_false, if_false])
   have BA := Ld (bA.out.kept k3 (fun e => e))
   have K3 := Ld (HK.out.trans k3)
   clear hu HR HSU hm HBO1 hty htm k3 HK gA bA
   simp only [Option.getD_none, Option.isSome_none]
   rw [show tmVal tm0 (.slice ta tn tc) (.slice qa qn qc) = .agg #[.int .i64 0, .string ⟨#[]⟩, .int .i64 0, .int .i64 0, .string ⟨#[]⟩, .slice ta tn tc, .slice qa qn qc] from rfl]
   go_upto_region 3 with (fail)
   have K4 := Ld (K3.out.alloc (.cells #[.int .i64 0, .string ⟨#[]⟩, .int .i64 0, .int .i64 0, .string ⟨#[]⟩, .slice ta tn tc, .slice qa qn qc] 28))
   have B4 := Ld (BA.out.alloc (.cells #[.int .i64 0, .string ⟨#[]⟩, .int .i64 0, .int .i64 0, .string ⟨#[]⟩, .slice ta tn tc, .slice qa qn qc] 28))
   generalize w3.alloc (.cells #[.int .i64 0, .string ⟨#[]⟩, .int .i64 0, .int .i64 0, .string ⟨#[]⟩, .slice ta tn tc, .slice qa qn qc] 28) = w4 at *
   clear K3 BA
   have gA : ∀ i, w4.cell? ⟨w.heap.size, i, none⟩ = [Value.int .i64 20, .string nm, .int .i64 N, .int .i64 ty.kind, .string ty.name, .slice a an ac, .slice ma 0 mc][i]? := B4.out.cell
   have wr1 : IntKind.i64.wrap ((n : Int) + 1) = (n : Int) + 1 := by rw [IntKind.wrap_i64]; have := HN.out; omega
   by_cases hc1 : n + 1 > 2000
   ·have t1 : decide ((2000 : Int) < (n : Int) + 1) = true := decide_eq_true (by omega)
    have HE : Hid (r = none) := Ld (by rw [HQ.out, if_pos (Or.inl hc1)])
    clear hc1
    go_wp2_with fail
    go_ret
    exact ⟨by rw [HE.out]; rfl, K4.out⟩
   ·have t1 : decide ((2000 : Int) < (n : Int) + 1) = false := decide_eq_false (by omega)
    by_cases hc2 : at_ > 64
    ·have t2 : decide ((64 : Int) < (at_ : Int)) = true := decide_eq_true (by omega)
     have HE : Hid (r = none) := Ld (by rw [HQ.out, if_pos (Or.inr hc2)])
     clear hc1 hc2
     go_wp2_with fail
     go_ret
     exact ⟨by rw [HE.out]; rfl, K4.out⟩
    ·have t2 : decide ((64 : Int) < (at_ : Int)) = false := decide_eq_false (by omega)
     have HE : Hid (r = some (n + 1)) := Ld (by rw [HQ.out, if_neg (by omega)])
     clear hc1 hc2
     go_wp2_with fail
     go_loopw [3, 15, 16] (fun v i b wr => v = .int .i64 ((n : Int) + 1) ∧ i = .int .i64 0 ∧ wr = w4) (fun _ _ _ _ => 0)
     case atStart => exact ⟨rfl, rfl, rfl⟩
     case round =>
      obtain ⟨rfl, rfl, rfl⟩ := hrel
      go_wp2_with fail
      go_ret
      exact ⟨by rw [HE.out]; rfl, K4.out⟩
 ·have HQ : Hid (r = if n + 1 > 2000 ∨ at_ > 64 then none else some (n + 1)) := Ld (by rw [HR.out, hm]; simp only [Bool.true_eq_false, false_and, if_false])
  have K4 := Ld HK.out
  clear HR HSU hm HBO HK
  have wr1 : IntKind.i64.wrap ((n : Int) + 1) = (n : Int) + 1 := by rw [IntKind.wrap_i64]; have := HN.out; omega
  by_cases hc1 : n + 1 > 2000
  ·have t1 : decide ((2000 : Int) < (n : Int) + 1) = true := decide_eq_true (by omega)
   have HE : Hid (r = none) := Ld (by rw [HQ.out, if_pos (Or.inl hc1)])
   clear hc1
   go_wp2_with fail
   go_ret
   exact ⟨by rw [HE.out]; rfl, K4.out⟩
  ·have t1 : decide ((2000 : Int) < (n : Int) + 1) = false := decide_eq_false (by omega)
   by_cases hc2 : at_ > 64
   ·have t2 : decide ((64 : Int) < (at_ : Int)) = true := decide_eq_true (by omega)
    have HE : Hid (r = none) := Ld (by rw [HQ.out, if_pos (Or.inr hc2)])
    clear hc1 hc2
    go_wp2_with fail
    go_ret
    exact ⟨by rw [HE.out]; rfl, K4.out⟩
   ·have t2 : decide ((64 : Int) < (at_ : Int)) = false := decide_eq_false (by omega)
    have HE : Hid (r = some (n + 1)) := Ld (by rw [HQ.out, if_neg (by omega)])
    clear hc1 hc2
    go_wp2_with fail
    go_loopw [3, 15, 16] (fun v i b wr => v = .int .i64 ((n : Int) + 1) ∧ i = .int .i64 0 ∧ wr = w1) (fun _ _ _ _ => 0)
    case atStart => exact ⟨rfl, rfl, rfl⟩
    case round =>
     obtain ⟨rfl, rfl, rfl⟩ := hrel
     go_wp2_with fail
     go_ret
     exact ⟨by rw [HE.out]; rfl, K4.out⟩
theorem rwg_one {op : Int} {nm : ByteArray} {N : Int} {ty : Ty} {ks : List Tm} (hop : op ≠ 20) (IH : ∀ u, u ∈ ks → WgC u) (hkn : ks.length ≤ 1000000) : WgC (.mk op nm N ty ks) := by
 intro l B n at_ w ok okb okB tk kk vl v h1 h2 hB hl hll hN hd hn hat
 have h1 : TyL ok w ty.kids tk := h1
 have h2 : TmL ok w ks kk := h2
 obtain ⟨a, an, ac, rfl⟩ := h1.slice
 obtain ⟨ma, mn, mc, rfl⟩ := h2.slice
 obtain rfl : mn = ks.length := h2.len
 rw [tmD] at hd hat
 change Calls Tryz.prog 77 #[.agg #[.int .i64 op, .string nm, .int .i64 N, .int .i64 ty.kind, .string ty.name, .slice a an ac, .slice ma ks.length mc], vl, v, .int .i64 n, .int .i64 at_] w _
 have K1 : Kept (fun _ => False) w (w.alloc (.cells #[.int .i64 op, .string nm, .int .i64 N, .int .i64 ty.kind, .string ty.name, .slice a an ac, .slice ma ks.length mc] 28)) := (Kept.refl _ _).alloc _
 have hop2 : (op == 20) = false := by simp [hop]
 have HNF := Ld (fun W (k : Kept (fun _ => False) w W) => hN.frame (sK k))
 have HAT := Ld (fun W (k : Kept (fun _ => False) w W) => (h2.frame (sK k)).at)
 have HIH := Ld (fun (u : Tm) (hu : u ∈ ks) (B' : List ByteArray) (m : Nat) (v' tk' kk' : Value) (ok3 ok4 : Nat → Prop) W (k : Kept (fun _ => False) w W) (h3 : TyL ok3 W u.ty.kids tk') (h4 : TmL ok3 W u.kids kk') (h5 : NmL ok4 W B' v') (h6 : B'.length ≤ B.length + 1) (h7 : m ≤ 2000) => IH u hu l B' m (at_ + 1) W ok3 okb ok4 tk' kk' vl v' h3 h4 (hB.frame (sK k)) hl hll h5 (by have := tmDs_mem hu; omega) h7 (by have := tmDs_mem hu; omega))
 unfold tmVal at HIH
 have HR : Hid (wgT l B n at_ (.mk op nm N ty ks) = if n + 1 > 2000 ∨ at_ > 64 then none else wgTs l B (binderB op) nm 0 (n + 1) (at_ + 1) ks) := Ld (by
  rw [wgT, if_neg (fun h => hop h.1)])
 have HK := Ld K1
 have HN := Ld (⟨hn, hat, hd, hkn⟩ : _ ∧ _ ∧ _ ∧ _)
 obtain ⟨va, vc, rfl⟩ := hN.slice
 obtain ⟨la, lc, rfl⟩ := hB.slice
 clear h1 h2 hB hd hN hll hl K1 hn hat hop IH hkn
 generalize wgT l B n at_ (.mk op nm N ty ks) = r at *
 go_enter Tryz.func77, Tryz.ntmps77
 go_upto_region 1 with (fail)
 have bA := Ld (Blk.new w 28 [Value.int .i64 op, .string nm, .int .i64 N, .int .i64 ty.kind, .string ty.name, .slice a an ac, .slice ma ks.length mc])
 change Hid (Blk (w.alloc (.cells #[.int .i64 op, .string nm, .int .i64 N, .int .i64 ty.kind, .string ty.name, .slice a an ac, .slice ma ks.length mc] 28)) _ _ _) at bA
 generalize w.alloc (.cells #[.int .i64 op, .string nm, .int .i64 N, .int .i64 ty.kind, .string ty.name, .slice a an ac, .slice ma ks.length mc] 28) = w1 at *
 have gA : ∀ i, w1.cell? ⟨w.heap.size, i, none⟩ = [Value.int .i64 op, .string nm, .int .i64 N, .int .i64 ty.kind, .string ty.name, .slice a an ac, .slice ma ks.length mc][i]? := bA.out.cell
 have wr1 : IntKind.i64.wrap ((n : Int) + 1) = (n : Int) + 1 := by rw [IntKind.wrap_i64]; have := HN.out.1; omega
 by_cases hc1 : n + 1 > 2000
 ·have t1 : decide ((2000 : Int) < (n : Int) + 1) = true := decide_eq_true (by omega)
  have HE : Hid (r = none) := Ld (by rw [HR.out, if_pos (Or.inl hc1)])
  clear hc1
  go_wp2_with fail
  go_ret
  exact ⟨by rw [HE.out]; rfl, HK.out⟩
 ·have t1 : decide ((2000 : Int) < (n : Int) + 1) = false := decide_eq_false (by omega)
  by_cases hc2 : at_ > 64
  ·have t2 : decide ((64 : Int) < (at_ : Int)) = true := decide_eq_true (by omega)
   have HE : Hid (r = none) := Ld (by rw [HR.out, if_pos (Or.inr hc2)])
   clear hc1 hc2
   go_wp2_with fail
   go_ret
   exact ⟨by rw [HE.out]; rfl, HK.out⟩
  ·have t2 : decide ((64 : Int) < (at_ : Int)) = false := decide_eq_false (by omega)
   have HE : Hid (r = wgTs l B (binderB op) nm 0 (n + 1) (at_ + 1) ks) := Ld (by rw [HR.out, if_neg (by omega)])
   have HM0 : Hid (n + 1 ≤ 2000) := Ld (by omega)
   clear hc1 hc2 HR
   go_wp2_with fail
   clear t1 t2 wr1 gA
   go_loopw [3, 15, 16] (fun v i b wr => ∃ (k m : Nat), k ≤ ks.length ∧ v = .int .i64 m ∧ i = .int .i64 k ∧ Hid (m ≤ 2000 ∧ Kept (fun _ => False) w wr ∧ Blk wr w.heap.size 28 [Value.int .i64 op, .string nm, .int .i64 N, .int .i64 ty.kind, .string ty.name, .slice a an ac, .slice ma ks.length mc] ∧ r = wgTs l B (binderB op) nm k m (at_ + 1) (ks.drop k))) (fun v i b _ => ks.length - (intOf i).toNat)
   case atStart => exact ⟨0, n + 1, Nat.zero_le _, by rw [Int.natCast_add]; rfl, rfl, Ld ⟨HM0.out, HK.out, bA.out, HE.out⟩⟩
   case round =>
    obtain ⟨k, m, hkl, rfl, rfl, hq⟩ := hrel
    clear HE HM0 HK bA
    have gA : ∀ i, wr.cell? ⟨w.heap.size, i, none⟩ = [Value.int .i64 op, .string nm, .int .i64 N, .int .i64 ty.kind, .string ty.name, .slice a an ac, .slice ma ks.length mc][i]? := hq.out.2.2.1.cell
    by_cases hlt : k < ks.length
    ·have i1 : (k : Int) < (ks.length : Int) := by omega
     have i2 : (k : Int) < 1000000 := by have := HN.out.2.2.2; omega
     have wr2 : IntKind.i64.wrap ((at_ : Int) + 1) = (at_ : Int) + 1 := by rw [IntKind.wrap_i64]; have := HN.out.2.1; omega
     obtain ⟨g, off, ta, tn, tc, qa, qn, qc, rfl, _, lg, ⟨c0, c1, c2, c3, c4, c5, c6⟩, hty, htm⟩ := HAT.out wr hq.out.2.1 k hlt
     have HD2 := Ld (wgTs_drop (l := l) (B := B) (bi := binderB op) (nm := nm) (n := m) (at_ := at_ + 1) hlt)
     have HKF := Ld (fun (B' : List ByteArray) (v' : Value) (ok4 : Nat → Prop) W (kW : Kept (fun _ => False) wr W) (h5 : NmL ok4 W B' v') (h6 : B'.length ≤ B.length + 1) => HIH.out _ (List.getElem_mem hlt) B' m v' _ _ _ ok4 W (hq.out.2.1.trans kW) (hty.frame (sK kW)) (htm.frame (sK kW)) h5 h6 hq.out.1)
     rw [Int.natCast_add] at HKF
     have HC := Ld (fun W (kW : Kept (fun _ => False) wr W) => C7.kept ⟨c0, c1, c2, c3, c4, c5, c6⟩ kW (fun h => h))
     have HBW := Ld (fun W (kW : Kept (fun _ => False) wr W) => (⟨hq.out.2.1.trans kW, hq.out.2.2.1.kept kW (fun h => h)⟩ : _ ∧ _))
     have HEQ := Ld (hq.out.2.2.2.trans HD2.out)
     clear hty htm hq HD2 lg
     go_wp2_with fail
     cases hbi : binderB op
     ·have hBI : Hid ((if binderB op && k == 1 then B ++ [nm] else B) = B) := Ld (by rw [hbi]; rfl)
      refine (rbinder_t hbi _).mono ?_
      rintro e w4 ⟨rfl, rfl⟩
      clear hbi
      have KWW : Kept (fun _ => False) wr wr := Kept.refl _ _
      go_wp2_with fail
      refine (HKF.out B _ _ wr KWW (HNF.out wr (HBW.out wr (Kept.refl _ _)).1) (Nat.le_succ _)).mono ?_
      rintro e w6 ⟨rfl, k6⟩
      have HB6 := Ld (HBW.out w6 (KWW.trans k6))
      have HE6 := HEQ.out
      rw [hBI.out] at HE6
      have HLE := Ld (wgT_le l ks[k] B m (at_ + 1))
      have HQ6 := Ld HE6
      clear HE6 k6 gA HEQ hBI HKF HC HBW c0 c1 c2 c3 c4 c5 c6
      generalize wgT l B m (at_ + 1) ks[k] = q at *
      cases q with
      | none =>
       have HE : Hid (r = none) := Ld HQ6.out
       unfold wgI
       go_wp2_with fail
       go_ret
       exact ⟨by rw [HE.out]; rfl, HB6.out.1⟩
      | some m2 =>
       have hm2 := HLE.out m2 rfl
       have t3 : decide ((m2 : Int) < 0) = false := decide_eq_false (by omega)
       unfold wgI
       have HM2 := Ld hm2
       clear hm2
       go_wp2_with fail
       go_roundw
       case rel => exact ⟨k + 1, m2, by omega, rfl, by go_num, Ld ⟨HM2.out, HB6.out.1, HB6.out.2, HQ6.out⟩⟩
       case measure => simp [intOf]; omega
     ·cases hk1 : ((k : Int) == 1)
      ·have hBI : Hid ((if binderB op && k == 1 then B ++ [nm] else B) = B) := Ld (by
        have : (k == 1) = false := by simp at hk1; simp; omega
        rw [this]; simp)
       refine (rbinder_t hbi _).mono ?_
       rintro e w4 ⟨rfl, rfl⟩
       clear hbi
       have KWW : Kept (fun _ => False) wr wr := Kept.refl _ _
       go_wp2_with fail
       refine (HKF.out B _ _ wr KWW (HNF.out wr (HBW.out wr (Kept.refl _ _)).1) (Nat.le_succ _)).mono ?_
       rintro e w6 ⟨rfl, k6⟩
       have HB6 := Ld (HBW.out w6 (KWW.trans k6))
       have HE6 := HEQ.out
       rw [hBI.out] at HE6
       have HLE := Ld (wgT_le l ks[k] B m (at_ + 1))
       have HQ6 := Ld HE6
       clear HE6 k6 gA HEQ hBI HKF HC HBW c0 c1 c2 c3 c4 c5 c6
       generalize wgT l B m (at_ + 1) ks[k] = q at *
       cases q with
       | none =>
        have HE : Hid (r = none) := Ld HQ6.out
        unfold wgI
        go_wp2_with fail
        go_ret
        exact ⟨by rw [HE.out]; rfl, HB6.out.1⟩
       | some m2 =>
        have hm2 := HLE.out m2 rfl
        have t3 : decide ((m2 : Int) < 0) = false := decide_eq_false (by omega)
        unfold wgI
        have HM2 := Ld hm2
        clear hm2
        go_wp2_with fail
        go_roundw
        case rel => exact ⟨k + 1, m2, by omega, rfl, by go_num, Ld ⟨HM2.out, HB6.out.1, HB6.out.2, HQ6.out⟩⟩
        case measure => simp [intOf]; omega
      ·have hBI : Hid ((if binderB op && k == 1 then B ++ [nm] else B) = B ++ [nm]) := Ld (by
        have : (k == 1) = true := by simp at hk1; simp; omega
        rw [this, hbi]; rfl)
       refine (rbinder_t hbi _).mono ?_
       rintro e w4 ⟨rfl, rfl⟩
       clear hbi
       have HW := Ld (rwith_any nm (HNF.out wr (HBW.out wr (Kept.refl _ _)).1) (by have := HN.out.2.2.1; omega))
       go_wp2_with fail
       refine HW.out.mono ?_
       rintro e w5 ⟨v5, rfl, h5⟩
       have KWW : Kept (fun _ => False) wr w5 := h5.kp
       have HN5 := Ld h5.nml
       obtain ⟨ya, yc, hv5⟩ := h5.nml.slice
       rw [List.length_append, List.length_singleton] at hv5
       subst hv5
       clear h5 HW gA c0 c1 c2 c3 c4 c5 c6
       have gA : ∀ i, w5.cell? ⟨w.heap.size, i, none⟩ = _ := (HBW.out w5 KWW).2.cell
       obtain ⟨c0, c1, c2, c3, c4, c5, c6⟩ := HC.out w5 KWW
       go_wp2_with fail
       refine (HKF.out (B ++ [nm]) _ _ w5 KWW HN5.out (by simp)).mono ?_
       rintro e w6 ⟨rfl, k6⟩
       have HB6 := Ld (HBW.out w6 (KWW.trans k6))
       have HE6 := HEQ.out
       rw [hBI.out] at HE6
       have HLE := Ld (wgT_le l ks[k] (B ++ [nm]) m (at_ + 1))
       have HQ6 := Ld HE6
       clear HE6 k6 gA HEQ hBI HKF HC HBW c0 c1 c2 c3 c4 c5 c6
       generalize wgT l (B ++ [nm]) m (at_ + 1) ks[k] = q at *
       cases q with
       | none =>
        have HE : Hid (r = none) := Ld HQ6.out
        unfold wgI
        go_wp2_with fail
        go_ret
        exact ⟨by rw [HE.out]; rfl, HB6.out.1⟩
       | some m2 =>
        have hm2 := HLE.out m2 rfl
        have t3 : decide ((m2 : Int) < 0) = false := decide_eq_false (by omega)
        unfold wgI
        have HM2 := Ld hm2
        clear hm2
        go_wp2_with fail
        go_roundw
        case rel => exact ⟨k + 1, m2, by omega, rfl, by go_num, Ld ⟨HM2.out, HB6.out.1, HB6.out.2, HQ6.out⟩⟩
        case measure => simp [intOf]; omega
    ·have hkk : k = ks.length := by omega
     subst hkk
     have HE : Hid (r = some m) := Ld (by rw [hq.out.2.2.2, List.drop_length, wgTs])
     have HKQ := Ld hq.out.2.1
     clear hq
     go_wp2_with fail
     go_ret
     exact ⟨by rw [HE.out]; rfl, HKQ.out⟩
theorem rwg_any {t : Tm} (h : OkTm t) : WgC t := by
 induction h with
 | mk hf hn hl ih =>
  rename_i op nm N ty ks
  by_cases ho : op = 20
  ·subst ho
   have h0 : ks = [] := by
    have h1 := (OkTm.mk hf hn hl).nw
    cases h1 with
    | mk h2 _ => exact (h2 rfl).2.2
   subst h0
   exact rwg_name
  ·exact rwg_one ho ih (by omega)
theorem all_take {l : List (ByteArray × Tm)} {k : Nat} (h : k < l.length) : (l.take (k + 1)).all vB = ((l.take k).all vB && vB l[k]) := by
 rw [List.take_add_one, List.getElem?_eq_getElem h, List.all_append]; simp
theorem all_no {l : List (ByteArray × Tm)} {k : Nat} (h : k < l.length) (hv : vB l[k] = false) : l.all vB = false := by
 rw [← Bool.not_eq_true]
 intro e
 have := List.all_eq_true.1 e _ (List.getElem_mem h)
 rw [hv] at this; cases this
structure RS2 (w : World) (ce : List Value) (W : World) : Prop where
 kp : Kept (fun _ => False) w W
 a : Blk W w.heap.size 28 ce
 r : Blk W (w.heap.size + 1) 28 z27
theorem RS2.kept {w W W' : World} {ce : List Value} (h : RS2 w ce W) (q : Kept (fun _ => False) W W') : RS2 w ce W' := ⟨h.kp.trans q, h.a.kept q (fun e => e), h.r.kept q (fun e => e)⟩
theorem rsubst_any {t : Tm} {l : List (ByteArray × Tm)} {ok okb : Nat → Prop} {w : World} {tk kk vl : Value} (h1 : TyL ok w t.ty.kids tk) (h2 : TmL ok w t.kids kk) (hs : SmTm big t) (hB : BnL okb w l vl) (hsb : ∀ b, b ∈ l → SmTm big b.2) (hn : l.length ≤ 200) :
  Calls Tryz.prog 38 #[tmVal t tk kk, vl] w (TmB w.heap.size (sbstR t l) w) := by
 obtain ⟨p, n, c, rfl⟩ := h1.slice
 obtain ⟨ma, mn, mc, rfl⟩ := h2.slice
 obtain ⟨aa, ac, rfl⟩ := hB.slice
 have HV := Ld (fun W (k : Kept (fun _ => False) w W) => rvalid_any (h1.frame (sK k)) (h2.frame (sK k)) hs)
 have HAT := Ld (fun W (k : Kept (fun _ => False) w W) => (hB.frame (sK k)).at)
 have HVB := Ld (fun (k : Nat) (h : k < l.length) W (ok' : Nat → Prop) {a : Option Addr} {n c : Nat} {ma : Option Addr} {mn mc : Nat} (h3 : TyL ok' W l[k].2.ty.kids (.slice a n c)) (h4 : TmL ok' W l[k].2.kids (.slice ma mn mc)) => rvalid_any h3 h4 (hsb _ (List.getElem_mem h)))
 have HWG := Ld (fun (hv : validB t = true) (ha : l.all vB = true) W (k : Kept (fun _ => False) w W) => rwg_any (valid_ok hv) l [] 0 1 W ok okb (fun _ => False) _ _ _ (.slice none 0 0) (h1.frame (sK k)) (h2.frame (sK k)) (hB.frame (sK k)) (fun b hb => ⟨hsb b hb, List.all_eq_true.1 ha b hb⟩) (by omega) NmL.nil (by have := (valid_iff t).1 hv; simp only [List.length_nil]; omega) (by omega) (by have := (valid_iff t).1 hv; omega))
 have HSU := Ld (fun (hv : validB t = true) (ha : l.all vB = true) W (k : Kept (fun _ => False) w W) => rsub_any (valid_ok hv) l 400000 W ok okb _ _ _ (h1.frame (sK k)) (h2.frame (sK k)) (hB.frame (sK k)) (fun b hb => by
  have h := (valid_iff b.2).1 (all_vb ha hb)
  exact ⟨ok_bd h.1, by omega, by omega⟩) (by have := (valid_iff t).1 hv; omega) (fun x F _ => by
  have h3 := remL_frB l x F
  have h4 := frB_le ha
  omega) (by have := (valid_iff t).1 hv; omega))
 have HWV := Ld (fun (hv : validB t = true) (ha : l.all vB = true) => wg_valid (valid_ok hv) (vb_okB ha) (by have h3 := (valid_iff t).1 hv; have h4 := frB_le ha; omega))
 have HN := Ld hn
 have HR : Hid (sbstR t l = if validB t && l.all vB then (if validB (subT freshS t l) then (subT freshS t l, 0) else (tm0, 5)) else (tm0, 1)) := Ld rfl
 generalize sbstR t l = rr at *
 clear h1 h2 hs hB hsb hn
 unfold tmVal at HWG HSU ⊢
 have S0 : Hid (RS2 w [Value.int .i64 t.op, .string t.name, .int .i64 t.n, .int .i64 t.ty.kind, .string t.ty.name, .slice p n c, .slice ma mn mc] ((w.alloc (.cells #[.int .i64 t.op, .string t.name, .int .i64 t.n, .int .i64 t.ty.kind, .string t.ty.name, .slice p n c, .slice ma mn mc] 28)).alloc Z7)) := Ld
  ⟨((Kept.refl _ _).alloc _).alloc _, (Blk.new w 28 [Value.int .i64 t.op, .string t.name, .int .i64 t.n, .int .i64 t.ty.kind, .string t.ty.name, .slice p n c, .slice ma mn mc]).alloc _, Blk.new' 28 _ (by simp)⟩
 go_enter Tryz.func38, Tryz.ntmps38
 go_upto_region 1 with (fail)
 generalize ((w.alloc (.cells #[.int .i64 t.op, .string t.name, .int .i64 t.n, .int .i64 t.ty.kind, .string t.ty.name, .slice p n c, .slice ma mn mc] 28)).alloc Z7) = w1 at *
 have gA : ∀ i, w1.cell? ⟨w.heap.size, i, none⟩ = [Value.int .i64 t.op, .string t.name, .int .i64 t.n, .int .i64 t.ty.kind, .string t.ty.name, .slice p n c, .slice ma mn mc][i]? := S0.out.a.cell
 have HV1 := Ld (HV.out w1 S0.out.kp)
 clear HV
 cases hv : validB t
 ·rw [hv] at HV1
  have hq : Hid (rr = (tm0, 1)) := Ld (by rw [HR.out, hv]; rfl)
  clear HR HWG HSU HWV HVB HAT hv
  go_wp2_with fail
  refine HV1.out.mono ?_
  rintro e w2 ⟨rfl, k2⟩
  have S2 := Ld (S0.out.kept k2)
  clear k2 S0 gA HV1
  have gR : ∀ i, w2.cell? ⟨w.heap.size + 1, i, none⟩ = [Value.int .i64 0, .string ⟨#[]⟩, .int .i64 0, .int .i64 0, .string ⟨#[]⟩, .slice none 0 0, .slice none 0 0][i]? := S2.out.r.cell
  have fR : ∀ i, w2.frozen? ⟨w.heap.size + 1, i, none⟩ = false := S2.out.r.frozen
  go_wp2_with fail
  exact bodyPost_ret (results_ct Tryz.results38 rfl (load_tm (t := tm0) (r7 S2.out.r rfl))) rfl ⟨_, _, by rw [hq.out]; rfl, by rw [hq.out]; exact .nil (Or.inl rfl), by rw [hq.out]; exact .nil (Or.inl rfl), k7w S2.out.kp (Or.inr (Nat.le_succ _))⟩
 ·rw [hv] at HV1
  have HWG2 := Ld (HWG.out hv)
  have HSU2 := Ld (HSU.out hv)
  have HWV2 := Ld (HWV.out hv)
  have HR2 : Hid (rr = if l.all vB then (if validB (subT freshS t l) then (subT freshS t l, 0) else (tm0, 5)) else (tm0, 1)) := Ld (by rw [HR.out, hv]; rfl)
  clear HR HWG HSU HWV hv
  go_wp2_with fail
  refine HV1.out.mono ?_
  rintro e w2 ⟨rfl, k2⟩
  have S2 := Ld (S0.out.kept k2)
  clear k2 S0 gA HV1
  go_wp2_with fail
  go_loopw [6] (fun i wr => ∃ k : Nat, k ≤ l.length ∧ i = .int .i64 k ∧ Hid (RS2 w [Value.int .i64 t.op, .string t.name, .int .i64 t.n, .int .i64 t.ty.kind, .string t.ty.name, .slice p n c, .slice ma mn mc] wr ∧ (l.take k).all vB = true)) (fun i _ => l.length - (intOf i).toNat)
  case atStart => exact ⟨0, Nat.zero_le _, rfl, Ld ⟨S2.out, rfl⟩⟩
  case round =>
   obtain ⟨k, hk, rfl, hq⟩ := hrel
   clear S2
   by_cases hlt : k < l.length
   ·have i1 : (k : Int) < (l.length : Int) := by omega
    have i2 : (k : Int) < 1000000 := by have := HN.out; omega
    obtain ⟨g, off, ta, tn, tc, qa, qn, qc, rfl, hg, lg, c0, ⟨d0, d1, d2, d3, d4, d5, d6⟩, hty, htm⟩ := HAT.out wr hq.out.1.kp k hlt
    have HV2 := Ld (HVB.out k hlt wr _ hty htm)
    have HNO := Ld (all_no hlt)
    have HTK := Ld (all_take hlt)
    clear hty htm hg lg
    change Hid (Calls _ _ _ _ fun e w' => e = .returned (.bool (vB l[k])) ∧ _) at HV2
    cases hvk : vB l[k]
    ·rw [hvk] at HV2
     have hqq : Hid (rr = (tm0, 1)) := Ld (by rw [HR2.out, HNO.out hvk]; rfl)
     clear HR2 HWG2 HSU2 HWV2 HVB HAT hvk HNO HTK
     go_wp2_with fail
     refine HV2.out.mono ?_
     rintro e w3 ⟨rfl, k3⟩
     have S3 := Ld (hq.out.1.kept k3)
     clear k3 hq HV2 c0 d0 d1 d2 d3 d4 d5 d6
     have gR : ∀ i, w3.cell? ⟨w.heap.size + 1, i, none⟩ = [Value.int .i64 0, .string ⟨#[]⟩, .int .i64 0, .int .i64 0, .string ⟨#[]⟩, .slice none 0 0, .slice none 0 0][i]? := S3.out.r.cell
     have fR : ∀ i, w3.frozen? ⟨w.heap.size + 1, i, none⟩ = false := S3.out.r.frozen
     go_wp2_with fail
     exact bodyPost_ret (results_ct Tryz.results38 rfl (load_tm (t := tm0) (r7 S3.out.r rfl))) rfl ⟨_, _, by rw [hqq.out]; rfl, by rw [hqq.out]; exact .nil (Or.inl rfl), by rw [hqq.out]; exact .nil (Or.inl rfl), k7w S3.out.kp (Or.inr (Nat.le_succ _))⟩
    ·rw [hvk] at HV2
     go_wp2_with fail
     refine HV2.out.mono ?_
     rintro e w3 ⟨rfl, k3⟩
     have S3 := Ld (hq.out.1.kept k3)
     have HA3 : Hid ((l.take (k + 1)).all vB = true) := Ld (by rw [HTK.out, hq.out.2, hvk]; rfl)
     clear k3 hq HV2 c0 d0 d1 d2 d3 d4 d5 d6 hvk HTK HNO
     go_wp2_with fail
     go_roundw
     case rel => exact ⟨k + 1, by omega, by go_num, Ld ⟨S3.out, HA3.out⟩⟩
     case measure => simp [intOf]; omega
   ·have hkk : k = l.length := by omega
    subst hkk
    have HALL : Hid (l.all vB = true) := Ld (by have := hq.out.2; rwa [List.take_length] at this)
    have S4 := Ld hq.out.1
    have HW4 := Ld (HWG2.out HALL.out wr S4.out.kp)
    have HSU4 := Ld (HSU2.out HALL.out)
    have HWV4 := Ld (HWV2.out HALL.out)
    have HR4 : Hid (rr = if validB (subT freshS t l) then (subT freshS t l, 0) else (tm0, 5)) := Ld (by rw [HR2.out, HALL.out]; rfl)
    have gA : ∀ i, wr.cell? ⟨w.heap.size, i, none⟩ = [Value.int .i64 t.op, .string t.name, .int .i64 t.n, .int .i64 t.ty.kind, .string t.ty.name, .slice p n c, .slice ma mn mc][i]? := S4.out.a.cell
    clear hq HR2 HWG2 HSU2 HWV2 HALL HVB HAT
    generalize wgT l [] 0 1 t = q at *
    go_wp2_with fail
    refine HW4.out.mono ?_
    rintro e w5 ⟨rfl, k5⟩
    have S5 := Ld (S4.out.kept k5)
    clear k5 S4 HW4 gA
    cases q with
    | none =>
     have hq : Hid (rr = (tm0, 5)) := Ld (by rw [HR4.out, ← HWV4.out]; rfl)
     clear HR4 HWV4 HSU4
     unfold wgI
     have gR : ∀ i, w5.cell? ⟨w.heap.size + 1, i, none⟩ = [Value.int .i64 0, .string ⟨#[]⟩, .int .i64 0, .int .i64 0, .string ⟨#[]⟩, .slice none 0 0, .slice none 0 0][i]? := S5.out.r.cell
     have fR : ∀ i, w5.frozen? ⟨w.heap.size + 1, i, none⟩ = false := S5.out.r.frozen
     go_wp2_with fail
     exact bodyPost_ret (results_ct Tryz.results38 rfl (load_tm (t := tm0) (r7 S5.out.r rfl))) rfl ⟨_, _, by rw [hq.out]; rfl, by rw [hq.out]; exact .nil (Or.inl rfl), by rw [hq.out]; exact .nil (Or.inl rfl), k7w S5.out.kp (Or.inr (Nat.le_succ _))⟩
    | some m =>
     have hq : Hid (rr = (subT freshS t l, 0)) := Ld (by rw [HR4.out, ← HWV4.out]; rfl)
     have t3 : decide ((m : Int) < 0) = false := decide_eq_false (by omega)
     have HS6 := Ld (HSU4.out w5 S5.out.kp)
     have gA : ∀ i, w5.cell? ⟨w.heap.size, i, none⟩ = [Value.int .i64 t.op, .string t.name, .int .i64 t.n, .int .i64 t.ty.kind, .string t.ty.name, .slice p n c, .slice ma mn mc][i]? := S5.out.a.cell
     clear HR4 HWV4 HSU4
     unfold wgI
     generalize subT freshS t l = z at *
     go_wp2_with fail
     refine HS6.out.mono ?_
     rintro e w6 ⟨tk, kk, rfl, hty, htm, k6⟩
     obtain ⟨pa, pn, pc, rfl⟩ := hty.slice
     obtain ⟨qa, qn, qc, rfl⟩ := htm.slice
     have S6 := Ld (S5.out.kept k6)
     have HLW := Ld S5.out.r.lt
     have HTY := Ld hty
     have HTM := Ld htm
     clear hty htm k6 S5 HS6 gA
     have gR : ∀ i, w6.cell? ⟨w.heap.size + 1, i, none⟩ = [Value.int .i64 0, .string ⟨#[]⟩, .int .i64 0, .int .i64 0, .string ⟨#[]⟩, .slice none 0 0, .slice none 0 0][i]? := S6.out.r.cell
     have fR : ∀ i, w6.frozen? ⟨w.heap.size + 1, i, none⟩ = false := S6.out.r.frozen
     unfold tmVal
     go_wp2_with fail
     exact bodyPost_ret (results_ct Tryz.results38 rfl (load_tm (t := z) (r7 S6.out.r rfl))) rfl ⟨_, _, by rw [hq.out]; rfl, by rw [hq.out]; exact (HTY.out.frame (set7 (fun q hq => by have := HLW.out; omega))).mono (fun q _ hq => by have := HLW.out; omega), by rw [hq.out]; exact (HTM.out.frame (set7 (fun q hq => by have := HLW.out; omega))).mono (fun q _ hq => by have := HLW.out; omega), k7w S6.out.kp (Or.inr (by omega))⟩
theorem tmEq_same (t : Tm) : tmEq t t = true := (tmEq_iff t t).2 rfl
theorem few_any {l : List (ByteArray × Tm)} {a : Option Addr} {c : Nat} (w : World) : Calls Tryz.prog 36 #[.slice a l.length c] w fun e w' => e = .returned (.bool (decide (l.length ≤ 40))) ∧ w = w' := by
 by_cases h : l.length ≤ 40
 ·have t : decide ((l.length : Int) ≤ 40) = true := decide_eq_true (by omega)
  have hd : Hid (decide (l.length ≤ 40) = true) := Ld (decide_eq_true h)
  clear h
  go_enter Tryz.func36, Tryz.ntmps36
  go_wp2_with fail
  go_ret
  exact ⟨by rw [hd.out]; rfl, rfl⟩
 ·have t : decide ((l.length : Int) ≤ 40) = false := decide_eq_false (by omega)
  have hd : Hid (decide (l.length ≤ 40) = false) := Ld (decide_eq_false h)
  clear h
  go_enter Tryz.func36, Tryz.ntmps36
  go_wp2_with fail
  go_ret
  exact ⟨by rw [hd.out]; rfl, rfl⟩
theorem sbst_bd (t : Tm) (l : List (ByteArray × Tm)) (hl : l.length ≤ 200) : BdTm (sbstR t l).1 := by
 have h0 : BdTm tm0 := .mk (by decide) (.mk (by decide) (fun t h => by cases h)) (fun t h => by cases h)
 unfold sbstR
 split
 ·unfold ltdR
  split
  ·rename_i h; exact valid_bd h
  ·exact h0
 ·exact h0
theorem sbs_any {a : Tm} {l : List (ByteArray × Tm)} {w : World} {tk kk vl : Value} (hgl : Gl w) (hp : P10 w) (h1 : TyL (fun _ => True) w a.ty.kids tk) (h2 : TmL (fun _ => True) w a.kids kk) (ha : SmTm big a) (hB : BnL (fun _ => True) w l vl) (hsb : ∀ b, b ∈ l → SmTm big b.2) (hnb : ∀ b, b ∈ l → b.1.size ≤ maxLen) :
  Calls Tryz.prog 8 #[tmVal a tk kk, vl] w (EsOk w) := by
 obtain ⟨p0, n0, c0, rfl⟩ := h1.slice
 obtain ⟨ma0, mn0, mc0, rfl⟩ := h2.slice
 obtain ⟨la, lc, rfl⟩ := hB.slice
 have H15 := Ld (fun W (k : Kept (fun _ => False) w W) => awake_any W (hgl.kept k (fun h => h) (fun h => h)))
 have HX := Ld (fun (hl : l.length ≤ 40) W (k : Kept (fun _ => False) w W) => subst_any (h1.frame (sK k)) (h2.frame (sK k)) ha (hB.frame (sK k)) hsb hnb (by omega) (hp.kept k))
 have HY := Ld (fun (hl : l.length ≤ 40) W (k : Kept (fun _ => False) w W) => rsubst_any (h1.frame (sK k)) (h2.frame (sK k)) ha (hB.frame (sK k)) hsb (by omega))
 have HBD := Ld (fun (hl : l.length ≤ 40) => sbst_bd a l (by omega))
 clear h1 h2 ha hgl hp hB hsb hnb
 unfold tmVal at HX HY ⊢
 have B0 : Hid (Blk (w.alloc (.cells #[.int .i64 a.op, .string a.name, .int .i64 a.n, .int .i64 a.ty.kind, .string a.ty.name, .slice p0 n0 c0, .slice ma0 mn0 mc0] 28)) w.heap.size 28 [Value.int .i64 a.op, .string a.name, .int .i64 a.n, .int .i64 a.ty.kind, .string a.ty.name, .slice p0 n0 c0, .slice ma0 mn0 mc0] ∧ Kept (fun _ => False) w (w.alloc (.cells #[.int .i64 a.op, .string a.name, .int .i64 a.n, .int .i64 a.ty.kind, .string a.ty.name, .slice p0 n0 c0, .slice ma0 mn0 mc0] 28))) := Ld ⟨Blk.new w 28 _, (Kept.refl _ _).alloc _⟩
 go_enter Tryz.func8, Tryz.ntmps8
 go_upto_region 1 with (fail)
 generalize w.alloc (.cells #[.int .i64 a.op, .string a.name, .int .i64 a.n, .int .i64 a.ty.kind, .string a.ty.name, .slice p0 n0 c0, .slice ma0 mn0 mc0] 28) = w1 at *
 go_wp2_with fail
 refine (few_any w1).mono ?_
 rintro e w2 ⟨rfl, rfl⟩
 by_cases hf : l.length ≤ 40
 ·have hd : decide (l.length ≤ 40) = true := decide_eq_true hf
  rw [hd]
  have HX2 := Ld (HX.out hf)
  have HY2 := Ld (HY.out hf)
  have HBD2 := Ld (HBD.out hf)
  clear HX HY HBD hf hd
  have HX3 := Ld (HX2.out w1 B0.out.2)
  generalize sbstR a l = r1 at *
  obtain ⟨s1, e1⟩ := r1
  have HBD3 : Hid (BdTm s1) := Ld HBD2.out
  clear HX2 HBD2
  have gA : ∀ i, w1.cell? ⟨w.heap.size, i, none⟩ = [Value.int .i64 a.op, .string a.name, .int .i64 a.n, .int .i64 a.ty.kind, .string a.ty.name, .slice p0 n0 c0, .slice ma0 mn0 mc0][i]? := (B0.out.1).cell
  go_wp2_with fail
  refine HX3.out.mono ?_
  rintro e w3 ⟨tc, kc, rfl, hty, htm, k3⟩
  have hty : TyL _ w3 s1.ty.kids tc := hty
  have htm : TmL _ w3 s1.kids kc := htm
  obtain ⟨p1, n1, c1, rfl⟩ := hty.slice
  obtain ⟨ma1, mn1, mc1, rfl⟩ := htm.slice
  have B1 : Hid (Blk w3 w.heap.size 28 [Value.int .i64 a.op, .string a.name, .int .i64 a.n, .int .i64 a.ty.kind, .string a.ty.name, .slice p0 n0 c0, .slice ma0 mn0 mc0] ∧ Kept (fun _ => False) w w3 ∧ TyL (fun _ => True) w3 s1.ty.kids (.slice p1 n1 c1) ∧ TmL (fun _ => True) w3 s1.kids (.slice ma1 mn1 mc1)) := Ld ⟨(B0.out.1).kept k3 (fun h => h), (B0.out.2).trans k3, hty.mono (fun _ _ _ => trivial), htm.mono (fun _ _ _ => trivial)⟩
  clear hty htm k3 HX3 gA B0
  unfold tmVal
  go_upto_region 4 with (fail)
  have k4 : Kept (fun _ => False) w3 (w3.alloc (.cells #[.int .i64 s1.op, .string s1.name, .int .i64 s1.n, .int .i64 s1.ty.kind, .string s1.ty.name, .slice p1 n1 c1, .slice ma1 mn1 mc1] 28)) := (Kept.refl _ _).alloc _
  have B2 : Hid (Blk (w3.alloc (.cells #[.int .i64 s1.op, .string s1.name, .int .i64 s1.n, .int .i64 s1.ty.kind, .string s1.ty.name, .slice p1 n1 c1, .slice ma1 mn1 mc1] 28)) w.heap.size 28 [Value.int .i64 a.op, .string a.name, .int .i64 a.n, .int .i64 a.ty.kind, .string a.ty.name, .slice p0 n0 c0, .slice ma0 mn0 mc0] ∧ Kept (fun _ => False) w (w3.alloc (.cells #[.int .i64 s1.op, .string s1.name, .int .i64 s1.n, .int .i64 s1.ty.kind, .string s1.ty.name, .slice p1 n1 c1, .slice ma1 mn1 mc1] 28)) ∧ TyL (fun _ => True) (w3.alloc (.cells #[.int .i64 s1.op, .string s1.name, .int .i64 s1.n, .int .i64 s1.ty.kind, .string s1.ty.name, .slice p1 n1 c1, .slice ma1 mn1 mc1] 28)) s1.ty.kids (.slice p1 n1 c1) ∧ TmL (fun _ => True) (w3.alloc (.cells #[.int .i64 s1.op, .string s1.name, .int .i64 s1.n, .int .i64 s1.ty.kind, .string s1.ty.name, .slice p1 n1 c1, .slice ma1 mn1 mc1] 28)) s1.kids (.slice ma1 mn1 mc1) ∧ Blk (w3.alloc (.cells #[.int .i64 s1.op, .string s1.name, .int .i64 s1.n, .int .i64 s1.ty.kind, .string s1.ty.name, .slice p1 n1 c1, .slice ma1 mn1 mc1] 28)) w3.heap.size 28 [Value.int .i64 s1.op, .string s1.name, .int .i64 s1.n, .int .i64 s1.ty.kind, .string s1.ty.name, .slice p1 n1 c1, .slice ma1 mn1 mc1]) := Ld ⟨(B1.out.1).kept k4 (fun h => h), (B1.out.2.1).trans k4, (B1.out.2.2.1).frame (sK k4), (B1.out.2.2.2).frame (sK k4), Blk.new w3 28 _⟩
  clear k4 B1
  generalize w3.alloc (.cells #[.int .i64 s1.op, .string s1.name, .int .i64 s1.n, .int .i64 s1.ty.kind, .string s1.ty.name, .slice p1 n1 c1, .slice ma1 mn1 mc1] 28) = w4 at *
  generalize w3.heap.size = P at *
  have gA : ∀ i, w4.cell? ⟨w.heap.size, i, none⟩ = [Value.int .i64 a.op, .string a.name, .int .i64 a.n, .int .i64 a.ty.kind, .string a.ty.name, .slice p0 n0 c0, .slice ma0 mn0 mc0][i]? := (B2.out.1).cell
  have HY3 := Ld (HY2.out w4 B2.out.2.1)
  clear HY2
  go_wp2_with fail
  refine HY3.out.mono ?_
  rintro e w5 ⟨tc, kc, rfl, hty, htm, k5⟩
  have hty : TyL _ w5 s1.ty.kids tc := hty
  have htm : TmL _ w5 s1.kids kc := htm
  obtain ⟨p2, n2, c2, rfl⟩ := hty.slice
  obtain ⟨ma2, mn2, mc2, rfl⟩ := htm.slice
  have B3 : Hid (Blk w5 w.heap.size 28 [Value.int .i64 a.op, .string a.name, .int .i64 a.n, .int .i64 a.ty.kind, .string a.ty.name, .slice p0 n0 c0, .slice ma0 mn0 mc0] ∧ Kept (fun _ => False) w w5 ∧ TyL (fun _ => True) w5 s1.ty.kids (.slice p1 n1 c1) ∧ TmL (fun _ => True) w5 s1.kids (.slice ma1 mn1 mc1) ∧ Blk w5 P 28 [Value.int .i64 s1.op, .string s1.name, .int .i64 s1.n, .int .i64 s1.ty.kind, .string s1.ty.name, .slice p1 n1 c1, .slice ma1 mn1 mc1] ∧ TyL (fun _ => True) w5 s1.ty.kids (.slice p2 n2 c2) ∧ TmL (fun _ => True) w5 s1.kids (.slice ma2 mn2 mc2)) := Ld ⟨(B2.out.1).kept k5 (fun h => h), (B2.out.2.1).trans k5, (B2.out.2.2.1).frame (sK k5), (B2.out.2.2.2.1).frame (sK k5), (B2.out.2.2.2.2).kept k5 (fun h => h), hty.mono (fun _ _ _ => trivial), htm.mono (fun _ _ _ => trivial)⟩
  clear hty htm k5 HY3 gA B2
  unfold tmVal
  go_upto_region 5 with (fail)
  have k6 : Kept (fun _ => False) w5 (w5.alloc (.cells #[.int .i64 s1.op, .string s1.name, .int .i64 s1.n, .int .i64 s1.ty.kind, .string s1.ty.name, .slice p2 n2 c2, .slice ma2 mn2 mc2] 28)) := (Kept.refl _ _).alloc _
  have B4 : Hid (Blk (w5.alloc (.cells #[.int .i64 s1.op, .string s1.name, .int .i64 s1.n, .int .i64 s1.ty.kind, .string s1.ty.name, .slice p2 n2 c2, .slice ma2 mn2 mc2] 28)) w.heap.size 28 [Value.int .i64 a.op, .string a.name, .int .i64 a.n, .int .i64 a.ty.kind, .string a.ty.name, .slice p0 n0 c0, .slice ma0 mn0 mc0] ∧ Kept (fun _ => False) w (w5.alloc (.cells #[.int .i64 s1.op, .string s1.name, .int .i64 s1.n, .int .i64 s1.ty.kind, .string s1.ty.name, .slice p2 n2 c2, .slice ma2 mn2 mc2] 28)) ∧ TyL (fun _ => True) (w5.alloc (.cells #[.int .i64 s1.op, .string s1.name, .int .i64 s1.n, .int .i64 s1.ty.kind, .string s1.ty.name, .slice p2 n2 c2, .slice ma2 mn2 mc2] 28)) s1.ty.kids (.slice p1 n1 c1) ∧ TmL (fun _ => True) (w5.alloc (.cells #[.int .i64 s1.op, .string s1.name, .int .i64 s1.n, .int .i64 s1.ty.kind, .string s1.ty.name, .slice p2 n2 c2, .slice ma2 mn2 mc2] 28)) s1.kids (.slice ma1 mn1 mc1) ∧ Blk (w5.alloc (.cells #[.int .i64 s1.op, .string s1.name, .int .i64 s1.n, .int .i64 s1.ty.kind, .string s1.ty.name, .slice p2 n2 c2, .slice ma2 mn2 mc2] 28)) P 28 [Value.int .i64 s1.op, .string s1.name, .int .i64 s1.n, .int .i64 s1.ty.kind, .string s1.ty.name, .slice p1 n1 c1, .slice ma1 mn1 mc1] ∧ TyL (fun _ => True) (w5.alloc (.cells #[.int .i64 s1.op, .string s1.name, .int .i64 s1.n, .int .i64 s1.ty.kind, .string s1.ty.name, .slice p2 n2 c2, .slice ma2 mn2 mc2] 28)) s1.ty.kids (.slice p2 n2 c2) ∧ TmL (fun _ => True) (w5.alloc (.cells #[.int .i64 s1.op, .string s1.name, .int .i64 s1.n, .int .i64 s1.ty.kind, .string s1.ty.name, .slice p2 n2 c2, .slice ma2 mn2 mc2] 28)) s1.kids (.slice ma2 mn2 mc2) ∧ Blk (w5.alloc (.cells #[.int .i64 s1.op, .string s1.name, .int .i64 s1.n, .int .i64 s1.ty.kind, .string s1.ty.name, .slice p2 n2 c2, .slice ma2 mn2 mc2] 28)) w5.heap.size 28 [Value.int .i64 s1.op, .string s1.name, .int .i64 s1.n, .int .i64 s1.ty.kind, .string s1.ty.name, .slice p2 n2 c2, .slice ma2 mn2 mc2]) := Ld ⟨(B3.out.1).kept k6 (fun h => h), (B3.out.2.1).trans k6, (B3.out.2.2.1).frame (sK k6), (B3.out.2.2.2.1).frame (sK k6), (B3.out.2.2.2.2.1).kept k6 (fun h => h), (B3.out.2.2.2.2.2.1).frame (sK k6), (B3.out.2.2.2.2.2.2).frame (sK k6), Blk.new w5 28 _⟩
  clear k6 B3
  generalize w5.alloc (.cells #[.int .i64 s1.op, .string s1.name, .int .i64 s1.n, .int .i64 s1.ty.kind, .string s1.ty.name, .slice p2 n2 c2, .slice ma2 mn2 mc2] 28) = w6 at *
  generalize w5.heap.size = Q at *
  have gS : ∀ i, w6.cell? ⟨P, i, none⟩ = [Value.int .i64 s1.op, .string s1.name, .int .i64 s1.n, .int .i64 s1.ty.kind, .string s1.ty.name, .slice p1 n1 c1, .slice ma1 mn1 mc1][i]? := (B4.out.2.2.2.2.1).cell
  have gT : ∀ i, w6.cell? ⟨Q, i, none⟩ = [Value.int .i64 s1.op, .string s1.name, .int .i64 s1.n, .int .i64 s1.ty.kind, .string s1.ty.name, .slice p2 n2 c2, .slice ma2 mn2 mc2][i]? := (B4.out.2.2.2.2.2.2.2).cell
  have HSM := Ld (rsameTm_any HBD3.out s1 w6 _ _ _ _ _ _ B4.out.2.2.1 B4.out.2.2.2.1 B4.out.2.2.2.2.2.1 B4.out.2.2.2.2.2.2.1)
  rw [tmEq_same] at HSM
  unfold tmVal at HSM
  have HK6 := Ld B4.out.2.1
  clear HBD3 B4
  go_wp2_with fail
  refine HSM.out.mono ?_
  rintro e w7 ⟨rfl, k7⟩
  have HK7 := Ld (HK6.out.trans k7)
  clear k7 gS gT HSM HK6
  go_wp2_with fail
  refine (H15.out w7 HK7.out).mono ?_
  rintro e w8 ⟨rfl, k8⟩
  have HK8 := Ld (HK7.out.trans k8)
  clear k8 HK7
  go_wp2_with fail
  go_ret
  exact ⟨rfl, HK8.out⟩
 ·have hd : decide (l.length ≤ 40) = false := decide_eq_false hf
  rw [hd]
  have K1 := Ld B0.out.2
  clear HX HY HBD hf hd B0
  go_wp2_with fail
  refine (H15.out w1 K1.out).mono ?_
  rintro e w8 ⟨rfl, k8⟩
  have HK8 := Ld (K1.out.trans k8)
  clear k8 K1
  go_wp2_with fail
  go_ret
  exact ⟨rfl, HK8.out⟩
end Go.Proofs.YtfhedienjnfdcaaGreatDoor
