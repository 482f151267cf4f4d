/- Texts RNds of this proof, in one. -/
import Derived.Test.YtfhedienjnfdcaaGreatDoorK11
set_option linter.unusedVariables false
set_option linter.unusedSimpArgs false
set_option maxRecDepth 100000
set_option maxHeartbeats 32000000
namespace Go.Proofs.YtfhedienjnfdcaaGreatDoor
open Go.RowKit
def NdC (t : Tm) : Prop := ∀ (w : World) (ok : Nat → Prop) (c d : Nat) (tk kk : Value), c ≤ 2000 → 1 ≤ d → d ≤ 65 → TyL ok w t.ty.kids tk → TmL ok w t.kids kk →
 Calls Tryz.prog 59 #[tmVal t tk kk, .int .i64 d, .int .i64 c] w fun e w' => e = .returned (.int .i64 (tdR (fS 2000 64 t d c))) ∧ Kept (fun _ => False) w w'
theorem nd_no {op : Int} {nm : ByteArray} {N : Int} {ty : Ty} {l : List Tm} {d c : Nat} (h : ((decide (c + 1 ≤ 2000) && decide (d ≤ 64)) && formedB op nm N ty l.length) = false) : tdR (fS 2000 64 (.mk op nm N ty l) d c) = -1 := by
 rw [f_eq, h]; rfl
theorem nd_yes {op : Int} {nm : ByteArray} {N : Int} {ty : Ty} {l : List Tm} {d c : Nat} (hc : c + 1 ≤ 2000) (hd : d ≤ 64) (h : formedB op nm N ty l.length = true) : fS 2000 64 (.mk op nm N ty l) d c = fsS 2000 64 l (d + 1) (c + 1) := by
 rw [f_eq, decide_eq_true hc, decide_eq_true hd, h]; rfl
theorem nd_drop {l : List Tm} {d c k : Nat} (h : k < l.length) : tdR (fsS 2000 64 (l.drop k) d c) = if (fS 2000 64 l[k] d c).1 = true then tdR (fsS 2000 64 (l.drop (k + 1)) d (fS 2000 64 l[k] d c).2) else -1 := by
 rw [fs_step h]; split <;> rfl
theorem rnode_t {ok : Nat → Prop} {w : World} {op : Int} {nm : ByteArray} {N : Int} {ty : Ty} {a : Option Addr} {n c : Nat} {ma : Option Addr} {mn mc : Nat} (hk : TyL ok w ty.kids (.slice a n c)) (hs : SmTy big ty) (hsz : nm.size ≤ 9223372036854775807) {v : Bool} (hv : formedB op nm N ty mn = v) :
  Calls Tryz.prog 107 #[.agg #[.int .i64 op, .string nm, .int .i64 N, .int .i64 ty.kind, .string ty.name, .slice a n c, .slice ma mn mc]] w fun e w' => e = .returned (.bool v) ∧ Kept (fun _ => False) w w' := by rw [← hv]; exact rnode_any hk hs hsz op
theorem rnodes_bad {ok : Nat → Prop} {op : Int} {nm : ByteArray} {N : Int} {ty : Ty} {a : Option Addr} {n c' : Nat} {ma : Option Addr} {mn mc c d : Nat} {w : World} (hk : TyL ok w ty.kids (.slice a n c')) (hs : SmTy big ty) (hsz : nm.size ≤ 9223372036854775807) (hc : c ≤ 2000) (h1 : 1 ≤ d) (hd : d ≤ 65)
  (h : ((decide (c + 1 ≤ 2000) && decide (d ≤ 64)) && formedB op nm N ty mn) = false) :
  Calls Tryz.prog 59 #[.agg #[.int .i64 op, .string nm, .int .i64 N, .int .i64 ty.kind, .string ty.name, .slice a n c', .slice ma mn mc], .int .i64 d, .int .i64 c] w fun e w' => e = .returned (.int .i64 (-1)) ∧ Kept (fun _ => False) w w' := by
 have K1 : Kept (fun _ => False) w (w.alloc (.cells #[.int .i64 op, .string nm, .int .i64 N, .int .i64 ty.kind, .string ty.name, .slice a n c', .slice ma mn mc] 28)) := (Kept.refl _ _).alloc _
 by_cases d6 : d ≤ 64
 case neg =>
  have i1 : decide ((64 : Int) < (d : Int)) = true := decide_eq_true (by omega)
  clear h
  go_enter Tryz.func59, Tryz.ntmps59
  go_wp2_with fail
  go_ret
  exact ⟨rfl, K1⟩
 have i1 : decide ((64 : Int) < (d : Int)) = false := decide_eq_false (by omega)
 by_cases c6 : c + 1 ≤ 2000
 case neg =>
  have i2 : decide ((2000 : Int) < (c : Int) + 1) = true := decide_eq_true (by omega)
  clear h
  go_enter Tryz.func59, Tryz.ntmps59
  go_wp2_with fail
  go_ret
  exact ⟨rfl, K1⟩
 have i2 : decide ((2000 : Int) < (c : Int) + 1) = false := decide_eq_false (by omega)
 rw [decide_eq_true d6, decide_eq_true c6, Bool.true_and, Bool.true_and] at h
 have HN := Ld (rnode_t (ma := ma) (mc := mc) (hk.frame (Same.alloc w (.cells #[.int .i64 op, .string nm, .int .i64 N, .int .i64 ty.kind, .string ty.name, .slice a n c', .slice ma mn mc] 28))) hs hsz h)
 clear h hk
 go_enter Tryz.func59, Tryz.ntmps59
 go_wp2_with fail
 refine HN.out.mono ?_
 rintro e w1 ⟨rfl, k1⟩
 go_wp2_with fail
 go_ret
 exact ⟨rfl, K1.trans k1⟩
theorem rnodes_leaf {ok : Nat → Prop} {op : Int} {nm : ByteArray} {N : Int} {ty : Ty} {a : Option Addr} {n c' : Nat} {ma : Option Addr} {mc c d : Nat} {w : World} (hk : TyL ok w ty.kids (.slice a n c')) (hs : SmTy big ty) (hsz : nm.size ≤ 9223372036854775807) (hc : c + 1 ≤ 2000) (h1 : 1 ≤ d) (hd : d ≤ 64)
  (h : formedB op nm N ty 0 = true) :
  Calls Tryz.prog 59 #[.agg #[.int .i64 op, .string nm, .int .i64 N, .int .i64 ty.kind, .string ty.name, .slice a n c', .slice ma 0 mc], .int .i64 d, .int .i64 c] w fun e w' => e = .returned (.int .i64 ((c + 1 : Nat) : Int)) ∧ Kept (fun _ => False) w w' := by
 have K1 : Kept (fun _ => False) w (w.alloc (.cells #[.int .i64 op, .string nm, .int .i64 N, .int .i64 ty.kind, .string ty.name, .slice a n c', .slice ma 0 mc] 28)) := (Kept.refl _ _).alloc _
 have bA : Blk (w.alloc (.cells #[.int .i64 op, .string nm, .int .i64 N, .int .i64 ty.kind, .string ty.name, .slice a n c', .slice ma 0 mc] 28)) w.heap.size 28 [.int .i64 op, .string nm, .int .i64 N, .int .i64 ty.kind, .string ty.name, .slice a n c', .slice ma 0 mc] := Blk.new w 28 _
 have i1 : decide ((64 : Int) < (d : Int)) = false := decide_eq_false (by omega)
 have i2 : decide ((2000 : Int) < (c : Int) + 1) = false := decide_eq_false (by omega)
 have HN := Ld (rnode_t (ma := ma) (mc := mc) (hk.frame (Same.alloc w (.cells #[.int .i64 op, .string nm, .int .i64 N, .int .i64 ty.kind, .string ty.name, .slice a n c', .slice ma 0 mc] 28))) hs hsz h)
 clear h hk
 go_enter Tryz.func59, Tryz.ntmps59
 go_wp2_with fail
 refine HN.out.mono ?_
 rintro e w1 ⟨rfl, k1⟩
 have g2 : w1.cell? ⟨w.heap.size, 6, none⟩ = some (.slice ma 0 mc) := (bA.kept k1 (fun h => h)).cell 6
 go_wp2_with fail
 go_loop [7, 2] (fun i m => i = .int .i64 0 ∧ m = .int .i64 ((c : Int) + 1)) (fun i _ => 0)
 case atStart => exact ⟨rfl, rfl⟩
 case round =>
  obtain ⟨rfl, rfl⟩ := hrel
  go_wp2_with fail
  go_ret
  exact ⟨rfl, K1.trans k1⟩
theorem rnodes_mk {ok : Nat → Prop} {op : Int} {nm : ByteArray} {N : Int} {ty : Ty} {l : List Tm} {a : Option Addr} {n c' : Nat} {b off mc c d : Nat} {w : World} (IH : ∀ t, t ∈ l → NdC t) (hk : TyL ok w ty.kids (.slice a n c')) (hs : SmTy big ty) (hsz : nm.size ≤ 9223372036854775807) (hc : c + 1 ≤ 2000) (h1 : 1 ≤ d) (hd : d ≤ 64)
  (h : formedB op nm N ty l.length = true) (K M : Nat → Value) (hb : ok b)
  (hcell : ∀ i (h : i < l.length), w.cell? ⟨b, off + i * 7, none⟩ = some (.int .i64 l[i].op) ∧ w.cell? ⟨b, off + i * 7 + 1, none⟩ = some (.string l[i].name) ∧ w.cell? ⟨b, off + i * 7 + 2, none⟩ = some (.int .i64 l[i].n) ∧ w.cell? ⟨b, off + i * 7 + 3, none⟩ = some (.int .i64 l[i].ty.kind) ∧ w.cell? ⟨b, off + i * 7 + 4, none⟩ = some (.string l[i].ty.name) ∧ w.cell? ⟨b, off + i * 7 + 5, none⟩ = some (K i) ∧ w.cell? ⟨b, off + i * 7 + 6, none⟩ = some (M i))
  (hkk : ∀ i (h : i < l.length), TyL ok w l[i].ty.kids (K i)) (hm : ∀ i (h : i < l.length), TmL ok w l[i].kids (M i)) :
  Calls Tryz.prog 59 #[.agg #[.int .i64 op, .string nm, .int .i64 N, .int .i64 ty.kind, .string ty.name, .slice a n c', .slice (some ⟨b, off, none⟩) l.length mc], .int .i64 d, .int .i64 c] w fun e w' => e = .returned (.int .i64 (tdR (fsS 2000 64 l (d + 1) (c + 1)))) ∧ Kept (fun _ => False) w w' := by
 have K1 : Kept (fun _ => False) w (w.alloc (.cells #[.int .i64 op, .string nm, .int .i64 N, .int .i64 ty.kind, .string ty.name, .slice a n c', .slice (some ⟨b, off, none⟩) l.length mc] 28)) := (Kept.refl _ _).alloc _
 have bA : Blk (w.alloc (.cells #[.int .i64 op, .string nm, .int .i64 N, .int .i64 ty.kind, .string ty.name, .slice a n c', .slice (some ⟨b, off, none⟩) l.length mc] 28)) w.heap.size 28 [.int .i64 op, .string nm, .int .i64 N, .int .i64 ty.kind, .string ty.name, .slice a n c', .slice (some ⟨b, off, none⟩) l.length mc] := Blk.new w 28 _
 have i1 : decide ((64 : Int) < (d : Int)) = false := decide_eq_false (by omega)
 have i2 : decide ((2000 : Int) < (c : Int) + 1) = false := decide_eq_false (by omega)
 have HN := Ld (rnode_t (ma := some ⟨b, off, none⟩) (mc := mc) (hk.frame (Same.alloc w (.cells #[.int .i64 op, .string nm, .int .i64 N, .int .i64 ty.kind, .string ty.name, .slice a n c', .slice (some ⟨b, off, none⟩) l.length mc] 28))) hs hsz h)
 have HIH := Ld IH
 have HC := Ld hcell
 have HK := Ld hkk
 have HM := Ld hm
 clear h hk IH hcell hkk hm
 go_enter Tryz.func59, Tryz.ntmps59
 go_wp2_with fail
 refine HN.out.mono ?_
 rintro e w1 ⟨rfl, k1⟩
 have bA1 := bA.kept k1 (fun h => h)
 have K2 := K1.trans k1
 go_wp2_with fail
 go_loopw [7, 2] (fun i m wr => ∃ j cj : Nat, j ≤ l.length ∧ j ≤ cj ∧ i = .int .i64 j ∧ m = .int .i64 cj ∧ cj ≤ 2000 ∧ Kept (fun _ => False) w1 wr ∧ Hid (tdR (fsS 2000 64 l (d + 1) (c + 1)) = tdR (fsS 2000 64 (l.drop j) (d + 1) cj))) (fun i _ _ => l.length - (intOf i).toNat)
 case atStart => exact ⟨0, c + 1, Nat.zero_le _, Nat.zero_le _, rfl, by go_num, hc, Kept.refl _ _, Ld rfl⟩
 case round =>
  obtain ⟨j, cj, hj, hjc, rfl, rfl, hcj, kr, hq⟩ := hrel
  have bR := bA1.kept kr (fun h => h)
  have g2 : wr.cell? ⟨w.heap.size, 6, none⟩ = some (.slice (some ⟨b, off, none⟩) l.length mc) := bR.cell 6
  by_cases hlt : j < l.length
  ·have KR := K2.trans kr
   have c0 := (Same.of_kept (ok := ok) KR (fun k h e => e)).cell hb (HC.out j hlt).1
   have c1 := (Same.of_kept (ok := ok) KR (fun k h e => e)).cell hb (HC.out j hlt).2.1
   have c2 := (Same.of_kept (ok := ok) KR (fun k h e => e)).cell hb (HC.out j hlt).2.2.1
   have c3 := (Same.of_kept (ok := ok) KR (fun k h e => e)).cell hb (HC.out j hlt).2.2.2.1
   have c4 := (Same.of_kept (ok := ok) KR (fun k h e => e)).cell hb (HC.out j hlt).2.2.2.2.1
   have c5 := (Same.of_kept (ok := ok) KR (fun k h e => e)).cell hb (HC.out j hlt).2.2.2.2.2.1
   have c6 := (Same.of_kept (ok := ok) KR (fun k h e => e)).cell hb (HC.out j hlt).2.2.2.2.2.2
   obtain ⟨ta, tn, tc, hKj⟩ := (HK.out j hlt).slice
   obtain ⟨ua, un, uc, hMj⟩ := (HM.out j hlt).slice
   have hkk := (HK.out j hlt).frame (Same.of_kept (ok := ok) KR (fun k h e => e))
   have hmm := (HM.out j hlt).frame (Same.of_kept (ok := ok) KR (fun k h e => e))
   rw [hKj] at c5 hkk
   rw [hMj] at c6 hmm
   have hcon := Ld (HIH.out _ (List.getElem_mem hlt) wr ok cj (d + 1) _ _ hcj (by omega) (by omega) hkk hmm)
   have hst := Ld (nd_drop (d := d + 1) (c := cj) hlt)
   have hle := Ld (f_le 2000 64 l[j] (d + 1) cj hcj)
   clear hkk hmm hKj hMj
   have hj2 : (j : Int) < (l.length : Int) := by omega
   have hj3 : (j : Int) < 100000000 := by omega
   cases hr : (fS 2000 64 l[j] (d + 1) cj).1
   ·have e1 : tdR (fS 2000 64 l[j] (d + 1) cj) = -1 := by unfold tdR; rw [hr]; rfl
    rw [e1] at hcon
    have HR := Ld hr
    clear hr e1
    unfold tmVal at hcon
    go_wp2_with (go_at_call 59; refine hcon.out.mono ?_; rintro e w' ⟨rfl, k2⟩)
    go_ret
    refine ⟨?_, KR.trans k2⟩
    rw [hq.out, hst.out, HR.out]; rfl
   ·have e1 : tdR (fS 2000 64 l[j] (d + 1) cj) = ((fS 2000 64 l[j] (d + 1) cj).2 : Int) := by unfold tdR; rw [hr]; rfl
    rw [e1] at hcon
    have hle2 := hle.out hr
    have HR := Ld hr
    clear hr e1
    generalize hcc : (fS 2000 64 l[j] (d + 1) cj).2 = cc at *
    have HCC := Ld hcc
    have HL2 := Ld hle2
    have i5 : decide ((cc : Int) < 0) = false := decide_eq_false (by omega)
    clear hcc hle2
    unfold tmVal at hcon
    go_wp2_with (go_at_call 59; refine hcon.out.mono ?_; rintro e w' ⟨rfl, k2⟩)
    go_roundw
    case rel =>
     refine ⟨j + 1, cc, by omega, by have := HL2.out.1; omega, by go_num, rfl, HL2.out.2, kr.trans k2, Ld ?_⟩
     rw [hq.out, hst.out, HR.out, if_pos rfl]
    case measure => simp [intOf]; omega
  ·have hq2 : Hid (tdR (fsS 2000 64 l (d + 1) (c + 1)) = (cj : Int)) := Ld (by rw [hq.out, List.drop_eq_nil_of_le (by omega), fsS]; rfl)
   go_wp2_with fail
   go_ret
   exact ⟨by rw [hq2.out]; rfl, K2.trans kr⟩
theorem rnodes_one {op : Int} {nm : ByteArray} {N : Int} {ty : Ty} {l : List Tm} (hsz : nm.size ≤ 9223372036854775807) (hs : SmTy big ty) (IH : ∀ t, t ∈ l → NdC t) : NdC (.mk op nm N ty l) := by
 intro w ok c d tk kk hc h1 hd hk hm
 obtain ⟨a, n, cp, rfl⟩ := hk.slice
 obtain ⟨ma, mn, mc, rfl⟩ := hm.slice
 have hn : mn = l.length := hm.len
 cases hh : ((decide (c + 1 ≤ 2000) && decide (d ≤ 64)) && formedB op nm N ty l.length)
 ·rw [nd_no hh]
  exact rnodes_bad hk hs hsz hc h1 hd (by rw [hn]; exact hh)
 ·rw [Bool.and_eq_true, Bool.and_eq_true] at hh
  obtain ⟨⟨hc1, hd1⟩, hh⟩ := hh
  have hc1 := of_decide_eq_true hc1
  have hd1 := of_decide_eq_true hd1
  rw [nd_yes hc1 hd1 hh]
  subst hn
  have hm' : TmL ok w l (.slice ma l.length mc) := hm
  cases l with
  | nil =>
   rw [fsS]
   exact rnodes_leaf hk hs hsz hc1 h1 hd1 hh
  | cons t l =>
   cases hm' with
   | mk K M hne hb hcap hcell hkk hmm => exact rnodes_mk IH hk hs hsz hc1 h1 hd1 hh K M hb hcell hkk hmm
theorem rnodes_any {t : Tm} (h : SmTm big t) : NdC t := by
 induction h with
 | mk hn ht hl ih => exact rnodes_one hn ht ih
theorem rvalid_any {ok : Nat → Prop} {w : World} {t : Tm} {a : Option Addr} {n c : Nat} {ma : Option Addr} {mn mc : Nat} (hk : TyL ok w t.ty.kids (.slice a n c)) (hm : TmL ok w t.kids (.slice ma mn mc)) (hs : SmTm big t) :
  Calls Tryz.prog 25 #[.agg #[.int .i64 t.op, .string t.name, .int .i64 t.n, .int .i64 t.ty.kind, .string t.ty.name, .slice a n c, .slice ma mn mc]] w fun e w' => e = .returned (.bool (validB t)) ∧ Kept (fun _ => False) w w' := by
 have hk2 := hk.frame (Same.alloc w (.cells #[.int .i64 t.op, .string t.name, .int .i64 t.n, .int .i64 t.ty.kind, .string t.ty.name, .slice a n c, .slice ma mn mc] 28))
 have hm2 := hm.frame (Same.alloc w (.cells #[.int .i64 t.op, .string t.name, .int .i64 t.n, .int .i64 t.ty.kind, .string t.ty.name, .slice a n c, .slice ma mn mc] 28))
 have hC := Ld (rnodes_any hs _ ok 0 1 _ _ (by decide) (by decide) (by decide) hk2 hm2)
 have K1 : Kept (fun _ => False) w (w.alloc (.cells #[.int .i64 t.op, .string t.name, .int .i64 t.n, .int .i64 t.ty.kind, .string t.ty.name, .slice a n c, .slice ma mn mc] 28)) := (Kept.refl _ _).alloc _
 have hle := f_le 2000 64 t 1 0 (Nat.zero_le _)
 have HV : Hid (decide (0 < tdR (fS 2000 64 t 1 0)) = validB t) := Ld (by
  unfold tdR validB
  cases hr : (fS 2000 64 t 1 0).1
  ·rfl
  ·have := (hle hr).1
   rw [if_pos rfl]
   exact decide_eq_true (by omega))
 clear hle hk2 hm2
 unfold tmVal at hC
 go_enter Tryz.func25, Tryz.ntmps25
 go_wp2_with fail
 refine hC.out.mono ?_
 rintro e w' ⟨rfl, k2⟩
 go_wp2_with fail
 go_ret
 exact ⟨by rw [← HV.out]; rfl, K1.trans k2⟩
end Go.Proofs.YtfhedienjnfdcaaGreatDoor
