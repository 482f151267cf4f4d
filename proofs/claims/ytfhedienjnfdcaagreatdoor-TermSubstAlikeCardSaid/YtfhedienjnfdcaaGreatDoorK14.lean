/- Texts Show ShB Siz Vf Wfm OkS TyR Cel ClcW NmL FrmW of this proof, in one. -/
import Derived.Test.YtfhedienjnfdcaaGreatDoorK12
import Derived.Test.YtfhedienjnfdcaaGreatDoorK13
import Derived.Deep.AppendLies
import Derived.Deep.RegionLaw
import Derived.Deep.CutBlock
import Derived.Laws.AppendOwnNone
set_option linter.unusedVariables false
set_option linter.unusedSimpArgs false
set_option maxRecDepth 100000
set_option maxHeartbeats 32000000
namespace Go.Proofs.YtfhedienjnfdcaaGreatDoor
open Go.RowKit
inductive OkTm : Tm → Prop
 | mk {op : Int} {nm : ByteArray} {N : Int} {ty : Ty} {l : List Tm} (h : formedB op nm N ty l.length = true) (hn : l.length ≤ 100000) (hl : ∀ t, t ∈ l → OkTm t) : OkTm (.mk op nm N ty l)
theorem OkTm.formed {t : Tm} (h : OkTm t) : formedB t.op t.name t.n t.ty t.kids.length = true := by cases h; assumption
theorem kids_range (op : Int) (h : (kidsN op).2 = true) : 1 ≤ op ∧ op ≤ 56 := by
 unfold kidsN at h
 split at h
 ·omega
 split at h
 ·omega
 split at h
 ·omega
 split at h
 ·assumption
 ·cases h
theorem formed_parts {op : Int} {nm : ByteArray} {N : Int} {ty : Ty} {n : Nat} (h : formedB op nm N ty n = true) : kidOk op n = true ∧ nmOk op nm = true ∧ nOk op N = true ∧ tyOk op ty = true := by
 unfold formedB at h
 rw [Bool.and_eq_true, Bool.and_eq_true, Bool.and_eq_true] at h
 exact ⟨h.1, h.2.1.1, h.2.1.2, h.2.2⟩
theorem OkTm.range {t : Tm} (h : OkTm t) : 1 ≤ t.op ∧ t.op ≤ 56 := by
 have := (formed_parts h.formed).1
 unfold kidOk at this
 rw [Bool.and_eq_true] at this
 exact kids_range _ this.1
theorem f_ok (most deep : Nat) (hmo : most ≤ 100000) : ∀ (t : Tm) (d : Nat) (c : Nat), c ≤ most → (fS most deep t d c).1 = true → OkTm t := by
 intro t
 induction t using Tm.rec (motive_2 := fun l => ∀ (d c : Nat), c ≤ most → (fsS most deep l d c).1 = true → c + l.length ≤ (fsS most deep l d c).2 ∧ (fsS most deep l d c).2 ≤ most ∧ ∀ t, t ∈ l → OkTm t) with
 | mk op nm N ty l ih =>
  intro d c hc h
  rw [f_eq] at h
  split at h
  ·rename_i hb
   have hb' := hb
   simp only [Bool.and_eq_true, decide_eq_true_eq] at hb'
   have q := ih _ _ hb'.1.1 h
   exact .mk hb'.2 (by omega) q.2.2
  ·cases h
 | nil => rename_i d c hc h; exact ⟨Nat.le_refl _, hc, fun t h => by cases h⟩
 | cons t l iht ihl =>
  rename_i d c hc h
  rw [fsS] at h ⊢
  cases hr : fS most deep t d c with
  | mk b c' =>
   cases b
   ·rw [hr] at h; cases h
   ·rw [hr] at h
    have a := f_le most deep t d c hc (by rw [hr])
    rw [hr] at a
    have q := ihl d c' a.2 h
    have p := iht d c hc (by rw [hr])
    simp only at a q ⊢
    refine ⟨by rw [List.length_cons]; omega, q.2.1, fun t' h' => ?_⟩
    rcases List.mem_cons.1 h' with rfl | h'
    ·exact p
    ·exact q.2.2 t' h'
theorem valid_ok {t : Tm} (h : validB t = true) : OkTm t := f_ok 2000 64 (by decide) t 1 0 (Nat.zero_le _) h
theorem tmNs_app (a b : List Tm) : tmNs (a ++ b) = tmNs a + tmNs b := by
 induction a with
 | nil => simp [tmNs]
 | cons t a ih => simp only [List.cons_append, tmNs, ih]; omega
theorem tmDs_app (a b : List Tm) : tmDs (a ++ b) = max (tmDs a) (tmDs b) := by
 induction a with
 | nil => simp [tmDs]
 | cons t a ih => simp only [List.cons_append, tmDs, ih]; omega
theorem tmNs_snoc (l : List Tm) (j : Nat) (h : j < l.length) : tmNs (l.take (j + 1)) = tmNs (l.take j) + tmN l[j] := by
 rw [List.take_succ_eq_append_getElem h, tmNs_app]; simp [tmNs]
theorem tmDs_snoc (l : List Tm) (j : Nat) (h : j < l.length) : tmDs (l.take (j + 1)) = max (tmDs (l.take j)) (tmD l[j]) := by
 rw [List.take_succ_eq_append_getElem h, tmDs_app]; simp [tmDs]
theorem tmNs_take (l : List Tm) (j : Nat) : tmNs (l.take j) ≤ tmNs l := by
 have := tmNs_app (l.take j) (l.drop j)
 rw [List.take_append_drop] at this; omega
theorem tmNs_len (l : List Tm) : l.length ≤ tmNs l := by
 induction l with
 | nil => simp
 | cons t l ih => cases t; simp only [tmNs, tmN, List.length_cons]; omega
theorem tmD_le (t : Tm) : tmD t ≤ tmN t := by
 induction t using Tm.rec (motive_2 := fun l => tmDs l ≤ tmNs l) with
 | mk op nm N ty l ih => simp only [tmD, tmN]; omega
 | nil => simp [tmDs, tmNs]
 | cons t l iht ihl => simp only [tmDs, tmNs]; omega
theorem f_sz (most deep : Nat) : ∀ (t : Tm) (d c : Nat), (fS most deep t d c).1 = true → (fS most deep t d c).2 = c + tmN t := by
 intro t
 induction t using Tm.rec (motive_2 := fun l => ∀ (d c : Nat), (fsS most deep l d c).1 = true → (fsS most deep l d c).2 = c + tmNs l) with
 | mk op nm N ty l ih =>
  intro d c h
  rw [f_eq] at h ⊢
  split at h
  ·rename_i hb
   rw [if_pos hb, ih _ _ h, tmN]; omega
  ·cases h
 | nil => rename_i d c h; rfl
 | cons t l iht ihl =>
  rename_i d c h
  rw [fsS] at h ⊢
  cases hr : fS most deep t d c with
  | mk b c' =>
   cases b
   ·rw [hr] at h; cases h
   ·rw [hr] at h
    have p := iht d c (by rw [hr])
    rw [hr] at p
    have q := ihl d c' h
    simp only at p q ⊢
    rw [q, p, tmNs]; omega
theorem valid_sz {t : Tm} (h : validB t = true) : (fS 2000 64 t 1 0).2 = tmN t ∧ tmN t ≤ 2000 := by
 have h1 := f_sz 2000 64 t 1 0 h
 have h2 := (f_le 2000 64 t 1 0 (Nat.zero_le _) h).2
 omega
def SzC (t : Tm) : Prop := ∀ (w : World) (ok : Nat → Prop) (tk kk : Value), tmN t ≤ 100000 → TyL ok w t.ty.kids tk → TmL ok w t.kids kk →
 Calls Tryz.prog 102 #[tmVal t tk kk] w fun e w' => e = .returned (.tuple #[.int .i64 (tmN t), .int .i64 (tmD t)]) ∧ Kept (fun _ => False) w w'
theorem size_leaf {op : Int} {nm : ByteArray} {N : Int} {k : Int} {tnm : ByteArray} {a : Option Addr} {n c' : Nat} {ma : Option Addr} {mc : Nat} {w : World} :
  Calls Tryz.prog 102 #[.agg #[.int .i64 op, .string nm, .int .i64 N, .int .i64 k, .string tnm, .slice a n c', .slice ma 0 mc]] w fun e w' => e = .returned (.tuple #[.int .i64 1, .int .i64 1]) ∧ Kept (fun _ => False) w w' := by
 have K1 : Kept (fun _ => False) w (w.alloc (.cells #[.int .i64 op, .string nm, .int .i64 N, .int .i64 k, .string tnm, .slice a n c', .slice ma 0 mc] 28)) := (Kept.refl _ _).alloc _
 go_enter Tryz.func102, Tryz.ntmps102
 go_wp2_with fail
 go_loop [11, 2, 3] (fun i m d => i = .int .i64 0 ∧ m = .int .i64 0 ∧ d = .int .i64 0) (fun i _ _ => 0)
 case atStart => exact ⟨rfl, rfl, rfl⟩
 case round =>
  obtain ⟨rfl, rfl, rfl⟩ := hrel
  go_wp2_with fail
  go_ret2
  exact ⟨rfl, K1⟩
theorem size_mk {ok : Nat → Prop} {op : Int} {nm : ByteArray} {N : Int} {k : Int} {tnm : ByteArray} {l : List Tm} {a : Option Addr} {n c' : Nat} {b off mc : Nat} {w : World} (IH : ∀ t, t ∈ l → SzC t) (hN : tmNs l ≤ 100000) (K M : Nat → Value) (hb : ok b)
  (hcell : ∀ i (h : i < l.length), w.cell? ⟨b, off + i * 7, none⟩ = some (.int .i64 l[i].op) ∧ w.cell? ⟨b, off + i * 7 + 1, none⟩ = some (.string l[i].name) ∧ w.cell? ⟨b, off + i * 7 + 2, none⟩ = some (.int .i64 l[i].n) ∧ w.cell? ⟨b, off + i * 7 + 3, none⟩ = some (.int .i64 l[i].ty.kind) ∧ w.cell? ⟨b, off + i * 7 + 4, none⟩ = some (.string l[i].ty.name) ∧ w.cell? ⟨b, off + i * 7 + 5, none⟩ = some (K i) ∧ w.cell? ⟨b, off + i * 7 + 6, none⟩ = some (M i))
  (hkk : ∀ i (h : i < l.length), TyL ok w l[i].ty.kids (K i)) (hm : ∀ i (h : i < l.length), TmL ok w l[i].kids (M i)) :
  Calls Tryz.prog 102 #[.agg #[.int .i64 op, .string nm, .int .i64 N, .int .i64 k, .string tnm, .slice a n c', .slice (some ⟨b, off, none⟩) l.length mc]] w fun e w' => e = .returned (.tuple #[.int .i64 ((tmNs l + 1 : Nat) : Int), .int .i64 ((tmDs l + 1 : Nat) : Int)]) ∧ Kept (fun _ => False) w w' := by
 have K1 : Kept (fun _ => False) w (w.alloc (.cells #[.int .i64 op, .string nm, .int .i64 N, .int .i64 k, .string tnm, .slice a n c', .slice (some ⟨b, off, none⟩) l.length mc] 28)) := (Kept.refl _ _).alloc _
 have HIH := Ld IH
 have HC := Ld hcell
 have HK := Ld hkk
 have HM := Ld hm
 have hlen := tmNs_len l
 have hl9 : (l.length : Int) < 100001 := by omega
 have HNN := Ld hN
 have HD : Hid (∀ j, tmDs (l.take j) ≤ tmNs (l.take j)) := Ld (fun j => by
  have : ∀ m : List Tm, tmDs m ≤ tmNs m := by
   intro m
   induction m with
   | nil => simp [tmDs, tmNs]
   | cons t m ih => have := tmD_le t; simp only [tmDs, tmNs]; omega
  exact this _)
 clear IH hcell hkk hm hN hlen
 go_enter Tryz.func102, Tryz.ntmps102
 go_wp2_with fail
 generalize w.alloc (.cells #[.int .i64 op, .string nm, .int .i64 N, .int .i64 k, .string tnm, .slice a n c', .slice (some ⟨b, off, none⟩) l.length mc] 28) = w1 at *
 go_loopw [11, 2, 3] (fun i m d wr => ∃ j : Nat, j ≤ l.length ∧ i = .int .i64 j ∧ m = .int .i64 (tmNs (l.take j)) ∧ d = .int .i64 (tmDs (l.take j)) ∧ Kept (fun _ => False) w1 wr) (fun i _ _ _ => l.length - (intOf i).toNat)
 case atStart => exact ⟨0, Nat.zero_le _, rfl, rfl, rfl, Kept.refl _ _⟩
 case round =>
  obtain ⟨j, hj, rfl, rfl, rfl, kr⟩ := hrel
  by_cases hlt : j < l.length
  ·have KR := K1.trans kr
   have c0 := (Same.of_kept (ok := ok) KR (fun k h e => e)).cell hb (HC.out j hlt).1
   have c1 := (Same.of_kept (ok := ok) KR (fun k h e => e)).cell hb (HC.out j hlt).2.1
   have c2 := (Same.of_kept (ok := ok) KR (fun k h e => e)).cell hb (HC.out j hlt).2.2.1
   have c3 := (Same.of_kept (ok := ok) KR (fun k h e => e)).cell hb (HC.out j hlt).2.2.2.1
   have c4 := (Same.of_kept (ok := ok) KR (fun k h e => e)).cell hb (HC.out j hlt).2.2.2.2.1
   have c5 := (Same.of_kept (ok := ok) KR (fun k h e => e)).cell hb (HC.out j hlt).2.2.2.2.2.1
   have c6 := (Same.of_kept (ok := ok) KR (fun k h e => e)).cell hb (HC.out j hlt).2.2.2.2.2.2
   obtain ⟨ta, tn, tc, hKj⟩ := (HK.out j hlt).slice
   obtain ⟨ua, un, uc, hMj⟩ := (HM.out j hlt).slice
   have hkk := (HK.out j hlt).frame (Same.of_kept (ok := ok) KR (fun k h e => e))
   have hmm := (HM.out j hlt).frame (Same.of_kept (ok := ok) KR (fun k h e => e))
   rw [hKj] at c5 hkk
   rw [hMj] at c6 hmm
   have hs1 := tmNs_snoc l j hlt
   have hs2 := tmDs_snoc l j hlt
   have hs3 := tmNs_take l (j + 1)
   have hs4 := HD.out j
   have hs5 := tmD_le l[j]
   have hs6 := HNN.out
   have KA : Kept (fun _ => False) wr (wr.alloc (.cells #[.int .i64 l[j].op, .string l[j].name, .int .i64 l[j].n, .int .i64 l[j].ty.kind, .string l[j].ty.name, .slice ta tn tc, .slice ua un uc] 28)) := (Kept.refl _ _).alloc _
   have hcon := Ld (HIH.out _ (List.getElem_mem hlt) _ ok _ _ (by omega) (hkk.frame (Same.of_kept (ok := ok) KA (fun k h e => e))) (hmm.frame (Same.of_kept (ok := ok) KA (fun k h e => e))))
   clear hkk hmm hKj hMj
   have hj2 : (j : Int) < (l.length : Int) := by omega
   have HS1 := Ld hs1
   have HS2 := Ld hs2
   have b1 : (tmNs (l.take j) : Int) + (tmN l[j] : Int) < 100001 := by omega
   have b2 : (0 : Int) ≤ (tmNs (l.take j) : Int) + (tmN l[j] : Int) := by omega
   have b3 : (tmDs (l.take j) : Int) < 100001 := by omega
   have b4 : (tmD l[j] : Int) < 100001 := by omega
   clear hs1 hs2 hs3 hs4 hs5 hs6
   unfold tmVal at hcon
   go_wp2_with (go_at_call 102; refine hcon.out.mono ?_; rintro e w' ⟨rfl, k2⟩)
   go_roundw
   case rel =>
    refine ⟨j + 1, by omega, by go_num, ?_, ?_, (kr.trans KA).trans k2⟩
    ·rw [HS1.out]; congr 1
    ·rw [HS2.out]; congr 1; omega
   case measure => simp [intOf]; omega
  ·have e1 : l.take j = l := List.take_of_length_le (by omega)
   have hs4 := HD.out l.length
   rw [List.take_length] at hs4
   have hs6 := HNN.out
   rw [e1] at *
   have b1 : (tmNs l : Int) + 1 < 100002 := by omega
   have b2 : (tmDs l : Int) + 1 < 100002 := by omega
   clear hs4 hs6
   go_wp2_with fail
   go_ret2
   exact ⟨rfl, K1.trans kr⟩
theorem size_any (t : Tm) : SzC t := by
 induction t using Tm.rec (motive_2 := fun l => ∀ t, t ∈ l → SzC t) with
 | mk op nm N ty l ih =>
  intro w ok tk kk hN hk hm
  obtain ⟨a, n, cp, rfl⟩ := hk.slice
  obtain ⟨ma, mn, mc, rfl⟩ := hm.slice
  have hn : mn = l.length := hm.len
  subst hn
  have hm' : TmL ok w l (.slice ma l.length mc) := hm
  rw [tmN, tmD]
  rw [tmN] at hN
  cases l with
  | nil => exact size_leaf
  | cons t l =>
   cases hm' with
   | mk K M hne hb hcap hcell hkk hmm => exact size_mk ih (by omega) K M hb hcell hkk hmm
 | nil => rename_i t h; cases h
 | cons t l iht ihl => rename_i u hu; rcases List.mem_cons.1 hu with rfl | hu
                       ·exact iht
                       ·exact ihl u hu
def DpC (t : Tm) : Prop := ∀ (w : World) (ok : Nat → Prop) (tk kk : Value), tmN t ≤ 100000 → TyL ok w t.ty.kids tk → TmL ok w t.kids kk →
 Calls Tryz.prog 143 #[tmVal t tk kk] w fun e w' => e = .returned (.int .i64 (tmD t)) ∧ Kept (fun _ => False) w w'
theorem depth_leaf {op : Int} {nm : ByteArray} {N : Int} {k : Int} {tnm : ByteArray} {a : Option Addr} {n c' : Nat} {ma : Option Addr} {mc : Nat} {w : World} :
  Calls Tryz.prog 143 #[.agg #[.int .i64 op, .string nm, .int .i64 N, .int .i64 k, .string tnm, .slice a n c', .slice ma 0 mc]] w fun e w' => e = .returned (.int .i64 1) ∧ Kept (fun _ => False) w w' := by
 have K1 : Kept (fun _ => False) w (w.alloc (.cells #[.int .i64 op, .string nm, .int .i64 N, .int .i64 k, .string tnm, .slice a n c', .slice ma 0 mc] 28)) := (Kept.refl _ _).alloc _
 go_enter Tryz.func143, Tryz.ntmps143
 go_wp2_with fail
 go_loop [4, 3] (fun i d => i = .int .i64 0 ∧ d = .int .i64 0) (fun i _ => 0)
 case atStart => exact ⟨rfl, rfl⟩
 case round =>
  obtain ⟨rfl, rfl⟩ := hrel
  go_wp2_with fail
  go_ret
  exact ⟨rfl, K1⟩
theorem depth_mk {ok : Nat → Prop} {op : Int} {nm : ByteArray} {N : Int} {k : Int} {tnm : ByteArray} {l : List Tm} {a : Option Addr} {n c' : Nat} {b off mc : Nat} {w : World} (IH : ∀ t, t ∈ l → DpC t) (hN : tmNs l ≤ 100000) (K M : Nat → Value) (hb : ok b)
  (hcell : ∀ i (h : i < l.length), w.cell? ⟨b, off + i * 7, none⟩ = some (.int .i64 l[i].op) ∧ w.cell? ⟨b, off + i * 7 + 1, none⟩ = some (.string l[i].name) ∧ w.cell? ⟨b, off + i * 7 + 2, none⟩ = some (.int .i64 l[i].n) ∧ w.cell? ⟨b, off + i * 7 + 3, none⟩ = some (.int .i64 l[i].ty.kind) ∧ w.cell? ⟨b, off + i * 7 + 4, none⟩ = some (.string l[i].ty.name) ∧ w.cell? ⟨b, off + i * 7 + 5, none⟩ = some (K i) ∧ w.cell? ⟨b, off + i * 7 + 6, none⟩ = some (M i))
  (hkk : ∀ i (h : i < l.length), TyL ok w l[i].ty.kids (K i)) (hm : ∀ i (h : i < l.length), TmL ok w l[i].kids (M i)) :
  Calls Tryz.prog 143 #[.agg #[.int .i64 op, .string nm, .int .i64 N, .int .i64 k, .string tnm, .slice a n c', .slice (some ⟨b, off, none⟩) l.length mc]] w fun e w' => e = .returned (.int .i64 ((tmDs l + 1 : Nat) : Int)) ∧ Kept (fun _ => False) w w' := by
 have K1 : Kept (fun _ => False) w (w.alloc (.cells #[.int .i64 op, .string nm, .int .i64 N, .int .i64 k, .string tnm, .slice a n c', .slice (some ⟨b, off, none⟩) l.length mc] 28)) := (Kept.refl _ _).alloc _
 have bA : Blk (w.alloc (.cells #[.int .i64 op, .string nm, .int .i64 N, .int .i64 k, .string tnm, .slice a n c', .slice (some ⟨b, off, none⟩) l.length mc] 28)) w.heap.size 28 [.int .i64 op, .string nm, .int .i64 N, .int .i64 k, .string tnm, .slice a n c', .slice (some ⟨b, off, none⟩) l.length mc] := Blk.new w 28 _
 have HIH := Ld IH
 have HC := Ld hcell
 have HK := Ld hkk
 have HM := Ld hm
 have hlen := tmNs_len l
 have hl9 : (l.length : Int) < 100001 := by omega
 have HNN := Ld hN
 have HD : Hid (∀ j, tmDs (l.take j) ≤ tmNs (l.take j)) := Ld (fun j => by
  have : ∀ m : List Tm, tmDs m ≤ tmNs m := by
   intro m
   induction m with
   | nil => simp [tmDs, tmNs]
   | cons t m ih => have := tmD_le t; simp only [tmDs, tmNs]; omega
  exact this _)
 clear IH hcell hkk hm hN hlen
 go_enter Tryz.func143, Tryz.ntmps143
 go_wp2_with fail
 generalize w.alloc (.cells #[.int .i64 op, .string nm, .int .i64 N, .int .i64 k, .string tnm, .slice a n c', .slice (some ⟨b, off, none⟩) l.length mc] 28) = w1 at *
 go_loopw [4, 3] (fun i d wr => ∃ j : Nat, j ≤ l.length ∧ i = .int .i64 j ∧ d = .int .i64 (tmDs (l.take j)) ∧ Kept (fun _ => False) w1 wr) (fun i _ _ => l.length - (intOf i).toNat)
 case atStart => exact ⟨0, Nat.zero_le _, rfl, rfl, Kept.refl _ _⟩
 case round =>
  obtain ⟨j, hj, rfl, rfl, kr⟩ := hrel
  have bR := bA.kept kr (fun h => h)
  have g2 : wr.cell? ⟨w.heap.size, 6, none⟩ = some (.slice (some ⟨b, off, none⟩) l.length mc) := bR.cell 6
  by_cases hlt : j < l.length
  ·have KR := K1.trans kr
   have c0 := (Same.of_kept (ok := ok) KR (fun k h e => e)).cell hb (HC.out j hlt).1
   have c1 := (Same.of_kept (ok := ok) KR (fun k h e => e)).cell hb (HC.out j hlt).2.1
   have c2 := (Same.of_kept (ok := ok) KR (fun k h e => e)).cell hb (HC.out j hlt).2.2.1
   have c3 := (Same.of_kept (ok := ok) KR (fun k h e => e)).cell hb (HC.out j hlt).2.2.2.1
   have c4 := (Same.of_kept (ok := ok) KR (fun k h e => e)).cell hb (HC.out j hlt).2.2.2.2.1
   have c5 := (Same.of_kept (ok := ok) KR (fun k h e => e)).cell hb (HC.out j hlt).2.2.2.2.2.1
   have c6 := (Same.of_kept (ok := ok) KR (fun k h e => e)).cell hb (HC.out j hlt).2.2.2.2.2.2
   obtain ⟨ta, tn, tc, hKj⟩ := (HK.out j hlt).slice
   obtain ⟨ua, un, uc, hMj⟩ := (HM.out j hlt).slice
   have hkk := (HK.out j hlt).frame (Same.of_kept (ok := ok) KR (fun k h e => e))
   have hmm := (HM.out j hlt).frame (Same.of_kept (ok := ok) KR (fun k h e => e))
   rw [hKj] at c5 hkk
   rw [hMj] at c6 hmm
   have hs1 := tmNs_snoc l j hlt
   have hs2 := tmDs_snoc l j hlt
   have hs3 := tmNs_take l (j + 1)
   have hs4 := HD.out j
   have hs5 := tmD_le l[j]
   have hs6 := HNN.out
   have hcon := Ld (HIH.out _ (List.getElem_mem hlt) wr ok _ _ (by omega) hkk hmm)
   clear hkk hmm hKj hMj
   have hj2 : (j : Int) < (l.length : Int) := by omega
   have HS2 := Ld hs2
   have b3 : (tmDs (l.take j) : Int) < 100001 := by omega
   have b4 : (tmD l[j] : Int) < 100001 := by omega
   clear hs1 hs2 hs3 hs4 hs5 hs6
   unfold tmVal at hcon
   go_wp2_with (go_at_call 143; refine hcon.out.mono ?_; rintro e w' ⟨rfl, k2⟩)
   go_roundw
   case rel =>
    refine ⟨j + 1, by omega, by go_num, ?_, kr.trans k2⟩
    rw [HS2.out]; congr 1; omega
   case measure => simp [intOf]; omega
  ·have e1 : l.take j = l := List.take_of_length_le (by omega)
   have hs4 := HD.out l.length
   rw [List.take_length] at hs4
   have hs6 := HNN.out
   rw [e1] at *
   have b2 : (tmDs l : Int) + 1 < 100002 := by omega
   clear hs4 hs6
   go_wp2_with fail
   go_ret
   exact ⟨rfl, K1.trans kr⟩
theorem depth_any (t : Tm) : DpC t := by
 induction t using Tm.rec (motive_2 := fun l => ∀ t, t ∈ l → DpC t) with
 | mk op nm N ty l ih =>
  intro w ok tk kk hN hk hm
  obtain ⟨a, n, cp, rfl⟩ := hk.slice
  obtain ⟨ma, mn, mc, rfl⟩ := hm.slice
  have hn : mn = l.length := hm.len
  subst hn
  have hm' : TmL ok w l (.slice ma l.length mc) := hm
  rw [tmD]
  rw [tmN] at hN
  cases l with
  | nil => exact depth_leaf
  | cons t l =>
   cases hm' with
   | mk K M hne hb hcap hcell hkk hmm => exact depth_mk ih (by omega) K M hb hcell hkk hmm
 | nil => rename_i t h; cases h
 | cons t l iht ihl => rename_i u hu; rcases List.mem_cons.1 hu with rfl | hu
                       ·exact iht
                       ·exact ihl u hu
def szA (t : Tm) : Int := if validB t then tmN t else 0
def szB (t : Tm) : Int := if validB t then tmD t else 0
theorem rsize_of {ok : Nat → Prop} {w : World} {t : Tm} {a : Option Addr} {n c : Nat} {ma : Option Addr} {mn mc : Nat} (hk : TyL ok w t.ty.kids (.slice a n c)) (hm : TmL ok w t.kids (.slice ma mn mc)) (hs : SmTm big t) :
  Calls Tryz.prog 90 #[.agg #[.int .i64 t.op, .string t.name, .int .i64 t.n, .int .i64 t.ty.kind, .string t.ty.name, .slice a n c, .slice ma mn mc]] w fun e w' => e = .returned (.tuple #[.int .i64 (szA t), .int .i64 (szB t)]) ∧ Kept (fun _ => False) w w' := by
 have K1 : Kept (fun _ => False) w (w.alloc (.cells #[.int .i64 t.op, .string t.name, .int .i64 t.n, .int .i64 t.ty.kind, .string t.ty.name, .slice a n c, .slice ma mn mc] 28)) := (Kept.refl _ _).alloc _
 have bA : Blk (w.alloc (.cells #[.int .i64 t.op, .string t.name, .int .i64 t.n, .int .i64 t.ty.kind, .string t.ty.name, .slice a n c, .slice ma mn mc] 28)) w.heap.size 28 (tmCells t (.slice a n c) (.slice ma mn mc)) := Blk.new w 28 _
 have hk2 := hk.frame (Same.of_kept (ok := ok) K1 (fun k h e => e))
 have hm2 := hm.frame (Same.of_kept (ok := ok) K1 (fun k h e => e))
 have HV := Ld (rnodes_any hs _ ok 0 1 _ _ (by decide) (by decide) (by decide) hk2 hm2)
 have HW := Ld (fun W (k : Kept (fun _ => False) (w.alloc (.cells #[.int .i64 t.op, .string t.name, .int .i64 t.n, .int .i64 t.ty.kind, .string t.ty.name, .slice a n c, .slice ma mn mc] 28)) W) (h : tmN t ≤ 100000) => depth_any t W ok _ _ h (hk2.frame (Same.of_kept (ok := ok) k (fun k h e => e))) (hm2.frame (Same.of_kept (ok := ok) k (fun k h e => e))))
 unfold tmVal at HW HV
 clear hk2 hm2
 cases hv : validB t
 ·have e1 : Hid (szA t = 0 ∧ szB t = 0) := Ld (by unfold szA szB; rw [hv]; exact ⟨rfl, rfl⟩)
  have e2 : tdR (fS 2000 64 t 1 0) = -1 := by unfold tdR; rw [show (fS 2000 64 t 1 0).1 = false from hv]; rfl
  rw [e2] at HV
  clear e2
  go_enter Tryz.func90, Tryz.ntmps90
  go_wp2_with fail
  refine HV.out.mono ?_
  rintro e w1 ⟨rfl, k1⟩
  go_wp2_with fail
  go_ret2
  exact ⟨by rw [e1.out.1, e1.out.2]; rfl, K1.trans k1⟩
 ·have e1 : Hid (szA t = tmN t ∧ szB t = tmD t) := Ld (by unfold szA szB; rw [hv]; exact ⟨rfl, rfl⟩)
  have hz := (valid_sz hv).2
  have HZ := Ld (show tmN t ≤ 100000 by omega)
  have e2 : tdR (fS 2000 64 t 1 0) = (tmN t : Int) := by unfold tdR; rw [show (fS 2000 64 t 1 0).1 = true from hv, if_pos rfl, (valid_sz hv).1]
  rw [e2] at HV
  have i5 : decide ((tmN t : Int) < 0) = false := decide_eq_false (by omega)
  clear hz e2
  go_enter Tryz.func90, Tryz.ntmps90
  go_wp2_with fail
  refine HV.out.mono ?_
  rintro e w1 ⟨rfl, k1⟩
  have gA : ∀ i, w1.cell? ⟨w.heap.size, i, none⟩ = (tmCells t (.slice a n c) (.slice ma mn mc))[i]? := (bA.kept k1 (fun h => h)).cell
  unfold tmCells at gA
  have HS := Ld (HW.out w1 k1 HZ.out)
  go_wp2_with fail
  refine HS.out.mono ?_
  rintro e w2 ⟨rfl, k2⟩
  go_wp2_with fail
  go_ret2
  exact ⟨by rw [e1.out.1, e1.out.2]; rfl, (K1.trans k1).trans k2⟩
theorem f_iff (most deep : Nat) (hmo : most ≤ 100000) : ∀ (t : Tm) (d c : Nat), c ≤ most → d ≤ deep + 1 → ((fS most deep t d c).1 = true ↔ OkTm t ∧ c + tmN t ≤ most ∧ d + tmD t ≤ deep + 1) := by
 intro t
 induction t using Tm.rec (motive_2 := fun l => ∀ (d c : Nat), c ≤ most → d ≤ deep + 1 → ((fsS most deep l d c).1 = true ↔ (∀ t, t ∈ l → OkTm t) ∧ c + tmNs l ≤ most ∧ d + tmDs l ≤ deep + 1)) with
 | mk op nm N ty l ih =>
  intro d c hc hd
  rw [f_eq, tmN, tmD]
  by_cases hb : ((decide (c + 1 ≤ most) && decide (d ≤ deep)) && formedB op nm N ty l.length) = true
  ·rw [if_pos hb]
   simp only [Bool.and_eq_true, decide_eq_true_eq] at hb
   rw [ih (d + 1) (c + 1) hb.1.1 (by omega)]
   have hl := tmNs_len l
   constructor
   ·rintro ⟨h1, h2, h3⟩
    exact ⟨.mk hb.2 (by omega) h1, by omega, by omega⟩
   ·rintro ⟨h1, h2, h3⟩
    cases h1 with
    | mk _ _ h1 => exact ⟨h1, by omega, by omega⟩
  ·rw [if_neg hb]
   constructor
   ·intro h; cases h
   ·rintro ⟨h1, h2, h3⟩
    exfalso
    apply hb
    simp only [Bool.and_eq_true, decide_eq_true_eq]
    exact ⟨⟨by omega, by omega⟩, h1.formed⟩
 | nil =>
  rename_i d c hc hd
  constructor
  ·intro _
   refine ⟨?_, ?_, ?_⟩
   ·intro t h; cases h
   ·show c + 0 ≤ most; omega
   ·show d + 0 ≤ deep + 1; omega
  ·intro _; rfl
 | cons t l iht ihl =>
  rename_i d c hc hd
  rw [fsS, tmNs, tmDs]
  have ht := iht d c hc hd
  cases hr : fS most deep t d c with
  | mk b c' =>
   rw [hr] at ht
   cases b
   ·simp only [Bool.false_eq_true, false_iff] at ht
    constructor
    ·intro h; cases h
    ·rintro ⟨h1, h2, h3⟩
     exact (ht ⟨h1 t (by simp), by omega, by omega⟩).elim
   ·have hs := f_sz most deep t d c (by rw [hr])
    rw [hr] at hs
    simp only [true_iff] at ht
    have hs : c' = c + tmN t := hs
    show (fsS most deep l d c').1 = true ↔ _
    rw [ihl d c' (by omega) hd, hs]
    constructor
    ·rintro ⟨h1, h2, h3⟩
     refine ⟨fun u hu => ?_, by omega, by omega⟩
     rcases List.mem_cons.1 hu with rfl | hu
     ·exact ht.1
     ·exact h1 u hu
    ·rintro ⟨h1, h2, h3⟩
     exact ⟨fun u hu => h1 u (List.mem_cons_of_mem _ hu), by omega, by omega⟩
theorem valid_iff (t : Tm) : validB t = true ↔ OkTm t ∧ tmN t ≤ 2000 ∧ tmD t ≤ 64 := by
 unfold validB
 rw [f_iff 2000 64 (by decide) t 1 0 (by decide) (by decide)]
 constructor
 ·rintro ⟨a, b, c⟩; exact ⟨a, by omega, by omega⟩
 ·rintro ⟨a, b, c⟩; exact ⟨a, by omega, by omega⟩
theorem OkTm.kid {t u : Tm} (h : OkTm t) (hu : u ∈ t.kids) : OkTm u := by cases h with | mk _ _ hl => exact hl u hu
theorem zero_ty {t : Ty} (h : zeroTyB t = true) : t = ty0 := by
 obtain ⟨k, nm, l⟩ := t
 unfold zeroTyB at h
 simp only [Bool.and_eq_true, Ty.kind, Ty.name, Ty.kids, beq_iff_eq] at h
 obtain ⟨⟨h1, h2⟩, h3⟩ := h
 rw [Go.ByteArray.toList_eq] at h2
 have e : nm = ⟨#[]⟩ := ByteArray.ext (Array.toList_inj.1 h2)
 rw [h1, e, List.isEmpty_iff.1 h3]; rfl
theorem OkTm.nw : ∀ {t : Tm}, OkTm t → NW t := by
 intro t h
 induction h with
 | mk h hn hl ih =>
  refine .mk (fun e => ?_) ih
  subst e
  obtain ⟨h1, h2, h3, h4⟩ := formed_parts h
  refine ⟨?_, ?_, ?_⟩
  ·unfold nOk at h3; simpa using h3
  ·unfold tyOk at h4
   rw [if_neg (by decide)] at h4
   exact zero_ty h4
  ·unfold kidOk at h1
   have e : kidsN 20 = (0, true) := rfl
   rw [e] at h1
   simp at h1
   exact h1
theorem binder_ne {op : Int} (h : binderB op = true) : op ≠ 20 ∧ op ≠ 19 ∧ op ≠ 29 ∧ op ≠ 28 := by
 unfold binderB at h
 simp only [Bool.or_eq_true, beq_iff_eq] at h
 omega
theorem binder_kids {op : Int} (h : binderB op = true) {n : Nat} (hk : kidOk op n = true) : n = 2 := by
 unfold binderB at h
 simp only [Bool.or_eq_true, beq_iff_eq] at h
 have e : kidsN op = (2, true) := by
  rcases h with ((h | h) | h) | h <;> subst h <;> rfl
 unfold kidOk at hk
 rw [e] at hk
 simp at hk; omega
theorem formed_name2 {op : Int} {nm z : ByteArray} {N : Int} {ty : Ty} {n : Nat} (h : formedB op nm N ty n = true) (hb : binderB op = true) (hz : identB z = true) : formedB op z N ty n = true := by
 obtain ⟨h1, h2, h3, h4⟩ := formed_parts h
 unfold formedB
 rw [h1, h3, h4]
 unfold nmOk
 rw [if_neg (binder_ne hb).1, if_pos hb, hz]; rfl
theorem formed_ident {op : Int} {nm : ByteArray} {N : Int} {ty : Ty} {n : Nat} (h : formedB op nm N ty n = true) (hb : binderB op = true) : identB nm = true := by
 obtain ⟨h1, h2, h3, h4⟩ := formed_parts h
 unfold nmOk at h2
 rw [if_neg (binder_ne hb).1, if_pos hb] at h2; exact h2
theorem nameT_ok {s : ByteArray} (h : namedB s = true) : OkTm (nameT s) := by
 unfold nameT
 refine .mk ?_ (by simp) (fun t ht => by cases ht)
 unfold formedB nmOk
 rw [if_pos rfl, h]; kernel_rfl
theorem subK_len (FS : ByteArray → List ByteArray → ByteArray) (bi : Bool) (l inn : List (ByteArray × Tm)) : ∀ (ks : List Tm) (i : Nat), (subK FS bi l inn i ks).length = ks.length
 | [], i => rfl
 | t :: r, i => by rw [subK, List.length_cons, subK_len FS bi l inn r, List.length_cons]
def OkB (l : List (ByteArray × Tm)) : Prop := ∀ b ∈ l, OkTm b.2
theorem look_mem {l : List (ByteArray × Tm)} {s : ByteArray} {u : Tm} (h : look l s = some u) : ∃ b ∈ l, b.2 = u := by
 induction l with
 | nil => cases h
 | cons b l ih =>
  rw [look] at h
  by_cases hb : b.1 = s
  ·rw [if_pos hb] at h; cases h; exact ⟨b, by simp, rfl⟩
  ·rw [if_neg hb] at h; obtain ⟨c, hc, e⟩ := ih h; exact ⟨c, List.mem_cons_of_mem _ hc, e⟩
theorem remG_mem (x : ByteArray) (F : List ByteArray) : ∀ (l out : List (ByteArray × Tm)) (b : ByteArray × Tm), b ∈ remG x F out l → b ∈ out ∨ b ∈ l
 | [], out, b, h => Or.inl h
 | c :: l, out, b, h => by
  rw [remG] at h
  split at h
  ·rcases remG_mem x F l out b h with h | h
   ·exact Or.inl h
   ·exact Or.inr (List.mem_cons_of_mem _ h)
  ·rcases remG_mem x F l _ b h with h | h
   ·rcases List.mem_append.1 h with h | h
    ·exact Or.inl h
    ·rw [List.mem_singleton.1 h]; exact Or.inr (by simp)
   ·exact Or.inr (List.mem_cons_of_mem _ h)
theorem remL_mem {x : ByteArray} {F : List ByteArray} {l : List (ByteArray × Tm)} {b : ByteArray × Tm} (h : b ∈ remL l x F) : b ∈ l := by
 rcases remG_mem x F l [] b h with h | h
 ·cases h
 ·exact h
theorem newN_ident {x : ByteArray} {body : Tm} {l : List (ByteArray × Tm)} (hx : identB x = true) (hM : tmN body + (frB l).length ≤ 800000) : identB (newN freshS x body l) = true := by
 unfold newN
 split
 ·refine freshS_ident hx ?_
  rw [List.length_append]
  have := frs_len body
  have := remL_len x (fr body) l
  omega
 ·exact hx
theorem inner_okB {x : ByteArray} {body : Tm} {l : List (ByteArray × Tm)} (hx : identB x = true) (hM : tmN body + (frB l).length ≤ 800000) (hl : OkB l) : OkB (inner freshS x body l) := by
 have hr : OkB (remL l x (fr body)) := fun b hb => hl b (remL_mem hb)
 unfold inner
 split
 ·intro b hb
  rcases List.mem_append.1 hb with hb | hb
  ·exact hr b hb
  ·rw [List.mem_singleton.1 hb]; exact nameT_ok (ident_named (newN_ident hx hM))
 ·exact hr
theorem sub_ok : ∀ {t : Tm}, OkTm t → ∀ (l : List (ByteArray × Tm)), OkB l → tmN t + (frB l).length ≤ 800000 → OkTm (subT freshS t l) := by
 intro t
 induction t using Tm.rec (motive_2 := fun ks => ∀ (bi : Bool) (l inn : List (ByteArray × Tm)) (i : Nat), (∀ t ∈ ks, OkTm t) → OkB l → tmNs ks + (frB l).length ≤ 800000 → (∀ (j : Nat) (t : Tm), ks[j]? = some t → (bi && (i + j) == 1) = true → OkB inn ∧ tmN t + (frB inn).length ≤ 800000) → ∀ u ∈ subK freshS bi l inn i ks, OkTm u) with
 | mk op nm N ty ks ih =>
  intro h l hl hM
  have h0 := h
  cases h with
  | mk hf hn hk =>
   rw [tmN] at hM
   rw [subT]
   by_cases h20 : op = 20
   ·rw [if_pos h20]
    cases hq : look l nm with
    | none => exact h0
    | some u => obtain ⟨b, hb, e⟩ := look_mem hq; rw [← e]; exact hl b hb
   ·rw [if_neg h20]
    cases hb : binderB op
    ·simp only [Bool.false_eq_true, if_false]
     refine .mk (by rw [subK_len]; exact hf) (by rw [subK_len]; exact hn) (ih false l l 0 hk hl (by omega) (fun j t _ e => by cases e))
    ·simp only [if_true]
     have hid := formed_ident hf hb
     have e2 := binder_kids hb (formed_parts hf).1
     match ks, e2 with
     | [d, body], _ =>
      have eg : ([d, body] : List Tm).getD 1 (nameT nm) = body := rfl
      rw [eg]
      simp only [tmNs] at hM
      refine .mk (by rw [subK_len]; exact formed_name2 hf hb (newN_ident hid (by omega))) (by rw [subK_len]; exact hn) (ih true l _ 0 hk hl (by simp only [tmNs]; omega) (fun j t hj e => ?_))
      have hj1 : j = 1 := by simpa using e
      subst hj1
      have hj2 : body = t := by simpa using hj
      subst hj2
      exact ⟨inner_okB hid (by omega) hl, by have := inner_len freshS nm body l; omega⟩
 | nil => rename_i u hu; cases hu
 | cons t ks iht ihl =>
  rename_i bi l inn i hk hl hM hin u hu
  rw [tmNs] at hM
  rw [subK] at hu
  rcases List.mem_cons.1 hu with rfl | hu
  ·cases hb : (bi && i == 1)
   ·simp only [Bool.false_eq_true, if_false]; exact iht (hk t (by simp)) l hl (by omega)
   ·simp only [if_true]
    obtain ⟨h1, h2⟩ := hin 0 t rfl (by rw [Nat.add_zero]; exact hb)
    exact iht (hk t (by simp)) inn h1 h2
  ·exact ihl bi l inn (i + 1) (fun t ht => hk t (List.mem_cons_of_mem _ ht)) hl (by omega) (fun j t hj e => hin (j + 1) t (by simpa using hj) (by rw [show i + (j + 1) = i + 1 + j by omega]; exact e)) u hu
theorem sub_nil (FS : ByteArray → List ByteArray → ByteArray) : ∀ (t : Tm), subT FS t [] = t := by
 have hr : ∀ x F, remL [] x F = [] := fun x F => rfl
 have hi : ∀ x body, inner FS x body [] = [] := fun x body => by
  unfold inner; rw [hr]; rfl
 have hn : ∀ x body, newN FS x body [] = x := fun x body => by
  unfold newN; rw [hr]; rfl
 intro t
 induction t using Tm.rec (motive_2 := fun ks => ∀ (bi : Bool) (i : Nat), subK FS bi [] [] i ks = ks) with
 | mk op nm N ty ks ih =>
  rw [subT]
  split
  ·rfl
  ·split
   ·rw [hi, hn, ih]
   ·rw [ih]
 | nil => rfl
 | cons t ks iht ihl =>
  rename_i bi i
  rw [subK, ihl]
  have e : (if (bi && i == 1) = true then ([] : List (ByteArray × Tm)) else []) = [] := by split <;> rfl
  rw [e, iht]
theorem valid_of {t : Tm} (h : OkTm t) : validB t = (decide (tmN t ≤ 2000) && decide (tmD t ≤ 64)) := by
 rw [Bool.eq_iff_iff, valid_iff, Bool.and_eq_true, decide_eq_true_eq, decide_eq_true_eq]
 exact ⟨fun ⟨_, a, b⟩ => ⟨a, b⟩, fun ⟨a, b⟩ => ⟨h, a, b⟩⟩
theorem valid_db {t u : Tm} (ht : OkTm t) (hu : OkTm u) (h : dbT t = dbT u) : validB t = validB u := by
 rw [valid_of ht, valid_of hu, db_size ht.nw hu.nw h, db_depth ht.nw hu.nw h]
theorem ident_sz {s : ByteArray} (h : identB s = true) : s.size ≤ 16 := by
 unfold identB at h
 simp only [Bool.and_eq_true, decide_eq_true_eq] at h
 omega
theorem named_sz {s : ByteArray} (h : namedB s = true) : s.size ≤ 17 := by
 unfold namedB at h
 have h1 := ident_sz h
 rcases trim_parts s with ⟨_, h2, h3⟩ | ⟨_, h2⟩
 ·rw [h3] at h1
  have : s.size ≤ (s.extract 0 (s.size - 1)).size + 1 := by simp [ByteArray.size_extract]; omega
  omega
 ·rw [h2] at h1; omega
theorem head_sz {k : Int} {nm : ByteArray} {n : Nat} {wi : Bool} (h : tyHead k nm n wi = true) : nm.size ≤ 17 := by
 have key : ∀ {s : ByteArray}, (s.toList == []) = true → s.size ≤ 17 := by
  intro s h
  rw [beq_iff_eq, Go.ByteArray.toList_eq] at h
  cases s with | mk a => simp at h; rw [h]; decide
 unfold tyHead at h
 split at h
 ·rw [Bool.and_eq_true] at h; exact key h.2
 ·split at h
  ·rw [Bool.and_eq_true] at h; exact key h.2
  ·split at h
   ·rw [Bool.and_eq_true] at h; have := ident_sz h.1; omega
   ·split at h
    ·rw [Bool.and_eq_true] at h; exact key h.2
    ·split at h
     ·rw [Bool.and_eq_true] at h; exact key h.2
     ·cases h
theorem tf_sm (most deep : Nat) : ∀ (t : Ty) (d : Nat) (wi : Bool) (c : Nat), (tfS most deep t d wi c).1 = true → SmTy big t := by
 intro t
 induction t using Ty.rec (motive_2 := fun l => ∀ (d c : Nat), (tfsS most deep l d c).1 = true → ∀ t, t ∈ l → SmTy big t) with
 | mk k nm l ih =>
  intro d wi c h
  rw [tf_eq] at h
  split at h
  ·rename_i hb
   have hh : tyHead k nm l.length wi = true := by simp at hb; exact hb.2
   have := head_sz hh
   exact .mk (by unfold big; omega) (ih _ _ h)
  ·cases h
 | nil => rename_i d c h t ht; cases ht
 | cons t l iht ihl =>
  rename_i d c h t' h'
  rw [tfsS] at h
  cases hr : tfS most deep t d true c with
  | mk b c' =>
   cases b
   ·rw [hr] at h; cases h
   ·rw [hr] at h
    rcases List.mem_cons.1 h' with rfl | h'
    ·exact iht d true c (by rw [hr])
    ·exact ihl d c' h t' h'
theorem formed_sm {op : Int} {nm : ByteArray} {N : Int} {ty : Ty} {n : Nat} (h : formedB op nm N ty n = true) : nm.size ≤ 17 ∧ SmTy big ty := by
 obtain ⟨_, h2, _, h4⟩ := formed_parts h
 constructor
 ·unfold nmOk at h2
  split at h2
  ·exact named_sz h2
  ·split at h2
   ·have := ident_sz h2; omega
   ·have : nm = ⟨#[]⟩ := by
     rw [beq_iff_eq] at h2
     rw [Go.ByteArray.toList_eq] at h2
     cases nm with | mk a => simp at h2; rw [h2]
    rw [this]; decide
 ·unfold tyOk at h4
  split at h4
  ·rw [Bool.and_eq_true] at h4
   exact tf_sm 16 6 ty 1 false 0 h4.2
  ·rw [zero_ty h4]; exact .mk (by decide) (fun t h => by cases h)
theorem ok_sm {t : Tm} (h : OkTm t) : SmTm big t := by
 induction h with
 | mk h hn hl ih => exact .mk (by have := (formed_sm h).1; unfold big; omega) (formed_sm h).2 ih
theorem ok_bd {t : Tm} (h : OkTm t) : BdTm t := by
 induction h with
 | mk h hn hl ih => exact .mk (by omega) (formed_bd h) ih
theorem ok_name {op : Int} {nm : ByteArray} {N : Int} {ty : Ty} {ks : List Tm} (h : OkTm (.mk op nm N ty ks)) : nm.size ≤ 17 := (formed_sm h.formed).1
abbrev E2 := Ty × Value
def tyCells (t : Ty) (tk : Value) : List Value := [.int .i64 t.kind, .string t.name, tk]
def flatY : List E2 → List Value
 | [] => []
 | e :: E => tyCells e.1 e.2 ++ flatY E
def ELY (ok : Nat → Prop) (w : World) (E : List E2) : Prop := ∀ e ∈ E, TyL ok w e.1.kids e.2
theorem flatY_snoc : ∀ (E : List E2) (e : E2), flatY (E ++ [e]) = flatY E ++ tyCells e.1 e.2
 | [], e => by simp [flatY]
 | x :: E, e => by rw [List.cons_append, flatY, flatY_snoc E e, flatY, List.append_assoc]
theorem flatY_get : ∀ (E : List E2) (i j : Nat) (h : i < E.length), j < 3 → (flatY E)[i * 3 + j]? = (tyCells E[i].1 E[i].2)[j]?
 | e :: E, 0, j, _, hj => by
  rw [flatY, Nat.zero_mul, Nat.zero_add, List.getElem?_append_left (by show j < 3; exact hj)]; rfl
 | e :: E, i + 1, j, h, hj => by
  rw [flatY, List.getElem?_append_right (by show 3 ≤ _; omega)]
  have := flatY_get E i j (by simpa using h) hj
  rw [show (i + 1) * 3 + j - (tyCells e.1 e.2).length = i * 3 + j by show (i + 1) * 3 + j - 3 = _; omega, this]
  rfl
theorem tyl_of_row {ok : Nat → Prop} {w : World} {base : Nat} {v : Value} {E : List E2} (hown : w.ownsRow base 26 3 v E.length (flatY E)) (hl : ELY ok w E) (hok : ∀ g, v.ownBlock = some g → ok g) : TyL ok w (E.map (·.1)) v := by
 obtain ⟨_, hv⟩ := hown
 rcases hv with ⟨hv, hn⟩ | ⟨g, cap, cur, rfl, hbg, hg, hnc, hcm, hcs, htake⟩
 ·have : E = [] := List.length_eq_zero_iff.1 hn
  subst this
  rw [hv]; exact .nil (Or.inl rfl)
 ·by_cases hE : E = []
  ·subst hE; exact .nil (Or.inr ⟨_, _, rfl⟩)
  have hb : Blk w g 26 cur.toList := by show w.heap[g]? = _; rw [hg]
  have hc : ∀ i j, i < E.length → j < 3 → w.cell? ⟨g, 0 + i * 3 + j, none⟩ = (flatY E)[i * 3 + j]? := by
   intro i j hi hj
   rw [hb.cell, ← htake, List.getElem?_take, if_pos (by omega), Nat.zero_add]
  have := TyL.mk (ok := ok) (w := w) (l := E.map (·.1)) (b := g) (off := 0) (cap := cap) (fun i => (E.getD i (ty0, undef)).2) (by simpa using hE) (hok g rfl) (by simpa using hnc) (fun i h => ?_) (fun i h => ?_)
  ·rw [List.length_map] at this; exact this
  all_goals
   have hi : i < E.length := by simpa using h
   have e1 : (E.map (·.1))[i] = E[i].1 := List.getElem_map ..
   have e2 : E.getD i (ty0, undef) = E[i] := by rw [List.getD_eq_getElem?_getD, List.getElem?_eq_getElem hi]; rfl
   rw [e1]
   try rw [e2]
  ·exact ⟨(hc i 0 hi (by omega)).trans (flatY_get E i 0 hi (by omega)), (hc i 1 hi (by omega)).trans (flatY_get E i 1 hi (by omega)), (hc i 2 hi (by omega)).trans (flatY_get E i 2 hi (by omega))⟩
  ·exact hl _ (List.getElem_mem hi)
theorem ELY.frame {ok : Nat → Prop} {w w' : World} {E : List E2} (h : ELY ok w E) (hs : Same ok w w') : ELY ok w' E := fun e he => (h e he).frame hs
theorem ELY.mono {ok ok' : Nat → Prop} {w : World} {E : List E2} (h : ELY ok w E) (ho : ∀ k, k < w.heap.size → ok k → ok' k) : ELY ok' w E := fun e he => (h e he).mono ho
theorem ELY.snoc {ok : Nat → Prop} {w : World} {E : List E2} {e : E2} (h : ELY ok w E) (ha : TyL ok w e.1.kids e.2) : ELY ok w (E ++ [e]) := by
 intro x hx
 rcases List.mem_append.1 hx with hx | hx
 ·exact h x hx
 ·rw [List.mem_singleton.1 hx]; exact ha
theorem own_keptT {S : Nat → Prop} {T sz : Nat} {w w' : World} {base : Nat} {v : Value} {n : Nat} {xs : List Value} (h : w.ownsRow base T sz v n xs) (hk : Kept S w w') (hS : ∀ g, v.ownBlock = some g → ¬ S g) : w'.ownsRow base T sz v n xs := by
 obtain ⟨h1, h2⟩ := h
 refine ⟨h1, ?_⟩
 rcases h2 with h2 | ⟨g, cap, cur, hv, hbg, hg, r⟩
 ·exact .inl h2
 ·refine .inr ⟨g, cap, cur, hv, hbg, ?_, r⟩
  rw [hk.block g (Array.getElem?_eq_some_iff.1 hg).1 (hS g (by rw [hv]; rfl))]
  exact hg
theorem own_base {T sz : Nat} {w : World} {base base' : Nat} {v : Value} {n : Nat} {xs : List Value} (h : w.ownsRow base T sz v n xs) (hb : ∀ g, v.ownBlock = some g → base' ≤ g) : w.ownsRow base' T sz v n xs := by
 obtain ⟨h1, h2⟩ := h
 refine ⟨h1, ?_⟩
 rcases h2 with h2 | ⟨g, cap, cur, hv, hbg, r⟩
 ·exact .inl h2
 ·exact .inr ⟨g, cap, cur, hv, hb g (by rw [hv]; rfl), r⟩
theorem tml_of_row' {ok : Nat → Prop} {w : World} {base : Nat} {v : Value} {E : List E3} (hown : w.ownsRow base 28 7 v E.length (flat E)) (hl : EL ok w E) (hok : ∀ g, v.ownBlock = some g → ok g) : TmL ok w (E.map (·.1)) v := by
 by_cases hE : E = []
 ·subst hE
  rcases hown.2 with ⟨hv, _⟩ | ⟨g, cap, cur, rfl, _⟩
  ·rw [hv]; exact .nil (Or.inl rfl)
  ·exact .nil (Or.inr ⟨_, _, rfl⟩)
 ·exact tml_of_row hE hown hl hok
theorem flat_app : ∀ (E F : List E3), flat (E ++ F) = flat E ++ flat F
 | [], F => rfl
 | x :: E, F => by rw [List.cons_append, flat, flat_app E F, flat, List.append_assoc]
theorem EL.app {ok : Nat → Prop} {w : World} {E F : List E3} (h : EL ok w E) (k : EL ok w F) : EL ok w (E ++ F) := by
 intro x hx
 rcases List.mem_append.1 hx with hx | hx
 ·exact h x hx
 ·exact k x hx
theorem own_cells {w : World} {base : Nat} {T sz n m cap : Nat} {ad : Addr} {xs : List Value} (h : w.ownsRow base T sz (.slice (some ad) m cap) n xs) : ∀ j u, xs[j]? = some u → w.cell? (ad.add j) = some u := by
 intro j u hu
 rcases h.2 with ⟨hv, _⟩ | ⟨g, cap', cur, hv, hbg, hg, hnc, hcm, hcs, htake⟩
 ·cases hv
 ·cases hv
  have hj : j < n * sz := by
   have := (List.getElem?_eq_some_iff.1 hu).1
   rw [← htake] at this
   simp at this; omega
  have hb : Blk w g T cur.toList := by show w.heap[g]? = _; rw [hg]
  have e : (⟨g, 0, none⟩ : Addr).add j = ⟨g, j, none⟩ := by cases j <;> simp [Addr.add]
  rw [e, hb.cell, ← hu, ← htake, List.getElem?_take, if_pos hj]
theorem flat_one : ∀ (E : List E3), (∀ e ∈ E, (∃ a n c, e.2.1 = .slice a n c) ∧ ∃ a n c, e.2.2 = .slice a n c) → ∀ x ∈ flat E, x.oneCell' = true
 | [], _, x, hx => by cases hx
 | e :: E, h, x, hx => by
  rw [flat] at hx
  rcases List.mem_append.1 hx with hx | hx
  ·obtain ⟨⟨a, n, c, h1⟩, ⟨a', n', c', h2⟩⟩ := h e (by simp)
   unfold tmCells at hx
   simp only [List.mem_cons, List.not_mem_nil, or_false] at hx
   rcases hx with rfl | rfl | rfl | rfl | rfl | rfl | rfl <;> first | rfl | (rw [h1]; rfl) | (rw [h2]; rfl)
  ·exact flat_one E (fun e he => h e (List.mem_cons_of_mem _ he)) x hx
theorem EL.one {ok : Nat → Prop} {w : World} {E : List E3} (h : EL ok w E) : ∀ x ∈ flat E, x.oneCell' = true := flat_one E fun e he => ⟨(h e he).1.slice, (h e he).2.slice⟩
theorem TmL.row {ok : Nat → Prop} {w : World} {l : List Tm} {ad : Addr} {n c : Nat} (h : TmL ok w l (.slice (some ad) n c)) : ∃ E : List E3, E.map (·.1) = l ∧ EL ok w E ∧ E.length = n ∧ ∀ j u, (flat E)[j]? = some u → w.cell? (ad.add j) = some u := by
 generalize hv : Value.slice (some ad) n c = v at h
 cases h with
 | nil he =>
  refine ⟨[], rfl, (fun e he => by cases he), ?_, (fun j u hu => by cases hu)⟩
  rcases he with he | ⟨_, _, he⟩ <;> rw [he] at hv <;> cases hv
  rfl
 | mk K M hne hb hc hcell hk hm =>
  rename_i b off cap
  cases hv
  refine ⟨(List.range l.length).attach.map fun i => (l[i.1]'(List.mem_range.1 i.2), K i.1, M i.1), ?_, ?_, by simp, ?_⟩
  ·apply List.ext_getElem
   ·simp
   ·intro i h1 h2; simp
  ·intro e he
   rw [List.mem_map] at he
   obtain ⟨⟨i, hi⟩, _, rfl⟩ := he
   exact ⟨hk i (List.mem_range.1 hi), hm i (List.mem_range.1 hi)⟩
  ·intro j u hu
   have hj : j < l.length * 7 := by
    have := (List.getElem?_eq_some_iff.1 hu).1
    rw [flat_len] at this; simpa using this
   obtain ⟨i, r, hi, hr, rfl⟩ := seven hj
   rw [flat_get _ i r (by simpa using hi) hr] at hu
   simp only [List.getElem_map, List.getElem_attach, List.getElem_range] at hu
   have e : (⟨b, off, none⟩ : Addr).add (i * 7 + r) = ⟨b, off + i * 7 + r, none⟩ := by
    unfold Addr.add; split <;> simp_all <;> omega
   rw [e]
   have c := hcell i hi
   rcases (show r = 0 ∨ r = 1 ∨ r = 2 ∨ r = 3 ∨ r = 4 ∨ r = 5 ∨ r = 6 by omega) with rfl | rfl | rfl | rfl | rfl | rfl | rfl <;> cases hu
   ·exact c.1
   ·exact c.2.1
   ·exact c.2.2.1
   ·exact c.2.2.2.1
   ·exact c.2.2.2.2.1
   ·exact c.2.2.2.2.2.1
   ·exact c.2.2.2.2.2.2
structure C3 (w : World) (g o : Nat) (t : Ty) (tk : Value) : Prop where
 c0 : w.cell? ⟨g, o, none⟩ = some (.int .i64 t.kind)
 c1 : w.cell? ⟨g, o + 1, none⟩ = some (.string t.name)
 c2 : w.cell? ⟨g, o + 2, none⟩ = some tk
structure C7 (w : World) (g o : Nat) (t : Tm) (tk kk : Value) : Prop where
 c0 : w.cell? ⟨g, o, none⟩ = some (.int .i64 t.op)
 c1 : w.cell? ⟨g, o + 1, none⟩ = some (.string t.name)
 c2 : w.cell? ⟨g, o + 2, none⟩ = some (.int .i64 t.n)
 c3 : w.cell? ⟨g, o + 3, none⟩ = some (.int .i64 t.ty.kind)
 c4 : w.cell? ⟨g, o + 4, none⟩ = some (.string t.ty.name)
 c5 : w.cell? ⟨g, o + 5, none⟩ = some tk
 c6 : w.cell? ⟨g, o + 6, none⟩ = some kk
theorem C3.same {w W : World} {g o : Nat} {t : Ty} {tk : Value} (h : C3 w g o t tk) {ok : Nat → Prop} (hs : Same ok w W) (hg : ok g) : C3 W g o t tk :=
 ⟨hs.cell hg h.c0, hs.cell hg h.c1, hs.cell hg h.c2⟩
theorem C7.same {w W : World} {g o : Nat} {t : Tm} {tk kk : Value} (h : C7 w g o t tk kk) {ok : Nat → Prop} (hs : Same ok w W) (hg : ok g) : C7 W g o t tk kk :=
 ⟨hs.cell hg h.c0, hs.cell hg h.c1, hs.cell hg h.c2, hs.cell hg h.c3, hs.cell hg h.c4, hs.cell hg h.c5, hs.cell hg h.c6⟩
theorem C3.kept {w W : World} {g o : Nat} {t : Ty} {tk : Value} (h : C3 w g o t tk) {S : Nat → Prop} (k : Kept S w W) (hg : ¬ S g) : C3 W g o t tk := h.same (Same.of_kept (ok := (· = g)) k (fun q e => e ▸ hg)) rfl
theorem C7.kept {w W : World} {g o : Nat} {t : Tm} {tk kk : Value} (h : C7 w g o t tk kk) {S : Nat → Prop} (k : Kept S w W) (hg : ¬ S g) : C7 W g o t tk kk := h.same (Same.of_kept (ok := (· = g)) k (fun q e => e ▸ hg)) rfl
theorem TyL.at {ok : Nat → Prop} {w : World} {l : List Ty} {a : Option Addr} {n c : Nat} (h : TyL ok w l (.slice a n c)) (i : Nat) (hi : i < l.length) : ∃ g off ta tn tc, a = some ⟨g, off, none⟩ ∧ ok g ∧ g < w.heap.size ∧ C3 w g (off + i * 3) l[i] (.slice ta tn tc) ∧ TyL ok w l[i].kids (.slice ta tn tc) := by
 generalize hv : Value.slice a n c = v at h
 cases h with
 | nil he => exact absurd hi (Nat.not_lt_zero _)
 | mk K hne hb hc hcell hk =>
  cases hv
  obtain ⟨ta, tn, tc, hK⟩ := (hk i hi).slice
  exact ⟨_, _, ta, tn, tc, rfl, hb, cell_lt (hcell i hi).1, ⟨(hcell i hi).1, (hcell i hi).2.1, by rw [← hK]; exact (hcell i hi).2.2⟩, by rw [← hK]; exact hk i hi⟩
theorem TmL.at {ok : Nat → Prop} {w : World} {l : List Tm} {a : Option Addr} {n c : Nat} (h : TmL ok w l (.slice a n c)) (i : Nat) (hi : i < l.length) : ∃ g off ta tn tc ma mn mc, a = some ⟨g, off, none⟩ ∧ ok g ∧ g < w.heap.size ∧ C7 w g (off + i * 7) l[i] (.slice ta tn tc) (.slice ma mn mc) ∧ TyL ok w l[i].ty.kids (.slice ta tn tc) ∧ TmL ok w l[i].kids (.slice ma mn mc) := by
 generalize hv : Value.slice a n c = v at h
 cases h with
 | nil he => exact absurd hi (Nat.not_lt_zero _)
 | mk K M hne hb hc hcell hk hm =>
  cases hv
  obtain ⟨ta, tn, tc, hK⟩ := (hk i hi).slice
  obtain ⟨ma, mn, mc, hM⟩ := (hm i hi).slice
  have c := hcell i hi
  exact ⟨_, _, ta, tn, tc, ma, mn, mc, rfl, hb, cell_lt c.1, ⟨c.1, c.2.1, c.2.2.1, c.2.2.2.1, c.2.2.2.2.1, by rw [← hK]; exact c.2.2.2.2.2.1, by rw [← hM]; exact c.2.2.2.2.2.2⟩, by rw [← hK]; exact hk i hi, by rw [← hM]; exact hm i hi⟩
theorem newsT {w : World} {B T : Nat} {cs : List Value} (hb : Blk w B T cs) : ∀ j x, cs[j]? = some x → w.cell? ((⟨B, 0, none⟩ : Addr).add j) = some x := by
 intro j x hx
 have := hb.cell j
 rw [← hx, ← this]; cases j <;> simp [Addr.add]
theorem oneY {u : Ty} {a : Option Addr} {n c : Nat} : ∀ x, x ∈ tyCells u (.slice a n c) → x.oneCell' = true := by
 intro x hx
 unfold tyCells at hx
 simp only [List.mem_cons, List.not_mem_nil, or_false] at hx
 rcases hx with rfl | rfl | rfl <;> rfl
theorem oneT {u : Tm} {a d : Option Addr} {n c e f : Nat} : ∀ x, x ∈ tmCells u (.slice a n c) (.slice d e f) → x.oneCell' = true := by
 intro x hx
 unfold tmCells at hx
 simp only [List.mem_cons, List.not_mem_nil, or_false] at hx
 rcases hx with rfl | rfl | rfl | rfl | rfl | rfl | rfl <;> rfl
theorem info_ty : ∃ i, Tryz.prog.info? 26 = some i ∧ i.zero = some (.agg #[.int .i64 0, .string ⟨#[]⟩, .slice none 0 0]) ∧ i.size = 3 ∧ i.bytes = 48 := by
 have := info24
 cases hh : Tryz.prog.info? 26 with
 | none => rw [hh] at this; cases this
 | some i => rw [hh] at this; simp only [Option.map_some, Option.some.injEq, Prod.mk.injEq] at this; exact ⟨i, rfl, this.1, this.2.1, this.2.2⟩
theorem info_tm : ∃ i, Tryz.prog.info? 28 = some i ∧ i.zero = some (.agg #[.int .i64 0, .string ⟨#[]⟩, .int .i64 0, .int .i64 0, .string ⟨#[]⟩, .slice none 0 0, .slice none 0 0]) ∧ i.size = 7 ∧ i.bytes = 104 := by
 have := info27
 cases hh : Tryz.prog.info? 28 with
 | none => rw [hh] at this; cases this
 | some i => rw [hh] at this; simp only [Option.map_some, Option.some.injEq, Prod.mk.injEq] at this; exact ⟨i, rfl, this.1, this.2.1, this.2.2⟩
theorem results_ct {P : Program} {fn : Func} {p q : Tmp} {ty : TypeId} (h : fn.results = #[.cell p ty, .tmp q]) {tmps : Array Value} {a : Addr} (ha : tmps.getD p undef = .pointer (some a)) {v : Value} {W : World}
  (hl : (loadVar ty a).run P W = .ok v W) : (results fn tmps).run P W = .ok (.tuple #[v, tmps.getD q undef]) W := by
 have e : results fn tmps = (do let v ← (do loadVar ty (← asAddr (tmps.getD p undef))); pure (Value.tuple #[v, tmps.getD q undef])) := by
  unfold results; rw [h]; simp
 rw [e, ha]
 show (loadVar ty a >>= fun v => pure (Value.tuple #[v, tmps.getD q undef])).run P W = _
 rw [Sem.run_bind, hl]
 rfl
structure ClcR (b p n m : Nat) (c : ByteArray → Nat) (B : ByteArray → Bool) (w w' : World) : Prop where
 kp : Kept (fun q => q = b ∨ q = p) w w'
 bo : ∃ f, MapF w' b n f ∧ CntF f c
 into : MapF w' p m (bagF B)
def ClcC (t : Tm) : Prop := ∀ (B : ByteArray → Bool) (c : ByteArray → Nat) (w : World) (ok : Nat → Prop) (tk kk : Value) (b n p m : Nat), TyL ok w t.ty.kids tk → TmL ok w t.kids kk → (∃ f, MapF w b n f ∧ CntF f c) → MapF w p m (bagF B) → b ≠ p → (∀ q, ok q → q ≠ b ∧ q ≠ p) → n + 2 * tmN t ≤ 1000000 → m + tmN t ≤ 1000000 → (∀ s, c s + tmD t ≤ 1000000) →
 Calls Tryz.prog 138 #[tmVal t tk kk, .map (some b), .map (some p)] w fun e w' => e = .returned (.tuple #[]) ∧ ClcR b p (n + 2 * tmN t) (m + tmN t) c (fun s => B s || (mb s (fr t) && decide (c s = 0))) w w'
theorem frs_drop {bi : Bool} {nm : ByteArray} {ks : List Tm} {k : Nat} (h : k < ks.length) (s : ByteArray) : mb s (frs bi nm k (ks.drop k)) = ((mb s (fr ks[k]) && !(bi && k == 1 && decide (s = nm))) || mb s (frs bi nm (k + 1) (ks.drop (k + 1)))) := by
 rw [List.drop_eq_getElem_cons h, frs, mb_app]
 congr 1
 cases hb : (bi && k == 1)
 ·simp
 ·simp only [if_true, Bool.true_and]
  rw [Bool.eq_iff_iff, mb_iff, List.mem_filter, Bool.and_eq_true, mb_iff]
theorem kid_dn {ks : List Tm} {t : Tm} (h : t ∈ ks) : tmD t ≤ tmDs ks := by
 induction ks with
 | nil => cases h
 | cons a ks ih =>
  rw [tmDs]
  rcases List.mem_cons.1 h with rfl | h
  ·omega
  ·have := ih h; omega
structure ClcS (w : World) (ce : List Value) (b p n m : Nat) (c : ByteArray → Nat) (B : ByteArray → Bool) (W : World) : Prop where
 r : ClcR b p n m c B w W
 a : Blk W w.heap.size 28 ce
theorem ClcS.kept {w : World} {ce : List Value} {b p n m : Nat} {c : ByteArray → Nat} {B : ByteArray → Bool} {W W' : World} (h : ClcS w ce b p n m c B W) (k : Kept (fun _ => False) W W') : ClcS w ce b p n m c B W' := by
 obtain ⟨⟨h1, ⟨f, h2, h3⟩, h4⟩, h5⟩ := h
 exact ⟨⟨h1.trans (k.mono (fun _ _ e => e.elim)), ⟨f, h2.kept k (fun e => e), h3⟩, h4.kept k (fun e => e)⟩, h5.kept k (fun e => e)⟩
theorem ClcS.step {w : World} {ce : List Value} {b p n m n' m' : Nat} {c c' : ByteArray → Nat} {B B' : ByteArray → Bool} {W W' : World} (h : ClcS w ce b p n m c B W) (hl : b < w.heap.size ∧ p < w.heap.size ∧ b ≠ p) (r : ClcR b p n' m' c' B' W W') : ClcS w ce b p n' m' c' B' W' :=
 ⟨⟨h.r.kp.trans r.kp, r.bo, r.into⟩, h.a.kept r.kp (fun e => by rcases e with e | e <;> omega)⟩
theorem ClcS.cnt {w : World} {ce : List Value} {b p n m n' : Nat} {c c' : ByteArray → Nat} {B : ByteArray → Bool} {W W' : World} {f' : ByteArray → Option Value} (h : ClcS w ce b p n m c B W) (hl : b < w.heap.size ∧ p < w.heap.size ∧ b ≠ p) (hm : MapF W' b n' f') (hf : CntF f' c') (k : Kept (fun q => q = b) W W') : ClcS w ce b p n' m c' B W' :=
 ⟨⟨h.r.kp.trans (k.mono (fun _ _ e => Or.inl e)), ⟨f', hm, hf⟩, h.r.into.kept k (fun e => hl.2.2 e.symm)⟩, h.a.kept k (fun e => by omega)⟩
theorem clc_one {op : Int} {nm : ByteArray} {N : Int} {ty : Ty} {ks : List Tm} (IH : ∀ u, u ∈ ks → ClcC u) (hkn : ks.length ≤ 1000000) (h20 : op = 20 → ks = []) (hnz : nm.size ≤ maxLen) : ClcC (.mk op nm N ty ks) := by
 intro B c w ok tk kk b n p m h1 h2 hb hp hbp hok hn hm hc
 have h1 : TyL ok w ty.kids tk := h1
 have h2 : TmL ok w ks kk := h2
 obtain ⟨a, an, ac, rfl⟩ := h1.slice
 obtain ⟨ma, mn, mc, rfl⟩ := h2.slice
 change Calls Tryz.prog 138 #[.agg #[.int .i64 op, .string nm, .int .i64 N, .int .i64 ty.kind, .string ty.name, .slice a an ac, .slice ma mn mc], .map (some b), .map (some p)] w _
 obtain rfl : mn = ks.length := h2.len
 have K0 : Kept (fun _ => False) w (w.alloc (.cells #[.int .i64 op, .string nm, .int .i64 N, .int .i64 ty.kind, .string ty.name, .slice a an ac, .slice ma ks.length mc] 28)) := (Kept.refl _ _).alloc _
 have S1 : Hid (ClcS w [Value.int .i64 op, .string nm, .int .i64 N, .int .i64 ty.kind, .string ty.name, .slice a an ac, .slice ma ks.length mc] b p n m c B (w.alloc (.cells #[.int .i64 op, .string nm, .int .i64 N, .int .i64 ty.kind, .string ty.name, .slice a an ac, .slice ma ks.length mc] 28))) := Ld (by
  obtain ⟨f, hb1, hb2⟩ := hb
  exact ⟨⟨K0.mono (fun _ _ e => e.elim), ⟨f, hb1.kept K0 (fun e => e), hb2⟩, hp.kept K0 (fun e => e)⟩, Blk.new w 28 _⟩)
 have HAT := Ld (fun W (k : Kept (fun q => q = b ∨ q = p) w W) => (h2.frame (Same.of_kept k (fun q hq e => by rcases e with e | e; exact (hok q hq).1 e; exact (hok q hq).2 e))).at)
 have hpl : p < w.heap.size := hp.lt
 have hbl : b < w.heap.size := by obtain ⟨f, hb1, _⟩ := hb; exact hb1.lt
 have LB : Hid (b < w.heap.size ∧ p < w.heap.size ∧ b ≠ p) := Ld ⟨hbl, hpl, hbp⟩
 have HOK := Ld hok
 have HIH := Ld IH
 have HKN := Ld hkn
 have HN0 : Hid (n + 2 * tmNs ks + 2 ≤ n + 2 * tmN (.mk op nm N ty ks) ∧ m + tmNs ks + 1 ≤ m + tmN (.mk op nm N ty ks)) := Ld (by rw [tmN]; omega)
 have HNB := Ld hn
 have HMB := Ld hm
 have HNZ := Ld hnz
 have HCB : Hid (∀ s, c s + tmDs ks + 1 ≤ 1000000) := Ld (fun s => by have := hc s; rw [tmD] at this; omega)
 obtain ⟨Bf0, hBf0⟩ : ∃ Bf : ByteArray → Bool, Bf = fun s => B s || (mb s (fr (.mk op nm N ty ks)) && decide (c s = 0)) := ⟨_, rfl⟩
 rw [← hBf0]
 have HBF : Hid (∀ B1 : ByteArray → Bool, (∀ s, B1 s = (B s || (decide (op = 20) && decide (c nm = 0) && decide (s = nm)))) → ∀ s, Bf0 s = (B1 s || (mb s (frs (binderB op) nm 0 (ks.drop 0)) && decide (c s = 0)))) := Ld (fun B1 hB1 s => by
  rw [hBf0]
  show (B s || (mb s (fr (.mk op nm N ty ks)) && decide (c s = 0))) = _
  rw [hB1, fr]
  by_cases ho : op = 20
  ·rw [if_pos ho, h20 ho]
   have e1 : mb s [nm] = decide (s = nm) := by unfold mb; simp; exact ⟨fun h => h.symm, fun h => h.symm⟩
   have e2 : mb s (frs (binderB op) nm 0 (([] : List Tm).drop 0)) = false := by simp [frs, mb]
   rw [e1, e2]
   by_cases hs : s = nm
   ·subst hs; simp [ho]
   ·simp [hs]
  ·rw [if_neg ho]; simp [ho])
 clear h1 h2 hb hp hok hn hm hc IH hkn h20 hnz hbp hpl hbl K0 hBf0
 go_enter Tryz.func138, Tryz.ntmps138
 go_upto_region 1 with (fail)
 generalize w.alloc (.cells #[.int .i64 op, .string nm, .int .i64 N, .int .i64 ty.kind, .string ty.name, .slice a an ac, .slice ma ks.length mc] 28) = w1 at *
 obtain ⟨f1, hb1, hf1⟩ := S1.out.r.bo
 have hlk := hb1.look u95 (z3 _) HNZ.out
 rw [hf1 nm] at hlk
 have gA := S1.out.a.cell
 clear hf1 hb1
 go_cut [18] (fun v wc => v = .bool (decide (op = 20) && decide (c nm = 0)) ∧ wc = w1)
 case first =>
  have hcn : ((c nm : Int) = 0) ↔ c nm = 0 := by omega
  by_cases ho : op = 20
  ·subst ho
   by_cases hc0 : c nm = 0
   ·have hc1 : ((c nm : Int) == 0) = true := by simp [hc0]
    have hc2 : decide (c nm = 0) = true := by simp [hc0]
    go_wp2_with fail
    go_meet
    case rel => exact ⟨by simp [hc0], rfl⟩
   ·have hc1 : ((c nm : Int) == 0) = false := by simp; exact hc0
    go_wp2_with fail
    go_meet
    case rel => exact ⟨by simp [hc0], rfl⟩
  ·have ho1 : (op == 20) = false := by simp [ho]
   go_wp2_with fail
   go_meet
   case rel => exact ⟨by simp [ho], rfl⟩
 case rest =>
  obtain ⟨rfl, rfl⟩ := hcut
  clear hlk
  generalize (decide (op = 20) && decide (c nm = 0)) = q0 at *
  go_upto_if 18 with (fail)
  go_cut [] (fun wd => ∃ B1, ClcS w [Value.int .i64 op, .string nm, .int .i64 N, .int .i64 ty.kind, .string ty.name, .slice a an ac, .slice ma ks.length mc] b p n (m + 1) c B1 wd ∧ ∀ s, Bf0 s = (B1 s || (mb s (frs (binderB op) nm 0 (ks.drop 0)) && decide (c s = 0))))
  case first =>
   cases q0
   ·have HB1 := Ld (HBF.out B (fun s => by simp))
    go_wp2_with fail
    go_meet
    case rel => exact ⟨B, ⟨⟨S1.out.r.kp, S1.out.r.bo, S1.out.r.into.mono (Nat.le_succ _)⟩, S1.out.a⟩, HB1.out⟩
   ·have HB1 := Ld (HBF.out (fun s => B s || decide (s = nm)) (fun s => by simp))
    have HMM : Hid (m < maxLen) := Ld (by have := HMB.out; unfold maxLen; omega)
    go_wp2_with (at_mapUpdate; refine wpList_storeF rfl _ _ _ _ 4 rfl u90 rfl S1.out.r.into nm rfl HNZ.out HMM.out (.bool true) rfl ?_; intro w2 hm2 k2)
    rw [bagF_upd] at hm2
    have S2 : Hid (ClcS w [Value.int .i64 op, .string nm, .int .i64 N, .int .i64 ty.kind, .string ty.name, .slice a an ac, .slice ma ks.length mc] b p n (m + 1) c (fun s => B s || decide (s = nm)) w2) := Ld (by
     obtain ⟨f, hb1, hb2⟩ := S1.out.r.bo
     exact ⟨⟨S1.out.r.kp.trans (k2.mono (fun x _ e => Or.inr e)), ⟨f, hb1.kept k2 (fun e => LB.out.2.2 e), hb2⟩, hm2⟩, S1.out.a.kept k2 (fun e => by have := LB.out.2.1; omega)⟩)
    clear hm2 k2
    go_wp2_with fail
    go_meet
    case rel => exact ⟨_, S2.out, HB1.out⟩
  case rest =>
   obtain ⟨B1, hS2, hB1⟩ := hcut
   have S2 := Ld hS2
   have HB1 := Ld hB1
   clear S1 hS2 hB1 HBF gA
   generalize wc = w2 at *
   have gA := S2.out.a.cell
   go_wp2_with fail
   go_loopw [25] (fun i wr => ∃ (k n' m' : Nat) (B' : ByteArray → Bool), k ≤ ks.length ∧ i = .int .i64 k ∧ ClcS w [Value.int .i64 op, .string nm, .int .i64 N, .int .i64 ty.kind, .string ty.name, .slice a an ac, .slice ma ks.length mc] b p n' m' c B' wr ∧ Hid (∀ s, Bf0 s = (B' s || (mb s (frs (binderB op) nm k (ks.drop k)) && decide (c s = 0)))) ∧ Hid (n' + 2 * tmNs (ks.drop k) + (if k ≤ 1 then 2 else 0) ≤ n + 2 * tmN (.mk op nm N ty ks)) ∧ Hid (m' + tmNs (ks.drop k) ≤ m + tmN (.mk op nm N ty ks))) (fun i _ => ks.length - (intOf i).toNat)
   case atStart => exact ⟨0, n, m + 1, B1, Nat.zero_le _, rfl, S2.out, Ld HB1.out, Ld (by have := HN0.out.1; simpa using this), Ld (by have := HN0.out.2; simp; omega)⟩
   case round =>
    obtain ⟨k, n', m', B', hkl, rfl, hS, hq, hn', hm'⟩ := hrel
    have S := Ld hS
    clear hS S2 gA
    by_cases hlt : k < ks.length
    ·have i1 : (k : Int) < (ks.length : Int) := by omega
     have i2 : (k : Int) < 1000000 := by have := HKN.out; omega
     obtain ⟨q1, o1, ta, tn, tc, pa, pn, pc, rfl, hq1, lq, hC, hkt, hkm⟩ := HAT.out wr S.out.r.kp k hlt
     have HD := Ld (fun s => frs_drop (bi := binderB op) (nm := nm) hlt s)
     obtain ⟨c0, c1, c2, c3, c4, c5, c6⟩ := hC
     have KR : Kept (fun _ => False) wr (wr.alloc (.cells #[.int .i64 ks[k].op, .string ks[k].name, .int .i64 ks[k].n, .int .i64 ks[k].ty.kind, .string ks[k].ty.name, .slice ta tn tc, .slice pa pn pc] 28)) := (Kept.refl _ _).alloc _
     have S3 := Ld (S.out.kept KR)
     have bK := Ld (Blk.new wr 28 [.int .i64 ks[k].op, .string ks[k].name, .int .i64 ks[k].n, .int .i64 ks[k].ty.kind, .string ks[k].ty.name, .slice ta tn tc, .slice pa pn pc])
     change Hid (Blk (wr.alloc (.cells #[.int .i64 ks[k].op, .string ks[k].name, .int .i64 ks[k].n, .int .i64 ks[k].ty.kind, .string ks[k].ty.name, .slice ta tn tc, .slice pa pn pc] 28)) _ _ _) at bK
     have HKT := Ld (fun W (kw : Kept (fun q => q = b ∨ q = p) wr W) => hkt.frame (Same.of_kept kw (fun q hq e => by rcases e with e | e; exact (HOK.out q hq).1 e; exact (HOK.out q hq).2 e)))
     have HKM := Ld (fun W (kw : Kept (fun q => q = b ∨ q = p) wr W) => hkm.frame (Same.of_kept kw (fun q hq e => by rcases e with e | e; exact (HOK.out q hq).1 e; exact (HOK.out q hq).2 e)))
     have KR2 : Hid (Kept (fun q => q = b ∨ q = p) wr (wr.alloc (.cells #[.int .i64 ks[k].op, .string ks[k].name, .int .i64 ks[k].n, .int .i64 ks[k].ty.kind, .string ks[k].ty.name, .slice ta tn tc, .slice pa pn pc] 28))) := Ld (KR.mono (fun _ _ e => e.elim))
     have LBR : Hid (b < wr.heap.size ∧ p < wr.heap.size) := Ld ⟨by have := LB.out.1; have := S.out.r.kp.size; omega, by have := LB.out.2.1; have := S.out.r.kp.size; omega⟩
     have HK1 := Ld (fun W Bk ck kw nk mk hb hp hn hm hc => HIH.out _ (List.getElem_mem hlt) Bk ck W ok _ _ b nk p mk (HKT.out W kw) (HKM.out W kw) hb hp LB.out.2.2 HOK.out hn hm hc)
     unfold tmVal at HK1
     have HDM : Hid (tmD ks[k] ≤ tmDs ks ∧ tmNs (ks.drop k) = tmN ks[k] + tmNs (ks.drop (k + 1)) ∧ 1 ≤ tmN ks[k]) := Ld ⟨kid_dn (List.getElem_mem hlt), by rw [List.drop_eq_getElem_cons hlt, tmNs], by cases ks[k] with | mk => rw [tmN]; omega⟩
     clear hkt hkm KR
     generalize ks[k] = u at *
     go_upto_region 6 with (fail)
     clear c0 c1 c2 c3 c4 c5 c6
     have hwr : (wr.alloc (.cells #[.int .i64 u.op, .string u.name, .int .i64 u.n, .int .i64 u.ty.kind, .string u.ty.name, .slice ta tn tc, .slice pa pn pc] 28)).heap.size = wr.heap.size + 1 := World.size_alloc _ _
     generalize wr.alloc (.cells #[.int .i64 u.op, .string u.name, .int .i64 u.n, .int .i64 u.ty.kind, .string u.ty.name, .slice ta tn tc, .slice pa pn pc] 28) = w3 at *
     have gA := S3.out.a.cell
     have HI : Hid ((binderB op && k == 1) = true → ∀ s, Bf0 s = ((B' s || (mb s (fr u) && decide ((if s = nm then c nm + 1 else c s) = 0))) || (mb s (frs (binderB op) nm (k + 1) (ks.drop (k + 1))) && decide (c s = 0)))) := Ld (fun hin s => by
      rw [hq.out, HD.out, hin]
      by_cases hs : s = nm
      ·subst hs; simp
      ·simp [hs]
       cases B' s <;> cases mb s (fr u) <;> cases mb s (frs (binderB op) nm (k + 1) (ks.drop (k + 1))) <;> cases decide (c s = 0) <;> rfl)
     have HJ : Hid ((binderB op && k == 1) = false → ∀ s, Bf0 s = ((B' s || (mb s (fr u) && decide (c s = 0))) || (mb s (frs (binderB op) nm (k + 1) (ks.drop (k + 1))) && decide (c s = 0)))) := Ld (fun hin s => by
      rw [hq.out, HD.out, hin]
      simp
      cases B' s <;> cases mb s (fr u) <;> cases mb s (frs (binderB op) nm (k + 1) (ks.drop (k + 1))) <;> cases decide (c s = 0) <;> rfl)
     clear hq HD
     go_cut [8] (fun v wc => v = .bool (binderB op && k == 1) ∧ wc = w3)
     case first =>
      by_cases hk1 : k = 1
      ·have hk2 : ((k : Int) == 1) = true := by simp; omega
       have hk3 : (k == 1) = true := by simp [hk1]
       clear hk1
       go_wp2_with fail
       refine (binder_any op _).mono ?_
       rintro e w3' ⟨rfl, rfl⟩
       cases hbo : binderB op
       all_goals
        go_wp2_with fail
        go_meet
        case rel => exact ⟨by rw [hk3, hbo]; rfl, rfl⟩
      ·have hk2 : ((k : Int) == 1) = false := by simp; omega
       have hk3 : (k == 1) = false := by simp [hk1]
       clear hk1
       go_wp2_with fail
       refine (binder_any op _).mono ?_
       rintro e w3' ⟨rfl, rfl⟩
       cases hbo : binderB op
       all_goals
        go_wp2_with fail
        go_meet
        case rel => exact ⟨by rw [hk3, hbo]; rfl, rfl⟩
     case rest =>
      obtain ⟨rfl, rfl⟩ := hcut
      have hq1' := HOK.out q1 hq1
      have HNM : Hid (n' + 2 * tmN u + (if k ≤ 1 then 2 else 0) ≤ 1000000 ∧ m' + tmN u ≤ 1000000 ∧ (n' + 2 * tmN u + 2 * tmNs (ks.drop (k + 1)) + (if k ≤ 1 then 2 else 0) ≤ n + 2 * tmN (.mk op nm N ty ks)) ∧ (m' + tmN u + tmNs (ks.drop (k + 1)) ≤ m + tmN (.mk op nm N ty ks))) := Ld (by
       have h1 := hn'.out; have h2 := hm'.out; have h3 := HDM.out.2.1; have h4 := HNB.out; have h5 := HMB.out
       rw [h3] at h1 h2
       omega)
      clear hq1' hn' hm'
      cases hin : (binderB op && k == 1)
      ·have HJ2 := Ld (HJ.out hin)
       clear HI HJ hin
       have HC := Ld (HK1.out wc B' c KR2.out n' m' S3.out.r.bo S3.out.r.into (by have := HNM.out.1; omega) HNM.out.2.1 (fun s => by have := HCB.out s; have := HDM.out.1; omega))
       have gK := bK.out.cell
       clear gA
       go_wp2_with fail
       clear gK
       refine HC.out.mono ?_
       rintro e w5 ⟨rfl, hR5⟩
       have S5 := Ld (S3.out.step LB.out hR5)
       clear hR5 HC S3 S bK HK1 KR2
       go_wp2_with fail
       go_roundw
       case rel => exact ⟨k + 1, _, _, _, by omega, by go_num, S5.out, HJ2, Ld (by have := HNM.out.2.2.1; split <;> split at this <;> omega), Ld HNM.out.2.2.2⟩
       case measure => simp [intOf]; omega
      ·have HI2 := Ld (HI.out hin)
       have hk1 : k = 1 := by
        rw [Bool.and_eq_true] at hin
        simpa using hin.2
       clear HI HJ hin
       obtain ⟨f3, hb3, hf3⟩ := S3.out.r.bo
       have HF3 := Ld hf3
       have HNX : Hid (n' + 2 + 2 * tmN u + 2 * tmNs (ks.drop (k + 1)) ≤ n + 2 * tmN (.mk op nm N ty ks) ∧ n' + 2 + 2 * tmN u ≤ 1000000) := Ld (by have h1 := HNM.out.2.2.1; have h2 := HNM.out.1; rw [if_pos (by omega)] at h1 h2; omega)
       have HK1E := Ld hk1
       clear hk1
       have hlk := hb3.look u95 (z3 _) HNZ.out
       rw [hf3 nm] at hlk
       have HW1 : Hid (wrap64 ((c nm : Int) + 1) = ((c nm + 1 : Nat) : Int)) := Ld (by have := HCB.out nm; unfold wrap64; omega)
       have HB3 := Ld hb3
       have HLX : Hid (n' < maxLen ∧ n' + 1 + 2 * tmN u < maxLen) := Ld (by have := HNX.out.2; unfold maxLen; omega)
       clear hf3 hb3
       go_upto_region 9 with (at_mapUpdate; refine wpList_storeF rfl _ _ _ _ 3 rfl u95 rfl HB3.out nm rfl HNZ.out HLX.out.1 (.int .i64 (wrap64 ((c nm : Int) + 1))) rfl ?_; intro w4 hm4 k4)
       rw [HW1.out] at hm4
       have S4 := Ld (S3.out.cnt LB.out hm4 (HF3.out.upd nm (c nm + 1)) k4)
       have bK4 := Ld (bK.out.kept k4 (fun e => by have := LBR.out.1; omega))
       have HC := Ld (HK1.out w4 B' (fun t => if t = nm then c nm + 1 else c t) (KR2.out.trans (k4.mono (fun _ _ e => Or.inl e))) (n' + 1) m' S4.out.r.bo S4.out.r.into (by have := HNX.out.2; omega) HNM.out.2.1 (fun s => by have h1 := HCB.out s; have h2 := HCB.out nm; have := HDM.out.1; show (if s = nm then c nm + 1 else c s) + _ ≤ _; split <;> omega))
       have gK := bK4.out.cell
       clear hm4 k4 hlk HW1 HB3 HF3 S3 gA bK
       go_wp2_with fail
       clear gK
       refine HC.out.mono ?_
       rintro e w5 ⟨rfl, hR5⟩
       have S5 := Ld (S4.out.step LB.out hR5)
       clear hR5 HC S4 S bK4 HK1 KR2
       obtain ⟨f5, hb5, hf5⟩ := S5.out.r.bo
       have HF5 := Ld hf5
       have hlk := hb5.look u95 (z3 _) HNZ.out
       rw [hf5 nm] at hlk
       simp only [if_true] at hlk
       have HW1 : Hid (wrap64 (c nm : Int) = (c nm : Int)) := Ld (by have := HCB.out nm; unfold wrap64; omega)
       have HB5 := Ld hb5
       have gA := S5.out.a.cell
       clear hf5 hb5
       go_wp2_with (at_mapUpdate; refine wpList_storeF rfl _ _ _ _ 3 rfl u95 rfl HB5.out nm rfl HNZ.out HLX.out.2 (.int .i64 (wrap64 (c nm : Int))) rfl ?_; intro w6 hm6 k6; clear gA hlk)
       rw [HW1.out] at hm6
       have S6 := Ld (S5.out.cnt LB.out hm6 (HF5.out.upd nm (c nm)) k6)
       have HCE : Hid ((fun t => if t = nm then c nm else if t = nm then c nm + 1 else c t) = c) := Ld (by funext t; by_cases ht : t = nm <;> simp [ht])
       rw [HCE.out] at S6
       clear hm6 k6 HW1 HB5 HF5 S5
       go_wp2_with fail
       go_roundw
       case rel => exact ⟨k + 1, _, _, _, by omega, by go_num, S6.out, HI2, Ld (by have := HNX.out.1; have := HK1E.out; rw [if_neg (by omega)]; omega), Ld HNM.out.2.2.2⟩
       case measure => simp [intOf]; omega
    ·have hkk : k = ks.length := by omega
     subst hkk
     have HEQ : Hid (Bf0 = B') := Ld (by funext s; rw [hq.out, List.drop_length]; simp [frs, mb])
     have gA := S.out.a.cell
     go_wp2_with fail
     go_end0
     refine ⟨rfl, S.out.r.kp, ?_, ?_⟩
     ·obtain ⟨f, hb1, hb2⟩ := S.out.r.bo
      exact ⟨f, hb1.mono (by have := hn'.out; omega), hb2⟩
     ·rw [HEQ.out]; exact S.out.r.into.mono (by have := hm'.out; omega)
theorem clc_any {t : Tm} (h : OkTm t) : ClcC t := by
 induction h with
 | mk hf hn hl ih =>
  rename_i op nm N ty ks
  refine clc_one ih (by omega) (fun h => ?_) (by have := (formed_sm hf).1; unfold maxLen; omega)
  subst h
  have h1 := (OkTm.mk hf hn hl).nw
  cases h1 with
  | mk h2 _ => exact (h2 rfl).2.2
def NmL (ok : Nat → Prop) (w : World) (l : List ByteArray) (v : Value) : Prop :=
 ∃ a n c, v = .slice a n c ∧ n = l.length ∧ n ≤ c ∧ (a = none → c = 0) ∧ ∀ i (h : i < l.length), ∃ g off, a = some ⟨g, off, none⟩ ∧ ok g ∧ w.cell? ⟨g, off + i, none⟩ = some (.string l[i])
theorem NmL.nil {ok : Nat → Prop} {w : World} : NmL ok w [] (.slice none 0 0) := ⟨none, 0, 0, rfl, rfl, Nat.le_refl _, fun _ => rfl, fun i h => absurd h (Nat.not_lt_zero _)⟩
theorem NmL.frame {ok : Nat → Prop} {w W : World} {l : List ByteArray} {v : Value} (h : NmL ok w l v) (hs : Same ok w W) : NmL ok W l v := by
 obtain ⟨a, n, c, h1, h2, h3, h5, h4⟩ := h
 refine ⟨a, n, c, h1, h2, h3, h5, fun i hi => ?_⟩
 obtain ⟨g, off, e, hg, hc⟩ := h4 i hi
 exact ⟨g, off, e, hg, hs.cell hg hc⟩
theorem NmL.mono {ok ok' : Nat → Prop} {w : World} {l : List ByteArray} {v : Value} (h : NmL ok w l v) (ho : ∀ k, k < w.heap.size → ok k → ok' k) : NmL ok' w l v := by
 obtain ⟨a, n, c, h1, h2, h3, h5, h4⟩ := h
 refine ⟨a, n, c, h1, h2, h3, h5, fun i hi => ?_⟩
 obtain ⟨g, off, e, hg, hc⟩ := h4 i hi
 exact ⟨g, off, e, ho _ (cell_lt hc) hg, hc⟩
theorem NmL.slice {ok : Nat → Prop} {w : World} {l : List ByteArray} {v : Value} (h : NmL ok w l v) : ∃ a c, v = .slice a l.length c := by
 obtain ⟨a, n, c, h1, h2, _⟩ := h
 exact ⟨a, c, by rw [h1, h2]⟩
theorem NmL.at {ok : Nat → Prop} {w : World} {l : List ByteArray} {a : Option Addr} {n c : Nat} (h : NmL ok w l (.slice a n c)) (i : Nat) (hi : i < l.length) : ∃ g off, a = some ⟨g, off, none⟩ ∧ ok g ∧ w.cell? ⟨g, off + i, none⟩ = some (.string l[i]) := by
 obtain ⟨a', n', c', h1, h2, h3, h5, h4⟩ := h
 cases h1
 exact h4 i hi
theorem nm_eq {a b : ByteArray} : (a.toList == b.toList) = decide (a = b) := by
 rw [Bool.eq_iff_iff]; simp only [beq_iff_eq, decide_eq_true_eq]
 rw [Go.ByteArray.toList_eq, Go.ByteArray.toList_eq]
 exact ⟨fun h => ByteArray.ext (Array.toList_inj.1 h), fun h => by rw [h]⟩
theorem idx_take {s : ByteArray} : ∀ (l : List ByteArray) (k : Nat) (h : k < l.length), idx s (l.take (k + 1)).reverse = if l[k] = s then some 0 else (idx s (l.take k).reverse).map (· + 1) := by
 intro l k h
 rw [List.take_succ_eq_append_getElem h, List.reverse_append, List.reverse_cons, List.reverse_nil, List.nil_append, List.singleton_append, idx]
theorem last_take {s : ByteArray} {l : List ByteArray} {k : Nat} (h : k < l.length) : lastI s (l.take (k + 1)) = if l[k] = s then (k : Int) else lastI s (l.take k) := by
 unfold lastI
 rw [idx_take l k h]
 have e1 : (l.take (k + 1)).length = k + 1 := by rw [List.length_take]; omega
 have e2 : (l.take k).length = k := by rw [List.length_take]; omega
 by_cases hs : l[k] = s
 ·rw [if_pos hs, if_pos hs, e1]; simp only; omega
 ·rw [if_neg hs, if_neg hs, e1, e2]
  cases idx s (l.take k).reverse with
  | none => rfl
  | some i => simp only [Option.map_some]; omega
theorem rlast_any {ok : Nat → Prop} {w : World} {l : List ByteArray} {v : Value} (s : ByteArray) (h : NmL ok w l v) (hn : l.length ≤ 1000000) :
  Calls Tryz.prog 113 #[.string s, v] w fun e w' => e = .returned (.int .i64 (lastI s l)) ∧ w = w' := by
 obtain ⟨a, c, rfl⟩ := h.slice
 have HAT := Ld (fun i hi => h.at i hi)
 have HN := Ld hn
 clear h
 go_enter Tryz.func113, Tryz.ntmps113
 go_wp2_with fail
 go_loop [5] (fun i => ∃ k : Nat, k ≤ l.length ∧ i = .int .i64 ((k : Int) - 1) ∧ Hid (lastI s l = lastI s (l.take k))) (fun i => (intOf i + 1).toNat)
 case atStart => exact ⟨l.length, Nat.le_refl _, by simp, Ld (by rw [List.take_length])⟩
 case round =>
  obtain ⟨k, hk, rfl, hq⟩ := hrel
  cases k with
  | zero =>
   have i0 : ((0 : Nat) : Int) - 1 = -1 := rfl
   have HZ : Hid (lastI s l = -1) := Ld (by rw [hq.out]; rfl)
   rw [i0]
   go_wp2_with fail
   go_ret
   exact ⟨by rw [HZ.out]; rfl, rfl⟩
  | succ k =>
   have hkl : k < l.length := by omega
   obtain ⟨g, off, rfl, _, c0⟩ := HAT.out k hkl
   have i0 : ((k + 1 : Nat) : Int) - 1 = k := by omega
   have i1 : (k : Int) < (l.length : Int) := by omega
   have i2 : (k : Int) < 1000000 := by have := HN.out; omega
   have i3 : decide (0 ≤ (k : Int)) = true := by simp
   have HS := Ld (last_take (s := s) hkl)
   rw [i0]
   clear i0 hk
   cases hs : (l[k].toList == s.toList)
   ·have hne : Hid (l[k] ≠ s) := Ld (by intro e; rw [e] at hs; simp at hs)
    go_wp2_with fail
    go_round
    case rel => exact ⟨k, by omega, rfl, Ld (by rw [hq.out, HS.out, if_neg hne.out])⟩
    case measure => simp [intOf]
   ·have hye : Hid (l[k] = s) := Ld (by rw [nm_eq] at hs; exact of_decide_eq_true hs)
    go_wp2_with fail
    go_ret
    exact ⟨by rw [hq.out, HS.out, if_pos hye.out]; rfl, rfl⟩
theorem info_str : ∃ i, Tryz.prog.info? 9 = some i ∧ i.zero = some (.string ⟨#[]⟩) ∧ i.size = 1 ∧ i.bytes = 16 := by
 have : (Tryz.prog.info? 9).map (fun i => (i.zero, i.size, i.bytes)) = some (some (.string ⟨#[]⟩), 1, 16) := by kernel_rfl
 cases hh : Tryz.prog.info? 9 with
 | none => rw [hh] at this; cases this
 | some i => rw [hh] at this; simp only [Option.map_some, Option.some.injEq, Prod.mk.injEq] at this; exact ⟨i, rfl, this.1, this.2.1, this.2.2⟩
theorem strs_one : ∀ (l : List ByteArray), ∀ u ∈ l.map Value.string, u.oneCell' = true := by
 intro l u hu
 obtain ⟨x, _, rfl⟩ := List.mem_map.1 hu
 rfl
def Src (w : World) (x : Value) (m : Nat) (news : List Value) : Prop := (x = .slice none 0 0 ∧ m = 0 ∧ news = []) ∨ ∃ ad c, x = .slice (some ad) m c ∧ ∀ j u, news[j]? = some u → w.cell? (ad.add j) = some u
theorem wpList_app_src {P : Program} {w : World} {ops : Array Oper} {rest : List Oper} {o : Oper} {a : Act} {Q : Exit → Act → World → Prop} (hgd : o.guard = none) (s x : Operand) (t : TypeId)
  (ho : o.op = .call { callee := .builtin .append, args := #[s, x], argTypes := #[t, t] })
  (base : Nat) (e : TypeId) (i : TypeInfo) (z : Value) (size bytes : Nat) (ht : P.underlying t = some (.slice e)) (hi : P.info? e = some i) (hz : i.zero = some z)
  (hsize : i.size = size) (hby : i.bytes = bytes) (hzs : z.cells.size = size) (hsz : 0 < size)
  (v : Value) (n : Nat) (xs : List Value) (hs : a.eval s = v) (hown : w.ownsRow base e size v n xs)
  (u : Value) (m : Nat) (news : List Value) (hx : a.eval x = u) (hsrc : Src w u m news) (hl : news.length = m * size) (h1 : ∀ u ∈ news, u.oneCell' = true)
  (h63 : n + m ≤ maxLen) (hbytes : (n + m) * bytes ≤ 140737488355328) (hbase : base ≤ w.heap.size)
  (h : ∀ v' w', w'.ownsRow base e size v' (n + m) (xs ++ news) → w.grownBy w' v.ownBlock → (v'.ownBlock = v.ownBlock ∨ v'.ownBlock = some w.heap.size) → wpList P ops Q rest (a.put o.dst v') w') : wpList P ops Q (o :: rest) a w := by
 rcases hsrc with ⟨rfl, rfl, rfl⟩ | ⟨ad, c, rfl, hc⟩
 ·exact wpList_append_own_none hgd s x t ho base e i size ht hi v n xs hs hown hx (h v w (by simpa using hown) (World.grownBy.refl w _) (.inl rfl))
 ·exact wpList_append_own_at w hgd s x t ho base e i z size bytes ht hi hz hsize hby hzs hsz v n xs hs hown ad m c news hx hl hc h1 h63 hbytes hbase (fun v' w' h2 h3 _ h5 => h v' w' h2 h3 h5)
theorem run_app_src {P : Program} {w : World} (t ty : TypeId) (base : Nat) (e : TypeId) (i : TypeInfo) (z : Value) (size bytes : Nat) (ht : P.underlying t = some (.slice e)) (hi : P.info? e = some i) (hz : i.zero = some z)
  (hsize : i.size = size) (hby : i.bytes = bytes) (hzs : z.cells.size = size) (hsz : 0 < size)
  (v : Value) (n : Nat) (xs : List Value) (hown : w.ownsRow base e size v n xs) (u : Value) (m : Nat) (news : List Value) (hsrc : Src w u m news) (hl : news.length = m * size) (h1 : ∀ u ∈ news, u.oneCell' = true)
  (h63 : n + m ≤ maxLen) (hbytes : (n + m) * bytes ≤ 140737488355328) (hbase : base ≤ w.heap.size) :
  ∃ v' w', (Builtin.append_ #[t, t] ty #[v, u]).run P w = .ok v' w' ∧ w'.ownsRow base e size v' (n + m) (xs ++ news) ∧ w.grownBy w' v.ownBlock ∧ (v'.ownBlock = v.ownBlock ∨ v'.ownBlock = some w.heap.size) := by
 rcases hsrc with ⟨rfl, rfl, rfl⟩ | ⟨ad, c, rfl, hc⟩
 ·exact ⟨v, w, run_append_owned_none (P := P) (w := w) base t ty e i size ht hi v n xs hown, by simpa using hown, World.grownBy.refl w _, .inl rfl⟩
 ·obtain ⟨v', w', hr, h2, h3, _, h5⟩ := run_append_own_at (P := P) w base t ty e i z size bytes ht hi hz hsize hby hzs hsz v n xs hown ad m c news hl hc h1 h63 hbytes hbase
  exact ⟨v', w', hr, h2, h3, h5⟩
theorem step_app_src {P : Program} {w : World} {ops : Array Oper} {o : Oper} {a : Act} {K : Act → World → Prop} {Q : Exit → Act → World → Prop} {X : Prop} (hgd : o.guard = none) (s x : Operand) (t : TypeId)
  (ho : o.op = .call { callee := .builtin .append, args := #[s, x], argTypes := #[t, t] })
  (base : Nat) (e : TypeId) (i : TypeInfo) (z : Value) (size bytes : Nat) (ht : P.underlying t = some (.slice e)) (hi : P.info? e = some i) (hz : i.zero = some z)
  (hsize : i.size = size) (hby : i.bytes = bytes) (hzs : z.cells.size = size) (hsz : 0 < size)
  (v : Value) (n : Nat) (xs : List Value) (hs : a.eval s = v) (hown : w.ownsRow base e size v n xs)
  (u : Value) (m : Nat) (news : List Value) (hx : a.eval x = u) (hsrc : Src w u m news) (hl : news.length = m * size) (h1 : ∀ u ∈ news, u.oneCell' = true)
  (h63 : n + m ≤ maxLen) (hbytes : (n + m) * bytes ≤ 140737488355328) (hbase : base ≤ w.heap.size)
  (h : ∀ v' w', w'.ownsRow base e size v' (n + m) (xs ++ news) → w.grownBy w' v.ownBlock → (v'.ownBlock = v.ownBlock ∨ v'.ownBlock = some w.heap.size) → K (a.put o.dst v') w') :
  if Region.wanted o (yielded ops a.tmps) = true then Oper.wp P o a w K Q else X := by
 have hw : Region.wanted o (yielded ops a.tmps) = true := by simp [Region.wanted, hgd]
 rw [if_pos hw]
 obtain ⟨v', w', hr, h2, h3, h4⟩ := run_app_src (P := P) (w := w) t o.type base e i z size bytes ht hi hz hsize hby hzs hsz v n xs hown u m news hsrc hl h1 h63 hbytes hbase
 unfold Oper.wp execOp
 simp only [ho, resolve, invoke, builtin, Sem.run_bind, Sem.run_pure, Result.andThen_ok, List.map_toArray, List.map_cons, List.map_nil, hs, hx, hr]
 exact h v' w' h2 h3 h4
theorem NmL.src {ok : Nat → Prop} {w : World} {l : List ByteArray} {v : Value} (h : NmL ok w l v) : Src w v l.length (l.map Value.string) := by
 obtain ⟨a, n, c, rfl, rfl, h3, h5, h4⟩ := h
 cases a with
 | none =>
  have hc := h5 rfl
  subst hc
  have hl : l = [] := List.length_eq_zero_iff.1 (by omega)
  subst hl
  exact .inl ⟨rfl, rfl, rfl⟩
 | some ad =>
  refine .inr ⟨ad, c, rfl, fun j u hu => ?_⟩
  have hj : j < l.length := by
   have := (List.getElem?_eq_some_iff.1 hu).1
   simpa using this
  obtain ⟨g, off, e, _, hc⟩ := h4 j hj
  cases e
  rw [List.getElem?_map, List.getElem?_eq_getElem hj] at hu
  cases hu
  have e : (⟨g, off, none⟩ : Addr).add j = ⟨g, off + j, none⟩ := by unfold Addr.add; split <;> simp_all
  rw [e]; exact hc
theorem NmL.of_own {ok : Nat → Prop} {w : World} {base : Nat} {l : List ByteArray} {v : Value} (h : w.ownsRow base 9 1 v l.length (l.map Value.string)) (hok : ∀ g, v.ownBlock = some g → ok g) : NmL ok w l v := by
 rcases h.2 with ⟨rfl, hn⟩ | ⟨g, cap, cur, rfl, hbg, hg, hnc, hcm, hcs, htake⟩
 ·have : l = [] := List.length_eq_zero_iff.1 hn
  subst this; exact .nil
 ·refine ⟨some ⟨g, 0, none⟩, l.length, cap, rfl, rfl, by omega, (fun e => by cases e), fun i hi => ⟨g, 0, rfl, hok g rfl, ?_⟩⟩
  have hb : Blk w g 9 cur.toList := by show w.heap[g]? = _; rw [hg]
  have h1 : (cur.toList.take (l.length * 1))[i]? = (l.map Value.string)[i]? := by rw [htake]
  rw [List.getElem?_take, if_pos (by omega), List.getElem?_map, List.getElem?_eq_getElem hi] at h1
  rw [hb.cell, Nat.zero_add]; exact h1
theorem kept_grown1 {w w' : World} {row : Option Nat} (h : w.grownBy w' row) : Kept (fun k => row = some k) w w' := ⟨h.os, h.tape, h.output, h.size, fun k hk hn => h.block k hk (fun e => hn e.symm)⟩
theorem Kept.via1 {S S' : Nat → Prop} {w w1 w2 : World} (h : Kept S w w1) (k : Kept S' w1 w2) (hS : ∀ x, x < w.heap.size → S' x → S x) : Kept S w w2 :=
 ⟨k.os.trans h.os, k.tape.trans h.tape, k.output.trans h.output, Nat.le_trans h.size k.size, fun i hi hs => (k.block i (Nat.lt_of_lt_of_le hi h.size) (fun q => hs (hS i hi q))).trans (h.block i hi hs)⟩
structure NRow (w : World) (base : Nat) (W : World) (l : List ByteArray) (v : Value) : Prop where
 kp : Kept (fun _ => False) w W
 own : W.ownsRow base 9 1 v l.length (l.map Value.string)
theorem NRow.nml {w W : World} {base : Nat} {l : List ByteArray} {v : Value} (h : NRow w base W l v) : NmL (fun q => base ≤ q) W l v := .of_own h.own (fun g hg => (h.own.lt g hg).1)
theorem NRow.app {w W W8 : World} {base : Nat} {l r : List ByteArray} {v v' : Value} (h : NRow w base W l v) (hb : w.heap.size ≤ base) (own8 : W8.ownsRow base 9 1 v' (l.length + r.length) (l.map Value.string ++ r.map Value.string)) (hgrow : W.grownBy W8 v.ownBlock) : NRow w base W8 (l ++ r) v' := by
 refine ⟨h.kp.via1 (kept_grown1 hgrow) (fun x hx e => by have := (h.own.lt x e).1; omega), ?_⟩
 rw [List.length_append, List.map_append]; exact own8
theorem rwith_any {ok : Nat → Prop} {w : World} {l : List ByteArray} {v : Value} (s : ByteArray) (h : NmL ok w l v) (hn : l.length ≤ 1000000) :
  Calls Tryz.prog 114 #[v, .string s] w fun e w' => ∃ v', e = .returned v' ∧ NRow w w.heap.size w' (l ++ [s]) v' := by
 obtain ⟨i9, hi9, hz9, hs9, hb9⟩ := info_str
 have HI := Ld hi9
 have HZ := Ld hz9
 have HS := Ld hs9
 have HB := Ld hb9
 obtain ⟨a, c, rfl⟩ := h.slice
 have HSRC := Ld (fun W (k : Kept (fun _ => False) w W) => (h.frame (sK k)).src)
 have HN := Ld hn
 clear h hi9 hz9 hs9 hb9 hn
 go_enter Tryz.func114, Tryz.ntmps114
 go_wp2_with (at_builtin; refine wpList_app_src rfl (.tmp 5) (.tmp 6) _ rfl w.heap.size 9 i9 _ 1 16 Tryz.underlying41 HI.out HZ.out HS.out HB.out rfl (by decide) (.slice (some ⟨w.heap.size, 0, none⟩) 0 0) 0 [] rfl (World.ownsRow_made w #[] 0 (Nat.le_refl _) (by decide) rfl) (.slice a l.length c) l.length (l.map Value.string) rfl (HSRC.out _ ((Kept.refl _ _).alloc _)) (by simp) (strs_one l) ?_ ?_ (by simp) ?_)
 ·have := HN.out; unfold maxLen; omega
 ·have := HN.out; omega
 intro v1 w1 own1 hg1 hat1
 have R1 : Hid (NRow w w.heap.size w1 l v1) := Ld (by
  exact ⟨((Kept.refl (fun _ => False) w).alloc (.cells #[] 9)).via1 (kept_grown1 hg1) (fun x hx e => by have e2 : some w.heap.size = some x := e; have := Option.some.inj e2; omega), by simpa using own1⟩)
 clear own1 hg1 hat1
 go_wp2_with (at_builtin; refine wpList_app_src rfl (.tmp 7) (.tmp 9) _ rfl w.heap.size 9 i9 _ 1 16 Tryz.underlying41 HI.out HZ.out HS.out HB.out rfl (by decide) v1 l.length (l.map Value.string) rfl (R1.out.own.alloc _) (.slice (some ⟨w1.heap.size, 0, none⟩) 1 1) 1 [.string s] rfl (.inr ⟨_, _, rfl, cell_one_new _ _ _⟩) rfl (strs_one [s]) ?_ ?_ ?_ ?_)
 ·have := HN.out; unfold maxLen; omega
 ·have := HN.out; omega
 ·have := R1.out.kp.size; simp; omega
 intro v2 w2 own2 hg2 hat2
 go_wp2_with fail
 go_ret
 refine ⟨_, rfl, NRow.app (W := w1.alloc (.cells #[.string s] 9)) (r := [s]) ⟨R1.out.kp.alloc _, R1.out.own.alloc _⟩ (Nat.le_refl _) own2 hg2⟩
theorem bagF_none : bagF (fun _ => false) = fun _ => none := by funext s; rfl
theorem cnt_none : CntF (fun _ => none) (fun _ => 0) := fun _ => rfl
def FreP (t : Tm) (w : World) (e : Ending) (w' : World) : Prop := ∃ p, e = .returned (.map (some p)) ∧ w.heap.size ≤ p ∧ MapF w' p (tmN t) (bagF (fun s => mb s (fr t))) ∧ Kept (fun _ => False) w w'
theorem free_any {t : Tm} (ht : OkTm t) (hN : tmN t ≤ 400000) (hD : tmD t ≤ 400000) {ok : Nat → Prop} {w : World} {a : Option Addr} {c : Nat} (h2 : TmL ok w [t] (.slice a 1 c)) : Calls Tryz.prog 86 #[.slice a 1 c] w (FreP t w) := by
 have HCL := Ld (clc_any ht)
 have HND : Hid (tmN t ≤ 400000 ∧ tmD t ≤ 400000) := Ld ⟨hN, hD⟩
 have HAT := Ld (fun W (k : Kept (fun _ => False) w W) => ((h2.mono (ok' := fun q => q < w.heap.size) (fun q hq _ => hq)).frame (sK k)).at 0 (by simp))
 clear hN hD h2 ht
 have hmm := @run_makeMap Tryz.prog
 go_enter Tryz.func86, Tryz.ntmps86
 go_upto_region 2 with (fail)
 have M1 := Ld (MapF.made w)
 have K1 : Hid (Kept (fun _ => False) w (w.alloc (.map #[] 0))) := Ld ((Kept.refl _ _).alloc _)
 generalize w.alloc (.map #[] 0) = w1 at *
 go_wp2_with fail
 obtain ⟨q0, hq0⟩ : ∃ p, p = w.heap.size := ⟨_, rfl⟩
 go_loopw [9] (fun i wr => Kept (fun _ => False) w wr ∧ ((i = .int .i64 0 ∧ MapF wr w.heap.size 0 (fun _ => none)) ∨ (i = .int .i64 1 ∧ MapF wr w.heap.size (tmN t) (bagF (fun s => mb s (fr t)))))) (fun i _ => 1 - (intOf i).toNat)
 case atStart => exact ⟨K1.out, Or.inl ⟨rfl, M1.out⟩⟩
 case round =>
  obtain ⟨hk, ⟨rfl, hm⟩ | ⟨rfl, hm⟩⟩ := hrel
  ·obtain ⟨q1, o1, ta, tn, tc, pa, pn, pc, rfl, hq1, lq, hC, hkt, hkm⟩ := HAT.out wr hk
   simp only [List.getElem_cons_zero, Nat.zero_mul, Nat.add_zero] at hC hkt hkm
   obtain ⟨c0, c1, c2, c3, c4, c5, c6⟩ := hC
   have KR : Kept (fun _ => False) wr (wr.alloc (.cells #[.int .i64 t.op, .string t.name, .int .i64 t.n, .int .i64 t.ty.kind, .string t.ty.name, .slice ta tn tc, .slice pa pn pc] 28)) := (Kept.refl _ _).alloc _
   have bK := Ld (Blk.new wr 28 [.int .i64 t.op, .string t.name, .int .i64 t.n, .int .i64 t.ty.kind, .string t.ty.name, .slice ta tn tc, .slice pa pn pc])
   change Hid (Blk (wr.alloc (.cells #[.int .i64 t.op, .string t.name, .int .i64 t.n, .int .i64 t.ty.kind, .string t.ty.name, .slice ta tn tc, .slice pa pn pc] 28)) _ _ _) at bK
   have HK := Ld hk
   have HM := Ld hm
   have HKT := Ld hkt
   have HKM := Ld hkm
   have KR1 := Ld KR
   clear hk hm hkt hkm KR M1 K1
   go_upto_region 5 with (fail)
   clear c0 c1 c2 c3 c4 c5 c6
   have hw3 : Hid ((wr.alloc (.cells #[.int .i64 t.op, .string t.name, .int .i64 t.n, .int .i64 t.ty.kind, .string t.ty.name, .slice ta tn tc, .slice pa pn pc] 28)).heap.size = wr.heap.size + 1) := Ld (World.size_alloc _ _)
   generalize wr.alloc (.cells #[.int .i64 t.op, .string t.name, .int .i64 t.n, .int .i64 t.ty.kind, .string t.ty.name, .slice ta tn tc, .slice pa pn pc] 28) = w3 at *
   have gK := bK.out.cell
   have M3 := Ld (MapF.made w3)
   have K3 : Hid (Kept (fun _ => False) w3 (w3.alloc (.map #[] 0))) := Ld ((Kept.refl _ _).alloc _)
   have HC := Ld (HCL.out (fun _ => false) (fun _ => 0) (w3.alloc (.map #[] 0)) (fun q => q < w.heap.size) _ _ w3.heap.size 0 w.heap.size 0 (HKT.out.frame (sK (KR1.out.trans K3.out))) (HKM.out.frame (sK (KR1.out.trans K3.out))) ⟨_, M3.out, cnt_none⟩ (by rw [bagF_none]; exact HM.out.kept (KR1.out.trans K3.out) (fun e => e)) (by have := HM.out.lt; have := hw3.out; omega) (fun q hq => ⟨by have := HK.out.size; have := hw3.out; omega, by omega⟩) (by have := HND.out.1; omega) (by have := HND.out.1; omega) (fun s => by have := HND.out.2; omega))
   unfold tmVal at HC
   go_wp2_with fail
   clear gK
   refine HC.out.mono ?_
   rintro e w5 ⟨rfl, hR⟩
   have K5 : Hid (Kept (fun _ => False) w w5) := Ld (((HK.out.trans KR1.out).trans K3.out).via1 hR.kp (fun x hx e => by have := HK.out.size; have := hw3.out; rcases e with e | e <;> omega))
   have M5 : Hid (MapF w5 w.heap.size (tmN t) (bagF (fun s => mb s (fr t)))) := Ld (by
    have h := hR.into
    have e : ∀ (g : ByteArray → Bool), (∀ s, g s = mb s (fr t)) → MapF w5 w.heap.size (0 + tmN t) (bagF g) → MapF w5 w.heap.size (tmN t) (bagF (fun s => mb s (fr t))) := fun g hg hm => by
     have : g = fun s => mb s (fr t) := funext hg
     rw [← this]; exact hm.mono (by omega)
    exact e _ (fun s => by simp) h)
   clear hR HC M3 K3 HK HM HKT HKM KR1 bK
   go_wp2_with fail
   go_roundw
   case rel => exact ⟨K5.out, Or.inr ⟨rfl, M5.out⟩⟩
   case measure => simp [intOf]
  ·have HK := Ld hk
   have HM := Ld hm
   clear hk hm M1 K1
   go_wp2_with fail
   go_ret
   exact ⟨_, rfl, Nat.le_refl _, HM.out, HK.out⟩
end Go.Proofs.YtfhedienjnfdcaaGreatDoor
