/- Texts Show Tmn Siz Vf JnA TyR Cel RowT RCpy RCps RCpt Nam Sub of this proof, in one. -/
import Derived.Test.YtfhedienjnfdcaaGreatDoorS4
import Derived.Test.YtfhedienjnfdcaaGreatDoorS6
import Derived.Test.YtfhedienjnfdcaaGreatDoorS10
import Derived.Test.YtfhedienjnfdcaaGreatDoorS11
import Derived.Test.YtfhedienjnfdcaaGreatDoorS13
import Derived.Deep.AppendLies
import Derived.Deep.RegionLaw
import Derived.Deep.RegionHeld3
set_option linter.unusedVariables false
set_option linter.unusedSimpArgs false
namespace Go.Proofs.YtfhedienjnfdcaaGreatDoor
open Go.RowKit
inductive OkTm : Tm → Prop
  | mk {op : Int} {nm : ByteArray} {N : Int} {ty : Ty} {l : List Tm} (h : formedB op nm N ty l.length = true) (hn : l.length ≤ 100000) (hl : ∀ t, t ∈ l → OkTm t) : OkTm (.mk op nm N ty l)
theorem OkTm.formed {t : Tm} (h : OkTm t) : formedB t.op t.name t.n t.ty t.kids.length = true := by cases h; assumption
theorem kids_range (op : Int) (h : (kidsN op).2 = true) : 1 ≤ op ∧ op ≤ 56 := by
  unfold kidsN at h
  split at h
  · omega
  split at h
  · omega
  split at h
  · omega
  split at h
  · assumption
  · cases h
theorem formed_parts {op : Int} {nm : ByteArray} {N : Int} {ty : Ty} {n : Nat} (h : formedB op nm N ty n = true) : kidOk op n = true ∧ nmOk op nm = true ∧ nOk op N = true ∧ tyOk op ty = true := by
  unfold formedB at h
  rw [Bool.and_eq_true, Bool.and_eq_true, Bool.and_eq_true] at h
  exact ⟨h.1, h.2.1.1, h.2.1.2, h.2.2⟩
theorem OkTm.range {t : Tm} (h : OkTm t) : 1 ≤ t.op ∧ t.op ≤ 56 := by
  have := (formed_parts h.formed).1
  unfold kidOk at this
  rw [Bool.and_eq_true] at this
  exact kids_range _ this.1
mutual
def tmN : Tm → Nat
  | .mk _ _ _ _ l => tmNs l + 1
def tmNs : List Tm → Nat
  | [] => 0
  | t :: l => tmN t + tmNs l
end
mutual
def tmD : Tm → Nat
  | .mk _ _ _ _ l => tmDs l + 1
def tmDs : List Tm → Nat
  | [] => 0
  | t :: l => max (tmD t) (tmDs l)
end
theorem tmNs_app (a b : List Tm) : tmNs (a ++ b) = tmNs a + tmNs b := by
  induction a with
  | nil => simp [tmNs]
  | cons t a ih => simp only [List.cons_append, tmNs, ih]; omega
theorem tmDs_app (a b : List Tm) : tmDs (a ++ b) = max (tmDs a) (tmDs b) := by
  induction a with
  | nil => simp [tmDs]
  | cons t a ih => simp only [List.cons_append, tmDs, ih]; omega
theorem tmNs_snoc (l : List Tm) (j : Nat) (h : j < l.length) : tmNs (l.take (j + 1)) = tmNs (l.take j) + tmN l[j] := by
  rw [List.take_succ_eq_append_getElem h, tmNs_app]; simp [tmNs]
theorem tmDs_snoc (l : List Tm) (j : Nat) (h : j < l.length) : tmDs (l.take (j + 1)) = max (tmDs (l.take j)) (tmD l[j]) := by
  rw [List.take_succ_eq_append_getElem h, tmDs_app]; simp [tmDs]
theorem tmNs_take (l : List Tm) (j : Nat) : tmNs (l.take j) ≤ tmNs l := by
  have := tmNs_app (l.take j) (l.drop j)
  rw [List.take_append_drop] at this; omega
theorem tmNs_len (l : List Tm) : l.length ≤ tmNs l := by
  induction l with
  | nil => simp
  | cons t l ih => cases t; simp only [tmNs, tmN, List.length_cons]; omega
theorem tmD_le (t : Tm) : tmD t ≤ tmN t := by
  induction t using Tm.rec (motive_2 := fun l => tmDs l ≤ tmNs l) with
  | mk op nm N ty l ih => simp only [tmD, tmN]; omega
  | nil => simp [tmDs, tmNs]
  | cons t l iht ihl => simp only [tmDs, tmNs]; omega
theorem f_sz (most deep : Nat) : ∀ (t : Tm) (d c : Nat), (fS most deep t d c).1 = true → (fS most deep t d c).2 = c + tmN t := by
  intro t
  induction t using Tm.rec (motive_2 := fun l => ∀ (d c : Nat), (fsS most deep l d c).1 = true → (fsS most deep l d c).2 = c + tmNs l) with
  | mk op nm N ty l ih =>
    intro d c h
    rw [f_eq] at h ⊢
    split at h
    · rename_i hb
      rw [if_pos hb, ih _ _ h, tmN]; omega
    · cases h
  | nil => rename_i d c h; rfl
  | cons t l iht ihl =>
    rename_i d c h
    rw [fsS] at h ⊢
    cases hr : fS most deep t d c with
    | mk b c' =>
      cases b
      · rw [hr] at h; cases h
      · rw [hr] at h
        have p := iht d c (by rw [hr])
        rw [hr] at p
        have q := ihl d c' h
        simp only at p q ⊢
        rw [q, p, tmNs]; omega
theorem valid_sz {t : Tm} (h : validB t = true) : (fS 2000 64 t 1 0).2 = tmN t ∧ tmN t ≤ 2000 := by
  have h1 := f_sz 2000 64 t 1 0 h
  have h2 := (f_le 2000 64 t 1 0 (Nat.zero_le _) h).2
  omega
def SzC (t : Tm) : Prop := ∀ (w : World) (ok : Nat → Prop) (tk kk : Value), tmN t ≤ 100000 → TyL ok w t.ty.kids tk → TmL ok w t.kids kk →
  Calls Tryz.prog 102 #[tmVal t tk kk] w fun e w' => e = .returned (.tuple #[.int .i64 (tmN t), .int .i64 (tmD t)]) ∧ Kept (fun _ => False) w w'
set_option maxRecDepth 100000 in
set_option maxHeartbeats 8000000 in
theorem size_leaf {op : Int} {nm : ByteArray} {N : Int} {k : Int} {tnm : ByteArray} {a : Option Addr} {n c' : Nat} {ma : Option Addr} {mc : Nat} {w : World} :
    Calls Tryz.prog 102 #[.agg #[.int .i64 op, .string nm, .int .i64 N, .int .i64 k, .string tnm, .slice a n c', .slice ma 0 mc]] w fun e w' => e = .returned (.tuple #[.int .i64 1, .int .i64 1]) ∧ Kept (fun _ => False) w w' := by
  have K1 : Kept (fun _ => False) w (w.alloc (.cells #[.int .i64 op, .string nm, .int .i64 N, .int .i64 k, .string tnm, .slice a n c', .slice ma 0 mc] 28)) := (Kept.refl _ _).alloc _
  go_enter Tryz.func102, Tryz.ntmps102
  go_wp2_with fail
  go_loop [11, 2, 3] (fun i m d => i = .int .i64 0 ∧ m = .int .i64 0 ∧ d = .int .i64 0) (fun i _ _ => 0)
  case atStart => exact ⟨rfl, rfl, rfl⟩
  case round =>
    obtain ⟨rfl, rfl, rfl⟩ := hrel
    go_wp2_with fail
    go_ret2
    exact ⟨rfl, K1⟩
set_option maxRecDepth 100000 in
set_option maxHeartbeats 8000000 in
theorem size_mk {ok : Nat → Prop} {op : Int} {nm : ByteArray} {N : Int} {k : Int} {tnm : ByteArray} {l : List Tm} {a : Option Addr} {n c' : Nat} {b off mc : Nat} {w : World} (IH : ∀ t, t ∈ l → SzC t) (hN : tmNs l ≤ 100000) (K M : Nat → Value) (hb : ok b)
    (hcell : ∀ i (h : i < l.length), w.cell? ⟨b, off + i * 7, none⟩ = some (.int .i64 l[i].op) ∧ w.cell? ⟨b, off + i * 7 + 1, none⟩ = some (.string l[i].name) ∧ w.cell? ⟨b, off + i * 7 + 2, none⟩ = some (.int .i64 l[i].n) ∧ w.cell? ⟨b, off + i * 7 + 3, none⟩ = some (.int .i64 l[i].ty.kind) ∧ w.cell? ⟨b, off + i * 7 + 4, none⟩ = some (.string l[i].ty.name) ∧ w.cell? ⟨b, off + i * 7 + 5, none⟩ = some (K i) ∧ w.cell? ⟨b, off + i * 7 + 6, none⟩ = some (M i))
    (hkk : ∀ i (h : i < l.length), TyL ok w l[i].ty.kids (K i)) (hm : ∀ i (h : i < l.length), TmL ok w l[i].kids (M i)) :
    Calls Tryz.prog 102 #[.agg #[.int .i64 op, .string nm, .int .i64 N, .int .i64 k, .string tnm, .slice a n c', .slice (some ⟨b, off, none⟩) l.length mc]] w fun e w' => e = .returned (.tuple #[.int .i64 ((tmNs l + 1 : Nat) : Int), .int .i64 ((tmDs l + 1 : Nat) : Int)]) ∧ Kept (fun _ => False) w w' := by
  have K1 : Kept (fun _ => False) w (w.alloc (.cells #[.int .i64 op, .string nm, .int .i64 N, .int .i64 k, .string tnm, .slice a n c', .slice (some ⟨b, off, none⟩) l.length mc] 28)) := (Kept.refl _ _).alloc _
  have HIH := Lib.hid IH
  have HC := Lib.hid hcell
  have HK := Lib.hid hkk
  have HM := Lib.hid hm
  have hlen := tmNs_len l
  have hl9 : (l.length : Int) < 100001 := by omega
  have HNN := Lib.hid hN
  have HD : Hid (∀ j, tmDs (l.take j) ≤ tmNs (l.take j)) := Lib.hid (fun j => by
    have : ∀ m : List Tm, tmDs m ≤ tmNs m := by
      intro m
      induction m with
      | nil => simp [tmDs, tmNs]
      | cons t m ih => have := tmD_le t; simp only [tmDs, tmNs]; omega
    exact this _)
  clear IH hcell hkk hm hN hlen
  go_enter Tryz.func102, Tryz.ntmps102
  go_wp2_with fail
  generalize w.alloc (.cells #[.int .i64 op, .string nm, .int .i64 N, .int .i64 k, .string tnm, .slice a n c', .slice (some ⟨b, off, none⟩) l.length mc] 28) = w1 at *
  go_loopw [11, 2, 3] (fun i m d wr => ∃ j : Nat, j ≤ l.length ∧ i = .int .i64 j ∧ m = .int .i64 (tmNs (l.take j)) ∧ d = .int .i64 (tmDs (l.take j)) ∧ Kept (fun _ => False) w1 wr) (fun i _ _ _ => l.length - (intOf i).toNat)
  case atStart => exact ⟨0, Nat.zero_le _, rfl, rfl, rfl, Kept.refl _ _⟩
  case round =>
    obtain ⟨j, hj, rfl, rfl, rfl, kr⟩ := hrel
    by_cases hlt : j < l.length
    · have KR := K1.trans kr
      have c0 := (Same.of_kept (ok := ok) KR (fun k h e => e)).cell hb (HC.out j hlt).1
      have c1 := (Same.of_kept (ok := ok) KR (fun k h e => e)).cell hb (HC.out j hlt).2.1
      have c2 := (Same.of_kept (ok := ok) KR (fun k h e => e)).cell hb (HC.out j hlt).2.2.1
      have c3 := (Same.of_kept (ok := ok) KR (fun k h e => e)).cell hb (HC.out j hlt).2.2.2.1
      have c4 := (Same.of_kept (ok := ok) KR (fun k h e => e)).cell hb (HC.out j hlt).2.2.2.2.1
      have c5 := (Same.of_kept (ok := ok) KR (fun k h e => e)).cell hb (HC.out j hlt).2.2.2.2.2.1
      have c6 := (Same.of_kept (ok := ok) KR (fun k h e => e)).cell hb (HC.out j hlt).2.2.2.2.2.2
      obtain ⟨ta, tn, tc, hKj⟩ := (HK.out j hlt).slice
      obtain ⟨ua, un, uc, hMj⟩ := (HM.out j hlt).slice
      have hkk := (HK.out j hlt).frame (Same.of_kept (ok := ok) KR (fun k h e => e))
      have hmm := (HM.out j hlt).frame (Same.of_kept (ok := ok) KR (fun k h e => e))
      rw [hKj] at c5 hkk
      rw [hMj] at c6 hmm
      have hs1 := tmNs_snoc l j hlt
      have hs2 := tmDs_snoc l j hlt
      have hs3 := tmNs_take l (j + 1)
      have hs4 := HD.out j
      have hs5 := tmD_le l[j]
      have hs6 := HNN.out
      have KA : Kept (fun _ => False) wr (wr.alloc (.cells #[.int .i64 l[j].op, .string l[j].name, .int .i64 l[j].n, .int .i64 l[j].ty.kind, .string l[j].ty.name, .slice ta tn tc, .slice ua un uc] 28)) := (Kept.refl _ _).alloc _
      have hcon := Lib.hid (HIH.out _ (List.getElem_mem hlt) _ ok _ _ (by omega) (hkk.frame (Same.of_kept (ok := ok) KA (fun k h e => e))) (hmm.frame (Same.of_kept (ok := ok) KA (fun k h e => e))))
      clear hkk hmm hKj hMj
      have hj2 : (j : Int) < (l.length : Int) := by omega
      have HS1 := Lib.hid hs1
      have HS2 := Lib.hid hs2
      have b1 : (tmNs (l.take j) : Int) + (tmN l[j] : Int) < 100001 := by omega
      have b2 : (0 : Int) ≤ (tmNs (l.take j) : Int) + (tmN l[j] : Int) := by omega
      have b3 : (tmDs (l.take j) : Int) < 100001 := by omega
      have b4 : (tmD l[j] : Int) < 100001 := by omega
      clear hs1 hs2 hs3 hs4 hs5 hs6
      unfold tmVal at hcon
      go_wp2_with (go_at_call 102; refine hcon.out.mono ?_; rintro e w' ⟨rfl, k2⟩)
      go_roundw
      case rel =>
        refine ⟨j + 1, by omega, by go_num, ?_, ?_, (kr.trans KA).trans k2⟩
        · rw [HS1.out]; congr 1
        · rw [HS2.out]; congr 1; omega
      case measure => simp [intOf]; omega
    · have e1 : l.take j = l := List.take_of_length_le (by omega)
      have hs4 := HD.out l.length
      rw [List.take_length] at hs4
      have hs6 := HNN.out
      rw [e1] at *
      have b1 : (tmNs l : Int) + 1 < 100002 := by omega
      have b2 : (tmDs l : Int) + 1 < 100002 := by omega
      clear hs4 hs6
      go_wp2_with fail
      go_ret2
      exact ⟨rfl, K1.trans kr⟩
theorem size_any (t : Tm) : SzC t := by
  induction t using Tm.rec (motive_2 := fun l => ∀ t, t ∈ l → SzC t) with
  | mk op nm N ty l ih =>
    intro w ok tk kk hN hk hm
    obtain ⟨a, n, cp, rfl⟩ := hk.slice
    obtain ⟨ma, mn, mc, rfl⟩ := hm.slice
    have hn : mn = l.length := hm.len
    subst hn
    have hm' : TmL ok w l (.slice ma l.length mc) := hm
    rw [tmN, tmD]
    rw [tmN] at hN
    cases l with
    | nil => exact size_leaf
    | cons t l =>
      cases hm' with
      | mk K M hne hb hcap hcell hkk hmm => exact size_mk ih (by omega) K M hb hcell hkk hmm
  | nil => rename_i t h; cases h
  | cons t l iht ihl => rename_i u hu; rcases List.mem_cons.1 hu with rfl | hu
                        · exact iht
                        · exact ihl u hu
def DpC (t : Tm) : Prop := ∀ (w : World) (ok : Nat → Prop) (tk kk : Value), tmN t ≤ 100000 → TyL ok w t.ty.kids tk → TmL ok w t.kids kk →
  Calls Tryz.prog 143 #[tmVal t tk kk] w fun e w' => e = .returned (.int .i64 (tmD t)) ∧ Kept (fun _ => False) w w'
set_option maxRecDepth 100000 in
set_option maxHeartbeats 8000000 in
theorem depth_leaf {op : Int} {nm : ByteArray} {N : Int} {k : Int} {tnm : ByteArray} {a : Option Addr} {n c' : Nat} {ma : Option Addr} {mc : Nat} {w : World} :
    Calls Tryz.prog 143 #[.agg #[.int .i64 op, .string nm, .int .i64 N, .int .i64 k, .string tnm, .slice a n c', .slice ma 0 mc]] w fun e w' => e = .returned (.int .i64 1) ∧ Kept (fun _ => False) w w' := by
  have K1 : Kept (fun _ => False) w (w.alloc (.cells #[.int .i64 op, .string nm, .int .i64 N, .int .i64 k, .string tnm, .slice a n c', .slice ma 0 mc] 28)) := (Kept.refl _ _).alloc _
  go_enter Tryz.func143, Tryz.ntmps143
  go_wp2_with fail
  go_loop [4, 3] (fun i d => i = .int .i64 0 ∧ d = .int .i64 0) (fun i _ => 0)
  case atStart => exact ⟨rfl, rfl⟩
  case round =>
    obtain ⟨rfl, rfl⟩ := hrel
    go_wp2_with fail
    go_ret
    exact ⟨rfl, K1⟩
set_option maxRecDepth 100000 in
set_option maxHeartbeats 8000000 in
theorem depth_mk {ok : Nat → Prop} {op : Int} {nm : ByteArray} {N : Int} {k : Int} {tnm : ByteArray} {l : List Tm} {a : Option Addr} {n c' : Nat} {b off mc : Nat} {w : World} (IH : ∀ t, t ∈ l → DpC t) (hN : tmNs l ≤ 100000) (K M : Nat → Value) (hb : ok b)
    (hcell : ∀ i (h : i < l.length), w.cell? ⟨b, off + i * 7, none⟩ = some (.int .i64 l[i].op) ∧ w.cell? ⟨b, off + i * 7 + 1, none⟩ = some (.string l[i].name) ∧ w.cell? ⟨b, off + i * 7 + 2, none⟩ = some (.int .i64 l[i].n) ∧ w.cell? ⟨b, off + i * 7 + 3, none⟩ = some (.int .i64 l[i].ty.kind) ∧ w.cell? ⟨b, off + i * 7 + 4, none⟩ = some (.string l[i].ty.name) ∧ w.cell? ⟨b, off + i * 7 + 5, none⟩ = some (K i) ∧ w.cell? ⟨b, off + i * 7 + 6, none⟩ = some (M i))
    (hkk : ∀ i (h : i < l.length), TyL ok w l[i].ty.kids (K i)) (hm : ∀ i (h : i < l.length), TmL ok w l[i].kids (M i)) :
    Calls Tryz.prog 143 #[.agg #[.int .i64 op, .string nm, .int .i64 N, .int .i64 k, .string tnm, .slice a n c', .slice (some ⟨b, off, none⟩) l.length mc]] w fun e w' => e = .returned (.int .i64 ((tmDs l + 1 : Nat) : Int)) ∧ Kept (fun _ => False) w w' := by
  have K1 : Kept (fun _ => False) w (w.alloc (.cells #[.int .i64 op, .string nm, .int .i64 N, .int .i64 k, .string tnm, .slice a n c', .slice (some ⟨b, off, none⟩) l.length mc] 28)) := (Kept.refl _ _).alloc _
  have bA : Blk (w.alloc (.cells #[.int .i64 op, .string nm, .int .i64 N, .int .i64 k, .string tnm, .slice a n c', .slice (some ⟨b, off, none⟩) l.length mc] 28)) w.heap.size 28 [.int .i64 op, .string nm, .int .i64 N, .int .i64 k, .string tnm, .slice a n c', .slice (some ⟨b, off, none⟩) l.length mc] := Blk.new w 28 _
  have HIH := Lib.hid IH
  have HC := Lib.hid hcell
  have HK := Lib.hid hkk
  have HM := Lib.hid hm
  have hlen := tmNs_len l
  have hl9 : (l.length : Int) < 100001 := by omega
  have HNN := Lib.hid hN
  have HD : Hid (∀ j, tmDs (l.take j) ≤ tmNs (l.take j)) := Lib.hid (fun j => by
    have : ∀ m : List Tm, tmDs m ≤ tmNs m := by
      intro m
      induction m with
      | nil => simp [tmDs, tmNs]
      | cons t m ih => have := tmD_le t; simp only [tmDs, tmNs]; omega
    exact this _)
  clear IH hcell hkk hm hN hlen
  go_enter Tryz.func143, Tryz.ntmps143
  go_wp2_with fail
  generalize w.alloc (.cells #[.int .i64 op, .string nm, .int .i64 N, .int .i64 k, .string tnm, .slice a n c', .slice (some ⟨b, off, none⟩) l.length mc] 28) = w1 at *
  go_loopw [4, 3] (fun i d wr => ∃ j : Nat, j ≤ l.length ∧ i = .int .i64 j ∧ d = .int .i64 (tmDs (l.take j)) ∧ Kept (fun _ => False) w1 wr) (fun i _ _ => l.length - (intOf i).toNat)
  case atStart => exact ⟨0, Nat.zero_le _, rfl, rfl, Kept.refl _ _⟩
  case round =>
    obtain ⟨j, hj, rfl, rfl, kr⟩ := hrel
    have bR := bA.kept kr (fun h => h)
    have g2 : wr.cell? ⟨w.heap.size, 6, none⟩ = some (.slice (some ⟨b, off, none⟩) l.length mc) := bR.cell 6
    by_cases hlt : j < l.length
    · have KR := K1.trans kr
      have c0 := (Same.of_kept (ok := ok) KR (fun k h e => e)).cell hb (HC.out j hlt).1
      have c1 := (Same.of_kept (ok := ok) KR (fun k h e => e)).cell hb (HC.out j hlt).2.1
      have c2 := (Same.of_kept (ok := ok) KR (fun k h e => e)).cell hb (HC.out j hlt).2.2.1
      have c3 := (Same.of_kept (ok := ok) KR (fun k h e => e)).cell hb (HC.out j hlt).2.2.2.1
      have c4 := (Same.of_kept (ok := ok) KR (fun k h e => e)).cell hb (HC.out j hlt).2.2.2.2.1
      have c5 := (Same.of_kept (ok := ok) KR (fun k h e => e)).cell hb (HC.out j hlt).2.2.2.2.2.1
      have c6 := (Same.of_kept (ok := ok) KR (fun k h e => e)).cell hb (HC.out j hlt).2.2.2.2.2.2
      obtain ⟨ta, tn, tc, hKj⟩ := (HK.out j hlt).slice
      obtain ⟨ua, un, uc, hMj⟩ := (HM.out j hlt).slice
      have hkk := (HK.out j hlt).frame (Same.of_kept (ok := ok) KR (fun k h e => e))
      have hmm := (HM.out j hlt).frame (Same.of_kept (ok := ok) KR (fun k h e => e))
      rw [hKj] at c5 hkk
      rw [hMj] at c6 hmm
      have hs1 := tmNs_snoc l j hlt
      have hs2 := tmDs_snoc l j hlt
      have hs3 := tmNs_take l (j + 1)
      have hs4 := HD.out j
      have hs5 := tmD_le l[j]
      have hs6 := HNN.out
      have hcon := Lib.hid (HIH.out _ (List.getElem_mem hlt) wr ok _ _ (by omega) hkk hmm)
      clear hkk hmm hKj hMj
      have hj2 : (j : Int) < (l.length : Int) := by omega
      have HS2 := Lib.hid hs2
      have b3 : (tmDs (l.take j) : Int) < 100001 := by omega
      have b4 : (tmD l[j] : Int) < 100001 := by omega
      clear hs1 hs2 hs3 hs4 hs5 hs6
      unfold tmVal at hcon
      go_wp2_with (go_at_call 143; refine hcon.out.mono ?_; rintro e w' ⟨rfl, k2⟩)
      go_roundw
      case rel =>
        refine ⟨j + 1, by omega, by go_num, ?_, kr.trans k2⟩
        rw [HS2.out]; congr 1; omega
      case measure => simp [intOf]; omega
    · have e1 : l.take j = l := List.take_of_length_le (by omega)
      have hs4 := HD.out l.length
      rw [List.take_length] at hs4
      have hs6 := HNN.out
      rw [e1] at *
      have b2 : (tmDs l : Int) + 1 < 100002 := by omega
      clear hs4 hs6
      go_wp2_with fail
      go_ret
      exact ⟨rfl, K1.trans kr⟩
theorem depth_any (t : Tm) : DpC t := by
  induction t using Tm.rec (motive_2 := fun l => ∀ t, t ∈ l → DpC t) with
  | mk op nm N ty l ih =>
    intro w ok tk kk hN hk hm
    obtain ⟨a, n, cp, rfl⟩ := hk.slice
    obtain ⟨ma, mn, mc, rfl⟩ := hm.slice
    have hn : mn = l.length := hm.len
    subst hn
    have hm' : TmL ok w l (.slice ma l.length mc) := hm
    rw [tmD]
    rw [tmN] at hN
    cases l with
    | nil => exact depth_leaf
    | cons t l =>
      cases hm' with
      | mk K M hne hb hcap hcell hkk hmm => exact depth_mk ih (by omega) K M hb hcell hkk hmm
  | nil => rename_i t h; cases h
  | cons t l iht ihl => rename_i u hu; rcases List.mem_cons.1 hu with rfl | hu
                        · exact iht
                        · exact ihl u hu
def szA (t : Tm) : Int := if validB t then tmN t else 0
def szB (t : Tm) : Int := if validB t then tmD t else 0
set_option maxRecDepth 100000 in
set_option maxHeartbeats 4000000 in
theorem rsize_of {ok : Nat → Prop} {w : World} {t : Tm} {a : Option Addr} {n c : Nat} {ma : Option Addr} {mn mc : Nat} (hk : TyL ok w t.ty.kids (.slice a n c)) (hm : TmL ok w t.kids (.slice ma mn mc)) (hs : SmTm big t) :
    Calls Tryz.prog 90 #[.agg #[.int .i64 t.op, .string t.name, .int .i64 t.n, .int .i64 t.ty.kind, .string t.ty.name, .slice a n c, .slice ma mn mc]] w fun e w' => e = .returned (.tuple #[.int .i64 (szA t), .int .i64 (szB t)]) ∧ Kept (fun _ => False) w w' := by
  have K1 : Kept (fun _ => False) w (w.alloc (.cells #[.int .i64 t.op, .string t.name, .int .i64 t.n, .int .i64 t.ty.kind, .string t.ty.name, .slice a n c, .slice ma mn mc] 28)) := (Kept.refl _ _).alloc _
  have bA : Blk (w.alloc (.cells #[.int .i64 t.op, .string t.name, .int .i64 t.n, .int .i64 t.ty.kind, .string t.ty.name, .slice a n c, .slice ma mn mc] 28)) w.heap.size 28 (tmCells t (.slice a n c) (.slice ma mn mc)) := Blk.new w 28 _
  have hk2 := hk.frame (Same.of_kept (ok := ok) K1 (fun k h e => e))
  have hm2 := hm.frame (Same.of_kept (ok := ok) K1 (fun k h e => e))
  have HV := Lib.hid (rnodes_any hs _ ok 0 1 _ _ (by decide) (by decide) (by decide) hk2 hm2)
  have HW := Lib.hid (fun W (k : Kept (fun _ => False) (w.alloc (.cells #[.int .i64 t.op, .string t.name, .int .i64 t.n, .int .i64 t.ty.kind, .string t.ty.name, .slice a n c, .slice ma mn mc] 28)) W) (h : tmN t ≤ 100000) => depth_any t W ok _ _ h (hk2.frame (Same.of_kept (ok := ok) k (fun k h e => e))) (hm2.frame (Same.of_kept (ok := ok) k (fun k h e => e))))
  unfold tmVal at HW HV
  clear hk2 hm2
  cases hv : validB t
  · have e1 : Hid (szA t = 0 ∧ szB t = 0) := Lib.hid (by unfold szA szB; rw [hv]; exact ⟨rfl, rfl⟩)
    have e2 : tdR (fS 2000 64 t 1 0) = -1 := by unfold tdR; rw [show (fS 2000 64 t 1 0).1 = false from hv]; rfl
    rw [e2] at HV
    clear e2
    go_enter Tryz.func90, Tryz.ntmps90
    go_wp2_with fail
    refine HV.out.mono ?_
    rintro e w1 ⟨rfl, k1⟩
    go_wp2_with fail
    go_ret2
    exact ⟨by rw [e1.out.1, e1.out.2]; rfl, K1.trans k1⟩
  · have e1 : Hid (szA t = tmN t ∧ szB t = tmD t) := Lib.hid (by unfold szA szB; rw [hv]; exact ⟨rfl, rfl⟩)
    have hz := (valid_sz hv).2
    have HZ := Lib.hid (show tmN t ≤ 100000 by omega)
    have e2 : tdR (fS 2000 64 t 1 0) = (tmN t : Int) := by unfold tdR; rw [show (fS 2000 64 t 1 0).1 = true from hv, if_pos rfl, (valid_sz hv).1]
    rw [e2] at HV
    have i5 : decide ((tmN t : Int) < 0) = false := decide_eq_false (by omega)
    clear hz e2
    go_enter Tryz.func90, Tryz.ntmps90
    go_wp2_with fail
    refine HV.out.mono ?_
    rintro e w1 ⟨rfl, k1⟩
    have gA : ∀ i, w1.cell? ⟨w.heap.size, i, none⟩ = (tmCells t (.slice a n c) (.slice ma mn mc))[i]? := (bA.kept k1 (fun h => h)).cell
    unfold tmCells at gA
    have HS := Lib.hid (HW.out w1 k1 HZ.out)
    go_wp2_with fail
    refine HS.out.mono ?_
    rintro e w2 ⟨rfl, k2⟩
    go_wp2_with fail
    go_ret2
    exact ⟨by rw [e1.out.1, e1.out.2]; rfl, (K1.trans k1).trans k2⟩
theorem f_iff (most deep : Nat) (hmo : most ≤ 100000) : ∀ (t : Tm) (d c : Nat), c ≤ most → d ≤ deep + 1 → ((fS most deep t d c).1 = true ↔ OkTm t ∧ c + tmN t ≤ most ∧ d + tmD t ≤ deep + 1) := by
  intro t
  induction t using Tm.rec (motive_2 := fun l => ∀ (d c : Nat), c ≤ most → d ≤ deep + 1 → ((fsS most deep l d c).1 = true ↔ (∀ t, t ∈ l → OkTm t) ∧ c + tmNs l ≤ most ∧ d + tmDs l ≤ deep + 1)) with
  | mk op nm N ty l ih =>
    intro d c hc hd
    rw [f_eq, tmN, tmD]
    by_cases hb : ((decide (c + 1 ≤ most) && decide (d ≤ deep)) && formedB op nm N ty l.length) = true
    · rw [if_pos hb]
      simp only [Bool.and_eq_true, decide_eq_true_eq] at hb
      rw [ih (d + 1) (c + 1) hb.1.1 (by omega)]
      have hl := tmNs_len l
      constructor
      · rintro ⟨h1, h2, h3⟩
        exact ⟨.mk hb.2 (by omega) h1, by omega, by omega⟩
      · rintro ⟨h1, h2, h3⟩
        cases h1 with
        | mk _ _ h1 => exact ⟨h1, by omega, by omega⟩
    · rw [if_neg hb]
      constructor
      · intro h; cases h
      · rintro ⟨h1, h2, h3⟩
        exfalso
        apply hb
        simp only [Bool.and_eq_true, decide_eq_true_eq]
        exact ⟨⟨by omega, by omega⟩, h1.formed⟩
  | nil =>
    rename_i d c hc hd
    constructor
    · intro _
      refine ⟨?_, ?_, ?_⟩
      · intro t h; cases h
      · show c + 0 ≤ most; omega
      · show d + 0 ≤ deep + 1; omega
    · intro _; rfl
  | cons t l iht ihl =>
    rename_i d c hc hd
    rw [fsS, tmNs, tmDs]
    have ht := iht d c hc hd
    cases hr : fS most deep t d c with
    | mk b c' =>
      rw [hr] at ht
      cases b
      · simp only [Bool.false_eq_true, false_iff] at ht
        constructor
        · intro h; cases h
        · rintro ⟨h1, h2, h3⟩
          exact (ht ⟨h1 t (by simp), by omega, by omega⟩).elim
      · have hs := f_sz most deep t d c (by rw [hr])
        rw [hr] at hs
        simp only [true_iff] at ht
        have hs : c' = c + tmN t := hs
        show (fsS most deep l d c').1 = true ↔ _
        rw [ihl d c' (by omega) hd, hs]
        constructor
        · rintro ⟨h1, h2, h3⟩
          refine ⟨fun u hu => ?_, by omega, by omega⟩
          rcases List.mem_cons.1 hu with rfl | hu
          · exact ht.1
          · exact h1 u hu
        · rintro ⟨h1, h2, h3⟩
          exact ⟨fun u hu => h1 u (List.mem_cons_of_mem _ hu), by omega, by omega⟩
theorem valid_iff (t : Tm) : validB t = true ↔ OkTm t ∧ tmN t ≤ 2000 ∧ tmD t ≤ 64 := by
  unfold validB
  rw [f_iff 2000 64 (by decide) t 1 0 (by decide) (by decide)]
  constructor
  · rintro ⟨a, b, c⟩; exact ⟨a, by omega, by omega⟩
  · rintro ⟨a, b, c⟩; exact ⟨a, by omega, by omega⟩
set_option maxRecDepth 100000 in
set_option maxHeartbeats 8000000 in
theorem val1_any {ok : Nat → Prop} {w : World} {t : Tm} {a : Option Addr} {n c : Nat} {ma : Option Addr} {mn mc : Nat} (hk : TyL ok w t.ty.kids (.slice a n c)) (hm : TmL ok w t.kids (.slice ma mn mc)) (hs : SmTm big t) :
    Calls Tryz.prog 109 #[.agg #[.int .i64 t.op, .string t.name, .int .i64 t.n, .int .i64 t.ty.kind, .string t.ty.name, .slice a n c, .slice ma mn mc]] w fun e w' => e = .returned (.bool (!validB t)) ∧ Kept (fun _ => False) w w' := by
  have hcon := Lib.hid (valid_any (hk.frame (Same.alloc w (.cells #[.int .i64 t.op, .string t.name, .int .i64 t.n, .int .i64 t.ty.kind, .string t.ty.name, .slice a n c, .slice ma mn mc] 28))) (hm.frame (Same.alloc w (.cells #[.int .i64 t.op, .string t.name, .int .i64 t.n, .int .i64 t.ty.kind, .string t.ty.name, .slice a n c, .slice ma mn mc] 28))) hs)
  clear hk hm hs
  go_enter Tryz.func109, Tryz.ntmps109
  go_wp2_with fail
  refine hcon.out.mono ?_
  rintro e w' ⟨rfl, h⟩
  go_wp2_with fail
  go_ret
  exact ⟨rfl, ((Kept.refl _ _).alloc _).trans h⟩
theorem all_drop {p : Tm → Bool} {l : List Tm} {k : Nat} (h : k < l.length) : (l.drop k).all p = (p l[k] && (l.drop (k + 1)).all p) := by
  rw [drop_cons l k h, List.all_cons]
set_option maxRecDepth 100000 in
set_option maxHeartbeats 8000000 in
theorem idxV_any {ok : Nat → Prop} {l : List Tm} {a : Option Addr} {n cp : Nat} {w : World} (hn1 : l.length ≤ 1000000) (hs : ∀ t, t ∈ l → SmTm big t) (hk : TmL ok w l (.slice a n cp)) :
    Calls Tryz.prog 175 #[.slice a n cp, .func (.func 109) #[] #[]] w fun e w' => ∃ i : Int, e = .returned (.int .i64 i) ∧ decide (0 ≤ i) = !(l.all validB) ∧ Kept (fun _ => False) w w' := by
  have HS := Lib.hid hs
  clear hs
  have hn := hk.len
  subst hn
  cases hk with
  | nil he =>
    go_enter Tryz.func175, Tryz.ntmps175
    go_wp2_with fail
    go_loop [8] (fun i => i = .int .i64 0) (fun i => 0)
    case atStart => rfl
    case round =>
      subst hrel
      go_wp2_with fail
      go_ret
      exact ⟨-1, rfl, by simp, Kept.refl _ _⟩
  | mk K MM hne hok hcap hcell hkk hmm =>
    rename_i g off
    have HC := Lib.hid hcell
    have HK := Lib.hid hkk
    have HMM := Lib.hid hmm
    clear hcell hkk hmm
    have hn2 := Lib.hid hn1
    clear hn1
    go_enter Tryz.func175, Tryz.ntmps175
    go_wp2_with fail
    go_loopw [8] (fun i wr => ∃ k : Nat, k ≤ l.length ∧ i = .int .i64 k ∧ Kept (fun _ => False) w wr ∧ Hid (l.all validB = (l.drop k).all validB)) (fun i _ => l.length - (intOf i).toNat)
    case atStart => exact ⟨0, Nat.zero_le _, rfl, Kept.refl _ _, Lib.hid rfl⟩
    case round =>
      obtain ⟨k, hkl, rfl, hkr, heq⟩ := hrel
      have hn3 := hn2.out
      by_cases hlt : k < l.length
      · have hs := Same.of_kept (ok := ok) hkr (fun k h e => e)
        have c0 := hs.cell hok (HC.out k hlt).1
        have c1 := hs.cell hok (HC.out k hlt).2.1
        have c2 := hs.cell hok (HC.out k hlt).2.2.1
        have c3 := hs.cell hok (HC.out k hlt).2.2.2.1
        have c4 := hs.cell hok (HC.out k hlt).2.2.2.2.1
        have c5 := hs.cell hok (HC.out k hlt).2.2.2.2.2.1
        have c6 := hs.cell hok (HC.out k hlt).2.2.2.2.2.2
        have i1 : (k : Int) < (l.length : Int) := by omega
        have i2 : (k : Int) < 1000000 := by omega
        obtain ⟨ta, tn, tc, hK⟩ := (HK.out k hlt).slice
        have hkk := (HK.out k hlt).frame hs
        rw [hK] at c5 hkk
        obtain ⟨ua, un, uc, hU⟩ := (HMM.out k hlt).slice
        have hmm := (HMM.out k hlt).frame hs
        rw [hU] at c6 hmm
        have hst := Lib.hid (all_drop (p := validB) hlt)
        have hcon := Lib.hid (val1_any hkk hmm (HS.out _ (List.getElem_mem hlt)))
        clear hkk hmm hs
        cases hr : validB l[k]
        · rw [hr] at hcon
          go_wp2_with (go_at_call 109; refine hcon.out.mono ?_; rintro e w' ⟨rfl, h1⟩)
          go_ret
          exact ⟨k, rfl, by rw [heq.out, hst.out, hr]; simp, hkr.trans h1⟩
        · rw [hr] at hcon
          go_wp2_with (go_at_call 109; refine hcon.out.mono ?_; rintro e w' ⟨rfl, h1⟩)
          go_roundw
          case rel => exact ⟨k + 1, by omega, by go_num, hkr.trans h1, Lib.hid (by rw [heq.out, hst.out, hr]; rfl)⟩
          case measure => simp [intOf]; omega
      · have hz : Hid (l.all validB = true) := Lib.hid (by rw [heq.out, List.drop_eq_nil_of_le (by omega)]; rfl)
        go_wp2_with fail
        go_ret
        exact ⟨-1, rfl, by rw [hz.out]; rfl, hkr⟩
set_option maxRecDepth 100000 in
set_option maxHeartbeats 8000000 in
theorem contV_any {ok : Nat → Prop} {l : List Tm} {a : Option Addr} {n cp : Nat} {w : World} (hn1 : l.length ≤ 1000000) (hs : ∀ t, t ∈ l → SmTm big t) (hk : TmL ok w l (.slice a n cp)) :
    Calls Tryz.prog 108 #[.slice a n cp, .func (.func 109) #[] #[]] w fun e w' => e = .returned (.bool (!(l.all validB))) ∧ Kept (fun _ => False) w w' := by
  have hcon := Lib.hid (idxV_any hn1 hs hk)
  clear hs hk hn1
  go_enter Tryz.func108, Tryz.ntmps108
  go_wp2_with fail
  refine hcon.out.mono ?_
  rintro e w' ⟨i, rfl, hi, h1⟩
  go_wp2_with fail
  go_ret
  exact ⟨rfl, h1⟩
set_option maxRecDepth 100000 in
set_option maxHeartbeats 8000000 in
theorem valids_any {ok : Nat → Prop} {l : List Tm} {a : Option Addr} {n cp : Nat} {w : World} (hn1 : l.length ≤ 1000000) (hs : ∀ t, t ∈ l → SmTm big t) (hk : TmL ok w l (.slice a n cp)) :
    Calls Tryz.prog 60 #[.slice a n cp] w fun e w' => e = .returned (.bool (l.all validB)) ∧ Kept (fun _ => False) w w' := by
  have hcon := Lib.hid (contV_any hn1 hs hk)
  clear hs hk hn1
  go_enter Tryz.func60, Tryz.ntmps60
  go_wp2_with fail
  refine hcon.out.mono ?_
  rintro e w' ⟨rfl, h1⟩
  go_wp2_with fail
  go_ret
  exact ⟨by simp, h1⟩
set_option maxRecDepth 100000 in
set_option maxHeartbeats 8000000 in
theorem rvalids_any {ok : Nat → Prop} {l : List Tm} {a : Option Addr} {n cp : Nat} {w : World} (hn1 : l.length ≤ 1000000) (hs : ∀ t, t ∈ l → SmTm big t) (hk : TmL ok w l (.slice a n cp)) :
    Calls Tryz.prog 103 #[.slice a n cp] w fun e w' => e = .returned (.bool (l.all validB)) ∧ Kept (fun _ => False) w w' := by
  have HS := Lib.hid hs
  clear hs
  have hn := hk.len
  subst hn
  cases hk with
  | nil he =>
    go_enter Tryz.func103, Tryz.ntmps103
    go_wp2_with fail
    go_loop [3] (fun i => i = .int .i64 0) (fun i => 0)
    case atStart => rfl
    case round =>
      subst hrel
      go_wp2_with fail
      go_ret
      exact ⟨rfl, Kept.refl _ _⟩
  | mk K MM hne hok hcap hcell hkk hmm =>
    rename_i g off
    have HC := Lib.hid hcell
    have HK := Lib.hid hkk
    have HMM := Lib.hid hmm
    clear hcell hkk hmm
    have hn2 := Lib.hid hn1
    clear hn1
    go_enter Tryz.func103, Tryz.ntmps103
    go_wp2_with fail
    go_loopw [3] (fun i wr => ∃ k : Nat, k ≤ l.length ∧ i = .int .i64 k ∧ Kept (fun _ => False) w wr ∧ Hid (l.all validB = (l.drop k).all validB)) (fun i _ => l.length - (intOf i).toNat)
    case atStart => exact ⟨0, Nat.zero_le _, rfl, Kept.refl _ _, Lib.hid rfl⟩
    case round =>
      obtain ⟨k, hkl, rfl, hkr, heq⟩ := hrel
      have hn3 := hn2.out
      by_cases hlt : k < l.length
      · have hs := Same.of_kept (ok := ok) hkr (fun k h e => e)
        have c0 := hs.cell hok (HC.out k hlt).1
        have c1 := hs.cell hok (HC.out k hlt).2.1
        have c2 := hs.cell hok (HC.out k hlt).2.2.1
        have c3 := hs.cell hok (HC.out k hlt).2.2.2.1
        have c4 := hs.cell hok (HC.out k hlt).2.2.2.2.1
        have c5 := hs.cell hok (HC.out k hlt).2.2.2.2.2.1
        have c6 := hs.cell hok (HC.out k hlt).2.2.2.2.2.2
        have i1 : (k : Int) < (l.length : Int) := by omega
        have i2 : (k : Int) < 1000000 := by omega
        obtain ⟨ta, tn, tc, hK⟩ := (HK.out k hlt).slice
        have hkk := (HK.out k hlt).frame hs
        rw [hK] at c5 hkk
        obtain ⟨ua, un, uc, hU⟩ := (HMM.out k hlt).slice
        have hmm := (HMM.out k hlt).frame hs
        rw [hU] at c6 hmm
        have hst := Lib.hid (all_drop (p := validB) hlt)
        have hcon := Lib.hid (rvalid_any hkk hmm (HS.out _ (List.getElem_mem hlt)))
        clear hkk hmm hs
        cases hr : validB l[k]
        · rw [hr] at hcon
          go_wp2_with fail
          refine hcon.out.mono ?_
          rintro e w' ⟨rfl, h1⟩
          go_wp2_with fail
          go_ret
          exact ⟨by rw [heq.out, hst.out, hr]; rfl, hkr.trans h1⟩
        · rw [hr] at hcon
          go_wp2_with fail
          refine hcon.out.mono ?_
          rintro e w' ⟨rfl, h1⟩
          go_wp2_with fail
          go_roundw
          case rel => exact ⟨k + 1, by omega, by go_num, hkr.trans h1, Lib.hid (by rw [heq.out, hst.out, hr]; rfl)⟩
          case measure => simp [intOf]; omega
      · have hz : Hid (l.all validB = true) := Lib.hid (by rw [heq.out, List.drop_eq_nil_of_le (by omega)]; rfl)
        go_wp2_with fail
        go_ret
        exact ⟨by rw [hz.out]; rfl, hkr⟩
abbrev E2 := Ty × Value
def tyCells (t : Ty) (tk : Value) : List Value := [.int .i64 t.kind, .string t.name, tk]
def flatY : List E2 → List Value
  | [] => []
  | e :: E => tyCells e.1 e.2 ++ flatY E
def ELY (ok : Nat → Prop) (w : World) (E : List E2) : Prop := ∀ e ∈ E, TyL ok w e.1.kids e.2
theorem flatY_snoc : ∀ (E : List E2) (e : E2), flatY (E ++ [e]) = flatY E ++ tyCells e.1 e.2
  | [], e => by simp [flatY]
  | x :: E, e => by rw [List.cons_append, flatY, flatY_snoc E e, flatY, List.append_assoc]
theorem flatY_get : ∀ (E : List E2) (i j : Nat) (h : i < E.length), j < 3 → (flatY E)[i * 3 + j]? = (tyCells E[i].1 E[i].2)[j]?
  | e :: E, 0, j, _, hj => by
    rw [flatY, Nat.zero_mul, Nat.zero_add, List.getElem?_append_left (by show j < 3; exact hj)]; rfl
  | e :: E, i + 1, j, h, hj => by
    rw [flatY, List.getElem?_append_right (by show 3 ≤ _; omega)]
    have := flatY_get E i j (by simpa using h) hj
    rw [show (i + 1) * 3 + j - (tyCells e.1 e.2).length = i * 3 + j by show (i + 1) * 3 + j - 3 = _; omega, this]
    rfl
theorem tyl_of_row {ok : Nat → Prop} {w : World} {base : Nat} {v : Value} {E : List E2} (hown : w.ownsRow base 26 3 v E.length (flatY E)) (hl : ELY ok w E) (hok : ∀ g, v.ownBlock = some g → ok g) : TyL ok w (E.map (·.1)) v := by
  obtain ⟨_, hv⟩ := hown
  rcases hv with ⟨hv, hn⟩ | ⟨g, cap, cur, rfl, hbg, hg, hnc, hcm, hcs, htake⟩
  · have : E = [] := List.length_eq_zero_iff.1 hn
    subst this
    rw [hv]; exact .nil (Or.inl rfl)
  · by_cases hE : E = []
    · subst hE; exact .nil (Or.inr ⟨_, _, rfl⟩)
    have hb : Blk w g 26 cur.toList := by show w.heap[g]? = _; rw [hg]
    have hc : ∀ i j, i < E.length → j < 3 → w.cell? ⟨g, 0 + i * 3 + j, none⟩ = (flatY E)[i * 3 + j]? := by
      intro i j hi hj
      rw [hb.cell, ← htake, List.getElem?_take, if_pos (by omega), Nat.zero_add]
    have := TyL.mk (ok := ok) (w := w) (l := E.map (·.1)) (b := g) (off := 0) (cap := cap) (fun i => (E.getD i (ty0, undef)).2) (by simpa using hE) (hok g rfl) (by simpa using hnc) (fun i h => ?_) (fun i h => ?_)
    · rw [List.length_map] at this; exact this
    all_goals
      have hi : i < E.length := by simpa using h
      have e1 : (E.map (·.1))[i] = E[i].1 := List.getElem_map ..
      have e2 : E.getD i (ty0, undef) = E[i] := by rw [List.getD_eq_getElem?_getD, List.getElem?_eq_getElem hi]; rfl
      rw [e1]
      try rw [e2]
    · exact ⟨(hc i 0 hi (by omega)).trans (flatY_get E i 0 hi (by omega)), (hc i 1 hi (by omega)).trans (flatY_get E i 1 hi (by omega)), (hc i 2 hi (by omega)).trans (flatY_get E i 2 hi (by omega))⟩
    · exact hl _ (List.getElem_mem hi)
theorem ELY.frame {ok : Nat → Prop} {w w' : World} {E : List E2} (h : ELY ok w E) (hs : Same ok w w') : ELY ok w' E := fun e he => (h e he).frame hs
theorem ELY.mono {ok ok' : Nat → Prop} {w : World} {E : List E2} (h : ELY ok w E) (ho : ∀ k, k < w.heap.size → ok k → ok' k) : ELY ok' w E := fun e he => (h e he).mono ho
theorem ELY.snoc {ok : Nat → Prop} {w : World} {E : List E2} {e : E2} (h : ELY ok w E) (ha : TyL ok w e.1.kids e.2) : ELY ok w (E ++ [e]) := by
  intro x hx
  rcases List.mem_append.1 hx with hx | hx
  · exact h x hx
  · rw [List.mem_singleton.1 hx]; exact ha
theorem own_keptT {S : Nat → Prop} {T sz : Nat} {w w' : World} {base : Nat} {v : Value} {n : Nat} {xs : List Value} (h : w.ownsRow base T sz v n xs) (hk : Kept S w w') (hS : ∀ g, v.ownBlock = some g → ¬ S g) : w'.ownsRow base T sz v n xs := by
  obtain ⟨h1, h2⟩ := h
  refine ⟨h1, ?_⟩
  rcases h2 with h2 | ⟨g, cap, cur, hv, hbg, hg, r⟩
  · exact .inl h2
  · refine .inr ⟨g, cap, cur, hv, hbg, ?_, r⟩
    rw [hk.block g (Array.getElem?_eq_some_iff.1 hg).1 (hS g (by rw [hv]; rfl))]
    exact hg
theorem own_base {T sz : Nat} {w : World} {base base' : Nat} {v : Value} {n : Nat} {xs : List Value} (h : w.ownsRow base T sz v n xs) (hb : ∀ g, v.ownBlock = some g → base' ≤ g) : w.ownsRow base' T sz v n xs := by
  obtain ⟨h1, h2⟩ := h
  refine ⟨h1, ?_⟩
  rcases h2 with h2 | ⟨g, cap, cur, hv, hbg, r⟩
  · exact .inl h2
  · exact .inr ⟨g, cap, cur, hv, hb g (by rw [hv]; rfl), r⟩
theorem tml_of_row' {ok : Nat → Prop} {w : World} {base : Nat} {v : Value} {E : List E3} (hown : w.ownsRow base 28 7 v E.length (flat E)) (hl : EL ok w E) (hok : ∀ g, v.ownBlock = some g → ok g) : TmL ok w (E.map (·.1)) v := by
  by_cases hE : E = []
  · subst hE
    rcases hown.2 with ⟨hv, _⟩ | ⟨g, cap, cur, rfl, _⟩
    · rw [hv]; exact .nil (Or.inl rfl)
    · exact .nil (Or.inr ⟨_, _, rfl⟩)
  · exact tml_of_row hE hown hl hok
theorem flat_app : ∀ (E F : List E3), flat (E ++ F) = flat E ++ flat F
  | [], F => rfl
  | x :: E, F => by rw [List.cons_append, flat, flat_app E F, flat, List.append_assoc]
theorem EL.app {ok : Nat → Prop} {w : World} {E F : List E3} (h : EL ok w E) (k : EL ok w F) : EL ok w (E ++ F) := by
  intro x hx
  rcases List.mem_append.1 hx with hx | hx
  · exact h x hx
  · exact k x hx
theorem own_cells {w : World} {base : Nat} {T sz n m cap : Nat} {ad : Addr} {xs : List Value} (h : w.ownsRow base T sz (.slice (some ad) m cap) n xs) : ∀ j u, xs[j]? = some u → w.cell? (ad.add j) = some u := by
  intro j u hu
  rcases h.2 with ⟨hv, _⟩ | ⟨g, cap', cur, hv, hbg, hg, hnc, hcm, hcs, htake⟩
  · cases hv
  · cases hv
    have hj : j < n * sz := by
      have := (List.getElem?_eq_some_iff.1 hu).1
      rw [← htake] at this
      simp at this; omega
    have hb : Blk w g T cur.toList := by show w.heap[g]? = _; rw [hg]
    have e : (⟨g, 0, none⟩ : Addr).add j = ⟨g, j, none⟩ := by cases j <;> simp [Addr.add]
    rw [e, hb.cell, ← hu, ← htake, List.getElem?_take, if_pos hj]
theorem flat_one : ∀ (E : List E3), (∀ e ∈ E, (∃ a n c, e.2.1 = .slice a n c) ∧ ∃ a n c, e.2.2 = .slice a n c) → ∀ x ∈ flat E, x.oneCell' = true
  | [], _, x, hx => by cases hx
  | e :: E, h, x, hx => by
    rw [flat] at hx
    rcases List.mem_append.1 hx with hx | hx
    · obtain ⟨⟨a, n, c, h1⟩, ⟨a', n', c', h2⟩⟩ := h e (by simp)
      unfold tmCells at hx
      simp only [List.mem_cons, List.not_mem_nil, or_false] at hx
      rcases hx with rfl | rfl | rfl | rfl | rfl | rfl | rfl <;> first | rfl | (rw [h1]; rfl) | (rw [h2]; rfl)
    · exact flat_one E (fun e he => h e (List.mem_cons_of_mem _ he)) x hx
theorem EL.one {ok : Nat → Prop} {w : World} {E : List E3} (h : EL ok w E) : ∀ x ∈ flat E, x.oneCell' = true := flat_one E fun e he => ⟨(h e he).1.slice, (h e he).2.slice⟩
theorem TmL.row {ok : Nat → Prop} {w : World} {l : List Tm} {ad : Addr} {n c : Nat} (h : TmL ok w l (.slice (some ad) n c)) : ∃ E : List E3, E.map (·.1) = l ∧ EL ok w E ∧ E.length = n ∧ ∀ j u, (flat E)[j]? = some u → w.cell? (ad.add j) = some u := by
  generalize hv : Value.slice (some ad) n c = v at h
  cases h with
  | nil he =>
    refine ⟨[], rfl, (fun e he => by cases he), ?_, (fun j u hu => by cases hu)⟩
    rcases he with he | ⟨_, _, he⟩ <;> rw [he] at hv <;> cases hv
    rfl
  | mk K M hne hb hc hcell hk hm =>
    rename_i b off cap
    cases hv
    refine ⟨(List.range l.length).attach.map fun i => (l[i.1]'(List.mem_range.1 i.2), K i.1, M i.1), ?_, ?_, by simp, ?_⟩
    · apply List.ext_getElem
      · simp
      · intro i h1 h2; simp
    · intro e he
      rw [List.mem_map] at he
      obtain ⟨⟨i, hi⟩, _, rfl⟩ := he
      exact ⟨hk i (List.mem_range.1 hi), hm i (List.mem_range.1 hi)⟩
    · intro j u hu
      have hj : j < l.length * 7 := by
        have := (List.getElem?_eq_some_iff.1 hu).1
        rw [flat_len] at this; simpa using this
      obtain ⟨i, r, hi, hr, rfl⟩ := seven hj
      rw [flat_get _ i r (by simpa using hi) hr] at hu
      simp only [List.getElem_map, List.getElem_attach, List.getElem_range] at hu
      have e : (⟨b, off, none⟩ : Addr).add (i * 7 + r) = ⟨b, off + i * 7 + r, none⟩ := by
        unfold Addr.add; split <;> simp_all <;> omega
      rw [e]
      have c := hcell i hi
      rcases (show r = 0 ∨ r = 1 ∨ r = 2 ∨ r = 3 ∨ r = 4 ∨ r = 5 ∨ r = 6 by omega) with rfl | rfl | rfl | rfl | rfl | rfl | rfl <;> cases hu
      · exact c.1
      · exact c.2.1
      · exact c.2.2.1
      · exact c.2.2.2.1
      · exact c.2.2.2.2.1
      · exact c.2.2.2.2.2.1
      · exact c.2.2.2.2.2.2
structure C3 (w : World) (g o : Nat) (t : Ty) (tk : Value) : Prop where
  c0 : w.cell? ⟨g, o, none⟩ = some (.int .i64 t.kind)
  c1 : w.cell? ⟨g, o + 1, none⟩ = some (.string t.name)
  c2 : w.cell? ⟨g, o + 2, none⟩ = some tk
structure C7 (w : World) (g o : Nat) (t : Tm) (tk kk : Value) : Prop where
  c0 : w.cell? ⟨g, o, none⟩ = some (.int .i64 t.op)
  c1 : w.cell? ⟨g, o + 1, none⟩ = some (.string t.name)
  c2 : w.cell? ⟨g, o + 2, none⟩ = some (.int .i64 t.n)
  c3 : w.cell? ⟨g, o + 3, none⟩ = some (.int .i64 t.ty.kind)
  c4 : w.cell? ⟨g, o + 4, none⟩ = some (.string t.ty.name)
  c5 : w.cell? ⟨g, o + 5, none⟩ = some tk
  c6 : w.cell? ⟨g, o + 6, none⟩ = some kk
theorem C3.same {w W : World} {g o : Nat} {t : Ty} {tk : Value} (h : C3 w g o t tk) {ok : Nat → Prop} (hs : Same ok w W) (hg : ok g) : C3 W g o t tk :=
  ⟨hs.cell hg h.c0, hs.cell hg h.c1, hs.cell hg h.c2⟩
theorem C7.same {w W : World} {g o : Nat} {t : Tm} {tk kk : Value} (h : C7 w g o t tk kk) {ok : Nat → Prop} (hs : Same ok w W) (hg : ok g) : C7 W g o t tk kk :=
  ⟨hs.cell hg h.c0, hs.cell hg h.c1, hs.cell hg h.c2, hs.cell hg h.c3, hs.cell hg h.c4, hs.cell hg h.c5, hs.cell hg h.c6⟩
theorem C3.kept {w W : World} {g o : Nat} {t : Ty} {tk : Value} (h : C3 w g o t tk) {S : Nat → Prop} (k : Kept S w W) (hg : ¬ S g) : C3 W g o t tk := h.same (Same.of_kept (ok := (· = g)) k (fun q e => e ▸ hg)) rfl
theorem C7.kept {w W : World} {g o : Nat} {t : Tm} {tk kk : Value} (h : C7 w g o t tk kk) {S : Nat → Prop} (k : Kept S w W) (hg : ¬ S g) : C7 W g o t tk kk := h.same (Same.of_kept (ok := (· = g)) k (fun q e => e ▸ hg)) rfl
theorem TyL.at {ok : Nat → Prop} {w : World} {l : List Ty} {a : Option Addr} {n c : Nat} (h : TyL ok w l (.slice a n c)) (i : Nat) (hi : i < l.length) : ∃ g off ta tn tc, a = some ⟨g, off, none⟩ ∧ ok g ∧ g < w.heap.size ∧ C3 w g (off + i * 3) l[i] (.slice ta tn tc) ∧ TyL ok w l[i].kids (.slice ta tn tc) := by
  generalize hv : Value.slice a n c = v at h
  cases h with
  | nil he => exact absurd hi (Nat.not_lt_zero _)
  | mk K hne hb hc hcell hk =>
    cases hv
    obtain ⟨ta, tn, tc, hK⟩ := (hk i hi).slice
    exact ⟨_, _, ta, tn, tc, rfl, hb, cell_lt (hcell i hi).1, ⟨(hcell i hi).1, (hcell i hi).2.1, by rw [← hK]; exact (hcell i hi).2.2⟩, by rw [← hK]; exact hk i hi⟩
theorem TmL.at {ok : Nat → Prop} {w : World} {l : List Tm} {a : Option Addr} {n c : Nat} (h : TmL ok w l (.slice a n c)) (i : Nat) (hi : i < l.length) : ∃ g off ta tn tc ma mn mc, a = some ⟨g, off, none⟩ ∧ ok g ∧ g < w.heap.size ∧ C7 w g (off + i * 7) l[i] (.slice ta tn tc) (.slice ma mn mc) ∧ TyL ok w l[i].ty.kids (.slice ta tn tc) ∧ TmL ok w l[i].kids (.slice ma mn mc) := by
  generalize hv : Value.slice a n c = v at h
  cases h with
  | nil he => exact absurd hi (Nat.not_lt_zero _)
  | mk K M hne hb hc hcell hk hm =>
    cases hv
    obtain ⟨ta, tn, tc, hK⟩ := (hk i hi).slice
    obtain ⟨ma, mn, mc, hM⟩ := (hm i hi).slice
    have c := hcell i hi
    exact ⟨_, _, ta, tn, tc, ma, mn, mc, rfl, hb, cell_lt c.1, ⟨c.1, c.2.1, c.2.2.1, c.2.2.2.1, c.2.2.2.2.1, by rw [← hK]; exact c.2.2.2.2.2.1, by rw [← hM]; exact c.2.2.2.2.2.2⟩, by rw [← hK]; exact hk i hi, by rw [← hM]; exact hm i hi⟩
theorem newsT {w : World} {B T : Nat} {cs : List Value} (hb : Blk w B T cs) : ∀ j x, cs[j]? = some x → w.cell? ((⟨B, 0, none⟩ : Addr).add j) = some x := by
  intro j x hx
  have := hb.cell j
  rw [← hx, ← this]; cases j <;> simp [Addr.add]
theorem oneY {u : Ty} {a : Option Addr} {n c : Nat} : ∀ x, x ∈ tyCells u (.slice a n c) → x.oneCell' = true := by
  intro x hx
  unfold tyCells at hx
  simp only [List.mem_cons, List.not_mem_nil, or_false] at hx
  rcases hx with rfl | rfl | rfl <;> rfl
theorem oneT {u : Tm} {a d : Option Addr} {n c e f : Nat} : ∀ x, x ∈ tmCells u (.slice a n c) (.slice d e f) → x.oneCell' = true := by
  intro x hx
  unfold tmCells at hx
  simp only [List.mem_cons, List.not_mem_nil, or_false] at hx
  rcases hx with rfl | rfl | rfl | rfl | rfl | rfl | rfl <;> rfl
theorem info_ty : ∃ i, Tryz.prog.info? 26 = some i ∧ i.zero = some (.agg #[.int .i64 0, .string ⟨#[]⟩, .slice none 0 0]) ∧ i.size = 3 ∧ i.bytes = 48 := by
  have := info24
  cases hh : Tryz.prog.info? 26 with
  | none => rw [hh] at this; cases this
  | some i => rw [hh] at this; simp only [Option.map_some, Option.some.injEq, Prod.mk.injEq] at this; exact ⟨i, rfl, this.1, this.2.1, this.2.2⟩
theorem info_tm : ∃ i, Tryz.prog.info? 28 = some i ∧ i.zero = some (.agg #[.int .i64 0, .string ⟨#[]⟩, .int .i64 0, .int .i64 0, .string ⟨#[]⟩, .slice none 0 0, .slice none 0 0]) ∧ i.size = 7 ∧ i.bytes = 104 := by
  have := info27
  cases hh : Tryz.prog.info? 28 with
  | none => rw [hh] at this; cases this
  | some i => rw [hh] at this; simp only [Option.map_some, Option.some.injEq, Prod.mk.injEq] at this; exact ⟨i, rfl, this.1, this.2.1, this.2.2⟩
theorem results_ct {P : Program} {fn : Func} {p q : Tmp} {ty : TypeId} (h : fn.results = #[.cell p ty, .tmp q]) {tmps : Array Value} {a : Addr} (ha : tmps.getD p undef = .pointer (some a)) {v : Value} {W : World}
    (hl : (loadVar ty a).run P W = .ok v W) : (results fn tmps).run P W = .ok (.tuple #[v, tmps.getD q undef]) W := by
  have e : results fn tmps = (do let v ← (do loadVar ty (← asAddr (tmps.getD p undef))); pure (Value.tuple #[v, tmps.getD q undef])) := by
    unfold results; rw [h]; simp
  rw [e, ha]
  show (loadVar ty a >>= fun v => pure (Value.tuple #[v, tmps.getD q undef])).run P W = _
  rw [Sem.run_bind, hl]
  rfl
def okb (base : Nat) (v : Value) (q : Nat) : Prop := base ≤ q ∧ v.ownBlock ≠ some q
structure RowT (w : World) (base : Nat) (wr : World) (E : List E3) (v : Value) : Prop where
  kp : Kept (fun _ => False) w wr
  own : wr.ownsRow base 28 7 v E.length (flat E)
  el : EL (okb base v) wr E
theorem RowT.tml {w wr : World} {base : Nat} {E : List E3} {v : Value} (h : RowT w base wr E v) : TmL (fun q => base ≤ q) wr (E.map (·.1)) v :=
  tml_of_row' h.own (h.el.mono (fun _ _ h => h.1)) (fun g hg => (h.own.lt g hg).1)
theorem RowT.kept {w wr w' : World} {base : Nat} {E : List E3} {v : Value} (h : RowT w base wr E v) (k : Kept (fun _ => False) wr w') : RowT w base w' E v :=
  ⟨h.kp.trans k, own_keptT h.own k (fun _ _ h => h), h.el.frame (Same.of_kept k (fun _ _ e => e))⟩
theorem RowT.nil {w wr : World} {base : Nat} (k : Kept (fun _ => False) w wr) : RowT w base wr [] (.slice none 0 0) := ⟨k, World.ownsRow_nil _ _ _ _, fun e he => by cases he⟩
theorem RowT.app {w wr w6 W8 : World} {base : Nat} {E F : List E3} {v : Value} {gg n cap H : Nat} (hb : w.heap.size ≤ base) (h : RowT w base wr E v) (k6 : Kept (fun _ => False) wr w6) (hbl : base ≤ wr.heap.size)
    (hF : EL (fun q => wr.heap.size ≤ q) w6 F)
    (own8 : W8.ownsRow base 28 7 (.slice (some ⟨gg, 0, none⟩) n cap) n (flat E ++ flat F)) (hn : n = E.length + F.length) (hgrow : w6.grownBy W8 v.ownBlock) (hat : v.ownBlock = some gg ∨ gg = H) (hH : H = w6.heap.size) :
    RowT w base W8 (E ++ F) (.slice (some ⟨gg, 0, none⟩) n cap) := by
  have kG := kept_grown hgrow
  have z6 := k6.size
  have zk := h.kp.size
  have hvb : ∀ x, v.ownBlock = some x → base ≤ x ∧ x < wr.heap.size := fun x e => h.own.lt x e
  refine ⟨(h.kp.trans k6).via kG (fun x hx e => by have := (hvb x e).1; omega), by rw [flat_app, List.length_append, ← hn]; exact own8, ?_⟩
  have e1 : EL (okb base v) w6 (E ++ F) := (h.el.frame (Same.of_kept k6 (fun _ _ e => e))).app (hF.mono (fun q _ hq => ⟨by omega, fun e => by have := (hvb q e).2; omega⟩))
  have e2 := e1.mono (ok' := fun q => okb base v q ∧ okb base (.slice (some ⟨gg, 0, none⟩) n cap) q) (fun q hq hh => ⟨hh, hh.1, fun e => by
    have e1 : gg = q := Option.some.inj e
    rcases hat with hat | hat
    · exact hh.2 (by rw [hat, e1])
    · omega⟩)
  exact (e2.frame (Same.of_kept kG (fun q hq e => hq.1.2 e))).mono (fun q _ hq => hq.2)
theorem RowT.step {w wr w6 W8 : World} {base : Nat} {E : List E3} {v tk kk : Value} {t : Tm} {gg cap H : Nat} (hb : w.heap.size ≤ base) (h : RowT w base wr E v) (k6 : Kept (fun _ => False) wr w6) (hbl : base ≤ wr.heap.size)
    (hty : TyL (fun q => wr.heap.size ≤ q) w6 t.ty.kids tk) (htm : TmL (fun q => wr.heap.size ≤ q) w6 t.kids kk)
    (own8 : W8.ownsRow base 28 7 (.slice (some ⟨gg, 0, none⟩) (E.length + 1) cap) (E.length + 1) (flat E ++ tmCells t tk kk)) (o : Obj) (hgrow : (w6.alloc o).grownBy W8 v.ownBlock) (hat : v.ownBlock = some gg ∨ gg = H) (hH : H = w6.heap.size + 1) :
    RowT w base W8 (E ++ [(t, tk, kk)]) (.slice (some ⟨gg, 0, none⟩) (E.length + 1) cap) := by
  refine RowT.app (w6 := w6.alloc o) (F := [(t, tk, kk)]) hb h (k6.alloc _) hbl ?_ (by show W8.ownsRow base 28 7 _ _ (flat E ++ (tmCells t tk kk ++ [])); rw [List.append_nil]; exact own8) rfl hgrow hat (by rw [hH]; simp)
  intro e he
  rw [List.mem_singleton.1 he]
  exact ⟨hty.frame (Same.alloc _ _), htm.frame (Same.alloc _ _)⟩
theorem RowT.one {w wr : World} {base g : Nat} {t : Tm} {tk kk : Value} (k : Kept (fun _ => False) w wr) (hb : Blk wr g 28 (tmCells t tk kk)) (hg : base ≤ g) (hty : TyL (fun q => base ≤ q ∧ q ≠ g) wr t.ty.kids tk) (htm : TmL (fun q => base ≤ q ∧ q ≠ g) wr t.kids kk) :
    RowT w base wr [(t, tk, kk)] (.slice (some ⟨g, 0, none⟩) 1 1) :=
  ⟨k, own_one hb hg, fun e he => by
    rw [List.mem_singleton.1 he]
    exact ⟨hty.mono (fun q _ h => ⟨h.1, fun e => h.2 (Option.some.inj e).symm⟩), htm.mono (fun q _ h => ⟨h.1, fun e => h.2 (Option.some.inj e).symm⟩)⟩⟩
def RCpC (t : Ty) : Prop := ∀ (w : World) (ok : Nat → Prop) (tk : Value), TyL ok w t.kids tk →
  Calls Tryz.prog 84 #[tyVal t tk] w fun e w' => ∃ v, e = .returned (tyVal t v) ∧ TyL (fun k => w.heap.size ≤ k) w' t.kids v ∧ Kept (fun _ => False) w w'
structure RC (w : World) (kd : Int) (nm : ByteArray) (l : List Ty) (a : Option Addr) (c k : Nat) (wr : World) (E : List E2) (v : Value) : Prop where
  kp : Kept (fun _ => False) w wr
  a : Blk wr w.heap.size 26 [.int .i64 kd, .string nm, .slice a l.length c]
  r : Blk wr (w.heap.size + 1) 26 [.int .i64 0, .string ⟨#[]⟩, .slice none 0 0]
  o : Blk wr (w.heap.size + 2) 26 [.int .i64 kd, .string nm, v]
  own : wr.ownsRow (w.heap.size + 3) 26 3 v E.length (flatY E)
  el : ELY (fun q => w.heap.size + 3 ≤ q ∧ v.ownBlock ≠ some q) wr E
  len : E.length = k
  mp : E.map (·.1) = l.take k
theorem RC.step {w wr w6 W8 : World} {kd : Int} {nm : ByteArray} {l : List Ty} {a : Option Addr} {c k : Nat} {E : List E2} {v u : Value} {va : Option Addr} {vn vc gg cap : Nat} (h : RC w kd nm l a c k wr E v) (hk : k < l.length) (k6 : Kept (fun _ => False) wr w6) (hu : TyL (fun q => wr.heap.size ≤ q) w6 l[k].kids u)
    (hv : v = .slice va vn vc) (o : Obj) (own8 : W8.ownsRow (w.heap.size + 3) 26 3 (.slice (some ⟨gg, 0, none⟩) (E.length + 1) cap) (E.length + 1) (flatY E ++ tyCells l[k] u)) (hgrow : (w6.alloc o).grownBy W8 v.ownBlock) (hat : v.ownBlock = some gg ∨ gg = w6.heap.size + 1) :
    RC w kd nm l a c (k + 1) (W8.setCell ⟨w.heap.size + 2, 2, none⟩ (.slice (some ⟨gg, 0, none⟩) (E.length + 1) cap)) (E ++ [(l[k], u)]) (.slice (some ⟨gg, 0, none⟩) (E.length + 1) cap) := by
  have kA : Kept (fun _ => False) wr (w6.alloc o) := k6.alloc _
  have kG := kept_grown hgrow
  have zA : (w6.alloc o).heap.size = w6.heap.size + 1 := by simp
  have z6 := k6.size
  have zr := h.o.lt
  have hg3 : w.heap.size + 3 ≤ gg := by
    have := (own8.lt gg rfl).1; exact this
  have hvb : ∀ x, v.ownBlock = some x → w.heap.size + 3 ≤ x ∧ x < wr.heap.size := fun x e => h.own.lt x e
  have kS : Kept (· = w.heap.size + 2) W8 (W8.setCell ⟨w.heap.size + 2, 2, none⟩ (.slice (some ⟨gg, 0, none⟩) (E.length + 1) cap)) := (Kept.refl (fun x => x = w.heap.size + 2) _).setCell (p := ⟨w.heap.size + 2, 2, none⟩) (Or.inl rfl) _
  refine ⟨((h.kp.trans kA).via kG (fun x hx e => by have := (hvb x e).1; omega)).via kS (fun x hx e => by have e' : x = w.heap.size + 2 := e; omega),
    ((h.a.kept kA (fun h => h)).kept kG (fun e => by have := (hvb _ e).1; omega)).kept kS (by show ¬ w.heap.size = w.heap.size + 2; omega),
    ((h.r.kept kA (fun h => h)).kept kG (fun e => by have := (hvb _ e).1; omega)).kept kS (by show ¬ w.heap.size + 1 = w.heap.size + 2; omega),
    ((h.o.kept kA (fun h => h)).kept kG (fun e => by have := (hvb _ e).1; omega)).set 2 _, ?_, ?_, by simp [h.len], ?_⟩
  · have := own_keptT own8 kS (fun g hg e => by have e' : some gg = some g := hg; have e2 := Option.some.inj e'; have e3 : g = w.heap.size + 2 := e; omega)
    rw [flatY_snoc, List.length_append]; exact this
  · have e1 : ELY (fun q => w.heap.size + 3 ≤ q ∧ v.ownBlock ≠ some q) w6 (E ++ [(l[k], u)]) := (h.el.frame (Same.of_kept k6 (fun _ _ e => e))).snoc (e := (l[k], u)) (hu.mono (fun q _ hq => ⟨by omega, fun e => by have := (hvb q e).2; omega⟩))
    have e2 := (e1.frame (Same.alloc _ o)).mono (ok' := fun q => (w.heap.size + 3 ≤ q ∧ v.ownBlock ≠ some q) ∧ w.heap.size + 3 ≤ q ∧ (Value.slice (some ⟨gg, 0, none⟩) (E.length + 1) cap).ownBlock ≠ some q) (fun q hq hh => ⟨hh, hh.1, fun e => by
      have e1 : gg = q := Option.some.inj e
      rcases hat with hat | hat
      · exact hh.2 (by rw [hat, e1])
      · omega⟩)
    exact ((e2.frame (Same.of_kept kG (fun q hq e => hq.1.2 e))).frame (Same.of_kept kS (fun q hq e => by have e' : q = w.heap.size + 2 := e; have := hq.1.1; omega))).mono (fun q _ hq => hq.2)
  · rw [List.map_append, h.mp, List.take_succ_eq_append_getElem hk]; rfl
set_option maxRecDepth 100000 in
set_option maxHeartbeats 8000000 in
theorem rcopyTy_one {kd : Int} {nm : ByteArray} {l : List Ty} (IH : ∀ t, t ∈ l → RCpC t) (hn1 : l.length ≤ 1000000) : RCpC (.mk kd nm l) := by
  intro w ok tk hk
  obtain ⟨a, n, c, rfl⟩ := hk.slice
  have hn : n = l.length := hk.len
  subst hn
  have hk' : TyL ok w l (.slice a l.length c) := hk
  clear hk
  have HIH := Lib.hid IH
  have HN1 := Lib.hid hn1
  clear IH hn1
  have HAT := Lib.hid (fun W (k : Kept (fun _ => False) w W) => (hk'.frame (Same.of_kept k (fun _ _ e => e))).at)
  clear hk'
  change Calls Tryz.prog 84 #[.agg #[.int .i64 kd, .string nm, .slice a l.length c]] w _
  have b3 := Blk.new' (w := (w.alloc (.cells #[.int .i64 kd, .string nm, .slice a l.length c] 26)).alloc (.cells #[.int .i64 0, .string ⟨#[]⟩, .slice none 0 0] 26)) (g := w.heap.size + 2) 26 [.int .i64 kd, .string nm, .slice none 0 0] (by simp)
  have bA := (((Blk.new w 26 [.int .i64 kd, .string nm, .slice a l.length c]).alloc (.cells #[.int .i64 0, .string ⟨#[]⟩, .slice none 0 0] 26)).alloc (.cells #[.int .i64 kd, .string nm, .slice none 0 0] 26))
  have bR := ((Blk.new' (w := w.alloc (.cells #[.int .i64 kd, .string nm, .slice a l.length c] 26)) (g := w.heap.size + 1) 26 [.int .i64 0, .string ⟨#[]⟩, .slice none 0 0] (by simp)).alloc (.cells #[.int .i64 kd, .string nm, .slice none 0 0] 26))
  have K0 : Kept (fun _ => False) w (((w.alloc (.cells #[.int .i64 kd, .string nm, .slice a l.length c] 26)).alloc (.cells #[.int .i64 0, .string ⟨#[]⟩, .slice none 0 0] 26)).alloc (.cells #[.int .i64 kd, .string nm, .slice none 0 0] 26)) := (((Kept.refl _ _).alloc _).alloc _).alloc _
  have HRC : Hid (RC w kd nm l a c 0 (((w.alloc (.cells #[.int .i64 kd, .string nm, .slice a l.length c] 26)).alloc (.cells #[.int .i64 0, .string ⟨#[]⟩, .slice none 0 0] 26)).alloc (.cells #[.int .i64 kd, .string nm, .slice none 0 0] 26)) [] (.slice none 0 0)) := Lib.hid
    ⟨K0, bA, bR, b3, World.ownsRow_nil _ _ _ _, (fun e he => by cases he), rfl, by simp⟩
  clear b3 bA bR K0
  go_enter Tryz.func84, Tryz.ntmps84
  go_wp2_with fail
  go_loopw [4] (fun i wr => ∃ (k : Nat) (E : List E2) (v : Value), k ≤ l.length ∧ i = .int .i64 k ∧ RC w kd nm l a c k wr E v) (fun i _ => l.length - (intOf i).toNat)
  case atStart => exact ⟨0, [], _, Nat.zero_le _, rfl, HRC.out⟩
  case round =>
    clear HRC
    obtain ⟨k, E, v, hkl, rfl, h⟩ := hrel
    obtain ⟨va, vn, vc, rfl⟩ := (tyl_of_row (ok := fun _ => True) h.own (h.el.mono (fun _ _ _ => trivial)) (fun _ _ => trivial)).slice
    have gA : ∀ i, wr.cell? ⟨w.heap.size, i, none⟩ = [Value.int .i64 kd, .string nm, .slice a l.length c][i]? := h.a.cell
    have gO : ∀ i, wr.cell? ⟨w.heap.size + 1 + 1, i, none⟩ = [Value.int .i64 kd, .string nm, .slice va vn vc][i]? := h.o.cell
    have gR : ∀ i, wr.cell? ⟨w.heap.size + 1, i, none⟩ = [Value.int .i64 0, .string ⟨#[]⟩, .slice none 0 0][i]? := h.r.cell
    have fO : ∀ i, wr.frozen? ⟨w.heap.size + 1 + 1, i, none⟩ = false := h.o.frozen
    have fR : ∀ i, wr.frozen? ⟨w.heap.size + 1, i, none⟩ = false := h.r.frozen
    have lO := h.o.lt
    have H := Lib.hid h
    clear h
    by_cases hlt : k < l.length
    · have hn2 := HN1.out
      have i1 : (k : Int) < (l.length : Int) := by omega
      have i2 : (k : Int) < 1000000 := by omega
      obtain ⟨g, off, ta, tn, tc, rfl, _, lg, ⟨c0, c1, c2⟩, hty⟩ := HAT.out wr H.out.kp k hlt
      have hcon := Lib.hid ((HIH.out _ (List.getElem_mem hlt)) wr.drew ok _ (hty.frame (Same.drew _)))
      unfold tyVal at hcon
      have hlen := Lib.hid H.out.len
      have hmx : Hid (E.length + 1 ≤ maxLen) := Lib.hid (by have := hlen.out; unfold maxLen; omega)
      have hby : Hid ((E.length + 1) * 48 ≤ 140737488355328) := Lib.hid (by have := hlen.out; omega)
      obtain ⟨i26, hi26, hz26, hs26, hb26⟩ := info_ty
      have HI26 := Lib.hid hi26
      have HZ26 := Lib.hid hz26
      have HS26 := Lib.hid hs26
      have HB26 := Lib.hid hb26
      clear hty hn2 hi26 hz26 hs26 hb26
      go_upto_region 5 with (fail)
      go_region_law (first | (refine step_append_lies _ (by rfl) _ _ _ (by rfl) (w.heap.size + 3) 26 i26 _ 3 48 Tryz.underlying24 HI26.out HZ26.out HS26.out HB26.out rfl (by decide) (.slice va vn vc) E.length (flatY E) (by rfl) (own6.alloc _) ⟨w6.heap.size, 0, none⟩ 1 1 (tyCells l[k] (.slice ua un uc)) (by rfl) rfl (newsT (Blk.new w6 26 (tyCells l[k] (.slice ua un uc)))) oneY (by omega) hmx.out hby.out (by simp; omega) (w6.heap.size + 1) (by simp) ?_; intro gg cap w8 own8 hgrow hatg hltg; have hO8 := (hO6.alloc (.cells #[.int .i64 l[k].kind, .string l[k].name, .slice ua un uc] 26)).kept (kept_grown hgrow) (fun e => hvS e); have q8 : w8.cell? ⟨w.heap.size + 1 + 1, 2, none⟩ = some (.slice va vn vc) := hO8.cell 2; have f8 : w8.frozen? ⟨w.heap.size + 1 + 1, 2, none⟩ = false := hO8.frozen 2) | (go_simp; go_at_call 84; refine hcon.out.mono ?_; rintro e w6 ⟨u, rfl, hu, k6'⟩; obtain ⟨ua, un, uc, rfl⟩ := hu.slice; have k6 : Kept (fun _ => False) wr w6 := ((Kept.refl _ _).drew).trans k6'; have hO6 := H.out.o.kept k6 (fun h => h); have own6 := own_keptT H.out.own k6 (fun _ _ h => h); have gO6 : ∀ i, w6.cell? ⟨w.heap.size + 1 + 1, i, none⟩ = [Value.int .i64 kd, .string nm, .slice va vn vc][i]? := hO6.cell; have hvS : (Value.slice va vn vc).ownBlock ≠ some (w.heap.size + 2) := (fun e => by have := (own6.lt _ e).1; omega); have l6 := hO6.lt))
      all_goals
        have HX := Lib.hid (RC.step H.out hlt k6 (hu.mono (fun q _ h => h)) rfl _ own8 hgrow hatg)
        clear hO6 hO8 own6 own8 hgrow hu k6' hcon
        go_wp2_with fail
        go_roundw
        case rel => exact ⟨k + 1, _, _, by omega, by go_num, HX.out⟩
        case measure => simp [intOf]; omega
    · have hkk : k = l.length := by omega
      subst hkk
      go_wp2_with fail
      have bF := r3' (x := .int .i64 kd) (y := .string nm) (z := .slice va vn vc) H.out.r rfl
      have hml := tyl_of_row (ok := fun q => w.heap.size + 3 ≤ q) H.out.own (H.out.el.mono (fun _ _ h => h.1)) (fun g hg => (H.out.own.lt g hg).1)
      rw [H.out.mp, List.take_length] at hml
      refine bodyPost_ret (results_one Tryz.results84 rfl (load_ty (t := .mk kd nm l) bF)) rfl ⟨_, rfl, ?_, ?_⟩
      · exact (hml.frame (set3 (g := w.heap.size + 1) (fun q h => by omega))).mono (fun q _ h => by omega)
      · exact ((H.out.kp.setCell (p := ⟨w.heap.size + 1, 0, none⟩) (Or.inr (by show w.heap.size ≤ w.heap.size + 1; omega)) _).setCell (p := ⟨w.heap.size + 1, 1, none⟩) (Or.inr (by show w.heap.size ≤ w.heap.size + 1; omega)) _).setCell (p := ⟨w.heap.size + 1, 2, none⟩) (Or.inr (by show w.heap.size ≤ w.heap.size + 1; omega)) _
theorem rcopyTy_any {t : Ty} (hb : BdTy t) : RCpC t := by
  induction hb with
  | mk hn hl ih => exact rcopyTy_one ih hn
def CpyP (t : Tm) (w : World) (e : Ending) (w' : World) : Prop := ∃ (tk : Value) (E : List E3) (kk : Value), e = .returned (tmVal t tk kk) ∧ TyL (okb w.heap.size kk) w' t.ty.kids tk ∧ RowT w w.heap.size w' E kk ∧ E.map (·.1) = t.kids
def RClC (t : Tm) : Prop := ∀ (w : World) (ok : Nat → Prop) (tk kk : Value), TyL ok w t.ty.kids tk → TmL ok w t.kids kk → Calls Tryz.prog 42 #[tmVal t tk kk] w (CpyP t w)
set_option maxRecDepth 100000 in
set_option maxHeartbeats 8000000 in
theorem rcopies_any {l : List Tm} {ok : Nat → Prop} {w : World} {a : Option Addr} {n c : Nat} (IH : ∀ t, t ∈ l → RClC t) (hn1 : l.length ≤ 1000000) (hk : TmL ok w l (.slice a n c)) :
    Calls Tryz.prog 85 #[.slice a n c] w fun e w' => ∃ (E : List E3) (v : Value), e = .returned v ∧ RowT w w.heap.size w' E v ∧ E.map (·.1) = l := by
  have hn : n = l.length := hk.len
  subst hn
  have HIH := Lib.hid IH
  have HN1 := Lib.hid hn1
  have HAT := Lib.hid (fun W (k : Kept (fun _ => False) w W) => (hk.frame (Same.of_kept k (fun _ _ e => e))).at)
  clear IH hn1 hk
  go_enter Tryz.func85, Tryz.ntmps85
  go_wp2_with fail
  go_loopw [3, 4] (fun v i wr => ∃ (k : Nat) (E : List E3), k ≤ l.length ∧ i = .int .i64 k ∧ RowT w w.heap.size wr E v ∧ E.map (·.1) = l.take k) (fun v i _ => l.length - (intOf i).toNat)
  case atStart => exact ⟨0, [], Nat.zero_le _, rfl, RowT.nil (Kept.refl _ _), by simp⟩
  case round =>
    obtain ⟨k, E, hkl, rfl, h, hmp⟩ := hrel
    obtain ⟨va, vn, vc, rfl⟩ := h.tml.slice
    have hEk : E.length = k := by have := congrArg List.length hmp; simpa [Nat.min_eq_left hkl] using this
    have H := Lib.hid h
    have HM := Lib.hid hmp
    have HE := Lib.hid hEk
    clear h hmp hEk
    by_cases hlt : k < l.length
    · have hn2 := HN1.out
      have i1 : (k : Int) < (l.length : Int) := by omega
      have i2 : (k : Int) < 1000000 := by omega
      obtain ⟨g, off, ta, tn, tc, ma, mn, mc, rfl, _, lg, ⟨c0, c1, c2, c3, c4, c5, c6⟩, hty, htm⟩ := HAT.out wr H.out.kp k hlt
      have hcon := Lib.hid ((HIH.out _ (List.getElem_mem hlt)) wr ok _ _ hty htm)
      unfold tmVal at hcon
      obtain ⟨i28, hi28, hz28, hs28, hb28⟩ := info_tm
      have HI := Lib.hid hi28
      have HZ := Lib.hid hz28
      have HS := Lib.hid hs28
      have HB := Lib.hid hb28
      clear hty htm hn2 hi28 hz28 hs28 hb28
      go_wp2_with fail
      refine hcon.out.mono ?_
      rintro e w6 ⟨tk, F, kk, rfl, hty6, hr6, hm6⟩
      have htm6 : TmL (fun q => wr.heap.size ≤ q) w6 l[k].kids kk := by rw [← hm6]; exact hr6.tml
      obtain ⟨ua, un, uc, rfl⟩ := hty6.slice
      obtain ⟨ud, ue, uf, rfl⟩ := htm6.slice
      have k6 := hr6.kp
      have H6 := H.out.kept k6
      unfold tmVal
      go_wp2_with (at_builtin; refine wpList_append_lies _ rfl _ _ _ rfl w.heap.size 28 i28 _ 7 104 Tryz.underlying22 HI.out HZ.out HS.out HB.out rfl (by decide) (.slice va vn vc) E.length (flat E) rfl (H6.own.alloc _) ⟨w6.heap.size, 0, none⟩ 1 1 (tmCells l[k] (.slice ua un uc) (.slice ud ue uf)) rfl rfl (newsT (Blk.new w6 28 (tmCells l[k] (.slice ua un uc) (.slice ud ue uf)))) oneT (by omega) ?_ ?_ ?_ (w6.heap.size + 1) (by simp) ?_)
      · have := HE.out; unfold maxLen; omega
      · have := HE.out; omega
      · have := H6.kp.size; simp; omega
      · intro gg cap w8 own8 hgrow hatg hltg
        have HX := Lib.hid (RowT.step (Nat.le_refl _) H.out k6 H.out.kp.size (hty6.mono (fun q _ h => h.1)) htm6 own8 _ hgrow hatg rfl)
        clear own8 hgrow hty6 hr6 htm6 H6
        go_wp2_with fail
        go_roundw
        case rel => exact ⟨k + 1, _, by omega, by go_num, HX.out, by rw [List.map_append, HM.out, List.take_succ_eq_append_getElem hlt]; rfl⟩
        case measure => simp [intOf]; omega
    · have hkk : k = l.length := by omega
      subst hkk
      go_wp2_with fail
      go_ret
      exact ⟨E, _, rfl, H.out, by rw [HM.out, List.take_length]⟩
structure CT (w : World) (op : Int) (nm : ByteArray) (N : Int) (ty : Ty) (tk kk v : Value) (O : Nat) (W : World) : Prop where
  kp : Kept (fun _ => False) w W
  a : Blk W w.heap.size 28 [.int .i64 op, .string nm, .int .i64 N, .int .i64 ty.kind, .string ty.name, tk, kk]
  r : Blk W (w.heap.size + 1) 28 z27
  o : Blk W O 28 [.int .i64 op, .string nm, .int .i64 N, .int .i64 ty.kind, .string ty.name, v, .slice none 0 0]
  ho : w.heap.size + 2 ≤ O
  ty : TyL (fun q => w.heap.size + 2 ≤ q ∧ q ≠ O) W ty.kids v
theorem CT.late {w w4 : World} {op : Int} {nm : ByteArray} {N : Int} {ty : Ty} {tk kk v : Value} (K : Kept (fun _ => False) w w4) (bA : Blk w4 w.heap.size 28 [.int .i64 op, .string nm, .int .i64 N, .int .i64 ty.kind, .string ty.name, tk, kk]) (bR : Blk w4 (w.heap.size + 1) 28 z27) (hv : TyL (fun q => w.heap.size + 2 ≤ q) w4 ty.kids v) :
    CT w op nm N ty tk kk v w4.heap.size (w4.alloc (.cells #[.int .i64 op, .string nm, .int .i64 N, .int .i64 ty.kind, .string ty.name, v, .slice none 0 0] 28)) :=
  ⟨K.alloc _, bA.alloc _, bR.alloc _, Blk.new w4 28 _, by have := bR.lt; omega, (hv.mono (fun q hq h => ⟨h, by omega⟩)).frame (Same.alloc _ _)⟩
theorem CT.early {w w4 : World} {op : Int} {nm : ByteArray} {N : Int} {ty : Ty} {tk kk v : Value} {O : Nat} (K : Kept (fun _ => False) w w4) (bA : Blk w4 w.heap.size 28 [.int .i64 op, .string nm, .int .i64 N, .int .i64 ty.kind, .string ty.name, tk, kk]) (bR : Blk w4 (w.heap.size + 1) 28 z27) (bO : Blk w4 O 28 z27) (ho : w.heap.size + 2 ≤ O) (hv : TyL (fun q => w.heap.size + 2 ≤ q ∧ q ≠ O) w4 ty.kids v) :
    CT w op nm N ty tk kk v O (((((((w4.setCell ⟨O, 0, none⟩ (.int .i64 op)).setCell ⟨O, 1, none⟩ (.string nm)).setCell ⟨O, 2, none⟩ (.int .i64 N)).setCell ⟨O, 3, none⟩ (.int .i64 ty.kind)).setCell ⟨O, 4, none⟩ (.string ty.name)).setCell ⟨O, 5, none⟩ v).setCell ⟨O, 6, none⟩ (.slice none 0 0)) := by
  have n1 : w.heap.size ≠ O := by omega
  have n2 : w.heap.size + 1 ≠ O := by omega
  exact ⟨k7w K (Or.inr (by omega)), ((((((bA.set_other _ _ n1).set_other _ _ n1).set_other _ _ n1).set_other _ _ n1).set_other _ _ n1).set_other _ _ n1).set_other _ _ n1, ((((((bR.set_other _ _ n2).set_other _ _ n2).set_other _ _ n2).set_other _ _ n2).set_other _ _ n2).set_other _ _ n2).set_other _ _ n2, r7 bO rfl, ho, hv.frame (set7 (fun q hq => hq.2))⟩
theorem CT.kept {w W W' : World} {op : Int} {nm : ByteArray} {N : Int} {ty : Ty} {tk kk v : Value} {O : Nat} (h : CT w op nm N ty tk kk v O W) (k : Kept (fun _ => False) W W') : CT w op nm N ty tk kk v O W' :=
  ⟨h.kp.trans k, h.a.kept k (fun h => h), h.r.kept k (fun h => h), h.o.kept k (fun h => h), h.ho, h.ty.frame (Same.of_kept k (fun _ _ e => e))⟩
theorem CT.done {w W : World} {op : Int} {nm : ByteArray} {N : Int} {ty : Ty} {l : List Tm} {tk kk v u : Value} {O : Nat} {E : List E3} {base : Nat} (h : CT w op nm N ty tk kk v O W) (hb : base ≤ W.heap.size) (hO : O < base) (hu : W.ownsRow base 28 7 u E.length (flat E)) (hel : EL (okb base u) W E) (hm : E.map (·.1) = l) (hv : TyL (fun q => w.heap.size + 2 ≤ q ∧ q ≠ O ∧ u.ownBlock ≠ some q) W ty.kids v) (W2 : World)
    (hW2 : W2 = (((((((W.setCell ⟨O, 6, none⟩ u).setCell ⟨w.heap.size + 1, 0, none⟩ (.int .i64 op)).setCell ⟨w.heap.size + 1, 1, none⟩ (.string nm)).setCell ⟨w.heap.size + 1, 2, none⟩ (.int .i64 N)).setCell ⟨w.heap.size + 1, 3, none⟩ (.int .i64 ty.kind)).setCell ⟨w.heap.size + 1, 4, none⟩ (.string ty.name)).setCell ⟨w.heap.size + 1, 5, none⟩ v).setCell ⟨w.heap.size + 1, 6, none⟩ u) :
    Blk W2 (w.heap.size + 1) 28 (tmCells (.mk op nm N ty l) v u) ∧ TyL (okb w.heap.size u) W2 ty.kids v ∧ RowT w w.heap.size W2 E u := by
  subst hW2
  have n1 : w.heap.size + 1 ≠ O := by have := h.ho; omega
  have hub : ∀ g, u.ownBlock = some g → base ≤ g := fun g hg => (hu.lt g hg).1
  have kS : Kept (fun q => q = O ∨ q = w.heap.size + 1) W ((((((((W.setCell ⟨O, 6, none⟩ u).setCell ⟨w.heap.size + 1, 0, none⟩ (.int .i64 op)).setCell ⟨w.heap.size + 1, 1, none⟩ (.string nm)).setCell ⟨w.heap.size + 1, 2, none⟩ (.int .i64 N)).setCell ⟨w.heap.size + 1, 3, none⟩ (.int .i64 ty.kind)).setCell ⟨w.heap.size + 1, 4, none⟩ (.string ty.name)).setCell ⟨w.heap.size + 1, 5, none⟩ v).setCell ⟨w.heap.size + 1, 6, none⟩ u) :=
    k7w ((Kept.refl (fun q => q = O ∨ q = w.heap.size + 1) W).setCell (p := ⟨O, 6, none⟩) (Or.inl (Or.inl rfl)) u) (Or.inl (Or.inr rfl))
  have hho := h.ho
  refine ⟨r7 (h.r.set_other ⟨O, 6, none⟩ u n1) rfl, (hv.frame (Same.of_kept kS (fun q hq e => by rcases e with e | e <;> omega))).mono (fun q _ hq => ⟨by omega, hq.2.2⟩), k7w (h.kp.setCell (p := ⟨O, 6, none⟩) (Or.inr (by show w.heap.size ≤ O; omega)) u) (Or.inr (by omega)), ?_, ?_⟩
  · exact own_base (own_keptT hu kS (fun g hg e => by have := hub g hg; rcases e with e | e <;> omega)) (fun g hg => by have := hub g hg; omega)
  · exact (hel.frame (Same.of_kept kS (fun q hq e => by have := hq.1; rcases e with e | e <;> omega))).mono (fun q _ hq => ⟨by have := hq.1; omega, hq.2⟩)
set_option maxRecDepth 100000 in
set_option maxHeartbeats 8000000 in
theorem rcopy_one {op : Int} {nm : ByteArray} {N : Int} {ty : Ty} {l : List Tm} (hty : BdTy ty) (IH : ∀ u, u ∈ l → RClC u) (hn : l.length ≤ 1000000) : RClC (.mk op nm N ty l) := by
  intro w ok tk kk h1 h2
  have h1 : TyL ok w ty.kids tk := h1
  have h2 : TmL ok w l kk := h2
  obtain ⟨a, n, c, rfl⟩ := h1.slice
  obtain ⟨ma, mn, mc, rfl⟩ := h2.slice
  have HT := Lib.hid (fun W (k : Kept (fun _ => False) w W) => rcopyTy_any hty W ok _ (h1.frame (Same.of_kept k (fun _ _ e => e))))
  have HK := Lib.hid (fun W (k : Kept (fun _ => False) w W) => rcopies_any IH hn (h2.frame (Same.of_kept k (fun _ _ e => e))))
  unfold tyVal at HT
  change Calls Tryz.prog 42 #[.agg #[.int .i64 op, .string nm, .int .i64 N, .int .i64 ty.kind, .string ty.name, .slice a n c, .slice ma mn mc]] w _
  clear h1 h2 IH
  have bA : Blk ((w.alloc (.cells #[.int .i64 op, .string nm, .int .i64 N, .int .i64 ty.kind, .string ty.name, .slice a n c, .slice ma mn mc] 28)).alloc (.cells #[.int .i64 0, .string ⟨#[]⟩, .int .i64 0, .int .i64 0, .string ⟨#[]⟩, .slice none 0 0, .slice none 0 0] 28)) w.heap.size 28 [.int .i64 op, .string nm, .int .i64 N, .int .i64 ty.kind, .string ty.name, .slice a n c, .slice ma mn mc] := (Blk.new w 28 _).alloc _
  have bR : Blk ((w.alloc (.cells #[.int .i64 op, .string nm, .int .i64 N, .int .i64 ty.kind, .string ty.name, .slice a n c, .slice ma mn mc] 28)).alloc (.cells #[.int .i64 0, .string ⟨#[]⟩, .int .i64 0, .int .i64 0, .string ⟨#[]⟩, .slice none 0 0, .slice none 0 0] 28)) (w.heap.size + 1) 28 z27 := Blk.new' 28 _ (by simp)
  have K0 : Kept (fun _ => False) w ((w.alloc (.cells #[.int .i64 op, .string nm, .int .i64 N, .int .i64 ty.kind, .string ty.name, .slice a n c, .slice ma mn mc] 28)).alloc (.cells #[.int .i64 0, .string ⟨#[]⟩, .int .i64 0, .int .i64 0, .string ⟨#[]⟩, .slice none 0 0, .slice none 0 0] 28)) := ((Kept.refl _ _).alloc _).alloc _
  go_enter Tryz.func42, Tryz.ntmps42
  go_upto_region 1 with (fail)
  refine wp_gen (F := fun W3 => Kept (fun _ => False) w W3 ∧ W3.heap.size = w.heap.size + 2 ∧ Blk W3 w.heap.size 28 [.int .i64 op, .string nm, .int .i64 N, .int .i64 ty.kind, .string ty.name, .slice a n c, .slice ma mn mc] ∧ Blk W3 (w.heap.size + 1) 28 z27) ⟨K0, by simp, bA, bR⟩ ?_
  clear K0 bA bR
  rintro w1 ⟨K1, z1, bA, bR⟩
  have gA : ∀ i, w1.cell? ⟨w.heap.size, i, none⟩ = [Value.int .i64 op, .string nm, .int .i64 N, .int .i64 ty.kind, .string ty.name, .slice a n c, .slice ma mn mc][i]? := bA.cell
  have Z1 := Lib.hid z1
  have KK1 := Lib.hid K1
  have BA := Lib.hid bA
  have BR := Lib.hid bR
  have lA := bA.lt
  have lR := bR.lt
  have nA : w.heap.size ≠ w1.heap.size := by omega
  have nA2 : w1.heap.size ≠ w.heap.size := by omega
  clear z1 K1 bA bR
  have x0 : w1.cell? ⟨w.heap.size, 0, none⟩ = some (.int .i64 op) := gA 0
  have x1 : w1.cell? ⟨w.heap.size, 1, none⟩ = some (.string nm) := gA 1
  have x2 : w1.cell? ⟨w.heap.size, 2, none⟩ = some (.int .i64 N) := gA 2
  have x3 : w1.cell? ⟨w.heap.size, 3, none⟩ = some (.int .i64 ty.kind) := gA 3
  have x4 : w1.cell? ⟨w.heap.size, 4, none⟩ = some (.string ty.name) := gA 4
  have x5 : w1.cell? ⟨w.heap.size, 5, none⟩ = some (.slice a n c) := gA 5
  go_region_held3 (fun w' => w'.cell? ⟨w.heap.size, 0, none⟩ = some (.int .i64 op) ∧ w'.cell? ⟨w.heap.size, 1, none⟩ = some (.string nm) ∧ w'.cell? ⟨w.heap.size, 2, none⟩ = some (.int .i64 N) ∧ w'.cell? ⟨w.heap.size, 3, none⟩ = some (.int .i64 ty.kind) ∧ w'.cell? ⟨w.heap.size, 4, none⟩ = some (.string ty.name) ∧ w'.cell? ⟨w.heap.size, 5, none⟩ = some (.slice a n c)) (go_keep) (first | (go_at_call 84; refine (HT.out _ (by first | exact KK1.out.drew | exact KK1.out.drew.alloc _ | exact (KK1.out.alloc _).drew)).mono ?_; rintro e w4 ⟨v, rfl, hv, k4⟩; obtain ⟨va, vn, vc, rfl⟩ := hv.slice; have k5 : Kept (fun _ => False) w1 w4 := (by first | exact (Kept.refl _ _).drew.trans k4 | exact ((Kept.refl _ _).drew.alloc _).trans k4); have lA4 := (BA.out.kept k5 (fun h => h)).lt; (try (have bO : Blk w4 w1.heap.size 28 [.int .i64 0, .string ⟨#[]⟩, .int .i64 0, .int .i64 0, .string ⟨#[]⟩, .slice none 0 0, .slice none 0 0] := (by first | exact ((Blk.new w1 28 [.int .i64 0, .string ⟨#[]⟩, .int .i64 0, .int .i64 0, .string ⟨#[]⟩, .slice none 0 0, .slice none 0 0]).drew).kept k4 (fun h => h) | exact (Blk.new w1.drew 28 [.int .i64 0, .string ⟨#[]⟩, .int .i64 0, .int .i64 0, .string ⟨#[]⟩, .slice none 0 0, .slice none 0 0]).kept k4 (fun h => h)); have gO : ∀ i, w4.cell? ⟨w1.heap.size, i, none⟩ = [Value.int .i64 0, .string ⟨#[]⟩, .int .i64 0, .int .i64 0, .string ⟨#[]⟩, .slice none 0 0, .slice none 0 0][i]? := bO.cell; have fO : ∀ i, w4.frozen? ⟨w1.heap.size, i, none⟩ = false := bO.frozen; have lO := bO.lt)); have y0 : w4.cell? ⟨w.heap.size, 0, none⟩ = some (.int .i64 op) := (BA.out.kept k5 (fun h => h)).cell 0; have y1 : w4.cell? ⟨w.heap.size, 1, none⟩ = some (.string nm) := (BA.out.kept k5 (fun h => h)).cell 1; have y2 : w4.cell? ⟨w.heap.size, 2, none⟩ = some (.int .i64 N) := (BA.out.kept k5 (fun h => h)).cell 2; have y3 : w4.cell? ⟨w.heap.size, 3, none⟩ = some (.int .i64 ty.kind) := (BA.out.kept k5 (fun h => h)).cell 3; have y4 : w4.cell? ⟨w.heap.size, 4, none⟩ = some (.string ty.name) := (BA.out.kept k5 (fun h => h)).cell 4; have y5 : w4.cell? ⟨w.heap.size, 5, none⟩ = some (.slice a n c) := (BA.out.kept k5 (fun h => h)).cell 5))
  all_goals
    first
    | (have HX := Lib.hid (CT.late (KK1.out.trans k5) (BA.out.kept k5 (fun h => h)) (BR.out.kept k5 (fun h => h)) (hv.mono (fun q _ hq => by have := Z1.out; have hq2 : w1.heap.size ≤ q := hq; omega)))
       generalize hOO : w4.heap.size = O at *
       generalize w4.alloc (.cells #[.int .i64 op, .string nm, .int .i64 N, .int .i64 ty.kind, .string ty.name, .slice va vn vc, .slice none 0 0] 28) = w5 at *
       clear hOO)
    | (have HX := Lib.hid (CT.early (O := w1.heap.size) (KK1.out.trans k5) (BA.out.kept k5 (fun h => h)) (BR.out.kept k5 (fun h => h)) bO (by have := Z1.out; omega) (hv.mono (fun q _ hq => by have := Z1.out; have hq2 : w1.heap.size + 1 ≤ q := (by simpa using hq); omega)))
       generalize hOO : w1.heap.size = O at *
       generalize (((((((w4.setCell ⟨O, 0, none⟩ (.int .i64 op)).setCell ⟨O, 1, none⟩ (.string nm)).setCell ⟨O, 2, none⟩ (.int .i64 N)).setCell ⟨O, 3, none⟩ (.int .i64 ty.kind)).setCell ⟨O, 4, none⟩ (.string ty.name)).setCell ⟨O, 5, none⟩ (.slice va vn vc)).setCell ⟨O, 6, none⟩ (.slice none 0 0)) = w5 at *
       clear hOO)
  all_goals
    have h6 : Hid (Calls Tryz.prog 85 #[.slice ma mn mc] w5 fun e w' => ∃ (E : List E3) (v : Value), e = .returned v ∧ RowT w5 w5.heap.size w' E v ∧ E.map (·.1) = l) := Lib.hid (HK.out w5 HX.out.kp)
    clear HK HT hv KK1 Z1 BA BR k4 k5 gA x0 x1 x2 x3 x4 x5
    have gA5 : ∀ i, w5.cell? ⟨w.heap.size, i, none⟩ = [Value.int .i64 op, .string nm, .int .i64 N, .int .i64 ty.kind, .string ty.name, .slice a n c, .slice ma mn mc][i]? := HX.out.a.cell
    go_wp2_with fail
    refine h6.out.mono ?_
    rintro e w6 ⟨E, u, rfl, R6, hm6⟩
    have HX6 := Lib.hid (HX.out.kept R6.kp)
    have gO6 : ∀ i, w6.cell? ⟨O, i, none⟩ = [Value.int .i64 op, .string nm, .int .i64 N, .int .i64 ty.kind, .string ty.name, .slice va vn vc, .slice none 0 0][i]? := HX6.out.o.cell
    have fO6 : ∀ i, w6.frozen? ⟨O, i, none⟩ = false := HX6.out.o.frozen
    have gR6 : ∀ i, w6.cell? ⟨w.heap.size + 1, i, none⟩ = [Value.int .i64 0, .string ⟨#[]⟩, .int .i64 0, .int .i64 0, .string ⟨#[]⟩, .slice none 0 0, .slice none 0 0][i]? := HX6.out.r.cell
    have fR6 : ∀ i, w6.frozen? ⟨w.heap.size + 1, i, none⟩ = false := HX6.out.r.frozen
    have nO : O ≠ w.heap.size + 1 := by have := HX6.out.ho; omega
    have nO2 : w.heap.size + 1 ≠ O := by have := HX6.out.ho; omega
    have lO5 := HX.out.o.lt
    obtain ⟨ua, un, uc, rfl⟩ := R6.tml.slice
    have hv6 : TyL (fun q => w.heap.size + 2 ≤ q ∧ q ≠ O ∧ (Value.slice ua un uc).ownBlock ≠ some q) w6 ty.kids (.slice va vn vc) :=
      (HX.out.ty.mono (ok' := fun q => (w.heap.size + 2 ≤ q ∧ q ≠ O) ∧ q < w5.heap.size) (fun q hq h => ⟨h, hq⟩)).frame (Same.of_kept R6.kp (fun _ _ e => e)) |>.mono (fun q _ h => ⟨h.1.1, h.1.2, fun e => by have := (R6.own.lt q e).1; omega⟩)
    have HM := Lib.hid hm6
    have HD := Lib.hid (CT.done HX6.out R6.kp.size lO5 R6.own R6.el hm6 hv6 _ rfl)
    clear gA5 HX R6 hm6 hv6 h6 lO5
    go_wp2_with fail
    exact bodyPost_ret (results_one Tryz.results42 rfl (load_tm (t := .mk op nm N ty l) HD.out.1)) rfl ⟨_, E, _, rfl, HD.out.2.1, HD.out.2.2, HM.out⟩
theorem rcopy_any {t : Tm} (hb : BdTm t) : RClC t := by
  induction hb with
  | mk hn ht hl ih => exact rcopy_one ht ih hn
inductive Db where
  | fv (s : ByteArray)
  | bv (i : Nat)
  | nd (op N : Int) (ty : Ty) (l : List Db)
def upR (r : Nat → Nat) : Nat → Nat
  | 0 => 0
  | i + 1 => r i + 1
mutual
def ren (r : Nat → Nat) : Db → Db
  | .fv s => .fv s
  | .bv i => .bv (r i)
  | .nd op N ty l => .nd op N ty (rens (binderB op) r 0 l)
def rens (bi : Bool) (r : Nat → Nat) : Nat → List Db → List Db
  | _, [] => []
  | i, d :: l => ren (if bi && i == 1 then upR r else r) d :: rens bi r (i + 1) l
end
def upE (nm : ByteArray) (ρ : ByteArray → Db) : ByteArray → Db := fun s => if s = nm then .bv 0 else ren Nat.succ (ρ s)
mutual
def ev (ρ : ByteArray → Db) : Tm → Db
  | .mk op nm N ty l => if op = 20 then ρ nm else .nd op N ty (evs (binderB op) nm ρ 0 l)
def evs (bi : Bool) (nm : ByteArray) (ρ : ByteArray → Db) : Nat → List Tm → List Db
  | _, [] => []
  | i, t :: l => ev (if bi && i == 1 then upE nm ρ else ρ) t :: evs bi nm ρ (i + 1) l
end
mutual
def fr : Tm → List ByteArray
  | .mk op nm _ _ l => if op = 20 then [nm] else frs (binderB op) nm 0 l
def frs (bi : Bool) (nm : ByteArray) : Nat → List Tm → List ByteArray
  | _, [] => []
  | i, t :: l => (if bi && i == 1 then (fr t).filter (fun s => !decide (s = nm)) else fr t) ++ frs bi nm (i + 1) l
end
def mb (s : ByteArray) (l : List ByteArray) : Bool := l.any fun x => decide (x = s)
theorem mb_iff (s : ByteArray) (l : List ByteArray) : mb s l = true ↔ s ∈ l := by
  unfold mb; rw [List.any_eq_true]; constructor
  · rintro ⟨x, h1, h2⟩; rw [← of_decide_eq_true h2]; exact h1
  · intro h; exact ⟨s, h, by simp⟩
theorem mb_app (s : ByteArray) (l r : List ByteArray) : mb s (l ++ r) = (mb s l || mb s r) := by unfold mb; rw [List.any_append]
mutual
def frL (B : List ByteArray) : Tm → List ByteArray
  | .mk op nm _ _ l => if op = 20 then (if mb nm B then [] else [nm]) else frLs B (binderB op) nm 0 l
def frLs (B : List ByteArray) (bi : Bool) (nm : ByteArray) : Nat → List Tm → List ByteArray
  | _, [] => []
  | i, t :: l => frL (if bi && i == 1 then B ++ [nm] else B) t ++ frLs B bi nm (i + 1) l
end
theorem frL_eq : ∀ (t : Tm) (B : List ByteArray), frL B t = (fr t).filter (fun s => !mb s B) := by
  intro t
  induction t using Tm.rec (motive_2 := fun l => ∀ (B : List ByteArray) (bi : Bool) (nm : ByteArray) (i : Nat), frLs B bi nm i l = (frs bi nm i l).filter (fun s => !mb s B)) with
  | mk op nm N ty l ih =>
    intro B
    rw [frL, fr]
    by_cases h : op = 20
    · rw [if_pos h, if_pos h]
      cases hb : mb nm B <;> simp [hb]
    · rw [if_neg h, if_neg h]; exact ih _ _ _ _
  | nil => rename_i B bi nm i; rfl
  | cons t l iht ihl =>
    rename_i B bi nm i
    rw [frLs, frs, List.filter_append, ihl]
    congr 1
    cases hb : (bi && i == 1)
    · simp only [Bool.false_eq_true, if_false]; exact iht B
    · simp only [if_true]
      rw [iht, List.filter_filter]
      congr 1
      funext s
      rw [mb_app]
      have : mb s [nm] = decide (s = nm) := by simp [mb, eq_comm]
      rw [this]
      cases mb s B <;> simp
theorem ren_ren : ∀ (d : Db) (r q : Nat → Nat), ren r (ren q d) = ren (fun i => r (q i)) d := by
  intro d
  induction d using Db.rec (motive_2 := fun l => ∀ (bi : Bool) (r q : Nat → Nat) (i : Nat), rens bi r i (rens bi q i l) = rens bi (fun i => r (q i)) i l) with
  | fv s => intro r q; rfl
  | bv i => intro r q; rfl
  | nd op N ty l ih => intro r q; rw [ren, ren, ren, ih]
  | nil => rename_i bi r q i; rfl
  | cons d l ihd ihl =>
    rename_i bi r q i
    rw [rens, rens, rens, ihl]
    congr 1
    cases hb : (bi && i == 1)
    · simp only [Bool.false_eq_true, if_false]; exact ihd _ _
    · simp only [if_true]
      rw [ihd]
      congr 1
      funext i
      cases i <;> rfl
theorem upE_ren (nm : ByteArray) (ρ : ByteArray → Db) (r : Nat → Nat) : (fun s => ren (upR r) (upE nm ρ s)) = upE nm (fun s => ren r (ρ s)) := by
  funext s
  unfold upE
  by_cases h : s = nm
  · rw [if_pos h, if_pos h]; rfl
  · rw [if_neg h, if_neg h, ren_ren, ren_ren]; rfl
theorem ren_ev : ∀ (t : Tm) (ρ : ByteArray → Db) (r : Nat → Nat), ren r (ev ρ t) = ev (fun s => ren r (ρ s)) t := by
  intro t
  induction t using Tm.rec (motive_2 := fun l => ∀ (bi : Bool) (nm : ByteArray) (ρ : ByteArray → Db) (r : Nat → Nat) (i : Nat), rens bi r i (evs bi nm ρ i l) = evs bi nm (fun s => ren r (ρ s)) i l) with
  | mk op nm N ty l ih =>
    intro ρ r
    rw [ev, ev]
    by_cases h : op = 20
    · rw [if_pos h, if_pos h]
    · rw [if_neg h, if_neg h, ren, ih]
  | nil => rename_i bi nm ρ r i; rfl
  | cons t l iht ihl =>
    rename_i bi nm ρ r i
    rw [evs, evs, rens, ihl]
    congr 1
    cases hb : (bi && i == 1)
    · simp only [Bool.false_eq_true, if_false]; exact iht _ _
    · simp only [if_true]
      rw [iht, upE_ren]
theorem ev_cong : ∀ (t : Tm) (ρ ρ' : ByteArray → Db), (∀ s, s ∈ fr t → ρ s = ρ' s) → ev ρ t = ev ρ' t := by
  intro t
  induction t using Tm.rec (motive_2 := fun l => ∀ (bi : Bool) (nm : ByteArray) (ρ ρ' : ByteArray → Db) (i : Nat), (∀ s, s ∈ frs bi nm i l → ρ s = ρ' s) → evs bi nm ρ i l = evs bi nm ρ' i l) with
  | mk op nm N ty l ih =>
    intro ρ ρ' hh
    rw [fr] at hh
    rw [ev, ev]
    by_cases h : op = 20
    · rw [if_pos h] at hh
      rw [if_pos h, if_pos h]; exact hh nm (by simp)
    · rw [if_neg h] at hh
      rw [if_neg h, if_neg h, ih _ _ _ _ _ hh]
  | nil => rfl
  | cons t l iht ihl =>
    rename_i bi nm ρ ρ' i hh
    rw [frs] at hh
    rw [evs, evs, ihl bi nm ρ ρ' (i + 1) (fun s hs => hh s (List.mem_append_right _ hs))]
    congr 1
    cases hb : (bi && i == 1)
    · rw [hb] at hh
      simp only [Bool.false_eq_true, if_false] at hh ⊢
      exact iht _ _ (fun s hs => hh s (List.mem_append_left _ hs))
    · rw [hb] at hh
      simp only [if_true] at hh ⊢
      refine iht _ _ (fun s hs => ?_)
      unfold upE
      by_cases h : s = nm
      · rw [if_pos h, if_pos h]
      · rw [if_neg h, if_neg h, hh s (List.mem_append_left _ (List.mem_filter.2 ⟨hs, by simp [h]⟩))]
mutual
def bd (σ : ByteArray → Db) : Db → Db
  | .fv s => σ s
  | .bv i => .bv i
  | .nd op N ty l => .nd op N ty (bds (binderB op) σ 0 l)
def bds (bi : Bool) (σ : ByteArray → Db) : Nat → List Db → List Db
  | _, [] => []
  | i, d :: l => bd (if bi && i == 1 then (fun s => ren Nat.succ (σ s)) else σ) d :: bds bi σ (i + 1) l
end
theorem bd_ren : ∀ (d : Db) (σ : ByteArray → Db) (r : Nat → Nat), bd (fun s => ren r (σ s)) (ren r d) = ren r (bd σ d) := by
  intro d
  induction d using Db.rec (motive_2 := fun l => ∀ (bi : Bool) (σ : ByteArray → Db) (r : Nat → Nat) (i : Nat), bds bi (fun s => ren r (σ s)) i (rens bi r i l) = rens bi r i (bds bi σ i l)) with
  | fv s => intro σ r; rfl
  | bv i => intro σ r; rfl
  | nd op N ty l ih => intro σ r; rw [ren, bd, bd, ren, ih]
  | nil => rename_i bi σ r i; rfl
  | cons d l ihd ihl =>
    rename_i bi σ r i
    rw [rens, bds, bds, rens, ihl]
    congr 1
    cases hb : (bi && i == 1)
    · simp only [Bool.false_eq_true, if_false]; exact ihd _ _
    · simp only [if_true]
      rw [← ihd]
      congr 1
      funext s
      rw [ren_ren, ren_ren]; rfl
theorem bd_ev : ∀ (t : Tm) (ρ σ : ByteArray → Db), bd σ (ev ρ t) = ev (fun s => bd σ (ρ s)) t := by
  intro t
  induction t using Tm.rec (motive_2 := fun l => ∀ (bi : Bool) (nm : ByteArray) (ρ σ : ByteArray → Db) (i : Nat), bds bi σ i (evs bi nm ρ i l) = evs bi nm (fun s => bd σ (ρ s)) i l) with
  | mk op nm N ty l ih =>
    intro ρ σ
    rw [ev, ev]
    by_cases h : op = 20
    · rw [if_pos h, if_pos h]
    · rw [if_neg h, if_neg h, bd, ih]
  | nil => rename_i bi nm ρ σ i; rfl
  | cons t l iht ihl =>
    rename_i bi nm ρ σ i
    rw [evs, evs, bds, ihl]
    congr 1
    cases hb : (bi && i == 1)
    · simp only [Bool.false_eq_true, if_false]; exact iht _ _
    · simp only [if_true]
      rw [iht]
      congr 1
      funext s
      unfold upE
      by_cases h : s = nm
      · rw [if_pos h, if_pos h]; rfl
      · rw [if_neg h, if_neg h, bd_ren]
def dbT (t : Tm) : Db := ev .fv t
theorem ev_dbT (ρ : ByteArray → Db) (t : Tm) : ev ρ t = bd ρ (dbT t) := by
  unfold dbT; rw [bd_ev]; rfl
theorem ev_alike {t u : Tm} (h : dbT t = dbT u) (ρ : ByteArray → Db) : ev ρ t = ev ρ u := by rw [ev_dbT, ev_dbT, h]
mutual
def frD : Db → List ByteArray
  | .fv s => [s]
  | .bv _ => []
  | .nd _ _ _ l => frDs l
def frDs : List Db → List ByteArray
  | [] => []
  | d :: l => frD d ++ frDs l
end
mutual
def szD : Db → Nat
  | .nd _ _ _ l => szDs l + 1
  | _ => 1
def szDs : List Db → Nat
  | [] => 0
  | d :: l => szD d + szDs l
end
mutual
def dpD : Db → Nat
  | .nd _ _ _ l => dpDs l + 1
  | _ => 1
def dpDs : List Db → Nat
  | [] => 0
  | d :: l => max (dpD d) (dpDs l)
end
theorem frD_ren : ∀ (d : Db) (r : Nat → Nat), frD (ren r d) = frD d := by
  intro d
  induction d using Db.rec (motive_2 := fun l => ∀ (bi : Bool) (r : Nat → Nat) (i : Nat), frDs (rens bi r i l) = frDs l) with
  | fv s => intro r; rfl
  | bv i => intro r; rfl
  | nd op N ty l ih => intro r; rw [ren, frD, frD, ih]
  | nil => rename_i bi r i; rfl
  | cons d l ihd ihl => rename_i bi r i; rw [rens, frDs, frDs, ihd, ihl]
theorem szD_ren : ∀ (d : Db) (r : Nat → Nat), szD (ren r d) = szD d := by
  intro d
  induction d using Db.rec (motive_2 := fun l => ∀ (bi : Bool) (r : Nat → Nat) (i : Nat), szDs (rens bi r i l) = szDs l) with
  | fv s => intro r; rfl
  | bv i => intro r; rfl
  | nd op N ty l ih => intro r; rw [ren, szD, szD, ih]
  | nil => rename_i bi r i; rfl
  | cons d l ihd ihl => rename_i bi r i; rw [rens, szDs, szDs, ihd, ihl]
theorem dpD_ren : ∀ (d : Db) (r : Nat → Nat), dpD (ren r d) = dpD d := by
  intro d
  induction d using Db.rec (motive_2 := fun l => ∀ (bi : Bool) (r : Nat → Nat) (i : Nat), dpDs (rens bi r i l) = dpDs l) with
  | fv s => intro r; rfl
  | bv i => intro r; rfl
  | nd op N ty l ih => intro r; rw [ren, dpD, dpD, ih]
  | nil => rename_i bi r i; rfl
  | cons d l ihd ihl => rename_i bi r i; rw [rens, dpDs, dpDs, ihd, ihl]
def look : List (ByteArray × Tm) → ByteArray → Option Tm
  | [], _ => none
  | b :: l, s => if b.1 = s then some b.2 else look l s
theorem look_app (s : ByteArray) (l r : List (ByteArray × Tm)) : look (l ++ r) s = (match look l s with | some u => some u | none => look r s) := by
  induction l with
  | nil => rfl
  | cons b l ih =>
    rw [List.cons_append, look, look, ih]
    by_cases h : b.1 = s
    · rw [if_pos h, if_pos h]
    · rw [if_neg h, if_neg h]
def remG (x : ByteArray) (F : List ByteArray) : List (ByteArray × Tm) → List (ByteArray × Tm) → List (ByteArray × Tm)
  | out, [] => out
  | out, b :: l => if (look out b.1).isSome || decide (b.1 = x) || !mb b.1 F then remG x F out l else remG x F (out ++ [b]) l
def remL (l : List (ByteArray × Tm)) (x : ByteArray) (F : List ByteArray) : List (ByteArray × Tm) := remG x F [] l
theorem remG_look (x : ByteArray) (F : List ByteArray) (s : ByteArray) : ∀ (l out : List (ByteArray × Tm)), look (remG x F out l) s = (match look out s with | some u => some u | none => if s = x ∨ mb s F = false then none else look l s)
  | [], out => by
    rw [remG]
    cases h : look out s
    · simp [look]
    · rfl
  | b :: l, out => by
    rw [remG]
    split
    · rename_i h
      rw [remG_look x F s l out]
      cases ho : look out s with
      | some u => rfl
      | none =>
        simp only
        by_cases hs : s = x ∨ mb s F = false
        · rw [if_pos hs, if_pos hs]
        · rw [if_neg hs, if_neg hs, look]
          rw [if_neg ?_]
          intro e
          subst e
          simp only [Bool.or_eq_true, ho, Option.isSome_none, Bool.false_eq_true, false_or, decide_eq_true_eq, Bool.not_eq_true'] at h
          exact hs h
    · rename_i h
      rw [remG_look x F s l (out ++ [b]), look_app]
      cases ho : look out s with
      | some u => rfl
      | none =>
        simp only [look]
        simp only [Bool.or_eq_true, Bool.not_eq_true, not_or, decide_eq_true_eq, Bool.not_eq_true', Bool.not_eq_false] at h
        by_cases hb : b.1 = s
        · subst hb
          simp only [if_true]
          rw [if_neg (by rintro (e | e); exact h.1.2 e; rw [h.2] at e; cases e)]
        · simp only [if_neg hb]
theorem remL_look (x : ByteArray) (F : List ByteArray) (s : ByteArray) (l : List (ByteArray × Tm)) : look (remL l x F) s = if s = x ∨ mb s F = false then none else look l s := by
  unfold remL; rw [remG_look]; rfl
def frB : List (ByteArray × Tm) → List ByteArray
  | [] => []
  | b :: l => fr b.2 ++ frB l
theorem frB_mem {l : List (ByteArray × Tm)} {s x : ByteArray} {u : Tm} (h : look l s = some u) (hx : x ∈ fr u) : x ∈ frB l := by
  induction l with
  | nil => cases h
  | cons b l ih =>
    rw [look] at h
    rw [frB]
    by_cases hb : b.1 = s
    · rw [if_pos hb] at h
      cases h
      exact List.mem_append_left _ hx
    · rw [if_neg hb] at h
      exact List.mem_append_right _ (ih h)
def nameT (s : ByteArray) : Tm := .mk 20 s 0 ty0 []
section
variable (FS : ByteArray → List ByteArray → ByteArray)
def newN (x : ByteArray) (body : Tm) (l : List (ByteArray × Tm)) : ByteArray :=
  if mb x (frB (remL l x (fr body))) then FS x (fr body ++ frB (remL l x (fr body))) else x
def inner (x : ByteArray) (body : Tm) (l : List (ByteArray × Tm)) : List (ByteArray × Tm) :=
  if mb x (frB (remL l x (fr body))) then remL l x (fr body) ++ [(x, nameT (newN FS x body l))] else remL l x (fr body)
mutual
def subT : Tm → List (ByteArray × Tm) → Tm
  | .mk op nm N ty ks, l =>
    if op = 20 then (match look l nm with | some u => u | none => .mk op nm N ty ks)
    else if binderB op then .mk op (newN FS nm (ks.getD 1 (nameT nm)) l) N ty (subK true l (inner FS nm (ks.getD 1 (nameT nm)) l) 0 ks)
    else .mk op nm N ty (subK false l l 0 ks)
def subK (bi : Bool) (l inn : List (ByteArray × Tm)) : Nat → List Tm → List Tm
  | _, [] => []
  | i, t :: r => subT t (if bi && i == 1 then inn else l) :: subK bi l inn (i + 1) r
end
end
def evB (ρ : ByteArray → Db) (l : List (ByteArray × Tm)) : ByteArray → Db := fun s => match look l s with | some u => ev ρ u | none => ρ s
theorem nameT_ev (ρ : ByteArray → Db) (s : ByteArray) : ev ρ (nameT s) = ρ s := by unfold nameT; rw [ev, if_pos rfl]
theorem remL_frB_sub {l : List (ByteArray × Tm)} {x y : ByteArray} {F : List ByteArray} (h : y ∈ frB (remL l x F)) : y ∈ frB l := by
  have : ∀ (r out : List (ByteArray × Tm)), y ∈ frB (remG x F out r) → y ∈ frB out ∨ y ∈ frB r := by
    intro r
    induction r with
    | nil => intro out h; exact Or.inl h
    | cons b r ih =>
      intro out h
      rw [remG] at h
      rw [frB]
      split at h
      · rcases ih _ h with h | h
        · exact Or.inl h
        · exact Or.inr (List.mem_append_right _ h)
      · rcases ih _ h with h | h
        · have e : ∀ (o : List (ByteArray × Tm)), frB (o ++ [b]) = frB o ++ fr b.2 := by
            intro o
            induction o with
            | nil => simp [frB]
            | cons c o ih => rw [List.cons_append, frB, ih, frB, List.append_assoc]
          rw [e] at h
          rcases List.mem_append.1 h with h | h
          · exact Or.inl h
          · exact Or.inr (List.mem_append_left _ h)
        · exact Or.inr (List.mem_append_right _ h)
  rcases this l [] h with h | h
  · cases h
  · exact h
theorem inner_ev {FS : ByteArray → List ByteArray → ByteArray} {x : ByteArray} {body : Tm} {l : List (ByteArray × Tm)} (hFS : mb x (frB (remL l x (fr body))) = true → mb (FS x (fr body ++ frB (remL l x (fr body)))) (fr body ++ frB (remL l x (fr body))) = false) (ρ : ByteArray → Db) (y : ByteArray) (hy : y ∈ fr body) :
    evB (upE (newN FS x body l) ρ) (inner FS x body l) y = upE x (evB ρ l) y := by
  have hyF : mb y (fr body) = true := (mb_iff _ _).2 hy
  have key : ∀ (z : ByteArray), (∀ u, look (remL l x (fr body)) y = some u → z ∉ fr u) → ∀ u, look (remL l x (fr body)) y = some u → ev (upE z ρ) u = ren Nat.succ (ev ρ u) := by
    intro z hz u hu
    rw [ren_ev]
    apply ev_cong
    intro s hs
    unfold upE
    rw [if_neg]
    rintro rfl
    exact hz u hu hs
  unfold newN inner
  cases hc : mb x (frB (remL l x (fr body)))
  · simp only [Bool.false_eq_true, if_false]
    unfold evB
    rw [remL_look]
    by_cases hyx : y = x
    · rw [if_pos (Or.inl hyx)]
      unfold upE; rw [if_pos hyx, if_pos hyx]
    · rw [if_neg (by rintro (e | e); exact hyx e; rw [hyF] at e; cases e)]
      have : upE x (fun s => match look l s with | some u => ev ρ u | none => ρ s) y = ren Nat.succ (match look l y with | some u => ev ρ u | none => ρ y) := by unfold upE; rw [if_neg hyx]
      rw [this]
      cases hl : look l y with
      | none => simp only; unfold upE; rw [if_neg hyx]
      | some u =>
        simp only
        refine key x (fun v hv hx => ?_) u (by rw [remL_look, if_neg (by rintro (e | e); exact hyx e; rw [hyF] at e; cases e), hl])
        have := frB_mem hv hx
        rw [← mb_iff, hc] at this; cases this
  · simp only [if_true]
    have hz := hFS hc
    generalize hzz : FS x (fr body ++ frB (remL l x (fr body))) = z at *
    rw [mb_app, Bool.or_eq_false_iff] at hz
    unfold evB
    rw [look_app, remL_look]
    by_cases hyx : y = x
    · rw [if_pos (Or.inl hyx)]
      simp only [look]
      rw [if_pos hyx.symm]
      simp only
      rw [nameT_ev]
      have e2 : newN FS x body l = z := by unfold newN; rw [if_pos hc]; exact hzz
      rw [e2]
      unfold upE; rw [if_pos hyx, if_pos rfl]
    · rw [if_neg (by rintro (e | e); exact hyx e; rw [hyF] at e; cases e)]
      have : upE x (fun s => match look l s with | some u => ev ρ u | none => ρ s) y = ren Nat.succ (match look l y with | some u => ev ρ u | none => ρ y) := by unfold upE; rw [if_neg hyx]
      rw [this]
      cases hl : look l y with
      | none =>
        simp only [look]
        rw [if_neg (Ne.symm hyx)]
        simp only
        unfold upE; rw [if_neg]
        rintro rfl
        rw [hyF] at hz; cases hz.1
      | some u =>
        simp only
        refine key z (fun v hv hx => ?_) u (by rw [remL_look, if_neg (by rintro (e | e); exact hyx e; rw [hyF] at e; cases e), hl])
        have := frB_mem hv hx
        rw [← mb_iff, hz.2] at this; cases this
def GoodFS (FS : ByteArray → List ByteArray → ByteArray) (M : Nat) : Prop := ∀ x U, U.length ≤ M → mb (FS x U) U = false
theorem frs_len : ∀ (t : Tm), (fr t).length ≤ tmN t := by
  intro t
  induction t using Tm.rec (motive_2 := fun l => ∀ (bi : Bool) (nm : ByteArray) (i : Nat), (frs bi nm i l).length ≤ tmNs l) with
  | mk op nm N ty l ih =>
    rw [fr, tmN]
    split
    · simp
    · have := ih (binderB op) nm 0; omega
  | nil => rename_i bi nm i; exact Nat.le_refl _
  | cons t l iht ihl =>
    rename_i bi nm i
    rw [frs, tmNs, List.length_append]
    have := ihl bi nm (i + 1)
    split
    · have := List.length_filter_le (fun s => !decide (s = nm)) (fr t); omega
    · omega
theorem frB_app (a b : List (ByteArray × Tm)) : frB (a ++ b) = frB a ++ frB b := by
  induction a with
  | nil => rfl
  | cons c a ih => rw [List.cons_append, frB, ih, frB, List.append_assoc]
theorem remG_len (x : ByteArray) (F : List ByteArray) : ∀ (l out : List (ByteArray × Tm)), (frB (remG x F out l)).length ≤ (frB out).length + (frB l).length
  | [], out => by rw [remG]; exact Nat.le_add_right _ _
  | b :: l, out => by
    rw [remG, frB, List.length_append]
    split
    · have := remG_len x F l out; omega
    · have := remG_len x F l (out ++ [b])
      rw [frB_app, List.length_append] at this
      have e : (frB [b]).length = (fr b.2).length := by rw [frB, frB, List.append_nil]
      omega
theorem remL_len (x : ByteArray) (F : List ByteArray) (l : List (ByteArray × Tm)) : (frB (remL l x F)).length ≤ (frB l).length := by
  have := remG_len x F l []
  unfold remL
  exact Nat.le_trans this (by show 0 + _ ≤ _; omega)
theorem fr_nameT (s : ByteArray) : fr (nameT s) = [s] := by unfold nameT; rw [fr, if_pos rfl]
theorem inner_len (FS : ByteArray → List ByteArray → ByteArray) (x : ByteArray) (body : Tm) (l : List (ByteArray × Tm)) : (frB (inner FS x body l)).length ≤ (frB l).length + 1 := by
  have := remL_len x (fr body) l
  unfold inner
  split
  · rw [frB_app, List.length_append, frB, frB, fr_nameT]; simp; omega
  · omega
theorem ev_sub {FS : ByteArray → List ByteArray → ByteArray} {M : Nat} (hFS : GoodFS FS M) : ∀ (t : Tm) (l : List (ByteArray × Tm)) (ρ : ByteArray → Db), tmN t + (frB l).length ≤ M → ev ρ (subT FS t l) = ev (evB ρ l) t := by
  intro t
  induction t using Tm.rec (motive_2 := fun ks => ∀ (bi : Bool) (nm z : ByteArray) (l inn : List (ByteArray × Tm)) (ρ : ByteArray → Db) (i : Nat), tmNs ks + (frB l).length ≤ M → (∀ (j : Nat) (t : Tm), ks[j]? = some t → (bi && (i + j) == 1) = true → tmN t + (frB inn).length ≤ M ∧ ∀ s, s ∈ fr t → evB (upE z ρ) inn s = upE nm (evB ρ l) s) → evs bi z ρ i (subK FS bi l inn i ks) = evs bi nm (evB ρ l) i ks) with
  | mk op nm N ty ks ih =>
    intro l ρ hM
    rw [tmN] at hM
    rw [subT]
    by_cases h : op = 20
    · rw [if_pos h]
      rw [ev, if_pos h]
      unfold evB
      cases look l nm with
      | none => simp only; rw [ev, if_pos h]
      | some u => rfl
    · rw [if_neg h]
      cases hb : binderB op
      · simp only [Bool.false_eq_true, if_false]
        rw [ev, ev, if_neg h, if_neg h, hb, ih false nm nm l l ρ 0 (by omega) (fun j t _ e => by cases e)]
      · simp only [if_true]
        rw [ev, ev, if_neg h, if_neg h, hb, ih true nm (newN FS nm (ks.getD 1 (nameT nm)) l) l (inner FS nm (ks.getD 1 (nameT nm)) l) ρ 0 (by omega) (fun j t hj e => ?_)]
        have hj1 : j = 1 := by simpa using e
        subst hj1
        have e : ks.getD 1 (nameT nm) = t := by rw [List.getD_eq_getElem?_getD, hj]; rfl
        rw [e]
        have hle : tmN t ≤ tmNs ks := by
          have : ∀ (ks : List Tm) (i : Nat), ks[i]? = some t → tmN t ≤ tmNs ks := by
            intro ks
            induction ks with
            | nil => intro i h; simp at h
            | cons a ks ih =>
              intro i h
              rw [tmNs]
              cases i with
              | zero => simp at h; subst h; omega
              | succ i => have := ih i (by simpa using h); omega
          exact this ks 1 hj
        refine ⟨by have := inner_len FS nm t l; omega, fun s hs => inner_ev (fun _ => hFS _ _ ?_) ρ s hs⟩
        rw [List.length_append]
        have h1 := frs_len t
        have h2 := remL_len nm (fr t) l
        omega
  | nil => rfl
  | cons t ks iht ihl =>
    rename_i bi nm z l inn ρ i hM hin
    rw [tmNs] at hM
    rw [subK, evs, evs, ihl bi nm z l inn ρ (i + 1) (by omega) (fun j t hj e => hin (j + 1) t (by simpa using hj) (by rw [show i + (j + 1) = i + 1 + j by omega]; exact e))]
    congr 1
    cases hb : (bi && i == 1)
    · simp only [Bool.false_eq_true, if_false]; exact iht _ _ (by omega)
    · simp only [if_true]
      obtain ⟨h1, h2⟩ := hin 0 t rfl (by rw [Nat.add_zero]; exact hb)
      rw [iht _ _ h1]
      exact ev_cong _ _ _ h2
end Go.Proofs.YtfhedienjnfdcaaGreatDoor
