/- What this claim needs besides the texts that it shares with TermBack's. -/
import Derived.Test.YtckjlliobebodaaGreatDoorBd0
import Derived.Test.YtckjlliobebodaaGreatDoorBd1
import Derived.Test.YtckjlliobebodaaGreatDoorBd2
import Derived.Test.YtckjlliobebodaaGreatDoorBd3
import Derived.Test.YtckjlliobebodaaGreatDoorBd4
import Derived.Test.YtckjlliobebodaaGreatDoorBd5
import Derived.Test.YtckjlliobebodaaGreatDoorBd6
import Derived.Test.YtckjlliobebodaaGreatDoorBd7
import Derived.Test.YtckjlliobebodaaGreatDoorBd8
import Derived.Test.YtckjlliobebodaaGreatDoorBd9
import Derived.Test.YtckjlliobebodaaGreatDoorBd10
import Derived.Test.YtckjlliobebodaaGreatDoorBd11
import Derived.Test.YtckjlliobebodaaGreatDoorBd12
import Derived.Test.YtckjlliobebodaaGreatDoorBd13
import Derived.Test.YtckjlliobebodaaGreatDoorBd14
import Derived.Test.YtckjlliobebodaaGreatDoorBd15
import Derived.Test.YtckjlliobebodaaGreatDoorBd16
import Derived.Test.YtckjlliobebodaaGreatDoorBd17
import Derived.Test.YtckjlliobebodaaGreatDoorBd18
import Derived.Test.YtckjlliobebodaaGreatDoorBd19
import Derived.Test.YtckjlliobebodaaGreatDoorBd20
import Derived.Test.YtckjlliobebodaaGreatDoorBd21
import Derived.Test.YtckjlliobebodaaGreatDoorBd22
import Derived.Test.YtckjlliobebodaaGreatDoorBd23
import Derived.Test.YtckjlliobebodaaGreatDoorBd24
import Derived.Test.YtckjlliobebodaaGreatDoorBd25
import Derived.Test.YtckjlliobebodaaGreatDoorBd26
import Derived.Test.YtckjlliobebodaaGreatDoorProg
import Derived.Test.YtckjlliobebodaaGreatDoorRows
import Derived.Test.YtckjlliobebodaaGreatDoorCards
import Derived.Test.YtckjlliobebodaaGreatDoorTie
import Derived.Deep.RegionLaw
import Derived.Laws.IdiomStrings
import Derived.Carry
import Derived.Deep.RegionHeld
set_option linter.unusedVariables false
set_option linter.unusedSimpArgs false
namespace Go.Proofs.YtckjlliobebodaaGreatDoor
open Go.RowKit
mutual
def tmD : Tm → Nat
  | .mk _ _ _ _ l => tmDs l + 1
def tmDs : List Tm → Nat
  | [] => 0
  | t :: l => max (tmD t) (tmDs l)
end
theorem tmNs_app (a b : List Tm) : tmNs (a ++ b) = tmNs a + tmNs b := by
  induction a with
  | nil => simp [tmNs]
  | cons t a ih => simp only [List.cons_append, tmNs, ih]; omega
theorem tmDs_app (a b : List Tm) : tmDs (a ++ b) = max (tmDs a) (tmDs b) := by
  induction a with
  | nil => simp [tmDs]
  | cons t a ih => simp only [List.cons_append, tmDs, ih]; omega
theorem tmNs_snoc (l : List Tm) (j : Nat) (h : j < l.length) : tmNs (l.take (j + 1)) = tmNs (l.take j) + tmN l[j] := by
  rw [List.take_succ_eq_append_getElem h, tmNs_app]; simp [tmNs]
theorem tmDs_snoc (l : List Tm) (j : Nat) (h : j < l.length) : tmDs (l.take (j + 1)) = max (tmDs (l.take j)) (tmD l[j]) := by
  rw [List.take_succ_eq_append_getElem h, tmDs_app]; simp [tmDs]
theorem tmNs_take (l : List Tm) (j : Nat) : tmNs (l.take j) ≤ tmNs l := by
  have := tmNs_app (l.take j) (l.drop j)
  rw [List.take_append_drop] at this; omega
theorem tmNs_len (l : List Tm) : l.length ≤ tmNs l := by
  induction l with
  | nil => simp
  | cons t l ih => cases t; simp only [tmNs, tmN, List.length_cons]; omega
theorem tmD_le (t : Tm) : tmD t ≤ tmN t := by
  induction t using Tm.rec (motive_2 := fun l => tmDs l ≤ tmNs l) with
  | mk op nm N ty l ih => simp only [tmD, tmN]; omega
  | nil => simp [tmDs, tmNs]
  | cons t l iht ihl => simp only [tmDs, tmNs]; omega
def SzC (t : Tm) : Prop := ∀ (w : World) (ok : Nat → Prop) (tk kk : Value), tmN t ≤ 100000 → TyL ok w t.ty.kids tk → TmL ok w t.kids kk →
  Calls Tryz.prog 54 #[tmVal t tk kk] w fun e w' => e = .returned (.tuple #[.int .i64 (tmN t), .int .i64 (tmD t)]) ∧ Kept (fun _ => False) w w'
set_option maxRecDepth 100000 in
set_option maxHeartbeats 8000000 in
theorem size_leaf {op : Int} {nm : ByteArray} {N : Int} {k : Int} {tnm : ByteArray} {a : Option Addr} {n c' : Nat} {ma : Option Addr} {mc : Nat} {w : World} :
    Calls Tryz.prog 54 #[.agg #[.int .i64 op, .string nm, .int .i64 N, .int .i64 k, .string tnm, .slice a n c', .slice ma 0 mc]] w fun e w' => e = .returned (.tuple #[.int .i64 1, .int .i64 1]) ∧ Kept (fun _ => False) w w' := by
  have K1 : Kept (fun _ => False) w (w.alloc (.cells #[.int .i64 op, .string nm, .int .i64 N, .int .i64 k, .string tnm, .slice a n c', .slice ma 0 mc] 27)) := (Kept.refl _ _).alloc _
  go_enter Tryz.func54, Tryz.ntmps54
  go_wp2_with fail
  go_loop [11, 2, 3] (fun i m d => i = .int .i64 0 ∧ m = .int .i64 0 ∧ d = .int .i64 0) (fun i _ _ => 0)
  case atStart => exact ⟨rfl, rfl, rfl⟩
  case round =>
    obtain ⟨rfl, rfl, rfl⟩ := hrel
    go_wp2_with fail
    go_ret2
    exact ⟨rfl, K1⟩
set_option maxRecDepth 100000 in
set_option maxHeartbeats 8000000 in
theorem size_mk {ok : Nat → Prop} {op : Int} {nm : ByteArray} {N : Int} {k : Int} {tnm : ByteArray} {l : List Tm} {a : Option Addr} {n c' : Nat} {b off mc : Nat} {w : World} (IH : ∀ t, t ∈ l → SzC t) (hN : tmNs l ≤ 100000) (K M : Nat → Value) (hb : ok b)
    (hcell : ∀ i (h : i < l.length), w.cell? ⟨b, off + i * 7, none⟩ = some (.int .i64 l[i].op) ∧ w.cell? ⟨b, off + i * 7 + 1, none⟩ = some (.string l[i].name) ∧ w.cell? ⟨b, off + i * 7 + 2, none⟩ = some (.int .i64 l[i].n) ∧ w.cell? ⟨b, off + i * 7 + 3, none⟩ = some (.int .i64 l[i].ty.kind) ∧ w.cell? ⟨b, off + i * 7 + 4, none⟩ = some (.string l[i].ty.name) ∧ w.cell? ⟨b, off + i * 7 + 5, none⟩ = some (K i) ∧ w.cell? ⟨b, off + i * 7 + 6, none⟩ = some (M i))
    (hkk : ∀ i (h : i < l.length), TyL ok w l[i].ty.kids (K i)) (hm : ∀ i (h : i < l.length), TmL ok w l[i].kids (M i)) :
    Calls Tryz.prog 54 #[.agg #[.int .i64 op, .string nm, .int .i64 N, .int .i64 k, .string tnm, .slice a n c', .slice (some ⟨b, off, none⟩) l.length mc]] w fun e w' => e = .returned (.tuple #[.int .i64 ((tmNs l + 1 : Nat) : Int), .int .i64 ((tmDs l + 1 : Nat) : Int)]) ∧ Kept (fun _ => False) w w' := by
  have K1 : Kept (fun _ => False) w (w.alloc (.cells #[.int .i64 op, .string nm, .int .i64 N, .int .i64 k, .string tnm, .slice a n c', .slice (some ⟨b, off, none⟩) l.length mc] 27)) := (Kept.refl _ _).alloc _
  have HIH := Lib.hid IH
  have HC := Lib.hid hcell
  have HK := Lib.hid hkk
  have HM := Lib.hid hm
  have hlen := tmNs_len l
  have hl9 : (l.length : Int) < 100001 := by omega
  have HNN := Lib.hid hN
  have HD : Hid (∀ j, tmDs (l.take j) ≤ tmNs (l.take j)) := Lib.hid (fun j => by
    have : ∀ m : List Tm, tmDs m ≤ tmNs m := by
      intro m
      induction m with
      | nil => simp [tmDs, tmNs]
      | cons t m ih => have := tmD_le t; simp only [tmDs, tmNs]; omega
    exact this _)
  clear IH hcell hkk hm hN hlen
  go_enter Tryz.func54, Tryz.ntmps54
  go_wp2_with fail
  generalize w.alloc (.cells #[.int .i64 op, .string nm, .int .i64 N, .int .i64 k, .string tnm, .slice a n c', .slice (some ⟨b, off, none⟩) l.length mc] 27) = w1 at *
  go_loopw [11, 2, 3] (fun i m d wr => ∃ j : Nat, j ≤ l.length ∧ i = .int .i64 j ∧ m = .int .i64 (tmNs (l.take j)) ∧ d = .int .i64 (tmDs (l.take j)) ∧ Kept (fun _ => False) w1 wr) (fun i _ _ _ => l.length - (intOf i).toNat)
  case atStart => exact ⟨0, Nat.zero_le _, rfl, rfl, rfl, Kept.refl _ _⟩
  case round =>
    obtain ⟨j, hj, rfl, rfl, rfl, kr⟩ := hrel
    by_cases hlt : j < l.length
    · have KR := K1.trans kr
      have c0 := (Same.of_kept (ok := ok) KR (fun k h e => e)).cell hb (HC.out j hlt).1
      have c1 := (Same.of_kept (ok := ok) KR (fun k h e => e)).cell hb (HC.out j hlt).2.1
      have c2 := (Same.of_kept (ok := ok) KR (fun k h e => e)).cell hb (HC.out j hlt).2.2.1
      have c3 := (Same.of_kept (ok := ok) KR (fun k h e => e)).cell hb (HC.out j hlt).2.2.2.1
      have c4 := (Same.of_kept (ok := ok) KR (fun k h e => e)).cell hb (HC.out j hlt).2.2.2.2.1
      have c5 := (Same.of_kept (ok := ok) KR (fun k h e => e)).cell hb (HC.out j hlt).2.2.2.2.2.1
      have c6 := (Same.of_kept (ok := ok) KR (fun k h e => e)).cell hb (HC.out j hlt).2.2.2.2.2.2
      obtain ⟨ta, tn, tc, hKj⟩ := (HK.out j hlt).slice
      obtain ⟨ua, un, uc, hMj⟩ := (HM.out j hlt).slice
      have hkk := (HK.out j hlt).frame (Same.of_kept (ok := ok) KR (fun k h e => e))
      have hmm := (HM.out j hlt).frame (Same.of_kept (ok := ok) KR (fun k h e => e))
      rw [hKj] at c5 hkk
      rw [hMj] at c6 hmm
      have hs1 := tmNs_snoc l j hlt
      have hs2 := tmDs_snoc l j hlt
      have hs3 := tmNs_take l (j + 1)
      have hs4 := HD.out j
      have hs5 := tmD_le l[j]
      have hs6 := HNN.out
      have KA : Kept (fun _ => False) wr (wr.alloc (.cells #[.int .i64 l[j].op, .string l[j].name, .int .i64 l[j].n, .int .i64 l[j].ty.kind, .string l[j].ty.name, .slice ta tn tc, .slice ua un uc] 27)) := (Kept.refl _ _).alloc _
      have hcon := Lib.hid (HIH.out _ (List.getElem_mem hlt) _ ok _ _ (by omega) (hkk.frame (Same.of_kept (ok := ok) KA (fun k h e => e))) (hmm.frame (Same.of_kept (ok := ok) KA (fun k h e => e))))
      clear hkk hmm hKj hMj
      have hj2 : (j : Int) < (l.length : Int) := by omega
      have HS1 := Lib.hid hs1
      have HS2 := Lib.hid hs2
      have b1 : (tmNs (l.take j) : Int) + (tmN l[j] : Int) < 100001 := by omega
      have b2 : (0 : Int) ≤ (tmNs (l.take j) : Int) + (tmN l[j] : Int) := by omega
      have b3 : (tmDs (l.take j) : Int) < 100001 := by omega
      have b4 : (tmD l[j] : Int) < 100001 := by omega
      clear hs1 hs2 hs3 hs4 hs5 hs6
      unfold tmVal at hcon
      go_wp2_with (go_at_call 54; refine hcon.out.mono ?_; rintro e w' ⟨rfl, k2⟩)
      go_roundw
      case rel =>
        refine ⟨j + 1, by omega, by go_num, ?_, ?_, (kr.trans KA).trans k2⟩
        · rw [HS1.out]; congr 1
        · rw [HS2.out]; congr 1; omega
      case measure => simp [intOf]; omega
    · have e1 : l.take j = l := List.take_of_length_le (by omega)
      have hs4 := HD.out l.length
      rw [List.take_length] at hs4
      have hs6 := HNN.out
      rw [e1] at *
      have b1 : (tmNs l : Int) + 1 < 100002 := by omega
      have b2 : (tmDs l : Int) + 1 < 100002 := by omega
      clear hs4 hs6
      go_wp2_with fail
      go_ret2
      exact ⟨rfl, K1.trans kr⟩
theorem size_any (t : Tm) : SzC t := by
  induction t using Tm.rec (motive_2 := fun l => ∀ t, t ∈ l → SzC t) with
  | mk op nm N ty l ih =>
    intro w ok tk kk hN hk hm
    obtain ⟨a, n, cp, rfl⟩ := hk.slice
    obtain ⟨ma, mn, mc, rfl⟩ := hm.slice
    have hn : mn = l.length := hm.len
    subst hn
    have hm' : TmL ok w l (.slice ma l.length mc) := hm
    rw [tmN, tmD]
    rw [tmN] at hN
    cases l with
    | nil => exact size_leaf
    | cons t l =>
      cases hm' with
      | mk K M hne hb hcap hcell hkk hmm => exact size_mk ih (by omega) K M hb hcell hkk hmm
  | nil => rename_i t h; cases h
  | cons t l iht ihl => rename_i u hu; rcases List.mem_cons.1 hu with rfl | hu
                        · exact iht
                        · exact ihl u hu
def DpC (t : Tm) : Prop := ∀ (w : World) (ok : Nat → Prop) (tk kk : Value), tmN t ≤ 100000 → TyL ok w t.ty.kids tk → TmL ok w t.kids kk →
  Calls Tryz.prog 55 #[tmVal t tk kk] w fun e w' => e = .returned (.int .i64 (tmD t)) ∧ Kept (fun _ => False) w w'
set_option maxRecDepth 100000 in
set_option maxHeartbeats 8000000 in
theorem depth_leaf {op : Int} {nm : ByteArray} {N : Int} {k : Int} {tnm : ByteArray} {a : Option Addr} {n c' : Nat} {ma : Option Addr} {mc : Nat} {w : World} :
    Calls Tryz.prog 55 #[.agg #[.int .i64 op, .string nm, .int .i64 N, .int .i64 k, .string tnm, .slice a n c', .slice ma 0 mc]] w fun e w' => e = .returned (.int .i64 1) ∧ Kept (fun _ => False) w w' := by
  have K1 : Kept (fun _ => False) w (w.alloc (.cells #[.int .i64 op, .string nm, .int .i64 N, .int .i64 k, .string tnm, .slice a n c', .slice ma 0 mc] 27)) := (Kept.refl _ _).alloc _
  go_enter Tryz.func55, Tryz.ntmps55
  go_wp2_with fail
  go_loop [4, 3] (fun i d => i = .int .i64 0 ∧ d = .int .i64 0) (fun i _ => 0)
  case atStart => exact ⟨rfl, rfl⟩
  case round =>
    obtain ⟨rfl, rfl⟩ := hrel
    go_wp2_with fail
    go_ret
    exact ⟨rfl, K1⟩
set_option maxRecDepth 100000 in
set_option maxHeartbeats 8000000 in
theorem depth_mk {ok : Nat → Prop} {op : Int} {nm : ByteArray} {N : Int} {k : Int} {tnm : ByteArray} {l : List Tm} {a : Option Addr} {n c' : Nat} {b off mc : Nat} {w : World} (IH : ∀ t, t ∈ l → DpC t) (hN : tmNs l ≤ 100000) (K M : Nat → Value) (hb : ok b)
    (hcell : ∀ i (h : i < l.length), w.cell? ⟨b, off + i * 7, none⟩ = some (.int .i64 l[i].op) ∧ w.cell? ⟨b, off + i * 7 + 1, none⟩ = some (.string l[i].name) ∧ w.cell? ⟨b, off + i * 7 + 2, none⟩ = some (.int .i64 l[i].n) ∧ w.cell? ⟨b, off + i * 7 + 3, none⟩ = some (.int .i64 l[i].ty.kind) ∧ w.cell? ⟨b, off + i * 7 + 4, none⟩ = some (.string l[i].ty.name) ∧ w.cell? ⟨b, off + i * 7 + 5, none⟩ = some (K i) ∧ w.cell? ⟨b, off + i * 7 + 6, none⟩ = some (M i))
    (hkk : ∀ i (h : i < l.length), TyL ok w l[i].ty.kids (K i)) (hm : ∀ i (h : i < l.length), TmL ok w l[i].kids (M i)) :
    Calls Tryz.prog 55 #[.agg #[.int .i64 op, .string nm, .int .i64 N, .int .i64 k, .string tnm, .slice a n c', .slice (some ⟨b, off, none⟩) l.length mc]] w fun e w' => e = .returned (.int .i64 ((tmDs l + 1 : Nat) : Int)) ∧ Kept (fun _ => False) w w' := by
  have K1 : Kept (fun _ => False) w (w.alloc (.cells #[.int .i64 op, .string nm, .int .i64 N, .int .i64 k, .string tnm, .slice a n c', .slice (some ⟨b, off, none⟩) l.length mc] 27)) := (Kept.refl _ _).alloc _
  have bA : Blk (w.alloc (.cells #[.int .i64 op, .string nm, .int .i64 N, .int .i64 k, .string tnm, .slice a n c', .slice (some ⟨b, off, none⟩) l.length mc] 27)) w.heap.size 27 [.int .i64 op, .string nm, .int .i64 N, .int .i64 k, .string tnm, .slice a n c', .slice (some ⟨b, off, none⟩) l.length mc] := Blk.new w 27 _
  have HIH := Lib.hid IH
  have HC := Lib.hid hcell
  have HK := Lib.hid hkk
  have HM := Lib.hid hm
  have hlen := tmNs_len l
  have hl9 : (l.length : Int) < 100001 := by omega
  have HNN := Lib.hid hN
  have HD : Hid (∀ j, tmDs (l.take j) ≤ tmNs (l.take j)) := Lib.hid (fun j => by
    have : ∀ m : List Tm, tmDs m ≤ tmNs m := by
      intro m
      induction m with
      | nil => simp [tmDs, tmNs]
      | cons t m ih => have := tmD_le t; simp only [tmDs, tmNs]; omega
    exact this _)
  clear IH hcell hkk hm hN hlen
  go_enter Tryz.func55, Tryz.ntmps55
  go_wp2_with fail
  generalize w.alloc (.cells #[.int .i64 op, .string nm, .int .i64 N, .int .i64 k, .string tnm, .slice a n c', .slice (some ⟨b, off, none⟩) l.length mc] 27) = w1 at *
  go_loopw [4, 3] (fun i d wr => ∃ j : Nat, j ≤ l.length ∧ i = .int .i64 j ∧ d = .int .i64 (tmDs (l.take j)) ∧ Kept (fun _ => False) w1 wr) (fun i _ _ => l.length - (intOf i).toNat)
  case atStart => exact ⟨0, Nat.zero_le _, rfl, rfl, Kept.refl _ _⟩
  case round =>
    obtain ⟨j, hj, rfl, rfl, kr⟩ := hrel
    have bR := bA.kept kr (fun h => h)
    have g2 : wr.cell? ⟨w.heap.size, 6, none⟩ = some (.slice (some ⟨b, off, none⟩) l.length mc) := bR.cell 6
    by_cases hlt : j < l.length
    · have KR := K1.trans kr
      have c0 := (Same.of_kept (ok := ok) KR (fun k h e => e)).cell hb (HC.out j hlt).1
      have c1 := (Same.of_kept (ok := ok) KR (fun k h e => e)).cell hb (HC.out j hlt).2.1
      have c2 := (Same.of_kept (ok := ok) KR (fun k h e => e)).cell hb (HC.out j hlt).2.2.1
      have c3 := (Same.of_kept (ok := ok) KR (fun k h e => e)).cell hb (HC.out j hlt).2.2.2.1
      have c4 := (Same.of_kept (ok := ok) KR (fun k h e => e)).cell hb (HC.out j hlt).2.2.2.2.1
      have c5 := (Same.of_kept (ok := ok) KR (fun k h e => e)).cell hb (HC.out j hlt).2.2.2.2.2.1
      have c6 := (Same.of_kept (ok := ok) KR (fun k h e => e)).cell hb (HC.out j hlt).2.2.2.2.2.2
      obtain ⟨ta, tn, tc, hKj⟩ := (HK.out j hlt).slice
      obtain ⟨ua, un, uc, hMj⟩ := (HM.out j hlt).slice
      have hkk := (HK.out j hlt).frame (Same.of_kept (ok := ok) KR (fun k h e => e))
      have hmm := (HM.out j hlt).frame (Same.of_kept (ok := ok) KR (fun k h e => e))
      rw [hKj] at c5 hkk
      rw [hMj] at c6 hmm
      have hs1 := tmNs_snoc l j hlt
      have hs2 := tmDs_snoc l j hlt
      have hs3 := tmNs_take l (j + 1)
      have hs4 := HD.out j
      have hs5 := tmD_le l[j]
      have hs6 := HNN.out
      have hcon := Lib.hid (HIH.out _ (List.getElem_mem hlt) wr ok _ _ (by omega) hkk hmm)
      clear hkk hmm hKj hMj
      have hj2 : (j : Int) < (l.length : Int) := by omega
      have HS2 := Lib.hid hs2
      have b3 : (tmDs (l.take j) : Int) < 100001 := by omega
      have b4 : (tmD l[j] : Int) < 100001 := by omega
      clear hs1 hs2 hs3 hs4 hs5 hs6
      unfold tmVal at hcon
      go_wp2_with (go_at_call 55; refine hcon.out.mono ?_; rintro e w' ⟨rfl, k2⟩)
      go_roundw
      case rel =>
        refine ⟨j + 1, by omega, by go_num, ?_, kr.trans k2⟩
        rw [HS2.out]; congr 1; omega
      case measure => simp [intOf]; omega
    · have e1 : l.take j = l := List.take_of_length_le (by omega)
      have hs4 := HD.out l.length
      rw [List.take_length] at hs4
      have hs6 := HNN.out
      rw [e1] at *
      have b2 : (tmDs l : Int) + 1 < 100002 := by omega
      clear hs4 hs6
      go_wp2_with fail
      go_ret
      exact ⟨rfl, K1.trans kr⟩
theorem depth_any (t : Tm) : DpC t := by
  induction t using Tm.rec (motive_2 := fun l => ∀ t, t ∈ l → DpC t) with
  | mk op nm N ty l ih =>
    intro w ok tk kk hN hk hm
    obtain ⟨a, n, cp, rfl⟩ := hk.slice
    obtain ⟨ma, mn, mc, rfl⟩ := hm.slice
    have hn : mn = l.length := hm.len
    subst hn
    have hm' : TmL ok w l (.slice ma l.length mc) := hm
    rw [tmD]
    rw [tmN] at hN
    cases l with
    | nil => exact depth_leaf
    | cons t l =>
      cases hm' with
      | mk K M hne hb hcap hcell hkk hmm => exact depth_mk ih (by omega) K M hb hcell hkk hmm
  | nil => rename_i t h; cases h
  | cons t l iht ihl => rename_i u hu; rcases List.mem_cons.1 hu with rfl | hu
                        · exact iht
                        · exact ihl u hu
def szA (t : Tm) : Int := if validB t then tmN t else 0
def szB (t : Tm) : Int := if validB t then tmD t else 0
set_option maxRecDepth 100000 in
set_option maxHeartbeats 4000000 in
theorem size_of {ok : Nat → Prop} {w : World} {t : Tm} {a : Option Addr} {n c : Nat} {ma : Option Addr} {mn mc : Nat} (hk : TyL ok w t.ty.kids (.slice a n c)) (hm : TmL ok w t.kids (.slice ma mn mc)) (hs : SmTm big t) :
    Calls Tryz.prog 23 #[.agg #[.int .i64 t.op, .string t.name, .int .i64 t.n, .int .i64 t.ty.kind, .string t.ty.name, .slice a n c, .slice ma mn mc]] w fun e w' => e = .returned (.tuple #[.int .i64 (szA t), .int .i64 (szB t)]) ∧ Kept (fun _ => False) w w' := by
  have K1 : Kept (fun _ => False) w (w.alloc (.cells #[.int .i64 t.op, .string t.name, .int .i64 t.n, .int .i64 t.ty.kind, .string t.ty.name, .slice a n c, .slice ma mn mc] 27)) := (Kept.refl _ _).alloc _
  have bA : Blk (w.alloc (.cells #[.int .i64 t.op, .string t.name, .int .i64 t.n, .int .i64 t.ty.kind, .string t.ty.name, .slice a n c, .slice ma mn mc] 27)) w.heap.size 27 (tmCells t (.slice a n c) (.slice ma mn mc)) := Blk.new w 27 _
  have hk2 := hk.frame (Same.of_kept (ok := ok) K1 (fun k h e => e))
  have hm2 := hm.frame (Same.of_kept (ok := ok) K1 (fun k h e => e))
  have HV := Lib.hid (valid_any hk2 hm2 hs)
  have HW := Lib.hid (fun W (k : Kept (fun _ => False) (w.alloc (.cells #[.int .i64 t.op, .string t.name, .int .i64 t.n, .int .i64 t.ty.kind, .string t.ty.name, .slice a n c, .slice ma mn mc] 27)) W) (h : tmN t ≤ 100000) => size_any t W ok _ _ h (hk2.frame (Same.of_kept (ok := ok) k (fun k h e => e))) (hm2.frame (Same.of_kept (ok := ok) k (fun k h e => e))))
  unfold tmVal at HW
  clear hk2 hm2
  cases hv : validB t
  · have e1 : Hid (szA t = 0 ∧ szB t = 0) := Lib.hid (by unfold szA szB; rw [hv]; exact ⟨rfl, rfl⟩)
    rw [hv] at HV
    go_enter Tryz.func23, Tryz.ntmps23
    go_wp2_with fail
    refine HV.out.mono ?_
    rintro e w1 ⟨rfl, k1⟩
    go_wp2_with fail
    go_ret2
    exact ⟨by rw [e1.out.1, e1.out.2]; rfl, K1.trans k1⟩
  · have e1 : Hid (szA t = tmN t ∧ szB t = tmD t) := Lib.hid (by unfold szA szB; rw [hv]; exact ⟨rfl, rfl⟩)
    have hz := (valid_sz hv).2
    have HZ := Lib.hid (show tmN t ≤ 100000 by omega)
    clear hz
    rw [hv] at HV
    go_enter Tryz.func23, Tryz.ntmps23
    go_wp2_with fail
    refine HV.out.mono ?_
    rintro e w1 ⟨rfl, k1⟩
    have gA : ∀ i, w1.cell? ⟨w.heap.size, i, none⟩ = (tmCells t (.slice a n c) (.slice ma mn mc))[i]? := (bA.kept k1 (fun h => h)).cell
    unfold tmCells at gA
    have HS := Lib.hid (HW.out w1 k1 HZ.out)
    go_wp2_with fail
    refine HS.out.mono ?_
    rintro e w2 ⟨rfl, k2⟩
    go_wp2_with fail
    go_ret2
    exact ⟨by rw [e1.out.1, e1.out.2]; rfl, (K1.trans k1).trans k2⟩
set_option maxRecDepth 100000 in
set_option maxHeartbeats 4000000 in
theorem rsize_of {ok : Nat → Prop} {w : World} {t : Tm} {a : Option Addr} {n c : Nat} {ma : Option Addr} {mn mc : Nat} (hk : TyL ok w t.ty.kids (.slice a n c)) (hm : TmL ok w t.kids (.slice ma mn mc)) (hs : SmTm big t) :
    Calls Tryz.prog 24 #[.agg #[.int .i64 t.op, .string t.name, .int .i64 t.n, .int .i64 t.ty.kind, .string t.ty.name, .slice a n c, .slice ma mn mc]] w fun e w' => e = .returned (.tuple #[.int .i64 (szA t), .int .i64 (szB t)]) ∧ Kept (fun _ => False) w w' := by
  have K1 : Kept (fun _ => False) w (w.alloc (.cells #[.int .i64 t.op, .string t.name, .int .i64 t.n, .int .i64 t.ty.kind, .string t.ty.name, .slice a n c, .slice ma mn mc] 27)) := (Kept.refl _ _).alloc _
  have bA : Blk (w.alloc (.cells #[.int .i64 t.op, .string t.name, .int .i64 t.n, .int .i64 t.ty.kind, .string t.ty.name, .slice a n c, .slice ma mn mc] 27)) w.heap.size 27 (tmCells t (.slice a n c) (.slice ma mn mc)) := Blk.new w 27 _
  have hk2 := hk.frame (Same.of_kept (ok := ok) K1 (fun k h e => e))
  have hm2 := hm.frame (Same.of_kept (ok := ok) K1 (fun k h e => e))
  have HV := Lib.hid (rnodes_any hs _ ok 0 1 _ _ (by decide) (by decide) (by decide) hk2 hm2)
  have HW := Lib.hid (fun W (k : Kept (fun _ => False) (w.alloc (.cells #[.int .i64 t.op, .string t.name, .int .i64 t.n, .int .i64 t.ty.kind, .string t.ty.name, .slice a n c, .slice ma mn mc] 27)) W) (h : tmN t ≤ 100000) => depth_any t W ok _ _ h (hk2.frame (Same.of_kept (ok := ok) k (fun k h e => e))) (hm2.frame (Same.of_kept (ok := ok) k (fun k h e => e))))
  unfold tmVal at HW HV
  clear hk2 hm2
  cases hv : validB t
  · have e1 : Hid (szA t = 0 ∧ szB t = 0) := Lib.hid (by unfold szA szB; rw [hv]; exact ⟨rfl, rfl⟩)
    have e2 : tdR (fS 2000 64 t 1 0) = -1 := by unfold tdR; rw [show (fS 2000 64 t 1 0).1 = false from hv]; rfl
    rw [e2] at HV
    clear e2
    go_enter Tryz.func24, Tryz.ntmps24
    go_wp2_with fail
    refine HV.out.mono ?_
    rintro e w1 ⟨rfl, k1⟩
    go_wp2_with fail
    go_ret2
    exact ⟨by rw [e1.out.1, e1.out.2]; rfl, K1.trans k1⟩
  · have e1 : Hid (szA t = tmN t ∧ szB t = tmD t) := Lib.hid (by unfold szA szB; rw [hv]; exact ⟨rfl, rfl⟩)
    have hz := (valid_sz hv).2
    have HZ := Lib.hid (show tmN t ≤ 100000 by omega)
    have e2 : tdR (fS 2000 64 t 1 0) = (tmN t : Int) := by unfold tdR; rw [show (fS 2000 64 t 1 0).1 = true from hv, if_pos rfl, (valid_sz hv).1]
    rw [e2] at HV
    have i5 : decide ((tmN t : Int) < 0) = false := decide_eq_false (by omega)
    clear hz e2
    go_enter Tryz.func24, Tryz.ntmps24
    go_wp2_with fail
    refine HV.out.mono ?_
    rintro e w1 ⟨rfl, k1⟩
    have gA : ∀ i, w1.cell? ⟨w.heap.size, i, none⟩ = (tmCells t (.slice a n c) (.slice ma mn mc))[i]? := (bA.kept k1 (fun h => h)).cell
    unfold tmCells at gA
    have HS := Lib.hid (HW.out w1 k1 HZ.out)
    go_wp2_with fail
    refine HS.out.mono ?_
    rintro e w2 ⟨rfl, k2⟩
    go_wp2_with fail
    go_ret2
    exact ⟨by rw [e1.out.1, e1.out.2]; rfl, (K1.trans k1).trans k2⟩
def DcC (n : Nat) : Prop := ∀ W, Calls Tryz.prog 102 #[.int .i64 n] W fun e w' => e = .returned (.string (str (Lib.decDigits n))) ∧ Kept (fun _ => False) W w'
theorem dig_lt (n : Nat) (h : n < 10) : ((UInt8.ofNat (48 + n)).toNat : Int) = 48 + (n : Int) := by
  have all : ∀ m : Fin 10, (UInt8.ofNat (48 + m.val)).toNat = 48 + m.val := by decide
  have : (UInt8.ofNat (48 + n)).toNat = 48 + n := all ⟨n, h⟩
  rw [this]; omega
theorem conv_dig (W : World) (B n : Nat) (h : n < 10) (hc : W.cell? ⟨B, 0, none⟩ = some (.int .u8 (48 + (n : Int)))) : (convert 67 9 (.slice (some ⟨B, 0, none⟩) 1 1)).run Tryz.prog W = .ok (.string ⟨#[UInt8.ofNat (48 + n)]⟩) W :=
  run_convert_bytes_back (P := Tryz.prog) W 67 9 5 ⟨B, 0, none⟩ 1 [UInt8.ofNat (48 + n)] Tryz.underlying67 Tryz.underlying5 Tryz.underlying9 (fun j hj => by
    have h0 : j = 0 := by simpa using hj
    subst h0
    show W.cell? _ = some (.int .u8 ((UInt8.ofNat (48 + n)).toNat : Int))
    rw [dig_lt n h]
    exact hc)
set_option maxRecDepth 100000 in
set_option maxHeartbeats 4000000 in
theorem dec_small (n : Nat) (h : n < 10) : DcC n := by
  intro W
  have i0 : ((n : Int) == -9223372036854775808) = false := by rw [beq_eq_false_iff_ne]; omega
  have i1 : decide ((n : Int) < 0) = false := decide_eq_false (by omega)
  have i2 : decide ((n : Int) < 10) = true := decide_eq_true (by omega)
  have hcv := conv_dig (W.alloc (.cells #[.int .u8 (48 + (n : Int))] 5)) W.heap.size n h ((Blk.new W 5 [.int .u8 (48 + (n : Int))]).cell 0)
  have HT : Hid (str (Lib.decDigits n) = ⟨#[UInt8.ofNat (48 + n)]⟩) := Lib.hid (by unfold Lib.decDigits; rw [dif_pos h]; rfl)
  generalize UInt8.ofNat (48 + n) = dg at *
  go_enter Tryz.func102, Tryz.ntmps102
  go_wp2_with fail
  go_ret
  exact ⟨by rw [HT.out]; rfl, (Kept.refl _ _).alloc _⟩
theorem decDigits_len (n : Nat) : (Lib.decDigits n).length ≤ n + 1 := by
  induction n using Nat.strongRecOn with
  | _ n ih =>
    unfold Lib.decDigits
    by_cases h : n < 10
    · rw [dif_pos h]; simp
    · rw [dif_neg h]
      have := ih (n / 10) (by omega)
      simp only [List.length_append, List.length_cons, List.length_nil]
      omega
set_option maxRecDepth 100000 in
set_option maxHeartbeats 8000000 in
theorem dec_more (n : Nat) (h : ¬ n < 10) (hn : n ≤ 1000000000) (ih : DcC (n / 10)) : DcC n := by
  intro W
  have i0 : ((n : Int) == -9223372036854775808) = false := by rw [beq_eq_false_iff_ne]; omega
  have i1 : decide ((n : Int) < 0) = false := decide_eq_false (by omega)
  have i2 : decide ((n : Int) < 10) = false := decide_eq_false (by omega)
  have hq : (n : Int).tdiv 10 = ((n / 10 : Nat) : Int) := by rw [Int.tdiv_eq_ediv_of_nonneg (by omega)]; omega
  have hr : (n : Int).tmod 10 = ((n % 10 : Nat) : Int) := by rw [Int.tmod_eq_emod_of_nonneg (by omega)]; omega
  have hm : n % 10 < 10 := Nat.mod_lt _ (by decide)
  have hqb : n / 10 ≤ 100000000 := by omega
  have HSZ : Hid ((str (Lib.decDigits (n / 10))).size ≤ 1000000001) := Lib.hid (by rw [str_size]; have := decDigits_len (n / 10); omega)
  have HT : Hid (str (Lib.decDigits n) = str (Lib.decDigits (n / 10)) ++ ⟨#[UInt8.ofNat (48 + n % 10)]⟩) := Lib.hid (by
    conv => lhs; unfold Lib.decDigits
    rw [dif_neg h, ← str_app]; rfl)
  have HCV := Lib.hid (fun (X : World) (B : Nat) => conv_dig X B (n % 10) hm)
  have IH := Lib.hid ih
  unfold DcC at IH
  generalize UInt8.ofNat (48 + n % 10) = dg at *
  generalize str (Lib.decDigits (n / 10)) = sq at *
  have hz1 : ¬ 9223372036854775807 < sq.size + 1 := by have := HSZ.out; omega
  clear ih h hn
  generalize hmm : n % 10 = m at *
  generalize hqq : n / 10 = q at *
  have HMQ := Lib.hid (And.intro hmm hqq)
  have m10 : (m : Int) < 10 := by omega
  have q10 : (q : Int) < 100000001 := by omega
  have wq : IntKind.i64.wrap (q : Int) = q := by rw [IntKind.wrap_i64]; omega
  have wm : IntKind.i64.wrap (m : Int) = m := by rw [IntKind.wrap_i64]; omega
  have w48 : IntKind.i64.wrap (48 + (m : Int)) = 48 + m := by rw [IntKind.wrap_i64]; omega
  have w8 : IntKind.u8.wrap (48 + (m : Int)) = 48 + m := by rw [show IntKind.u8.wrap (48 + (m : Int)) = (48 + (m : Int)) % 256 by simp [IntKind.wrap, IntKind.bits, IntKind.signed]]; omega
  clear hmm hqq hm hqb
  have bA : Blk (W.drew.alloc (.cells #[.int .u8 (48 + (m : Int))] 5)) W.heap.size 5 [.int .u8 (48 + (m : Int))] := Blk.new W.drew 5 _
  have hcv0 := HCV.out _ W.heap.size (bA.cell 0)
  have hcv1 := HCV.out _ W.heap.size ((Blk.drew (Blk.new W 5 [.int .u8 (48 + (m : Int))])).cell 0)
  have KD : Kept (fun _ => False) W W.drew := (Kept.refl _ _).drew
  have KA : Kept (fun _ => False) W (W.alloc (.cells #[.int .u8 (48 + (m : Int))] 5)).drew := ((Kept.refl _ _).alloc _).drew
  go_enter Tryz.func102, Tryz.ntmps102
  go_wp2_with fail
  go_region_law
    (first | (go_simp; go_at_call 102; refine (IH.out _).mono ?_; rintro e wq ⟨rfl, kq⟩; first | (have KE := KA.trans kq; have hcvA := HCV.out wq W.heap.size (((Blk.drew (Blk.new W 5 [.int .u8 (48 + (m : Int))])).kept kq (fun h => h)).cell 0)) | (have KE := KD.trans kq; have hcvB := HCV.out (wq.alloc (.cells #[.int .u8 (48 + (m : Int))] 5)) wq.heap.size ((Blk.new wq 5 [.int .u8 (48 + (m : Int))]).cell 0))))
  all_goals
    go_wp2_with fail
    go_ret
    exact ⟨by rw [HT.out]; rfl, by first | exact KE | exact KE.alloc _⟩
theorem dec_nat (n : Nat) (hn : n ≤ 1000000000) : DcC n := by
  induction n using Nat.strongRecOn with
  | _ n ih =>
    by_cases h : n < 10
    · exact dec_small n h
    · exact dec_more n h hn (ih (n / 10) (by omega) (by omega))
theorem dec_any {N : Int} (h0 : 0 ≤ N) (h1 : N ≤ 1000000000) (W : World) : Calls Tryz.prog 102 #[.int .i64 N] W fun e w' => e = .returned (.string (str (Lib.itoa N))) ∧ Kept (fun _ => False) W w' := by
  obtain ⟨n, rfl⟩ := Int.eq_ofNat_of_zero_le h0
  have e : Lib.itoa (n : Int) = Lib.decDigits n := by unfold Lib.itoa; rw [if_neg (by omega)]; rfl
  rw [e]
  exact dec_nat n (by omega) W
theorem app_mid (a b c : List UInt8) : a ++ [32] ++ b ++ [32] ++ c = a ++ ([32] ++ b ++ [32]) ++ c := by simp [List.append_assoc]
theorem rw_b {n : Nat} {nm : ByteArray} {N : Int} {ty : Ty} {l : List Tm} (h56 : n ≤ 56) (hc : (decide ((binS n).size ≤ 100) && decide ((n : Int) < 46) && [1, 2, 19, 20, 29, 3, 21, 8, 9, 56, 55, 54, 53, 52, 28].all fun m => !((n : Int) == m)) = true) (hs : ∀ ks, tmComb n nm N ty ks = opd (kidA ks 0) ++ ([32] ++ (binS n).data.toList ++ [32]) ++ opd (kidA ks 1)) (h2 : kidsN n = (2, true)) (hk : kidOk n l.length = true) (hl : ∀ t, t ∈ l → OkTm t) (ih : ∀ t, t ∈ l → RS t (tmShow t)) : RS (.mk n nm N ty l) (tmShow (.mk n nm N ty l)) := by
  have h2 : ((l.length : Nat) : Int) = 2 := by simpa [kidOk, h2] using hk
  obtain ⟨x, y, rfl⟩ := list_two (show l.length = 2 by omega)
  simp only [Bool.and_eq_true, decide_eq_true_eq, List.all_cons, List.all_nil, Bool.not_eq_true', and_true] at hc
  obtain ⟨⟨c1, c2⟩, a1, a2, a3, a4, a5, a6, a7, a8, a9, a10, a11, a12, a13, a14, a15⟩ := hc
  have hb := rw_bin (nm := nm) (N := N) (ty := ty) (op := n) (ro_any (ih x (by simp)) (by have := (hl x (by simp)).range; omega) (hl x (by simp)).range.2) (ro_any (ih y (by simp)) (by have := (hl y (by simp)).range; omega) (hl y (by simp)).range.2) (rsgOf_any n h56) c1 a1 a2 a3 a4 a5 a6 a7 a8 a9 a10 a11 a12 a13 a14 a15 c2
  rw [app_mid] at hb
  rw [tmShow, hs]
  exact hb
set_option maxHeartbeats 4000000 in
theorem rw_show {t : Tm} (h : OkTm t) : RS t (tmShow t) := by
  induction h with
  | @mk op nm N ty l h hn hl ih =>
  obtain ⟨hk, hnm, hN, hty⟩ := formed_parts h
  have hr := kids_range op (by unfold kidOk at hk; rw [Bool.and_eq_true] at hk; exact hk.1)
  obtain ⟨n, rfl⟩ := Int.eq_ofNat_of_zero_le (show 0 ≤ op by omega)
  have hn1 : 1 ≤ n := by omega
  have hn56 : n ≤ 56 := by omega
  clear hr h
  match n, hn1, hn56 with
  | 1, _, _ =>
    change RS (.mk 1 nm N ty l) (tmShow (.mk 1 nm N ty l))
    rw [tmShow]
    exact rw_true
  | 2, _, _ =>
    change RS (.mk 2 nm N ty l) (tmShow (.mk 2 nm N ty l))
    rw [tmShow]
    exact rw_false
  | 3, _, _ =>
    change RS (.mk 3 nm N ty l) (tmShow (.mk 3 nm N ty l))
    have h2 : ((l.length : Nat) : Int) = 1 := by simpa [kidOk, kidsN] using hk
    obtain ⟨x, rfl⟩ := list_one' (show l.length = 1 by omega)
    have hx := ih x (by simp)
    rw [tmShow, tmShows, tmShows]
    exact rw_not (ro_any hx (by have := (hl x (by simp)).range; omega) (hl x (by simp)).range.2)
  | 4, _, _ | 5, _, _ | 6, _, _ | 7, _, _ | 10, _, _ | 11, _, _ | 12, _, _ | 13, _, _ | 14, _, _ | 15, _, _ | 16, _, _ | 17, _, _ | 18, _, _ | 22, _, _ | 23, _, _ | 24, _, _ | 25, _, _ | 26, _, _ | 27, _, _ | 30, _, _ | 31, _, _ | 32, _, _ | 33, _, _ | 34, _, _ | 35, _, _ | 36, _, _ | 37, _, _ | 38, _, _ | 39, _, _ | 40, _, _ | 41, _, _ | 42, _, _ | 43, _, _ | 44, _, _ | 45, _, _ => exact rw_b (by decide) (by decide +kernel) (fun _ => rfl) rfl hk hl ih
  | 8, _, _ =>
    change RS (.mk 8 nm N ty l) (tmShow (.mk 8 nm N ty l))
    have h2 : ((l.length : Nat) : Int) = 2 := by simpa [kidOk, kidsN] using hk
    obtain ⟨x, y, rfl⟩ := list_two (show l.length = 2 by omega)
    have hx := ih x (by simp)
    have hy := ih y (by simp)
    rw [tmShow, tmShows, tmShows, tmShows]
    exact rw_all (ro_any hx (by have := (hl x (by simp)).range; omega) (hl x (by simp)).range.2) hy
  | 9, _, _ =>
    change RS (.mk 9 nm N ty l) (tmShow (.mk 9 nm N ty l))
    have h2 : ((l.length : Nat) : Int) = 2 := by simpa [kidOk, kidsN] using hk
    obtain ⟨x, y, rfl⟩ := list_two (show l.length = 2 by omega)
    have hx := ih x (by simp)
    have hy := ih y (by simp)
    rw [tmShow, tmShows, tmShows, tmShows]
    exact rw_ex (ro_any hx (by have := (hl x (by simp)).range; omega) (hl x (by simp)).range.2) hy
  | 19, _, _ =>
    change RS (.mk 19 nm N ty l) (tmShow (.mk 19 nm N ty l))
    rw [tmShow]
    have hN2 : 0 ≤ N ∧ N ≤ 1000000000 := by simpa [nOk] using hN
    exact rw_int (dec_any hN2.1 hN2.2)
  | 20, _, _ =>
    change RS (.mk 20 nm N ty l) (tmShow (.mk 20 nm N ty l))
    rw [tmShow]
    exact rw_name
  | 21, _, _ =>
    change RS (.mk 21 nm N ty l) (tmShow (.mk 21 nm N ty l))
    have h2 : ((l.length : Nat) : Int) = 1 := by simpa [kidOk, kidsN] using hk
    obtain ⟨x, rfl⟩ := list_one' (show l.length = 1 by omega)
    have hx := ih x (by simp)
    rw [tmShow, tmShows, tmShows]
    exact rw_neg (ro_any hx (by have := (hl x (by simp)).range; omega) (hl x (by simp)).range.2)
  | 28, _, _ =>
    change RS (.mk 28 nm N ty l) (tmShow (.mk 28 nm N ty l))
    have hne : l ≠ [] := by
      intro e
      subst e
      simp [kidOk, kidsN] at hk
    rw [tmShow]
    have he := join_eq l hne
    have hs := rw_set (nm := nm) (N := N) (ty := ty) (kl := l) (O := fun i => (kidA (tmShows l) i).2) (fun i h => by rw [shows_at l i h]; exact ih _ (List.getElem_mem h)) hn
    rw [← he] at hs
    exact hs
  | 29, _, _ =>
    change RS (.mk 29 nm N ty l) (tmShow (.mk 29 nm N ty l))
    rw [tmShow]
    have hv : validTyB ty = true := by have h3 : (!(ty.kind == 2) && validTyB ty) = true := hty; rw [Bool.and_eq_true] at h3; exact h3.2
    obtain ⟨v1, v2⟩ := validTy_ok hv
    exact rw_empty (rs_any v1 (by omega)) (by omega)
  | 46, _, _ =>
    change RS (.mk 46 nm N ty l) (tmShow (.mk 46 nm N ty l))
    have h2 : ((l.length : Nat) : Int) = 1 := by simpa [kidOk, kidsN] using hk
    obtain ⟨x, rfl⟩ := list_one' (show l.length = 1 by omega)
    have hx := ih x (by simp)
    rw [tmShow, tmShows, tmShows]
    exact rw_f46 hx
  | 47, _, _ =>
    change RS (.mk 47 nm N ty l) (tmShow (.mk 47 nm N ty l))
    have h2 : ((l.length : Nat) : Int) = 1 := by simpa [kidOk, kidsN] using hk
    obtain ⟨x, rfl⟩ := list_one' (show l.length = 1 by omega)
    have hx := ih x (by simp)
    rw [tmShow, tmShows, tmShows]
    exact rw_f47 hx
  | 48, _, _ =>
    change RS (.mk 48 nm N ty l) (tmShow (.mk 48 nm N ty l))
    have h2 : ((l.length : Nat) : Int) = 1 := by simpa [kidOk, kidsN] using hk
    obtain ⟨x, rfl⟩ := list_one' (show l.length = 1 by omega)
    have hx := ih x (by simp)
    rw [tmShow, tmShows, tmShows]
    exact rw_f48 hx
  | 49, _, _ =>
    change RS (.mk 49 nm N ty l) (tmShow (.mk 49 nm N ty l))
    have h2 : ((l.length : Nat) : Int) = 1 := by simpa [kidOk, kidsN] using hk
    obtain ⟨x, rfl⟩ := list_one' (show l.length = 1 by omega)
    have hx := ih x (by simp)
    rw [tmShow, tmShows, tmShows]
    exact rw_f49 hx
  | 50, _, _ =>
    change RS (.mk 50 nm N ty l) (tmShow (.mk 50 nm N ty l))
    have h2 : ((l.length : Nat) : Int) = 1 := by simpa [kidOk, kidsN] using hk
    obtain ⟨x, rfl⟩ := list_one' (show l.length = 1 by omega)
    have hx := ih x (by simp)
    rw [tmShow, tmShows, tmShows]
    exact rw_f50 hx
  | 51, _, _ =>
    change RS (.mk 51 nm N ty l) (tmShow (.mk 51 nm N ty l))
    have h2 : ((l.length : Nat) : Int) = 1 := by simpa [kidOk, kidsN] using hk
    obtain ⟨x, rfl⟩ := list_one' (show l.length = 1 by omega)
    have hx := ih x (by simp)
    rw [tmShow, tmShows, tmShows]
    exact rw_f51 hx
  | 52, _, _ =>
    change RS (.mk 52 nm N ty l) (tmShow (.mk 52 nm N ty l))
    have h2 : ((l.length : Nat) : Int) = 1 := by simpa [kidOk, kidsN] using hk
    obtain ⟨x, rfl⟩ := list_one' (show l.length = 1 by omega)
    have hx := ih x (by simp)
    rw [tmShow, tmShows, tmShows]
    exact rw_inv (ro_any hx (by have := (hl x (by simp)).range; omega) (hl x (by simp)).range.2)
  | 53, _, _ =>
    change RS (.mk 53 nm N ty l) (tmShow (.mk 53 nm N ty l))
    have h2 : ((l.length : Nat) : Int) = 2 := by simpa [kidOk, kidsN] using hk
    obtain ⟨x, y, rfl⟩ := list_two (show l.length = 2 by omega)
    have hx := ih x (by simp)
    have hy := ih y (by simp)
    rw [tmShow, tmShows, tmShows, tmShows]
    exact rw_image (ro_any hx (by have := (hl x (by simp)).range; omega) (hl x (by simp)).range.2) hy
  | 54, _, _ =>
    change RS (.mk 54 nm N ty l) (tmShow (.mk 54 nm N ty l))
    have h2 : ((l.length : Nat) : Int) = 2 := by simpa [kidOk, kidsN] using hk
    obtain ⟨x, y, rfl⟩ := list_two (show l.length = 2 by omega)
    have hx := ih x (by simp)
    have hy := ih y (by simp)
    rw [tmShow, tmShows, tmShows, tmShows]
    exact rw_apply (ro_any hx (by have := (hl x (by simp)).range; omega) (hl x (by simp)).range.2) hy
  | 55, _, _ =>
    change RS (.mk 55 nm N ty l) (tmShow (.mk 55 nm N ty l))
    have h2 : ((l.length : Nat) : Int) = 2 := by simpa [kidOk, kidsN] using hk
    obtain ⟨x, y, rfl⟩ := list_two (show l.length = 2 by omega)
    have hx := ih x (by simp)
    have hy := ih y (by simp)
    rw [tmShow, tmShows, tmShows, tmShows]
    exact rw_compr (ro_any hx (by have := (hl x (by simp)).range; omega) (hl x (by simp)).range.2) hy
  | 56, _, _ =>
    change RS (.mk 56 nm N ty l) (tmShow (.mk 56 nm N ty l))
    have h2 : ((l.length : Nat) : Int) = 2 := by simpa [kidOk, kidsN] using hk
    obtain ⟨x, y, rfl⟩ := list_two (show l.length = 2 by omega)
    have hx := ih x (by simp)
    have hy := ih y (by simp)
    rw [tmShow, tmShows, tmShows, tmShows]
    exact rw_fun (ro_any hx (by have := (hl x (by simp)).range; omega) (hl x (by simp)).range.2) hy
  | n + 57, _, h57 => omega
/-! How long a text is. -/
theorem ident_len {nm : ByteArray} (h : identB nm = true) : nm.data.toList.length ≤ 16 := by
 have := ident_ok h
 unfold wordOk at this
 simp only [Bool.and_eq_true, decide_eq_true_eq] at this
 exact this.2
theorem named_len {nm : ByteArray} (h : namedB nm = true) : nm.data.toList.length ≤ 17 := by
 have := ident_len (nm := trimQ nm) h
 unfold trimQ Lib.trimSuffix at this
 have hl := ba_len nm
 split at this
 ·simp at this; omega
 ·simp at this; omega
theorem opS_len (t : Tm) : (opS t).length ≤ (tmShow t).length + 2 := by
 unfold opS opd parS
 split <;> simp
theorem keyS_len (op : Int) (h : op = 46 ∨ op = 47 ∨ op = 48 ∨ op = 49 ∨ op = 50 ∨ op = 51) : (keyS op).data.toList.length ≤ 10 := by
 rcases h with rfl | rfl | rfl | rfl | rfl | rfl <;> decide +kernel
theorem bins_len : binOps.all (fun op => decide ((binS op).data.toList.length ≤ 10)) = true := by kernel_rfl
inductive LnTm : Tm → Prop
 | mk {op : Int} {nm : ByteArray} {N : Int} {ty : Ty} {l : List Tm} (h : op = 29 → (tyShow ty).length ≤ 400) (hl : ∀ t, t ∈ l → LnTm t) : LnTm (.mk op nm N ty l)
theorem ln_of {t : Tm} (h : OkTm t) : LnTm t := by
 induction h with
 | mk h hn hl ih =>
  refine .mk (fun e => ?_) ih
  have := (formed_parts h).2.2.2
  unfold tyOk at this
  rw [if_pos e, Bool.and_eq_true] at this
  exact (validTy_ok this.2).2
theorem show_len {t : Tm} (h : RdTm t) (hl : LnTm t) : (tmShow t).length + 2 ≤ 900 * tmN t := by
 induction h with
 | tru => simp [tmShow, tmComb, nd, tmN, tmNs]
 | fls => simp [tmShow, tmComb, nd, tmN, tmNs]
 | int h0 h1 =>
  have := itoa_len h0 h1
  simp [tmShow, tmComb, tmN, tmNs]; omega
 | name h =>
  rename_i nm
  have : nm.data.toList.length ≤ 17 := named_len h
  have e : tmShow (.mk 20 nm 0 ty0 []) = nm.data.toList := by simp [tmShow, tmComb]
  rw [e]; simp only [tmN, tmNs]; omega
 | empty h =>
  rename_i ty
  have e2 : tmShow (.mk 29 nil0 0 ty []) = [123, 125, 91] ++ tyShow ty ++ [93] := by simp [tmShow, tmComb]
  cases hl with | mk h hl => have := h rfl; rw [e2]; simp only [tmN, tmNs, List.length_append, List.length_cons, List.length_nil]; omega
 | not h ih =>
  rename_i t
  have e2 : tmShow (nd 3 [t]) = [110, 111, 116, 32] ++ opS t := by simp [tmShow, tmComb, nd, tmShows, kidA, opS]
  cases hl with | mk _ hl => have i := ih (hl _ (by simp)); have := opS_len t; rw [e2]; simp only [nd, tmN, tmNs, List.length_append, List.length_cons, List.length_nil]; omega
 | neg h ih =>
  rename_i t
  have e2 : tmShow (nd 21 [t]) = [45] ++ opS t := by simp [tmShow, tmComb, nd, tmShows, kidA, opS]
  cases hl with | mk _ hl => have i := ih (hl _ (by simp)); have := opS_len t; rw [e2]; simp only [nd, tmN, tmNs, List.length_append, List.length_cons, List.length_nil]; omega
 | bin ho h h' ih ih' =>
  rename_i op t u
  have hb : (binS op).data.toList.length ≤ 10 := of_decide_eq_true (List.all_eq_true.1 bins_len op ho)
  cases hl with | mk _ hl => have i := ih (hl _ (by simp)); have i' := ih' (hl _ (by simp)); have := opS_len t; have := opS_len u; rw [show_bin ho]; simp only [nd, tmN, tmNs, List.length_append, List.length_cons, List.length_nil]; omega
 | bind ho hn h h' ih ih' =>
  rename_i op nm t u
  have hi := ident_len hn
  have e : ∃ w : List UInt8, w.length ≤ 10 ∧ tmShow (.mk op nm 0 ty0 [t, u]) = w ++ (nm.data.toList ++ ([32, 105, 110, 32] : List UInt8) ++ opS t) ++ ([32, 46, 32] : List UInt8) ++ tmShow u := by
   rcases ho with rfl | rfl | rfl
   ·exact ⟨[102, 111, 114, 97, 108, 108, 32], by decide, by simp [tmShow, tmComb, tmShows, kidA, opS]⟩
   ·exact ⟨[101, 120, 105, 115, 116, 115, 32], by decide, by simp [tmShow, tmComb, tmShows, kidA, opS]⟩
   ·exact ⟨[102, 117, 110, 32], by decide, by simp [tmShow, tmComb, tmShows, kidA, opS]⟩
  obtain ⟨w, hw, e⟩ := e
  cases hl with | mk _ hl => have i := ih (hl _ (by simp)); have i' := ih' (hl _ (by simp)); have := opS_len t; rw [e]; simp only [tmN, tmNs, List.length_append, List.length_cons, List.length_nil]; omega
 | compr hn h h' ih ih' =>
  rename_i nm t u
  have hi := ident_len hn
  have e2 : tmShow (.mk 55 nm 0 ty0 [t, u]) = ([123] : List UInt8) ++ (nm.data.toList ++ ([32, 105, 110, 32] : List UInt8) ++ opS t) ++ ([32, 124, 32] : List UInt8) ++ tmShow u ++ ([125] : List UInt8) := by simp [tmShow, tmComb, tmShows, kidA, opS]
  cases hl with | mk _ hl => have i := ih (hl _ (by simp)); have i' := ih' (hl _ (by simp)); have := opS_len t; rw [e2]; simp only [tmN, tmNs, List.length_append, List.length_cons, List.length_nil]; omega
 | fn ho h ih =>
  rename_i op t
  have hk := keyS_len op ho
  have e2 : tmShow (nd op [t]) = (keyS op).data.toList ++ ([40] : List UInt8) ++ tmShow t ++ ([41] : List UInt8) := by
   rcases ho with rfl | rfl | rfl | rfl | rfl | rfl <;> simp [tmShow, tmComb, nd, tmShows, kidA]
  cases hl with | mk _ hl => have i := ih (hl _ (by simp)); rw [e2]; simp only [nd, tmN, tmNs, List.length_append, List.length_cons, List.length_nil]; omega
 | app h h' ih ih' =>
  rename_i t u
  have e2 : tmShow (nd 54 [t, u]) = opS t ++ ([40] : List UInt8) ++ tmShow u ++ ([41] : List UInt8) := by simp [tmShow, tmComb, nd, tmShows, kidA, opS]
  cases hl with | mk _ hl => have i := ih (hl _ (by simp)); have i' := ih' (hl _ (by simp)); have := opS_len t; rw [e2]; simp only [nd, tmN, tmNs, List.length_append, List.length_cons, List.length_nil]; omega
 | img h h' ih ih' =>
  rename_i t u
  have e2 : tmShow (nd 53 [t, u]) = opS t ++ ([91] : List UInt8) ++ tmShow u ++ ([93] : List UInt8) := by simp [tmShow, tmComb, nd, tmShows, kidA, opS]
  cases hl with | mk _ hl => have i := ih (hl _ (by simp)); have i' := ih' (hl _ (by simp)); have := opS_len t; rw [e2]; simp only [nd, tmN, tmNs, List.length_append, List.length_cons, List.length_nil]; omega
 | inv h ih =>
  rename_i t
  have e2 : tmShow (nd 52 [t]) = opS t ++ ([126] : List UInt8) := by simp [tmShow, tmComb, nd, tmShows, kidA, opS]
  cases hl with | mk _ hl => have i := ih (hl _ (by simp)); have := opS_len t; rw [e2]; simp only [nd, tmN, tmNs, List.length_append, List.length_cons, List.length_nil]; omega
 | set h h' ih ih' =>
  rename_i t l
  have e2 : tmShow (nd 28 (t :: l)) = ([123] : List UInt8) ++ (tmShow t ++ (l.map fun u => [44, 32] ++ tmShow u).flatten) ++ ([125] : List UInt8) := by
   rw [← join_flat]; simp [tmShow, tmComb, nd]
  cases hl with
  | mk _ hl =>
   have i := ih (hl _ (by simp))
   have f : (l.map fun u => [44, 32] ++ tmShow u).flatten.length ≤ 900 * tmNs l := by
    have : ∀ m : List Tm, (∀ u, u ∈ m → (tmShow u).length + 2 ≤ 900 * tmN u) → (m.map fun u => [44, 32] ++ tmShow u).flatten.length ≤ 900 * tmNs m := by
     intro m
     induction m with
     | nil => intro _; simp
     | cons v m ihm =>
      intro hm
      have h1 := hm v (List.mem_cons_self ..)
      have h2 := ihm fun u hu => hm u (List.mem_cons_of_mem _ hu)
      simp only [List.map_cons, List.flatten_cons, List.length_append, List.length_cons, List.length_nil, tmNs]
      omega
    exact this l fun u hu => ih' u hu (hl u (by simp [hu]))
   rw [e2]; simp only [nd, tmN, tmNs, List.length_append, List.length_cons, List.length_nil]; omega
theorem fmt_len (t : Tm) : (fmtL t).length ≤ 1800000 := by
 unfold fmtL
 split
 ·rename_i hv
  have h1 := show_len (valid_rd hv) (ln_of (valid_ok hv))
  have h2 := (valid_sz hv).2
  omega
 ·simp
theorem show_ne {t : Tm} (h : RdTm t) : tmShow t ≠ [] := by
 intro e
 have := show_lex h
 rw [e] at this
 have hn := toks_ne h
 generalize hL : tmToks t = L at *
 generalize hA : ([] : List UInt8) = A at this
 cases this with
 | nil => exact hn rfl
 | blank => cases hA
 | word hw => rename_i w r L _ _ _; cases w with
  | nil => cases hw
  | cons => cases hA
 | prime hw => rename_i w r L _ _; cases w <;> cases hA
 | num hd => rename_i w r n L _ _ _ _; cases w with
  | nil => cases hd
  | cons => cases hA
 | sign hx =>
  rename_i x r L _ _
  have hh := List.all_eq_true.1 sign_hd x hx
  simp only [Bool.and_eq_true, Bool.not_eq_true', List.isEmpty_eq_false_iff] at hh
  exact hh.2 (List.append_eq_nil_iff.1 hA.symm).1
/-! The walks. -/
def P10 (w : World) : Prop := Lib.TabIs Tryz.prog w "internal/strconv.uint64pow10" .u64 Lib.pow10Tab
theorem P10.kept {w w' : World} (h : P10 w) (k : Kept (fun _ => False) w w') : P10 w' :=
 Lib.tabBelow_of_tabIs h w' ⟨k.os, k.tape, k.output, k.size, fun q hq => k.block q hq (fun e => e)⟩
theorem fmt_pad {t : Tm} (hv : validB t = true) : fmtL t = tmShow t := by unfold fmtL; rw [if_pos hv]
set_option maxRecDepth 100000 in
set_option maxHeartbeats 4000000 in
theorem format_any {ok : Nat → Prop} {w : World} {t : Tm} {ta : Option Addr} {tn tc : Nat} {ma : Option Addr} {mn mc : Nat} (hty : TyL ok w t.ty.kids (.slice ta tn tc)) (htm : TmL ok w t.kids (.slice ma mn mc)) (hs : SmTm big t) (hp : P10 w) :
  Calls Tryz.prog 21 #[.agg #[.int .i64 t.op, .string t.name, .int .i64 t.n, .int .i64 t.ty.kind, .string t.ty.name, .slice ta tn tc, .slice ma mn mc]] w fun e w' => e = .returned (.string (str (fmtL t))) ∧ Kept (fun _ => False) w w' := by
 have K0 : Kept (fun _ => False) w (w.alloc (.cells #[.int .i64 t.op, .string t.name, .int .i64 t.n, .int .i64 t.ty.kind, .string t.ty.name, .slice ta tn tc, .slice ma mn mc] 27)) := (Kept.refl _ _).alloc _
 have bX : Blk (w.alloc (.cells #[.int .i64 t.op, .string t.name, .int .i64 t.n, .int .i64 t.ty.kind, .string t.ty.name, .slice ta tn tc, .slice ma mn mc] 27)) w.heap.size 27 (tmCells t (.slice ta tn tc) (.slice ma mn mc)) := Blk.new w 27 _
 have HV := Lib.hid (valid_any (hty.frame (Same.alloc w (.cells #[.int .i64 t.op, .string t.name, .int .i64 t.n, .int .i64 t.ty.kind, .string t.ty.name, .slice ta tn tc, .slice ma mn mc] 27))) (htm.frame (Same.alloc w (.cells #[.int .i64 t.op, .string t.name, .int .i64 t.n, .int .i64 t.ty.kind, .string t.ty.name, .slice ta tn tc, .slice ma mn mc] 27))) hs)
 cases hv : validB t
 ·have e1 : Hid (fmtL t = []) := Lib.hid (by unfold fmtL; rw [if_neg (by rw [hv]; simp)])
  rw [hv] at HV
  go_enter Tryz.func21, Tryz.ntmps21
  go_wp2_with fail
  refine HV.out.mono ?_
  rintro e w1 ⟨rfl, k1⟩
  go_wp2_with fail
  go_ret
  exact ⟨by rw [e1.out]; rfl, K0.trans k1⟩
 have hrd := valid_rd hv
 have hlen := fmt_len t
 have H0 := Lib.hid (show_ne hrd)
 have HE := Lib.hid (fmt_pad hv)
 rw [HE.out] at hlen
 have HL : Hid ((tmShow t).length ≤ 1000000000) := Lib.hid (by omega)
 have HP := Lib.hid (pd_show (valid_ok hv))
 have HT := Lib.hid hp
 rw [hv] at HV
 clear hlen hs hrd hp
 go_enter Tryz.func21, Tryz.ntmps21
 go_wp2_with fail
 refine HV.out.mono ?_
 rintro e w1 ⟨rfl, k1⟩
 have K1 := K0.trans k1
 have b1 := bX.kept k1 (fun h => h)
 have bB : Blk (w1.alloc (.cells #[.pointer none, .slice none 0 0] 71)) w1.heap.size 71 [.pointer none, .slice none 0 0] := Blk.new w1 71 _
 have K2 : Kept (fun _ => False) w1 (w1.alloc (.cells #[.pointer none, .slice none 0 0] 71)) := (Kept.refl _ _).alloc _
 have hU : Bu w1.heap.size w1.heap.size [] (w1.alloc (.cells #[.pointer none, .slice none 0 0] 71)) := Or.inl ⟨Nat.le_refl _, .slice none 0 0, bB, World.ownsRow_nil _ _ _ _, by simp [Value.ownBlock]⟩
 have hTB : TB w1.heap.size (w1.alloc (.cells #[.pointer none, .slice none 0 0] 71)) := (Lib.tabBelow_of_tabIs (HT.out.kept K1)).on ⟨K2.os, K2.tape, K2.output, K2.size, fun q hq => K2.block q hq (fun e => e)⟩
 have t5 := ((hty.frame (Same.of_kept K1 (fun _ _ e => e))).mono (ok' := fun q => q < w1.heap.size) (fun q h _ => h)).frame (Same.of_kept K2 (fun _ _ e => e))
 have t6 := ((htm.frame (Same.of_kept K1 (fun _ _ e => e))).mono (ok' := fun q => q < w1.heap.size) (fun q h _ => h)).frame (Same.of_kept K2 (fun _ _ e => e))
 have HC := Lib.hid (HP.out w1.heap.size w1.heap.size [] _ _ _ hTB hU (by simp) t5 t6 (by have := HL.out; simpa using this))
 have b2 := b1.alloc (.cells #[.pointer none, .slice none 0 0] 71)
 have l1 := b1.lt
 have n1 : w.heap.size ≠ w1.heap.size := by omega
 have gA : ∀ i, w1.cell? ⟨w.heap.size, i, none⟩ = (tmCells t (.slice ta tn tc) (.slice ma mn mc))[i]? := b1.cell
 unfold tmCells at gA
 unfold tmVal at HC
 clear t5 t6 hTB hU
 go_wp2_with fail
 refine HC.out.mono ?_
 rintro e w3 ⟨rfl, u3, k3⟩
 rw [List.nil_append] at u3
 have HS := Lib.hid (bstr_any u3 H0.out)
 have K3 : Kept (fun k => w1.heap.size ≤ k) w1 w3 := (K2.mono (fun _ _ h => h.elim)).via k3 (fun x hx e => by
  rcases e with rfl | ⟨h, _⟩
  ·exact Nat.le_refl _
  ·exact h)
 go_wp2_with fail
 refine HS.out.mono ?_
 rintro e w4 ⟨rfl, k4⟩
 go_wp2_with fail
 go_ret
 refine ⟨by rw [HE.out]; rfl, K1.via (S' := fun k => w1.heap.size ≤ k) (K3.via (S' := fun k => w1.heap.size ≤ k) ⟨k4.os, k4.tape, k4.output, k4.size, fun q hq hn => k4.block q (by omega)⟩ (fun _ _ h => h)) (fun x hx h => ?_)⟩
 have := K1.size
 omega
set_option maxRecDepth 100000 in
set_option maxHeartbeats 4000000 in
theorem rformat_any {ok : Nat → Prop} {w : World} {t : Tm} {ta : Option Addr} {tn tc : Nat} {ma : Option Addr} {mn mc : Nat} (hty : TyL ok w t.ty.kids (.slice ta tn tc)) (htm : TmL ok w t.kids (.slice ma mn mc)) (hs : SmTm big t) :
  Calls Tryz.prog 25 #[.agg #[.int .i64 t.op, .string t.name, .int .i64 t.n, .int .i64 t.ty.kind, .string t.ty.name, .slice ta tn tc, .slice ma mn mc]] w fun e w' => e = .returned (.string (str (fmtL t))) ∧ Kept (fun _ => False) w w' := by
 have K0 : Kept (fun _ => False) w (w.alloc (.cells #[.int .i64 t.op, .string t.name, .int .i64 t.n, .int .i64 t.ty.kind, .string t.ty.name, .slice ta tn tc, .slice ma mn mc] 27)) := (Kept.refl _ _).alloc _
 have bX : Blk (w.alloc (.cells #[.int .i64 t.op, .string t.name, .int .i64 t.n, .int .i64 t.ty.kind, .string t.ty.name, .slice ta tn tc, .slice ma mn mc] 27)) w.heap.size 27 (tmCells t (.slice ta tn tc) (.slice ma mn mc)) := Blk.new w 27 _
 have hk2 := hty.frame (Same.of_kept (ok := ok) K0 (fun k h e => e))
 have hm2 := htm.frame (Same.of_kept (ok := ok) K0 (fun k h e => e))
 have HV := Lib.hid (rvalid_any hk2 hm2 hs)
 cases hv : validB t
 ·have e1 : Hid (fmtL t = []) := Lib.hid (by unfold fmtL; rw [if_neg (by rw [hv]; simp)])
  rw [hv] at HV
  clear hk2 hm2
  go_enter Tryz.func25, Tryz.ntmps25
  go_wp2_with fail
  refine HV.out.mono ?_
  rintro e w1 ⟨rfl, k1⟩
  go_wp2_with fail
  go_ret
  exact ⟨by rw [e1.out]; rfl, K0.trans k1⟩
 have hlen := fmt_len t
 have HE := Lib.hid (fmt_pad hv)
 rw [HE.out] at hlen
 have HW := Lib.hid (fun W (k : Kept (fun _ => False) (w.alloc (.cells #[.int .i64 t.op, .string t.name, .int .i64 t.n, .int .i64 t.ty.kind, .string t.ty.name, .slice ta tn tc, .slice ma mn mc] 27)) W) => rw_show (valid_ok hv) W ok _ _ (hk2.frame (Same.of_kept (ok := ok) k (fun k h e => e))) (hm2.frame (Same.of_kept (ok := ok) k (fun k h e => e))) (by omega))
 unfold tmVal at HW
 rw [hv] at HV
 clear hlen hs hk2 hm2
 go_enter Tryz.func25, Tryz.ntmps25
 go_wp2_with fail
 refine HV.out.mono ?_
 rintro e w1 ⟨rfl, k1⟩
 have gA : ∀ i, w1.cell? ⟨w.heap.size, i, none⟩ = (tmCells t (.slice ta tn tc) (.slice ma mn mc))[i]? := (bX.kept k1 (fun h => h)).cell
 unfold tmCells at gA
 have HS := Lib.hid (HW.out w1 k1)
 go_wp2_with fail
 refine HS.out.mono ?_
 rintro e w2 ⟨rfl, k2⟩
 go_wp2_with fail
 go_ret
 exact ⟨by rw [HE.out]; rfl, (K0.trans k1).trans k2⟩
def fmtT (t : Ty) : List UInt8 := if validTyB t then tyShow t else []
set_option maxRecDepth 100000 in
set_option maxHeartbeats 4000000 in
theorem formatTy_any {ok : Nat → Prop} {w : World} {t : Ty} {a : Option Addr} {n c : Nat} (hk : TyL ok w t.kids (.slice a n c)) (hs : SmTy big t) :
  Calls Tryz.prog 26 #[.agg #[.int .i64 t.kind, .string t.name, .slice a n c]] w fun e w' => e = .returned (.string (str (fmtT t))) ∧ Kept (fun _ => False) w w' := by
 have K0 : Kept (fun _ => False) w (w.alloc (.cells #[.int .i64 t.kind, .string t.name, .slice a n c] 24)) := (Kept.refl _ _).alloc _
 have bX : Blk (w.alloc (.cells #[.int .i64 t.kind, .string t.name, .slice a n c] 24)) w.heap.size 24 [.int .i64 t.kind, .string t.name, .slice a n c] := Blk.new w 24 _
 have hk2 := hk.frame (Same.of_kept (ok := ok) K0 (fun k h e => e))
 have HV := Lib.hid (validTy_any hk2 hs)
 cases hv : validTyB t
 ·have e1 : Hid (fmtT t = []) := Lib.hid (by unfold fmtT; rw [if_neg (by rw [hv]; simp)])
  rw [hv] at HV
  clear hk2
  go_enter Tryz.func26, Tryz.ntmps26
  go_wp2_with fail
  refine HV.out.mono ?_
  rintro e w1 ⟨rfl, k1⟩
  go_wp2_with fail
  go_ret
  exact ⟨by rw [e1.out]; rfl, K0.trans k1⟩
 have HE : Hid (fmtT t = tyShow t) := Lib.hid (by unfold fmtT; rw [if_pos hv])
 have ht := validTy_ok hv
 have HW := Lib.hid (fun W (k : Kept (fun _ => False) (w.alloc (.cells #[.int .i64 t.kind, .string t.name, .slice a n c] 24)) W) => ts_any ht.1 (by omega) W ok _ (hk2.frame (Same.of_kept (ok := ok) k (fun k h e => e))) (by omega))
 unfold tyVal at HW
 rw [hv] at HV
 clear ht hs hk2
 go_enter Tryz.func26, Tryz.ntmps26
 go_wp2_with fail
 refine HV.out.mono ?_
 rintro e w1 ⟨rfl, k1⟩
 have gA : ∀ i, w1.cell? ⟨w.heap.size, i, none⟩ = [Value.int .i64 t.kind, .string t.name, .slice a n c][i]? := (bX.kept k1 (fun h => h)).cell
 have HS := Lib.hid (HW.out w1 k1)
 go_wp2_with fail
 refine HS.out.mono ?_
 rintro e w2 ⟨rfl, k2⟩
 go_wp2_with fail
 go_ret
 exact ⟨by rw [HE.out]; rfl, (K0.trans k1).trans k2⟩
set_option maxRecDepth 100000 in
set_option maxHeartbeats 4000000 in
theorem rformatTy_any {ok : Nat → Prop} {w : World} {t : Ty} {a : Option Addr} {n c : Nat} (hk : TyL ok w t.kids (.slice a n c)) (hs : SmTy big t) :
  Calls Tryz.prog 27 #[.agg #[.int .i64 t.kind, .string t.name, .slice a n c]] w fun e w' => e = .returned (.string (str (fmtT t))) ∧ Kept (fun _ => False) w w' := by
 have K0 : Kept (fun _ => False) w (w.alloc (.cells #[.int .i64 t.kind, .string t.name, .slice a n c] 24)) := (Kept.refl _ _).alloc _
 have bX : Blk (w.alloc (.cells #[.int .i64 t.kind, .string t.name, .slice a n c] 24)) w.heap.size 24 [.int .i64 t.kind, .string t.name, .slice a n c] := Blk.new w 24 _
 have hk2 := hk.frame (Same.of_kept (ok := ok) K0 (fun k h e => e))
 have HV := Lib.hid (rvalidTy_any hk2 hs)
 cases hv : validTyB t
 ·have e1 : Hid (fmtT t = []) := Lib.hid (by unfold fmtT; rw [if_neg (by rw [hv]; simp)])
  rw [hv] at HV
  clear hk2
  go_enter Tryz.func27, Tryz.ntmps27
  go_wp2_with fail
  refine HV.out.mono ?_
  rintro e w1 ⟨rfl, k1⟩
  go_wp2_with fail
  go_ret
  exact ⟨by rw [e1.out]; rfl, K0.trans k1⟩
 have HE : Hid (fmtT t = tyShow t) := Lib.hid (by unfold fmtT; rw [if_pos hv])
 have ht := validTy_ok hv
 have HW := Lib.hid (fun W (k : Kept (fun _ => False) (w.alloc (.cells #[.int .i64 t.kind, .string t.name, .slice a n c] 24)) W) => rs_any ht.1 (by omega) W ok _ (hk2.frame (Same.of_kept (ok := ok) k (fun k h e => e))) (by omega))
 unfold tyVal at HW
 rw [hv] at HV
 clear ht hs hk2
 go_enter Tryz.func27, Tryz.ntmps27
 go_wp2_with fail
 refine HV.out.mono ?_
 rintro e w1 ⟨rfl, k1⟩
 have gA : ∀ i, w1.cell? ⟨w.heap.size, i, none⟩ = [Value.int .i64 t.kind, .string t.name, .slice a n c][i]? := (bX.kept k1 (fun h => h)).cell
 have HS := Lib.hid (HW.out w1 k1)
 go_wp2_with fail
 refine HS.out.mono ?_
 rintro e w2 ⟨rfl, k2⟩
 go_wp2_with fail
 go_ret
 exact ⟨by rw [HE.out]; rfl, (K0.trans k1).trans k2⟩
end Go.Proofs.YtckjlliobebodaaGreatDoor
namespace Go.Proofs.YtckjlliobebodaaGreatDoor
open Go.ChangeShapes Go.WideShapes Go.ChangeAt Go.RowKit
theorem gPow : Tryz.prog.globalNamed "internal/strconv.uint64pow10" = some 2 := by kernel_rfl
theorem gPowT : (Tryz.prog.globals[2]?).map (·.type) = some 170 := by kernel_rfl
theorem p10_of_laid {W : World} (h : laidMetH Tryz.prog Rows.termErrorStaysRow.laid W) : P10 W := by
  have h0 : laidMet Tryz.prog Rows.termErrorStaysRow.laid W := h
  exact Lib.tabIs_of_head gPow gPowT Tryz.underlying170 Tryz.underlying154 (by kernel_rfl) (by kernel_rfl) h0.tail.tail
theorem below_of_kept {w w' : World} (k : Kept (fun _ => False) w w') : Below w.heap.size w w' := ⟨k.os, k.tape, k.output, k.size, fun q hq => k.block q hq (fun e => e)⟩
theorem laidOut0 : laidOutB Tryz.prog = true := by kernel_rfl
theorem val_of_cells {v : Value} {l : List Value} (h : v.cells.toList = l) (hl : l.length ≠ 1) : v = .agg l.toArray := by
  cases v
  all_goals first
  | (exfalso; apply hl; rw [← h]; rfl)
  | (rename_i a; have : a.toList = l := h
     rw [← this])
theorem arg_tm {H : Type} {enc : TypeId × Value → H} {W : World} {v : Value} {d : DataW H} {p : List MemPlace} (h : DataW.Trod enc Tryz.prog W 0 (fun _ => true) true 27 v d p) :
    ∃ (t : Tm) (tk kk : Value), v = tmVal t tk kk ∧ TyL (fun _ => True) W t.ty.kids tk ∧ TmL (fun _ => True) W t.kids kk ∧ SmTm big t := by
  obtain ⟨fuel, h⟩ := h
  obtain ⟨t, tk, kk, hc, h1, h2, h3⟩ := open_tm fuel h
  exact ⟨t, tk, kk, val_of_cells hc (by simp [tmCells]), h1, h2, h3⟩
theorem arg_ty {H : Type} {enc : TypeId × Value → H} {W : World} {v : Value} {d : DataW H} {p : List MemPlace} (h : DataW.Trod enc Tryz.prog W 0 (fun _ => true) true 24 v d p) :
    ∃ (t : Ty) (tk : Value), v = tyVal t tk ∧ TyL (fun _ => True) W t.kids tk ∧ SmTy big t := by
  obtain ⟨fuel, h⟩ := h
  obtain ⟨t, tk, hc, h1, h2⟩ := open_ty fuel h
  exact ⟨t, tk, val_of_cells hc (by simp), h1, h2⟩
theorem back_tm {H : Type} {enc : TypeId × Value → H} {W W' : World} {v : Value} {d : DataW H} {p : List MemPlace} (h : DataW.Trod enc Tryz.prog W 0 (fun _ => true) true 27 v d p) (k : Kept (fun _ => False) W W') (hlt : ∀ x ∈ p, x.block < W.heap.size) :
    DataW.Trod enc Tryz.prog W' 0 (fun b => decide (b < W.heap.size)) true 27 v d p := Below.trod laidOut0 (by kernel_rfl) (of_decide_eq_true (by kernel_rfl)) h (below_of_kept k) hlt
theorem back_ty {H : Type} {enc : TypeId × Value → H} {W W' : World} {v : Value} {d : DataW H} {p : List MemPlace} (h : DataW.Trod enc Tryz.prog W 0 (fun _ => true) true 24 v d p) (k : Kept (fun _ => False) W W') (hlt : ∀ x ∈ p, x.block < W.heap.size) :
    DataW.Trod enc Tryz.prog W' 0 (fun b => decide (b < W.heap.size)) true 24 v d p := Below.trod laidOut0 (by kernel_rfl) (of_decide_eq_true (by kernel_rfl)) h (below_of_kept k) hlt
end Go.Proofs.YtckjlliobebodaaGreatDoor
namespace Go.Proofs.YtckjlliobebodaaGreatDoor
open Go.RowKit
set_option maxRecDepth 100000 in
set_option maxHeartbeats 32000000 in
theorem sh_any {t : Tm} {ty : Ty} {tk kk yk : Value} {w : World} (hgl : Gl w) (hp : P10 w) (hty : TyL (fun _ => True) w t.ty.kids tk) (htm : TmL (fun _ => True) w t.kids kk) (hs : SmTm big t) (hyk : TyL (fun _ => True) w ty.kids yk) (hsy : SmTy big ty) :
    Calls Tryz.prog 8 #[tmVal t tk kk, tyVal ty yk] w (EsOk w) := by
  obtain ⟨ta, tn, tc, rfl⟩ := hty.slice
  obtain ⟨ma, mn, mc, rfl⟩ := htm.slice
  obtain ⟨ya, yn, yc, rfl⟩ := hyk.slice
  have H23 := Lib.hid (fun W (k : Kept (fun _ => False) w W) => size_of (ok := fun _ => True) (hty.frame (Same.of_kept k (fun _ _ e => e))) (htm.frame (Same.of_kept k (fun _ _ e => e))) hs)
  have H24 := Lib.hid (fun W (k : Kept (fun _ => False) w W) => rsize_of (ok := fun _ => True) (hty.frame (Same.of_kept k (fun _ _ e => e))) (htm.frame (Same.of_kept k (fun _ _ e => e))) hs)
  have H21 := Lib.hid (fun W (k : Kept (fun _ => False) w W) => format_any (ok := fun _ => True) (hty.frame (Same.of_kept k (fun _ _ e => e))) (htm.frame (Same.of_kept k (fun _ _ e => e))) hs (hp.kept k))
  have H25 := Lib.hid (fun W (k : Kept (fun _ => False) w W) => rformat_any (ok := fun _ => True) (hty.frame (Same.of_kept k (fun _ _ e => e))) (htm.frame (Same.of_kept k (fun _ _ e => e))) hs)
  have H28 := Lib.hid (fun W (k : Kept (fun _ => False) w W) => valid_any (ok := fun _ => True) (hty.frame (Same.of_kept k (fun _ _ e => e))) (htm.frame (Same.of_kept k (fun _ _ e => e))) hs)
  have H20 := Lib.hid (fun W (k : Kept (fun _ => False) w W) => rvalid_any (ok := fun _ => True) (hty.frame (Same.of_kept k (fun _ _ e => e))) (htm.frame (Same.of_kept k (fun _ _ e => e))) hs)
  have H26 := Lib.hid (fun W (k : Kept (fun _ => False) w W) => formatTy_any (ok := fun _ => True) (hyk.frame (Same.of_kept k (fun _ _ e => e))) hsy)
  have H27 := Lib.hid (fun W (k : Kept (fun _ => False) w W) => rformatTy_any (ok := fun _ => True) (hyk.frame (Same.of_kept k (fun _ _ e => e))) hsy)
  have H29 := Lib.hid (fun W (k : Kept (fun _ => False) w W) => validTy_any (ok := fun _ => True) (hyk.frame (Same.of_kept k (fun _ _ e => e))) hsy)
  have H30 := Lib.hid (fun W (k : Kept (fun _ => False) w W) => rvalidTy_any (ok := fun _ => True) (hyk.frame (Same.of_kept k (fun _ _ e => e))) hsy)
  have H14 := Lib.hid (fun W (k : Kept (fun _ => False) w W) => awake_any W (hgl.kept k (fun h => h) (fun h => h)))
  generalize str (fmtL t) = sf at *
  generalize str (fmtT ty) = sg at *
  generalize validB t = va at *
  generalize validTyB ty = vb at *
  generalize szA t = za at *
  generalize szB t = zb at *
  have bA : Blk ((w.alloc (.cells #[.int .i64 t.op, .string t.name, .int .i64 t.n, .int .i64 t.ty.kind, .string t.ty.name, .slice ta tn tc, .slice ma mn mc] 27)).alloc (.cells #[.int .i64 ty.kind, .string ty.name, .slice ya yn yc] 24)) w.heap.size 27 [.int .i64 t.op, .string t.name, .int .i64 t.n, .int .i64 t.ty.kind, .string t.ty.name, .slice ta tn tc, .slice ma mn mc] := (Blk.new w 27 _).alloc _
  have bB : Blk ((w.alloc (.cells #[.int .i64 t.op, .string t.name, .int .i64 t.n, .int .i64 t.ty.kind, .string t.ty.name, .slice ta tn tc, .slice ma mn mc] 27)).alloc (.cells #[.int .i64 ty.kind, .string ty.name, .slice ya yn yc] 24)) (w.heap.size + 1) 24 [.int .i64 ty.kind, .string ty.name, .slice ya yn yc] := Blk.new' 24 _ (by simp)
  have K0 : Kept (fun _ => False) w ((w.alloc (.cells #[.int .i64 t.op, .string t.name, .int .i64 t.n, .int .i64 t.ty.kind, .string t.ty.name, .slice ta tn tc, .slice ma mn mc] 27)).alloc (.cells #[.int .i64 ty.kind, .string ty.name, .slice ya yn yc] 24)) := ((Kept.refl _ _).alloc _).alloc _
  clear hty htm hyk hs hsy hgl hp
  change Calls Tryz.prog 8 #[.agg #[.int .i64 t.op, .string t.name, .int .i64 t.n, .int .i64 t.ty.kind, .string t.ty.name, .slice ta tn tc, .slice ma mn mc], .agg #[.int .i64 ty.kind, .string ty.name, .slice ya yn yc]] w (EsOk w)
  go_enter Tryz.func8, Tryz.ntmps8
  go_wp2_with fail
  generalize (w.alloc (.cells #[.int .i64 t.op, .string t.name, .int .i64 t.n, .int .i64 t.ty.kind, .string t.ty.name, .slice ta tn tc, .slice ma mn mc] 27)).alloc (.cells #[.int .i64 ty.kind, .string ty.name, .slice ya yn yc] 24) = w0 at *
  refine (H23.out _ K0).mono ?_
  rintro e w1 ⟨rfl, k1⟩
  have K1 := K0.trans k1
  have HS := Lib.hid (fun W (k : Kept (fun _ => False) w0 W) => (⟨(bA.kept k (fun h => h)).cell 0, (bA.kept k (fun h => h)).cell 1, (bA.kept k (fun h => h)).cell 2, (bA.kept k (fun h => h)).cell 3, (bA.kept k (fun h => h)).cell 4, (bA.kept k (fun h => h)).cell 5, (bA.kept k (fun h => h)).cell 6, (bB.kept k (fun h => h)).cell 0, (bB.kept k (fun h => h)).cell 1, (bB.kept k (fun h => h)).cell 2⟩ :
    W.cell? ⟨w.heap.size, 0, none⟩ = some (.int .i64 t.op) ∧ W.cell? ⟨w.heap.size, 1, none⟩ = some (.string t.name) ∧ W.cell? ⟨w.heap.size, 2, none⟩ = some (.int .i64 t.n) ∧ W.cell? ⟨w.heap.size, 3, none⟩ = some (.int .i64 t.ty.kind) ∧ W.cell? ⟨w.heap.size, 4, none⟩ = some (.string t.ty.name) ∧ W.cell? ⟨w.heap.size, 5, none⟩ = some (.slice ta tn tc) ∧ W.cell? ⟨w.heap.size, 6, none⟩ = some (.slice ma mn mc) ∧ W.cell? ⟨w.heap.size + 1, 0, none⟩ = some (.int .i64 ty.kind) ∧ W.cell? ⟨w.heap.size + 1, 1, none⟩ = some (.string ty.name) ∧ W.cell? ⟨w.heap.size + 1, 2, none⟩ = some (.slice ya yn yc)))
  obtain ⟨a0, a1, a2, a3, a4, a5, a6, b0, b1, b2⟩ := HS.out w1 k1
  go_wp2_with fail
  refine (H24.out _ K1).mono ?_
  rintro e w2 ⟨rfl, k2⟩
  have KZ := k1.trans k2
  clear a0 a1 a2 a3 a4 a5 a6 b0 b1 b2
  obtain ⟨a0, a1, a2, a3, a4, a5, a6, b0, b1, b2⟩ := HS.out w2 KZ
  go_upto_region 3 with (fail)
  have KX : Kept (fun _ => False) w0 w2.drew := KZ.drew
  clear k1 k2 K1 KZ H23 H24 bA bB
  go_region_held (fun w' => w'.cell? ⟨w.heap.size, 0, none⟩ = some (.int .i64 t.op) ∧ w'.cell? ⟨w.heap.size, 1, none⟩ = some (.string t.name) ∧ w'.cell? ⟨w.heap.size, 2, none⟩ = some (.int .i64 t.n) ∧ w'.cell? ⟨w.heap.size, 3, none⟩ = some (.int .i64 t.ty.kind) ∧ w'.cell? ⟨w.heap.size, 4, none⟩ = some (.string t.ty.name) ∧ w'.cell? ⟨w.heap.size, 5, none⟩ = some (.slice ta tn tc) ∧ w'.cell? ⟨w.heap.size, 6, none⟩ = some (.slice ma mn mc) ∧ w'.cell? ⟨w.heap.size + 1, 0, none⟩ = some (.int .i64 ty.kind) ∧ w'.cell? ⟨w.heap.size + 1, 1, none⟩ = some (.string ty.name) ∧ w'.cell? ⟨w.heap.size + 1, 2, none⟩ = some (.slice ya yn yc)) (exact ⟨a0, a1, a2, a3, a4, a5, a6, b0, b1, b2⟩)
    (first
    | (go_at_call 21; refine (H21.out _ (K0.trans KX)).mono ?_; rintro e wq ⟨rfl, kq⟩; have KX := KX.trans kq; obtain ⟨a0, a1, a2, a3, a4, a5, a6, b0, b1, b2⟩ := HS.out _ KX)
    | (go_at_call 25; refine (H25.out _ (K0.trans KX)).mono ?_; rintro e wq ⟨rfl, kq⟩; have KX := KX.trans kq; obtain ⟨a0, a1, a2, a3, a4, a5, a6, b0, b1, b2⟩ := HS.out _ KX)
    | (go_at_call 26; refine (H26.out _ (K0.trans KX)).mono ?_; rintro e wq ⟨rfl, kq⟩; have KX := KX.trans kq; obtain ⟨a0, a1, a2, a3, a4, a5, a6, b0, b1, b2⟩ := HS.out _ KX)
    | (go_at_call 27; refine (H27.out _ (K0.trans KX)).mono ?_; rintro e wq ⟨rfl, kq⟩; have KX := KX.trans kq; obtain ⟨a0, a1, a2, a3, a4, a5, a6, b0, b1, b2⟩ := HS.out _ KX)
    | (go_at_call 28; refine (H28.out _ (K0.trans KX)).mono ?_; rintro e wq ⟨rfl, kq⟩; have KX := KX.trans kq; obtain ⟨a0, a1, a2, a3, a4, a5, a6, b0, b1, b2⟩ := HS.out _ KX)
    | (go_at_call 20; refine (H20.out _ (K0.trans KX)).mono ?_; rintro e wq ⟨rfl, kq⟩; have KX := KX.trans kq; obtain ⟨a0, a1, a2, a3, a4, a5, a6, b0, b1, b2⟩ := HS.out _ KX)
    | (go_at_call 29; refine (H29.out _ (K0.trans KX)).mono ?_; rintro e wq ⟨rfl, kq⟩; have KX := KX.trans kq; obtain ⟨a0, a1, a2, a3, a4, a5, a6, b0, b1, b2⟩ := HS.out _ KX)
    | (go_at_call 30; refine (H30.out _ (K0.trans KX)).mono ?_; rintro e wq ⟨rfl, kq⟩; have KX := KX.trans kq; obtain ⟨a0, a1, a2, a3, a4, a5, a6, b0, b1, b2⟩ := HS.out _ KX)
    | (go_at_call 14; refine (H14.out _ (K0.trans KX)).mono ?_; rintro e wq ⟨rfl, kq⟩; have KX := KX.trans kq; obtain ⟨a0, a1, a2, a3, a4, a5, a6, b0, b1, b2⟩ := HS.out _ KX))
  all_goals
    go_wp2_with fail
    go_ret
    exact ⟨rfl, K0.trans KX⟩
end Go.Proofs.YtckjlliobebodaaGreatDoor
