/- Texts RNds Siz ShP RShw of this proof, in one. -/
import Derived.Test.YtckjlliobebodaaGreatDoorBd12
import Derived.Test.YtckjlliobebodaaGreatDoorBd5
import Derived.Test.YtckjlliobebodaaGreatDoorBd9
import Derived.Test.YtckjlliobebodaaGreatDoorBd8
set_option linter.unusedVariables false
set_option linter.unusedSimpArgs false
namespace Go.Proofs.YtckjlliobebodaaGreatDoor
open Go.RowKit
def NdC (t : Tm) : Prop := ∀ (w : World) (ok : Nat → Prop) (c d : Nat) (tk kk : Value), c ≤ 2000 → 1 ≤ d → d ≤ 65 → TyL ok w t.ty.kids tk → TmL ok w t.kids kk →
  Calls Tryz.prog 51 #[tmVal t tk kk, .int .i64 d, .int .i64 c] w fun e w' => e = .returned (.int .i64 (tdR (fS 2000 64 t d c))) ∧ Kept (fun _ => False) w w'
theorem nd_no {op : Int} {nm : ByteArray} {N : Int} {ty : Ty} {l : List Tm} {d c : Nat} (h : ((decide (c + 1 ≤ 2000) && decide (d ≤ 64)) && formedB op nm N ty l.length) = false) : tdR (fS 2000 64 (.mk op nm N ty l) d c) = -1 := by
  rw [f_eq, h]; rfl
theorem nd_yes {op : Int} {nm : ByteArray} {N : Int} {ty : Ty} {l : List Tm} {d c : Nat} (hc : c + 1 ≤ 2000) (hd : d ≤ 64) (h : formedB op nm N ty l.length = true) : fS 2000 64 (.mk op nm N ty l) d c = fsS 2000 64 l (d + 1) (c + 1) := by
  rw [f_eq, decide_eq_true hc, decide_eq_true hd, h]; rfl
theorem nd_drop {l : List Tm} {d c k : Nat} (h : k < l.length) : tdR (fsS 2000 64 (l.drop k) d c) = if (fS 2000 64 l[k] d c).1 = true then tdR (fsS 2000 64 (l.drop (k + 1)) d (fS 2000 64 l[k] d c).2) else -1 := by
  rw [fs_step h]; split <;> rfl
theorem rnode_t {ok : Nat → Prop} {w : World} {op : Int} {nm : ByteArray} {N : Int} {ty : Ty} {a : Option Addr} {n c : Nat} {ma : Option Addr} {mn mc : Nat} (hk : TyL ok w ty.kids (.slice a n c)) (hs : SmTy big ty) (hsz : nm.size ≤ 9223372036854775807) {v : Bool} (hv : formedB op nm N ty mn = v) :
    Calls Tryz.prog 93 #[.agg #[.int .i64 op, .string nm, .int .i64 N, .int .i64 ty.kind, .string ty.name, .slice a n c, .slice ma mn mc]] w fun e w' => e = .returned (.bool v) ∧ Kept (fun _ => False) w w' := by rw [← hv]; exact rnode_any hk hs hsz op
set_option maxRecDepth 100000 in
set_option maxHeartbeats 8000000 in
theorem rnodes_bad {ok : Nat → Prop} {op : Int} {nm : ByteArray} {N : Int} {ty : Ty} {a : Option Addr} {n c' : Nat} {ma : Option Addr} {mn mc c d : Nat} {w : World} (hk : TyL ok w ty.kids (.slice a n c')) (hs : SmTy big ty) (hsz : nm.size ≤ 9223372036854775807) (hc : c ≤ 2000) (h1 : 1 ≤ d) (hd : d ≤ 65)
    (h : ((decide (c + 1 ≤ 2000) && decide (d ≤ 64)) && formedB op nm N ty mn) = false) :
    Calls Tryz.prog 51 #[.agg #[.int .i64 op, .string nm, .int .i64 N, .int .i64 ty.kind, .string ty.name, .slice a n c', .slice ma mn mc], .int .i64 d, .int .i64 c] w fun e w' => e = .returned (.int .i64 (-1)) ∧ Kept (fun _ => False) w w' := by
  have K1 : Kept (fun _ => False) w (w.alloc (.cells #[.int .i64 op, .string nm, .int .i64 N, .int .i64 ty.kind, .string ty.name, .slice a n c', .slice ma mn mc] 27)) := (Kept.refl _ _).alloc _
  by_cases d6 : d ≤ 64
  case neg =>
    have i1 : decide ((64 : Int) < (d : Int)) = true := decide_eq_true (by omega)
    clear h
    go_enter Tryz.func51, Tryz.ntmps51
    go_wp2_with fail
    go_ret
    exact ⟨rfl, K1⟩
  have i1 : decide ((64 : Int) < (d : Int)) = false := decide_eq_false (by omega)
  by_cases c6 : c + 1 ≤ 2000
  case neg =>
    have i2 : decide ((2000 : Int) < (c : Int) + 1) = true := decide_eq_true (by omega)
    clear h
    go_enter Tryz.func51, Tryz.ntmps51
    go_wp2_with fail
    go_ret
    exact ⟨rfl, K1⟩
  have i2 : decide ((2000 : Int) < (c : Int) + 1) = false := decide_eq_false (by omega)
  rw [decide_eq_true d6, decide_eq_true c6, Bool.true_and, Bool.true_and] at h
  have HN := Lib.hid (rnode_t (ma := ma) (mc := mc) (hk.frame (Same.alloc w (.cells #[.int .i64 op, .string nm, .int .i64 N, .int .i64 ty.kind, .string ty.name, .slice a n c', .slice ma mn mc] 27))) hs hsz h)
  clear h hk
  go_enter Tryz.func51, Tryz.ntmps51
  go_wp2_with fail
  refine HN.out.mono ?_
  rintro e w1 ⟨rfl, k1⟩
  go_wp2_with fail
  go_ret
  exact ⟨rfl, K1.trans k1⟩
set_option maxRecDepth 100000 in
set_option maxHeartbeats 8000000 in
theorem rnodes_leaf {ok : Nat → Prop} {op : Int} {nm : ByteArray} {N : Int} {ty : Ty} {a : Option Addr} {n c' : Nat} {ma : Option Addr} {mc c d : Nat} {w : World} (hk : TyL ok w ty.kids (.slice a n c')) (hs : SmTy big ty) (hsz : nm.size ≤ 9223372036854775807) (hc : c + 1 ≤ 2000) (h1 : 1 ≤ d) (hd : d ≤ 64)
    (h : formedB op nm N ty 0 = true) :
    Calls Tryz.prog 51 #[.agg #[.int .i64 op, .string nm, .int .i64 N, .int .i64 ty.kind, .string ty.name, .slice a n c', .slice ma 0 mc], .int .i64 d, .int .i64 c] w fun e w' => e = .returned (.int .i64 ((c + 1 : Nat) : Int)) ∧ Kept (fun _ => False) w w' := by
  have K1 : Kept (fun _ => False) w (w.alloc (.cells #[.int .i64 op, .string nm, .int .i64 N, .int .i64 ty.kind, .string ty.name, .slice a n c', .slice ma 0 mc] 27)) := (Kept.refl _ _).alloc _
  have bA : Blk (w.alloc (.cells #[.int .i64 op, .string nm, .int .i64 N, .int .i64 ty.kind, .string ty.name, .slice a n c', .slice ma 0 mc] 27)) w.heap.size 27 [.int .i64 op, .string nm, .int .i64 N, .int .i64 ty.kind, .string ty.name, .slice a n c', .slice ma 0 mc] := Blk.new w 27 _
  have i1 : decide ((64 : Int) < (d : Int)) = false := decide_eq_false (by omega)
  have i2 : decide ((2000 : Int) < (c : Int) + 1) = false := decide_eq_false (by omega)
  have HN := Lib.hid (rnode_t (ma := ma) (mc := mc) (hk.frame (Same.alloc w (.cells #[.int .i64 op, .string nm, .int .i64 N, .int .i64 ty.kind, .string ty.name, .slice a n c', .slice ma 0 mc] 27))) hs hsz h)
  clear h hk
  go_enter Tryz.func51, Tryz.ntmps51
  go_wp2_with fail
  refine HN.out.mono ?_
  rintro e w1 ⟨rfl, k1⟩
  have g2 : w1.cell? ⟨w.heap.size, 6, none⟩ = some (.slice ma 0 mc) := (bA.kept k1 (fun h => h)).cell 6
  go_wp2_with fail
  go_loop [7, 2] (fun i m => i = .int .i64 0 ∧ m = .int .i64 ((c : Int) + 1)) (fun i _ => 0)
  case atStart => exact ⟨rfl, rfl⟩
  case round =>
    obtain ⟨rfl, rfl⟩ := hrel
    go_wp2_with fail
    go_ret
    exact ⟨rfl, K1.trans k1⟩
set_option maxRecDepth 100000 in
set_option maxHeartbeats 8000000 in
theorem rnodes_mk {ok : Nat → Prop} {op : Int} {nm : ByteArray} {N : Int} {ty : Ty} {l : List Tm} {a : Option Addr} {n c' : Nat} {b off mc c d : Nat} {w : World} (IH : ∀ t, t ∈ l → NdC t) (hk : TyL ok w ty.kids (.slice a n c')) (hs : SmTy big ty) (hsz : nm.size ≤ 9223372036854775807) (hc : c + 1 ≤ 2000) (h1 : 1 ≤ d) (hd : d ≤ 64)
    (h : formedB op nm N ty l.length = true) (K M : Nat → Value) (hb : ok b)
    (hcell : ∀ i (h : i < l.length), w.cell? ⟨b, off + i * 7, none⟩ = some (.int .i64 l[i].op) ∧ w.cell? ⟨b, off + i * 7 + 1, none⟩ = some (.string l[i].name) ∧ w.cell? ⟨b, off + i * 7 + 2, none⟩ = some (.int .i64 l[i].n) ∧ w.cell? ⟨b, off + i * 7 + 3, none⟩ = some (.int .i64 l[i].ty.kind) ∧ w.cell? ⟨b, off + i * 7 + 4, none⟩ = some (.string l[i].ty.name) ∧ w.cell? ⟨b, off + i * 7 + 5, none⟩ = some (K i) ∧ w.cell? ⟨b, off + i * 7 + 6, none⟩ = some (M i))
    (hkk : ∀ i (h : i < l.length), TyL ok w l[i].ty.kids (K i)) (hm : ∀ i (h : i < l.length), TmL ok w l[i].kids (M i)) :
    Calls Tryz.prog 51 #[.agg #[.int .i64 op, .string nm, .int .i64 N, .int .i64 ty.kind, .string ty.name, .slice a n c', .slice (some ⟨b, off, none⟩) l.length mc], .int .i64 d, .int .i64 c] w fun e w' => e = .returned (.int .i64 (tdR (fsS 2000 64 l (d + 1) (c + 1)))) ∧ Kept (fun _ => False) w w' := by
  have K1 : Kept (fun _ => False) w (w.alloc (.cells #[.int .i64 op, .string nm, .int .i64 N, .int .i64 ty.kind, .string ty.name, .slice a n c', .slice (some ⟨b, off, none⟩) l.length mc] 27)) := (Kept.refl _ _).alloc _
  have bA : Blk (w.alloc (.cells #[.int .i64 op, .string nm, .int .i64 N, .int .i64 ty.kind, .string ty.name, .slice a n c', .slice (some ⟨b, off, none⟩) l.length mc] 27)) w.heap.size 27 [.int .i64 op, .string nm, .int .i64 N, .int .i64 ty.kind, .string ty.name, .slice a n c', .slice (some ⟨b, off, none⟩) l.length mc] := Blk.new w 27 _
  have i1 : decide ((64 : Int) < (d : Int)) = false := decide_eq_false (by omega)
  have i2 : decide ((2000 : Int) < (c : Int) + 1) = false := decide_eq_false (by omega)
  have HN := Lib.hid (rnode_t (ma := some ⟨b, off, none⟩) (mc := mc) (hk.frame (Same.alloc w (.cells #[.int .i64 op, .string nm, .int .i64 N, .int .i64 ty.kind, .string ty.name, .slice a n c', .slice (some ⟨b, off, none⟩) l.length mc] 27))) hs hsz h)
  have HIH := Lib.hid IH
  have HC := Lib.hid hcell
  have HK := Lib.hid hkk
  have HM := Lib.hid hm
  clear h hk IH hcell hkk hm
  go_enter Tryz.func51, Tryz.ntmps51
  go_wp2_with fail
  refine HN.out.mono ?_
  rintro e w1 ⟨rfl, k1⟩
  have bA1 := bA.kept k1 (fun h => h)
  have K2 := K1.trans k1
  go_wp2_with fail
  go_loopw [7, 2] (fun i m wr => ∃ j cj : Nat, j ≤ l.length ∧ j ≤ cj ∧ i = .int .i64 j ∧ m = .int .i64 cj ∧ cj ≤ 2000 ∧ Kept (fun _ => False) w1 wr ∧ Hid (tdR (fsS 2000 64 l (d + 1) (c + 1)) = tdR (fsS 2000 64 (l.drop j) (d + 1) cj))) (fun i _ _ => l.length - (intOf i).toNat)
  case atStart => exact ⟨0, c + 1, Nat.zero_le _, Nat.zero_le _, rfl, by go_num, hc, Kept.refl _ _, Lib.hid rfl⟩
  case round =>
    obtain ⟨j, cj, hj, hjc, rfl, rfl, hcj, kr, hq⟩ := hrel
    have bR := bA1.kept kr (fun h => h)
    have g2 : wr.cell? ⟨w.heap.size, 6, none⟩ = some (.slice (some ⟨b, off, none⟩) l.length mc) := bR.cell 6
    by_cases hlt : j < l.length
    · have KR := K2.trans kr
      have c0 := (Same.of_kept (ok := ok) KR (fun k h e => e)).cell hb (HC.out j hlt).1
      have c1 := (Same.of_kept (ok := ok) KR (fun k h e => e)).cell hb (HC.out j hlt).2.1
      have c2 := (Same.of_kept (ok := ok) KR (fun k h e => e)).cell hb (HC.out j hlt).2.2.1
      have c3 := (Same.of_kept (ok := ok) KR (fun k h e => e)).cell hb (HC.out j hlt).2.2.2.1
      have c4 := (Same.of_kept (ok := ok) KR (fun k h e => e)).cell hb (HC.out j hlt).2.2.2.2.1
      have c5 := (Same.of_kept (ok := ok) KR (fun k h e => e)).cell hb (HC.out j hlt).2.2.2.2.2.1
      have c6 := (Same.of_kept (ok := ok) KR (fun k h e => e)).cell hb (HC.out j hlt).2.2.2.2.2.2
      obtain ⟨ta, tn, tc, hKj⟩ := (HK.out j hlt).slice
      obtain ⟨ua, un, uc, hMj⟩ := (HM.out j hlt).slice
      have hkk := (HK.out j hlt).frame (Same.of_kept (ok := ok) KR (fun k h e => e))
      have hmm := (HM.out j hlt).frame (Same.of_kept (ok := ok) KR (fun k h e => e))
      rw [hKj] at c5 hkk
      rw [hMj] at c6 hmm
      have hcon := Lib.hid (HIH.out _ (List.getElem_mem hlt) wr ok cj (d + 1) _ _ hcj (by omega) (by omega) hkk hmm)
      have hst := Lib.hid (nd_drop (d := d + 1) (c := cj) hlt)
      have hle := Lib.hid (f_le 2000 64 l[j] (d + 1) cj hcj)
      clear hkk hmm hKj hMj
      have hj2 : (j : Int) < (l.length : Int) := by omega
      have hj3 : (j : Int) < 100000000 := by omega
      cases hr : (fS 2000 64 l[j] (d + 1) cj).1
      · have e1 : tdR (fS 2000 64 l[j] (d + 1) cj) = -1 := by unfold tdR; rw [hr]; rfl
        rw [e1] at hcon
        have HR := Lib.hid hr
        clear hr e1
        unfold tmVal at hcon
        go_wp2_with (go_at_call 51; refine hcon.out.mono ?_; rintro e w' ⟨rfl, k2⟩)
        go_ret
        refine ⟨?_, KR.trans k2⟩
        rw [hq.out, hst.out, HR.out]; rfl
      · have e1 : tdR (fS 2000 64 l[j] (d + 1) cj) = ((fS 2000 64 l[j] (d + 1) cj).2 : Int) := by unfold tdR; rw [hr]; rfl
        rw [e1] at hcon
        have hle2 := hle.out hr
        have HR := Lib.hid hr
        clear hr e1
        generalize hcc : (fS 2000 64 l[j] (d + 1) cj).2 = cc at *
        have HCC := Lib.hid hcc
        have HL2 := Lib.hid hle2
        have i5 : decide ((cc : Int) < 0) = false := decide_eq_false (by omega)
        clear hcc hle2
        unfold tmVal at hcon
        go_wp2_with (go_at_call 51; refine hcon.out.mono ?_; rintro e w' ⟨rfl, k2⟩)
        go_roundw
        case rel =>
          refine ⟨j + 1, cc, by omega, by have := HL2.out.1; omega, by go_num, rfl, HL2.out.2, kr.trans k2, Lib.hid ?_⟩
          rw [hq.out, hst.out, HR.out, if_pos rfl]
        case measure => simp [intOf]; omega
    · have hq2 : Hid (tdR (fsS 2000 64 l (d + 1) (c + 1)) = (cj : Int)) := Lib.hid (by rw [hq.out, List.drop_eq_nil_of_le (by omega), fsS]; rfl)
      go_wp2_with fail
      go_ret
      exact ⟨by rw [hq2.out]; rfl, K2.trans kr⟩
theorem rnodes_one {op : Int} {nm : ByteArray} {N : Int} {ty : Ty} {l : List Tm} (hsz : nm.size ≤ 9223372036854775807) (hs : SmTy big ty) (IH : ∀ t, t ∈ l → NdC t) : NdC (.mk op nm N ty l) := by
  intro w ok c d tk kk hc h1 hd hk hm
  obtain ⟨a, n, cp, rfl⟩ := hk.slice
  obtain ⟨ma, mn, mc, rfl⟩ := hm.slice
  have hn : mn = l.length := hm.len
  cases hh : ((decide (c + 1 ≤ 2000) && decide (d ≤ 64)) && formedB op nm N ty l.length)
  · rw [nd_no hh]
    exact rnodes_bad hk hs hsz hc h1 hd (by rw [hn]; exact hh)
  · rw [Bool.and_eq_true, Bool.and_eq_true] at hh
    obtain ⟨⟨hc1, hd1⟩, hh⟩ := hh
    have hc1 := of_decide_eq_true hc1
    have hd1 := of_decide_eq_true hd1
    rw [nd_yes hc1 hd1 hh]
    subst hn
    have hm' : TmL ok w l (.slice ma l.length mc) := hm
    cases l with
    | nil =>
      rw [fsS]
      exact rnodes_leaf hk hs hsz hc1 h1 hd1 hh
    | cons t l =>
      cases hm' with
      | mk K M hne hb hcap hcell hkk hmm => exact rnodes_mk IH hk hs hsz hc1 h1 hd1 hh K M hb hcell hkk hmm
theorem rnodes_any {t : Tm} (h : SmTm big t) : NdC t := by
  induction h with
  | mk hn ht hl ih => exact rnodes_one hn ht ih
set_option maxHeartbeats 2000000 in
theorem rvalid_any {ok : Nat → Prop} {w : World} {t : Tm} {a : Option Addr} {n c : Nat} {ma : Option Addr} {mn mc : Nat} (hk : TyL ok w t.ty.kids (.slice a n c)) (hm : TmL ok w t.kids (.slice ma mn mc)) (hs : SmTm big t) :
    Calls Tryz.prog 20 #[.agg #[.int .i64 t.op, .string t.name, .int .i64 t.n, .int .i64 t.ty.kind, .string t.ty.name, .slice a n c, .slice ma mn mc]] w fun e w' => e = .returned (.bool (validB t)) ∧ Kept (fun _ => False) w w' := by
  have hk2 := hk.frame (Same.alloc w (.cells #[.int .i64 t.op, .string t.name, .int .i64 t.n, .int .i64 t.ty.kind, .string t.ty.name, .slice a n c, .slice ma mn mc] 27))
  have hm2 := hm.frame (Same.alloc w (.cells #[.int .i64 t.op, .string t.name, .int .i64 t.n, .int .i64 t.ty.kind, .string t.ty.name, .slice a n c, .slice ma mn mc] 27))
  have hC := Lib.hid (rnodes_any hs _ ok 0 1 _ _ (by decide) (by decide) (by decide) hk2 hm2)
  have K1 : Kept (fun _ => False) w (w.alloc (.cells #[.int .i64 t.op, .string t.name, .int .i64 t.n, .int .i64 t.ty.kind, .string t.ty.name, .slice a n c, .slice ma mn mc] 27)) := (Kept.refl _ _).alloc _
  have hle := f_le 2000 64 t 1 0 (Nat.zero_le _)
  have HV : Hid (decide (0 < tdR (fS 2000 64 t 1 0)) = validB t) := Lib.hid (by
    unfold tdR validB
    cases hr : (fS 2000 64 t 1 0).1
    · rfl
    · have := (hle hr).1
      rw [if_pos rfl]
      exact decide_eq_true (by omega))
  clear hle hk2 hm2
  unfold tmVal at hC
  go_enter Tryz.func20, Tryz.ntmps20
  go_wp2_with fail
  refine hC.out.mono ?_
  rintro e w' ⟨rfl, k2⟩
  go_wp2_with fail
  go_ret
  exact ⟨by rw [← HV.out]; rfl, K1.trans k2⟩
mutual
def tmN : Tm → Nat
  | .mk _ _ _ _ l => tmNs l + 1
def tmNs : List Tm → Nat
  | [] => 0
  | t :: l => tmN t + tmNs l
end
theorem f_sz (most deep : Nat) : ∀ (t : Tm) (d c : Nat), (fS most deep t d c).1 = true → (fS most deep t d c).2 = c + tmN t := by
  intro t
  induction t using Tm.rec (motive_2 := fun l => ∀ (d c : Nat), (fsS most deep l d c).1 = true → (fsS most deep l d c).2 = c + tmNs l) with
  | mk op nm N ty l ih =>
    intro d c h
    rw [f_eq] at h ⊢
    split at h
    · rename_i hb
      rw [if_pos hb, ih _ _ h, tmN]; omega
    · cases h
  | nil => rename_i d c h; rfl
  | cons t l iht ihl =>
    rename_i d c h
    rw [fsS] at h ⊢
    cases hr : fS most deep t d c with
    | mk b c' =>
      cases b
      · rw [hr] at h; cases h
      · rw [hr] at h
        have p := iht d c (by rw [hr])
        rw [hr] at p
        have q := ihl d c' h
        simp only at p q ⊢
        rw [q, p, tmNs]; omega
theorem valid_sz {t : Tm} (h : validB t = true) : (fS 2000 64 t 1 0).2 = tmN t ∧ tmN t ≤ 2000 := by
  have h1 := f_sz 2000 64 t 1 0 h
  have h2 := (f_le 2000 64 t 1 0 (Nat.zero_le _) h).2
  omega
theorem pd_b {n : Nat} {nm : ByteArray} {N : Int} {ty : Ty} {l : List Tm} (hb : ((binS (n : Int)).toList == []) = false) (hs : ∀ ks, tmComb n nm N ty ks = opd (kidA ks 0) ++ ([32] ++ (binS n).data.toList ++ [32]) ++ opd (kidA ks 1)) (h2 : kidsN n = (2, true)) (hk : kidOk n l.length = true) (ih : ∀ t, t ∈ l → PD t (tmShow t)) : PD (.mk n nm N ty l) (tmShow (.mk n nm N ty l)) := by
  have h2 : ((l.length : Nat) : Int) = 2 := by simpa [kidOk, h2] using hk
  obtain ⟨x, y, rfl⟩ := list_two (show l.length = 2 by omega)
  rw [tmShow, hs]
  exact pd_bin (t := .mk n nm N ty [x, y]) rfl hb (od_any (ih x (by simp))) (od_any (ih y (by simp)))
set_option maxHeartbeats 4000000 in
theorem pd_show {t : Tm} (h : OkTm t) : PD t (tmShow t) := by
  induction h with
  | @mk op nm N ty l h hn hl ih =>
  obtain ⟨hk, hnm, hN, hty⟩ := formed_parts h
  have hr := kids_range op (by unfold kidOk at hk; rw [Bool.and_eq_true] at hk; exact hk.1)
  obtain ⟨n, rfl⟩ := Int.eq_ofNat_of_zero_le (show 0 ≤ op by omega)
  have hn1 : 1 ≤ n := by omega
  have hn56 : n ≤ 56 := by omega
  clear hr h
  match n, hn1, hn56 with
  | 1, _, _ =>
    change PD (.mk 1 nm N ty l) (tmShow (.mk 1 nm N ty l))
    rw [tmShow]
    exact pd_true
  | 2, _, _ =>
    change PD (.mk 2 nm N ty l) (tmShow (.mk 2 nm N ty l))
    rw [tmShow]
    exact pd_false
  | 3, _, _ =>
    change PD (.mk 3 nm N ty l) (tmShow (.mk 3 nm N ty l))
    have h2 : ((l.length : Nat) : Int) = 1 := by simpa [kidOk, kidsN] using hk
    obtain ⟨x, rfl⟩ := list_one' (show l.length = 1 by omega)
    have hx := ih x (by simp)
    rw [tmShow, tmShows, tmShows]
    exact pd_not (od_any hx)
  | 4, _, _ | 5, _, _ | 6, _, _ | 7, _, _ | 10, _, _ | 11, _, _ | 12, _, _ | 13, _, _ | 14, _, _ | 15, _, _ | 16, _, _ | 17, _, _ | 18, _, _ | 22, _, _ | 23, _, _ | 24, _, _ | 25, _, _ | 26, _, _ | 27, _, _ | 30, _, _ | 31, _, _ | 32, _, _ | 33, _, _ | 34, _, _ | 35, _, _ | 36, _, _ | 37, _, _ | 38, _, _ | 39, _, _ | 40, _, _ | 41, _, _ | 42, _, _ | 43, _, _ | 44, _, _ | 45, _, _ => exact pd_b (by decide +kernel) (fun _ => rfl) rfl hk ih
  | 8, _, _ =>
    change PD (.mk 8 nm N ty l) (tmShow (.mk 8 nm N ty l))
    have h2 : ((l.length : Nat) : Int) = 2 := by simpa [kidOk, kidsN] using hk
    obtain ⟨x, y, rfl⟩ := list_two (show l.length = 2 by omega)
    have hx := ih x (by simp)
    have hy := ih y (by simp)
    rw [tmShow, tmShows, tmShows, tmShows]
    exact pd_all (od_any hx) hy
  | 9, _, _ =>
    change PD (.mk 9 nm N ty l) (tmShow (.mk 9 nm N ty l))
    have h2 : ((l.length : Nat) : Int) = 2 := by simpa [kidOk, kidsN] using hk
    obtain ⟨x, y, rfl⟩ := list_two (show l.length = 2 by omega)
    have hx := ih x (by simp)
    have hy := ih y (by simp)
    rw [tmShow, tmShows, tmShows, tmShows]
    exact pd_ex (od_any hx) hy
  | 19, _, _ =>
    change PD (.mk 19 nm N ty l) (tmShow (.mk 19 nm N ty l))
    rw [tmShow]
    have hN2 : 0 ≤ N ∧ N ≤ 1000000000 := by simpa [nOk] using hN
    exact pd_int hN2.1 hN2.2
  | 20, _, _ =>
    change PD (.mk 20 nm N ty l) (tmShow (.mk 20 nm N ty l))
    rw [tmShow]
    exact pd_of_pc pt_name
  | 21, _, _ =>
    change PD (.mk 21 nm N ty l) (tmShow (.mk 21 nm N ty l))
    have h2 : ((l.length : Nat) : Int) = 1 := by simpa [kidOk, kidsN] using hk
    obtain ⟨x, rfl⟩ := list_one' (show l.length = 1 by omega)
    have hx := ih x (by simp)
    rw [tmShow, tmShows, tmShows]
    exact pd_neg (od_any hx)
  | 28, _, _ =>
    change PD (.mk 28 nm N ty l) (tmShow (.mk 28 nm N ty l))
    have hne : l ≠ [] := by
      intro e
      subst e
      simp [kidOk, kidsN] at hk
    rw [tmShow]
    have he := join_eq l hne
    have hld := ld_any (kl := l) (O := fun i => (kidA (tmShows l) i).2) (fun i h => by rw [shows_at l i h]; exact ih _ (List.getElem_mem h)) hn
    rw [← he] at hld
    exact pd_set hld
  | 29, _, _ =>
    change PD (.mk 29 nm N ty l) (tmShow (.mk 29 nm N ty l))
    rw [tmShow]
    have hv : validTyB ty = true := by have h3 : (!(ty.kind == 2) && validTyB ty) = true := hty; rw [Bool.and_eq_true] at h3; exact h3.2
    obtain ⟨v1, v2⟩ := validTy_ok hv
    exact pd_empty (ts_any v1 (by omega)) (by omega)
  | 46, _, _ =>
    change PD (.mk 46 nm N ty l) (tmShow (.mk 46 nm N ty l))
    have h2 : ((l.length : Nat) : Int) = 1 := by simpa [kidOk, kidsN] using hk
    obtain ⟨x, rfl⟩ := list_one' (show l.length = 1 by omega)
    have hx := ih x (by simp)
    rw [tmShow, tmShows, tmShows]
    have hld := ld_any (kl := [x]) (O := fun _ => tmShow x) (fun i h => by
        have h0 : i = 0 := by simpa using h
        subst h0
        exact hx) (by simp)
    rw [show joinO (fun _ => tmShow x) [x].length = tmShow x by simp [joinO]] at hld
    exact pd_pow hld
  | 47, _, _ =>
    change PD (.mk 47 nm N ty l) (tmShow (.mk 47 nm N ty l))
    have h2 : ((l.length : Nat) : Int) = 1 := by simpa [kidOk, kidsN] using hk
    obtain ⟨x, rfl⟩ := list_one' (show l.length = 1 by omega)
    have hx := ih x (by simp)
    rw [tmShow, tmShows, tmShows]
    have hld := ld_any (kl := [x]) (O := fun _ => tmShow x) (fun i h => by
        have h0 : i = 0 := by simpa using h
        subst h0
        exact hx) (by simp)
    rw [show joinO (fun _ => tmShow x) [x].length = tmShow x by simp [joinO]] at hld
    exact pd_card hld
  | 48, _, _ =>
    change PD (.mk 48 nm N ty l) (tmShow (.mk 48 nm N ty l))
    have h2 : ((l.length : Nat) : Int) = 1 := by simpa [kidOk, kidsN] using hk
    obtain ⟨x, rfl⟩ := list_one' (show l.length = 1 by omega)
    have hx := ih x (by simp)
    rw [tmShow, tmShows, tmShows]
    have hld := ld_any (kl := [x]) (O := fun _ => tmShow x) (fun i h => by
        have h0 : i = 0 := by simpa using h
        subst h0
        exact hx) (by simp)
    rw [show joinO (fun _ => tmShow x) [x].length = tmShow x by simp [joinO]] at hld
    exact pd_min hld
  | 49, _, _ =>
    change PD (.mk 49 nm N ty l) (tmShow (.mk 49 nm N ty l))
    have h2 : ((l.length : Nat) : Int) = 1 := by simpa [kidOk, kidsN] using hk
    obtain ⟨x, rfl⟩ := list_one' (show l.length = 1 by omega)
    have hx := ih x (by simp)
    rw [tmShow, tmShows, tmShows]
    have hld := ld_any (kl := [x]) (O := fun _ => tmShow x) (fun i h => by
        have h0 : i = 0 := by simpa using h
        subst h0
        exact hx) (by simp)
    rw [show joinO (fun _ => tmShow x) [x].length = tmShow x by simp [joinO]] at hld
    exact pd_max hld
  | 50, _, _ =>
    change PD (.mk 50 nm N ty l) (tmShow (.mk 50 nm N ty l))
    have h2 : ((l.length : Nat) : Int) = 1 := by simpa [kidOk, kidsN] using hk
    obtain ⟨x, rfl⟩ := list_one' (show l.length = 1 by omega)
    have hx := ih x (by simp)
    rw [tmShow, tmShows, tmShows]
    have hld := ld_any (kl := [x]) (O := fun _ => tmShow x) (fun i h => by
        have h0 : i = 0 := by simpa using h
        subst h0
        exact hx) (by simp)
    rw [show joinO (fun _ => tmShow x) [x].length = tmShow x by simp [joinO]] at hld
    exact pd_dom hld
  | 51, _, _ =>
    change PD (.mk 51 nm N ty l) (tmShow (.mk 51 nm N ty l))
    have h2 : ((l.length : Nat) : Int) = 1 := by simpa [kidOk, kidsN] using hk
    obtain ⟨x, rfl⟩ := list_one' (show l.length = 1 by omega)
    have hx := ih x (by simp)
    rw [tmShow, tmShows, tmShows]
    have hld := ld_any (kl := [x]) (O := fun _ => tmShow x) (fun i h => by
        have h0 : i = 0 := by simpa using h
        subst h0
        exact hx) (by simp)
    rw [show joinO (fun _ => tmShow x) [x].length = tmShow x by simp [joinO]] at hld
    exact pd_ran hld
  | 52, _, _ =>
    change PD (.mk 52 nm N ty l) (tmShow (.mk 52 nm N ty l))
    have h2 : ((l.length : Nat) : Int) = 1 := by simpa [kidOk, kidsN] using hk
    obtain ⟨x, rfl⟩ := list_one' (show l.length = 1 by omega)
    have hx := ih x (by simp)
    rw [tmShow, tmShows, tmShows]
    exact pd_inv (od_any hx)
  | 53, _, _ =>
    change PD (.mk 53 nm N ty l) (tmShow (.mk 53 nm N ty l))
    have h2 : ((l.length : Nat) : Int) = 2 := by simpa [kidOk, kidsN] using hk
    obtain ⟨x, y, rfl⟩ := list_two (show l.length = 2 by omega)
    have hx := ih x (by simp)
    have hy := ih y (by simp)
    rw [tmShow, tmShows, tmShows, tmShows]
    exact pd_image (od_any hx) hy
  | 54, _, _ =>
    change PD (.mk 54 nm N ty l) (tmShow (.mk 54 nm N ty l))
    have h2 : ((l.length : Nat) : Int) = 2 := by simpa [kidOk, kidsN] using hk
    obtain ⟨x, y, rfl⟩ := list_two (show l.length = 2 by omega)
    have hx := ih x (by simp)
    have hy := ih y (by simp)
    rw [tmShow, tmShows, tmShows, tmShows]
    exact pd_apply (od_any hx) hy
  | 55, _, _ =>
    change PD (.mk 55 nm N ty l) (tmShow (.mk 55 nm N ty l))
    have h2 : ((l.length : Nat) : Int) = 2 := by simpa [kidOk, kidsN] using hk
    obtain ⟨x, y, rfl⟩ := list_two (show l.length = 2 by omega)
    have hx := ih x (by simp)
    have hy := ih y (by simp)
    rw [tmShow, tmShows, tmShows, tmShows]
    exact pd_compr (od_any hx) hy
  | 56, _, _ =>
    change PD (.mk 56 nm N ty l) (tmShow (.mk 56 nm N ty l))
    have h2 : ((l.length : Nat) : Int) = 2 := by simpa [kidOk, kidsN] using hk
    obtain ⟨x, y, rfl⟩ := list_two (show l.length = 2 by omega)
    have hx := ih x (by simp)
    have hy := ih y (by simp)
    rw [tmShow, tmShows, tmShows, tmShows]
    exact pd_fun (od_any hx) hy
  | n + 57, _, h57 => omega
def RS (t : Tm) (out : List UInt8) : Prop := ∀ (w : World) (ok : Nat → Prop) (tk kk : Value), TyL ok w t.ty.kids tk → TmL ok w t.kids kk → out.length ≤ 100000000 →
  Calls Tryz.prog 56 #[tmVal t tk kk] w fun e w' => e = .returned (.string (str out)) ∧ Kept (fun _ => False) w w'
def RO (t : Tm) (out : List UInt8) : Prop := ∀ (w : World) (ok : Nat → Prop) (tk kk : Value), TyL ok w t.ty.kids tk → TmL ok w t.kids kk → out.length ≤ 100000000 →
  Calls Tryz.prog 103 #[tmVal t tk kk] w fun e w' => e = .returned (.string (str out)) ∧ Kept (fun _ => False) w w'
theorem TmL.oneK {ok : Nat → Prop} {w : World} {x : Tm} {v : Value} (h : TmL ok w [x] v) : ∃ g off cap k0 m0, v = .slice (some ⟨g, off, none⟩) 1 cap ∧ ok g ∧ (∀ j u, (tmCells x k0 m0)[j]? = some u → w.cell? ⟨g, off + j, none⟩ = some u) ∧ TyL ok w x.ty.kids k0 ∧ TmL ok w x.kids m0 := by
  generalize hl : [x] = l at h
  cases h with
  | nil h => cases hl
  | mk K M hne hb hc hcell hk hm =>
    rename_i g off cap
    subst hl
    have h0 := hcell 0 (by simp)
    simp only [Nat.zero_mul, Nat.add_zero, List.getElem_cons_zero] at h0
    refine ⟨g, off, cap, K 0, M 0, rfl, hb, fun j u hj => ?_, hk 0 (by simp), hm 0 (by simp)⟩
    have hlt : j < 7 := (List.getElem?_eq_some_iff.1 hj).1
    rcases (show j = 0 ∨ j = 1 ∨ j = 2 ∨ j = 3 ∨ j = 4 ∨ j = 5 ∨ j = 6 by omega) with rfl | rfl | rfl | rfl | rfl | rfl | rfl
    · cases hj; exact h0.1
    · cases hj; exact h0.2.1
    · cases hj; exact h0.2.2.1
    · cases hj; exact h0.2.2.2.1
    · cases hj; exact h0.2.2.2.2.1
    · cases hj; exact h0.2.2.2.2.2.1
    · cases hj; exact h0.2.2.2.2.2.2
theorem TmL.twoK {ok : Nat → Prop} {w : World} {x y : Tm} {v : Value} (h : TmL ok w [x, y] v) : ∃ g off cap k0 m0 k1 m1, v = .slice (some ⟨g, off, none⟩) 2 cap ∧ ok g ∧ (∀ j u, (tmCells x k0 m0 ++ tmCells y k1 m1)[j]? = some u → w.cell? ⟨g, off + j, none⟩ = some u) ∧ TyL ok w x.ty.kids k0 ∧ TmL ok w x.kids m0 ∧ TyL ok w y.ty.kids k1 ∧ TmL ok w y.kids m1 := by
  generalize hl : [x, y] = l at h
  cases h with
  | nil h => cases hl
  | mk K M hne hb hc hcell hk hm =>
    rename_i g off cap
    subst hl
    have h0 := hcell 0 (by simp)
    have h1 := hcell 1 (by simp)
    simp only [Nat.zero_mul, Nat.add_zero, Nat.one_mul, List.getElem_cons_zero, List.getElem_cons_succ] at h0 h1
    refine ⟨g, off, cap, K 0, M 0, K 1, M 1, rfl, hb, fun j u hj => ?_, hk 0 (by simp), hm 0 (by simp), hk 1 (by simp), hm 1 (by simp)⟩
    have hlt : j < 14 := (List.getElem?_eq_some_iff.1 hj).1
    rcases (show j = 0 ∨ j = 1 ∨ j = 2 ∨ j = 3 ∨ j = 4 ∨ j = 5 ∨ j = 6 ∨ j = 7 ∨ j = 8 ∨ j = 9 ∨ j = 10 ∨ j = 11 ∨ j = 12 ∨ j = 13 by omega) with rfl | rfl | rfl | rfl | rfl | rfl | rfl | rfl | rfl | rfl | rfl | rfl | rfl | rfl
    · cases hj; exact h0.1
    · cases hj; exact h0.2.1
    · cases hj; exact h0.2.2.1
    · cases hj; exact h0.2.2.2.1
    · cases hj; exact h0.2.2.2.2.1
    · cases hj; exact h0.2.2.2.2.2.1
    · cases hj; exact h0.2.2.2.2.2.2
    · cases hj; exact h1.1
    · cases hj; exact h1.2.1
    · cases hj; exact h1.2.2.1
    · cases hj; exact h1.2.2.2.1
    · cases hj; exact h1.2.2.2.2.1
    · cases hj; exact h1.2.2.2.2.2.1
    · cases hj; exact h1.2.2.2.2.2.2
theorem str_name (nm : ByteArray) : str nm.data.toList = nm := by
  apply ByteArray.ext
  simp [str]
end Go.Proofs.YtckjlliobebodaaGreatDoor
