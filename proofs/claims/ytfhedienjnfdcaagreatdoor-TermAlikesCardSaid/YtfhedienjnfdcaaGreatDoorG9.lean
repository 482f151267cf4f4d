/- Texts Fits of this proof, in one. -/
import Derived.Test.YtfhedienjnfdcaaGreatDoorG8
set_option linter.unusedVariables false
set_option linter.unusedSimpArgs false
set_option maxRecDepth 100000
set_option maxHeartbeats 32000000
namespace Go.Proofs.YtfhedienjnfdcaaGreatDoor
open Go.RowKit
mutual
def fS (most deep : Nat) : Tm → Nat → Nat → Bool × Nat
 | .mk op nm N ty l, d, c =>
  match (decide (c + 1 ≤ most) && decide (d ≤ deep)) && formedB op nm N ty l.length with
  | false => (false, c + 1)
  | true => fsS most deep l (d + 1) (c + 1)
def fsS (most deep : Nat) : List Tm → Nat → Nat → Bool × Nat
 | [], _, c => (true, c)
 | t :: l, d, c =>
  match fS most deep t d c with
  | (true, c') => fsS most deep l d c'
  | (false, c') => (false, c')
end
def TmC (m most deep : Nat) (t : Tm) : Prop := ∀ (w : World) (c d : Nat) (tk kk : Value), Blk w m 118 (mcells c most deep) → c ≤ most → d ≤ deep + 1 → TyL (fun k => k ≠ m) w t.ty.kids tk → TmL (fun k => k ≠ m) w t.kids kk →
 Calls Tryz.prog 104 #[.pointer (some ⟨m, 0, none⟩), tmVal t tk kk, .int .i64 d] w (FPost m most deep (fS most deep t d c) w)
theorem f_eq (most deep : Nat) (op : Int) (nm : ByteArray) (N : Int) (ty : Ty) (l : List Tm) (d : Nat) (c : Nat) : fS most deep (.mk op nm N ty l) d c = if ((decide (c + 1 ≤ most) && decide (d ≤ deep)) && formedB op nm N ty l.length) = true then fsS most deep l (d + 1) (c + 1) else (false, c + 1) := by
 rw [fS]
 cases (decide (c + 1 ≤ most) && decide (d ≤ deep)) && formedB op nm N ty l.length <;> rfl
theorem f_le (most deep : Nat) : ∀ (t : Tm) (d : Nat) (c : Nat), c ≤ most → (fS most deep t d c).1 = true → c + 1 ≤ (fS most deep t d c).2 ∧ (fS most deep t d c).2 ≤ most := by
 intro t
 induction t using Tm.rec (motive_2 := fun l => ∀ (d c : Nat), c ≤ most → (fsS most deep l d c).1 = true → c ≤ (fsS most deep l d c).2 ∧ (fsS most deep l d c).2 ≤ most) with
 | mk op nm N ty l ih =>
  intro d c hc h
  rw [f_eq] at h ⊢
  split at h
  ·rename_i hb
   rw [if_pos hb]
   have : c + 1 ≤ most := by simp at hb; exact hb.1.1
   exact ih _ _ this h
  ·cases h
 | nil => rename_i d c hc h; exact ⟨Nat.le_refl _, hc⟩
 | cons t l iht ihl =>
  rename_i d c hc h
  rw [fsS] at h ⊢
  cases hr : fS most deep t d c with
  | mk b c' =>
   cases b
   ·rw [hr] at h; cases h
   ·rw [hr] at h
    have a := iht d c hc (by rw [hr])
    rw [hr] at a
    have := ihl d c' a.2 h
    exact ⟨Nat.le_trans (Nat.le_trans (Nat.le_succ _) a.1) this.1, this.2⟩
theorem f1_any {m most deep d c M D : Nat} {t : Tm} {a : Option Addr} {n cp : Nat} {ma : Option Addr} {mn mc : Nat} {w : World} (hT : TmC m most deep t) (hb : Blk w m 118 (mcells c most deep)) (hc : c ≤ most) (hd : d ≤ deep) (hdp : deep ≤ 1000)
  (hM : w.cell? ⟨M, 0, none⟩ = some (.pointer (some ⟨m, 0, none⟩))) (hD : w.cell? ⟨D, 0, none⟩ = some (.int .i64 d)) (hk : TyL (fun k => k ≠ m) w t.ty.kids (.slice a n cp)) (hm : TmL (fun k => k ≠ m) w t.kids (.slice ma mn mc)) :
  Calls Tryz.prog 169 #[tmVal t (.slice a n cp) (.slice ma mn mc), .pointer (some ⟨M, 0, none⟩), .pointer (some ⟨D, 0, none⟩)] w (FPost m most deep (!(fS most deep t (d + 1) c).1, (fS most deep t (d + 1) c).2) w) := by
 unfold tmVal
 have HT := Ld hT
 clear hT
 have hb1 := hb.alloc (.cells #[.int .i64 t.op, .string t.name, .int .i64 t.n, .int .i64 t.ty.kind, .string t.ty.name, .slice a n cp, .slice ma mn mc] 28)
 have hk1 := hk.frame (Same.alloc w (.cells #[.int .i64 t.op, .string t.name, .int .i64 t.n, .int .i64 t.ty.kind, .string t.ty.name, .slice a n cp, .slice ma mn mc] 28))
 have hm1 := hm.frame (Same.alloc w (.cells #[.int .i64 t.op, .string t.name, .int .i64 t.n, .int .i64 t.ty.kind, .string t.ty.name, .slice a n cp, .slice ma mn mc] 28))
 have lM := cell_lt hM
 have lD := cell_lt hD
 have nM : M ≠ w.heap.size := by omega
 have nD : D ≠ w.heap.size := by omega
 go_enter Tryz.func169, Tryz.ntmps169
 go_wp2_with fail
 refine (HT.out _ c (d + 1) _ _ hb1 hc (by omega) hk1 hm1).mono ?_
 rintro e w' ⟨rfl, h1, h2⟩
 go_wp2_with fail
 go_ret
 exact ⟨rfl, h1, ((Kept.refl _ _).alloc _).trans h2⟩
theorem fs_step {most deep d c : Nat} {l : List Tm} {k : Nat} (h : k < l.length) : fsS most deep (l.drop k) d c = (if (fS most deep l[k] d c).1 = true then fsS most deep (l.drop (k + 1)) d (fS most deep l[k] d c).2 else (false, (fS most deep l[k] d c).2)) := by
 rw [drop_cons l k h, fsS]
 cases fS most deep l[k] d c with
 | mk b c' => cases b <;> rfl
theorem idxTm_any {m most deep d c M D : Nat} {l : List Tm} {a : Option Addr} {n cp : Nat} {w : World} (hT : ∀ t, t ∈ l → TmC m most deep t) (hb : Blk w m 118 (mcells c most deep)) (hc : c ≤ most) (hmo : most ≤ 100000) (hd : d ≤ deep) (hdp : deep ≤ 1000) (hMm : M ≠ m) (hDm : D ≠ m)
  (hM : w.cell? ⟨M, 0, none⟩ = some (.pointer (some ⟨m, 0, none⟩))) (hD : w.cell? ⟨D, 0, none⟩ = some (.int .i64 d)) (hk : TmL (fun k => k ≠ m) w l (.slice a n cp)) :
  Calls Tryz.prog 175 #[.slice a n cp, .func (.func 169) #[] #[.pointer (some ⟨M, 0, none⟩), .pointer (some ⟨D, 0, none⟩)]] w fun e w' => ∃ i : Int, e = .returned (.int .i64 i) ∧ decide (0 ≤ i) = !(fsS most deep l (d + 1) c).1 ∧ Blk w' m 118 (mcells (fsS most deep l (d + 1) c).2 most deep) ∧ Kept (· = m) w w' := by
 have HT := Ld hT
 clear hT
 have hn := hk.len
 subst hn
 cases hk with
 | nil he =>
  have hz : Hid (fsS most deep ([] : List Tm) (d + 1) c = (true, c)) := Ld (by rw [fsS])
  go_enter Tryz.func175, Tryz.ntmps175
  go_wp2_with fail
  go_loop [8] (fun i => i = .int .i64 0) (fun i => 0)
  case atStart => rfl
  case round =>
   subst hrel
   go_wp2_with fail
   go_ret
   exact ⟨-1, rfl, by rw [hz.out]; rfl, by rw [hz.out]; exact hb, Kept.refl _ _⟩
 | mk K MM hne hok hcap hcell hkk hmm =>
  rename_i g off
  have HC := Ld hcell
  have HK := Ld hkk
  have HMM := Ld hmm
  clear hcell hkk hmm
  have LM := Ld (cell_lt hM)
  have LD := Ld (cell_lt hD)
  go_enter Tryz.func175, Tryz.ntmps175
  go_wp2_with fail
  go_loopw [8] (fun i wr => ∃ k ck : Nat, k ≤ l.length ∧ i = .int .i64 k ∧ k ≤ ck ∧ ck ≤ most ∧ Blk wr m 118 (mcells ck most deep) ∧ Kept (· = m) w wr ∧ Hid (fsS most deep l (d + 1) c = fsS most deep (l.drop k) (d + 1) ck)) (fun i _ => l.length - (intOf i).toNat)
  case atStart => exact ⟨0, c, Nat.zero_le _, rfl, Nat.zero_le _, hc, hb, Kept.refl _ _, Ld rfl⟩
  case round =>
   obtain ⟨k, ck, hkl, rfl, hkc, hcm, hbr, hkr, heq⟩ := hrel
   by_cases hlt : k < l.length
   ·have c0 := (Same.of_kept (ok := fun k => k ≠ m) hkr (fun k h e => h e)).cell hok (HC.out k hlt).1
    have c1 := (Same.of_kept (ok := fun k => k ≠ m) hkr (fun k h e => h e)).cell hok (HC.out k hlt).2.1
    have c2 := (Same.of_kept (ok := fun k => k ≠ m) hkr (fun k h e => h e)).cell hok (HC.out k hlt).2.2.1
    have c3 := (Same.of_kept (ok := fun k => k ≠ m) hkr (fun k h e => h e)).cell hok (HC.out k hlt).2.2.2.1
    have c4 := (Same.of_kept (ok := fun k => k ≠ m) hkr (fun k h e => h e)).cell hok (HC.out k hlt).2.2.2.2.1
    have c5 := (Same.of_kept (ok := fun k => k ≠ m) hkr (fun k h e => h e)).cell hok (HC.out k hlt).2.2.2.2.2.1
    have c6 := (Same.of_kept (ok := fun k => k ≠ m) hkr (fun k h e => h e)).cell hok (HC.out k hlt).2.2.2.2.2.2
    have i1 : (k : Int) < (l.length : Int) := by omega
    have i2 : (k : Int) < 1000000 := by omega
    obtain ⟨ta, tn, tc, hK⟩ := (HK.out k hlt).slice
    have hkk := (HK.out k hlt).frame (Same.of_kept (ok := fun k => k ≠ m) hkr (fun k h e => h e))
    rw [hK] at c5 hkk
    obtain ⟨ua, un, uc, hU⟩ := (HMM.out k hlt).slice
    have hmm := (HMM.out k hlt).frame (Same.of_kept (ok := fun k => k ≠ m) hkr (fun k h e => h e))
    rw [hU] at c6 hmm
    have hM' : wr.cell? ⟨M, 0, none⟩ = some (.pointer (some ⟨m, 0, none⟩)) := by rw [hkr.cell (p := ⟨M, 0, none⟩) LM.out hMm]; exact hM
    have hD' : wr.cell? ⟨D, 0, none⟩ = some (.int .i64 d) := by rw [hkr.cell (p := ⟨D, 0, none⟩) LD.out hDm]; exact hD
    have hst := Ld (fs_step (most := most) (deep := deep) (d := d + 1) (c := ck) hlt)
    have hle := Ld (f_le most deep l[k] (d + 1) ck hcm)
    have hcon := Ld (f1_any (HT.out _ (List.getElem_mem hlt)) hbr hcm hd hdp hM' hD' hkk hmm)
    clear hkk hmm hM' hD'
    cases hr : (fS most deep l[k] (d + 1) ck).1
    ·go_wp2_with (go_at_call 169; refine hcon.out.mono ?_; rintro e w' ⟨rfl, h1, h2⟩)
     go_ret
     have q := heq.out.trans hst.out
     rw [hr, if_neg (by simp)] at q
     exact ⟨k, rfl, by rw [q]; simp, by rw [q]; exact h1, hkr.trans h2⟩
    ·go_wp2_with (go_at_call 169; refine hcon.out.mono ?_; rintro e w' ⟨rfl, h1, h2⟩)
     go_roundw
     case rel =>
      have q := heq.out.trans hst.out
      rw [hr, if_pos rfl] at q
      have z := hle.out hr
      exact ⟨k + 1, _, by omega, by go_num, by omega, z.2, h1, hkr.trans h2, Ld q⟩
     case measure => simp [intOf]; omega
   ·have hz : Hid (fsS most deep l (d + 1) c = (true, ck)) := Ld (by rw [heq.out, List.drop_eq_nil_of_le (by omega), fsS])
    go_wp2_with fail
    go_ret
    exact ⟨-1, rfl, by rw [hz.out]; rfl, by rw [hz.out]; exact hbr, hkr⟩
theorem contTm_any {m most deep d c M D : Nat} {l : List Tm} {a : Option Addr} {n cp : Nat} {w : World} (hT : ∀ t, t ∈ l → TmC m most deep t) (hb : Blk w m 118 (mcells c most deep)) (hc : c ≤ most) (hmo : most ≤ 100000) (hd : d ≤ deep) (hdp : deep ≤ 1000) (hMm : M ≠ m) (hDm : D ≠ m)
  (hM : w.cell? ⟨M, 0, none⟩ = some (.pointer (some ⟨m, 0, none⟩))) (hD : w.cell? ⟨D, 0, none⟩ = some (.int .i64 d)) (hk : TmL (fun k => k ≠ m) w l (.slice a n cp)) :
  Calls Tryz.prog 108 #[.slice a n cp, .func (.func 169) #[] #[.pointer (some ⟨M, 0, none⟩), .pointer (some ⟨D, 0, none⟩)]] w fun e w' => e = .returned (.bool (!(fsS most deep l (d + 1) c).1)) ∧ Blk w' m 118 (mcells (fsS most deep l (d + 1) c).2 most deep) ∧ Kept (· = m) w w' := by
 have hcon := Ld (idxTm_any hT hb hc hmo hd hdp hMm hDm hM hD hk)
 clear hT hM hD hk
 go_enter Tryz.func108, Tryz.ntmps108
 go_wp2_with fail
 refine hcon.out.mono ?_
 rintro e w' ⟨i, rfl, hi, h1, h2⟩
 go_wp2_with fail
 go_ret
 exact ⟨rfl, h1, h2⟩
theorem fits_one {m most deep : Nat} {op : Int} {nm : ByteArray} {N : Int} {ty : Ty} {l : List Tm} (hmo : most ≤ 100000) (hdp : deep ≤ 1000) (hsz : nm.size ≤ 9223372036854775807) (hst : SmTy big ty) (IH : ∀ t, t ∈ l → TmC m most deep t) : TmC m most deep (.mk op nm N ty l) := by
 intro w c d tk kk hb hc hd hk hm
 obtain ⟨a, n, cp, rfl⟩ := hk.slice
 obtain ⟨ma, mn, mc, rfl⟩ := hm.slice
 have hn := hm.len
 unfold tmVal
 have hk' : TyL (fun k => k ≠ m) w ty.kids (.slice a n cp) := hk
 have hm' : TmL (fun k => k ≠ m) w l (.slice ma mn mc) := hm
 clear hk hm
 simp only [Tm.op, Tm.name, Tm.n, Tm.ty, Tm.kids] at hn ⊢
 have hmf : ∀ (fn : Fn) (first cap : Array Value) (w : World), (Instr.makeFunc fn first cap).run Tryz.prog w = .ok (.func fn first cap) w := fun _ _ _ _ => rfl
 have HIH := Ld IH
 clear IH
 have hml := hb.lt
 have HQ := Ld (f_eq most deep op nm N ty l d c)
 have HN := Ld hn
 clear hn
 have hb3 := ((hb.alloc (.cells #[.pointer (some ⟨m, 0, none⟩)] 171)).alloc (.cells #[.int .i64 op, .string nm, .int .i64 N, .int .i64 ty.kind, .string ty.name, .slice a n cp, .slice ma mn mc] 28)).alloc (.cells #[.int .i64 d] 3)
 have K3 : Kept (· = m) w (((w.alloc (.cells #[.pointer (some ⟨m, 0, none⟩)] 171)).alloc (.cells #[.int .i64 op, .string nm, .int .i64 N, .int .i64 ty.kind, .string ty.name, .slice a n cp, .slice ma mn mc] 28)).alloc (.cells #[.int .i64 d] 3)) := (((Kept.refl _ _).alloc _).alloc _).alloc _
 have b0 : Blk (((w.alloc (.cells #[.pointer (some ⟨m, 0, none⟩)] 171)).alloc (.cells #[.int .i64 op, .string nm, .int .i64 N, .int .i64 ty.kind, .string ty.name, .slice a n cp, .slice ma mn mc] 28)).alloc (.cells #[.int .i64 d] 3)) w.heap.size 171 [.pointer (some ⟨m, 0, none⟩)] := ((Blk.new w 171 _).alloc _).alloc _
 have b1 : Blk (((w.alloc (.cells #[.pointer (some ⟨m, 0, none⟩)] 171)).alloc (.cells #[.int .i64 op, .string nm, .int .i64 N, .int .i64 ty.kind, .string ty.name, .slice a n cp, .slice ma mn mc] 28)).alloc (.cells #[.int .i64 d] 3)) (w.heap.size + 1) 28 [.int .i64 op, .string nm, .int .i64 N, .int .i64 ty.kind, .string ty.name, .slice a n cp, .slice ma mn mc] := (Blk.new' 28 _ (by simp)).alloc _
 have b2 : Blk (((w.alloc (.cells #[.pointer (some ⟨m, 0, none⟩)] 171)).alloc (.cells #[.int .i64 op, .string nm, .int .i64 N, .int .i64 ty.kind, .string ty.name, .slice a n cp, .slice ma mn mc] 28)).alloc (.cells #[.int .i64 d] 3)) (w.heap.size + 2) 3 [.int .i64 d] := Blk.new' 3 _ (by simp)
 cases hv : (decide (c + 1 ≤ most) && decide (d ≤ deep))
 ·have hq : Hid (fS most deep (.mk op nm N ty l) d c = (false, c + 1)) := Ld (by rw [HQ.out, hv]; rfl)
  go_enter Tryz.func104, Tryz.ntmps104
  go_wp2_with fail
  refine (enter_any hb3 (by omega) hv).mono ?_
  rintro e W ⟨rfl, hbW, hkW⟩
  go_wp2_with fail
  go_ret
  exact ⟨by rw [hq.out]; rfl, by rw [hq.out]; exact hbW, K3.trans hkW⟩
 have hd1 : d ≤ deep := by simp at hv; exact hv.2
 have hc1 : c + 1 ≤ most := by simp at hv; exact hv.1
 have HD1 := Ld hd1
 have HC1 := Ld hc1
 clear hd1 hc1
 go_enter Tryz.func104, Tryz.ntmps104
 go_wp2_with fail
 refine (enter_any hb3 (by omega) hv).mono ?_
 rintro e W ⟨rfl, hbW, hkW⟩
 have B0 := b0.kept hkW (by show ¬ w.heap.size = m; omega)
 have B1 := b1.kept hkW (by show ¬ w.heap.size + 1 = m; omega)
 have B2 := b2.kept hkW (by show ¬ w.heap.size + 2 = m; omega)
 have g0 : W.cell? ⟨w.heap.size + 1, 0, none⟩ = some (.int .i64 op) := B1.cell 0
 have g1 : W.cell? ⟨w.heap.size + 1, 1, none⟩ = some (.string nm) := B1.cell 1
 have g2 : W.cell? ⟨w.heap.size + 1, 2, none⟩ = some (.int .i64 N) := B1.cell 2
 have g3 : W.cell? ⟨w.heap.size + 1, 3, none⟩ = some (.int .i64 ty.kind) := B1.cell 3
 have g4 : W.cell? ⟨w.heap.size + 1, 4, none⟩ = some (.string ty.name) := B1.cell 4
 have g5 : W.cell? ⟨w.heap.size + 1, 5, none⟩ = some (.slice a n cp) := B1.cell 5
 have g6 : W.cell? ⟨w.heap.size + 1, 6, none⟩ = some (.slice ma mn mc) := B1.cell 6
 have KW := K3.trans hkW
 have hkl : TyL (fun k => k ≠ m) W ty.kids (.slice a n cp) := hk'.frame (Same.of_kept KW (fun k h e => h e))
 have hmlW : TmL (fun k => k ≠ m) W l (.slice ma mn mc) := hm'.frame (Same.of_kept KW (fun k h e => h e))
 have HF := Ld (formed_any (ma := ma) (mn := mn) (mc := mc) (N := N) hkl hst hsz op)
 have lW := hbW.lt
 have LB := Ld B2.lt
 go_wp2_with fail
 refine HF.out.mono ?_
 rintro e W2 ⟨rfl, hk2⟩
 have hbW2 := hbW.kept hk2 (fun h => h)
 have KW2 : Kept (· = m) w W2 := KW.via hk2 (fun _ _ h => h.elim)
 cases hB : formedB op nm N ty mn
 ·have hq : Hid (fS most deep (.mk op nm N ty l) d c = (false, c + 1)) := Ld (by rw [HQ.out, hv, ← HN.out, hB]; rfl)
  go_wp2_with fail
  go_ret
  exact ⟨by rw [hq.out]; rfl, by rw [hq.out]; exact hbW2, KW2⟩
 ·have hq : Hid (fS most deep (.mk op nm N ty l) d c = fsS most deep l (d + 1) (c + 1)) := Ld (by rw [HQ.out, hv, ← HN.out, hB]; rfl)
  have p0 : W2.cell? ⟨w.heap.size, 0, none⟩ = some (.pointer (some ⟨m, 0, none⟩)) := (B0.kept hk2 (fun h => h)).cell 0
  have dd : W2.cell? ⟨w.heap.size + 2, 0, none⟩ = some (.int .i64 d) := (B2.kept hk2 (fun h => h)).cell 0
  have y6 : W2.cell? ⟨w.heap.size + 1, 6, none⟩ = some (.slice ma mn mc) := (B1.kept hk2 (fun h => h)).cell 6
  have HCO := Ld (contTm_any HIH.out hbW2 HC1.out hmo HD1.out hdp (by omega) (by omega) p0 dd (hmlW.frame (Same.of_kept hk2 (fun k h e => e))))
  go_wp2_with fail
  refine HCO.out.mono ?_
  rintro e w' ⟨rfl, h1, h2⟩
  go_wp2_with fail
  go_ret
  exact ⟨by rw [hq.out]; simp, by rw [hq.out]; exact h1, KW2.trans h2⟩
theorem fits_any {m most deep : Nat} {t : Tm} (hmo : most ≤ 100000) (hdp : deep ≤ 1000) (h : SmTm big t) : TmC m most deep t := by
 induction h with
 | mk hn ht hl ih => exact fits_one hmo hdp hn ht ih
def validB (t : Tm) : Bool := (fS 2000 64 t 1 0).1
theorem valid_any {ok : Nat → Prop} {w : World} {t : Tm} {a : Option Addr} {n c : Nat} {ma : Option Addr} {mn mc : Nat} (hk : TyL ok w t.ty.kids (.slice a n c)) (hm : TmL ok w t.kids (.slice ma mn mc)) (hs : SmTm big t) :
  Calls Tryz.prog 52 #[.agg #[.int .i64 t.op, .string t.name, .int .i64 t.n, .int .i64 t.ty.kind, .string t.ty.name, .slice a n c, .slice ma mn mc]] w fun e w' => e = .returned (.bool (validB t)) ∧ Kept (fun _ => False) w w' := by
 have hC := Ld (fits_any (m := w.heap.size + 1) (most := 2000) (deep := 64) (t := t) (by decide) (by decide) hs)
 have hb : Blk ((w.alloc (.cells #[.int .i64 t.op, .string t.name, .int .i64 t.n, .int .i64 t.ty.kind, .string t.ty.name, .slice a n c, .slice ma mn mc] 28)).alloc (.cells #[.int .i64 0, .int .i64 2000, .int .i64 64] 118)) (w.heap.size + 1) 118 (mcells 0 2000 64) := Blk.new' 118 _ (by simp)
 have hk3 : TyL (fun k => k ≠ w.heap.size + 1) ((w.alloc (.cells #[.int .i64 t.op, .string t.name, .int .i64 t.n, .int .i64 t.ty.kind, .string t.ty.name, .slice a n c, .slice ma mn mc] 28)).alloc (.cells #[.int .i64 0, .int .i64 2000, .int .i64 64] 118)) t.ty.kids (.slice a n c) :=
  ((hk.mono (ok' := fun k => k ≠ w.heap.size + 1) (fun k h _ => by omega)).frame (Same.alloc w _)).frame (Same.alloc _ _)
 have hm3 : TmL (fun k => k ≠ w.heap.size + 1) ((w.alloc (.cells #[.int .i64 t.op, .string t.name, .int .i64 t.n, .int .i64 t.ty.kind, .string t.ty.name, .slice a n c, .slice ma mn mc] 28)).alloc (.cells #[.int .i64 0, .int .i64 2000, .int .i64 64] 118)) t.kids (.slice ma mn mc) :=
  ((hm.mono (ok' := fun k => k ≠ w.heap.size + 1) (fun k h _ => by omega)).frame (Same.alloc w _)).frame (Same.alloc _ _)
 have K2 : Kept (fun _ => False) w ((w.alloc (.cells #[.int .i64 t.op, .string t.name, .int .i64 t.n, .int .i64 t.ty.kind, .string t.ty.name, .slice a n c, .slice ma mn mc] 28)).alloc (.cells #[.int .i64 0, .int .i64 2000, .int .i64 64] 118)) := ((Kept.refl _ _).alloc _).alloc _
 go_enter Tryz.func52, Tryz.ntmps52
 go_wp2_with fail
 refine (hC.out _ 0 1 _ _ hb (by decide) (by decide) hk3 hm3).mono ?_
 rintro e w' ⟨rfl, h1, h2⟩
 go_wp2_with fail
 go_ret
 exact ⟨rfl, K2.via h2 (fun x hx e => by have := e; omega)⟩
end Go.Proofs.YtfhedienjnfdcaaGreatDoor
