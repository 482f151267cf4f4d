/- Texts Fits RNds Clo Cpy of this proof, in one. -/
import Derived.Test.YtfhedienjnfdcaaGreatDoorS5
import Derived.Test.YtfhedienjnfdcaaGreatDoorS6
import Derived.Test.YtfhedienjnfdcaaGreatDoorS7
import Derived.Test.YtfhedienjnfdcaaGreatDoorS8
import Derived.Test.YtfhedienjnfdcaaGreatDoorS9
import Derived.Lib.BufferMore
import Derived.Deep.RegionHeld3
import Derived.IntWalk
set_option linter.unusedVariables false
set_option linter.unusedSimpArgs false
namespace Go.Proofs.YtfhedienjnfdcaaGreatDoor
open Go.RowKit
mutual
def fS (most deep : Nat) : Tm → Nat → Nat → Bool × Nat
  | .mk op nm N ty l, d, c =>
    match (decide (c + 1 ≤ most) && decide (d ≤ deep)) && formedB op nm N ty l.length with
    | false => (false, c + 1)
    | true => fsS most deep l (d + 1) (c + 1)
def fsS (most deep : Nat) : List Tm → Nat → Nat → Bool × Nat
  | [], _, c => (true, c)
  | t :: l, d, c =>
    match fS most deep t d c with
    | (true, c') => fsS most deep l d c'
    | (false, c') => (false, c')
end
def TmC (m most deep : Nat) (t : Tm) : Prop := ∀ (w : World) (c d : Nat) (tk kk : Value), Blk w m 118 (mcells c most deep) → c ≤ most → d ≤ deep + 1 → TyL (fun k => k ≠ m) w t.ty.kids tk → TmL (fun k => k ≠ m) w t.kids kk →
  Calls Tryz.prog 104 #[.pointer (some ⟨m, 0, none⟩), tmVal t tk kk, .int .i64 d] w (FPost m most deep (fS most deep t d c) w)
theorem f_eq (most deep : Nat) (op : Int) (nm : ByteArray) (N : Int) (ty : Ty) (l : List Tm) (d : Nat) (c : Nat) : fS most deep (.mk op nm N ty l) d c = if ((decide (c + 1 ≤ most) && decide (d ≤ deep)) && formedB op nm N ty l.length) = true then fsS most deep l (d + 1) (c + 1) else (false, c + 1) := by
  rw [fS]
  cases (decide (c + 1 ≤ most) && decide (d ≤ deep)) && formedB op nm N ty l.length <;> rfl
theorem f_le (most deep : Nat) : ∀ (t : Tm) (d : Nat) (c : Nat), c ≤ most → (fS most deep t d c).1 = true → c + 1 ≤ (fS most deep t d c).2 ∧ (fS most deep t d c).2 ≤ most := by
  intro t
  induction t using Tm.rec (motive_2 := fun l => ∀ (d c : Nat), c ≤ most → (fsS most deep l d c).1 = true → c ≤ (fsS most deep l d c).2 ∧ (fsS most deep l d c).2 ≤ most) with
  | mk op nm N ty l ih =>
    intro d c hc h
    rw [f_eq] at h ⊢
    split at h
    · rename_i hb
      rw [if_pos hb]
      have : c + 1 ≤ most := by simp at hb; exact hb.1.1
      exact ih _ _ this h
    · cases h
  | nil => rename_i d c hc h; exact ⟨Nat.le_refl _, hc⟩
  | cons t l iht ihl =>
    rename_i d c hc h
    rw [fsS] at h ⊢
    cases hr : fS most deep t d c with
    | mk b c' =>
      cases b
      · rw [hr] at h; cases h
      · rw [hr] at h
        have a := iht d c hc (by rw [hr])
        rw [hr] at a
        have := ihl d c' a.2 h
        exact ⟨Nat.le_trans (Nat.le_trans (Nat.le_succ _) a.1) this.1, this.2⟩
set_option maxRecDepth 100000 in
set_option maxHeartbeats 2000000 in
theorem f1_any {m most deep d c M D : Nat} {t : Tm} {a : Option Addr} {n cp : Nat} {ma : Option Addr} {mn mc : Nat} {w : World} (hT : TmC m most deep t) (hb : Blk w m 118 (mcells c most deep)) (hc : c ≤ most) (hd : d ≤ deep) (hdp : deep ≤ 1000)
    (hM : w.cell? ⟨M, 0, none⟩ = some (.pointer (some ⟨m, 0, none⟩))) (hD : w.cell? ⟨D, 0, none⟩ = some (.int .i64 d)) (hk : TyL (fun k => k ≠ m) w t.ty.kids (.slice a n cp)) (hm : TmL (fun k => k ≠ m) w t.kids (.slice ma mn mc)) :
    Calls Tryz.prog 169 #[tmVal t (.slice a n cp) (.slice ma mn mc), .pointer (some ⟨M, 0, none⟩), .pointer (some ⟨D, 0, none⟩)] w (FPost m most deep (!(fS most deep t (d + 1) c).1, (fS most deep t (d + 1) c).2) w) := by
  unfold tmVal
  have HT := Lib.hid hT
  clear hT
  have hb1 := hb.alloc (.cells #[.int .i64 t.op, .string t.name, .int .i64 t.n, .int .i64 t.ty.kind, .string t.ty.name, .slice a n cp, .slice ma mn mc] 28)
  have hk1 := hk.frame (Same.alloc w (.cells #[.int .i64 t.op, .string t.name, .int .i64 t.n, .int .i64 t.ty.kind, .string t.ty.name, .slice a n cp, .slice ma mn mc] 28))
  have hm1 := hm.frame (Same.alloc w (.cells #[.int .i64 t.op, .string t.name, .int .i64 t.n, .int .i64 t.ty.kind, .string t.ty.name, .slice a n cp, .slice ma mn mc] 28))
  have lM := cell_lt hM
  have lD := cell_lt hD
  have nM : M ≠ w.heap.size := by omega
  have nD : D ≠ w.heap.size := by omega
  go_enter Tryz.func169, Tryz.ntmps169
  go_wp2_with fail
  refine (HT.out _ c (d + 1) _ _ hb1 hc (by omega) hk1 hm1).mono ?_
  rintro e w' ⟨rfl, h1, h2⟩
  go_wp2_with fail
  go_ret
  exact ⟨rfl, h1, ((Kept.refl _ _).alloc _).trans h2⟩
theorem fs_step {most deep d c : Nat} {l : List Tm} {k : Nat} (h : k < l.length) : fsS most deep (l.drop k) d c = (if (fS most deep l[k] d c).1 = true then fsS most deep (l.drop (k + 1)) d (fS most deep l[k] d c).2 else (false, (fS most deep l[k] d c).2)) := by
  rw [drop_cons l k h, fsS]
  cases fS most deep l[k] d c with
  | mk b c' => cases b <;> rfl
set_option maxRecDepth 100000 in
set_option maxHeartbeats 8000000 in
theorem idxTm_any {m most deep d c M D : Nat} {l : List Tm} {a : Option Addr} {n cp : Nat} {w : World} (hT : ∀ t, t ∈ l → TmC m most deep t) (hb : Blk w m 118 (mcells c most deep)) (hc : c ≤ most) (hmo : most ≤ 100000) (hd : d ≤ deep) (hdp : deep ≤ 1000) (hMm : M ≠ m) (hDm : D ≠ m)
    (hM : w.cell? ⟨M, 0, none⟩ = some (.pointer (some ⟨m, 0, none⟩))) (hD : w.cell? ⟨D, 0, none⟩ = some (.int .i64 d)) (hk : TmL (fun k => k ≠ m) w l (.slice a n cp)) :
    Calls Tryz.prog 175 #[.slice a n cp, .func (.func 169) #[] #[.pointer (some ⟨M, 0, none⟩), .pointer (some ⟨D, 0, none⟩)]] w fun e w' => ∃ i : Int, e = .returned (.int .i64 i) ∧ decide (0 ≤ i) = !(fsS most deep l (d + 1) c).1 ∧ Blk w' m 118 (mcells (fsS most deep l (d + 1) c).2 most deep) ∧ Kept (· = m) w w' := by
  have HT := Lib.hid hT
  clear hT
  have hn := hk.len
  subst hn
  cases hk with
  | nil he =>
    have hz : Hid (fsS most deep ([] : List Tm) (d + 1) c = (true, c)) := Lib.hid (by rw [fsS])
    go_enter Tryz.func175, Tryz.ntmps175
    go_wp2_with fail
    go_loop [8] (fun i => i = .int .i64 0) (fun i => 0)
    case atStart => rfl
    case round =>
      subst hrel
      go_wp2_with fail
      go_ret
      exact ⟨-1, rfl, by rw [hz.out]; rfl, by rw [hz.out]; exact hb, Kept.refl _ _⟩
  | mk K MM hne hok hcap hcell hkk hmm =>
    rename_i g off
    have HC := Lib.hid hcell
    have HK := Lib.hid hkk
    have HMM := Lib.hid hmm
    clear hcell hkk hmm
    have LM := Lib.hid (cell_lt hM)
    have LD := Lib.hid (cell_lt hD)
    go_enter Tryz.func175, Tryz.ntmps175
    go_wp2_with fail
    go_loopw [8] (fun i wr => ∃ k ck : Nat, k ≤ l.length ∧ i = .int .i64 k ∧ k ≤ ck ∧ ck ≤ most ∧ Blk wr m 118 (mcells ck most deep) ∧ Kept (· = m) w wr ∧ Hid (fsS most deep l (d + 1) c = fsS most deep (l.drop k) (d + 1) ck)) (fun i _ => l.length - (intOf i).toNat)
    case atStart => exact ⟨0, c, Nat.zero_le _, rfl, Nat.zero_le _, hc, hb, Kept.refl _ _, Lib.hid rfl⟩
    case round =>
      obtain ⟨k, ck, hkl, rfl, hkc, hcm, hbr, hkr, heq⟩ := hrel
      by_cases hlt : k < l.length
      · have c0 := (Same.of_kept (ok := fun k => k ≠ m) hkr (fun k h e => h e)).cell hok (HC.out k hlt).1
        have c1 := (Same.of_kept (ok := fun k => k ≠ m) hkr (fun k h e => h e)).cell hok (HC.out k hlt).2.1
        have c2 := (Same.of_kept (ok := fun k => k ≠ m) hkr (fun k h e => h e)).cell hok (HC.out k hlt).2.2.1
        have c3 := (Same.of_kept (ok := fun k => k ≠ m) hkr (fun k h e => h e)).cell hok (HC.out k hlt).2.2.2.1
        have c4 := (Same.of_kept (ok := fun k => k ≠ m) hkr (fun k h e => h e)).cell hok (HC.out k hlt).2.2.2.2.1
        have c5 := (Same.of_kept (ok := fun k => k ≠ m) hkr (fun k h e => h e)).cell hok (HC.out k hlt).2.2.2.2.2.1
        have c6 := (Same.of_kept (ok := fun k => k ≠ m) hkr (fun k h e => h e)).cell hok (HC.out k hlt).2.2.2.2.2.2
        have i1 : (k : Int) < (l.length : Int) := by omega
        have i2 : (k : Int) < 1000000 := by omega
        obtain ⟨ta, tn, tc, hK⟩ := (HK.out k hlt).slice
        have hkk := (HK.out k hlt).frame (Same.of_kept (ok := fun k => k ≠ m) hkr (fun k h e => h e))
        rw [hK] at c5 hkk
        obtain ⟨ua, un, uc, hU⟩ := (HMM.out k hlt).slice
        have hmm := (HMM.out k hlt).frame (Same.of_kept (ok := fun k => k ≠ m) hkr (fun k h e => h e))
        rw [hU] at c6 hmm
        have hM' : wr.cell? ⟨M, 0, none⟩ = some (.pointer (some ⟨m, 0, none⟩)) := by rw [hkr.cell (p := ⟨M, 0, none⟩) LM.out hMm]; exact hM
        have hD' : wr.cell? ⟨D, 0, none⟩ = some (.int .i64 d) := by rw [hkr.cell (p := ⟨D, 0, none⟩) LD.out hDm]; exact hD
        have hst := Lib.hid (fs_step (most := most) (deep := deep) (d := d + 1) (c := ck) hlt)
        have hle := Lib.hid (f_le most deep l[k] (d + 1) ck hcm)
        have hcon := Lib.hid (f1_any (HT.out _ (List.getElem_mem hlt)) hbr hcm hd hdp hM' hD' hkk hmm)
        clear hkk hmm hM' hD'
        cases hr : (fS most deep l[k] (d + 1) ck).1
        · go_wp2_with (go_at_call 169; refine hcon.out.mono ?_; rintro e w' ⟨rfl, h1, h2⟩)
          go_ret
          have q := heq.out.trans hst.out
          rw [hr, if_neg (by simp)] at q
          exact ⟨k, rfl, by rw [q]; simp, by rw [q]; exact h1, hkr.trans h2⟩
        · go_wp2_with (go_at_call 169; refine hcon.out.mono ?_; rintro e w' ⟨rfl, h1, h2⟩)
          go_roundw
          case rel =>
            have q := heq.out.trans hst.out
            rw [hr, if_pos rfl] at q
            have z := hle.out hr
            exact ⟨k + 1, _, by omega, by go_num, by omega, z.2, h1, hkr.trans h2, Lib.hid q⟩
          case measure => simp [intOf]; omega
      · have hz : Hid (fsS most deep l (d + 1) c = (true, ck)) := Lib.hid (by rw [heq.out, List.drop_eq_nil_of_le (by omega), fsS])
        go_wp2_with fail
        go_ret
        exact ⟨-1, rfl, by rw [hz.out]; rfl, by rw [hz.out]; exact hbr, hkr⟩
set_option maxRecDepth 100000 in
set_option maxHeartbeats 8000000 in
theorem contTm_any {m most deep d c M D : Nat} {l : List Tm} {a : Option Addr} {n cp : Nat} {w : World} (hT : ∀ t, t ∈ l → TmC m most deep t) (hb : Blk w m 118 (mcells c most deep)) (hc : c ≤ most) (hmo : most ≤ 100000) (hd : d ≤ deep) (hdp : deep ≤ 1000) (hMm : M ≠ m) (hDm : D ≠ m)
    (hM : w.cell? ⟨M, 0, none⟩ = some (.pointer (some ⟨m, 0, none⟩))) (hD : w.cell? ⟨D, 0, none⟩ = some (.int .i64 d)) (hk : TmL (fun k => k ≠ m) w l (.slice a n cp)) :
    Calls Tryz.prog 108 #[.slice a n cp, .func (.func 169) #[] #[.pointer (some ⟨M, 0, none⟩), .pointer (some ⟨D, 0, none⟩)]] w fun e w' => e = .returned (.bool (!(fsS most deep l (d + 1) c).1)) ∧ Blk w' m 118 (mcells (fsS most deep l (d + 1) c).2 most deep) ∧ Kept (· = m) w w' := by
  have hcon := Lib.hid (idxTm_any hT hb hc hmo hd hdp hMm hDm hM hD hk)
  clear hT hM hD hk
  go_enter Tryz.func108, Tryz.ntmps108
  go_wp2_with fail
  refine hcon.out.mono ?_
  rintro e w' ⟨i, rfl, hi, h1, h2⟩
  go_wp2_with fail
  go_ret
  exact ⟨rfl, h1, h2⟩
set_option maxRecDepth 100000 in
set_option maxHeartbeats 8000000 in
theorem fits_one {m most deep : Nat} {op : Int} {nm : ByteArray} {N : Int} {ty : Ty} {l : List Tm} (hmo : most ≤ 100000) (hdp : deep ≤ 1000) (hsz : nm.size ≤ 9223372036854775807) (hst : SmTy big ty) (IH : ∀ t, t ∈ l → TmC m most deep t) : TmC m most deep (.mk op nm N ty l) := by
  intro w c d tk kk hb hc hd hk hm
  obtain ⟨a, n, cp, rfl⟩ := hk.slice
  obtain ⟨ma, mn, mc, rfl⟩ := hm.slice
  have hn := hm.len
  unfold tmVal
  have hk' : TyL (fun k => k ≠ m) w ty.kids (.slice a n cp) := hk
  have hm' : TmL (fun k => k ≠ m) w l (.slice ma mn mc) := hm
  clear hk hm
  simp only [Tm.op, Tm.name, Tm.n, Tm.ty, Tm.kids] at hn ⊢
  have hmf : ∀ (fn : Fn) (first cap : Array Value) (w : World), (Instr.makeFunc fn first cap).run Tryz.prog w = .ok (.func fn first cap) w := fun _ _ _ _ => rfl
  have HIH := Lib.hid IH
  clear IH
  have hml := hb.lt
  have HQ := Lib.hid (f_eq most deep op nm N ty l d c)
  have HN := Lib.hid hn
  clear hn
  have hb3 := ((hb.alloc (.cells #[.pointer (some ⟨m, 0, none⟩)] 171)).alloc (.cells #[.int .i64 op, .string nm, .int .i64 N, .int .i64 ty.kind, .string ty.name, .slice a n cp, .slice ma mn mc] 28)).alloc (.cells #[.int .i64 d] 3)
  have K3 : Kept (· = m) w (((w.alloc (.cells #[.pointer (some ⟨m, 0, none⟩)] 171)).alloc (.cells #[.int .i64 op, .string nm, .int .i64 N, .int .i64 ty.kind, .string ty.name, .slice a n cp, .slice ma mn mc] 28)).alloc (.cells #[.int .i64 d] 3)) := (((Kept.refl _ _).alloc _).alloc _).alloc _
  have b0 : Blk (((w.alloc (.cells #[.pointer (some ⟨m, 0, none⟩)] 171)).alloc (.cells #[.int .i64 op, .string nm, .int .i64 N, .int .i64 ty.kind, .string ty.name, .slice a n cp, .slice ma mn mc] 28)).alloc (.cells #[.int .i64 d] 3)) w.heap.size 171 [.pointer (some ⟨m, 0, none⟩)] := ((Blk.new w 171 _).alloc _).alloc _
  have b1 : Blk (((w.alloc (.cells #[.pointer (some ⟨m, 0, none⟩)] 171)).alloc (.cells #[.int .i64 op, .string nm, .int .i64 N, .int .i64 ty.kind, .string ty.name, .slice a n cp, .slice ma mn mc] 28)).alloc (.cells #[.int .i64 d] 3)) (w.heap.size + 1) 28 [.int .i64 op, .string nm, .int .i64 N, .int .i64 ty.kind, .string ty.name, .slice a n cp, .slice ma mn mc] := (Blk.new' 28 _ (by simp)).alloc _
  have b2 : Blk (((w.alloc (.cells #[.pointer (some ⟨m, 0, none⟩)] 171)).alloc (.cells #[.int .i64 op, .string nm, .int .i64 N, .int .i64 ty.kind, .string ty.name, .slice a n cp, .slice ma mn mc] 28)).alloc (.cells #[.int .i64 d] 3)) (w.heap.size + 2) 3 [.int .i64 d] := Blk.new' 3 _ (by simp)
  cases hv : (decide (c + 1 ≤ most) && decide (d ≤ deep))
  · have hq : Hid (fS most deep (.mk op nm N ty l) d c = (false, c + 1)) := Lib.hid (by rw [HQ.out, hv]; rfl)
    go_enter Tryz.func104, Tryz.ntmps104
    go_wp2_with fail
    refine (enter_any hb3 (by omega) hv).mono ?_
    rintro e W ⟨rfl, hbW, hkW⟩
    go_wp2_with fail
    go_ret
    exact ⟨by rw [hq.out]; rfl, by rw [hq.out]; exact hbW, K3.trans hkW⟩
  have hd1 : d ≤ deep := by simp at hv; exact hv.2
  have hc1 : c + 1 ≤ most := by simp at hv; exact hv.1
  have HD1 := Lib.hid hd1
  have HC1 := Lib.hid hc1
  clear hd1 hc1
  go_enter Tryz.func104, Tryz.ntmps104
  go_wp2_with fail
  refine (enter_any hb3 (by omega) hv).mono ?_
  rintro e W ⟨rfl, hbW, hkW⟩
  have B0 := b0.kept hkW (by show ¬ w.heap.size = m; omega)
  have B1 := b1.kept hkW (by show ¬ w.heap.size + 1 = m; omega)
  have B2 := b2.kept hkW (by show ¬ w.heap.size + 2 = m; omega)
  have g0 : W.cell? ⟨w.heap.size + 1, 0, none⟩ = some (.int .i64 op) := B1.cell 0
  have g1 : W.cell? ⟨w.heap.size + 1, 1, none⟩ = some (.string nm) := B1.cell 1
  have g2 : W.cell? ⟨w.heap.size + 1, 2, none⟩ = some (.int .i64 N) := B1.cell 2
  have g3 : W.cell? ⟨w.heap.size + 1, 3, none⟩ = some (.int .i64 ty.kind) := B1.cell 3
  have g4 : W.cell? ⟨w.heap.size + 1, 4, none⟩ = some (.string ty.name) := B1.cell 4
  have g5 : W.cell? ⟨w.heap.size + 1, 5, none⟩ = some (.slice a n cp) := B1.cell 5
  have g6 : W.cell? ⟨w.heap.size + 1, 6, none⟩ = some (.slice ma mn mc) := B1.cell 6
  have KW := K3.trans hkW
  have hkl : TyL (fun k => k ≠ m) W ty.kids (.slice a n cp) := hk'.frame (Same.of_kept KW (fun k h e => h e))
  have hmlW : TmL (fun k => k ≠ m) W l (.slice ma mn mc) := hm'.frame (Same.of_kept KW (fun k h e => h e))
  have HF := Lib.hid (formed_any (ma := ma) (mn := mn) (mc := mc) (N := N) hkl hst hsz op)
  have lW := hbW.lt
  have LB := Lib.hid B2.lt
  go_wp2_with fail
  refine HF.out.mono ?_
  rintro e W2 ⟨rfl, hk2⟩
  have hbW2 := hbW.kept hk2 (fun h => h)
  have KW2 : Kept (· = m) w W2 := KW.via hk2 (fun _ _ h => h.elim)
  cases hB : formedB op nm N ty mn
  · have hq : Hid (fS most deep (.mk op nm N ty l) d c = (false, c + 1)) := Lib.hid (by rw [HQ.out, hv, ← HN.out, hB]; rfl)
    go_wp2_with fail
    go_ret
    exact ⟨by rw [hq.out]; rfl, by rw [hq.out]; exact hbW2, KW2⟩
  · have hq : Hid (fS most deep (.mk op nm N ty l) d c = fsS most deep l (d + 1) (c + 1)) := Lib.hid (by rw [HQ.out, hv, ← HN.out, hB]; rfl)
    have p0 : W2.cell? ⟨w.heap.size, 0, none⟩ = some (.pointer (some ⟨m, 0, none⟩)) := (B0.kept hk2 (fun h => h)).cell 0
    have dd : W2.cell? ⟨w.heap.size + 2, 0, none⟩ = some (.int .i64 d) := (B2.kept hk2 (fun h => h)).cell 0
    have y6 : W2.cell? ⟨w.heap.size + 1, 6, none⟩ = some (.slice ma mn mc) := (B1.kept hk2 (fun h => h)).cell 6
    have HCO := Lib.hid (contTm_any HIH.out hbW2 HC1.out hmo HD1.out hdp (by omega) (by omega) p0 dd (hmlW.frame (Same.of_kept hk2 (fun k h e => e))))
    go_wp2_with fail
    refine HCO.out.mono ?_
    rintro e w' ⟨rfl, h1, h2⟩
    go_wp2_with fail
    go_ret
    exact ⟨by rw [hq.out]; simp, by rw [hq.out]; exact h1, KW2.trans h2⟩
theorem fits_any {m most deep : Nat} {t : Tm} (hmo : most ≤ 100000) (hdp : deep ≤ 1000) (h : SmTm big t) : TmC m most deep t := by
  induction h with
  | mk hn ht hl ih => exact fits_one hmo hdp hn ht ih
def validB (t : Tm) : Bool := (fS 2000 64 t 1 0).1
set_option maxRecDepth 100000 in
set_option maxHeartbeats 2000000 in
theorem valid_any {ok : Nat → Prop} {w : World} {t : Tm} {a : Option Addr} {n c : Nat} {ma : Option Addr} {mn mc : Nat} (hk : TyL ok w t.ty.kids (.slice a n c)) (hm : TmL ok w t.kids (.slice ma mn mc)) (hs : SmTm big t) :
    Calls Tryz.prog 52 #[.agg #[.int .i64 t.op, .string t.name, .int .i64 t.n, .int .i64 t.ty.kind, .string t.ty.name, .slice a n c, .slice ma mn mc]] w fun e w' => e = .returned (.bool (validB t)) ∧ Kept (fun _ => False) w w' := by
  have hC := Lib.hid (fits_any (m := w.heap.size + 1) (most := 2000) (deep := 64) (t := t) (by decide) (by decide) hs)
  have hb : Blk ((w.alloc (.cells #[.int .i64 t.op, .string t.name, .int .i64 t.n, .int .i64 t.ty.kind, .string t.ty.name, .slice a n c, .slice ma mn mc] 28)).alloc (.cells #[.int .i64 0, .int .i64 2000, .int .i64 64] 118)) (w.heap.size + 1) 118 (mcells 0 2000 64) := Blk.new' 118 _ (by simp)
  have hk3 : TyL (fun k => k ≠ w.heap.size + 1) ((w.alloc (.cells #[.int .i64 t.op, .string t.name, .int .i64 t.n, .int .i64 t.ty.kind, .string t.ty.name, .slice a n c, .slice ma mn mc] 28)).alloc (.cells #[.int .i64 0, .int .i64 2000, .int .i64 64] 118)) t.ty.kids (.slice a n c) :=
    ((hk.mono (ok' := fun k => k ≠ w.heap.size + 1) (fun k h _ => by omega)).frame (Same.alloc w _)).frame (Same.alloc _ _)
  have hm3 : TmL (fun k => k ≠ w.heap.size + 1) ((w.alloc (.cells #[.int .i64 t.op, .string t.name, .int .i64 t.n, .int .i64 t.ty.kind, .string t.ty.name, .slice a n c, .slice ma mn mc] 28)).alloc (.cells #[.int .i64 0, .int .i64 2000, .int .i64 64] 118)) t.kids (.slice ma mn mc) :=
    ((hm.mono (ok' := fun k => k ≠ w.heap.size + 1) (fun k h _ => by omega)).frame (Same.alloc w _)).frame (Same.alloc _ _)
  have K2 : Kept (fun _ => False) w ((w.alloc (.cells #[.int .i64 t.op, .string t.name, .int .i64 t.n, .int .i64 t.ty.kind, .string t.ty.name, .slice a n c, .slice ma mn mc] 28)).alloc (.cells #[.int .i64 0, .int .i64 2000, .int .i64 64] 118)) := ((Kept.refl _ _).alloc _).alloc _
  go_enter Tryz.func52, Tryz.ntmps52
  go_wp2_with fail
  refine (hC.out _ 0 1 _ _ hb (by decide) (by decide) hk3 hm3).mono ?_
  rintro e w' ⟨rfl, h1, h2⟩
  go_wp2_with fail
  go_ret
  exact ⟨rfl, K2.via h2 (fun x hx e => by have := e; omega)⟩
def NdC (t : Tm) : Prop := ∀ (w : World) (ok : Nat → Prop) (c d : Nat) (tk kk : Value), c ≤ 2000 → 1 ≤ d → d ≤ 65 → TyL ok w t.ty.kids tk → TmL ok w t.kids kk →
  Calls Tryz.prog 59 #[tmVal t tk kk, .int .i64 d, .int .i64 c] w fun e w' => e = .returned (.int .i64 (tdR (fS 2000 64 t d c))) ∧ Kept (fun _ => False) w w'
theorem nd_no {op : Int} {nm : ByteArray} {N : Int} {ty : Ty} {l : List Tm} {d c : Nat} (h : ((decide (c + 1 ≤ 2000) && decide (d ≤ 64)) && formedB op nm N ty l.length) = false) : tdR (fS 2000 64 (.mk op nm N ty l) d c) = -1 := by
  rw [f_eq, h]; rfl
theorem nd_yes {op : Int} {nm : ByteArray} {N : Int} {ty : Ty} {l : List Tm} {d c : Nat} (hc : c + 1 ≤ 2000) (hd : d ≤ 64) (h : formedB op nm N ty l.length = true) : fS 2000 64 (.mk op nm N ty l) d c = fsS 2000 64 l (d + 1) (c + 1) := by
  rw [f_eq, decide_eq_true hc, decide_eq_true hd, h]; rfl
theorem nd_drop {l : List Tm} {d c k : Nat} (h : k < l.length) : tdR (fsS 2000 64 (l.drop k) d c) = if (fS 2000 64 l[k] d c).1 = true then tdR (fsS 2000 64 (l.drop (k + 1)) d (fS 2000 64 l[k] d c).2) else -1 := by
  rw [fs_step h]; split <;> rfl
theorem rnode_t {ok : Nat → Prop} {w : World} {op : Int} {nm : ByteArray} {N : Int} {ty : Ty} {a : Option Addr} {n c : Nat} {ma : Option Addr} {mn mc : Nat} (hk : TyL ok w ty.kids (.slice a n c)) (hs : SmTy big ty) (hsz : nm.size ≤ 9223372036854775807) {v : Bool} (hv : formedB op nm N ty mn = v) :
    Calls Tryz.prog 107 #[.agg #[.int .i64 op, .string nm, .int .i64 N, .int .i64 ty.kind, .string ty.name, .slice a n c, .slice ma mn mc]] w fun e w' => e = .returned (.bool v) ∧ Kept (fun _ => False) w w' := by rw [← hv]; exact rnode_any hk hs hsz op
set_option maxRecDepth 100000 in
set_option maxHeartbeats 8000000 in
theorem rnodes_bad {ok : Nat → Prop} {op : Int} {nm : ByteArray} {N : Int} {ty : Ty} {a : Option Addr} {n c' : Nat} {ma : Option Addr} {mn mc c d : Nat} {w : World} (hk : TyL ok w ty.kids (.slice a n c')) (hs : SmTy big ty) (hsz : nm.size ≤ 9223372036854775807) (hc : c ≤ 2000) (h1 : 1 ≤ d) (hd : d ≤ 65)
    (h : ((decide (c + 1 ≤ 2000) && decide (d ≤ 64)) && formedB op nm N ty mn) = false) :
    Calls Tryz.prog 59 #[.agg #[.int .i64 op, .string nm, .int .i64 N, .int .i64 ty.kind, .string ty.name, .slice a n c', .slice ma mn mc], .int .i64 d, .int .i64 c] w fun e w' => e = .returned (.int .i64 (-1)) ∧ Kept (fun _ => False) w w' := by
  have K1 : Kept (fun _ => False) w (w.alloc (.cells #[.int .i64 op, .string nm, .int .i64 N, .int .i64 ty.kind, .string ty.name, .slice a n c', .slice ma mn mc] 28)) := (Kept.refl _ _).alloc _
  by_cases d6 : d ≤ 64
  case neg =>
    have i1 : decide ((64 : Int) < (d : Int)) = true := decide_eq_true (by omega)
    clear h
    go_enter Tryz.func59, Tryz.ntmps59
    go_wp2_with fail
    go_ret
    exact ⟨rfl, K1⟩
  have i1 : decide ((64 : Int) < (d : Int)) = false := decide_eq_false (by omega)
  by_cases c6 : c + 1 ≤ 2000
  case neg =>
    have i2 : decide ((2000 : Int) < (c : Int) + 1) = true := decide_eq_true (by omega)
    clear h
    go_enter Tryz.func59, Tryz.ntmps59
    go_wp2_with fail
    go_ret
    exact ⟨rfl, K1⟩
  have i2 : decide ((2000 : Int) < (c : Int) + 1) = false := decide_eq_false (by omega)
  rw [decide_eq_true d6, decide_eq_true c6, Bool.true_and, Bool.true_and] at h
  have HN := Lib.hid (rnode_t (ma := ma) (mc := mc) (hk.frame (Same.alloc w (.cells #[.int .i64 op, .string nm, .int .i64 N, .int .i64 ty.kind, .string ty.name, .slice a n c', .slice ma mn mc] 28))) hs hsz h)
  clear h hk
  go_enter Tryz.func59, Tryz.ntmps59
  go_wp2_with fail
  refine HN.out.mono ?_
  rintro e w1 ⟨rfl, k1⟩
  go_wp2_with fail
  go_ret
  exact ⟨rfl, K1.trans k1⟩
set_option maxRecDepth 100000 in
set_option maxHeartbeats 8000000 in
theorem rnodes_leaf {ok : Nat → Prop} {op : Int} {nm : ByteArray} {N : Int} {ty : Ty} {a : Option Addr} {n c' : Nat} {ma : Option Addr} {mc c d : Nat} {w : World} (hk : TyL ok w ty.kids (.slice a n c')) (hs : SmTy big ty) (hsz : nm.size ≤ 9223372036854775807) (hc : c + 1 ≤ 2000) (h1 : 1 ≤ d) (hd : d ≤ 64)
    (h : formedB op nm N ty 0 = true) :
    Calls Tryz.prog 59 #[.agg #[.int .i64 op, .string nm, .int .i64 N, .int .i64 ty.kind, .string ty.name, .slice a n c', .slice ma 0 mc], .int .i64 d, .int .i64 c] w fun e w' => e = .returned (.int .i64 ((c + 1 : Nat) : Int)) ∧ Kept (fun _ => False) w w' := by
  have K1 : Kept (fun _ => False) w (w.alloc (.cells #[.int .i64 op, .string nm, .int .i64 N, .int .i64 ty.kind, .string ty.name, .slice a n c', .slice ma 0 mc] 28)) := (Kept.refl _ _).alloc _
  have bA : Blk (w.alloc (.cells #[.int .i64 op, .string nm, .int .i64 N, .int .i64 ty.kind, .string ty.name, .slice a n c', .slice ma 0 mc] 28)) w.heap.size 28 [.int .i64 op, .string nm, .int .i64 N, .int .i64 ty.kind, .string ty.name, .slice a n c', .slice ma 0 mc] := Blk.new w 28 _
  have i1 : decide ((64 : Int) < (d : Int)) = false := decide_eq_false (by omega)
  have i2 : decide ((2000 : Int) < (c : Int) + 1) = false := decide_eq_false (by omega)
  have HN := Lib.hid (rnode_t (ma := ma) (mc := mc) (hk.frame (Same.alloc w (.cells #[.int .i64 op, .string nm, .int .i64 N, .int .i64 ty.kind, .string ty.name, .slice a n c', .slice ma 0 mc] 28))) hs hsz h)
  clear h hk
  go_enter Tryz.func59, Tryz.ntmps59
  go_wp2_with fail
  refine HN.out.mono ?_
  rintro e w1 ⟨rfl, k1⟩
  have g2 : w1.cell? ⟨w.heap.size, 6, none⟩ = some (.slice ma 0 mc) := (bA.kept k1 (fun h => h)).cell 6
  go_wp2_with fail
  go_loop [7, 2] (fun i m => i = .int .i64 0 ∧ m = .int .i64 ((c : Int) + 1)) (fun i _ => 0)
  case atStart => exact ⟨rfl, rfl⟩
  case round =>
    obtain ⟨rfl, rfl⟩ := hrel
    go_wp2_with fail
    go_ret
    exact ⟨rfl, K1.trans k1⟩
set_option maxRecDepth 100000 in
set_option maxHeartbeats 8000000 in
theorem rnodes_mk {ok : Nat → Prop} {op : Int} {nm : ByteArray} {N : Int} {ty : Ty} {l : List Tm} {a : Option Addr} {n c' : Nat} {b off mc c d : Nat} {w : World} (IH : ∀ t, t ∈ l → NdC t) (hk : TyL ok w ty.kids (.slice a n c')) (hs : SmTy big ty) (hsz : nm.size ≤ 9223372036854775807) (hc : c + 1 ≤ 2000) (h1 : 1 ≤ d) (hd : d ≤ 64)
    (h : formedB op nm N ty l.length = true) (K M : Nat → Value) (hb : ok b)
    (hcell : ∀ i (h : i < l.length), w.cell? ⟨b, off + i * 7, none⟩ = some (.int .i64 l[i].op) ∧ w.cell? ⟨b, off + i * 7 + 1, none⟩ = some (.string l[i].name) ∧ w.cell? ⟨b, off + i * 7 + 2, none⟩ = some (.int .i64 l[i].n) ∧ w.cell? ⟨b, off + i * 7 + 3, none⟩ = some (.int .i64 l[i].ty.kind) ∧ w.cell? ⟨b, off + i * 7 + 4, none⟩ = some (.string l[i].ty.name) ∧ w.cell? ⟨b, off + i * 7 + 5, none⟩ = some (K i) ∧ w.cell? ⟨b, off + i * 7 + 6, none⟩ = some (M i))
    (hkk : ∀ i (h : i < l.length), TyL ok w l[i].ty.kids (K i)) (hm : ∀ i (h : i < l.length), TmL ok w l[i].kids (M i)) :
    Calls Tryz.prog 59 #[.agg #[.int .i64 op, .string nm, .int .i64 N, .int .i64 ty.kind, .string ty.name, .slice a n c', .slice (some ⟨b, off, none⟩) l.length mc], .int .i64 d, .int .i64 c] w fun e w' => e = .returned (.int .i64 (tdR (fsS 2000 64 l (d + 1) (c + 1)))) ∧ Kept (fun _ => False) w w' := by
  have K1 : Kept (fun _ => False) w (w.alloc (.cells #[.int .i64 op, .string nm, .int .i64 N, .int .i64 ty.kind, .string ty.name, .slice a n c', .slice (some ⟨b, off, none⟩) l.length mc] 28)) := (Kept.refl _ _).alloc _
  have bA : Blk (w.alloc (.cells #[.int .i64 op, .string nm, .int .i64 N, .int .i64 ty.kind, .string ty.name, .slice a n c', .slice (some ⟨b, off, none⟩) l.length mc] 28)) w.heap.size 28 [.int .i64 op, .string nm, .int .i64 N, .int .i64 ty.kind, .string ty.name, .slice a n c', .slice (some ⟨b, off, none⟩) l.length mc] := Blk.new w 28 _
  have i1 : decide ((64 : Int) < (d : Int)) = false := decide_eq_false (by omega)
  have i2 : decide ((2000 : Int) < (c : Int) + 1) = false := decide_eq_false (by omega)
  have HN := Lib.hid (rnode_t (ma := some ⟨b, off, none⟩) (mc := mc) (hk.frame (Same.alloc w (.cells #[.int .i64 op, .string nm, .int .i64 N, .int .i64 ty.kind, .string ty.name, .slice a n c', .slice (some ⟨b, off, none⟩) l.length mc] 28))) hs hsz h)
  have HIH := Lib.hid IH
  have HC := Lib.hid hcell
  have HK := Lib.hid hkk
  have HM := Lib.hid hm
  clear h hk IH hcell hkk hm
  go_enter Tryz.func59, Tryz.ntmps59
  go_wp2_with fail
  refine HN.out.mono ?_
  rintro e w1 ⟨rfl, k1⟩
  have bA1 := bA.kept k1 (fun h => h)
  have K2 := K1.trans k1
  go_wp2_with fail
  go_loopw [7, 2] (fun i m wr => ∃ j cj : Nat, j ≤ l.length ∧ j ≤ cj ∧ i = .int .i64 j ∧ m = .int .i64 cj ∧ cj ≤ 2000 ∧ Kept (fun _ => False) w1 wr ∧ Hid (tdR (fsS 2000 64 l (d + 1) (c + 1)) = tdR (fsS 2000 64 (l.drop j) (d + 1) cj))) (fun i _ _ => l.length - (intOf i).toNat)
  case atStart => exact ⟨0, c + 1, Nat.zero_le _, Nat.zero_le _, rfl, by go_num, hc, Kept.refl _ _, Lib.hid rfl⟩
  case round =>
    obtain ⟨j, cj, hj, hjc, rfl, rfl, hcj, kr, hq⟩ := hrel
    have bR := bA1.kept kr (fun h => h)
    have g2 : wr.cell? ⟨w.heap.size, 6, none⟩ = some (.slice (some ⟨b, off, none⟩) l.length mc) := bR.cell 6
    by_cases hlt : j < l.length
    · have KR := K2.trans kr
      have c0 := (Same.of_kept (ok := ok) KR (fun k h e => e)).cell hb (HC.out j hlt).1
      have c1 := (Same.of_kept (ok := ok) KR (fun k h e => e)).cell hb (HC.out j hlt).2.1
      have c2 := (Same.of_kept (ok := ok) KR (fun k h e => e)).cell hb (HC.out j hlt).2.2.1
      have c3 := (Same.of_kept (ok := ok) KR (fun k h e => e)).cell hb (HC.out j hlt).2.2.2.1
      have c4 := (Same.of_kept (ok := ok) KR (fun k h e => e)).cell hb (HC.out j hlt).2.2.2.2.1
      have c5 := (Same.of_kept (ok := ok) KR (fun k h e => e)).cell hb (HC.out j hlt).2.2.2.2.2.1
      have c6 := (Same.of_kept (ok := ok) KR (fun k h e => e)).cell hb (HC.out j hlt).2.2.2.2.2.2
      obtain ⟨ta, tn, tc, hKj⟩ := (HK.out j hlt).slice
      obtain ⟨ua, un, uc, hMj⟩ := (HM.out j hlt).slice
      have hkk := (HK.out j hlt).frame (Same.of_kept (ok := ok) KR (fun k h e => e))
      have hmm := (HM.out j hlt).frame (Same.of_kept (ok := ok) KR (fun k h e => e))
      rw [hKj] at c5 hkk
      rw [hMj] at c6 hmm
      have hcon := Lib.hid (HIH.out _ (List.getElem_mem hlt) wr ok cj (d + 1) _ _ hcj (by omega) (by omega) hkk hmm)
      have hst := Lib.hid (nd_drop (d := d + 1) (c := cj) hlt)
      have hle := Lib.hid (f_le 2000 64 l[j] (d + 1) cj hcj)
      clear hkk hmm hKj hMj
      have hj2 : (j : Int) < (l.length : Int) := by omega
      have hj3 : (j : Int) < 100000000 := by omega
      cases hr : (fS 2000 64 l[j] (d + 1) cj).1
      · have e1 : tdR (fS 2000 64 l[j] (d + 1) cj) = -1 := by unfold tdR; rw [hr]; rfl
        rw [e1] at hcon
        have HR := Lib.hid hr
        clear hr e1
        unfold tmVal at hcon
        go_wp2_with (go_at_call 59; refine hcon.out.mono ?_; rintro e w' ⟨rfl, k2⟩)
        go_ret
        refine ⟨?_, KR.trans k2⟩
        rw [hq.out, hst.out, HR.out]; rfl
      · have e1 : tdR (fS 2000 64 l[j] (d + 1) cj) = ((fS 2000 64 l[j] (d + 1) cj).2 : Int) := by unfold tdR; rw [hr]; rfl
        rw [e1] at hcon
        have hle2 := hle.out hr
        have HR := Lib.hid hr
        clear hr e1
        generalize hcc : (fS 2000 64 l[j] (d + 1) cj).2 = cc at *
        have HCC := Lib.hid hcc
        have HL2 := Lib.hid hle2
        have i5 : decide ((cc : Int) < 0) = false := decide_eq_false (by omega)
        clear hcc hle2
        unfold tmVal at hcon
        go_wp2_with (go_at_call 59; refine hcon.out.mono ?_; rintro e w' ⟨rfl, k2⟩)
        go_roundw
        case rel =>
          refine ⟨j + 1, cc, by omega, by have := HL2.out.1; omega, by go_num, rfl, HL2.out.2, kr.trans k2, Lib.hid ?_⟩
          rw [hq.out, hst.out, HR.out, if_pos rfl]
        case measure => simp [intOf]; omega
    · have hq2 : Hid (tdR (fsS 2000 64 l (d + 1) (c + 1)) = (cj : Int)) := Lib.hid (by rw [hq.out, List.drop_eq_nil_of_le (by omega), fsS]; rfl)
      go_wp2_with fail
      go_ret
      exact ⟨by rw [hq2.out]; rfl, K2.trans kr⟩
theorem rnodes_one {op : Int} {nm : ByteArray} {N : Int} {ty : Ty} {l : List Tm} (hsz : nm.size ≤ 9223372036854775807) (hs : SmTy big ty) (IH : ∀ t, t ∈ l → NdC t) : NdC (.mk op nm N ty l) := by
  intro w ok c d tk kk hc h1 hd hk hm
  obtain ⟨a, n, cp, rfl⟩ := hk.slice
  obtain ⟨ma, mn, mc, rfl⟩ := hm.slice
  have hn : mn = l.length := hm.len
  cases hh : ((decide (c + 1 ≤ 2000) && decide (d ≤ 64)) && formedB op nm N ty l.length)
  · rw [nd_no hh]
    exact rnodes_bad hk hs hsz hc h1 hd (by rw [hn]; exact hh)
  · rw [Bool.and_eq_true, Bool.and_eq_true] at hh
    obtain ⟨⟨hc1, hd1⟩, hh⟩ := hh
    have hc1 := of_decide_eq_true hc1
    have hd1 := of_decide_eq_true hd1
    rw [nd_yes hc1 hd1 hh]
    subst hn
    have hm' : TmL ok w l (.slice ma l.length mc) := hm
    cases l with
    | nil =>
      rw [fsS]
      exact rnodes_leaf hk hs hsz hc1 h1 hd1 hh
    | cons t l =>
      cases hm' with
      | mk K M hne hb hcap hcell hkk hmm => exact rnodes_mk IH hk hs hsz hc1 h1 hd1 hh K M hb hcell hkk hmm
theorem rnodes_any {t : Tm} (h : SmTm big t) : NdC t := by
  induction h with
  | mk hn ht hl ih => exact rnodes_one hn ht ih
set_option maxHeartbeats 2000000 in
theorem rvalid_any {ok : Nat → Prop} {w : World} {t : Tm} {a : Option Addr} {n c : Nat} {ma : Option Addr} {mn mc : Nat} (hk : TyL ok w t.ty.kids (.slice a n c)) (hm : TmL ok w t.kids (.slice ma mn mc)) (hs : SmTm big t) :
    Calls Tryz.prog 25 #[.agg #[.int .i64 t.op, .string t.name, .int .i64 t.n, .int .i64 t.ty.kind, .string t.ty.name, .slice a n c, .slice ma mn mc]] w fun e w' => e = .returned (.bool (validB t)) ∧ Kept (fun _ => False) w w' := by
  have hk2 := hk.frame (Same.alloc w (.cells #[.int .i64 t.op, .string t.name, .int .i64 t.n, .int .i64 t.ty.kind, .string t.ty.name, .slice a n c, .slice ma mn mc] 28))
  have hm2 := hm.frame (Same.alloc w (.cells #[.int .i64 t.op, .string t.name, .int .i64 t.n, .int .i64 t.ty.kind, .string t.ty.name, .slice a n c, .slice ma mn mc] 28))
  have hC := Lib.hid (rnodes_any hs _ ok 0 1 _ _ (by decide) (by decide) (by decide) hk2 hm2)
  have K1 : Kept (fun _ => False) w (w.alloc (.cells #[.int .i64 t.op, .string t.name, .int .i64 t.n, .int .i64 t.ty.kind, .string t.ty.name, .slice a n c, .slice ma mn mc] 28)) := (Kept.refl _ _).alloc _
  have hle := f_le 2000 64 t 1 0 (Nat.zero_le _)
  have HV : Hid (decide (0 < tdR (fS 2000 64 t 1 0)) = validB t) := Lib.hid (by
    unfold tdR validB
    cases hr : (fS 2000 64 t 1 0).1
    · rfl
    · have := (hle hr).1
      rw [if_pos rfl]
      exact decide_eq_true (by omega))
  clear hle hk2 hm2
  unfold tmVal at hC
  go_enter Tryz.func25, Tryz.ntmps25
  go_wp2_with fail
  refine hC.out.mono ?_
  rintro e w' ⟨rfl, k2⟩
  go_wp2_with fail
  go_ret
  exact ⟨by rw [← HV.out]; rfl, K1.trans k2⟩
theorem info24 : (Tryz.prog.info? 26).map (fun i => (i.zero, i.size, i.bytes)) = some (some (.agg #[.int .i64 0, .string ⟨#[]⟩, .slice none 0 0]), 3, 48) := by kernel_rfl
def NewRow (w W : World) (ty : TypeId) (sz n b off : Nat) (v : Value) : Prop := ∃ g cap L, v = .slice (some ⟨g, 0, none⟩) n cap ∧ n ≤ cap ∧ w.heap.size ≤ g ∧ Blk W g ty L ∧ n * sz ≤ L.length ∧ ∀ j, j < n * sz → L[j]? = w.cell? ⟨b, off + j, none⟩
def rowList (w : World) (b off k : Nat) : List Value := (List.range k).map fun j => (w.cell? ⟨b, off + j, none⟩).getD undef
theorem rowList_get {w : World} {b off k j : Nat} {v : Value} (hj : j < k) (hv : w.cell? ⟨b, off + j, none⟩ = some v) : (rowList w b off k)[j]? = some v := by
  unfold rowList; rw [List.getElem?_map, List.getElem?_range hj]; simp [hv]
set_option maxRecDepth 100000 in
set_option maxHeartbeats 2000000 in
theorem cloneTy_some {w : World} (b off n cp : Nat) (hn : n ≤ 1000000) (hc : ∀ j, j < n * 3 → ∃ v, w.cell? ⟨b, off + j, none⟩ = some v ∧ v.oneCell' = true) :
    Calls Tryz.prog 171 #[.slice (some ⟨b, off, none⟩) n cp] w fun e w' => ∃ v, e = .returned v ∧ NewRow w w' 26 3 n b off v ∧ Kept (fun _ => False) w w' := by
  have hne : ∀ W : World, (binOp .eql 24 (.slice (some ⟨b, off, none⟩) n cp) (.slice none 0 0)).run Tryz.prog W = .ok (.bool false) W := fun W => Lib.run_eql_slice_some_nil W _ n cp Tryz.underlying24
  obtain ⟨ii, hi, hz, hs, hb⟩ : ∃ i, Tryz.prog.info? 26 = some i ∧ i.zero = some (.agg #[.int .i64 0, .string ⟨#[]⟩, .slice none 0 0]) ∧ i.size = 3 ∧ i.bytes = 48 := by
    have := info24
    cases hh : Tryz.prog.info? 26 with
    | none => rw [hh] at this; cases this
    | some i => rw [hh] at this; simp only [Option.map_some, Option.some.injEq, Prod.mk.injEq] at this; exact ⟨i, rfl, this.1, this.2.1, this.2.2⟩
  have HI := Lib.hid hi
  have HZ := Lib.hid hz
  have HS := Lib.hid hs
  have HBY := Lib.hid hb
  clear hi hz hs hb
  have HC := Lib.hid hc
  clear hc
  have own0 : (w.alloc (.cells #[] 26)).ownsRow w.heap.size 26 3 (.slice (some ⟨w.heap.size, 0, none⟩) 0 0) 0 [] := ⟨rfl, .inr ⟨w.heap.size, 0, #[], rfl, Nat.le_refl _, Blk.new w 26 [], Nat.le_refl _, Nat.zero_le _, rfl, rfl⟩⟩
  have hget : Hid (∀ j u, (rowList w b off (n * 3))[j]? = some u → (w.cell? ⟨b, off + j, none⟩ = some u ∧ u.oneCell' = true) ∧ (w.alloc (.cells #[] 26)).cell? ((⟨b, off, none⟩ : Addr).add j) = some u) := Lib.hid (by
    intro j u hj
    have hlt : j < n * 3 := by
      have := (List.getElem?_eq_some_iff.1 hj).1; unfold rowList at this; simpa using this
    obtain ⟨v, hv, h1⟩ := HC.out j hlt
    rw [rowList_get hlt hv] at hj
    have hvu : v = u := Option.some.inj hj
    subst hvu
    refine ⟨⟨hv, h1⟩, ?_⟩
    have hl := cell_lt hv
    rw [show (⟨b, off, none⟩ : Addr).add j = ⟨b, off + j, none⟩ by cases j <;> simp [Addr.add]]
    rw [World.cell?_of_block (w := w) (a := ⟨b, off + j, none⟩) (Below.heap_alloc _ _ _ hl)]; exact hv)
  go_enter Tryz.func171, Tryz.ntmps171
  go_wp2_with (at_builtin; refine wpList_append_own_at _ rfl (.tmp 5) (.tmp 6) 24 rfl w.heap.size 26 ii _ 3 48 Tryz.underlying24 HI.out HZ.out HS.out HBY.out rfl (by decide) _ _ _ rfl own0 ⟨b, off, none⟩ n cp (rowList w b off (n * 3)) rfl (by unfold rowList; simp) (fun j u h => (hget.out j u h).2) ?_ ?_ ?_ ?_ ?_)
  · intro u hu
    obtain ⟨j, hj⟩ := List.getElem?_of_mem hu
    exact (hget.out j u hj).1.2
  · unfold maxLen; omega
  · omega
  · simp
  · intro v' w1 own1 gr1 hnil hat
    have kA := kept_grown gr1
    have OWN := Lib.hid own1
    have NIL := Lib.hid hnil
    clear own1 hnil hat gr1
    go_wp2_with fail
    go_ret
    refine ⟨v', rfl, ?_, ((Kept.refl (fun _ => False) w).alloc _).via kA (fun x hx h => by simp [Value.ownBlock] at h; omega)⟩
    rcases OWN.out.2 with ⟨h0, _⟩ | ⟨g, cap, cur, rfl, hg, hh, h1, h2, h3, h4⟩
    · exact (NIL.out h0).elim
    · refine ⟨g, cap, cur.toList, rfl, by omega, hg, by unfold Blk; rw [hh], ?_, ?_⟩
      · rw [Array.length_toList, h3]; exact Nat.mul_le_mul_right _ (by omega)
      · intro j hj
        obtain ⟨v, hv, _⟩ := HC.out j hj
        rw [hv, ← rowList_get hj hv, ← h4, List.getElem?_take_of_lt hj]
set_option maxRecDepth 100000 in
set_option maxHeartbeats 2000000 in
theorem cloneTy_zero {w : World} (ad : Addr) (cp : Nat) :
    Calls Tryz.prog 171 #[.slice (some ad) 0 cp] w fun e w' => ∃ g cap, e = .returned (.slice (some ⟨g, 0, none⟩) 0 cap) ∧ Kept (fun _ => False) w w' := by
  have hne : ∀ W : World, (binOp .eql 24 (.slice (some ad) 0 cp) (.slice none 0 0)).run Tryz.prog W = .ok (.bool false) W := fun W => Lib.run_eql_slice_some_nil W _ 0 cp Tryz.underlying24
  obtain ⟨ii, hi, hz, hs, hb⟩ : ∃ i, Tryz.prog.info? 26 = some i ∧ i.zero = some (.agg #[.int .i64 0, .string ⟨#[]⟩, .slice none 0 0]) ∧ i.size = 3 ∧ i.bytes = 48 := by
    have := info24
    cases hh : Tryz.prog.info? 26 with
    | none => rw [hh] at this; cases this
    | some i => rw [hh] at this; simp only [Option.map_some, Option.some.injEq, Prod.mk.injEq] at this; exact ⟨i, rfl, this.1, this.2.1, this.2.2⟩
  have HI := Lib.hid hi
  have HZ := Lib.hid hz
  have HS := Lib.hid hs
  have HBY := Lib.hid hb
  clear hi hz hs hb
  have own0 : (w.alloc (.cells #[] 26)).ownsRow w.heap.size 26 3 (.slice (some ⟨w.heap.size, 0, none⟩) 0 0) 0 [] := ⟨rfl, .inr ⟨w.heap.size, 0, #[], rfl, Nat.le_refl _, Blk.new w 26 [], Nat.le_refl _, Nat.zero_le _, rfl, rfl⟩⟩
  go_enter Tryz.func171, Tryz.ntmps171
  go_wp2_with (at_builtin; refine wpList_append_own_at _ rfl (.tmp 5) (.tmp 6) 24 rfl w.heap.size 26 ii _ 3 48 Tryz.underlying24 HI.out HZ.out HS.out HBY.out rfl (by decide) _ _ _ rfl own0 ad 0 cp [] rfl rfl (fun j u h => by cases h) ?_ ?_ ?_ ?_ ?_)
  · intro u hu; cases hu
  · unfold maxLen; omega
  · omega
  · simp
  · intro v' w1 own1 gr1 hnil hat
    have kA := kept_grown gr1
    have OWN := Lib.hid own1
    have NIL := Lib.hid hnil
    clear own1 hnil hat gr1
    go_wp2_with fail
    go_ret
    rcases OWN.out.2 with ⟨h0, _⟩ | ⟨g, cap, cur, rfl, hg, hh, h1, h2, h3, h4⟩
    · exact (NIL.out h0).elim
    · exact ⟨g, cap, rfl, ((Kept.refl (fun _ => False) w).alloc _).via kA (fun x hx h => by simp [Value.ownBlock] at h; omega)⟩
set_option maxHeartbeats 2000000 in
theorem cloneTy_nil (w : World) : Calls Tryz.prog 171 #[.slice none 0 0] w fun e w' => e = .returned (.slice none 0 0) ∧ w = w' := by
  have hne : ∀ W : World, (binOp .eql 24 (.slice none 0 0) (.slice none 0 0)).run Tryz.prog W = .ok (.bool true) W := fun W => Lib.run_eql_slice_nil_nil W 0 0 Tryz.underlying24
  go_enter Tryz.func171, Tryz.ntmps171
  go_wp2_with fail
  go_ret
  exact ⟨rfl, rfl⟩
set_option maxHeartbeats 2000000 in
theorem clipTy_nil (w : World) : Calls Tryz.prog 170 #[.slice none 0 0] w fun e w' => e = .returned (.slice none 0 0) ∧ w = w' := by
  go_enter Tryz.func170, Tryz.ntmps170
  go_wp2_with fail
  go_ret
  exact ⟨rfl, rfl⟩
set_option maxHeartbeats 2000000 in
theorem clipTy_some (w : World) (g n cap : Nat) (hn : n ≤ cap) (hn2 : n ≤ 1000000) : Calls Tryz.prog 170 #[.slice (some ⟨g, 0, none⟩) n cap] w fun e w' => e = .returned (.slice (some ⟨g, 0, none⟩) n n) ∧ w = w' := by
  have i1 : (n : Int) ≤ (cap : Int) := by omega
  have i2 : (0 : Int) ≤ (n : Int) := by omega
  go_enter Tryz.func170, Tryz.ntmps170
  go_wp2_with fail
  go_ret
  exact ⟨rfl, rfl⟩
set_option maxRecDepth 100000 in
set_option maxHeartbeats 2000000 in
theorem cloneTm_some {w : World} (b off n cp : Nat) (hn : n ≤ 1000000) (hc : ∀ j, j < n * 7 → ∃ v, w.cell? ⟨b, off + j, none⟩ = some v ∧ v.oneCell' = true) :
    Calls Tryz.prog 106 #[.slice (some ⟨b, off, none⟩) n cp] w fun e w' => ∃ v, e = .returned v ∧ NewRow w w' 28 7 n b off v ∧ Kept (fun _ => False) w w' := by
  have hne : ∀ W : World, (binOp .eql 22 (.slice (some ⟨b, off, none⟩) n cp) (.slice none 0 0)).run Tryz.prog W = .ok (.bool false) W := fun W => Lib.run_eql_slice_some_nil W _ n cp Tryz.underlying22
  obtain ⟨ii, hi, hz, hs, hb⟩ : ∃ i, Tryz.prog.info? 28 = some i ∧ i.zero = some (.agg #[.int .i64 0, .string ⟨#[]⟩, .int .i64 0, .int .i64 0, .string ⟨#[]⟩, .slice none 0 0, .slice none 0 0]) ∧ i.size = 7 ∧ i.bytes = 104 := by
    have := info27
    cases hh : Tryz.prog.info? 28 with
    | none => rw [hh] at this; cases this
    | some i => rw [hh] at this; simp only [Option.map_some, Option.some.injEq, Prod.mk.injEq] at this; exact ⟨i, rfl, this.1, this.2.1, this.2.2⟩
  have HI := Lib.hid hi
  have HZ := Lib.hid hz
  have HS := Lib.hid hs
  have HBY := Lib.hid hb
  clear hi hz hs hb
  have HC := Lib.hid hc
  clear hc
  have own0 : (w.alloc (.cells #[] 28)).ownsRow w.heap.size 28 7 (.slice (some ⟨w.heap.size, 0, none⟩) 0 0) 0 [] := ⟨rfl, .inr ⟨w.heap.size, 0, #[], rfl, Nat.le_refl _, Blk.new w 28 [], Nat.le_refl _, Nat.zero_le _, rfl, rfl⟩⟩
  have hget : Hid (∀ j u, (rowList w b off (n * 7))[j]? = some u → (w.cell? ⟨b, off + j, none⟩ = some u ∧ u.oneCell' = true) ∧ (w.alloc (.cells #[] 28)).cell? ((⟨b, off, none⟩ : Addr).add j) = some u) := Lib.hid (by
    intro j u hj
    have hlt : j < n * 7 := by
      have := (List.getElem?_eq_some_iff.1 hj).1; unfold rowList at this; simpa using this
    obtain ⟨v, hv, h1⟩ := HC.out j hlt
    rw [rowList_get hlt hv] at hj
    have hvu : v = u := Option.some.inj hj
    subst hvu
    refine ⟨⟨hv, h1⟩, ?_⟩
    have hl := cell_lt hv
    rw [show (⟨b, off, none⟩ : Addr).add j = ⟨b, off + j, none⟩ by cases j <;> simp [Addr.add]]
    rw [World.cell?_of_block (w := w) (a := ⟨b, off + j, none⟩) (Below.heap_alloc _ _ _ hl)]; exact hv)
  go_enter Tryz.func106, Tryz.ntmps106
  go_wp2_with (at_builtin; refine wpList_append_own_at _ rfl (.tmp 5) (.tmp 6) 22 rfl w.heap.size 28 ii _ 7 104 Tryz.underlying22 HI.out HZ.out HS.out HBY.out rfl (by decide) _ _ _ rfl own0 ⟨b, off, none⟩ n cp (rowList w b off (n * 7)) rfl (by unfold rowList; simp) (fun j u h => (hget.out j u h).2) ?_ ?_ ?_ ?_ ?_)
  · intro u hu
    obtain ⟨j, hj⟩ := List.getElem?_of_mem hu
    exact (hget.out j u hj).1.2
  · unfold maxLen; omega
  · omega
  · simp
  · intro v' w1 own1 gr1 hnil hat
    have kA := kept_grown gr1
    have OWN := Lib.hid own1
    have NIL := Lib.hid hnil
    clear own1 hnil hat gr1
    go_wp2_with fail
    go_ret
    refine ⟨v', rfl, ?_, ((Kept.refl (fun _ => False) w).alloc _).via kA (fun x hx h => by simp [Value.ownBlock] at h; omega)⟩
    rcases OWN.out.2 with ⟨h0, _⟩ | ⟨g, cap, cur, rfl, hg, hh, h1, h2, h3, h4⟩
    · exact (NIL.out h0).elim
    · refine ⟨g, cap, cur.toList, rfl, by omega, hg, by unfold Blk; rw [hh], ?_, ?_⟩
      · rw [Array.length_toList, h3]; exact Nat.mul_le_mul_right _ (by omega)
      · intro j hj
        obtain ⟨v, hv, _⟩ := HC.out j hj
        rw [hv, ← rowList_get hj hv, ← h4, List.getElem?_take_of_lt hj]
set_option maxRecDepth 100000 in
set_option maxHeartbeats 2000000 in
theorem cloneTm_zero {w : World} (ad : Addr) (cp : Nat) :
    Calls Tryz.prog 106 #[.slice (some ad) 0 cp] w fun e w' => ∃ g cap, e = .returned (.slice (some ⟨g, 0, none⟩) 0 cap) ∧ Kept (fun _ => False) w w' := by
  have hne : ∀ W : World, (binOp .eql 22 (.slice (some ad) 0 cp) (.slice none 0 0)).run Tryz.prog W = .ok (.bool false) W := fun W => Lib.run_eql_slice_some_nil W _ 0 cp Tryz.underlying22
  obtain ⟨ii, hi, hz, hs, hb⟩ : ∃ i, Tryz.prog.info? 28 = some i ∧ i.zero = some (.agg #[.int .i64 0, .string ⟨#[]⟩, .int .i64 0, .int .i64 0, .string ⟨#[]⟩, .slice none 0 0, .slice none 0 0]) ∧ i.size = 7 ∧ i.bytes = 104 := by
    have := info27
    cases hh : Tryz.prog.info? 28 with
    | none => rw [hh] at this; cases this
    | some i => rw [hh] at this; simp only [Option.map_some, Option.some.injEq, Prod.mk.injEq] at this; exact ⟨i, rfl, this.1, this.2.1, this.2.2⟩
  have HI := Lib.hid hi
  have HZ := Lib.hid hz
  have HS := Lib.hid hs
  have HBY := Lib.hid hb
  clear hi hz hs hb
  have own0 : (w.alloc (.cells #[] 28)).ownsRow w.heap.size 28 7 (.slice (some ⟨w.heap.size, 0, none⟩) 0 0) 0 [] := ⟨rfl, .inr ⟨w.heap.size, 0, #[], rfl, Nat.le_refl _, Blk.new w 28 [], Nat.le_refl _, Nat.zero_le _, rfl, rfl⟩⟩
  go_enter Tryz.func106, Tryz.ntmps106
  go_wp2_with (at_builtin; refine wpList_append_own_at _ rfl (.tmp 5) (.tmp 6) 22 rfl w.heap.size 28 ii _ 7 104 Tryz.underlying22 HI.out HZ.out HS.out HBY.out rfl (by decide) _ _ _ rfl own0 ad 0 cp [] rfl rfl (fun j u h => by cases h) ?_ ?_ ?_ ?_ ?_)
  · intro u hu; cases hu
  · unfold maxLen; omega
  · omega
  · simp
  · intro v' w1 own1 gr1 hnil hat
    have kA := kept_grown gr1
    have OWN := Lib.hid own1
    have NIL := Lib.hid hnil
    clear own1 hnil hat gr1
    go_wp2_with fail
    go_ret
    rcases OWN.out.2 with ⟨h0, _⟩ | ⟨g, cap, cur, rfl, hg, hh, h1, h2, h3, h4⟩
    · exact (NIL.out h0).elim
    · exact ⟨g, cap, rfl, ((Kept.refl (fun _ => False) w).alloc _).via kA (fun x hx h => by simp [Value.ownBlock] at h; omega)⟩
set_option maxHeartbeats 2000000 in
theorem cloneTm_nil (w : World) : Calls Tryz.prog 106 #[.slice none 0 0] w fun e w' => e = .returned (.slice none 0 0) ∧ w = w' := by
  have hne : ∀ W : World, (binOp .eql 22 (.slice none 0 0) (.slice none 0 0)).run Tryz.prog W = .ok (.bool true) W := fun W => Lib.run_eql_slice_nil_nil W 0 0 Tryz.underlying22
  go_enter Tryz.func106, Tryz.ntmps106
  go_wp2_with fail
  go_ret
  exact ⟨rfl, rfl⟩
set_option maxHeartbeats 2000000 in
theorem clipTm_nil (w : World) : Calls Tryz.prog 53 #[.slice none 0 0] w fun e w' => e = .returned (.slice none 0 0) ∧ w = w' := by
  go_enter Tryz.func53, Tryz.ntmps53
  go_wp2_with fail
  go_ret
  exact ⟨rfl, rfl⟩
set_option maxHeartbeats 2000000 in
theorem clipTm_some (w : World) (g n cap : Nat) (hn : n ≤ cap) (hn2 : n ≤ 1000000) : Calls Tryz.prog 53 #[.slice (some ⟨g, 0, none⟩) n cap] w fun e w' => e = .returned (.slice (some ⟨g, 0, none⟩) n n) ∧ w = w' := by
  have i1 : (n : Int) ≤ (cap : Int) := by omega
  have i2 : (0 : Int) ≤ (n : Int) := by omega
  go_enter Tryz.func53, Tryz.ntmps53
  go_wp2_with fail
  go_ret
  exact ⟨rfl, rfl⟩
inductive BdTy : Ty → Prop
  | mk {k : Int} {n : ByteArray} {l : List Ty} (hn : l.length ≤ 1000000) (hl : ∀ t, t ∈ l → BdTy t) : BdTy (.mk k n l)
def CpC (t : Ty) : Prop := ∀ (w : World) (ok : Nat → Prop) (tk : Value), TyL ok w t.kids tk →
  Calls Tryz.prog 105 #[tyVal t tk] w fun e w' => ∃ v, e = .returned (tyVal t v) ∧ TyL (fun k => w.heap.size ≤ k) w' t.kids v ∧ Kept (fun _ => False) w w'
theorem r3' {W : World} {R : Nat} {l : List Value} {x y z : Value} (h : Blk W R 26 l) (hl : l.length = 3) : Blk (((W.setCell ⟨R, 0, none⟩ x).setCell ⟨R, 1, none⟩ y).setCell ⟨R, 2, none⟩ z) R 26 [x, y, z] := r3 h hl
set_option maxRecDepth 100000 in
set_option maxHeartbeats 8000000 in
theorem copyTy_nil {k : Int} {nm : ByteArray} {w : World} :
    Calls Tryz.prog 105 #[.agg #[.int .i64 k, .string nm, .slice none 0 0]] w fun e w' => e = .returned (.agg #[.int .i64 k, .string nm, .slice none 0 0]) ∧ Kept (fun _ => False) w w' := by
  have bA : Blk ((w.alloc (.cells #[.int .i64 k, .string nm, .slice none 0 0] 26)).alloc (.cells #[.int .i64 0, .string ⟨#[]⟩, .slice none 0 0] 26)) w.heap.size 26 [.int .i64 k, .string nm, .slice none 0 0] := (Blk.new w 26 _).alloc _
  have K0 : Kept (fun _ => False) w ((w.alloc (.cells #[.int .i64 k, .string nm, .slice none 0 0] 26)).alloc (.cells #[.int .i64 0, .string ⟨#[]⟩, .slice none 0 0] 26)) := ((Kept.refl _ _).alloc _).alloc _
  go_enter Tryz.func105, Tryz.ntmps105
  go_wp2_with (first | (go_at_call 171; refine (cloneTy_nil _).mono ?_; rintro e w' ⟨rfl, rfl⟩) | (go_at_call 170; refine (clipTy_nil _).mono ?_; rintro e w' ⟨rfl, rfl⟩))
  go_loop [13] (fun i => i = .int .i64 0) (fun i => 0)
  case atStart => rfl
  case round =>
    subst hrel
    go_wp2_with fail
    exact bodyPost_ret (results_one Tryz.results105 rfl (load_ty (t := .mk k nm []) (Blk.new' 26 _ (by simp)))) rfl ⟨rfl, ((Kept.refl _ _).alloc _).alloc _⟩
def ZTy (k : Int) (nm : ByteArray) (w : World) (e : Ending) (w' : World) : Prop := ∃ g cap, e = .returned (.agg #[.int .i64 k, .string nm, .slice (some g) 0 cap]) ∧ Kept (fun _ => False) w w'
set_option maxRecDepth 100000 in
set_option maxHeartbeats 8000000 in
theorem copyTy_zero {k : Int} {nm : ByteArray} {w : World} (ad : Addr) (cp : Nat) :
    Calls Tryz.prog 105 #[.agg #[.int .i64 k, .string nm, .slice (some ad) 0 cp]] w (ZTy k nm w) := by
  have bA : Blk ((w.alloc (.cells #[.int .i64 k, .string nm, .slice (some ad) 0 cp] 26)).alloc (.cells #[.int .i64 0, .string ⟨#[]⟩, .slice none 0 0] 26)) w.heap.size 26 [.int .i64 k, .string nm, .slice (some ad) 0 cp] := (Blk.new w 26 _).alloc _
  have bR : Blk ((w.alloc (.cells #[.int .i64 k, .string nm, .slice (some ad) 0 cp] 26)).alloc (.cells #[.int .i64 0, .string ⟨#[]⟩, .slice none 0 0] 26)) (w.heap.size + 1) 26 z24 := Blk.new' 26 _ (by simp)
  have K0 : Kept (fun _ => False) w ((w.alloc (.cells #[.int .i64 k, .string nm, .slice (some ad) 0 cp] 26)).alloc (.cells #[.int .i64 0, .string ⟨#[]⟩, .slice none 0 0] 26)) := ((Kept.refl _ _).alloc _).alloc _
  go_enter Tryz.func105, Tryz.ntmps105
  go_wp2_with fail
  refine (cloneTy_zero ad cp).mono ?_
  rintro e w1 ⟨g, cap, rfl, k1⟩
  have bA1 := bA.kept k1 (fun h => h)
  have bR1 := bR.kept k1 (fun h => h)
  have K1 := K0.trans k1
  have a0 : w1.cell? ⟨w.heap.size, 0, none⟩ = some (.int .i64 k) := bA1.cell 0
  have a1 : w1.cell? ⟨w.heap.size, 1, none⟩ = some (.string nm) := bA1.cell 1
  have a2 : w1.cell? ⟨w.heap.size, 2, none⟩ = some (.slice (some ad) 0 cp) := bA1.cell 2
  have fa2 := bA1.frozen 2
  have r0 : w1.cell? ⟨w.heap.size + 1, 0, none⟩ = some (.int .i64 0) := bR1.cell 0
  have r1 : w1.cell? ⟨w.heap.size + 1, 1, none⟩ = some (.string ⟨#[]⟩) := bR1.cell 1
  have r2 : w1.cell? ⟨w.heap.size + 1, 2, none⟩ = some (.slice none 0 0) := bR1.cell 2
  have f0 := bR1.frozen 0
  have f1 := bR1.frozen 1
  have f2 := bR1.frozen 2
  have BR := Lib.hid bR1
  have KP := Lib.hid K1
  clear bR1 K1 bA1 bA bR
  go_wp2_with (go_at_call 170; refine (clipTy_some _ g 0 cap (Nat.zero_le _) (Nat.zero_le _)).mono ?_; rintro e w' ⟨rfl, rfl⟩)
  go_loop [13] (fun i => i = .int .i64 0) (fun i => 0)
  case atStart => rfl
  case round =>
    subst hrel
    go_wp2_with fail
    have bF := r3' (x := .int .i64 k) (y := .string nm) (z := .slice (some ⟨g, 0, none⟩) 0 0) (BR.out.set_other ⟨w.heap.size, 2, none⟩ (.slice (some ⟨g, 0, none⟩) 0 0) (by show w.heap.size + 1 ≠ w.heap.size; omega)) rfl
    refine bodyPost_ret (results_one Tryz.results105 rfl (load_ty (t := .mk k nm []) bF)) rfl ?_
    exact ⟨_, _, rfl, (((KP.out.setCell (p := ⟨w.heap.size, 2, none⟩) (Or.inr (Nat.le_refl _)) _).setCell (p := ⟨w.heap.size + 1, 0, none⟩) (Or.inr (by show w.heap.size ≤ w.heap.size + 1; omega)) _).setCell (p := ⟨w.heap.size + 1, 1, none⟩) (Or.inr (by show w.heap.size ≤ w.heap.size + 1; omega)) _).setCell (p := ⟨w.heap.size + 1, 2, none⟩) (Or.inr (by show w.heap.size ≤ w.heap.size + 1; omega)) _⟩
structure CI (w : World) (l : List Ty) (kd : Int) (nm : ByteArray) (n b off g k : Nat) (wr : World) : Prop where
  kp : Kept (fun _ => False) w wr
  a : Blk wr w.heap.size 26 [.int .i64 kd, .string nm, .slice (some ⟨g, 0, none⟩) n n]
  r : Blk wr (w.heap.size + 1) 26 z24
  row : ∃ (L : List Value) (K' : Nat → Value), Blk wr g 26 L ∧ n * 3 ≤ L.length ∧ (∀ j, k * 3 ≤ j → j < n * 3 → L[j]? = w.cell? ⟨b, off + j, none⟩) ∧
    ∀ i (_ : i < k) (h : i < l.length), L[i * 3]? = some (.int .i64 l[i].kind) ∧ L[i * 3 + 1]? = some (.string l[i].name) ∧ L[i * 3 + 2]? = some (K' i) ∧ TyL (fun q => w.heap.size + 2 ≤ q ∧ q ≠ g) wr l[i].kids (K' i)
theorem set3 {W : World} {ok : Nat → Prop} {g i j q : Nat} {x y z : Value} (h : ∀ k, ok k → k ≠ g) : Same ok W (((W.setCell ⟨g, i, none⟩ x).setCell ⟨g, j, none⟩ y).setCell ⟨g, q, none⟩ z) :=
  Same.of_kept (S := (· = g)) ((((Kept.refl (fun x => x = g) W).setCell (p := ⟨g, i, none⟩) (Or.inl rfl) _).setCell (p := ⟨g, j, none⟩) (Or.inl rfl) _).setCell (p := ⟨g, q, none⟩) (Or.inl rfl) _) h
theorem CI.step {w wr w4 : World} {l : List Ty} {kd : Int} {nm : ByteArray} {b off g k : Nat} {v : Value} (h : CI w l kd nm l.length b off g k wr) (hg : w.heap.size + 2 ≤ g) (hk : k < l.length) (kk : Kept (fun _ => False) wr w4) (hv : TyL (fun q => wr.heap.size ≤ q) w4 l[k].kids v) :
    CI w l kd nm l.length b off g (k + 1) (((w4.setCell ⟨g, k * 3, none⟩ (.int .i64 l[k].kind)).setCell ⟨g, k * 3 + 1, none⟩ (.string l[k].name)).setCell ⟨g, k * 3 + 2, none⟩ v) := by
  obtain ⟨L, K', bG, hLn, hLo, hLd⟩ := h.row
  have lg := bG.lt
  have b4 := bG.kept kk (fun h => h)
  refine ⟨(((h.kp.trans kk).setCell (p := ⟨g, k * 3, none⟩) (Or.inr (by show w.heap.size ≤ g; omega)) _).setCell (p := ⟨g, k * 3 + 1, none⟩) (Or.inr (by show w.heap.size ≤ g; omega)) _).setCell (p := ⟨g, k * 3 + 2, none⟩) (Or.inr (by show w.heap.size ≤ g; omega)) _,
    (((h.a.kept kk (fun h => h)).set_other _ _ (by show w.heap.size ≠ g; omega)).set_other _ _ (by show w.heap.size ≠ g; omega)).set_other _ _ (by show w.heap.size ≠ g; omega),
    (((h.r.kept kk (fun h => h)).set_other _ _ (by show w.heap.size + 1 ≠ g; omega)).set_other _ _ (by show w.heap.size + 1 ≠ g; omega)).set_other _ _ (by show w.heap.size + 1 ≠ g; omega),
    ((L.set (k * 3) (.int .i64 l[k].kind)).set (k * 3 + 1) (.string l[k].name)).set (k * 3 + 2) v, fun i => if i = k then v else K' i,
    ((b4.set _ _).set _ _).set _ _, by simpa using hLn, fun j h1 h2 => ?_, fun i hi hl => ?_⟩
  · rw [List.getElem?_set_ne (by omega), List.getElem?_set_ne (by omega), List.getElem?_set_ne (by omega)]
    exact hLo j (by omega) h2
  · by_cases hik : i = k
    · subst hik
      refine ⟨?_, ?_, ?_, ?_⟩
      · rw [List.getElem?_set_ne (by omega), List.getElem?_set_ne (by omega), List.getElem?_set_self (by omega)]
      · rw [List.getElem?_set_ne (by omega), List.getElem?_set_self (by simp; omega)]
      · rw [List.getElem?_set_self (by simp; omega)]; show some v = some (if i = i then v else K' i); rw [if_pos rfl]
      · show TyL _ _ _ (if i = i then v else K' i)
        rw [if_pos rfl]
        exact (hv.mono (ok' := fun q => w.heap.size + 2 ≤ q ∧ q ≠ g) (fun q _ h => ⟨by omega, by omega⟩)).frame (set3 (fun q h => h.2))
    · obtain ⟨e0, e1, e2, e3⟩ := hLd i (by omega) hl
      refine ⟨?_, ?_, ?_, ?_⟩
      · rw [List.getElem?_set_ne (by omega), List.getElem?_set_ne (by omega), List.getElem?_set_ne (by omega)]; exact e0
      · rw [List.getElem?_set_ne (by omega), List.getElem?_set_ne (by omega), List.getElem?_set_ne (by omega)]; exact e1
      · rw [List.getElem?_set_ne (by omega), List.getElem?_set_ne (by omega), List.getElem?_set_ne (by omega)]; show _ = some (if i = k then v else K' i); rw [if_neg hik]; exact e2
      · show TyL _ _ _ (if i = k then v else K' i)
        rw [if_neg hik]
        exact (e3.frame (Same.of_kept kk (fun _ _ e => e))).frame (set3 (fun q h => h.2))
theorem CI.done {w wr : World} {l : List Ty} {kd : Int} {nm : ByteArray} {b off g : Nat} (h : CI w l kd nm l.length b off g l.length wr) (hne : l ≠ []) (hg : w.heap.size + 2 ≤ g) : TyL (fun k => w.heap.size ≤ k) wr l (.slice (some ⟨g, 0, none⟩) l.length l.length) := by
  obtain ⟨L, K', bG, hLn, hLo, hLd⟩ := h.row
  refine TyL.mk K' hne (by omega) (Nat.le_refl _) (fun i hi => ?_) (fun i hi => ?_)
  · obtain ⟨e0, e1, e2, e3⟩ := hLd i hi hi
    rw [Nat.zero_add]
    exact ⟨by rw [bG.cell]; exact e0, by rw [bG.cell]; exact e1, by rw [bG.cell]; exact e2⟩
  · exact (hLd i hi hi).2.2.2.mono (fun q _ h => by omega)
theorem three {n j : Nat} (h : j < n * 3) : ∃ i r, i < n ∧ r < 3 ∧ j = i * 3 + r := ⟨j / 3, j % 3, by omega, by omega, by omega⟩
set_option maxRecDepth 100000 in
set_option maxHeartbeats 8000000 in
theorem copyTy_some {kd : Int} {nm : ByteArray} {l : List Ty} {w : World} {ok : Nat → Prop} {b off cp : Nat} (IH : ∀ t, t ∈ l → CpC t) (hn : l.length ≤ 1000000) (K : Nat → Value)
    (hcell : ∀ i (h : i < l.length), w.cell? ⟨b, off + i * 3, none⟩ = some (.int .i64 l[i].kind) ∧ w.cell? ⟨b, off + i * 3 + 1, none⟩ = some (.string l[i].name) ∧ w.cell? ⟨b, off + i * 3 + 2, none⟩ = some (K i))
    (hk : ∀ i (h : i < l.length), TyL ok w l[i].kids (K i)) :
    Calls Tryz.prog 105 #[.agg #[.int .i64 kd, .string nm, .slice (some ⟨b, off, none⟩) l.length cp]] w fun e w' => ∃ v, e = .returned (.agg #[.int .i64 kd, .string nm, v]) ∧ TyL (fun k => w.heap.size ≤ k) w' l v ∧ Kept (fun _ => False) w w' := by
  have bA : Blk ((w.alloc (.cells #[.int .i64 kd, .string nm, .slice (some ⟨b, off, none⟩) l.length cp] 26)).alloc (.cells #[.int .i64 0, .string ⟨#[]⟩, .slice none 0 0] 26)) w.heap.size 26 [.int .i64 kd, .string nm, .slice (some ⟨b, off, none⟩) l.length cp] := (Blk.new w 26 _).alloc _
  have bR : Blk ((w.alloc (.cells #[.int .i64 kd, .string nm, .slice (some ⟨b, off, none⟩) l.length cp] 26)).alloc (.cells #[.int .i64 0, .string ⟨#[]⟩, .slice none 0 0] 26)) (w.heap.size + 1) 26 z24 := Blk.new' 26 _ (by simp)
  have K0 : Kept (fun _ => False) w ((w.alloc (.cells #[.int .i64 kd, .string nm, .slice (some ⟨b, off, none⟩) l.length cp] 26)).alloc (.cells #[.int .i64 0, .string ⟨#[]⟩, .slice none 0 0] 26)) := ((Kept.refl _ _).alloc _).alloc _
  have z0 : ((w.alloc (.cells #[.int .i64 kd, .string nm, .slice (some ⟨b, off, none⟩) l.length cp] 26)).alloc (.cells #[.int .i64 0, .string ⟨#[]⟩, .slice none 0 0] 26)).heap.size = w.heap.size + 2 := by simp
  have HCELL := Lib.hid hcell
  have HK := Lib.hid hk
  have HIH := Lib.hid IH
  clear hcell hk IH
  have hone : Hid (∀ j, j < l.length * 3 → ∃ v, w.cell? ⟨b, off + j, none⟩ = some v ∧ v.oneCell' = true) := Lib.hid (by
    intro j hj
    obtain ⟨i, r, hi, hr, rfl⟩ := three hj
    have c := HCELL.out i hi
    rcases (show r = 0 ∨ r = 1 ∨ r = 2 by omega) with rfl | rfl | rfl
    · exact ⟨_, c.1, rfl⟩
    · exact ⟨_, by rw [show off + (i * 3 + 1) = off + i * 3 + 1 by omega]; exact c.2.1, rfl⟩
    · obtain ⟨a, n, c', hh⟩ := (HK.out i hi).slice
      exact ⟨_, by rw [show off + (i * 3 + 2) = off + i * 3 + 2 by omega]; exact c.2.2, by rw [hh]; rfl⟩)
  have Z0 := Lib.hid z0
  clear z0
  go_enter Tryz.func105, Tryz.ntmps105
  go_wp2_with fail
  refine (cloneTy_some b off l.length cp hn (fun j hj => ?_)).mono ?_
  · obtain ⟨v, hv, h1⟩ := hone.out j hj
    exact ⟨v, by rw [K0.cell (p := ⟨b, off + j, none⟩) (cell_lt hv) (fun h => h)]; exact hv, h1⟩
  rintro e w1 ⟨v, rfl, ⟨g, cap, L, rfl, hcap, hg, hL, hLl, hLc⟩, k1⟩
  rw [Z0.out] at hg
  have bA1 := bA.kept k1 (fun h => h)
  have bR1 := bR.kept k1 (fun h => h)
  have hA2 := bA1.cell 2
  have fA2 := bA1.frozen 2
  have HLC := Lib.hid hLc
  have HLL := Lib.hid hLl
  have HG := Lib.hid hg
  clear hLc hLl hg
  go_wp2_with (go_at_call 170; refine (clipTy_some _ g l.length cap hcap hn).mono ?_; rintro e w' ⟨rfl, rfl⟩)
  have c1 : CI w l kd nm l.length b off g 0 (w1.setCell ⟨w.heap.size, 2, none⟩ (.slice (some ⟨g, 0, none⟩) l.length l.length)) := by
    have hg := HG.out
    refine ⟨(K0.via k1 (fun _ _ h => h)).setCell (p := ⟨w.heap.size, 2, none⟩) (Or.inr (Nat.le_refl _)) _, bA1.set 2 _, bR1.set_other _ _ (by show w.heap.size + 1 ≠ w.heap.size; omega), L, K, hL.set_other _ _ (by show g ≠ w.heap.size; omega), HLL.out, fun j _ hj => ?_, fun i hi => absurd hi (Nat.not_lt_zero _)⟩
    rw [HLC.out j hj]
    obtain ⟨v, hv, _⟩ := hone.out j hj
    rw [K0.cell (p := ⟨b, off + j, none⟩) (cell_lt hv) (fun h => h)]
  have C1 := Lib.hid c1
  clear c1 hA2 fA2 bA1 bR1 bA bR hL
  go_loopw [13] (fun i wr => ∃ k : Nat, k ≤ l.length ∧ i = .int .i64 k ∧ Hid (CI w l kd nm l.length b off g k wr)) (fun i _ => l.length - (intOf i).toNat)
  case atStart => exact ⟨0, Nat.zero_le _, rfl, C1⟩
  case round =>
    obtain ⟨k, hkl, rfl, HCI⟩ := hrel
    have hg := HG.out
    have qA := HCI.out.a
    have qR := HCI.out.r
    have kp := HCI.out.kp
    obtain ⟨L, K', bG, hLn, hLo, hLd⟩ := HCI.out.row
    have HLo := Lib.hid hLo
    have HLd := Lib.hid hLd
    have HLn := Lib.hid hLn
    have BG := Lib.hid bG
    clear hLo hLd hLn bG
    by_cases hlt : k < l.length
    · have c0 : wr.cell? ⟨g, k * 3, none⟩ = some (.int .i64 l[k].kind) := by
        rw [BG.out.cell, HLo.out (k * 3) (Nat.le_refl _) (by omega)]; exact (HCELL.out k hlt).1
      have c1 : wr.cell? ⟨g, k * 3 + 1, none⟩ = some (.string l[k].name) := by
        rw [BG.out.cell, HLo.out (k * 3 + 1) (by omega) (by omega)]; exact (HCELL.out k hlt).2.1
      obtain ⟨ta, tn, tc, hKk⟩ := (HK.out k hlt).slice
      have c2 : wr.cell? ⟨g, k * 3 + 2, none⟩ = some (.slice ta tn tc) := by
        rw [BG.out.cell, HLo.out (k * 3 + 2) (by omega) (by omega), ← hKk]; exact (HCELL.out k hlt).2.2
      have i1 : (k : Int) < (l.length : Int) := by omega
      have a2 : wr.cell? ⟨w.heap.size, 2, none⟩ = some (.slice (some ⟨g, 0, none⟩) l.length l.length) := qA.cell 2
      have lA := qA.lt
      have lG := BG.out.lt
      have hcon := Lib.hid (HIH.out _ (List.getElem_mem hlt))
      have hty : Hid (TyL ok wr l[k].kids (.slice ta tn tc)) := Lib.hid (by rw [← hKk]; exact (HK.out k hlt).frame (Same.of_kept kp (fun _ _ e => e)))
      clear hKk
      go_wp2_with fail
      have bX : Blk (wr.alloc (.cells #[.int .i64 l[k].kind, .string l[k].name, .slice ta tn tc] 26)) wr.heap.size 26 [.int .i64 l[k].kind, .string l[k].name, .slice ta tn tc] := Blk.new wr 26 _
      have hAX : w.heap.size ≠ wr.heap.size := by omega
      have hGX : g ≠ wr.heap.size := by omega
      have hAG : g ≠ w.heap.size := by omega
      refine wp_gen (F := fun W3 => Kept (fun _ => False) wr W3 ∧ Blk W3 wr.heap.size 26 [.int .i64 l[k].kind, .string l[k].name, .slice ta tn tc] ∧ wr.heap.size < W3.heap.size) ⟨(Kept.refl _ _).alloc _, bX, bX.lt⟩ ?_
      rintro W3 ⟨k3, b3, z3⟩
      have a3 : W3.cell? ⟨w.heap.size, 2, none⟩ = some (.slice (some ⟨g, 0, none⟩) l.length l.length) := (qA.kept k3 (fun h => h)).cell 2
      have x0 : W3.cell? ⟨wr.heap.size, 0, none⟩ = some (.int .i64 l[k].kind) := b3.cell 0
      have x1 : W3.cell? ⟨wr.heap.size, 1, none⟩ = some (.string l[k].name) := b3.cell 1
      have x2 : W3.cell? ⟨wr.heap.size, 2, none⟩ = some (.slice ta tn tc) := b3.cell 2
      have HC3 : Hid (Calls Tryz.prog 105 #[.agg #[.int .i64 l[k].kind, .string l[k].name, .slice ta tn tc]] W3.drew fun e w' => ∃ v, e = .returned (tyVal l[k] v) ∧ TyL (fun q => W3.heap.size ≤ q) w' l[k].kids v ∧ Kept (fun _ => False) W3 w') := Lib.hid ((hcon.out W3.drew ok (.slice ta tn tc) ((hty.out.frame (Same.of_kept k3 (fun _ _ e => e))).frame (Same.drew _))).mono fun e w' ⟨v, h1, h2, h3⟩ => ⟨v, h1, h2, ((Kept.refl _ _).drew).trans h3⟩)
      have B3 := Lib.hid b3
      have G3 := Lib.hid (BG.out.kept k3 (fun h => h))
      clear b3 bX c0 c1 c2 a2
      go_region_held3 (fun w' => w'.cell? ⟨w.heap.size, 2, none⟩ = some (.slice (some ⟨g, 0, none⟩) l.length l.length) ∧ w'.cell? ⟨wr.heap.size, 0, none⟩ = some (.int .i64 l[k].kind) ∧ w'.cell? ⟨wr.heap.size, 1, none⟩ = some (.string l[k].name) ∧ w'.cell? ⟨wr.heap.size, 2, none⟩ = some (.slice ta tn tc)) (go_keep)
        (first | (go_at_call 105; refine HC3.out.mono ?_; rintro e w4 ⟨v, rfl, hv, k4⟩; obtain ⟨va, vn, vc, rfl⟩ := hv.slice; unfold tyVal; have G4 := G3.out.kept k4 (fun h => h); have y0 : w4.cell? ⟨w.heap.size, 2, none⟩ = some (.slice (some ⟨g, 0, none⟩) l.length l.length) := (by rw [k4.cell (p := ⟨w.heap.size, 2, none⟩) (by show w.heap.size < _; omega) (fun h => h)]; exact a3); have y1 : w4.cell? ⟨wr.heap.size, 0, none⟩ = some (.int .i64 l[k].kind) := (B3.out.kept k4 (fun h => h)).cell 0; have y2 : w4.cell? ⟨wr.heap.size, 1, none⟩ = some (.string l[k].name) := (B3.out.kept k4 (fun h => h)).cell 1; have y3 : w4.cell? ⟨wr.heap.size, 2, none⟩ = some (.slice ta tn tc) := (B3.out.kept k4 (fun h => h)).cell 2; have t0 : w4.cell? ⟨g, k * 3, none⟩ = some (L[k * 3]'(by have := HLn.out; omega)) := (by rw [G4.cell]; exact List.getElem?_eq_getElem _); have t1 : w4.cell? ⟨g, k * 3 + 1, none⟩ = some (L[k * 3 + 1]'(by have := HLn.out; omega)) := (by rw [G4.cell]; exact List.getElem?_eq_getElem _); have t2 : w4.cell? ⟨g, k * 3 + 2, none⟩ = some (L[k * 3 + 2]'(by have := HLn.out; omega)) := (by rw [G4.cell]; exact List.getElem?_eq_getElem _); have f0 := G4.frozen (k * 3); have f1 := G4.frozen (k * 3 + 1); have f2 := G4.frozen (k * 3 + 2)))
      have HST := Lib.hid (HCI.out.step hg hlt (k3.trans k4) (hv.mono (fun q _ h => by omega)))
      go_wp2_with fail
      go_roundw
      case rel => exact ⟨k + 1, by omega, by go_num, HST⟩
      case measure => simp [intOf]; omega
    · have hkk : k = l.length := by omega
      subst hkk
      have a0 : wr.cell? ⟨w.heap.size, 0, none⟩ = some (.int .i64 kd) := qA.cell 0
      have a1 : wr.cell? ⟨w.heap.size, 1, none⟩ = some (.string nm) := qA.cell 1
      have a2 : wr.cell? ⟨w.heap.size, 2, none⟩ = some (.slice (some ⟨g, 0, none⟩) l.length l.length) := qA.cell 2
      have r0 : wr.cell? ⟨w.heap.size + 1, 0, none⟩ = some (.int .i64 0) := qR.cell 0
      have r1 : wr.cell? ⟨w.heap.size + 1, 1, none⟩ = some (.string ⟨#[]⟩) := qR.cell 1
      have r2 : wr.cell? ⟨w.heap.size + 1, 2, none⟩ = some (.slice none 0 0) := qR.cell 2
      have f0 := qR.frozen 0
      have f1 := qR.frozen 1
      have f2 := qR.frozen 2
      have QR := Lib.hid qR
      have KP := Lib.hid kp
      clear qR kp qA
      go_wp2_with fail
      have bF := r3' (x := .int .i64 kd) (y := .string nm) (z := .slice (some ⟨g, 0, none⟩) l.length l.length) QR.out rfl
      refine bodyPost_ret (results_one Tryz.results105 rfl (load_ty (t := .mk kd nm l) bF)) rfl ⟨_, rfl, ?_, ?_⟩
      · by_cases hne : l = []
        · subst hne; exact .nil (Or.inr ⟨_, _, rfl⟩)
        · have D := HCI.out.done hne hg
          obtain ⟨L, K', bG, hLn, hLo, hLd⟩ := HCI.out.row
          refine TyL.mk K' hne (by omega) (Nat.le_refl _) (fun i hi => ?_) (fun i hi => ?_)
          · obtain ⟨e0, e1, e2, e3⟩ := hLd i hi hi
            rw [Nat.zero_add]
            have bG' := ((bG.set_other ⟨w.heap.size + 1, 0, none⟩ (.int .i64 kd) (by show g ≠ w.heap.size + 1; omega)).set_other ⟨w.heap.size + 1, 1, none⟩ (.string nm) (by show g ≠ w.heap.size + 1; omega)).set_other ⟨w.heap.size + 1, 2, none⟩ (.slice (some ⟨g, 0, none⟩) l.length l.length) (by show g ≠ w.heap.size + 1; omega)
            exact ⟨by rw [bG'.cell]; exact e0, by rw [bG'.cell]; exact e1, by rw [bG'.cell]; exact e2⟩
          · exact ((hLd i hi hi).2.2.2.frame (set3 (g := w.heap.size + 1) (fun q h => by omega))).mono (fun q _ h => by omega)
      · exact ((KP.out.setCell (p := ⟨w.heap.size + 1, 0, none⟩) (Or.inr (by show w.heap.size ≤ w.heap.size + 1; omega)) _).setCell (p := ⟨w.heap.size + 1, 1, none⟩) (Or.inr (by show w.heap.size ≤ w.heap.size + 1; omega)) _).setCell (p := ⟨w.heap.size + 1, 2, none⟩) (Or.inr (by show w.heap.size ≤ w.heap.size + 1; omega)) _
theorem copyTy_any {t : Ty} (hb : BdTy t) : CpC t := by
  induction hb with
  | mk hn hl ih =>
    intro w ok tk h
    cases h with
    | nil h =>
      rcases h with rfl | ⟨ad, c, rfl⟩
      · exact copyTy_nil.mono fun e w' ⟨h1, h2⟩ => ⟨_, h1, .nil0, h2⟩
      · exact (copyTy_zero ad c).mono fun e w' ⟨g, cap, h1, h2⟩ => ⟨_, h1, .nil (Or.inr ⟨_, _, rfl⟩), h2⟩
    | mk K hne hb hc hcell hk => exact (copyTy_some ih hn K hcell hk).mono fun e w' ⟨v, h1, h2, h3⟩ => ⟨v, h1, h2, h3⟩
end Go.Proofs.YtfhedienjnfdcaaGreatDoor
