/- Texts TyF Form Fits Bd Prs of this proof, in one. -/
import Derived.Test.YtckjlliobebodaaGreatDoorBd4
set_option linter.unusedVariables false
set_option linter.unusedSimpArgs false
namespace Go.Proofs.YtckjlliobebodaaGreatDoor
open Go.RowKit
def tyHead (k : Int) (nm : ByteArray) (n : Nat) (within : Bool) : Bool :=
  if k = 1 then decide (n = 0) && (nm.toList == [])
  else if k = 2 then !within && decide (n = 0) && (nm.toList == [])
  else if k = 3 then identB nm && decide (n = 0)
  else if k = 4 then decide (n = 2) && (nm.toList == [])
  else if k = 5 then decide (n = 1) && (nm.toList == [])
  else false
mutual
def tfS (most deep : Nat) : Ty → Nat → Bool → Nat → Bool × Nat
  | .mk k nm l, d, wi, c =>
    match (decide (c + 1 ≤ most) && decide (d ≤ deep)) && tyHead k nm l.length wi with
    | false => (false, c + 1)
    | true => tfsS most deep l (d + 1) (c + 1)
def tfsS (most deep : Nat) : List Ty → Nat → Nat → Bool × Nat
  | [], _, c => (true, c)
  | t :: l, d, c =>
    match tfS most deep t d true c with
    | (true, c') => tfsS most deep l d c'
    | (false, c') => (false, c')
end
def FPost (m most deep : Nat) (r : Bool × Nat) (w : World) (e : Ending) (w' : World) : Prop := e = .returned (.bool r.1) ∧ Blk w' m 76 (mcells r.2 most deep) ∧ Kept (· = m) w w'
def TyC (m most deep : Nat) (t : Ty) : Prop := ∀ (w : World) (c d : Nat) (wi : Bool) (tk : Value), Blk w m 76 (mcells c most deep) → c ≤ most → d ≤ deep + 1 → TyL (fun k => k ≠ m) w t.kids tk →
  Calls Tryz.prog 60 #[.pointer (some ⟨m, 0, none⟩), tyVal t tk, .int .i64 d, .bool wi] w (FPost m most deep (tfS most deep t d wi c) w)
theorem tf_le (most deep : Nat) : ∀ (t : Ty) (d : Nat) (wi : Bool) (c : Nat), c ≤ most → (tfS most deep t d wi c).1 = true → c + 1 ≤ (tfS most deep t d wi c).2 ∧ (tfS most deep t d wi c).2 ≤ most := by
  intro t
  induction t using Ty.rec (motive_2 := fun l => ∀ (d c : Nat), c ≤ most → (tfsS most deep l d c).1 = true → c ≤ (tfsS most deep l d c).2 ∧ (tfsS most deep l d c).2 ≤ most) with
  | mk k nm l ih =>
    intro d wi c hc h
    rw [tfS] at h ⊢
    cases hb : (decide (c + 1 ≤ most) && decide (d ≤ deep)) && tyHead k nm l.length wi
    · rw [hb] at h; cases h
    · rw [hb] at h
      have : c + 1 ≤ most := by simp at hb; exact hb.1.1
      exact ih _ _ this h
  | nil => rename_i d c hc h; exact ⟨Nat.le_refl _, hc⟩
  | cons t l iht ihl =>
    rename_i d c hc h
    rw [tfsS] at h ⊢
    cases hr : tfS most deep t d true c with
    | mk b c' =>
      cases b
      · rw [hr] at h; cases h
      · rw [hr] at h
        have a := iht d true c hc (by rw [hr])
        rw [hr] at a
        have := ihl d c' a.2 h
        exact ⟨Nat.le_trans (Nat.le_trans (Nat.le_succ _) a.1) this.1, this.2⟩
set_option maxHeartbeats 1000000 in
theorem tf1_any {m most deep d c M D : Nat} {t : Ty} {a : Option Addr} {n cp : Nat} {w : World} (hT : TyC m most deep t) (hb : Blk w m 76 (mcells c most deep)) (hc : c ≤ most) (hd : d ≤ deep) (hdp : deep ≤ 1000)
    (hM : w.cell? ⟨M, 0, none⟩ = some (.pointer (some ⟨m, 0, none⟩))) (hD : w.cell? ⟨D, 0, none⟩ = some (.int .i64 d)) (hk : TyL (fun k => k ≠ m) w t.kids (.slice a n cp)) :
    Calls Tryz.prog 110 #[tyVal t (.slice a n cp), .pointer (some ⟨M, 0, none⟩), .pointer (some ⟨D, 0, none⟩)] w (FPost m most deep (!(tfS most deep t (d + 1) true c).1, (tfS most deep t (d + 1) true c).2) w) := by
  unfold tyVal
  have HT := Lib.hid hT
  clear hT
  have hb1 := hb.alloc (.cells #[.int .i64 t.kind, .string t.name, .slice a n cp] 24)
  have hk1 := hk.frame (Same.alloc w (.cells #[.int .i64 t.kind, .string t.name, .slice a n cp] 24))
  have lM := cell_lt hM
  have lD := cell_lt hD
  have nM : M ≠ w.heap.size := by omega
  have nD : D ≠ w.heap.size := by omega
  go_enter Tryz.func110, Tryz.ntmps110
  go_wp2_with fail
  refine (HT.out _ c (d + 1) true _ hb1 hc (by omega) hk1).mono ?_
  rintro e w' ⟨rfl, h1, h2⟩
  go_wp2_with fail
  go_ret
  exact ⟨rfl, h1, ((Kept.refl _ _).alloc _).trans h2⟩
theorem drop_cons {α : Type} (l : List α) (k : Nat) (h : k < l.length) : l.drop k = l[k] :: l.drop (k + 1) := (List.getElem_cons_drop h).symm
theorem tfs_step {most deep d c : Nat} {l : List Ty} {k : Nat} (h : k < l.length) : tfsS most deep (l.drop k) d c = (if (tfS most deep l[k] d true c).1 = true then tfsS most deep (l.drop (k + 1)) d (tfS most deep l[k] d true c).2 else (false, (tfS most deep l[k] d true c).2)) := by
  rw [drop_cons l k h, tfsS]
  cases tfS most deep l[k] d true c with
  | mk b c' => cases b <;> rfl
set_option maxHeartbeats 2000000 in
theorem idxTy_any {m most deep d c M D : Nat} {l : List Ty} {a : Option Addr} {n cp : Nat} {w : World} (hT : ∀ t, t ∈ l → TyC m most deep t) (hb : Blk w m 76 (mcells c most deep)) (hc : c ≤ most) (hmo : most ≤ 100000) (hd : d ≤ deep) (hdp : deep ≤ 1000) (hMm : M ≠ m) (hDm : D ≠ m)
    (hM : w.cell? ⟨M, 0, none⟩ = some (.pointer (some ⟨m, 0, none⟩))) (hD : w.cell? ⟨D, 0, none⟩ = some (.int .i64 d)) (hk : TyL (fun k => k ≠ m) w l (.slice a n cp)) :
    Calls Tryz.prog 145 #[.slice a n cp, .func (.func 110) #[] #[.pointer (some ⟨M, 0, none⟩), .pointer (some ⟨D, 0, none⟩)]] w fun e w' => ∃ i : Int, e = .returned (.int .i64 i) ∧ decide (0 ≤ i) = !(tfsS most deep l (d + 1) c).1 ∧ Blk w' m 76 (mcells (tfsS most deep l (d + 1) c).2 most deep) ∧ Kept (· = m) w w' := by
  have HT := Lib.hid hT
  clear hT
  have hn := hk.len
  subst hn
  cases hk with
  | nil he =>
    have hz : Hid (tfsS most deep ([] : List Ty) (d + 1) c = (true, c)) := Lib.hid (by rw [tfsS])
    go_enter Tryz.func145, Tryz.ntmps145
    go_wp2_with fail
    go_loop [8] (fun i => i = .int .i64 0) (fun i => 0)
    case atStart => rfl
    case round =>
      subst hrel
      go_wp2_with fail
      go_ret
      exact ⟨-1, rfl, by rw [hz.out]; rfl, by rw [hz.out]; exact hb, Kept.refl _ _⟩
  | mk K hne hok hcap hcell hkk =>
    rename_i g off
    have HC := Lib.hid hcell
    have HK := Lib.hid hkk
    clear hcell hkk
    have LM := Lib.hid (cell_lt hM)
    have LD := Lib.hid (cell_lt hD)
    go_enter Tryz.func145, Tryz.ntmps145
    go_wp2_with fail
    go_loopw [8] (fun i wr => ∃ k ck : Nat, k ≤ l.length ∧ i = .int .i64 k ∧ k ≤ ck ∧ ck ≤ most ∧ Blk wr m 76 (mcells ck most deep) ∧ Kept (· = m) w wr ∧ Hid (tfsS most deep l (d + 1) c = tfsS most deep (l.drop k) (d + 1) ck)) (fun i _ => l.length - (intOf i).toNat)
    case atStart => exact ⟨0, c, Nat.zero_le _, rfl, Nat.zero_le _, hc, hb, Kept.refl _ _, Lib.hid rfl⟩
    case round =>
      obtain ⟨k, ck, hkl, rfl, hkc, hcm, hbr, hkr, heq⟩ := hrel
      by_cases hlt : k < l.length
      · have c0 := (Same.of_kept (ok := fun k => k ≠ m) hkr (fun k h e => h e)).cell hok (HC.out k hlt).1
        have c1 := (Same.of_kept (ok := fun k => k ≠ m) hkr (fun k h e => h e)).cell hok (HC.out k hlt).2.1
        have c2 := (Same.of_kept (ok := fun k => k ≠ m) hkr (fun k h e => h e)).cell hok (HC.out k hlt).2.2
        have i1 : (k : Int) < (l.length : Int) := by omega
        have i2 : (k : Int) < 1000000 := by omega
        obtain ⟨ta, tn, tc, hK⟩ := (HK.out k hlt).slice
        have hkk := (HK.out k hlt).frame (Same.of_kept (ok := fun k => k ≠ m) hkr (fun k h e => h e))
        rw [hK] at c2 hkk
        have hM' : wr.cell? ⟨M, 0, none⟩ = some (.pointer (some ⟨m, 0, none⟩)) := by rw [hkr.cell (p := ⟨M, 0, none⟩) LM.out hMm]; exact hM
        have hD' : wr.cell? ⟨D, 0, none⟩ = some (.int .i64 d) := by rw [hkr.cell (p := ⟨D, 0, none⟩) LD.out hDm]; exact hD
        have hst := Lib.hid (tfs_step (most := most) (deep := deep) (d := d + 1) (c := ck) hlt)
        have hle := Lib.hid (tf_le most deep l[k] (d + 1) true ck hcm)
        have hcon := Lib.hid (tf1_any (HT.out _ (List.getElem_mem hlt)) hbr hcm hd hdp hM' hD' hkk)
        clear hkk hM' hD'
        cases hr : (tfS most deep l[k] (d + 1) true ck).1
        · go_wp2_with (go_at_call 110; refine hcon.out.mono ?_; rintro e w' ⟨rfl, h1, h2⟩)
          go_ret
          have q := heq.out.trans hst.out
          rw [hr, if_neg (by simp)] at q
          exact ⟨k, rfl, by rw [q]; simp, by rw [q]; exact h1, hkr.trans h2⟩
        · go_wp2_with (go_at_call 110; refine hcon.out.mono ?_; rintro e w' ⟨rfl, h1, h2⟩)
          go_roundw
          case rel =>
            have q := heq.out.trans hst.out
            rw [hr, if_pos rfl] at q
            have z := hle.out hr
            exact ⟨k + 1, _, by omega, by go_num, by omega, z.2, h1, hkr.trans h2, Lib.hid q⟩
          case measure => simp [intOf]; omega
      · have hz : Hid (tfsS most deep l (d + 1) c = (true, ck)) := Lib.hid (by rw [heq.out, List.drop_eq_nil_of_le (by omega), tfsS])
        go_wp2_with fail
        go_ret
        exact ⟨-1, rfl, by rw [hz.out]; rfl, by rw [hz.out]; exact hbr, hkr⟩
set_option maxHeartbeats 2000000 in
theorem contTy_any {m most deep d c M D : Nat} {l : List Ty} {a : Option Addr} {n cp : Nat} {w : World} (hT : ∀ t, t ∈ l → TyC m most deep t) (hb : Blk w m 76 (mcells c most deep)) (hc : c ≤ most) (hmo : most ≤ 100000) (hd : d ≤ deep) (hdp : deep ≤ 1000) (hMm : M ≠ m) (hDm : D ≠ m)
    (hM : w.cell? ⟨M, 0, none⟩ = some (.pointer (some ⟨m, 0, none⟩))) (hD : w.cell? ⟨D, 0, none⟩ = some (.int .i64 d)) (hk : TyL (fun k => k ≠ m) w l (.slice a n cp)) :
    Calls Tryz.prog 109 #[.slice a n cp, .func (.func 110) #[] #[.pointer (some ⟨M, 0, none⟩), .pointer (some ⟨D, 0, none⟩)]] w fun e w' => e = .returned (.bool (!(tfsS most deep l (d + 1) c).1)) ∧ Blk w' m 76 (mcells (tfsS most deep l (d + 1) c).2 most deep) ∧ Kept (· = m) w w' := by
  have hcon := Lib.hid (idxTy_any hT hb hc hmo hd hdp hMm hDm hM hD hk)
  clear hT hM hD hk
  go_enter Tryz.func109, Tryz.ntmps109
  go_wp2_with fail
  refine hcon.out.mono ?_
  rintro e w' ⟨i, rfl, hi, h1, h2⟩
  go_wp2_with fail
  go_ret
  exact ⟨rfl, h1, h2⟩
theorem tf_eq (most deep : Nat) (k : Int) (nm : ByteArray) (l : List Ty) (d : Nat) (wi : Bool) (c : Nat) : tfS most deep (.mk k nm l) d wi c = if ((decide (c + 1 ≤ most) && decide (d ≤ deep)) && tyHead k nm l.length wi) = true then tfsS most deep l (d + 1) (c + 1) else (false, c + 1) := by
  rw [tfS]
  cases (decide (c + 1 ≤ most) && decide (d ≤ deep)) && tyHead k nm l.length wi <;> rfl
theorem ident_t' {t : ByteArray} {v : Bool} (h : identB t = v) (ht : t.size ≤ 9223372036854775807) (w : World) : Calls Tryz.prog 18 #[.string t] w fun e w' => e = .returned (.bool v) ∧ w = w' := (ident_any t w ht).mono fun _ _ q => ⟨by rw [← h]; exact q.1, q.2⟩
set_option maxRecDepth 100000 in
set_option maxHeartbeats 8000000 in
theorem typeFits_one {m most deep : Nat} {k : Int} {nm : ByteArray} {l : List Ty} (hmo : most ≤ 100000) (hdp : deep ≤ 1000) (hsz : nm.size ≤ 9223372036854775807) (IH : ∀ t, t ∈ l → TyC m most deep t) : TyC m most deep (.mk k nm l) := by
  intro w c d wi tk hb hc hd hk
  obtain ⟨a, n, cp, rfl⟩ := hk.slice
  have hn := hk.len
  unfold tyVal
  have hk' : TyL (fun k => k ≠ m) w l (.slice a n cp) := hk
  clear hk
  simp only [Ty.kind, Ty.name, Ty.kids] at hn ⊢
  have HIH := Lib.hid IH
  clear IH
  have hml := hb.lt
  have HQ := Lib.hid (tf_eq most deep k nm l d wi c)
  have HN := Lib.hid hn
  clear hn
  have hb3 := ((hb.alloc (.cells #[.pointer (some ⟨m, 0, none⟩)] 107)).alloc (.cells #[.int .i64 k, .string nm, .slice a n cp] 24)).alloc (.cells #[.int .i64 d] 3)
  have K3 : Kept (· = m) w (((w.alloc (.cells #[.pointer (some ⟨m, 0, none⟩)] 107)).alloc (.cells #[.int .i64 k, .string nm, .slice a n cp] 24)).alloc (.cells #[.int .i64 d] 3)) := (((Kept.refl _ _).alloc _).alloc _).alloc _
  have b0 : Blk (((w.alloc (.cells #[.pointer (some ⟨m, 0, none⟩)] 107)).alloc (.cells #[.int .i64 k, .string nm, .slice a n cp] 24)).alloc (.cells #[.int .i64 d] 3)) w.heap.size 107 [.pointer (some ⟨m, 0, none⟩)] := ((Blk.new w 107 _).alloc _).alloc _
  have b1 : Blk (((w.alloc (.cells #[.pointer (some ⟨m, 0, none⟩)] 107)).alloc (.cells #[.int .i64 k, .string nm, .slice a n cp] 24)).alloc (.cells #[.int .i64 d] 3)) (w.heap.size + 1) 24 [.int .i64 k, .string nm, .slice a n cp] := (Blk.new' 24 _ (by simp)).alloc _
  have b2 : Blk (((w.alloc (.cells #[.pointer (some ⟨m, 0, none⟩)] 107)).alloc (.cells #[.int .i64 k, .string nm, .slice a n cp] 24)).alloc (.cells #[.int .i64 d] 3)) (w.heap.size + 2) 3 [.int .i64 d] := Blk.new' 3 _ (by simp)
  cases hv : (decide (c + 1 ≤ most) && decide (d ≤ deep))
  · have hq : Hid (tfS most deep (.mk k nm l) d wi c = (false, c + 1)) := Lib.hid (by rw [HQ.out, hv]; rfl)
    go_enter Tryz.func60, Tryz.ntmps60
    go_wp2_with fail
    refine (enter_any hb3 (by omega) hv).mono ?_
    rintro e W ⟨rfl, hbW, hkW⟩
    go_wp2_with fail
    go_ret
    exact ⟨by rw [hq.out]; rfl, by rw [hq.out]; exact hbW, K3.trans hkW⟩
  have hd1 : d ≤ deep := by simp at hv; exact hv.2
  have hc1 : c + 1 ≤ most := by simp at hv; exact hv.1
  have HD1 := Lib.hid hd1
  have HC1 := Lib.hid hc1
  clear hd1 hc1
  go_enter Tryz.func60, Tryz.ntmps60
  go_wp2_with fail
  refine (enter_any hb3 (by omega) hv).mono ?_
  rintro e W ⟨rfl, hbW, hkW⟩
  have p0 : W.cell? ⟨w.heap.size, 0, none⟩ = some (.pointer (some ⟨m, 0, none⟩)) := (b0.kept hkW (by show ¬ w.heap.size = m; omega)).cell 0
  have g0 : W.cell? ⟨w.heap.size + 1, 0, none⟩ = some (.int .i64 k) := (b1.kept hkW (by show ¬ w.heap.size + 1 = m; omega)).cell 0
  have g1 : W.cell? ⟨w.heap.size + 1, 1, none⟩ = some (.string nm) := (b1.kept hkW (by show ¬ w.heap.size + 1 = m; omega)).cell 1
  have g2 : W.cell? ⟨w.heap.size + 1, 2, none⟩ = some (.slice a n cp) := (b1.kept hkW (by show ¬ w.heap.size + 1 = m; omega)).cell 2
  have dd : W.cell? ⟨w.heap.size + 2, 0, none⟩ = some (.int .i64 d) := (b2.kept hkW (by show ¬ w.heap.size + 2 = m; omega)).cell 0
  have KW := K3.trans hkW
  have hkl : TyL (fun k => k ≠ m) W l (.slice a n cp) := hk'.frame (Same.of_kept KW (fun k h e => h e))
  have HCON : Hid (tyHead k nm n wi = true → Calls Tryz.prog 109 #[.slice a n cp, .func (.func 110) #[] #[.pointer (some ⟨w.heap.size, 0, none⟩), .pointer (some ⟨w.heap.size + 2, 0, none⟩)]] W fun e w' => e = .returned (.bool (!(tfS most deep (.mk k nm l) d wi c).1)) ∧ Blk w' m 76 (mcells (tfS most deep (.mk k nm l) d wi c).2 most deep) ∧ Kept (· = m) w w') := Lib.hid (by
    intro hB
    rw [HQ.out, hv, ← HN.out, hB]
    exact (contTy_any HIH.out hbW HC1.out hmo HD1.out hdp (by omega) (by omega) p0 dd hkl).mono fun e w' ⟨q1, q2, q3⟩ => ⟨q1, q2, KW.trans q3⟩)
  have HNO : Hid (tyHead k nm n wi = false → tfS most deep (.mk k nm l) d wi c = (false, c + 1)) := Lib.hid (by intro hB; rw [HQ.out, hv, ← HN.out, hB]; rfl)
  clear hkl hv
  by_cases k1 : k = 1
  · subst k1
    by_cases hl : n = 0
    · subst hl
      cases he : (nm.toList == [])
      · have hq := HNO.out (by unfold tyHead; simp [*])
        have HQ2 := Lib.hid hq
        clear hq
        go_wp2_with fail
        go_ret
        exact ⟨by rw [HQ2.out]; rfl, by rw [HQ2.out]; exact hbW, KW⟩
      · have hq := HCON.out (by unfold tyHead; simp [*])
        have HQ2 := Lib.hid hq
        clear hq
        go_wp2_with fail
        refine HQ2.out.mono ?_
        rintro e w' ⟨rfl, h1, h2⟩
        go_wp2_with fail
        go_ret
        exact ⟨by simp, h1, h2⟩
    · have hl' : decide ((n : Int) = 0) = false := by simp; omega
      have hl2 : ((n : Int) == 0) = false := by simp; omega
      have hq := HNO.out (by unfold tyHead; simp [hl])
      have HQ2 := Lib.hid hq
      clear hq
      go_wp2_with fail
      go_ret
      exact ⟨by rw [HQ2.out]; rfl, by rw [HQ2.out]; exact hbW, KW⟩
  by_cases k2 : k = 2
  · subst k2
    cases wi
    case true =>
      have hq := HNO.out (by unfold tyHead; simp)
      have HQ2 := Lib.hid hq
      clear hq
      go_wp2_with fail
      go_ret
      exact ⟨by rw [HQ2.out]; rfl, by rw [HQ2.out]; exact hbW, KW⟩
    by_cases hl : n = 0
    · subst hl
      cases he : (nm.toList == [])
      · have hq := HNO.out (by unfold tyHead; simp [*])
        have HQ2 := Lib.hid hq
        clear hq
        go_wp2_with fail
        go_ret
        exact ⟨by rw [HQ2.out]; rfl, by rw [HQ2.out]; exact hbW, KW⟩
      · have hq := HCON.out (by unfold tyHead; simp [*])
        have HQ2 := Lib.hid hq
        clear hq
        go_wp2_with fail
        refine HQ2.out.mono ?_
        rintro e w' ⟨rfl, h1, h2⟩
        go_wp2_with fail
        go_ret
        exact ⟨by simp, h1, h2⟩
    · have hl' : decide ((n : Int) = 0) = false := by simp; omega
      have hl2 : ((n : Int) == 0) = false := by simp; omega
      have hq := HNO.out (by unfold tyHead; simp [hl])
      have HQ2 := Lib.hid hq
      clear hq
      go_wp2_with fail
      go_ret
      exact ⟨by rw [HQ2.out]; rfl, by rw [HQ2.out]; exact hbW, KW⟩
  by_cases k3 : k = 3
  · subst k3
    cases hi : identB nm
    case false =>
      have hq := HNO.out (by unfold tyHead; simp [hi])
      have HQ2 := Lib.hid hq
      clear hq
      go_wp2_with (go_at_call 18; refine (ident_t' hi hsz _).mono ?_; rintro e w' ⟨rfl, rfl⟩)
      go_ret
      exact ⟨by rw [HQ2.out]; rfl, by rw [HQ2.out]; exact hbW, KW⟩
    by_cases hl : n = 0
    · subst hl
      have hq := HCON.out (by unfold tyHead; simp [*])
      have HQ2 := Lib.hid hq
      clear hq
      go_wp2_with (go_at_call 18; refine (ident_t' hi hsz _).mono ?_; rintro e w' ⟨rfl, rfl⟩)
      refine HQ2.out.mono ?_
      rintro e w' ⟨rfl, h1, h2⟩
      go_wp2_with fail
      go_ret
      exact ⟨by simp, h1, h2⟩
    · have hl' : decide ((n : Int) = 0) = false := by simp; omega
      have hl2 : ((n : Int) == 0) = false := by simp; omega
      have hq := HNO.out (by unfold tyHead; simp [hl])
      have HQ2 := Lib.hid hq
      clear hq
      go_wp2_with (go_at_call 18; refine (ident_t' hi hsz _).mono ?_; rintro e w' ⟨rfl, rfl⟩)
      go_ret
      exact ⟨by rw [HQ2.out]; rfl, by rw [HQ2.out]; exact hbW, KW⟩
  by_cases k4 : k = 4
  · subst k4
    by_cases hl : n = 2
    · subst hl
      cases he : (nm.toList == [])
      · have hq := HNO.out (by unfold tyHead; simp [*])
        have HQ2 := Lib.hid hq
        clear hq
        go_wp2_with fail
        go_ret
        exact ⟨by rw [HQ2.out]; rfl, by rw [HQ2.out]; exact hbW, KW⟩
      · have hq := HCON.out (by unfold tyHead; simp [*])
        have HQ2 := Lib.hid hq
        clear hq
        go_wp2_with fail
        refine HQ2.out.mono ?_
        rintro e w' ⟨rfl, h1, h2⟩
        go_wp2_with fail
        go_ret
        exact ⟨by simp, h1, h2⟩
    · have hl' : decide ((n : Int) = 2) = false := by simp; omega
      have hl2 : ((n : Int) == 2) = false := by simp; omega
      have hq := HNO.out (by unfold tyHead; simp [hl])
      have HQ2 := Lib.hid hq
      clear hq
      go_wp2_with fail
      go_ret
      exact ⟨by rw [HQ2.out]; rfl, by rw [HQ2.out]; exact hbW, KW⟩
  by_cases k5 : k = 5
  · subst k5
    by_cases hl : n = 1
    · subst hl
      cases he : (nm.toList == [])
      · have hq := HNO.out (by unfold tyHead; simp [*])
        have HQ2 := Lib.hid hq
        clear hq
        go_wp2_with fail
        go_ret
        exact ⟨by rw [HQ2.out]; rfl, by rw [HQ2.out]; exact hbW, KW⟩
      · have hq := HCON.out (by unfold tyHead; simp [*])
        have HQ2 := Lib.hid hq
        clear hq
        go_wp2_with fail
        refine HQ2.out.mono ?_
        rintro e w' ⟨rfl, h1, h2⟩
        go_wp2_with fail
        go_ret
        exact ⟨by simp, h1, h2⟩
    · have hl' : decide ((n : Int) = 1) = false := by simp; omega
      have hl2 : ((n : Int) == 1) = false := by simp; omega
      have hq := HNO.out (by unfold tyHead; simp [hl])
      have HQ2 := Lib.hid hq
      clear hq
      go_wp2_with fail
      go_ret
      exact ⟨by rw [HQ2.out]; rfl, by rw [HQ2.out]; exact hbW, KW⟩
  have q1 : (k == 1) = false := beq_false_of_ne k1
  have q2 : (k == 2) = false := beq_false_of_ne k2
  have q3 : (k == 3) = false := beq_false_of_ne k3
  have q4 : (k == 4) = false := beq_false_of_ne k4
  have q5 : (k == 5) = false := beq_false_of_ne k5
  have hq := HNO.out (by unfold tyHead; simp [k1, k2, k3, k4, k5])
  have HQ2 := Lib.hid hq
  clear hq k1 k2 k3 k4 k5
  go_wp2_with fail
  go_ret
  exact ⟨by rw [HQ2.out]; rfl, by rw [HQ2.out]; exact hbW, KW⟩
def big : Nat := 9223372036854775807
theorem typeFits_any {m most deep : Nat} {t : Ty} (hmo : most ≤ 100000) (hdp : deep ≤ 1000) (h : SmTy big t) : TyC m most deep t := by
  induction h with
  | mk hn hl ih => exact typeFits_one hmo hdp hn ih
def validTyB (t : Ty) : Bool := (tfS 16 6 t 1 false 0).1
set_option maxHeartbeats 2000000 in
theorem validTy_any {ok : Nat → Prop} {w : World} {t : Ty} {a : Option Addr} {n c : Nat} (hk : TyL ok w t.kids (.slice a n c)) (hs : SmTy big t) :
    Calls Tryz.prog 29 #[.agg #[.int .i64 t.kind, .string t.name, .slice a n c]] w fun e w' => e = .returned (.bool (validTyB t)) ∧ Kept (fun _ => False) w w' := by
  have hC := Lib.hid (typeFits_any (m := w.heap.size + 1) (most := 16) (deep := 6) (t := t) (by decide) (by decide) hs)
  have hb : Blk ((w.alloc (.cells #[.int .i64 t.kind, .string t.name, .slice a n c] 24)).alloc (.cells #[.int .i64 0, .int .i64 16, .int .i64 6] 76)) (w.heap.size + 1) 76 (mcells 0 16 6) := Blk.new' 76 _ (by simp)
  have hk2 := ((hk.frame (Same.alloc w (.cells #[.int .i64 t.kind, .string t.name, .slice a n c] 24))).frame (Same.alloc _ (.cells #[.int .i64 0, .int .i64 16, .int .i64 6] 76)))
  have hk3 : TyL (fun k => k ≠ w.heap.size + 1) ((w.alloc (.cells #[.int .i64 t.kind, .string t.name, .slice a n c] 24)).alloc (.cells #[.int .i64 0, .int .i64 16, .int .i64 6] 76)) t.kids (.slice a n c) :=
    ((hk.mono (ok' := fun k => k ≠ w.heap.size + 1) (fun k h _ => by omega)).frame (Same.alloc w _)).frame (Same.alloc _ _)
  have K2 : Kept (fun _ => False) w ((w.alloc (.cells #[.int .i64 t.kind, .string t.name, .slice a n c] 24)).alloc (.cells #[.int .i64 0, .int .i64 16, .int .i64 6] 76)) := ((Kept.refl _ _).alloc _).alloc _
  go_enter Tryz.func29, Tryz.ntmps29
  go_wp2_with fail
  refine (hC.out _ 0 1 false _ hb (by decide) (by decide) hk3).mono ?_
  rintro e w' ⟨rfl, h1, h2⟩
  go_wp2_with fail
  go_ret
  exact ⟨rfl, K2.via h2 (fun x hx e => by have := e; omega)⟩
def nmOk (op : Int) (nm : ByteArray) : Bool := if op = 20 then namedB nm else if binderB op = true then identB nm else (nm.toList == [])
def nOk (op N : Int) : Bool := if op = 19 then decide (0 ≤ N) && decide (N ≤ 1000000000) else (N == 0)
def tyOk (op : Int) (ty : Ty) : Bool := if op = 29 then !(ty.kind == 2) && validTyB ty else zeroTyB ty
def kidOk (op : Int) (n : Nat) : Bool := (kidsN op).2 && (if (kidsN op).1 = -1 then !decide (n = 0) else decide ((n : Int) = (kidsN op).1))
def formedB (op : Int) (nm : ByteArray) (N : Int) (ty : Ty) (n : Nat) : Bool := kidOk op n && (nmOk op nm && nOk op N && tyOk op ty)
theorem named_t {t : ByteArray} {v : Bool} (h : namedB t = v) (ht : t.size ≤ 9223372036854775807) (w : World) : Calls Tryz.prog 79 #[.string t] w fun e w' => e = .returned (.bool v) ∧ w = w' := (named_any t w ht).mono fun _ _ q => ⟨by rw [← h]; exact q.1, q.2⟩
theorem binder_t {op : Int} {v : Bool} (h : binderB op = v) (w : World) : Calls Tryz.prog 142 #[.int .i64 op] w fun e w' => e = .returned (.bool v) ∧ w = w' := (binder_any op w).mono fun _ _ q => ⟨by rw [← h]; exact q.1, q.2⟩
theorem kids_t {op a : Int} {v : Bool} (h : kidsN op = (a, v)) (w : World) : Calls Tryz.prog 141 #[.int .i64 op] w fun e w' => e = .returned (.tuple #[.int .i64 a, .bool v]) ∧ w = w' := (kids_any op w).mono fun _ _ q => ⟨by rw [q.1, h], q.2⟩
theorem zeroTy_t {ok : Nat → Prop} {w W : World} {t : Ty} {a : Option Addr} {n c : Nat} (hk : TyL ok W t.kids (.slice a n c)) {v : Bool} (hv : zeroTyB t = v) :
    Calls Tryz.prog 143 #[.agg #[.int .i64 t.kind, .string t.name, .slice a n c]] w fun e w' => e = .returned (.bool v) ∧ Kept (fun _ => False) w w' := by
  refine (zeroTy_any t.kind t.name a n c (v := v) ?_).mono fun e w' ⟨h1, h2⟩ => ⟨h1, by rw [h2]; exact (Kept.refl _ _).alloc _⟩
  rw [← hv, hk.len]
  unfold zeroTyB
  cases t.kids <;> simp
theorem validTy_t {ok : Nat → Prop} {w : World} {t : Ty} {a : Option Addr} {n c : Nat} (hk : TyL ok w t.kids (.slice a n c)) (hs : SmTy big t) {v : Bool} (hv : validTyB t = v) :
    Calls Tryz.prog 29 #[.agg #[.int .i64 t.kind, .string t.name, .slice a n c]] w fun e w' => e = .returned (.bool v) ∧ Kept (fun _ => False) w w' := by rw [← hv]; exact validTy_any hk hs
set_option maxRecDepth 100000 in
set_option maxHeartbeats 8000000 in
theorem formed_name {ok : Nat → Prop} {w : World} {nm : ByteArray} {N : Int} {ty : Ty} {a : Option Addr} {n c : Nat} {ma : Option Addr} {mn mc : Nat} (hk : TyL ok w ty.kids (.slice a n c)) (hs : SmTy big ty) (hsz : nm.size ≤ 9223372036854775807)  : Calls Tryz.prog 106 #[.agg #[.int .i64 20, .string nm, .int .i64 N, .int .i64 ty.kind, .string ty.name, .slice a n c, .slice ma mn mc]] w fun e w' => e = .returned (.bool (formedB 20 nm N ty mn)) ∧ Kept (fun _ => False) w w' := by
  have HKI : Hid (kidsN 20 = (0, true)) := Lib.hid rfl
  have HBI : Hid (binderB 20 = false) := Lib.hid rfl
  have KW : Kept (fun _ => False) w (w.alloc (.cells #[.int .i64 20, .string nm, .int .i64 N, .int .i64 ty.kind, .string ty.name, .slice a n c, .slice ma mn mc] 27)) := (Kept.refl _ _).alloc _
  have hkW := hk.frame (Same.alloc w (.cells #[.int .i64 20, .string nm, .int .i64 N, .int .i64 ty.kind, .string ty.name, .slice a n c, .slice ma mn mc] 27))
  have HKW := Lib.hid hkW
  clear hkW
  by_cases hl : (mn : Int) = 0
  case neg =>
    have hl1 : decide ((mn : Int) = 0) = false := by simp; omega
    have hl2 : ((mn : Int) == 0) = false := by simp; omega
    have hl4 : ¬ mn = 0 := by omega
    have HQ : Hid (formedB 20 nm N ty mn = false) := Lib.hid (by unfold formedB kidOk nmOk nOk tyOk; rw [HKI.out]; simp [*])
    go_enter Tryz.func106, Tryz.ntmps106
    go_wp2_with (first | (go_at_call 141; refine (kids_t HKI.out _).mono ?_; rintro e w' ⟨rfl, rfl⟩) | (go_at_call 79; refine (named_t hnm hsz _).mono ?_; rintro e w' ⟨rfl, rfl⟩) | (go_at_call 142; refine (binder_t HBI.out _).mono ?_; rintro e w' ⟨rfl, rfl⟩) | (go_at_call 18; refine (ident_t' hnm hsz _).mono ?_; rintro e w' ⟨rfl, rfl⟩))
    go_ret
    exact ⟨by rw [HQ.out]; rfl, KW⟩
  have hl3 : mn = 0 := by omega
  subst hl3
  cases hnm : namedB nm
  case false =>
    have HQ : Hid (formedB 20 nm N ty 0 = false) := Lib.hid (by unfold formedB kidOk nmOk nOk tyOk; rw [HKI.out]; simp [*, big])
    go_enter Tryz.func106, Tryz.ntmps106
    go_wp2_with (first | (go_at_call 141; refine (kids_t HKI.out _).mono ?_; rintro e w' ⟨rfl, rfl⟩) | (go_at_call 79; refine (named_t hnm hsz _).mono ?_; rintro e w' ⟨rfl, rfl⟩) | (go_at_call 142; refine (binder_t HBI.out _).mono ?_; rintro e w' ⟨rfl, rfl⟩) | (go_at_call 18; refine (ident_t' hnm hsz _).mono ?_; rintro e w' ⟨rfl, rfl⟩))
    go_ret
    exact ⟨by rw [HQ.out]; rfl, KW⟩
  cases hN : (N == 0)
  case false =>
    have HQ : Hid (formedB 20 nm N ty 0 = false) := Lib.hid (by unfold formedB kidOk nmOk nOk tyOk; rw [HKI.out]; simp [*])
    go_enter Tryz.func106, Tryz.ntmps106
    go_wp2_with (first | (go_at_call 141; refine (kids_t HKI.out _).mono ?_; rintro e w' ⟨rfl, rfl⟩) | (go_at_call 79; refine (named_t hnm hsz _).mono ?_; rintro e w' ⟨rfl, rfl⟩) | (go_at_call 142; refine (binder_t HBI.out _).mono ?_; rintro e w' ⟨rfl, rfl⟩) | (go_at_call 18; refine (ident_t' hnm hsz _).mono ?_; rintro e w' ⟨rfl, rfl⟩))
    go_ret
    exact ⟨by rw [HQ.out]; rfl, KW⟩
  cases hz : zeroTyB ty
  case false =>
    have HQ : Hid (formedB 20 nm N ty 0 = false) := Lib.hid (by unfold formedB kidOk nmOk nOk tyOk; rw [HKI.out]; simp [*])
    have HZ := Lib.hid (fun W => zeroTy_t (w := W) HKW.out hz)
    clear hz
    go_enter Tryz.func106, Tryz.ntmps106
    go_wp2_with (first | (go_at_call 141; refine (kids_t HKI.out _).mono ?_; rintro e w' ⟨rfl, rfl⟩) | (go_at_call 79; refine (named_t hnm hsz _).mono ?_; rintro e w' ⟨rfl, rfl⟩) | (go_at_call 142; refine (binder_t HBI.out _).mono ?_; rintro e w' ⟨rfl, rfl⟩) | (go_at_call 18; refine (ident_t' hnm hsz _).mono ?_; rintro e w' ⟨rfl, rfl⟩))
    refine (HZ.out _).mono ?_
    rintro e w' ⟨rfl, h2⟩
    go_wp2_with fail
    go_ret
    exact ⟨by rw [HQ.out]; rfl, KW.trans h2⟩
  case true =>
    have HQ : Hid (formedB 20 nm N ty 0 = true) := Lib.hid (by unfold formedB kidOk nmOk nOk tyOk; rw [HKI.out]; simp [*])
    have HZ := Lib.hid (fun W => zeroTy_t (w := W) HKW.out hz)
    clear hz
    go_enter Tryz.func106, Tryz.ntmps106
    go_wp2_with (first | (go_at_call 141; refine (kids_t HKI.out _).mono ?_; rintro e w' ⟨rfl, rfl⟩) | (go_at_call 79; refine (named_t hnm hsz _).mono ?_; rintro e w' ⟨rfl, rfl⟩) | (go_at_call 142; refine (binder_t HBI.out _).mono ?_; rintro e w' ⟨rfl, rfl⟩) | (go_at_call 18; refine (ident_t' hnm hsz _).mono ?_; rintro e w' ⟨rfl, rfl⟩))
    refine (HZ.out _).mono ?_
    rintro e w' ⟨rfl, h2⟩
    go_wp2_with fail
    go_ret
    exact ⟨by rw [HQ.out]; rfl, KW.trans h2⟩
set_option maxRecDepth 100000 in
set_option maxHeartbeats 8000000 in
theorem formed_int {ok : Nat → Prop} {w : World} {nm : ByteArray} {N : Int} {ty : Ty} {a : Option Addr} {n c : Nat} {ma : Option Addr} {mn mc : Nat} (hk : TyL ok w ty.kids (.slice a n c)) (hs : SmTy big ty) (hsz : nm.size ≤ 9223372036854775807)  : Calls Tryz.prog 106 #[.agg #[.int .i64 19, .string nm, .int .i64 N, .int .i64 ty.kind, .string ty.name, .slice a n c, .slice ma mn mc]] w fun e w' => e = .returned (.bool (formedB 19 nm N ty mn)) ∧ Kept (fun _ => False) w w' := by
  have HKI : Hid (kidsN 19 = (0, true)) := Lib.hid rfl
  have HBI : Hid (binderB 19 = false) := Lib.hid rfl
  have hb0 : binderB 19 = false := rfl
  have KW : Kept (fun _ => False) w (w.alloc (.cells #[.int .i64 19, .string nm, .int .i64 N, .int .i64 ty.kind, .string ty.name, .slice a n c, .slice ma mn mc] 27)) := (Kept.refl _ _).alloc _
  have hkW := hk.frame (Same.alloc w (.cells #[.int .i64 19, .string nm, .int .i64 N, .int .i64 ty.kind, .string ty.name, .slice a n c, .slice ma mn mc] 27))
  have HKW := Lib.hid hkW
  clear hkW
  by_cases hl : (mn : Int) = 0
  case neg =>
    have hl1 : decide ((mn : Int) = 0) = false := by simp; omega
    have hl2 : ((mn : Int) == 0) = false := by simp; omega
    have hl4 : ¬ mn = 0 := by omega
    have HQ : Hid (formedB 19 nm N ty mn = false) := Lib.hid (by unfold formedB kidOk nmOk nOk tyOk; rw [HKI.out]; simp [*])
    go_enter Tryz.func106, Tryz.ntmps106
    go_wp2_with (first | (go_at_call 141; refine (kids_t HKI.out _).mono ?_; rintro e w' ⟨rfl, rfl⟩) | (go_at_call 79; refine (named_t hnm hsz _).mono ?_; rintro e w' ⟨rfl, rfl⟩) | (go_at_call 142; refine (binder_t HBI.out _).mono ?_; rintro e w' ⟨rfl, rfl⟩) | (go_at_call 18; refine (ident_t' hnm hsz _).mono ?_; rintro e w' ⟨rfl, rfl⟩))
    go_ret
    exact ⟨by rw [HQ.out]; rfl, KW⟩
  have hl3 : mn = 0 := by omega
  subst hl3
  cases hnm : (nm.toList == [])
  case false =>
    have HQ : Hid (formedB 19 nm N ty 0 = false) := Lib.hid (by unfold formedB kidOk nmOk nOk tyOk; rw [HKI.out]; simp [*, big])
    go_enter Tryz.func106, Tryz.ntmps106
    go_wp2_with (first | (go_at_call 141; refine (kids_t HKI.out _).mono ?_; rintro e w' ⟨rfl, rfl⟩) | (go_at_call 79; refine (named_t hnm hsz _).mono ?_; rintro e w' ⟨rfl, rfl⟩) | (go_at_call 142; refine (binder_t HBI.out _).mono ?_; rintro e w' ⟨rfl, rfl⟩) | (go_at_call 18; refine (ident_t' hnm hsz _).mono ?_; rintro e w' ⟨rfl, rfl⟩))
    go_ret
    exact ⟨by rw [HQ.out]; rfl, KW⟩
  by_cases hN : 0 ≤ N
  case neg =>
    have hN1 : decide (0 ≤ N) = false := by simp; omega
    have HQ : Hid (formedB 19 nm N ty 0 = false) := Lib.hid (by unfold formedB kidOk nmOk nOk tyOk; rw [HKI.out]; simp [*])
    go_enter Tryz.func106, Tryz.ntmps106
    go_wp2_with (first | (go_at_call 141; refine (kids_t HKI.out _).mono ?_; rintro e w' ⟨rfl, rfl⟩) | (go_at_call 79; refine (named_t hnm hsz _).mono ?_; rintro e w' ⟨rfl, rfl⟩) | (go_at_call 142; refine (binder_t HBI.out _).mono ?_; rintro e w' ⟨rfl, rfl⟩) | (go_at_call 18; refine (ident_t' hnm hsz _).mono ?_; rintro e w' ⟨rfl, rfl⟩))
    go_ret
    exact ⟨by rw [HQ.out]; rfl, KW⟩
  by_cases hM : N ≤ 1000000000
  case neg =>
    have hM1 : decide (N ≤ 1000000000) = false := by simp; omega
    have HQ : Hid (formedB 19 nm N ty 0 = false) := Lib.hid (by unfold formedB kidOk nmOk nOk tyOk; rw [HKI.out]; simp [*])
    go_enter Tryz.func106, Tryz.ntmps106
    go_wp2_with (first | (go_at_call 141; refine (kids_t HKI.out _).mono ?_; rintro e w' ⟨rfl, rfl⟩) | (go_at_call 79; refine (named_t hnm hsz _).mono ?_; rintro e w' ⟨rfl, rfl⟩) | (go_at_call 142; refine (binder_t HBI.out _).mono ?_; rintro e w' ⟨rfl, rfl⟩) | (go_at_call 18; refine (ident_t' hnm hsz _).mono ?_; rintro e w' ⟨rfl, rfl⟩))
    go_ret
    exact ⟨by rw [HQ.out]; rfl, KW⟩
  cases hz : zeroTyB ty
  case false =>
    have HQ : Hid (formedB 19 nm N ty 0 = false) := Lib.hid (by unfold formedB kidOk nmOk nOk tyOk; rw [HKI.out]; simp [*])
    have HZ := Lib.hid (fun W => zeroTy_t (w := W) HKW.out hz)
    clear hz
    go_enter Tryz.func106, Tryz.ntmps106
    go_wp2_with (first | (go_at_call 141; refine (kids_t HKI.out _).mono ?_; rintro e w' ⟨rfl, rfl⟩) | (go_at_call 79; refine (named_t hnm hsz _).mono ?_; rintro e w' ⟨rfl, rfl⟩) | (go_at_call 142; refine (binder_t HBI.out _).mono ?_; rintro e w' ⟨rfl, rfl⟩) | (go_at_call 18; refine (ident_t' hnm hsz _).mono ?_; rintro e w' ⟨rfl, rfl⟩))
    refine (HZ.out _).mono ?_
    rintro e w' ⟨rfl, h2⟩
    go_wp2_with fail
    go_ret
    exact ⟨by rw [HQ.out]; rfl, KW.trans h2⟩
  case true =>
    have HQ : Hid (formedB 19 nm N ty 0 = true) := Lib.hid (by unfold formedB kidOk nmOk nOk tyOk; rw [HKI.out]; simp [*])
    have HZ := Lib.hid (fun W => zeroTy_t (w := W) HKW.out hz)
    clear hz
    go_enter Tryz.func106, Tryz.ntmps106
    go_wp2_with (first | (go_at_call 141; refine (kids_t HKI.out _).mono ?_; rintro e w' ⟨rfl, rfl⟩) | (go_at_call 79; refine (named_t hnm hsz _).mono ?_; rintro e w' ⟨rfl, rfl⟩) | (go_at_call 142; refine (binder_t HBI.out _).mono ?_; rintro e w' ⟨rfl, rfl⟩) | (go_at_call 18; refine (ident_t' hnm hsz _).mono ?_; rintro e w' ⟨rfl, rfl⟩))
    refine (HZ.out _).mono ?_
    rintro e w' ⟨rfl, h2⟩
    go_wp2_with fail
    go_ret
    exact ⟨by rw [HQ.out]; rfl, KW.trans h2⟩
set_option maxRecDepth 100000 in
set_option maxHeartbeats 8000000 in
theorem formed_empty {ok : Nat → Prop} {w : World} {nm : ByteArray} {N : Int} {ty : Ty} {a : Option Addr} {n c : Nat} {ma : Option Addr} {mn mc : Nat} (hk : TyL ok w ty.kids (.slice a n c)) (hs : SmTy big ty) (hsz : nm.size ≤ 9223372036854775807)  : Calls Tryz.prog 106 #[.agg #[.int .i64 29, .string nm, .int .i64 N, .int .i64 ty.kind, .string ty.name, .slice a n c, .slice ma mn mc]] w fun e w' => e = .returned (.bool (formedB 29 nm N ty mn)) ∧ Kept (fun _ => False) w w' := by
  have HKI : Hid (kidsN 29 = (0, true)) := Lib.hid rfl
  have HBI : Hid (binderB 29 = false) := Lib.hid rfl
  have hb0 : binderB 29 = false := rfl
  have KW : Kept (fun _ => False) w (w.alloc (.cells #[.int .i64 29, .string nm, .int .i64 N, .int .i64 ty.kind, .string ty.name, .slice a n c, .slice ma mn mc] 27)) := (Kept.refl _ _).alloc _
  have hkW := hk.frame (Same.alloc w (.cells #[.int .i64 29, .string nm, .int .i64 N, .int .i64 ty.kind, .string ty.name, .slice a n c, .slice ma mn mc] 27))
  have HKW := Lib.hid hkW
  clear hkW
  by_cases hl : (mn : Int) = 0
  case neg =>
    have hl1 : decide ((mn : Int) = 0) = false := by simp; omega
    have hl2 : ((mn : Int) == 0) = false := by simp; omega
    have hl4 : ¬ mn = 0 := by omega
    have HQ : Hid (formedB 29 nm N ty mn = false) := Lib.hid (by unfold formedB kidOk nmOk nOk tyOk; rw [HKI.out]; simp [*])
    go_enter Tryz.func106, Tryz.ntmps106
    go_wp2_with (first | (go_at_call 141; refine (kids_t HKI.out _).mono ?_; rintro e w' ⟨rfl, rfl⟩) | (go_at_call 79; refine (named_t hnm hsz _).mono ?_; rintro e w' ⟨rfl, rfl⟩) | (go_at_call 142; refine (binder_t HBI.out _).mono ?_; rintro e w' ⟨rfl, rfl⟩) | (go_at_call 18; refine (ident_t' hnm hsz _).mono ?_; rintro e w' ⟨rfl, rfl⟩))
    go_ret
    exact ⟨by rw [HQ.out]; rfl, KW⟩
  have hl3 : mn = 0 := by omega
  subst hl3
  cases hnm : (nm.toList == [])
  case false =>
    have HQ : Hid (formedB 29 nm N ty 0 = false) := Lib.hid (by unfold formedB kidOk nmOk nOk tyOk; rw [HKI.out]; simp [*, big])
    go_enter Tryz.func106, Tryz.ntmps106
    go_wp2_with (first | (go_at_call 141; refine (kids_t HKI.out _).mono ?_; rintro e w' ⟨rfl, rfl⟩) | (go_at_call 79; refine (named_t hnm hsz _).mono ?_; rintro e w' ⟨rfl, rfl⟩) | (go_at_call 142; refine (binder_t HBI.out _).mono ?_; rintro e w' ⟨rfl, rfl⟩) | (go_at_call 18; refine (ident_t' hnm hsz _).mono ?_; rintro e w' ⟨rfl, rfl⟩))
    go_ret
    exact ⟨by rw [HQ.out]; rfl, KW⟩
  cases hN : (N == 0)
  case false =>
    have HQ : Hid (formedB 29 nm N ty 0 = false) := Lib.hid (by unfold formedB kidOk nmOk nOk tyOk; rw [HKI.out]; simp [*])
    go_enter Tryz.func106, Tryz.ntmps106
    go_wp2_with (first | (go_at_call 141; refine (kids_t HKI.out _).mono ?_; rintro e w' ⟨rfl, rfl⟩) | (go_at_call 79; refine (named_t hnm hsz _).mono ?_; rintro e w' ⟨rfl, rfl⟩) | (go_at_call 142; refine (binder_t HBI.out _).mono ?_; rintro e w' ⟨rfl, rfl⟩) | (go_at_call 18; refine (ident_t' hnm hsz _).mono ?_; rintro e w' ⟨rfl, rfl⟩))
    go_ret
    exact ⟨by rw [HQ.out]; rfl, KW⟩
  cases hz : (ty.kind == 2)
  case true =>
    have hz2 : (ty.kind != 2) = false := by rw [bne, hz]; rfl
    have HQ : Hid (formedB 29 nm N ty 0 = false) := Lib.hid (by unfold formedB kidOk nmOk nOk tyOk; rw [HKI.out]; simp [*])
    go_enter Tryz.func106, Tryz.ntmps106
    go_wp2_with (first | (go_at_call 141; refine (kids_t HKI.out _).mono ?_; rintro e w' ⟨rfl, rfl⟩) | (go_at_call 79; refine (named_t hnm hsz _).mono ?_; rintro e w' ⟨rfl, rfl⟩) | (go_at_call 142; refine (binder_t HBI.out _).mono ?_; rintro e w' ⟨rfl, rfl⟩) | (go_at_call 18; refine (ident_t' hnm hsz _).mono ?_; rintro e w' ⟨rfl, rfl⟩))
    go_ret
    exact ⟨by rw [HQ.out]; rfl, KW⟩
  have hz2 : (ty.kind != 2) = true := by rw [bne, hz]; rfl
  cases hvt : validTyB ty
  case false =>
    have HQ : Hid (formedB 29 nm N ty 0 = false) := Lib.hid (by unfold formedB kidOk nmOk nOk tyOk; rw [HKI.out]; simp [*])
    have HZ := Lib.hid (validTy_t HKW.out hs hvt)
    clear hvt
    go_enter Tryz.func106, Tryz.ntmps106
    go_wp2_with (first | (go_at_call 141; refine (kids_t HKI.out _).mono ?_; rintro e w' ⟨rfl, rfl⟩) | (go_at_call 79; refine (named_t hnm hsz _).mono ?_; rintro e w' ⟨rfl, rfl⟩) | (go_at_call 142; refine (binder_t HBI.out _).mono ?_; rintro e w' ⟨rfl, rfl⟩) | (go_at_call 18; refine (ident_t' hnm hsz _).mono ?_; rintro e w' ⟨rfl, rfl⟩))
    refine HZ.out.mono ?_
    rintro e w' ⟨rfl, h2⟩
    go_wp2_with fail
    go_ret
    exact ⟨by rw [HQ.out]; rfl, KW.trans h2⟩
  case true =>
    have HQ : Hid (formedB 29 nm N ty 0 = true) := Lib.hid (by unfold formedB kidOk nmOk nOk tyOk; rw [HKI.out]; simp [*])
    have HZ := Lib.hid (validTy_t HKW.out hs hvt)
    clear hvt
    go_enter Tryz.func106, Tryz.ntmps106
    go_wp2_with (first | (go_at_call 141; refine (kids_t HKI.out _).mono ?_; rintro e w' ⟨rfl, rfl⟩) | (go_at_call 79; refine (named_t hnm hsz _).mono ?_; rintro e w' ⟨rfl, rfl⟩) | (go_at_call 142; refine (binder_t HBI.out _).mono ?_; rintro e w' ⟨rfl, rfl⟩) | (go_at_call 18; refine (ident_t' hnm hsz _).mono ?_; rintro e w' ⟨rfl, rfl⟩))
    refine HZ.out.mono ?_
    rintro e w' ⟨rfl, h2⟩
    go_wp2_with fail
    go_ret
    exact ⟨by rw [HQ.out]; rfl, KW.trans h2⟩
set_option maxRecDepth 100000 in
set_option maxHeartbeats 8000000 in
theorem formed_bind {ok : Nat → Prop} {w : World} {nm : ByteArray} {N : Int} {ty : Ty} {a : Option Addr} {n c : Nat} {ma : Option Addr} {mn mc : Nat} (hk : TyL ok w ty.kids (.slice a n c)) (hs : SmTy big ty) (hsz : nm.size ≤ 9223372036854775807) {op : Int} (n20 : op ≠ 20) (n19 : op ≠ 19) (n29 : op ≠ 29) (hbi : binderB op = true) (hki : kidsN op = (2, true)) : Calls Tryz.prog 106 #[.agg #[.int .i64 op, .string nm, .int .i64 N, .int .i64 ty.kind, .string ty.name, .slice a n c, .slice ma mn mc]] w fun e w' => e = .returned (.bool (formedB op nm N ty mn)) ∧ Kept (fun _ => False) w w' := by
  have q20 : (op == 20) = false := beq_false_of_ne n20
  have q19 : (op == 19) = false := beq_false_of_ne n19
  have q29 : (op == 29) = false := beq_false_of_ne n29
  have HKI := Lib.hid hki
  have HBI := Lib.hid hbi
  have KW : Kept (fun _ => False) w (w.alloc (.cells #[.int .i64 op, .string nm, .int .i64 N, .int .i64 ty.kind, .string ty.name, .slice a n c, .slice ma mn mc] 27)) := (Kept.refl _ _).alloc _
  have hkW := hk.frame (Same.alloc w (.cells #[.int .i64 op, .string nm, .int .i64 N, .int .i64 ty.kind, .string ty.name, .slice a n c, .slice ma mn mc] 27))
  have HKW := Lib.hid hkW
  clear hkW
  by_cases hl : (mn : Int) = 2
  case neg =>
    have hl1 : decide ((mn : Int) = 2) = false := by simp; omega
    have hl2 : ((mn : Int) == 2) = false := by simp; omega
    have hl4 : ¬ mn = 2 := by omega
    have HQ : Hid (formedB op nm N ty mn = false) := Lib.hid (by unfold formedB kidOk nmOk nOk tyOk; rw [HKI.out]; simp [*])
    go_enter Tryz.func106, Tryz.ntmps106
    go_wp2_with (first | (go_at_call 141; refine (kids_t HKI.out _).mono ?_; rintro e w' ⟨rfl, rfl⟩) | (go_at_call 79; refine (named_t hnm hsz _).mono ?_; rintro e w' ⟨rfl, rfl⟩) | (go_at_call 142; refine (binder_t HBI.out _).mono ?_; rintro e w' ⟨rfl, rfl⟩) | (go_at_call 18; refine (ident_t' hnm hsz _).mono ?_; rintro e w' ⟨rfl, rfl⟩))
    go_ret
    exact ⟨by rw [HQ.out]; rfl, KW⟩
  have hl3 : mn = 2 := by omega
  subst hl3
  cases hnm : identB nm
  case false =>
    have HQ : Hid (formedB op nm N ty 2 = false) := Lib.hid (by unfold formedB kidOk nmOk nOk tyOk; rw [HKI.out]; simp [*, big])
    go_enter Tryz.func106, Tryz.ntmps106
    go_wp2_with (first | (go_at_call 141; refine (kids_t HKI.out _).mono ?_; rintro e w' ⟨rfl, rfl⟩) | (go_at_call 79; refine (named_t hnm hsz _).mono ?_; rintro e w' ⟨rfl, rfl⟩) | (go_at_call 142; refine (binder_t HBI.out _).mono ?_; rintro e w' ⟨rfl, rfl⟩) | (go_at_call 18; refine (ident_t' hnm hsz _).mono ?_; rintro e w' ⟨rfl, rfl⟩))
    go_ret
    exact ⟨by rw [HQ.out]; rfl, KW⟩
  cases hN : (N == 0)
  case false =>
    have HQ : Hid (formedB op nm N ty 2 = false) := Lib.hid (by unfold formedB kidOk nmOk nOk tyOk; rw [HKI.out]; simp [*])
    go_enter Tryz.func106, Tryz.ntmps106
    go_wp2_with (first | (go_at_call 141; refine (kids_t HKI.out _).mono ?_; rintro e w' ⟨rfl, rfl⟩) | (go_at_call 79; refine (named_t hnm hsz _).mono ?_; rintro e w' ⟨rfl, rfl⟩) | (go_at_call 142; refine (binder_t HBI.out _).mono ?_; rintro e w' ⟨rfl, rfl⟩) | (go_at_call 18; refine (ident_t' hnm hsz _).mono ?_; rintro e w' ⟨rfl, rfl⟩))
    go_ret
    exact ⟨by rw [HQ.out]; rfl, KW⟩
  cases hz : zeroTyB ty
  case false =>
    have HQ : Hid (formedB op nm N ty 2 = false) := Lib.hid (by unfold formedB kidOk nmOk nOk tyOk; rw [HKI.out]; simp [*])
    have HZ := Lib.hid (fun W => zeroTy_t (w := W) HKW.out hz)
    clear hz
    go_enter Tryz.func106, Tryz.ntmps106
    go_wp2_with (first | (go_at_call 141; refine (kids_t HKI.out _).mono ?_; rintro e w' ⟨rfl, rfl⟩) | (go_at_call 79; refine (named_t hnm hsz _).mono ?_; rintro e w' ⟨rfl, rfl⟩) | (go_at_call 142; refine (binder_t HBI.out _).mono ?_; rintro e w' ⟨rfl, rfl⟩) | (go_at_call 18; refine (ident_t' hnm hsz _).mono ?_; rintro e w' ⟨rfl, rfl⟩))
    refine (HZ.out _).mono ?_
    rintro e w' ⟨rfl, h2⟩
    go_wp2_with fail
    go_ret
    exact ⟨by rw [HQ.out]; rfl, KW.trans h2⟩
  case true =>
    have HQ : Hid (formedB op nm N ty 2 = true) := Lib.hid (by unfold formedB kidOk nmOk nOk tyOk; rw [HKI.out]; simp [*])
    have HZ := Lib.hid (fun W => zeroTy_t (w := W) HKW.out hz)
    clear hz
    go_enter Tryz.func106, Tryz.ntmps106
    go_wp2_with (first | (go_at_call 141; refine (kids_t HKI.out _).mono ?_; rintro e w' ⟨rfl, rfl⟩) | (go_at_call 79; refine (named_t hnm hsz _).mono ?_; rintro e w' ⟨rfl, rfl⟩) | (go_at_call 142; refine (binder_t HBI.out _).mono ?_; rintro e w' ⟨rfl, rfl⟩) | (go_at_call 18; refine (ident_t' hnm hsz _).mono ?_; rintro e w' ⟨rfl, rfl⟩))
    refine (HZ.out _).mono ?_
    rintro e w' ⟨rfl, h2⟩
    go_wp2_with fail
    go_ret
    exact ⟨by rw [HQ.out]; rfl, KW.trans h2⟩
set_option maxRecDepth 100000 in
set_option maxHeartbeats 8000000 in
theorem formed_one {ok : Nat → Prop} {w : World} {nm : ByteArray} {N : Int} {ty : Ty} {a : Option Addr} {n c : Nat} {ma : Option Addr} {mn mc : Nat} (hk : TyL ok w ty.kids (.slice a n c)) (hs : SmTy big ty) (hsz : nm.size ≤ 9223372036854775807) {op : Int} (n20 : op ≠ 20) (n19 : op ≠ 19) (n29 : op ≠ 29) (hbi : binderB op = false) (hki : kidsN op = (1, true)) : Calls Tryz.prog 106 #[.agg #[.int .i64 op, .string nm, .int .i64 N, .int .i64 ty.kind, .string ty.name, .slice a n c, .slice ma mn mc]] w fun e w' => e = .returned (.bool (formedB op nm N ty mn)) ∧ Kept (fun _ => False) w w' := by
  have q20 : (op == 20) = false := beq_false_of_ne n20
  have q19 : (op == 19) = false := beq_false_of_ne n19
  have q29 : (op == 29) = false := beq_false_of_ne n29
  have HKI := Lib.hid hki
  have HBI := Lib.hid hbi
  have KW : Kept (fun _ => False) w (w.alloc (.cells #[.int .i64 op, .string nm, .int .i64 N, .int .i64 ty.kind, .string ty.name, .slice a n c, .slice ma mn mc] 27)) := (Kept.refl _ _).alloc _
  have hkW := hk.frame (Same.alloc w (.cells #[.int .i64 op, .string nm, .int .i64 N, .int .i64 ty.kind, .string ty.name, .slice a n c, .slice ma mn mc] 27))
  have HKW := Lib.hid hkW
  clear hkW
  by_cases hl : (mn : Int) = 1
  case neg =>
    have hl1 : decide ((mn : Int) = 1) = false := by simp; omega
    have hl2 : ((mn : Int) == 1) = false := by simp; omega
    have hl4 : ¬ mn = 1 := by omega
    have HQ : Hid (formedB op nm N ty mn = false) := Lib.hid (by unfold formedB kidOk nmOk nOk tyOk; rw [HKI.out]; simp [*])
    go_enter Tryz.func106, Tryz.ntmps106
    go_wp2_with (first | (go_at_call 141; refine (kids_t HKI.out _).mono ?_; rintro e w' ⟨rfl, rfl⟩) | (go_at_call 79; refine (named_t hnm hsz _).mono ?_; rintro e w' ⟨rfl, rfl⟩) | (go_at_call 142; refine (binder_t HBI.out _).mono ?_; rintro e w' ⟨rfl, rfl⟩) | (go_at_call 18; refine (ident_t' hnm hsz _).mono ?_; rintro e w' ⟨rfl, rfl⟩))
    go_ret
    exact ⟨by rw [HQ.out]; rfl, KW⟩
  have hl3 : mn = 1 := by omega
  subst hl3
  cases hnm : (nm.toList == [])
  case false =>
    have HQ : Hid (formedB op nm N ty 1 = false) := Lib.hid (by unfold formedB kidOk nmOk nOk tyOk; rw [HKI.out]; simp [*, big])
    go_enter Tryz.func106, Tryz.ntmps106
    go_wp2_with (first | (go_at_call 141; refine (kids_t HKI.out _).mono ?_; rintro e w' ⟨rfl, rfl⟩) | (go_at_call 79; refine (named_t hnm hsz _).mono ?_; rintro e w' ⟨rfl, rfl⟩) | (go_at_call 142; refine (binder_t HBI.out _).mono ?_; rintro e w' ⟨rfl, rfl⟩) | (go_at_call 18; refine (ident_t' hnm hsz _).mono ?_; rintro e w' ⟨rfl, rfl⟩))
    go_ret
    exact ⟨by rw [HQ.out]; rfl, KW⟩
  cases hN : (N == 0)
  case false =>
    have HQ : Hid (formedB op nm N ty 1 = false) := Lib.hid (by unfold formedB kidOk nmOk nOk tyOk; rw [HKI.out]; simp [*])
    go_enter Tryz.func106, Tryz.ntmps106
    go_wp2_with (first | (go_at_call 141; refine (kids_t HKI.out _).mono ?_; rintro e w' ⟨rfl, rfl⟩) | (go_at_call 79; refine (named_t hnm hsz _).mono ?_; rintro e w' ⟨rfl, rfl⟩) | (go_at_call 142; refine (binder_t HBI.out _).mono ?_; rintro e w' ⟨rfl, rfl⟩) | (go_at_call 18; refine (ident_t' hnm hsz _).mono ?_; rintro e w' ⟨rfl, rfl⟩))
    go_ret
    exact ⟨by rw [HQ.out]; rfl, KW⟩
  cases hz : zeroTyB ty
  case false =>
    have HQ : Hid (formedB op nm N ty 1 = false) := Lib.hid (by unfold formedB kidOk nmOk nOk tyOk; rw [HKI.out]; simp [*])
    have HZ := Lib.hid (fun W => zeroTy_t (w := W) HKW.out hz)
    clear hz
    go_enter Tryz.func106, Tryz.ntmps106
    go_wp2_with (first | (go_at_call 141; refine (kids_t HKI.out _).mono ?_; rintro e w' ⟨rfl, rfl⟩) | (go_at_call 79; refine (named_t hnm hsz _).mono ?_; rintro e w' ⟨rfl, rfl⟩) | (go_at_call 142; refine (binder_t HBI.out _).mono ?_; rintro e w' ⟨rfl, rfl⟩) | (go_at_call 18; refine (ident_t' hnm hsz _).mono ?_; rintro e w' ⟨rfl, rfl⟩))
    refine (HZ.out _).mono ?_
    rintro e w' ⟨rfl, h2⟩
    go_wp2_with fail
    go_ret
    exact ⟨by rw [HQ.out]; rfl, KW.trans h2⟩
  case true =>
    have HQ : Hid (formedB op nm N ty 1 = true) := Lib.hid (by unfold formedB kidOk nmOk nOk tyOk; rw [HKI.out]; simp [*])
    have HZ := Lib.hid (fun W => zeroTy_t (w := W) HKW.out hz)
    clear hz
    go_enter Tryz.func106, Tryz.ntmps106
    go_wp2_with (first | (go_at_call 141; refine (kids_t HKI.out _).mono ?_; rintro e w' ⟨rfl, rfl⟩) | (go_at_call 79; refine (named_t hnm hsz _).mono ?_; rintro e w' ⟨rfl, rfl⟩) | (go_at_call 142; refine (binder_t HBI.out _).mono ?_; rintro e w' ⟨rfl, rfl⟩) | (go_at_call 18; refine (ident_t' hnm hsz _).mono ?_; rintro e w' ⟨rfl, rfl⟩))
    refine (HZ.out _).mono ?_
    rintro e w' ⟨rfl, h2⟩
    go_wp2_with fail
    go_ret
    exact ⟨by rw [HQ.out]; rfl, KW.trans h2⟩
set_option maxRecDepth 100000 in
set_option maxHeartbeats 8000000 in
theorem formed_two {ok : Nat → Prop} {w : World} {nm : ByteArray} {N : Int} {ty : Ty} {a : Option Addr} {n c : Nat} {ma : Option Addr} {mn mc : Nat} (hk : TyL ok w ty.kids (.slice a n c)) (hs : SmTy big ty) (hsz : nm.size ≤ 9223372036854775807) {op : Int} (n20 : op ≠ 20) (n19 : op ≠ 19) (n29 : op ≠ 29) (hbi : binderB op = false) (hki : kidsN op = (2, true)) : Calls Tryz.prog 106 #[.agg #[.int .i64 op, .string nm, .int .i64 N, .int .i64 ty.kind, .string ty.name, .slice a n c, .slice ma mn mc]] w fun e w' => e = .returned (.bool (formedB op nm N ty mn)) ∧ Kept (fun _ => False) w w' := by
  have q20 : (op == 20) = false := beq_false_of_ne n20
  have q19 : (op == 19) = false := beq_false_of_ne n19
  have q29 : (op == 29) = false := beq_false_of_ne n29
  have HKI := Lib.hid hki
  have HBI := Lib.hid hbi
  have KW : Kept (fun _ => False) w (w.alloc (.cells #[.int .i64 op, .string nm, .int .i64 N, .int .i64 ty.kind, .string ty.name, .slice a n c, .slice ma mn mc] 27)) := (Kept.refl _ _).alloc _
  have hkW := hk.frame (Same.alloc w (.cells #[.int .i64 op, .string nm, .int .i64 N, .int .i64 ty.kind, .string ty.name, .slice a n c, .slice ma mn mc] 27))
  have HKW := Lib.hid hkW
  clear hkW
  by_cases hl : (mn : Int) = 2
  case neg =>
    have hl1 : decide ((mn : Int) = 2) = false := by simp; omega
    have hl2 : ((mn : Int) == 2) = false := by simp; omega
    have hl4 : ¬ mn = 2 := by omega
    have HQ : Hid (formedB op nm N ty mn = false) := Lib.hid (by unfold formedB kidOk nmOk nOk tyOk; rw [HKI.out]; simp [*])
    go_enter Tryz.func106, Tryz.ntmps106
    go_wp2_with (first | (go_at_call 141; refine (kids_t HKI.out _).mono ?_; rintro e w' ⟨rfl, rfl⟩) | (go_at_call 79; refine (named_t hnm hsz _).mono ?_; rintro e w' ⟨rfl, rfl⟩) | (go_at_call 142; refine (binder_t HBI.out _).mono ?_; rintro e w' ⟨rfl, rfl⟩) | (go_at_call 18; refine (ident_t' hnm hsz _).mono ?_; rintro e w' ⟨rfl, rfl⟩))
    go_ret
    exact ⟨by rw [HQ.out]; rfl, KW⟩
  have hl3 : mn = 2 := by omega
  subst hl3
  cases hnm : (nm.toList == [])
  case false =>
    have HQ : Hid (formedB op nm N ty 2 = false) := Lib.hid (by unfold formedB kidOk nmOk nOk tyOk; rw [HKI.out]; simp [*, big])
    go_enter Tryz.func106, Tryz.ntmps106
    go_wp2_with (first | (go_at_call 141; refine (kids_t HKI.out _).mono ?_; rintro e w' ⟨rfl, rfl⟩) | (go_at_call 79; refine (named_t hnm hsz _).mono ?_; rintro e w' ⟨rfl, rfl⟩) | (go_at_call 142; refine (binder_t HBI.out _).mono ?_; rintro e w' ⟨rfl, rfl⟩) | (go_at_call 18; refine (ident_t' hnm hsz _).mono ?_; rintro e w' ⟨rfl, rfl⟩))
    go_ret
    exact ⟨by rw [HQ.out]; rfl, KW⟩
  cases hN : (N == 0)
  case false =>
    have HQ : Hid (formedB op nm N ty 2 = false) := Lib.hid (by unfold formedB kidOk nmOk nOk tyOk; rw [HKI.out]; simp [*])
    go_enter Tryz.func106, Tryz.ntmps106
    go_wp2_with (first | (go_at_call 141; refine (kids_t HKI.out _).mono ?_; rintro e w' ⟨rfl, rfl⟩) | (go_at_call 79; refine (named_t hnm hsz _).mono ?_; rintro e w' ⟨rfl, rfl⟩) | (go_at_call 142; refine (binder_t HBI.out _).mono ?_; rintro e w' ⟨rfl, rfl⟩) | (go_at_call 18; refine (ident_t' hnm hsz _).mono ?_; rintro e w' ⟨rfl, rfl⟩))
    go_ret
    exact ⟨by rw [HQ.out]; rfl, KW⟩
  cases hz : zeroTyB ty
  case false =>
    have HQ : Hid (formedB op nm N ty 2 = false) := Lib.hid (by unfold formedB kidOk nmOk nOk tyOk; rw [HKI.out]; simp [*])
    have HZ := Lib.hid (fun W => zeroTy_t (w := W) HKW.out hz)
    clear hz
    go_enter Tryz.func106, Tryz.ntmps106
    go_wp2_with (first | (go_at_call 141; refine (kids_t HKI.out _).mono ?_; rintro e w' ⟨rfl, rfl⟩) | (go_at_call 79; refine (named_t hnm hsz _).mono ?_; rintro e w' ⟨rfl, rfl⟩) | (go_at_call 142; refine (binder_t HBI.out _).mono ?_; rintro e w' ⟨rfl, rfl⟩) | (go_at_call 18; refine (ident_t' hnm hsz _).mono ?_; rintro e w' ⟨rfl, rfl⟩))
    refine (HZ.out _).mono ?_
    rintro e w' ⟨rfl, h2⟩
    go_wp2_with fail
    go_ret
    exact ⟨by rw [HQ.out]; rfl, KW.trans h2⟩
  case true =>
    have HQ : Hid (formedB op nm N ty 2 = true) := Lib.hid (by unfold formedB kidOk nmOk nOk tyOk; rw [HKI.out]; simp [*])
    have HZ := Lib.hid (fun W => zeroTy_t (w := W) HKW.out hz)
    clear hz
    go_enter Tryz.func106, Tryz.ntmps106
    go_wp2_with (first | (go_at_call 141; refine (kids_t HKI.out _).mono ?_; rintro e w' ⟨rfl, rfl⟩) | (go_at_call 79; refine (named_t hnm hsz _).mono ?_; rintro e w' ⟨rfl, rfl⟩) | (go_at_call 142; refine (binder_t HBI.out _).mono ?_; rintro e w' ⟨rfl, rfl⟩) | (go_at_call 18; refine (ident_t' hnm hsz _).mono ?_; rintro e w' ⟨rfl, rfl⟩))
    refine (HZ.out _).mono ?_
    rintro e w' ⟨rfl, h2⟩
    go_wp2_with fail
    go_ret
    exact ⟨by rw [HQ.out]; rfl, KW.trans h2⟩
set_option maxRecDepth 100000 in
set_option maxHeartbeats 8000000 in
theorem formed_zero {ok : Nat → Prop} {w : World} {nm : ByteArray} {N : Int} {ty : Ty} {a : Option Addr} {n c : Nat} {ma : Option Addr} {mn mc : Nat} (hk : TyL ok w ty.kids (.slice a n c)) (hs : SmTy big ty) (hsz : nm.size ≤ 9223372036854775807) {op : Int} (n20 : op ≠ 20) (n19 : op ≠ 19) (n29 : op ≠ 29) (hbi : binderB op = false) (hki : kidsN op = (0, true)) : Calls Tryz.prog 106 #[.agg #[.int .i64 op, .string nm, .int .i64 N, .int .i64 ty.kind, .string ty.name, .slice a n c, .slice ma mn mc]] w fun e w' => e = .returned (.bool (formedB op nm N ty mn)) ∧ Kept (fun _ => False) w w' := by
  have q20 : (op == 20) = false := beq_false_of_ne n20
  have q19 : (op == 19) = false := beq_false_of_ne n19
  have q29 : (op == 29) = false := beq_false_of_ne n29
  have HKI := Lib.hid hki
  have HBI := Lib.hid hbi
  have KW : Kept (fun _ => False) w (w.alloc (.cells #[.int .i64 op, .string nm, .int .i64 N, .int .i64 ty.kind, .string ty.name, .slice a n c, .slice ma mn mc] 27)) := (Kept.refl _ _).alloc _
  have hkW := hk.frame (Same.alloc w (.cells #[.int .i64 op, .string nm, .int .i64 N, .int .i64 ty.kind, .string ty.name, .slice a n c, .slice ma mn mc] 27))
  have HKW := Lib.hid hkW
  clear hkW
  by_cases hl : (mn : Int) = 0
  case neg =>
    have hl1 : decide ((mn : Int) = 0) = false := by simp; omega
    have hl2 : ((mn : Int) == 0) = false := by simp; omega
    have hl4 : ¬ mn = 0 := by omega
    have HQ : Hid (formedB op nm N ty mn = false) := Lib.hid (by unfold formedB kidOk nmOk nOk tyOk; rw [HKI.out]; simp [*])
    go_enter Tryz.func106, Tryz.ntmps106
    go_wp2_with (first | (go_at_call 141; refine (kids_t HKI.out _).mono ?_; rintro e w' ⟨rfl, rfl⟩) | (go_at_call 79; refine (named_t hnm hsz _).mono ?_; rintro e w' ⟨rfl, rfl⟩) | (go_at_call 142; refine (binder_t HBI.out _).mono ?_; rintro e w' ⟨rfl, rfl⟩) | (go_at_call 18; refine (ident_t' hnm hsz _).mono ?_; rintro e w' ⟨rfl, rfl⟩))
    go_ret
    exact ⟨by rw [HQ.out]; rfl, KW⟩
  have hl3 : mn = 0 := by omega
  subst hl3
  cases hnm : (nm.toList == [])
  case false =>
    have HQ : Hid (formedB op nm N ty 0 = false) := Lib.hid (by unfold formedB kidOk nmOk nOk tyOk; rw [HKI.out]; simp [*, big])
    go_enter Tryz.func106, Tryz.ntmps106
    go_wp2_with (first | (go_at_call 141; refine (kids_t HKI.out _).mono ?_; rintro e w' ⟨rfl, rfl⟩) | (go_at_call 79; refine (named_t hnm hsz _).mono ?_; rintro e w' ⟨rfl, rfl⟩) | (go_at_call 142; refine (binder_t HBI.out _).mono ?_; rintro e w' ⟨rfl, rfl⟩) | (go_at_call 18; refine (ident_t' hnm hsz _).mono ?_; rintro e w' ⟨rfl, rfl⟩))
    go_ret
    exact ⟨by rw [HQ.out]; rfl, KW⟩
  cases hN : (N == 0)
  case false =>
    have HQ : Hid (formedB op nm N ty 0 = false) := Lib.hid (by unfold formedB kidOk nmOk nOk tyOk; rw [HKI.out]; simp [*])
    go_enter Tryz.func106, Tryz.ntmps106
    go_wp2_with (first | (go_at_call 141; refine (kids_t HKI.out _).mono ?_; rintro e w' ⟨rfl, rfl⟩) | (go_at_call 79; refine (named_t hnm hsz _).mono ?_; rintro e w' ⟨rfl, rfl⟩) | (go_at_call 142; refine (binder_t HBI.out _).mono ?_; rintro e w' ⟨rfl, rfl⟩) | (go_at_call 18; refine (ident_t' hnm hsz _).mono ?_; rintro e w' ⟨rfl, rfl⟩))
    go_ret
    exact ⟨by rw [HQ.out]; rfl, KW⟩
  cases hz : zeroTyB ty
  case false =>
    have HQ : Hid (formedB op nm N ty 0 = false) := Lib.hid (by unfold formedB kidOk nmOk nOk tyOk; rw [HKI.out]; simp [*])
    have HZ := Lib.hid (fun W => zeroTy_t (w := W) HKW.out hz)
    clear hz
    go_enter Tryz.func106, Tryz.ntmps106
    go_wp2_with (first | (go_at_call 141; refine (kids_t HKI.out _).mono ?_; rintro e w' ⟨rfl, rfl⟩) | (go_at_call 79; refine (named_t hnm hsz _).mono ?_; rintro e w' ⟨rfl, rfl⟩) | (go_at_call 142; refine (binder_t HBI.out _).mono ?_; rintro e w' ⟨rfl, rfl⟩) | (go_at_call 18; refine (ident_t' hnm hsz _).mono ?_; rintro e w' ⟨rfl, rfl⟩))
    refine (HZ.out _).mono ?_
    rintro e w' ⟨rfl, h2⟩
    go_wp2_with fail
    go_ret
    exact ⟨by rw [HQ.out]; rfl, KW.trans h2⟩
  case true =>
    have HQ : Hid (formedB op nm N ty 0 = true) := Lib.hid (by unfold formedB kidOk nmOk nOk tyOk; rw [HKI.out]; simp [*])
    have HZ := Lib.hid (fun W => zeroTy_t (w := W) HKW.out hz)
    clear hz
    go_enter Tryz.func106, Tryz.ntmps106
    go_wp2_with (first | (go_at_call 141; refine (kids_t HKI.out _).mono ?_; rintro e w' ⟨rfl, rfl⟩) | (go_at_call 79; refine (named_t hnm hsz _).mono ?_; rintro e w' ⟨rfl, rfl⟩) | (go_at_call 142; refine (binder_t HBI.out _).mono ?_; rintro e w' ⟨rfl, rfl⟩) | (go_at_call 18; refine (ident_t' hnm hsz _).mono ?_; rintro e w' ⟨rfl, rfl⟩))
    refine (HZ.out _).mono ?_
    rintro e w' ⟨rfl, h2⟩
    go_wp2_with fail
    go_ret
    exact ⟨by rw [HQ.out]; rfl, KW.trans h2⟩
set_option maxRecDepth 100000 in
set_option maxHeartbeats 8000000 in
theorem formed_set {ok : Nat → Prop} {w : World} {nm : ByteArray} {N : Int} {ty : Ty} {a : Option Addr} {n c : Nat} {ma : Option Addr} {mn mc : Nat} (hk : TyL ok w ty.kids (.slice a n c)) (hs : SmTy big ty) (hsz : nm.size ≤ 9223372036854775807) {op : Int} (n20 : op ≠ 20) (n19 : op ≠ 19) (n29 : op ≠ 29) (hbi : binderB op = false) (hki : kidsN op = (-1, true)) : Calls Tryz.prog 106 #[.agg #[.int .i64 op, .string nm, .int .i64 N, .int .i64 ty.kind, .string ty.name, .slice a n c, .slice ma mn mc]] w fun e w' => e = .returned (.bool (formedB op nm N ty mn)) ∧ Kept (fun _ => False) w w' := by
  have q20 : (op == 20) = false := beq_false_of_ne n20
  have q19 : (op == 19) = false := beq_false_of_ne n19
  have q29 : (op == 29) = false := beq_false_of_ne n29
  have HKI := Lib.hid hki
  have HBI := Lib.hid hbi
  have KW : Kept (fun _ => False) w (w.alloc (.cells #[.int .i64 op, .string nm, .int .i64 N, .int .i64 ty.kind, .string ty.name, .slice a n c, .slice ma mn mc] 27)) := (Kept.refl _ _).alloc _
  have hkW := hk.frame (Same.alloc w (.cells #[.int .i64 op, .string nm, .int .i64 N, .int .i64 ty.kind, .string ty.name, .slice a n c, .slice ma mn mc] 27))
  have HKW := Lib.hid hkW
  clear hkW
  by_cases hl : mn = 0
  · subst hl
    have HQ : Hid (formedB op nm N ty 0 = false) := Lib.hid (by unfold formedB kidOk nmOk nOk tyOk; rw [HKI.out]; simp [*])
    go_enter Tryz.func106, Tryz.ntmps106
    go_wp2_with (first | (go_at_call 141; refine (kids_t HKI.out _).mono ?_; rintro e w' ⟨rfl, rfl⟩) | (go_at_call 79; refine (named_t hnm hsz _).mono ?_; rintro e w' ⟨rfl, rfl⟩) | (go_at_call 142; refine (binder_t HBI.out _).mono ?_; rintro e w' ⟨rfl, rfl⟩) | (go_at_call 18; refine (ident_t' hnm hsz _).mono ?_; rintro e w' ⟨rfl, rfl⟩))
    go_ret
    exact ⟨by rw [HQ.out]; rfl, KW⟩
  have hl1 : decide ((mn : Int) = 0) = false := by simp; omega
  have hl2 : ((mn : Int) == 0) = false := by simp; omega
  cases hnm : (nm.toList == [])
  case false =>
    have HQ : Hid (formedB op nm N ty mn = false) := Lib.hid (by unfold formedB kidOk nmOk nOk tyOk; rw [HKI.out]; simp [*, big])
    go_enter Tryz.func106, Tryz.ntmps106
    go_wp2_with (first | (go_at_call 141; refine (kids_t HKI.out _).mono ?_; rintro e w' ⟨rfl, rfl⟩) | (go_at_call 79; refine (named_t hnm hsz _).mono ?_; rintro e w' ⟨rfl, rfl⟩) | (go_at_call 142; refine (binder_t HBI.out _).mono ?_; rintro e w' ⟨rfl, rfl⟩) | (go_at_call 18; refine (ident_t' hnm hsz _).mono ?_; rintro e w' ⟨rfl, rfl⟩))
    go_ret
    exact ⟨by rw [HQ.out]; rfl, KW⟩
  cases hN : (N == 0)
  case false =>
    have HQ : Hid (formedB op nm N ty mn = false) := Lib.hid (by unfold formedB kidOk nmOk nOk tyOk; rw [HKI.out]; simp [*])
    go_enter Tryz.func106, Tryz.ntmps106
    go_wp2_with (first | (go_at_call 141; refine (kids_t HKI.out _).mono ?_; rintro e w' ⟨rfl, rfl⟩) | (go_at_call 79; refine (named_t hnm hsz _).mono ?_; rintro e w' ⟨rfl, rfl⟩) | (go_at_call 142; refine (binder_t HBI.out _).mono ?_; rintro e w' ⟨rfl, rfl⟩) | (go_at_call 18; refine (ident_t' hnm hsz _).mono ?_; rintro e w' ⟨rfl, rfl⟩))
    go_ret
    exact ⟨by rw [HQ.out]; rfl, KW⟩
  cases hz : zeroTyB ty
  case false =>
    have HQ : Hid (formedB op nm N ty mn = false) := Lib.hid (by unfold formedB kidOk nmOk nOk tyOk; rw [HKI.out]; simp [*])
    have HZ := Lib.hid (fun W => zeroTy_t (w := W) HKW.out hz)
    clear hz
    go_enter Tryz.func106, Tryz.ntmps106
    go_wp2_with (first | (go_at_call 141; refine (kids_t HKI.out _).mono ?_; rintro e w' ⟨rfl, rfl⟩) | (go_at_call 79; refine (named_t hnm hsz _).mono ?_; rintro e w' ⟨rfl, rfl⟩) | (go_at_call 142; refine (binder_t HBI.out _).mono ?_; rintro e w' ⟨rfl, rfl⟩) | (go_at_call 18; refine (ident_t' hnm hsz _).mono ?_; rintro e w' ⟨rfl, rfl⟩))
    refine (HZ.out _).mono ?_
    rintro e w' ⟨rfl, h2⟩
    go_wp2_with fail
    go_ret
    exact ⟨by rw [HQ.out]; rfl, KW.trans h2⟩
  case true =>
    have HQ : Hid (formedB op nm N ty mn = true) := Lib.hid (by unfold formedB kidOk nmOk nOk tyOk; rw [HKI.out]; simp [*])
    have HZ := Lib.hid (fun W => zeroTy_t (w := W) HKW.out hz)
    clear hz
    go_enter Tryz.func106, Tryz.ntmps106
    go_wp2_with (first | (go_at_call 141; refine (kids_t HKI.out _).mono ?_; rintro e w' ⟨rfl, rfl⟩) | (go_at_call 79; refine (named_t hnm hsz _).mono ?_; rintro e w' ⟨rfl, rfl⟩) | (go_at_call 142; refine (binder_t HBI.out _).mono ?_; rintro e w' ⟨rfl, rfl⟩) | (go_at_call 18; refine (ident_t' hnm hsz _).mono ?_; rintro e w' ⟨rfl, rfl⟩))
    refine (HZ.out _).mono ?_
    rintro e w' ⟨rfl, h2⟩
    go_wp2_with fail
    go_ret
    exact ⟨by rw [HQ.out]; rfl, KW.trans h2⟩
set_option maxRecDepth 100000 in
set_option maxHeartbeats 8000000 in
theorem formed_not {ok : Nat → Prop} {w : World} {nm : ByteArray} {N : Int} {ty : Ty} {a : Option Addr} {n c : Nat} {ma : Option Addr} {mn mc : Nat} (hk : TyL ok w ty.kids (.slice a n c)) (hs : SmTy big ty) (hsz : nm.size ≤ 9223372036854775807) {op a0 : Int} (hki : kidsN op = (a0, false)) : Calls Tryz.prog 106 #[.agg #[.int .i64 op, .string nm, .int .i64 N, .int .i64 ty.kind, .string ty.name, .slice a n c, .slice ma mn mc]] w fun e w' => e = .returned (.bool (formedB op nm N ty mn)) ∧ Kept (fun _ => False) w w' := by
  have HKI := Lib.hid hki
  have KW : Kept (fun _ => False) w (w.alloc (.cells #[.int .i64 op, .string nm, .int .i64 N, .int .i64 ty.kind, .string ty.name, .slice a n c, .slice ma mn mc] 27)) := (Kept.refl _ _).alloc _
  have HQ : Hid (formedB op nm N ty mn = false) := Lib.hid (by unfold formedB kidOk; rw [hki]; rfl)
  clear hki
  go_enter Tryz.func106, Tryz.ntmps106
  go_wp2_with (go_at_call 141; refine (kids_t HKI.out _).mono ?_; rintro e w' ⟨rfl, rfl⟩)
  go_ret
  exact ⟨by rw [HQ.out]; rfl, KW⟩
theorem kids_cases (op : Int) : (∃ a, kidsN op = (a, false)) ∨ kidsN op = (0, true) ∨ kidsN op = (1, true) ∨ kidsN op = (2, true) ∨ kidsN op = (-1, true) := by
  unfold kidsN
  split
  · simp
  split
  · simp
  split
  · simp
  split <;> simp
theorem bind_kids (op : Int) (h : binderB op = true) : kidsN op = (2, true) := by
  unfold binderB at h
  simp at h
  rcases h with ((rfl | rfl) | rfl) | rfl <;> rfl
theorem formed_any {ok : Nat → Prop} {w : World} {nm : ByteArray} {N : Int} {ty : Ty} {a : Option Addr} {n c : Nat} {ma : Option Addr} {mn mc : Nat} (hk : TyL ok w ty.kids (.slice a n c)) (hs : SmTy big ty) (hsz : nm.size ≤ 9223372036854775807) (op : Int) : Calls Tryz.prog 106 #[.agg #[.int .i64 op, .string nm, .int .i64 N, .int .i64 ty.kind, .string ty.name, .slice a n c, .slice ma mn mc]] w fun e w' => e = .returned (.bool (formedB op nm N ty mn)) ∧ Kept (fun _ => False) w w' := by
  by_cases n20 : op = 20
  · subst n20; exact formed_name hk hs hsz
  by_cases n19 : op = 19
  · subst n19; exact formed_int hk hs hsz
  by_cases n29 : op = 29
  · subst n29; exact formed_empty hk hs hsz
  cases hbi : binderB op
  case true => exact formed_bind hk hs hsz n20 n19 n29 hbi (bind_kids op hbi)
  rcases kids_cases op with ⟨a, h⟩ | h | h | h | h
  · exact formed_not hk hs hsz h
  · exact formed_zero hk hs hsz n20 n19 n29 hbi h
  · exact formed_one hk hs hsz n20 n19 n29 hbi h
  · exact formed_two hk hs hsz n20 n19 n29 hbi h
  · exact formed_set hk hs hsz n20 n19 n29 hbi h
mutual
def fS (most deep : Nat) : Tm → Nat → Nat → Bool × Nat
  | .mk op nm N ty l, d, c =>
    match (decide (c + 1 ≤ most) && decide (d ≤ deep)) && formedB op nm N ty l.length with
    | false => (false, c + 1)
    | true => fsS most deep l (d + 1) (c + 1)
def fsS (most deep : Nat) : List Tm → Nat → Nat → Bool × Nat
  | [], _, c => (true, c)
  | t :: l, d, c =>
    match fS most deep t d c with
    | (true, c') => fsS most deep l d c'
    | (false, c') => (false, c')
end
def TmC (m most deep : Nat) (t : Tm) : Prop := ∀ (w : World) (c d : Nat) (tk kk : Value), Blk w m 76 (mcells c most deep) → c ≤ most → d ≤ deep + 1 → TyL (fun k => k ≠ m) w t.ty.kids tk → TmL (fun k => k ≠ m) w t.kids kk →
  Calls Tryz.prog 59 #[.pointer (some ⟨m, 0, none⟩), tmVal t tk kk, .int .i64 d] w (FPost m most deep (fS most deep t d c) w)
theorem f_eq (most deep : Nat) (op : Int) (nm : ByteArray) (N : Int) (ty : Ty) (l : List Tm) (d : Nat) (c : Nat) : fS most deep (.mk op nm N ty l) d c = if ((decide (c + 1 ≤ most) && decide (d ≤ deep)) && formedB op nm N ty l.length) = true then fsS most deep l (d + 1) (c + 1) else (false, c + 1) := by
  rw [fS]
  cases (decide (c + 1 ≤ most) && decide (d ≤ deep)) && formedB op nm N ty l.length <;> rfl
theorem f_le (most deep : Nat) : ∀ (t : Tm) (d : Nat) (c : Nat), c ≤ most → (fS most deep t d c).1 = true → c + 1 ≤ (fS most deep t d c).2 ∧ (fS most deep t d c).2 ≤ most := by
  intro t
  induction t using Tm.rec (motive_2 := fun l => ∀ (d c : Nat), c ≤ most → (fsS most deep l d c).1 = true → c ≤ (fsS most deep l d c).2 ∧ (fsS most deep l d c).2 ≤ most) with
  | mk op nm N ty l ih =>
    intro d c hc h
    rw [f_eq] at h ⊢
    split at h
    · rename_i hb
      rw [if_pos hb]
      have : c + 1 ≤ most := by simp at hb; exact hb.1.1
      exact ih _ _ this h
    · cases h
  | nil => rename_i d c hc h; exact ⟨Nat.le_refl _, hc⟩
  | cons t l iht ihl =>
    rename_i d c hc h
    rw [fsS] at h ⊢
    cases hr : fS most deep t d c with
    | mk b c' =>
      cases b
      · rw [hr] at h; cases h
      · rw [hr] at h
        have a := iht d c hc (by rw [hr])
        rw [hr] at a
        have := ihl d c' a.2 h
        exact ⟨Nat.le_trans (Nat.le_trans (Nat.le_succ _) a.1) this.1, this.2⟩
set_option maxRecDepth 100000 in
set_option maxHeartbeats 2000000 in
theorem f1_any {m most deep d c M D : Nat} {t : Tm} {a : Option Addr} {n cp : Nat} {ma : Option Addr} {mn mc : Nat} {w : World} (hT : TmC m most deep t) (hb : Blk w m 76 (mcells c most deep)) (hc : c ≤ most) (hd : d ≤ deep) (hdp : deep ≤ 1000)
    (hM : w.cell? ⟨M, 0, none⟩ = some (.pointer (some ⟨m, 0, none⟩))) (hD : w.cell? ⟨D, 0, none⟩ = some (.int .i64 d)) (hk : TyL (fun k => k ≠ m) w t.ty.kids (.slice a n cp)) (hm : TmL (fun k => k ≠ m) w t.kids (.slice ma mn mc)) :
    Calls Tryz.prog 108 #[tmVal t (.slice a n cp) (.slice ma mn mc), .pointer (some ⟨M, 0, none⟩), .pointer (some ⟨D, 0, none⟩)] w (FPost m most deep (!(fS most deep t (d + 1) c).1, (fS most deep t (d + 1) c).2) w) := by
  unfold tmVal
  have HT := Lib.hid hT
  clear hT
  have hb1 := hb.alloc (.cells #[.int .i64 t.op, .string t.name, .int .i64 t.n, .int .i64 t.ty.kind, .string t.ty.name, .slice a n cp, .slice ma mn mc] 27)
  have hk1 := hk.frame (Same.alloc w (.cells #[.int .i64 t.op, .string t.name, .int .i64 t.n, .int .i64 t.ty.kind, .string t.ty.name, .slice a n cp, .slice ma mn mc] 27))
  have hm1 := hm.frame (Same.alloc w (.cells #[.int .i64 t.op, .string t.name, .int .i64 t.n, .int .i64 t.ty.kind, .string t.ty.name, .slice a n cp, .slice ma mn mc] 27))
  have lM := cell_lt hM
  have lD := cell_lt hD
  have nM : M ≠ w.heap.size := by omega
  have nD : D ≠ w.heap.size := by omega
  go_enter Tryz.func108, Tryz.ntmps108
  go_wp2_with fail
  refine (HT.out _ c (d + 1) _ _ hb1 hc (by omega) hk1 hm1).mono ?_
  rintro e w' ⟨rfl, h1, h2⟩
  go_wp2_with fail
  go_ret
  exact ⟨rfl, h1, ((Kept.refl _ _).alloc _).trans h2⟩
theorem fs_step {most deep d c : Nat} {l : List Tm} {k : Nat} (h : k < l.length) : fsS most deep (l.drop k) d c = (if (fS most deep l[k] d c).1 = true then fsS most deep (l.drop (k + 1)) d (fS most deep l[k] d c).2 else (false, (fS most deep l[k] d c).2)) := by
  rw [drop_cons l k h, fsS]
  cases fS most deep l[k] d c with
  | mk b c' => cases b <;> rfl
set_option maxRecDepth 100000 in
set_option maxHeartbeats 8000000 in
theorem idxTm_any {m most deep d c M D : Nat} {l : List Tm} {a : Option Addr} {n cp : Nat} {w : World} (hT : ∀ t, t ∈ l → TmC m most deep t) (hb : Blk w m 76 (mcells c most deep)) (hc : c ≤ most) (hmo : most ≤ 100000) (hd : d ≤ deep) (hdp : deep ≤ 1000) (hMm : M ≠ m) (hDm : D ≠ m)
    (hM : w.cell? ⟨M, 0, none⟩ = some (.pointer (some ⟨m, 0, none⟩))) (hD : w.cell? ⟨D, 0, none⟩ = some (.int .i64 d)) (hk : TmL (fun k => k ≠ m) w l (.slice a n cp)) :
    Calls Tryz.prog 144 #[.slice a n cp, .func (.func 108) #[] #[.pointer (some ⟨M, 0, none⟩), .pointer (some ⟨D, 0, none⟩)]] w fun e w' => ∃ i : Int, e = .returned (.int .i64 i) ∧ decide (0 ≤ i) = !(fsS most deep l (d + 1) c).1 ∧ Blk w' m 76 (mcells (fsS most deep l (d + 1) c).2 most deep) ∧ Kept (· = m) w w' := by
  have HT := Lib.hid hT
  clear hT
  have hn := hk.len
  subst hn
  cases hk with
  | nil he =>
    have hz : Hid (fsS most deep ([] : List Tm) (d + 1) c = (true, c)) := Lib.hid (by rw [fsS])
    go_enter Tryz.func144, Tryz.ntmps144
    go_wp2_with fail
    go_loop [8] (fun i => i = .int .i64 0) (fun i => 0)
    case atStart => rfl
    case round =>
      subst hrel
      go_wp2_with fail
      go_ret
      exact ⟨-1, rfl, by rw [hz.out]; rfl, by rw [hz.out]; exact hb, Kept.refl _ _⟩
  | mk K MM hne hok hcap hcell hkk hmm =>
    rename_i g off
    have HC := Lib.hid hcell
    have HK := Lib.hid hkk
    have HMM := Lib.hid hmm
    clear hcell hkk hmm
    have LM := Lib.hid (cell_lt hM)
    have LD := Lib.hid (cell_lt hD)
    go_enter Tryz.func144, Tryz.ntmps144
    go_wp2_with fail
    go_loopw [8] (fun i wr => ∃ k ck : Nat, k ≤ l.length ∧ i = .int .i64 k ∧ k ≤ ck ∧ ck ≤ most ∧ Blk wr m 76 (mcells ck most deep) ∧ Kept (· = m) w wr ∧ Hid (fsS most deep l (d + 1) c = fsS most deep (l.drop k) (d + 1) ck)) (fun i _ => l.length - (intOf i).toNat)
    case atStart => exact ⟨0, c, Nat.zero_le _, rfl, Nat.zero_le _, hc, hb, Kept.refl _ _, Lib.hid rfl⟩
    case round =>
      obtain ⟨k, ck, hkl, rfl, hkc, hcm, hbr, hkr, heq⟩ := hrel
      by_cases hlt : k < l.length
      · have c0 := (Same.of_kept (ok := fun k => k ≠ m) hkr (fun k h e => h e)).cell hok (HC.out k hlt).1
        have c1 := (Same.of_kept (ok := fun k => k ≠ m) hkr (fun k h e => h e)).cell hok (HC.out k hlt).2.1
        have c2 := (Same.of_kept (ok := fun k => k ≠ m) hkr (fun k h e => h e)).cell hok (HC.out k hlt).2.2.1
        have c3 := (Same.of_kept (ok := fun k => k ≠ m) hkr (fun k h e => h e)).cell hok (HC.out k hlt).2.2.2.1
        have c4 := (Same.of_kept (ok := fun k => k ≠ m) hkr (fun k h e => h e)).cell hok (HC.out k hlt).2.2.2.2.1
        have c5 := (Same.of_kept (ok := fun k => k ≠ m) hkr (fun k h e => h e)).cell hok (HC.out k hlt).2.2.2.2.2.1
        have c6 := (Same.of_kept (ok := fun k => k ≠ m) hkr (fun k h e => h e)).cell hok (HC.out k hlt).2.2.2.2.2.2
        have i1 : (k : Int) < (l.length : Int) := by omega
        have i2 : (k : Int) < 1000000 := by omega
        obtain ⟨ta, tn, tc, hK⟩ := (HK.out k hlt).slice
        have hkk := (HK.out k hlt).frame (Same.of_kept (ok := fun k => k ≠ m) hkr (fun k h e => h e))
        rw [hK] at c5 hkk
        obtain ⟨ua, un, uc, hU⟩ := (HMM.out k hlt).slice
        have hmm := (HMM.out k hlt).frame (Same.of_kept (ok := fun k => k ≠ m) hkr (fun k h e => h e))
        rw [hU] at c6 hmm
        have hM' : wr.cell? ⟨M, 0, none⟩ = some (.pointer (some ⟨m, 0, none⟩)) := by rw [hkr.cell (p := ⟨M, 0, none⟩) LM.out hMm]; exact hM
        have hD' : wr.cell? ⟨D, 0, none⟩ = some (.int .i64 d) := by rw [hkr.cell (p := ⟨D, 0, none⟩) LD.out hDm]; exact hD
        have hst := Lib.hid (fs_step (most := most) (deep := deep) (d := d + 1) (c := ck) hlt)
        have hle := Lib.hid (f_le most deep l[k] (d + 1) ck hcm)
        have hcon := Lib.hid (f1_any (HT.out _ (List.getElem_mem hlt)) hbr hcm hd hdp hM' hD' hkk hmm)
        clear hkk hmm hM' hD'
        cases hr : (fS most deep l[k] (d + 1) ck).1
        · go_wp2_with (go_at_call 108; refine hcon.out.mono ?_; rintro e w' ⟨rfl, h1, h2⟩)
          go_ret
          have q := heq.out.trans hst.out
          rw [hr, if_neg (by simp)] at q
          exact ⟨k, rfl, by rw [q]; simp, by rw [q]; exact h1, hkr.trans h2⟩
        · go_wp2_with (go_at_call 108; refine hcon.out.mono ?_; rintro e w' ⟨rfl, h1, h2⟩)
          go_roundw
          case rel =>
            have q := heq.out.trans hst.out
            rw [hr, if_pos rfl] at q
            have z := hle.out hr
            exact ⟨k + 1, _, by omega, by go_num, by omega, z.2, h1, hkr.trans h2, Lib.hid q⟩
          case measure => simp [intOf]; omega
      · have hz : Hid (fsS most deep l (d + 1) c = (true, ck)) := Lib.hid (by rw [heq.out, List.drop_eq_nil_of_le (by omega), fsS])
        go_wp2_with fail
        go_ret
        exact ⟨-1, rfl, by rw [hz.out]; rfl, by rw [hz.out]; exact hbr, hkr⟩
set_option maxRecDepth 100000 in
set_option maxHeartbeats 8000000 in
theorem contTm_any {m most deep d c M D : Nat} {l : List Tm} {a : Option Addr} {n cp : Nat} {w : World} (hT : ∀ t, t ∈ l → TmC m most deep t) (hb : Blk w m 76 (mcells c most deep)) (hc : c ≤ most) (hmo : most ≤ 100000) (hd : d ≤ deep) (hdp : deep ≤ 1000) (hMm : M ≠ m) (hDm : D ≠ m)
    (hM : w.cell? ⟨M, 0, none⟩ = some (.pointer (some ⟨m, 0, none⟩))) (hD : w.cell? ⟨D, 0, none⟩ = some (.int .i64 d)) (hk : TmL (fun k => k ≠ m) w l (.slice a n cp)) :
    Calls Tryz.prog 107 #[.slice a n cp, .func (.func 108) #[] #[.pointer (some ⟨M, 0, none⟩), .pointer (some ⟨D, 0, none⟩)]] w fun e w' => e = .returned (.bool (!(fsS most deep l (d + 1) c).1)) ∧ Blk w' m 76 (mcells (fsS most deep l (d + 1) c).2 most deep) ∧ Kept (· = m) w w' := by
  have hcon := Lib.hid (idxTm_any hT hb hc hmo hd hdp hMm hDm hM hD hk)
  clear hT hM hD hk
  go_enter Tryz.func107, Tryz.ntmps107
  go_wp2_with fail
  refine hcon.out.mono ?_
  rintro e w' ⟨i, rfl, hi, h1, h2⟩
  go_wp2_with fail
  go_ret
  exact ⟨rfl, h1, h2⟩
set_option maxRecDepth 100000 in
set_option maxHeartbeats 8000000 in
theorem fits_one {m most deep : Nat} {op : Int} {nm : ByteArray} {N : Int} {ty : Ty} {l : List Tm} (hmo : most ≤ 100000) (hdp : deep ≤ 1000) (hsz : nm.size ≤ 9223372036854775807) (hst : SmTy big ty) (IH : ∀ t, t ∈ l → TmC m most deep t) : TmC m most deep (.mk op nm N ty l) := by
  intro w c d tk kk hb hc hd hk hm
  obtain ⟨a, n, cp, rfl⟩ := hk.slice
  obtain ⟨ma, mn, mc, rfl⟩ := hm.slice
  have hn := hm.len
  unfold tmVal
  have hk' : TyL (fun k => k ≠ m) w ty.kids (.slice a n cp) := hk
  have hm' : TmL (fun k => k ≠ m) w l (.slice ma mn mc) := hm
  clear hk hm
  simp only [Tm.op, Tm.name, Tm.n, Tm.ty, Tm.kids] at hn ⊢
  have hmf : ∀ (fn : Fn) (first cap : Array Value) (w : World), (Instr.makeFunc fn first cap).run Tryz.prog w = .ok (.func fn first cap) w := fun _ _ _ _ => rfl
  have HIH := Lib.hid IH
  clear IH
  have hml := hb.lt
  have HQ := Lib.hid (f_eq most deep op nm N ty l d c)
  have HN := Lib.hid hn
  clear hn
  have hb3 := ((hb.alloc (.cells #[.pointer (some ⟨m, 0, none⟩)] 107)).alloc (.cells #[.int .i64 op, .string nm, .int .i64 N, .int .i64 ty.kind, .string ty.name, .slice a n cp, .slice ma mn mc] 27)).alloc (.cells #[.int .i64 d] 3)
  have K3 : Kept (· = m) w (((w.alloc (.cells #[.pointer (some ⟨m, 0, none⟩)] 107)).alloc (.cells #[.int .i64 op, .string nm, .int .i64 N, .int .i64 ty.kind, .string ty.name, .slice a n cp, .slice ma mn mc] 27)).alloc (.cells #[.int .i64 d] 3)) := (((Kept.refl _ _).alloc _).alloc _).alloc _
  have b0 : Blk (((w.alloc (.cells #[.pointer (some ⟨m, 0, none⟩)] 107)).alloc (.cells #[.int .i64 op, .string nm, .int .i64 N, .int .i64 ty.kind, .string ty.name, .slice a n cp, .slice ma mn mc] 27)).alloc (.cells #[.int .i64 d] 3)) w.heap.size 107 [.pointer (some ⟨m, 0, none⟩)] := ((Blk.new w 107 _).alloc _).alloc _
  have b1 : Blk (((w.alloc (.cells #[.pointer (some ⟨m, 0, none⟩)] 107)).alloc (.cells #[.int .i64 op, .string nm, .int .i64 N, .int .i64 ty.kind, .string ty.name, .slice a n cp, .slice ma mn mc] 27)).alloc (.cells #[.int .i64 d] 3)) (w.heap.size + 1) 27 [.int .i64 op, .string nm, .int .i64 N, .int .i64 ty.kind, .string ty.name, .slice a n cp, .slice ma mn mc] := (Blk.new' 27 _ (by simp)).alloc _
  have b2 : Blk (((w.alloc (.cells #[.pointer (some ⟨m, 0, none⟩)] 107)).alloc (.cells #[.int .i64 op, .string nm, .int .i64 N, .int .i64 ty.kind, .string ty.name, .slice a n cp, .slice ma mn mc] 27)).alloc (.cells #[.int .i64 d] 3)) (w.heap.size + 2) 3 [.int .i64 d] := Blk.new' 3 _ (by simp)
  cases hv : (decide (c + 1 ≤ most) && decide (d ≤ deep))
  · have hq : Hid (fS most deep (.mk op nm N ty l) d c = (false, c + 1)) := Lib.hid (by rw [HQ.out, hv]; rfl)
    go_enter Tryz.func59, Tryz.ntmps59
    go_wp2_with fail
    refine (enter_any hb3 (by omega) hv).mono ?_
    rintro e W ⟨rfl, hbW, hkW⟩
    go_wp2_with fail
    go_ret
    exact ⟨by rw [hq.out]; rfl, by rw [hq.out]; exact hbW, K3.trans hkW⟩
  have hd1 : d ≤ deep := by simp at hv; exact hv.2
  have hc1 : c + 1 ≤ most := by simp at hv; exact hv.1
  have HD1 := Lib.hid hd1
  have HC1 := Lib.hid hc1
  clear hd1 hc1
  go_enter Tryz.func59, Tryz.ntmps59
  go_wp2_with fail
  refine (enter_any hb3 (by omega) hv).mono ?_
  rintro e W ⟨rfl, hbW, hkW⟩
  have B0 := b0.kept hkW (by show ¬ w.heap.size = m; omega)
  have B1 := b1.kept hkW (by show ¬ w.heap.size + 1 = m; omega)
  have B2 := b2.kept hkW (by show ¬ w.heap.size + 2 = m; omega)
  have g0 : W.cell? ⟨w.heap.size + 1, 0, none⟩ = some (.int .i64 op) := B1.cell 0
  have g1 : W.cell? ⟨w.heap.size + 1, 1, none⟩ = some (.string nm) := B1.cell 1
  have g2 : W.cell? ⟨w.heap.size + 1, 2, none⟩ = some (.int .i64 N) := B1.cell 2
  have g3 : W.cell? ⟨w.heap.size + 1, 3, none⟩ = some (.int .i64 ty.kind) := B1.cell 3
  have g4 : W.cell? ⟨w.heap.size + 1, 4, none⟩ = some (.string ty.name) := B1.cell 4
  have g5 : W.cell? ⟨w.heap.size + 1, 5, none⟩ = some (.slice a n cp) := B1.cell 5
  have g6 : W.cell? ⟨w.heap.size + 1, 6, none⟩ = some (.slice ma mn mc) := B1.cell 6
  have KW := K3.trans hkW
  have hkl : TyL (fun k => k ≠ m) W ty.kids (.slice a n cp) := hk'.frame (Same.of_kept KW (fun k h e => h e))
  have hmlW : TmL (fun k => k ≠ m) W l (.slice ma mn mc) := hm'.frame (Same.of_kept KW (fun k h e => h e))
  have HF := Lib.hid (formed_any (ma := ma) (mn := mn) (mc := mc) (N := N) hkl hst hsz op)
  have lW := hbW.lt
  have LB := Lib.hid B2.lt
  go_wp2_with fail
  refine HF.out.mono ?_
  rintro e W2 ⟨rfl, hk2⟩
  have hbW2 := hbW.kept hk2 (fun h => h)
  have KW2 : Kept (· = m) w W2 := KW.via hk2 (fun _ _ h => h.elim)
  cases hB : formedB op nm N ty mn
  · have hq : Hid (fS most deep (.mk op nm N ty l) d c = (false, c + 1)) := Lib.hid (by rw [HQ.out, hv, ← HN.out, hB]; rfl)
    go_wp2_with fail
    go_ret
    exact ⟨by rw [hq.out]; rfl, by rw [hq.out]; exact hbW2, KW2⟩
  · have hq : Hid (fS most deep (.mk op nm N ty l) d c = fsS most deep l (d + 1) (c + 1)) := Lib.hid (by rw [HQ.out, hv, ← HN.out, hB]; rfl)
    have p0 : W2.cell? ⟨w.heap.size, 0, none⟩ = some (.pointer (some ⟨m, 0, none⟩)) := (B0.kept hk2 (fun h => h)).cell 0
    have dd : W2.cell? ⟨w.heap.size + 2, 0, none⟩ = some (.int .i64 d) := (B2.kept hk2 (fun h => h)).cell 0
    have y6 : W2.cell? ⟨w.heap.size + 1, 6, none⟩ = some (.slice ma mn mc) := (B1.kept hk2 (fun h => h)).cell 6
    have HCO := Lib.hid (contTm_any HIH.out hbW2 HC1.out hmo HD1.out hdp (by omega) (by omega) p0 dd (hmlW.frame (Same.of_kept hk2 (fun k h e => e))))
    go_wp2_with fail
    refine HCO.out.mono ?_
    rintro e w' ⟨rfl, h1, h2⟩
    go_wp2_with fail
    go_ret
    exact ⟨by rw [hq.out]; simp, by rw [hq.out]; exact h1, KW2.trans h2⟩
theorem fits_any {m most deep : Nat} {t : Tm} (hmo : most ≤ 100000) (hdp : deep ≤ 1000) (h : SmTm big t) : TmC m most deep t := by
  induction h with
  | mk hn ht hl ih => exact fits_one hmo hdp hn ht ih
def validB (t : Tm) : Bool := (fS 2000 64 t 1 0).1
set_option maxRecDepth 100000 in
set_option maxHeartbeats 2000000 in
theorem valid_any {ok : Nat → Prop} {w : World} {t : Tm} {a : Option Addr} {n c : Nat} {ma : Option Addr} {mn mc : Nat} (hk : TyL ok w t.ty.kids (.slice a n c)) (hm : TmL ok w t.kids (.slice ma mn mc)) (hs : SmTm big t) :
    Calls Tryz.prog 28 #[.agg #[.int .i64 t.op, .string t.name, .int .i64 t.n, .int .i64 t.ty.kind, .string t.ty.name, .slice a n c, .slice ma mn mc]] w fun e w' => e = .returned (.bool (validB t)) ∧ Kept (fun _ => False) w w' := by
  have hC := Lib.hid (fits_any (m := w.heap.size + 1) (most := 2000) (deep := 64) (t := t) (by decide) (by decide) hs)
  have hb : Blk ((w.alloc (.cells #[.int .i64 t.op, .string t.name, .int .i64 t.n, .int .i64 t.ty.kind, .string t.ty.name, .slice a n c, .slice ma mn mc] 27)).alloc (.cells #[.int .i64 0, .int .i64 2000, .int .i64 64] 76)) (w.heap.size + 1) 76 (mcells 0 2000 64) := Blk.new' 76 _ (by simp)
  have hk3 : TyL (fun k => k ≠ w.heap.size + 1) ((w.alloc (.cells #[.int .i64 t.op, .string t.name, .int .i64 t.n, .int .i64 t.ty.kind, .string t.ty.name, .slice a n c, .slice ma mn mc] 27)).alloc (.cells #[.int .i64 0, .int .i64 2000, .int .i64 64] 76)) t.ty.kids (.slice a n c) :=
    ((hk.mono (ok' := fun k => k ≠ w.heap.size + 1) (fun k h _ => by omega)).frame (Same.alloc w _)).frame (Same.alloc _ _)
  have hm3 : TmL (fun k => k ≠ w.heap.size + 1) ((w.alloc (.cells #[.int .i64 t.op, .string t.name, .int .i64 t.n, .int .i64 t.ty.kind, .string t.ty.name, .slice a n c, .slice ma mn mc] 27)).alloc (.cells #[.int .i64 0, .int .i64 2000, .int .i64 64] 76)) t.kids (.slice ma mn mc) :=
    ((hm.mono (ok' := fun k => k ≠ w.heap.size + 1) (fun k h _ => by omega)).frame (Same.alloc w _)).frame (Same.alloc _ _)
  have K2 : Kept (fun _ => False) w ((w.alloc (.cells #[.int .i64 t.op, .string t.name, .int .i64 t.n, .int .i64 t.ty.kind, .string t.ty.name, .slice a n c, .slice ma mn mc] 27)).alloc (.cells #[.int .i64 0, .int .i64 2000, .int .i64 64] 76)) := ((Kept.refl _ _).alloc _).alloc _
  go_enter Tryz.func28, Tryz.ntmps28
  go_wp2_with fail
  refine (hC.out _ 0 1 _ _ hb (by decide) (by decide) hk3 hm3).mono ?_
  rintro e w' ⟨rfl, h1, h2⟩
  go_wp2_with fail
  go_ret
  exact ⟨rfl, K2.via h2 (fun x hx e => by have := e; omega)⟩
theorem SmTy.mono {N N' : Nat} (h : N ≤ N') {t : Ty} (ht : SmTy N t) : SmTy N' t := by
  induction ht with
  | mk hn hl ih => exact .mk (Nat.le_trans hn h) ih
theorem SmTm.mono {N N' : Nat} (h : N ≤ N') {t : Tm} (ht : SmTm N t) : SmTm N' t := by
  induction ht with
  | mk hn ht hl ih => exact .mk (Nat.le_trans hn h) (ht.mono h) ih
theorem tf_bd (most deep : Nat) (hmo : most ≤ 1000000) : ∀ (t : Ty) (d : Nat) (wi : Bool) (c : Nat), c ≤ most → (tfS most deep t d wi c).1 = true → BdTy t := by
  intro t
  induction t using Ty.rec (motive_2 := fun l => ∀ (d c : Nat), c ≤ most → (tfsS most deep l d c).1 = true → c + l.length ≤ (tfsS most deep l d c).2 ∧ (tfsS most deep l d c).2 ≤ most ∧ ∀ t, t ∈ l → BdTy t) with
  | mk k nm l ih =>
    intro d wi c hc h
    rw [tf_eq] at h
    split at h
    · rename_i hb
      have : c + 1 ≤ most := by simp at hb; exact hb.1.1
      have q := ih _ _ this h
      exact .mk (by omega) q.2.2
    · cases h
  | nil => rename_i d c hc h; exact ⟨Nat.le_refl _, hc, fun t h => by cases h⟩
  | cons t l iht ihl =>
    rename_i d c hc h
    rw [tfsS] at h ⊢
    cases hr : tfS most deep t d true c with
    | mk b c' =>
      cases b
      · rw [hr] at h; cases h
      · rw [hr] at h
        have a := tf_le most deep t d true c hc (by rw [hr])
        rw [hr] at a
        have q := ihl d c' a.2 h
        have p := iht d true c hc (by rw [hr])
        simp only at a q ⊢
        refine ⟨by rw [List.length_cons]; omega, q.2.1, fun t' h' => ?_⟩
        rcases List.mem_cons.1 h' with rfl | h'
        · exact p
        · exact q.2.2 t' h'
theorem validTy_bd {t : Ty} (h : validTyB t = true) : BdTy t := tf_bd 16 6 (by decide) t 1 false 0 (by decide) h
theorem zeroTy_bd {t : Ty} (h : zeroTyB t = true) : BdTy t := by
  unfold zeroTyB at h
  obtain ⟨k, nm, l⟩ := t
  cases l with
  | nil => exact .mk (Nat.zero_le _) (fun t h => by cases h)
  | cons a l => simp [Ty.kids] at h
theorem formed_bd {op : Int} {nm : ByteArray} {N : Int} {ty : Ty} {n : Nat} (h : formedB op nm N ty n = true) : BdTy ty := by
  unfold formedB at h
  simp only [Bool.and_eq_true] at h
  have := h.2.2
  unfold tyOk at this
  split at this
  · simp only [Bool.and_eq_true] at this; exact validTy_bd this.2
  · exact zeroTy_bd this
theorem f_bd (most deep : Nat) (hmo : most ≤ 1000000) : ∀ (t : Tm) (d : Nat) (c : Nat), c ≤ most → (fS most deep t d c).1 = true → BdTm t := by
  intro t
  induction t using Tm.rec (motive_2 := fun l => ∀ (d c : Nat), c ≤ most → (fsS most deep l d c).1 = true → c + l.length ≤ (fsS most deep l d c).2 ∧ (fsS most deep l d c).2 ≤ most ∧ ∀ t, t ∈ l → BdTm t) with
  | mk op nm N ty l ih =>
    intro d c hc h
    rw [f_eq] at h
    split at h
    · rename_i hb
      have hb' := hb
      simp only [Bool.and_eq_true, decide_eq_true_eq] at hb'
      have q := ih _ _ hb'.1.1 h
      exact .mk (by omega) (formed_bd hb'.2) q.2.2
    · cases h
  | nil => rename_i d c hc h; exact ⟨Nat.le_refl _, hc, fun t h => by cases h⟩
  | cons t l iht ihl =>
    rename_i d c hc h
    rw [fsS] at h ⊢
    cases hr : fS most deep t d c with
    | mk b c' =>
      cases b
      · rw [hr] at h; cases h
      · rw [hr] at h
        have a := f_le most deep t d c hc (by rw [hr])
        rw [hr] at a
        have q := ihl d c' a.2 h
        have p := iht d c hc (by rw [hr])
        simp only at a q ⊢
        refine ⟨by rw [List.length_cons]; omega, q.2.1, fun t' h' => ?_⟩
        rcases List.mem_cons.1 h' with rfl | h'
        · exact p
        · exact q.2.2 t' h'
theorem valid_bd {t : Tm} (h : validB t = true) : BdTm t := f_bd 2000 64 (by decide) t 1 0 (by decide) h
set_option maxRecDepth 100000 in
set_option maxHeartbeats 4000000 in
theorem read_long {s : ByteArray} {cl : Value} {w : World} (hs : 65536 < s.size) (hs2 : s.size ≤ 9223372036854775807) :
    Calls Tryz.prog 31 #[.string s, cl] w fun e w' => e = .returned (.tuple #[.int .i64 0, .int .i64 3]) ∧ Kept (fun _ => False) w w' := by
  have i1 : (65536 : Int) < s.size := by omega
  go_enter_defers Tryz.func31, Tryz.ntmps31
  go_wp2_with fail
  refine ⟨_, results_cc Tryz.results31 rfl rfl (load_i (x := 0) ?_) (load_e (x := 3) ?_), rfl, ?_⟩
  · exact (Blk.new w 3 _).alloc _
  · exact Blk.new' 28 _ (by simp)
  · exact ((Kept.refl _ _).alloc _).alloc _
def tm0 : Tm := .mk 0 nil0 0 ty0 []
def parseQ (f : Nat) (s : ByteArray) : Except ER (Tm × PS) := wholeF s (fun σ => termS f s 1 σ)
def parseT (f : Nat) (s : ByteArray) : Tm := if 65536 < s.size then tm0 else match parseQ f s with | .error _ => tm0 | .ok q => if validB q.1 then q.1 else tm0
def parseA (f : Nat) (s : ByteArray) : Int := if 65536 < s.size then 0 else rdAt (parseQ f s)
def parseE (f : Nat) (s : ByteArray) : Int := if 65536 < s.size then 3 else match parseQ f s with | .error r => if r.1 then 4 else 2 | .ok q => if validB q.1 then 0 else 5
def ParseP (f : Nat) (s : ByteArray) (w : World) (e : Ending) (w' : World) : Prop := ∃ tv, e = .returned (.tuple #[tv, .int .i64 (parseA f s), .int .i64 (parseE f s)]) ∧ VTm w.heap.size (parseT f s) w' tv ∧ Kept (fun _ => False) w w'
theorem sm_whole {f : Nat} {s : ByteArray} {t : Tm} {σ : PS} (hs : s.size ≤ 65536) (h : parseQ f s = .ok (t, σ)) : SmTm 65536 t := by
  unfold parseQ wholeF at h
  cases h1 : advS s ps0 with
  | error r => rw [h1] at h; cases h
  | ok σ1 =>
    rw [h1] at h
    simp only [bP] at h
    cases h2 : termS f s 1 σ1 with
    | error r => rw [h2] at h; cases h
    | ok q =>
      obtain ⟨t2, σ2⟩ := q
      rw [h2] at h
      simp only [bT] at h
      split at h
      · cases h
        exact (sm_term hs f _ _ _ _ (st_adv hs ⟨Nat.zero_le _, Nat.zero_le _⟩ h1) h2).1
      · cases h
set_option maxRecDepth 100000 in
set_option maxHeartbeats 8000000 in
theorem parse_any {f : Nat} {s : ByteArray} {w : World} (hf : 14 * (s.size + 2) < f) (hs2 : s.size ≤ 9223372036854775807) (hgl : Gl w) : Calls Tryz.prog 11 #[.string s] w (ParseP f s w) := by
  have hmf : ∀ (fn : Fn) (first cap : Array Value) (w : World), (Instr.makeFunc fn first cap).run Tryz.prog w = .ok (.func fn first cap) w := fun _ _ _ _ => rfl
  have hgt := hgl.lt
  have bR : Blk ((w.alloc (.cells #[.int .i64 0, .string ⟨#[]⟩, .int .i64 0, .int .i64 0, .string ⟨#[]⟩, .slice none 0 0, .slice none 0 0] 27)).alloc (.cells #[.int .i64 0, .string ⟨#[]⟩, .int .i64 0, .int .i64 0, .string ⟨#[]⟩, .slice none 0 0, .slice none 0 0] 27)) w.heap.size 27 z27 := (Blk.new w 27 _).alloc _
  have bO : Blk ((w.alloc (.cells #[.int .i64 0, .string ⟨#[]⟩, .int .i64 0, .int .i64 0, .string ⟨#[]⟩, .slice none 0 0, .slice none 0 0] 27)).alloc (.cells #[.int .i64 0, .string ⟨#[]⟩, .int .i64 0, .int .i64 0, .string ⟨#[]⟩, .slice none 0 0, .slice none 0 0] 27)) (w.heap.size + 1) 27 z27 := Blk.new' 27 _ (by simp)
  have K0 : Kept (fun _ => False) w ((w.alloc (.cells #[.int .i64 0, .string ⟨#[]⟩, .int .i64 0, .int .i64 0, .string ⟨#[]⟩, .slice none 0 0, .slice none 0 0] 27)).alloc (.cells #[.int .i64 0, .string ⟨#[]⟩, .int .i64 0, .int .i64 0, .string ⟨#[]⟩, .slice none 0 0, .slice none 0 0] 27)) := ((Kept.refl _ _).alloc _).alloc _
  have G0 : Gl ((w.alloc (.cells #[.int .i64 0, .string ⟨#[]⟩, .int .i64 0, .int .i64 0, .string ⟨#[]⟩, .slice none 0 0, .slice none 0 0] 27)).alloc (.cells #[.int .i64 0, .string ⟨#[]⟩, .int .i64 0, .int .i64 0, .string ⟨#[]⟩, .slice none 0 0, .slice none 0 0] 27)) := (hgl.alloc _).alloc _
  have Z0 : Hid (((w.alloc (.cells #[.int .i64 0, .string ⟨#[]⟩, .int .i64 0, .int .i64 0, .string ⟨#[]⟩, .slice none 0 0, .slice none 0 0] 27)).alloc (.cells #[.int .i64 0, .string ⟨#[]⟩, .int .i64 0, .int .i64 0, .string ⟨#[]⟩, .slice none 0 0, .slice none 0 0] 27)).heap.size = w.heap.size + 2) := Lib.hid (by simp)
  by_cases hs : 65536 < s.size
  · have HA : Hid (parseA f s = 0) := Lib.hid (if_pos hs)
    have HE : Hid (parseE f s = 3) := Lib.hid (if_pos hs)
    have HT : Hid (parseT f s = tm0) := Lib.hid (if_pos hs)
    go_enter Tryz.func11, Tryz.ntmps11
    go_wp2_with fail
    refine (read_long hs hs2).mono ?_
    rintro e w1 ⟨rfl, k1⟩
    have bR1 := bR.kept k1 (fun h => h)
    have K1 := K0.trans k1
    have r0 : w1.cell? ⟨w.heap.size, 0, none⟩ = some (.int .i64 0) := bR1.cell 0
    have f0 := bR1.frozen 0
    have r1 : w1.cell? ⟨w.heap.size, 1, none⟩ = some (.string ⟨#[]⟩) := bR1.cell 1
    have f1 := bR1.frozen 1
    have r2 : w1.cell? ⟨w.heap.size, 2, none⟩ = some (.int .i64 0) := bR1.cell 2
    have f2 := bR1.frozen 2
    have r3 : w1.cell? ⟨w.heap.size, 3, none⟩ = some (.int .i64 0) := bR1.cell 3
    have f3 := bR1.frozen 3
    have r4 : w1.cell? ⟨w.heap.size, 4, none⟩ = some (.string ⟨#[]⟩) := bR1.cell 4
    have f4 := bR1.frozen 4
    have r5 : w1.cell? ⟨w.heap.size, 5, none⟩ = some (.slice none 0 0) := bR1.cell 5
    have f5 := bR1.frozen 5
    have r6 : w1.cell? ⟨w.heap.size, 6, none⟩ = some (.slice none 0 0) := bR1.cell 6
    have f6 := bR1.frozen 6
    have BR := Lib.hid bR1
    have KP := Lib.hid K1
    clear bR1 K1
    go_wp2_with fail
    have bF := r7 (x0 := .int .i64 0) (x1 := .string ⟨#[]⟩) (x2 := .int .i64 0) (x3 := .int .i64 0) (x4 := .string ⟨#[]⟩) (x5 := .slice none 0 0) (x6 := .slice none 0 0) BR.out rfl
    exact bodyPost_ret (results_ctt Tryz.results11 rfl (load_tm (t := tm0) bF)) rfl ⟨_, by rw [HA.out, HE.out]; rfl, by rw [HT.out]; exact ⟨_, _, rfl, .nil0, .nil0⟩, (((((((KP.out.setCell (p := ⟨w.heap.size, 0, none⟩) (Or.inr (Nat.le_refl _)) _).setCell (p := ⟨w.heap.size, 1, none⟩) (Or.inr (Nat.le_refl _)) _).setCell (p := ⟨w.heap.size, 2, none⟩) (Or.inr (Nat.le_refl _)) _).setCell (p := ⟨w.heap.size, 3, none⟩) (Or.inr (Nat.le_refl _)) _).setCell (p := ⟨w.heap.size, 4, none⟩) (Or.inr (Nat.le_refl _)) _).setCell (p := ⟨w.heap.size, 5, none⟩) (Or.inr (Nat.le_refl _)) _).setCell (p := ⟨w.heap.size, 6, none⟩) (Or.inr (Nat.le_refl _)) _)⟩
  have hs' : s.size ≤ 65536 := by omega
  have hrd := read_any (o := w.heap.size + 1) (s := s) (F := fun σ => termS f s 1 σ) (V := Lies (w.heap.size + 1) (w.heap.size + 5)) (w := ((w.alloc (.cells #[.int .i64 0, .string ⟨#[]⟩, .int .i64 0, .int .i64 0, .string ⟨#[]⟩, .slice none 0 0, .slice none 0 0] 27)).alloc (.cells #[.int .i64 0, .string ⟨#[]⟩, .int .i64 0, .int .i64 0, .string ⟨#[]⟩, .slice none 0 0, .slice none 0 0] 27))) hs' G0 (by rw [Z0.out]; omega) (by omega)
    (by
      intro σ1 w1 p1 k1 z1 h1
      rw [Z0.out] at p1 z1 ⊢
      have hm := mu_le s σ1
      refine (parse1_any (f := f) hs' p1 (by omega) rfl (bO.kept k1 (fun h => h)) (by omega) (by omega)).mono ?_
      intro e w2 hc
      cases hq : termS f s 1 σ1 with
      | error r => rw [hq] at hc; exact hc
      | ok q =>
        obtain ⟨t, σ2⟩ := q
        rw [hq] at hc
        obtain ⟨c1, ⟨tk, kk, c2, c3, c4⟩, c5⟩ := hc
        exact ⟨c1, ⟨tk, kk, c2, c3.mono (fun k _ h => by omega), c4.mono (fun k _ h => by omega)⟩, c5⟩)
    (by
      rintro a w2 w3 ⟨tk, kk, c2, c3, c4⟩ z2 k3
      rw [Z0.out] at z2 k3
      exact ⟨tk, kk, c2.kept k3 (by show ¬ (w.heap.size + 1 = w.heap.size + 2 ∨ w.heap.size + 1 = w.heap.size + 2 + 1); omega), c3.frame (Same.of_kept k3 (fun k h e => by omega)), c4.frame (Same.of_kept k3 (fun k h e => by omega))⟩)
  have HRD := Lib.hid hrd
  clear hrd
  cases hq : parseQ f s with
  | error r =>
    have HA : Hid (parseA f s = r.2) := Lib.hid (by unfold parseA; rw [if_neg hs, hq]; rfl)
    have HE : Hid (parseE f s = if r.1 then 4 else 2) := Lib.hid (by unfold parseE; rw [if_neg hs, hq])
    have HT : Hid (parseT f s = tm0) := Lib.hid (by unfold parseT; rw [if_neg hs, hq])
    have HAA : Hid (rdAt (wholeF s (fun σ => termS f s 1 σ)) = r.2) := Lib.hid (by show rdAt (parseQ f s) = _; rw [hq]; rfl)
    have HEE : Hid (rdE (wholeF s (fun σ => termS f s 1 σ)) = if r.1 then 4 else 2) := Lib.hid (by show rdE (parseQ f s) = _; rw [hq]; rfl)
    clear hq
    go_enter Tryz.func11, Tryz.ntmps11
    go_wp2_with fail
    refine HRD.out.mono ?_
    rintro e w1 ⟨rfl, k1, _⟩
    rw [HAA.out, HEE.out]
    have bR1 := bR.kept k1 (by show ¬ w.heap.size = w.heap.size + 1; omega)
    have K1 := K0.via k1 (fun x hx e => by omega)
    have r0 : w1.cell? ⟨w.heap.size, 0, none⟩ = some (.int .i64 0) := bR1.cell 0
    have f0 := bR1.frozen 0
    have r1 : w1.cell? ⟨w.heap.size, 1, none⟩ = some (.string ⟨#[]⟩) := bR1.cell 1
    have f1 := bR1.frozen 1
    have r2 : w1.cell? ⟨w.heap.size, 2, none⟩ = some (.int .i64 0) := bR1.cell 2
    have f2 := bR1.frozen 2
    have r3 : w1.cell? ⟨w.heap.size, 3, none⟩ = some (.int .i64 0) := bR1.cell 3
    have f3 := bR1.frozen 3
    have r4 : w1.cell? ⟨w.heap.size, 4, none⟩ = some (.string ⟨#[]⟩) := bR1.cell 4
    have f4 := bR1.frozen 4
    have r5 : w1.cell? ⟨w.heap.size, 5, none⟩ = some (.slice none 0 0) := bR1.cell 5
    have f5 := bR1.frozen 5
    have r6 : w1.cell? ⟨w.heap.size, 6, none⟩ = some (.slice none 0 0) := bR1.cell 6
    have f6 := bR1.frozen 6
    have BR := Lib.hid bR1
    have KP := Lib.hid K1
    clear bR1 K1
    obtain ⟨r1, r2⟩ := r
    cases r1
    · rw [if_neg (by simp)] at HE ⊢
      go_wp2_with fail
      have bF := r7 (x0 := .int .i64 0) (x1 := .string ⟨#[]⟩) (x2 := .int .i64 0) (x3 := .int .i64 0) (x4 := .string ⟨#[]⟩) (x5 := .slice none 0 0) (x6 := .slice none 0 0) BR.out rfl
      exact bodyPost_ret (results_ctt Tryz.results11 rfl (load_tm (t := tm0) bF)) rfl ⟨_, by rw [HA.out, HE.out]; rfl, by rw [HT.out]; exact ⟨_, _, rfl, .nil0, .nil0⟩, (((((((KP.out.setCell (p := ⟨w.heap.size, 0, none⟩) (Or.inr (Nat.le_refl _)) _).setCell (p := ⟨w.heap.size, 1, none⟩) (Or.inr (Nat.le_refl _)) _).setCell (p := ⟨w.heap.size, 2, none⟩) (Or.inr (Nat.le_refl _)) _).setCell (p := ⟨w.heap.size, 3, none⟩) (Or.inr (Nat.le_refl _)) _).setCell (p := ⟨w.heap.size, 4, none⟩) (Or.inr (Nat.le_refl _)) _).setCell (p := ⟨w.heap.size, 5, none⟩) (Or.inr (Nat.le_refl _)) _).setCell (p := ⟨w.heap.size, 6, none⟩) (Or.inr (Nat.le_refl _)) _)⟩
    · rw [if_pos rfl] at HE ⊢
      go_wp2_with fail
      have bF := r7 (x0 := .int .i64 0) (x1 := .string ⟨#[]⟩) (x2 := .int .i64 0) (x3 := .int .i64 0) (x4 := .string ⟨#[]⟩) (x5 := .slice none 0 0) (x6 := .slice none 0 0) BR.out rfl
      exact bodyPost_ret (results_ctt Tryz.results11 rfl (load_tm (t := tm0) bF)) rfl ⟨_, by rw [HA.out, HE.out]; rfl, by rw [HT.out]; exact ⟨_, _, rfl, .nil0, .nil0⟩, (((((((KP.out.setCell (p := ⟨w.heap.size, 0, none⟩) (Or.inr (Nat.le_refl _)) _).setCell (p := ⟨w.heap.size, 1, none⟩) (Or.inr (Nat.le_refl _)) _).setCell (p := ⟨w.heap.size, 2, none⟩) (Or.inr (Nat.le_refl _)) _).setCell (p := ⟨w.heap.size, 3, none⟩) (Or.inr (Nat.le_refl _)) _).setCell (p := ⟨w.heap.size, 4, none⟩) (Or.inr (Nat.le_refl _)) _).setCell (p := ⟨w.heap.size, 5, none⟩) (Or.inr (Nat.le_refl _)) _).setCell (p := ⟨w.heap.size, 6, none⟩) (Or.inr (Nat.le_refl _)) _)⟩
  | ok q =>
    obtain ⟨t, σ2⟩ := q
    have hsm := (sm_whole hs' hq).mono (N' := big) (by decide)
    have HAA : Hid (rdAt (wholeF s (fun σ => termS f s 1 σ)) = 0) := Lib.hid (by show rdAt (parseQ f s) = _; rw [hq]; rfl)
    have HEE : Hid (rdE (wholeF s (fun σ => termS f s 1 σ)) = 0) := Lib.hid (by show rdE (parseQ f s) = _; rw [hq]; rfl)
    have HA : Hid (parseA f s = 0) := Lib.hid (by unfold parseA; rw [if_neg hs, hq]; rfl)
    have HEV : Hid (parseE f s = if validB t then 0 else 5) := Lib.hid (by unfold parseE; rw [if_neg hs, hq])
    have HTV : Hid (parseT f s = if validB t then t else tm0) := Lib.hid (by unfold parseT; rw [if_neg hs, hq])
    have HQ := Lib.hid hq
    clear hq
    go_enter Tryz.func11, Tryz.ntmps11
    go_wp2_with fail
    refine HRD.out.mono ?_
    rintro e w1 ⟨rfl, k1, hl⟩
    rw [HAA.out, HEE.out]
    obtain ⟨tk, kk, bT, hty, htm⟩ := hl t σ2 HQ.out
    clear hl
    obtain ⟨ta, tn, tc, rfl⟩ := hty.slice
    obtain ⟨ma, mn, mc, rfl⟩ := htm.slice
    have bR1 := bR.kept k1 (by show ¬ w.heap.size = w.heap.size + 1; omega)
    have K1 := K0.via k1 (fun x hx e => by omega)
    have y0 : w1.cell? ⟨w.heap.size + 1, 0, none⟩ = some (.int .i64 t.op) := bT.cell 0
    have y1 : w1.cell? ⟨w.heap.size + 1, 1, none⟩ = some (.string t.name) := bT.cell 1
    have y2 : w1.cell? ⟨w.heap.size + 1, 2, none⟩ = some (.int .i64 t.n) := bT.cell 2
    have y3 : w1.cell? ⟨w.heap.size + 1, 3, none⟩ = some (.int .i64 t.ty.kind) := bT.cell 3
    have y4 : w1.cell? ⟨w.heap.size + 1, 4, none⟩ = some (.string t.ty.name) := bT.cell 4
    have y5 : w1.cell? ⟨w.heap.size + 1, 5, none⟩ = some (.slice ta tn tc) := bT.cell 5
    have y6 : w1.cell? ⟨w.heap.size + 1, 6, none⟩ = some (.slice ma mn mc) := bT.cell 6
    have HV := Lib.hid (valid_any hty htm hsm)
    go_wp2_with fail
    refine HV.out.mono ?_
    rintro e w2 ⟨rfl, k2⟩
    have bR2 := bR1.kept k2 (fun h => h)
    have bT2 := bT.kept k2 (fun h => h)
    have K2 := K1.trans k2
    have l2 := bT2.lt
    cases hv : validB t
    · have HE : Hid (parseE f s = 5) := Lib.hid (by rw [HEV.out, hv]; rfl)
      have HT : Hid (parseT f s = tm0) := Lib.hid (by rw [HTV.out, hv]; rfl)
      have r0 : w2.cell? ⟨w.heap.size, 0, none⟩ = some (.int .i64 0) := bR2.cell 0
      have f0 := bR2.frozen 0
      have r1 : w2.cell? ⟨w.heap.size, 1, none⟩ = some (.string ⟨#[]⟩) := bR2.cell 1
      have f1 := bR2.frozen 1
      have r2 : w2.cell? ⟨w.heap.size, 2, none⟩ = some (.int .i64 0) := bR2.cell 2
      have f2 := bR2.frozen 2
      have r3 : w2.cell? ⟨w.heap.size, 3, none⟩ = some (.int .i64 0) := bR2.cell 3
      have f3 := bR2.frozen 3
      have r4 : w2.cell? ⟨w.heap.size, 4, none⟩ = some (.string ⟨#[]⟩) := bR2.cell 4
      have f4 := bR2.frozen 4
      have r5 : w2.cell? ⟨w.heap.size, 5, none⟩ = some (.slice none 0 0) := bR2.cell 5
      have f5 := bR2.frozen 5
      have r6 : w2.cell? ⟨w.heap.size, 6, none⟩ = some (.slice none 0 0) := bR2.cell 6
      have f6 := bR2.frozen 6
      have BR := Lib.hid bR2
      have KP := Lib.hid K2
      clear bR1 K1 bR2 K2 bT bT2
      go_wp2_with fail
      have bF := r7 (x0 := .int .i64 0) (x1 := .string ⟨#[]⟩) (x2 := .int .i64 0) (x3 := .int .i64 0) (x4 := .string ⟨#[]⟩) (x5 := .slice none 0 0) (x6 := .slice none 0 0) BR.out rfl
      exact bodyPost_ret (results_ctt Tryz.results11 rfl (load_tm (t := tm0) bF)) rfl ⟨_, by rw [HA.out, HE.out]; rfl, by rw [HT.out]; exact ⟨_, _, rfl, .nil0, .nil0⟩, (((((((KP.out.setCell (p := ⟨w.heap.size, 0, none⟩) (Or.inr (Nat.le_refl _)) _).setCell (p := ⟨w.heap.size, 1, none⟩) (Or.inr (Nat.le_refl _)) _).setCell (p := ⟨w.heap.size, 2, none⟩) (Or.inr (Nat.le_refl _)) _).setCell (p := ⟨w.heap.size, 3, none⟩) (Or.inr (Nat.le_refl _)) _).setCell (p := ⟨w.heap.size, 4, none⟩) (Or.inr (Nat.le_refl _)) _).setCell (p := ⟨w.heap.size, 5, none⟩) (Or.inr (Nat.le_refl _)) _).setCell (p := ⟨w.heap.size, 6, none⟩) (Or.inr (Nat.le_refl _)) _)⟩
    · have HE : Hid (parseE f s = 0) := Lib.hid (by rw [HEV.out, hv]; rfl)
      have HT : Hid (parseT f s = t) := Lib.hid (by rw [HTV.out, hv]; rfl)
      have hty2 := hty.frame (Same.of_kept k2 (fun _ _ e => e))
      have htm2 := htm.frame (Same.of_kept k2 (fun _ _ e => e))
      have x0 : w2.cell? ⟨w.heap.size + 1, 0, none⟩ = some (.int .i64 t.op) := bT2.cell 0
      have x1 : w2.cell? ⟨w.heap.size + 1, 1, none⟩ = some (.string t.name) := bT2.cell 1
      have x2 : w2.cell? ⟨w.heap.size + 1, 2, none⟩ = some (.int .i64 t.n) := bT2.cell 2
      have x3 : w2.cell? ⟨w.heap.size + 1, 3, none⟩ = some (.int .i64 t.ty.kind) := bT2.cell 3
      have x4 : w2.cell? ⟨w.heap.size + 1, 4, none⟩ = some (.string t.ty.name) := bT2.cell 4
      have x5 : w2.cell? ⟨w.heap.size + 1, 5, none⟩ = some (.slice ta tn tc) := bT2.cell 5
      have x6 : w2.cell? ⟨w.heap.size + 1, 6, none⟩ = some (.slice ma mn mc) := bT2.cell 6
      have HC := Lib.hid (clone_any (valid_bd hv) w2 _ _ _ hty2 htm2)
      clear hty2 htm2 y0 y1 y2 y3 y4 y5 y6
      go_wp2_with fail
      refine HC.out.mono ?_
      rintro e w3 ⟨v, u, rfl, hv3, hu3, k3⟩
      obtain ⟨va, vn, vc, rfl⟩ := hv3.slice
      obtain ⟨ua, un, uc, rfl⟩ := hu3.slice
      unfold tmVal
      have bR3 := bR2.kept k3 (fun h => h)
      have K3 := K2.trans k3
      have r0 : w3.cell? ⟨w.heap.size, 0, none⟩ = some (.int .i64 0) := bR3.cell 0
      have f0 := bR3.frozen 0
      have r1 : w3.cell? ⟨w.heap.size, 1, none⟩ = some (.string ⟨#[]⟩) := bR3.cell 1
      have f1 := bR3.frozen 1
      have r2 : w3.cell? ⟨w.heap.size, 2, none⟩ = some (.int .i64 0) := bR3.cell 2
      have f2 := bR3.frozen 2
      have r3 : w3.cell? ⟨w.heap.size, 3, none⟩ = some (.int .i64 0) := bR3.cell 3
      have f3 := bR3.frozen 3
      have r4 : w3.cell? ⟨w.heap.size, 4, none⟩ = some (.string ⟨#[]⟩) := bR3.cell 4
      have f4 := bR3.frozen 4
      have r5 : w3.cell? ⟨w.heap.size, 5, none⟩ = some (.slice none 0 0) := bR3.cell 5
      have f5 := bR3.frozen 5
      have r6 : w3.cell? ⟨w.heap.size, 6, none⟩ = some (.slice none 0 0) := bR3.cell 6
      have f6 := bR3.frozen 6
      have BR := Lib.hid bR3
      have KP := Lib.hid K3
      have V3 := Lib.hid hv3
      have U3 := Lib.hid hu3
      clear bR1 K1 bR2 K2 bT bT2 bR3 K3 hv3 hu3
      go_wp2_with fail
      have bF := r7 (x0 := .int .i64 t.op) (x1 := .string t.name) (x2 := .int .i64 t.n) (x3 := .int .i64 t.ty.kind) (x4 := .string t.ty.name) (x5 := .slice va vn vc) (x6 := .slice ua un uc) BR.out rfl
      refine bodyPost_ret (results_ctt Tryz.results11 rfl (load_tm (t := t) bF)) rfl ⟨_, by rw [HA.out, HE.out]; rfl, ?_, (((((((KP.out.setCell (p := ⟨w.heap.size, 0, none⟩) (Or.inr (Nat.le_refl _)) _).setCell (p := ⟨w.heap.size, 1, none⟩) (Or.inr (Nat.le_refl _)) _).setCell (p := ⟨w.heap.size, 2, none⟩) (Or.inr (Nat.le_refl _)) _).setCell (p := ⟨w.heap.size, 3, none⟩) (Or.inr (Nat.le_refl _)) _).setCell (p := ⟨w.heap.size, 4, none⟩) (Or.inr (Nat.le_refl _)) _).setCell (p := ⟨w.heap.size, 5, none⟩) (Or.inr (Nat.le_refl _)) _).setCell (p := ⟨w.heap.size, 6, none⟩) (Or.inr (Nat.le_refl _)) _)⟩
      rw [HT.out]
      exact ⟨_, _, rfl, (V3.out.frame (set7 (g := w.heap.size) (fun q h => by omega))).mono (fun q _ h => by omega), (U3.out.frame (set7 (g := w.heap.size) (fun q h => by omega))).mono (fun q _ h => by omega)⟩
end Go.Proofs.YtckjlliobebodaaGreatDoor
