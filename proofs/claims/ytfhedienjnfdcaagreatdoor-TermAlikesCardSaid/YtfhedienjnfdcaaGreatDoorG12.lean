/- Texts Bd of this proof, in one. -/
import Derived.Test.YtfhedienjnfdcaaGreatDoorG9
import Derived.Test.YtfhedienjnfdcaaGreatDoorG11
set_option linter.unusedVariables false
set_option linter.unusedSimpArgs false
set_option maxRecDepth 100000
set_option maxHeartbeats 32000000
namespace Go.Proofs.YtfhedienjnfdcaaGreatDoor
open Go.RowKit
theorem SmTy.mono {N N' : Nat} (h : N ≤ N') {t : Ty} (ht : SmTy N t) : SmTy N' t := by
 induction ht with
 | mk hn hl ih => exact .mk (Nat.le_trans hn h) ih
theorem SmTm.mono {N N' : Nat} (h : N ≤ N') {t : Tm} (ht : SmTm N t) : SmTm N' t := by
 induction ht with
 | mk hn ht hl ih => exact .mk (Nat.le_trans hn h) (ht.mono h) ih
theorem tf_bd (most deep : Nat) (hmo : most ≤ 1000000) : ∀ (t : Ty) (d : Nat) (wi : Bool) (c : Nat), c ≤ most → (tfS most deep t d wi c).1 = true → BdTy t := by
 intro t
 induction t using Ty.rec (motive_2 := fun l => ∀ (d c : Nat), c ≤ most → (tfsS most deep l d c).1 = true → c + l.length ≤ (tfsS most deep l d c).2 ∧ (tfsS most deep l d c).2 ≤ most ∧ ∀ t, t ∈ l → BdTy t) with
 | mk k nm l ih =>
  intro d wi c hc h
  rw [tf_eq] at h
  split at h
  ·rename_i hb
   have : c + 1 ≤ most := by simp at hb; exact hb.1.1
   have q := ih _ _ this h
   exact .mk (by omega) q.2.2
  ·cases h
 | nil => rename_i d c hc h; exact ⟨Nat.le_refl _, hc, fun t h => by cases h⟩
 | cons t l iht ihl =>
  rename_i d c hc h
  rw [tfsS] at h ⊢
  cases hr : tfS most deep t d true c with
  | mk b c' =>
   cases b
   ·rw [hr] at h; cases h
   ·rw [hr] at h
    have a := tf_le most deep t d true c hc (by rw [hr])
    rw [hr] at a
    have q := ihl d c' a.2 h
    have p := iht d true c hc (by rw [hr])
    simp only at a q ⊢
    refine ⟨by rw [List.length_cons]; omega, q.2.1, fun t' h' => ?_⟩
    rcases List.mem_cons.1 h' with rfl | h'
    ·exact p
    ·exact q.2.2 t' h'
theorem validTy_bd {t : Ty} (h : validTyB t = true) : BdTy t := tf_bd 16 6 (by decide) t 1 false 0 (by decide) h
theorem zeroTy_bd {t : Ty} (h : zeroTyB t = true) : BdTy t := by
 unfold zeroTyB at h
 obtain ⟨k, nm, l⟩ := t
 cases l with
 | nil => exact .mk (Nat.zero_le _) (fun t h => by cases h)
 | cons a l => simp [Ty.kids] at h
theorem formed_bd {op : Int} {nm : ByteArray} {N : Int} {ty : Ty} {n : Nat} (h : formedB op nm N ty n = true) : BdTy ty := by
 unfold formedB at h
 simp only [Bool.and_eq_true] at h
 have := h.2.2
 unfold tyOk at this
 split at this
 ·simp only [Bool.and_eq_true] at this; exact validTy_bd this.2
 ·exact zeroTy_bd this
theorem f_bd (most deep : Nat) (hmo : most ≤ 1000000) : ∀ (t : Tm) (d : Nat) (c : Nat), c ≤ most → (fS most deep t d c).1 = true → BdTm t := by
 intro t
 induction t using Tm.rec (motive_2 := fun l => ∀ (d c : Nat), c ≤ most → (fsS most deep l d c).1 = true → c + l.length ≤ (fsS most deep l d c).2 ∧ (fsS most deep l d c).2 ≤ most ∧ ∀ t, t ∈ l → BdTm t) with
 | mk op nm N ty l ih =>
  intro d c hc h
  rw [f_eq] at h
  split at h
  ·rename_i hb
   have hb' := hb
   simp only [Bool.and_eq_true, decide_eq_true_eq] at hb'
   have q := ih _ _ hb'.1.1 h
   exact .mk (by omega) (formed_bd hb'.2) q.2.2
  ·cases h
 | nil => rename_i d c hc h; exact ⟨Nat.le_refl _, hc, fun t h => by cases h⟩
 | cons t l iht ihl =>
  rename_i d c hc h
  rw [fsS] at h ⊢
  cases hr : fS most deep t d c with
  | mk b c' =>
   cases b
   ·rw [hr] at h; cases h
   ·rw [hr] at h
    have a := f_le most deep t d c hc (by rw [hr])
    rw [hr] at a
    have q := ihl d c' a.2 h
    have p := iht d c hc (by rw [hr])
    simp only at a q ⊢
    refine ⟨by rw [List.length_cons]; omega, q.2.1, fun t' h' => ?_⟩
    rcases List.mem_cons.1 h' with rfl | h'
    ·exact p
    ·exact q.2.2 t' h'
theorem valid_bd {t : Tm} (h : validB t = true) : BdTm t := f_bd 2000 64 (by decide) t 1 0 (by decide) h
end Go.Proofs.YtfhedienjnfdcaaGreatDoor
