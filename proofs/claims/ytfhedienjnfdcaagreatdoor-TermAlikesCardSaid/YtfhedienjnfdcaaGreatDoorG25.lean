/- Texts OkS RSbF of this proof, in one. -/
import Derived.Test.YtfhedienjnfdcaaGreatDoorG24
set_option linter.unusedVariables false
set_option linter.unusedSimpArgs false
set_option maxRecDepth 100000
set_option maxHeartbeats 32000000
namespace Go.Proofs.YtfhedienjnfdcaaGreatDoor
open Go.RowKit
theorem ident_sz {s : ByteArray} (h : identB s = true) : s.size ≤ 16 := by
 unfold identB at h
 simp only [Bool.and_eq_true, decide_eq_true_eq] at h
 omega
theorem named_sz {s : ByteArray} (h : namedB s = true) : s.size ≤ 17 := by
 unfold namedB at h
 have h1 := ident_sz h
 rcases trim_parts s with ⟨_, h2, h3⟩ | ⟨_, h2⟩
 ·rw [h3] at h1
  have : s.size ≤ (s.extract 0 (s.size - 1)).size + 1 := by simp [ByteArray.size_extract]; omega
  omega
 ·rw [h2] at h1; omega
theorem head_sz {k : Int} {nm : ByteArray} {n : Nat} {wi : Bool} (h : tyHead k nm n wi = true) : nm.size ≤ 17 := by
 have key : ∀ {s : ByteArray}, (s.toList == []) = true → s.size ≤ 17 := by
  intro s h
  rw [beq_iff_eq, Go.ByteArray.toList_eq] at h
  cases s with | mk a => simp at h; rw [h]; decide
 unfold tyHead at h
 split at h
 ·rw [Bool.and_eq_true] at h; exact key h.2
 ·split at h
  ·rw [Bool.and_eq_true] at h; exact key h.2
  ·split at h
   ·rw [Bool.and_eq_true] at h; have := ident_sz h.1; omega
   ·split at h
    ·rw [Bool.and_eq_true] at h; exact key h.2
    ·split at h
     ·rw [Bool.and_eq_true] at h; exact key h.2
     ·cases h
theorem tf_sm (most deep : Nat) : ∀ (t : Ty) (d : Nat) (wi : Bool) (c : Nat), (tfS most deep t d wi c).1 = true → SmTy big t := by
 intro t
 induction t using Ty.rec (motive_2 := fun l => ∀ (d c : Nat), (tfsS most deep l d c).1 = true → ∀ t, t ∈ l → SmTy big t) with
 | mk k nm l ih =>
  intro d wi c h
  rw [tf_eq] at h
  split at h
  ·rename_i hb
   have hh : tyHead k nm l.length wi = true := by simp at hb; exact hb.2
   have := head_sz hh
   exact .mk (by unfold big; omega) (ih _ _ h)
  ·cases h
 | nil => rename_i d c h t ht; cases ht
 | cons t l iht ihl =>
  rename_i d c h t' h'
  rw [tfsS] at h
  cases hr : tfS most deep t d true c with
  | mk b c' =>
   cases b
   ·rw [hr] at h; cases h
   ·rw [hr] at h
    rcases List.mem_cons.1 h' with rfl | h'
    ·exact iht d true c (by rw [hr])
    ·exact ihl d c' h t' h'
theorem formed_sm {op : Int} {nm : ByteArray} {N : Int} {ty : Ty} {n : Nat} (h : formedB op nm N ty n = true) : nm.size ≤ 17 ∧ SmTy big ty := by
 obtain ⟨_, h2, _, h4⟩ := formed_parts h
 constructor
 ·unfold nmOk at h2
  split at h2
  ·exact named_sz h2
  ·split at h2
   ·have := ident_sz h2; omega
   ·have : nm = ⟨#[]⟩ := by
     rw [beq_iff_eq] at h2
     rw [Go.ByteArray.toList_eq] at h2
     cases nm with | mk a => simp at h2; rw [h2]
    rw [this]; decide
 ·unfold tyOk at h4
  split at h4
  ·rw [Bool.and_eq_true] at h4
   exact tf_sm 16 6 ty 1 false 0 h4.2
  ·rw [zero_ty h4]; exact .mk (by decide) (fun t h => by cases h)
theorem ok_sm {t : Tm} (h : OkTm t) : SmTm big t := by
 induction h with
 | mk h hn hl ih => exact .mk (by have := (formed_sm h).1; unfold big; omega) (formed_sm h).2 ih
theorem ok_bd {t : Tm} (h : OkTm t) : BdTm t := by
 induction h with
 | mk h hn hl ih => exact .mk (by omega) (formed_bd h) ih
theorem ok_name {op : Int} {nm : ByteArray} {N : Int} {ty : Ty} {ks : List Tm} (h : OkTm (.mk op nm N ty ks)) : nm.size ≤ 17 := (formed_sm h.formed).1
theorem rsub_any {t : Tm} (h : OkTm t) : RSuC t := by
 induction h with
 | mk hf hn hl ih =>
  rename_i op nm N ty ks
  have hb : BdTm (.mk op nm N ty ks) := .mk (by omega) (formed_bd hf) (fun u hu => ok_bd (hl u hu))
  by_cases h : op = 20
  ·subst h; exact rsub_name hb
  ·exact rsub_one h (formed_bd hf) ih (by omega) (fun u hu => ok_bd (hl u hu)) (fun hbi => binder_kids hbi (formed_parts hf).1) (by have := (formed_sm hf).1; omega)
end Go.Proofs.YtfhedienjnfdcaaGreatDoor
