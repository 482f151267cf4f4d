/- Texts AtX RpW RAtW RRpW BndW BdX PbW RBdW of this proof, in one. -/
import Derived.Test.YtfhedienjnfdcaaGreatDoorS0
import Derived.Test.YtfhedienjnfdcaaGreatDoorS1
import Derived.Test.YtfhedienjnfdcaaGreatDoorS2
import Derived.Test.YtfhedienjnfdcaaGreatDoorS3
import Derived.Test.YtfhedienjnfdcaaGreatDoorS4
import Derived.Test.YtfhedienjnfdcaaGreatDoorS5
import Derived.Test.YtfhedienjnfdcaaGreatDoorS6
import Derived.Test.YtfhedienjnfdcaaGreatDoorS7
import Derived.Test.YtfhedienjnfdcaaGreatDoorS8
import Derived.Test.YtfhedienjnfdcaaGreatDoorS10
import Derived.Test.YtfhedienjnfdcaaGreatDoorS11
import Derived.Test.YtfhedienjnfdcaaGreatDoorS12
import Derived.Test.YtfhedienjnfdcaaGreatDoorS14
import Derived.Test.YtfhedienjnfdcaaGreatDoorS15
import Derived.Test.YtfhedienjnfdcaaGreatDoorS16
import Derived.Test.YtfhedienjnfdcaaGreatDoorQ0
import Derived.StillTailTactics
import Derived.Deep.QuietTactic
set_option linter.unusedVariables false
set_option linter.unusedSimpArgs false
namespace Go.Proofs.YtfhedienjnfdcaaGreatDoor
open Go.RowKit
set_option maxRecDepth 100000 in
set_option maxHeartbeats 8000000 in
theorem at_any {t : Tm} {l : List Int} {ok ok' : Nat → Prop} {w : World} {tk kk vl : Value} (h1 : TyL ok w t.ty.kids tk) (h2 : TmL ok w t.kids kk) (hs : SmTm big t) (hl : InL ok' w l vl) (hb : l.length ≤ 9223372036854775807) :
    Calls Tryz.prog 24 #[tmVal t tk kk, vl] w (TmE (atPS t l) w) := by
  obtain ⟨a, c, rfl⟩ := hl.slice
  obtain ⟨p, n, cp, rfl⟩ := h1.slice
  obtain ⟨ma, mn, mc, rfl⟩ := h2.slice
  have B0 : Hid (Blk ((w.alloc (.cells #[.int .i64 t.op, .string t.name, .int .i64 t.n, .int .i64 t.ty.kind, .string t.ty.name, .slice p n cp, .slice ma mn mc] 28)).alloc (.cells #[.int .i64 0, .string ⟨#[]⟩, .int .i64 0, .int .i64 0, .string ⟨#[]⟩, .slice none 0 0, .slice none 0 0] 28)) w.heap.size 28 (tmCells t (.slice p n cp) (.slice ma mn mc)) ∧ Blk ((w.alloc (.cells #[.int .i64 t.op, .string t.name, .int .i64 t.n, .int .i64 t.ty.kind, .string t.ty.name, .slice p n cp, .slice ma mn mc] 28)).alloc (.cells #[.int .i64 0, .string ⟨#[]⟩, .int .i64 0, .int .i64 0, .string ⟨#[]⟩, .slice none 0 0, .slice none 0 0] 28)) (w.heap.size + 1) 28 z27 ∧ Kept (fun _ => False) w ((w.alloc (.cells #[.int .i64 t.op, .string t.name, .int .i64 t.n, .int .i64 t.ty.kind, .string t.ty.name, .slice p n cp, .slice ma mn mc] 28)).alloc (.cells #[.int .i64 0, .string ⟨#[]⟩, .int .i64 0, .int .i64 0, .string ⟨#[]⟩, .slice none 0 0, .slice none 0 0] 28))) := Lib.hid
    ⟨(Blk.new w 28 (tmCells t (.slice p n cp) (.slice ma mn mc))).alloc _, Blk.new' 28 _ (by simp), ((Kept.refl _ _).alloc _).alloc _⟩
  have HV := Lib.hid (fun W (k : Kept (fun _ => False) w W) => valid_any (h1.frame (Same.of_kept k (fun _ _ e => e))) (h2.frame (Same.of_kept k (fun _ _ e => e))) hs)
  have HA := Lib.hid (fun W (k : Kept (fun _ => False) w W) => at_noop57 (h1.frame (Same.of_kept k (fun _ _ e => e))) (h2.frame (Same.of_kept k (fun _ _ e => e))) (hl.frame (Same.of_kept k (fun _ _ e => e))) hb)
  clear h1 h2 hs hl hb
  unfold AtP tmVal at HA
  unfold tmVal
  have HR : Hid (atPS t l = if validB t then (if (atP t l).isSome then ((atP t l).getD tm0, 0) else (tm0, 12)) else (tm0, 1)) := Lib.hid (by unfold atPS; cases atP t l <;> rfl)
  have HSU : Hid (validB t = true → (atP t l).isSome = true → BdTm ((atP t l).getD tm0)) := Lib.hid (fun hv h => by
    cases ha : atP t l with
    | none => rw [ha] at h; cases h
    | some u => exact valid_bd (at_valid l t u hv ha))
  generalize (atP t l).getD tm0 = r at *
  generalize (atP t l).isSome = b at *
  go_enter Tryz.func24, Tryz.ntmps24
  go_wp2_with fail
  generalize ((w.alloc (.cells #[.int .i64 t.op, .string t.name, .int .i64 t.n, .int .i64 t.ty.kind, .string t.ty.name, .slice p n cp, .slice ma mn mc] 28)).alloc (.cells #[.int .i64 0, .string ⟨#[]⟩, .int .i64 0, .int .i64 0, .string ⟨#[]⟩, .slice none 0 0, .slice none 0 0] 28)) = w1 at *
  refine (HV.out _ B0.out.2.2).mono ?_
  rintro e w2 ⟨rfl, k2⟩
  have bA := B0.out.1.kept k2 (fun h => h)
  have bR := B0.out.2.1.kept k2 (fun h => h)
  have KK := Lib.hid (B0.out.2.2.trans k2)
  clear B0 k2 HV
  have gA : ∀ i, w2.cell? ⟨w.heap.size, i, none⟩ = [Value.int .i64 t.op, .string t.name, .int .i64 t.n, .int .i64 t.ty.kind, .string t.ty.name, .slice p n cp, .slice ma mn mc][i]? := bA.cell
  have gR : ∀ i, w2.cell? ⟨w.heap.size + 1, i, none⟩ = [Value.int .i64 0, .string ⟨#[]⟩, .int .i64 0, .int .i64 0, .string ⟨#[]⟩, .slice none 0 0, .slice none 0 0][i]? := bR.cell
  have fR : ∀ i, w2.frozen? ⟨w.heap.size + 1, i, none⟩ = false := bR.frozen
  have BR := Lib.hid bR
  clear bA bR
  cases hv : validB t
  · have hres : Hid (atPS t l = (tm0, 1)) := Lib.hid (by rw [HR.out, hv]; rfl)
    clear hv HA
    go_wp2_with fail
    exact bodyPost_ret (results_ct Tryz.results24 rfl (load_tm (t := tm0) (r7 BR.out rfl))) rfl ⟨_, _, by rw [hres.out]; rfl, by rw [hres.out]; exact .nil (Or.inl rfl), by rw [hres.out]; exact .nil (Or.inl rfl), k7w KK.out (Or.inr (Nat.le_succ _))⟩
  · have HVT := Lib.hid hv
    clear hv
    go_wp2_with fail
    clear gA gR fR
    refine (HA.out _ KK.out).mono ?_
    rintro e w3 ⟨tk, kk, rfl, hty, htm, k3⟩
    obtain ⟨ua, un, uc, rfl⟩ := hty.slice
    obtain ⟨va, vn, vc, rfl⟩ := htm.slice
    have BR3 := Lib.hid (BR.out.kept k3 (fun h => h))
    have KK3 := Lib.hid (KK.out.trans k3)
    have HTY := Lib.hid hty
    have HTM := Lib.hid htm
    have hRw : w.heap.size + 1 < w3.heap.size := BR3.out.lt
    clear hty htm k3 KK HA BR
    cases b
    · have hres : Hid (atPS t l = (tm0, 12)) := Lib.hid (by rw [HR.out, HVT.out]; rfl)
      clear HTY HTM HSU HR
      go_upto_region 4 with (fail)
      have KK4 := Lib.hid (KK3.out.alloc (.cells #[.int .i64 r.op, .string r.name, .int .i64 r.n, .int .i64 r.ty.kind, .string r.ty.name, .slice ua un uc, .slice va vn vc] 28))
      have BR4 := Lib.hid (BR3.out.alloc (.cells #[.int .i64 r.op, .string r.name, .int .i64 r.n, .int .i64 r.ty.kind, .string r.ty.name, .slice ua un uc, .slice va vn vc] 28))
      generalize w3.alloc (.cells #[.int .i64 r.op, .string r.name, .int .i64 r.n, .int .i64 r.ty.kind, .string r.ty.name, .slice ua un uc, .slice va vn vc] 28) = w4 at *
      have gR : ∀ i, w4.cell? ⟨w.heap.size + 1, i, none⟩ = [Value.int .i64 0, .string ⟨#[]⟩, .int .i64 0, .int .i64 0, .string ⟨#[]⟩, .slice none 0 0, .slice none 0 0][i]? := BR4.out.cell
      have fR : ∀ i, w4.frozen? ⟨w.heap.size + 1, i, none⟩ = false := BR4.out.frozen
      go_wp2_with fail
      exact bodyPost_ret (results_ct Tryz.results24 rfl (load_tm (t := tm0) (r7 BR4.out rfl))) rfl ⟨_, _, by rw [hres.out]; rfl, by rw [hres.out]; exact .nil (Or.inl rfl), by rw [hres.out]; exact .nil (Or.inl rfl), k7w KK4.out (Or.inr (Nat.le_succ _))⟩
    · have hres : Hid (atPS t l = (r, 0)) := Lib.hid (by rw [HR.out, HVT.out]; rfl)
      have HC := Lib.hid (clone_any (HSU.out HVT.out rfl))
      clear HSU HR
      go_upto_region 4 with (fail)
      have KK4 := Lib.hid (KK3.out.alloc (.cells #[.int .i64 r.op, .string r.name, .int .i64 r.n, .int .i64 r.ty.kind, .string r.ty.name, .slice ua un uc, .slice va vn vc] 28))
      have BR4 := Lib.hid (BR3.out.alloc (.cells #[.int .i64 r.op, .string r.name, .int .i64 r.n, .int .i64 r.ty.kind, .string r.ty.name, .slice ua un uc, .slice va vn vc] 28))
      have BN4 := Lib.hid (Blk.new w3 28 (tmCells r (.slice ua un uc) (.slice va vn vc)))
      have HC4 := Lib.hid (HC.out (w3.alloc (.cells #[.int .i64 r.op, .string r.name, .int .i64 r.n, .int .i64 r.ty.kind, .string r.ty.name, .slice ua un uc, .slice va vn vc] 28)) _ _ _ (HTY.out.frame (Same.alloc _ _)) (HTM.out.frame (Same.alloc _ _)))
      change Hid (Blk (w3.alloc (.cells #[.int .i64 r.op, .string r.name, .int .i64 r.n, .int .i64 r.ty.kind, .string r.ty.name, .slice ua un uc, .slice va vn vc] 28)) _ _ _) at BN4
      clear HC HTY HTM
      unfold tmVal at HC4
      generalize w3.alloc (.cells #[.int .i64 r.op, .string r.name, .int .i64 r.n, .int .i64 r.ty.kind, .string r.ty.name, .slice ua un uc, .slice va vn vc] 28) = w4 at *
      have gN : ∀ i, w4.cell? ⟨w3.heap.size, i, none⟩ = [Value.int .i64 r.op, .string r.name, .int .i64 r.n, .int .i64 r.ty.kind, .string r.ty.name, .slice ua un uc, .slice va vn vc][i]? := BN4.out.cell
      go_wp2_with fail
      clear gN
      refine HC4.out.mono ?_
      rintro e w5 ⟨tk, kk, rfl, hty5, htm5, k5⟩
      obtain ⟨pa, pn, pc, rfl⟩ := hty5.slice
      obtain ⟨qa, qn, qc, rfl⟩ := htm5.slice
      unfold tmVal
      have BR5 := Lib.hid (BR4.out.kept k5 (fun h => h))
      have KK5 := Lib.hid (KK4.out.trans k5)
      have HTY := Lib.hid (hty5.mono (ok' := fun q => w.heap.size + 1 < q) (fun q _ hq => by have := BR4.out.lt; omega))
      have HTM := Lib.hid (htm5.mono (ok' := fun q => w.heap.size + 1 < q) (fun q _ hq => by have := BR4.out.lt; omega))
      clear hty5 htm5 k5 BR4 KK4 HC4
      have gR : ∀ i, w5.cell? ⟨w.heap.size + 1, i, none⟩ = [Value.int .i64 0, .string ⟨#[]⟩, .int .i64 0, .int .i64 0, .string ⟨#[]⟩, .slice none 0 0, .slice none 0 0][i]? := BR5.out.cell
      have fR : ∀ i, w5.frozen? ⟨w.heap.size + 1, i, none⟩ = false := BR5.out.frozen
      go_wp2_with fail
      exact bodyPost_ret (results_ct Tryz.results24 rfl (load_tm (t := r) (r7 BR5.out rfl))) rfl ⟨_, _, by rw [hres.out]; rfl, by rw [hres.out]; exact (HTY.out.frame (set7 (fun q hq => by omega))).mono (fun q _ hq => by omega), by rw [hres.out]; exact (HTM.out.frame (set7 (fun q hq => by omega))).mono (fun q _ hq => by omega), k7w KK5.out (Or.inr (Nat.le_succ _))⟩
theorem setKid_sm {t u : Tm} {j : Nat} (ht : SmTm big t) (hu : SmTm big u) : SmTm big (setKid t j u) := by
  obtain ⟨op, nm, N, ty, l⟩ := t
  cases ht with
  | mk hn hty hl =>
    refine .mk hn hty (fun k hk => ?_)
    rcases List.mem_or_eq_of_mem_set hk with hk | rfl
    · exact hl k hk
    · exact hu
theorem putP_sm : ∀ (p : List Int) {t u : Tm}, SmTm big t → SmTm big u → (atP t p).isSome = true → SmTm big (putP t p u)
  | [], t, u, _, hu, _ => hu
  | i :: p, t, u, ht, hu, h => by
    rw [atP] at h
    by_cases hs : stepB t i = true
    · rw [if_pos hs] at h
      rw [putP]
      exact setKid_sm ht (putP_sm p (ht.kids _ (kid_mem hs)) hu h)
    · rw [if_neg hs] at h; cases h
theorem atP_sm : ∀ (p : List Int) {t o : Tm}, SmTm big t → atP t p = some o → SmTm big o
  | [], t, o, ht, h => by cases h; exact ht
  | i :: p, t, o, ht, h => by
    rw [atP] at h
    by_cases hs : stepB t i = true
    · rw [if_pos hs] at h
      exact atP_sm p (ht.kids _ (kid_mem hs)) h
    · rw [if_neg hs] at h; cases h
def TmB (B : Nat) (r : Tm × Int) (w : World) (e : Ending) (w' : World) : Prop := ∃ tk kk, e = .returned (.tuple #[tmVal r.1 tk kk, .int .i64 r.2]) ∧ TyL (fun k => B ≤ k) w' r.1.ty.kids tk ∧ TmL (fun k => B ≤ k) w' r.1.kids kk ∧ Kept (fun _ => False) w w'
set_option maxRecDepth 100000 in
set_option maxHeartbeats 8000000 in
theorem checked_any {t : Tm} {rr : Tm × Int} (hr : Hid (rr = if validB t then (t, 0) else (tm0, 5))) {B : Nat} {w : World} {tk kk : Value} (hB : B ≤ w.heap.size) (h1 : TyL (fun q => B ≤ q ∧ q < w.heap.size) w t.ty.kids tk) (h2 : TmL (fun q => B ≤ q ∧ q < w.heap.size) w t.kids kk) (hs : SmTm big t) :
    Calls Tryz.prog 62 #[tmVal t tk kk] w (TmB B rr w) := by
  obtain ⟨p, n, c, rfl⟩ := h1.slice
  obtain ⟨ma, mn, mc, rfl⟩ := h2.slice
  have B0 : Hid (Blk ((w.alloc (.cells #[.int .i64 t.op, .string t.name, .int .i64 t.n, .int .i64 t.ty.kind, .string t.ty.name, .slice p n c, .slice ma mn mc] 28)).alloc (.cells #[.int .i64 0, .string ⟨#[]⟩, .int .i64 0, .int .i64 0, .string ⟨#[]⟩, .slice none 0 0, .slice none 0 0] 28)) w.heap.size 28 (tmCells t (.slice p n c) (.slice ma mn mc)) ∧ Blk ((w.alloc (.cells #[.int .i64 t.op, .string t.name, .int .i64 t.n, .int .i64 t.ty.kind, .string t.ty.name, .slice p n c, .slice ma mn mc] 28)).alloc (.cells #[.int .i64 0, .string ⟨#[]⟩, .int .i64 0, .int .i64 0, .string ⟨#[]⟩, .slice none 0 0, .slice none 0 0] 28)) (w.heap.size + 1) 28 z27 ∧ Kept (fun _ => False) w ((w.alloc (.cells #[.int .i64 t.op, .string t.name, .int .i64 t.n, .int .i64 t.ty.kind, .string t.ty.name, .slice p n c, .slice ma mn mc] 28)).alloc (.cells #[.int .i64 0, .string ⟨#[]⟩, .int .i64 0, .int .i64 0, .string ⟨#[]⟩, .slice none 0 0, .slice none 0 0] 28))) := Lib.hid
    ⟨(Blk.new w 28 (tmCells t (.slice p n c) (.slice ma mn mc))).alloc _, Blk.new' 28 _ (by simp), ((Kept.refl _ _).alloc _).alloc _⟩
  have HV := Lib.hid (fun W (k : Kept (fun _ => False) w W) => valid_any (h1.frame (Same.of_kept k (fun _ _ e => e))) (h2.frame (Same.of_kept k (fun _ _ e => e))) hs)
  have HTY := Lib.hid (fun W (k : Kept (fun _ => False) w W) => h1.frame (Same.of_kept k (fun _ _ e => e)))
  have HTM := Lib.hid (fun W (k : Kept (fun _ => False) w W) => h2.frame (Same.of_kept k (fun _ _ e => e)))
  clear h1 h2 hs
  unfold tmVal
  go_enter Tryz.func62, Tryz.ntmps62
  go_wp2_with fail
  generalize ((w.alloc (.cells #[.int .i64 t.op, .string t.name, .int .i64 t.n, .int .i64 t.ty.kind, .string t.ty.name, .slice p n c, .slice ma mn mc] 28)).alloc (.cells #[.int .i64 0, .string ⟨#[]⟩, .int .i64 0, .int .i64 0, .string ⟨#[]⟩, .slice none 0 0, .slice none 0 0] 28)) = w1 at *
  refine (HV.out _ B0.out.2.2).mono ?_
  rintro e w2 ⟨rfl, k2⟩
  have BA := Lib.hid (B0.out.1.kept k2 (fun h => h))
  have BR := Lib.hid (B0.out.2.1.kept k2 (fun h => h))
  have KK := Lib.hid (B0.out.2.2.trans k2)
  clear B0 k2 HV
  have gA : ∀ i, w2.cell? ⟨w.heap.size, i, none⟩ = [Value.int .i64 t.op, .string t.name, .int .i64 t.n, .int .i64 t.ty.kind, .string t.ty.name, .slice p n c, .slice ma mn mc][i]? := BA.out.cell
  have gR : ∀ i, w2.cell? ⟨w.heap.size + 1, i, none⟩ = [Value.int .i64 0, .string ⟨#[]⟩, .int .i64 0, .int .i64 0, .string ⟨#[]⟩, .slice none 0 0, .slice none 0 0][i]? := BR.out.cell
  have fR : ∀ i, w2.frozen? ⟨w.heap.size + 1, i, none⟩ = false := BR.out.frozen
  cases hv : validB t
  · have hq : Hid (rr = (tm0, 5)) := Lib.hid (by rw [hr.out, hv]; rfl)
    clear hv hr
    go_wp2_with fail
    exact bodyPost_ret (results_ct Tryz.results62 rfl (load_tm (t := tm0) (r7 BR.out rfl))) rfl ⟨_, _, by rw [hq.out]; rfl, by rw [hq.out]; exact .nil (Or.inl rfl), by rw [hq.out]; exact .nil (Or.inl rfl), k7w KK.out (Or.inr (Nat.le_succ _))⟩
  · have hq : Hid (rr = (t, 0)) := Lib.hid (by rw [hr.out, hv]; rfl)
    clear hv hr
    go_wp2_with fail
    exact bodyPost_ret (results_ct Tryz.results62 rfl (load_tm (t := t) (r7 BR.out rfl))) rfl ⟨_, _, by rw [hq.out]; rfl, by rw [hq.out]; exact ((HTY.out _ KK.out).frame (set7 (fun q hq => by omega))).mono (fun q _ hq => hq.1), by rw [hq.out]; exact ((HTM.out _ KK.out).frame (set7 (fun q hq => by omega))).mono (fun q _ hq => hq.1), k7w KK.out (Or.inr (Nat.le_succ _))⟩
set_option maxRecDepth 100000 in
set_option maxHeartbeats 16000000 in
theorem replace_any {t u : Tm} {l : List Int} {ok ok' ok2 : Nat → Prop} {w : World} {tk kk tk' kk' vl : Value} (h1 : TyL ok w t.ty.kids tk) (h2 : TmL ok w t.kids kk) (hs : SmTm big t) (hl : InL ok2 w l vl) (hb : l.length ≤ 9223372036854775807) (h3 : TyL ok' w u.ty.kids tk') (h4 : TmL ok' w u.kids kk') (hs' : SmTm big u) :
    Calls Tryz.prog 26 #[tmVal t tk kk, vl, tmVal u tk' kk'] w (TmE (repPS t l u) w) := by
  obtain ⟨a, c, rfl⟩ := hl.slice
  obtain ⟨p, n, cp, rfl⟩ := h1.slice
  obtain ⟨ma, mn, mc, rfl⟩ := h2.slice
  obtain ⟨p', n', cp', rfl⟩ := h3.slice
  obtain ⟨ma', mn', mc', rfl⟩ := h4.slice
  have B0 := Lib.hid (Bx3.new w [.int .i64 t.op, .string t.name, .int .i64 t.n, .int .i64 t.ty.kind, .string t.ty.name, .slice p n cp, .slice ma mn mc] [.int .i64 u.op, .string u.name, .int .i64 u.n, .int .i64 u.ty.kind, .string u.ty.name, .slice p' n' cp', .slice ma' mn' mc'] z27)
  change Hid (Bx3 _ _ _ _ (((w.alloc (.cells #[.int .i64 t.op, .string t.name, .int .i64 t.n, .int .i64 t.ty.kind, .string t.ty.name, .slice p n cp, .slice ma mn mc] 28)).alloc (.cells #[.int .i64 u.op, .string u.name, .int .i64 u.n, .int .i64 u.ty.kind, .string u.ty.name, .slice p' n' cp', .slice ma' mn' mc'] 28)).alloc (.cells #[.int .i64 0, .string ⟨#[]⟩, .int .i64 0, .int .i64 0, .string ⟨#[]⟩, .slice none 0 0, .slice none 0 0] 28))) at B0
  have HZ : Hid ((((w.alloc (.cells #[.int .i64 t.op, .string t.name, .int .i64 t.n, .int .i64 t.ty.kind, .string t.ty.name, .slice p n cp, .slice ma mn mc] 28)).alloc (.cells #[.int .i64 u.op, .string u.name, .int .i64 u.n, .int .i64 u.ty.kind, .string u.ty.name, .slice p' n' cp', .slice ma' mn' mc'] 28)).alloc (.cells #[.int .i64 0, .string ⟨#[]⟩, .int .i64 0, .int .i64 0, .string ⟨#[]⟩, .slice none 0 0, .slice none 0 0] 28)).heap.size = w.heap.size + 1 + 1 + 1) := Lib.hid (by simp)
  have HP := Lib.hid (fun W (k : Kept (fun _ => False) w W) => pair_valid (h1.frame (Same.of_kept k (fun _ _ e => e))) (h2.frame (Same.of_kept k (fun _ _ e => e))) (h3.frame (Same.of_kept k (fun _ _ e => e))) (h4.frame (Same.of_kept k (fun _ _ e => e))) hs hs')
  have HA := Lib.hid (fun W (k : Kept (fun _ => False) w W) => at_noop61 (h1.frame (Same.of_kept k (fun _ _ e => e))) (h2.frame (Same.of_kept k (fun _ _ e => e))) (hl.frame (Same.of_kept k (fun _ _ e => e))) (by omega))
  have HU := Lib.hid (fun (hv : validB t = true) (hv' : validB u = true) (hat : (atP t l).isSome = true) W (k : Kept (fun _ => False) w W) => put_any l t u (valid_bd hv) (valid_bd hv') hat hb W _ _ _ _ _ _ _ _ (h1.frame (Same.of_kept k (fun _ _ e => e))) (h2.frame (Same.of_kept k (fun _ _ e => e))) (hl.frame (Same.of_kept k (fun _ _ e => e))) (h3.frame (Same.of_kept k (fun _ _ e => e))) (h4.frame (Same.of_kept k (fun _ _ e => e))))
  have HSM := Lib.hid (fun (hat : (atP t l).isSome = true) => putP_sm l hs hs' hat)
  have HR : Hid (repPS t l u = if validB t && validB u then (if (atP t l).isSome then (if validB (putP t l u) then (putP t l u, 0) else (tm0, 5)) else (tm0, 12)) else (tm0, 1)) := Lib.hid (by unfold repPS; cases atP t l <;> rfl)
  clear h1 h2 h3 h4 hs hs' hl hb
  unfold AtP tmVal at HA
  unfold tmVal at HU ⊢
  generalize (atP t l).getD tm0 = o at *
  generalize (atP t l).isSome = b at *
  generalize putP t l u = r at *
  go_enter Tryz.func26, Tryz.ntmps26
  go_wp2_with fail
  generalize (((w.alloc (.cells #[.int .i64 t.op, .string t.name, .int .i64 t.n, .int .i64 t.ty.kind, .string t.ty.name, .slice p n cp, .slice ma mn mc] 28)).alloc (.cells #[.int .i64 u.op, .string u.name, .int .i64 u.n, .int .i64 u.ty.kind, .string u.ty.name, .slice p' n' cp', .slice ma' mn' mc'] 28)).alloc (.cells #[.int .i64 0, .string ⟨#[]⟩, .int .i64 0, .int .i64 0, .string ⟨#[]⟩, .slice none 0 0, .slice none 0 0] 28)) = w1 at *
  refine (HP.out w1 B0.out.k _ _ rfl HZ.out.symm).mono ?_
  rintro e w2 ⟨rfl, k2⟩
  have B2 := Lib.hid ((B0.out.kept ((Kept.refl (fun _ => False) w1).alloc (.cells (tmCells t (.slice p n cp) (.slice ma mn mc) ++ tmCells u (.slice p' n' cp') (.slice ma' mn' mc')).toArray 28))).kept k2)
  clear B0 k2 HP HZ
  have gR : ∀ i, w2.cell? ⟨w.heap.size + 1 + 1, i, none⟩ = [Value.int .i64 0, .string ⟨#[]⟩, .int .i64 0, .int .i64 0, .string ⟨#[]⟩, .slice none 0 0, .slice none 0 0][i]? := B2.out.c.cell
  have fR : ∀ i, w2.frozen? ⟨w.heap.size + 1 + 1, i, none⟩ = false := B2.out.c.frozen
  cases hv : validB t && validB u
  · have hres : Hid (repPS t l u = (tm0, 1)) := Lib.hid (by rw [HR.out, hv]; rfl)
    clear hv HA HU HR HSM
    go_wp2_with fail
    exact bodyPost_ret (results_ct Tryz.results26 rfl (load_tm (t := tm0) (r7 B2.out.c rfl))) rfl ⟨_, _, by rw [hres.out]; rfl, by rw [hres.out]; exact .nil (Or.inl rfl), by rw [hres.out]; exact .nil (Or.inl rfl), k7w B2.out.k (Or.inr (by omega))⟩
  · have HVT := Lib.hid hv
    have HV2 := Lib.hid ((Bool.and_eq_true _ _).mp hv)
    clear hv
    have gA : ∀ i, w2.cell? ⟨w.heap.size, i, none⟩ = [Value.int .i64 t.op, .string t.name, .int .i64 t.n, .int .i64 t.ty.kind, .string t.ty.name, .slice p n cp, .slice ma mn mc][i]? := B2.out.a.cell
    go_wp2_with fail
    clear gA gR fR
    refine (HA.out w2 B2.out.k).mono ?_
    rintro e w3 ⟨tk, kk, rfl, hty, htm, k3⟩
    obtain ⟨ua, un, uc, rfl⟩ := hty.slice
    obtain ⟨va, vn, vc, rfl⟩ := htm.slice
    have B3 := Lib.hid (B2.out.kept k3)
    clear hty htm k3 HA B2
    cases b
    · have hres : Hid (repPS t l u = (tm0, 12)) := Lib.hid (by rw [HR.out, HVT.out]; rfl)
      clear HU HR HSM
      go_upto_region 4 with (fail)
      have B4 := Lib.hid (B3.out.kept ((Kept.refl (fun _ => False) w3).alloc (.cells #[.int .i64 o.op, .string o.name, .int .i64 o.n, .int .i64 o.ty.kind, .string o.ty.name, .slice ua un uc, .slice va vn vc] 28)))
      generalize w3.alloc (.cells #[.int .i64 o.op, .string o.name, .int .i64 o.n, .int .i64 o.ty.kind, .string o.ty.name, .slice ua un uc, .slice va vn vc] 28) = w4 at *
      have gR : ∀ i, w4.cell? ⟨w.heap.size + 1 + 1, i, none⟩ = [Value.int .i64 0, .string ⟨#[]⟩, .int .i64 0, .int .i64 0, .string ⟨#[]⟩, .slice none 0 0, .slice none 0 0][i]? := B4.out.c.cell
      have fR : ∀ i, w4.frozen? ⟨w.heap.size + 1 + 1, i, none⟩ = false := B4.out.c.frozen
      go_wp2_with fail
      exact bodyPost_ret (results_ct Tryz.results26 rfl (load_tm (t := tm0) (r7 B4.out.c rfl))) rfl ⟨_, _, by rw [hres.out]; rfl, by rw [hres.out]; exact .nil (Or.inl rfl), by rw [hres.out]; exact .nil (Or.inl rfl), k7w B4.out.k (Or.inr (by omega))⟩
    · have hres : Hid (repPS t l u = if validB r then (r, 0) else (tm0, 5)) := Lib.hid (by rw [HR.out, HVT.out]; rfl)
      have HU2 := Lib.hid (HU.out HV2.out.1 HV2.out.2 rfl)
      have HS2 := Lib.hid (HSM.out rfl)
      clear HU HR HSM
      go_upto_region 4 with (fail)
      have B4 := Lib.hid (B3.out.kept ((Kept.refl (fun _ => False) w3).alloc (.cells #[.int .i64 o.op, .string o.name, .int .i64 o.n, .int .i64 o.ty.kind, .string o.ty.name, .slice ua un uc, .slice va vn vc] 28)))
      generalize w3.alloc (.cells #[.int .i64 o.op, .string o.name, .int .i64 o.n, .int .i64 o.ty.kind, .string o.ty.name, .slice ua un uc, .slice va vn vc] 28) = w4 at *
      have gA : ∀ i, w4.cell? ⟨w.heap.size, i, none⟩ = [Value.int .i64 t.op, .string t.name, .int .i64 t.n, .int .i64 t.ty.kind, .string t.ty.name, .slice p n cp, .slice ma mn mc][i]? := B4.out.a.cell
      have gU : ∀ i, w4.cell? ⟨w.heap.size + 1, i, none⟩ = [Value.int .i64 u.op, .string u.name, .int .i64 u.n, .int .i64 u.ty.kind, .string u.ty.name, .slice p' n' cp', .slice ma' mn' mc'][i]? := B4.out.b.cell
      go_wp2_with fail
      clear gA gU
      refine (HU2.out w4 B4.out.k).mono ?_
      rintro e w5 ⟨tk, kk, rfl, hty5, htm5, k5⟩
      have lw4 := B4.out.c.lt
      have HC := Lib.hid (checked_any hres (B := w4.heap.size) k5.size (hty5.mono (ok' := fun q => w4.heap.size ≤ q ∧ q < w5.heap.size) (fun q hq h => ⟨h, hq⟩)) (htm5.mono (ok' := fun q => w4.heap.size ≤ q ∧ q < w5.heap.size) (fun q hq h => ⟨h, hq⟩)) HS2.out)
      obtain ⟨pa, pn, pc, rfl⟩ := hty5.slice
      obtain ⟨qa, qn, qc, rfl⟩ := htm5.slice
      have B5 := Lib.hid (B4.out.kept k5)
      clear hty5 htm5 k5 B4 HU2
      unfold TmB tmVal at HC
      unfold tmVal
      clear hres
      generalize repPS t l u = rr at *
      go_wp2_with fail
      refine HC.out.mono ?_
      rintro e w6 ⟨tk, kk, rfl, hty6, htm6, k6⟩
      obtain ⟨pa, pn, pc, rfl⟩ := hty6.slice
      obtain ⟨qa, qn, qc, rfl⟩ := htm6.slice
      have B6 := Lib.hid (B5.out.kept k6)
      have HTY := Lib.hid hty6
      have HTM := Lib.hid htm6
      clear hty6 htm6 k6 B5 HC
      have gR : ∀ i, w6.cell? ⟨w.heap.size + 1 + 1, i, none⟩ = [Value.int .i64 0, .string ⟨#[]⟩, .int .i64 0, .int .i64 0, .string ⟨#[]⟩, .slice none 0 0, .slice none 0 0][i]? := B6.out.c.cell
      have fR : ∀ i, w6.frozen? ⟨w.heap.size + 1 + 1, i, none⟩ = false := B6.out.c.frozen
      go_wp2_with fail
      exact bodyPost_ret (results_ct Tryz.results26 rfl (load_tm (t := rr.1) (r7 B6.out.c rfl))) rfl ⟨_, _, rfl, (HTY.out.frame (set7 (fun q hq => by omega))).mono (fun q _ hq => by omega), (HTM.out.frame (set7 (fun q hq => by omega))).mono (fun q _ hq => by omega), k7w B6.out.k (Or.inr (by omega))⟩
set_option maxRecDepth 100000 in
set_option maxHeartbeats 16000000 in
theorem AtI.kept {w wr w6 : World} {u : Tm} {tk kk : Value} (h : AtI w u wr tk kk) (k : Kept (fun _ => False) wr w6) : AtI w u w6 tk kk :=
  ⟨h.kp.trans k, h.b.kept k (fun h => h), h.r.kept k (fun h => h), h.ty.frame (Same.of_kept k (fun _ _ e => e)), h.tm.frame (Same.of_kept k (fun _ _ e => e))⟩
set_option maxRecDepth 100000 in
set_option maxHeartbeats 16000000 in
theorem rat_any {t : Tm} {l : List Int} {ok ok' : Nat → Prop} {w : World} {tk kk vl : Value} (h1 : TyL ok w t.ty.kids tk) (h2 : TmL ok w t.kids kk) (hs : SmTm big t) (hl : InL ok' w l vl) (hb : l.length ≤ 9223372036854775807) :
    Calls Tryz.prog 27 #[tmVal t tk kk, vl] w (TmE (atPS t l) w) := by
  obtain ⟨a, c, rfl⟩ := hl.slice
  obtain ⟨p, n, cp, rfl⟩ := h1.slice
  obtain ⟨ma, mn, mc, rfl⟩ := h2.slice
  have HIN := Lib.hid (fun W (k : Kept (fun _ => False) w W) => (hl.frame (Same.of_kept k (fun _ _ e => e))).at)
  have HB := Lib.hid hb
  have HV := Lib.hid (fun W (k : Kept (fun _ => False) w W) => rvalid_any (h1.frame (Same.of_kept k (fun _ _ e => e))) (h2.frame (Same.of_kept k (fun _ _ e => e))) hs)
  have HJ0 : Hid (AtI w t ((w.alloc (.cells #[.int .i64 t.op, .string t.name, .int .i64 t.n, .int .i64 t.ty.kind, .string t.ty.name, .slice p n cp, .slice ma mn mc] 28)).alloc (.cells #[.int .i64 0, .string ⟨#[]⟩, .int .i64 0, .int .i64 0, .string ⟨#[]⟩, .slice none 0 0, .slice none 0 0] 28)) (.slice p n cp) (.slice ma mn mc)) := Lib.hid
    ⟨((Kept.refl _ _).alloc _).alloc _, (Blk.new w 28 (tmCells t (.slice p n cp) (.slice ma mn mc))).alloc _, Blk.new' 28 _ (by simp), ((h1.mono (fun q hq _ => hq)).frame (Same.alloc _ _)).frame (Same.alloc _ _), ((h2.mono (fun q hq _ => hq)).frame (Same.alloc _ _)).frame (Same.alloc _ _)⟩
  clear hl hb h1 h2 hs
  have HSU : Hid (validB t = true → ∀ u, atP t l = some u → BdTm u) := Lib.hid (fun hv u ha => valid_bd (at_valid l t u hv ha))
  have HR : Hid (atPS t l = if validB t then (if (atP t l).isSome then ((atP t l).getD tm0, 0) else (tm0, 12)) else (tm0, 1)) := Lib.hid (by unfold atPS; cases atP t l <;> rfl)
  unfold tmVal
  go_enter Tryz.func27, Tryz.ntmps27
  go_wp2_with fail
  generalize ((w.alloc (.cells #[.int .i64 t.op, .string t.name, .int .i64 t.n, .int .i64 t.ty.kind, .string t.ty.name, .slice p n cp, .slice ma mn mc] 28)).alloc (.cells #[.int .i64 0, .string ⟨#[]⟩, .int .i64 0, .int .i64 0, .string ⟨#[]⟩, .slice none 0 0, .slice none 0 0] 28)) = w1 at *
  refine (HV.out w1 HJ0.out.kp).mono ?_
  rintro e w2 ⟨rfl, k2⟩
  have HJ2 : Hid (AtI w t w2 (.slice p n cp) (.slice ma mn mc)) := Lib.hid ⟨HJ0.out.kp.trans k2, HJ0.out.b.kept k2 (fun h => h), HJ0.out.r.kept k2 (fun h => h), HJ0.out.ty.frame (Same.of_kept k2 (fun _ _ e => e)), HJ0.out.tm.frame (Same.of_kept k2 (fun _ _ e => e))⟩
  clear HJ0 k2 HV
  cases hv : validB t
  · have HN : Hid (atPS t l = (tm0, 1)) := Lib.hid (by rw [HR.out, hv]; rfl)
    have fR : ∀ i, w2.frozen? ⟨w.heap.size + 1, i, none⟩ = false := HJ2.out.r.frozen
    have gR : ∀ i, w2.cell? ⟨w.heap.size + 1, i, none⟩ = [Value.int .i64 0, .string ⟨#[]⟩, .int .i64 0, .int .i64 0, .string ⟨#[]⟩, .slice none 0 0, .slice none 0 0][i]? := HJ2.out.r.cell
    clear hv HR HSU HIN
    go_wp2_with fail
    exact bodyPost_ret (results_ct Tryz.results27 rfl (load_tm (t := tm0) (r7 HJ2.out.r rfl))) rfl ⟨_, _, by rw [HN.out]; rfl, by rw [HN.out]; exact .nil (Or.inl rfl), by rw [HN.out]; exact .nil (Or.inl rfl), k7w HJ2.out.kp (Or.inr (Nat.le_succ _))⟩
  have HVT := Lib.hid hv
  clear hv
  go_wp2_with fail
  go_loopw [6] (fun i wr => ∃ (k : Nat) (u : Tm) (tk kk : Value), k ≤ l.length ∧ i = .int .i64 k ∧ AtI w u wr tk kk ∧ Hid (atP t l = atP u (l.drop k))) (fun i _ => l.length - (intOf i).toNat)
  case atStart => exact ⟨0, t, _, _, Nat.zero_le _, rfl, HJ2.out, Lib.hid rfl⟩
  case round =>
    obtain ⟨k, u, tk, kk, hkl, rfl, hJ, hL⟩ := hrel
    obtain ⟨xa, xn, xc, rfl⟩ := hJ.ty.slice
    obtain ⟨ya, yn, yc, rfl⟩ := hJ.tm.slice
    obtain rfl : yn = u.kids.length := hJ.tm.len
    have gB : ∀ i, wr.cell? ⟨w.heap.size, i, none⟩ = [Value.int .i64 u.op, .string u.name, .int .i64 u.n, .int .i64 u.ty.kind, .string u.ty.name, .slice xa xn xc, .slice ya u.kids.length yc][i]? := hJ.b.cell
    have HJ := Lib.hid hJ
    clear hJ HJ2
    by_cases hlt : k < l.length
    · have i1 : (k : Int) < (l.length : Int) := by omega
      have i2 : (k : Int) < 9223372036854775807 := by have := HB.out; omega
      obtain ⟨g, off, rfl, _, c0⟩ := HIN.out wr HJ.out.kp k hlt
      have HS := Lib.hid (atP_drop (t := u) hlt)
      generalize hx : l[k] = x at *
      clear hx
      by_cases n1 : x < 0 ∨ (u.kids.length : Int) ≤ x
      · have HN : Hid (atPS t l = (tm0, 12)) := Lib.hid (by rw [HR.out, HVT.out, hL.out, HS.out, stepB_no n1]; rfl)
        by_cases n2 : x < 0
        · have t1 : decide (x < 0) = true := decide_eq_true n2
          clear n1 n2
          go_upto_region 6 with (fail)
          go_quiet (fail)
          have kd : Kept (fun _ => False) wr (World.drewN wr nq) := (Kept.refl _ _).drewN nq
          generalize World.drewN wr nq = wd at *
          have HJd := Lib.hid (HJ.out.kept kd)
          have fR : ∀ i, wd.frozen? ⟨w.heap.size + 1, i, none⟩ = false := HJd.out.r.frozen
          have gR : ∀ i, wd.cell? ⟨w.heap.size + 1, i, none⟩ = [Value.int .i64 0, .string ⟨#[]⟩, .int .i64 0, .int .i64 0, .string ⟨#[]⟩, .slice none 0 0, .slice none 0 0][i]? := HJd.out.r.cell
          go_wp2_with fail
          exact bodyPost_ret (results_ct Tryz.results27 rfl (load_tm (t := tm0) (r7 HJd.out.r rfl))) rfl ⟨_, _, by rw [HN.out]; rfl, by rw [HN.out]; exact .nil (Or.inl rfl), by rw [HN.out]; exact .nil (Or.inl rfl), k7w HJd.out.kp (Or.inr (Nat.le_succ _))⟩
        · have t1 : decide (x < 0) = false := decide_eq_false n2
          have t2 : decide ((u.kids.length : Int) ≤ x) = true := by
            have : (u.kids.length : Int) ≤ x := by omega
            simp [this]
          clear n1 n2
          go_upto_region 6 with (fail)
          go_quiet (fail)
          have kd : Kept (fun _ => False) wr (World.drewN wr nq) := (Kept.refl _ _).drewN nq
          generalize World.drewN wr nq = wd at *
          have HJd := Lib.hid (HJ.out.kept kd)
          have fR : ∀ i, wd.frozen? ⟨w.heap.size + 1, i, none⟩ = false := HJd.out.r.frozen
          have gR : ∀ i, wd.cell? ⟨w.heap.size + 1, i, none⟩ = [Value.int .i64 0, .string ⟨#[]⟩, .int .i64 0, .int .i64 0, .string ⟨#[]⟩, .slice none 0 0, .slice none 0 0][i]? := HJd.out.r.cell
          go_wp2_with fail
          exact bodyPost_ret (results_ct Tryz.results27 rfl (load_tm (t := tm0) (r7 HJd.out.r rfl))) rfl ⟨_, _, by rw [HN.out]; rfl, by rw [HN.out]; exact .nil (Or.inl rfl), by rw [HN.out]; exact .nil (Or.inl rfl), k7w HJd.out.kp (Or.inr (Nat.le_succ _))⟩
      · have t1 : decide (x < 0) = false := decide_eq_false (by omega)
        have t2 : decide ((u.kids.length : Int) ≤ x) = false := decide_eq_false (by omega)
        go_upto_region 6 with (fail)
        go_quiet (fail)
        have kd : Kept (fun _ => False) wr (World.drewN wr nq) := (Kept.refl _ _).drewN nq
        generalize World.drewN wr nq = wd at *
        have HJd := Lib.hid (HJ.out.kept kd)
        have c0d : wd.cell? ⟨g, off + k, none⟩ = some (.int .i64 x) := by rw [kd.cell (p := ⟨g, off + k, none⟩) (cell_lt c0) (fun h => h)]; exact c0
        clear c0 gB HJ kd
        have gB : ∀ i, wd.cell? ⟨w.heap.size, i, none⟩ = [Value.int .i64 u.op, .string u.name, .int .i64 u.n, .int .i64 u.ty.kind, .string u.ty.name, .slice xa xn xc, .slice ya u.kids.length yc][i]? := HJd.out.b.cell
        go_upto_region 8 with (fail)
        clear t1 t2
        obtain ⟨j, rfl⟩ : ∃ j : Nat, x = (j : Int) := ⟨x.toNat, by omega⟩
        have hj : j < u.kids.length := by omega
        have HN : Hid (atP t l = atP u.kids[j] (l.drop (k + 1))) := Lib.hid (by
          rw [hL.out, HS.out, stepB_yes (by omega) (by omega), if_pos rfl, kid_get (by simpa using hj)]; simp)
        clear n1 HS
        obtain ⟨g', off', pa, pn, pc, qa, qn, qc, rfl, hg', lg', ⟨d0, d1, d2, d3, d4, d5, d6⟩, hty, htm⟩ := HJd.out.tm.at j hj
        have hjj : (j : Int) < (u.kids.length : Int) := by omega
        have HTY := Lib.hid hty
        have HTM := Lib.hid htm
        clear hty htm
        go_still_tail 8, (by kernel_rfl)
        change wpList _ _ _ _ _ (World.drew wd)
        have kd : Kept (fun _ => False) wd (World.drew wd) := (Kept.refl _ _).drew
        generalize World.drew wd = w6 at *
        have HJ6 := Lib.hid (HJd.out.kept kd)
        have hty := HTY.out.frame (Same.of_kept kd (fun _ _ e => e))
        have htm := HTM.out.frame (Same.of_kept kd (fun _ _ e => e))
        clear HJd gB c0d d0 d1 d2 d3 d4 d5 d6 kd HTY HTM
        have gB : ∀ i, w6.cell? ⟨w.heap.size, i, none⟩ = [Value.int .i64 u.op, .string u.name, .int .i64 u.n, .int .i64 u.ty.kind, .string u.ty.name, .slice xa xn xc, .slice (some ⟨g', off', none⟩) u.kids.length yc][i]? := HJ6.out.b.cell
        have fB : ∀ i, w6.frozen? ⟨w.heap.size, i, none⟩ = false := HJ6.out.b.frozen
        have hn1 : w.heap.size + 1 ≠ w.heap.size := by omega
        have HX : Hid (AtI w u.kids[j] (((((((w6.setCell ⟨w.heap.size, 0, none⟩ (.int .i64 u.kids[j].op)).setCell ⟨w.heap.size, 1, none⟩ (.string u.kids[j].name)).setCell ⟨w.heap.size, 2, none⟩ (.int .i64 u.kids[j].n)).setCell ⟨w.heap.size, 3, none⟩ (.int .i64 u.kids[j].ty.kind)).setCell ⟨w.heap.size, 4, none⟩ (.string u.kids[j].ty.name)).setCell ⟨w.heap.size, 5, none⟩ (.slice pa pn pc)).setCell ⟨w.heap.size, 6, none⟩ (.slice qa qn qc)) (.slice pa pn pc) (.slice qa qn qc)) := Lib.hid
          ⟨k7w HJ6.out.kp (Or.inr (Nat.le_refl _)), r7 HJ6.out.b rfl, (((((((HJ6.out.r.set_other _ _ hn1).set_other _ _ hn1).set_other _ _ hn1).set_other _ _ hn1).set_other _ _ hn1).set_other _ _ hn1).set_other _ _ hn1), hty.frame (set7 (fun q hq => by omega)), htm.frame (set7 (fun q hq => by omega))⟩
        clear hty htm hn1
        go_wp2_with fail
        go_roundw
        case rel => exact ⟨k + 1, _, _, _, by omega, by go_num, HX.out, HN⟩
        case measure => simp [intOf]; omega
    · have hkk : k = l.length := by omega
      subst hkk
      have ha : atP t l = some u := by rw [hL.out, List.drop_length]; rfl
      have HN : Hid (atPS t l = (u, 0)) := Lib.hid (by rw [HR.out, HVT.out, ha]; rfl)
      have HC := Lib.hid (rcopy_any (HSU.out HVT.out u ha) wr _ _ _ HJ.out.ty HJ.out.tm)
      unfold tmVal at HC
      clear ha HR HSU
      go_wp2_with fail
      refine HC.out.mono ?_
      rintro e w6 ⟨vk, E, vm, rfl, hty0, hrow, hmp⟩
      have hty := hty0.mono (ok' := fun q => wr.heap.size ≤ q) (fun q _ h => h.1)
      have htm : TmL (fun q => wr.heap.size ≤ q) w6 u.kids vm := by rw [← hmp]; exact hrow.tml
      obtain ⟨pa, pn, pc, rfl⟩ := hty.slice
      obtain ⟨qa, qn, qc, rfl⟩ := htm.slice
      unfold tmVal
      have hlt6 := HJ.out.r.lt
      have HJ6 := Lib.hid (HJ.out.kept hrow.kp)
      have HTY := Lib.hid hty
      have HTM := Lib.hid htm
      clear hty0 hrow hmp hty htm HC HJ gB
      have fR : ∀ i, w6.frozen? ⟨w.heap.size + 1, i, none⟩ = false := HJ6.out.r.frozen
      have gR : ∀ i, w6.cell? ⟨w.heap.size + 1, i, none⟩ = [Value.int .i64 0, .string ⟨#[]⟩, .int .i64 0, .int .i64 0, .string ⟨#[]⟩, .slice none 0 0, .slice none 0 0][i]? := HJ6.out.r.cell
      go_wp2_with fail
      exact bodyPost_ret (results_ct Tryz.results27 rfl (load_tm (t := u) (r7 HJ6.out.r rfl))) rfl ⟨_, _, by rw [HN.out]; rfl, by rw [HN.out]; exact (HTY.out.frame (set7 (fun q hq => by omega))).mono (fun q _ hq => by omega), by rw [HN.out]; exact (HTM.out.frame (set7 (fun q hq => by omega))).mono (fun q _ hq => by omega), k7w HJ6.out.kp (Or.inr (Nat.le_succ _))⟩
set_option maxRecDepth 100000 in
set_option maxHeartbeats 16000000 in
theorem rreplace_any {t u : Tm} {l : List Int} {ok ok' ok2 : Nat → Prop} {w : World} {tk kk tk' kk' vl : Value} (h1 : TyL ok w t.ty.kids tk) (h2 : TmL ok w t.kids kk) (hs : SmTm big t) (hl : InL ok2 w l vl) (hb : l.length ≤ 9223372036854775807) (h3 : TyL ok' w u.ty.kids tk') (h4 : TmL ok' w u.kids kk') (hs' : SmTm big u) :
    Calls Tryz.prog 30 #[tmVal t tk kk, vl, tmVal u tk' kk'] w (TmE (repPS t l u) w) := by
  obtain ⟨a, c, rfl⟩ := hl.slice
  obtain ⟨p, n, cp, rfl⟩ := h1.slice
  obtain ⟨ma, mn, mc, rfl⟩ := h2.slice
  obtain ⟨p', n', cp', rfl⟩ := h3.slice
  obtain ⟨ma', mn', mc', rfl⟩ := h4.slice
  have B0 := Lib.hid (Bx3.new w [.int .i64 t.op, .string t.name, .int .i64 t.n, .int .i64 t.ty.kind, .string t.ty.name, .slice p n cp, .slice ma mn mc] [.int .i64 u.op, .string u.name, .int .i64 u.n, .int .i64 u.ty.kind, .string u.ty.name, .slice p' n' cp', .slice ma' mn' mc'] z27)
  change Hid (Bx3 _ _ _ _ (((w.alloc (.cells #[.int .i64 t.op, .string t.name, .int .i64 t.n, .int .i64 t.ty.kind, .string t.ty.name, .slice p n cp, .slice ma mn mc] 28)).alloc (.cells #[.int .i64 u.op, .string u.name, .int .i64 u.n, .int .i64 u.ty.kind, .string u.ty.name, .slice p' n' cp', .slice ma' mn' mc'] 28)).alloc (.cells #[.int .i64 0, .string ⟨#[]⟩, .int .i64 0, .int .i64 0, .string ⟨#[]⟩, .slice none 0 0, .slice none 0 0] 28))) at B0
  have HV1 := Lib.hid (fun W (k : Kept (fun _ => False) w W) => rvalid_any (h1.frame (Same.of_kept k (fun _ _ e => e))) (h2.frame (Same.of_kept k (fun _ _ e => e))) hs)
  have HV2 := Lib.hid (fun W (k : Kept (fun _ => False) w W) => rvalid_any (h3.frame (Same.of_kept k (fun _ _ e => e))) (h4.frame (Same.of_kept k (fun _ _ e => e))) hs')
  have HA := Lib.hid (fun W (k : Kept (fun _ => False) w W) => rat_any (h1.frame (Same.of_kept k (fun _ _ e => e))) (h2.frame (Same.of_kept k (fun _ _ e => e))) hs (hl.frame (Same.of_kept k (fun _ _ e => e))) hb)
  have HU := Lib.hid (fun (hv : validB t = true) (hv' : validB u = true) (hat : (atP t l).isSome = true) W (k : Kept (fun _ => False) w W) => rput_any l t u (valid_bd hv) (valid_bd hv') hat hb W _ _ _ _ _ _ _ _ (h1.frame (Same.of_kept k (fun _ _ e => e))) (h2.frame (Same.of_kept k (fun _ _ e => e))) (hl.frame (Same.of_kept k (fun _ _ e => e))) (h3.frame (Same.of_kept k (fun _ _ e => e))) (h4.frame (Same.of_kept k (fun _ _ e => e))))
  have HSM := Lib.hid (fun (hat : (atP t l).isSome = true) => putP_sm l hs hs' hat)
  have HR : Hid (repPS t l u = if validB t && validB u then (if (atP t l).isSome then (if validB (putP t l u) then (putP t l u, 0) else (tm0, 5)) else (tm0, 12)) else (tm0, 1)) := Lib.hid (by unfold repPS; cases atP t l <;> rfl)
  clear h1 h2 h3 h4 hs hs' hl hb
  have HA2 : Hid (validB t = true → ((atPS t l).2 = 0 ↔ (atP t l).isSome = true) ∧ ((atPS t l).2 = 0 ∨ (atPS t l).2 = 12)) := Lib.hid (fun hv => by unfold atPS; rw [hv]; cases atP t l with
    | none => exact ⟨⟨fun h => (by cases h), fun h => (by cases h)⟩, .inr rfl⟩
    | some v => exact ⟨⟨fun _ => rfl, fun _ => rfl⟩, .inl rfl⟩)
  unfold TmE tmVal at HA
  unfold tmVal at HU ⊢
  generalize (atPS t l).1 = o at *
  generalize (atPS t l).2 = e0 at *
  generalize (atP t l).isSome = b at *
  generalize putP t l u = r at *
  go_enter Tryz.func30, Tryz.ntmps30
  go_wp2_with fail
  generalize (((w.alloc (.cells #[.int .i64 t.op, .string t.name, .int .i64 t.n, .int .i64 t.ty.kind, .string t.ty.name, .slice p n cp, .slice ma mn mc] 28)).alloc (.cells #[.int .i64 u.op, .string u.name, .int .i64 u.n, .int .i64 u.ty.kind, .string u.ty.name, .slice p' n' cp', .slice ma' mn' mc'] 28)).alloc (.cells #[.int .i64 0, .string ⟨#[]⟩, .int .i64 0, .int .i64 0, .string ⟨#[]⟩, .slice none 0 0, .slice none 0 0] 28)) = w1 at *
  refine (HV1.out w1 B0.out.k).mono ?_
  rintro e w1a ⟨rfl, k2⟩
  have B1 := Lib.hid (B0.out.kept k2)
  clear B0 k2 HV1
  cases hv1 : validB t
  · have hres : Hid (repPS t l u = (tm0, 1)) := Lib.hid (by rw [HR.out, hv1]; rfl)
    clear hv1 HA HA2 HU HR HSM HV2
    have gR : ∀ i, w1a.cell? ⟨w.heap.size + 1 + 1, i, none⟩ = [Value.int .i64 0, .string ⟨#[]⟩, .int .i64 0, .int .i64 0, .string ⟨#[]⟩, .slice none 0 0, .slice none 0 0][i]? := B1.out.c.cell
    have fR : ∀ i, w1a.frozen? ⟨w.heap.size + 1 + 1, i, none⟩ = false := B1.out.c.frozen
    go_wp2_with fail
    exact bodyPost_ret (results_ct Tryz.results30 rfl (load_tm (t := tm0) (r7 B1.out.c rfl))) rfl ⟨_, _, by rw [hres.out]; rfl, by rw [hres.out]; exact .nil (Or.inl rfl), by rw [hres.out]; exact .nil (Or.inl rfl), k7w B1.out.k (Or.inr (by omega))⟩
  have H1T := Lib.hid hv1
  clear hv1
  have gU : ∀ i, w1a.cell? ⟨w.heap.size + 1, i, none⟩ = [Value.int .i64 u.op, .string u.name, .int .i64 u.n, .int .i64 u.ty.kind, .string u.ty.name, .slice p' n' cp', .slice ma' mn' mc'][i]? := B1.out.b.cell
  go_wp2_with fail
  clear gU
  refine (HV2.out w1a B1.out.k).mono ?_
  rintro e w2 ⟨rfl, k2⟩
  have B2 := Lib.hid (B1.out.kept k2)
  clear B1 k2 HV2
  cases hv2 : validB u
  · have hres : Hid (repPS t l u = (tm0, 1)) := Lib.hid (by rw [HR.out, H1T.out, hv2]; rfl)
    clear hv2 HA HA2 HU HR HSM
    have gR : ∀ i, w2.cell? ⟨w.heap.size + 1 + 1, i, none⟩ = [Value.int .i64 0, .string ⟨#[]⟩, .int .i64 0, .int .i64 0, .string ⟨#[]⟩, .slice none 0 0, .slice none 0 0][i]? := B2.out.c.cell
    have fR : ∀ i, w2.frozen? ⟨w.heap.size + 1 + 1, i, none⟩ = false := B2.out.c.frozen
    go_wp2_with fail
    exact bodyPost_ret (results_ct Tryz.results30 rfl (load_tm (t := tm0) (r7 B2.out.c rfl))) rfl ⟨_, _, by rw [hres.out]; rfl, by rw [hres.out]; exact .nil (Or.inl rfl), by rw [hres.out]; exact .nil (Or.inl rfl), k7w B2.out.k (Or.inr (by omega))⟩
  · have HVT : Hid ((validB t && validB u) = true) := Lib.hid (by rw [H1T.out, hv2]; rfl)
    have HV2 : Hid (validB t = true ∧ validB u = true) := Lib.hid ⟨H1T.out, hv2⟩
    have hE := HA2.out H1T.out
    clear hv2
    have gA : ∀ i, w2.cell? ⟨w.heap.size, i, none⟩ = [Value.int .i64 t.op, .string t.name, .int .i64 t.n, .int .i64 t.ty.kind, .string t.ty.name, .slice p n cp, .slice ma mn mc][i]? := B2.out.a.cell
    go_wp2_with fail
    clear gA
    refine (HA.out w2 B2.out.k).mono ?_
    rintro e w3 ⟨tk, kk, rfl, hty, htm, k3⟩
    obtain ⟨ua, un, uc, rfl⟩ := hty.slice
    obtain ⟨va, vn, vc, rfl⟩ := htm.slice
    have B3 := Lib.hid (B2.out.kept k3)
    clear hty htm k3 HA B2
    obtain ⟨hE1, hE2⟩ := hE
    clear HA2
    cases b
    · obtain rfl : e0 = 12 := by
        rcases hE2 with h | h
        · exact absurd (hE1.1 h) (by decide)
        · exact h
      clear hE1 hE2
      have hres : Hid (repPS t l u = (tm0, 12)) := Lib.hid (by rw [HR.out, HVT.out]; rfl)
      clear HU HR HSM
      go_upto_region 4 with (fail)
      have B4 := Lib.hid (B3.out.kept ((Kept.refl (fun _ => False) w3).alloc (.cells #[.int .i64 o.op, .string o.name, .int .i64 o.n, .int .i64 o.ty.kind, .string o.ty.name, .slice ua un uc, .slice va vn vc] 28)))
      generalize w3.alloc (.cells #[.int .i64 o.op, .string o.name, .int .i64 o.n, .int .i64 o.ty.kind, .string o.ty.name, .slice ua un uc, .slice va vn vc] 28) = w4 at *
      have gR : ∀ i, w4.cell? ⟨w.heap.size + 1 + 1, i, none⟩ = [Value.int .i64 0, .string ⟨#[]⟩, .int .i64 0, .int .i64 0, .string ⟨#[]⟩, .slice none 0 0, .slice none 0 0][i]? := B4.out.c.cell
      have fR : ∀ i, w4.frozen? ⟨w.heap.size + 1 + 1, i, none⟩ = false := B4.out.c.frozen
      go_wp2_with fail
      exact bodyPost_ret (results_ct Tryz.results30 rfl (load_tm (t := tm0) (r7 B4.out.c rfl))) rfl ⟨_, _, by rw [hres.out]; rfl, by rw [hres.out]; exact .nil (Or.inl rfl), by rw [hres.out]; exact .nil (Or.inl rfl), k7w B4.out.k (Or.inr (by omega))⟩
    · obtain rfl : e0 = 0 := hE1.2 rfl
      clear hE1 hE2
      have hres : Hid (repPS t l u = if validB r then (r, 0) else (tm0, 5)) := Lib.hid (by rw [HR.out, HVT.out]; rfl)
      have HU2 := Lib.hid (HU.out HV2.out.1 HV2.out.2 rfl)
      have HS2 := Lib.hid (HSM.out rfl)
      clear HU HR HSM
      go_upto_region 4 with (fail)
      have B4 := Lib.hid (B3.out.kept ((Kept.refl (fun _ => False) w3).alloc (.cells #[.int .i64 o.op, .string o.name, .int .i64 o.n, .int .i64 o.ty.kind, .string o.ty.name, .slice ua un uc, .slice va vn vc] 28)))
      generalize w3.alloc (.cells #[.int .i64 o.op, .string o.name, .int .i64 o.n, .int .i64 o.ty.kind, .string o.ty.name, .slice ua un uc, .slice va vn vc] 28) = w4 at *
      have gA : ∀ i, w4.cell? ⟨w.heap.size, i, none⟩ = [Value.int .i64 t.op, .string t.name, .int .i64 t.n, .int .i64 t.ty.kind, .string t.ty.name, .slice p n cp, .slice ma mn mc][i]? := B4.out.a.cell
      have gU : ∀ i, w4.cell? ⟨w.heap.size + 1, i, none⟩ = [Value.int .i64 u.op, .string u.name, .int .i64 u.n, .int .i64 u.ty.kind, .string u.ty.name, .slice p' n' cp', .slice ma' mn' mc'][i]? := B4.out.b.cell
      go_wp2_with fail
      clear gA gU
      refine (HU2.out w4 B4.out.k).mono ?_
      rintro e w5 ⟨tk, kk, rfl, hty5, htm5, k5⟩
      have lw4 := B4.out.c.lt
      obtain ⟨pa, pn, pc, rfl⟩ := hty5.slice
      obtain ⟨qa, qn, qc, rfl⟩ := htm5.slice
      have HC := Lib.hid (fun W (k : Kept (fun _ => False) w5 W) => rvalid_any (hty5.frame (Same.of_kept k (fun _ _ e => e))) (htm5.frame (Same.of_kept k (fun _ _ e => e))) HS2.out)
      have HTY := Lib.hid (fun W (k : Kept (fun _ => False) w5 W) => hty5.frame (Same.of_kept k (fun _ _ e => e)))
      have HTM := Lib.hid (fun W (k : Kept (fun _ => False) w5 W) => htm5.frame (Same.of_kept k (fun _ _ e => e)))
      have B5 := Lib.hid (B4.out.kept k5)
      clear hty5 htm5 k5 B4 HU2
      unfold tmVal
      go_upto_region 7 with (fail)
      have KN : Kept (fun _ => False) w5 (w5.alloc (.cells #[.int .i64 r.op, .string r.name, .int .i64 r.n, .int .i64 r.ty.kind, .string r.ty.name, .slice pa pn pc, .slice qa qn qc] 28)) := (Kept.refl _ _).alloc _
      have BN := Lib.hid (Blk.new w5 28 [.int .i64 r.op, .string r.name, .int .i64 r.n, .int .i64 r.ty.kind, .string r.ty.name, .slice pa pn pc, .slice qa qn qc])
      change Hid (Blk (w5.alloc (.cells #[.int .i64 r.op, .string r.name, .int .i64 r.n, .int .i64 r.ty.kind, .string r.ty.name, .slice pa pn pc, .slice qa qn qc] 28)) _ _ _) at BN
      have B6 := Lib.hid (B5.out.kept KN)
      have HKN := Lib.hid KN
      clear KN B5
      generalize w5.alloc (.cells #[.int .i64 r.op, .string r.name, .int .i64 r.n, .int .i64 r.ty.kind, .string r.ty.name, .slice pa pn pc, .slice qa qn qc] 28) = w6 at *
      have gN : ∀ i, w6.cell? ⟨w5.heap.size, i, none⟩ = [Value.int .i64 r.op, .string r.name, .int .i64 r.n, .int .i64 r.ty.kind, .string r.ty.name, .slice pa pn pc, .slice qa qn qc][i]? := BN.out.cell
      go_wp2_with fail
      clear gN
      refine (HC.out w6 HKN.out).mono ?_
      rintro e w7 ⟨rfl, k7⟩
      have B7 := Lib.hid (B6.out.kept k7)
      have BN7 := Lib.hid (BN.out.kept k7 (fun h => h))
      have HTY7 := Lib.hid (HTY.out w7 (HKN.out.trans k7))
      have HTM7 := Lib.hid (HTM.out w7 (HKN.out.trans k7))
      clear HTY HTM HC HKN k7 BN B6
      have gR : ∀ i, w7.cell? ⟨w.heap.size + 1 + 1, i, none⟩ = [Value.int .i64 0, .string ⟨#[]⟩, .int .i64 0, .int .i64 0, .string ⟨#[]⟩, .slice none 0 0, .slice none 0 0][i]? := B7.out.c.cell
      have fR : ∀ i, w7.frozen? ⟨w.heap.size + 1 + 1, i, none⟩ = false := B7.out.c.frozen
      have gN : ∀ i, w7.cell? ⟨w5.heap.size, i, none⟩ = [Value.int .i64 r.op, .string r.name, .int .i64 r.n, .int .i64 r.ty.kind, .string r.ty.name, .slice pa pn pc, .slice qa qn qc][i]? := BN7.out.cell
      cases hvr : validB r
      · have hq : Hid (repPS t l u = (tm0, 5)) := Lib.hid (by rw [hres.out, hvr]; rfl)
        clear hvr hres
        go_wp2_with fail
        exact bodyPost_ret (results_ct Tryz.results30 rfl (load_tm (t := tm0) (r7 B7.out.c rfl))) rfl ⟨_, _, by rw [hq.out]; rfl, by rw [hq.out]; exact .nil (Or.inl rfl), by rw [hq.out]; exact .nil (Or.inl rfl), k7w B7.out.k (Or.inr (by omega))⟩
      · have hq : Hid (repPS t l u = (r, 0)) := Lib.hid (by rw [hres.out, hvr]; rfl)
        clear hvr hres
        go_wp2_with fail
        exact bodyPost_ret (results_ct Tryz.results30 rfl (load_tm (t := r) (r7 B7.out.c rfl))) rfl ⟨_, _, by rw [hq.out]; rfl, by rw [hq.out]; exact (HTY7.out.frame (set7 (fun q hq => by omega))).mono (fun q _ hq => by omega), by rw [hq.out]; exact (HTM7.out.frame (set7 (fun q hq => by omega))).mono (fun q _ hq => by omega), k7w B7.out.k (Or.inr (by omega))⟩
def OwnN (W : World) (base : Nat) (L : List ByteArray) (v : Value) : Prop := W.ownsRow base 9 1 v L.length (L.map Value.string)
theorem OwnN.kept {S : Nat → Prop} {W W' : World} {base : Nat} {L : List ByteArray} {v : Value} (h : OwnN W base L v) (k : Kept S W W') (hS : ∀ g, v.ownBlock = some g → ¬ S g) : OwnN W' base L v := own_keptT h k hS
theorem OwnN.lt {W : World} {base : Nat} {L : List ByteArray} {v : Value} (h : OwnN W base L v) (g : Nat) (hg : v.ownBlock = some g) : base ≤ g ∧ g < W.heap.size := World.ownsRow.lt h g hg
theorem OwnN.nml {W : World} {base : Nat} {L : List ByteArray} {v : Value} (h : OwnN W base L v) : NmL (fun q => base ≤ q) W L v := .of_own h (fun g hg => (h.lt g hg).1)
def bndN (op : Int) (nm : ByteArray) (i : Int) : List ByteArray := if binderB op && i == 1 then [nm] else []
set_option maxRecDepth 100000 in
set_option maxHeartbeats 8000000 in
theorem bnd64_any {op : Int} {nm : ByteArray} {N k : Int} {q : ByteArray} {a : Option Addr} {n c : Nat} {ma : Option Addr} {mn mc : Nat} {i : Int} {O base : Nat} {L : List ByteArray} {v : Value} {W : World} (hO : Blk W O 41 [v]) (hOb : O < base) (hb : base ≤ W.heap.size) (own : OwnN W base L v) (hn : L.length ≤ 100000) :
    Calls Tryz.prog 64 #[.agg #[.int .i64 op, .string nm, .int .i64 N, .int .i64 k, .string q, .slice a n c, .slice ma mn mc], .int .i64 i, .pointer (some ⟨O, 0, none⟩)] W fun e W' => e = .returned (.tuple #[]) ∧ ∃ v', Blk W' O 41 [v'] ∧ OwnN W' base (L ++ bndN op nm i) v' ∧ Kept (fun x => x = O ∨ (base ≤ x ∧ v.ownBlock = some x)) W W' := by
  obtain ⟨va, vn, vc, hv⟩ : ∃ va vn vc, v = .slice va vn vc := by
    obtain ⟨a, c, h⟩ := own.nml.slice; exact ⟨_, _, _, h⟩
  subst hv
  have b1 : Blk (W.alloc (.cells #[.int .i64 op, .string nm, .int .i64 N, .int .i64 k, .string q, .slice a n c, .slice ma mn mc] 28)) W.heap.size 28 [.int .i64 op, .string nm, .int .i64 N, .int .i64 k, .string q, .slice a n c, .slice ma mn mc] := Blk.new W 28 _
  have K1 : Kept (fun _ => False) W (W.alloc (.cells #[.int .i64 op, .string nm, .int .i64 N, .int .i64 k, .string q, .slice a n c, .slice ma mn mc] 28)) := (Kept.refl _ _).alloc _
  have O1 := Lib.hid (own.kept K1 (fun _ _ h => h))
  have B1 := Lib.hid (hO.kept K1 (fun h => h))
  have z1 : W.heap.size < (W.alloc (.cells #[.int .i64 op, .string nm, .int .i64 N, .int .i64 k, .string q, .slice a n c, .slice ma mn mc] 28)).heap.size := by simp
  have HK := Lib.hid K1
  have HN := Lib.hid hn
  clear own hO K1 hn
  go_enter Tryz.func64, Tryz.ntmps64
  go_wp2_with fail
  have gB := b1.cell
  clear b1
  generalize W.alloc (.cells #[.int .i64 op, .string nm, .int .i64 N, .int .i64 k, .string q, .slice a n c, .slice ma mn mc] 28) = w1 at *
  cases hbi : binderB op
  · have hz : Hid (L ++ bndN op nm i = L) := Lib.hid (by unfold bndN; rw [hbi]; simp)
    refine (binder_t hbi _).mono ?_
    rintro e w2 ⟨rfl, rfl⟩
    clear hbi
    go_wp2_with fail
    go_end0
    exact ⟨rfl, _, B1.out, by rw [hz.out]; exact O1.out, HK.out.mono (fun x _ h => h.elim)⟩
  · cases hi : (i == 1)
    · have hz : Hid (L ++ bndN op nm i = L) := Lib.hid (by unfold bndN; rw [hbi, hi]; simp)
      refine (binder_t hbi _).mono ?_
      rintro e w2 ⟨rfl, rfl⟩
      clear hbi
      go_wp2_with fail
      go_end0
      exact ⟨rfl, _, B1.out, by rw [hz.out]; exact O1.out, HK.out.mono (fun x _ h => h.elim)⟩
    · have hz : Hid (L ++ bndN op nm i = L ++ [nm]) := Lib.hid (by unfold bndN; rw [hbi, hi]; simp)
      refine (binder_t hbi _).mono ?_
      rintro e w2 ⟨rfl, rfl⟩
      clear hbi
      have hO1 : w1.cell? ⟨O, 0, none⟩ = some (.slice va vn vc) := B1.out.cell 0
      obtain ⟨i9, hi9, hz9, hs9, hb9⟩ := info_str
      have HI := Lib.hid hi9
      have HZ := Lib.hid hz9
      have HS := Lib.hid hs9
      have HB := Lib.hid hb9
      have O2 := Lib.hid (O1.out.kept ((Kept.refl (fun _ => False) w1).alloc (.cells #[.string nm] 9)) (fun _ _ h => h))
      clear hi9 hz9 hs9 hb9
      go_wp2_with (at_builtin; refine wpList_app_src rfl (.tmp 12) (.tmp 15) _ rfl base 9 i9 _ 1 16 Tryz.underlying41 HI.out HZ.out HS.out HB.out rfl (by decide) (.slice va vn vc) L.length (L.map Value.string) rfl O2.out (.slice (some ⟨w1.heap.size, 0, none⟩) 1 1) 1 [.string nm] rfl (.inr ⟨_, _, rfl, cell_one_new _ _ _⟩) rfl (strs_one [nm]) ?_ ?_ ?_ ?_)
      · have := HN.out; unfold maxLen; omega
      · have := HN.out; omega
      · simp; omega
      intro v2 w2 own2 hg2 hat2
      have OW2 : OwnN w2 base (L ++ [nm]) v2 := by
        show w2.ownsRow base 9 1 v2 (L ++ [nm]).length ((L ++ [nm]).map Value.string)
        rw [List.length_append, List.map_append]; exact own2
      obtain ⟨xa, xn, xc, hv2⟩ : ∃ xa xn xc, v2 = .slice xa xn xc := by
        obtain ⟨a, c, h⟩ := OW2.nml.slice; exact ⟨_, _, _, h⟩
      subst hv2
      have KG := kept_grown1 hg2
      have BO2 := (B1.out.alloc (.cells #[.string nm] 9)).kept KG (fun e => by have := (O1.out.lt O e).1; omega)
      have gO : w2.cell? ⟨O, 0, none⟩ = some (.slice va vn vc) := BO2.cell 0
      have fO : w2.frozen? ⟨O, 0, none⟩ = false := BO2.frozen 0
      have KT : Kept (fun x => x = O ∨ (base ≤ x ∧ (Value.slice va vn vc).ownBlock = some x)) W w2 := ((HK.out.alloc (.cells #[.string nm] 9)).mono (fun x _ h => h.elim)).trans (KG.mono (fun x _ h => .inr ⟨(O1.out.lt x h).1, h⟩))
      have BO3 := Lib.hid BO2
      have OW3 := Lib.hid OW2
      have KT3 := Lib.hid KT
      clear own2 hg2 hat2 OW2 KG BO2 KT O2 gB hO1
      go_wp2_with fail
      go_end0
      refine ⟨rfl, _, BO3.out.set 0 _, ?_, KT3.out.setCell (p := ⟨O, 0, none⟩) (Or.inl (Or.inl rfl)) _⟩
      rw [hz.out]
      exact OW3.out.kept (S := fun x => x = O) ((Kept.refl (fun x => x = O) _).setCell (p := ⟨O, 0, none⟩) (Or.inl rfl) _) (fun g hg e => by have := (OW3.out.lt g hg).1; omega)
theorem boundP_drop {t : Tm} {l : List Int} {k : Nat} (h : k < l.length) : boundP t (l.drop k) = bndN t.op t.name l[k] ++ boundP (kidI t l[k]) (l.drop (k + 1)) := by
  rw [List.drop_eq_getElem_cons h, boundP]; rfl
theorem tmDs_in {u : Tm} : ∀ {l : List Tm}, u ∈ l → tmD u ≤ tmDs l
  | a :: l, h => by
    rw [tmDs]
    rcases List.mem_cons.1 h with rfl | h
    · exact Nat.le_max_left _ _
    · exact Nat.le_trans (tmDs_in h) (Nat.le_max_right _ _)
theorem kid_depth {u : Tm} {j : Nat} (h : j < u.kids.length) : tmD u.kids[j] + 1 ≤ tmD u := by
  obtain ⟨op, nm, N, ty, l⟩ := u
  have := tmDs_in (List.getElem_mem h)
  rw [tmD]
  simp only [Tm.kids] at this ⊢
  omega
def BndP (O : Nat) (t : Tm) (l : List Int) (w : World) (e : Ending) (w' : World) : Prop := ∃ tk kk v L, e = .returned (.tuple #[tmVal ((atP t l).getD tm0) tk kk, .bool (atP t l).isSome]) ∧ TyL (fun q => q < w.heap.size) w' ((atP t l).getD tm0).ty.kids tk ∧ TmL (fun q => q < w.heap.size) w' ((atP t l).getD tm0).kids kk ∧ Kept (fun x => x = O) w w' ∧ Blk w' O 41 [v] ∧ OwnN w' (w.heap.size + 2) L v ∧ ((atP t l).isSome = true → L = boundP t l)
structure AtB (w : World) (O : Nat) (u : Tm) (L : List ByteArray) (wr : World) (tk kk v : Value) : Prop where
  kp : Kept (fun x => x = O) w wr
  b : Blk wr w.heap.size 28 (tmCells u tk kk)
  r : Blk wr (w.heap.size + 1) 28 z27
  o : Blk wr O 41 [v]
  own : OwnN wr (w.heap.size + 2) L v
  ty : TyL (fun q => q < w.heap.size ∧ q ≠ O) wr u.ty.kids tk
  tm : TmL (fun q => q < w.heap.size ∧ q ≠ O) wr u.kids kk
theorem AtB.next {w wr w6 : World} {O : Nat} {u : Tm} {L L' : List ByteArray} {tk kk v v6 : Value} (h : AtB w O u L wr tk kk v) (lO : O < w.heap.size) (hO : Blk w6 O 41 [v6]) (own : OwnN w6 (w.heap.size + 2) L' v6) (k : Kept (fun x => x = O ∨ (w.heap.size + 2 ≤ x ∧ v.ownBlock = some x)) wr w6) : AtB w O u L' w6 tk kk v6 :=
  ⟨h.kp.via1 k (fun x hx e => by rcases e with e | e <;> omega), h.b.kept k (fun e => by rcases e with e | e <;> omega), h.r.kept k (fun e => by rcases e with e | e <;> omega), hO, own,
    h.ty.frame (Same.of_kept k (fun q hq e => by rcases e with e | e <;> omega)), h.tm.frame (Same.of_kept k (fun q hq e => by rcases e with e | e <;> omega))⟩
theorem s7k {W : World} {g : Nat} {x0 x1 x2 x3 x4 x5 x6 : Value} : Kept (fun x => x = g) W (((((((W.setCell ⟨g, 0, none⟩ x0).setCell ⟨g, 1, none⟩ x1).setCell ⟨g, 2, none⟩ x2).setCell ⟨g, 3, none⟩ x3).setCell ⟨g, 4, none⟩ x4).setCell ⟨g, 5, none⟩ x5).setCell ⟨g, 6, none⟩ x6) :=
  k7w (Kept.refl _ _) (Or.inl rfl)
theorem AtB.fin {w wr : World} {O : Nat} {u : Tm} {L : List ByteArray} {tk kk v : Value} (h : AtB w O u L wr tk kk v) (lO : O < w.heap.size) {x0 x1 x2 x3 x4 x5 x6 : Value} :
    Blk (((((((wr.setCell ⟨w.heap.size + 1, 0, none⟩ x0).setCell ⟨w.heap.size + 1, 1, none⟩ x1).setCell ⟨w.heap.size + 1, 2, none⟩ x2).setCell ⟨w.heap.size + 1, 3, none⟩ x3).setCell ⟨w.heap.size + 1, 4, none⟩ x4).setCell ⟨w.heap.size + 1, 5, none⟩ x5).setCell ⟨w.heap.size + 1, 6, none⟩ x6) O 41 [v] ∧
    OwnN (((((((wr.setCell ⟨w.heap.size + 1, 0, none⟩ x0).setCell ⟨w.heap.size + 1, 1, none⟩ x1).setCell ⟨w.heap.size + 1, 2, none⟩ x2).setCell ⟨w.heap.size + 1, 3, none⟩ x3).setCell ⟨w.heap.size + 1, 4, none⟩ x4).setCell ⟨w.heap.size + 1, 5, none⟩ x5).setCell ⟨w.heap.size + 1, 6, none⟩ x6) (w.heap.size + 2) L v :=
  ⟨h.o.kept s7k (fun e => by omega), h.own.kept s7k (fun g hg e => by have := (h.own.lt g hg).1; omega)⟩
theorem AtB.box {w wr : World} {O : Nat} {u : Tm} {L : List ByteArray} {tk kk v : Value} (h : AtB w O u L wr tk kk v) (lO : O < w.heap.size) {x0 x1 x2 x3 x4 x5 x6 : Value} :
    Blk (((((((wr.setCell ⟨w.heap.size, 0, none⟩ x0).setCell ⟨w.heap.size, 1, none⟩ x1).setCell ⟨w.heap.size, 2, none⟩ x2).setCell ⟨w.heap.size, 3, none⟩ x3).setCell ⟨w.heap.size, 4, none⟩ x4).setCell ⟨w.heap.size, 5, none⟩ x5).setCell ⟨w.heap.size, 6, none⟩ x6) O 41 [v] ∧
    OwnN (((((((wr.setCell ⟨w.heap.size, 0, none⟩ x0).setCell ⟨w.heap.size, 1, none⟩ x1).setCell ⟨w.heap.size, 2, none⟩ x2).setCell ⟨w.heap.size, 3, none⟩ x3).setCell ⟨w.heap.size, 4, none⟩ x4).setCell ⟨w.heap.size, 5, none⟩ x5).setCell ⟨w.heap.size, 6, none⟩ x6) (w.heap.size + 2) L v :=
  ⟨h.o.kept s7k (fun e => by omega), h.own.kept s7k (fun g hg e => by have := (h.own.lt g hg).1; omega)⟩
set_option maxRecDepth 100000 in
set_option maxHeartbeats 8000000 in
theorem at_bnd {t : Tm} {l : List Int} {O : Nat} {w : World} {tk kk vl : Value} (hO : Blk w O 41 [.slice none 0 0]) (hd : tmD t ≤ 100000) (h1 : TyL (fun q => q ≠ O) w t.ty.kids tk) (h2 : TmL (fun q => q ≠ O) w t.kids kk) (hl : InL (fun q => q ≠ O) w l vl) (hb : l.length ≤ 9223372036854775807) :
    Calls Tryz.prog 56 #[tmVal t tk kk, vl, .func (.func 64) #[] #[.pointer (some ⟨O, 0, none⟩)]] w (BndP O t l w) := by
  obtain ⟨a, c, rfl⟩ := hl.slice
  obtain ⟨p, n, cp, rfl⟩ := h1.slice
  obtain ⟨ma, mn, mc, rfl⟩ := h2.slice
  have HIN := Lib.hid (fun W (k : Kept (fun x => x = O) w W) => (hl.frame (Same.of_kept k (fun q hq e => hq e))).at)
  have HB := Lib.hid hb
  have HJ0 : Hid (AtB w O t [] ((w.alloc (.cells #[.int .i64 t.op, .string t.name, .int .i64 t.n, .int .i64 t.ty.kind, .string t.ty.name, .slice p n cp, .slice ma mn mc] 28)).alloc (.cells #[.int .i64 0, .string ⟨#[]⟩, .int .i64 0, .int .i64 0, .string ⟨#[]⟩, .slice none 0 0, .slice none 0 0] 28)) (.slice p n cp) (.slice ma mn mc) (.slice none 0 0)) := Lib.hid
    ⟨((Kept.refl _ _).alloc _).alloc _, (Blk.new w 28 (tmCells t (.slice p n cp) (.slice ma mn mc))).alloc _, Blk.new' 28 _ (by simp), (hO.alloc _).alloc _, World.ownsRow_nil _ _ _ _, ((h1.mono (fun q hq h => ⟨hq, h⟩)).frame (Same.alloc _ _)).frame (Same.alloc _ _), ((h2.mono (fun q hq h => ⟨hq, h⟩)).frame (Same.alloc _ _)).frame (Same.alloc _ _)⟩
  have HD := Lib.hid hd
  have lO := hO.lt
  clear hl hb h1 h2 hO hd
  unfold tmVal
  go_enter Tryz.func56, Tryz.ntmps56
  go_wp2_with fail
  go_loopw [9, 12] (fun x i wr => ∃ (k : Nat) (u : Tm) (L : List ByteArray) (tk kk v : Value), k ≤ l.length ∧ i = .int .i64 k ∧ AtB w O u L wr tk kk v ∧ Hid (atP t l = atP u (l.drop k) ∧ boundP t l = L ++ boundP u (l.drop k) ∧ L.length ≤ k ∧ k + tmD u ≤ tmD t)) (fun x i _ => l.length - (intOf i).toNat)
  case atStart => exact ⟨0, t, [], _, _, _, Nat.zero_le _, rfl, HJ0.out, Lib.hid ⟨rfl, rfl, Nat.le_refl _, by omega⟩⟩
  case round =>
    obtain ⟨k, u, L, tk, kk, v, hkl, rfl, hJ, hL⟩ := hrel
    obtain ⟨xa, xn, xc, rfl⟩ := hJ.ty.slice
    obtain ⟨ya, yn, yc, rfl⟩ := hJ.tm.slice
    obtain rfl : yn = u.kids.length := hJ.tm.len
    have gB : ∀ i, wr.cell? ⟨w.heap.size, i, none⟩ = [Value.int .i64 u.op, .string u.name, .int .i64 u.n, .int .i64 u.ty.kind, .string u.ty.name, .slice xa xn xc, .slice ya u.kids.length yc][i]? := hJ.b.cell
    have fB : ∀ i, wr.frozen? ⟨w.heap.size, i, none⟩ = false := hJ.b.frozen
    have fR : ∀ i, wr.frozen? ⟨w.heap.size + 1, i, none⟩ = false := hJ.r.frozen
    have gR : ∀ i, wr.cell? ⟨w.heap.size + 1, i, none⟩ = [Value.int .i64 0, .string ⟨#[]⟩, .int .i64 0, .int .i64 0, .string ⟨#[]⟩, .slice none 0 0, .slice none 0 0][i]? := hJ.r.cell
    have HJ := Lib.hid hJ
    clear hJ
    by_cases hlt : k < l.length
    · have i1 : (k : Int) < (l.length : Int) := by omega
      have i2 : (k : Int) < 9223372036854775807 := by have := HB.out; omega
      obtain ⟨g, off, rfl, _, c0⟩ := HIN.out wr HJ.out.kp k hlt
      have HS := Lib.hid (atP_drop (t := u) hlt)
      have HSB := Lib.hid (boundP_drop (t := u) hlt)
      generalize hx : l[k] = x at *
      clear hx
      by_cases n1 : x < 0
      · have t1 : decide (x < 0) = true := decide_eq_true n1
        have HN : Hid (atP t l = none) := Lib.hid (by rw [hL.out.1, HS.out, stepB_no (Or.inl n1)]; rfl)
        clear n1
        go_wp2_with fail
        exact bodyPost_ret (results_ct Tryz.results56 rfl (load_tm (t := tm0) (r7 HJ.out.r rfl))) rfl ⟨_, _, v, L, by rw [HN.out]; rfl, by rw [HN.out]; exact .nil (Or.inl rfl), by rw [HN.out]; exact .nil (Or.inl rfl), k7w HJ.out.kp (Or.inr (Nat.le_succ _)), (HJ.out.fin lO).1, (HJ.out.fin lO).2, fun h => by rw [HN.out] at h; cases h⟩
      · have t1 : decide (x < 0) = false := decide_eq_false n1
        by_cases n2 : (u.kids.length : Int) ≤ x
        · have t2 : decide ((u.kids.length : Int) ≤ x) = true := by simp [n2]
          have HN : Hid (atP t l = none) := Lib.hid (by rw [hL.out.1, HS.out, stepB_no (Or.inr (by omega))]; rfl)
          clear n1 n2
          go_wp2_with fail
          exact bodyPost_ret (results_ct Tryz.results56 rfl (load_tm (t := tm0) (r7 HJ.out.r rfl))) rfl ⟨_, _, v, L, by rw [HN.out]; rfl, by rw [HN.out]; exact .nil (Or.inl rfl), by rw [HN.out]; exact .nil (Or.inl rfl), k7w HJ.out.kp (Or.inr (Nat.le_succ _)), (HJ.out.fin lO).1, (HJ.out.fin lO).2, fun h => by rw [HN.out] at h; cases h⟩
        · have t2 : decide ((u.kids.length : Int) ≤ x) = false := decide_eq_false n2
          go_upto_region 6 with (fail)
          clear t1 t2
          obtain ⟨j, rfl⟩ : ∃ j : Nat, x = (j : Int) := ⟨x.toNat, by omega⟩
          have hj : j < u.kids.length := by omega
          have HN : Hid (atP t l = atP u.kids[j] (l.drop (k + 1)) ∧ boundP t l = (L ++ bndN u.op u.name j) ++ boundP u.kids[j] (l.drop (k + 1)) ∧ (L ++ bndN u.op u.name j).length ≤ k + 1 ∧ k + 1 + tmD u.kids[j] ≤ tmD t) := Lib.hid (by
            have ek : kidI u (j : Int) = u.kids[j] := by rw [kid_get (by simpa using hj)]; simp
            refine ⟨?_, ?_, ?_, ?_⟩
            · rw [hL.out.1, HS.out, stepB_yes (by omega) (by omega), if_pos rfl, ek]
            · rw [hL.out.2.1, HSB.out, ek, List.append_assoc]
            · have := hL.out.2.2.1
              rw [List.length_append]
              unfold bndN
              split <;> simp <;> omega
            · have h1 := kid_depth hj
              have h2 := hL.out.2.2.2
              omega)
          have HLN : Hid (L.length ≤ 100000) := Lib.hid (by
            have h1 := hL.out.2.2.1
            have h2 := hL.out.2.2.2
            have h3 := HD.out
            omega)
          clear n1 n2
          go_wp2_with fail
          refine (bnd64_any HJ.out.o (by omega) (by have := HJ.out.r.lt; omega) HJ.out.own HLN.out).mono ?_
          rintro e w6 ⟨rfl, v6, hO6, own6, k6⟩
          have HJ6 : Hid (AtB w O u (L ++ bndN u.op u.name j) w6 (.slice xa xn xc) (.slice ya u.kids.length yc) v6) := Lib.hid (HJ.out.next lO hO6 own6 k6)
          clear own6 hO6
          clear HJ gB fB fR gR k6 c0
          have gB : ∀ i, w6.cell? ⟨w.heap.size, i, none⟩ = [Value.int .i64 u.op, .string u.name, .int .i64 u.n, .int .i64 u.ty.kind, .string u.ty.name, .slice xa xn xc, .slice ya u.kids.length yc][i]? := HJ6.out.b.cell
          have fB : ∀ i, w6.frozen? ⟨w.heap.size, i, none⟩ = false := HJ6.out.b.frozen
          obtain ⟨g', off', pa, pn, pc, qa, qn, qc, rfl, hg', lg', ⟨c0, c1, c2, c3, c4, c5, c6⟩, hty, htm⟩ := HJ6.out.tm.at j hj
          have hjj : (j : Int) < (u.kids.length : Int) := by omega
          have hne : g' ≠ w.heap.size := by omega
          have hn1 : w.heap.size + 1 ≠ w.heap.size := by omega
          have HX : Hid (AtB w O u.kids[j] (L ++ bndN u.op u.name j) (((((((w6.setCell ⟨w.heap.size, 0, none⟩ (.int .i64 u.kids[j].op)).setCell ⟨w.heap.size, 1, none⟩ (.string u.kids[j].name)).setCell ⟨w.heap.size, 2, none⟩ (.int .i64 u.kids[j].n)).setCell ⟨w.heap.size, 3, none⟩ (.int .i64 u.kids[j].ty.kind)).setCell ⟨w.heap.size, 4, none⟩ (.string u.kids[j].ty.name)).setCell ⟨w.heap.size, 5, none⟩ (.slice pa pn pc)).setCell ⟨w.heap.size, 6, none⟩ (.slice qa qn qc)) (.slice pa pn pc) (.slice qa qn qc) v6) := Lib.hid
            ⟨k7w HJ6.out.kp (Or.inr (Nat.le_refl _)), r7 HJ6.out.b rfl, (((((((HJ6.out.r.set_other _ _ hn1).set_other _ _ hn1).set_other _ _ hn1).set_other _ _ hn1).set_other _ _ hn1).set_other _ _ hn1).set_other _ _ hn1), (HJ6.out.box lO).1, (HJ6.out.box lO).2, hty.frame (set7 (fun q hq => by omega)), htm.frame (set7 (fun q hq => by omega))⟩
          clear hty htm hn1
          go_wp2_with fail
          go_roundw
          case rel => exact ⟨k + 1, _, _, _, _, _, by omega, by go_num, HX.out, HN⟩
          case measure => simp [intOf]; omega
    · have hkk : k = l.length := by omega
      subst hkk
      have HN : Hid (atP t l = some u) := Lib.hid (by rw [hL.out.1, List.drop_length]; rfl)
      have HBL : Hid (L = boundP t l) := Lib.hid (by rw [hL.out.2.1, List.drop_length, boundP, List.append_nil])
      go_wp2_with fail
      exact bodyPost_ret (results_ct Tryz.results56 rfl (load_tm (t := u) (r7 HJ.out.r rfl))) rfl ⟨_, _, v, L, by rw [HN.out]; rfl, by rw [HN.out]; exact (HJ.out.ty.frame (set7 (fun q hq => by omega))).mono (fun q _ hq => hq.1), by rw [HN.out]; exact (HJ.out.tm.frame (set7 (fun q hq => by omega))).mono (fun q _ hq => hq.1), k7w HJ.out.kp (Or.inr (Nat.le_succ _)), (HJ.out.fin lO).1, (HJ.out.fin lO).2, fun _ => HBL.out⟩
theorem clipN_any {W : World} {base : Nat} {L : List ByteArray} {v : Value} (h : OwnN W base L v) (hn : L.length ≤ 1000000) : Calls Tryz.prog 66 #[v] W fun e w' => ∃ v', e = .returned v' ∧ NmL (fun q => base ≤ q) W L v' ∧ W = w' := by
  rcases h.2 with ⟨rfl, hn0⟩ | ⟨g, cap, cur, rfl, hbg, hg, hnc, hcm, hcs, htake⟩
  · have : L = [] := List.length_eq_zero_iff.1 hn0
    subst this
    go_enter Tryz.func66, Tryz.ntmps66
    go_wp2_with fail
    go_ret
    exact ⟨_, rfl, .nil, rfl⟩
  · obtain ⟨a', n', c', e1, e2, e3, e4, e5⟩ := h.nml
    cases e1
    have HR := Lib.hid e5
    have i1 : (L.length : Int) ≤ (cap : Int) := by omega
    have i2 : (0 : Int) ≤ (L.length : Int) := by omega
    clear h hg hcm hcs htake e4 e5
    go_enter Tryz.func66, Tryz.ntmps66
    go_wp2_with fail
    go_ret
    exact ⟨_, rfl, ⟨_, _, _, rfl, rfl, Nat.le_refl _, (fun e => by cases e), HR.out⟩, rfl⟩
def NmE (r : List ByteArray × Int) (w : World) (e : Ending) (w' : World) : Prop := ∃ v, e = .returned (.tuple #[v, .int .i64 r.2]) ∧ NmL (fun _ => True) w' r.1 v ∧ Kept (fun _ => False) w w'
theorem boundP_len : ∀ (l : List Int) (t : Tm), (boundP t l).length ≤ l.length
  | [], t => Nat.le_refl _
  | i :: l, t => by
    rw [boundP, List.length_append, List.length_cons]
    have := boundP_len l (kidI t i)
    split <;> simp <;> omega
set_option maxRecDepth 100000 in
set_option maxHeartbeats 8000000 in
theorem bndP_any {t : Tm} {l : List Int} {ok ok' : Nat → Prop} {w : World} {tk kk vl : Value} (h1 : TyL ok w t.ty.kids tk) (h2 : TmL ok w t.kids kk) (hs : SmTm big t) (hl : InL ok' w l vl) (hb : l.length ≤ 9223372036854775807) :
    Calls Tryz.prog 28 #[tmVal t tk kk, vl] w (NmE (bndPS t l) w) := by
  obtain ⟨a, c, rfl⟩ := hl.slice
  obtain ⟨p, n, cp, rfl⟩ := h1.slice
  obtain ⟨ma, mn, mc, rfl⟩ := h2.slice
  have BA := Lib.hid (Blk.new w 28 (tmCells t (.slice p n cp) (.slice ma mn mc)))
  have K0 : Kept (fun _ => False) w (w.alloc (.cells (tmCells t (.slice p n cp) (.slice ma mn mc)).toArray 28)) := (Kept.refl _ _).alloc _
  have HV := Lib.hid (fun W (k : Kept (fun _ => False) w W) => valid_any (h1.frame (Same.of_kept k (fun _ _ e => e))) (h2.frame (Same.of_kept k (fun _ _ e => e))) hs)
  have HT1 := Lib.hid (fun W (k : Kept (fun _ => False) w W) => (h1.mono (ok' := fun q => q < w.heap.size) (fun q hq _ => hq)).frame (Same.of_kept k (fun _ _ e => e)))
  have HT2 := Lib.hid (fun W (k : Kept (fun _ => False) w W) => (h2.mono (ok' := fun q => q < w.heap.size) (fun q hq _ => hq)).frame (Same.of_kept k (fun _ _ e => e)))
  have HL := Lib.hid (fun W (k : Kept (fun _ => False) w W) => (hl.mono (ok' := fun q => q < w.heap.size) (fun q hq _ => hq)).frame (Same.of_kept k (fun _ _ e => e)))
  have HB := Lib.hid hb
  clear h1 h2 hs hl hb
  have HR : Hid (bndPS t l = if validB t then (if (atP t l).isSome then (boundP t l, 0) else ([], 12)) else ([], 1)) := Lib.hid (by unfold bndPS; cases atP t l <;> rfl)
  have KK := Lib.hid K0
  clear K0
  unfold tmVal
  go_enter Tryz.func28, Tryz.ntmps28
  go_wp2_with fail
  change Hid (Blk (w.alloc (.cells #[.int .i64 t.op, .string t.name, .int .i64 t.n, .int .i64 t.ty.kind, .string t.ty.name, .slice p n cp, .slice ma mn mc] 28)) _ _ _) at BA
  change Hid (Kept _ w (w.alloc (.cells #[.int .i64 t.op, .string t.name, .int .i64 t.n, .int .i64 t.ty.kind, .string t.ty.name, .slice p n cp, .slice ma mn mc] 28))) at KK
  generalize w.alloc (.cells #[.int .i64 t.op, .string t.name, .int .i64 t.n, .int .i64 t.ty.kind, .string t.ty.name, .slice p n cp, .slice ma mn mc] 28) = w1 at *
  refine (HV.out w1 KK.out).mono ?_
  rintro e w2 ⟨rfl, k2⟩
  have BA2 := Lib.hid (BA.out.kept k2 (fun h => h))
  have KK2 := Lib.hid (KK.out.trans k2)
  clear BA KK k2 HV
  cases hv : validB t
  · have hres : Hid (bndPS t l = ([], 1)) := Lib.hid (by rw [HR.out, hv]; rfl)
    clear hv HT1 HT2 HL HR
    go_wp2_with fail
    go_ret2
    exact ⟨_, by rw [hres.out]; rfl, by rw [hres.out]; exact .nil, KK2.out⟩
  · have HVT := Lib.hid hv
    have BLN : Hid ((atP t l).isSome = true → (boundP t l).length ≤ 100) := Lib.hid (fun h => by
      cases ha : atP t l with
      | none => rw [ha] at h; cases h
      | some o =>
        have h1 := at_len l t o ha
        have h2 := ((valid_iff t).1 hv).2.2
        have h3 := boundP_len l t
        omega)
    have hdl : Hid (tmD t ≤ 100000) := Lib.hid (by have := ((valid_iff t).1 hv).2.2; omega)
    clear hv
    go_upto_region 4 with (fail)
    have KO : Kept (fun _ => False) w2 (w2.alloc (.cells #[.slice none 0 0] 41)) := (Kept.refl _ _).alloc _
    have BO := Lib.hid (Blk.new w2 41 [.slice none 0 0])
    change Hid (Blk (w2.alloc (.cells #[.slice none 0 0] 41)) _ _ _) at BO
    have BA3 := Lib.hid (BA2.out.kept KO (fun h => h))
    have KK3 := Lib.hid (KK2.out.trans KO)
    have zw2 : w.heap.size ≤ w2.heap.size := KK2.out.size
    clear KO BA2 KK2
    generalize w2.alloc (.cells #[.slice none 0 0] 41) = w3 at *
    have HA := Lib.hid (at_bnd BO.out hdl.out ((HT1.out w3 KK3.out).mono (fun q _ hq => by omega)) ((HT2.out w3 KK3.out).mono (fun q _ hq => by omega)) ((HL.out w3 KK3.out).mono (fun q _ hq => by omega)) HB.out)
    have lO3 := BO.out.lt
    unfold BndP tmVal at HA
    generalize (atP t l).getD tm0 = o at *
    generalize (atP t l).isSome = b at *
    have gA : ∀ i, w3.cell? ⟨w.heap.size, i, none⟩ = [Value.int .i64 t.op, .string t.name, .int .i64 t.n, .int .i64 t.ty.kind, .string t.ty.name, .slice p n cp, .slice ma mn mc][i]? := BA3.out.cell
    clear HT1 HT2 HL
    go_wp2_with fail
    clear gA
    refine HA.out.mono ?_
    rintro e w4 ⟨tk, kk, v, L, rfl, hty, htm, k4, hO4, own4, hL4⟩
    obtain ⟨ua, un, uc, rfl⟩ := hty.slice
    obtain ⟨va, vn, vc, rfl⟩ := htm.slice
    have KK4 := Lib.hid (KK3.out.via1 k4 (fun x hx e => by omega))
    clear hty htm k4 BA3 KK3 HA BO
    go_upto_region 5 with (fail)
    have BO5 := Lib.hid (hO4.alloc (.cells #[.int .i64 o.op, .string o.name, .int .i64 o.n, .int .i64 o.ty.kind, .string o.ty.name, .slice ua un uc, .slice va vn vc] 28))
    have OW5 := Lib.hid (own4.kept ((Kept.refl (fun _ => False) w4).alloc (.cells #[.int .i64 o.op, .string o.name, .int .i64 o.n, .int .i64 o.ty.kind, .string o.ty.name, .slice ua un uc, .slice va vn vc] 28)) (fun _ _ h => h))
    have KK5 := Lib.hid (KK4.out.alloc (.cells #[.int .i64 o.op, .string o.name, .int .i64 o.n, .int .i64 o.ty.kind, .string o.ty.name, .slice ua un uc, .slice va vn vc] 28))
    have HL4 := Lib.hid hL4
    clear hO4 own4 KK4 hL4
    generalize w4.alloc (.cells #[.int .i64 o.op, .string o.name, .int .i64 o.n, .int .i64 o.ty.kind, .string o.ty.name, .slice ua un uc, .slice va vn vc] 28) = w5 at *
    cases b
    · have hres : Hid (bndPS t l = ([], 12)) := Lib.hid (by rw [HR.out, HVT.out]; rfl)
      clear HR HL4 OW5 BO5
      go_wp2_with fail
      go_ret2
      exact ⟨_, by rw [hres.out]; rfl, by rw [hres.out]; exact .nil, KK5.out⟩
    · have hres : Hid (bndPS t l = (boundP t l, 0)) := Lib.hid (by rw [HR.out, HVT.out]; rfl)
      obtain rfl := HL4.out rfl
      obtain ⟨xa, xc, hv5⟩ := OW5.out.nml.slice
      subst hv5
      have hlen : (boundP t l).length ≤ 1000000 := by
        have h1 := BLN.out rfl
        omega
      have HC := Lib.hid (clipN_any OW5.out hlen)
      have gO : w5.cell? ⟨w2.heap.size, 0, none⟩ = some (.slice xa (boundP t l).length xc) := BO5.out.cell 0
      clear HR HL4 hlen BO5
      go_wp2_with fail
      refine HC.out.mono ?_
      rintro e w6 ⟨v6, rfl, hn6, rfl⟩
      go_wp2_with fail
      go_ret2
      exact ⟨_, by rw [hres.out]; rfl, by rw [hres.out]; exact hn6.mono (fun _ _ _ => trivial), KK5.out⟩
theorem atPS_parts (t : Tm) (l : List Int) : ∃ o e, atPS t l = (o, e) ∧ BdTm o ∧ (SmTm big t → SmTm big o) ∧ (e = 0 ∨ e = 1 ∨ e = 12) ∧ (e = 0 → validB t = true ∧ atP t l = some o ∧ validB o = true) := by
  have hb : BdTm tm0 := .mk (by decide) (.mk (by decide) (fun t h => by cases h)) (fun t h => by cases h)
  have hs : SmTm big tm0 := .mk (by decide) (.mk (by decide) (fun t h => by cases h)) (fun t h => by cases h)
  unfold atPS
  cases hv : validB t
  · exact ⟨tm0, 1, rfl, hb, fun _ => hs, by decide, fun h => by cases h⟩
  · cases ha : atP t l with
    | none => exact ⟨tm0, 12, rfl, hb, fun _ => hs, by decide, fun h => by cases h⟩
    | some o => exact ⟨o, 0, rfl, valid_bd (at_valid l t o hv ha), fun h => atP_sm l h ha, by decide, fun _ => ⟨rfl, rfl, at_valid l t o hv ha⟩⟩
theorem tmEq_self (t : Tm) : tmEq t t = true := (tmEq_iff t t).2 rfl
structure Bx2 (w : World) (ca cb : List Value) (W : World) : Prop where
  a : Blk W w.heap.size 28 ca
  b : Blk W (w.heap.size + 1) 28 cb
  k : Kept (fun _ => False) w W
theorem Bx2.kept {w : World} {ca cb : List Value} {W W' : World} (h : Bx2 w ca cb W) (k : Kept (fun _ => False) W W') : Bx2 w ca cb W' := ⟨h.a.kept k (fun h => h), h.b.kept k (fun h => h), h.k.trans k⟩
theorem Bx2.new (w : World) (ca cb : List Value) : Bx2 w ca cb ((w.alloc (.cells ca.toArray 28)).alloc (.cells cb.toArray 28)) := ⟨(Blk.new w 28 ca).alloc _, Blk.new' 28 _ (by simp), ((Kept.refl _ _).alloc _).alloc _⟩
structure RbI (w : World) (base : Nat) (u : Tm) (L : List ByteArray) (wr : World) (tk kk v : Value) : Prop where
  kp : Kept (fun _ => False) w wr
  b : Blk wr w.heap.size 28 (tmCells u tk kk)
  own : OwnN wr base L v
  ty : TyL (fun q => q < w.heap.size) wr u.ty.kids tk
  tm : TmL (fun q => q < w.heap.size) wr u.kids kk
theorem RbI.kept {w wr w6 : World} {base : Nat} {u : Tm} {L : List ByteArray} {tk kk v : Value} (h : RbI w base u L wr tk kk v) (k : Kept (fun _ => False) wr w6) : RbI w base u L w6 tk kk v :=
  ⟨h.kp.trans k, h.b.kept k (fun h => h), h.own.kept k (fun _ _ h => h), h.ty.frame (Same.of_kept k (fun _ _ e => e)), h.tm.frame (Same.of_kept k (fun _ _ e => e))⟩
theorem RbI.grown {w wr w6 : World} {base : Nat} {u : Tm} {L L' : List ByteArray} {tk kk v v' : Value} (h : RbI w base u L wr tk kk v) (hb : w.heap.size < base) (hg : wr.grownBy w6 v.ownBlock) (own : OwnN w6 base L' v') : RbI w base u L' w6 tk kk v' := by
  have k := kept_grown1 hg
  exact ⟨h.kp.via1 k (fun x hx e => by have := (h.own.lt x e).1; omega), h.b.kept k (fun e => by have := (h.own.lt _ e).1; omega), own, h.ty.frame (Same.of_kept k (fun q hq e => by have := (h.own.lt q e).1; omega)), h.tm.frame (Same.of_kept k (fun q hq e => by have := (h.own.lt q e).1; omega))⟩
set_option maxRecDepth 100000 in
set_option maxHeartbeats 16000000 in
theorem rbnd_any {t : Tm} {l : List Int} {ok ok' : Nat → Prop} {w : World} {tk kk vl : Value} (h1 : TyL ok w t.ty.kids tk) (h2 : TmL ok w t.kids kk) (hs : SmTm big t) (hl : InL ok' w l vl) (hb : l.length ≤ 9223372036854775807) :
    Calls Tryz.prog 29 #[tmVal t tk kk, vl] w (NmE (bndPS t l) w) := by
  obtain ⟨a, c, rfl⟩ := hl.slice
  obtain ⟨p, n, cp, rfl⟩ := h1.slice
  obtain ⟨ma, mn, mc, rfl⟩ := h2.slice
  have BA := Lib.hid (Blk.new w 28 (tmCells t (.slice p n cp) (.slice ma mn mc)))
  have K0 : Kept (fun _ => False) w (w.alloc (.cells (tmCells t (.slice p n cp) (.slice ma mn mc)).toArray 28)) := (Kept.refl _ _).alloc _
  have HA := Lib.hid (fun W (k : Kept (fun _ => False) w W) => rat_any (h1.frame (Same.of_kept k (fun _ _ e => e))) (h2.frame (Same.of_kept k (fun _ _ e => e))) hs (hl.frame (Same.of_kept k (fun _ _ e => e))) hb)
  have HT1 := Lib.hid (fun W (k : Kept (fun _ => False) w W) => (h1.mono (ok' := fun q => q < w.heap.size) (fun q hq _ => hq)).frame (Same.of_kept k (fun _ _ e => e)))
  have HT2 := Lib.hid (fun W (k : Kept (fun _ => False) w W) => (h2.mono (ok' := fun q => q < w.heap.size) (fun q hq _ => hq)).frame (Same.of_kept k (fun _ _ e => e)))
  have HIN := Lib.hid (fun W (k : Kept (fun _ => False) w W) => (hl.frame (Same.of_kept k (fun _ _ e => e))).at)
  have HB := Lib.hid hb
  clear h1 h2 hs hl hb
  obtain ⟨o, e, hoe, hbo, hso, he, hk⟩ := atPS_parts t l
  have HE := Lib.hid he
  have HK := Lib.hid hk
  have HR : Hid (bndPS t l = if e = 0 then (boundP t l, 0) else ([], e)) := Lib.hid (by
    unfold atPS at hoe
    unfold bndPS
    cases hv : validB t
    · rw [hv] at hoe; cases hoe; rfl
    · rw [hv] at hoe
      cases ha : atP t l with
      | none => rw [ha] at hoe; cases hoe; rfl
      | some x => rw [ha] at hoe; cases hoe; rfl)
  rw [hoe] at HA
  have KK := Lib.hid K0
  clear K0 hoe hbo hso he hk
  unfold TmE tmVal at HA
  unfold tmVal
  go_enter Tryz.func29, Tryz.ntmps29
  go_wp2_with fail
  change Hid (Blk (w.alloc (.cells #[.int .i64 t.op, .string t.name, .int .i64 t.n, .int .i64 t.ty.kind, .string t.ty.name, .slice p n cp, .slice ma mn mc] 28)) _ _ _) at BA
  change Hid (Kept _ w (w.alloc (.cells #[.int .i64 t.op, .string t.name, .int .i64 t.n, .int .i64 t.ty.kind, .string t.ty.name, .slice p n cp, .slice ma mn mc] 28))) at KK
  generalize w.alloc (.cells #[.int .i64 t.op, .string t.name, .int .i64 t.n, .int .i64 t.ty.kind, .string t.ty.name, .slice p n cp, .slice ma mn mc] 28) = w1 at *
  refine (HA.out w1 KK.out).mono ?_
  rintro e' w2 ⟨otk, okk, rfl, hty, htm, k2⟩
  obtain ⟨oa, on, oc, rfl⟩ := hty.slice
  obtain ⟨xa, xn, xc, rfl⟩ := htm.slice
  have BA2 := Lib.hid (BA.out.kept k2 (fun h => h))
  have KK2 := Lib.hid (KK.out.trans k2)
  clear hty htm k2 BA KK HA
  go_upto_region 2 with (fail)
  have KO : Kept (fun _ => False) w2 (w2.alloc (.cells #[.int .i64 o.op, .string o.name, .int .i64 o.n, .int .i64 o.ty.kind, .string o.ty.name, .slice oa on oc, .slice xa xn xc] 28)) := (Kept.refl _ _).alloc _
  have BA3 := Lib.hid (BA2.out.kept KO (fun h => h))
  have KK3 := Lib.hid (KK2.out.trans KO)
  clear KO BA2 KK2
  generalize w2.alloc (.cells #[.int .i64 o.op, .string o.name, .int .i64 o.n, .int .i64 o.ty.kind, .string o.ty.name, .slice oa on oc, .slice xa xn xc] 28) = w3 at *
  rcases HE.out with rfl | rfl | rfl
  case inr.inl =>
    have hres : Hid (bndPS t l = ([], 1)) := Lib.hid (by rw [HR.out]; rfl)
    clear HR HK HE HT1 HT2 HIN
    go_wp2_with fail
    go_ret2
    exact ⟨_, by rw [hres.out]; rfl, by rw [hres.out]; exact .nil, KK3.out⟩
  case inr.inr =>
    have hres : Hid (bndPS t l = ([], 12)) := Lib.hid (by rw [HR.out]; rfl)
    clear HR HK HE HT1 HT2 HIN
    go_wp2_with fail
    go_ret2
    exact ⟨_, by rw [hres.out]; rfl, by rw [hres.out]; exact .nil, KK3.out⟩
  have hres : Hid (bndPS t l = (boundP t l, 0)) := Lib.hid (by rw [HR.out]; rfl)
  have HK2 := Lib.hid (HK.out rfl)
  have HLL : Hid (l.length ≤ 100) := Lib.hid (by
    obtain ⟨hv, ha, _⟩ := HK2.out
    have h1 := at_len l t o ha
    have h2 := ((valid_iff t).1 hv).2.2
    omega)
  have J0 : Hid (RbI w (w.heap.size + 1) t [] w3 (.slice p n cp) (.slice ma mn mc) (.slice none 0 0)) := Lib.hid ⟨KK3.out, BA3.out, World.ownsRow_nil _ _ _ _, HT1.out w3 KK3.out, HT2.out w3 KK3.out⟩
  clear HR HK HE HT1 HT2 BA3 KK3
  go_wp2_with fail
  go_loopw [8, 9] (fun v i wr => ∃ (k : Nat) (u : Tm) (L : List ByteArray) (tk kk : Value), k ≤ l.length ∧ i = .int .i64 k ∧ RbI w (w.heap.size + 1) u L wr tk kk v ∧ Hid (atP u (l.drop k) = some o ∧ boundP t l = L ++ boundP u (l.drop k) ∧ L.length ≤ k)) (fun v i _ => l.length - (intOf i).toNat)
  case atStart => exact ⟨0, t, [], _, _, Nat.zero_le _, rfl, J0.out, Lib.hid ⟨HK2.out.2.1, rfl, Nat.le_refl _⟩⟩
  case round =>
    obtain ⟨k, u, L, tk, kk, hkl, rfl, hJ, hL⟩ := hrel
    obtain ⟨xa, xn, xc, rfl⟩ := hJ.ty.slice
    obtain ⟨ya, yn, yc, rfl⟩ := hJ.tm.slice
    obtain ⟨va, vc, hv⟩ := hJ.own.nml.slice
    subst hv
    obtain rfl : yn = u.kids.length := hJ.tm.len
    have gB : ∀ i, wr.cell? ⟨w.heap.size, i, none⟩ = [Value.int .i64 u.op, .string u.name, .int .i64 u.n, .int .i64 u.ty.kind, .string u.ty.name, .slice xa xn xc, .slice ya u.kids.length yc][i]? := hJ.b.cell
    have HJ := Lib.hid hJ
    clear hJ J0
    by_cases hlt : k < l.length
    · have i1 : (k : Int) < (l.length : Int) := by omega
      have i2 : (k : Int) < 1000000 := by have := HLL.out; omega
      obtain ⟨g, off, rfl, _, c0⟩ := HIN.out wr HJ.out.kp k hlt
      have HS := Lib.hid (atP_drop (t := u) hlt)
      have HSB := Lib.hid (boundP_drop (t := u) hlt)
      generalize hx0 : l[k] = x at *
      have HXX := Lib.hid hx0
      clear hx0
      have hst : stepB u x = true := by
        cases h : stepB u x with
        | true => rfl
        | false =>
          have h1 := hL.out.1
          rw [HS.out, h] at h1
          cases h1
      have hjl := step_lt hst
      obtain ⟨j, rfl⟩ : ∃ j : Nat, x = (j : Int) := ⟨x.toNat, by
        simp only [stepB, Bool.and_eq_true, decide_eq_true_eq] at hst; omega⟩
      have hj : j < u.kids.length := by simpa using hjl
      have HN : Hid (atP u.kids[j] (l.drop (k + 1)) = some o ∧ boundP t l = (L ++ bndN u.op u.name j) ++ boundP u.kids[j] (l.drop (k + 1)) ∧ (L ++ bndN u.op u.name j).length ≤ k + 1) := Lib.hid (by
        have ek : kidI u (j : Int) = u.kids[j] := by rw [kid_get (by simpa using hj)]; simp
        refine ⟨?_, ?_, ?_⟩
        · have h1 := hL.out.1
          rw [HS.out, hst, if_pos rfl, ek] at h1
          exact h1
        · rw [hL.out.2.1, HSB.out, ek, List.append_assoc]
        · have := hL.out.2.2
          rw [List.length_append]
          unfold bndN
          split <;> simp <;> omega)
      have hjj : (j : Int) < (u.kids.length : Int) := by omega
      clear HS HSB hst hjl
      have HLN : Hid (L.length ≤ 100) := Lib.hid (by have := hL.out.2.2; have := HLL.out; omega)
      go_wp2_with fail
      cases hbi : binderB u.op
      · have HJ1 : Hid (RbI w (w.heap.size + 1) u (L ++ bndN u.op u.name j) wr (.slice xa xn xc) (.slice ya u.kids.length yc) (.slice va L.length vc)) := Lib.hid (by
          have : bndN u.op u.name j = [] := by unfold bndN; rw [hbi]; rfl
          rw [this, List.append_nil]; exact HJ.out)
        refine (rbinder_t hbi _).mono ?_
        rintro e' w4 ⟨rfl, rfl⟩
        clear HJ gB hbi
        have gB : ∀ i, wr.cell? ⟨w.heap.size, i, none⟩ = [Value.int .i64 u.op, .string u.name, .int .i64 u.n, .int .i64 u.ty.kind, .string u.ty.name, .slice xa xn xc, .slice ya u.kids.length yc][i]? := HJ1.out.b.cell
        obtain ⟨g', off', pa, pn, pc, qa, qn, qc, rfl, hg', lg', ⟨d0, d1, d2, d3, d4, d5, d6⟩, hty, htm⟩ := HJ1.out.tm.at j hj
        obtain ⟨g2, off2, e2, _, c2⟩ := HIN.out wr HJ1.out.kp k hlt
        cases e2
        rw [HXX.out] at c2
        have HTY := Lib.hid hty
        have HTM := Lib.hid htm
        clear hty htm
        go_upto_region 10 with (fail)
        go_still_tail 8, (by kernel_rfl)
        change wpList _ _ _ _ _ (World.drew wr)
        have kd : Kept (fun _ => False) wr (World.drew wr) := (Kept.refl _ _).drew
        generalize World.drew wr = w6 at *
        have HJ6 := Lib.hid (HJ1.out.kept kd)
        have hty := HTY.out.frame (Same.of_kept kd (fun _ _ e => e))
        have htm := HTM.out.frame (Same.of_kept kd (fun _ _ e => e))
        clear HJ1 gB c0 c2 d0 d1 d2 d3 d4 d5 d6 kd HTY HTM
        have gB : ∀ i, w6.cell? ⟨w.heap.size, i, none⟩ = [Value.int .i64 u.op, .string u.name, .int .i64 u.n, .int .i64 u.ty.kind, .string u.ty.name, .slice xa xn xc, .slice (some ⟨g', off', none⟩) u.kids.length yc][i]? := HJ6.out.b.cell
        have fB : ∀ i, w6.frozen? ⟨w.heap.size, i, none⟩ = false := HJ6.out.b.frozen
        have HX : Hid (RbI w (w.heap.size + 1) u.kids[j] (L ++ bndN u.op u.name j) (((((((w6.setCell ⟨w.heap.size, 0, none⟩ (.int .i64 u.kids[j].op)).setCell ⟨w.heap.size, 1, none⟩ (.string u.kids[j].name)).setCell ⟨w.heap.size, 2, none⟩ (.int .i64 u.kids[j].n)).setCell ⟨w.heap.size, 3, none⟩ (.int .i64 u.kids[j].ty.kind)).setCell ⟨w.heap.size, 4, none⟩ (.string u.kids[j].ty.name)).setCell ⟨w.heap.size, 5, none⟩ (.slice pa pn pc)).setCell ⟨w.heap.size, 6, none⟩ (.slice qa qn qc)) (.slice pa pn pc) (.slice qa qn qc) (.slice va L.length vc)) := Lib.hid
          ⟨k7w HJ6.out.kp (Or.inr (Nat.le_refl _)), r7 HJ6.out.b rfl, HJ6.out.own.kept s7k (fun g hg e => by have := (HJ6.out.own.lt g hg).1; omega), hty.frame (set7 (fun q hq => by omega)), htm.frame (set7 (fun q hq => by omega))⟩
        clear hty htm
        go_wp2_with fail
        go_roundw
        case rel => exact ⟨k + 1, _, _, _, _, by omega, by go_num, HX.out, HN⟩
        case measure => simp [intOf]; omega
      · cases hi : ((j : Int) == 1)
        · have HJ1 : Hid (RbI w (w.heap.size + 1) u (L ++ bndN u.op u.name j) wr (.slice xa xn xc) (.slice ya u.kids.length yc) (.slice va L.length vc)) := Lib.hid (by
            have : bndN u.op u.name j = [] := by unfold bndN; rw [hbi, hi]; rfl
            rw [this, List.append_nil]; exact HJ.out)
          refine (rbinder_t hbi _).mono ?_
          rintro e' w4 ⟨rfl, rfl⟩
          clear HJ gB hbi
          have gB : ∀ i, wr.cell? ⟨w.heap.size, i, none⟩ = [Value.int .i64 u.op, .string u.name, .int .i64 u.n, .int .i64 u.ty.kind, .string u.ty.name, .slice xa xn xc, .slice ya u.kids.length yc][i]? := HJ1.out.b.cell
          obtain ⟨g', off', pa, pn, pc, qa, qn, qc, rfl, hg', lg', ⟨d0, d1, d2, d3, d4, d5, d6⟩, hty, htm⟩ := HJ1.out.tm.at j hj
          obtain ⟨g2, off2, e2, _, c2⟩ := HIN.out wr HJ1.out.kp k hlt
          cases e2
          rw [HXX.out] at c2
          have HTY := Lib.hid hty
          have HTM := Lib.hid htm
          clear hty htm
          go_upto_region 10 with (fail)
          go_still_tail 8, (by kernel_rfl)
          change wpList _ _ _ _ _ (World.drew wr)
          have kd : Kept (fun _ => False) wr (World.drew wr) := (Kept.refl _ _).drew
          generalize World.drew wr = w6 at *
          have HJ6 := Lib.hid (HJ1.out.kept kd)
          have hty := HTY.out.frame (Same.of_kept kd (fun _ _ e => e))
          have htm := HTM.out.frame (Same.of_kept kd (fun _ _ e => e))
          clear HJ1 gB c0 c2 d0 d1 d2 d3 d4 d5 d6 kd HTY HTM
          have gB : ∀ i, w6.cell? ⟨w.heap.size, i, none⟩ = [Value.int .i64 u.op, .string u.name, .int .i64 u.n, .int .i64 u.ty.kind, .string u.ty.name, .slice xa xn xc, .slice (some ⟨g', off', none⟩) u.kids.length yc][i]? := HJ6.out.b.cell
          have fB : ∀ i, w6.frozen? ⟨w.heap.size, i, none⟩ = false := HJ6.out.b.frozen
          have HX : Hid (RbI w (w.heap.size + 1) u.kids[j] (L ++ bndN u.op u.name j) (((((((w6.setCell ⟨w.heap.size, 0, none⟩ (.int .i64 u.kids[j].op)).setCell ⟨w.heap.size, 1, none⟩ (.string u.kids[j].name)).setCell ⟨w.heap.size, 2, none⟩ (.int .i64 u.kids[j].n)).setCell ⟨w.heap.size, 3, none⟩ (.int .i64 u.kids[j].ty.kind)).setCell ⟨w.heap.size, 4, none⟩ (.string u.kids[j].ty.name)).setCell ⟨w.heap.size, 5, none⟩ (.slice pa pn pc)).setCell ⟨w.heap.size, 6, none⟩ (.slice qa qn qc)) (.slice pa pn pc) (.slice qa qn qc) (.slice va L.length vc)) := Lib.hid
            ⟨k7w HJ6.out.kp (Or.inr (Nat.le_refl _)), r7 HJ6.out.b rfl, HJ6.out.own.kept s7k (fun g hg e => by have := (HJ6.out.own.lt g hg).1; omega), hty.frame (set7 (fun q hq => by omega)), htm.frame (set7 (fun q hq => by omega))⟩
          clear hty htm
          go_wp2_with fail
          go_roundw
          case rel => exact ⟨k + 1, _, _, _, _, by omega, by go_num, HX.out, HN⟩
          case measure => simp [intOf]; omega
        · have hb1 : Hid (bndN u.op u.name j = [u.name]) := Lib.hid (by unfold bndN; rw [hbi, hi]; rfl)
          refine (rbinder_t hbi _).mono ?_
          rintro e' w4 ⟨rfl, rfl⟩
          clear hbi
          obtain ⟨i9, hi9, hz9, hs9, hb9⟩ := info_str
          have HI := Lib.hid hi9
          have HZ := Lib.hid hz9
          have HS9 := Lib.hid hs9
          have HB9 := Lib.hid hb9
          have J2 := Lib.hid (HJ.out.kept ((Kept.refl (fun _ => False) wr).alloc (.cells #[.string u.name] 9)))
          have lw := HJ.out.b.lt
          clear hi9 hz9 hs9 hb9
          go_wp2_with (at_builtin; refine wpList_app_src rfl (.tmp 35) (.tmp 38) _ rfl (w.heap.size + 1) 9 i9 _ 1 16 Tryz.underlying41 HI.out HZ.out HS9.out HB9.out rfl (by decide) (.slice va L.length vc) L.length (L.map Value.string) rfl J2.out.own (.slice (some ⟨wr.heap.size, 0, none⟩) 1 1) 1 [.string u.name] rfl (.inr ⟨_, _, rfl, cell_one_new _ _ _⟩) rfl (strs_one [u.name]) ?_ ?_ ?_ ?_)
          · have := HLN.out; unfold maxLen; omega
          · have := HLN.out; omega
          · simp; omega
          intro v2 w2 own2 hg2 hat2
          have OW2 : OwnN w2 (w.heap.size + 1) (L ++ bndN u.op u.name j) v2 := by
            rw [hb1.out]
            show w2.ownsRow (w.heap.size + 1) 9 1 v2 (L ++ [u.name]).length ((L ++ [u.name]).map Value.string)
            rw [List.length_append, List.map_append]; exact own2
          have HJ1 := Lib.hid (J2.out.grown (by omega) hg2 OW2)
          clear own2 hg2 hat2 OW2 J2 HJ gB
          have gB : ∀ i, w2.cell? ⟨w.heap.size, i, none⟩ = [Value.int .i64 u.op, .string u.name, .int .i64 u.n, .int .i64 u.ty.kind, .string u.ty.name, .slice xa xn xc, .slice ya u.kids.length yc][i]? := HJ1.out.b.cell
          obtain ⟨g', off', pa, pn, pc, qa, qn, qc, rfl, hg', lg', ⟨d0, d1, d2, d3, d4, d5, d6⟩, hty, htm⟩ := HJ1.out.tm.at j hj
          obtain ⟨g2, off2, e2, _, c2⟩ := HIN.out w2 HJ1.out.kp k hlt
          cases e2
          rw [HXX.out] at c2
          have HTY := Lib.hid hty
          have HTM := Lib.hid htm
          clear hty htm
          go_upto_region 10 with (fail)
          go_still_tail 8, (by kernel_rfl)
          change wpList _ _ _ _ _ (World.drew w2)
          have kd : Kept (fun _ => False) w2 (World.drew w2) := (Kept.refl _ _).drew
          generalize World.drew w2 = w6 at *
          have HJ6 := Lib.hid (HJ1.out.kept kd)
          have hty := HTY.out.frame (Same.of_kept kd (fun _ _ e => e))
          have htm := HTM.out.frame (Same.of_kept kd (fun _ _ e => e))
          clear HJ1 gB c0 c2 d0 d1 d2 d3 d4 d5 d6 kd HTY HTM
          have gB : ∀ i, w6.cell? ⟨w.heap.size, i, none⟩ = [Value.int .i64 u.op, .string u.name, .int .i64 u.n, .int .i64 u.ty.kind, .string u.ty.name, .slice xa xn xc, .slice (some ⟨g', off', none⟩) u.kids.length yc][i]? := HJ6.out.b.cell
          have fB : ∀ i, w6.frozen? ⟨w.heap.size, i, none⟩ = false := HJ6.out.b.frozen
          have HX : Hid (RbI w (w.heap.size + 1) u.kids[j] (L ++ bndN u.op u.name j) (((((((w6.setCell ⟨w.heap.size, 0, none⟩ (.int .i64 u.kids[j].op)).setCell ⟨w.heap.size, 1, none⟩ (.string u.kids[j].name)).setCell ⟨w.heap.size, 2, none⟩ (.int .i64 u.kids[j].n)).setCell ⟨w.heap.size, 3, none⟩ (.int .i64 u.kids[j].ty.kind)).setCell ⟨w.heap.size, 4, none⟩ (.string u.kids[j].ty.name)).setCell ⟨w.heap.size, 5, none⟩ (.slice pa pn pc)).setCell ⟨w.heap.size, 6, none⟩ (.slice qa qn qc)) (.slice pa pn pc) (.slice qa qn qc) (v2)) := Lib.hid
            ⟨k7w HJ6.out.kp (Or.inr (Nat.le_refl _)), r7 HJ6.out.b rfl, HJ6.out.own.kept s7k (fun g hg e => by have := (HJ6.out.own.lt g hg).1; omega), hty.frame (set7 (fun q hq => by omega)), htm.frame (set7 (fun q hq => by omega))⟩
          clear hty htm
          go_wp2_with fail
          go_roundw
          case rel => exact ⟨k + 1, _, _, _, _, by omega, by go_num, HX.out, HN⟩
          case measure => simp [intOf]; omega
    · have hkk : k = l.length := by omega
      subst hkk
      have HBL : Hid (boundP t l = L) := Lib.hid (by rw [hL.out.2.1, List.drop_length, boundP, List.append_nil])
      go_wp2_with fail
      go_ret2
      exact ⟨_, by rw [hres.out]; rfl, by rw [hres.out, HBL.out]; exact HJ.out.own.nml.mono (fun _ _ _ => trivial), HJ.out.kp⟩
end Go.Proofs.YtfhedienjnfdcaaGreatDoor
