/- Parse: what it returns for a source. Printed by genprs.py. -/
import Derived.Test.YtckjlliobebodaaGreatDoorBd
import Derived.Test.YtckjlliobebodaaGreatDoorRead
set_option linter.unusedVariables false
set_option linter.unusedSimpArgs false
namespace Go.Proofs.YtckjlliobebodaaGreatDoor
open Go.RowKit
set_option maxRecDepth 100000 in
set_option maxHeartbeats 4000000 in
theorem read_long {s : ByteArray} {cl : Value} {w : World} (hs : 65536 < s.size) (hs2 : s.size ≤ 9223372036854775807) :
    Calls Tryz.prog 31 #[.string s, cl] w fun e w' => e = .returned (.tuple #[.int .i64 0, .int .i64 3]) ∧ Kept (fun _ => False) w w' := by
  have i1 : (65536 : Int) < s.size := by omega
  go_enter_defers Tryz.func31, Tryz.ntmps31
  go_wp2_with fail
  refine ⟨_, results_cc Tryz.results31 rfl rfl (load_i (x := 0) ?_) (load_e (x := 3) ?_), rfl, ?_⟩
  · exact (Blk.new w 3 _).alloc _
  · exact Blk.new' 28 _ (by simp)
  · exact ((Kept.refl _ _).alloc _).alloc _
/-- The zero Term. -/
def tm0 : Tm := .mk 0 nil0 0 ty0 []
/-- What Parse answers: the term, the byte, the error. -/
def parseQ (f : Nat) (s : ByteArray) : Except ER (Tm × PS) := wholeF s (fun σ => termS f s 1 σ)
def parseT (f : Nat) (s : ByteArray) : Tm := if 65536 < s.size then tm0 else match parseQ f s with | .error _ => tm0 | .ok q => if validB q.1 then q.1 else tm0
def parseA (f : Nat) (s : ByteArray) : Int := if 65536 < s.size then 0 else rdAt (parseQ f s)
def parseE (f : Nat) (s : ByteArray) : Int := if 65536 < s.size then 3 else match parseQ f s with | .error r => if r.1 then 4 else 2 | .ok q => if validB q.1 then 0 else 5
def ParseP (f : Nat) (s : ByteArray) (w : World) (e : Ending) (w' : World) : Prop := ∃ tv, e = .returned (.tuple #[tv, .int .i64 (parseA f s), .int .i64 (parseE f s)]) ∧ VTm w.heap.size (parseT f s) w' tv ∧ Kept (fun _ => False) w w'
theorem sm_whole {f : Nat} {s : ByteArray} {t : Tm} {σ : PS} (hs : s.size ≤ 65536) (h : parseQ f s = .ok (t, σ)) : SmTm 65536 t := by
  unfold parseQ wholeF at h
  cases h1 : advS s ps0 with
  | error r => rw [h1] at h; cases h
  | ok σ1 =>
    rw [h1] at h
    simp only [bP] at h
    cases h2 : termS f s 1 σ1 with
    | error r => rw [h2] at h; cases h
    | ok q =>
      obtain ⟨t2, σ2⟩ := q
      rw [h2] at h
      simp only [bT] at h
      split at h
      · cases h
        exact (sm_term hs f _ _ _ _ (st_adv hs ⟨Nat.zero_le _, Nat.zero_le _⟩ h1) h2).1
      · cases h
set_option maxRecDepth 100000 in
set_option maxHeartbeats 8000000 in
theorem parse_any {f : Nat} {s : ByteArray} {w : World} (hf : 14 * (s.size + 2) < f) (hs2 : s.size ≤ 9223372036854775807) (hgl : Gl w) : Calls Tryz.prog 11 #[.string s] w (ParseP f s w) := by
  have hmf : ∀ (fn : Fn) (first cap : Array Value) (w : World), (Instr.makeFunc fn first cap).run Tryz.prog w = .ok (.func fn first cap) w := fun _ _ _ _ => rfl
  have hgt := hgl.lt
  have bR : Blk ((w.alloc (.cells #[.int .i64 0, .string ⟨#[]⟩, .int .i64 0, .int .i64 0, .string ⟨#[]⟩, .slice none 0 0, .slice none 0 0] 27)).alloc (.cells #[.int .i64 0, .string ⟨#[]⟩, .int .i64 0, .int .i64 0, .string ⟨#[]⟩, .slice none 0 0, .slice none 0 0] 27)) w.heap.size 27 z27 := (Blk.new w 27 _).alloc _
  have bO : Blk ((w.alloc (.cells #[.int .i64 0, .string ⟨#[]⟩, .int .i64 0, .int .i64 0, .string ⟨#[]⟩, .slice none 0 0, .slice none 0 0] 27)).alloc (.cells #[.int .i64 0, .string ⟨#[]⟩, .int .i64 0, .int .i64 0, .string ⟨#[]⟩, .slice none 0 0, .slice none 0 0] 27)) (w.heap.size + 1) 27 z27 := Blk.new' 27 _ (by simp)
  have K0 : Kept (fun _ => False) w ((w.alloc (.cells #[.int .i64 0, .string ⟨#[]⟩, .int .i64 0, .int .i64 0, .string ⟨#[]⟩, .slice none 0 0, .slice none 0 0] 27)).alloc (.cells #[.int .i64 0, .string ⟨#[]⟩, .int .i64 0, .int .i64 0, .string ⟨#[]⟩, .slice none 0 0, .slice none 0 0] 27)) := ((Kept.refl _ _).alloc _).alloc _
  have G0 : Gl ((w.alloc (.cells #[.int .i64 0, .string ⟨#[]⟩, .int .i64 0, .int .i64 0, .string ⟨#[]⟩, .slice none 0 0, .slice none 0 0] 27)).alloc (.cells #[.int .i64 0, .string ⟨#[]⟩, .int .i64 0, .int .i64 0, .string ⟨#[]⟩, .slice none 0 0, .slice none 0 0] 27)) := (hgl.alloc _).alloc _
  have Z0 : Hid (((w.alloc (.cells #[.int .i64 0, .string ⟨#[]⟩, .int .i64 0, .int .i64 0, .string ⟨#[]⟩, .slice none 0 0, .slice none 0 0] 27)).alloc (.cells #[.int .i64 0, .string ⟨#[]⟩, .int .i64 0, .int .i64 0, .string ⟨#[]⟩, .slice none 0 0, .slice none 0 0] 27)).heap.size = w.heap.size + 2) := Lib.hid (by simp)
  by_cases hs : 65536 < s.size
  · have HA : Hid (parseA f s = 0) := Lib.hid (if_pos hs)
    have HE : Hid (parseE f s = 3) := Lib.hid (if_pos hs)
    have HT : Hid (parseT f s = tm0) := Lib.hid (if_pos hs)
    go_enter Tryz.func11, Tryz.ntmps11
    go_wp2_with fail
    refine (read_long hs hs2).mono ?_
    rintro e w1 ⟨rfl, k1⟩
    have bR1 := bR.kept k1 (fun h => h)
    have K1 := K0.trans k1
    have r0 : w1.cell? ⟨w.heap.size, 0, none⟩ = some (.int .i64 0) := bR1.cell 0
    have f0 := bR1.frozen 0
    have r1 : w1.cell? ⟨w.heap.size, 1, none⟩ = some (.string ⟨#[]⟩) := bR1.cell 1
    have f1 := bR1.frozen 1
    have r2 : w1.cell? ⟨w.heap.size, 2, none⟩ = some (.int .i64 0) := bR1.cell 2
    have f2 := bR1.frozen 2
    have r3 : w1.cell? ⟨w.heap.size, 3, none⟩ = some (.int .i64 0) := bR1.cell 3
    have f3 := bR1.frozen 3
    have r4 : w1.cell? ⟨w.heap.size, 4, none⟩ = some (.string ⟨#[]⟩) := bR1.cell 4
    have f4 := bR1.frozen 4
    have r5 : w1.cell? ⟨w.heap.size, 5, none⟩ = some (.slice none 0 0) := bR1.cell 5
    have f5 := bR1.frozen 5
    have r6 : w1.cell? ⟨w.heap.size, 6, none⟩ = some (.slice none 0 0) := bR1.cell 6
    have f6 := bR1.frozen 6
    have BR := Lib.hid bR1
    have KP := Lib.hid K1
    clear bR1 K1
    go_wp2_with fail
    have bF := r7 (x0 := .int .i64 0) (x1 := .string ⟨#[]⟩) (x2 := .int .i64 0) (x3 := .int .i64 0) (x4 := .string ⟨#[]⟩) (x5 := .slice none 0 0) (x6 := .slice none 0 0) BR.out rfl
    exact bodyPost_ret (results_ctt Tryz.results11 rfl (load_tm (t := tm0) bF)) rfl ⟨_, by rw [HA.out, HE.out]; rfl, by rw [HT.out]; exact ⟨_, _, rfl, .nil0, .nil0⟩, (((((((KP.out.setCell (p := ⟨w.heap.size, 0, none⟩) (Or.inr (Nat.le_refl _)) _).setCell (p := ⟨w.heap.size, 1, none⟩) (Or.inr (Nat.le_refl _)) _).setCell (p := ⟨w.heap.size, 2, none⟩) (Or.inr (Nat.le_refl _)) _).setCell (p := ⟨w.heap.size, 3, none⟩) (Or.inr (Nat.le_refl _)) _).setCell (p := ⟨w.heap.size, 4, none⟩) (Or.inr (Nat.le_refl _)) _).setCell (p := ⟨w.heap.size, 5, none⟩) (Or.inr (Nat.le_refl _)) _).setCell (p := ⟨w.heap.size, 6, none⟩) (Or.inr (Nat.le_refl _)) _)⟩
  have hs' : s.size ≤ 65536 := by omega
  have hrd := read_any (o := w.heap.size + 1) (s := s) (F := fun σ => termS f s 1 σ) (V := Lies (w.heap.size + 1) (w.heap.size + 5)) (w := ((w.alloc (.cells #[.int .i64 0, .string ⟨#[]⟩, .int .i64 0, .int .i64 0, .string ⟨#[]⟩, .slice none 0 0, .slice none 0 0] 27)).alloc (.cells #[.int .i64 0, .string ⟨#[]⟩, .int .i64 0, .int .i64 0, .string ⟨#[]⟩, .slice none 0 0, .slice none 0 0] 27))) hs' G0 (by rw [Z0.out]; omega) (by omega)
    (by
      intro σ1 w1 p1 k1 z1 h1
      rw [Z0.out] at p1 z1 ⊢
      have hm := mu_le s σ1
      refine (parse1_any (f := f) hs' p1 (by omega) rfl (bO.kept k1 (fun h => h)) (by omega) (by omega)).mono ?_
      intro e w2 hc
      cases hq : termS f s 1 σ1 with
      | error r => rw [hq] at hc; exact hc
      | ok q =>
        obtain ⟨t, σ2⟩ := q
        rw [hq] at hc
        obtain ⟨c1, ⟨tk, kk, c2, c3, c4⟩, c5⟩ := hc
        exact ⟨c1, ⟨tk, kk, c2, c3.mono (fun k _ h => by omega), c4.mono (fun k _ h => by omega)⟩, c5⟩)
    (by
      rintro a w2 w3 ⟨tk, kk, c2, c3, c4⟩ z2 k3
      rw [Z0.out] at z2 k3
      exact ⟨tk, kk, c2.kept k3 (by show ¬ (w.heap.size + 1 = w.heap.size + 2 ∨ w.heap.size + 1 = w.heap.size + 2 + 1); omega), c3.frame (Same.of_kept k3 (fun k h e => by omega)), c4.frame (Same.of_kept k3 (fun k h e => by omega))⟩)
  have HRD := Lib.hid hrd
  clear hrd
  cases hq : parseQ f s with
  | error r =>
    have HA : Hid (parseA f s = r.2) := Lib.hid (by unfold parseA; rw [if_neg hs, hq]; rfl)
    have HE : Hid (parseE f s = if r.1 then 4 else 2) := Lib.hid (by unfold parseE; rw [if_neg hs, hq])
    have HT : Hid (parseT f s = tm0) := Lib.hid (by unfold parseT; rw [if_neg hs, hq])
    have HAA : Hid (rdAt (wholeF s (fun σ => termS f s 1 σ)) = r.2) := Lib.hid (by show rdAt (parseQ f s) = _; rw [hq]; rfl)
    have HEE : Hid (rdE (wholeF s (fun σ => termS f s 1 σ)) = if r.1 then 4 else 2) := Lib.hid (by show rdE (parseQ f s) = _; rw [hq]; rfl)
    clear hq
    go_enter Tryz.func11, Tryz.ntmps11
    go_wp2_with fail
    refine HRD.out.mono ?_
    rintro e w1 ⟨rfl, k1, _⟩
    rw [HAA.out, HEE.out]
    have bR1 := bR.kept k1 (by show ¬ w.heap.size = w.heap.size + 1; omega)
    have K1 := K0.via k1 (fun x hx e => by omega)
    have r0 : w1.cell? ⟨w.heap.size, 0, none⟩ = some (.int .i64 0) := bR1.cell 0
    have f0 := bR1.frozen 0
    have r1 : w1.cell? ⟨w.heap.size, 1, none⟩ = some (.string ⟨#[]⟩) := bR1.cell 1
    have f1 := bR1.frozen 1
    have r2 : w1.cell? ⟨w.heap.size, 2, none⟩ = some (.int .i64 0) := bR1.cell 2
    have f2 := bR1.frozen 2
    have r3 : w1.cell? ⟨w.heap.size, 3, none⟩ = some (.int .i64 0) := bR1.cell 3
    have f3 := bR1.frozen 3
    have r4 : w1.cell? ⟨w.heap.size, 4, none⟩ = some (.string ⟨#[]⟩) := bR1.cell 4
    have f4 := bR1.frozen 4
    have r5 : w1.cell? ⟨w.heap.size, 5, none⟩ = some (.slice none 0 0) := bR1.cell 5
    have f5 := bR1.frozen 5
    have r6 : w1.cell? ⟨w.heap.size, 6, none⟩ = some (.slice none 0 0) := bR1.cell 6
    have f6 := bR1.frozen 6
    have BR := Lib.hid bR1
    have KP := Lib.hid K1
    clear bR1 K1
    obtain ⟨r1, r2⟩ := r
    cases r1
    · rw [if_neg (by simp)] at HE ⊢
      go_wp2_with fail
      have bF := r7 (x0 := .int .i64 0) (x1 := .string ⟨#[]⟩) (x2 := .int .i64 0) (x3 := .int .i64 0) (x4 := .string ⟨#[]⟩) (x5 := .slice none 0 0) (x6 := .slice none 0 0) BR.out rfl
      exact bodyPost_ret (results_ctt Tryz.results11 rfl (load_tm (t := tm0) bF)) rfl ⟨_, by rw [HA.out, HE.out]; rfl, by rw [HT.out]; exact ⟨_, _, rfl, .nil0, .nil0⟩, (((((((KP.out.setCell (p := ⟨w.heap.size, 0, none⟩) (Or.inr (Nat.le_refl _)) _).setCell (p := ⟨w.heap.size, 1, none⟩) (Or.inr (Nat.le_refl _)) _).setCell (p := ⟨w.heap.size, 2, none⟩) (Or.inr (Nat.le_refl _)) _).setCell (p := ⟨w.heap.size, 3, none⟩) (Or.inr (Nat.le_refl _)) _).setCell (p := ⟨w.heap.size, 4, none⟩) (Or.inr (Nat.le_refl _)) _).setCell (p := ⟨w.heap.size, 5, none⟩) (Or.inr (Nat.le_refl _)) _).setCell (p := ⟨w.heap.size, 6, none⟩) (Or.inr (Nat.le_refl _)) _)⟩
    · rw [if_pos rfl] at HE ⊢
      go_wp2_with fail
      have bF := r7 (x0 := .int .i64 0) (x1 := .string ⟨#[]⟩) (x2 := .int .i64 0) (x3 := .int .i64 0) (x4 := .string ⟨#[]⟩) (x5 := .slice none 0 0) (x6 := .slice none 0 0) BR.out rfl
      exact bodyPost_ret (results_ctt Tryz.results11 rfl (load_tm (t := tm0) bF)) rfl ⟨_, by rw [HA.out, HE.out]; rfl, by rw [HT.out]; exact ⟨_, _, rfl, .nil0, .nil0⟩, (((((((KP.out.setCell (p := ⟨w.heap.size, 0, none⟩) (Or.inr (Nat.le_refl _)) _).setCell (p := ⟨w.heap.size, 1, none⟩) (Or.inr (Nat.le_refl _)) _).setCell (p := ⟨w.heap.size, 2, none⟩) (Or.inr (Nat.le_refl _)) _).setCell (p := ⟨w.heap.size, 3, none⟩) (Or.inr (Nat.le_refl _)) _).setCell (p := ⟨w.heap.size, 4, none⟩) (Or.inr (Nat.le_refl _)) _).setCell (p := ⟨w.heap.size, 5, none⟩) (Or.inr (Nat.le_refl _)) _).setCell (p := ⟨w.heap.size, 6, none⟩) (Or.inr (Nat.le_refl _)) _)⟩
  | ok q =>
    obtain ⟨t, σ2⟩ := q
    have hsm := (sm_whole hs' hq).mono (N' := big) (by decide)
    have HAA : Hid (rdAt (wholeF s (fun σ => termS f s 1 σ)) = 0) := Lib.hid (by show rdAt (parseQ f s) = _; rw [hq]; rfl)
    have HEE : Hid (rdE (wholeF s (fun σ => termS f s 1 σ)) = 0) := Lib.hid (by show rdE (parseQ f s) = _; rw [hq]; rfl)
    have HA : Hid (parseA f s = 0) := Lib.hid (by unfold parseA; rw [if_neg hs, hq]; rfl)
    have HEV : Hid (parseE f s = if validB t then 0 else 5) := Lib.hid (by unfold parseE; rw [if_neg hs, hq])
    have HTV : Hid (parseT f s = if validB t then t else tm0) := Lib.hid (by unfold parseT; rw [if_neg hs, hq])
    have HQ := Lib.hid hq
    clear hq
    go_enter Tryz.func11, Tryz.ntmps11
    go_wp2_with fail
    refine HRD.out.mono ?_
    rintro e w1 ⟨rfl, k1, hl⟩
    rw [HAA.out, HEE.out]
    obtain ⟨tk, kk, bT, hty, htm⟩ := hl t σ2 HQ.out
    clear hl
    obtain ⟨ta, tn, tc, rfl⟩ := hty.slice
    obtain ⟨ma, mn, mc, rfl⟩ := htm.slice
    have bR1 := bR.kept k1 (by show ¬ w.heap.size = w.heap.size + 1; omega)
    have K1 := K0.via k1 (fun x hx e => by omega)
    have y0 : w1.cell? ⟨w.heap.size + 1, 0, none⟩ = some (.int .i64 t.op) := bT.cell 0
    have y1 : w1.cell? ⟨w.heap.size + 1, 1, none⟩ = some (.string t.name) := bT.cell 1
    have y2 : w1.cell? ⟨w.heap.size + 1, 2, none⟩ = some (.int .i64 t.n) := bT.cell 2
    have y3 : w1.cell? ⟨w.heap.size + 1, 3, none⟩ = some (.int .i64 t.ty.kind) := bT.cell 3
    have y4 : w1.cell? ⟨w.heap.size + 1, 4, none⟩ = some (.string t.ty.name) := bT.cell 4
    have y5 : w1.cell? ⟨w.heap.size + 1, 5, none⟩ = some (.slice ta tn tc) := bT.cell 5
    have y6 : w1.cell? ⟨w.heap.size + 1, 6, none⟩ = some (.slice ma mn mc) := bT.cell 6
    have HV := Lib.hid (valid_any hty htm hsm)
    go_wp2_with fail
    refine HV.out.mono ?_
    rintro e w2 ⟨rfl, k2⟩
    have bR2 := bR1.kept k2 (fun h => h)
    have bT2 := bT.kept k2 (fun h => h)
    have K2 := K1.trans k2
    have l2 := bT2.lt
    cases hv : validB t
    · have HE : Hid (parseE f s = 5) := Lib.hid (by rw [HEV.out, hv]; rfl)
      have HT : Hid (parseT f s = tm0) := Lib.hid (by rw [HTV.out, hv]; rfl)
      have r0 : w2.cell? ⟨w.heap.size, 0, none⟩ = some (.int .i64 0) := bR2.cell 0
      have f0 := bR2.frozen 0
      have r1 : w2.cell? ⟨w.heap.size, 1, none⟩ = some (.string ⟨#[]⟩) := bR2.cell 1
      have f1 := bR2.frozen 1
      have r2 : w2.cell? ⟨w.heap.size, 2, none⟩ = some (.int .i64 0) := bR2.cell 2
      have f2 := bR2.frozen 2
      have r3 : w2.cell? ⟨w.heap.size, 3, none⟩ = some (.int .i64 0) := bR2.cell 3
      have f3 := bR2.frozen 3
      have r4 : w2.cell? ⟨w.heap.size, 4, none⟩ = some (.string ⟨#[]⟩) := bR2.cell 4
      have f4 := bR2.frozen 4
      have r5 : w2.cell? ⟨w.heap.size, 5, none⟩ = some (.slice none 0 0) := bR2.cell 5
      have f5 := bR2.frozen 5
      have r6 : w2.cell? ⟨w.heap.size, 6, none⟩ = some (.slice none 0 0) := bR2.cell 6
      have f6 := bR2.frozen 6
      have BR := Lib.hid bR2
      have KP := Lib.hid K2
      clear bR1 K1 bR2 K2 bT bT2
      go_wp2_with fail
      have bF := r7 (x0 := .int .i64 0) (x1 := .string ⟨#[]⟩) (x2 := .int .i64 0) (x3 := .int .i64 0) (x4 := .string ⟨#[]⟩) (x5 := .slice none 0 0) (x6 := .slice none 0 0) BR.out rfl
      exact bodyPost_ret (results_ctt Tryz.results11 rfl (load_tm (t := tm0) bF)) rfl ⟨_, by rw [HA.out, HE.out]; rfl, by rw [HT.out]; exact ⟨_, _, rfl, .nil0, .nil0⟩, (((((((KP.out.setCell (p := ⟨w.heap.size, 0, none⟩) (Or.inr (Nat.le_refl _)) _).setCell (p := ⟨w.heap.size, 1, none⟩) (Or.inr (Nat.le_refl _)) _).setCell (p := ⟨w.heap.size, 2, none⟩) (Or.inr (Nat.le_refl _)) _).setCell (p := ⟨w.heap.size, 3, none⟩) (Or.inr (Nat.le_refl _)) _).setCell (p := ⟨w.heap.size, 4, none⟩) (Or.inr (Nat.le_refl _)) _).setCell (p := ⟨w.heap.size, 5, none⟩) (Or.inr (Nat.le_refl _)) _).setCell (p := ⟨w.heap.size, 6, none⟩) (Or.inr (Nat.le_refl _)) _)⟩
    · have HE : Hid (parseE f s = 0) := Lib.hid (by rw [HEV.out, hv]; rfl)
      have HT : Hid (parseT f s = t) := Lib.hid (by rw [HTV.out, hv]; rfl)
      have hty2 := hty.frame (Same.of_kept k2 (fun _ _ e => e))
      have htm2 := htm.frame (Same.of_kept k2 (fun _ _ e => e))
      have x0 : w2.cell? ⟨w.heap.size + 1, 0, none⟩ = some (.int .i64 t.op) := bT2.cell 0
      have x1 : w2.cell? ⟨w.heap.size + 1, 1, none⟩ = some (.string t.name) := bT2.cell 1
      have x2 : w2.cell? ⟨w.heap.size + 1, 2, none⟩ = some (.int .i64 t.n) := bT2.cell 2
      have x3 : w2.cell? ⟨w.heap.size + 1, 3, none⟩ = some (.int .i64 t.ty.kind) := bT2.cell 3
      have x4 : w2.cell? ⟨w.heap.size + 1, 4, none⟩ = some (.string t.ty.name) := bT2.cell 4
      have x5 : w2.cell? ⟨w.heap.size + 1, 5, none⟩ = some (.slice ta tn tc) := bT2.cell 5
      have x6 : w2.cell? ⟨w.heap.size + 1, 6, none⟩ = some (.slice ma mn mc) := bT2.cell 6
      have HC := Lib.hid (clone_any (valid_bd hv) w2 _ _ _ hty2 htm2)
      clear hty2 htm2 y0 y1 y2 y3 y4 y5 y6
      go_wp2_with fail
      refine HC.out.mono ?_
      rintro e w3 ⟨v, u, rfl, hv3, hu3, k3⟩
      obtain ⟨va, vn, vc, rfl⟩ := hv3.slice
      obtain ⟨ua, un, uc, rfl⟩ := hu3.slice
      unfold tmVal
      have bR3 := bR2.kept k3 (fun h => h)
      have K3 := K2.trans k3
      have r0 : w3.cell? ⟨w.heap.size, 0, none⟩ = some (.int .i64 0) := bR3.cell 0
      have f0 := bR3.frozen 0
      have r1 : w3.cell? ⟨w.heap.size, 1, none⟩ = some (.string ⟨#[]⟩) := bR3.cell 1
      have f1 := bR3.frozen 1
      have r2 : w3.cell? ⟨w.heap.size, 2, none⟩ = some (.int .i64 0) := bR3.cell 2
      have f2 := bR3.frozen 2
      have r3 : w3.cell? ⟨w.heap.size, 3, none⟩ = some (.int .i64 0) := bR3.cell 3
      have f3 := bR3.frozen 3
      have r4 : w3.cell? ⟨w.heap.size, 4, none⟩ = some (.string ⟨#[]⟩) := bR3.cell 4
      have f4 := bR3.frozen 4
      have r5 : w3.cell? ⟨w.heap.size, 5, none⟩ = some (.slice none 0 0) := bR3.cell 5
      have f5 := bR3.frozen 5
      have r6 : w3.cell? ⟨w.heap.size, 6, none⟩ = some (.slice none 0 0) := bR3.cell 6
      have f6 := bR3.frozen 6
      have BR := Lib.hid bR3
      have KP := Lib.hid K3
      have V3 := Lib.hid hv3
      have U3 := Lib.hid hu3
      clear bR1 K1 bR2 K2 bT bT2 bR3 K3 hv3 hu3
      go_wp2_with fail
      have bF := r7 (x0 := .int .i64 t.op) (x1 := .string t.name) (x2 := .int .i64 t.n) (x3 := .int .i64 t.ty.kind) (x4 := .string t.ty.name) (x5 := .slice va vn vc) (x6 := .slice ua un uc) BR.out rfl
      refine bodyPost_ret (results_ctt Tryz.results11 rfl (load_tm (t := t) bF)) rfl ⟨_, by rw [HA.out, HE.out]; rfl, ?_, (((((((KP.out.setCell (p := ⟨w.heap.size, 0, none⟩) (Or.inr (Nat.le_refl _)) _).setCell (p := ⟨w.heap.size, 1, none⟩) (Or.inr (Nat.le_refl _)) _).setCell (p := ⟨w.heap.size, 2, none⟩) (Or.inr (Nat.le_refl _)) _).setCell (p := ⟨w.heap.size, 3, none⟩) (Or.inr (Nat.le_refl _)) _).setCell (p := ⟨w.heap.size, 4, none⟩) (Or.inr (Nat.le_refl _)) _).setCell (p := ⟨w.heap.size, 5, none⟩) (Or.inr (Nat.le_refl _)) _).setCell (p := ⟨w.heap.size, 6, none⟩) (Or.inr (Nat.le_refl _)) _)⟩
      rw [HT.out]
      exact ⟨_, _, rfl, (V3.out.frame (set7 (g := w.heap.size) (fun q h => by omega))).mono (fun q _ h => by omega), (U3.out.frame (set7 (g := w.heap.size) (fun q h => by omega))).mono (fun q _ h => by omega)⟩
end Go.Proofs.YtckjlliobebodaaGreatDoor

