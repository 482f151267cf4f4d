/- The printer: compound, operand. -/
import Derived.Test.YtckjlliobebodaaGreatDoorKey
import Derived.Deep.RegionHeld3
set_option linter.unusedVariables false
set_option linter.unusedSimpArgs false
namespace Go.Proofs.YtckjlliobebodaaGreatDoor
open Go.RowKit
def compB (op : Int) : Bool := op == 3 || op == 21 || op == 8 || op == 9 || op == 56 || !((binS op).toList == [])
set_option maxHeartbeats 4000000 in
theorem compound_any {op : Int} {nm : ByteArray} {N : Int} {tkd : Int} {tnm : ByteArray} {tk kk : Value} {ta : Option Addr} {tn tc : Nat} {ma : Option Addr} {mn mc : Nat} (h1 : tk = .slice ta tn tc) (h2 : kk = .slice ma mn mc) (w : World) :
    Calls Tryz.prog 138 #[.agg #[.int .i64 op, .string nm, .int .i64 N, .int .i64 tkd, .string tnm, tk, kk]] w fun e w' => e = .returned (.bool (compB op)) ∧ Kept (fun _ => False) w w' := by
  subst h1 h2
  have K0 : Kept (fun _ => False) w (w.alloc (.cells #[.int .i64 op, .string nm, .int .i64 N, .int .i64 tkd, .string tnm, .slice ta tn tc, .slice ma mn mc] 27)) := (Kept.refl _ _).alloc _
  by_cases h : op = 3 ∨ op = 21 ∨ op = 8 ∨ op = 9 ∨ op = 56
  · rcases h with rfl | rfl | rfl | rfl | rfl
    all_goals
      go_enter Tryz.func138, Tryz.ntmps138
      go_wp2_with fail
      go_ret
      exact ⟨rfl, K0⟩
  · have q3 : (op == 3) = false := beq_false_of_ne (fun e => h (by simp [e]))
    have q21 : (op == 21) = false := beq_false_of_ne (fun e => h (by simp [e]))
    have q8 : (op == 8) = false := beq_false_of_ne (fun e => h (by simp [e]))
    have q9 : (op == 9) = false := beq_false_of_ne (fun e => h (by simp [e]))
    have q56 : (op == 56) = false := beq_false_of_ne (fun e => h (by simp [e]))
    have HQ : Hid (compB op = !((binS op).toList == [])) := Lib.hid (by unfold compB; rw [q3, q21, q8, q9, q56]; rfl)
    clear h
    have HB := Lib.hid (binary_any op)
    go_enter Tryz.func138, Tryz.ntmps138
    go_wp2_with (go_at_call 94; refine (HB.out _).mono ?_; rintro e w1 ⟨rfl, k1⟩)
    go_ret
    exact ⟨by rw [HQ.out]; first | rfl | simp [bne], K0.trans k1⟩
def PP (B b : Nat) (l : List UInt8) (w : World) (e : Ending) (w' : World) : Prop := e = .returned (.tuple #[]) ∧ BuP B b l w w'
/-- Printing the term t writes out. -/
def PC (t : Tm) (out : List UInt8) : Prop := ∀ (B b : Nat) (l : List UInt8) (w : World) (tk kk : Value), Bu B b l w → B ≤ w.heap.size → TyL (fun q => q < B) w t.ty.kids tk → TmL (fun q => q < B) w t.kids kk → l.length + out.length ≤ 1000000000 →
  Calls Tryz.prog 52 #[.pointer (some ⟨b, 0, none⟩), tmVal t tk kk] w (PP B b (l ++ out) w)
/-- .. as an operand. -/
def OC (t : Tm) (out : List UInt8) : Prop := ∀ (B b : Nat) (l : List UInt8) (w : World) (tk kk : Value), Bu B b l w → B ≤ w.heap.size → TyL (fun q => q < B) w t.ty.kids tk → TmL (fun q => q < B) w t.kids kk → l.length + out.length ≤ 1000000000 →
  Calls Tryz.prog 95 #[.pointer (some ⟨b, 0, none⟩), tmVal t tk kk] w (PP B b (l ++ out) w)
theorem Bu.kept {B b : Nat} {l : List UInt8} {w w' : World} (h : Bu B b l w) (k : Kept (fun _ => False) w w') : Bu B b l w' := by
  have go : ∀ p, Lib.BuilderAt 71 5 B b p (Lib.byteCells l) w → Lib.BuilderAt 71 5 B b p (Lib.byteCells l) w' := by
    rintro p ⟨hB, v, hb, hown, hne⟩
    have hlt : b < w.heap.size := by
      rcases Nat.lt_or_ge b w.heap.size with h' | h'
      · exact h'
      · simp [Array.getElem?_eq_none h'] at hb
    refine ⟨hB, v, by rw [k.block b hlt (fun h => h)]; exact hb, ?_, hne⟩
    refine ⟨hown.1, ?_⟩
    rcases hown.2 with h | ⟨g, cap, cur, hv, hg, hh, r⟩
    · exact Or.inl h
    · have hl : g < w.heap.size := by
        rcases Nat.lt_or_ge g w.heap.size with h' | h'
        · exact h'
        · simp [Array.getElem?_eq_none h'] at hh
      exact Or.inr ⟨g, cap, cur, hv, hg, by rw [k.block g hl (fun h => h)]; exact hh, r⟩
  rcases h with h | h
  · exact Or.inl (go _ h)
  · exact Or.inr (go _ h)
def parS (op : Int) (out : List UInt8) : List UInt8 := if compB op then [40] ++ out ++ [41] else out
set_option maxRecDepth 100000 in
set_option maxHeartbeats 4000000 in
theorem operand_any {t : Tm} {out : List UInt8} (hp : PC t out) : OC t (parS t.op out) := by
  intro B b l w tk kk hb hB hty htm hlen
  obtain ⟨ta, tn, tc, rfl⟩ := hty.slice
  obtain ⟨ma, mn, mc, rfl⟩ := htm.slice
  unfold tmVal
  have K0 : Kept (fun _ => False) w (w.alloc (.cells #[.int .i64 t.op, .string t.name, .int .i64 t.n, .int .i64 t.ty.kind, .string t.ty.name, .slice ta tn tc, .slice ma mn mc] 27)) := (Kept.refl _ _).alloc _
  have bX : Blk (w.alloc (.cells #[.int .i64 t.op, .string t.name, .int .i64 t.n, .int .i64 t.ty.kind, .string t.ty.name, .slice ta tn tc, .slice ma mn mc] 27)) w.heap.size 27 (tmCells t (.slice ta tn tc) (.slice ma mn mc)) := Blk.new w 27 _
  have hbl := hb.lt
  have hbB := hb.le
  have HP := Lib.hid hp
  have HCO := Lib.hid (fun W => compound_any (op := t.op) (nm := t.name) (N := t.n) (tkd := t.ty.kind) (tnm := t.ty.name) (ta := ta) (tn := tn) (tc := tc) (ma := ma) (mn := mn) (mc := mc) rfl rfl W)
  clear hp
  cases hc : compB t.op
  · have hps : parS t.op out = out := by unfold parS; rw [hc]; rfl
    rw [hps] at hlen ⊢
    have HL := Lib.hid hlen
    clear hlen hps
    go_enter Tryz.func95, Tryz.ntmps95
    go_wp2_with fail
    refine (HCO.out _).mono ?_
    rintro e w1 ⟨rfl, k1⟩
    rw [hc]
    have K1 := K0.trans k1
    have b1 := bX.kept k1 (fun h => h)
    have g0 : w1.cell? ⟨w.heap.size, 0, none⟩ = some (.int .i64 t.op) := b1.cell 0
    have g1 : w1.cell? ⟨w.heap.size, 1, none⟩ = some (.string t.name) := b1.cell 1
    have g2 : w1.cell? ⟨w.heap.size, 2, none⟩ = some (.int .i64 t.n) := b1.cell 2
    have g3 : w1.cell? ⟨w.heap.size, 3, none⟩ = some (.int .i64 t.ty.kind) := b1.cell 3
    have g4 : w1.cell? ⟨w.heap.size, 4, none⟩ = some (.string t.ty.name) := b1.cell 4
    have g5 : w1.cell? ⟨w.heap.size, 5, none⟩ = some (.slice ta tn tc) := b1.cell 5
    have g6 : w1.cell? ⟨w.heap.size, 6, none⟩ = some (.slice ma mn mc) := b1.cell 6
    have HC := Lib.hid (HP.out B b l w1 _ _ (hb.kept K1) (Nat.le_trans hB K1.size) (hty.frame (Same.of_kept K1 (fun _ _ e => e))) (htm.frame (Same.of_kept K1 (fun _ _ e => e))) HL.out)
    go_wp2_with fail
    refine HC.out.mono ?_
    rintro e w2 ⟨rfl, h1, h2⟩
    go_wp2_with fail
    first | go_end0 | refine bodyPost_ret (results_none rfl _ _ _) rfl ?_
    exact ⟨rfl, h1, (KB.of_kept K1).trans h2⟩
  · have hps : parS t.op out = [40] ++ out ++ [41] := by unfold parS; rw [hc]; rfl
    rw [hps] at hlen ⊢
    have HL : Hid (l.length + out.length + 2 ≤ 1000000000) := Lib.hid (by simp at hlen; omega)
    clear hlen hps
    go_enter Tryz.func95, Tryz.ntmps95
    go_wp2_with fail
    refine (HCO.out _).mono ?_
    rintro e w1 ⟨rfl, k1⟩
    rw [hc]
    have K1 := K0.trans k1
    have b1 := bX.kept k1 (fun h => h)
    have HW1 := Lib.hid (wb_any (40 : UInt8) (ci := 40) rfl (hb.kept K1) (by have := HL.out; omega) (Nat.le_trans hB K1.size))
    go_wp2_with fail
    refine HW1.out.mono ?_
    rintro e w2 ⟨rfl, u2, k2⟩
    have K2 : KB b B w w2 := (KB.of_kept K1).trans k2
    have b2 := b1.kb k2 (by omega) (by decide)
    have g0 : w2.cell? ⟨w.heap.size, 0, none⟩ = some (.int .i64 t.op) := b2.cell 0
    have g1 : w2.cell? ⟨w.heap.size, 1, none⟩ = some (.string t.name) := b2.cell 1
    have g2 : w2.cell? ⟨w.heap.size, 2, none⟩ = some (.int .i64 t.n) := b2.cell 2
    have g3 : w2.cell? ⟨w.heap.size, 3, none⟩ = some (.int .i64 t.ty.kind) := b2.cell 3
    have g4 : w2.cell? ⟨w.heap.size, 4, none⟩ = some (.string t.ty.name) := b2.cell 4
    have g5 : w2.cell? ⟨w.heap.size, 5, none⟩ = some (.slice ta tn tc) := b2.cell 5
    have g6 : w2.cell? ⟨w.heap.size, 6, none⟩ = some (.slice ma mn mc) := b2.cell 6
    have HC := Lib.hid (HP.out B b (l ++ [40]) w2 _ _ u2 (Nat.le_trans hB K2.size) (hty.frame (Same.kb K2 hbB)) (htm.frame (Same.kb K2 hbB)) (by have := HL.out; simp; omega))
    go_wp2_with fail
    refine HC.out.mono ?_
    rintro e w3 ⟨rfl, u3, k3⟩
    have K3 := K2.trans k3
    have HW3 := Lib.hid (wb_any (41 : UInt8) (ci := 41) rfl u3 (by have := HL.out; simp; omega) (Nat.le_trans hB K3.size))
    go_wp2_with fail
    refine HW3.out.mono ?_
    rintro e w4 ⟨rfl, u4, k4⟩
    go_wp2_with fail
    first | go_end0 | refine bodyPost_ret (results_none rfl _ _ _) rfl ?_
    exact ⟨rfl, by simpa using u4, K3.trans k4⟩
end Go.Proofs.YtckjlliobebodaaGreatDoor
