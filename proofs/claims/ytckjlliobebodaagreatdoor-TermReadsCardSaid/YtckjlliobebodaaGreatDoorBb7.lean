/- Texts Prn Prt Fmt Fre Awk Con RefA RNum RSgn of this proof, in one. -/
import Derived.Test.YtckjlliobebodaaGreatDoorBb6
import Derived.Deep.RegionHeld3
import Derived.Test.YtckjlliobebodaaGreatDoorRows
import Derived.Deep.DeepLaidRun
import Derived.ProofKit
import Derived.Test.YtckjlliobebodaaGreatDoorCards
import Derived.Test.YtckjlliobebodaaGreatDoorTie
import Derived.OpenShut
import Derived.Deep.DeepHandedRow
import Derived.Stop.LaidErr
import Derived.LaidLaws
import Derived.ChangeMaps5
import Derived.Test.YtckjlliobebodaaGreatDoorBb4
set_option linter.unusedVariables false
set_option linter.unusedSimpArgs false
namespace Go.Proofs.YtckjlliobebodaaGreatDoor
open Go.RowKit
def compB (op : Int) : Bool := op == 3 || op == 21 || op == 8 || op == 9 || op == 56 || !((binS op).toList == [])
set_option maxHeartbeats 4000000 in
theorem compound_any {op : Int} {nm : ByteArray} {N : Int} {tkd : Int} {tnm : ByteArray} {tk kk : Value} {ta : Option Addr} {tn tc : Nat} {ma : Option Addr} {mn mc : Nat} (h1 : tk = .slice ta tn tc) (h2 : kk = .slice ma mn mc) (w : World) :
    Calls Tryz.prog 138 #[.agg #[.int .i64 op, .string nm, .int .i64 N, .int .i64 tkd, .string tnm, tk, kk]] w fun e w' => e = .returned (.bool (compB op)) ∧ Kept (fun _ => False) w w' := by
  subst h1 h2
  have K0 : Kept (fun _ => False) w (w.alloc (.cells #[.int .i64 op, .string nm, .int .i64 N, .int .i64 tkd, .string tnm, .slice ta tn tc, .slice ma mn mc] 27)) := (Kept.refl _ _).alloc _
  by_cases h : op = 3 ∨ op = 21 ∨ op = 8 ∨ op = 9 ∨ op = 56
  · rcases h with rfl | rfl | rfl | rfl | rfl
    all_goals
      go_enter Tryz.func138, Tryz.ntmps138
      go_wp2_with fail
      go_ret
      exact ⟨rfl, K0⟩
  · have q3 : (op == 3) = false := beq_false_of_ne (fun e => h (by simp [e]))
    have q21 : (op == 21) = false := beq_false_of_ne (fun e => h (by simp [e]))
    have q8 : (op == 8) = false := beq_false_of_ne (fun e => h (by simp [e]))
    have q9 : (op == 9) = false := beq_false_of_ne (fun e => h (by simp [e]))
    have q56 : (op == 56) = false := beq_false_of_ne (fun e => h (by simp [e]))
    have HQ : Hid (compB op = !((binS op).toList == [])) := Lib.hid (by unfold compB; rw [q3, q21, q8, q9, q56]; rfl)
    clear h
    have HB := Lib.hid (binary_any op)
    go_enter Tryz.func138, Tryz.ntmps138
    go_wp2_with (go_at_call 94; refine (HB.out _).mono ?_; rintro e w1 ⟨rfl, k1⟩)
    go_ret
    exact ⟨by rw [HQ.out]; first | rfl | simp [bne], K0.trans k1⟩
def PP (B b : Nat) (l : List UInt8) (w : World) (e : Ending) (w' : World) : Prop := e = .returned (.tuple #[]) ∧ BuP B b l w w'
def PC (t : Tm) (out : List UInt8) : Prop := ∀ (B b : Nat) (l : List UInt8) (w : World) (tk kk : Value), Bu B b l w → B ≤ w.heap.size → TyL (fun q => q < B) w t.ty.kids tk → TmL (fun q => q < B) w t.kids kk → l.length + out.length ≤ 1000000000 →
  Calls Tryz.prog 52 #[.pointer (some ⟨b, 0, none⟩), tmVal t tk kk] w (PP B b (l ++ out) w)
def OC (t : Tm) (out : List UInt8) : Prop := ∀ (B b : Nat) (l : List UInt8) (w : World) (tk kk : Value), Bu B b l w → B ≤ w.heap.size → TyL (fun q => q < B) w t.ty.kids tk → TmL (fun q => q < B) w t.kids kk → l.length + out.length ≤ 1000000000 →
  Calls Tryz.prog 95 #[.pointer (some ⟨b, 0, none⟩), tmVal t tk kk] w (PP B b (l ++ out) w)
theorem Bu.kept {B b : Nat} {l : List UInt8} {w w' : World} (h : Bu B b l w) (k : Kept (fun _ => False) w w') : Bu B b l w' := by
  have go : ∀ p, Lib.BuilderAt 71 5 B b p (Lib.byteCells l) w → Lib.BuilderAt 71 5 B b p (Lib.byteCells l) w' := by
    rintro p ⟨hB, v, hb, hown, hne⟩
    have hlt : b < w.heap.size := by
      rcases Nat.lt_or_ge b w.heap.size with h' | h'
      · exact h'
      · simp [Array.getElem?_eq_none h'] at hb
    refine ⟨hB, v, by rw [k.block b hlt (fun h => h)]; exact hb, ?_, hne⟩
    refine ⟨hown.1, ?_⟩
    rcases hown.2 with h | ⟨g, cap, cur, hv, hg, hh, r⟩
    · exact Or.inl h
    · have hl : g < w.heap.size := by
        rcases Nat.lt_or_ge g w.heap.size with h' | h'
        · exact h'
        · simp [Array.getElem?_eq_none h'] at hh
      exact Or.inr ⟨g, cap, cur, hv, hg, by rw [k.block g hl (fun h => h)]; exact hh, r⟩
  rcases h with h | h
  · exact Or.inl (go _ h)
  · exact Or.inr (go _ h)
def parS (op : Int) (out : List UInt8) : List UInt8 := if compB op then [40] ++ out ++ [41] else out
set_option maxRecDepth 100000 in
set_option maxHeartbeats 4000000 in
theorem operand_any {t : Tm} {out : List UInt8} (hp : PC t out) : OC t (parS t.op out) := by
  intro B b l w tk kk hb hB hty htm hlen
  obtain ⟨ta, tn, tc, rfl⟩ := hty.slice
  obtain ⟨ma, mn, mc, rfl⟩ := htm.slice
  unfold tmVal
  have K0 : Kept (fun _ => False) w (w.alloc (.cells #[.int .i64 t.op, .string t.name, .int .i64 t.n, .int .i64 t.ty.kind, .string t.ty.name, .slice ta tn tc, .slice ma mn mc] 27)) := (Kept.refl _ _).alloc _
  have bX : Blk (w.alloc (.cells #[.int .i64 t.op, .string t.name, .int .i64 t.n, .int .i64 t.ty.kind, .string t.ty.name, .slice ta tn tc, .slice ma mn mc] 27)) w.heap.size 27 (tmCells t (.slice ta tn tc) (.slice ma mn mc)) := Blk.new w 27 _
  have hbl := hb.lt
  have hbB := hb.le
  have HP := Lib.hid hp
  have HCO := Lib.hid (fun W => compound_any (op := t.op) (nm := t.name) (N := t.n) (tkd := t.ty.kind) (tnm := t.ty.name) (ta := ta) (tn := tn) (tc := tc) (ma := ma) (mn := mn) (mc := mc) rfl rfl W)
  clear hp
  cases hc : compB t.op
  · have hps : parS t.op out = out := by unfold parS; rw [hc]; rfl
    rw [hps] at hlen ⊢
    have HL := Lib.hid hlen
    clear hlen hps
    go_enter Tryz.func95, Tryz.ntmps95
    go_wp2_with fail
    refine (HCO.out _).mono ?_
    rintro e w1 ⟨rfl, k1⟩
    rw [hc]
    have K1 := K0.trans k1
    have b1 := bX.kept k1 (fun h => h)
    have g0 : w1.cell? ⟨w.heap.size, 0, none⟩ = some (.int .i64 t.op) := b1.cell 0
    have g1 : w1.cell? ⟨w.heap.size, 1, none⟩ = some (.string t.name) := b1.cell 1
    have g2 : w1.cell? ⟨w.heap.size, 2, none⟩ = some (.int .i64 t.n) := b1.cell 2
    have g3 : w1.cell? ⟨w.heap.size, 3, none⟩ = some (.int .i64 t.ty.kind) := b1.cell 3
    have g4 : w1.cell? ⟨w.heap.size, 4, none⟩ = some (.string t.ty.name) := b1.cell 4
    have g5 : w1.cell? ⟨w.heap.size, 5, none⟩ = some (.slice ta tn tc) := b1.cell 5
    have g6 : w1.cell? ⟨w.heap.size, 6, none⟩ = some (.slice ma mn mc) := b1.cell 6
    have HC := Lib.hid (HP.out B b l w1 _ _ (hb.kept K1) (Nat.le_trans hB K1.size) (hty.frame (Same.of_kept K1 (fun _ _ e => e))) (htm.frame (Same.of_kept K1 (fun _ _ e => e))) HL.out)
    go_wp2_with fail
    refine HC.out.mono ?_
    rintro e w2 ⟨rfl, h1, h2⟩
    go_wp2_with fail
    first | go_end0 | refine bodyPost_ret (results_none rfl _ _ _) rfl ?_
    exact ⟨rfl, h1, (KB.of_kept K1).trans h2⟩
  · have hps : parS t.op out = [40] ++ out ++ [41] := by unfold parS; rw [hc]; rfl
    rw [hps] at hlen ⊢
    have HL : Hid (l.length + out.length + 2 ≤ 1000000000) := Lib.hid (by simp at hlen; omega)
    clear hlen hps
    go_enter Tryz.func95, Tryz.ntmps95
    go_wp2_with fail
    refine (HCO.out _).mono ?_
    rintro e w1 ⟨rfl, k1⟩
    rw [hc]
    have K1 := K0.trans k1
    have b1 := bX.kept k1 (fun h => h)
    have HW1 := Lib.hid (wb_any (40 : UInt8) (ci := 40) rfl (hb.kept K1) (by have := HL.out; omega) (Nat.le_trans hB K1.size))
    go_wp2_with fail
    refine HW1.out.mono ?_
    rintro e w2 ⟨rfl, u2, k2⟩
    have K2 : KB b B w w2 := (KB.of_kept K1).trans k2
    have b2 := b1.kb k2 (by omega) (by decide)
    have g0 : w2.cell? ⟨w.heap.size, 0, none⟩ = some (.int .i64 t.op) := b2.cell 0
    have g1 : w2.cell? ⟨w.heap.size, 1, none⟩ = some (.string t.name) := b2.cell 1
    have g2 : w2.cell? ⟨w.heap.size, 2, none⟩ = some (.int .i64 t.n) := b2.cell 2
    have g3 : w2.cell? ⟨w.heap.size, 3, none⟩ = some (.int .i64 t.ty.kind) := b2.cell 3
    have g4 : w2.cell? ⟨w.heap.size, 4, none⟩ = some (.string t.ty.name) := b2.cell 4
    have g5 : w2.cell? ⟨w.heap.size, 5, none⟩ = some (.slice ta tn tc) := b2.cell 5
    have g6 : w2.cell? ⟨w.heap.size, 6, none⟩ = some (.slice ma mn mc) := b2.cell 6
    have HC := Lib.hid (HP.out B b (l ++ [40]) w2 _ _ u2 (Nat.le_trans hB K2.size) (hty.frame (Same.kb K2 hbB)) (htm.frame (Same.kb K2 hbB)) (by have := HL.out; simp; omega))
    go_wp2_with fail
    refine HC.out.mono ?_
    rintro e w3 ⟨rfl, u3, k3⟩
    have K3 := K2.trans k3
    have HW3 := Lib.hid (wb_any (41 : UInt8) (ci := 41) rfl u3 (by have := HL.out; simp; omega) (Nat.le_trans hB K3.size))
    go_wp2_with fail
    refine HW3.out.mono ?_
    rintro e w4 ⟨rfl, u4, k4⟩
    go_wp2_with fail
    first | go_end0 | refine bodyPost_ret (results_none rfl _ _ _) rfl ?_
    exact ⟨rfl, by simpa using u4, K3.trans k4⟩
theorem ba_len (s : ByteArray) : s.data.toList.length = s.size := Array.length_toList
theorem TmL.two' {B : Nat} {w : World} {x y : Tm} {v : Value} (h : TmL (fun q => q < B) w [x, y] v) : ∃ g off cap k0 m0 k1 m1, v = .slice (some ⟨g, off, none⟩) 2 cap ∧ g < B ∧ (∀ j u, (tmCells x k0 m0 ++ tmCells y k1 m1)[j]? = some u → w.cell? ⟨g, off + j, none⟩ = some u) ∧ TyL (fun q => q < B) w x.ty.kids k0 ∧ TmL (fun q => q < B) w x.kids m0 ∧ TyL (fun q => q < B) w y.ty.kids k1 ∧ TmL (fun q => q < B) w y.kids m1 := by
  generalize hl : [x, y] = l at h
  cases h with
  | nil h => cases hl
  | mk K M hne hb hc hcell hk hm =>
    rename_i g off cap
    subst hl
    have h0 := hcell 0 (by simp)
    have h1 := hcell 1 (by simp)
    simp only [Nat.zero_mul, Nat.add_zero, Nat.one_mul, List.getElem_cons_zero, List.getElem_cons_succ] at h0 h1
    refine ⟨g, off, cap, K 0, M 0, K 1, M 1, rfl, hb, fun j u hj => ?_, hk 0 (by simp), hm 0 (by simp), hk 1 (by simp), hm 1 (by simp)⟩
    have hlt : j < 14 := (List.getElem?_eq_some_iff.1 hj).1
    rcases (show j = 0 ∨ j = 1 ∨ j = 2 ∨ j = 3 ∨ j = 4 ∨ j = 5 ∨ j = 6 ∨ j = 7 ∨ j = 8 ∨ j = 9 ∨ j = 10 ∨ j = 11 ∨ j = 12 ∨ j = 13 by omega) with rfl | rfl | rfl | rfl | rfl | rfl | rfl | rfl | rfl | rfl | rfl | rfl | rfl | rfl
    · cases hj; exact h0.1
    · cases hj; exact h0.2.1
    · cases hj; exact h0.2.2.1
    · cases hj; exact h0.2.2.2.1
    · cases hj; exact h0.2.2.2.2.1
    · cases hj; exact h0.2.2.2.2.2.1
    · cases hj; exact h0.2.2.2.2.2.2
    · cases hj; exact h1.1
    · cases hj; exact h1.2.1
    · cases hj; exact h1.2.2.1
    · cases hj; exact h1.2.2.2.1
    · cases hj; exact h1.2.2.2.2.1
    · cases hj; exact h1.2.2.2.2.2.1
    · cases hj; exact h1.2.2.2.2.2.2
set_option maxRecDepth 100000 in
set_option maxHeartbeats 8000000 in
theorem pt_bin {t x y : Tm} {ox oy : List UInt8} (hkids : t.kids = [x, y]) (hbin : ((binS t.op).toList == []) = false) (hx : OC x ox) (hy : OC y oy) : PC t (ox ++ ([32] ++ (binS t.op).data.toList ++ [32]) ++ oy) := by
  intro B b l w tk kk hb hB hty htm hlen
  obtain ⟨ta, tn, tc, rfl⟩ := hty.slice
  rw [hkids] at htm
  obtain ⟨g, off, cap, k0, m0, k1, m1, rfl, hgB, hcl, hx5, hx6, hy5, hy6⟩ := htm.two'
  obtain ⟨xa, xn, xc, rfl⟩ := hx5.slice
  obtain ⟨xb, xo, xd, rfl⟩ := hx6.slice
  obtain ⟨ya, yn, yc, rfl⟩ := hy5.slice
  obtain ⟨yb, yo, yd, rfl⟩ := hy6.slice
  unfold tmVal
  have K0 : Kept (fun _ => False) w (w.alloc (.cells #[.int .i64 t.op, .string t.name, .int .i64 t.n, .int .i64 t.ty.kind, .string t.ty.name, .slice ta tn tc, .slice (some ⟨g, off, none⟩) 2 cap] 27)) := (Kept.refl _ _).alloc _
  have bX : Blk (w.alloc (.cells #[.int .i64 t.op, .string t.name, .int .i64 t.n, .int .i64 t.ty.kind, .string t.ty.name, .slice ta tn tc, .slice (some ⟨g, off, none⟩) 2 cap] 27)) w.heap.size 27 (tmCells t (.slice ta tn tc) (.slice (some ⟨g, off, none⟩) 2 cap)) := Blk.new w 27 _
  have hbl := hb.lt
  have hbB := hb.le
  have HBI := Lib.hid (binary_any t.op)
  have HL : Hid (l.length + ox.length + (binS t.op).size + oy.length + 2 ≤ 1000000000) := Lib.hid (by simp at hlen; have : (binS t.op).data.size = (binS t.op).size := rfl; omega)
  have HX := Lib.hid hx
  have HY := Lib.hid hy
  have HCL := Lib.hid hcl
  have HGB := Lib.hid hgB
  clear hlen hx hy hcl hkids htm hgB
  go_enter Tryz.func52, Tryz.ntmps52
  go_wp2_with fail
  refine (HBI.out _).mono ?_
  rintro e w1 ⟨rfl, k1'⟩
  have K1 := K0.trans k1'
  have b1 := bX.kept k1' (fun h => h)
  have g6 : w1.cell? ⟨w.heap.size, 6, none⟩ = some (.slice (some ⟨g, off, none⟩) 2 cap) := b1.cell 6
  have S1 : Same (fun q => q < B) w w1 := Same.of_kept K1 (fun _ _ e => e)
  have hc1 : Hid (∀ j u, (tmCells x (.slice xa xn xc) (.slice xb xo xd) ++ tmCells y (.slice ya yn yc) (.slice yb yo yd))[j]? = some u → w1.cell? ⟨g, off + j, none⟩ = some u) := Lib.hid (fun j u h => S1.cell HGB.out (HCL.out j u h))
  have c0 : w1.cell? ⟨g, off, none⟩ = some (.int .i64 x.op) := hc1.out 0 _ rfl
  have c1 : w1.cell? ⟨g, off + 1, none⟩ = some (.string x.name) := hc1.out 1 _ rfl
  have c2 : w1.cell? ⟨g, off + 2, none⟩ = some (.int .i64 x.n) := hc1.out 2 _ rfl
  have c3 : w1.cell? ⟨g, off + 3, none⟩ = some (.int .i64 x.ty.kind) := hc1.out 3 _ rfl
  have c4 : w1.cell? ⟨g, off + 4, none⟩ = some (.string x.ty.name) := hc1.out 4 _ rfl
  have c5 : w1.cell? ⟨g, off + 5, none⟩ = some (.slice xa xn xc) := hc1.out 5 _ rfl
  have c6 : w1.cell? ⟨g, off + 6, none⟩ = some (.slice xb xo xd) := hc1.out 6 _ rfl
  have HC1 := Lib.hid (HX.out B b l w1 _ _ (hb.kept K1) (Nat.le_trans hB K1.size) (hx5.frame S1) (hx6.frame S1) (by have := HL.out; omega))
  go_wp2_with fail
  refine HC1.out.mono ?_
  rintro e w2 ⟨rfl, u2, k2⟩
  have K2 : KB b B w w2 := (KB.of_kept K1).trans k2
  have b2 := b1.kb k2 (by omega) (by decide)
  have y6 : w2.cell? ⟨w.heap.size, 6, none⟩ = some (.slice (some ⟨g, off, none⟩) 2 cap) := b2.cell 6
  clear c0 c1 c2 c3 c4 c5 c6 g6
  have hsz : (⟨#[32]⟩ ++ binS t.op ++ ⟨#[32]⟩ : ByteArray).size = (binS t.op).size + 2 := by simp [ByteArray.size_append]; show 1 + (binS t.op).size + 1 = _; omega
  have HS := Lib.hid (ws_any (⟨#[32]⟩ ++ binS t.op ++ ⟨#[32]⟩) u2 (by have := HL.out; rw [hsz, List.length_append]; omega) (Nat.le_trans hB K2.size))
  clear hsz
  have hbz : (binS t.op).size ≤ 1000000000 := by have := HL.out; omega
  go_wp2_with fail
  refine HS.out.mono ?_
  rintro e w3 ⟨rfl, u3, k3⟩
  have K3 := K2.trans k3
  have b3 := b2.kb k3 (by omega) (by decide)
  have z6 : w3.cell? ⟨w.heap.size, 6, none⟩ = some (.slice (some ⟨g, off, none⟩) 2 cap) := b3.cell 6
  have S3 : Same (fun q => q < B) w w3 := Same.kb K3 hbB
  have hc3 : Hid (∀ j u, (tmCells x (.slice xa xn xc) (.slice xb xo xd) ++ tmCells y (.slice ya yn yc) (.slice yb yo yd))[j]? = some u → w3.cell? ⟨g, off + j, none⟩ = some u) := Lib.hid (fun j u h => S3.cell HGB.out (HCL.out j u h))
  have c0 : w3.cell? ⟨g, off + 7, none⟩ = some (.int .i64 y.op) := hc3.out 7 _ rfl
  have c1 : w3.cell? ⟨g, off + 8, none⟩ = some (.string y.name) := hc3.out 8 _ rfl
  have c2 : w3.cell? ⟨g, off + 9, none⟩ = some (.int .i64 y.n) := hc3.out 9 _ rfl
  have c3 : w3.cell? ⟨g, off + 10, none⟩ = some (.int .i64 y.ty.kind) := hc3.out 10 _ rfl
  have c4 : w3.cell? ⟨g, off + 11, none⟩ = some (.string y.ty.name) := hc3.out 11 _ rfl
  have c5 : w3.cell? ⟨g, off + 12, none⟩ = some (.slice ya yn yc) := hc3.out 12 _ rfl
  have c6 : w3.cell? ⟨g, off + 13, none⟩ = some (.slice yb yo yd) := hc3.out 13 _ rfl
  have hdl : (⟨#[32]⟩ ++ binS t.op ++ ⟨#[32]⟩ : ByteArray).data.toList = [32] ++ (binS t.op).data.toList ++ [32] := by simp [ByteArray.data_append]
  rw [hdl] at u3
  have HC3 := Lib.hid (HY.out B b _ w3 _ _ u3 (Nat.le_trans hB K3.size) (hy5.frame S3) (hy6.frame S3) (by have := HL.out; simp only [List.length_append, List.length_cons, List.length_nil, ba_len]; omega))
  clear hdl y6
  go_wp2_with fail
  refine HC3.out.mono ?_
  rintro e w4 ⟨rfl, u4, k4⟩
  go_wp2_with fail
  first | go_end0 | refine bodyPost_ret (results_none rfl _ _ _) rfl ?_
  exact ⟨rfl, by simpa using u4, K3.trans k4⟩
set_option maxRecDepth 100000 in
set_option maxHeartbeats 8000000 in
theorem pt_name {nm : ByteArray} {N : Int} {ty : Ty} {kl : List Tm}  : PC (.mk 20 nm N ty kl) nm.data.toList := by
  intro B b l w tk kk hb hB hty htm hlen
  have HB0 : Hid (binS 20 = ⟨#[]⟩) := Lib.hid (by decide)
  have HKY : Hid (∀ W, Calls Tryz.prog 97 #[.int .i64 20] W fun e w' => e = .returned (.string ⟨#[]⟩) ∧ Kept (fun _ => False) W w') := Lib.hid (fun W => keyed_any 20 W)
  obtain ⟨ta, tn, tc, rfl⟩ := hty.slice
  obtain ⟨ma, mn, mc, rfl⟩ := htm.slice
  unfold tmVal
  have hty' : TyL (fun q => q < B) w ty.kids (.slice ta tn tc) := hty
  have htm' : TmL (fun q => q < B) w kl (.slice ma mn mc) := htm
  clear hty htm
  simp only [Tm.op, Tm.name, Tm.n, Tm.ty, Tm.kids]
  have K0 : Kept (fun _ => False) w (w.alloc (.cells #[.int .i64 20, .string nm, .int .i64 N, .int .i64 ty.kind, .string ty.name, .slice ta tn tc, .slice ma mn mc] 27)) := (Kept.refl _ _).alloc _
  have bX : Blk (w.alloc (.cells #[.int .i64 20, .string nm, .int .i64 N, .int .i64 ty.kind, .string ty.name, .slice ta tn tc, .slice ma mn mc] 27)) w.heap.size 27 [.int .i64 20, .string nm, .int .i64 N, .int .i64 ty.kind, .string ty.name, .slice ta tn tc, .slice ma mn mc] := Blk.new w 27 _
  have hbl := hb.lt
  have hbB := hb.le
  have HBI : Hid (∀ W, Calls Tryz.prog 94 #[.int .i64 20] W fun e w' => e = .returned (.string ⟨#[]⟩) ∧ Kept (fun _ => False) W w') := Lib.hid (fun W => (binary_any 20 W).mono fun e w' ⟨h1, h2⟩ => ⟨by rw [h1, HB0.out], h2⟩)
  have HL := Lib.hid hlen
  clear hlen
  go_enter Tryz.func52, Tryz.ntmps52
  go_wp2_with fail
  refine (HBI.out _).mono ?_
  rintro e w1 ⟨rfl, k1⟩
  have K1 := K0.trans k1
  have b1 := bX.kept k1 (fun h => h)
  have g0 : w1.cell? ⟨w.heap.size, 0, none⟩ = some (.int .i64 20) := b1.cell 0
  go_wp2_with fail
  go_region_held3 (fun w' => w'.cell? ⟨w.heap.size, 0, none⟩ = some (.int .i64 20)) (go_keep)
    (first | (go_at_call 97; refine (HKY.out w1.drew).mono ?_; rintro e w2 ⟨rfl, k2'⟩; have k2 : Kept (fun _ => False) w1 w2 := ((Kept.refl _ _).drew).trans k2'; have b2 := b1.kept k2 (fun h => h); have g2 : w2.cell? ⟨w.heap.size, 0, none⟩ = some (.int .i64 20) := b2.cell 0; have K2 := K1.trans k2; have u2 := hb.kept K2) | (go_at_call 96; refine (ws_any _ u2 (by have := HL.out; simp only [ByteArray.size]; simp at this ⊢; omega) (Nat.le_trans hB K2.size)).mono ?_; rintro e w3 ⟨rfl, u3, k3⟩; have b3 := b2.kb k3 (by omega) (by decide); have g3 : w3.cell? ⟨w.heap.size, 0, none⟩ = some (.int .i64 20) := b3.cell 0))
  have K3 : KB b B w w3 := (KB.of_kept K2).trans k3
  have V3 := Lib.hid u3
  have g1x : w3.cell? ⟨w.heap.size, 1, none⟩ = some (.string nm) := b3.cell 1
  clear g0 g2 g3
  go_wp2_with fail
  go_region_held3 (fun w' => w'.cell? ⟨w.heap.size, 1, none⟩ = some (.string nm)) (go_keep)
    (first | (go_at_call 96; refine (ws_any nm (l := l) (w := w3.drew) (by have := V3.out.kept ((Kept.refl _ _).drew); simpa using this) (by have := HL.out; rw [ba_len] at this; exact this) (Nat.le_trans hB K3.size)).mono ?_; rintro e w4 ⟨rfl, u4, k4⟩; have b4 := b3.kb (((KB.refl b B w3).drew).trans k4) (by omega) (by decide); have g4x : w4.cell? ⟨w.heap.size, 1, none⟩ = some (.string nm) := b4.cell 1))
  go_wp2_with fail
  first | go_end0 | refine bodyPost_ret (results_none rfl _ _ _) rfl ?_
  exact ⟨rfl, u4, K3.trans (((KB.refl b B w3).drew).trans k4)⟩
set_option maxRecDepth 100000 in
set_option maxHeartbeats 8000000 in
theorem pt_int {nm : ByteArray} {N : Int} {ty : Ty} {kl : List Tm} {ds : ByteArray} (hIT : ∀ W : World, Calls Tryz.prog 83 #[.int .i64 N] W fun e w' => e = .returned (.string ds) ∧ W = w') : PC (.mk 19 nm N ty kl) ds.data.toList := by
  intro B b l w tk kk hb hB hty htm hlen
  have HB0 : Hid (binS 19 = ⟨#[]⟩) := Lib.hid (by decide)
  have HKY : Hid (∀ W, Calls Tryz.prog 97 #[.int .i64 19] W fun e w' => e = .returned (.string ⟨#[]⟩) ∧ Kept (fun _ => False) W w') := Lib.hid (fun W => keyed_any 19 W)
  have HIT := Lib.hid hIT
  clear hIT
  obtain ⟨ta, tn, tc, rfl⟩ := hty.slice
  obtain ⟨ma, mn, mc, rfl⟩ := htm.slice
  unfold tmVal
  have hty' : TyL (fun q => q < B) w ty.kids (.slice ta tn tc) := hty
  have htm' : TmL (fun q => q < B) w kl (.slice ma mn mc) := htm
  clear hty htm
  simp only [Tm.op, Tm.name, Tm.n, Tm.ty, Tm.kids]
  have K0 : Kept (fun _ => False) w (w.alloc (.cells #[.int .i64 19, .string nm, .int .i64 N, .int .i64 ty.kind, .string ty.name, .slice ta tn tc, .slice ma mn mc] 27)) := (Kept.refl _ _).alloc _
  have bX : Blk (w.alloc (.cells #[.int .i64 19, .string nm, .int .i64 N, .int .i64 ty.kind, .string ty.name, .slice ta tn tc, .slice ma mn mc] 27)) w.heap.size 27 [.int .i64 19, .string nm, .int .i64 N, .int .i64 ty.kind, .string ty.name, .slice ta tn tc, .slice ma mn mc] := Blk.new w 27 _
  have hbl := hb.lt
  have hbB := hb.le
  have HBI : Hid (∀ W, Calls Tryz.prog 94 #[.int .i64 19] W fun e w' => e = .returned (.string ⟨#[]⟩) ∧ Kept (fun _ => False) W w') := Lib.hid (fun W => (binary_any 19 W).mono fun e w' ⟨h1, h2⟩ => ⟨by rw [h1, HB0.out], h2⟩)
  have HL := Lib.hid hlen
  clear hlen
  go_enter Tryz.func52, Tryz.ntmps52
  go_wp2_with fail
  refine (HBI.out _).mono ?_
  rintro e w1 ⟨rfl, k1⟩
  have K1 := K0.trans k1
  have b1 := bX.kept k1 (fun h => h)
  have g0 : w1.cell? ⟨w.heap.size, 0, none⟩ = some (.int .i64 19) := b1.cell 0
  go_wp2_with fail
  go_region_held3 (fun w' => w'.cell? ⟨w.heap.size, 0, none⟩ = some (.int .i64 19)) (go_keep)
    (first | (go_at_call 97; refine (HKY.out w1.drew).mono ?_; rintro e w2 ⟨rfl, k2'⟩; have k2 : Kept (fun _ => False) w1 w2 := ((Kept.refl _ _).drew).trans k2'; have b2 := b1.kept k2 (fun h => h); have g2 : w2.cell? ⟨w.heap.size, 0, none⟩ = some (.int .i64 19) := b2.cell 0; have K2 := K1.trans k2; have u2 := hb.kept K2) | (go_at_call 96; refine (ws_any _ u2 (by have := HL.out; simp only [ByteArray.size]; simp at this ⊢; omega) (Nat.le_trans hB K2.size)).mono ?_; rintro e w3 ⟨rfl, u3, k3⟩; have b3 := b2.kb k3 (by omega) (by decide); have g3 : w3.cell? ⟨w.heap.size, 0, none⟩ = some (.int .i64 19) := b3.cell 0))
  have K3 : KB b B w w3 := (KB.of_kept K2).trans k3
  have V3 := Lib.hid u3
  have g2x : w3.cell? ⟨w.heap.size, 2, none⟩ = some (.int .i64 N) := b3.cell 2
  clear g0 g2 g3
  go_wp2_with fail
  go_region_held3 (fun w' => w'.cell? ⟨w.heap.size, 2, none⟩ = some (.int .i64 N)) (go_keep)
    (first | (go_at_call 83; refine (HIT.out _).mono ?_; rintro e w' ⟨rfl, rfl⟩) | (go_at_call 96; refine (ws_any ds (l := l) (w := w3.drew) (by have := V3.out.kept ((Kept.refl _ _).drew); simpa using this) (by have := HL.out; rw [ba_len] at this; exact this) (Nat.le_trans hB K3.size)).mono ?_; rintro e w4 ⟨rfl, u4, k4⟩; have b4 := b3.kb (((KB.refl b B w3).drew).trans k4) (by omega) (by decide); have g4x : w4.cell? ⟨w.heap.size, 2, none⟩ = some (.int .i64 N) := b4.cell 2))
  go_wp2_with fail
  first | go_end0 | refine bodyPost_ret (results_none rfl _ _ _) rfl ?_
  exact ⟨rfl, u4, K3.trans (((KB.refl b B w3).drew).trans k4)⟩
def joinO (O : Nat → List UInt8) : Nat → List UInt8
  | 0 => []
  | k + 1 => joinO O k ++ (if k = 0 then [] else [44, 32]) ++ O k
theorem join_le (O : Nat → List UInt8) (n : Nat) : ∀ k, k ≤ n → (joinO O k).length ≤ (joinO O n).length := by
  induction n with
  | zero => intro k h; have : k = 0 := by omega
            subst this; exact Nat.le_refl _
  | succ n ih =>
    intro k h
    by_cases e : k = n + 1
    · subst e; exact Nat.le_refl _
    · have := ih k (by omega)
      rw [joinO]; simp only [List.length_append]; omega
def LC (kl : List Tm) (out : List UInt8) : Prop := ∀ (B b : Nat) (l : List UInt8) (w : World) (kk : Value), Bu B b l w → B ≤ w.heap.size → TmL (fun q => q < B) w kl kk → l.length + out.length ≤ 1000000000 →
  Calls Tryz.prog 101 #[.pointer (some ⟨b, 0, none⟩), kk] w (PP B b (l ++ out) w)
set_option maxRecDepth 100000 in
set_option maxHeartbeats 8000000 in
theorem list_one {kl : List Tm} {O : Nat → List UInt8} (hp : ∀ i (h : i < kl.length), PC kl[i] (O i)) (hkl : kl.length ≤ 1) : LC kl (joinO O kl.length) := by
  intro B b l w kk hb hB htm hlen
  have HP := Lib.hid hp
  have HL := Lib.hid hlen
  clear hp hlen
  have hbl := hb.lt
  have hbB := hb.le
  cases htm with
  | nil he =>
    rcases he with rfl | ⟨ad, c, rfl⟩
    all_goals
      go_enter Tryz.func101, Tryz.ntmps101
      go_wp2_with fail
      go_loop [8] (fun i => i = .int .i64 0) (fun i => 0)
      case atStart => rfl
      case round =>
        subst hrel
        go_wp2_with fail
        first | go_end0 | refine bodyPost_ret (results_none rfl _ _ _) rfl ?_
        exact ⟨rfl, by simpa [joinO] using hb, KB.refl _ _ _⟩
  | mk K M hne hgB hcap hcell hk hm =>
    rename_i g off cap
    have HC := Lib.hid hcell
    have HK := Lib.hid hk
    have HM := Lib.hid hm
    have HGB := Lib.hid hgB
    clear hcell hk hm hgB
    go_enter Tryz.func101, Tryz.ntmps101
    go_wp2_with fail
    go_loopw [8] (fun i wr => ∃ k : Nat, k ≤ kl.length ∧ i = .int .i64 k ∧ Hid (Bu B b (l ++ joinO O k) wr) ∧ Hid (KB b B w wr)) (fun i _ => kl.length - (intOf i).toNat)
    case atStart => exact ⟨0, Nat.zero_le _, rfl, Lib.hid (by simpa [joinO] using hb), Lib.hid (KB.refl _ _ _)⟩
    case round =>
      obtain ⟨k, hkl2, rfl, HU, HKB⟩ := hrel
      by_cases hlt : k < kl.length
      · have Sr : Same (fun q => q < B) w wr := Same.kb HKB.out hbB
        obtain ⟨xa, xn, xc, hKk⟩ := (HK.out k hlt).slice
        obtain ⟨ya, yn, yc, hMk⟩ := (HM.out k hlt).slice
        have c0 : wr.cell? ⟨g, off + k * 7, none⟩ = some (.int .i64 kl[k].op) := by have cc := Sr.cell HGB.out (HC.out k hlt).1; exact cc
        have c1 : wr.cell? ⟨g, off + k * 7 + 1, none⟩ = some (.string kl[k].name) := by have cc := Sr.cell HGB.out (HC.out k hlt).2.1; exact cc
        have c2 : wr.cell? ⟨g, off + k * 7 + 2, none⟩ = some (.int .i64 kl[k].n) := by have cc := Sr.cell HGB.out (HC.out k hlt).2.2.1; exact cc
        have c3 : wr.cell? ⟨g, off + k * 7 + 3, none⟩ = some (.int .i64 kl[k].ty.kind) := by have cc := Sr.cell HGB.out (HC.out k hlt).2.2.2.1; exact cc
        have c4 : wr.cell? ⟨g, off + k * 7 + 4, none⟩ = some (.string kl[k].ty.name) := by have cc := Sr.cell HGB.out (HC.out k hlt).2.2.2.2.1; exact cc
        have c5 : wr.cell? ⟨g, off + k * 7 + 5, none⟩ = some (.slice xa xn xc) := by have cc := Sr.cell HGB.out (HC.out k hlt).2.2.2.2.2.1; rw [hKk] at cc; exact cc
        have c6 : wr.cell? ⟨g, off + k * 7 + 6, none⟩ = some (.slice ya yn yc) := by have cc := Sr.cell HGB.out (HC.out k hlt).2.2.2.2.2.2; rw [hMk] at cc; exact cc
        have hx5 : TyL (fun q => q < B) wr kl[k].ty.kids (.slice xa xn xc) := by rw [← hKk]; exact (HK.out k hlt).frame Sr
        have hx6 : TmL (fun q => q < B) wr kl[k].kids (.slice ya yn yc) := by rw [← hMk]; exact (HM.out k hlt).frame Sr
        clear hKk hMk
        have i1 : (k : Int) < (kl.length : Int) := by omega
        have i2 : (k : Int) < 2000000 := by omega
        have hsz := HKB.out.size
        have bL : Blk (wr.alloc (.cells #[.int .i64 kl[k].op, .string kl[k].name, .int .i64 kl[k].n, .int .i64 kl[k].ty.kind, .string kl[k].ty.name, .slice xa xn xc, .slice ya yn yc] 27)) wr.heap.size 27 (tmCells kl[k] (.slice xa xn xc) (.slice ya yn yc)) := Blk.new wr 27 _
        have KL : KB b B wr (wr.alloc (.cells #[.int .i64 kl[k].op, .string kl[k].name, .int .i64 kl[k].n, .int .i64 kl[k].ty.kind, .string kl[k].ty.name, .slice xa xn xc, .slice ya yn yc] 27)) := (KB.refl _ _ _).alloc _
        have uL : Bu B b (l ++ joinO O k) (wr.alloc (.cells #[.int .i64 kl[k].op, .string kl[k].name, .int .i64 kl[k].n, .int .i64 kl[k].ty.kind, .string kl[k].ty.name, .slice xa xn xc, .slice ya yn yc] 27)) := HU.out.kept ((Kept.refl _ _).alloc _)
        have lb := HU.out.lt
        have zL : B ≤ (wr.alloc (.cells #[.int .i64 kl[k].op, .string kl[k].name, .int .i64 kl[k].n, .int .i64 kl[k].ty.kind, .string kl[k].ty.name, .slice xa xn xc, .slice ya yn yc] 27)).heap.size := by simp; omega
        have jl : Hid (l.length + (joinO O k).length + (if k = 0 then 0 else 2) + (O k).length ≤ 1000000000) := Lib.hid (by
          have h1 := HL.out
          have h2 := join_le O kl.length (k + 1) (by omega)
          rw [joinO] at h2
          simp only [List.length_append] at h2
          split
          · rename_i e; rw [if_pos e] at h2; simp at h2; omega
          · rename_i e; rw [if_neg e] at h2; simp at h2; omega)
        have S5 := hx5.frame (Same.alloc wr (.cells #[.int .i64 kl[k].op, .string kl[k].name, .int .i64 kl[k].n, .int .i64 kl[k].ty.kind, .string kl[k].ty.name, .slice xa xn xc, .slice ya yn yc] 27))
        have S6 := hx6.frame (Same.alloc wr (.cells #[.int .i64 kl[k].op, .string kl[k].name, .int .i64 kl[k].n, .int .i64 kl[k].ty.kind, .string kl[k].ty.name, .slice xa xn xc, .slice ya yn yc] 27))
        have HPk := Lib.hid (HP.out k hlt)
        by_cases hk0 : k = 0
        · subst hk0
          simp only [Nat.zero_mul, Nat.add_zero] at c0 c1 c2 c3 c4 c5 c6
          have HC0 := Lib.hid (HPk.out B b _ _ _ _ uL zL S5 S6 (by have := jl.out; simp [joinO] at this ⊢; omega))
          go_wp2_with fail
          refine HC0.out.mono ?_
          rintro e w2 ⟨rfl, u2, k2⟩
          have HU2 : Hid (Bu B b (l ++ joinO O (0 + 1)) w2) := Lib.hid (by simpa [joinO] using u2)
          have HK2 := Lib.hid (HKB.out.trans (KL.trans k2))
          go_wp2_with fail
          go_roundw
          case rel => exact ⟨0 + 1, by omega, by go_num, HU2, HK2⟩
          case measure => simp [intOf]; omega
        · exact absurd hlt (by omega)
      · have hkk : k = kl.length := by omega
        subst hkk
        go_wp2_with fail
        first | go_end0 | refine bodyPost_ret (results_none rfl _ _ _) rfl ?_
        exact ⟨rfl, HU.out, HKB.out⟩
set_option maxRecDepth 100000 in
set_option maxHeartbeats 8000000 in
theorem pt_card {nm : ByteArray} {N : Int} {ty : Ty} {kl : List Tm} {out : List UInt8} (hl : LC kl out) : PC (.mk 47 nm N ty kl) ([99, 97, 114, 100] ++ ([40] ++ out ++ [41])) := by
  intro B b l w tk kk hb hB hty htm hlen
  have HB0 : Hid (binS 47 = ⟨#[]⟩) := Lib.hid (by decide)
  have HKY : Hid (∀ W, Calls Tryz.prog 97 #[.int .i64 47] W fun e w' => e = .returned (.string ⟨#[99, 97, 114, 100]⟩) ∧ Kept (fun _ => False) W w') := Lib.hid (fun W => keyed_any 47 W)
  have HLC := Lib.hid hl
  clear hl
  obtain ⟨ta, tn, tc, rfl⟩ := hty.slice
  obtain ⟨ma, mn, mc, rfl⟩ := htm.slice
  unfold tmVal
  have hty' : TyL (fun q => q < B) w ty.kids (.slice ta tn tc) := hty
  have htm' : TmL (fun q => q < B) w kl (.slice ma mn mc) := htm
  clear hty htm
  simp only [Tm.op, Tm.name, Tm.n, Tm.ty, Tm.kids]
  have K0 : Kept (fun _ => False) w (w.alloc (.cells #[.int .i64 47, .string nm, .int .i64 N, .int .i64 ty.kind, .string ty.name, .slice ta tn tc, .slice ma mn mc] 27)) := (Kept.refl _ _).alloc _
  have bX : Blk (w.alloc (.cells #[.int .i64 47, .string nm, .int .i64 N, .int .i64 ty.kind, .string ty.name, .slice ta tn tc, .slice ma mn mc] 27)) w.heap.size 27 [.int .i64 47, .string nm, .int .i64 N, .int .i64 ty.kind, .string ty.name, .slice ta tn tc, .slice ma mn mc] := Blk.new w 27 _
  have hbl := hb.lt
  have hbB := hb.le
  have HBI : Hid (∀ W, Calls Tryz.prog 94 #[.int .i64 47] W fun e w' => e = .returned (.string ⟨#[]⟩) ∧ Kept (fun _ => False) W w') := Lib.hid (fun W => (binary_any 47 W).mono fun e w' ⟨h1, h2⟩ => ⟨by rw [h1, HB0.out], h2⟩)
  have HL := Lib.hid hlen
  clear hlen
  go_enter Tryz.func52, Tryz.ntmps52
  go_wp2_with fail
  refine (HBI.out _).mono ?_
  rintro e w1 ⟨rfl, k1⟩
  have K1 := K0.trans k1
  have b1 := bX.kept k1 (fun h => h)
  have g0 : w1.cell? ⟨w.heap.size, 0, none⟩ = some (.int .i64 47) := b1.cell 0
  go_wp2_with fail
  go_region_held3 (fun w' => w'.cell? ⟨w.heap.size, 0, none⟩ = some (.int .i64 47)) (go_keep)
    (first | (go_at_call 97; refine (HKY.out w1.drew).mono ?_; rintro e w2 ⟨rfl, k2'⟩; have k2 : Kept (fun _ => False) w1 w2 := ((Kept.refl _ _).drew).trans k2'; have b2 := b1.kept k2 (fun h => h); have g2 : w2.cell? ⟨w.heap.size, 0, none⟩ = some (.int .i64 47) := b2.cell 0; have K2 := K1.trans k2; have u2 := hb.kept K2) | (go_at_call 96; refine (ws_any _ u2 (by have := HL.out; simp only [ByteArray.size]; simp at this ⊢; omega) (Nat.le_trans hB K2.size)).mono ?_; rintro e w3 ⟨rfl, u3, k3⟩; have b3 := b2.kb k3 (by omega) (by decide); have g3 : w3.cell? ⟨w.heap.size, 0, none⟩ = some (.int .i64 47) := b3.cell 0))
  have K3 : KB b B w w3 := (KB.of_kept K2).trans k3
  have hlen2 : Hid (l.length + out.length + 10 ≤ 1000000010) := Lib.hid (by have := HL.out; simp at this; omega)
  have HL2 : Hid (l.length + 4 + out.length + 2 ≤ 1000000000) := Lib.hid (by have := HL.out; simp at this; omega)
  have V3 := Lib.hid u3
  have HW := Lib.hid (wb_any (40 : UInt8) (ci := 40) rfl u3 (by have := HL2.out; simp; omega) (Nat.le_trans hB K3.size))
  clear u3
  go_wp2_with fail
  refine HW.out.mono ?_
  rintro e w4 ⟨rfl, u4, k4⟩
  have K4 := K3.trans k4
  have b4 := b3.kb k4 (by omega) (by decide)
  have g46 : w4.cell? ⟨w.heap.size, 6, none⟩ = some (.slice ma mn mc) := b4.cell 6
  have HC := Lib.hid (HLC.out B b _ w4 _ u4 (Nat.le_trans hB K4.size) (htm'.frame (Same.kb K4 hbB)) (by have := HL2.out; simp; omega))
  clear g0 g2 g3
  go_wp2_with fail
  refine HC.out.mono ?_
  rintro e w5 ⟨rfl, u5, k5⟩
  have K5 := K4.trans k5
  have HW5 := Lib.hid (wb_any (41 : UInt8) (ci := 41) rfl u5 (by have := HL2.out; simp; omega) (Nat.le_trans hB K5.size))
  go_wp2_with fail
  refine HW5.out.mono ?_
  rintro e w6 ⟨rfl, u6, k6⟩
  go_wp2_with fail
  first | go_end0 | refine bodyPost_ret (results_none rfl _ _ _) rfl ?_
  exact ⟨rfl, by simpa using u6, K5.trans k6⟩
set_option maxRecDepth 100000 in
set_option maxHeartbeats 4000000 in
theorem format_ok {t : Tm} {out : List UInt8} {ok : Nat → Prop} {w : World} {ta : Option Addr} {tn tc : Nat} {ma : Option Addr} {mn mc : Nat} (hty : TyL ok w t.ty.kids (.slice ta tn tc)) (htm : TmL ok w t.kids (.slice ma mn mc)) (hp : PC t out) (hv : validB t = true) (hs : SmTm big t) (h0 : out ≠ []) (hlen : out.length ≤ 1000000000) :
    Calls Tryz.prog 21 #[.agg #[.int .i64 t.op, .string t.name, .int .i64 t.n, .int .i64 t.ty.kind, .string t.ty.name, .slice ta tn tc, .slice ma mn mc]] w fun e w' => e = .returned (.string ⟨out.toArray⟩) ∧ Kept (fun _ => False) w w' := by
  have K0 : Kept (fun _ => False) w (w.alloc (.cells #[.int .i64 t.op, .string t.name, .int .i64 t.n, .int .i64 t.ty.kind, .string t.ty.name, .slice ta tn tc, .slice ma mn mc] 27)) := (Kept.refl _ _).alloc _
  have bX : Blk (w.alloc (.cells #[.int .i64 t.op, .string t.name, .int .i64 t.n, .int .i64 t.ty.kind, .string t.ty.name, .slice ta tn tc, .slice ma mn mc] 27)) w.heap.size 27 (tmCells t (.slice ta tn tc) (.slice ma mn mc)) := Blk.new w 27 _
  have HV := Lib.hid (valid_any (hty.frame (Same.alloc w (.cells #[.int .i64 t.op, .string t.name, .int .i64 t.n, .int .i64 t.ty.kind, .string t.ty.name, .slice ta tn tc, .slice ma mn mc] 27))) (htm.frame (Same.alloc w (.cells #[.int .i64 t.op, .string t.name, .int .i64 t.n, .int .i64 t.ty.kind, .string t.ty.name, .slice ta tn tc, .slice ma mn mc] 27))) hs)
  have HP := Lib.hid hp
  have H0 := Lib.hid h0
  have HL := Lib.hid hlen
  clear hp h0 hlen hs
  go_enter Tryz.func21, Tryz.ntmps21
  go_wp2_with fail
  refine HV.out.mono ?_
  rintro e w1 ⟨rfl, k1⟩
  rw [hv]
  have K1 := K0.trans k1
  have b1 := bX.kept k1 (fun h => h)
  have bB : Blk (w1.alloc (.cells #[.pointer none, .slice none 0 0] 71)) w1.heap.size 71 [.pointer none, .slice none 0 0] := Blk.new w1 71 _
  have K2 : Kept (fun _ => False) w1 (w1.alloc (.cells #[.pointer none, .slice none 0 0] 71)) := (Kept.refl _ _).alloc _
  have hU : Bu w1.heap.size w1.heap.size [] (w1.alloc (.cells #[.pointer none, .slice none 0 0] 71)) := Or.inl ⟨Nat.le_refl _, .slice none 0 0, bB, World.ownsRow_nil _ _ _ _, by simp [Value.ownBlock]⟩
  have t5 := ((hty.frame (Same.of_kept K1 (fun _ _ e => e))).mono (ok' := fun q => q < w1.heap.size) (fun q h _ => h)).frame (Same.of_kept K2 (fun _ _ e => e))
  have t6 := ((htm.frame (Same.of_kept K1 (fun _ _ e => e))).mono (ok' := fun q => q < w1.heap.size) (fun q h _ => h)).frame (Same.of_kept K2 (fun _ _ e => e))
  have HC := Lib.hid (HP.out w1.heap.size w1.heap.size [] _ _ _ hU (by simp) t5 t6 (by have := HL.out; simpa using this))
  have b2 := b1.alloc (.cells #[.pointer none, .slice none 0 0] 71)
  have l1 := b1.lt
  have n1 : w.heap.size ≠ w1.heap.size := by omega
  have g0 : w1.cell? ⟨w.heap.size, 0, none⟩ = some (.int .i64 t.op) := b1.cell 0
  have g1 : w1.cell? ⟨w.heap.size, 1, none⟩ = some (.string t.name) := b1.cell 1
  have g2 : w1.cell? ⟨w.heap.size, 2, none⟩ = some (.int .i64 t.n) := b1.cell 2
  have g3 : w1.cell? ⟨w.heap.size, 3, none⟩ = some (.int .i64 t.ty.kind) := b1.cell 3
  have g4 : w1.cell? ⟨w.heap.size, 4, none⟩ = some (.string t.ty.name) := b1.cell 4
  have g5 : w1.cell? ⟨w.heap.size, 5, none⟩ = some (.slice ta tn tc) := b1.cell 5
  have g6 : w1.cell? ⟨w.heap.size, 6, none⟩ = some (.slice ma mn mc) := b1.cell 6
  go_wp2_with fail
  refine HC.out.mono ?_
  rintro e w3 ⟨rfl, u3, k3⟩
  rw [List.nil_append] at u3
  have HS := Lib.hid (bstr_any u3 H0.out)
  have K3 : Kept (fun k => w1.heap.size ≤ k) w1 w3 := (K2.mono (fun _ _ h => h.elim)).via k3 (fun x hx e => by
    rcases e with rfl | ⟨h, _⟩
    · exact Nat.le_refl _
    · exact h)
  go_wp2_with fail
  refine HS.out.mono ?_
  rintro e w4 ⟨rfl, k4⟩
  go_wp2_with fail
  go_ret
  refine ⟨rfl, K1.via (S' := fun k => w1.heap.size ≤ k) (K3.via (S' := fun k => w1.heap.size ≤ k) ⟨k4.os, k4.tape, k4.output, k4.size, fun q hq hn => k4.block q (by omega)⟩ (fun _ _ h => h)) (fun x hx h => ?_)⟩
  have := K1.size
  omega
def digS : ByteArray := ⟨#[48, 49, 50, 51, 52, 53, 54, 55, 56, 57]⟩
def digL : List Value := (Lib.setCells digS.data.toList).toList
theorem dig_zero : ∀ w, (zeroValue 126).run Tryz.prog w = .ok (.agg (Array.replicate 256 (.bool false))) w := fun w => by kernel_rfl
theorem dig_set (w : World) : Calls Tryz.prog 128 #[.string digS] w fun e w' => e = .returned (.tuple #[.agg digL.toArray, .bool true]) ∧ w' = w.alloc (.cells digL.toArray 126) := by
  refine (Tryz.strings_makeASCIISet dig_zero digS w (by decide) ?_).mono fun e w' ⟨h1, h2⟩ => ⟨by rw [h1]; unfold digL; rw [Array.toArray_toList], by rw [h2]; unfold digL; rw [Array.toArray_toList]⟩
  intro j b hj
  have hlt : j < 10 := (List.getElem?_eq_some_iff.1 hj).1
  rcases (show j = 0 ∨ j = 1 ∨ j = 2 ∨ j = 3 ∨ j = 4 ∨ j = 5 ∨ j = 6 ∨ j = 7 ∨ j = 8 ∨ j = 9 by omega) with rfl | rfl | rfl | rfl | rfl | rfl | rfl | rfl | rfl | rfl <;> (cases hj; decide)
theorem dig_50 : digL[50]? = some (.bool true) := by kernel_rfl
theorem dig_49 : digL[49]? = some (.bool true) := by kernel_rfl
theorem dig_120 : digL[120]? = some (.bool false) := by kernel_rfl
def strSz : Value → Nat
  | .string s => s.size
  | _ => 0
set_option maxRecDepth 100000 in
set_option maxHeartbeats 2000000 in
theorem trimR (w : World) (X : Nat) (h50 : w.cell? ⟨X, 50, none⟩ = some (.bool true)) (h49 : w.cell? ⟨X, 49, none⟩ = some (.bool true)) (h120 : w.cell? ⟨X, 120, none⟩ = some (.bool false)) :
    Calls Tryz.prog 129 #[.string ⟨#[120, 49, 50]⟩, .pointer (some ⟨X, 0, none⟩)] w fun e w' => e = .returned (.string ⟨#[120]⟩) ∧ w = w' := by
  have c50 := Lib.hid (Tryz.asciiSet_contains X 50 true w h50)
  have c49 := Lib.hid (Tryz.asciiSet_contains X 49 true w h49)
  have c120 := Lib.hid (Tryz.asciiSet_contains X 120 false w h120)
  clear h50 h49 h120
  go_enter Tryz.func129, Tryz.ntmps129
  go_wp2_with fail
  go_loop [0] (fun v => v = .string ⟨#[120, 49, 50]⟩ ∨ v = .string ⟨#[120, 49]⟩ ∨ v = .string ⟨#[120]⟩) (fun v => strSz v)
  case atStart => exact Or.inl rfl
  case round =>
    rcases hrel with rfl | rfl | rfl
    · go_wp2_with (go_at_call 156; refine c50.out.mono ?_; rintro e w' ⟨rfl, rfl⟩)
      go_round
      case rel => exact Or.inr (Or.inl rfl)
      case measure => decide
    · go_wp2_with (go_at_call 156; refine c49.out.mono ?_; rintro e w' ⟨rfl, rfl⟩)
      go_round
      case rel => exact Or.inr (Or.inr rfl)
      case measure => decide
    · go_wp2_with (go_at_call 156; refine c120.out.mono ?_; rintro e w' ⟨rfl, rfl⟩)
      go_ret
      exact ⟨rfl, rfl⟩
theorem wpList_store_at {P : Program} {ops : Array Oper} {rest : List Oper} {o : Oper} {a : Act} {Q : Exit → Act → World → Prop} {w0 w : World} {ty : TypeId} {Z L : List Value} (hb : Blk w w0.heap.size ty Z) (hk : Kept (fun _ => False) w0 w) (hgd : o.guard = none) (x y : Operand) (ho : o.op = .store ty x y) (hx : a.eval x = .pointer (some ⟨w0.heap.size, 0, none⟩)) (hy : a.eval y = .agg L.toArray)
    (hi : (P.info? ty).map (·.size) = some L.length) (hZ : Z.length = L.length) (h1 : L.toArray.all (·.oneCell') = true)
    (h : ∀ W, Blk W w0.heap.size ty L → Kept (fun _ => False) w0 W → wpList P ops Q rest (a.put o.dst undef) W) : wpList P ops Q (o :: rest) a w := by
  refine wpList_store_mid hgd ty x y ho w0.heap.size 0 L.toArray hx hy ?_ (by simpa using hi) h1 ?_
  · have := hb.there; rw [hZ] at this; simpa using this
  · refine h _ ?_ ?_
    · have := hb.setCells (l' := L) hZ.symm; simpa using this
    · exact hk.setCells (Or.inr (Nat.le_refl _))
theorem dig_blk (w : World) : Blk (w.alloc (.cells Tryz.zeroCells126 126)) w.heap.size 126 Tryz.zeroCells126.toList := by
  have := Blk.new w 126 Tryz.zeroCells126.toList
  rwa [Array.toArray_toList] at this
theorem dig_zl : Tryz.zeroCells126.toList.length = digL.length := by kernel_rfl
set_option maxRecDepth 100000 in
set_option maxHeartbeats 2000000 in
theorem trimRight_x (w : World) : Calls Tryz.prog 81 #[.string ⟨#[120, 49, 50]⟩, .string digS] w fun e w' => e = .returned (.string ⟨#[120]⟩) ∧ Kept (fun _ => False) w w' := by
  have i1 : digS.toList.isEmpty = false := by kernel_rfl
  have i2 : digS.size = 10 := rfl
  have i3 : (digS.toList == []) = false := by kernel_rfl
  have HD := Lib.hid dig_set
  go_enter Tryz.func81, Tryz.ntmps81
  go_wp2_with (first | (go_at_call 128; refine (HD.out _).mono ?_; rintro e w1 ⟨rfl, hw1⟩; have k1 : Kept (fun _ => False) w w1 := (by rw [hw1]; exact (Kept.refl _ _).alloc _); clear hw1) | (refine wpList_store_at (w0 := w1) (L := digL) (dig_blk w1) ((Kept.refl _ _).alloc _) rfl _ _ rfl rfl rfl (by kernel_rfl) dig_zl (by kernel_rfl) ?_; intro W bW kW; have h50 : W.cell? ⟨w1.heap.size, 50, none⟩ = some (.bool true) := (by rw [bW.cell]; exact dig_50); have h49 : W.cell? ⟨w1.heap.size, 49, none⟩ = some (.bool true) := (by rw [bW.cell]; exact dig_49); have h120 : W.cell? ⟨w1.heap.size, 120, none⟩ = some (.bool false) := (by rw [bW.cell]; exact dig_120); have HT := Lib.hid (trimR W w1.heap.size h50 h49 h120)) | (go_at_call 129; refine HT.out.mono ?_; rintro e w' ⟨rfl, rfl⟩))
  go_ret
  exact ⟨rfl, k1.trans kW⟩
def sX12 : ByteArray := ⟨#[120, 49, 50]⟩
def sX1 : ByteArray := ⟨#[120, 49]⟩
def sX2 : ByteArray := ⟨#[120, 50]⟩
theorem fx1 : Lib.containsS (List.take 2 [sX12, sX1]) sX12 = true := by rw [Lib.containsS_iff]; simp [sX12]
theorem fx2 : Lib.containsS (List.take 2 [sX12, sX1]) sX1 = true := by rw [Lib.containsS_iff]; simp [sX1]
theorem fx3 : Lib.containsS (List.take 2 [sX12, sX1]) sX2 = false := by
  cases h : Lib.containsS (List.take 2 [sX12, sX1]) sX2
  · rfl
  · rw [Lib.containsS_iff] at h; simp [sX12, sX1, sX2] at h
theorem fx4 : namedB ⟨#[120, 49, 50]⟩ = true := by kernel_rfl
theorem fx5 : Lib.decDigits 1 = [49] := by unfold Lib.decDigits; rfl
theorem fx6 : Lib.decDigits 2 = [50] := by unfold Lib.decDigits; rfl
theorem fx7 : keywordB ⟨#[120, 49]⟩ = false := by kernel_rfl
theorem fx8 : keywordB ⟨#[120, 50]⟩ = false := by kernel_rfl
set_option maxRecDepth 100000 in
set_option maxHeartbeats 2000000 in
theorem fresh_x (w : World) (g : Nat) (h0 : w.cell? ⟨g, 0, none⟩ = some (.string ⟨#[120, 49, 50]⟩)) (h1 : w.cell? ⟨g, 1, none⟩ = some (.string ⟨#[120, 49]⟩)) :
    Calls Tryz.prog 40 #[.string ⟨#[120, 49, 50]⟩, .slice (some ⟨g, 0, none⟩) 2 2] w fun e w' => e = .returned (.string ⟨#[120, 50]⟩) ∧ Kept (fun _ => False) w w' := by
  have hcl : ∀ W : World, Kept (fun _ => False) w W → ∀ j, j < [sX12, sX1].length → W.cell? ⟨g, 0 + j, none⟩ = some (.string ([sX12, sX1].getD j ByteArray.empty)) := by
    intro W k j hj
    have : j = 0 ∨ j = 1 := by simp at hj; omega
    rcases this with rfl | rfl
    · rw [k.cell (p := ⟨g, 0 + 0, none⟩) (cell_lt h0) (fun h => h)]; exact h0
    · rw [k.cell (p := ⟨g, 0 + 1, none⟩) (cell_lt h1) (fun h => h)]; exact h1
  have cA : Hid (∀ W : World, Kept (fun _ => False) w W → Calls Tryz.prog 80 #[.slice (some ⟨g, 0, none⟩) 2 2, .string ⟨#[120, 49, 50]⟩] W fun e w' => e = .returned (.bool true) ∧ W = w') := Lib.hid (fun W k => (Tryz.slices_Contains_string g 0 2 2 [sX12, sX1] sX12 W (by decide) (by decide) (hcl W k)).mono fun e w' ⟨q1, q2⟩ => ⟨by rw [q1, fx1], q2.symm⟩)
  have cB : Hid (∀ W : World, Kept (fun _ => False) w W → Calls Tryz.prog 80 #[.slice (some ⟨g, 0, none⟩) 2 2, .string ⟨#[120, 49]⟩] W fun e w' => e = .returned (.bool true) ∧ W = w') := Lib.hid (fun W k => (Tryz.slices_Contains_string g 0 2 2 [sX12, sX1] sX1 W (by decide) (by decide) (hcl W k)).mono fun e w' ⟨q1, q2⟩ => ⟨by rw [q1, fx2], q2.symm⟩)
  have cC : Hid (∀ W : World, Kept (fun _ => False) w W → Calls Tryz.prog 80 #[.slice (some ⟨g, 0, none⟩) 2 2, .string ⟨#[120, 50]⟩] W fun e w' => e = .returned (.bool false) ∧ W = w') := Lib.hid (fun W k => (Tryz.slices_Contains_string g 0 2 2 [sX12, sX1] sX2 W (by decide) (by decide) (hcl W k)).mono fun e w' ⟨q1, q2⟩ => ⟨by rw [q1, fx3], q2.symm⟩)
  have HN : Hid (∀ W, Calls Tryz.prog 79 #[.string ⟨#[120, 49, 50]⟩] W fun e w' => e = .returned (.bool true) ∧ W = w') := Lib.hid (fun W => (named_any _ W (by decide)).mono fun e w' ⟨q1, q2⟩ => ⟨by rw [q1, fx4], q2⟩)
  have HT : Hid (∀ W, Calls Tryz.prog 82 #[.string ⟨#[120, 49, 50]⟩, .string ⟨#[39]⟩] W fun e w' => e = .returned (.string ⟨#[120, 49, 50]⟩) ∧ W = w') := Lib.hid (fun W => (Tryz.strings_TrimSuffix _ _ W (by decide)).mono fun e w' ⟨q1, q2⟩ => ⟨by rw [q1]; rfl, q2.symm⟩)
  have HI1 : Hid (∀ W, Calls Tryz.prog 83 #[.int .i64 1] W fun e w' => e = .returned (.string ⟨#[49]⟩) ∧ W = w') := Lib.hid (fun W => (Tryz.strconv_Itoa_small 1 (by decide) W).mono fun e w' ⟨q1, q2⟩ => ⟨by rw [q1, fx5], q2.symm⟩)
  have HI2 : Hid (∀ W, Calls Tryz.prog 83 #[.int .i64 2] W fun e w' => e = .returned (.string ⟨#[50]⟩) ∧ W = w') := Lib.hid (fun W => (Tryz.strconv_Itoa_small 2 (by decide) W).mono fun e w' ⟨q1, q2⟩ => ⟨by rw [q1, fx6], q2.symm⟩)
  have HK1 : Hid (∀ W, Calls Tryz.prog 46 #[.string ⟨#[120, 49]⟩] W fun e w' => e = .returned (.bool false) ∧ W = w') := Lib.hid (fun W => (keyword_any _ W).mono fun e w' ⟨q1, q2⟩ => ⟨by rw [q1, fx7], q2⟩)
  have HK2 : Hid (∀ W, Calls Tryz.prog 46 #[.string ⟨#[120, 50]⟩] W fun e w' => e = .returned (.bool false) ∧ W = w') := Lib.hid (fun W => (keyword_any _ W).mono fun e w' ⟨q1, q2⟩ => ⟨by rw [q1, fx8], q2⟩)
  have HR := Lib.hid trimRight_x
  clear hcl
  go_enter Tryz.func40, Tryz.ntmps40
  go_wp2_with (first | (go_at_call 79; refine (HN.out _).mono ?_; rintro e w' ⟨rfl, rfl⟩) | (go_at_call 80; refine (cA.out w (Kept.refl _ _)).mono ?_; rintro e w' ⟨rfl, rfl⟩) | (go_at_call 82; refine (HT.out _).mono ?_; rintro e w' ⟨rfl, rfl⟩) | (go_at_call 81; refine (HR.out _).mono ?_; rintro e w1 ⟨rfl, k1⟩))
  have hcu : digS = digS := rfl
  go_loop [6] (fun i => i = .int .i64 1 ∨ i = .int .i64 2) (fun i => 2 - (intOf i).toNat)
  case atStart => exact Or.inl rfl
  case round =>
    rcases hrel with rfl | rfl
    · go_wp2_with (first | (go_at_call 83; refine (HI1.out _).mono ?_; rintro e w' ⟨rfl, rfl⟩) | (go_at_call 46; refine (HK1.out _).mono ?_; rintro e w' ⟨rfl, rfl⟩) | (go_at_call 80; refine (cB.out w1 k1).mono ?_; rintro e w' ⟨rfl, rfl⟩))
      go_round
      case rel => exact Or.inr rfl
      case measure => decide
    · go_wp2_with (first | (go_at_call 83; refine (HI2.out _).mono ?_; rintro e w' ⟨rfl, rfl⟩) | (go_at_call 46; refine (HK2.out _).mono ?_; rintro e w' ⟨rfl, rfl⟩) | (go_at_call 80; refine (cC.out w1 k1).mono ?_; rintro e w' ⟨rfl, rfl⟩))
      go_ret
      exact ⟨rfl, k1⟩
def awkS : ByteArray := ⟨#[120, 32, 43, 32, 49, 32, 60, 61, 32, 99, 97, 114, 100, 40, 115, 41]⟩
def awX : Tm := .mk 20 ⟨#[120]⟩ 0 ty0 []
def aw1 : Tm := .mk 19 nil0 1 ty0 []
def awS : Tm := .mk 20 ⟨#[115]⟩ 0 ty0 []
def awAdd : Tm := nd 22 [awX, aw1]
def awCard : Tm := nd 47 [awS]
def awT : Tm := nd 13 [awAdd, awCard]
theorem awk_T : parseT 300 awkS = awT := by kernel_rfl
theorem awk_A : parseA 300 awkS = 0 := by kernel_rfl
theorem awk_E : parseE 300 awkS = 0 := by kernel_rfl
theorem awk_V : validB awT = true := by kernel_rfl
def awOut : List UInt8 := [40, 120, 32, 43, 32, 49, 41, 32, 60, 61, 32, 99, 97, 114, 100, 40, 115, 41]
theorem pc_x : PC awX [120] := pt_name (nm := ⟨#[120]⟩) (N := 0) (ty := ty0) (kl := [])
theorem pc_s : PC awS [115] := pt_name (nm := ⟨#[115]⟩) (N := 0) (ty := ty0) (kl := [])
theorem pc_1 : PC aw1 [49] := pt_int (nm := nil0) (N := 1) (ty := ty0) (kl := []) (ds := ⟨#[49]⟩) (fun W => (Tryz.strconv_Itoa_small 1 (by decide) W).mono fun e w' ⟨q1, q2⟩ => ⟨by rw [q1, fx5], q2.symm⟩)
theorem oc_x : OC awX [120] := by
  have h := operand_any pc_x
  rw [show parS awX.op [120] = [120] by kernel_rfl] at h
  exact h
theorem oc_1 : OC aw1 [49] := by
  have h := operand_any pc_1
  rw [show parS aw1.op [49] = [49] by kernel_rfl] at h
  exact h
theorem pc_add : PC awAdd [120, 32, 43, 32, 49] := pt_bin (t := awAdd) rfl (by kernel_rfl) oc_x oc_1
theorem oc_add : OC awAdd [40, 120, 32, 43, 32, 49, 41] := by
  have h := operand_any pc_add
  rw [show parS awAdd.op [120, 32, 43, 32, 49] = [40, 120, 32, 43, 32, 49, 41] by kernel_rfl] at h
  exact h
theorem pc_kid : ∀ i (h : i < [awS].length), PC [awS][i] ((fun _ => [115] : Nat → List UInt8) i) := by
  intro i h
  have h1 : i = 0 := by have : i < 1 := h; omega
  subst h1
  exact pc_s
theorem pc_card : PC awCard [99, 97, 114, 100, 40, 115, 41] := pt_card (nm := nil0) (N := 0) (ty := ty0) (kl := [awS]) (list_one (kl := [awS]) (O := fun _ => [115]) pc_kid (by decide))
theorem oc_card : OC awCard [99, 97, 114, 100, 40, 115, 41] := by
  have h := operand_any pc_card
  rw [show parS awCard.op [99, 97, 114, 100, 40, 115, 41] = [99, 97, 114, 100, 40, 115, 41] by kernel_rfl] at h
  exact h
theorem pc_aw : PC awT awOut := pt_bin (t := awT) rfl (by kernel_rfl) oc_add oc_card
theorem sm_aw : SmTm big awT := by
  have h0 : ∀ (n : ByteArray), n.size ≤ big → ∀ (o i : Int), SmTm big (.mk o n i ty0 []) := fun n hn o i => .mk hn (sm_ty0 _) (fun k h => by cases h)
  exact sm_nd (all2 (sm_nd (all2 (h0 _ (by decide) _ _) (h0 _ (by decide) _ _))) (sm_nd (all1 (h0 _ (by decide) _ _))))
set_option maxRecDepth 100000 in
set_option maxHeartbeats 4000000 in
theorem awake_any (w : World) (hgl : Gl w) : Calls Tryz.prog 14 #[] w fun e w' => e = .returned (.bool true) ∧ Kept (fun _ => False) w w' := by
  have HP : Hid (Calls Tryz.prog 11 #[.string ⟨#[120, 32, 43, 32, 49, 32, 60, 61, 32, 99, 97, 114, 100, 40, 115, 41]⟩] w fun e w' => ∃ tv, e = .returned (.tuple #[tv, .int .i64 0, .int .i64 0]) ∧ VTm w.heap.size awT w' tv ∧ Kept (fun _ => False) w w') := Lib.hid ((parse_any (f := 300) (s := awkS) (by decide) (by decide) hgl).mono fun e w' ⟨tv, h1, h2, h3⟩ => ⟨tv, by rw [h1, awk_A, awk_E], by rw [← awk_T]; exact h2, h3⟩)
  go_enter Tryz.func14, Tryz.ntmps14
  go_wp2_with fail
  refine HP.out.mono ?_
  rintro e w1 ⟨tv, rfl, ⟨tk, kk, rfl, hty, htm⟩, k1⟩
  obtain ⟨ta, tn, tc, rfl⟩ := hty.slice
  obtain ⟨ma, mn, mc, rfl⟩ := htm.slice
  have hmn : mn = 2 := htm.len
  subst hmn
  have HF : Hid (Calls Tryz.prog 21 #[.agg #[.int .i64 13, .string nil0, .int .i64 0, .int .i64 0, .string ⟨#[]⟩, .slice ta tn tc, .slice ma 2 mc]] (w1.alloc (.cells #[.int .i64 13, .string nil0, .int .i64 0, .int .i64 0, .string ⟨#[]⟩, .slice ta tn tc, .slice ma 2 mc] 27)) fun e w' => e = .returned (.string ⟨awOut.toArray⟩) ∧ Kept (fun _ => False) (w1.alloc (.cells #[.int .i64 13, .string nil0, .int .i64 0, .int .i64 0, .string ⟨#[]⟩, .slice ta tn tc, .slice ma 2 mc] 27)) w') := Lib.hid (format_ok (t := awT) (hty.frame (Same.alloc w1 _)) (htm.frame (Same.alloc w1 _)) pc_aw awk_V sm_aw (by decide) (by decide))
  have K1 : Kept (fun _ => False) w (w1.alloc (.cells #[.int .i64 13, .string nil0, .int .i64 0, .int .i64 0, .string ⟨#[]⟩, .slice ta tn tc, .slice ma 2 mc] 27)) := k1.alloc _
  clear hty htm
  have htv : tmVal awT (.slice ta tn tc) (.slice ma 2 mc) = .agg #[.int .i64 13, .string nil0, .int .i64 0, .int .i64 0, .string ⟨#[]⟩, .slice ta tn tc, .slice ma 2 mc] := rfl
  rw [htv]
  clear htv
  have HN : Hid (nil0 = ⟨#[]⟩) := Lib.hid rfl
  generalize nil0 = nl at *
  go_wp2_with fail
  refine HF.out.mono ?_
  rintro e w2 ⟨rfl, k2⟩
  have K2 := K1.trans k2
  have e1 : ((⟨awOut.toArray⟩ : ByteArray).toList == [40, 120, 32, 43, 32, 49, 41, 32, 60, 61, 32, 99, 97, 114, 100, 40, 115, 41]) = true := by kernel_rfl
  generalize (⟨awOut.toArray⟩ : ByteArray) = ao at *
  have bS : Blk (w2.alloc (.cells #[.string ⟨#[120, 49, 50]⟩, .string ⟨#[120, 49]⟩] 9)) w2.heap.size 9 [.string ⟨#[120, 49, 50]⟩, .string ⟨#[120, 49]⟩] := Blk.new w2 9 _
  have HX := Lib.hid (fresh_x _ w2.heap.size (bS.cell 0) (bS.cell 1))
  go_wp2_with fail
  refine HX.out.mono ?_
  rintro e w3 ⟨rfl, k3⟩
  go_wp2_with fail
  go_ret
  exact ⟨rfl, (K2.alloc _).trans k3⟩
end Go.Proofs.YtckjlliobebodaaGreatDoor
namespace Go.Proofs.YtckjlliobebodaaGreatDoor
open Go.ChangeShapes Go.WideShapes Go.ChangeAt Go.RowKit
def litV : DataW Unit → Value
  | .lit (.int k n) => .int k n
  | _ => undef
def flat1 : DataW Unit → List Value
  | .agg l => l.map litV
  | _ => []
def flat2 : DataW Unit → List Value
  | .agg l => (l.map flat1).flatten
  | _ => []
abbrev ranS : ByteArray := { data := #[118, 97, 108, 117, 101, 32, 111, 117, 116, 32, 111, 102, 32, 114, 97, 110, 103, 101] }
abbrev synS : ByteArray := { data := #[105, 110, 118, 97, 108, 105, 100, 32, 115, 121, 110, 116, 97, 120] }
noncomputable def low0 : Nat := (World.holding Tryz.prog default ⟨#[], #[], []⟩).heap.size
def putC (c : Array Value) : Obj → Obj
  | .cells _ t frozen => .cells c t frozen
  | o => o
noncomputable def laidWorld (os : Os) : World :=
  let w0 := World.holding Tryz.prog os ⟨#[.cells #[.string synS] 177, .cells #[.string ranS] 177], #[], []⟩
  { w0 with heap := ((((((w0.heap.modify 0 (putC #[.iface 175 (.pointer (some ⟨low0, 0, none⟩))])).modify 1 (putC #[.iface 175 (.pointer (some ⟨low0 + 1, 0, none⟩))])).modify 2 (putC (flat1 Rows.laid_internal_strconv_uint64pow10).toArray)).modify 3 (putC (flat1 Rows.laid_unicode_utf8_first).toArray)).modify 4 (putC (flat2 Rows.laid_unicode_utf8_acceptRanges).toArray)).modify 6 (putC (flat1 Rows.laid_math_bits_deBruijn32tab).toArray)).modify 7 (putC (flat1 Rows.laid_math_bits_deBruijn64tab).toArray) }
theorem own0 : ownKnob Tryz.prog.godebug = none := by kernel_rfl
theorem gSyn : Tryz.prog.globalNamed "strconv.ErrSyntax" = some 0 := by kernel_rfl
theorem gRan : Tryz.prog.globalNamed "strconv.ErrRange" = some 1 := by kernel_rfl
theorem gSynT : (Tryz.prog.globals[0]?).map (·.type) = some 100 := by kernel_rfl
theorem gRanT : (Tryz.prog.globals[1]?).map (·.type) = some 100 := by kernel_rfl
theorem cells177 : Tryz.prog.cellsOf 177 = 1 := by kernel_rfl
theorem cells9 : Tryz.prog.cellsOf 9 = 1 := by kernel_rfl
theorem star0 : "*" ++ "errors.errorString" = "*errors.errorString" := by decide
theorem row175 (u : TypeId) (h : Tryz.prog.typeName? 3 u = some "*errors.errorString") : u = 175 :=
  typeName_ptr_named (nm := "errors.errorString") (by rw [star0]; kernel_rfl) (by kernel_rfl) (by decide) u (by rw [star0]; exact h)
def EsOk (w : World) (e : Ending) (w' : World) : Prop := e = .returned (.bool true) ∧ Kept (fun _ => False) w w'
theorem gl_of_laid {W : World} (h : laidMetH Tryz.prog Rows.termErrorStaysRow.laid W) : Gl W := by
  have h0 : laidMet Tryz.prog Rows.termErrorStaysRow.laid W := h
  have h4 := h0.tail.tail.tail.tail
  obtain ⟨a1, s1, hv1, _⟩ := laid_sentinel h4 gRan gRanT Tryz.underlying100 row175 Tryz.underlying175 Tryz.underlying177 rfl rfl Tryz.underlying9 cells177 cells9
  obtain ⟨a0, s0, hv0, _⟩ := laid_sentinel h4.tail gSyn gSynT Tryz.underlying100 row175 Tryz.underlying175 Tryz.underlying177 rfl rfl Tryz.underlying9 cells177 cells9
  exact ⟨⟨175, _, by simpa using World.var?_cell gSyn hv0 0⟩, ⟨175, _, by simpa using World.var?_cell gRan hv1 0⟩⟩
theorem keptBut_of_kept {w w' : World} (h : Kept (fun _ => False) w w') (may : MemPlace → Prop) : w.keptBut w' may := by
  refine ⟨h.os, h.output, fun i hi => ?_⟩
  have := (World.keptBut_refl w may).2.2 i hi
  rw [h.block i hi (fun h => h)]
  exact this
end Go.Proofs.YtckjlliobebodaaGreatDoor
namespace Go.Proofs.YtckjlliobebodaaGreatDoor
open Go.RowKit
set_option maxHeartbeats 400000 in
theorem rletter_any (c : Int) (w : World) :
    Calls Tryz.prog 48 #[.int .u8 c] w fun e w' => e = .returned (.bool (letterB c)) ∧ w = w' := by
  cases h1 : decide (97 ≤ c) <;> cases h2 : decide (c ≤ 122) <;> cases h3 : decide (65 ≤ c) <;> cases h4 : decide (c ≤ 90)
  all_goals
    have hk := Lib.hid (show letterB c = _ by unfold letterB; rw [h1, h2, h3, h4])
    go_enter Tryz.func48, Tryz.ntmps48
    go_wp2_with fail
    go_ret
    exact ⟨by rw [hk.out]; rfl, rfl⟩
set_option maxHeartbeats 400000 in
theorem rdigit_any (c : Int) (w : World) :
    Calls Tryz.prog 50 #[.int .u8 c] w fun e w' => e = .returned (.bool (digitB c)) ∧ w = w' := by
  cases h1 : decide (48 ≤ c) <;> cases h2 : decide (c ≤ 57)
  all_goals
    have hk := Lib.hid (show digitB c = _ by unfold digitB; rw [h1, h2])
    go_enter Tryz.func50, Tryz.ntmps50
    go_wp2_with fail
    go_ret
    exact ⟨by rw [hk.out]; rfl, rfl⟩
def inB (s : ByteArray) (l : List ByteArray) : Bool := l.any fun x => x.toList == s.toList
theorem inB_yes (s : ByteArray) (l : List ByteArray) (k : Nat) (h : k < l.length) (hy : (l[k].toList == s.toList) = true) : inB s l = true := by
  unfold inB; rw [List.any_eq_true]; exact ⟨l[k], List.getElem_mem h, hy⟩
theorem inB_no (s : ByteArray) (l : List ByteArray) (hno : ∀ j (h : j < l.length), (l[j].toList == s.toList) = false) : inB s l = false := by
  unfold inB; rw [List.any_eq_false]
  intro x hx
  obtain ⟨j, hj, rfl⟩ := List.getElem_of_mem hx
  rw [hno j hj]; simp
set_option maxHeartbeats 1000000 in
theorem rin_any (s : ByteArray) (xs : List ByteArray) (g cap : Nat) (w : World) (hx : ∀ i (h : i < xs.length), w.cell? ⟨g, i, none⟩ = some (.string xs[i])) (hl : xs.length ≤ 1000) :
    Calls Tryz.prog 92 #[.string s, .slice (some ⟨g, 0, none⟩) xs.length cap] w fun e w' => e = .returned (.bool (inB s xs)) ∧ w = w' := by
  have HX := Lib.hid hx
  clear hx
  go_enter Tryz.func92, Tryz.ntmps92
  go_wp2_with fail
  go_loop [5] (fun i => ∃ k : Nat, k ≤ xs.length ∧ i = .int .i64 k ∧ Hid (∀ j (h : j < k) (h' : j < xs.length), (xs[j].toList == s.toList) = false)) (fun i => xs.length - (intOf i).toNat)
  case atStart => exact ⟨0, Nat.zero_le _, rfl, Lib.hid (fun j h => by omega)⟩
  case round =>
    obtain ⟨k, hk, rfl, hno⟩ := hrel
    by_cases hlt : k < xs.length
    · have hc := HX.out k hlt
      have i1 : (k : Int) < (xs.length : Int) := by omega
      cases hy : (xs[k].toList == s.toList)
      · have hno' : Hid (∀ j (h : j < k + 1) (h' : j < xs.length), (xs[j].toList == s.toList) = false) := Lib.hid (fun j h h' => by
          rcases Nat.lt_succ_iff_lt_or_eq.1 h with h | rfl
          · exact hno.out j h h'
          · exact hy)
        go_wp2_with fail
        go_round
        case rel => exact ⟨k + 1, by omega, by go_num, hno'⟩
        case measure => simp [intOf]; omega
      · have hi := Lib.hid (inB_yes s xs k hlt hy)
        go_wp2_with fail
        go_ret
        exact ⟨by rw [hi.out]; rfl, rfl⟩
    · have hi := Lib.hid (inB_no s xs (fun j h => hno.out j (by omega) h))
      go_wp2_with fail
      go_ret
      exact ⟨by rw [hi.out]; rfl, rfl⟩
def kwsB : List ByteArray := kws.map fun l => ⟨l.toArray⟩
theorem inB_kws (s : ByteArray) : inB s kwsB = keywordB s := by
  unfold inB kwsB keywordB
  rw [List.any_map, List.contains_eq_any_beq]
  congr 1
  funext l
  simp only [Function.comp]
  rw [Go.ByteArray.toList_eq]
  exact Bool.beq_comm
set_option maxRecDepth 10000 in
set_option maxHeartbeats 1000000 in
theorem rkeyword_any (s : ByteArray) (w : World) :
    Calls Tryz.prog 49 #[.string s] w fun e w' => e = .returned (.bool (keywordB s)) ∧ w' = w.alloc (.cells (kwsB.map Value.string).toArray 9) := by
  have hx : ∀ i (h : i < kwsB.length), (w.alloc (.cells (kwsB.map Value.string).toArray 9)).cell? ⟨w.heap.size, i, none⟩ = some (.string kwsB[i]) := by
    intro i h
    have := (Blk.new w 9 (kwsB.map Value.string)).cell i
    rw [this, List.getElem?_map, List.getElem?_eq_getElem h]; rfl
  have HX := Lib.hid hx
  clear hx
  go_enter Tryz.func49, Tryz.ntmps49
  go_wp2_with fail
  refine (rin_any s kwsB w.heap.size 21 _ HX.out (by decide)).mono ?_
  rintro e w' ⟨rfl, rfl⟩
  rw [inB_kws]
  go_wp2_with fail
  go_ret
  exact ⟨rfl, rfl⟩
def KwW (w : World) : World := w.alloc (.cells (kwsB.map Value.string).toArray 9)
theorem rkw_t {s : ByteArray} {v : Bool} (h : keywordB s = v) (w : World) : Calls Tryz.prog 49 #[.string s] w fun e w' => e = .returned (.bool v) ∧ w' = KwW w := by
  rw [← h]; exact rkeyword_any s w
theorem KwW.kept (w : World) : Kept (fun _ => False) w (KwW w) := (Kept.refl _ _).alloc _
theorem head_in {s : ByteArray} (h : 0 < s.size) (hl : letterB (s[0].toNat) = true) : allW (s.data.toList.take 1) = true := by
  rw [take_snoc s 0 h, List.take_zero, List.nil_append]; simp [allW, inWordB, hl]
set_option maxRecDepth 10000 in
set_option maxHeartbeats 2000000 in
theorem rident_any (s : ByteArray) (w : World) (hs : s.size ≤ 9223372036854775807) :
    Calls Tryz.prog 19 #[.string s] w fun e w' => e = .returned (.bool (identB s)) ∧ Kept (fun _ => False) w w' := by
  by_cases h0 : 0 < s.size
  case neg =>
    have h1 : (s.size : Int) < 1 := by omega
    have hk := Lib.hid (show identB s = false by unfold identB; rw [decide_eq_false h0]; rfl)
    clear h0
    go_enter Tryz.func19, Tryz.ntmps19
    go_wp2_with fail
    go_ret
    exact ⟨by rw [hk.out]; rfl, Kept.refl _ _⟩
  have h1 : decide ((s.size : Int) < 1) = false := by simp; omega
  by_cases h16 : s.size ≤ 16
  case neg =>
    have hd : decide (16 < (s.size : Int)) = true := by simp; omega
    have hk := Lib.hid (show identB s = false by unfold identB; rw [decide_eq_false h16]; simp)
    clear h16
    go_enter Tryz.func19, Tryz.ntmps19
    go_wp2_with fail
    go_ret
    exact ⟨by rw [hk.out]; rfl, Kept.refl _ _⟩
  have hd : decide (16 < (s.size : Int)) = false := by simp; omega
  have hh := head_of s h0
  cases hl : letterB (s[0].toNat)
  case false =>
    have hk := Lib.hid (show identB s = false by unfold identB; rw [hh, hl]; simp)
    clear hh
    go_enter Tryz.func19, Tryz.ntmps19
    go_wp2_with (go_at_call 48; refine (rletter_any _ _).mono ?_; rintro e w' ⟨rfl, rfl⟩)
    go_ret
    exact ⟨by rw [hk.out]; rfl, Kept.refl _ _⟩
  cases hkw : keywordB s
  case true =>
    have hk := Lib.hid (show identB s = false by unfold identB; rw [hkw]; simp)
    have HK := Lib.hid hkw
    clear hh hkw
    go_enter Tryz.func19, Tryz.ntmps19
    go_wp2_with (go_at_call 48; refine (rletter_any _ _).mono ?_; rintro e w' ⟨rfl, rfl⟩)
    refine (rkw_t HK.out _).mono ?_
    rintro e w' ⟨rfl, rfl⟩
    go_wp2_with fail
    go_ret
    exact ⟨by rw [hk.out]; rfl, KwW.kept _⟩
  have hk := Lib.hid (show identB s = allW s.data.toList by unfold identB; rw [hh, hl, hkw, decide_eq_true h0, decide_eq_true h16]; simp)
  have HK := Lib.hid hkw
  have HI := Lib.hid (head_in h0 hl)
  clear hh hkw
  go_enter Tryz.func19, Tryz.ntmps19
  go_wp2_with (go_at_call 48; refine (rletter_any _ _).mono ?_; rintro e w' ⟨rfl, rfl⟩)
  refine (rkw_t HK.out _).mono ?_
  rintro e w' ⟨rfl, rfl⟩
  have kW := KwW.kept w
  generalize KwW w = w1 at *
  go_wp2_with fail
  go_loop [3] (fun i => ∃ k : Nat, k ≤ s.size ∧ i = .int .i64 k ∧ Hid (allW (s.data.toList.take k) = true)) (fun i => s.size - (intOf i).toNat)
  case atStart => exact ⟨1, by omega, rfl, HI⟩
  case round =>
    obtain ⟨k, hks, rfl, hall⟩ := hrel
    by_cases hlt : k < s.size
    · cases a1 : letterB s[k].toNat <;> cases a2 : digitB s[k].toNat <;> cases a3 : ((s[k].toNat : Int) == 95)
      case false.false.false =>
        have hf := Lib.hid (allW_false s k hlt (by unfold inWordB; rw [a1, a2, a3]; rfl))
        go_wp2_with (first | (go_at_call 48; refine (rletter_any _ _).mono ?_; rintro e w' ⟨rfl, rfl⟩) | (go_at_call 50; refine (rdigit_any _ _).mono ?_; rintro e w' ⟨rfl, rfl⟩))
        go_ret
        exact ⟨by rw [hk.out, hf.out]; rfl, kW⟩
      all_goals
        have hall' : Hid (allW (s.data.toList.take (k + 1)) = true) := Lib.hid (by rw [take_snoc s k hlt, allW_snoc, hall.out]; unfold inWordB; rw [a1, a2, a3]; rfl)
        go_wp2_with (first | (go_at_call 48; refine (rletter_any _ _).mono ?_; rintro e w' ⟨rfl, rfl⟩) | (go_at_call 50; refine (rdigit_any _ _).mono ?_; rintro e w' ⟨rfl, rfl⟩))
        go_round
        case rel => exact ⟨k + 1, by omega, by go_num, hall'⟩
        case measure => simp [intOf]; omega
    · have hf : Hid (allW s.data.toList = true) := by
        have h := hall.out
        rw [List.take_of_length_le (by simp; omega)] at h
        exact Lib.hid h
      go_wp2_with fail
      go_ret
      exact ⟨by rw [hk.out, hf.out]; rfl, kW⟩
theorem is_word {s t : ByteArray} (h : keywordB s = false) (σ : PS) (hk : σ.k = 1) (ht : σ.tx = s) : isS σ t = false := by
  unfold isS isB
  rw [hk, ht]
  cases he : (s.toList == t.toList)
  · simp
  · have : keywordB t = keywordB s := by unfold keywordB; rw [eq_of_beq he]
    rw [this, h]; simp
def nmT (s : ByteArray) : Tm := .mk 20 s 0 ty0 []
theorem toList_inj {a b : ByteArray} (h : a.toList = b.toList) : a = b := by
  rw [Go.ByteArray.toList_eq, Go.ByteArray.toList_eq] at h; exact ba_ext h
set_option maxHeartbeats 400000 in
theorem rpart_any (c : Int) (w : World) :
    Calls Tryz.prog 71 #[.int .u8 c] w fun e w' => e = .returned (.bool (inWordB c)) ∧ w = w' := by
  cases h1 : letterB c <;> cases h2 : digitB c <;> cases h3 : (c == 95)
  all_goals
    have hk := Lib.hid (show inWordB c = _ by unfold inWordB; rw [h1, h2, h3])
    go_enter Tryz.func71, Tryz.ntmps71
    go_wp2_with (first | (go_at_call 48; refine (rletter_any _ _).mono ?_; rintro e w' ⟨rfl, rfl⟩) | (go_at_call 50; refine (rdigit_any _ _).mono ?_; rintro e w' ⟨rfl, rfl⟩))
    go_ret
    exact ⟨by rw [hk.out]; rfl, rfl⟩
def digs (acc : Nat) : List UInt8 → Option Nat
  | [] => some acc
  | c :: r => if digitB c.toNat = true then digs (acc * 10 + (c.toNat - 48)) r else none
theorem digs_snoc (l : List UInt8) : ∀ (acc : Nat) (c : UInt8), digs acc (l ++ [c]) = (digs acc l).bind fun v => if digitB c.toNat = true then some (v * 10 + (c.toNat - 48)) else none := by
  induction l with
  | nil => intro acc c; rfl
  | cons a l ih =>
    intro acc c
    show (if digitB a.toNat = true then digs _ (l ++ [c]) else none) = (if digitB a.toNat = true then digs _ l else none).bind _
    by_cases h : digitB a.toNat = true
    · rw [if_pos h, if_pos h, ih]
    · rw [if_neg h, if_neg h]; rfl
theorem digs_app_none (l m : List UInt8) : ∀ (acc : Nat), digs acc l = none → digs acc (l ++ m) = none := by
  induction l with
  | nil => intro acc h; cases h
  | cons a l ih =>
    intro acc h
    show (if digitB a.toNat = true then digs _ (l ++ m) else none) = none
    by_cases hd : digitB a.toNat = true
    · rw [if_pos hd]; apply ih
      have : (if digitB a.toNat = true then digs (acc * 10 + (a.toNat - 48)) l else none) = none := h
      rwa [if_pos hd] at this
    · rw [if_neg hd]
def amt (s : ByteArray) : Int :=
  if 10 < s.size ∨ (1 < s.size ∧ (s.data.toList.headD 0).toNat = 48) then -1
  else match digs 0 s.data.toList with
    | none => -1
    | some n => if 1000000000 < n then -1 else n
def DigAt (s : ByteArray) (k v : Nat) : Prop := digs 0 (s.data.toList.take k) = some v ∧ v < 10 ^ k
theorem DigAt.next {s : ByteArray} {k v : Nat} (h : DigAt s k v) (hk : k < s.size) (hd : digitB s[k].toNat = true) : DigAt s (k + 1) (v * 10 + (s[k].toNat - 48)) := by
  have hb : s[k].toNat - 48 ≤ 9 := by unfold digitB at hd; simp at hd; omega
  refine ⟨?_, ?_⟩
  · rw [take_snoc s k hk, digs_snoc, h.1]; simp [hd]
  · have := h.2; rw [Nat.pow_succ]; omega
theorem DigAt.stop {s : ByteArray} {k v : Nat} (h : DigAt s k v) (hk : k < s.size) (hd : digitB s[k].toNat = false) : digs 0 s.data.toList = none := by
  have e : s.data.toList = s.data.toList.take (k + 1) ++ s.data.toList.drop (k + 1) := (List.take_append_drop _ _).symm
  rw [e]
  apply digs_app_none
  rw [take_snoc s k hk, digs_snoc, h.1]; simp [hd]
set_option maxHeartbeats 2000000 in
theorem ramount_any (s : ByteArray) (w : World) (hs : s.size ≤ 9223372036854775807) :
    Calls Tryz.prog 72 #[.string s] w fun e w' => e = .returned (.int .i64 (amt s)) ∧ w = w' := by
  by_cases h10 : 10 < s.size
  · have hd : decide (10 < (s.size : Int)) = true := by simp; omega
    have hk := Lib.hid (show amt s = -1 by unfold amt; rw [if_pos (Or.inl h10)])
    clear h10
    go_enter Tryz.func72, Tryz.ntmps72
    go_wp2_with fail
    go_ret
    exact ⟨by rw [hk.out]; rfl, rfl⟩
  have hd : decide (10 < (s.size : Int)) = false := by simp; omega
  by_cases hz : 1 < s.size ∧ (s.data.toList.headD 0).toNat = 48
  · have h0 : 0 < s.size := by omega
    have i1 : decide (1 < (s.size : Int)) = true := by simp; omega
    have i2 : ((s[0].toNat : Int) == 48) = true := by have := hz.2; rw [head_of s h0] at this; rw [this]; rfl
    have hk := Lib.hid (show amt s = -1 by unfold amt; rw [if_pos (Or.inr hz)])
    clear hz
    go_enter Tryz.func72, Tryz.ntmps72
    go_wp2_with fail
    go_ret
    exact ⟨by rw [hk.out]; rfl, rfl⟩
  have hk := Lib.hid (show amt s = (match digs 0 s.data.toList with | none => -1 | some n => if 1000000000 < n then -1 else n) by unfold amt; rw [if_neg (by rintro (h | h); exact h10 h; exact hz h)])
  have HZ : Hid (1 < s.size → ∀ h0 : 0 < s.size, ((s[0].toNat : Int) == 48) = false) := Lib.hid (fun h h0 => by
    rw [beq_eq_false_iff_ne]; intro e; apply hz; refine ⟨h, ?_⟩; rw [head_of s h0]; omega)
  clear hz
  have h10' : s.size ≤ 10 := by omega
  by_cases h1 : 1 < s.size
  all_goals
    first
    | (have i1 : decide (1 < (s.size : Int)) = true := by simp; omega)
    | (have i1 : decide (1 < (s.size : Int)) = false := by simp; omega)
    try (have i2 := HZ.out h1 (by omega))
    go_enter Tryz.func72, Tryz.ntmps72
    go_wp2_with fail
    go_loop [3, 4] (fun n i => ∃ k v : Nat, k ≤ s.size ∧ i = .int .i64 k ∧ n = .int .i64 v ∧ Hid (DigAt s k v)) (fun _ i => s.size - (intOf i).toNat)
    case atStart => exact ⟨0, 0, Nat.zero_le _, rfl, rfl, Lib.hid ⟨rfl, by decide⟩⟩
    case round =>
      obtain ⟨k, v, hks, rfl, rfl, hD⟩ := hrel
      by_cases hlt : k < s.size
      · cases hw : digitB s[k].toNat
        · have hf := Lib.hid (hD.out.stop hlt hw)
          go_wp2_with (go_at_call 50; refine (rdigit_any _ _).mono ?_; rintro e w' ⟨rfl, rfl⟩)
          go_ret
          exact ⟨by rw [hk.out, hf.out]; rfl, rfl⟩
        · have hN := Lib.hid (hD.out.next hlt hw)
          have hv : v < 1000000000000 := by
            have h1 := hD.out.2
            have h2 : 10 ^ k ≤ 10 ^ 10 := Nat.pow_le_pow_right (by decide) (by omega)
            omega
          have hb : 48 ≤ s[k].toNat ∧ s[k].toNat ≤ 57 := by unfold digitB at hw; simp at hw; omega
          go_wp2_with (go_at_call 50; refine (rdigit_any _ _).mono ?_; rintro e w' ⟨rfl, rfl⟩)
          go_round
          case rel => exact ⟨k + 1, v * 10 + (s[k].toNat - 48), by omega, by go_num, congrArg (Value.int .i64) (by omega), hN⟩
          case measure => simp [intOf]; omega
      · have hv : digs 0 s.data.toList = some v := by
          have h := hD.out.1
          rwa [List.take_of_length_le (by simp; omega)] at h
        have hv2 : v < 1000000000000 := by
          have h1 := hD.out.2
          have h2 : 10 ^ k ≤ 10 ^ 10 := Nat.pow_le_pow_right (by decide) (by omega)
          omega
        by_cases hb : 1000000000 < v
        · have hf := Lib.hid (show amt s = -1 by rw [hk.out, hv]; exact if_pos hb)
          have i3 : decide ((1000000000 : Int) < (v : Int)) = true := by simp; omega
          clear hv hk hb
          go_wp2_with fail
          go_ret
          exact ⟨by rw [hf.out]; rfl, rfl⟩
        · have hf := Lib.hid (show amt s = v by rw [hk.out, hv]; exact if_neg hb)
          have i3 : decide ((1000000000 : Int) < (v : Int)) = false := by simp; omega
          clear hv hk hb
          go_wp2_with fail
          go_ret
          exact ⟨by rw [hf.out]; rfl, rfl⟩
theorem uint_digs (l : List UInt8) : ∀ (acc v : Nat), digs acc l = some v → acc * 10 ^ l.length + 10 ^ l.length ≤ 18446744073709551616 → Lib.parseUint10 acc l = .ok v := by
  induction l with
  | nil => intro acc v h _; cases h; rfl
  | cons c l ih =>
    intro acc v h hb
    have h' : (if digitB c.toNat = true then digs (acc * 10 + (c.toNat - 48)) l else none) = some v := h
    by_cases hd : digitB c.toNat = true
    · rw [if_pos hd] at h'
      have hc : 48 ≤ c.toNat ∧ c.toNat ≤ 57 := by unfold digitB at hd; simp at hd; omega
      have hp : 1 ≤ 10 ^ l.length := Nat.pow_pos (by decide)
      rw [List.length_cons, Nat.pow_succ] at hb
      generalize 10 ^ l.length = P at *
      have e1 : acc * (P * 10) = acc * 10 * P := by rw [Nat.mul_comm P, Nat.mul_assoc]
      have e2 : (acc * 10 + (c.toNat - 48)) * P + P ≤ acc * 10 * P + P * 10 := by
        rw [Nat.add_mul]
        have : (c.toNat - 48) * P ≤ 9 * P := Nat.mul_le_mul_right _ (by omega)
        omega
      have e3 : acc * 10 ≤ acc * 10 * P := Nat.le_mul_of_pos_right _ hp
      show (if _ then _ else _) = _
      rw [if_pos hc, if_neg (by omega), if_neg (by omega)]
      exact ih _ _ h' (by omega)
    · rw [if_neg hd] at h'; cases h'
theorem digs_uint (l : List UInt8) : ∀ (acc v : Nat), Lib.parseUint10 acc l = .ok v → digs acc l = some v := by
  induction l with
  | nil => intro acc v h; cases h; rfl
  | cons c l ih =>
    intro acc v h
    unfold Lib.parseUint10 at h
    by_cases hc : 48 ≤ c.toNat ∧ c.toNat ≤ 57
    · rw [if_pos hc] at h
      have hd : digitB c.toNat = true := by unfold digitB; simp; omega
      show (if _ then _ else _) = _
      rw [if_pos hd]
      split at h
      · cases h
      · split at h
        · cases h
        · exact ih _ _ h
    · rw [if_neg hc] at h; cases h
theorem digs_ge (l : List UInt8) : ∀ (acc v : Nat), digs acc l = some v → acc * 10 ^ l.length ≤ v := by
  induction l with
  | nil => intro acc v h; cases h; simp
  | cons c l ih =>
    intro acc v h
    have h' : (if digitB c.toNat = true then digs (acc * 10 + (c.toNat - 48)) l else none) = some v := h
    by_cases hd : digitB c.toNat = true
    · rw [if_pos hd] at h'
      have := ih _ _ h'
      rw [List.length_cons, Nat.pow_succ]
      have e1 : acc * (10 ^ l.length * 10) = acc * 10 * 10 ^ l.length := by rw [Nat.mul_comm (10 ^ l.length), Nat.mul_assoc]
      rw [Nat.add_mul] at this
      omega
    · rw [if_neg hd] at h'; cases h'
theorem digs_lt (l : List UInt8) : ∀ (acc v : Nat), digs acc l = some v → v < (acc + 1) * 10 ^ l.length := by
  induction l with
  | nil => intro acc v h; cases h; simp
  | cons c l ih =>
    intro acc v h
    have h' : (if digitB c.toNat = true then digs (acc * 10 + (c.toNat - 48)) l else none) = some v := h
    by_cases hd : digitB c.toNat = true
    · rw [if_pos hd] at h'
      have hc : 48 ≤ c.toNat ∧ c.toNat ≤ 57 := by unfold digitB at hd; simp at hd; omega
      have h1 := ih _ _ h'
      rw [List.length_cons, Nat.pow_succ]
      have e1 : (acc + 1) * (10 ^ l.length * 10) = (acc * 10 + 10) * 10 ^ l.length := by rw [Nat.mul_comm (10 ^ l.length), ← Nat.mul_assoc, Nat.add_mul acc 1 10]
      have e2 : (acc * 10 + (c.toNat - 48) + 1) * 10 ^ l.length ≤ (acc * 10 + 10) * 10 ^ l.length := Nat.mul_le_mul_right _ (by omega)
      omega
    · rw [if_neg hd] at h'; cases h'
theorem atoi_digit {l : List UInt8} {c : UInt8} {r : List UInt8} (hl : l = c :: r) (hd : digitB c.toNat = true) (v : Int) : Lib.atoiAll l = .ok v ↔ ∃ u : Nat, v = u ∧ u < 9223372036854775808 ∧ Lib.parseUint10 0 l = .ok u := by
  subst hl
  have hc : 48 ≤ c.toNat ∧ c.toNat ≤ 57 := by unfold digitB at hd; simp at hd; omega
  have e : Lib.parseMag (c :: r) = Lib.parseUint10 0 (c :: r) := by unfold Lib.parseMag; rw [if_neg (by simp)]
  unfold Lib.atoiAll
  simp only []
  rw [if_neg (by omega), e]
  cases hp : Lib.parseUint10 0 (c :: r) with
  | ok u =>
    simp only [show ¬ c.toNat = 45 by omega, not_false_iff, true_and, false_and, if_false]
    by_cases hu : 9223372036854775808 ≤ u
    · rw [if_pos hu]
      constructor
      · intro h; cases h
      · rintro ⟨x, rfl, hx, h⟩; cases h; omega
    · rw [if_neg hu]
      constructor
      · intro h; cases h; exact ⟨u, rfl, by omega, rfl⟩
      · rintro ⟨x, rfl, hx, h⟩; cases h; rfl
  | range => simp
  | _ => simp
theorem num_amt {t : ByteArray} (h0 : 0 < t.size) (hd : digitB t[0].toNat = true) : numTok t = if amt t < 0 then none else some (amt t) := by
  obtain ⟨c, r, hl⟩ : ∃ c r, t.data.toList = c :: r := by
    cases h : t.data.toList with
    | nil => rw [Lib.size_eq, h] at h0; cases h0
    | cons c r => exact ⟨c, r, rfl⟩
  have hh : t[0] = c := by rw [← head_of t h0, hl]; rfl
  have hsz : t.size = r.length + 1 := by rw [Lib.size_eq, hl]; rfl
  rw [hh] at hd
  have hc : 48 ≤ c.toNat ∧ c.toNat ≤ 57 := by unfold digitB at hd; simp at hd; omega
  have hA := atoi_digit hl hd
  have dg : digs 0 (c :: r) = digs (c.toNat - 48) r := by show (if _ then _ else _) = _; rw [if_pos hd, Nat.zero_mul, Nat.zero_add]
  unfold numTok amt
  rw [hl] at hA ⊢
  cases ha : Lib.atoiAll (c :: r) with
  | ok v =>
    obtain ⟨u, rfl, hu, hp⟩ := (hA v).1 ha
    have hg := digs_uint _ _ _ hp
    simp only []
    by_cases hz : 1 < t.size ∧ ((c :: r).headD 0).toNat = 48
    · rw [if_pos (Or.inr hz), if_pos (Or.inr hz), if_pos (by decide)]
    · by_cases h10 : 10 < t.size
      · have h1 : 1 ≤ c.toNat - 48 := by
          have : ¬ c.toNat = 48 := fun e => hz ⟨by omega, e⟩
          omega
        have h2 := digs_ge r _ u (by rw [← dg]; exact hg)
        have h3 : 10 ^ 10 ≤ 10 ^ r.length := Nat.pow_le_pow_right (by decide) (by omega)
        have h4 : 10 ^ r.length ≤ (c.toNat - 48) * 10 ^ r.length := Nat.le_mul_of_pos_left _ h1
        rw [if_pos (Or.inl (by omega)), if_pos (Or.inl h10), if_pos (by decide)]
      · rw [if_neg (show ¬ (10 < t.size ∨ 1 < t.size ∧ ((c :: r).headD 0).toNat = 48) by rintro (h | h); exact h10 h; exact hz h), hg]
        simp only []
        by_cases hb : 1000000000 < u
        · rw [if_pos (Or.inl (by omega)), if_pos hb, if_pos (by decide)]
        · rw [if_neg (by rintro (h | h); omega; exact hz h), if_neg hb, if_neg (by omega)]
  | range =>
    simp only []
    by_cases hz : 10 < t.size ∨ 1 < t.size ∧ ((c :: r).headD 0).toNat = 48
    · rw [if_pos hz, if_pos (by decide)]
    · rw [if_neg hz]
      cases hg : digs 0 (c :: r) with
      | none => simp
      | some u =>
        have h3 : 10 ^ (c :: r).length ≤ 10 ^ 10 := Nat.pow_le_pow_right (by decide) (by rw [List.length_cons]; have : ¬ 10 < t.size := fun h => hz (Or.inl h); omega)
        have hp := uint_digs _ _ _ hg (by omega)
        have hv := (hA u).2 ⟨u, rfl, by have := digs_lt _ _ _ hg; omega, hp⟩
        rw [ha] at hv; cases hv
  | _ =>
    simp only []
    by_cases hz : 10 < t.size ∨ 1 < t.size ∧ ((c :: r).headD 0).toNat = 48
    · rw [if_pos hz, if_pos (by decide)]
    · rw [if_neg hz]
      cases hg : digs 0 (c :: r) with
      | none => simp
      | some u =>
        have h3 : 10 ^ (c :: r).length ≤ 10 ^ 10 := Nat.pow_le_pow_right (by decide) (by rw [List.length_cons]; have : ¬ 10 < t.size := fun h => hz (Or.inl h); omega)
        have hp := uint_digs _ _ _ hg (by omega)
        have hv := (hA u).2 ⟨u, rfl, by have := digs_lt _ _ _ hg; omega, hp⟩
        rw [ha] at hv; cases hv
def sgs1 : List ByteArray := ⟨#[62, 45, 62, 62]⟩ :: ⟨#[60, 61, 62]⟩ :: (signs.drop 2).take 18
def sgs2 : List ByteArray := signs.drop 20
theorem pre_at (s p : ByteArray) (i : Nat) : Lib.hasPrefix (s.data.toList.drop i) p.data.toList = (decide (p.size ≤ s.size - i) && ((s.extract i (i + p.size)).toList == p.toList)) := by
  rw [Lib.extract_toList, Go.ByteArray.toList_eq, Nat.add_sub_cancel_left, Lib.size_eq p, Lib.size_eq s]
  generalize p.data.toList = q
  have hl : (s.data.toList.drop i).length = s.data.toList.length - i := List.length_drop
  generalize s.data.toList.drop i = L at *
  rw [← hl]
  unfold Lib.hasPrefix
  rw [Bool.eq_iff_iff, List.isPrefixOf_iff_prefix, List.prefix_iff_eq_take, Bool.and_eq_true, decide_eq_true_eq, beq_iff_eq]
  constructor
  · intro h
    refine ⟨?_, h.symm⟩
    have := congrArg List.length h
    rw [List.length_take] at this
    omega
  · rintro ⟨_, h⟩; exact h.symm
def sgnF (l : List UInt8) : Option ByteArray := (sgs1 ++ sgs2).find? fun x => Lib.hasPrefix l x.data.toList
theorem find_swap {α : Type} (P : α → Bool) (a b : α) (l : List α) (h : ¬ (P a = true ∧ P b = true)) : (a :: b :: l).find? P = (b :: a :: l).find? P := by
  simp only [List.find?_cons]
  cases ha : P a <;> cases hb : P b <;> simp_all
theorem sgn_signs (l : List UInt8) : sgnF l = signs.find? fun x => Lib.hasPrefix l x.data.toList := by
  unfold sgnF
  have e : sgs1 ++ sgs2 = ⟨#[62, 45, 62, 62]⟩ :: ⟨#[60, 61, 62]⟩ :: signs.drop 2 := rfl
  have e2 : signs = ⟨#[60, 61, 62]⟩ :: ⟨#[62, 45, 62, 62]⟩ :: signs.drop 2 := rfl
  rw [e]
  conv => rhs; rw [e2]
  apply find_swap
  rintro ⟨h1, h2⟩
  unfold Lib.hasPrefix at h1 h2
  cases l with
  | nil => cases h1
  | cons c l =>
    simp [List.isPrefixOf] at h1 h2
    rw [← h1.1] at h2
    exact absurd h2.1 (by decide)
theorem sIdx_find (l : List UInt8) (xs : List ByteArray) : (sIdx l xs < 0 ∧ (xs.find? fun x => Lib.hasPrefix l x.data.toList) = none) ∨ (¬ sIdx l xs < 0 ∧ (xs.find? fun x => Lib.hasPrefix l x.data.toList) = some (xs.getD (sIdx l xs).toNat ⟨#[]⟩)) := by
  unfold sIdx
  cases h : xs.findIdx? (fun x => Lib.hasPrefix l x.data.toList) with
  | none =>
    left
    refine ⟨by decide, ?_⟩
    rw [List.findIdx?_eq_none_iff] at h
    rw [List.find?_eq_none]
    intro x hx; rw [h x hx]; simp
  | some k =>
    right
    rw [List.findIdx?_eq_some_iff_getElem] at h
    obtain ⟨hk, hy, hno⟩ := h
    refine ⟨by simp only []; omega, ?_⟩
    rw [List.find?_eq_some_iff_getElem]
    refine ⟨?_, k, hk, ?_, fun j hj => by simpa using hno j hj⟩
    · simp only [Int.toNat_natCast, List.getD_eq_getElem?_getD, List.getElem?_eq_getElem hk, Option.getD_some]; exact hy
    · simp only [Int.toNat_natCast, List.getD_eq_getElem?_getD, List.getElem?_eq_getElem hk, Option.getD_some]
theorem sgs1_len : sgs1.length = 20 := rfl
theorem find_app_some {α : Type} (P : α → Bool) (l m : List α) (k : Nat) (hk : k < l.length) (hno : ∀ j (h : j < k), P (l[j]'(by omega)) = false) (hy : P l[k] = true) : (l ++ m).find? P = some l[k] := by
  rw [List.find?_append]
  have : l.find? P = some l[k] := by
    rw [List.find?_eq_some_iff_getElem]
    exact ⟨hy, k, hk, rfl, fun j hj => by simpa using hno j hj⟩
  rw [this]; rfl
theorem find_inB (c : ByteArray) (xs : List ByteArray) : (xs.find? fun x => x.toList == c.toList) = if inB c xs = true then some c else none := by
  induction xs with
  | nil => rfl
  | cons x xs ih =>
    rw [List.find?_cons]
    have e : inB c (x :: xs) = ((x.toList == c.toList) || inB c xs) := rfl
    rw [e]
    cases h : (x.toList == c.toList)
    · rw [ih, Bool.false_or]
    · obtain rfl := toList_inj (eq_of_beq h); simp
theorem sgs2_one : ∀ x ∈ sgs2, x.size = 1 := by decide
theorem find_congr {α : Type} {P Q : α → Bool} {l : List α} (h : ∀ x ∈ l, P x = Q x) : l.find? P = l.find? Q := by
  induction l with
  | nil => rfl
  | cons a l ih => rw [List.find?_cons, List.find?_cons, h a (by simp), ih (fun x hx => h x (by simp [hx]))]
theorem sgn_one {s : ByteArray} {i : Nat} (hi : i < s.size) (hno : ∀ j (h : j < sgs1.length), Lib.hasPrefix (s.data.toList.drop i) sgs1[j].data.toList = false) : sgnF (s.data.toList.drop i) = if inB (s.extract i (i + 1)) sgs2 = true then some (s.extract i (i + 1)) else none := by
  unfold sgnF
  rw [List.find?_append]
  have h1 : (sgs1.find? fun x => Lib.hasPrefix (s.data.toList.drop i) x.data.toList) = none := by
    rw [List.find?_eq_none]; intro x hx
    obtain ⟨j, hj, rfl⟩ := List.getElem_of_mem hx
    rw [hno j hj]; simp
  rw [h1, Option.none_or, ← find_inB]
  apply find_congr
  intro x hx
  rw [pre_at, sgs2_one x hx, decide_eq_true (by omega), Bool.true_and]
  exact Bool.beq_comm
set_option maxHeartbeats 2000000 in
theorem rsign_any (s : ByteArray) (i : Nat) (w : World) (hi : i < s.size) (hs : s.size ≤ 65536) :
    Calls Tryz.prog 73 #[.string s, .int .i64 i] w fun e w' => e = .returned (.string ((sgnF (s.data.toList.drop i)).getD ⟨#[]⟩)) ∧ Kept (fun _ => False) w w' := by
  have hx : ∀ k (h : k < sgs1.length), (w.alloc (.cells (sgs1.map Value.string).toArray 9)).cell? ⟨w.heap.size, k, none⟩ = some (.string sgs1[k]) := by
    intro k h
    have := (Blk.new w 9 (sgs1.map Value.string)).cell k
    rw [this, List.getElem?_map, List.getElem?_eq_getElem h]; rfl
  have HX := Lib.hid hx
  have HL : Hid (∀ k (h : k < sgs1.length), (sgs1[k]).size ≤ 4) := Lib.hid (by decide)
  have kW : Kept (fun _ => False) w (w.alloc (.cells (sgs1.map Value.string).toArray 9)) := (Kept.refl _ _).alloc _
  clear hx
  go_enter Tryz.func73, Tryz.ntmps73
  go_wp2_with fail
  refine wp_gen (fun W => (∀ k (h : k < sgs1.length), W.cell? ⟨w.heap.size, k, none⟩ = some (.string sgs1[k])) ∧ Kept (fun _ => False) w W) ⟨HX.out, kW⟩ ?_
  clear HX kW
  rintro W ⟨hx, kW⟩
  have HX := Lib.hid hx
  clear hx
  generalize w.heap.size = g at *
  go_loopw [6] (fun i_ wr => ∃ k n : Nat, k ≤ sgs1.length ∧ i_ = .int .i64 k ∧ W.drewN n = wr ∧ Hid (∀ j (h : j < k) (h' : j < sgs1.length), Lib.hasPrefix (s.data.toList.drop i) sgs1[j].data.toList = false)) (fun i_ _ => sgs1.length - (intOf i_).toNat)
  case atStart => exact ⟨0, 0, Nat.zero_le _, rfl, rfl, Lib.hid (fun j h => by omega)⟩
  case round =>
    obtain ⟨k, n, hk, rfl, rfl, hno⟩ := hrel
    have hl20 := sgs1_len
    by_cases hlt : k < sgs1.length
    · have hc := HX.out k hlt
      have i1 : (k : Int) < 20 := by omega
      have hP := Lib.hid (pre_at s sgs1[k] i)
      have h4 := HL.out k hlt
      by_cases hlong : sgs1[k].size ≤ s.size - i
      · have i2 : decide ((sgs1[k].size : Int) ≤ (s.size : Int) - (i : Int)) = true := by simp; omega
        have i3 : (0 : Int) ≤ (i : Int) := by omega
        have i4 : (i : Int) ≤ (i : Int) + (sgs1[k].size : Int) := by omega
        have i5 : (i : Int) + (sgs1[k].size : Int) ≤ (s.size : Int) := by omega
        cases heq : ((s.extract i (i + sgs1[k].size)).toList == sgs1[k].toList)
        · have hno' : Hid (∀ j (h : j < k + 1) (h' : j < sgs1.length), Lib.hasPrefix (s.data.toList.drop i) sgs1[j].data.toList = false) := Lib.hid (fun j h h' => by
            rcases Nat.lt_succ_iff_lt_or_eq.1 h with h | rfl
            · exact hno.out j h h'
            · rw [hP.out, heq, Bool.and_false])
          go_wp2_with fail
          go_quiet (fail)
          go_wp2_with fail
          go_roundw
          case rel => exact ⟨k + 1, n + nq, by omega, by go_num, rfl, hno'⟩
          case measure => simp [intOf]; omega
        · have hf := Lib.hid (find_app_some (fun x => Lib.hasPrefix (s.data.toList.drop i) x.data.toList) sgs1 sgs2 k hlt (fun j h => hno.out j h (by omega)) (by rw [hP.out, heq, decide_eq_true hlong]; rfl))
          go_wp2_with fail
          go_quiet (fail)
          go_wp2_with fail
          go_ret
          exact ⟨by unfold sgnF; rw [hf.out]; rfl, kW.drewN _⟩
      · have i2 : decide ((sgs1[k].size : Int) ≤ (s.size : Int) - (i : Int)) = false := by simp; omega
        have hno' : Hid (∀ j (h : j < k + 1) (h' : j < sgs1.length), Lib.hasPrefix (s.data.toList.drop i) sgs1[j].data.toList = false) := Lib.hid (fun j h h' => by
            rcases Nat.lt_succ_iff_lt_or_eq.1 h with h | rfl
            · exact hno.out j h h'
            · rw [hP.out, decide_eq_false hlong, Bool.false_and])
        go_wp2_with fail
        go_quiet (fail)
        go_wp2_with fail
        go_roundw
        case rel => exact ⟨k + 1, n + nq, by omega, by go_num, rfl, hno'⟩
        case measure => simp [intOf]; omega
    · have HS := Lib.hid (sgn_one hi (fun j h => hno.out j (by omega) h))
      have hk20 : k = 20 := by omega
      subst hk20
      have i3 : (0 : Int) ≤ (i : Int) := by omega
      have i4 : (i : Int) ≤ (i : Int) + 1 := by omega
      have i5 : (i : Int) + 1 ≤ (s.size : Int) := by omega
      have hy : ∀ j (h : j < sgs2.length), ((W.drewN n).alloc (.cells (sgs2.map Value.string).toArray 9)).cell? ⟨W.heap.size, j, none⟩ = some (.string sgs2[j]) := by
        intro j h
        have := (Blk.new (W.drewN n) 9 (sgs2.map Value.string)).cell j
        refine Eq.trans this ?_
        rw [List.getElem?_map, List.getElem?_eq_getElem h]; rfl
      have HY := Lib.hid (rin_any (s.extract i (i + 1)) sgs2 W.heap.size 20 _ hy (by decide))
      have kY : Kept (fun _ => False) w ((W.drewN n).alloc (.cells (sgs2.map Value.string).toArray 9)) := (kW.drewN _).alloc _
      clear hy
      go_wp2_with fail
      refine HY.out.mono ?_
      rintro e w' ⟨rfl, rfl⟩
      have S := HS.out
      clear HS HY HX hno
      cases hb : inB (s.extract i (i + 1)) sgs2
      · rw [hb] at S
        have HS := Lib.hid S
        clear S hb
        go_wp2_with fail
        go_ret
        exact ⟨by rw [HS.out]; rfl, kY⟩
      · rw [hb] at S
        have HS := Lib.hid S
        clear S hb
        go_wp2_with fail
        go_ret
        exact ⟨by rw [HS.out]; rfl, kY⟩
end Go.Proofs.YtckjlliobebodaaGreatDoor
