/- Texts PrD of this proof, in one. -/
import Derived.Test.YtckjlliobebodaaGreatDoorBd7
import Derived.Deep.RegionHeld3
import Derived.Deep.RegionHeld
import Derived.Lib.AppendIntMem
set_option linter.unusedVariables false
set_option linter.unusedSimpArgs false
namespace Go.Proofs.YtckjlliobebodaaGreatDoor
open Go.RowKit
def TB (B : Nat) (w : World) : Prop := Lib.TabBelow Tryz.prog B w "internal/strconv.uint64pow10" .u64 Lib.pow10Tab
theorem KB.below {b B : Nat} {w w' : World} (h : KB b B w w') (hb : B ≤ b) (hB : B ≤ w.heap.size) : Below B w w' :=
  ⟨h.os, h.tape, h.output, h.size, fun k hk => h.block k (by omega) (fun hS => by
    rcases hS with rfl | ⟨hq, _⟩
    · omega
    · omega)⟩
theorem TB.kb {b B : Nat} {w w' : World} (h : TB B w) (k : KB b B w w') (hb : B ≤ b) (hB : B ≤ w.heap.size) : TB B w' := fun w2 h2 => h w2 ((k.below hb hB).trans h2)
def PD (t : Tm) (out : List UInt8) : Prop := ∀ (B b : Nat) (l : List UInt8) (w : World) (tk kk : Value), TB B w → Bu B b l w → B ≤ w.heap.size → TyL (fun q => q < B) w t.ty.kids tk → TmL (fun q => q < B) w t.kids kk → l.length + out.length ≤ 1000000000 →
  Calls Tryz.prog 52 #[.pointer (some ⟨b, 0, none⟩), tmVal t tk kk] w (PP B b (l ++ out) w)
def OD (t : Tm) (out : List UInt8) : Prop := ∀ (B b : Nat) (l : List UInt8) (w : World) (tk kk : Value), TB B w → Bu B b l w → B ≤ w.heap.size → TyL (fun q => q < B) w t.ty.kids tk → TmL (fun q => q < B) w t.kids kk → l.length + out.length ≤ 1000000000 →
  Calls Tryz.prog 95 #[.pointer (some ⟨b, 0, none⟩), tmVal t tk kk] w (PP B b (l ++ out) w)
def LD (kl : List Tm) (out : List UInt8) : Prop := ∀ (B b : Nat) (l : List UInt8) (w : World) (kk : Value), TB B w → Bu B b l w → B ≤ w.heap.size → TmL (fun q => q < B) w kl kk → l.length + out.length ≤ 1000000000 →
  Calls Tryz.prog 101 #[.pointer (some ⟨b, 0, none⟩), kk] w (PP B b (l ++ out) w)
theorem TmL.oneD {B : Nat} {w : World} {x : Tm} {v : Value} (h : TmL (fun q => q < B) w [x] v) : ∃ g off cap k0 m0, v = .slice (some ⟨g, off, none⟩) 1 cap ∧ g < B ∧ (∀ j u, (tmCells x k0 m0)[j]? = some u → w.cell? ⟨g, off + j, none⟩ = some u) ∧ TyL (fun q => q < B) w x.ty.kids k0 ∧ TmL (fun q => q < B) w x.kids m0 := by
  generalize hl : [x] = l at h
  cases h with
  | nil h => cases hl
  | mk K M hne hb hc hcell hk hm =>
    rename_i g off cap
    subst hl
    have h0 := hcell 0 (by simp)
    simp only [Nat.zero_mul, Nat.add_zero, List.getElem_cons_zero] at h0
    refine ⟨g, off, cap, K 0, M 0, rfl, hb, fun j u hj => ?_, hk 0 (by simp), hm 0 (by simp)⟩
    have hlt : j < 7 := (List.getElem?_eq_some_iff.1 hj).1
    rcases (show j = 0 ∨ j = 1 ∨ j = 2 ∨ j = 3 ∨ j = 4 ∨ j = 5 ∨ j = 6 by omega) with rfl | rfl | rfl | rfl | rfl | rfl | rfl
    · cases hj; exact h0.1
    · cases hj; exact h0.2.1
    · cases hj; exact h0.2.2.1
    · cases hj; exact h0.2.2.2.1
    · cases hj; exact h0.2.2.2.2.1
    · cases hj; exact h0.2.2.2.2.2.1
    · cases hj; exact h0.2.2.2.2.2.2
set_option maxRecDepth 100000 in
set_option maxHeartbeats 4000000 in
theorem od_any {t : Tm} {out : List UInt8} (hp : PD t out) : OD t (parS t.op out) := by
  intro B b l w tk kk hTB hb hB hty htm hlen
  obtain ⟨ta, tn, tc, rfl⟩ := hty.slice
  obtain ⟨ma, mn, mc, rfl⟩ := htm.slice
  unfold tmVal
  have K0 : Kept (fun _ => False) w (w.alloc (.cells #[.int .i64 t.op, .string t.name, .int .i64 t.n, .int .i64 t.ty.kind, .string t.ty.name, .slice ta tn tc, .slice ma mn mc] 27)) := (Kept.refl _ _).alloc _
  have bX : Blk (w.alloc (.cells #[.int .i64 t.op, .string t.name, .int .i64 t.n, .int .i64 t.ty.kind, .string t.ty.name, .slice ta tn tc, .slice ma mn mc] 27)) w.heap.size 27 (tmCells t (.slice ta tn tc) (.slice ma mn mc)) := Blk.new w 27 _
  have hbl := hb.lt
  have hbB := hb.le
  have HP := Lib.hid hp
  have HCO := Lib.hid (fun W => compound_any (op := t.op) (nm := t.name) (N := t.n) (tkd := t.ty.kind) (tnm := t.ty.name) (ta := ta) (tn := tn) (tc := tc) (ma := ma) (mn := mn) (mc := mc) rfl rfl W)
  have HTB := Lib.hid hTB
  clear hp hTB
  cases hc : compB t.op
  · have hps : parS t.op out = out := by unfold parS; rw [hc]; rfl
    rw [hps] at hlen ⊢
    have HL := Lib.hid hlen
    clear hlen hps
    go_enter Tryz.func95, Tryz.ntmps95
    go_wp2_with fail
    refine (HCO.out _).mono ?_
    rintro e w1 ⟨rfl, k1⟩
    rw [hc]
    have K1 := K0.trans k1
    have b1 := bX.kept k1 (fun h => h)
    have g0 : w1.cell? ⟨w.heap.size, 0, none⟩ = some (.int .i64 t.op) := b1.cell 0
    have g1 : w1.cell? ⟨w.heap.size, 1, none⟩ = some (.string t.name) := b1.cell 1
    have g2 : w1.cell? ⟨w.heap.size, 2, none⟩ = some (.int .i64 t.n) := b1.cell 2
    have g3 : w1.cell? ⟨w.heap.size, 3, none⟩ = some (.int .i64 t.ty.kind) := b1.cell 3
    have g4 : w1.cell? ⟨w.heap.size, 4, none⟩ = some (.string t.ty.name) := b1.cell 4
    have g5 : w1.cell? ⟨w.heap.size, 5, none⟩ = some (.slice ta tn tc) := b1.cell 5
    have g6 : w1.cell? ⟨w.heap.size, 6, none⟩ = some (.slice ma mn mc) := b1.cell 6
    have HC := Lib.hid (HP.out B b l w1 _ _ (HTB.out.kb (KB.of_kept K1) hbB hB) (hb.kept K1) (Nat.le_trans hB K1.size) (hty.frame (Same.of_kept K1 (fun _ _ e => e))) (htm.frame (Same.of_kept K1 (fun _ _ e => e))) HL.out)
    go_wp2_with fail
    refine HC.out.mono ?_
    rintro e w2 ⟨rfl, h1, h2⟩
    go_wp2_with fail
    first | go_end0 | refine bodyPost_ret (results_none rfl _ _ _) rfl ?_
    exact ⟨rfl, h1, (KB.of_kept K1).trans h2⟩
  · have hps : parS t.op out = [40] ++ out ++ [41] := by unfold parS; rw [hc]; rfl
    rw [hps] at hlen ⊢
    have HL : Hid (l.length + out.length + 2 ≤ 1000000000) := Lib.hid (by simp at hlen; omega)
    clear hlen hps
    go_enter Tryz.func95, Tryz.ntmps95
    go_wp2_with fail
    refine (HCO.out _).mono ?_
    rintro e w1 ⟨rfl, k1⟩
    rw [hc]
    have K1 := K0.trans k1
    have b1 := bX.kept k1 (fun h => h)
    have HW1 := Lib.hid (wb_any (40 : UInt8) (ci := 40) rfl (hb.kept K1) (by have := HL.out; omega) (Nat.le_trans hB K1.size))
    go_wp2_with fail
    refine HW1.out.mono ?_
    rintro e w2 ⟨rfl, u2, k2⟩
    have K2 : KB b B w w2 := (KB.of_kept K1).trans k2
    have b2 := b1.kb k2 (by omega) (by decide)
    have g0 : w2.cell? ⟨w.heap.size, 0, none⟩ = some (.int .i64 t.op) := b2.cell 0
    have g1 : w2.cell? ⟨w.heap.size, 1, none⟩ = some (.string t.name) := b2.cell 1
    have g2 : w2.cell? ⟨w.heap.size, 2, none⟩ = some (.int .i64 t.n) := b2.cell 2
    have g3 : w2.cell? ⟨w.heap.size, 3, none⟩ = some (.int .i64 t.ty.kind) := b2.cell 3
    have g4 : w2.cell? ⟨w.heap.size, 4, none⟩ = some (.string t.ty.name) := b2.cell 4
    have g5 : w2.cell? ⟨w.heap.size, 5, none⟩ = some (.slice ta tn tc) := b2.cell 5
    have g6 : w2.cell? ⟨w.heap.size, 6, none⟩ = some (.slice ma mn mc) := b2.cell 6
    have HC := Lib.hid (HP.out B b (l ++ [40]) w2 _ _ (HTB.out.kb K2 hbB hB) u2 (Nat.le_trans hB K2.size) (hty.frame (Same.kb K2 hbB)) (htm.frame (Same.kb K2 hbB)) (by have := HL.out; simp; omega))
    go_wp2_with fail
    refine HC.out.mono ?_
    rintro e w3 ⟨rfl, u3, k3⟩
    have K3 := K2.trans k3
    have HW3 := Lib.hid (wb_any (41 : UInt8) (ci := 41) rfl u3 (by have := HL.out; simp; omega) (Nat.le_trans hB K3.size))
    go_wp2_with fail
    refine HW3.out.mono ?_
    rintro e w4 ⟨rfl, u4, k4⟩
    go_wp2_with fail
    first | go_end0 | refine bodyPost_ret (results_none rfl _ _ _) rfl ?_
    exact ⟨rfl, by simpa using u4, K3.trans k4⟩
set_option maxRecDepth 100000 in
set_option maxHeartbeats 8000000 in
theorem pd_bin {t x y : Tm} {ox oy : List UInt8} (hkids : t.kids = [x, y]) (hbin : ((binS t.op).toList == []) = false) (hx : OD x ox) (hy : OD y oy) : PD t (ox ++ ([32] ++ (binS t.op).data.toList ++ [32]) ++ oy) := by
  intro B b l w tk kk hTB hb hB hty htm hlen
  obtain ⟨ta, tn, tc, rfl⟩ := hty.slice
  rw [hkids] at htm
  obtain ⟨g, off, cap, k0, m0, k1, m1, rfl, hgB, hcl, hx5, hx6, hy5, hy6⟩ := htm.two'
  obtain ⟨xa, xn, xc, rfl⟩ := hx5.slice
  obtain ⟨xb, xo, xd, rfl⟩ := hx6.slice
  obtain ⟨ya, yn, yc, rfl⟩ := hy5.slice
  obtain ⟨yb, yo, yd, rfl⟩ := hy6.slice
  unfold tmVal
  have K0 : Kept (fun _ => False) w (w.alloc (.cells #[.int .i64 t.op, .string t.name, .int .i64 t.n, .int .i64 t.ty.kind, .string t.ty.name, .slice ta tn tc, .slice (some ⟨g, off, none⟩) 2 cap] 27)) := (Kept.refl _ _).alloc _
  have bX : Blk (w.alloc (.cells #[.int .i64 t.op, .string t.name, .int .i64 t.n, .int .i64 t.ty.kind, .string t.ty.name, .slice ta tn tc, .slice (some ⟨g, off, none⟩) 2 cap] 27)) w.heap.size 27 (tmCells t (.slice ta tn tc) (.slice (some ⟨g, off, none⟩) 2 cap)) := Blk.new w 27 _
  have hbl := hb.lt
  have hbB := hb.le
  have HBI := Lib.hid (binary_any t.op)
  have HL : Hid (l.length + ox.length + (binS t.op).size + oy.length + 2 ≤ 1000000000) := Lib.hid (by simp at hlen; have : (binS t.op).data.size = (binS t.op).size := rfl; omega)
  have HX := Lib.hid hx
  have HY := Lib.hid hy
  have HCL := Lib.hid hcl
  have HGB := Lib.hid hgB
  have HTB := Lib.hid hTB
  clear hlen hx hy hcl hkids htm hgB hTB
  go_enter Tryz.func52, Tryz.ntmps52
  go_wp2_with fail
  refine (HBI.out _).mono ?_
  rintro e w1 ⟨rfl, k1'⟩
  have K1 := K0.trans k1'
  have b1 := bX.kept k1' (fun h => h)
  have g6 : w1.cell? ⟨w.heap.size, 6, none⟩ = some (.slice (some ⟨g, off, none⟩) 2 cap) := b1.cell 6
  have S1 : Same (fun q => q < B) w w1 := Same.of_kept K1 (fun _ _ e => e)
  have hc1 : Hid (∀ j u, (tmCells x (.slice xa xn xc) (.slice xb xo xd) ++ tmCells y (.slice ya yn yc) (.slice yb yo yd))[j]? = some u → w1.cell? ⟨g, off + j, none⟩ = some u) := Lib.hid (fun j u h => S1.cell HGB.out (HCL.out j u h))
  have c0 : w1.cell? ⟨g, off, none⟩ = some (.int .i64 x.op) := hc1.out 0 _ rfl
  have c1 : w1.cell? ⟨g, off + 1, none⟩ = some (.string x.name) := hc1.out 1 _ rfl
  have c2 : w1.cell? ⟨g, off + 2, none⟩ = some (.int .i64 x.n) := hc1.out 2 _ rfl
  have c3 : w1.cell? ⟨g, off + 3, none⟩ = some (.int .i64 x.ty.kind) := hc1.out 3 _ rfl
  have c4 : w1.cell? ⟨g, off + 4, none⟩ = some (.string x.ty.name) := hc1.out 4 _ rfl
  have c5 : w1.cell? ⟨g, off + 5, none⟩ = some (.slice xa xn xc) := hc1.out 5 _ rfl
  have c6 : w1.cell? ⟨g, off + 6, none⟩ = some (.slice xb xo xd) := hc1.out 6 _ rfl
  have HC1 := Lib.hid (HX.out B b l w1 _ _ (HTB.out.kb (KB.of_kept K1) hbB hB) (hb.kept K1) (Nat.le_trans hB K1.size) (hx5.frame S1) (hx6.frame S1) (by have := HL.out; omega))
  go_wp2_with fail
  refine HC1.out.mono ?_
  rintro e w2 ⟨rfl, u2, k2⟩
  have K2 : KB b B w w2 := (KB.of_kept K1).trans k2
  have b2 := b1.kb k2 (by omega) (by decide)
  have y6 : w2.cell? ⟨w.heap.size, 6, none⟩ = some (.slice (some ⟨g, off, none⟩) 2 cap) := b2.cell 6
  clear c0 c1 c2 c3 c4 c5 c6 g6
  have hsz : (⟨#[32]⟩ ++ binS t.op ++ ⟨#[32]⟩ : ByteArray).size = (binS t.op).size + 2 := by simp [ByteArray.size_append]; show 1 + (binS t.op).size + 1 = _; omega
  have HS := Lib.hid (ws_any (⟨#[32]⟩ ++ binS t.op ++ ⟨#[32]⟩) u2 (by have := HL.out; rw [hsz, List.length_append]; omega) (Nat.le_trans hB K2.size))
  clear hsz
  have hbz : (binS t.op).size ≤ 1000000000 := by have := HL.out; omega
  go_wp2_with fail
  refine HS.out.mono ?_
  rintro e w3 ⟨rfl, u3, k3⟩
  have K3 := K2.trans k3
  have b3 := b2.kb k3 (by omega) (by decide)
  have z6 : w3.cell? ⟨w.heap.size, 6, none⟩ = some (.slice (some ⟨g, off, none⟩) 2 cap) := b3.cell 6
  have S3 : Same (fun q => q < B) w w3 := Same.kb K3 hbB
  have hc3 : Hid (∀ j u, (tmCells x (.slice xa xn xc) (.slice xb xo xd) ++ tmCells y (.slice ya yn yc) (.slice yb yo yd))[j]? = some u → w3.cell? ⟨g, off + j, none⟩ = some u) := Lib.hid (fun j u h => S3.cell HGB.out (HCL.out j u h))
  have c0 : w3.cell? ⟨g, off + 7, none⟩ = some (.int .i64 y.op) := hc3.out 7 _ rfl
  have c1 : w3.cell? ⟨g, off + 8, none⟩ = some (.string y.name) := hc3.out 8 _ rfl
  have c2 : w3.cell? ⟨g, off + 9, none⟩ = some (.int .i64 y.n) := hc3.out 9 _ rfl
  have c3 : w3.cell? ⟨g, off + 10, none⟩ = some (.int .i64 y.ty.kind) := hc3.out 10 _ rfl
  have c4 : w3.cell? ⟨g, off + 11, none⟩ = some (.string y.ty.name) := hc3.out 11 _ rfl
  have c5 : w3.cell? ⟨g, off + 12, none⟩ = some (.slice ya yn yc) := hc3.out 12 _ rfl
  have c6 : w3.cell? ⟨g, off + 13, none⟩ = some (.slice yb yo yd) := hc3.out 13 _ rfl
  have hdl : (⟨#[32]⟩ ++ binS t.op ++ ⟨#[32]⟩ : ByteArray).data.toList = [32] ++ (binS t.op).data.toList ++ [32] := by simp [ByteArray.data_append]
  rw [hdl] at u3
  have HC3 := Lib.hid (HY.out B b _ w3 _ _ (HTB.out.kb K3 hbB hB) u3 (Nat.le_trans hB K3.size) (hy5.frame S3) (hy6.frame S3) (by have := HL.out; simp only [List.length_append, List.length_cons, List.length_nil, ba_len]; omega))
  clear hdl y6
  go_wp2_with fail
  refine HC3.out.mono ?_
  rintro e w4 ⟨rfl, u4, k4⟩
  go_wp2_with fail
  first | go_end0 | refine bodyPost_ret (results_none rfl _ _ _) rfl ?_
  exact ⟨rfl, by simpa using u4, K3.trans k4⟩
def HD (t : Tm) (out : List UInt8) : Prop := ∀ (B b : Nat) (l : List UInt8) (w : World) (tk kk : Value), TB B w → Bu B b l w → B ≤ w.heap.size → TyL (fun q => q < B) w t.ty.kids tk → TmL (fun q => q < B) w t.kids kk → l.length + out.length ≤ 1000000000 →
  Calls Tryz.prog 99 #[.pointer (some ⟨b, 0, none⟩), tmVal t tk kk] w (PP B b (l ++ out) w)
set_option maxRecDepth 100000 in
set_option maxHeartbeats 8000000 in
theorem hd_any {nm : ByteArray} {N : Int} {ty : Ty} {x : Tm} {ox : List UInt8} (hx : OD x ox) {y : Tm} {op : Int} : HD (.mk op nm N ty [x, y]) (nm.data.toList ++ ([32, 105, 110, 32] : List UInt8) ++ ox) := by
  intro B b l w tk kk hTB hb hB hty htm hlen
  have htm0 : TmL (fun q => q < B) w [x, y] kk := htm
  obtain ⟨g, off, cap, k0, m0, k1, m1, rfl, hgB, hcl, hx5, hx6, hy5, hy6⟩ := htm0.two'
  obtain ⟨xa, xn, xc, rfl⟩ := hx5.slice
  obtain ⟨xb, xo, xd, rfl⟩ := hx6.slice
  obtain ⟨ya, yn, yc, rfl⟩ := hy5.slice
  obtain ⟨yb, yo, yd, rfl⟩ := hy6.slice
  have HCL := Lib.hid hcl
  have HGB := Lib.hid hgB
  clear hcl hgB
  obtain ⟨ta, tn, tc, rfl⟩ := hty.slice
  unfold tmVal
  have hty' : TyL (fun q => q < B) w ty.kids (.slice ta tn tc) := hty
  have htm' : TmL (fun q => q < B) w [x, y] (.slice (some ⟨g, off, none⟩) 2 cap) := htm
  clear hty htm
  simp only [Tm.op, Tm.name, Tm.n, Tm.ty, Tm.kids]
  have K0' : Kept (fun _ => False) w (w.alloc (.cells #[.int .i64 op, .string nm, .int .i64 N, .int .i64 ty.kind, .string ty.name, .slice ta tn tc, .slice (some ⟨g, off, none⟩) 2 cap] 27)) := (Kept.refl _ _).alloc _
  have bX : Blk (w.alloc (.cells #[.int .i64 op, .string nm, .int .i64 N, .int .i64 ty.kind, .string ty.name, .slice ta tn tc, .slice (some ⟨g, off, none⟩) 2 cap] 27)) w.heap.size 27 [.int .i64 op, .string nm, .int .i64 N, .int .i64 ty.kind, .string ty.name, .slice ta tn tc, .slice (some ⟨g, off, none⟩) 2 cap] := Blk.new w 27 _
  have hbl := hb.lt
  have hbB := hb.le
  have HTB := Lib.hid hTB
  have HX := Lib.hid hx
  have HL : Hid (l.length + nm.data.toList.length + 4 + ox.length ≤ 1000000000) := Lib.hid (by (try simp only [List.length_append, List.length_cons, List.length_nil] at hlen); omega)
  clear hlen hTB
  have HNZ := Lib.hid (ba_len nm).symm
  go_enter Tryz.func99, Tryz.ntmps99
  go_wp2_with fail
  generalize w.alloc _ = w1 at *
  have u1 := hb.kept K0'
  have g1 : w1.cell? ⟨w.heap.size, 1, none⟩ = some (.string nm) := bX.cell 1
  have hsz : (nm ++ ⟨#[32, 105, 110, 32]⟩ : ByteArray).size = nm.data.toList.length + 4 := by rw [ByteArray.size_append, HNZ.out]; rfl
  have hdl : (nm ++ ⟨#[32, 105, 110, 32]⟩ : ByteArray).data.toList = nm.data.toList ++ [32, 105, 110, 32] := by simp [ByteArray.data_append]
  have HS := Lib.hid (ws_any (w := w1.drew) (nm ++ ⟨#[32, 105, 110, 32]⟩) (l := l) (b := b) (B := B) (by simpa using u1.kept ((Kept.refl _ _).drew)) (by have := HL.out; rw [hsz]; omega) (Nat.le_trans hB K0'.size))
  rw [hdl] at HS
  have HDL := Lib.hid hdl
  clear hsz hdl
  have hz0 : nm.size ≤ 1000000000 := by have := HL.out; have := HNZ.out; omega
  go_region_held (fun w' => w'.cell? ⟨w.heap.size, 1, none⟩ = some (.string nm)) (go_keep)
    (first | (go_at_call 96; refine HS.out.mono ?_; rintro e w2 ⟨rfl, u2, k2'⟩; have k2 := ((KB.refl b B w1).drew).trans k2'; have b2 := bX.kb k2 (by omega) (by decide); have g2 : w2.cell? ⟨w.heap.size, 1, none⟩ = some (.string nm) := b2.cell 1))
  have K2 := (KB.of_kept (b := b) (B := B) K0').trans k2
  have v2 : Bu B b (l ++ (nm.data.toList ++ [32, 105, 110, 32])) w2 := u2
  clear g1 g2 u2 HS
  have g2 : ∀ i, w2.cell? ⟨w.heap.size, i, none⟩ = [Value.int .i64 op, .string nm, .int .i64 N, .int .i64 ty.kind, .string ty.name, .slice ta tn tc, .slice (some ⟨g, off, none⟩) 2 cap][i]? := b2.cell
  have S2 : Same (fun q => q < B) w w2 := Same.kb K2 hbB
  have hc2 : Hid (∀ j u, (tmCells x (.slice xa xn xc) (.slice xb xo xd) ++ tmCells y (.slice ya yn yc) (.slice yb yo yd))[j]? = some u → w2.cell? ⟨g, off + j, none⟩ = some u) := Lib.hid (fun j u h => S2.cell HGB.out (HCL.out j u h))
  have c0 : w2.cell? ⟨g, off, none⟩ = some (.int .i64 x.op) := hc2.out 0 _ rfl
  have c1 : w2.cell? ⟨g, off + 1, none⟩ = some (.string x.name) := hc2.out 1 _ rfl
  have c2 : w2.cell? ⟨g, off + 2, none⟩ = some (.int .i64 x.n) := hc2.out 2 _ rfl
  have c3 : w2.cell? ⟨g, off + 3, none⟩ = some (.int .i64 x.ty.kind) := hc2.out 3 _ rfl
  have c4 : w2.cell? ⟨g, off + 4, none⟩ = some (.string x.ty.name) := hc2.out 4 _ rfl
  have c5 : w2.cell? ⟨g, off + 5, none⟩ = some (.slice xa xn xc) := hc2.out 5 _ rfl
  have c6 : w2.cell? ⟨g, off + 6, none⟩ = some (.slice xb xo xd) := hc2.out 6 _ rfl
  have H2 := Lib.hid (HX.out B b _ w2 _ _ (HTB.out.kb K2 hbB hB) v2 (Nat.le_trans hB K2.size) (hx5.frame S2) (hx6.frame S2) (by have := HL.out; (try simp only [List.length_append, List.length_cons, List.length_nil]); omega))
  go_wp2_with fail
  refine H2.out.mono ?_
  rintro e w3 ⟨rfl, u3, k3⟩
  clear c0 c1 c2 c3 c4 c5 c6
  have K3 := K2.trans k3
  have b3 := b2.kb k3 (by omega) (by decide)
  have v3 : Bu B b ((l ++ (nm.data.toList ++ [32, 105, 110, 32])) ++ ox) w3 := u3
  clear g2 u3
  go_wp2_with fail
  first | go_end0 | refine bodyPost_ret (results_none rfl _ _ _) rfl ?_
  exact ⟨rfl, by simpa using v3, K3⟩
def BD (t : Tm) (p q : UInt8) (out : List UInt8) : Prop := ∀ (B b : Nat) (l : List UInt8) (w : World) (tk kk : Value) (pi qi : Int), pi = p.toNat → qi = q.toNat → TB B w → Bu B b l w → B ≤ w.heap.size → TyL (fun q => q < B) w t.ty.kids tk → TmL (fun q => q < B) w t.kids kk → l.length + out.length ≤ 1000000000 →
  Calls Tryz.prog 100 #[.pointer (some ⟨b, 0, none⟩), tmVal t tk kk, .int .u8 pi, .int .u8 qi] w (PP B b (l ++ out) w)
set_option maxRecDepth 100000 in
set_option maxHeartbeats 8000000 in
theorem bd_any {nm : ByteArray} {N : Int} {ty : Ty} {p q : UInt8} {x y : Tm} {ox oy : List UInt8} (hx : OD x ox) (hy : PD y oy) {op : Int} : BD (.mk op nm N ty [x, y]) p q (ox ++ ([p] : List UInt8) ++ oy ++ ([q] : List UInt8)) := by
  intro B b l w tk kk pi qi hci_p hci_q hTB hb hB hty htm hlen
  have htm0 : TmL (fun q => q < B) w [x, y] kk := htm
  obtain ⟨g, off, cap, k0, m0, k1, m1, rfl, hgB, hcl, hx5, hx6, hy5, hy6⟩ := htm0.two'
  obtain ⟨xa, xn, xc, rfl⟩ := hx5.slice
  obtain ⟨xb, xo, xd, rfl⟩ := hx6.slice
  obtain ⟨ya, yn, yc, rfl⟩ := hy5.slice
  obtain ⟨yb, yo, yd, rfl⟩ := hy6.slice
  have HCL := Lib.hid hcl
  have HGB := Lib.hid hgB
  clear hcl hgB
  obtain ⟨ta, tn, tc, rfl⟩ := hty.slice
  unfold tmVal
  have hty' : TyL (fun q => q < B) w ty.kids (.slice ta tn tc) := hty
  have htm' : TmL (fun q => q < B) w [x, y] (.slice (some ⟨g, off, none⟩) 2 cap) := htm
  clear hty htm
  simp only [Tm.op, Tm.name, Tm.n, Tm.ty, Tm.kids]
  have K0' : Kept (fun _ => False) w (w.alloc (.cells #[.int .i64 op, .string nm, .int .i64 N, .int .i64 ty.kind, .string ty.name, .slice ta tn tc, .slice (some ⟨g, off, none⟩) 2 cap] 27)) := (Kept.refl _ _).alloc _
  have bX : Blk (w.alloc (.cells #[.int .i64 op, .string nm, .int .i64 N, .int .i64 ty.kind, .string ty.name, .slice ta tn tc, .slice (some ⟨g, off, none⟩) 2 cap] 27)) w.heap.size 27 [.int .i64 op, .string nm, .int .i64 N, .int .i64 ty.kind, .string ty.name, .slice ta tn tc, .slice (some ⟨g, off, none⟩) 2 cap] := Blk.new w 27 _
  have hbl := hb.lt
  have hbB := hb.le
  have HTB := Lib.hid hTB
  have HX := Lib.hid hx
  have HY := Lib.hid hy
  have HCI_p := Lib.hid hci_p
  have HCI_q := Lib.hid hci_q
  clear hci_p hci_q
  have HL : Hid (l.length + ox.length + oy.length + 2 ≤ 1000000000) := Lib.hid (by (try simp only [List.length_append, List.length_cons, List.length_nil] at hlen); omega)
  clear hlen hTB
  have HNZ := Lib.hid (ba_len nm).symm
  go_enter Tryz.func100, Tryz.ntmps100
  go_upto_region 1 with (fail)
  generalize hw1 : w.alloc _ = w1 at *
  have v1 := hb.kept K0'
  have K1 := KB.of_kept (b := b) (B := B) K0'
  have b1 := bX
  clear hw1
  have g1 : ∀ i, w1.cell? ⟨w.heap.size, i, none⟩ = [Value.int .i64 op, .string nm, .int .i64 N, .int .i64 ty.kind, .string ty.name, .slice ta tn tc, .slice (some ⟨g, off, none⟩) 2 cap][i]? := b1.cell
  have S1 : Same (fun q => q < B) w w1 := Same.kb K1 hbB
  have hc1 : Hid (∀ j u, (tmCells x (.slice xa xn xc) (.slice xb xo xd) ++ tmCells y (.slice ya yn yc) (.slice yb yo yd))[j]? = some u → w1.cell? ⟨g, off + j, none⟩ = some u) := Lib.hid (fun j u h => S1.cell HGB.out (HCL.out j u h))
  have c0 : w1.cell? ⟨g, off, none⟩ = some (.int .i64 x.op) := hc1.out 0 _ rfl
  have c1 : w1.cell? ⟨g, off + 1, none⟩ = some (.string x.name) := hc1.out 1 _ rfl
  have c2 : w1.cell? ⟨g, off + 2, none⟩ = some (.int .i64 x.n) := hc1.out 2 _ rfl
  have c3 : w1.cell? ⟨g, off + 3, none⟩ = some (.int .i64 x.ty.kind) := hc1.out 3 _ rfl
  have c4 : w1.cell? ⟨g, off + 4, none⟩ = some (.string x.ty.name) := hc1.out 4 _ rfl
  have c5 : w1.cell? ⟨g, off + 5, none⟩ = some (.slice xa xn xc) := hc1.out 5 _ rfl
  have c6 : w1.cell? ⟨g, off + 6, none⟩ = some (.slice xb xo xd) := hc1.out 6 _ rfl
  have H1 := Lib.hid (HX.out B b _ w1 _ _ (HTB.out.kb K1 hbB hB) v1 (Nat.le_trans hB K1.size) (hx5.frame S1) (hx6.frame S1) (by have := HL.out; (try simp only [List.length_append, List.length_cons, List.length_nil]); omega))
  go_wp2_with fail
  refine H1.out.mono ?_
  rintro e w2 ⟨rfl, u2, k2⟩
  clear c0 c1 c2 c3 c4 c5 c6
  have K2 := K1.trans k2
  have b2 := b1.kb k2 (by omega) (by decide)
  have v2 : Bu B b (l ++ ox) w2 := u2
  clear g1 u2
  have g2 : ∀ i, w2.cell? ⟨w.heap.size, i, none⟩ = [Value.int .i64 op, .string nm, .int .i64 N, .int .i64 ty.kind, .string ty.name, .slice ta tn tc, .slice (some ⟨g, off, none⟩) 2 cap][i]? := b2.cell
  have H2 := Lib.hid (wb_any (p : UInt8) (ci := pi) HCI_p.out v2 (by have := HL.out; (try simp only [List.length_append, List.length_cons, List.length_nil]); omega) (Nat.le_trans hB K2.size))
  go_wp2_with fail
  refine H2.out.mono ?_
  rintro e w3 ⟨rfl, u3, k3⟩
  have K3 := K2.trans k3
  have b3 := b2.kb k3 (by omega) (by decide)
  have v3 : Bu B b ((l ++ ox) ++ ([p] : List UInt8)) w3 := u3
  clear g2 u3
  have g3 : ∀ i, w3.cell? ⟨w.heap.size, i, none⟩ = [Value.int .i64 op, .string nm, .int .i64 N, .int .i64 ty.kind, .string ty.name, .slice ta tn tc, .slice (some ⟨g, off, none⟩) 2 cap][i]? := b3.cell
  have S3 : Same (fun q => q < B) w w3 := Same.kb K3 hbB
  have hc3 : Hid (∀ j u, (tmCells x (.slice xa xn xc) (.slice xb xo xd) ++ tmCells y (.slice ya yn yc) (.slice yb yo yd))[j]? = some u → w3.cell? ⟨g, off + j, none⟩ = some u) := Lib.hid (fun j u h => S3.cell HGB.out (HCL.out j u h))
  have c0 : w3.cell? ⟨g, off + 7, none⟩ = some (.int .i64 y.op) := hc3.out 7 _ rfl
  have c1 : w3.cell? ⟨g, off + 8, none⟩ = some (.string y.name) := hc3.out 8 _ rfl
  have c2 : w3.cell? ⟨g, off + 9, none⟩ = some (.int .i64 y.n) := hc3.out 9 _ rfl
  have c3 : w3.cell? ⟨g, off + 10, none⟩ = some (.int .i64 y.ty.kind) := hc3.out 10 _ rfl
  have c4 : w3.cell? ⟨g, off + 11, none⟩ = some (.string y.ty.name) := hc3.out 11 _ rfl
  have c5 : w3.cell? ⟨g, off + 12, none⟩ = some (.slice ya yn yc) := hc3.out 12 _ rfl
  have c6 : w3.cell? ⟨g, off + 13, none⟩ = some (.slice yb yo yd) := hc3.out 13 _ rfl
  have H3 := Lib.hid (HY.out B b _ w3 _ _ (HTB.out.kb K3 hbB hB) v3 (Nat.le_trans hB K3.size) (hy5.frame S3) (hy6.frame S3) (by have := HL.out; (try simp only [List.length_append, List.length_cons, List.length_nil]); omega))
  go_wp2_with fail
  refine H3.out.mono ?_
  rintro e w4 ⟨rfl, u4, k4⟩
  clear c0 c1 c2 c3 c4 c5 c6
  have K4 := K3.trans k4
  have b4 := b3.kb k4 (by omega) (by decide)
  have v4 : Bu B b (((l ++ ox) ++ ([p] : List UInt8)) ++ oy) w4 := u4
  clear g3 u4
  have g4 : ∀ i, w4.cell? ⟨w.heap.size, i, none⟩ = [Value.int .i64 op, .string nm, .int .i64 N, .int .i64 ty.kind, .string ty.name, .slice ta tn tc, .slice (some ⟨g, off, none⟩) 2 cap][i]? := b4.cell
  have H4 := Lib.hid (wb_any (q : UInt8) (ci := qi) HCI_q.out v4 (by have := HL.out; (try simp only [List.length_append, List.length_cons, List.length_nil]); omega) (Nat.le_trans hB K4.size))
  go_wp2_with fail
  refine H4.out.mono ?_
  rintro e w5 ⟨rfl, u5, k5⟩
  have K5 := K4.trans k5
  have b5 := b4.kb k5 (by omega) (by decide)
  have v5 : Bu B b ((((l ++ ox) ++ ([p] : List UInt8)) ++ oy) ++ ([q] : List UInt8)) w5 := u5
  clear g4 u5
  go_wp2_with fail
  first | go_end0 | refine bodyPost_ret (results_none rfl _ _ _) rfl ?_
  exact ⟨rfl, by simpa using v5, K5⟩
set_option maxRecDepth 100000 in
set_option maxHeartbeats 8000000 in
theorem pd_true {nm : ByteArray} {N : Int} {ty : Ty} {kl : List Tm} : PD (.mk 1 nm N ty kl) ([116, 114, 117, 101] : List UInt8) := by
  intro B b l w tk kk hTB hb hB hty htm hlen
  obtain ⟨ta, tn, tc, rfl⟩ := hty.slice
  obtain ⟨ma, mn, mc, rfl⟩ := htm.slice
  unfold tmVal
  have hty' : TyL (fun q => q < B) w ty.kids (.slice ta tn tc) := hty
  have htm' : TmL (fun q => q < B) w kl (.slice ma mn mc) := htm
  clear hty htm
  simp only [Tm.op, Tm.name, Tm.n, Tm.ty, Tm.kids]
  have K0' : Kept (fun _ => False) w (w.alloc (.cells #[.int .i64 1, .string nm, .int .i64 N, .int .i64 ty.kind, .string ty.name, .slice ta tn tc, .slice ma mn mc] 27)) := (Kept.refl _ _).alloc _
  have bX : Blk (w.alloc (.cells #[.int .i64 1, .string nm, .int .i64 N, .int .i64 ty.kind, .string ty.name, .slice ta tn tc, .slice ma mn mc] 27)) w.heap.size 27 [.int .i64 1, .string nm, .int .i64 N, .int .i64 ty.kind, .string ty.name, .slice ta tn tc, .slice ma mn mc] := Blk.new w 27 _
  have hbl := hb.lt
  have hbB := hb.le
  have HTB := Lib.hid hTB
  have HB0 : Hid (binS 1 = ⟨#[]⟩) := Lib.hid (by decide)
  have HKY : Hid (∀ W, Calls Tryz.prog 97 #[.int .i64 1] W fun e w' => e = .returned (.string ⟨#[116, 114, 117, 101]⟩) ∧ Kept (fun _ => False) W w') := Lib.hid (fun W => keyed_any 1 W)
  have HBI : Hid (∀ W, Calls Tryz.prog 94 #[.int .i64 1] W fun e w' => e = .returned (.string ⟨#[]⟩) ∧ Kept (fun _ => False) W w') := Lib.hid (fun W => (binary_any 1 W).mono fun e w' ⟨h1, h2⟩ => ⟨by rw [h1, HB0.out], h2⟩)
  have HL : Hid (l.length + 4 ≤ 1000000000) := Lib.hid (by (try simp only [List.length_append, List.length_cons, List.length_nil] at hlen); omega)
  clear hlen hTB
  have HNZ := Lib.hid (ba_len nm).symm
  go_enter Tryz.func52, Tryz.ntmps52
  go_wp2_with fail
  refine (HBI.out _).mono ?_
  rintro e w1 ⟨rfl, k1⟩
  have K1 := K0'.trans k1
  have b1 := bX.kept k1 (fun h => h)
  have g0 : w1.cell? ⟨w.heap.size, 0, none⟩ = some (.int .i64 1) := b1.cell 0
  go_wp2_with fail
  go_region_held3 (fun w' => w'.cell? ⟨w.heap.size, 0, none⟩ = some (.int .i64 1)) (go_keep)
    (first | (go_at_call 97; refine (HKY.out w1.drew).mono ?_; rintro e w2 ⟨rfl, k2'⟩; have k2 : Kept (fun _ => False) w1 w2 := ((Kept.refl _ _).drew).trans k2'; have b2 := b1.kept k2 (fun h => h); have g2 : w2.cell? ⟨w.heap.size, 0, none⟩ = some (.int .i64 1) := b2.cell 0; have K2 := K1.trans k2; have u2 := hb.kept K2) | (go_at_call 96; refine (ws_any _ u2 (by have := HL.out; show _ + 4 ≤ _; omega) (Nat.le_trans hB K2.size)).mono ?_; rintro e w3 ⟨rfl, u3, k3⟩; have b3 := b2.kb k3 (by omega) (by decide); have g3 : w3.cell? ⟨w.heap.size, 0, none⟩ = some (.int .i64 1) := b3.cell 0))
  have K3 : KB b B w w3 := (KB.of_kept K2).trans k3
  have v3 : Bu B b (l ++ ([116, 114, 117, 101] : List UInt8)) w3 := u3
  clear g0 g2 g3 u2 u3
  go_wp2_with fail
  first | go_end0 | refine bodyPost_ret (results_none rfl _ _ _) rfl ?_
  exact ⟨rfl, by simpa using v3, K3⟩
set_option maxRecDepth 100000 in
set_option maxHeartbeats 8000000 in
theorem pd_false {nm : ByteArray} {N : Int} {ty : Ty} {kl : List Tm} : PD (.mk 2 nm N ty kl) ([102, 97, 108, 115, 101] : List UInt8) := by
  intro B b l w tk kk hTB hb hB hty htm hlen
  obtain ⟨ta, tn, tc, rfl⟩ := hty.slice
  obtain ⟨ma, mn, mc, rfl⟩ := htm.slice
  unfold tmVal
  have hty' : TyL (fun q => q < B) w ty.kids (.slice ta tn tc) := hty
  have htm' : TmL (fun q => q < B) w kl (.slice ma mn mc) := htm
  clear hty htm
  simp only [Tm.op, Tm.name, Tm.n, Tm.ty, Tm.kids]
  have K0' : Kept (fun _ => False) w (w.alloc (.cells #[.int .i64 2, .string nm, .int .i64 N, .int .i64 ty.kind, .string ty.name, .slice ta tn tc, .slice ma mn mc] 27)) := (Kept.refl _ _).alloc _
  have bX : Blk (w.alloc (.cells #[.int .i64 2, .string nm, .int .i64 N, .int .i64 ty.kind, .string ty.name, .slice ta tn tc, .slice ma mn mc] 27)) w.heap.size 27 [.int .i64 2, .string nm, .int .i64 N, .int .i64 ty.kind, .string ty.name, .slice ta tn tc, .slice ma mn mc] := Blk.new w 27 _
  have hbl := hb.lt
  have hbB := hb.le
  have HTB := Lib.hid hTB
  have HB0 : Hid (binS 2 = ⟨#[]⟩) := Lib.hid (by decide)
  have HKY : Hid (∀ W, Calls Tryz.prog 97 #[.int .i64 2] W fun e w' => e = .returned (.string ⟨#[102, 97, 108, 115, 101]⟩) ∧ Kept (fun _ => False) W w') := Lib.hid (fun W => keyed_any 2 W)
  have HBI : Hid (∀ W, Calls Tryz.prog 94 #[.int .i64 2] W fun e w' => e = .returned (.string ⟨#[]⟩) ∧ Kept (fun _ => False) W w') := Lib.hid (fun W => (binary_any 2 W).mono fun e w' ⟨h1, h2⟩ => ⟨by rw [h1, HB0.out], h2⟩)
  have HL : Hid (l.length + 5 ≤ 1000000000) := Lib.hid (by (try simp only [List.length_append, List.length_cons, List.length_nil] at hlen); omega)
  clear hlen hTB
  have HNZ := Lib.hid (ba_len nm).symm
  go_enter Tryz.func52, Tryz.ntmps52
  go_wp2_with fail
  refine (HBI.out _).mono ?_
  rintro e w1 ⟨rfl, k1⟩
  have K1 := K0'.trans k1
  have b1 := bX.kept k1 (fun h => h)
  have g0 : w1.cell? ⟨w.heap.size, 0, none⟩ = some (.int .i64 2) := b1.cell 0
  go_wp2_with fail
  go_region_held3 (fun w' => w'.cell? ⟨w.heap.size, 0, none⟩ = some (.int .i64 2)) (go_keep)
    (first | (go_at_call 97; refine (HKY.out w1.drew).mono ?_; rintro e w2 ⟨rfl, k2'⟩; have k2 : Kept (fun _ => False) w1 w2 := ((Kept.refl _ _).drew).trans k2'; have b2 := b1.kept k2 (fun h => h); have g2 : w2.cell? ⟨w.heap.size, 0, none⟩ = some (.int .i64 2) := b2.cell 0; have K2 := K1.trans k2; have u2 := hb.kept K2) | (go_at_call 96; refine (ws_any _ u2 (by have := HL.out; show _ + 5 ≤ _; omega) (Nat.le_trans hB K2.size)).mono ?_; rintro e w3 ⟨rfl, u3, k3⟩; have b3 := b2.kb k3 (by omega) (by decide); have g3 : w3.cell? ⟨w.heap.size, 0, none⟩ = some (.int .i64 2) := b3.cell 0))
  have K3 : KB b B w w3 := (KB.of_kept K2).trans k3
  have v3 : Bu B b (l ++ ([102, 97, 108, 115, 101] : List UInt8)) w3 := u3
  clear g0 g2 g3 u2 u3
  go_wp2_with fail
  first | go_end0 | refine bodyPost_ret (results_none rfl _ _ _) rfl ?_
  exact ⟨rfl, by simpa using v3, K3⟩
set_option maxRecDepth 100000 in
set_option maxHeartbeats 8000000 in
theorem pd_not {nm : ByteArray} {N : Int} {ty : Ty} {x : Tm} {ox : List UInt8} (hx : OD x ox) : PD (.mk 3 nm N ty [x]) (([110, 111, 116, 32] : List UInt8) ++ ox) := by
  intro B b l w tk kk hTB hb hB hty htm hlen
  have htm0 : TmL (fun q => q < B) w [x] kk := htm
  obtain ⟨g, off, cap, k0, m0, rfl, hgB, hcl, hx5, hx6⟩ := htm0.oneD
  obtain ⟨xa, xn, xc, rfl⟩ := hx5.slice
  obtain ⟨xb, xo, xd, rfl⟩ := hx6.slice
  have HCL := Lib.hid hcl
  have HGB := Lib.hid hgB
  clear hcl hgB
  obtain ⟨ta, tn, tc, rfl⟩ := hty.slice
  unfold tmVal
  have hty' : TyL (fun q => q < B) w ty.kids (.slice ta tn tc) := hty
  have htm' : TmL (fun q => q < B) w [x] (.slice (some ⟨g, off, none⟩) 1 cap) := htm
  clear hty htm
  simp only [Tm.op, Tm.name, Tm.n, Tm.ty, Tm.kids]
  have K0' : Kept (fun _ => False) w (w.alloc (.cells #[.int .i64 3, .string nm, .int .i64 N, .int .i64 ty.kind, .string ty.name, .slice ta tn tc, .slice (some ⟨g, off, none⟩) 1 cap] 27)) := (Kept.refl _ _).alloc _
  have bX : Blk (w.alloc (.cells #[.int .i64 3, .string nm, .int .i64 N, .int .i64 ty.kind, .string ty.name, .slice ta tn tc, .slice (some ⟨g, off, none⟩) 1 cap] 27)) w.heap.size 27 [.int .i64 3, .string nm, .int .i64 N, .int .i64 ty.kind, .string ty.name, .slice ta tn tc, .slice (some ⟨g, off, none⟩) 1 cap] := Blk.new w 27 _
  have hbl := hb.lt
  have hbB := hb.le
  have HTB := Lib.hid hTB
  have HB0 : Hid (binS 3 = ⟨#[]⟩) := Lib.hid (by decide)
  have HKY : Hid (∀ W, Calls Tryz.prog 97 #[.int .i64 3] W fun e w' => e = .returned (.string ⟨#[]⟩) ∧ Kept (fun _ => False) W w') := Lib.hid (fun W => keyed_any 3 W)
  have HBI : Hid (∀ W, Calls Tryz.prog 94 #[.int .i64 3] W fun e w' => e = .returned (.string ⟨#[]⟩) ∧ Kept (fun _ => False) W w') := Lib.hid (fun W => (binary_any 3 W).mono fun e w' ⟨h1, h2⟩ => ⟨by rw [h1, HB0.out], h2⟩)
  have HX := Lib.hid hx
  have HL : Hid (l.length + 4 + ox.length ≤ 1000000000) := Lib.hid (by (try simp only [List.length_append, List.length_cons, List.length_nil] at hlen); omega)
  clear hlen hTB
  have HNZ := Lib.hid (ba_len nm).symm
  go_enter Tryz.func52, Tryz.ntmps52
  go_wp2_with fail
  refine (HBI.out _).mono ?_
  rintro e w1 ⟨rfl, k1⟩
  have K1 := K0'.trans k1
  have b1 := bX.kept k1 (fun h => h)
  have g0 : w1.cell? ⟨w.heap.size, 0, none⟩ = some (.int .i64 3) := b1.cell 0
  go_wp2_with fail
  go_region_held3 (fun w' => w'.cell? ⟨w.heap.size, 0, none⟩ = some (.int .i64 3)) (go_keep)
    (first | (go_at_call 97; refine (HKY.out w1.drew).mono ?_; rintro e w2 ⟨rfl, k2'⟩; have k2 : Kept (fun _ => False) w1 w2 := ((Kept.refl _ _).drew).trans k2'; have b2 := b1.kept k2 (fun h => h); have g2 : w2.cell? ⟨w.heap.size, 0, none⟩ = some (.int .i64 3) := b2.cell 0; have K2 := K1.trans k2; have u2 := hb.kept K2) | (go_at_call 96; refine (ws_any _ u2 (by have := HL.out; show _ + 0 ≤ _; omega) (Nat.le_trans hB K2.size)).mono ?_; rintro e w3 ⟨rfl, u3, k3⟩; have b3 := b2.kb k3 (by omega) (by decide); have g3 : w3.cell? ⟨w.heap.size, 0, none⟩ = some (.int .i64 3) := b3.cell 0))
  have K3 : KB b B w w3 := (KB.of_kept K2).trans k3
  have v3 : Bu B b (l ++ ([] : List UInt8)) w3 := u3
  clear g0 g2 g3 u2 u3
  have g3 : ∀ i, w3.cell? ⟨w.heap.size, i, none⟩ = [Value.int .i64 3, .string nm, .int .i64 N, .int .i64 ty.kind, .string ty.name, .slice ta tn tc, .slice (some ⟨g, off, none⟩) 1 cap][i]? := b3.cell
  have H3 := Lib.hid (ws_any (⟨#[110, 111, 116, 32]⟩) v3 (by have := HL.out; show _ + 4 ≤ _; (try simp only [List.length_append, List.length_cons, List.length_nil]); omega) (Nat.le_trans hB K3.size))
  go_wp2_with fail
  refine H3.out.mono ?_
  rintro e w4 ⟨rfl, u4, k4⟩
  have K4 := K3.trans k4
  have b4 := b3.kb k4 (by omega) (by decide)
  have v4 : Bu B b ((l ++ ([] : List UInt8)) ++ ([110, 111, 116, 32] : List UInt8)) w4 := u4
  clear g3 u4
  have g4 : ∀ i, w4.cell? ⟨w.heap.size, i, none⟩ = [Value.int .i64 3, .string nm, .int .i64 N, .int .i64 ty.kind, .string ty.name, .slice ta tn tc, .slice (some ⟨g, off, none⟩) 1 cap][i]? := b4.cell
  have S4 : Same (fun q => q < B) w w4 := Same.kb K4 hbB
  have hc4 : Hid (∀ j u, (tmCells x (.slice xa xn xc) (.slice xb xo xd))[j]? = some u → w4.cell? ⟨g, off + j, none⟩ = some u) := Lib.hid (fun j u h => S4.cell HGB.out (HCL.out j u h))
  have c0 : w4.cell? ⟨g, off, none⟩ = some (.int .i64 x.op) := hc4.out 0 _ rfl
  have c1 : w4.cell? ⟨g, off + 1, none⟩ = some (.string x.name) := hc4.out 1 _ rfl
  have c2 : w4.cell? ⟨g, off + 2, none⟩ = some (.int .i64 x.n) := hc4.out 2 _ rfl
  have c3 : w4.cell? ⟨g, off + 3, none⟩ = some (.int .i64 x.ty.kind) := hc4.out 3 _ rfl
  have c4 : w4.cell? ⟨g, off + 4, none⟩ = some (.string x.ty.name) := hc4.out 4 _ rfl
  have c5 : w4.cell? ⟨g, off + 5, none⟩ = some (.slice xa xn xc) := hc4.out 5 _ rfl
  have c6 : w4.cell? ⟨g, off + 6, none⟩ = some (.slice xb xo xd) := hc4.out 6 _ rfl
  have H4 := Lib.hid (HX.out B b _ w4 _ _ (HTB.out.kb K4 hbB hB) v4 (Nat.le_trans hB K4.size) (hx5.frame S4) (hx6.frame S4) (by have := HL.out; (try simp only [List.length_append, List.length_cons, List.length_nil]); omega))
  go_wp2_with fail
  refine H4.out.mono ?_
  rintro e w5 ⟨rfl, u5, k5⟩
  clear c0 c1 c2 c3 c4 c5 c6
  have K5 := K4.trans k5
  have b5 := b4.kb k5 (by omega) (by decide)
  have v5 : Bu B b (((l ++ ([] : List UInt8)) ++ ([110, 111, 116, 32] : List UInt8)) ++ ox) w5 := u5
  clear g4 u5
  go_wp2_with fail
  first | go_end0 | refine bodyPost_ret (results_none rfl _ _ _) rfl ?_
  exact ⟨rfl, by simpa using v5, K5⟩
set_option maxRecDepth 100000 in
set_option maxHeartbeats 8000000 in
theorem pd_neg {nm : ByteArray} {N : Int} {ty : Ty} {x : Tm} {ox : List UInt8} (hx : OD x ox) : PD (.mk 21 nm N ty [x]) (([45] : List UInt8) ++ ox) := by
  intro B b l w tk kk hTB hb hB hty htm hlen
  have htm0 : TmL (fun q => q < B) w [x] kk := htm
  obtain ⟨g, off, cap, k0, m0, rfl, hgB, hcl, hx5, hx6⟩ := htm0.oneD
  obtain ⟨xa, xn, xc, rfl⟩ := hx5.slice
  obtain ⟨xb, xo, xd, rfl⟩ := hx6.slice
  have HCL := Lib.hid hcl
  have HGB := Lib.hid hgB
  clear hcl hgB
  obtain ⟨ta, tn, tc, rfl⟩ := hty.slice
  unfold tmVal
  have hty' : TyL (fun q => q < B) w ty.kids (.slice ta tn tc) := hty
  have htm' : TmL (fun q => q < B) w [x] (.slice (some ⟨g, off, none⟩) 1 cap) := htm
  clear hty htm
  simp only [Tm.op, Tm.name, Tm.n, Tm.ty, Tm.kids]
  have K0' : Kept (fun _ => False) w (w.alloc (.cells #[.int .i64 21, .string nm, .int .i64 N, .int .i64 ty.kind, .string ty.name, .slice ta tn tc, .slice (some ⟨g, off, none⟩) 1 cap] 27)) := (Kept.refl _ _).alloc _
  have bX : Blk (w.alloc (.cells #[.int .i64 21, .string nm, .int .i64 N, .int .i64 ty.kind, .string ty.name, .slice ta tn tc, .slice (some ⟨g, off, none⟩) 1 cap] 27)) w.heap.size 27 [.int .i64 21, .string nm, .int .i64 N, .int .i64 ty.kind, .string ty.name, .slice ta tn tc, .slice (some ⟨g, off, none⟩) 1 cap] := Blk.new w 27 _
  have hbl := hb.lt
  have hbB := hb.le
  have HTB := Lib.hid hTB
  have HB0 : Hid (binS 21 = ⟨#[]⟩) := Lib.hid (by decide)
  have HKY : Hid (∀ W, Calls Tryz.prog 97 #[.int .i64 21] W fun e w' => e = .returned (.string ⟨#[]⟩) ∧ Kept (fun _ => False) W w') := Lib.hid (fun W => keyed_any 21 W)
  have HBI : Hid (∀ W, Calls Tryz.prog 94 #[.int .i64 21] W fun e w' => e = .returned (.string ⟨#[]⟩) ∧ Kept (fun _ => False) W w') := Lib.hid (fun W => (binary_any 21 W).mono fun e w' ⟨h1, h2⟩ => ⟨by rw [h1, HB0.out], h2⟩)
  have HX := Lib.hid hx
  have HL : Hid (l.length + 1 + ox.length ≤ 1000000000) := Lib.hid (by (try simp only [List.length_append, List.length_cons, List.length_nil] at hlen); omega)
  clear hlen hTB
  have HNZ := Lib.hid (ba_len nm).symm
  go_enter Tryz.func52, Tryz.ntmps52
  go_wp2_with fail
  refine (HBI.out _).mono ?_
  rintro e w1 ⟨rfl, k1⟩
  have K1 := K0'.trans k1
  have b1 := bX.kept k1 (fun h => h)
  have g0 : w1.cell? ⟨w.heap.size, 0, none⟩ = some (.int .i64 21) := b1.cell 0
  go_wp2_with fail
  go_region_held3 (fun w' => w'.cell? ⟨w.heap.size, 0, none⟩ = some (.int .i64 21)) (go_keep)
    (first | (go_at_call 97; refine (HKY.out w1.drew).mono ?_; rintro e w2 ⟨rfl, k2'⟩; have k2 : Kept (fun _ => False) w1 w2 := ((Kept.refl _ _).drew).trans k2'; have b2 := b1.kept k2 (fun h => h); have g2 : w2.cell? ⟨w.heap.size, 0, none⟩ = some (.int .i64 21) := b2.cell 0; have K2 := K1.trans k2; have u2 := hb.kept K2) | (go_at_call 96; refine (ws_any _ u2 (by have := HL.out; show _ + 0 ≤ _; omega) (Nat.le_trans hB K2.size)).mono ?_; rintro e w3 ⟨rfl, u3, k3⟩; have b3 := b2.kb k3 (by omega) (by decide); have g3 : w3.cell? ⟨w.heap.size, 0, none⟩ = some (.int .i64 21) := b3.cell 0))
  have K3 : KB b B w w3 := (KB.of_kept K2).trans k3
  have v3 : Bu B b (l ++ ([] : List UInt8)) w3 := u3
  clear g0 g2 g3 u2 u3
  have g3 : ∀ i, w3.cell? ⟨w.heap.size, i, none⟩ = [Value.int .i64 21, .string nm, .int .i64 N, .int .i64 ty.kind, .string ty.name, .slice ta tn tc, .slice (some ⟨g, off, none⟩) 1 cap][i]? := b3.cell
  have H3 := Lib.hid (wb_any (45 : UInt8) (ci := 45) rfl v3 (by have := HL.out; (try simp only [List.length_append, List.length_cons, List.length_nil]); omega) (Nat.le_trans hB K3.size))
  go_wp2_with fail
  refine H3.out.mono ?_
  rintro e w4 ⟨rfl, u4, k4⟩
  have K4 := K3.trans k4
  have b4 := b3.kb k4 (by omega) (by decide)
  have v4 : Bu B b ((l ++ ([] : List UInt8)) ++ ([45] : List UInt8)) w4 := u4
  clear g3 u4
  have g4 : ∀ i, w4.cell? ⟨w.heap.size, i, none⟩ = [Value.int .i64 21, .string nm, .int .i64 N, .int .i64 ty.kind, .string ty.name, .slice ta tn tc, .slice (some ⟨g, off, none⟩) 1 cap][i]? := b4.cell
  have S4 : Same (fun q => q < B) w w4 := Same.kb K4 hbB
  have hc4 : Hid (∀ j u, (tmCells x (.slice xa xn xc) (.slice xb xo xd))[j]? = some u → w4.cell? ⟨g, off + j, none⟩ = some u) := Lib.hid (fun j u h => S4.cell HGB.out (HCL.out j u h))
  have c0 : w4.cell? ⟨g, off, none⟩ = some (.int .i64 x.op) := hc4.out 0 _ rfl
  have c1 : w4.cell? ⟨g, off + 1, none⟩ = some (.string x.name) := hc4.out 1 _ rfl
  have c2 : w4.cell? ⟨g, off + 2, none⟩ = some (.int .i64 x.n) := hc4.out 2 _ rfl
  have c3 : w4.cell? ⟨g, off + 3, none⟩ = some (.int .i64 x.ty.kind) := hc4.out 3 _ rfl
  have c4 : w4.cell? ⟨g, off + 4, none⟩ = some (.string x.ty.name) := hc4.out 4 _ rfl
  have c5 : w4.cell? ⟨g, off + 5, none⟩ = some (.slice xa xn xc) := hc4.out 5 _ rfl
  have c6 : w4.cell? ⟨g, off + 6, none⟩ = some (.slice xb xo xd) := hc4.out 6 _ rfl
  have H4 := Lib.hid (HX.out B b _ w4 _ _ (HTB.out.kb K4 hbB hB) v4 (Nat.le_trans hB K4.size) (hx5.frame S4) (hx6.frame S4) (by have := HL.out; (try simp only [List.length_append, List.length_cons, List.length_nil]); omega))
  go_wp2_with fail
  refine H4.out.mono ?_
  rintro e w5 ⟨rfl, u5, k5⟩
  clear c0 c1 c2 c3 c4 c5 c6
  have K5 := K4.trans k5
  have b5 := b4.kb k5 (by omega) (by decide)
  have v5 : Bu B b (((l ++ ([] : List UInt8)) ++ ([45] : List UInt8)) ++ ox) w5 := u5
  clear g4 u5
  go_wp2_with fail
  first | go_end0 | refine bodyPost_ret (results_none rfl _ _ _) rfl ?_
  exact ⟨rfl, by simpa using v5, K5⟩
set_option maxRecDepth 100000 in
set_option maxHeartbeats 8000000 in
theorem pd_all {nm : ByteArray} {N : Int} {ty : Ty} {x y : Tm} {ox oy : List UInt8} (hx : OD x ox) (hy : PD y oy) : PD (.mk 8 nm N ty [x, y]) (([102, 111, 114, 97, 108, 108, 32] : List UInt8) ++ (nm.data.toList ++ ([32, 105, 110, 32] : List UInt8) ++ ox) ++ ([32, 46, 32] : List UInt8) ++ oy) := by
  intro B b l w tk kk hTB hb hB hty htm hlen
  have htm0 : TmL (fun q => q < B) w [x, y] kk := htm
  obtain ⟨g, off, cap, k0, m0, k1, m1, rfl, hgB, hcl, hx5, hx6, hy5, hy6⟩ := htm0.two'
  obtain ⟨xa, xn, xc, rfl⟩ := hx5.slice
  obtain ⟨xb, xo, xd, rfl⟩ := hx6.slice
  obtain ⟨ya, yn, yc, rfl⟩ := hy5.slice
  obtain ⟨yb, yo, yd, rfl⟩ := hy6.slice
  have HCL := Lib.hid hcl
  have HGB := Lib.hid hgB
  clear hcl hgB
  obtain ⟨ta, tn, tc, rfl⟩ := hty.slice
  unfold tmVal
  have hty' : TyL (fun q => q < B) w ty.kids (.slice ta tn tc) := hty
  have htm' : TmL (fun q => q < B) w [x, y] (.slice (some ⟨g, off, none⟩) 2 cap) := htm
  clear hty htm
  simp only [Tm.op, Tm.name, Tm.n, Tm.ty, Tm.kids]
  have K0' : Kept (fun _ => False) w (w.alloc (.cells #[.int .i64 8, .string nm, .int .i64 N, .int .i64 ty.kind, .string ty.name, .slice ta tn tc, .slice (some ⟨g, off, none⟩) 2 cap] 27)) := (Kept.refl _ _).alloc _
  have bX : Blk (w.alloc (.cells #[.int .i64 8, .string nm, .int .i64 N, .int .i64 ty.kind, .string ty.name, .slice ta tn tc, .slice (some ⟨g, off, none⟩) 2 cap] 27)) w.heap.size 27 [.int .i64 8, .string nm, .int .i64 N, .int .i64 ty.kind, .string ty.name, .slice ta tn tc, .slice (some ⟨g, off, none⟩) 2 cap] := Blk.new w 27 _
  have hbl := hb.lt
  have hbB := hb.le
  have HTB := Lib.hid hTB
  have HB0 : Hid (binS 8 = ⟨#[]⟩) := Lib.hid (by decide)
  have HKY : Hid (∀ W, Calls Tryz.prog 97 #[.int .i64 8] W fun e w' => e = .returned (.string ⟨#[102, 111, 114, 97, 108, 108, 32]⟩) ∧ Kept (fun _ => False) W w') := Lib.hid (fun W => keyed_any 8 W)
  have HBI : Hid (∀ W, Calls Tryz.prog 94 #[.int .i64 8] W fun e w' => e = .returned (.string ⟨#[]⟩) ∧ Kept (fun _ => False) W w') := Lib.hid (fun W => (binary_any 8 W).mono fun e w' ⟨h1, h2⟩ => ⟨by rw [h1, HB0.out], h2⟩)
  have HY := Lib.hid hy
  have HH := Lib.hid (hd_any (nm := nm) (N := N) (ty := ty) (y := y) (op := 8) hx)
  have HL : Hid (l.length + 14 + nm.data.toList.length + ox.length + oy.length ≤ 1000000000) := Lib.hid (by (try simp only [List.length_append, List.length_cons, List.length_nil] at hlen); omega)
  clear hlen hTB
  have HNZ := Lib.hid (ba_len nm).symm
  go_enter Tryz.func52, Tryz.ntmps52
  go_wp2_with fail
  refine (HBI.out _).mono ?_
  rintro e w1 ⟨rfl, k1⟩
  have K1 := K0'.trans k1
  have b1 := bX.kept k1 (fun h => h)
  have g0 : w1.cell? ⟨w.heap.size, 0, none⟩ = some (.int .i64 8) := b1.cell 0
  go_wp2_with fail
  go_region_held3 (fun w' => w'.cell? ⟨w.heap.size, 0, none⟩ = some (.int .i64 8)) (go_keep)
    (first | (go_at_call 97; refine (HKY.out w1.drew).mono ?_; rintro e w2 ⟨rfl, k2'⟩; have k2 : Kept (fun _ => False) w1 w2 := ((Kept.refl _ _).drew).trans k2'; have b2 := b1.kept k2 (fun h => h); have g2 : w2.cell? ⟨w.heap.size, 0, none⟩ = some (.int .i64 8) := b2.cell 0; have K2 := K1.trans k2; have u2 := hb.kept K2) | (go_at_call 96; refine (ws_any _ u2 (by have := HL.out; show _ + 7 ≤ _; omega) (Nat.le_trans hB K2.size)).mono ?_; rintro e w3 ⟨rfl, u3, k3⟩; have b3 := b2.kb k3 (by omega) (by decide); have g3 : w3.cell? ⟨w.heap.size, 0, none⟩ = some (.int .i64 8) := b3.cell 0))
  have K3 : KB b B w w3 := (KB.of_kept K2).trans k3
  have v3 : Bu B b (l ++ ([102, 111, 114, 97, 108, 108, 32] : List UInt8)) w3 := u3
  clear g0 g2 g3 u2 u3
  have g3 : ∀ i, w3.cell? ⟨w.heap.size, i, none⟩ = [Value.int .i64 8, .string nm, .int .i64 N, .int .i64 ty.kind, .string ty.name, .slice ta tn tc, .slice (some ⟨g, off, none⟩) 2 cap][i]? := b3.cell
  have H3 := Lib.hid (HH.out B b _ w3 _ _ (HTB.out.kb K3 hbB hB) v3 (Nat.le_trans hB K3.size) (hty'.frame (Same.kb K3 hbB)) (htm'.frame (Same.kb K3 hbB)) (by have := HL.out; (try simp only [List.length_append, List.length_cons, List.length_nil]); omega))
  go_wp2_with fail
  refine H3.out.mono ?_
  rintro e w4 ⟨rfl, u4, k4⟩
  have K4 := K3.trans k4
  have b4 := b3.kb k4 (by omega) (by decide)
  have v4 : Bu B b ((l ++ ([102, 111, 114, 97, 108, 108, 32] : List UInt8)) ++ (nm.data.toList ++ ([32, 105, 110, 32] : List UInt8) ++ ox)) w4 := u4
  clear g3 u4
  have g4 : ∀ i, w4.cell? ⟨w.heap.size, i, none⟩ = [Value.int .i64 8, .string nm, .int .i64 N, .int .i64 ty.kind, .string ty.name, .slice ta tn tc, .slice (some ⟨g, off, none⟩) 2 cap][i]? := b4.cell
  have H4 := Lib.hid (ws_any (⟨#[32, 46, 32]⟩) v4 (by have := HL.out; show _ + 3 ≤ _; (try simp only [List.length_append, List.length_cons, List.length_nil]); omega) (Nat.le_trans hB K4.size))
  go_wp2_with fail
  refine H4.out.mono ?_
  rintro e w5 ⟨rfl, u5, k5⟩
  have K5 := K4.trans k5
  have b5 := b4.kb k5 (by omega) (by decide)
  have v5 : Bu B b (((l ++ ([102, 111, 114, 97, 108, 108, 32] : List UInt8)) ++ (nm.data.toList ++ ([32, 105, 110, 32] : List UInt8) ++ ox)) ++ ([32, 46, 32] : List UInt8)) w5 := u5
  clear g4 u5
  have g5 : ∀ i, w5.cell? ⟨w.heap.size, i, none⟩ = [Value.int .i64 8, .string nm, .int .i64 N, .int .i64 ty.kind, .string ty.name, .slice ta tn tc, .slice (some ⟨g, off, none⟩) 2 cap][i]? := b5.cell
  have S5 : Same (fun q => q < B) w w5 := Same.kb K5 hbB
  have hc5 : Hid (∀ j u, (tmCells x (.slice xa xn xc) (.slice xb xo xd) ++ tmCells y (.slice ya yn yc) (.slice yb yo yd))[j]? = some u → w5.cell? ⟨g, off + j, none⟩ = some u) := Lib.hid (fun j u h => S5.cell HGB.out (HCL.out j u h))
  have c0 : w5.cell? ⟨g, off + 7, none⟩ = some (.int .i64 y.op) := hc5.out 7 _ rfl
  have c1 : w5.cell? ⟨g, off + 8, none⟩ = some (.string y.name) := hc5.out 8 _ rfl
  have c2 : w5.cell? ⟨g, off + 9, none⟩ = some (.int .i64 y.n) := hc5.out 9 _ rfl
  have c3 : w5.cell? ⟨g, off + 10, none⟩ = some (.int .i64 y.ty.kind) := hc5.out 10 _ rfl
  have c4 : w5.cell? ⟨g, off + 11, none⟩ = some (.string y.ty.name) := hc5.out 11 _ rfl
  have c5 : w5.cell? ⟨g, off + 12, none⟩ = some (.slice ya yn yc) := hc5.out 12 _ rfl
  have c6 : w5.cell? ⟨g, off + 13, none⟩ = some (.slice yb yo yd) := hc5.out 13 _ rfl
  have H5 := Lib.hid (HY.out B b _ w5 _ _ (HTB.out.kb K5 hbB hB) v5 (Nat.le_trans hB K5.size) (hy5.frame S5) (hy6.frame S5) (by have := HL.out; (try simp only [List.length_append, List.length_cons, List.length_nil]); omega))
  go_wp2_with fail
  refine H5.out.mono ?_
  rintro e w6 ⟨rfl, u6, k6⟩
  clear c0 c1 c2 c3 c4 c5 c6
  have K6 := K5.trans k6
  have b6 := b5.kb k6 (by omega) (by decide)
  have v6 : Bu B b ((((l ++ ([102, 111, 114, 97, 108, 108, 32] : List UInt8)) ++ (nm.data.toList ++ ([32, 105, 110, 32] : List UInt8) ++ ox)) ++ ([32, 46, 32] : List UInt8)) ++ oy) w6 := u6
  clear g5 u6
  go_wp2_with fail
  first | go_end0 | refine bodyPost_ret (results_none rfl _ _ _) rfl ?_
  exact ⟨rfl, by simpa using v6, K6⟩
set_option maxRecDepth 100000 in
set_option maxHeartbeats 8000000 in
theorem pd_ex {nm : ByteArray} {N : Int} {ty : Ty} {x y : Tm} {ox oy : List UInt8} (hx : OD x ox) (hy : PD y oy) : PD (.mk 9 nm N ty [x, y]) (([101, 120, 105, 115, 116, 115, 32] : List UInt8) ++ (nm.data.toList ++ ([32, 105, 110, 32] : List UInt8) ++ ox) ++ ([32, 46, 32] : List UInt8) ++ oy) := by
  intro B b l w tk kk hTB hb hB hty htm hlen
  have htm0 : TmL (fun q => q < B) w [x, y] kk := htm
  obtain ⟨g, off, cap, k0, m0, k1, m1, rfl, hgB, hcl, hx5, hx6, hy5, hy6⟩ := htm0.two'
  obtain ⟨xa, xn, xc, rfl⟩ := hx5.slice
  obtain ⟨xb, xo, xd, rfl⟩ := hx6.slice
  obtain ⟨ya, yn, yc, rfl⟩ := hy5.slice
  obtain ⟨yb, yo, yd, rfl⟩ := hy6.slice
  have HCL := Lib.hid hcl
  have HGB := Lib.hid hgB
  clear hcl hgB
  obtain ⟨ta, tn, tc, rfl⟩ := hty.slice
  unfold tmVal
  have hty' : TyL (fun q => q < B) w ty.kids (.slice ta tn tc) := hty
  have htm' : TmL (fun q => q < B) w [x, y] (.slice (some ⟨g, off, none⟩) 2 cap) := htm
  clear hty htm
  simp only [Tm.op, Tm.name, Tm.n, Tm.ty, Tm.kids]
  have K0' : Kept (fun _ => False) w (w.alloc (.cells #[.int .i64 9, .string nm, .int .i64 N, .int .i64 ty.kind, .string ty.name, .slice ta tn tc, .slice (some ⟨g, off, none⟩) 2 cap] 27)) := (Kept.refl _ _).alloc _
  have bX : Blk (w.alloc (.cells #[.int .i64 9, .string nm, .int .i64 N, .int .i64 ty.kind, .string ty.name, .slice ta tn tc, .slice (some ⟨g, off, none⟩) 2 cap] 27)) w.heap.size 27 [.int .i64 9, .string nm, .int .i64 N, .int .i64 ty.kind, .string ty.name, .slice ta tn tc, .slice (some ⟨g, off, none⟩) 2 cap] := Blk.new w 27 _
  have hbl := hb.lt
  have hbB := hb.le
  have HTB := Lib.hid hTB
  have HB0 : Hid (binS 9 = ⟨#[]⟩) := Lib.hid (by decide)
  have HKY : Hid (∀ W, Calls Tryz.prog 97 #[.int .i64 9] W fun e w' => e = .returned (.string ⟨#[101, 120, 105, 115, 116, 115, 32]⟩) ∧ Kept (fun _ => False) W w') := Lib.hid (fun W => keyed_any 9 W)
  have HBI : Hid (∀ W, Calls Tryz.prog 94 #[.int .i64 9] W fun e w' => e = .returned (.string ⟨#[]⟩) ∧ Kept (fun _ => False) W w') := Lib.hid (fun W => (binary_any 9 W).mono fun e w' ⟨h1, h2⟩ => ⟨by rw [h1, HB0.out], h2⟩)
  have HY := Lib.hid hy
  have HH := Lib.hid (hd_any (nm := nm) (N := N) (ty := ty) (y := y) (op := 9) hx)
  have HL : Hid (l.length + 14 + nm.data.toList.length + ox.length + oy.length ≤ 1000000000) := Lib.hid (by (try simp only [List.length_append, List.length_cons, List.length_nil] at hlen); omega)
  clear hlen hTB
  have HNZ := Lib.hid (ba_len nm).symm
  go_enter Tryz.func52, Tryz.ntmps52
  go_wp2_with fail
  refine (HBI.out _).mono ?_
  rintro e w1 ⟨rfl, k1⟩
  have K1 := K0'.trans k1
  have b1 := bX.kept k1 (fun h => h)
  have g0 : w1.cell? ⟨w.heap.size, 0, none⟩ = some (.int .i64 9) := b1.cell 0
  go_wp2_with fail
  go_region_held3 (fun w' => w'.cell? ⟨w.heap.size, 0, none⟩ = some (.int .i64 9)) (go_keep)
    (first | (go_at_call 97; refine (HKY.out w1.drew).mono ?_; rintro e w2 ⟨rfl, k2'⟩; have k2 : Kept (fun _ => False) w1 w2 := ((Kept.refl _ _).drew).trans k2'; have b2 := b1.kept k2 (fun h => h); have g2 : w2.cell? ⟨w.heap.size, 0, none⟩ = some (.int .i64 9) := b2.cell 0; have K2 := K1.trans k2; have u2 := hb.kept K2) | (go_at_call 96; refine (ws_any _ u2 (by have := HL.out; show _ + 7 ≤ _; omega) (Nat.le_trans hB K2.size)).mono ?_; rintro e w3 ⟨rfl, u3, k3⟩; have b3 := b2.kb k3 (by omega) (by decide); have g3 : w3.cell? ⟨w.heap.size, 0, none⟩ = some (.int .i64 9) := b3.cell 0))
  have K3 : KB b B w w3 := (KB.of_kept K2).trans k3
  have v3 : Bu B b (l ++ ([101, 120, 105, 115, 116, 115, 32] : List UInt8)) w3 := u3
  clear g0 g2 g3 u2 u3
  have g3 : ∀ i, w3.cell? ⟨w.heap.size, i, none⟩ = [Value.int .i64 9, .string nm, .int .i64 N, .int .i64 ty.kind, .string ty.name, .slice ta tn tc, .slice (some ⟨g, off, none⟩) 2 cap][i]? := b3.cell
  have H3 := Lib.hid (HH.out B b _ w3 _ _ (HTB.out.kb K3 hbB hB) v3 (Nat.le_trans hB K3.size) (hty'.frame (Same.kb K3 hbB)) (htm'.frame (Same.kb K3 hbB)) (by have := HL.out; (try simp only [List.length_append, List.length_cons, List.length_nil]); omega))
  go_wp2_with fail
  refine H3.out.mono ?_
  rintro e w4 ⟨rfl, u4, k4⟩
  have K4 := K3.trans k4
  have b4 := b3.kb k4 (by omega) (by decide)
  have v4 : Bu B b ((l ++ ([101, 120, 105, 115, 116, 115, 32] : List UInt8)) ++ (nm.data.toList ++ ([32, 105, 110, 32] : List UInt8) ++ ox)) w4 := u4
  clear g3 u4
  have g4 : ∀ i, w4.cell? ⟨w.heap.size, i, none⟩ = [Value.int .i64 9, .string nm, .int .i64 N, .int .i64 ty.kind, .string ty.name, .slice ta tn tc, .slice (some ⟨g, off, none⟩) 2 cap][i]? := b4.cell
  have H4 := Lib.hid (ws_any (⟨#[32, 46, 32]⟩) v4 (by have := HL.out; show _ + 3 ≤ _; (try simp only [List.length_append, List.length_cons, List.length_nil]); omega) (Nat.le_trans hB K4.size))
  go_wp2_with fail
  refine H4.out.mono ?_
  rintro e w5 ⟨rfl, u5, k5⟩
  have K5 := K4.trans k5
  have b5 := b4.kb k5 (by omega) (by decide)
  have v5 : Bu B b (((l ++ ([101, 120, 105, 115, 116, 115, 32] : List UInt8)) ++ (nm.data.toList ++ ([32, 105, 110, 32] : List UInt8) ++ ox)) ++ ([32, 46, 32] : List UInt8)) w5 := u5
  clear g4 u5
  have g5 : ∀ i, w5.cell? ⟨w.heap.size, i, none⟩ = [Value.int .i64 9, .string nm, .int .i64 N, .int .i64 ty.kind, .string ty.name, .slice ta tn tc, .slice (some ⟨g, off, none⟩) 2 cap][i]? := b5.cell
  have S5 : Same (fun q => q < B) w w5 := Same.kb K5 hbB
  have hc5 : Hid (∀ j u, (tmCells x (.slice xa xn xc) (.slice xb xo xd) ++ tmCells y (.slice ya yn yc) (.slice yb yo yd))[j]? = some u → w5.cell? ⟨g, off + j, none⟩ = some u) := Lib.hid (fun j u h => S5.cell HGB.out (HCL.out j u h))
  have c0 : w5.cell? ⟨g, off + 7, none⟩ = some (.int .i64 y.op) := hc5.out 7 _ rfl
  have c1 : w5.cell? ⟨g, off + 8, none⟩ = some (.string y.name) := hc5.out 8 _ rfl
  have c2 : w5.cell? ⟨g, off + 9, none⟩ = some (.int .i64 y.n) := hc5.out 9 _ rfl
  have c3 : w5.cell? ⟨g, off + 10, none⟩ = some (.int .i64 y.ty.kind) := hc5.out 10 _ rfl
  have c4 : w5.cell? ⟨g, off + 11, none⟩ = some (.string y.ty.name) := hc5.out 11 _ rfl
  have c5 : w5.cell? ⟨g, off + 12, none⟩ = some (.slice ya yn yc) := hc5.out 12 _ rfl
  have c6 : w5.cell? ⟨g, off + 13, none⟩ = some (.slice yb yo yd) := hc5.out 13 _ rfl
  have H5 := Lib.hid (HY.out B b _ w5 _ _ (HTB.out.kb K5 hbB hB) v5 (Nat.le_trans hB K5.size) (hy5.frame S5) (hy6.frame S5) (by have := HL.out; (try simp only [List.length_append, List.length_cons, List.length_nil]); omega))
  go_wp2_with fail
  refine H5.out.mono ?_
  rintro e w6 ⟨rfl, u6, k6⟩
  clear c0 c1 c2 c3 c4 c5 c6
  have K6 := K5.trans k6
  have b6 := b5.kb k6 (by omega) (by decide)
  have v6 : Bu B b ((((l ++ ([101, 120, 105, 115, 116, 115, 32] : List UInt8)) ++ (nm.data.toList ++ ([32, 105, 110, 32] : List UInt8) ++ ox)) ++ ([32, 46, 32] : List UInt8)) ++ oy) w6 := u6
  clear g5 u6
  go_wp2_with fail
  first | go_end0 | refine bodyPost_ret (results_none rfl _ _ _) rfl ?_
  exact ⟨rfl, by simpa using v6, K6⟩
set_option maxRecDepth 100000 in
set_option maxHeartbeats 8000000 in
theorem pd_fun {nm : ByteArray} {N : Int} {ty : Ty} {x y : Tm} {ox oy : List UInt8} (hx : OD x ox) (hy : PD y oy) : PD (.mk 56 nm N ty [x, y]) (([102, 117, 110, 32] : List UInt8) ++ (nm.data.toList ++ ([32, 105, 110, 32] : List UInt8) ++ ox) ++ ([32, 46, 32] : List UInt8) ++ oy) := by
  intro B b l w tk kk hTB hb hB hty htm hlen
  have htm0 : TmL (fun q => q < B) w [x, y] kk := htm
  obtain ⟨g, off, cap, k0, m0, k1, m1, rfl, hgB, hcl, hx5, hx6, hy5, hy6⟩ := htm0.two'
  obtain ⟨xa, xn, xc, rfl⟩ := hx5.slice
  obtain ⟨xb, xo, xd, rfl⟩ := hx6.slice
  obtain ⟨ya, yn, yc, rfl⟩ := hy5.slice
  obtain ⟨yb, yo, yd, rfl⟩ := hy6.slice
  have HCL := Lib.hid hcl
  have HGB := Lib.hid hgB
  clear hcl hgB
  obtain ⟨ta, tn, tc, rfl⟩ := hty.slice
  unfold tmVal
  have hty' : TyL (fun q => q < B) w ty.kids (.slice ta tn tc) := hty
  have htm' : TmL (fun q => q < B) w [x, y] (.slice (some ⟨g, off, none⟩) 2 cap) := htm
  clear hty htm
  simp only [Tm.op, Tm.name, Tm.n, Tm.ty, Tm.kids]
  have K0' : Kept (fun _ => False) w (w.alloc (.cells #[.int .i64 56, .string nm, .int .i64 N, .int .i64 ty.kind, .string ty.name, .slice ta tn tc, .slice (some ⟨g, off, none⟩) 2 cap] 27)) := (Kept.refl _ _).alloc _
  have bX : Blk (w.alloc (.cells #[.int .i64 56, .string nm, .int .i64 N, .int .i64 ty.kind, .string ty.name, .slice ta tn tc, .slice (some ⟨g, off, none⟩) 2 cap] 27)) w.heap.size 27 [.int .i64 56, .string nm, .int .i64 N, .int .i64 ty.kind, .string ty.name, .slice ta tn tc, .slice (some ⟨g, off, none⟩) 2 cap] := Blk.new w 27 _
  have hbl := hb.lt
  have hbB := hb.le
  have HTB := Lib.hid hTB
  have HB0 : Hid (binS 56 = ⟨#[]⟩) := Lib.hid (by decide)
  have HKY : Hid (∀ W, Calls Tryz.prog 97 #[.int .i64 56] W fun e w' => e = .returned (.string ⟨#[102, 117, 110, 32]⟩) ∧ Kept (fun _ => False) W w') := Lib.hid (fun W => keyed_any 56 W)
  have HBI : Hid (∀ W, Calls Tryz.prog 94 #[.int .i64 56] W fun e w' => e = .returned (.string ⟨#[]⟩) ∧ Kept (fun _ => False) W w') := Lib.hid (fun W => (binary_any 56 W).mono fun e w' ⟨h1, h2⟩ => ⟨by rw [h1, HB0.out], h2⟩)
  have HY := Lib.hid hy
  have HH := Lib.hid (hd_any (nm := nm) (N := N) (ty := ty) (y := y) (op := 56) hx)
  have HL : Hid (l.length + 11 + nm.data.toList.length + ox.length + oy.length ≤ 1000000000) := Lib.hid (by (try simp only [List.length_append, List.length_cons, List.length_nil] at hlen); omega)
  clear hlen hTB
  have HNZ := Lib.hid (ba_len nm).symm
  go_enter Tryz.func52, Tryz.ntmps52
  go_wp2_with fail
  refine (HBI.out _).mono ?_
  rintro e w1 ⟨rfl, k1⟩
  have K1 := K0'.trans k1
  have b1 := bX.kept k1 (fun h => h)
  have g0 : w1.cell? ⟨w.heap.size, 0, none⟩ = some (.int .i64 56) := b1.cell 0
  go_wp2_with fail
  go_region_held3 (fun w' => w'.cell? ⟨w.heap.size, 0, none⟩ = some (.int .i64 56)) (go_keep)
    (first | (go_at_call 97; refine (HKY.out w1.drew).mono ?_; rintro e w2 ⟨rfl, k2'⟩; have k2 : Kept (fun _ => False) w1 w2 := ((Kept.refl _ _).drew).trans k2'; have b2 := b1.kept k2 (fun h => h); have g2 : w2.cell? ⟨w.heap.size, 0, none⟩ = some (.int .i64 56) := b2.cell 0; have K2 := K1.trans k2; have u2 := hb.kept K2) | (go_at_call 96; refine (ws_any _ u2 (by have := HL.out; show _ + 4 ≤ _; omega) (Nat.le_trans hB K2.size)).mono ?_; rintro e w3 ⟨rfl, u3, k3⟩; have b3 := b2.kb k3 (by omega) (by decide); have g3 : w3.cell? ⟨w.heap.size, 0, none⟩ = some (.int .i64 56) := b3.cell 0))
  have K3 : KB b B w w3 := (KB.of_kept K2).trans k3
  have v3 : Bu B b (l ++ ([102, 117, 110, 32] : List UInt8)) w3 := u3
  clear g0 g2 g3 u2 u3
  have g3 : ∀ i, w3.cell? ⟨w.heap.size, i, none⟩ = [Value.int .i64 56, .string nm, .int .i64 N, .int .i64 ty.kind, .string ty.name, .slice ta tn tc, .slice (some ⟨g, off, none⟩) 2 cap][i]? := b3.cell
  have H3 := Lib.hid (HH.out B b _ w3 _ _ (HTB.out.kb K3 hbB hB) v3 (Nat.le_trans hB K3.size) (hty'.frame (Same.kb K3 hbB)) (htm'.frame (Same.kb K3 hbB)) (by have := HL.out; (try simp only [List.length_append, List.length_cons, List.length_nil]); omega))
  go_wp2_with fail
  refine H3.out.mono ?_
  rintro e w4 ⟨rfl, u4, k4⟩
  have K4 := K3.trans k4
  have b4 := b3.kb k4 (by omega) (by decide)
  have v4 : Bu B b ((l ++ ([102, 117, 110, 32] : List UInt8)) ++ (nm.data.toList ++ ([32, 105, 110, 32] : List UInt8) ++ ox)) w4 := u4
  clear g3 u4
  have g4 : ∀ i, w4.cell? ⟨w.heap.size, i, none⟩ = [Value.int .i64 56, .string nm, .int .i64 N, .int .i64 ty.kind, .string ty.name, .slice ta tn tc, .slice (some ⟨g, off, none⟩) 2 cap][i]? := b4.cell
  have H4 := Lib.hid (ws_any (⟨#[32, 46, 32]⟩) v4 (by have := HL.out; show _ + 3 ≤ _; (try simp only [List.length_append, List.length_cons, List.length_nil]); omega) (Nat.le_trans hB K4.size))
  go_wp2_with fail
  refine H4.out.mono ?_
  rintro e w5 ⟨rfl, u5, k5⟩
  have K5 := K4.trans k5
  have b5 := b4.kb k5 (by omega) (by decide)
  have v5 : Bu B b (((l ++ ([102, 117, 110, 32] : List UInt8)) ++ (nm.data.toList ++ ([32, 105, 110, 32] : List UInt8) ++ ox)) ++ ([32, 46, 32] : List UInt8)) w5 := u5
  clear g4 u5
  have g5 : ∀ i, w5.cell? ⟨w.heap.size, i, none⟩ = [Value.int .i64 56, .string nm, .int .i64 N, .int .i64 ty.kind, .string ty.name, .slice ta tn tc, .slice (some ⟨g, off, none⟩) 2 cap][i]? := b5.cell
  have S5 : Same (fun q => q < B) w w5 := Same.kb K5 hbB
  have hc5 : Hid (∀ j u, (tmCells x (.slice xa xn xc) (.slice xb xo xd) ++ tmCells y (.slice ya yn yc) (.slice yb yo yd))[j]? = some u → w5.cell? ⟨g, off + j, none⟩ = some u) := Lib.hid (fun j u h => S5.cell HGB.out (HCL.out j u h))
  have c0 : w5.cell? ⟨g, off + 7, none⟩ = some (.int .i64 y.op) := hc5.out 7 _ rfl
  have c1 : w5.cell? ⟨g, off + 8, none⟩ = some (.string y.name) := hc5.out 8 _ rfl
  have c2 : w5.cell? ⟨g, off + 9, none⟩ = some (.int .i64 y.n) := hc5.out 9 _ rfl
  have c3 : w5.cell? ⟨g, off + 10, none⟩ = some (.int .i64 y.ty.kind) := hc5.out 10 _ rfl
  have c4 : w5.cell? ⟨g, off + 11, none⟩ = some (.string y.ty.name) := hc5.out 11 _ rfl
  have c5 : w5.cell? ⟨g, off + 12, none⟩ = some (.slice ya yn yc) := hc5.out 12 _ rfl
  have c6 : w5.cell? ⟨g, off + 13, none⟩ = some (.slice yb yo yd) := hc5.out 13 _ rfl
  have H5 := Lib.hid (HY.out B b _ w5 _ _ (HTB.out.kb K5 hbB hB) v5 (Nat.le_trans hB K5.size) (hy5.frame S5) (hy6.frame S5) (by have := HL.out; (try simp only [List.length_append, List.length_cons, List.length_nil]); omega))
  go_wp2_with fail
  refine H5.out.mono ?_
  rintro e w6 ⟨rfl, u6, k6⟩
  clear c0 c1 c2 c3 c4 c5 c6
  have K6 := K5.trans k6
  have b6 := b5.kb k6 (by omega) (by decide)
  have v6 : Bu B b ((((l ++ ([102, 117, 110, 32] : List UInt8)) ++ (nm.data.toList ++ ([32, 105, 110, 32] : List UInt8) ++ ox)) ++ ([32, 46, 32] : List UInt8)) ++ oy) w6 := u6
  clear g5 u6
  go_wp2_with fail
  first | go_end0 | refine bodyPost_ret (results_none rfl _ _ _) rfl ?_
  exact ⟨rfl, by simpa using v6, K6⟩
set_option maxRecDepth 100000 in
set_option maxHeartbeats 8000000 in
theorem pd_compr {nm : ByteArray} {N : Int} {ty : Ty} {x y : Tm} {ox oy : List UInt8} (hx : OD x ox) (hy : PD y oy) : PD (.mk 55 nm N ty [x, y]) (([123] : List UInt8) ++ (nm.data.toList ++ ([32, 105, 110, 32] : List UInt8) ++ ox) ++ ([32, 124, 32] : List UInt8) ++ oy ++ ([125] : List UInt8)) := by
  intro B b l w tk kk hTB hb hB hty htm hlen
  have htm0 : TmL (fun q => q < B) w [x, y] kk := htm
  obtain ⟨g, off, cap, k0, m0, k1, m1, rfl, hgB, hcl, hx5, hx6, hy5, hy6⟩ := htm0.two'
  obtain ⟨xa, xn, xc, rfl⟩ := hx5.slice
  obtain ⟨xb, xo, xd, rfl⟩ := hx6.slice
  obtain ⟨ya, yn, yc, rfl⟩ := hy5.slice
  obtain ⟨yb, yo, yd, rfl⟩ := hy6.slice
  have HCL := Lib.hid hcl
  have HGB := Lib.hid hgB
  clear hcl hgB
  obtain ⟨ta, tn, tc, rfl⟩ := hty.slice
  unfold tmVal
  have hty' : TyL (fun q => q < B) w ty.kids (.slice ta tn tc) := hty
  have htm' : TmL (fun q => q < B) w [x, y] (.slice (some ⟨g, off, none⟩) 2 cap) := htm
  clear hty htm
  simp only [Tm.op, Tm.name, Tm.n, Tm.ty, Tm.kids]
  have K0' : Kept (fun _ => False) w (w.alloc (.cells #[.int .i64 55, .string nm, .int .i64 N, .int .i64 ty.kind, .string ty.name, .slice ta tn tc, .slice (some ⟨g, off, none⟩) 2 cap] 27)) := (Kept.refl _ _).alloc _
  have bX : Blk (w.alloc (.cells #[.int .i64 55, .string nm, .int .i64 N, .int .i64 ty.kind, .string ty.name, .slice ta tn tc, .slice (some ⟨g, off, none⟩) 2 cap] 27)) w.heap.size 27 [.int .i64 55, .string nm, .int .i64 N, .int .i64 ty.kind, .string ty.name, .slice ta tn tc, .slice (some ⟨g, off, none⟩) 2 cap] := Blk.new w 27 _
  have hbl := hb.lt
  have hbB := hb.le
  have HTB := Lib.hid hTB
  have HB0 : Hid (binS 55 = ⟨#[]⟩) := Lib.hid (by decide)
  have HKY : Hid (∀ W, Calls Tryz.prog 97 #[.int .i64 55] W fun e w' => e = .returned (.string ⟨#[]⟩) ∧ Kept (fun _ => False) W w') := Lib.hid (fun W => keyed_any 55 W)
  have HBI : Hid (∀ W, Calls Tryz.prog 94 #[.int .i64 55] W fun e w' => e = .returned (.string ⟨#[]⟩) ∧ Kept (fun _ => False) W w') := Lib.hid (fun W => (binary_any 55 W).mono fun e w' ⟨h1, h2⟩ => ⟨by rw [h1, HB0.out], h2⟩)
  have HY := Lib.hid hy
  have HH := Lib.hid (hd_any (nm := nm) (N := N) (ty := ty) (y := y) (op := 55) hx)
  have HL : Hid (l.length + 9 + nm.data.toList.length + ox.length + oy.length ≤ 1000000000) := Lib.hid (by (try simp only [List.length_append, List.length_cons, List.length_nil] at hlen); omega)
  clear hlen hTB
  have HNZ := Lib.hid (ba_len nm).symm
  go_enter Tryz.func52, Tryz.ntmps52
  go_wp2_with fail
  refine (HBI.out _).mono ?_
  rintro e w1 ⟨rfl, k1⟩
  have K1 := K0'.trans k1
  have b1 := bX.kept k1 (fun h => h)
  have g0 : w1.cell? ⟨w.heap.size, 0, none⟩ = some (.int .i64 55) := b1.cell 0
  go_wp2_with fail
  go_region_held3 (fun w' => w'.cell? ⟨w.heap.size, 0, none⟩ = some (.int .i64 55)) (go_keep)
    (first | (go_at_call 97; refine (HKY.out w1.drew).mono ?_; rintro e w2 ⟨rfl, k2'⟩; have k2 : Kept (fun _ => False) w1 w2 := ((Kept.refl _ _).drew).trans k2'; have b2 := b1.kept k2 (fun h => h); have g2 : w2.cell? ⟨w.heap.size, 0, none⟩ = some (.int .i64 55) := b2.cell 0; have K2 := K1.trans k2; have u2 := hb.kept K2) | (go_at_call 96; refine (ws_any _ u2 (by have := HL.out; show _ + 0 ≤ _; omega) (Nat.le_trans hB K2.size)).mono ?_; rintro e w3 ⟨rfl, u3, k3⟩; have b3 := b2.kb k3 (by omega) (by decide); have g3 : w3.cell? ⟨w.heap.size, 0, none⟩ = some (.int .i64 55) := b3.cell 0))
  have K3 : KB b B w w3 := (KB.of_kept K2).trans k3
  have v3 : Bu B b (l ++ ([] : List UInt8)) w3 := u3
  clear g0 g2 g3 u2 u3
  have g3 : ∀ i, w3.cell? ⟨w.heap.size, i, none⟩ = [Value.int .i64 55, .string nm, .int .i64 N, .int .i64 ty.kind, .string ty.name, .slice ta tn tc, .slice (some ⟨g, off, none⟩) 2 cap][i]? := b3.cell
  have H3 := Lib.hid (wb_any (123 : UInt8) (ci := 123) rfl v3 (by have := HL.out; (try simp only [List.length_append, List.length_cons, List.length_nil]); omega) (Nat.le_trans hB K3.size))
  go_wp2_with fail
  refine H3.out.mono ?_
  rintro e w4 ⟨rfl, u4, k4⟩
  have K4 := K3.trans k4
  have b4 := b3.kb k4 (by omega) (by decide)
  have v4 : Bu B b ((l ++ ([] : List UInt8)) ++ ([123] : List UInt8)) w4 := u4
  clear g3 u4
  have g4 : ∀ i, w4.cell? ⟨w.heap.size, i, none⟩ = [Value.int .i64 55, .string nm, .int .i64 N, .int .i64 ty.kind, .string ty.name, .slice ta tn tc, .slice (some ⟨g, off, none⟩) 2 cap][i]? := b4.cell
  have H4 := Lib.hid (HH.out B b _ w4 _ _ (HTB.out.kb K4 hbB hB) v4 (Nat.le_trans hB K4.size) (hty'.frame (Same.kb K4 hbB)) (htm'.frame (Same.kb K4 hbB)) (by have := HL.out; (try simp only [List.length_append, List.length_cons, List.length_nil]); omega))
  go_wp2_with fail
  refine H4.out.mono ?_
  rintro e w5 ⟨rfl, u5, k5⟩
  have K5 := K4.trans k5
  have b5 := b4.kb k5 (by omega) (by decide)
  have v5 : Bu B b (((l ++ ([] : List UInt8)) ++ ([123] : List UInt8)) ++ (nm.data.toList ++ ([32, 105, 110, 32] : List UInt8) ++ ox)) w5 := u5
  clear g4 u5
  have g5 : ∀ i, w5.cell? ⟨w.heap.size, i, none⟩ = [Value.int .i64 55, .string nm, .int .i64 N, .int .i64 ty.kind, .string ty.name, .slice ta tn tc, .slice (some ⟨g, off, none⟩) 2 cap][i]? := b5.cell
  have H5 := Lib.hid (ws_any (⟨#[32, 124, 32]⟩) v5 (by have := HL.out; show _ + 3 ≤ _; (try simp only [List.length_append, List.length_cons, List.length_nil]); omega) (Nat.le_trans hB K5.size))
  go_wp2_with fail
  refine H5.out.mono ?_
  rintro e w6 ⟨rfl, u6, k6⟩
  have K6 := K5.trans k6
  have b6 := b5.kb k6 (by omega) (by decide)
  have v6 : Bu B b ((((l ++ ([] : List UInt8)) ++ ([123] : List UInt8)) ++ (nm.data.toList ++ ([32, 105, 110, 32] : List UInt8) ++ ox)) ++ ([32, 124, 32] : List UInt8)) w6 := u6
  clear g5 u6
  have g6 : ∀ i, w6.cell? ⟨w.heap.size, i, none⟩ = [Value.int .i64 55, .string nm, .int .i64 N, .int .i64 ty.kind, .string ty.name, .slice ta tn tc, .slice (some ⟨g, off, none⟩) 2 cap][i]? := b6.cell
  have S6 : Same (fun q => q < B) w w6 := Same.kb K6 hbB
  have hc6 : Hid (∀ j u, (tmCells x (.slice xa xn xc) (.slice xb xo xd) ++ tmCells y (.slice ya yn yc) (.slice yb yo yd))[j]? = some u → w6.cell? ⟨g, off + j, none⟩ = some u) := Lib.hid (fun j u h => S6.cell HGB.out (HCL.out j u h))
  have c0 : w6.cell? ⟨g, off + 7, none⟩ = some (.int .i64 y.op) := hc6.out 7 _ rfl
  have c1 : w6.cell? ⟨g, off + 8, none⟩ = some (.string y.name) := hc6.out 8 _ rfl
  have c2 : w6.cell? ⟨g, off + 9, none⟩ = some (.int .i64 y.n) := hc6.out 9 _ rfl
  have c3 : w6.cell? ⟨g, off + 10, none⟩ = some (.int .i64 y.ty.kind) := hc6.out 10 _ rfl
  have c4 : w6.cell? ⟨g, off + 11, none⟩ = some (.string y.ty.name) := hc6.out 11 _ rfl
  have c5 : w6.cell? ⟨g, off + 12, none⟩ = some (.slice ya yn yc) := hc6.out 12 _ rfl
  have c6 : w6.cell? ⟨g, off + 13, none⟩ = some (.slice yb yo yd) := hc6.out 13 _ rfl
  have H6 := Lib.hid (HY.out B b _ w6 _ _ (HTB.out.kb K6 hbB hB) v6 (Nat.le_trans hB K6.size) (hy5.frame S6) (hy6.frame S6) (by have := HL.out; (try simp only [List.length_append, List.length_cons, List.length_nil]); omega))
  go_wp2_with fail
  refine H6.out.mono ?_
  rintro e w7 ⟨rfl, u7, k7⟩
  clear c0 c1 c2 c3 c4 c5 c6
  have K7 := K6.trans k7
  have b7 := b6.kb k7 (by omega) (by decide)
  have v7 : Bu B b (((((l ++ ([] : List UInt8)) ++ ([123] : List UInt8)) ++ (nm.data.toList ++ ([32, 105, 110, 32] : List UInt8) ++ ox)) ++ ([32, 124, 32] : List UInt8)) ++ oy) w7 := u7
  clear g6 u7
  have g7 : ∀ i, w7.cell? ⟨w.heap.size, i, none⟩ = [Value.int .i64 55, .string nm, .int .i64 N, .int .i64 ty.kind, .string ty.name, .slice ta tn tc, .slice (some ⟨g, off, none⟩) 2 cap][i]? := b7.cell
  have H7 := Lib.hid (wb_any (125 : UInt8) (ci := 125) rfl v7 (by have := HL.out; (try simp only [List.length_append, List.length_cons, List.length_nil]); omega) (Nat.le_trans hB K7.size))
  go_wp2_with fail
  refine H7.out.mono ?_
  rintro e w8 ⟨rfl, u8, k8⟩
  have K8 := K7.trans k8
  have b8 := b7.kb k8 (by omega) (by decide)
  have v8 : Bu B b ((((((l ++ ([] : List UInt8)) ++ ([123] : List UInt8)) ++ (nm.data.toList ++ ([32, 105, 110, 32] : List UInt8) ++ ox)) ++ ([32, 124, 32] : List UInt8)) ++ oy) ++ ([125] : List UInt8)) w8 := u8
  clear g7 u8
  go_wp2_with fail
  first | go_end0 | refine bodyPost_ret (results_none rfl _ _ _) rfl ?_
  exact ⟨rfl, by simpa using v8, K8⟩
set_option maxRecDepth 100000 in
set_option maxHeartbeats 8000000 in
theorem pd_apply {nm : ByteArray} {N : Int} {ty : Ty} {x y : Tm} {ox oy : List UInt8} (hx : OD x ox) (hy : PD y oy) : PD (.mk 54 nm N ty [x, y]) (ox ++ ([40] : List UInt8) ++ oy ++ ([41] : List UInt8)) := by
  intro B b l w tk kk hTB hb hB hty htm hlen
  have htm0 : TmL (fun q => q < B) w [x, y] kk := htm
  obtain ⟨g, off, cap, k0, m0, k1, m1, rfl, hgB, hcl, hx5, hx6, hy5, hy6⟩ := htm0.two'
  obtain ⟨xa, xn, xc, rfl⟩ := hx5.slice
  obtain ⟨xb, xo, xd, rfl⟩ := hx6.slice
  obtain ⟨ya, yn, yc, rfl⟩ := hy5.slice
  obtain ⟨yb, yo, yd, rfl⟩ := hy6.slice
  have HCL := Lib.hid hcl
  have HGB := Lib.hid hgB
  clear hcl hgB
  obtain ⟨ta, tn, tc, rfl⟩ := hty.slice
  unfold tmVal
  have hty' : TyL (fun q => q < B) w ty.kids (.slice ta tn tc) := hty
  have htm' : TmL (fun q => q < B) w [x, y] (.slice (some ⟨g, off, none⟩) 2 cap) := htm
  clear hty htm
  simp only [Tm.op, Tm.name, Tm.n, Tm.ty, Tm.kids]
  have K0' : Kept (fun _ => False) w (w.alloc (.cells #[.int .i64 54, .string nm, .int .i64 N, .int .i64 ty.kind, .string ty.name, .slice ta tn tc, .slice (some ⟨g, off, none⟩) 2 cap] 27)) := (Kept.refl _ _).alloc _
  have bX : Blk (w.alloc (.cells #[.int .i64 54, .string nm, .int .i64 N, .int .i64 ty.kind, .string ty.name, .slice ta tn tc, .slice (some ⟨g, off, none⟩) 2 cap] 27)) w.heap.size 27 [.int .i64 54, .string nm, .int .i64 N, .int .i64 ty.kind, .string ty.name, .slice ta tn tc, .slice (some ⟨g, off, none⟩) 2 cap] := Blk.new w 27 _
  have hbl := hb.lt
  have hbB := hb.le
  have HTB := Lib.hid hTB
  have HB0 : Hid (binS 54 = ⟨#[]⟩) := Lib.hid (by decide)
  have HKY : Hid (∀ W, Calls Tryz.prog 97 #[.int .i64 54] W fun e w' => e = .returned (.string ⟨#[]⟩) ∧ Kept (fun _ => False) W w') := Lib.hid (fun W => keyed_any 54 W)
  have HBI : Hid (∀ W, Calls Tryz.prog 94 #[.int .i64 54] W fun e w' => e = .returned (.string ⟨#[]⟩) ∧ Kept (fun _ => False) W w') := Lib.hid (fun W => (binary_any 54 W).mono fun e w' ⟨h1, h2⟩ => ⟨by rw [h1, HB0.out], h2⟩)
  have HH := Lib.hid (bd_any (nm := nm) (N := N) (ty := ty) (op := 54) (p := 40) (q := 41) hx hy)
  have HL : Hid (l.length + 2 + ox.length + oy.length ≤ 1000000000) := Lib.hid (by (try simp only [List.length_append, List.length_cons, List.length_nil] at hlen); omega)
  clear hlen hTB
  have HNZ := Lib.hid (ba_len nm).symm
  go_enter Tryz.func52, Tryz.ntmps52
  go_wp2_with fail
  refine (HBI.out _).mono ?_
  rintro e w1 ⟨rfl, k1⟩
  have K1 := K0'.trans k1
  have b1 := bX.kept k1 (fun h => h)
  have g0 : w1.cell? ⟨w.heap.size, 0, none⟩ = some (.int .i64 54) := b1.cell 0
  go_wp2_with fail
  go_region_held3 (fun w' => w'.cell? ⟨w.heap.size, 0, none⟩ = some (.int .i64 54)) (go_keep)
    (first | (go_at_call 97; refine (HKY.out w1.drew).mono ?_; rintro e w2 ⟨rfl, k2'⟩; have k2 : Kept (fun _ => False) w1 w2 := ((Kept.refl _ _).drew).trans k2'; have b2 := b1.kept k2 (fun h => h); have g2 : w2.cell? ⟨w.heap.size, 0, none⟩ = some (.int .i64 54) := b2.cell 0; have K2 := K1.trans k2; have u2 := hb.kept K2) | (go_at_call 96; refine (ws_any _ u2 (by have := HL.out; show _ + 0 ≤ _; omega) (Nat.le_trans hB K2.size)).mono ?_; rintro e w3 ⟨rfl, u3, k3⟩; have b3 := b2.kb k3 (by omega) (by decide); have g3 : w3.cell? ⟨w.heap.size, 0, none⟩ = some (.int .i64 54) := b3.cell 0))
  have K3 : KB b B w w3 := (KB.of_kept K2).trans k3
  have v3 : Bu B b (l ++ ([] : List UInt8)) w3 := u3
  clear g0 g2 g3 u2 u3
  have g3 : ∀ i, w3.cell? ⟨w.heap.size, i, none⟩ = [Value.int .i64 54, .string nm, .int .i64 N, .int .i64 ty.kind, .string ty.name, .slice ta tn tc, .slice (some ⟨g, off, none⟩) 2 cap][i]? := b3.cell
  have H3 := Lib.hid (HH.out B b _ w3 _ _ 40 41 rfl rfl (HTB.out.kb K3 hbB hB) v3 (Nat.le_trans hB K3.size) (hty'.frame (Same.kb K3 hbB)) (htm'.frame (Same.kb K3 hbB)) (by have := HL.out; (try simp only [List.length_append, List.length_cons, List.length_nil]); omega))
  go_wp2_with fail
  refine H3.out.mono ?_
  rintro e w4 ⟨rfl, u4, k4⟩
  have K4 := K3.trans k4
  have b4 := b3.kb k4 (by omega) (by decide)
  have v4 : Bu B b ((l ++ ([] : List UInt8)) ++ (ox ++ ([40] : List UInt8) ++ oy ++ ([41] : List UInt8))) w4 := u4
  clear g3 u4
  go_wp2_with fail
  first | go_end0 | refine bodyPost_ret (results_none rfl _ _ _) rfl ?_
  exact ⟨rfl, by simpa using v4, K4⟩
set_option maxRecDepth 100000 in
set_option maxHeartbeats 8000000 in
theorem pd_image {nm : ByteArray} {N : Int} {ty : Ty} {x y : Tm} {ox oy : List UInt8} (hx : OD x ox) (hy : PD y oy) : PD (.mk 53 nm N ty [x, y]) (ox ++ ([91] : List UInt8) ++ oy ++ ([93] : List UInt8)) := by
  intro B b l w tk kk hTB hb hB hty htm hlen
  have htm0 : TmL (fun q => q < B) w [x, y] kk := htm
  obtain ⟨g, off, cap, k0, m0, k1, m1, rfl, hgB, hcl, hx5, hx6, hy5, hy6⟩ := htm0.two'
  obtain ⟨xa, xn, xc, rfl⟩ := hx5.slice
  obtain ⟨xb, xo, xd, rfl⟩ := hx6.slice
  obtain ⟨ya, yn, yc, rfl⟩ := hy5.slice
  obtain ⟨yb, yo, yd, rfl⟩ := hy6.slice
  have HCL := Lib.hid hcl
  have HGB := Lib.hid hgB
  clear hcl hgB
  obtain ⟨ta, tn, tc, rfl⟩ := hty.slice
  unfold tmVal
  have hty' : TyL (fun q => q < B) w ty.kids (.slice ta tn tc) := hty
  have htm' : TmL (fun q => q < B) w [x, y] (.slice (some ⟨g, off, none⟩) 2 cap) := htm
  clear hty htm
  simp only [Tm.op, Tm.name, Tm.n, Tm.ty, Tm.kids]
  have K0' : Kept (fun _ => False) w (w.alloc (.cells #[.int .i64 53, .string nm, .int .i64 N, .int .i64 ty.kind, .string ty.name, .slice ta tn tc, .slice (some ⟨g, off, none⟩) 2 cap] 27)) := (Kept.refl _ _).alloc _
  have bX : Blk (w.alloc (.cells #[.int .i64 53, .string nm, .int .i64 N, .int .i64 ty.kind, .string ty.name, .slice ta tn tc, .slice (some ⟨g, off, none⟩) 2 cap] 27)) w.heap.size 27 [.int .i64 53, .string nm, .int .i64 N, .int .i64 ty.kind, .string ty.name, .slice ta tn tc, .slice (some ⟨g, off, none⟩) 2 cap] := Blk.new w 27 _
  have hbl := hb.lt
  have hbB := hb.le
  have HTB := Lib.hid hTB
  have HB0 : Hid (binS 53 = ⟨#[]⟩) := Lib.hid (by decide)
  have HKY : Hid (∀ W, Calls Tryz.prog 97 #[.int .i64 53] W fun e w' => e = .returned (.string ⟨#[]⟩) ∧ Kept (fun _ => False) W w') := Lib.hid (fun W => keyed_any 53 W)
  have HBI : Hid (∀ W, Calls Tryz.prog 94 #[.int .i64 53] W fun e w' => e = .returned (.string ⟨#[]⟩) ∧ Kept (fun _ => False) W w') := Lib.hid (fun W => (binary_any 53 W).mono fun e w' ⟨h1, h2⟩ => ⟨by rw [h1, HB0.out], h2⟩)
  have HH := Lib.hid (bd_any (nm := nm) (N := N) (ty := ty) (op := 53) (p := 91) (q := 93) hx hy)
  have HL : Hid (l.length + 2 + ox.length + oy.length ≤ 1000000000) := Lib.hid (by (try simp only [List.length_append, List.length_cons, List.length_nil] at hlen); omega)
  clear hlen hTB
  have HNZ := Lib.hid (ba_len nm).symm
  go_enter Tryz.func52, Tryz.ntmps52
  go_wp2_with fail
  refine (HBI.out _).mono ?_
  rintro e w1 ⟨rfl, k1⟩
  have K1 := K0'.trans k1
  have b1 := bX.kept k1 (fun h => h)
  have g0 : w1.cell? ⟨w.heap.size, 0, none⟩ = some (.int .i64 53) := b1.cell 0
  go_wp2_with fail
  go_region_held3 (fun w' => w'.cell? ⟨w.heap.size, 0, none⟩ = some (.int .i64 53)) (go_keep)
    (first | (go_at_call 97; refine (HKY.out w1.drew).mono ?_; rintro e w2 ⟨rfl, k2'⟩; have k2 : Kept (fun _ => False) w1 w2 := ((Kept.refl _ _).drew).trans k2'; have b2 := b1.kept k2 (fun h => h); have g2 : w2.cell? ⟨w.heap.size, 0, none⟩ = some (.int .i64 53) := b2.cell 0; have K2 := K1.trans k2; have u2 := hb.kept K2) | (go_at_call 96; refine (ws_any _ u2 (by have := HL.out; show _ + 0 ≤ _; omega) (Nat.le_trans hB K2.size)).mono ?_; rintro e w3 ⟨rfl, u3, k3⟩; have b3 := b2.kb k3 (by omega) (by decide); have g3 : w3.cell? ⟨w.heap.size, 0, none⟩ = some (.int .i64 53) := b3.cell 0))
  have K3 : KB b B w w3 := (KB.of_kept K2).trans k3
  have v3 : Bu B b (l ++ ([] : List UInt8)) w3 := u3
  clear g0 g2 g3 u2 u3
  have g3 : ∀ i, w3.cell? ⟨w.heap.size, i, none⟩ = [Value.int .i64 53, .string nm, .int .i64 N, .int .i64 ty.kind, .string ty.name, .slice ta tn tc, .slice (some ⟨g, off, none⟩) 2 cap][i]? := b3.cell
  have H3 := Lib.hid (HH.out B b _ w3 _ _ 91 93 rfl rfl (HTB.out.kb K3 hbB hB) v3 (Nat.le_trans hB K3.size) (hty'.frame (Same.kb K3 hbB)) (htm'.frame (Same.kb K3 hbB)) (by have := HL.out; (try simp only [List.length_append, List.length_cons, List.length_nil]); omega))
  go_wp2_with fail
  refine H3.out.mono ?_
  rintro e w4 ⟨rfl, u4, k4⟩
  have K4 := K3.trans k4
  have b4 := b3.kb k4 (by omega) (by decide)
  have v4 : Bu B b ((l ++ ([] : List UInt8)) ++ (ox ++ ([91] : List UInt8) ++ oy ++ ([93] : List UInt8))) w4 := u4
  clear g3 u4
  go_wp2_with fail
  first | go_end0 | refine bodyPost_ret (results_none rfl _ _ _) rfl ?_
  exact ⟨rfl, by simpa using v4, K4⟩
set_option maxRecDepth 100000 in
set_option maxHeartbeats 8000000 in
theorem pd_inv {nm : ByteArray} {N : Int} {ty : Ty} {x : Tm} {ox : List UInt8} (hx : OD x ox) : PD (.mk 52 nm N ty [x]) (ox ++ ([126] : List UInt8)) := by
  intro B b l w tk kk hTB hb hB hty htm hlen
  have htm0 : TmL (fun q => q < B) w [x] kk := htm
  obtain ⟨g, off, cap, k0, m0, rfl, hgB, hcl, hx5, hx6⟩ := htm0.oneD
  obtain ⟨xa, xn, xc, rfl⟩ := hx5.slice
  obtain ⟨xb, xo, xd, rfl⟩ := hx6.slice
  have HCL := Lib.hid hcl
  have HGB := Lib.hid hgB
  clear hcl hgB
  obtain ⟨ta, tn, tc, rfl⟩ := hty.slice
  unfold tmVal
  have hty' : TyL (fun q => q < B) w ty.kids (.slice ta tn tc) := hty
  have htm' : TmL (fun q => q < B) w [x] (.slice (some ⟨g, off, none⟩) 1 cap) := htm
  clear hty htm
  simp only [Tm.op, Tm.name, Tm.n, Tm.ty, Tm.kids]
  have K0' : Kept (fun _ => False) w (w.alloc (.cells #[.int .i64 52, .string nm, .int .i64 N, .int .i64 ty.kind, .string ty.name, .slice ta tn tc, .slice (some ⟨g, off, none⟩) 1 cap] 27)) := (Kept.refl _ _).alloc _
  have bX : Blk (w.alloc (.cells #[.int .i64 52, .string nm, .int .i64 N, .int .i64 ty.kind, .string ty.name, .slice ta tn tc, .slice (some ⟨g, off, none⟩) 1 cap] 27)) w.heap.size 27 [.int .i64 52, .string nm, .int .i64 N, .int .i64 ty.kind, .string ty.name, .slice ta tn tc, .slice (some ⟨g, off, none⟩) 1 cap] := Blk.new w 27 _
  have hbl := hb.lt
  have hbB := hb.le
  have HTB := Lib.hid hTB
  have HB0 : Hid (binS 52 = ⟨#[]⟩) := Lib.hid (by decide)
  have HKY : Hid (∀ W, Calls Tryz.prog 97 #[.int .i64 52] W fun e w' => e = .returned (.string ⟨#[]⟩) ∧ Kept (fun _ => False) W w') := Lib.hid (fun W => keyed_any 52 W)
  have HBI : Hid (∀ W, Calls Tryz.prog 94 #[.int .i64 52] W fun e w' => e = .returned (.string ⟨#[]⟩) ∧ Kept (fun _ => False) W w') := Lib.hid (fun W => (binary_any 52 W).mono fun e w' ⟨h1, h2⟩ => ⟨by rw [h1, HB0.out], h2⟩)
  have HX := Lib.hid hx
  have HL : Hid (l.length + 1 + ox.length ≤ 1000000000) := Lib.hid (by (try simp only [List.length_append, List.length_cons, List.length_nil] at hlen); omega)
  clear hlen hTB
  have HNZ := Lib.hid (ba_len nm).symm
  go_enter Tryz.func52, Tryz.ntmps52
  go_wp2_with fail
  refine (HBI.out _).mono ?_
  rintro e w1 ⟨rfl, k1⟩
  have K1 := K0'.trans k1
  have b1 := bX.kept k1 (fun h => h)
  have g0 : w1.cell? ⟨w.heap.size, 0, none⟩ = some (.int .i64 52) := b1.cell 0
  go_wp2_with fail
  go_region_held3 (fun w' => w'.cell? ⟨w.heap.size, 0, none⟩ = some (.int .i64 52)) (go_keep)
    (first | (go_at_call 97; refine (HKY.out w1.drew).mono ?_; rintro e w2 ⟨rfl, k2'⟩; have k2 : Kept (fun _ => False) w1 w2 := ((Kept.refl _ _).drew).trans k2'; have b2 := b1.kept k2 (fun h => h); have g2 : w2.cell? ⟨w.heap.size, 0, none⟩ = some (.int .i64 52) := b2.cell 0; have K2 := K1.trans k2; have u2 := hb.kept K2) | (go_at_call 96; refine (ws_any _ u2 (by have := HL.out; show _ + 0 ≤ _; omega) (Nat.le_trans hB K2.size)).mono ?_; rintro e w3 ⟨rfl, u3, k3⟩; have b3 := b2.kb k3 (by omega) (by decide); have g3 : w3.cell? ⟨w.heap.size, 0, none⟩ = some (.int .i64 52) := b3.cell 0))
  have K3 : KB b B w w3 := (KB.of_kept K2).trans k3
  have v3 : Bu B b (l ++ ([] : List UInt8)) w3 := u3
  clear g0 g2 g3 u2 u3
  have g3 : ∀ i, w3.cell? ⟨w.heap.size, i, none⟩ = [Value.int .i64 52, .string nm, .int .i64 N, .int .i64 ty.kind, .string ty.name, .slice ta tn tc, .slice (some ⟨g, off, none⟩) 1 cap][i]? := b3.cell
  have S3 : Same (fun q => q < B) w w3 := Same.kb K3 hbB
  have hc3 : Hid (∀ j u, (tmCells x (.slice xa xn xc) (.slice xb xo xd))[j]? = some u → w3.cell? ⟨g, off + j, none⟩ = some u) := Lib.hid (fun j u h => S3.cell HGB.out (HCL.out j u h))
  have c0 : w3.cell? ⟨g, off, none⟩ = some (.int .i64 x.op) := hc3.out 0 _ rfl
  have c1 : w3.cell? ⟨g, off + 1, none⟩ = some (.string x.name) := hc3.out 1 _ rfl
  have c2 : w3.cell? ⟨g, off + 2, none⟩ = some (.int .i64 x.n) := hc3.out 2 _ rfl
  have c3 : w3.cell? ⟨g, off + 3, none⟩ = some (.int .i64 x.ty.kind) := hc3.out 3 _ rfl
  have c4 : w3.cell? ⟨g, off + 4, none⟩ = some (.string x.ty.name) := hc3.out 4 _ rfl
  have c5 : w3.cell? ⟨g, off + 5, none⟩ = some (.slice xa xn xc) := hc3.out 5 _ rfl
  have c6 : w3.cell? ⟨g, off + 6, none⟩ = some (.slice xb xo xd) := hc3.out 6 _ rfl
  have H3 := Lib.hid (HX.out B b _ w3 _ _ (HTB.out.kb K3 hbB hB) v3 (Nat.le_trans hB K3.size) (hx5.frame S3) (hx6.frame S3) (by have := HL.out; (try simp only [List.length_append, List.length_cons, List.length_nil]); omega))
  go_wp2_with fail
  refine H3.out.mono ?_
  rintro e w4 ⟨rfl, u4, k4⟩
  clear c0 c1 c2 c3 c4 c5 c6
  have K4 := K3.trans k4
  have b4 := b3.kb k4 (by omega) (by decide)
  have v4 : Bu B b ((l ++ ([] : List UInt8)) ++ ox) w4 := u4
  clear g3 u4
  have g4 : ∀ i, w4.cell? ⟨w.heap.size, i, none⟩ = [Value.int .i64 52, .string nm, .int .i64 N, .int .i64 ty.kind, .string ty.name, .slice ta tn tc, .slice (some ⟨g, off, none⟩) 1 cap][i]? := b4.cell
  have H4 := Lib.hid (wb_any (126 : UInt8) (ci := 126) rfl v4 (by have := HL.out; (try simp only [List.length_append, List.length_cons, List.length_nil]); omega) (Nat.le_trans hB K4.size))
  go_wp2_with fail
  refine H4.out.mono ?_
  rintro e w5 ⟨rfl, u5, k5⟩
  have K5 := K4.trans k5
  have b5 := b4.kb k5 (by omega) (by decide)
  have v5 : Bu B b (((l ++ ([] : List UInt8)) ++ ox) ++ ([126] : List UInt8)) w5 := u5
  clear g4 u5
  go_wp2_with fail
  first | go_end0 | refine bodyPost_ret (results_none rfl _ _ _) rfl ?_
  exact ⟨rfl, by simpa using v5, K5⟩
set_option maxRecDepth 100000 in
set_option maxHeartbeats 8000000 in
theorem pd_set {nm : ByteArray} {N : Int} {ty : Ty} {kl : List Tm} {out : List UInt8} (hld : LD kl out) : PD (.mk 28 nm N ty kl) (([123] : List UInt8) ++ out ++ ([125] : List UInt8)) := by
  intro B b l w tk kk hTB hb hB hty htm hlen
  obtain ⟨ta, tn, tc, rfl⟩ := hty.slice
  obtain ⟨ma, mn, mc, rfl⟩ := htm.slice
  unfold tmVal
  have hty' : TyL (fun q => q < B) w ty.kids (.slice ta tn tc) := hty
  have htm' : TmL (fun q => q < B) w kl (.slice ma mn mc) := htm
  clear hty htm
  simp only [Tm.op, Tm.name, Tm.n, Tm.ty, Tm.kids]
  have K0' : Kept (fun _ => False) w (w.alloc (.cells #[.int .i64 28, .string nm, .int .i64 N, .int .i64 ty.kind, .string ty.name, .slice ta tn tc, .slice ma mn mc] 27)) := (Kept.refl _ _).alloc _
  have bX : Blk (w.alloc (.cells #[.int .i64 28, .string nm, .int .i64 N, .int .i64 ty.kind, .string ty.name, .slice ta tn tc, .slice ma mn mc] 27)) w.heap.size 27 [.int .i64 28, .string nm, .int .i64 N, .int .i64 ty.kind, .string ty.name, .slice ta tn tc, .slice ma mn mc] := Blk.new w 27 _
  have hbl := hb.lt
  have hbB := hb.le
  have HTB := Lib.hid hTB
  have HB0 : Hid (binS 28 = ⟨#[]⟩) := Lib.hid (by decide)
  have HKY : Hid (∀ W, Calls Tryz.prog 97 #[.int .i64 28] W fun e w' => e = .returned (.string ⟨#[]⟩) ∧ Kept (fun _ => False) W w') := Lib.hid (fun W => keyed_any 28 W)
  have HBI : Hid (∀ W, Calls Tryz.prog 94 #[.int .i64 28] W fun e w' => e = .returned (.string ⟨#[]⟩) ∧ Kept (fun _ => False) W w') := Lib.hid (fun W => (binary_any 28 W).mono fun e w' ⟨h1, h2⟩ => ⟨by rw [h1, HB0.out], h2⟩)
  have HLD := Lib.hid hld
  have HL : Hid (l.length + 2 + out.length ≤ 1000000000) := Lib.hid (by (try simp only [List.length_append, List.length_cons, List.length_nil] at hlen); omega)
  clear hlen hTB
  have HNZ := Lib.hid (ba_len nm).symm
  go_enter Tryz.func52, Tryz.ntmps52
  go_wp2_with fail
  refine (HBI.out _).mono ?_
  rintro e w1 ⟨rfl, k1⟩
  have K1 := K0'.trans k1
  have b1 := bX.kept k1 (fun h => h)
  have g0 : w1.cell? ⟨w.heap.size, 0, none⟩ = some (.int .i64 28) := b1.cell 0
  go_wp2_with fail
  go_region_held3 (fun w' => w'.cell? ⟨w.heap.size, 0, none⟩ = some (.int .i64 28)) (go_keep)
    (first | (go_at_call 97; refine (HKY.out w1.drew).mono ?_; rintro e w2 ⟨rfl, k2'⟩; have k2 : Kept (fun _ => False) w1 w2 := ((Kept.refl _ _).drew).trans k2'; have b2 := b1.kept k2 (fun h => h); have g2 : w2.cell? ⟨w.heap.size, 0, none⟩ = some (.int .i64 28) := b2.cell 0; have K2 := K1.trans k2; have u2 := hb.kept K2) | (go_at_call 96; refine (ws_any _ u2 (by have := HL.out; show _ + 0 ≤ _; omega) (Nat.le_trans hB K2.size)).mono ?_; rintro e w3 ⟨rfl, u3, k3⟩; have b3 := b2.kb k3 (by omega) (by decide); have g3 : w3.cell? ⟨w.heap.size, 0, none⟩ = some (.int .i64 28) := b3.cell 0))
  have K3 : KB b B w w3 := (KB.of_kept K2).trans k3
  have v3 : Bu B b (l ++ ([] : List UInt8)) w3 := u3
  clear g0 g2 g3 u2 u3
  have g3 : ∀ i, w3.cell? ⟨w.heap.size, i, none⟩ = [Value.int .i64 28, .string nm, .int .i64 N, .int .i64 ty.kind, .string ty.name, .slice ta tn tc, .slice ma mn mc][i]? := b3.cell
  have H3 := Lib.hid (wb_any (123 : UInt8) (ci := 123) rfl v3 (by have := HL.out; (try simp only [List.length_append, List.length_cons, List.length_nil]); omega) (Nat.le_trans hB K3.size))
  go_wp2_with fail
  refine H3.out.mono ?_
  rintro e w4 ⟨rfl, u4, k4⟩
  have K4 := K3.trans k4
  have b4 := b3.kb k4 (by omega) (by decide)
  have v4 : Bu B b ((l ++ ([] : List UInt8)) ++ ([123] : List UInt8)) w4 := u4
  clear g3 u4
  have g4 : ∀ i, w4.cell? ⟨w.heap.size, i, none⟩ = [Value.int .i64 28, .string nm, .int .i64 N, .int .i64 ty.kind, .string ty.name, .slice ta tn tc, .slice ma mn mc][i]? := b4.cell
  have H4 := Lib.hid (HLD.out B b _ w4 _ (HTB.out.kb K4 hbB hB) v4 (Nat.le_trans hB K4.size) (htm'.frame (Same.kb K4 hbB)) (by have := HL.out; (try simp only [List.length_append, List.length_cons, List.length_nil]); omega))
  go_wp2_with fail
  refine H4.out.mono ?_
  rintro e w5 ⟨rfl, u5, k5⟩
  have K5 := K4.trans k5
  have b5 := b4.kb k5 (by omega) (by decide)
  have v5 : Bu B b (((l ++ ([] : List UInt8)) ++ ([123] : List UInt8)) ++ out) w5 := u5
  clear g4 u5
  have g5 : ∀ i, w5.cell? ⟨w.heap.size, i, none⟩ = [Value.int .i64 28, .string nm, .int .i64 N, .int .i64 ty.kind, .string ty.name, .slice ta tn tc, .slice ma mn mc][i]? := b5.cell
  have H5 := Lib.hid (wb_any (125 : UInt8) (ci := 125) rfl v5 (by have := HL.out; (try simp only [List.length_append, List.length_cons, List.length_nil]); omega) (Nat.le_trans hB K5.size))
  go_wp2_with fail
  refine H5.out.mono ?_
  rintro e w6 ⟨rfl, u6, k6⟩
  have K6 := K5.trans k6
  have b6 := b5.kb k6 (by omega) (by decide)
  have v6 : Bu B b ((((l ++ ([] : List UInt8)) ++ ([123] : List UInt8)) ++ out) ++ ([125] : List UInt8)) w6 := u6
  clear g5 u6
  go_wp2_with fail
  first | go_end0 | refine bodyPost_ret (results_none rfl _ _ _) rfl ?_
  exact ⟨rfl, by simpa using v6, K6⟩
set_option maxRecDepth 100000 in
set_option maxHeartbeats 8000000 in
theorem pd_pow {nm : ByteArray} {N : Int} {ty : Ty} {kl : List Tm} {out : List UInt8} (hld : LD kl out) : PD (.mk 46 nm N ty kl) (([80, 79, 87] : List UInt8) ++ ([40] : List UInt8) ++ out ++ ([41] : List UInt8)) := by
  intro B b l w tk kk hTB hb hB hty htm hlen
  obtain ⟨ta, tn, tc, rfl⟩ := hty.slice
  obtain ⟨ma, mn, mc, rfl⟩ := htm.slice
  unfold tmVal
  have hty' : TyL (fun q => q < B) w ty.kids (.slice ta tn tc) := hty
  have htm' : TmL (fun q => q < B) w kl (.slice ma mn mc) := htm
  clear hty htm
  simp only [Tm.op, Tm.name, Tm.n, Tm.ty, Tm.kids]
  have K0' : Kept (fun _ => False) w (w.alloc (.cells #[.int .i64 46, .string nm, .int .i64 N, .int .i64 ty.kind, .string ty.name, .slice ta tn tc, .slice ma mn mc] 27)) := (Kept.refl _ _).alloc _
  have bX : Blk (w.alloc (.cells #[.int .i64 46, .string nm, .int .i64 N, .int .i64 ty.kind, .string ty.name, .slice ta tn tc, .slice ma mn mc] 27)) w.heap.size 27 [.int .i64 46, .string nm, .int .i64 N, .int .i64 ty.kind, .string ty.name, .slice ta tn tc, .slice ma mn mc] := Blk.new w 27 _
  have hbl := hb.lt
  have hbB := hb.le
  have HTB := Lib.hid hTB
  have HB0 : Hid (binS 46 = ⟨#[]⟩) := Lib.hid (by decide)
  have HKY : Hid (∀ W, Calls Tryz.prog 97 #[.int .i64 46] W fun e w' => e = .returned (.string ⟨#[80, 79, 87]⟩) ∧ Kept (fun _ => False) W w') := Lib.hid (fun W => keyed_any 46 W)
  have HBI : Hid (∀ W, Calls Tryz.prog 94 #[.int .i64 46] W fun e w' => e = .returned (.string ⟨#[]⟩) ∧ Kept (fun _ => False) W w') := Lib.hid (fun W => (binary_any 46 W).mono fun e w' ⟨h1, h2⟩ => ⟨by rw [h1, HB0.out], h2⟩)
  have HLD := Lib.hid hld
  have HL : Hid (l.length + 5 + out.length ≤ 1000000000) := Lib.hid (by (try simp only [List.length_append, List.length_cons, List.length_nil] at hlen); omega)
  clear hlen hTB
  have HNZ := Lib.hid (ba_len nm).symm
  go_enter Tryz.func52, Tryz.ntmps52
  go_wp2_with fail
  refine (HBI.out _).mono ?_
  rintro e w1 ⟨rfl, k1⟩
  have K1 := K0'.trans k1
  have b1 := bX.kept k1 (fun h => h)
  have g0 : w1.cell? ⟨w.heap.size, 0, none⟩ = some (.int .i64 46) := b1.cell 0
  go_wp2_with fail
  go_region_held3 (fun w' => w'.cell? ⟨w.heap.size, 0, none⟩ = some (.int .i64 46)) (go_keep)
    (first | (go_at_call 97; refine (HKY.out w1.drew).mono ?_; rintro e w2 ⟨rfl, k2'⟩; have k2 : Kept (fun _ => False) w1 w2 := ((Kept.refl _ _).drew).trans k2'; have b2 := b1.kept k2 (fun h => h); have g2 : w2.cell? ⟨w.heap.size, 0, none⟩ = some (.int .i64 46) := b2.cell 0; have K2 := K1.trans k2; have u2 := hb.kept K2) | (go_at_call 96; refine (ws_any _ u2 (by have := HL.out; show _ + 3 ≤ _; omega) (Nat.le_trans hB K2.size)).mono ?_; rintro e w3 ⟨rfl, u3, k3⟩; have b3 := b2.kb k3 (by omega) (by decide); have g3 : w3.cell? ⟨w.heap.size, 0, none⟩ = some (.int .i64 46) := b3.cell 0))
  have K3 : KB b B w w3 := (KB.of_kept K2).trans k3
  have v3 : Bu B b (l ++ ([80, 79, 87] : List UInt8)) w3 := u3
  clear g0 g2 g3 u2 u3
  have g3 : ∀ i, w3.cell? ⟨w.heap.size, i, none⟩ = [Value.int .i64 46, .string nm, .int .i64 N, .int .i64 ty.kind, .string ty.name, .slice ta tn tc, .slice ma mn mc][i]? := b3.cell
  have H3 := Lib.hid (wb_any (40 : UInt8) (ci := 40) rfl v3 (by have := HL.out; (try simp only [List.length_append, List.length_cons, List.length_nil]); omega) (Nat.le_trans hB K3.size))
  go_wp2_with fail
  refine H3.out.mono ?_
  rintro e w4 ⟨rfl, u4, k4⟩
  have K4 := K3.trans k4
  have b4 := b3.kb k4 (by omega) (by decide)
  have v4 : Bu B b ((l ++ ([80, 79, 87] : List UInt8)) ++ ([40] : List UInt8)) w4 := u4
  clear g3 u4
  have g4 : ∀ i, w4.cell? ⟨w.heap.size, i, none⟩ = [Value.int .i64 46, .string nm, .int .i64 N, .int .i64 ty.kind, .string ty.name, .slice ta tn tc, .slice ma mn mc][i]? := b4.cell
  have H4 := Lib.hid (HLD.out B b _ w4 _ (HTB.out.kb K4 hbB hB) v4 (Nat.le_trans hB K4.size) (htm'.frame (Same.kb K4 hbB)) (by have := HL.out; (try simp only [List.length_append, List.length_cons, List.length_nil]); omega))
  go_wp2_with fail
  refine H4.out.mono ?_
  rintro e w5 ⟨rfl, u5, k5⟩
  have K5 := K4.trans k5
  have b5 := b4.kb k5 (by omega) (by decide)
  have v5 : Bu B b (((l ++ ([80, 79, 87] : List UInt8)) ++ ([40] : List UInt8)) ++ out) w5 := u5
  clear g4 u5
  have g5 : ∀ i, w5.cell? ⟨w.heap.size, i, none⟩ = [Value.int .i64 46, .string nm, .int .i64 N, .int .i64 ty.kind, .string ty.name, .slice ta tn tc, .slice ma mn mc][i]? := b5.cell
  have H5 := Lib.hid (wb_any (41 : UInt8) (ci := 41) rfl v5 (by have := HL.out; (try simp only [List.length_append, List.length_cons, List.length_nil]); omega) (Nat.le_trans hB K5.size))
  go_wp2_with fail
  refine H5.out.mono ?_
  rintro e w6 ⟨rfl, u6, k6⟩
  have K6 := K5.trans k6
  have b6 := b5.kb k6 (by omega) (by decide)
  have v6 : Bu B b ((((l ++ ([80, 79, 87] : List UInt8)) ++ ([40] : List UInt8)) ++ out) ++ ([41] : List UInt8)) w6 := u6
  clear g5 u6
  go_wp2_with fail
  first | go_end0 | refine bodyPost_ret (results_none rfl _ _ _) rfl ?_
  exact ⟨rfl, by simpa using v6, K6⟩
set_option maxRecDepth 100000 in
set_option maxHeartbeats 8000000 in
theorem pd_card {nm : ByteArray} {N : Int} {ty : Ty} {kl : List Tm} {out : List UInt8} (hld : LD kl out) : PD (.mk 47 nm N ty kl) (([99, 97, 114, 100] : List UInt8) ++ ([40] : List UInt8) ++ out ++ ([41] : List UInt8)) := by
  intro B b l w tk kk hTB hb hB hty htm hlen
  obtain ⟨ta, tn, tc, rfl⟩ := hty.slice
  obtain ⟨ma, mn, mc, rfl⟩ := htm.slice
  unfold tmVal
  have hty' : TyL (fun q => q < B) w ty.kids (.slice ta tn tc) := hty
  have htm' : TmL (fun q => q < B) w kl (.slice ma mn mc) := htm
  clear hty htm
  simp only [Tm.op, Tm.name, Tm.n, Tm.ty, Tm.kids]
  have K0' : Kept (fun _ => False) w (w.alloc (.cells #[.int .i64 47, .string nm, .int .i64 N, .int .i64 ty.kind, .string ty.name, .slice ta tn tc, .slice ma mn mc] 27)) := (Kept.refl _ _).alloc _
  have bX : Blk (w.alloc (.cells #[.int .i64 47, .string nm, .int .i64 N, .int .i64 ty.kind, .string ty.name, .slice ta tn tc, .slice ma mn mc] 27)) w.heap.size 27 [.int .i64 47, .string nm, .int .i64 N, .int .i64 ty.kind, .string ty.name, .slice ta tn tc, .slice ma mn mc] := Blk.new w 27 _
  have hbl := hb.lt
  have hbB := hb.le
  have HTB := Lib.hid hTB
  have HB0 : Hid (binS 47 = ⟨#[]⟩) := Lib.hid (by decide)
  have HKY : Hid (∀ W, Calls Tryz.prog 97 #[.int .i64 47] W fun e w' => e = .returned (.string ⟨#[99, 97, 114, 100]⟩) ∧ Kept (fun _ => False) W w') := Lib.hid (fun W => keyed_any 47 W)
  have HBI : Hid (∀ W, Calls Tryz.prog 94 #[.int .i64 47] W fun e w' => e = .returned (.string ⟨#[]⟩) ∧ Kept (fun _ => False) W w') := Lib.hid (fun W => (binary_any 47 W).mono fun e w' ⟨h1, h2⟩ => ⟨by rw [h1, HB0.out], h2⟩)
  have HLD := Lib.hid hld
  have HL : Hid (l.length + 6 + out.length ≤ 1000000000) := Lib.hid (by (try simp only [List.length_append, List.length_cons, List.length_nil] at hlen); omega)
  clear hlen hTB
  have HNZ := Lib.hid (ba_len nm).symm
  go_enter Tryz.func52, Tryz.ntmps52
  go_wp2_with fail
  refine (HBI.out _).mono ?_
  rintro e w1 ⟨rfl, k1⟩
  have K1 := K0'.trans k1
  have b1 := bX.kept k1 (fun h => h)
  have g0 : w1.cell? ⟨w.heap.size, 0, none⟩ = some (.int .i64 47) := b1.cell 0
  go_wp2_with fail
  go_region_held3 (fun w' => w'.cell? ⟨w.heap.size, 0, none⟩ = some (.int .i64 47)) (go_keep)
    (first | (go_at_call 97; refine (HKY.out w1.drew).mono ?_; rintro e w2 ⟨rfl, k2'⟩; have k2 : Kept (fun _ => False) w1 w2 := ((Kept.refl _ _).drew).trans k2'; have b2 := b1.kept k2 (fun h => h); have g2 : w2.cell? ⟨w.heap.size, 0, none⟩ = some (.int .i64 47) := b2.cell 0; have K2 := K1.trans k2; have u2 := hb.kept K2) | (go_at_call 96; refine (ws_any _ u2 (by have := HL.out; show _ + 4 ≤ _; omega) (Nat.le_trans hB K2.size)).mono ?_; rintro e w3 ⟨rfl, u3, k3⟩; have b3 := b2.kb k3 (by omega) (by decide); have g3 : w3.cell? ⟨w.heap.size, 0, none⟩ = some (.int .i64 47) := b3.cell 0))
  have K3 : KB b B w w3 := (KB.of_kept K2).trans k3
  have v3 : Bu B b (l ++ ([99, 97, 114, 100] : List UInt8)) w3 := u3
  clear g0 g2 g3 u2 u3
  have g3 : ∀ i, w3.cell? ⟨w.heap.size, i, none⟩ = [Value.int .i64 47, .string nm, .int .i64 N, .int .i64 ty.kind, .string ty.name, .slice ta tn tc, .slice ma mn mc][i]? := b3.cell
  have H3 := Lib.hid (wb_any (40 : UInt8) (ci := 40) rfl v3 (by have := HL.out; (try simp only [List.length_append, List.length_cons, List.length_nil]); omega) (Nat.le_trans hB K3.size))
  go_wp2_with fail
  refine H3.out.mono ?_
  rintro e w4 ⟨rfl, u4, k4⟩
  have K4 := K3.trans k4
  have b4 := b3.kb k4 (by omega) (by decide)
  have v4 : Bu B b ((l ++ ([99, 97, 114, 100] : List UInt8)) ++ ([40] : List UInt8)) w4 := u4
  clear g3 u4
  have g4 : ∀ i, w4.cell? ⟨w.heap.size, i, none⟩ = [Value.int .i64 47, .string nm, .int .i64 N, .int .i64 ty.kind, .string ty.name, .slice ta tn tc, .slice ma mn mc][i]? := b4.cell
  have H4 := Lib.hid (HLD.out B b _ w4 _ (HTB.out.kb K4 hbB hB) v4 (Nat.le_trans hB K4.size) (htm'.frame (Same.kb K4 hbB)) (by have := HL.out; (try simp only [List.length_append, List.length_cons, List.length_nil]); omega))
  go_wp2_with fail
  refine H4.out.mono ?_
  rintro e w5 ⟨rfl, u5, k5⟩
  have K5 := K4.trans k5
  have b5 := b4.kb k5 (by omega) (by decide)
  have v5 : Bu B b (((l ++ ([99, 97, 114, 100] : List UInt8)) ++ ([40] : List UInt8)) ++ out) w5 := u5
  clear g4 u5
  have g5 : ∀ i, w5.cell? ⟨w.heap.size, i, none⟩ = [Value.int .i64 47, .string nm, .int .i64 N, .int .i64 ty.kind, .string ty.name, .slice ta tn tc, .slice ma mn mc][i]? := b5.cell
  have H5 := Lib.hid (wb_any (41 : UInt8) (ci := 41) rfl v5 (by have := HL.out; (try simp only [List.length_append, List.length_cons, List.length_nil]); omega) (Nat.le_trans hB K5.size))
  go_wp2_with fail
  refine H5.out.mono ?_
  rintro e w6 ⟨rfl, u6, k6⟩
  have K6 := K5.trans k6
  have b6 := b5.kb k6 (by omega) (by decide)
  have v6 : Bu B b ((((l ++ ([99, 97, 114, 100] : List UInt8)) ++ ([40] : List UInt8)) ++ out) ++ ([41] : List UInt8)) w6 := u6
  clear g5 u6
  go_wp2_with fail
  first | go_end0 | refine bodyPost_ret (results_none rfl _ _ _) rfl ?_
  exact ⟨rfl, by simpa using v6, K6⟩
set_option maxRecDepth 100000 in
set_option maxHeartbeats 8000000 in
theorem pd_min {nm : ByteArray} {N : Int} {ty : Ty} {kl : List Tm} {out : List UInt8} (hld : LD kl out) : PD (.mk 48 nm N ty kl) (([109, 105, 110] : List UInt8) ++ ([40] : List UInt8) ++ out ++ ([41] : List UInt8)) := by
  intro B b l w tk kk hTB hb hB hty htm hlen
  obtain ⟨ta, tn, tc, rfl⟩ := hty.slice
  obtain ⟨ma, mn, mc, rfl⟩ := htm.slice
  unfold tmVal
  have hty' : TyL (fun q => q < B) w ty.kids (.slice ta tn tc) := hty
  have htm' : TmL (fun q => q < B) w kl (.slice ma mn mc) := htm
  clear hty htm
  simp only [Tm.op, Tm.name, Tm.n, Tm.ty, Tm.kids]
  have K0' : Kept (fun _ => False) w (w.alloc (.cells #[.int .i64 48, .string nm, .int .i64 N, .int .i64 ty.kind, .string ty.name, .slice ta tn tc, .slice ma mn mc] 27)) := (Kept.refl _ _).alloc _
  have bX : Blk (w.alloc (.cells #[.int .i64 48, .string nm, .int .i64 N, .int .i64 ty.kind, .string ty.name, .slice ta tn tc, .slice ma mn mc] 27)) w.heap.size 27 [.int .i64 48, .string nm, .int .i64 N, .int .i64 ty.kind, .string ty.name, .slice ta tn tc, .slice ma mn mc] := Blk.new w 27 _
  have hbl := hb.lt
  have hbB := hb.le
  have HTB := Lib.hid hTB
  have HB0 : Hid (binS 48 = ⟨#[]⟩) := Lib.hid (by decide)
  have HKY : Hid (∀ W, Calls Tryz.prog 97 #[.int .i64 48] W fun e w' => e = .returned (.string ⟨#[109, 105, 110]⟩) ∧ Kept (fun _ => False) W w') := Lib.hid (fun W => keyed_any 48 W)
  have HBI : Hid (∀ W, Calls Tryz.prog 94 #[.int .i64 48] W fun e w' => e = .returned (.string ⟨#[]⟩) ∧ Kept (fun _ => False) W w') := Lib.hid (fun W => (binary_any 48 W).mono fun e w' ⟨h1, h2⟩ => ⟨by rw [h1, HB0.out], h2⟩)
  have HLD := Lib.hid hld
  have HL : Hid (l.length + 5 + out.length ≤ 1000000000) := Lib.hid (by (try simp only [List.length_append, List.length_cons, List.length_nil] at hlen); omega)
  clear hlen hTB
  have HNZ := Lib.hid (ba_len nm).symm
  go_enter Tryz.func52, Tryz.ntmps52
  go_wp2_with fail
  refine (HBI.out _).mono ?_
  rintro e w1 ⟨rfl, k1⟩
  have K1 := K0'.trans k1
  have b1 := bX.kept k1 (fun h => h)
  have g0 : w1.cell? ⟨w.heap.size, 0, none⟩ = some (.int .i64 48) := b1.cell 0
  go_wp2_with fail
  go_region_held3 (fun w' => w'.cell? ⟨w.heap.size, 0, none⟩ = some (.int .i64 48)) (go_keep)
    (first | (go_at_call 97; refine (HKY.out w1.drew).mono ?_; rintro e w2 ⟨rfl, k2'⟩; have k2 : Kept (fun _ => False) w1 w2 := ((Kept.refl _ _).drew).trans k2'; have b2 := b1.kept k2 (fun h => h); have g2 : w2.cell? ⟨w.heap.size, 0, none⟩ = some (.int .i64 48) := b2.cell 0; have K2 := K1.trans k2; have u2 := hb.kept K2) | (go_at_call 96; refine (ws_any _ u2 (by have := HL.out; show _ + 3 ≤ _; omega) (Nat.le_trans hB K2.size)).mono ?_; rintro e w3 ⟨rfl, u3, k3⟩; have b3 := b2.kb k3 (by omega) (by decide); have g3 : w3.cell? ⟨w.heap.size, 0, none⟩ = some (.int .i64 48) := b3.cell 0))
  have K3 : KB b B w w3 := (KB.of_kept K2).trans k3
  have v3 : Bu B b (l ++ ([109, 105, 110] : List UInt8)) w3 := u3
  clear g0 g2 g3 u2 u3
  have g3 : ∀ i, w3.cell? ⟨w.heap.size, i, none⟩ = [Value.int .i64 48, .string nm, .int .i64 N, .int .i64 ty.kind, .string ty.name, .slice ta tn tc, .slice ma mn mc][i]? := b3.cell
  have H3 := Lib.hid (wb_any (40 : UInt8) (ci := 40) rfl v3 (by have := HL.out; (try simp only [List.length_append, List.length_cons, List.length_nil]); omega) (Nat.le_trans hB K3.size))
  go_wp2_with fail
  refine H3.out.mono ?_
  rintro e w4 ⟨rfl, u4, k4⟩
  have K4 := K3.trans k4
  have b4 := b3.kb k4 (by omega) (by decide)
  have v4 : Bu B b ((l ++ ([109, 105, 110] : List UInt8)) ++ ([40] : List UInt8)) w4 := u4
  clear g3 u4
  have g4 : ∀ i, w4.cell? ⟨w.heap.size, i, none⟩ = [Value.int .i64 48, .string nm, .int .i64 N, .int .i64 ty.kind, .string ty.name, .slice ta tn tc, .slice ma mn mc][i]? := b4.cell
  have H4 := Lib.hid (HLD.out B b _ w4 _ (HTB.out.kb K4 hbB hB) v4 (Nat.le_trans hB K4.size) (htm'.frame (Same.kb K4 hbB)) (by have := HL.out; (try simp only [List.length_append, List.length_cons, List.length_nil]); omega))
  go_wp2_with fail
  refine H4.out.mono ?_
  rintro e w5 ⟨rfl, u5, k5⟩
  have K5 := K4.trans k5
  have b5 := b4.kb k5 (by omega) (by decide)
  have v5 : Bu B b (((l ++ ([109, 105, 110] : List UInt8)) ++ ([40] : List UInt8)) ++ out) w5 := u5
  clear g4 u5
  have g5 : ∀ i, w5.cell? ⟨w.heap.size, i, none⟩ = [Value.int .i64 48, .string nm, .int .i64 N, .int .i64 ty.kind, .string ty.name, .slice ta tn tc, .slice ma mn mc][i]? := b5.cell
  have H5 := Lib.hid (wb_any (41 : UInt8) (ci := 41) rfl v5 (by have := HL.out; (try simp only [List.length_append, List.length_cons, List.length_nil]); omega) (Nat.le_trans hB K5.size))
  go_wp2_with fail
  refine H5.out.mono ?_
  rintro e w6 ⟨rfl, u6, k6⟩
  have K6 := K5.trans k6
  have b6 := b5.kb k6 (by omega) (by decide)
  have v6 : Bu B b ((((l ++ ([109, 105, 110] : List UInt8)) ++ ([40] : List UInt8)) ++ out) ++ ([41] : List UInt8)) w6 := u6
  clear g5 u6
  go_wp2_with fail
  first | go_end0 | refine bodyPost_ret (results_none rfl _ _ _) rfl ?_
  exact ⟨rfl, by simpa using v6, K6⟩
set_option maxRecDepth 100000 in
set_option maxHeartbeats 8000000 in
theorem pd_max {nm : ByteArray} {N : Int} {ty : Ty} {kl : List Tm} {out : List UInt8} (hld : LD kl out) : PD (.mk 49 nm N ty kl) (([109, 97, 120] : List UInt8) ++ ([40] : List UInt8) ++ out ++ ([41] : List UInt8)) := by
  intro B b l w tk kk hTB hb hB hty htm hlen
  obtain ⟨ta, tn, tc, rfl⟩ := hty.slice
  obtain ⟨ma, mn, mc, rfl⟩ := htm.slice
  unfold tmVal
  have hty' : TyL (fun q => q < B) w ty.kids (.slice ta tn tc) := hty
  have htm' : TmL (fun q => q < B) w kl (.slice ma mn mc) := htm
  clear hty htm
  simp only [Tm.op, Tm.name, Tm.n, Tm.ty, Tm.kids]
  have K0' : Kept (fun _ => False) w (w.alloc (.cells #[.int .i64 49, .string nm, .int .i64 N, .int .i64 ty.kind, .string ty.name, .slice ta tn tc, .slice ma mn mc] 27)) := (Kept.refl _ _).alloc _
  have bX : Blk (w.alloc (.cells #[.int .i64 49, .string nm, .int .i64 N, .int .i64 ty.kind, .string ty.name, .slice ta tn tc, .slice ma mn mc] 27)) w.heap.size 27 [.int .i64 49, .string nm, .int .i64 N, .int .i64 ty.kind, .string ty.name, .slice ta tn tc, .slice ma mn mc] := Blk.new w 27 _
  have hbl := hb.lt
  have hbB := hb.le
  have HTB := Lib.hid hTB
  have HB0 : Hid (binS 49 = ⟨#[]⟩) := Lib.hid (by decide)
  have HKY : Hid (∀ W, Calls Tryz.prog 97 #[.int .i64 49] W fun e w' => e = .returned (.string ⟨#[109, 97, 120]⟩) ∧ Kept (fun _ => False) W w') := Lib.hid (fun W => keyed_any 49 W)
  have HBI : Hid (∀ W, Calls Tryz.prog 94 #[.int .i64 49] W fun e w' => e = .returned (.string ⟨#[]⟩) ∧ Kept (fun _ => False) W w') := Lib.hid (fun W => (binary_any 49 W).mono fun e w' ⟨h1, h2⟩ => ⟨by rw [h1, HB0.out], h2⟩)
  have HLD := Lib.hid hld
  have HL : Hid (l.length + 5 + out.length ≤ 1000000000) := Lib.hid (by (try simp only [List.length_append, List.length_cons, List.length_nil] at hlen); omega)
  clear hlen hTB
  have HNZ := Lib.hid (ba_len nm).symm
  go_enter Tryz.func52, Tryz.ntmps52
  go_wp2_with fail
  refine (HBI.out _).mono ?_
  rintro e w1 ⟨rfl, k1⟩
  have K1 := K0'.trans k1
  have b1 := bX.kept k1 (fun h => h)
  have g0 : w1.cell? ⟨w.heap.size, 0, none⟩ = some (.int .i64 49) := b1.cell 0
  go_wp2_with fail
  go_region_held3 (fun w' => w'.cell? ⟨w.heap.size, 0, none⟩ = some (.int .i64 49)) (go_keep)
    (first | (go_at_call 97; refine (HKY.out w1.drew).mono ?_; rintro e w2 ⟨rfl, k2'⟩; have k2 : Kept (fun _ => False) w1 w2 := ((Kept.refl _ _).drew).trans k2'; have b2 := b1.kept k2 (fun h => h); have g2 : w2.cell? ⟨w.heap.size, 0, none⟩ = some (.int .i64 49) := b2.cell 0; have K2 := K1.trans k2; have u2 := hb.kept K2) | (go_at_call 96; refine (ws_any _ u2 (by have := HL.out; show _ + 3 ≤ _; omega) (Nat.le_trans hB K2.size)).mono ?_; rintro e w3 ⟨rfl, u3, k3⟩; have b3 := b2.kb k3 (by omega) (by decide); have g3 : w3.cell? ⟨w.heap.size, 0, none⟩ = some (.int .i64 49) := b3.cell 0))
  have K3 : KB b B w w3 := (KB.of_kept K2).trans k3
  have v3 : Bu B b (l ++ ([109, 97, 120] : List UInt8)) w3 := u3
  clear g0 g2 g3 u2 u3
  have g3 : ∀ i, w3.cell? ⟨w.heap.size, i, none⟩ = [Value.int .i64 49, .string nm, .int .i64 N, .int .i64 ty.kind, .string ty.name, .slice ta tn tc, .slice ma mn mc][i]? := b3.cell
  have H3 := Lib.hid (wb_any (40 : UInt8) (ci := 40) rfl v3 (by have := HL.out; (try simp only [List.length_append, List.length_cons, List.length_nil]); omega) (Nat.le_trans hB K3.size))
  go_wp2_with fail
  refine H3.out.mono ?_
  rintro e w4 ⟨rfl, u4, k4⟩
  have K4 := K3.trans k4
  have b4 := b3.kb k4 (by omega) (by decide)
  have v4 : Bu B b ((l ++ ([109, 97, 120] : List UInt8)) ++ ([40] : List UInt8)) w4 := u4
  clear g3 u4
  have g4 : ∀ i, w4.cell? ⟨w.heap.size, i, none⟩ = [Value.int .i64 49, .string nm, .int .i64 N, .int .i64 ty.kind, .string ty.name, .slice ta tn tc, .slice ma mn mc][i]? := b4.cell
  have H4 := Lib.hid (HLD.out B b _ w4 _ (HTB.out.kb K4 hbB hB) v4 (Nat.le_trans hB K4.size) (htm'.frame (Same.kb K4 hbB)) (by have := HL.out; (try simp only [List.length_append, List.length_cons, List.length_nil]); omega))
  go_wp2_with fail
  refine H4.out.mono ?_
  rintro e w5 ⟨rfl, u5, k5⟩
  have K5 := K4.trans k5
  have b5 := b4.kb k5 (by omega) (by decide)
  have v5 : Bu B b (((l ++ ([109, 97, 120] : List UInt8)) ++ ([40] : List UInt8)) ++ out) w5 := u5
  clear g4 u5
  have g5 : ∀ i, w5.cell? ⟨w.heap.size, i, none⟩ = [Value.int .i64 49, .string nm, .int .i64 N, .int .i64 ty.kind, .string ty.name, .slice ta tn tc, .slice ma mn mc][i]? := b5.cell
  have H5 := Lib.hid (wb_any (41 : UInt8) (ci := 41) rfl v5 (by have := HL.out; (try simp only [List.length_append, List.length_cons, List.length_nil]); omega) (Nat.le_trans hB K5.size))
  go_wp2_with fail
  refine H5.out.mono ?_
  rintro e w6 ⟨rfl, u6, k6⟩
  have K6 := K5.trans k6
  have b6 := b5.kb k6 (by omega) (by decide)
  have v6 : Bu B b ((((l ++ ([109, 97, 120] : List UInt8)) ++ ([40] : List UInt8)) ++ out) ++ ([41] : List UInt8)) w6 := u6
  clear g5 u6
  go_wp2_with fail
  first | go_end0 | refine bodyPost_ret (results_none rfl _ _ _) rfl ?_
  exact ⟨rfl, by simpa using v6, K6⟩
set_option maxRecDepth 100000 in
set_option maxHeartbeats 8000000 in
theorem pd_dom {nm : ByteArray} {N : Int} {ty : Ty} {kl : List Tm} {out : List UInt8} (hld : LD kl out) : PD (.mk 50 nm N ty kl) (([100, 111, 109] : List UInt8) ++ ([40] : List UInt8) ++ out ++ ([41] : List UInt8)) := by
  intro B b l w tk kk hTB hb hB hty htm hlen
  obtain ⟨ta, tn, tc, rfl⟩ := hty.slice
  obtain ⟨ma, mn, mc, rfl⟩ := htm.slice
  unfold tmVal
  have hty' : TyL (fun q => q < B) w ty.kids (.slice ta tn tc) := hty
  have htm' : TmL (fun q => q < B) w kl (.slice ma mn mc) := htm
  clear hty htm
  simp only [Tm.op, Tm.name, Tm.n, Tm.ty, Tm.kids]
  have K0' : Kept (fun _ => False) w (w.alloc (.cells #[.int .i64 50, .string nm, .int .i64 N, .int .i64 ty.kind, .string ty.name, .slice ta tn tc, .slice ma mn mc] 27)) := (Kept.refl _ _).alloc _
  have bX : Blk (w.alloc (.cells #[.int .i64 50, .string nm, .int .i64 N, .int .i64 ty.kind, .string ty.name, .slice ta tn tc, .slice ma mn mc] 27)) w.heap.size 27 [.int .i64 50, .string nm, .int .i64 N, .int .i64 ty.kind, .string ty.name, .slice ta tn tc, .slice ma mn mc] := Blk.new w 27 _
  have hbl := hb.lt
  have hbB := hb.le
  have HTB := Lib.hid hTB
  have HB0 : Hid (binS 50 = ⟨#[]⟩) := Lib.hid (by decide)
  have HKY : Hid (∀ W, Calls Tryz.prog 97 #[.int .i64 50] W fun e w' => e = .returned (.string ⟨#[100, 111, 109]⟩) ∧ Kept (fun _ => False) W w') := Lib.hid (fun W => keyed_any 50 W)
  have HBI : Hid (∀ W, Calls Tryz.prog 94 #[.int .i64 50] W fun e w' => e = .returned (.string ⟨#[]⟩) ∧ Kept (fun _ => False) W w') := Lib.hid (fun W => (binary_any 50 W).mono fun e w' ⟨h1, h2⟩ => ⟨by rw [h1, HB0.out], h2⟩)
  have HLD := Lib.hid hld
  have HL : Hid (l.length + 5 + out.length ≤ 1000000000) := Lib.hid (by (try simp only [List.length_append, List.length_cons, List.length_nil] at hlen); omega)
  clear hlen hTB
  have HNZ := Lib.hid (ba_len nm).symm
  go_enter Tryz.func52, Tryz.ntmps52
  go_wp2_with fail
  refine (HBI.out _).mono ?_
  rintro e w1 ⟨rfl, k1⟩
  have K1 := K0'.trans k1
  have b1 := bX.kept k1 (fun h => h)
  have g0 : w1.cell? ⟨w.heap.size, 0, none⟩ = some (.int .i64 50) := b1.cell 0
  go_wp2_with fail
  go_region_held3 (fun w' => w'.cell? ⟨w.heap.size, 0, none⟩ = some (.int .i64 50)) (go_keep)
    (first | (go_at_call 97; refine (HKY.out w1.drew).mono ?_; rintro e w2 ⟨rfl, k2'⟩; have k2 : Kept (fun _ => False) w1 w2 := ((Kept.refl _ _).drew).trans k2'; have b2 := b1.kept k2 (fun h => h); have g2 : w2.cell? ⟨w.heap.size, 0, none⟩ = some (.int .i64 50) := b2.cell 0; have K2 := K1.trans k2; have u2 := hb.kept K2) | (go_at_call 96; refine (ws_any _ u2 (by have := HL.out; show _ + 3 ≤ _; omega) (Nat.le_trans hB K2.size)).mono ?_; rintro e w3 ⟨rfl, u3, k3⟩; have b3 := b2.kb k3 (by omega) (by decide); have g3 : w3.cell? ⟨w.heap.size, 0, none⟩ = some (.int .i64 50) := b3.cell 0))
  have K3 : KB b B w w3 := (KB.of_kept K2).trans k3
  have v3 : Bu B b (l ++ ([100, 111, 109] : List UInt8)) w3 := u3
  clear g0 g2 g3 u2 u3
  have g3 : ∀ i, w3.cell? ⟨w.heap.size, i, none⟩ = [Value.int .i64 50, .string nm, .int .i64 N, .int .i64 ty.kind, .string ty.name, .slice ta tn tc, .slice ma mn mc][i]? := b3.cell
  have H3 := Lib.hid (wb_any (40 : UInt8) (ci := 40) rfl v3 (by have := HL.out; (try simp only [List.length_append, List.length_cons, List.length_nil]); omega) (Nat.le_trans hB K3.size))
  go_wp2_with fail
  refine H3.out.mono ?_
  rintro e w4 ⟨rfl, u4, k4⟩
  have K4 := K3.trans k4
  have b4 := b3.kb k4 (by omega) (by decide)
  have v4 : Bu B b ((l ++ ([100, 111, 109] : List UInt8)) ++ ([40] : List UInt8)) w4 := u4
  clear g3 u4
  have g4 : ∀ i, w4.cell? ⟨w.heap.size, i, none⟩ = [Value.int .i64 50, .string nm, .int .i64 N, .int .i64 ty.kind, .string ty.name, .slice ta tn tc, .slice ma mn mc][i]? := b4.cell
  have H4 := Lib.hid (HLD.out B b _ w4 _ (HTB.out.kb K4 hbB hB) v4 (Nat.le_trans hB K4.size) (htm'.frame (Same.kb K4 hbB)) (by have := HL.out; (try simp only [List.length_append, List.length_cons, List.length_nil]); omega))
  go_wp2_with fail
  refine H4.out.mono ?_
  rintro e w5 ⟨rfl, u5, k5⟩
  have K5 := K4.trans k5
  have b5 := b4.kb k5 (by omega) (by decide)
  have v5 : Bu B b (((l ++ ([100, 111, 109] : List UInt8)) ++ ([40] : List UInt8)) ++ out) w5 := u5
  clear g4 u5
  have g5 : ∀ i, w5.cell? ⟨w.heap.size, i, none⟩ = [Value.int .i64 50, .string nm, .int .i64 N, .int .i64 ty.kind, .string ty.name, .slice ta tn tc, .slice ma mn mc][i]? := b5.cell
  have H5 := Lib.hid (wb_any (41 : UInt8) (ci := 41) rfl v5 (by have := HL.out; (try simp only [List.length_append, List.length_cons, List.length_nil]); omega) (Nat.le_trans hB K5.size))
  go_wp2_with fail
  refine H5.out.mono ?_
  rintro e w6 ⟨rfl, u6, k6⟩
  have K6 := K5.trans k6
  have b6 := b5.kb k6 (by omega) (by decide)
  have v6 : Bu B b ((((l ++ ([100, 111, 109] : List UInt8)) ++ ([40] : List UInt8)) ++ out) ++ ([41] : List UInt8)) w6 := u6
  clear g5 u6
  go_wp2_with fail
  first | go_end0 | refine bodyPost_ret (results_none rfl _ _ _) rfl ?_
  exact ⟨rfl, by simpa using v6, K6⟩
set_option maxRecDepth 100000 in
set_option maxHeartbeats 8000000 in
theorem pd_ran {nm : ByteArray} {N : Int} {ty : Ty} {kl : List Tm} {out : List UInt8} (hld : LD kl out) : PD (.mk 51 nm N ty kl) (([114, 97, 110] : List UInt8) ++ ([40] : List UInt8) ++ out ++ ([41] : List UInt8)) := by
  intro B b l w tk kk hTB hb hB hty htm hlen
  obtain ⟨ta, tn, tc, rfl⟩ := hty.slice
  obtain ⟨ma, mn, mc, rfl⟩ := htm.slice
  unfold tmVal
  have hty' : TyL (fun q => q < B) w ty.kids (.slice ta tn tc) := hty
  have htm' : TmL (fun q => q < B) w kl (.slice ma mn mc) := htm
  clear hty htm
  simp only [Tm.op, Tm.name, Tm.n, Tm.ty, Tm.kids]
  have K0' : Kept (fun _ => False) w (w.alloc (.cells #[.int .i64 51, .string nm, .int .i64 N, .int .i64 ty.kind, .string ty.name, .slice ta tn tc, .slice ma mn mc] 27)) := (Kept.refl _ _).alloc _
  have bX : Blk (w.alloc (.cells #[.int .i64 51, .string nm, .int .i64 N, .int .i64 ty.kind, .string ty.name, .slice ta tn tc, .slice ma mn mc] 27)) w.heap.size 27 [.int .i64 51, .string nm, .int .i64 N, .int .i64 ty.kind, .string ty.name, .slice ta tn tc, .slice ma mn mc] := Blk.new w 27 _
  have hbl := hb.lt
  have hbB := hb.le
  have HTB := Lib.hid hTB
  have HB0 : Hid (binS 51 = ⟨#[]⟩) := Lib.hid (by decide)
  have HKY : Hid (∀ W, Calls Tryz.prog 97 #[.int .i64 51] W fun e w' => e = .returned (.string ⟨#[114, 97, 110]⟩) ∧ Kept (fun _ => False) W w') := Lib.hid (fun W => keyed_any 51 W)
  have HBI : Hid (∀ W, Calls Tryz.prog 94 #[.int .i64 51] W fun e w' => e = .returned (.string ⟨#[]⟩) ∧ Kept (fun _ => False) W w') := Lib.hid (fun W => (binary_any 51 W).mono fun e w' ⟨h1, h2⟩ => ⟨by rw [h1, HB0.out], h2⟩)
  have HLD := Lib.hid hld
  have HL : Hid (l.length + 5 + out.length ≤ 1000000000) := Lib.hid (by (try simp only [List.length_append, List.length_cons, List.length_nil] at hlen); omega)
  clear hlen hTB
  have HNZ := Lib.hid (ba_len nm).symm
  go_enter Tryz.func52, Tryz.ntmps52
  go_wp2_with fail
  refine (HBI.out _).mono ?_
  rintro e w1 ⟨rfl, k1⟩
  have K1 := K0'.trans k1
  have b1 := bX.kept k1 (fun h => h)
  have g0 : w1.cell? ⟨w.heap.size, 0, none⟩ = some (.int .i64 51) := b1.cell 0
  go_wp2_with fail
  go_region_held3 (fun w' => w'.cell? ⟨w.heap.size, 0, none⟩ = some (.int .i64 51)) (go_keep)
    (first | (go_at_call 97; refine (HKY.out w1.drew).mono ?_; rintro e w2 ⟨rfl, k2'⟩; have k2 : Kept (fun _ => False) w1 w2 := ((Kept.refl _ _).drew).trans k2'; have b2 := b1.kept k2 (fun h => h); have g2 : w2.cell? ⟨w.heap.size, 0, none⟩ = some (.int .i64 51) := b2.cell 0; have K2 := K1.trans k2; have u2 := hb.kept K2) | (go_at_call 96; refine (ws_any _ u2 (by have := HL.out; show _ + 3 ≤ _; omega) (Nat.le_trans hB K2.size)).mono ?_; rintro e w3 ⟨rfl, u3, k3⟩; have b3 := b2.kb k3 (by omega) (by decide); have g3 : w3.cell? ⟨w.heap.size, 0, none⟩ = some (.int .i64 51) := b3.cell 0))
  have K3 : KB b B w w3 := (KB.of_kept K2).trans k3
  have v3 : Bu B b (l ++ ([114, 97, 110] : List UInt8)) w3 := u3
  clear g0 g2 g3 u2 u3
  have g3 : ∀ i, w3.cell? ⟨w.heap.size, i, none⟩ = [Value.int .i64 51, .string nm, .int .i64 N, .int .i64 ty.kind, .string ty.name, .slice ta tn tc, .slice ma mn mc][i]? := b3.cell
  have H3 := Lib.hid (wb_any (40 : UInt8) (ci := 40) rfl v3 (by have := HL.out; (try simp only [List.length_append, List.length_cons, List.length_nil]); omega) (Nat.le_trans hB K3.size))
  go_wp2_with fail
  refine H3.out.mono ?_
  rintro e w4 ⟨rfl, u4, k4⟩
  have K4 := K3.trans k4
  have b4 := b3.kb k4 (by omega) (by decide)
  have v4 : Bu B b ((l ++ ([114, 97, 110] : List UInt8)) ++ ([40] : List UInt8)) w4 := u4
  clear g3 u4
  have g4 : ∀ i, w4.cell? ⟨w.heap.size, i, none⟩ = [Value.int .i64 51, .string nm, .int .i64 N, .int .i64 ty.kind, .string ty.name, .slice ta tn tc, .slice ma mn mc][i]? := b4.cell
  have H4 := Lib.hid (HLD.out B b _ w4 _ (HTB.out.kb K4 hbB hB) v4 (Nat.le_trans hB K4.size) (htm'.frame (Same.kb K4 hbB)) (by have := HL.out; (try simp only [List.length_append, List.length_cons, List.length_nil]); omega))
  go_wp2_with fail
  refine H4.out.mono ?_
  rintro e w5 ⟨rfl, u5, k5⟩
  have K5 := K4.trans k5
  have b5 := b4.kb k5 (by omega) (by decide)
  have v5 : Bu B b (((l ++ ([114, 97, 110] : List UInt8)) ++ ([40] : List UInt8)) ++ out) w5 := u5
  clear g4 u5
  have g5 : ∀ i, w5.cell? ⟨w.heap.size, i, none⟩ = [Value.int .i64 51, .string nm, .int .i64 N, .int .i64 ty.kind, .string ty.name, .slice ta tn tc, .slice ma mn mc][i]? := b5.cell
  have H5 := Lib.hid (wb_any (41 : UInt8) (ci := 41) rfl v5 (by have := HL.out; (try simp only [List.length_append, List.length_cons, List.length_nil]); omega) (Nat.le_trans hB K5.size))
  go_wp2_with fail
  refine H5.out.mono ?_
  rintro e w6 ⟨rfl, u6, k6⟩
  have K6 := K5.trans k6
  have b6 := b5.kb k6 (by omega) (by decide)
  have v6 : Bu B b ((((l ++ ([114, 97, 110] : List UInt8)) ++ ([40] : List UInt8)) ++ out) ++ ([41] : List UInt8)) w6 := u6
  clear g5 u6
  go_wp2_with fail
  first | go_end0 | refine bodyPost_ret (results_none rfl _ _ _) rfl ?_
  exact ⟨rfl, by simpa using v6, K6⟩
theorem pd_of_pc {t : Tm} {out : List UInt8} (h : PC t out) : PD t out := fun B b l w tk kk _ => h B b l w tk kk
theorem itoa_any {N : Int} (h0 : 0 ≤ N) (h1 : N ≤ 1000000000) {B : Nat} (W : World) (hT : TB B W) : Calls Tryz.prog 83 #[.int .i64 N] W fun e w' => e = .returned (.string (str (Lib.itoa N))) ∧ Kept (fun _ => False) W w' := by
  refine (Tryz.strconv_Itoa N (by omega) (by omega) W hT.here).mono ?_
  rintro e w' ⟨rfl, k, os, rfl⟩
  exact ⟨rfl, Kept.of_below (Lib.below_grow W.heap.size W (Nat.le_refl _) k os)⟩
set_option maxRecDepth 100000 in
set_option maxHeartbeats 8000000 in
theorem pd_int {nm : ByteArray} {N : Int} {ty : Ty} {kl : List Tm} (h0 : 0 ≤ N) (h1 : N ≤ 1000000000) : PD (.mk 19 nm N ty kl) (Lib.itoa N) := by
  intro B b l w tk kk hTB hb hB hty htm hlen
  obtain ⟨ta, tn, tc, rfl⟩ := hty.slice
  obtain ⟨ma, mn, mc, rfl⟩ := htm.slice
  unfold tmVal
  have hty' : TyL (fun q => q < B) w ty.kids (.slice ta tn tc) := hty
  have htm' : TmL (fun q => q < B) w kl (.slice ma mn mc) := htm
  clear hty htm
  simp only [Tm.op, Tm.name, Tm.n, Tm.ty, Tm.kids]
  have K0' : Kept (fun _ => False) w (w.alloc (.cells #[.int .i64 19, .string nm, .int .i64 N, .int .i64 ty.kind, .string ty.name, .slice ta tn tc, .slice ma mn mc] 27)) := (Kept.refl _ _).alloc _
  have bX : Blk (w.alloc (.cells #[.int .i64 19, .string nm, .int .i64 N, .int .i64 ty.kind, .string ty.name, .slice ta tn tc, .slice ma mn mc] 27)) w.heap.size 27 [.int .i64 19, .string nm, .int .i64 N, .int .i64 ty.kind, .string ty.name, .slice ta tn tc, .slice ma mn mc] := Blk.new w 27 _
  have hbl := hb.lt
  have hbB := hb.le
  have HTB := Lib.hid hTB
  have HB0 : Hid (binS 19 = ⟨#[]⟩) := Lib.hid (by decide)
  have HKY : Hid (∀ W, Calls Tryz.prog 97 #[.int .i64 19] W fun e w' => e = .returned (.string ⟨#[]⟩) ∧ Kept (fun _ => False) W w') := Lib.hid (fun W => keyed_any 19 W)
  have HBI : Hid (∀ W, Calls Tryz.prog 94 #[.int .i64 19] W fun e w' => e = .returned (.string ⟨#[]⟩) ∧ Kept (fun _ => False) W w') := Lib.hid (fun W => (binary_any 19 W).mono fun e w' ⟨h1, h2⟩ => ⟨by rw [h1, HB0.out], h2⟩)
  have HL : Hid (l.length + (Lib.itoa N).length ≤ 1000000000) := Lib.hid (by (try simp only [List.length_append, List.length_cons, List.length_nil] at hlen); omega)
  clear hlen hTB
  have HNZ := Lib.hid (ba_len nm).symm
  go_enter Tryz.func52, Tryz.ntmps52
  go_wp2_with fail
  refine (HBI.out _).mono ?_
  rintro e w1 ⟨rfl, k1⟩
  have K1 := K0'.trans k1
  have b1 := bX.kept k1 (fun h => h)
  have g0 : w1.cell? ⟨w.heap.size, 0, none⟩ = some (.int .i64 19) := b1.cell 0
  go_wp2_with fail
  go_region_held3 (fun w' => w'.cell? ⟨w.heap.size, 0, none⟩ = some (.int .i64 19)) (go_keep)
    (first | (go_at_call 97; refine (HKY.out w1.drew).mono ?_; rintro e w2 ⟨rfl, k2'⟩; have k2 : Kept (fun _ => False) w1 w2 := ((Kept.refl _ _).drew).trans k2'; have b2 := b1.kept k2 (fun h => h); have g2 : w2.cell? ⟨w.heap.size, 0, none⟩ = some (.int .i64 19) := b2.cell 0; have K2 := K1.trans k2; have u2 := hb.kept K2) | (go_at_call 96; refine (ws_any _ u2 (by have := HL.out; show _ + 0 ≤ _; omega) (Nat.le_trans hB K2.size)).mono ?_; rintro e w3 ⟨rfl, u3, k3⟩; have b3 := b2.kb k3 (by omega) (by decide); have g3 : w3.cell? ⟨w.heap.size, 0, none⟩ = some (.int .i64 19) := b3.cell 0))
  have K3 : KB b B w w3 := (KB.of_kept K2).trans k3
  have v3 : Bu B b (l ++ ([] : List UInt8)) w3 := u3
  clear g0 g2 g3 u2 u3
  have g3 : w3.cell? ⟨w.heap.size, 2, none⟩ = some (.int .i64 N) := b3.cell 2
  have HIT := Lib.hid (itoa_any h0 h1 w3.drew (HTB.out.kb (K3.drew) hbB hB))
  have V3 := Lib.hid v3
  clear h0 h1 v3
  have hls : (str (Lib.itoa N)).size = (Lib.itoa N).length := str_size _
  have HLS := Lib.hid hls
  clear hls
  go_wp2_with fail
  go_region_held3 (fun w' => w'.cell? ⟨w.heap.size, 2, none⟩ = some (.int .i64 N)) (go_keep)
    (first | (go_at_call 83; refine HIT.out.mono ?_; rintro e w4 ⟨rfl, k4'⟩; have k4 : Kept (fun _ => False) w3 w4 := ((Kept.refl _ _).drew).trans k4'; have b4 := b3.kept k4 (fun h => h); have g4 : w4.cell? ⟨w.heap.size, 2, none⟩ = some (.int .i64 N) := b4.cell 2; have K4 := K3.trans (KB.of_kept k4)) | (go_at_call 96; refine (ws_any (str (Lib.itoa N)) (V3.out.kept k4) (by have := HL.out; rw [HLS.out]; simp only [List.length_append, List.length_nil]; omega) (Nat.le_trans hB K4.size)).mono ?_; rintro e w5 ⟨rfl, u5, k5⟩; have b5 := b4.kb k5 (by omega) (by decide); have g5 : w5.cell? ⟨w.heap.size, 2, none⟩ = some (.int .i64 N) := b5.cell 2))
  have K5 := K4.trans k5
  have v5 : Bu B b (l ++ ([] : List UInt8) ++ Lib.itoa N) w5 := u5
  clear g4 g5 u5
  go_wp2_with fail
  first | go_end0 | refine bodyPost_ret (results_none rfl _ _ _) rfl ?_
  exact ⟨rfl, by simpa using v5, K5⟩
set_option maxRecDepth 100000 in
set_option maxHeartbeats 8000000 in
theorem pd_empty {nm : ByteArray} {N : Int} {ty : Ty} {kl : List Tm} (hts : tsC ty) (htz : (tyShow ty).length ≤ 1000000) : PD (.mk 29 nm N ty kl) (([123, 125, 91] : List UInt8) ++ tyShow ty ++ [93]) := by
  intro B b l w tk kk hTB hb hB hty htm hlen
  obtain ⟨ta, tn, tc, rfl⟩ := hty.slice
  obtain ⟨ma, mn, mc, rfl⟩ := htm.slice
  unfold tmVal
  have hty' : TyL (fun q => q < B) w ty.kids (.slice ta tn tc) := hty
  have htm' : TmL (fun q => q < B) w kl (.slice ma mn mc) := htm
  clear hty htm
  simp only [Tm.op, Tm.name, Tm.n, Tm.ty, Tm.kids]
  have K0' : Kept (fun _ => False) w (w.alloc (.cells #[.int .i64 29, .string nm, .int .i64 N, .int .i64 ty.kind, .string ty.name, .slice ta tn tc, .slice ma mn mc] 27)) := (Kept.refl _ _).alloc _
  have bX : Blk (w.alloc (.cells #[.int .i64 29, .string nm, .int .i64 N, .int .i64 ty.kind, .string ty.name, .slice ta tn tc, .slice ma mn mc] 27)) w.heap.size 27 [.int .i64 29, .string nm, .int .i64 N, .int .i64 ty.kind, .string ty.name, .slice ta tn tc, .slice ma mn mc] := Blk.new w 27 _
  have hbl := hb.lt
  have hbB := hb.le
  have HTB := Lib.hid hTB
  have HB0 : Hid (binS 29 = ⟨#[]⟩) := Lib.hid (by decide)
  have HKY : Hid (∀ W, Calls Tryz.prog 97 #[.int .i64 29] W fun e w' => e = .returned (.string ⟨#[]⟩) ∧ Kept (fun _ => False) W w') := Lib.hid (fun W => keyed_any 29 W)
  have HBI : Hid (∀ W, Calls Tryz.prog 94 #[.int .i64 29] W fun e w' => e = .returned (.string ⟨#[]⟩) ∧ Kept (fun _ => False) W w') := Lib.hid (fun W => (binary_any 29 W).mono fun e w' ⟨h1, h2⟩ => ⟨by rw [h1, HB0.out], h2⟩)
  have HL : Hid (l.length + (tyShow ty).length + 4 ≤ 1000000000) := Lib.hid (by (try simp only [List.length_append, List.length_cons, List.length_nil] at hlen); omega)
  clear hlen hTB
  have HNZ := Lib.hid (ba_len nm).symm
  go_enter Tryz.func52, Tryz.ntmps52
  go_wp2_with fail
  refine (HBI.out _).mono ?_
  rintro e w1 ⟨rfl, k1⟩
  have K1 := K0'.trans k1
  have b1 := bX.kept k1 (fun h => h)
  have g0 : w1.cell? ⟨w.heap.size, 0, none⟩ = some (.int .i64 29) := b1.cell 0
  go_wp2_with fail
  go_region_held3 (fun w' => w'.cell? ⟨w.heap.size, 0, none⟩ = some (.int .i64 29)) (go_keep)
    (first | (go_at_call 97; refine (HKY.out w1.drew).mono ?_; rintro e w2 ⟨rfl, k2'⟩; have k2 : Kept (fun _ => False) w1 w2 := ((Kept.refl _ _).drew).trans k2'; have b2 := b1.kept k2 (fun h => h); have g2 : w2.cell? ⟨w.heap.size, 0, none⟩ = some (.int .i64 29) := b2.cell 0; have K2 := K1.trans k2; have u2 := hb.kept K2) | (go_at_call 96; refine (ws_any _ u2 (by have := HL.out; show _ + 0 ≤ _; omega) (Nat.le_trans hB K2.size)).mono ?_; rintro e w3 ⟨rfl, u3, k3⟩; have b3 := b2.kb k3 (by omega) (by decide); have g3 : w3.cell? ⟨w.heap.size, 0, none⟩ = some (.int .i64 29) := b3.cell 0))
  have K3 : KB b B w w3 := (KB.of_kept K2).trans k3
  have v3 : Bu B b (l ++ ([] : List UInt8)) w3 := u3
  clear g0 g2 g3 u2 u3
  have g3 : w3.cell? ⟨w.heap.size, 3, none⟩ = some (.int .i64 ty.kind) := b3.cell 3
  have g4 : w3.cell? ⟨w.heap.size, 4, none⟩ = some (.string ty.name) := b3.cell 4
  have g5 : w3.cell? ⟨w.heap.size, 5, none⟩ = some (.slice ta tn tc) := b3.cell 5
  have HTY := Lib.hid (hts w3.drew (fun q => q < B) _ (hty'.frame (Same.kb K3.drew hbB)) htz)
  unfold tyVal at HTY
  have HDS : Hid ((⟨#[123, 125, 91]⟩ ++ str (tyShow ty) ++ ⟨#[93]⟩ : ByteArray).data.toList = ([123, 125, 91] : List UInt8) ++ tyShow ty ++ [93]) := Lib.hid (by simp [ByteArray.data_append, str])
  have HZ : Hid ((⟨#[123, 125, 91]⟩ ++ str (tyShow ty) ++ ⟨#[93]⟩ : ByteArray).size = (tyShow ty).length + 4) := Lib.hid (by rw [ByteArray.size_append, ByteArray.size_append, str_size]; show 3 + _ + 1 = _; omega)
  have hz1 : (str (tyShow ty)).size ≤ 1000000 := by rw [str_size]; exact htz
  have V3 := Lib.hid v3
  have HTZ := Lib.hid htz
  clear hts htz v3
  have HSW : Hid (∀ W, Kept (fun _ => False) w3 W → Calls Tryz.prog 96 #[.pointer (some ⟨b, 0, none⟩), .string (⟨#[123, 125, 91]⟩ ++ str (tyShow ty) ++ ⟨#[93]⟩)] W fun e w' => ∃ m : Int, e = .returned (.tuple #[.int .i64 m, .nilIface]) ∧ BuP B b (l ++ ([] : List UInt8) ++ (([123, 125, 91] : List UInt8) ++ tyShow ty ++ [93])) W w') := Lib.hid (fun W k => by rw [← HDS.out]; exact (ws_any _ (V3.out.kept k) (by have := HL.out; rw [HZ.out]; simp only [List.length_append, List.length_nil]; omega) (Nat.le_trans hB (K3.trans (KB.of_kept k)).size)).mono fun e w' h => ⟨_, h.1, h.2⟩)
  clear HDS HZ HTZ
  generalize str (tyShow ty) = sx at *
  go_wp2_with fail
  go_region_held (fun w' => w'.cell? ⟨w.heap.size, 3, none⟩ = some (.int .i64 ty.kind) ∧ w'.cell? ⟨w.heap.size, 4, none⟩ = some (.string ty.name) ∧ w'.cell? ⟨w.heap.size, 5, none⟩ = some (.slice ta tn tc)) (go_keep)
    (first | (go_at_call 57; refine HTY.out.mono ?_; rintro e w4 ⟨rfl, k4'⟩; have k4 : Kept (fun _ => False) w3 w4 := ((Kept.refl _ _).drew).trans k4'; have b4 := b3.kept k4 (fun h => h); have m3 : w4.cell? ⟨w.heap.size, 3, none⟩ = some (.int .i64 ty.kind) := b4.cell 3; have m4 : w4.cell? ⟨w.heap.size, 4, none⟩ = some (.string ty.name) := b4.cell 4; have m5 : w4.cell? ⟨w.heap.size, 5, none⟩ = some (.slice ta tn tc) := b4.cell 5; have K4 := K3.trans (KB.of_kept k4)) | (go_at_call 96; refine (HSW.out _ k4).mono ?_; rintro e w5 ⟨mz, rfl, u5, k5⟩; have b5 := b4.kb k5 (by omega) (by decide); have n3 : w5.cell? ⟨w.heap.size, 3, none⟩ = some (.int .i64 ty.kind) := b5.cell 3; have n4 : w5.cell? ⟨w.heap.size, 4, none⟩ = some (.string ty.name) := b5.cell 4; have n5 : w5.cell? ⟨w.heap.size, 5, none⟩ = some (.slice ta tn tc) := b5.cell 5))
  have K5 := K4.trans k5
  have v5 : Bu B b (l ++ ([] : List UInt8) ++ (([123, 125, 91] : List UInt8) ++ tyShow ty ++ [93])) w5 := u5
  clear m3 m4 m5 n3 n4 n5 u5
  go_wp2_with fail
  first | go_end0 | refine bodyPost_ret (results_none rfl _ _ _) rfl ?_
  exact ⟨rfl, by simpa using v5, K5⟩
set_option maxRecDepth 100000 in
set_option maxHeartbeats 8000000 in
theorem ld_any {kl : List Tm} {O : Nat → List UInt8} (hp : ∀ i (h : i < kl.length), PD kl[i] (O i)) (hkl : kl.length ≤ 100000) : LD kl (joinO O kl.length) := by
  intro B b l w kk hTB hb hB htm hlen
  have HP := Lib.hid hp
  have HL := Lib.hid hlen
  have HTB := Lib.hid hTB
  have HKL := Lib.hid hkl
  clear hp hlen hTB hkl
  have hbl := hb.lt
  have hbB := hb.le
  cases htm with
  | nil he =>
    rcases he with rfl | ⟨ad, c, rfl⟩
    all_goals
      go_enter Tryz.func101, Tryz.ntmps101
      go_wp2_with fail
      go_loop [8] (fun i => i = .int .i64 0) (fun i => 0)
      case atStart => rfl
      case round =>
        subst hrel
        go_wp2_with fail
        first | go_end0 | refine bodyPost_ret (results_none rfl _ _ _) rfl ?_
        exact ⟨rfl, by simpa [joinO] using hb, KB.refl _ _ _⟩
  | mk K M hne hgB hcap hcell hk hm =>
    rename_i g off cap
    have HC := Lib.hid hcell
    have HK := Lib.hid hk
    have HM := Lib.hid hm
    have HGB := Lib.hid hgB
    clear hcell hk hm hgB
    go_enter Tryz.func101, Tryz.ntmps101
    go_wp2_with fail
    go_loopw [8] (fun i wr => ∃ k : Nat, k ≤ kl.length ∧ i = .int .i64 k ∧ Hid (Bu B b (l ++ joinO O k) wr) ∧ Hid (KB b B w wr)) (fun i _ => kl.length - (intOf i).toNat)
    case atStart => exact ⟨0, Nat.zero_le _, rfl, Lib.hid (by simpa [joinO] using hb), Lib.hid (KB.refl _ _ _)⟩
    case round =>
      obtain ⟨k, hkl2, rfl, HU, HKB⟩ := hrel
      by_cases hlt : k < kl.length
      · have Sr : Same (fun q => q < B) w wr := Same.kb HKB.out hbB
        obtain ⟨xa, xn, xc, hKk⟩ := (HK.out k hlt).slice
        obtain ⟨ya, yn, yc, hMk⟩ := (HM.out k hlt).slice
        have c0 : wr.cell? ⟨g, off + k * 7, none⟩ = some (.int .i64 kl[k].op) := by have cc := Sr.cell HGB.out (HC.out k hlt).1; exact cc
        have c1 : wr.cell? ⟨g, off + k * 7 + 1, none⟩ = some (.string kl[k].name) := by have cc := Sr.cell HGB.out (HC.out k hlt).2.1; exact cc
        have c2 : wr.cell? ⟨g, off + k * 7 + 2, none⟩ = some (.int .i64 kl[k].n) := by have cc := Sr.cell HGB.out (HC.out k hlt).2.2.1; exact cc
        have c3 : wr.cell? ⟨g, off + k * 7 + 3, none⟩ = some (.int .i64 kl[k].ty.kind) := by have cc := Sr.cell HGB.out (HC.out k hlt).2.2.2.1; exact cc
        have c4 : wr.cell? ⟨g, off + k * 7 + 4, none⟩ = some (.string kl[k].ty.name) := by have cc := Sr.cell HGB.out (HC.out k hlt).2.2.2.2.1; exact cc
        have c5 : wr.cell? ⟨g, off + k * 7 + 5, none⟩ = some (.slice xa xn xc) := by have cc := Sr.cell HGB.out (HC.out k hlt).2.2.2.2.2.1; rw [hKk] at cc; exact cc
        have c6 : wr.cell? ⟨g, off + k * 7 + 6, none⟩ = some (.slice ya yn yc) := by have cc := Sr.cell HGB.out (HC.out k hlt).2.2.2.2.2.2; rw [hMk] at cc; exact cc
        have hx5 : TyL (fun q => q < B) wr kl[k].ty.kids (.slice xa xn xc) := by rw [← hKk]; exact (HK.out k hlt).frame Sr
        have hx6 : TmL (fun q => q < B) wr kl[k].kids (.slice ya yn yc) := by rw [← hMk]; exact (HM.out k hlt).frame Sr
        clear hKk hMk
        have i1 : (k : Int) < (kl.length : Int) := by omega
        have i2 : (k : Int) < 2000000 := by have := HKL.out; omega
        have hsz := HKB.out.size
        have bL : Blk (wr.alloc (.cells #[.int .i64 kl[k].op, .string kl[k].name, .int .i64 kl[k].n, .int .i64 kl[k].ty.kind, .string kl[k].ty.name, .slice xa xn xc, .slice ya yn yc] 27)) wr.heap.size 27 (tmCells kl[k] (.slice xa xn xc) (.slice ya yn yc)) := Blk.new wr 27 _
        have KL : KB b B wr (wr.alloc (.cells #[.int .i64 kl[k].op, .string kl[k].name, .int .i64 kl[k].n, .int .i64 kl[k].ty.kind, .string kl[k].ty.name, .slice xa xn xc, .slice ya yn yc] 27)) := (KB.refl _ _ _).alloc _
        have uL : Bu B b (l ++ joinO O k) (wr.alloc (.cells #[.int .i64 kl[k].op, .string kl[k].name, .int .i64 kl[k].n, .int .i64 kl[k].ty.kind, .string kl[k].ty.name, .slice xa xn xc, .slice ya yn yc] 27)) := HU.out.kept ((Kept.refl _ _).alloc _)
        have lb := HU.out.lt
        have zL : B ≤ (wr.alloc (.cells #[.int .i64 kl[k].op, .string kl[k].name, .int .i64 kl[k].n, .int .i64 kl[k].ty.kind, .string kl[k].ty.name, .slice xa xn xc, .slice ya yn yc] 27)).heap.size := by simp; omega
        have jl : Hid (l.length + (joinO O k).length + (if k = 0 then 0 else 2) + (O k).length ≤ 1000000000) := Lib.hid (by
          have h1 := HL.out
          have h2 := join_le O kl.length (k + 1) (by omega)
          rw [joinO] at h2
          simp only [List.length_append] at h2
          split
          · rename_i e; rw [if_pos e] at h2; simp at h2; omega
          · rename_i e; rw [if_neg e] at h2; simp at h2; omega)
        have S5 := hx5.frame (Same.alloc wr (.cells #[.int .i64 kl[k].op, .string kl[k].name, .int .i64 kl[k].n, .int .i64 kl[k].ty.kind, .string kl[k].ty.name, .slice xa xn xc, .slice ya yn yc] 27))
        have S6 := hx6.frame (Same.alloc wr (.cells #[.int .i64 kl[k].op, .string kl[k].name, .int .i64 kl[k].n, .int .i64 kl[k].ty.kind, .string kl[k].ty.name, .slice xa xn xc, .slice ya yn yc] 27))
        have HPk := Lib.hid (HP.out k hlt)
        by_cases hk0 : k = 0
        · subst hk0
          simp only [Nat.zero_mul, Nat.add_zero] at c0 c1 c2 c3 c4 c5 c6
          have HC0 := Lib.hid (HPk.out B b _ _ _ _ (HTB.out.kb (HKB.out.trans KL) hbB hB) uL zL S5 S6 (by have := jl.out; simp [joinO] at this ⊢; omega))
          go_wp2_with fail
          refine HC0.out.mono ?_
          rintro e w2 ⟨rfl, u2, k2⟩
          have HU2 : Hid (Bu B b (l ++ joinO O (0 + 1)) w2) := Lib.hid (by simpa [joinO] using u2)
          have HK2 := Lib.hid (HKB.out.trans (KL.trans k2))
          go_wp2_with fail
          go_roundw
          case rel => exact ⟨0 + 1, by omega, by go_num, HU2, HK2⟩
          case measure => simp [intOf]; omega
        · have i3 : 0 < k := by omega
          have HK0 := Lib.hid hk0
          have HS := Lib.hid (ws_any (⟨#[44, 32]⟩) uL (by have := jl.out; rw [if_neg hk0] at this; show _ + 2 ≤ _; rw [List.length_append]; omega) zL)
          clear hk0
          go_wp2_with fail
          refine HS.out.mono ?_
          rintro e w2 ⟨rfl, u2, k2⟩
          have bL2 := bL.kb k2 (by omega) (by decide)
          have gL : ∀ i, w2.cell? ⟨wr.heap.size, i, none⟩ = [Value.int .i64 kl[k].op, .string kl[k].name, .int .i64 kl[k].n, .int .i64 kl[k].ty.kind, .string kl[k].ty.name, .slice xa xn xc, .slice ya yn yc][i]? := bL2.cell
          have K2 := KL.trans k2
          have v2 : Bu B b (l ++ joinO O k ++ ([44, 32] : List UInt8)) w2 := u2
          have HC1 := Lib.hid (HPk.out B b _ w2 _ _ (HTB.out.kb (HKB.out.trans K2) hbB hB) v2 (Nat.le_trans hB (HKB.out.trans K2).size) (hx5.frame (Same.kb K2 hbB)) (hx6.frame (Same.kb K2 hbB)) (by have := jl.out; rw [if_neg HK0.out] at this; simp only [List.length_append, List.length_cons, List.length_nil]; omega))
          clear u2 v2
          go_wp2_with fail
          refine HC1.out.mono ?_
          rintro e w3 ⟨rfl, u3, k3⟩
          have HU2 : Hid (Bu B b (l ++ joinO O (k + 1)) w3) := Lib.hid (by rw [joinO, if_neg HK0.out]; simpa [List.append_assoc] using u3)
          have HK2 := Lib.hid (HKB.out.trans (K2.trans k3))
          go_wp2_with fail
          go_roundw
          case rel => exact ⟨k + 1, by omega, by go_num, HU2, HK2⟩
          case measure => simp [intOf]; omega
      · have hkk : k = kl.length := by omega
        subst hkk
        go_wp2_with fail
        first | go_end0 | refine bodyPost_ret (results_none rfl _ _ _) rfl ?_
        exact ⟨rfl, HU.out, HKB.out⟩
end Go.Proofs.YtckjlliobebodaaGreatDoor
