/- Texts Prt ShTy of this proof, in one. -/
import Derived.Test.YtfhedienjnfdcaaGreatDoorS8
import Derived.Test.YtfhedienjnfdcaaGreatDoorS11
import Derived.Deep.RegionHeld
set_option linter.unusedVariables false
set_option linter.unusedSimpArgs false
namespace Go.Proofs.YtfhedienjnfdcaaGreatDoor
open Go.RowKit
theorem ba_len (s : ByteArray) : s.data.toList.length = s.size := Array.length_toList
theorem TmL.two' {B : Nat} {w : World} {x y : Tm} {v : Value} (h : TmL (fun q => q < B) w [x, y] v) : ∃ g off cap k0 m0 k1 m1, v = .slice (some ⟨g, off, none⟩) 2 cap ∧ g < B ∧ (∀ j u, (tmCells x k0 m0 ++ tmCells y k1 m1)[j]? = some u → w.cell? ⟨g, off + j, none⟩ = some u) ∧ TyL (fun q => q < B) w x.ty.kids k0 ∧ TmL (fun q => q < B) w x.kids m0 ∧ TyL (fun q => q < B) w y.ty.kids k1 ∧ TmL (fun q => q < B) w y.kids m1 := by
  generalize hl : [x, y] = l at h
  cases h with
  | nil h => cases hl
  | mk K M hne hb hc hcell hk hm =>
    rename_i g off cap
    subst hl
    have h0 := hcell 0 (by simp)
    have h1 := hcell 1 (by simp)
    simp only [Nat.zero_mul, Nat.add_zero, Nat.one_mul, List.getElem_cons_zero, List.getElem_cons_succ] at h0 h1
    refine ⟨g, off, cap, K 0, M 0, K 1, M 1, rfl, hb, fun j u hj => ?_, hk 0 (by simp), hm 0 (by simp), hk 1 (by simp), hm 1 (by simp)⟩
    have hlt : j < 14 := (List.getElem?_eq_some_iff.1 hj).1
    rcases (show j = 0 ∨ j = 1 ∨ j = 2 ∨ j = 3 ∨ j = 4 ∨ j = 5 ∨ j = 6 ∨ j = 7 ∨ j = 8 ∨ j = 9 ∨ j = 10 ∨ j = 11 ∨ j = 12 ∨ j = 13 by omega) with rfl | rfl | rfl | rfl | rfl | rfl | rfl | rfl | rfl | rfl | rfl | rfl | rfl | rfl
    · cases hj; exact h0.1
    · cases hj; exact h0.2.1
    · cases hj; exact h0.2.2.1
    · cases hj; exact h0.2.2.2.1
    · cases hj; exact h0.2.2.2.2.1
    · cases hj; exact h0.2.2.2.2.2.1
    · cases hj; exact h0.2.2.2.2.2.2
    · cases hj; exact h1.1
    · cases hj; exact h1.2.1
    · cases hj; exact h1.2.2.1
    · cases hj; exact h1.2.2.2.1
    · cases hj; exact h1.2.2.2.2.1
    · cases hj; exact h1.2.2.2.2.2.1
    · cases hj; exact h1.2.2.2.2.2.2
set_option maxRecDepth 100000 in
set_option maxHeartbeats 8000000 in
theorem pt_bin {t x y : Tm} {ox oy : List UInt8} (hkids : t.kids = [x, y]) (hbin : ((binS t.op).toList == []) = false) (hx : OC x ox) (hy : OC y oy) : PC t (ox ++ ([32] ++ (binS t.op).data.toList ++ [32]) ++ oy) := by
  intro B b l w tk kk hb hB hty htm hlen
  obtain ⟨ta, tn, tc, rfl⟩ := hty.slice
  rw [hkids] at htm
  obtain ⟨g, off, cap, k0, m0, k1, m1, rfl, hgB, hcl, hx5, hx6, hy5, hy6⟩ := htm.two'
  obtain ⟨xa, xn, xc, rfl⟩ := hx5.slice
  obtain ⟨xb, xo, xd, rfl⟩ := hx6.slice
  obtain ⟨ya, yn, yc, rfl⟩ := hy5.slice
  obtain ⟨yb, yo, yd, rfl⟩ := hy6.slice
  unfold tmVal
  have K0 : Kept (fun _ => False) w (w.alloc (.cells #[.int .i64 t.op, .string t.name, .int .i64 t.n, .int .i64 t.ty.kind, .string t.ty.name, .slice ta tn tc, .slice (some ⟨g, off, none⟩) 2 cap] 28)) := (Kept.refl _ _).alloc _
  have bX : Blk (w.alloc (.cells #[.int .i64 t.op, .string t.name, .int .i64 t.n, .int .i64 t.ty.kind, .string t.ty.name, .slice ta tn tc, .slice (some ⟨g, off, none⟩) 2 cap] 28)) w.heap.size 28 (tmCells t (.slice ta tn tc) (.slice (some ⟨g, off, none⟩) 2 cap)) := Blk.new w 28 _
  have hbl := hb.lt
  have hbB := hb.le
  have HBI := Lib.hid (binary_any t.op)
  have HL : Hid (l.length + ox.length + (binS t.op).size + oy.length + 2 ≤ 1000000000) := Lib.hid (by simp at hlen; have : (binS t.op).data.size = (binS t.op).size := rfl; omega)
  have HX := Lib.hid hx
  have HY := Lib.hid hy
  have HCL := Lib.hid hcl
  have HGB := Lib.hid hgB
  clear hlen hx hy hcl hkids htm hgB
  go_enter Tryz.func95, Tryz.ntmps95
  go_wp2_with fail
  refine (HBI.out _).mono ?_
  rintro e w1 ⟨rfl, k1'⟩
  have K1 := K0.trans k1'
  have b1 := bX.kept k1' (fun h => h)
  have g6 : w1.cell? ⟨w.heap.size, 6, none⟩ = some (.slice (some ⟨g, off, none⟩) 2 cap) := b1.cell 6
  have S1 : Same (fun q => q < B) w w1 := Same.of_kept K1 (fun _ _ e => e)
  have hc1 : Hid (∀ j u, (tmCells x (.slice xa xn xc) (.slice xb xo xd) ++ tmCells y (.slice ya yn yc) (.slice yb yo yd))[j]? = some u → w1.cell? ⟨g, off + j, none⟩ = some u) := Lib.hid (fun j u h => S1.cell HGB.out (HCL.out j u h))
  have c0 : w1.cell? ⟨g, off, none⟩ = some (.int .i64 x.op) := hc1.out 0 _ rfl
  have c1 : w1.cell? ⟨g, off + 1, none⟩ = some (.string x.name) := hc1.out 1 _ rfl
  have c2 : w1.cell? ⟨g, off + 2, none⟩ = some (.int .i64 x.n) := hc1.out 2 _ rfl
  have c3 : w1.cell? ⟨g, off + 3, none⟩ = some (.int .i64 x.ty.kind) := hc1.out 3 _ rfl
  have c4 : w1.cell? ⟨g, off + 4, none⟩ = some (.string x.ty.name) := hc1.out 4 _ rfl
  have c5 : w1.cell? ⟨g, off + 5, none⟩ = some (.slice xa xn xc) := hc1.out 5 _ rfl
  have c6 : w1.cell? ⟨g, off + 6, none⟩ = some (.slice xb xo xd) := hc1.out 6 _ rfl
  have HC1 := Lib.hid (HX.out B b l w1 _ _ (hb.kept K1) (Nat.le_trans hB K1.size) (hx5.frame S1) (hx6.frame S1) (by have := HL.out; omega))
  go_wp2_with fail
  refine HC1.out.mono ?_
  rintro e w2 ⟨rfl, u2, k2⟩
  have K2 : KB b B w w2 := (KB.of_kept K1).trans k2
  have b2 := b1.kb k2 (by omega) (by decide)
  have y6 : w2.cell? ⟨w.heap.size, 6, none⟩ = some (.slice (some ⟨g, off, none⟩) 2 cap) := b2.cell 6
  clear c0 c1 c2 c3 c4 c5 c6 g6
  have hsz : (⟨#[32]⟩ ++ binS t.op ++ ⟨#[32]⟩ : ByteArray).size = (binS t.op).size + 2 := by simp [ByteArray.size_append]; show 1 + (binS t.op).size + 1 = _; omega
  have HS := Lib.hid (ws_any (⟨#[32]⟩ ++ binS t.op ++ ⟨#[32]⟩) u2 (by have := HL.out; rw [hsz, List.length_append]; omega) (Nat.le_trans hB K2.size))
  clear hsz
  have hbz : (binS t.op).size ≤ 1000000000 := by have := HL.out; omega
  go_wp2_with fail
  refine HS.out.mono ?_
  rintro e w3 ⟨rfl, u3, k3⟩
  have K3 := K2.trans k3
  have b3 := b2.kb k3 (by omega) (by decide)
  have z6 : w3.cell? ⟨w.heap.size, 6, none⟩ = some (.slice (some ⟨g, off, none⟩) 2 cap) := b3.cell 6
  have S3 : Same (fun q => q < B) w w3 := Same.kb K3 hbB
  have hc3 : Hid (∀ j u, (tmCells x (.slice xa xn xc) (.slice xb xo xd) ++ tmCells y (.slice ya yn yc) (.slice yb yo yd))[j]? = some u → w3.cell? ⟨g, off + j, none⟩ = some u) := Lib.hid (fun j u h => S3.cell HGB.out (HCL.out j u h))
  have c0 : w3.cell? ⟨g, off + 7, none⟩ = some (.int .i64 y.op) := hc3.out 7 _ rfl
  have c1 : w3.cell? ⟨g, off + 8, none⟩ = some (.string y.name) := hc3.out 8 _ rfl
  have c2 : w3.cell? ⟨g, off + 9, none⟩ = some (.int .i64 y.n) := hc3.out 9 _ rfl
  have c3 : w3.cell? ⟨g, off + 10, none⟩ = some (.int .i64 y.ty.kind) := hc3.out 10 _ rfl
  have c4 : w3.cell? ⟨g, off + 11, none⟩ = some (.string y.ty.name) := hc3.out 11 _ rfl
  have c5 : w3.cell? ⟨g, off + 12, none⟩ = some (.slice ya yn yc) := hc3.out 12 _ rfl
  have c6 : w3.cell? ⟨g, off + 13, none⟩ = some (.slice yb yo yd) := hc3.out 13 _ rfl
  have hdl : (⟨#[32]⟩ ++ binS t.op ++ ⟨#[32]⟩ : ByteArray).data.toList = [32] ++ (binS t.op).data.toList ++ [32] := by simp [ByteArray.data_append]
  rw [hdl] at u3
  have HC3 := Lib.hid (HY.out B b _ w3 _ _ u3 (Nat.le_trans hB K3.size) (hy5.frame S3) (hy6.frame S3) (by have := HL.out; simp only [List.length_append, List.length_cons, List.length_nil, ba_len]; omega))
  clear hdl y6
  go_wp2_with fail
  refine HC3.out.mono ?_
  rintro e w4 ⟨rfl, u4, k4⟩
  go_wp2_with fail
  first | go_end0 | refine bodyPost_ret (results_none rfl _ _ _) rfl ?_
  exact ⟨rfl, by simpa using u4, K3.trans k4⟩
set_option maxRecDepth 100000 in
set_option maxHeartbeats 8000000 in
theorem pt_name {nm : ByteArray} {N : Int} {ty : Ty} {kl : List Tm}  : PC (.mk 20 nm N ty kl) nm.data.toList := by
  intro B b l w tk kk hb hB hty htm hlen
  have HB0 : Hid (binS 20 = ⟨#[]⟩) := Lib.hid (by decide)
  have HKY : Hid (∀ W, Calls Tryz.prog 155 #[.int .i64 20] W fun e w' => e = .returned (.string ⟨#[]⟩) ∧ Kept (fun _ => False) W w') := Lib.hid (fun W => keyed_any 20 W)
  obtain ⟨ta, tn, tc, rfl⟩ := hty.slice
  obtain ⟨ma, mn, mc, rfl⟩ := htm.slice
  unfold tmVal
  have hty' : TyL (fun q => q < B) w ty.kids (.slice ta tn tc) := hty
  have htm' : TmL (fun q => q < B) w kl (.slice ma mn mc) := htm
  clear hty htm
  simp only [Tm.op, Tm.name, Tm.n, Tm.ty, Tm.kids]
  have K0 : Kept (fun _ => False) w (w.alloc (.cells #[.int .i64 20, .string nm, .int .i64 N, .int .i64 ty.kind, .string ty.name, .slice ta tn tc, .slice ma mn mc] 28)) := (Kept.refl _ _).alloc _
  have bX : Blk (w.alloc (.cells #[.int .i64 20, .string nm, .int .i64 N, .int .i64 ty.kind, .string ty.name, .slice ta tn tc, .slice ma mn mc] 28)) w.heap.size 28 [.int .i64 20, .string nm, .int .i64 N, .int .i64 ty.kind, .string ty.name, .slice ta tn tc, .slice ma mn mc] := Blk.new w 28 _
  have hbl := hb.lt
  have hbB := hb.le
  have HBI : Hid (∀ W, Calls Tryz.prog 152 #[.int .i64 20] W fun e w' => e = .returned (.string ⟨#[]⟩) ∧ Kept (fun _ => False) W w') := Lib.hid (fun W => (binary_any 20 W).mono fun e w' ⟨h1, h2⟩ => ⟨by rw [h1, HB0.out], h2⟩)
  have HL := Lib.hid hlen
  clear hlen
  go_enter Tryz.func95, Tryz.ntmps95
  go_wp2_with fail
  refine (HBI.out _).mono ?_
  rintro e w1 ⟨rfl, k1⟩
  have K1 := K0.trans k1
  have b1 := bX.kept k1 (fun h => h)
  have g0 : w1.cell? ⟨w.heap.size, 0, none⟩ = some (.int .i64 20) := b1.cell 0
  go_wp2_with fail
  go_region_held3 (fun w' => w'.cell? ⟨w.heap.size, 0, none⟩ = some (.int .i64 20)) (go_keep)
    (first | (go_at_call 155; refine (HKY.out w1.drew).mono ?_; rintro e w2 ⟨rfl, k2'⟩; have k2 : Kept (fun _ => False) w1 w2 := ((Kept.refl _ _).drew).trans k2'; have b2 := b1.kept k2 (fun h => h); have g2 : w2.cell? ⟨w.heap.size, 0, none⟩ = some (.int .i64 20) := b2.cell 0; have K2 := K1.trans k2; have u2 := hb.kept K2) | (go_at_call 154; refine (ws_any _ u2 (by have := HL.out; simp only [ByteArray.size]; simp at this ⊢; omega) (Nat.le_trans hB K2.size)).mono ?_; rintro e w3 ⟨rfl, u3, k3⟩; have b3 := b2.kb k3 (by omega) (by decide); have g3 : w3.cell? ⟨w.heap.size, 0, none⟩ = some (.int .i64 20) := b3.cell 0))
  have K3 : KB b B w w3 := (KB.of_kept K2).trans k3
  have V3 := Lib.hid u3
  have g1x : w3.cell? ⟨w.heap.size, 1, none⟩ = some (.string nm) := b3.cell 1
  clear g0 g2 g3
  go_wp2_with fail
  go_region_held3 (fun w' => w'.cell? ⟨w.heap.size, 1, none⟩ = some (.string nm)) (go_keep)
    (first | (go_at_call 154; refine (ws_any nm (l := l) (w := w3.drew) (by have := V3.out.kept ((Kept.refl _ _).drew); simpa using this) (by have := HL.out; rw [ba_len] at this; exact this) (Nat.le_trans hB K3.size)).mono ?_; rintro e w4 ⟨rfl, u4, k4⟩; have b4 := b3.kb (((KB.refl b B w3).drew).trans k4) (by omega) (by decide); have g4x : w4.cell? ⟨w.heap.size, 1, none⟩ = some (.string nm) := b4.cell 1))
  go_wp2_with fail
  first | go_end0 | refine bodyPost_ret (results_none rfl _ _ _) rfl ?_
  exact ⟨rfl, u4, K3.trans (((KB.refl b B w3).drew).trans k4)⟩
set_option maxRecDepth 100000 in
set_option maxHeartbeats 8000000 in
theorem pt_int {nm : ByteArray} {N : Int} {ty : Ty} {kl : List Tm} {ds : ByteArray} (hIT : ∀ W : World, Calls Tryz.prog 100 #[.int .i64 N] W fun e w' => e = .returned (.string ds) ∧ W = w') : PC (.mk 19 nm N ty kl) ds.data.toList := by
  intro B b l w tk kk hb hB hty htm hlen
  have HB0 : Hid (binS 19 = ⟨#[]⟩) := Lib.hid (by decide)
  have HKY : Hid (∀ W, Calls Tryz.prog 155 #[.int .i64 19] W fun e w' => e = .returned (.string ⟨#[]⟩) ∧ Kept (fun _ => False) W w') := Lib.hid (fun W => keyed_any 19 W)
  have HIT := Lib.hid hIT
  clear hIT
  obtain ⟨ta, tn, tc, rfl⟩ := hty.slice
  obtain ⟨ma, mn, mc, rfl⟩ := htm.slice
  unfold tmVal
  have hty' : TyL (fun q => q < B) w ty.kids (.slice ta tn tc) := hty
  have htm' : TmL (fun q => q < B) w kl (.slice ma mn mc) := htm
  clear hty htm
  simp only [Tm.op, Tm.name, Tm.n, Tm.ty, Tm.kids]
  have K0 : Kept (fun _ => False) w (w.alloc (.cells #[.int .i64 19, .string nm, .int .i64 N, .int .i64 ty.kind, .string ty.name, .slice ta tn tc, .slice ma mn mc] 28)) := (Kept.refl _ _).alloc _
  have bX : Blk (w.alloc (.cells #[.int .i64 19, .string nm, .int .i64 N, .int .i64 ty.kind, .string ty.name, .slice ta tn tc, .slice ma mn mc] 28)) w.heap.size 28 [.int .i64 19, .string nm, .int .i64 N, .int .i64 ty.kind, .string ty.name, .slice ta tn tc, .slice ma mn mc] := Blk.new w 28 _
  have hbl := hb.lt
  have hbB := hb.le
  have HBI : Hid (∀ W, Calls Tryz.prog 152 #[.int .i64 19] W fun e w' => e = .returned (.string ⟨#[]⟩) ∧ Kept (fun _ => False) W w') := Lib.hid (fun W => (binary_any 19 W).mono fun e w' ⟨h1, h2⟩ => ⟨by rw [h1, HB0.out], h2⟩)
  have HL := Lib.hid hlen
  clear hlen
  go_enter Tryz.func95, Tryz.ntmps95
  go_wp2_with fail
  refine (HBI.out _).mono ?_
  rintro e w1 ⟨rfl, k1⟩
  have K1 := K0.trans k1
  have b1 := bX.kept k1 (fun h => h)
  have g0 : w1.cell? ⟨w.heap.size, 0, none⟩ = some (.int .i64 19) := b1.cell 0
  go_wp2_with fail
  go_region_held3 (fun w' => w'.cell? ⟨w.heap.size, 0, none⟩ = some (.int .i64 19)) (go_keep)
    (first | (go_at_call 155; refine (HKY.out w1.drew).mono ?_; rintro e w2 ⟨rfl, k2'⟩; have k2 : Kept (fun _ => False) w1 w2 := ((Kept.refl _ _).drew).trans k2'; have b2 := b1.kept k2 (fun h => h); have g2 : w2.cell? ⟨w.heap.size, 0, none⟩ = some (.int .i64 19) := b2.cell 0; have K2 := K1.trans k2; have u2 := hb.kept K2) | (go_at_call 154; refine (ws_any _ u2 (by have := HL.out; simp only [ByteArray.size]; simp at this ⊢; omega) (Nat.le_trans hB K2.size)).mono ?_; rintro e w3 ⟨rfl, u3, k3⟩; have b3 := b2.kb k3 (by omega) (by decide); have g3 : w3.cell? ⟨w.heap.size, 0, none⟩ = some (.int .i64 19) := b3.cell 0))
  have K3 : KB b B w w3 := (KB.of_kept K2).trans k3
  have V3 := Lib.hid u3
  have g2x : w3.cell? ⟨w.heap.size, 2, none⟩ = some (.int .i64 N) := b3.cell 2
  clear g0 g2 g3
  go_wp2_with fail
  go_region_held3 (fun w' => w'.cell? ⟨w.heap.size, 2, none⟩ = some (.int .i64 N)) (go_keep)
    (first | (go_at_call 100; refine (HIT.out _).mono ?_; rintro e w' ⟨rfl, rfl⟩) | (go_at_call 154; refine (ws_any ds (l := l) (w := w3.drew) (by have := V3.out.kept ((Kept.refl _ _).drew); simpa using this) (by have := HL.out; rw [ba_len] at this; exact this) (Nat.le_trans hB K3.size)).mono ?_; rintro e w4 ⟨rfl, u4, k4⟩; have b4 := b3.kb (((KB.refl b B w3).drew).trans k4) (by omega) (by decide); have g4x : w4.cell? ⟨w.heap.size, 2, none⟩ = some (.int .i64 N) := b4.cell 2))
  go_wp2_with fail
  first | go_end0 | refine bodyPost_ret (results_none rfl _ _ _) rfl ?_
  exact ⟨rfl, u4, K3.trans (((KB.refl b B w3).drew).trans k4)⟩
def joinO (O : Nat → List UInt8) : Nat → List UInt8
  | 0 => []
  | k + 1 => joinO O k ++ (if k = 0 then [] else [44, 32]) ++ O k
theorem join_le (O : Nat → List UInt8) (n : Nat) : ∀ k, k ≤ n → (joinO O k).length ≤ (joinO O n).length := by
  induction n with
  | zero => intro k h; have : k = 0 := by omega
            subst this; exact Nat.le_refl _
  | succ n ih =>
    intro k h
    by_cases e : k = n + 1
    · subst e; exact Nat.le_refl _
    · have := ih k (by omega)
      rw [joinO]; simp only [List.length_append]; omega
def LC (kl : List Tm) (out : List UInt8) : Prop := ∀ (B b : Nat) (l : List UInt8) (w : World) (kk : Value), Bu B b l w → B ≤ w.heap.size → TmL (fun q => q < B) w kl kk → l.length + out.length ≤ 1000000000 →
  Calls Tryz.prog 159 #[.pointer (some ⟨b, 0, none⟩), kk] w (PP B b (l ++ out) w)
set_option maxRecDepth 100000 in
set_option maxHeartbeats 8000000 in
theorem list_one {kl : List Tm} {O : Nat → List UInt8} (hp : ∀ i (h : i < kl.length), PC kl[i] (O i)) (hkl : kl.length ≤ 1) : LC kl (joinO O kl.length) := by
  intro B b l w kk hb hB htm hlen
  have HP := Lib.hid hp
  have HL := Lib.hid hlen
  clear hp hlen
  have hbl := hb.lt
  have hbB := hb.le
  cases htm with
  | nil he =>
    rcases he with rfl | ⟨ad, c, rfl⟩
    all_goals
      go_enter Tryz.func159, Tryz.ntmps159
      go_wp2_with fail
      go_loop [8] (fun i => i = .int .i64 0) (fun i => 0)
      case atStart => rfl
      case round =>
        subst hrel
        go_wp2_with fail
        first | go_end0 | refine bodyPost_ret (results_none rfl _ _ _) rfl ?_
        exact ⟨rfl, by simpa [joinO] using hb, KB.refl _ _ _⟩
  | mk K M hne hgB hcap hcell hk hm =>
    rename_i g off cap
    have HC := Lib.hid hcell
    have HK := Lib.hid hk
    have HM := Lib.hid hm
    have HGB := Lib.hid hgB
    clear hcell hk hm hgB
    go_enter Tryz.func159, Tryz.ntmps159
    go_wp2_with fail
    go_loopw [8] (fun i wr => ∃ k : Nat, k ≤ kl.length ∧ i = .int .i64 k ∧ Hid (Bu B b (l ++ joinO O k) wr) ∧ Hid (KB b B w wr)) (fun i _ => kl.length - (intOf i).toNat)
    case atStart => exact ⟨0, Nat.zero_le _, rfl, Lib.hid (by simpa [joinO] using hb), Lib.hid (KB.refl _ _ _)⟩
    case round =>
      obtain ⟨k, hkl2, rfl, HU, HKB⟩ := hrel
      by_cases hlt : k < kl.length
      · have Sr : Same (fun q => q < B) w wr := Same.kb HKB.out hbB
        obtain ⟨xa, xn, xc, hKk⟩ := (HK.out k hlt).slice
        obtain ⟨ya, yn, yc, hMk⟩ := (HM.out k hlt).slice
        have c0 : wr.cell? ⟨g, off + k * 7, none⟩ = some (.int .i64 kl[k].op) := by have cc := Sr.cell HGB.out (HC.out k hlt).1; exact cc
        have c1 : wr.cell? ⟨g, off + k * 7 + 1, none⟩ = some (.string kl[k].name) := by have cc := Sr.cell HGB.out (HC.out k hlt).2.1; exact cc
        have c2 : wr.cell? ⟨g, off + k * 7 + 2, none⟩ = some (.int .i64 kl[k].n) := by have cc := Sr.cell HGB.out (HC.out k hlt).2.2.1; exact cc
        have c3 : wr.cell? ⟨g, off + k * 7 + 3, none⟩ = some (.int .i64 kl[k].ty.kind) := by have cc := Sr.cell HGB.out (HC.out k hlt).2.2.2.1; exact cc
        have c4 : wr.cell? ⟨g, off + k * 7 + 4, none⟩ = some (.string kl[k].ty.name) := by have cc := Sr.cell HGB.out (HC.out k hlt).2.2.2.2.1; exact cc
        have c5 : wr.cell? ⟨g, off + k * 7 + 5, none⟩ = some (.slice xa xn xc) := by have cc := Sr.cell HGB.out (HC.out k hlt).2.2.2.2.2.1; rw [hKk] at cc; exact cc
        have c6 : wr.cell? ⟨g, off + k * 7 + 6, none⟩ = some (.slice ya yn yc) := by have cc := Sr.cell HGB.out (HC.out k hlt).2.2.2.2.2.2; rw [hMk] at cc; exact cc
        have hx5 : TyL (fun q => q < B) wr kl[k].ty.kids (.slice xa xn xc) := by rw [← hKk]; exact (HK.out k hlt).frame Sr
        have hx6 : TmL (fun q => q < B) wr kl[k].kids (.slice ya yn yc) := by rw [← hMk]; exact (HM.out k hlt).frame Sr
        clear hKk hMk
        have i1 : (k : Int) < (kl.length : Int) := by omega
        have i2 : (k : Int) < 2000000 := by omega
        have hsz := HKB.out.size
        have bL : Blk (wr.alloc (.cells #[.int .i64 kl[k].op, .string kl[k].name, .int .i64 kl[k].n, .int .i64 kl[k].ty.kind, .string kl[k].ty.name, .slice xa xn xc, .slice ya yn yc] 28)) wr.heap.size 28 (tmCells kl[k] (.slice xa xn xc) (.slice ya yn yc)) := Blk.new wr 28 _
        have KL : KB b B wr (wr.alloc (.cells #[.int .i64 kl[k].op, .string kl[k].name, .int .i64 kl[k].n, .int .i64 kl[k].ty.kind, .string kl[k].ty.name, .slice xa xn xc, .slice ya yn yc] 28)) := (KB.refl _ _ _).alloc _
        have uL : Bu B b (l ++ joinO O k) (wr.alloc (.cells #[.int .i64 kl[k].op, .string kl[k].name, .int .i64 kl[k].n, .int .i64 kl[k].ty.kind, .string kl[k].ty.name, .slice xa xn xc, .slice ya yn yc] 28)) := HU.out.kept ((Kept.refl _ _).alloc _)
        have lb := HU.out.lt
        have zL : B ≤ (wr.alloc (.cells #[.int .i64 kl[k].op, .string kl[k].name, .int .i64 kl[k].n, .int .i64 kl[k].ty.kind, .string kl[k].ty.name, .slice xa xn xc, .slice ya yn yc] 28)).heap.size := by simp; omega
        have jl : Hid (l.length + (joinO O k).length + (if k = 0 then 0 else 2) + (O k).length ≤ 1000000000) := Lib.hid (by
          have h1 := HL.out
          have h2 := join_le O kl.length (k + 1) (by omega)
          rw [joinO] at h2
          simp only [List.length_append] at h2
          split
          · rename_i e; rw [if_pos e] at h2; simp at h2; omega
          · rename_i e; rw [if_neg e] at h2; simp at h2; omega)
        have S5 := hx5.frame (Same.alloc wr (.cells #[.int .i64 kl[k].op, .string kl[k].name, .int .i64 kl[k].n, .int .i64 kl[k].ty.kind, .string kl[k].ty.name, .slice xa xn xc, .slice ya yn yc] 28))
        have S6 := hx6.frame (Same.alloc wr (.cells #[.int .i64 kl[k].op, .string kl[k].name, .int .i64 kl[k].n, .int .i64 kl[k].ty.kind, .string kl[k].ty.name, .slice xa xn xc, .slice ya yn yc] 28))
        have HPk := Lib.hid (HP.out k hlt)
        by_cases hk0 : k = 0
        · subst hk0
          simp only [Nat.zero_mul, Nat.add_zero] at c0 c1 c2 c3 c4 c5 c6
          have HC0 := Lib.hid (HPk.out B b _ _ _ _ uL zL S5 S6 (by have := jl.out; simp [joinO] at this ⊢; omega))
          go_wp2_with fail
          refine HC0.out.mono ?_
          rintro e w2 ⟨rfl, u2, k2⟩
          have HU2 : Hid (Bu B b (l ++ joinO O (0 + 1)) w2) := Lib.hid (by simpa [joinO] using u2)
          have HK2 := Lib.hid (HKB.out.trans (KL.trans k2))
          go_wp2_with fail
          go_roundw
          case rel => exact ⟨0 + 1, by omega, by go_num, HU2, HK2⟩
          case measure => simp [intOf]; omega
        · exact absurd hlt (by omega)
      · have hkk : k = kl.length := by omega
        subst hkk
        go_wp2_with fail
        first | go_end0 | refine bodyPost_ret (results_none rfl _ _ _) rfl ?_
        exact ⟨rfl, HU.out, HKB.out⟩
set_option maxRecDepth 100000 in
set_option maxHeartbeats 8000000 in
theorem pt_card {nm : ByteArray} {N : Int} {ty : Ty} {kl : List Tm} {out : List UInt8} (hl : LC kl out) : PC (.mk 47 nm N ty kl) ([99, 97, 114, 100] ++ ([40] ++ out ++ [41])) := by
  intro B b l w tk kk hb hB hty htm hlen
  have HB0 : Hid (binS 47 = ⟨#[]⟩) := Lib.hid (by decide)
  have HKY : Hid (∀ W, Calls Tryz.prog 155 #[.int .i64 47] W fun e w' => e = .returned (.string ⟨#[99, 97, 114, 100]⟩) ∧ Kept (fun _ => False) W w') := Lib.hid (fun W => keyed_any 47 W)
  have HLC := Lib.hid hl
  clear hl
  obtain ⟨ta, tn, tc, rfl⟩ := hty.slice
  obtain ⟨ma, mn, mc, rfl⟩ := htm.slice
  unfold tmVal
  have hty' : TyL (fun q => q < B) w ty.kids (.slice ta tn tc) := hty
  have htm' : TmL (fun q => q < B) w kl (.slice ma mn mc) := htm
  clear hty htm
  simp only [Tm.op, Tm.name, Tm.n, Tm.ty, Tm.kids]
  have K0 : Kept (fun _ => False) w (w.alloc (.cells #[.int .i64 47, .string nm, .int .i64 N, .int .i64 ty.kind, .string ty.name, .slice ta tn tc, .slice ma mn mc] 28)) := (Kept.refl _ _).alloc _
  have bX : Blk (w.alloc (.cells #[.int .i64 47, .string nm, .int .i64 N, .int .i64 ty.kind, .string ty.name, .slice ta tn tc, .slice ma mn mc] 28)) w.heap.size 28 [.int .i64 47, .string nm, .int .i64 N, .int .i64 ty.kind, .string ty.name, .slice ta tn tc, .slice ma mn mc] := Blk.new w 28 _
  have hbl := hb.lt
  have hbB := hb.le
  have HBI : Hid (∀ W, Calls Tryz.prog 152 #[.int .i64 47] W fun e w' => e = .returned (.string ⟨#[]⟩) ∧ Kept (fun _ => False) W w') := Lib.hid (fun W => (binary_any 47 W).mono fun e w' ⟨h1, h2⟩ => ⟨by rw [h1, HB0.out], h2⟩)
  have HL := Lib.hid hlen
  clear hlen
  go_enter Tryz.func95, Tryz.ntmps95
  go_wp2_with fail
  refine (HBI.out _).mono ?_
  rintro e w1 ⟨rfl, k1⟩
  have K1 := K0.trans k1
  have b1 := bX.kept k1 (fun h => h)
  have g0 : w1.cell? ⟨w.heap.size, 0, none⟩ = some (.int .i64 47) := b1.cell 0
  go_wp2_with fail
  go_region_held3 (fun w' => w'.cell? ⟨w.heap.size, 0, none⟩ = some (.int .i64 47)) (go_keep)
    (first | (go_at_call 155; refine (HKY.out w1.drew).mono ?_; rintro e w2 ⟨rfl, k2'⟩; have k2 : Kept (fun _ => False) w1 w2 := ((Kept.refl _ _).drew).trans k2'; have b2 := b1.kept k2 (fun h => h); have g2 : w2.cell? ⟨w.heap.size, 0, none⟩ = some (.int .i64 47) := b2.cell 0; have K2 := K1.trans k2; have u2 := hb.kept K2) | (go_at_call 154; refine (ws_any _ u2 (by have := HL.out; simp only [ByteArray.size]; simp at this ⊢; omega) (Nat.le_trans hB K2.size)).mono ?_; rintro e w3 ⟨rfl, u3, k3⟩; have b3 := b2.kb k3 (by omega) (by decide); have g3 : w3.cell? ⟨w.heap.size, 0, none⟩ = some (.int .i64 47) := b3.cell 0))
  have K3 : KB b B w w3 := (KB.of_kept K2).trans k3
  have hlen2 : Hid (l.length + out.length + 10 ≤ 1000000010) := Lib.hid (by have := HL.out; simp at this; omega)
  have HL2 : Hid (l.length + 4 + out.length + 2 ≤ 1000000000) := Lib.hid (by have := HL.out; simp at this; omega)
  have V3 := Lib.hid u3
  have HW := Lib.hid (wb_any (40 : UInt8) (ci := 40) rfl u3 (by have := HL2.out; simp; omega) (Nat.le_trans hB K3.size))
  clear u3
  go_wp2_with fail
  refine HW.out.mono ?_
  rintro e w4 ⟨rfl, u4, k4⟩
  have K4 := K3.trans k4
  have b4 := b3.kb k4 (by omega) (by decide)
  have g46 : w4.cell? ⟨w.heap.size, 6, none⟩ = some (.slice ma mn mc) := b4.cell 6
  have HC := Lib.hid (HLC.out B b _ w4 _ u4 (Nat.le_trans hB K4.size) (htm'.frame (Same.kb K4 hbB)) (by have := HL2.out; simp; omega))
  clear g0 g2 g3
  go_wp2_with fail
  refine HC.out.mono ?_
  rintro e w5 ⟨rfl, u5, k5⟩
  have K5 := K4.trans k5
  have HW5 := Lib.hid (wb_any (41 : UInt8) (ci := 41) rfl u5 (by have := HL2.out; simp; omega) (Nat.le_trans hB K5.size))
  go_wp2_with fail
  refine HW5.out.mono ?_
  rintro e w6 ⟨rfl, u6, k6⟩
  go_wp2_with fail
  first | go_end0 | refine bodyPost_ret (results_none rfl _ _ _) rfl ?_
  exact ⟨rfl, by simpa using u6, K5.trans k6⟩
theorem TyL.one' {ok : Nat → Prop} {w : World} {x : Ty} {v : Value} (h : TyL ok w [x] v) : ∃ g off cap k0, v = .slice (some ⟨g, off, none⟩) 1 cap ∧ ok g ∧ w.cell? ⟨g, off, none⟩ = some (.int .i64 x.kind) ∧ w.cell? ⟨g, off + 1, none⟩ = some (.string x.name) ∧ w.cell? ⟨g, off + 2, none⟩ = some k0 ∧ TyL ok w x.kids k0 := by
  generalize hl : [x] = l at h
  cases h with
  | nil h => cases hl
  | mk K hne hb hc hcell hk =>
    rename_i g off cap
    subst hl
    have h0 := hcell 0 (by simp)
    exact ⟨g, off, cap, K 0, rfl, hb, by simpa using h0.1, by simpa using h0.2.1, by simpa using h0.2.2, hk 0 (by simp)⟩
theorem TyL.two' {ok : Nat → Prop} {w : World} {x y : Ty} {v : Value} (h : TyL ok w [x, y] v) : ∃ g off cap k0 k1, v = .slice (some ⟨g, off, none⟩) 2 cap ∧ ok g ∧ w.cell? ⟨g, off, none⟩ = some (.int .i64 x.kind) ∧ w.cell? ⟨g, off + 1, none⟩ = some (.string x.name) ∧ w.cell? ⟨g, off + 2, none⟩ = some k0 ∧ w.cell? ⟨g, off + 3, none⟩ = some (.int .i64 y.kind) ∧ w.cell? ⟨g, off + 4, none⟩ = some (.string y.name) ∧ w.cell? ⟨g, off + 5, none⟩ = some k1 ∧ TyL ok w x.kids k0 ∧ TyL ok w y.kids k1 := by
  generalize hl : [x, y] = l at h
  cases h with
  | nil h => cases hl
  | mk K hne hb hc hcell hk =>
    rename_i g off cap
    subst hl
    have h0 := hcell 0 (by simp)
    have h1 := hcell 1 (by simp)
    exact ⟨g, off, cap, K 0, K 1, rfl, hb, by simpa using h0.1, by simpa using h0.2.1, by simpa using h0.2.2, by simpa using h1.1, by simpa using h1.2.1, by simpa using h1.2.2, hk 0 (by simp), hk 1 (by simp)⟩
end Go.Proofs.YtfhedienjnfdcaaGreatDoor
