/- Texts RSw1 of this proof, in one. -/
import Derived.Test.YtckjlliobebodaaGreatDoorBd13
import Derived.Deep.RegionHeld
set_option linter.unusedVariables false
set_option linter.unusedSimpArgs false
namespace Go.Proofs.YtckjlliobebodaaGreatDoor
open Go.RowKit
set_option maxRecDepth 100000 in
set_option maxHeartbeats 16000000 in
theorem rw_not {nm : ByteArray} {N : Int} {ty : Ty} {x : Tm} {ox : List UInt8} (hx : RO x ox) : RS (.mk 3 nm N ty [x]) (([110, 111, 116, 32] : List UInt8) ++ ox) := by
  intro w ok tk kk hty htm hlen
  have htm0 : TmL ok w [x] kk := htm
  obtain ⟨g, off, cap, k0, m0, rfl, hg, hcl, hx5, hx6⟩ := htm0.oneK
  obtain ⟨xa, xn, xc, rfl⟩ := hx5.slice
  obtain ⟨xb, xo, xd, rfl⟩ := hx6.slice
  obtain ⟨ta, tn, tc, rfl⟩ := hty.slice
  obtain ⟨so, hso⟩ : ∃ so, so = str (([110, 111, 116, 32] : List UInt8) ++ ox) := ⟨_, rfl⟩
  change Calls Tryz.prog 56 #[.agg #[.int .i64 3, .string nm, .int .i64 N, .int .i64 ty.kind, .string ty.name, .slice ta tn tc, .slice (some ⟨g, off, none⟩) 1 cap]] w fun e w' => e = .returned (.string (str (([110, 111, 116, 32] : List UInt8) ++ ox))) ∧ Kept (fun _ => False) w w'
  rw [← hso]
  have HSO := Lib.hid hso
  clear hso
  have bA : Blk (w.alloc (.cells #[.int .i64 3, .string nm, .int .i64 N, .int .i64 ty.kind, .string ty.name, .slice ta tn tc, .slice (some ⟨g, off, none⟩) 1 cap] 27)) w.heap.size 27 [.int .i64 3, .string nm, .int .i64 N, .int .i64 ty.kind, .string ty.name, .slice ta tn tc, .slice (some ⟨g, off, none⟩) 1 cap] := Blk.new w 27 _
  have K0 : Kept (fun _ => False) w (w.alloc (.cells #[.int .i64 3, .string nm, .int .i64 N, .int .i64 ty.kind, .string ty.name, .slice ta tn tc, .slice (some ⟨g, off, none⟩) 1 cap] 27)) := (Kept.refl _ _).alloc _
  have HLN : Hid ((([110, 111, 116, 32] : List UInt8) ++ ox).length ≤ 100000000) := Lib.hid hlen
  have HZx : Hid (ox.length ≤ 100000000) := Lib.hid (by (try simp only [List.length_append] at hlen); omega)
  clear hlen
  have HX := Lib.hid (fun W (k : Kept (fun _ => False) w W) => hx W ok _ _ (hx5.frame (Same.of_kept (ok := ok) k (fun _ _ e => e))) (hx6.frame (Same.of_kept (ok := ok) k (fun _ _ e => e))) HZx.out)
  have hzx : (str ox).size ≤ 100000000 := by rw [str_size]; exact HZx.out
  generalize hsx : str ox = sx at *
  have HSx := Lib.hid hsx
  clear hsx hx
  unfold tmVal at HX
  have HT : Hid (so = ⟨#[110, 111, 116, 32]⟩ ++ sx) := Lib.hid (by
    rw [HSO.out, ← str_app, HSx.out]
    rfl)
  go_enter Tryz.func56, Tryz.ntmps56
  have hx : ∀ j u, (tmCells x (.slice xa xn xc) (.slice xb xo xd))[j]? = some u → (w.alloc (.cells #[.int .i64 3, .string nm, .int .i64 N, .int .i64 ty.kind, .string ty.name, .slice ta tn tc, .slice (some ⟨g, off, none⟩) 1 cap] 27)).cell? ⟨g, off + j, none⟩ = some u := fun j u h => (Same.of_kept (ok := ok) K0 (fun _ _ e => e)).cell hg (hcl j u h)
  have c0 : (w.alloc (.cells #[.int .i64 3, .string nm, .int .i64 N, .int .i64 ty.kind, .string ty.name, .slice ta tn tc, .slice (some ⟨g, off, none⟩) 1 cap] 27)).cell? ⟨g, off, none⟩ = some (.int .i64 x.op) := hx 0 _ rfl
  have c1 : (w.alloc (.cells #[.int .i64 3, .string nm, .int .i64 N, .int .i64 ty.kind, .string ty.name, .slice ta tn tc, .slice (some ⟨g, off, none⟩) 1 cap] 27)).cell? ⟨g, off + 1, none⟩ = some (.string x.name) := hx 1 _ rfl
  have c2 : (w.alloc (.cells #[.int .i64 3, .string nm, .int .i64 N, .int .i64 ty.kind, .string ty.name, .slice ta tn tc, .slice (some ⟨g, off, none⟩) 1 cap] 27)).cell? ⟨g, off + 2, none⟩ = some (.int .i64 x.n) := hx 2 _ rfl
  have c3 : (w.alloc (.cells #[.int .i64 3, .string nm, .int .i64 N, .int .i64 ty.kind, .string ty.name, .slice ta tn tc, .slice (some ⟨g, off, none⟩) 1 cap] 27)).cell? ⟨g, off + 3, none⟩ = some (.int .i64 x.ty.kind) := hx 3 _ rfl
  have c4 : (w.alloc (.cells #[.int .i64 3, .string nm, .int .i64 N, .int .i64 ty.kind, .string ty.name, .slice ta tn tc, .slice (some ⟨g, off, none⟩) 1 cap] 27)).cell? ⟨g, off + 4, none⟩ = some (.string x.ty.name) := hx 4 _ rfl
  have c5 : (w.alloc (.cells #[.int .i64 3, .string nm, .int .i64 N, .int .i64 ty.kind, .string ty.name, .slice ta tn tc, .slice (some ⟨g, off, none⟩) 1 cap] 27)).cell? ⟨g, off + 5, none⟩ = some (.slice xa xn xc) := hx 5 _ rfl
  have c6 : (w.alloc (.cells #[.int .i64 3, .string nm, .int .i64 N, .int .i64 ty.kind, .string ty.name, .slice ta tn tc, .slice (some ⟨g, off, none⟩) 1 cap] 27)).cell? ⟨g, off + 6, none⟩ = some (.slice xb xo xd) := hx 6 _ rfl
  clear hx hcl
  go_wp2_with fail
  refine (HX.out _ K0).mono ?_
  rintro e w1 ⟨rfl, k1⟩
  have K1 := K0.trans k1
  go_wp2_with fail
  go_ret
  exact ⟨by rw [HT.out]; rfl, K1⟩
set_option maxRecDepth 100000 in
set_option maxHeartbeats 16000000 in
theorem rw_neg {nm : ByteArray} {N : Int} {ty : Ty} {x : Tm} {ox : List UInt8} (hx : RO x ox) : RS (.mk 21 nm N ty [x]) (([45] : List UInt8) ++ ox) := by
  intro w ok tk kk hty htm hlen
  have htm0 : TmL ok w [x] kk := htm
  obtain ⟨g, off, cap, k0, m0, rfl, hg, hcl, hx5, hx6⟩ := htm0.oneK
  obtain ⟨xa, xn, xc, rfl⟩ := hx5.slice
  obtain ⟨xb, xo, xd, rfl⟩ := hx6.slice
  obtain ⟨ta, tn, tc, rfl⟩ := hty.slice
  obtain ⟨so, hso⟩ : ∃ so, so = str (([45] : List UInt8) ++ ox) := ⟨_, rfl⟩
  change Calls Tryz.prog 56 #[.agg #[.int .i64 21, .string nm, .int .i64 N, .int .i64 ty.kind, .string ty.name, .slice ta tn tc, .slice (some ⟨g, off, none⟩) 1 cap]] w fun e w' => e = .returned (.string (str (([45] : List UInt8) ++ ox))) ∧ Kept (fun _ => False) w w'
  rw [← hso]
  have HSO := Lib.hid hso
  clear hso
  have bA : Blk (w.alloc (.cells #[.int .i64 21, .string nm, .int .i64 N, .int .i64 ty.kind, .string ty.name, .slice ta tn tc, .slice (some ⟨g, off, none⟩) 1 cap] 27)) w.heap.size 27 [.int .i64 21, .string nm, .int .i64 N, .int .i64 ty.kind, .string ty.name, .slice ta tn tc, .slice (some ⟨g, off, none⟩) 1 cap] := Blk.new w 27 _
  have K0 : Kept (fun _ => False) w (w.alloc (.cells #[.int .i64 21, .string nm, .int .i64 N, .int .i64 ty.kind, .string ty.name, .slice ta tn tc, .slice (some ⟨g, off, none⟩) 1 cap] 27)) := (Kept.refl _ _).alloc _
  have HLN : Hid ((([45] : List UInt8) ++ ox).length ≤ 100000000) := Lib.hid hlen
  have HZx : Hid (ox.length ≤ 100000000) := Lib.hid (by (try simp only [List.length_append] at hlen); omega)
  clear hlen
  have HX := Lib.hid (fun W (k : Kept (fun _ => False) w W) => hx W ok _ _ (hx5.frame (Same.of_kept (ok := ok) k (fun _ _ e => e))) (hx6.frame (Same.of_kept (ok := ok) k (fun _ _ e => e))) HZx.out)
  have hzx : (str ox).size ≤ 100000000 := by rw [str_size]; exact HZx.out
  generalize hsx : str ox = sx at *
  have HSx := Lib.hid hsx
  clear hsx hx
  unfold tmVal at HX
  have HT : Hid (so = ⟨#[45]⟩ ++ sx) := Lib.hid (by
    rw [HSO.out, ← str_app, HSx.out]
    rfl)
  go_enter Tryz.func56, Tryz.ntmps56
  have hx : ∀ j u, (tmCells x (.slice xa xn xc) (.slice xb xo xd))[j]? = some u → (w.alloc (.cells #[.int .i64 21, .string nm, .int .i64 N, .int .i64 ty.kind, .string ty.name, .slice ta tn tc, .slice (some ⟨g, off, none⟩) 1 cap] 27)).cell? ⟨g, off + j, none⟩ = some u := fun j u h => (Same.of_kept (ok := ok) K0 (fun _ _ e => e)).cell hg (hcl j u h)
  have c0 : (w.alloc (.cells #[.int .i64 21, .string nm, .int .i64 N, .int .i64 ty.kind, .string ty.name, .slice ta tn tc, .slice (some ⟨g, off, none⟩) 1 cap] 27)).cell? ⟨g, off, none⟩ = some (.int .i64 x.op) := hx 0 _ rfl
  have c1 : (w.alloc (.cells #[.int .i64 21, .string nm, .int .i64 N, .int .i64 ty.kind, .string ty.name, .slice ta tn tc, .slice (some ⟨g, off, none⟩) 1 cap] 27)).cell? ⟨g, off + 1, none⟩ = some (.string x.name) := hx 1 _ rfl
  have c2 : (w.alloc (.cells #[.int .i64 21, .string nm, .int .i64 N, .int .i64 ty.kind, .string ty.name, .slice ta tn tc, .slice (some ⟨g, off, none⟩) 1 cap] 27)).cell? ⟨g, off + 2, none⟩ = some (.int .i64 x.n) := hx 2 _ rfl
  have c3 : (w.alloc (.cells #[.int .i64 21, .string nm, .int .i64 N, .int .i64 ty.kind, .string ty.name, .slice ta tn tc, .slice (some ⟨g, off, none⟩) 1 cap] 27)).cell? ⟨g, off + 3, none⟩ = some (.int .i64 x.ty.kind) := hx 3 _ rfl
  have c4 : (w.alloc (.cells #[.int .i64 21, .string nm, .int .i64 N, .int .i64 ty.kind, .string ty.name, .slice ta tn tc, .slice (some ⟨g, off, none⟩) 1 cap] 27)).cell? ⟨g, off + 4, none⟩ = some (.string x.ty.name) := hx 4 _ rfl
  have c5 : (w.alloc (.cells #[.int .i64 21, .string nm, .int .i64 N, .int .i64 ty.kind, .string ty.name, .slice ta tn tc, .slice (some ⟨g, off, none⟩) 1 cap] 27)).cell? ⟨g, off + 5, none⟩ = some (.slice xa xn xc) := hx 5 _ rfl
  have c6 : (w.alloc (.cells #[.int .i64 21, .string nm, .int .i64 N, .int .i64 ty.kind, .string ty.name, .slice ta tn tc, .slice (some ⟨g, off, none⟩) 1 cap] 27)).cell? ⟨g, off + 6, none⟩ = some (.slice xb xo xd) := hx 6 _ rfl
  clear hx hcl
  go_wp2_with fail
  refine (HX.out _ K0).mono ?_
  rintro e w1 ⟨rfl, k1⟩
  have K1 := K0.trans k1
  go_wp2_with fail
  go_ret
  exact ⟨by rw [HT.out]; rfl, K1⟩
set_option maxRecDepth 100000 in
set_option maxHeartbeats 16000000 in
theorem rw_inv {nm : ByteArray} {N : Int} {ty : Ty} {x : Tm} {ox : List UInt8} (hx : RO x ox) : RS (.mk 52 nm N ty [x]) (ox ++ ([126] : List UInt8)) := by
  intro w ok tk kk hty htm hlen
  have htm0 : TmL ok w [x] kk := htm
  obtain ⟨g, off, cap, k0, m0, rfl, hg, hcl, hx5, hx6⟩ := htm0.oneK
  obtain ⟨xa, xn, xc, rfl⟩ := hx5.slice
  obtain ⟨xb, xo, xd, rfl⟩ := hx6.slice
  obtain ⟨ta, tn, tc, rfl⟩ := hty.slice
  obtain ⟨so, hso⟩ : ∃ so, so = str (ox ++ ([126] : List UInt8)) := ⟨_, rfl⟩
  change Calls Tryz.prog 56 #[.agg #[.int .i64 52, .string nm, .int .i64 N, .int .i64 ty.kind, .string ty.name, .slice ta tn tc, .slice (some ⟨g, off, none⟩) 1 cap]] w fun e w' => e = .returned (.string (str (ox ++ ([126] : List UInt8)))) ∧ Kept (fun _ => False) w w'
  rw [← hso]
  have HSO := Lib.hid hso
  clear hso
  have bA : Blk (w.alloc (.cells #[.int .i64 52, .string nm, .int .i64 N, .int .i64 ty.kind, .string ty.name, .slice ta tn tc, .slice (some ⟨g, off, none⟩) 1 cap] 27)) w.heap.size 27 [.int .i64 52, .string nm, .int .i64 N, .int .i64 ty.kind, .string ty.name, .slice ta tn tc, .slice (some ⟨g, off, none⟩) 1 cap] := Blk.new w 27 _
  have K0 : Kept (fun _ => False) w (w.alloc (.cells #[.int .i64 52, .string nm, .int .i64 N, .int .i64 ty.kind, .string ty.name, .slice ta tn tc, .slice (some ⟨g, off, none⟩) 1 cap] 27)) := (Kept.refl _ _).alloc _
  have HLN : Hid ((ox ++ ([126] : List UInt8)).length ≤ 100000000) := Lib.hid hlen
  have HZx : Hid (ox.length ≤ 100000000) := Lib.hid (by (try simp only [List.length_append] at hlen); omega)
  clear hlen
  have HX := Lib.hid (fun W (k : Kept (fun _ => False) w W) => hx W ok _ _ (hx5.frame (Same.of_kept (ok := ok) k (fun _ _ e => e))) (hx6.frame (Same.of_kept (ok := ok) k (fun _ _ e => e))) HZx.out)
  have hzx : (str ox).size ≤ 100000000 := by rw [str_size]; exact HZx.out
  generalize hsx : str ox = sx at *
  have HSx := Lib.hid hsx
  clear hsx hx
  unfold tmVal at HX
  have HT : Hid (so = sx ++ ⟨#[126]⟩) := Lib.hid (by
    rw [HSO.out, ← str_app, HSx.out]
    rfl)
  go_enter Tryz.func56, Tryz.ntmps56
  have hx : ∀ j u, (tmCells x (.slice xa xn xc) (.slice xb xo xd))[j]? = some u → (w.alloc (.cells #[.int .i64 52, .string nm, .int .i64 N, .int .i64 ty.kind, .string ty.name, .slice ta tn tc, .slice (some ⟨g, off, none⟩) 1 cap] 27)).cell? ⟨g, off + j, none⟩ = some u := fun j u h => (Same.of_kept (ok := ok) K0 (fun _ _ e => e)).cell hg (hcl j u h)
  have c0 : (w.alloc (.cells #[.int .i64 52, .string nm, .int .i64 N, .int .i64 ty.kind, .string ty.name, .slice ta tn tc, .slice (some ⟨g, off, none⟩) 1 cap] 27)).cell? ⟨g, off, none⟩ = some (.int .i64 x.op) := hx 0 _ rfl
  have c1 : (w.alloc (.cells #[.int .i64 52, .string nm, .int .i64 N, .int .i64 ty.kind, .string ty.name, .slice ta tn tc, .slice (some ⟨g, off, none⟩) 1 cap] 27)).cell? ⟨g, off + 1, none⟩ = some (.string x.name) := hx 1 _ rfl
  have c2 : (w.alloc (.cells #[.int .i64 52, .string nm, .int .i64 N, .int .i64 ty.kind, .string ty.name, .slice ta tn tc, .slice (some ⟨g, off, none⟩) 1 cap] 27)).cell? ⟨g, off + 2, none⟩ = some (.int .i64 x.n) := hx 2 _ rfl
  have c3 : (w.alloc (.cells #[.int .i64 52, .string nm, .int .i64 N, .int .i64 ty.kind, .string ty.name, .slice ta tn tc, .slice (some ⟨g, off, none⟩) 1 cap] 27)).cell? ⟨g, off + 3, none⟩ = some (.int .i64 x.ty.kind) := hx 3 _ rfl
  have c4 : (w.alloc (.cells #[.int .i64 52, .string nm, .int .i64 N, .int .i64 ty.kind, .string ty.name, .slice ta tn tc, .slice (some ⟨g, off, none⟩) 1 cap] 27)).cell? ⟨g, off + 4, none⟩ = some (.string x.ty.name) := hx 4 _ rfl
  have c5 : (w.alloc (.cells #[.int .i64 52, .string nm, .int .i64 N, .int .i64 ty.kind, .string ty.name, .slice ta tn tc, .slice (some ⟨g, off, none⟩) 1 cap] 27)).cell? ⟨g, off + 5, none⟩ = some (.slice xa xn xc) := hx 5 _ rfl
  have c6 : (w.alloc (.cells #[.int .i64 52, .string nm, .int .i64 N, .int .i64 ty.kind, .string ty.name, .slice ta tn tc, .slice (some ⟨g, off, none⟩) 1 cap] 27)).cell? ⟨g, off + 6, none⟩ = some (.slice xb xo xd) := hx 6 _ rfl
  clear hx hcl
  go_wp2_with fail
  refine (HX.out _ K0).mono ?_
  rintro e w1 ⟨rfl, k1⟩
  have K1 := K0.trans k1
  go_wp2_with fail
  go_ret
  exact ⟨by rw [HT.out]; rfl, K1⟩
set_option maxRecDepth 100000 in
set_option maxHeartbeats 16000000 in
theorem rw_apply {nm : ByteArray} {N : Int} {ty : Ty} {x y : Tm} {ox oy : List UInt8} (hx : RO x ox) (hy : RS y oy) : RS (.mk 54 nm N ty [x, y]) (ox ++ ([40] : List UInt8) ++ oy ++ ([41] : List UInt8)) := by
  intro w ok tk kk hty htm hlen
  have htm0 : TmL ok w [x, y] kk := htm
  obtain ⟨g, off, cap, k0, m0, k1, m1, rfl, hg, hcl, hx5, hx6, hy5, hy6⟩ := htm0.twoK
  obtain ⟨xa, xn, xc, rfl⟩ := hx5.slice
  obtain ⟨xb, xo, xd, rfl⟩ := hx6.slice
  obtain ⟨ya, yn, yc, rfl⟩ := hy5.slice
  obtain ⟨yb, yo, yd, rfl⟩ := hy6.slice
  obtain ⟨ta, tn, tc, rfl⟩ := hty.slice
  obtain ⟨so, hso⟩ : ∃ so, so = str (ox ++ ([40] : List UInt8) ++ oy ++ ([41] : List UInt8)) := ⟨_, rfl⟩
  change Calls Tryz.prog 56 #[.agg #[.int .i64 54, .string nm, .int .i64 N, .int .i64 ty.kind, .string ty.name, .slice ta tn tc, .slice (some ⟨g, off, none⟩) 2 cap]] w fun e w' => e = .returned (.string (str (ox ++ ([40] : List UInt8) ++ oy ++ ([41] : List UInt8)))) ∧ Kept (fun _ => False) w w'
  rw [← hso]
  have HSO := Lib.hid hso
  clear hso
  have bA : Blk (w.alloc (.cells #[.int .i64 54, .string nm, .int .i64 N, .int .i64 ty.kind, .string ty.name, .slice ta tn tc, .slice (some ⟨g, off, none⟩) 2 cap] 27)) w.heap.size 27 [.int .i64 54, .string nm, .int .i64 N, .int .i64 ty.kind, .string ty.name, .slice ta tn tc, .slice (some ⟨g, off, none⟩) 2 cap] := Blk.new w 27 _
  have K0 : Kept (fun _ => False) w (w.alloc (.cells #[.int .i64 54, .string nm, .int .i64 N, .int .i64 ty.kind, .string ty.name, .slice ta tn tc, .slice (some ⟨g, off, none⟩) 2 cap] 27)) := (Kept.refl _ _).alloc _
  have HLN : Hid ((ox ++ ([40] : List UInt8) ++ oy ++ ([41] : List UInt8)).length ≤ 100000000) := Lib.hid hlen
  have HZx : Hid (ox.length ≤ 100000000) := Lib.hid (by (try simp only [List.length_append] at hlen); omega)
  have HZy : Hid (oy.length ≤ 100000000) := Lib.hid (by (try simp only [List.length_append] at hlen); omega)
  clear hlen
  have HX := Lib.hid (fun W (k : Kept (fun _ => False) w W) => hx W ok _ _ (hx5.frame (Same.of_kept (ok := ok) k (fun _ _ e => e))) (hx6.frame (Same.of_kept (ok := ok) k (fun _ _ e => e))) HZx.out)
  have hzx : (str ox).size ≤ 100000000 := by rw [str_size]; exact HZx.out
  generalize hsx : str ox = sx at *
  have HSx := Lib.hid hsx
  clear hsx hx
  unfold tmVal at HX
  have HY := Lib.hid (fun W (k : Kept (fun _ => False) w W) => hy W ok _ _ (hy5.frame (Same.of_kept (ok := ok) k (fun _ _ e => e))) (hy6.frame (Same.of_kept (ok := ok) k (fun _ _ e => e))) HZy.out)
  have hzy : (str oy).size ≤ 100000000 := by rw [str_size]; exact HZy.out
  generalize hsy : str oy = sy at *
  have HSy := Lib.hid hsy
  clear hsy hy
  unfold tmVal at HY
  have HT : Hid (so = sx ++ ⟨#[40]⟩ ++ sy ++ ⟨#[41]⟩) := Lib.hid (by
    rw [HSO.out, ← str_app, ← str_app, ← str_app, HSx.out, HSy.out]
    rfl)
  go_enter Tryz.func56, Tryz.ntmps56
  have HF := Lib.hid (fun W (k : Kept (fun _ => False) (w.alloc (.cells #[.int .i64 54, .string nm, .int .i64 N, .int .i64 ty.kind, .string ty.name, .slice ta tn tc, .slice (some ⟨g, off, none⟩) 2 cap] 27)) W) => (⟨(bA.kept k (fun h => h)).cell 0, (bA.kept k (fun h => h)).cell 6, (Same.of_kept (ok := ok) (K0.trans k) (fun _ _ e => e)).cell hg (hcl 0 _ rfl), (Same.of_kept (ok := ok) (K0.trans k) (fun _ _ e => e)).cell hg (hcl 1 _ rfl), (Same.of_kept (ok := ok) (K0.trans k) (fun _ _ e => e)).cell hg (hcl 2 _ rfl), (Same.of_kept (ok := ok) (K0.trans k) (fun _ _ e => e)).cell hg (hcl 3 _ rfl), (Same.of_kept (ok := ok) (K0.trans k) (fun _ _ e => e)).cell hg (hcl 4 _ rfl), (Same.of_kept (ok := ok) (K0.trans k) (fun _ _ e => e)).cell hg (hcl 5 _ rfl), (Same.of_kept (ok := ok) (K0.trans k) (fun _ _ e => e)).cell hg (hcl 6 _ rfl), (Same.of_kept (ok := ok) (K0.trans k) (fun _ _ e => e)).cell hg (hcl 7 _ rfl), (Same.of_kept (ok := ok) (K0.trans k) (fun _ _ e => e)).cell hg (hcl 8 _ rfl), (Same.of_kept (ok := ok) (K0.trans k) (fun _ _ e => e)).cell hg (hcl 9 _ rfl), (Same.of_kept (ok := ok) (K0.trans k) (fun _ _ e => e)).cell hg (hcl 10 _ rfl), (Same.of_kept (ok := ok) (K0.trans k) (fun _ _ e => e)).cell hg (hcl 11 _ rfl), (Same.of_kept (ok := ok) (K0.trans k) (fun _ _ e => e)).cell hg (hcl 12 _ rfl), (Same.of_kept (ok := ok) (K0.trans k) (fun _ _ e => e)).cell hg (hcl 13 _ rfl)⟩ : W.cell? ⟨w.heap.size, 0, none⟩ = some (.int .i64 54) ∧ W.cell? ⟨w.heap.size, 6, none⟩ = some (.slice (some ⟨g, off, none⟩) 2 cap) ∧ W.cell? ⟨g, off, none⟩ = some (.int .i64 x.op) ∧ W.cell? ⟨g, off + 1, none⟩ = some (.string x.name) ∧ W.cell? ⟨g, off + 2, none⟩ = some (.int .i64 x.n) ∧ W.cell? ⟨g, off + 3, none⟩ = some (.int .i64 x.ty.kind) ∧ W.cell? ⟨g, off + 4, none⟩ = some (.string x.ty.name) ∧ W.cell? ⟨g, off + 5, none⟩ = some (.slice xa xn xc) ∧ W.cell? ⟨g, off + 6, none⟩ = some (.slice xb xo xd) ∧ W.cell? ⟨g, off + 7, none⟩ = some (.int .i64 y.op) ∧ W.cell? ⟨g, off + 8, none⟩ = some (.string y.name) ∧ W.cell? ⟨g, off + 9, none⟩ = some (.int .i64 y.n) ∧ W.cell? ⟨g, off + 10, none⟩ = some (.int .i64 y.ty.kind) ∧ W.cell? ⟨g, off + 11, none⟩ = some (.string y.ty.name) ∧ W.cell? ⟨g, off + 12, none⟩ = some (.slice ya yn yc) ∧ W.cell? ⟨g, off + 13, none⟩ = some (.slice yb yo yd)))
  go_upto_region 1 with (fail)
  generalize hw1 : w.alloc (.cells #[.int .i64 54, .string nm, .int .i64 N, .int .i64 ty.kind, .string ty.name, .slice ta tn tc, .slice (some ⟨g, off, none⟩) 2 cap] 27) = w1 at *
  clear hw1
  obtain ⟨a0, a1, a2, a3, a4, a5, a6, a7, a8, a9, a10, a11, a12, a13, a14, a15⟩ := HF.out w1 (Kept.refl _ _)
  have lg := cell_lt a2
  have lA := bA.lt
  clear hcl
  have KD : Kept (fun _ => False) w1 w1.drew := (Kept.refl _ _).drew
  go_wp2_with fail
  go_region_held (fun w' => w'.cell? ⟨w.heap.size, 0, none⟩ = some (.int .i64 54) ∧ w'.cell? ⟨w.heap.size, 6, none⟩ = some (.slice (some ⟨g, off, none⟩) 2 cap) ∧ w'.cell? ⟨g, off, none⟩ = some (.int .i64 x.op) ∧ w'.cell? ⟨g, off + 1, none⟩ = some (.string x.name) ∧ w'.cell? ⟨g, off + 2, none⟩ = some (.int .i64 x.n) ∧ w'.cell? ⟨g, off + 3, none⟩ = some (.int .i64 x.ty.kind) ∧ w'.cell? ⟨g, off + 4, none⟩ = some (.string x.ty.name) ∧ w'.cell? ⟨g, off + 5, none⟩ = some (.slice xa xn xc) ∧ w'.cell? ⟨g, off + 6, none⟩ = some (.slice xb xo xd) ∧ w'.cell? ⟨g, off + 7, none⟩ = some (.int .i64 y.op) ∧ w'.cell? ⟨g, off + 8, none⟩ = some (.string y.name) ∧ w'.cell? ⟨g, off + 9, none⟩ = some (.int .i64 y.n) ∧ w'.cell? ⟨g, off + 10, none⟩ = some (.int .i64 y.ty.kind) ∧ w'.cell? ⟨g, off + 11, none⟩ = some (.string y.ty.name) ∧ w'.cell? ⟨g, off + 12, none⟩ = some (.slice ya yn yc) ∧ w'.cell? ⟨g, off + 13, none⟩ = some (.slice yb yo yd)) (go_keep)
    (first | (go_at_call 103; refine (HX.out _ (by first | exact K0.trans KD | exact K0.trans KE)).mono ?_; rintro e wq ⟨rfl, kq⟩; first | (have KF := KE.trans kq; obtain ⟨c0, c1, c2, c3, c4, c5, c6, c7, c8, c9, c10, c11, c12, c13, c14, c15⟩ := HF.out _ KF) | (have KE := KD.trans kq; obtain ⟨b0, b1, b2, b3, b4, b5, b6, b7, b8, b9, b10, b11, b12, b13, b14, b15⟩ := HF.out _ KE)) | (go_at_call 56; refine (HY.out _ (by first | exact K0.trans KD | exact K0.trans KE)).mono ?_; rintro e wq ⟨rfl, kq⟩; first | (have KF := KE.trans kq; obtain ⟨c0, c1, c2, c3, c4, c5, c6, c7, c8, c9, c10, c11, c12, c13, c14, c15⟩ := HF.out _ KF) | (have KE := KD.trans kq; obtain ⟨b0, b1, b2, b3, b4, b5, b6, b7, b8, b9, b10, b11, b12, b13, b14, b15⟩ := HF.out _ KE)))
  all_goals
    go_wp2_with fail
    go_ret
    exact ⟨by rw [HT.out]; rfl, K0.trans KF⟩
set_option maxRecDepth 100000 in
set_option maxHeartbeats 16000000 in
theorem rw_image {nm : ByteArray} {N : Int} {ty : Ty} {x y : Tm} {ox oy : List UInt8} (hx : RO x ox) (hy : RS y oy) : RS (.mk 53 nm N ty [x, y]) (ox ++ ([91] : List UInt8) ++ oy ++ ([93] : List UInt8)) := by
  intro w ok tk kk hty htm hlen
  have htm0 : TmL ok w [x, y] kk := htm
  obtain ⟨g, off, cap, k0, m0, k1, m1, rfl, hg, hcl, hx5, hx6, hy5, hy6⟩ := htm0.twoK
  obtain ⟨xa, xn, xc, rfl⟩ := hx5.slice
  obtain ⟨xb, xo, xd, rfl⟩ := hx6.slice
  obtain ⟨ya, yn, yc, rfl⟩ := hy5.slice
  obtain ⟨yb, yo, yd, rfl⟩ := hy6.slice
  obtain ⟨ta, tn, tc, rfl⟩ := hty.slice
  obtain ⟨so, hso⟩ : ∃ so, so = str (ox ++ ([91] : List UInt8) ++ oy ++ ([93] : List UInt8)) := ⟨_, rfl⟩
  change Calls Tryz.prog 56 #[.agg #[.int .i64 53, .string nm, .int .i64 N, .int .i64 ty.kind, .string ty.name, .slice ta tn tc, .slice (some ⟨g, off, none⟩) 2 cap]] w fun e w' => e = .returned (.string (str (ox ++ ([91] : List UInt8) ++ oy ++ ([93] : List UInt8)))) ∧ Kept (fun _ => False) w w'
  rw [← hso]
  have HSO := Lib.hid hso
  clear hso
  have bA : Blk (w.alloc (.cells #[.int .i64 53, .string nm, .int .i64 N, .int .i64 ty.kind, .string ty.name, .slice ta tn tc, .slice (some ⟨g, off, none⟩) 2 cap] 27)) w.heap.size 27 [.int .i64 53, .string nm, .int .i64 N, .int .i64 ty.kind, .string ty.name, .slice ta tn tc, .slice (some ⟨g, off, none⟩) 2 cap] := Blk.new w 27 _
  have K0 : Kept (fun _ => False) w (w.alloc (.cells #[.int .i64 53, .string nm, .int .i64 N, .int .i64 ty.kind, .string ty.name, .slice ta tn tc, .slice (some ⟨g, off, none⟩) 2 cap] 27)) := (Kept.refl _ _).alloc _
  have HLN : Hid ((ox ++ ([91] : List UInt8) ++ oy ++ ([93] : List UInt8)).length ≤ 100000000) := Lib.hid hlen
  have HZx : Hid (ox.length ≤ 100000000) := Lib.hid (by (try simp only [List.length_append] at hlen); omega)
  have HZy : Hid (oy.length ≤ 100000000) := Lib.hid (by (try simp only [List.length_append] at hlen); omega)
  clear hlen
  have HX := Lib.hid (fun W (k : Kept (fun _ => False) w W) => hx W ok _ _ (hx5.frame (Same.of_kept (ok := ok) k (fun _ _ e => e))) (hx6.frame (Same.of_kept (ok := ok) k (fun _ _ e => e))) HZx.out)
  have hzx : (str ox).size ≤ 100000000 := by rw [str_size]; exact HZx.out
  generalize hsx : str ox = sx at *
  have HSx := Lib.hid hsx
  clear hsx hx
  unfold tmVal at HX
  have HY := Lib.hid (fun W (k : Kept (fun _ => False) w W) => hy W ok _ _ (hy5.frame (Same.of_kept (ok := ok) k (fun _ _ e => e))) (hy6.frame (Same.of_kept (ok := ok) k (fun _ _ e => e))) HZy.out)
  have hzy : (str oy).size ≤ 100000000 := by rw [str_size]; exact HZy.out
  generalize hsy : str oy = sy at *
  have HSy := Lib.hid hsy
  clear hsy hy
  unfold tmVal at HY
  have HT : Hid (so = sx ++ ⟨#[91]⟩ ++ sy ++ ⟨#[93]⟩) := Lib.hid (by
    rw [HSO.out, ← str_app, ← str_app, ← str_app, HSx.out, HSy.out]
    rfl)
  go_enter Tryz.func56, Tryz.ntmps56
  have HF := Lib.hid (fun W (k : Kept (fun _ => False) (w.alloc (.cells #[.int .i64 53, .string nm, .int .i64 N, .int .i64 ty.kind, .string ty.name, .slice ta tn tc, .slice (some ⟨g, off, none⟩) 2 cap] 27)) W) => (⟨(bA.kept k (fun h => h)).cell 0, (bA.kept k (fun h => h)).cell 6, (Same.of_kept (ok := ok) (K0.trans k) (fun _ _ e => e)).cell hg (hcl 0 _ rfl), (Same.of_kept (ok := ok) (K0.trans k) (fun _ _ e => e)).cell hg (hcl 1 _ rfl), (Same.of_kept (ok := ok) (K0.trans k) (fun _ _ e => e)).cell hg (hcl 2 _ rfl), (Same.of_kept (ok := ok) (K0.trans k) (fun _ _ e => e)).cell hg (hcl 3 _ rfl), (Same.of_kept (ok := ok) (K0.trans k) (fun _ _ e => e)).cell hg (hcl 4 _ rfl), (Same.of_kept (ok := ok) (K0.trans k) (fun _ _ e => e)).cell hg (hcl 5 _ rfl), (Same.of_kept (ok := ok) (K0.trans k) (fun _ _ e => e)).cell hg (hcl 6 _ rfl), (Same.of_kept (ok := ok) (K0.trans k) (fun _ _ e => e)).cell hg (hcl 7 _ rfl), (Same.of_kept (ok := ok) (K0.trans k) (fun _ _ e => e)).cell hg (hcl 8 _ rfl), (Same.of_kept (ok := ok) (K0.trans k) (fun _ _ e => e)).cell hg (hcl 9 _ rfl), (Same.of_kept (ok := ok) (K0.trans k) (fun _ _ e => e)).cell hg (hcl 10 _ rfl), (Same.of_kept (ok := ok) (K0.trans k) (fun _ _ e => e)).cell hg (hcl 11 _ rfl), (Same.of_kept (ok := ok) (K0.trans k) (fun _ _ e => e)).cell hg (hcl 12 _ rfl), (Same.of_kept (ok := ok) (K0.trans k) (fun _ _ e => e)).cell hg (hcl 13 _ rfl)⟩ : W.cell? ⟨w.heap.size, 0, none⟩ = some (.int .i64 53) ∧ W.cell? ⟨w.heap.size, 6, none⟩ = some (.slice (some ⟨g, off, none⟩) 2 cap) ∧ W.cell? ⟨g, off, none⟩ = some (.int .i64 x.op) ∧ W.cell? ⟨g, off + 1, none⟩ = some (.string x.name) ∧ W.cell? ⟨g, off + 2, none⟩ = some (.int .i64 x.n) ∧ W.cell? ⟨g, off + 3, none⟩ = some (.int .i64 x.ty.kind) ∧ W.cell? ⟨g, off + 4, none⟩ = some (.string x.ty.name) ∧ W.cell? ⟨g, off + 5, none⟩ = some (.slice xa xn xc) ∧ W.cell? ⟨g, off + 6, none⟩ = some (.slice xb xo xd) ∧ W.cell? ⟨g, off + 7, none⟩ = some (.int .i64 y.op) ∧ W.cell? ⟨g, off + 8, none⟩ = some (.string y.name) ∧ W.cell? ⟨g, off + 9, none⟩ = some (.int .i64 y.n) ∧ W.cell? ⟨g, off + 10, none⟩ = some (.int .i64 y.ty.kind) ∧ W.cell? ⟨g, off + 11, none⟩ = some (.string y.ty.name) ∧ W.cell? ⟨g, off + 12, none⟩ = some (.slice ya yn yc) ∧ W.cell? ⟨g, off + 13, none⟩ = some (.slice yb yo yd)))
  go_upto_region 1 with (fail)
  generalize hw1 : w.alloc (.cells #[.int .i64 53, .string nm, .int .i64 N, .int .i64 ty.kind, .string ty.name, .slice ta tn tc, .slice (some ⟨g, off, none⟩) 2 cap] 27) = w1 at *
  clear hw1
  obtain ⟨a0, a1, a2, a3, a4, a5, a6, a7, a8, a9, a10, a11, a12, a13, a14, a15⟩ := HF.out w1 (Kept.refl _ _)
  have lg := cell_lt a2
  have lA := bA.lt
  clear hcl
  have KD : Kept (fun _ => False) w1 w1.drew := (Kept.refl _ _).drew
  go_wp2_with fail
  go_region_held (fun w' => w'.cell? ⟨w.heap.size, 0, none⟩ = some (.int .i64 53) ∧ w'.cell? ⟨w.heap.size, 6, none⟩ = some (.slice (some ⟨g, off, none⟩) 2 cap) ∧ w'.cell? ⟨g, off, none⟩ = some (.int .i64 x.op) ∧ w'.cell? ⟨g, off + 1, none⟩ = some (.string x.name) ∧ w'.cell? ⟨g, off + 2, none⟩ = some (.int .i64 x.n) ∧ w'.cell? ⟨g, off + 3, none⟩ = some (.int .i64 x.ty.kind) ∧ w'.cell? ⟨g, off + 4, none⟩ = some (.string x.ty.name) ∧ w'.cell? ⟨g, off + 5, none⟩ = some (.slice xa xn xc) ∧ w'.cell? ⟨g, off + 6, none⟩ = some (.slice xb xo xd) ∧ w'.cell? ⟨g, off + 7, none⟩ = some (.int .i64 y.op) ∧ w'.cell? ⟨g, off + 8, none⟩ = some (.string y.name) ∧ w'.cell? ⟨g, off + 9, none⟩ = some (.int .i64 y.n) ∧ w'.cell? ⟨g, off + 10, none⟩ = some (.int .i64 y.ty.kind) ∧ w'.cell? ⟨g, off + 11, none⟩ = some (.string y.ty.name) ∧ w'.cell? ⟨g, off + 12, none⟩ = some (.slice ya yn yc) ∧ w'.cell? ⟨g, off + 13, none⟩ = some (.slice yb yo yd)) (go_keep)
    (first | (go_at_call 103; refine (HX.out _ (by first | exact K0.trans KD | exact K0.trans KE)).mono ?_; rintro e wq ⟨rfl, kq⟩; first | (have KF := KE.trans kq; obtain ⟨c0, c1, c2, c3, c4, c5, c6, c7, c8, c9, c10, c11, c12, c13, c14, c15⟩ := HF.out _ KF) | (have KE := KD.trans kq; obtain ⟨b0, b1, b2, b3, b4, b5, b6, b7, b8, b9, b10, b11, b12, b13, b14, b15⟩ := HF.out _ KE)) | (go_at_call 56; refine (HY.out _ (by first | exact K0.trans KD | exact K0.trans KE)).mono ?_; rintro e wq ⟨rfl, kq⟩; first | (have KF := KE.trans kq; obtain ⟨c0, c1, c2, c3, c4, c5, c6, c7, c8, c9, c10, c11, c12, c13, c14, c15⟩ := HF.out _ KF) | (have KE := KD.trans kq; obtain ⟨b0, b1, b2, b3, b4, b5, b6, b7, b8, b9, b10, b11, b12, b13, b14, b15⟩ := HF.out _ KE)))
  all_goals
    go_wp2_with fail
    go_ret
    exact ⟨by rw [HT.out]; rfl, K0.trans KF⟩
set_option maxRecDepth 100000 in
set_option maxHeartbeats 4000000 in
theorem rw_true {nm : ByteArray} {N : Int} {ty : Ty} {kl : List Tm} : RS (.mk 1 nm N ty kl) (([116, 114, 117, 101] : List UInt8)) := by
  intro w ok tk kk hty htm hlen
  obtain ⟨ma, mn, mc, rfl⟩ := htm.slice
  obtain ⟨ta, tn, tc, rfl⟩ := hty.slice
  obtain ⟨so, hso⟩ : ∃ so, so = str (([116, 114, 117, 101] : List UInt8)) := ⟨_, rfl⟩
  change Calls Tryz.prog 56 #[.agg #[.int .i64 1, .string nm, .int .i64 N, .int .i64 ty.kind, .string ty.name, .slice ta tn tc, .slice ma mn mc]] w fun e w' => e = .returned (.string (str (([116, 114, 117, 101] : List UInt8)))) ∧ Kept (fun _ => False) w w'
  rw [← hso]
  have HSO := Lib.hid hso
  clear hso
  have K0 : Kept (fun _ => False) w (w.alloc (.cells #[.int .i64 1, .string nm, .int .i64 N, .int .i64 ty.kind, .string ty.name, .slice ta tn tc, .slice ma mn mc] 27)) := (Kept.refl _ _).alloc _
  have HT : Hid (so = ⟨#[116, 114, 117, 101]⟩) := Lib.hid (by
    rw [HSO.out]
    rfl)
  clear hlen
  go_enter Tryz.func56, Tryz.ntmps56
  go_wp2_with fail
  go_ret
  exact ⟨by rw [HT.out]; rfl, K0⟩
set_option maxRecDepth 100000 in
set_option maxHeartbeats 4000000 in
theorem rw_false {nm : ByteArray} {N : Int} {ty : Ty} {kl : List Tm} : RS (.mk 2 nm N ty kl) (([102, 97, 108, 115, 101] : List UInt8)) := by
  intro w ok tk kk hty htm hlen
  obtain ⟨ma, mn, mc, rfl⟩ := htm.slice
  obtain ⟨ta, tn, tc, rfl⟩ := hty.slice
  obtain ⟨so, hso⟩ : ∃ so, so = str (([102, 97, 108, 115, 101] : List UInt8)) := ⟨_, rfl⟩
  change Calls Tryz.prog 56 #[.agg #[.int .i64 2, .string nm, .int .i64 N, .int .i64 ty.kind, .string ty.name, .slice ta tn tc, .slice ma mn mc]] w fun e w' => e = .returned (.string (str (([102, 97, 108, 115, 101] : List UInt8)))) ∧ Kept (fun _ => False) w w'
  rw [← hso]
  have HSO := Lib.hid hso
  clear hso
  have K0 : Kept (fun _ => False) w (w.alloc (.cells #[.int .i64 2, .string nm, .int .i64 N, .int .i64 ty.kind, .string ty.name, .slice ta tn tc, .slice ma mn mc] 27)) := (Kept.refl _ _).alloc _
  have HT : Hid (so = ⟨#[102, 97, 108, 115, 101]⟩) := Lib.hid (by
    rw [HSO.out]
    rfl)
  clear hlen
  go_enter Tryz.func56, Tryz.ntmps56
  go_wp2_with fail
  go_ret
  exact ⟨by rw [HT.out]; rfl, K0⟩
set_option maxRecDepth 100000 in
set_option maxHeartbeats 4000000 in
theorem rw_name {nm : ByteArray} {N : Int} {ty : Ty} {kl : List Tm} : RS (.mk 20 nm N ty kl) (nm.data.toList) := by
  intro w ok tk kk hty htm hlen
  obtain ⟨ma, mn, mc, rfl⟩ := htm.slice
  obtain ⟨ta, tn, tc, rfl⟩ := hty.slice
  obtain ⟨so, hso⟩ : ∃ so, so = str (nm.data.toList) := ⟨_, rfl⟩
  change Calls Tryz.prog 56 #[.agg #[.int .i64 20, .string nm, .int .i64 N, .int .i64 ty.kind, .string ty.name, .slice ta tn tc, .slice ma mn mc]] w fun e w' => e = .returned (.string (str (nm.data.toList))) ∧ Kept (fun _ => False) w w'
  rw [← hso]
  have HSO := Lib.hid hso
  clear hso
  have K0 : Kept (fun _ => False) w (w.alloc (.cells #[.int .i64 20, .string nm, .int .i64 N, .int .i64 ty.kind, .string ty.name, .slice ta tn tc, .slice ma mn mc] 27)) := (Kept.refl _ _).alloc _
  have HT : Hid (so = nm) := Lib.hid (by
    rw [HSO.out, str_name])
  clear hlen
  go_enter Tryz.func56, Tryz.ntmps56
  go_wp2_with fail
  go_ret
  exact ⟨by rw [HT.out]; rfl, K0⟩
set_option maxRecDepth 100000 in
set_option maxHeartbeats 4000000 in
theorem rw_int {nm : ByteArray} {N : Int} {ty : Ty} {kl : List Tm} {ds : List UInt8} (hd : ∀ W, Calls Tryz.prog 102 #[.int .i64 N] W fun e w' => e = .returned (.string (str ds)) ∧ Kept (fun _ => False) W w') : RS (.mk 19 nm N ty kl) (ds) := by
  intro w ok tk kk hty htm hlen
  obtain ⟨ma, mn, mc, rfl⟩ := htm.slice
  obtain ⟨ta, tn, tc, rfl⟩ := hty.slice
  obtain ⟨so, hso⟩ : ∃ so, so = str (ds) := ⟨_, rfl⟩
  change Calls Tryz.prog 56 #[.agg #[.int .i64 19, .string nm, .int .i64 N, .int .i64 ty.kind, .string ty.name, .slice ta tn tc, .slice ma mn mc]] w fun e w' => e = .returned (.string (str (ds))) ∧ Kept (fun _ => False) w w'
  rw [← hso]
  have HSO := Lib.hid hso
  clear hso
  have K0 : Kept (fun _ => False) w (w.alloc (.cells #[.int .i64 19, .string nm, .int .i64 N, .int .i64 ty.kind, .string ty.name, .slice ta tn tc, .slice ma mn mc] 27)) := (Kept.refl _ _).alloc _
  have HD := Lib.hid hd
  clear hd
  generalize str ds = sd at *
  have HT : Hid (so = sd) := Lib.hid (by
    rw [HSO.out])
  clear hlen
  go_enter Tryz.func56, Tryz.ntmps56
  go_wp2_with fail
  refine (HD.out _).mono ?_
  rintro e w1 ⟨rfl, k1⟩
  go_wp2_with fail
  go_ret
  exact ⟨by rw [HT.out]; rfl, K0.trans k1⟩
set_option maxRecDepth 100000 in
set_option maxHeartbeats 4000000 in
theorem rw_empty {nm : ByteArray} {N : Int} {ty : Ty} {kl : List Tm} (hts : rsC ty) (htz : (tyShow ty).length ≤ 1000000) : RS (.mk 29 nm N ty kl) (([123, 125, 91] : List UInt8) ++ tyShow ty ++ ([93] : List UInt8)) := by
  intro w ok tk kk hty htm hlen
  obtain ⟨ma, mn, mc, rfl⟩ := htm.slice
  obtain ⟨ta, tn, tc, rfl⟩ := hty.slice
  obtain ⟨so, hso⟩ : ∃ so, so = str (([123, 125, 91] : List UInt8) ++ tyShow ty ++ ([93] : List UInt8)) := ⟨_, rfl⟩
  change Calls Tryz.prog 56 #[.agg #[.int .i64 29, .string nm, .int .i64 N, .int .i64 ty.kind, .string ty.name, .slice ta tn tc, .slice ma mn mc]] w fun e w' => e = .returned (.string (str (([123, 125, 91] : List UInt8) ++ tyShow ty ++ ([93] : List UInt8)))) ∧ Kept (fun _ => False) w w'
  rw [← hso]
  have HSO := Lib.hid hso
  clear hso
  have K0 : Kept (fun _ => False) w (w.alloc (.cells #[.int .i64 29, .string nm, .int .i64 N, .int .i64 ty.kind, .string ty.name, .slice ta tn tc, .slice ma mn mc] 27)) := (Kept.refl _ _).alloc _
  have HD := Lib.hid (hts (w.alloc (.cells #[.int .i64 29, .string nm, .int .i64 N, .int .i64 ty.kind, .string ty.name, .slice ta tn tc, .slice ma mn mc] 27)) ok _ (TyL.frame (Same.of_kept (ok := ok) K0 (fun _ _ e => e)) hty) htz)
  have hz : (str (tyShow ty)).size ≤ 1000000 := by rw [str_size]; exact htz
  unfold tyVal at HD
  clear hts htz
  generalize hsx : str (tyShow ty) = sx at *
  have HT : Hid (so = ⟨#[123, 125, 91]⟩ ++ sx ++ ⟨#[93]⟩) := Lib.hid (by
    rw [HSO.out, ← str_app, ← str_app, hsx]
    rfl)
  clear hsx
  clear hlen
  go_enter Tryz.func56, Tryz.ntmps56
  go_wp2_with fail
  refine (HD.out).mono ?_
  rintro e w1 ⟨rfl, k1⟩
  go_wp2_with fail
  go_ret
  exact ⟨by rw [HT.out]; rfl, K0.trans k1⟩
set_option maxRecDepth 100000 in
set_option maxHeartbeats 8000000 in
theorem rw_set {nm : ByteArray} {N : Int} {ty : Ty} {kl : List Tm} {O : Nat → List UInt8} (hp : ∀ i (h : i < kl.length), RS kl[i] (O i)) (hkl : kl.length ≤ 100000) : RS (.mk 28 nm N ty kl) (([123] : List UInt8) ++ joinO O kl.length ++ [125]) := by
  intro w ok tk kk hty htm hlen
  obtain ⟨ta, tn, tc, rfl⟩ := hty.slice
  have HP := Lib.hid hp
  have HKL := Lib.hid hkl
  have HJ : Hid (∀ k, k ≤ kl.length → (joinO O k).length + 2 ≤ 100000000) := Lib.hid (fun k hk => by
    have h1 := join_le O kl.length k hk
    simp only [List.length_append, List.length_cons, List.length_nil] at hlen
    omega)
  have hml : TmL ok w kl kk := htm
  clear hp hkl hlen htm
  cases hml with
  | nil he =>
    rcases he with rfl | ⟨ad, c, rfl⟩
    · change Calls Tryz.prog 56 #[.agg #[.int .i64 28, .string nm, .int .i64 N, .int .i64 ty.kind, .string ty.name, .slice ta tn tc, .slice none 0 0]] w fun e w' => e = .returned (.string (str (([123] : List UInt8) ++ joinO O 0 ++ [125]))) ∧ Kept (fun _ => False) w w'
      obtain ⟨so, hso⟩ : ∃ so, so = str (([123] : List UInt8) ++ joinO O 0 ++ [125]) := ⟨_, rfl⟩
      rw [← hso]
      have HSO := Lib.hid hso
      clear hso
      have K0 : Kept (fun _ => False) w (w.alloc (.cells #[.int .i64 28, .string nm, .int .i64 N, .int .i64 ty.kind, .string ty.name, .slice ta tn tc, .slice none 0 0] 27)) := (Kept.refl _ _).alloc _
      go_enter Tryz.func56, Tryz.ntmps56
      go_wp2_with fail
      go_loop [5, 4] (fun i sv => i = .int .i64 0 ∧ sv = .string ⟨#[123]⟩) (fun i _ => 0)
      case atStart => exact ⟨rfl, rfl⟩
      case round =>
        obtain ⟨rfl, rfl⟩ := hrel
        go_wp2_with fail
        go_ret
        exact ⟨by rw [HSO.out]; rfl, K0⟩
    · change Calls Tryz.prog 56 #[.agg #[.int .i64 28, .string nm, .int .i64 N, .int .i64 ty.kind, .string ty.name, .slice ta tn tc, .slice (some ad) 0 c]] w fun e w' => e = .returned (.string (str (([123] : List UInt8) ++ joinO O 0 ++ [125]))) ∧ Kept (fun _ => False) w w'
      obtain ⟨so, hso⟩ : ∃ so, so = str (([123] : List UInt8) ++ joinO O 0 ++ [125]) := ⟨_, rfl⟩
      rw [← hso]
      have HSO := Lib.hid hso
      clear hso
      have K0 : Kept (fun _ => False) w (w.alloc (.cells #[.int .i64 28, .string nm, .int .i64 N, .int .i64 ty.kind, .string ty.name, .slice ta tn tc, .slice (some ad) 0 c] 27)) := (Kept.refl _ _).alloc _
      go_enter Tryz.func56, Tryz.ntmps56
      go_wp2_with fail
      go_loop [5, 4] (fun i sv => i = .int .i64 0 ∧ sv = .string ⟨#[123]⟩) (fun i _ => 0)
      case atStart => exact ⟨rfl, rfl⟩
      case round =>
        obtain ⟨rfl, rfl⟩ := hrel
        go_wp2_with fail
        go_ret
        exact ⟨by rw [HSO.out]; rfl, K0⟩
  | mk K M hne hg hcap hcell hk hm =>
    rename_i g off cap
    have HC := Lib.hid hcell
    have HK := Lib.hid hk
    have HM := Lib.hid hm
    have HG := Lib.hid hg
    clear hcell hk hm hg
    change Calls Tryz.prog 56 #[.agg #[.int .i64 28, .string nm, .int .i64 N, .int .i64 ty.kind, .string ty.name, .slice ta tn tc, .slice (some ⟨g, off, none⟩) kl.length cap]] w fun e w' => e = .returned (.string (str (([123] : List UInt8) ++ joinO O kl.length ++ [125]))) ∧ Kept (fun _ => False) w w'
    obtain ⟨so, hso⟩ : ∃ so, so = str (([123] : List UInt8) ++ joinO O kl.length ++ [125]) := ⟨_, rfl⟩
    rw [← hso]
    have HSO := Lib.hid hso
    clear hso
    have K0 : Kept (fun _ => False) w (w.alloc (.cells #[.int .i64 28, .string nm, .int .i64 N, .int .i64 ty.kind, .string ty.name, .slice ta tn tc, .slice (some ⟨g, off, none⟩) kl.length cap] 27)) := (Kept.refl _ _).alloc _
    have KD : Kept (fun _ => False) w w := Kept.refl _ _
    go_enter Tryz.func56, Tryz.ntmps56
    go_wp2_with fail
    go_loopw [5, 4] (fun i sv wr => ∃ (k : Nat) (ss : ByteArray), k ≤ kl.length ∧ i = .int .i64 k ∧ sv = .string ss ∧ Hid (ss = str (([123] : List UInt8) ++ joinO O k)) ∧ ss.size ≤ 100000000 ∧ Kept (fun _ => False) w wr) (fun i _ _ => kl.length - (intOf i).toNat)
    case atStart => exact ⟨0, ⟨#[123]⟩, Nat.zero_le _, rfl, rfl, Lib.hid rfl, by decide, K0⟩
    case round =>
      obtain ⟨k, ss, hkl2, rfl, rfl, HS, hss, kr⟩ := hrel
      by_cases hlt : k < kl.length
      · have Sr : Same ok w wr := Same.of_kept kr (fun _ _ e => e)
        obtain ⟨xa, xn, xc, hKk⟩ := (HK.out k hlt).slice
        obtain ⟨ya, yn, yc, hMk⟩ := (HM.out k hlt).slice
        have c0 : wr.cell? ⟨g, off + k * 7, none⟩ = some (.int .i64 kl[k].op) := by have cc := Sr.cell HG.out (HC.out k hlt).1; exact cc
        have c1 : wr.cell? ⟨g, off + k * 7 + 1, none⟩ = some (.string kl[k].name) := by have cc := Sr.cell HG.out (HC.out k hlt).2.1; exact cc
        have c2 : wr.cell? ⟨g, off + k * 7 + 2, none⟩ = some (.int .i64 kl[k].n) := by have cc := Sr.cell HG.out (HC.out k hlt).2.2.1; exact cc
        have c3 : wr.cell? ⟨g, off + k * 7 + 3, none⟩ = some (.int .i64 kl[k].ty.kind) := by have cc := Sr.cell HG.out (HC.out k hlt).2.2.2.1; exact cc
        have c4 : wr.cell? ⟨g, off + k * 7 + 4, none⟩ = some (.string kl[k].ty.name) := by have cc := Sr.cell HG.out (HC.out k hlt).2.2.2.2.1; exact cc
        have c5 : wr.cell? ⟨g, off + k * 7 + 5, none⟩ = some (.slice xa xn xc) := by have cc := Sr.cell HG.out (HC.out k hlt).2.2.2.2.2.1; rw [hKk] at cc; exact cc
        have c6 : wr.cell? ⟨g, off + k * 7 + 6, none⟩ = some (.slice ya yn yc) := by have cc := Sr.cell HG.out (HC.out k hlt).2.2.2.2.2.2; rw [hMk] at cc; exact cc
        have hx5 : TyL ok wr kl[k].ty.kids (.slice xa xn xc) := by rw [← hKk]; exact (HK.out k hlt).frame Sr
        have hx6 : TmL ok wr kl[k].kids (.slice ya yn yc) := by rw [← hMk]; exact (HM.out k hlt).frame Sr
        clear hKk hMk
        have i1 : (k : Int) < (kl.length : Int) := by omega
        have i2 : (k : Int) < 2000000 := by have := HKL.out; omega
        have HJK := Lib.hid (HJ.out (k + 1) (by omega))
        have HOk : Hid ((O k).length ≤ 100000000) := Lib.hid (by
          have h1 := HJK.out
          rw [joinO] at h1
          simp only [List.length_append] at h1
          omega)
        have HPk := Lib.hid (HP.out k hlt wr ok _ _ hx5 hx6 HOk.out)
        unfold tmVal at HPk
        have hz : (str (O k)).size ≤ 100000000 := by rw [str_size]; exact HOk.out
        have HE : Hid (str (([123] : List UInt8) ++ joinO O (k + 1)) = (if k = 0 then ss ++ str (O k) else ss ++ ⟨#[44, 32]⟩ ++ str (O k))) := Lib.hid (by
          rw [HS.out]
          by_cases h0 : k = 0
          · rw [if_pos h0, joinO, if_pos h0, str_app]; simp
          · rw [if_neg h0, joinO, if_neg h0, show (⟨#[44, 32]⟩ : ByteArray) = str [44, 32] from rfl, str_app, str_app]; simp [List.append_assoc])
        have HSZ : Hid ((str (([123] : List UInt8) ++ joinO O (k + 1))).size ≤ 100000000) := Lib.hid (by rw [str_size]; have := HJK.out; simp only [List.length_append, List.length_cons, List.length_nil]; omega)
        generalize str (O k) = sk at *
        by_cases hk0 : k = 0
        · subst hk0
          simp only [Nat.zero_mul, Nat.add_zero] at c0 c1 c2 c3 c4 c5 c6
          rw [if_pos rfl] at HE
          go_wp2_with fail
          refine HPk.out.mono ?_
          rintro e w2 ⟨rfl, k2⟩
          have HE2 := HE.out
          have hz2 : (ss ++ sk : ByteArray).size ≤ 100000000 := by rw [← HE2]; exact HSZ.out
          have HE3 : Hid (ss ++ sk = str (([123] : List UInt8) ++ joinO O (0 + 1))) := Lib.hid HE2.symm
          clear HE2
          go_wp2_with fail
          go_roundw
          case rel => exact ⟨0 + 1, ss ++ sk, by omega, by go_num, rfl, HE3, hz2, kr.trans k2⟩
          case measure => simp [intOf]; omega
        · have i3 : 0 < k := by omega
          rw [if_neg hk0] at HE
          have hz3 : (ss ++ ⟨#[44, 32]⟩ : ByteArray).size ≤ 100000002 := by rw [ByteArray.size_append]; show _ + 2 ≤ _; omega
          clear hk0
          go_wp2_with fail
          refine HPk.out.mono ?_
          rintro e w2 ⟨rfl, k2⟩
          have HE2 := HE.out
          have hz2 : (ss ++ ⟨#[44, 32]⟩ ++ sk : ByteArray).size ≤ 100000000 := by rw [← HE2]; exact HSZ.out
          have HE3 : Hid (ss ++ ⟨#[44, 32]⟩ ++ sk = str (([123] : List UInt8) ++ joinO O (k + 1))) := Lib.hid HE2.symm
          clear HE2
          go_wp2_with fail
          go_roundw
          case rel => exact ⟨k + 1, ss ++ ⟨#[44, 32]⟩ ++ sk, by omega, by go_num, rfl, HE3, hz2, kr.trans k2⟩
          case measure => simp [intOf]; omega
      · have hkk : k = kl.length := by omega
        subst hkk
        have HT : Hid (so = ss ++ ⟨#[125]⟩) := Lib.hid (by rw [HSO.out, HS.out, show (⟨#[125]⟩ : ByteArray) = str [125] from rfl, str_app])
        go_wp2_with fail
        go_ret
        exact ⟨by rw [HT.out]; rfl, kr⟩
end Go.Proofs.YtckjlliobebodaaGreatDoor
