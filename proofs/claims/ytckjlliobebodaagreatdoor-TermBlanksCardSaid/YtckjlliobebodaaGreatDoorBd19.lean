/- Texts RSwD of this proof, in one. -/
import Derived.Test.YtckjlliobebodaaGreatDoorBd13
import Derived.Deep.RegionHeld
set_option linter.unusedVariables false
set_option linter.unusedSimpArgs false
namespace Go.Proofs.YtckjlliobebodaaGreatDoor
open Go.RowKit
set_option maxRecDepth 100000 in
set_option maxHeartbeats 16000000 in
theorem rw_compr {nm : ByteArray} {N : Int} {ty : Ty} {x y : Tm} {ox oy : List UInt8} (hx : RO x ox) (hy : RS y oy) : RS (.mk 55 nm N ty [x, y]) (([123] : List UInt8) ++ nm.data.toList ++ ([32, 105, 110, 32] : List UInt8) ++ ox ++ ([32, 124, 32] : List UInt8) ++ oy ++ ([125] : List UInt8)) := by
  intro w ok tk kk hty htm hlen
  have htm0 : TmL ok w [x, y] kk := htm
  obtain ⟨g, off, cap, k0, m0, k1, m1, rfl, hg, hcl, hx5, hx6, hy5, hy6⟩ := htm0.twoK
  obtain ⟨xa, xn, xc, rfl⟩ := hx5.slice
  obtain ⟨xb, xo, xd, rfl⟩ := hx6.slice
  obtain ⟨ya, yn, yc, rfl⟩ := hy5.slice
  obtain ⟨yb, yo, yd, rfl⟩ := hy6.slice
  obtain ⟨ta, tn, tc, rfl⟩ := hty.slice
  obtain ⟨so, hso⟩ : ∃ so, so = str (([123] : List UInt8) ++ nm.data.toList ++ ([32, 105, 110, 32] : List UInt8) ++ ox ++ ([32, 124, 32] : List UInt8) ++ oy ++ ([125] : List UInt8)) := ⟨_, rfl⟩
  change Calls Tryz.prog 56 #[.agg #[.int .i64 55, .string nm, .int .i64 N, .int .i64 ty.kind, .string ty.name, .slice ta tn tc, .slice (some ⟨g, off, none⟩) 2 cap]] w fun e w' => e = .returned (.string (str (([123] : List UInt8) ++ nm.data.toList ++ ([32, 105, 110, 32] : List UInt8) ++ ox ++ ([32, 124, 32] : List UInt8) ++ oy ++ ([125] : List UInt8)))) ∧ Kept (fun _ => False) w w'
  rw [← hso]
  have HSO := Lib.hid hso
  clear hso
  have bA : Blk (w.alloc (.cells #[.int .i64 55, .string nm, .int .i64 N, .int .i64 ty.kind, .string ty.name, .slice ta tn tc, .slice (some ⟨g, off, none⟩) 2 cap] 27)) w.heap.size 27 [.int .i64 55, .string nm, .int .i64 N, .int .i64 ty.kind, .string ty.name, .slice ta tn tc, .slice (some ⟨g, off, none⟩) 2 cap] := Blk.new w 27 _
  have K0 : Kept (fun _ => False) w (w.alloc (.cells #[.int .i64 55, .string nm, .int .i64 N, .int .i64 ty.kind, .string ty.name, .slice ta tn tc, .slice (some ⟨g, off, none⟩) 2 cap] 27)) := (Kept.refl _ _).alloc _
  have HLN : Hid ((([123] : List UInt8) ++ nm.data.toList ++ ([32, 105, 110, 32] : List UInt8) ++ ox ++ ([32, 124, 32] : List UInt8) ++ oy ++ ([125] : List UInt8)).length ≤ 100000000) := Lib.hid hlen
  have HZx : Hid (ox.length ≤ 100000000) := Lib.hid (by (try simp only [List.length_append] at hlen); omega)
  have HZy : Hid (oy.length ≤ 100000000) := Lib.hid (by (try simp only [List.length_append] at hlen); omega)
  have HZn : Hid (nm.size ≤ 100000000) := Lib.hid (by (try simp only [List.length_append] at hlen); have := ba_len nm; omega)
  clear hlen
  have HX := Lib.hid (fun W (k : Kept (fun _ => False) w W) => hx W ok _ _ (hx5.frame (Same.of_kept (ok := ok) k (fun _ _ e => e))) (hx6.frame (Same.of_kept (ok := ok) k (fun _ _ e => e))) HZx.out)
  have hzx : (str ox).size ≤ 100000000 := by rw [str_size]; exact HZx.out
  generalize hsx : str ox = sx at *
  have HSx := Lib.hid hsx
  clear hsx hx
  unfold tmVal at HX
  have HY := Lib.hid (fun W (k : Kept (fun _ => False) w W) => hy W ok _ _ (hy5.frame (Same.of_kept (ok := ok) k (fun _ _ e => e))) (hy6.frame (Same.of_kept (ok := ok) k (fun _ _ e => e))) HZy.out)
  have hzy : (str oy).size ≤ 100000000 := by rw [str_size]; exact HZy.out
  generalize hsy : str oy = sy at *
  have HSy := Lib.hid hsy
  clear hsy hy
  unfold tmVal at HY
  have hzn := HZn.out
  have HT : Hid (so = ⟨#[123]⟩ ++ nm ++ ⟨#[32, 105, 110, 32]⟩ ++ sx ++ ⟨#[32, 124, 32]⟩ ++ sy ++ ⟨#[125]⟩) := Lib.hid (by
    rw [HSO.out, ← str_app, ← str_app, ← str_app, ← str_app, ← str_app, ← str_app, HSx.out, HSy.out, str_name]
    rfl)
  go_enter Tryz.func56, Tryz.ntmps56
  have HF := Lib.hid (fun W (k : Kept (fun _ => False) (w.alloc (.cells #[.int .i64 55, .string nm, .int .i64 N, .int .i64 ty.kind, .string ty.name, .slice ta tn tc, .slice (some ⟨g, off, none⟩) 2 cap] 27)) W) => (⟨(bA.kept k (fun h => h)).cell 0, (bA.kept k (fun h => h)).cell 1, (bA.kept k (fun h => h)).cell 6, (Same.of_kept (ok := ok) (K0.trans k) (fun _ _ e => e)).cell hg (hcl 0 _ rfl), (Same.of_kept (ok := ok) (K0.trans k) (fun _ _ e => e)).cell hg (hcl 1 _ rfl), (Same.of_kept (ok := ok) (K0.trans k) (fun _ _ e => e)).cell hg (hcl 2 _ rfl), (Same.of_kept (ok := ok) (K0.trans k) (fun _ _ e => e)).cell hg (hcl 3 _ rfl), (Same.of_kept (ok := ok) (K0.trans k) (fun _ _ e => e)).cell hg (hcl 4 _ rfl), (Same.of_kept (ok := ok) (K0.trans k) (fun _ _ e => e)).cell hg (hcl 5 _ rfl), (Same.of_kept (ok := ok) (K0.trans k) (fun _ _ e => e)).cell hg (hcl 6 _ rfl), (Same.of_kept (ok := ok) (K0.trans k) (fun _ _ e => e)).cell hg (hcl 7 _ rfl), (Same.of_kept (ok := ok) (K0.trans k) (fun _ _ e => e)).cell hg (hcl 8 _ rfl), (Same.of_kept (ok := ok) (K0.trans k) (fun _ _ e => e)).cell hg (hcl 9 _ rfl), (Same.of_kept (ok := ok) (K0.trans k) (fun _ _ e => e)).cell hg (hcl 10 _ rfl), (Same.of_kept (ok := ok) (K0.trans k) (fun _ _ e => e)).cell hg (hcl 11 _ rfl), (Same.of_kept (ok := ok) (K0.trans k) (fun _ _ e => e)).cell hg (hcl 12 _ rfl), (Same.of_kept (ok := ok) (K0.trans k) (fun _ _ e => e)).cell hg (hcl 13 _ rfl)⟩ : W.cell? ⟨w.heap.size, 0, none⟩ = some (.int .i64 55) ∧ W.cell? ⟨w.heap.size, 1, none⟩ = some (.string nm) ∧ W.cell? ⟨w.heap.size, 6, none⟩ = some (.slice (some ⟨g, off, none⟩) 2 cap) ∧ W.cell? ⟨g, off, none⟩ = some (.int .i64 x.op) ∧ W.cell? ⟨g, off + 1, none⟩ = some (.string x.name) ∧ W.cell? ⟨g, off + 2, none⟩ = some (.int .i64 x.n) ∧ W.cell? ⟨g, off + 3, none⟩ = some (.int .i64 x.ty.kind) ∧ W.cell? ⟨g, off + 4, none⟩ = some (.string x.ty.name) ∧ W.cell? ⟨g, off + 5, none⟩ = some (.slice xa xn xc) ∧ W.cell? ⟨g, off + 6, none⟩ = some (.slice xb xo xd) ∧ W.cell? ⟨g, off + 7, none⟩ = some (.int .i64 y.op) ∧ W.cell? ⟨g, off + 8, none⟩ = some (.string y.name) ∧ W.cell? ⟨g, off + 9, none⟩ = some (.int .i64 y.n) ∧ W.cell? ⟨g, off + 10, none⟩ = some (.int .i64 y.ty.kind) ∧ W.cell? ⟨g, off + 11, none⟩ = some (.string y.ty.name) ∧ W.cell? ⟨g, off + 12, none⟩ = some (.slice ya yn yc) ∧ W.cell? ⟨g, off + 13, none⟩ = some (.slice yb yo yd)))
  go_upto_region 1 with (fail)
  generalize hw1 : w.alloc (.cells #[.int .i64 55, .string nm, .int .i64 N, .int .i64 ty.kind, .string ty.name, .slice ta tn tc, .slice (some ⟨g, off, none⟩) 2 cap] 27) = w1 at *
  clear hw1
  obtain ⟨a0, a1, a2, a3, a4, a5, a6, a7, a8, a9, a10, a11, a12, a13, a14, a15, a16⟩ := HF.out w1 (Kept.refl _ _)
  have lg := cell_lt a3
  have lA := bA.lt
  clear hcl
  have KD : Kept (fun _ => False) w1 w1.drew := (Kept.refl _ _).drew
  go_wp2_with fail
  go_region_held (fun w' => w'.cell? ⟨w.heap.size, 0, none⟩ = some (.int .i64 55) ∧ w'.cell? ⟨w.heap.size, 1, none⟩ = some (.string nm) ∧ w'.cell? ⟨w.heap.size, 6, none⟩ = some (.slice (some ⟨g, off, none⟩) 2 cap) ∧ w'.cell? ⟨g, off, none⟩ = some (.int .i64 x.op) ∧ w'.cell? ⟨g, off + 1, none⟩ = some (.string x.name) ∧ w'.cell? ⟨g, off + 2, none⟩ = some (.int .i64 x.n) ∧ w'.cell? ⟨g, off + 3, none⟩ = some (.int .i64 x.ty.kind) ∧ w'.cell? ⟨g, off + 4, none⟩ = some (.string x.ty.name) ∧ w'.cell? ⟨g, off + 5, none⟩ = some (.slice xa xn xc) ∧ w'.cell? ⟨g, off + 6, none⟩ = some (.slice xb xo xd) ∧ w'.cell? ⟨g, off + 7, none⟩ = some (.int .i64 y.op) ∧ w'.cell? ⟨g, off + 8, none⟩ = some (.string y.name) ∧ w'.cell? ⟨g, off + 9, none⟩ = some (.int .i64 y.n) ∧ w'.cell? ⟨g, off + 10, none⟩ = some (.int .i64 y.ty.kind) ∧ w'.cell? ⟨g, off + 11, none⟩ = some (.string y.ty.name) ∧ w'.cell? ⟨g, off + 12, none⟩ = some (.slice ya yn yc) ∧ w'.cell? ⟨g, off + 13, none⟩ = some (.slice yb yo yd)) (go_keep)
    (first | (go_at_call 103; refine (HX.out _ (by first | exact K0.trans KD | exact K0.trans KE)).mono ?_; rintro e wq ⟨rfl, kq⟩; first | (have KF := KE.trans kq; obtain ⟨c0, c1, c2, c3, c4, c5, c6, c7, c8, c9, c10, c11, c12, c13, c14, c15, c16⟩ := HF.out _ KF) | (have KE := KD.trans kq; obtain ⟨b0, b1, b2, b3, b4, b5, b6, b7, b8, b9, b10, b11, b12, b13, b14, b15, b16⟩ := HF.out _ KE)) | (go_at_call 56; refine (HY.out _ (by first | exact K0.trans KD | exact K0.trans KE)).mono ?_; rintro e wq ⟨rfl, kq⟩; first | (have KF := KE.trans kq; obtain ⟨c0, c1, c2, c3, c4, c5, c6, c7, c8, c9, c10, c11, c12, c13, c14, c15, c16⟩ := HF.out _ KF) | (have KE := KD.trans kq; obtain ⟨b0, b1, b2, b3, b4, b5, b6, b7, b8, b9, b10, b11, b12, b13, b14, b15, b16⟩ := HF.out _ KE)))
  all_goals
    go_wp2_with fail
    go_ret
    exact ⟨by rw [HT.out]; rfl, K0.trans KF⟩
end Go.Proofs.YtckjlliobebodaaGreatDoor
