/- Texts RSf46 of this proof, in one. -/
import Derived.Test.YtckjlliobebodaaGreatDoorBd13
import Derived.Deep.RegionLaw
set_option linter.unusedVariables false
set_option linter.unusedSimpArgs false
namespace Go.Proofs.YtckjlliobebodaaGreatDoor
open Go.RowKit
set_option maxRecDepth 100000 in
set_option maxHeartbeats 16000000 in
theorem rw_f46 {nm : ByteArray} {N : Int} {ty : Ty} {x : Tm} {ox : List UInt8} (hx : RS x ox) : RS (.mk 46 nm N ty [x]) (([80, 79, 87] : List UInt8) ++ ([40] : List UInt8) ++ ox ++ ([41] : List UInt8)) := by
  intro w ok tk kk hty htm hlen
  have htm0 : TmL ok w [x] kk := htm
  obtain ⟨g, off, cap, k0, m0, rfl, hg, hcl, hx5, hx6⟩ := htm0.oneK
  obtain ⟨xa, xn, xc, rfl⟩ := hx5.slice
  obtain ⟨xb, xo, xd, rfl⟩ := hx6.slice
  obtain ⟨ta, tn, tc, rfl⟩ := hty.slice
  obtain ⟨so, hso⟩ : ∃ so, so = str (([80, 79, 87] : List UInt8) ++ ([40] : List UInt8) ++ ox ++ ([41] : List UInt8)) := ⟨_, rfl⟩
  change Calls Tryz.prog 56 #[.agg #[.int .i64 46, .string nm, .int .i64 N, .int .i64 ty.kind, .string ty.name, .slice ta tn tc, .slice (some ⟨g, off, none⟩) 1 cap]] w fun e w' => e = .returned (.string (str (([80, 79, 87] : List UInt8) ++ ([40] : List UInt8) ++ ox ++ ([41] : List UInt8)))) ∧ Kept (fun _ => False) w w'
  rw [← hso]
  have HSO := Lib.hid hso
  clear hso
  have bA : Blk (w.alloc (.cells #[.int .i64 46, .string nm, .int .i64 N, .int .i64 ty.kind, .string ty.name, .slice ta tn tc, .slice (some ⟨g, off, none⟩) 1 cap] 27)) w.heap.size 27 [.int .i64 46, .string nm, .int .i64 N, .int .i64 ty.kind, .string ty.name, .slice ta tn tc, .slice (some ⟨g, off, none⟩) 1 cap] := Blk.new w 27 _
  have K0 : Kept (fun _ => False) w (w.alloc (.cells #[.int .i64 46, .string nm, .int .i64 N, .int .i64 ty.kind, .string ty.name, .slice ta tn tc, .slice (some ⟨g, off, none⟩) 1 cap] 27)) := (Kept.refl _ _).alloc _
  have HZx : Hid (ox.length ≤ 100000000) := Lib.hid (by simp only [List.length_append] at hlen; omega)
  clear hlen
  have HX := Lib.hid (fun W (k : Kept (fun _ => False) w W) => hx W ok _ _ (hx5.frame (Same.of_kept (ok := ok) k (fun _ _ e => e))) (hx6.frame (Same.of_kept (ok := ok) k (fun _ _ e => e))) HZx.out)
  have hzx : (str ox).size ≤ 100000000 := by rw [str_size]; exact HZx.out
  generalize hsx : str ox = sx at *
  have HSx := Lib.hid hsx
  clear hsx hx
  unfold tmVal at HX
  have HT : Hid (so = ⟨#[80, 79, 87]⟩ ++ ⟨#[40]⟩ ++ sx ++ ⟨#[41]⟩) := Lib.hid (by
    rw [HSO.out, ← str_app, ← str_app, ← str_app, HSx.out]
    rfl)
  have HF := Lib.hid (fun W (k : Kept (fun _ => False) (w.alloc (.cells #[.int .i64 46, .string nm, .int .i64 N, .int .i64 ty.kind, .string ty.name, .slice ta tn tc, .slice (some ⟨g, off, none⟩) 1 cap] 27)) W) => (⟨(bA.kept k (fun h => h)).cell 0, (bA.kept k (fun h => h)).cell 6, (Same.of_kept (ok := ok) (K0.trans k) (fun _ _ e => e)).cell hg (hcl 0 _ rfl), (Same.of_kept (ok := ok) (K0.trans k) (fun _ _ e => e)).cell hg (hcl 1 _ rfl), (Same.of_kept (ok := ok) (K0.trans k) (fun _ _ e => e)).cell hg (hcl 2 _ rfl), (Same.of_kept (ok := ok) (K0.trans k) (fun _ _ e => e)).cell hg (hcl 3 _ rfl), (Same.of_kept (ok := ok) (K0.trans k) (fun _ _ e => e)).cell hg (hcl 4 _ rfl), (Same.of_kept (ok := ok) (K0.trans k) (fun _ _ e => e)).cell hg (hcl 5 _ rfl), (Same.of_kept (ok := ok) (K0.trans k) (fun _ _ e => e)).cell hg (hcl 6 _ rfl)⟩ : W.cell? ⟨w.heap.size, 0, none⟩ = some (.int .i64 46) ∧ W.cell? ⟨w.heap.size, 6, none⟩ = some (.slice (some ⟨g, off, none⟩) 1 cap) ∧ W.cell? ⟨g, off, none⟩ = some (.int .i64 x.op) ∧ W.cell? ⟨g, off + 1, none⟩ = some (.string x.name) ∧ W.cell? ⟨g, off + 2, none⟩ = some (.int .i64 x.n) ∧ W.cell? ⟨g, off + 3, none⟩ = some (.int .i64 x.ty.kind) ∧ W.cell? ⟨g, off + 4, none⟩ = some (.string x.ty.name) ∧ W.cell? ⟨g, off + 5, none⟩ = some (.slice xa xn xc) ∧ W.cell? ⟨g, off + 6, none⟩ = some (.slice xb xo xd)))
  go_enter Tryz.func56, Tryz.ntmps56
  go_upto_region 1 with (fail)
  generalize hw1 : w.alloc (.cells #[.int .i64 46, .string nm, .int .i64 N, .int .i64 ty.kind, .string ty.name, .slice ta tn tc, .slice (some ⟨g, off, none⟩) 1 cap] 27) = w1 at *
  clear hw1
  obtain ⟨a0, a1, a2, a3, a4, a5, a6, a7, a8⟩ := HF.out w1 (Kept.refl _ _)
  have lg := cell_lt a2
  have lA := bA.lt
  clear hcl
  have KD : Kept (fun _ => False) w1 w1.drew := (Kept.refl _ _).drew
  have KA : Kept (fun _ => False) w1 (w1.alloc (.cells #[.string ⟨#[80, 79, 87]⟩, .string ⟨#[99, 97, 114, 100]⟩, .string ⟨#[109, 105, 110]⟩, .string ⟨#[109, 97, 120]⟩, .string ⟨#[100, 111, 109]⟩, .string ⟨#[114, 97, 110]⟩] 9)).drew := ((Kept.refl _ _).alloc _).drew
  have bS : Blk (w1.alloc (.cells #[.string ⟨#[80, 79, 87]⟩, .string ⟨#[99, 97, 114, 100]⟩, .string ⟨#[109, 105, 110]⟩, .string ⟨#[109, 97, 120]⟩, .string ⟨#[100, 111, 109]⟩, .string ⟨#[114, 97, 110]⟩] 9)).drew w1.heap.size 9 [Value.string ⟨#[80, 79, 87]⟩, Value.string ⟨#[99, 97, 114, 100]⟩, Value.string ⟨#[109, 105, 110]⟩, Value.string ⟨#[109, 97, 120]⟩, Value.string ⟨#[100, 111, 109]⟩, Value.string ⟨#[114, 97, 110]⟩] := Blk.drew (Blk.new w1 9 _)
  have wk : IntKind.i64.wrap 0 = 0 := by decide
  have ng : g ≠ w1.heap.size := by omega
  have nA : w.heap.size ≠ w1.heap.size := by omega
  have hb1 : ¬ 9223372036854775807 < 4 + sx.size := by omega
  have hb2 : ¬ 9223372036854775807 < 4 + sx.size + 1 := by omega
  clear hzx
  go_wp2_with fail
  go_region_law
    (first | (go_simp; go_at_call 56; refine (HX.out _ (by first | exact K0.trans KD | exact K0.trans KA)).mono ?_; rintro e wq ⟨rfl, kq⟩; first | (have KE := KA.trans kq; have gS : ∀ i, wq.cell? ⟨w1.heap.size, i, none⟩ = [Value.string ⟨#[80, 79, 87]⟩, Value.string ⟨#[99, 97, 114, 100]⟩, Value.string ⟨#[109, 105, 110]⟩, Value.string ⟨#[109, 97, 120]⟩, Value.string ⟨#[100, 111, 109]⟩, Value.string ⟨#[114, 97, 110]⟩][i]? := (bS.kept kq (fun h => h)).cell; obtain ⟨b0, b1, b2, b3, b4, b5, b6, b7, b8⟩ := HF.out _ KE) | (have KE := KD.trans kq; have lz : w1.heap.size ≤ wq.heap.size := kq.size; have nq1 : w.heap.size ≠ wq.heap.size := (by omega); have nq2 : g ≠ wq.heap.size := (by omega); have lq1 : w.heap.size < wq.heap.size := (by omega); have lq2 : g < wq.heap.size := (by omega); obtain ⟨b0, b1, b2, b3, b4, b5, b6, b7, b8⟩ := HF.out _ KE)))
  all_goals
    go_wp2_with fail
    go_ret
    exact ⟨by rw [HT.out]; rfl, by first | exact K0.trans KE | exact (K0.trans KE).alloc _⟩
end Go.Proofs.YtckjlliobebodaaGreatDoor
