/- Format: the source of a valid term. -/
import Derived.Test.YtckjlliobebodaaGreatDoorPrt
set_option linter.unusedVariables false
set_option linter.unusedSimpArgs false
namespace Go.Proofs.YtckjlliobebodaaGreatDoor
open Go.RowKit
set_option maxRecDepth 100000 in
set_option maxHeartbeats 4000000 in
theorem format_ok {t : Tm} {out : List UInt8} {ok : Nat → Prop} {w : World} {ta : Option Addr} {tn tc : Nat} {ma : Option Addr} {mn mc : Nat} (hty : TyL ok w t.ty.kids (.slice ta tn tc)) (htm : TmL ok w t.kids (.slice ma mn mc)) (hp : PC t out) (hv : validB t = true) (hs : SmTm big t) (h0 : out ≠ []) (hlen : out.length ≤ 1000000000) :
    Calls Tryz.prog 21 #[.agg #[.int .i64 t.op, .string t.name, .int .i64 t.n, .int .i64 t.ty.kind, .string t.ty.name, .slice ta tn tc, .slice ma mn mc]] w fun e w' => e = .returned (.string ⟨out.toArray⟩) ∧ Kept (fun _ => False) w w' := by
  have K0 : Kept (fun _ => False) w (w.alloc (.cells #[.int .i64 t.op, .string t.name, .int .i64 t.n, .int .i64 t.ty.kind, .string t.ty.name, .slice ta tn tc, .slice ma mn mc] 27)) := (Kept.refl _ _).alloc _
  have bX : Blk (w.alloc (.cells #[.int .i64 t.op, .string t.name, .int .i64 t.n, .int .i64 t.ty.kind, .string t.ty.name, .slice ta tn tc, .slice ma mn mc] 27)) w.heap.size 27 (tmCells t (.slice ta tn tc) (.slice ma mn mc)) := Blk.new w 27 _
  have HV := Lib.hid (valid_any (hty.frame (Same.alloc w (.cells #[.int .i64 t.op, .string t.name, .int .i64 t.n, .int .i64 t.ty.kind, .string t.ty.name, .slice ta tn tc, .slice ma mn mc] 27))) (htm.frame (Same.alloc w (.cells #[.int .i64 t.op, .string t.name, .int .i64 t.n, .int .i64 t.ty.kind, .string t.ty.name, .slice ta tn tc, .slice ma mn mc] 27))) hs)
  have HP := Lib.hid hp
  have H0 := Lib.hid h0
  have HL := Lib.hid hlen
  clear hp h0 hlen hs
  go_enter Tryz.func21, Tryz.ntmps21
  go_wp2_with fail
  refine HV.out.mono ?_
  rintro e w1 ⟨rfl, k1⟩
  rw [hv]
  have K1 := K0.trans k1
  have b1 := bX.kept k1 (fun h => h)
  have bB : Blk (w1.alloc (.cells #[.pointer none, .slice none 0 0] 71)) w1.heap.size 71 [.pointer none, .slice none 0 0] := Blk.new w1 71 _
  have K2 : Kept (fun _ => False) w1 (w1.alloc (.cells #[.pointer none, .slice none 0 0] 71)) := (Kept.refl _ _).alloc _
  have hU : Bu w1.heap.size w1.heap.size [] (w1.alloc (.cells #[.pointer none, .slice none 0 0] 71)) := Or.inl ⟨Nat.le_refl _, .slice none 0 0, bB, World.ownsRow_nil _ _ _ _, by simp [Value.ownBlock]⟩
  have t5 := ((hty.frame (Same.of_kept K1 (fun _ _ e => e))).mono (ok' := fun q => q < w1.heap.size) (fun q h _ => h)).frame (Same.of_kept K2 (fun _ _ e => e))
  have t6 := ((htm.frame (Same.of_kept K1 (fun _ _ e => e))).mono (ok' := fun q => q < w1.heap.size) (fun q h _ => h)).frame (Same.of_kept K2 (fun _ _ e => e))
  have HC := Lib.hid (HP.out w1.heap.size w1.heap.size [] _ _ _ hU (by simp) t5 t6 (by have := HL.out; simpa using this))
  have b2 := b1.alloc (.cells #[.pointer none, .slice none 0 0] 71)
  have l1 := b1.lt
  have n1 : w.heap.size ≠ w1.heap.size := by omega
  have g0 : w1.cell? ⟨w.heap.size, 0, none⟩ = some (.int .i64 t.op) := b1.cell 0
  have g1 : w1.cell? ⟨w.heap.size, 1, none⟩ = some (.string t.name) := b1.cell 1
  have g2 : w1.cell? ⟨w.heap.size, 2, none⟩ = some (.int .i64 t.n) := b1.cell 2
  have g3 : w1.cell? ⟨w.heap.size, 3, none⟩ = some (.int .i64 t.ty.kind) := b1.cell 3
  have g4 : w1.cell? ⟨w.heap.size, 4, none⟩ = some (.string t.ty.name) := b1.cell 4
  have g5 : w1.cell? ⟨w.heap.size, 5, none⟩ = some (.slice ta tn tc) := b1.cell 5
  have g6 : w1.cell? ⟨w.heap.size, 6, none⟩ = some (.slice ma mn mc) := b1.cell 6
  go_wp2_with fail
  refine HC.out.mono ?_
  rintro e w3 ⟨rfl, u3, k3⟩
  rw [List.nil_append] at u3
  have HS := Lib.hid (bstr_any u3 H0.out)
  have K3 : Kept (fun k => w1.heap.size ≤ k) w1 w3 := (K2.mono (fun _ _ h => h.elim)).via k3 (fun x hx e => by
    rcases e with rfl | ⟨h, _⟩
    · exact Nat.le_refl _
    · exact h)
  go_wp2_with fail
  refine HS.out.mono ?_
  rintro e w4 ⟨rfl, k4⟩
  go_wp2_with fail
  go_ret
  refine ⟨rfl, K1.via (S' := fun k => w1.heap.size ≤ k) (K3.via (S' := fun k => w1.heap.size ≤ k) ⟨k4.os, k4.tape, k4.output, k4.size, fun q hq hn => k4.block q (by omega)⟩ (fun _ _ h => h)) (fun x hx h => ?_)⟩
  have := K1.size
  omega
end Go.Proofs.YtckjlliobebodaaGreatDoor
