/- keyed: the keyword of an operator. Printed by genkey.py. -/
import Derived.Test.YtckjlliobebodaaGreatDoorBin
set_option linter.unusedVariables false
set_option linter.unusedSimpArgs false
namespace Go.Proofs.YtckjlliobebodaaGreatDoor
open Go.RowKit
def keyT : List ByteArray := [⟨#[]⟩, ⟨#[116, 114, 117, 101]⟩, ⟨#[102, 97, 108, 115, 101]⟩, ⟨#[]⟩, ⟨#[]⟩, ⟨#[]⟩, ⟨#[]⟩, ⟨#[]⟩, ⟨#[102, 111, 114, 97, 108, 108, 32]⟩, ⟨#[101, 120, 105, 115, 116, 115, 32]⟩, ⟨#[]⟩, ⟨#[]⟩, ⟨#[]⟩, ⟨#[]⟩, ⟨#[]⟩, ⟨#[]⟩, ⟨#[]⟩, ⟨#[]⟩, ⟨#[]⟩, ⟨#[]⟩, ⟨#[]⟩, ⟨#[]⟩, ⟨#[]⟩, ⟨#[]⟩, ⟨#[]⟩, ⟨#[]⟩, ⟨#[]⟩, ⟨#[]⟩, ⟨#[]⟩, ⟨#[]⟩, ⟨#[]⟩, ⟨#[]⟩, ⟨#[]⟩, ⟨#[]⟩, ⟨#[]⟩, ⟨#[]⟩, ⟨#[]⟩, ⟨#[]⟩, ⟨#[]⟩, ⟨#[]⟩, ⟨#[]⟩, ⟨#[]⟩, ⟨#[]⟩, ⟨#[]⟩, ⟨#[]⟩, ⟨#[]⟩, ⟨#[80, 79, 87]⟩, ⟨#[99, 97, 114, 100]⟩, ⟨#[109, 105, 110]⟩, ⟨#[109, 97, 120]⟩, ⟨#[100, 111, 109]⟩, ⟨#[114, 97, 110]⟩, ⟨#[]⟩, ⟨#[]⟩, ⟨#[]⟩, ⟨#[]⟩, ⟨#[102, 117, 110, 32]⟩]
def keyS (op : Int) : ByteArray := if op < 57 then keyT.getD op.toNat ⟨#[]⟩ else ⟨#[]⟩
def keyA : List Value := keyT.map Value.string
theorem wpList_build {P : Program} {w : World} {ops : Array Oper} {rest : List Oper} {o : Oper} {a : Act} {Q : Exit → Act → World → Prop} (hgd : o.guard = none) (t : TypeId) (parts : Array (Nat × Operand)) (ho : o.op = .build t parts) {v : Value}
    (hr : (Instr.build t (parts.map fun (i, x) => (i, a.eval x))).run P w = .ok v w) (h : wpList P ops Q rest (a.put o.dst v) w) : wpList P ops Q (o :: rest) a w := by
  refine wpList_plain hgd fun K hK => ?_
  unfold Oper.wp execOp
  simp only [ho, Sem.run_bind, Sem.run_pure, Result.andThen_ok, hr]
  exact hK _ _ h
def keyZ : List Value := List.replicate 57 (.string ⟨#[]⟩)
theorem wpList_alloc {P : Program} {w w' : World} {ops : Array Oper} {rest : List Oper} {o : Oper} {a : Act} {Q : Exit → Act → World → Prop} (hgd : o.guard = none) (t : TypeId) (ho : o.op = .alloc t) {v : Value}
    (hr : (Instr.alloc t true (.tuple #[])).run P w = .ok v w') (h : wpList P ops Q rest (a.put o.dst v) w') : wpList P ops Q (o :: rest) a w := by
  refine wpList_plain hgd fun K hK => ?_
  unfold Oper.wp execOp
  simp only [ho, Sem.run_bind, Sem.run_pure, Result.andThen_ok, hr]
  exact hK _ _ h
theorem wpList_gen {P : Program} {ops : Array Oper} {l : List Oper} {Q : Exit → Act → World → Prop} {a : Act} {W : World} (F : World → Prop) (hF : F W) (h : ∀ w6, F w6 → wpList P ops Q l a w6) : wpList P ops Q l a W := h W hF
def KeyF (w w' : World) : Prop := Blk w' w.heap.size 132 keyA ∧ Kept (fun _ => False) w w'
theorem keyF (w : World) : KeyF w ((w.alloc (.cells keyZ.toArray 132)).setCells w.heap.size 0 keyA.toArray.toList) :=
  ⟨(Blk.new w 132 keyZ).setCells rfl, ((Kept.refl (fun _ => False) w).alloc _).setCells (Or.inr (Nat.le_refl _))⟩
theorem key_there (w : World) : (w.alloc (.cells keyZ.toArray 132)).there w.heap.size 0 keyA.toArray.size := (Blk.new w 132 keyZ).there
theorem key_len : keyT.length = 57 := rfl
theorem key_at (op : Nat) (h : op < 57) : keyA[op]? = some (.string (keyS op)) := by
  unfold keyA keyS
  rw [List.getElem?_map, if_pos (by omega), Int.toNat_natCast, List.getD_eq_getElem?_getD]
  rw [List.getElem?_eq_getElem (by rw [key_len]; exact h)]
  rfl
set_option maxRecDepth 100000 in
set_option maxHeartbeats 2000000 in
theorem keyed_any (op : Nat) (w : World) : Calls Tryz.prog 97 #[.int .i64 op] w fun e w' => e = .returned (.string (keyS op)) ∧ Kept (fun _ => False) w w' := by
  by_cases h : op < 57
  · have i1 : (op : Int) < 57 := by omega
    have HA := Lib.hid (key_at op h)
    clear h
    go_enter Tryz.func97, Tryz.ntmps97
    go_wp2_with (first | (refine wpList_build rfl 132 _ rfl (v := .agg keyA.toArray) (by kernel_rfl) ?_) | (refine wpList_alloc rfl 132 rfl (v := .pointer (some ⟨w.heap.size, 0, none⟩)) (w' := w.alloc (.cells keyZ.toArray 132)) (by kernel_rfl) ?_) | (refine wpList_store_mid rfl 132 _ _ rfl w.heap.size 0 keyA.toArray rfl rfl (key_there w) (by kernel_rfl) (by kernel_rfl) ?_; refine wpList_gen (KeyF w) (keyF w) ?_; rintro W ⟨bW, kW⟩; have cW : W.cell? ⟨w.heap.size, op, none⟩ = some (.string (keyS op)) := (by rw [bW.cell]; exact HA.out)))
    go_ret
    exact ⟨rfl, kW⟩
  · have i1 : ((57 : Int) ≤ op) := by omega
    have HS : Hid (keyS op = ⟨#[]⟩) := Lib.hid (by unfold keyS; rw [if_neg (by omega)])
    clear h
    go_enter Tryz.func97, Tryz.ntmps97
    go_wp2_with (first | (refine wpList_build rfl 132 _ rfl (v := .agg keyA.toArray) (by kernel_rfl) ?_) | (refine wpList_alloc rfl 132 rfl (v := .pointer (some ⟨w.heap.size, 0, none⟩)) (w' := w.alloc (.cells keyZ.toArray 132)) (by kernel_rfl) ?_) | (refine wpList_store_mid rfl 132 _ _ rfl w.heap.size 0 keyA.toArray rfl rfl (key_there w) (by kernel_rfl) (by kernel_rfl) ?_; refine wpList_gen (KeyF w) (keyF w) ?_; rintro W ⟨bW, kW⟩))
    go_ret
    exact ⟨by rw [HS.out]; rfl, kW⟩
end Go.Proofs.YtckjlliobebodaaGreatDoor
