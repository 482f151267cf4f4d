/- What read's deferred closure does: it turns the parser's panics into errors. -/
import Derived.Test.YtckjlliobebodaaGreatDoorParB
import Derived.Recover
namespace Go.Proofs.YtckjlliobebodaaGreatDoor
open Go.RowKit
theorem ta_mal (v : Value) (w : World) : (Instr.typeAssert (.iface 81 v) 20 81 true).run Tryz.prog w = .ok (.tuple #[v, .bool true]) w := by kernel_rfl
theorem ta_no (v : Value) (w : World) : (Instr.typeAssert (.iface 82 v) 20 81 true).run Tryz.prog w = .ok (.tuple #[.agg #[.int .i64 0], .bool false]) w := by kernel_rfl
theorem ta_deep (v : Value) (w : World) : (Instr.typeAssert (.iface 82 v) 20 82 true).run Tryz.prog w = .ok (.tuple #[v, .bool true]) w := by kernel_rfl
set_option maxRecDepth 100000 in
set_option maxHeartbeats 1000000 in
theorem rd_mal (A E : Nat) (pos : Nat) (x y : Int) (older : List PanicEntry) (w : World) (lA : A < w.heap.size) (lE : E < w.heap.size) (hAE : A ≠ E) (hA : w.cell? ⟨A, 0, none⟩ = some (.int .i64 x)) (hE : w.cell? ⟨E, 0, none⟩ = some (.int .i64 y)) (fA : w.frozen? ⟨A, 0, none⟩ = false) (fE : w.frozen? ⟨E, 0, none⟩ = false) :
    CallsD Tryz.prog 62 #[.pointer (some ⟨A, 0, none⟩), .pointer (some ⟨E, 0, none⟩)] (.panicking ({ v := .iface 81 (.agg #[.int .i64 pos]), recovered := false } :: older)) w fun e u' w' =>
      e = .returned (.tuple #[]) ∧ u' = .panicking ({ v := .iface 81 (.agg #[.int .i64 pos]), recovered := true } :: older) ∧ w' = ((w.setCell ⟨A, 0, none⟩ (.int .i64 pos)).setCell ⟨E, 0, none⟩ (.int .i64 2)).alloc (.cells #[.int .i64 pos] 81) := by
  have t1 := ta_mal (.agg #[.int .i64 pos]) w
  refine callsD_of_wpS Tryz.func62 rfl fun c₀ cs hu => ?_
  simp only [Tryz.ntmps62, List.size_toArray, List.length_cons, List.length_nil, Nat.reduceAdd, Nat.reduceSub, Array.replicate_succ,
     Array.replicate_zero, List.push_toArray, List.append_toArray, List.nil_append, List.cons_append]
  apply wpS_seq
  apply wpS_region
  simp [wpOpsS, go_sem, recoverD, hu, Exit.thenS]
  refine wpS_of_wp ?_
  have nA : A ≠ w.heap.size := by omega
  have nE : E ≠ w.heap.size := by omega
  go_wp2_with fail
  simp only [bodyPostS]
  exact ⟨trivial, _, rfl, _, results_none rfl _ _ _, rfl, rfl, trivial⟩
set_option maxRecDepth 100000 in
set_option maxHeartbeats 1000000 in
theorem rd_deep (A E : Nat) (pos : Nat) (x y : Int) (older : List PanicEntry) (w : World) (lA : A < w.heap.size) (lE : E < w.heap.size) (hAE : A ≠ E) (hA : w.cell? ⟨A, 0, none⟩ = some (.int .i64 x)) (hE : w.cell? ⟨E, 0, none⟩ = some (.int .i64 y)) (fA : w.frozen? ⟨A, 0, none⟩ = false) (fE : w.frozen? ⟨E, 0, none⟩ = false) :
    CallsD Tryz.prog 62 #[.pointer (some ⟨A, 0, none⟩), .pointer (some ⟨E, 0, none⟩)] (.panicking ({ v := .iface 82 (.agg #[.int .i64 pos]), recovered := false } :: older)) w fun e u' w' =>
      e = .returned (.tuple #[]) ∧ u' = .panicking ({ v := .iface 82 (.agg #[.int .i64 pos]), recovered := true } :: older) ∧ w' = ((w.setCell ⟨A, 0, none⟩ (.int .i64 pos)).setCell ⟨E, 0, none⟩ (.int .i64 4)).alloc (.cells #[.int .i64 pos] 82) := by
  have t1 := ta_no (.agg #[.int .i64 pos]) w
  have t2 := ta_deep (.agg #[.int .i64 pos]) w
  refine callsD_of_wpS Tryz.func62 rfl fun c₀ cs hu => ?_
  simp only [Tryz.ntmps62, List.size_toArray, List.length_cons, List.length_nil, Nat.reduceAdd, Nat.reduceSub, Array.replicate_succ,
     Array.replicate_zero, List.push_toArray, List.append_toArray, List.nil_append, List.cons_append]
  apply wpS_seq
  apply wpS_region
  simp [wpOpsS, go_sem, recoverD, hu, Exit.thenS]
  refine wpS_of_wp ?_
  have nA : A ≠ w.heap.size := by omega
  have nE : E ≠ w.heap.size := by omega
  go_wp2_with fail
  simp only [bodyPostS]
  exact ⟨trivial, _, rfl, _, results_none rfl _ _ _, rfl, rfl, trivial⟩
set_option maxRecDepth 100000 in
set_option maxHeartbeats 1000000 in
theorem rd_idle (A E : Nat) (w : World) :
    CallsD Tryz.prog 62 #[.pointer (some ⟨A, 0, none⟩), .pointer (some ⟨E, 0, none⟩)] .returning w fun e u' w' => e = .returned (.tuple #[]) ∧ u' = .returning ∧ w' = w := by
  refine callsD_of_wpS Tryz.func62 rfl fun c₀ cs hu => ?_
  simp only [Tryz.ntmps62, List.size_toArray, List.length_cons, List.length_nil, Nat.reduceAdd, Nat.reduceSub, Array.replicate_succ,
     Array.replicate_zero, List.push_toArray, List.append_toArray, List.nil_append, List.cons_append]
  apply wpS_seq
  apply wpS_region
  simp [wpOpsS, go_sem, recoverD, hu, Exit.thenS]
  refine wpS_of_wp ?_
  go_wp2_with fail
  simp only [bodyPostS]
  cases c₀
  exact ⟨trivial, _, by simp_all, _, results_none rfl _ _ _, rfl, rfl, trivial⟩
end Go.Proofs.YtckjlliobebodaaGreatDoor
