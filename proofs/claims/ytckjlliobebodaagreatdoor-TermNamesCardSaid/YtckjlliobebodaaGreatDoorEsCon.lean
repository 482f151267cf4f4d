/- TermErrorStays: the contract of its row, for every two strings. -/
import Derived.Test.YtckjlliobebodaaGreatDoorRows
import Derived.Deep.DeepLaidRun
import Derived.ProofKit
import Derived.Test.YtckjlliobebodaaGreatDoorEs
import Derived.Test.YtckjlliobebodaaGreatDoorCards
import Derived.Test.YtckjlliobebodaaGreatDoorTie
import Derived.OpenShut
import Derived.Deep.DeepHandedRow
import Derived.Stop.LaidErr
import Derived.LaidLaws
import Derived.ChangeMaps5
set_option linter.unusedVariables false
set_option linter.unusedSimpArgs false
namespace Go.Proofs.YtckjlliobebodaaGreatDoor
open Go.ChangeShapes Go.WideShapes Go.ChangeAt Go.RowKit
def litV : DataW Unit → Value
  | .lit (.int k n) => .int k n
  | _ => undef
def flat1 : DataW Unit → List Value
  | .agg l => l.map litV
  | _ => []
def flat2 : DataW Unit → List Value
  | .agg l => (l.map flat1).flatten
  | _ => []
abbrev ranS : ByteArray := { data := #[118, 97, 108, 117, 101, 32, 111, 117, 116, 32, 111, 102, 32, 114, 97, 110, 103, 101] }
abbrev synS : ByteArray := { data := #[105, 110, 118, 97, 108, 105, 100, 32, 115, 121, 110, 116, 97, 120] }
noncomputable def low0 : Nat := (World.holding Tryz.prog default ⟨#[], #[], []⟩).heap.size
def putC (c : Array Value) : Obj → Obj
  | .cells _ t frozen => .cells c t frozen
  | o => o
/-- A world for the witness: the settled one, the listed variables laid. -/
noncomputable def laidWorld (os : Os) : World :=
  let w0 := World.holding Tryz.prog os ⟨#[.cells #[.string synS] 177, .cells #[.string ranS] 177], #[], []⟩
  { w0 with heap := ((((((w0.heap.modify 0 (putC #[.iface 175 (.pointer (some ⟨low0, 0, none⟩))])).modify 1 (putC #[.iface 175 (.pointer (some ⟨low0 + 1, 0, none⟩))])).modify 2 (putC (flat1 Rows.laid_internal_strconv_uint64pow10).toArray)).modify 3 (putC (flat1 Rows.laid_unicode_utf8_first).toArray)).modify 4 (putC (flat2 Rows.laid_unicode_utf8_acceptRanges).toArray)).modify 6 (putC (flat1 Rows.laid_math_bits_deBruijn32tab).toArray)).modify 7 (putC (flat1 Rows.laid_math_bits_deBruijn64tab).toArray) }
theorem own0 : ownKnob Tryz.prog.godebug = none := by kernel_rfl
theorem gSyn : Tryz.prog.globalNamed "strconv.ErrSyntax" = some 0 := by kernel_rfl
theorem gRan : Tryz.prog.globalNamed "strconv.ErrRange" = some 1 := by kernel_rfl
theorem gSynT : (Tryz.prog.globals[0]?).map (·.type) = some 100 := by kernel_rfl
theorem gRanT : (Tryz.prog.globals[1]?).map (·.type) = some 100 := by kernel_rfl
theorem cells177 : Tryz.prog.cellsOf 177 = 1 := by kernel_rfl
theorem cells9 : Tryz.prog.cellsOf 9 = 1 := by kernel_rfl
theorem star0 : "*" ++ "errors.errorString" = "*errors.errorString" := by decide
theorem row175 (u : TypeId) (h : Tryz.prog.typeName? 3 u = some "*errors.errorString") : u = 175 :=
  typeName_ptr_named (nm := "errors.errorString") (by rw [star0]; kernel_rfl) (by kernel_rfl) (by decide) u (by rw [star0]; exact h)
/-- What the row's list gives: the two errors of package strconv are set. -/
theorem gl_of_laid {W : World} (h : laidMetH Tryz.prog Rows.termErrorStaysRow.laid W) : Gl W := by
  have h0 : laidMet Tryz.prog Rows.termErrorStaysRow.laid W := h
  have h4 := h0.tail.tail.tail.tail
  obtain ⟨a1, s1, hv1, _⟩ := laid_sentinel h4 gRan gRanT Tryz.underlying100 row175 Tryz.underlying175 Tryz.underlying177 rfl rfl Tryz.underlying9 cells177 cells9
  obtain ⟨a0, s0, hv0, _⟩ := laid_sentinel h4.tail gSyn gSynT Tryz.underlying100 row175 Tryz.underlying175 Tryz.underlying177 rfl rfl Tryz.underlying9 cells177 cells9
  exact ⟨⟨175, _, by simpa using World.var?_cell gSyn hv0 0⟩, ⟨175, _, by simpa using World.var?_cell gRan hv1 0⟩⟩
theorem keptBut_of_kept {w w' : World} (h : Kept (fun _ => False) w w') (may : MemPlace → Prop) : w.keptBut w' may := by
  refine ⟨h.os, h.output, fun i hi => ?_⟩
  have := (World.keptBut_refl w may).2.2 i hi
  rw [h.block i hi (fun h => h)]
  exact this
set_option maxRecDepth 100000 in
theorem es_contract (H : Type) (enc : TypeId × Value → H) (W : World) (base : Nat) (args : Array Value) (ds gs : List (DataW H)) (before : List MemPlace)
    (hval : ∀ (j : Nat) t v, Tryz.f6.params[j]? = some t → args[j]? = some v → Value.okWide Tryz.prog W .any base t v)
    (hW : DataW.Whole enc Tryz.prog Tryz.f6.params.toList Rows.termErrorStaysSpec.vars false W args.toList ds gs before)
    (hwt : (DataW.weightsEach Tryz.prog (Tryz.f6.params.toList ++ (OpenSpec.ofChange Rows.termErrorStaysSpec).bare.plain.varTypes Tryz.prog) (ds ++ gs)).all (· ≤ reachBytes) = true) (hL : laidMetH Tryz.prog Rows.termErrorStaysRow.laid W) :
    Calls Tryz.prog 6 args W fun e W' => ∃ v, e = .returned v ∧ Rows.termErrorStaysSpec.post enc Tryz.prog Tryz.f6 false true false false W args v W' := by
  have hW' := hW
  obtain ⟨p, q, hA0, hV, rfl, hfz, hnd⟩ := hW
  have hA : DataW.TrodAll enc Tryz.prog W 0 (fun _ => true) true Tryz.f6.params.toList args.toList ds p := hA0
  rw [Tryz.params6] at hA hval hwt
  obtain ⟨v0, v1, d0, d1, p0, p1, rfl, rfl, rfl, h0, h1⟩ := trodAll_two hA
  obtain ⟨rfl, rfl⟩ := trodVars_none hV
  obtain ⟨s, rfl, rfl, rfl, hs⟩ := ChangeMaps.open_string Tryz.underlying9 (hval 0 9 v0 rfl rfl) h0
  obtain ⟨m, rfl, rfl, rfl, hm⟩ := ChangeMaps.open_string Tryz.underlying9 (hval 1 9 v1 rfl rfl) h1
  clear hA0
  have hz : s.size ≤ 140737488351232 ∧ m.size ≤ 140737488351232 := by
    simp only [List.append_nil, DataW.weightsEach, DataW.weights, List.all_cons, List.all_nil, Bool.and_true, Bool.and_eq_true, decide_eq_true_eq, List.cons_append, List.nil_append, ba_len, reachBytes] at hwt
    exact ⟨of_decide_eq_true hwt.1, by have h2 := hwt.2; first | exact of_decide_eq_true h2 | exact of_decide_eq_true h2.1⟩
  refine (es_any s m W (gl_of_laid hL) (by omega) (by omega)).mono fun e W' hE => ?_
  obtain ⟨rfl, hk⟩ := hE
  have e1 : Rows.termErrorStaysSpec.fn H ([.lit (.string s.data.toList), .lit (.string m.data.toList)] ++ []) = { results := [.lit (.bool true)], args := [.lit (.string s.data.toList), .lit (.string m.data.toList)] } := by simp [Rows.termErrorStaysSpec]
  refine ⟨_, rfl, _, _, _, [], [], [], hW', ?_, ?_, ?_, keptBut_of_kept hk _, fun h => by cases h⟩
  · rw [e1]; exact trodAll_mk1 (shut_bool Tryz.underlying4 true)
  · rw [e1]; exact trodAll_mk2 (ChangeMaps.shut_string Tryz.underlying9 hs) (ChangeMaps.shut_string Tryz.underlying9 hm)
  · rw [e1]; rfl
end Go.Proofs.YtckjlliobebodaaGreatDoor
