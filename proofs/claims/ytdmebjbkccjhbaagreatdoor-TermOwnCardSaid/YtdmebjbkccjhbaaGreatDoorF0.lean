/- A part. -/
import Derived.Test.YtdmebjbkccjhbaaGreatDoorU23
import Derived.Test.YtdmebjbkccjhbaaGreatDoorRows
import Derived.Deep.DeepLaidRun
import Derived.ProofKit
import Derived.Test.YtdmebjbkccjhbaaGreatDoorCards
import Derived.Test.YtdmebjbkccjhbaaGreatDoorTie
import Derived.OpenShut
import Derived.Deep.DeepHandedRow
import Derived.Stop.LaidErr
import Derived.LaidLaws
import Derived.ChangeMaps5
import Derived.Carry
set_option linter.unusedVariables false
set_option linter.unusedSimpArgs false
set_option maxRecDepth 100000
set_option maxHeartbeats 32000000
namespace Go.Proofs.YtdmebjbkccjhbaaGreatDoor
open Go.ChangeShapes Go.WideShapes Go.ChangeAt Go.RowKit
def litV:DataW Unit→Value
 | .lit (.int k n)=>.int k n
 | _=>undef
def flat1:DataW Unit→List Value
 | .agg l=>l.map litV
 | _=>[]
def flat2:DataW Unit→List Value
 | .agg l=>(l.map flat1).flatten
 | _=>[]
abbrev ranS:ByteArray:={ data:=#[118,97,108,117,101,32,111,117,116,32,111,102,32,114,97,110,103,101] }
abbrev synS:ByteArray:={ data:=#[105,110,118,97,108,105,100,32,115,121,110,116,97,120] }
noncomputable def low0:Nat:=(World.holding Tryz.prog default ⟨#[],#[],[]⟩).heap.size
def putC (c:Array Value):Obj→Obj
 | .cells _ t frozen=>.cells c t frozen
 | o=>o
noncomputable def laidWorld (os:Os):World:=
 let w0:=World.holding Tryz.prog os ⟨#[.cells #[.string synS] 253,.cells #[.string ranS] 253],#[],[]⟩
 { w0 with heap:=((((((w0.heap.modify 4 (putC #[.iface 251 (.pointer (some ⟨low0,0,none⟩))])).modify 5 (putC #[.iface 251 (.pointer (some ⟨low0+1,0,none⟩))])).modify 0 (putC (flat1 Rows.laid_internal_strconv_uint64pow10).toArray)).modify 1 (putC (flat1 Rows.laid_unicode_utf8_first).toArray)).modify 2 (putC (flat2 Rows.laid_unicode_utf8_acceptRanges).toArray)).modify 6 (putC (flat1 Rows.laid_math_bits_deBruijn32tab).toArray)).modify 7 (putC (flat1 Rows.laid_math_bits_deBruijn64tab).toArray) }
theorem gSyn : Tryz.prog.globalNamed "strconv.ErrSyntax" = some 4 := by kernel_rfl
theorem gRan : Tryz.prog.globalNamed "strconv.ErrRange" = some 5 := by kernel_rfl
theorem gSynT:(Tryz.prog.globals[4]?).map (·.type)=some 147:=by kernel_rfl
theorem gRanT:(Tryz.prog.globals[5]?).map (·.type)=some 147:=by kernel_rfl
theorem cells177:Tryz.prog.cellsOf 253=1:=by kernel_rfl
theorem cells9:Tryz.prog.cellsOf 9=1:=by kernel_rfl
theorem star0 : "*" ++ "errors.errorString" = "*errors.errorString" := by decide
theorem row245 (u : TypeId) (h : Tryz.prog.typeName? 3 u = some "*errors.errorString") : u = 251 :=
 typeName_ptr_named (nm := "errors.errorString") (by rw [star0]; kernel_rfl) (by kernel_rfl) (by decide) u (by rw [star0]; exact h)
theorem gl_of_laid {W:World} (h:laidMetH Tryz.prog Rows.termFreesRow.laid W):Gl W:=by
 have h0:laidMet Tryz.prog Rows.termFreesRow.laid W:=h
 have h4:=h0.tail.tail.tail.tail
 obtain⟨a1,s1,hv1,_⟩:=laid_sentinel h4 gRan gRanT Tryz.underlying147 row245 Tryz.underlying251 Tryz.underlying253 rfl rfl Tryz.underlying9 cells177 cells9
 obtain⟨a0,s0,hv0,_⟩:=laid_sentinel h4.tail gSyn gSynT Tryz.underlying147 row245 Tryz.underlying251 Tryz.underlying253 rfl rfl Tryz.underlying9 cells177 cells9
 exact⟨⟨251,_,by simpa using World.var?_cell gSyn hv0 0⟩,⟨251,_,by simpa using World.var?_cell gRan hv1 0⟩⟩
theorem keptBut_of_kept {w w':World} (h:Kept (fun _=>False) w w') (may:MemPlace→Prop):w.keptBut w' may:=by
 refine⟨h.os,h.output,fun i hi=>?_⟩
 have:=(World.keptBut_refl w may).2.2 i hi
 rw[h.block i hi (fun h=>h)]
 exact this
end Go.Proofs.YtdmebjbkccjhbaaGreatDoor
namespace Go.Proofs.YtdmebjbkccjhbaaGreatDoor
open Go.ChangeShapes Go.WideShapes Go.ChangeAt Go.RowKit
theorem back_tm {H:Type} {enc:TypeId×Value→H} {W W':World} {v:Value} {d:DataW H} {p:List MemPlace} (h:DataW.Trod enc Tryz.prog W 0 (fun _=>true) true 27 v d p) (k:Kept (fun _=>False) W W') (hlt:∀ x∈p,x.block<W.heap.size):
  DataW.Trod enc Tryz.prog W' 0 (fun b=>decide (b<W.heap.size)) true 27 v d p:=back_of (by kernel_rfl) (size_ok (by decide)) h k hlt
end Go.Proofs.YtdmebjbkccjhbaaGreatDoor
