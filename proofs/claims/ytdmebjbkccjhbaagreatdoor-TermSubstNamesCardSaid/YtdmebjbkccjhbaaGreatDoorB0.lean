/- A part. -/
import Derived.Test.YtdmebjbkccjhbaaGreatDoorK15
import Derived.Test.YtdmebjbkccjhbaaGreatDoorK16
import Derived.Test.YtdmebjbkccjhbaaGreatDoorRows
import Derived.Deep.DeepLaidRun
import Derived.ProofKit
import Derived.Test.YtdmebjbkccjhbaaGreatDoorCards
import Derived.Test.YtdmebjbkccjhbaaGreatDoorTie
import Derived.OpenShut
import Derived.Deep.DeepHandedRow
import Derived.Stop.LaidErr
import Derived.LaidLaws
import Derived.ChangeMaps5
import Derived.Deep.Slices
import Derived.Carry
set_option linter.unusedVariables false
set_option linter.unusedSimpArgs false
set_option maxRecDepth 100000
set_option maxHeartbeats 32000000
namespace Go.Proofs.YtdmebjbkccjhbaaGreatDoor
open Go.ChangeShapes Go.WideShapes Go.ChangeAt Go.RowKit
def litV:DataW Unit→Value
 | .lit (.int k n)=>.int k n
 | _=>undef
def flat1:DataW Unit→List Value
 | .agg l=>l.map litV
 | _=>[]
def flat2:DataW Unit→List Value
 | .agg l=>(l.map flat1).flatten
 | _=>[]
abbrev ranS:ByteArray:={ data:=#[118,97,108,117,101,32,111,117,116,32,111,102,32,114,97,110,103,101] }
abbrev synS:ByteArray:={ data:=#[105,110,118,97,108,105,100,32,115,121,110,116,97,120] }
noncomputable def low0:Nat:=(World.holding Tryz.prog default ⟨#[],#[],[]⟩).heap.size
def putC (c:Array Value):Obj→Obj
 | .cells _ t frozen=>.cells c t frozen
 | o=>o
noncomputable def laidWorld (os:Os):World:=
 let w0:=World.holding Tryz.prog os ⟨#[.cells #[.string synS] 253,.cells #[.string ranS] 253],#[],[]⟩
 { w0 with heap:=((((((w0.heap.modify 4 (putC #[.iface 251 (.pointer (some ⟨low0,0,none⟩))])).modify 5 (putC #[.iface 251 (.pointer (some ⟨low0+1,0,none⟩))])).modify 0 (putC (flat1 Rows.laid_internal_strconv_uint64pow10).toArray)).modify 1 (putC (flat1 Rows.laid_unicode_utf8_first).toArray)).modify 2 (putC (flat2 Rows.laid_unicode_utf8_acceptRanges).toArray)).modify 6 (putC (flat1 Rows.laid_math_bits_deBruijn32tab).toArray)).modify 7 (putC (flat1 Rows.laid_math_bits_deBruijn64tab).toArray) }
theorem gSyn : Tryz.prog.globalNamed "strconv.ErrSyntax" = some 4 := by kernel_rfl
theorem gRan : Tryz.prog.globalNamed "strconv.ErrRange" = some 5 := by kernel_rfl
theorem gSynT:(Tryz.prog.globals[4]?).map (·.type)=some 147:=by kernel_rfl
theorem gRanT:(Tryz.prog.globals[5]?).map (·.type)=some 147:=by kernel_rfl
theorem cells177:Tryz.prog.cellsOf 253=1:=by kernel_rfl
theorem cells9:Tryz.prog.cellsOf 9=1:=by kernel_rfl
theorem star0 : "*" ++ "errors.errorString" = "*errors.errorString" := by decide
theorem row245 (u : TypeId) (h : Tryz.prog.typeName? 3 u = some "*errors.errorString") : u = 251 :=
 typeName_ptr_named (nm := "errors.errorString") (by rw [star0]; kernel_rfl) (by kernel_rfl) (by decide) u (by rw [star0]; exact h)
theorem gl_of_laid {W:World} (h:laidMetH Tryz.prog Rows.termFreesRow.laid W):Gl W:=by
 have h0:laidMet Tryz.prog Rows.termFreesRow.laid W:=h
 have h4:=h0.tail.tail.tail.tail
 obtain⟨a1,s1,hv1,_⟩:=laid_sentinel h4 gRan gRanT Tryz.underlying147 row245 Tryz.underlying251 Tryz.underlying253 rfl rfl Tryz.underlying9 cells177 cells9
 obtain⟨a0,s0,hv0,_⟩:=laid_sentinel h4.tail gSyn gSynT Tryz.underlying147 row245 Tryz.underlying251 Tryz.underlying253 rfl rfl Tryz.underlying9 cells177 cells9
 exact⟨⟨251,_,by simpa using World.var?_cell gSyn hv0 0⟩,⟨251,_,by simpa using World.var?_cell gRan hv1 0⟩⟩
theorem keptBut_of_kept {w w':World} (h:Kept (fun _=>False) w w') (may:MemPlace→Prop):w.keptBut w' may:=by
 refine⟨h.os,h.output,fun i hi=>?_⟩
 have:=(World.keptBut_refl w may).2.2 i hi
 rw[h.block i hi (fun h=>h)]
 exact this
end Go.Proofs.YtdmebjbkccjhbaaGreatDoor
namespace Go.Proofs.YtdmebjbkccjhbaaGreatDoor
open Go.RowKit
section
variable {H:Type} {enc:TypeId×Value→H} {w:World} {spare:Nat→Bool} {held:Bool}
theorem cells_22:Tryz.prog.cellsOf 22=1:=by kernel_rfl
theorem cells_24:Tryz.prog.cellsOf 24=3:=by kernel_rfl
theorem cells_25:Tryz.prog.cellsOf 25=1:=by kernel_rfl
theorem cells_27:Tryz.prog.cellsOf 27=7:=by kernel_rfl
theorem list3 {α:Type} {l:List α} (h:l.length=3):∃ a b c,l=[a,b,c]:=by
 match l,h with
 | [a,b,c],_=>exact⟨a,b,c,rfl⟩
theorem list7 {α:Type} {l:List α} (h:l.length=7):∃ a b c d e f g,l=[a,b,c,d,e,f,g]:=by
 match l,h with
 | [a,b,c,d,e,f,g],_=>exact⟨a,b,c,d,e,f,g,rfl⟩
theorem open_ty (fuel:Nat):∀ {cs:List Value} {x:DataW H×List MemPlace},DataW.trod enc Tryz.prog w 0 spare held fuel 24 cs=some x →
  ∃ (t:Ty) (tk:Value),cs=[.int .i64 t.kind,.string t.name,tk]∧TyL (fun _=>True) w t.kids tk∧SmTy big t:=by
 induction fuel using Nat.strongRecOn with
 | _ fuel ih=>
  intro cs x h
  obtain⟨xs,n,rfl,-,hlen,hxl,hf⟩:=DataW.trod_struct Tryz.underlying24 h
  rw[cells_24] at hlen
  obtain⟨c0,c1,c2,rfl⟩:=list3 hlen
  have hx3:xs.length=3:=hxl
  obtain⟨y0,e0⟩:=at_some (hf 0 _ rfl) (by omega)
  obtain⟨y1,e1⟩:=at_some (hf 1 _ rfl) (by omega)
  obtain⟨y2,e2⟩:=at_some (hf 2 _ rfl) (by omega)
  have e0:DataW.trod enc Tryz.prog w 0 spare held n 3 ((([c0,c1,c2]:List Value).drop 0).take (Tryz.prog.cellsOf 3))=some y0:=e0
  have e1:DataW.trod enc Tryz.prog w 0 spare held n 9 ((([c0,c1,c2]:List Value).drop 1).take (Tryz.prog.cellsOf 9))=some y1:=e1
  have e2:DataW.trod enc Tryz.prog w 0 spare held n 22 ((([c0,c1,c2]:List Value).drop 2).take (Tryz.prog.cellsOf 22))=some y2:=e2
  rw[cells_3] at e0
  rw[cells_9] at e1
  rw[cells_22] at e2
  obtain⟨k,hk,-,-⟩:=DataW.trod_int Tryz.underlying3 e0
  obtain⟨s,hs,-,hsz⟩:=DataW.trod_string Tryz.underlying9 e1
  obtain rfl:c0=_:=List.head_eq_of_cons_eq hk
  obtain rfl:c1=_:=List.head_eq_of_cons_eq hs
  have hsz:s.size≤big:=by unfold maxLen at hsz;unfold big;omega
  rcases DataW.trod_slice Tryz.underlying22 e2 with ⟨hc,-⟩ | ⟨a,len,cap,elems,rest,m,rfl,hc,-,-,hl,hm,hel,helt,-,-⟩
  ·obtain rfl:c2=_:=List.head_eq_of_cons_eq hc
   exact⟨.mk k s [],_,rfl,.nil (Or.inl rfl),.mk hsz (fun t h=>by cases h)⟩
  ·obtain rfl:c2=_:=List.head_eq_of_cons_eq hc
   by_cases h0:len=0
   ·subst h0
    exact⟨.mk k s [],_,rfl,.nil (Or.inr ⟨_,_,rfl⟩),.mk hsz (fun t h=>by cases h)⟩
   ·rw[cells_24] at helt
    obtain⟨b,o,rfl,hat⟩:=elems_at hel (by decide) helt (by omega)
    have iTy:Inhabited (Ty×Value):=⟨(ty0,.slice none 0 0)⟩
    obtain⟨F,hF⟩:=Go.Deep.choose_lt (α:=Ty×Value) (n:=len) (p:=fun i q=>(w.cell? ⟨b,o+i*3,none⟩=some (.int .i64 q.1.kind)∧w.cell? ⟨b,o+i*3+1,none⟩=some (.string q.1.name)∧w.cell? ⟨b,o+i*3+2,none⟩=some q.2)∧TyL (fun _=>True) w q.1.kids q.2∧SmTy big q.1) (fun i hi=>by
     obtain⟨cs,y,hcl,hcell,hy⟩:=hat i hi
     obtain⟨t,tk,rfl,ht,hst⟩:=ih m (by omega) hy
     exact⟨(t,tk),⟨hcell 0 (by decide),hcell 1 (by decide),hcell 2 (by decide)⟩,ht,hst⟩)
    have hlen2:((List.range len).map fun i=>(F i).1).length=len:=by simp
    have hget:∀ i (h:i<((List.range len).map fun i=>(F i).1).length),((List.range len).map fun i=>(F i).1)[i]=(F i).1:=by intro i h;simp
    have hT:TyL (fun _=>True) w ((List.range len).map fun i=>(F i).1) (.slice (some ⟨b,o,none⟩) ((List.range len).map fun i=>(F i).1).length cap):=by
     refine TyL.mk (fun i=>(F i).2) (by intro e;rw[e] at hlen2;simp at hlen2;omega) trivial (by omega) (fun i h=>?_) (fun i h=>?_)
     ·rw[hget i h];exact (hF i (by omega)).1
     ·rw[hget i h];exact (hF i (by omega)).2.1
    rw[hlen2] at hT
    refine⟨.mk k s ((List.range len).map fun i=>(F i).1),_,rfl,hT,.mk hsz (fun t ht=>?_)⟩
    obtain⟨i,hi,rfl⟩:=List.mem_map.1 ht
    exact (hF i (List.mem_range.1 hi)).2.2
theorem open_tm (fuel:Nat):∀ {cs:List Value} {x:DataW H×List MemPlace},DataW.trod enc Tryz.prog w 0 spare held fuel 27 cs=some x →
  ∃ (t:Tm) (tk kk:Value),cs=tmCells t tk kk∧TyL (fun _=>True) w t.ty.kids tk∧TmL (fun _=>True) w t.kids kk∧SmTm big t:=by
 induction fuel using Nat.strongRecOn with
 | _ fuel ih=>
  intro cs x h
  obtain⟨xs,n,rfl,-,hlen,hxl,hf⟩:=DataW.trod_struct Tryz.underlying27 h
  rw[cells_27] at hlen
  obtain⟨c0,c1,c2,c3,c4,c5,c6,rfl⟩:=list7 hlen
  have hx3:xs.length=5:=hxl
  obtain⟨y0,e0⟩:=at_some (hf 0 _ rfl) (by omega)
  obtain⟨y1,e1⟩:=at_some (hf 1 _ rfl) (by omega)
  obtain⟨y2,e2⟩:=at_some (hf 2 _ rfl) (by omega)
  obtain⟨y3,e3⟩:=at_some (hf 3 _ rfl) (by omega)
  obtain⟨y4,e4⟩:=at_some (hf 4 _ rfl) (by omega)
  have e0:DataW.trod enc Tryz.prog w 0 spare held n 3 ((([c0,c1,c2,c3,c4,c5,c6]:List Value).drop 0).take (Tryz.prog.cellsOf 3))=some y0:=e0
  have e1:DataW.trod enc Tryz.prog w 0 spare held n 9 ((([c0,c1,c2,c3,c4,c5,c6]:List Value).drop 1).take (Tryz.prog.cellsOf 9))=some y1:=e1
  have e2:DataW.trod enc Tryz.prog w 0 spare held n 3 ((([c0,c1,c2,c3,c4,c5,c6]:List Value).drop 2).take (Tryz.prog.cellsOf 3))=some y2:=e2
  have e3:DataW.trod enc Tryz.prog w 0 spare held n 24 ((([c0,c1,c2,c3,c4,c5,c6]:List Value).drop 3).take (Tryz.prog.cellsOf 24))=some y3:=e3
  have e4:DataW.trod enc Tryz.prog w 0 spare held n 25 ((([c0,c1,c2,c3,c4,c5,c6]:List Value).drop 6).take (Tryz.prog.cellsOf 25))=some y4:=e4
  rw[cells_3] at e0 e2
  rw[cells_9] at e1
  rw[cells_24] at e3
  rw[cells_25] at e4
  obtain⟨k,hk,-,-⟩:=DataW.trod_int Tryz.underlying3 e0
  obtain⟨s,hs,-,hsz⟩:=DataW.trod_string Tryz.underlying9 e1
  obtain⟨N,hN,-,-⟩:=DataW.trod_int Tryz.underlying3 e2
  obtain⟨ty,tk,hty,htl,hts⟩:=open_ty n e3
  obtain rfl:c0=_:=List.head_eq_of_cons_eq hk
  obtain rfl:c1=_:=List.head_eq_of_cons_eq hs
  obtain rfl:c2=_:=List.head_eq_of_cons_eq hN
  have hty:[c3,c4,c5]=[.int .i64 ty.kind,.string ty.name,tk]:=hty
  simp only[List.cons.injEq,and_true] at hty
  obtain⟨rfl,rfl,rfl⟩:=hty
  have hsz:s.size≤big:=by unfold maxLen at hsz;unfold big;omega
  rcases DataW.trod_slice Tryz.underlying25 e4 with ⟨hc,-⟩ | ⟨a,len,cap,elems,rest,m,rfl,hc,-,-,hl,hm,hel,helt,-,-⟩
  ·obtain rfl:c6=_:=List.head_eq_of_cons_eq hc
   exact⟨.mk k s N ty [],_,_,rfl,htl,.nil (Or.inl rfl),.mk hsz hts (fun t h=>by cases h)⟩
  ·obtain rfl:c6=_:=List.head_eq_of_cons_eq hc
   by_cases h0:len=0
   ·subst h0
    exact⟨.mk k s N ty [],_,_,rfl,htl,.nil (Or.inr ⟨_,_,rfl⟩),.mk hsz hts (fun t h=>by cases h)⟩
   ·rw[cells_27] at helt
    obtain⟨b,o,rfl,hat⟩:=elems_at hel (by decide) helt (by omega)
    have iTm:Inhabited (Tm×Value×Value):=⟨(.mk 0 ⟨#[]⟩ 0 ty0 [],.slice none 0 0,.slice none 0 0)⟩
    obtain⟨F,hF⟩:=Go.Deep.choose_lt (α:=Tm×Value×Value) (n:=len) (p:=fun i q=>(w.cell? ⟨b,o+i*7,none⟩=some (.int .i64 q.1.op)∧w.cell? ⟨b,o+i*7+1,none⟩=some (.string q.1.name)∧w.cell? ⟨b,o+i*7+2,none⟩=some (.int .i64 q.1.n)∧w.cell? ⟨b,o+i*7+3,none⟩=some (.int .i64 q.1.ty.kind)∧w.cell? ⟨b,o+i*7+4,none⟩=some (.string q.1.ty.name)∧w.cell? ⟨b,o+i*7+5,none⟩=some q.2.1∧w.cell? ⟨b,o+i*7+6,none⟩=some q.2.2)∧TyL (fun _=>True) w q.1.ty.kids q.2.1∧TmL (fun _=>True) w q.1.kids q.2.2∧SmTm big q.1) (fun i hi=>by
     obtain⟨cs,y,hcl,hcell,hy⟩:=hat i hi
     obtain⟨t,tk,kk,rfl,ht,hm,hst⟩:=ih m (by omega) hy
     exact⟨(t,tk,kk),⟨hcell 0 (by decide),hcell 1 (by decide),hcell 2 (by decide),hcell 3 (by decide),hcell 4 (by decide),hcell 5 (by decide),hcell 6 (by decide)⟩,ht,hm,hst⟩)
    have hlen2:((List.range len).map fun i=>(F i).1).length=len:=by simp
    have hget:∀ i (h:i<((List.range len).map fun i=>(F i).1).length),((List.range len).map fun i=>(F i).1)[i]=(F i).1:=by intro i h;simp
    have hT:TmL (fun _=>True) w ((List.range len).map fun i=>(F i).1) (.slice (some ⟨b,o,none⟩) ((List.range len).map fun i=>(F i).1).length cap):=by
     refine TmL.mk (fun i=>(F i).2.1) (fun i=>(F i).2.2) (by intro e;rw[e] at hlen2;simp at hlen2;omega) trivial (by omega) (fun i h=>?_) (fun i h=>?_) (fun i h=>?_)
     ·rw[hget i h];exact (hF i (by omega)).1
     ·rw[hget i h];exact (hF i (by omega)).2.1
     ·rw[hget i h];exact (hF i (by omega)).2.2.1
    rw[hlen2] at hT
    refine⟨.mk k s N ty ((List.range len).map fun i=>(F i).1),_,_,rfl,htl,hT,.mk hsz hts (fun t ht=>?_)⟩
    obtain⟨i,hi,rfl⟩:=List.mem_map.1 ht
    exact (hF i (List.mem_range.1 hi)).2.2.2
end
end Go.Proofs.YtdmebjbkccjhbaaGreatDoor
namespace Go.Proofs.YtdmebjbkccjhbaaGreatDoor
open Go.ChangeShapes Go.WideShapes Go.ChangeAt Go.RowKit
theorem val_of_cells {v:Value} {l:List Value} (h:v.cells.toList=l) (hl:l.length≠1):v=.agg l.toArray:=by
 cases v
 all_goals first
 | (exfalso;apply hl;rw[← h];rfl)
 | (rename_i a;have:a.toList=l:=h
    rw[← this])
theorem arg_tm {H:Type} {enc:TypeId×Value→H} {W:World} {v:Value} {d:DataW H} {p:List MemPlace} (h:DataW.Trod enc Tryz.prog W 0 (fun _=>true) true 27 v d p):
  ∃ (t:Tm) (tk kk:Value),v=tmVal t tk kk∧TyL (fun _=>True) W t.ty.kids tk∧TmL (fun _=>True) W t.kids kk∧SmTm big t:=by
 obtain⟨fuel,h⟩:=h
 obtain⟨t,tk,kk,hc,h1,h2,h3⟩:=open_tm fuel h
 exact⟨t,tk,kk,val_of_cells hc (by simp[tmCells]),h1,h2,h3⟩
theorem back_tm {H:Type} {enc:TypeId×Value→H} {W W':World} {v:Value} {d:DataW H} {p:List MemPlace} (h:DataW.Trod enc Tryz.prog W 0 (fun _=>true) true 27 v d p) (k:Kept (fun _=>False) W W') (hlt:∀ x∈p,x.block<W.heap.size):
  DataW.Trod enc Tryz.prog W' 0 (fun b=>decide (b<W.heap.size)) true 27 v d p:=back_of (by kernel_rfl) (size_ok (by decide)) h k hlt
end Go.Proofs.YtdmebjbkccjhbaaGreatDoor
namespace Go.Proofs.YtdmebjbkccjhbaaGreatDoor
open Go.ChangeShapes Go.WideShapes Go.ChangeAt Go.RowKit
section
variable {H:Type} {enc:TypeId×Value→H} {w:World} {spare:Nat→Bool} {held:Bool}
theorem cells_53:Tryz.prog.cellsOf 38=8:=by kernel_rfl
theorem list8 {α:Type} {l:List α} (h:l.length=8):∃ a b,l=a::b∧b.length=7:=by
 match l,h with
 | a::b,h=>exact⟨a,b,rfl,by simpa using h⟩
theorem open_bind {fuel:Nat} {cs:List Value} {x:DataW H×List MemPlace} (h:DataW.trod enc Tryz.prog w 0 spare held fuel 38 cs=some x):
  ∃ (s:ByteArray) (t:Tm) (tk kk:Value),cs=.string s::tmCells t tk kk∧s.size≤maxLen∧TyL (fun _=>True) w t.ty.kids tk∧TmL (fun _=>True) w t.kids kk∧SmTm big t:=by
 obtain⟨xs,n,rfl,-,hlen,hxl,hf⟩:=DataW.trod_struct Tryz.underlying38 h
 rw[cells_53] at hlen
 obtain⟨c0,r,rfl,hr⟩:=list8 hlen
 have hx2:xs.length=2:=hxl
 obtain⟨y0,e0⟩:=at_some (hf 0 _ rfl) (by omega)
 obtain⟨y1,e1⟩:=at_some (hf 1 _ rfl) (by omega)
 have f0:DataW.trod enc Tryz.prog w 0 spare held n 9 (((c0::r).drop 0).take (Tryz.prog.cellsOf 9))=some y0:=e0
 have f1:DataW.trod enc Tryz.prog w 0 spare held n 27 (((c0::r).drop 1).take (Tryz.prog.cellsOf 27))=some y1:=e1
 rw[cells_9] at f0
 rw[cells_27,List.drop_succ_cons,List.drop_zero,List.take_of_length_le (by omega)] at f1
 clear hf e0 e1
 obtain⟨s,hs,-,hsz⟩:=DataW.trod_string Tryz.underlying9 f0
 obtain rfl:c0=_:=List.head_eq_of_cons_eq hs
 obtain⟨t,tk,kk,rfl,h1,h2,h3⟩:=open_tm n f1
 exact⟨s,t,tk,kk,rfl,hsz,h1,h2,h3⟩
theorem open_binds {fuel:Nat} {a:Option Addr} {n c:Nat} {x:DataW H×List MemPlace} (h:DataW.trod enc Tryz.prog w 0 spare held fuel 34 [.slice a n c]=some x):
  ∃ l:List (ByteArray×Tm),BnL (fun _=>True) w l (.slice a n c)∧(∀ b,b∈l→SmTm big b.2)∧(∀ b,b∈l→b.1.size≤maxLen)∧l.length≤big:=by
 rcases DataW.trod_slice Tryz.underlying34 h with ⟨hc,-⟩ | ⟨a',len,cap,elems,rest,m,rfl,hc,hcap,-,hl,hm,hel,helt,-,-⟩
 ·cases hc
  exact⟨[],.nil,(fun t h=>by cases h),(fun t h=>by cases h),Nat.zero_le _⟩
 ·cases hc
  by_cases h0:n=0
  ·subst h0
   exact⟨[],⟨_,_,_,rfl,rfl,Nat.zero_le _,(fun e=>by cases e),fun i h=>absurd h (Nat.not_lt_zero _)⟩,(fun t h=>by cases h),(fun t h=>by cases h),Nat.zero_le _⟩
  ·rw[cells_53] at helt
   obtain⟨b,o,rfl,hat⟩:=elems_at hel (by decide) helt (by omega)
   have iB:Inhabited ((ByteArray×Tm)×Value×Value):=⟨((⟨#[]⟩,.mk 0 ⟨#[]⟩ 0 ty0 []),.slice none 0 0,.slice none 0 0)⟩
   obtain⟨F,hF⟩:=Go.Deep.choose_lt (α:=(ByteArray×Tm)×Value×Value) (n:=n) (p:=fun i q=>(w.cell? ⟨b,o+i*8,none⟩=some (.string q.1.1)∧C7 w b (o+i*8+1) q.1.2 q.2.1 q.2.2)∧q.1.1.size≤maxLen∧TyL (fun _=>True) w q.1.2.ty.kids q.2.1∧TmL (fun _=>True) w q.1.2.kids q.2.2∧SmTm big q.1.2) (fun i hi=>by
    obtain⟨cs,y,hcl,hcell,hy⟩:=hat i hi
    obtain⟨s,t,tk,kk,rfl,hs,ht,hm,hst⟩:=open_bind hy
    exact⟨((s,t),tk,kk),⟨hcell 0 (by decide),hcell 1 (by decide),hcell 2 (by decide),hcell 3 (by decide),hcell 4 (by decide),hcell 5 (by decide),hcell 6 (by decide),hcell 7 (by decide)⟩,hs,ht,hm,hst⟩)
   have hlen2:((List.range n).map fun i=>(F i).1).length=n:=by simp
   have hget:∀ i (h:i<((List.range n).map fun i=>(F i).1).length),((List.range n).map fun i=>(F i).1)[i]=(F i).1:=by intro i h;simp
   refine⟨(List.range n).map fun i=>(F i).1,⟨_,_,_,rfl,hlen2.symm,by omega,(fun e=>by cases e),fun i h=>?_⟩,fun x hx=>?_,fun x hx=>?_,by rw[hlen2];unfold maxLen at hm;unfold big;omega⟩
   ·have h':i<n:=by omega
    obtain⟨⟨q1,q2⟩,_,q3,q4,_⟩:=hF i h'
    obtain⟨ta,tn,tc,e1⟩:=q3.slice
    obtain⟨ma,mn,mc,e2⟩:=q4.slice
    rw[hget i h]
    rw[e1] at q2 q3
    rw[e2] at q2 q4
    refine⟨b,o,ta,tn,tc,ma,mn,mc,rfl,trivial,?_,q1,q2,q3,q4⟩
    exact cell_lt q1
   ·obtain⟨i,hi,rfl⟩:=List.mem_map.1 hx
    exact (hF i (List.mem_range.1 hi)).2.2.2.2
   ·obtain⟨i,hi,rfl⟩:=List.mem_map.1 hx
    exact (hF i (List.mem_range.1 hi)).2.1
end
theorem arg_binds {H:Type} {enc:TypeId×Value→H} {W:World} {v:Value} {d:DataW H} {p:List MemPlace} {r:Reach} {b0:Nat} (hval:Value.okWide Tryz.prog W r b0 34 v) (h:DataW.Trod enc Tryz.prog W 0 (fun _=>true) true 34 v d p):
  ∃ (l:List (ByteArray×Tm)) (a:Option Addr) (n c:Nat),v=.slice a n c∧BnL (fun _=>True) W l (.slice a n c)∧(∀ b,b∈l→SmTm big b.2)∧(∀ b,b∈l→b.1.size≤maxLen)∧l.length≤big:=by
 obtain⟨a,n,c,rfl⟩:=Go.WideShapes.okWide_slice Tryz.underlying34 hval
 obtain⟨fuel,h⟩:=h
 obtain⟨l,h1,h2,h3,h4⟩:=open_binds (a:=a) (n:=n) (c:=c) h
 exact⟨l,a,n,c,rfl,h1,h2,h3,h4⟩
theorem back_binds {H:Type} {enc:TypeId×Value→H} {W W':World} {v:Value} {d:DataW H} {p:List MemPlace} (h:DataW.Trod enc Tryz.prog W 0 (fun _=>true) true 34 v d p) (k:Kept (fun _=>False) W W') (hlt:∀ x∈p,x.block<W.heap.size):
  DataW.Trod enc Tryz.prog W' 0 (fun b=>decide (b<W.heap.size)) true 34 v d p:=back_of (by kernel_rfl) (size_ok (by decide)) h k hlt
end Go.Proofs.YtdmebjbkccjhbaaGreatDoor
