/- A part. -/
import Derived.Test.YtdmebjbkccjhbaaGreatDoorU21
import Derived.Deep.Slices
import Derived.Carry
import Derived.SizedLaws
set_option linter.unusedVariables false
set_option linter.unusedSimpArgs false
set_option maxRecDepth 100000
set_option maxHeartbeats 32000000
namespace Go.Proofs.YtdmebjbkccjhbaaGreatDoor
open Go.RowKit
section
variable {H:Type} {enc:TypeId×Value→H} {w:World} {spare:Nat→Bool} {held:Bool}
theorem cells_3:Tryz.prog.cellsOf 3=1:=by kernel_rfl
theorem cells_9:Tryz.prog.cellsOf 9=1:=by kernel_rfl
theorem cells_22:Tryz.prog.cellsOf 22=1:=by kernel_rfl
theorem cells_24:Tryz.prog.cellsOf 24=3:=by kernel_rfl
theorem cells_25:Tryz.prog.cellsOf 25=1:=by kernel_rfl
theorem cells_27:Tryz.prog.cellsOf 27=7:=by kernel_rfl
theorem at_some {α:Type} {x:Option α} {l:List α} {i:Nat} (h:x=l[i]?) (hi:i<l.length):∃ y,x=some y:=⟨l[i],by rw[h,List.getElem?_eq_getElem hi]⟩
theorem cell_plain {a:Addr} {v:Value} (h:w.cell? a=some v):a=⟨a.block,a.off,none⟩:=by
 obtain⟨b,o,sp⟩:=a
 cases sp with
 | none=>rfl
 | some k=>
  unfold World.cell? at h
  cases hb:w.heap[b]? with
  | none=>simp[hb] at h
  | some ob=>cases ob <;> simp[hb] at h
theorem add_plain (b o n:Nat):(⟨b,o,none⟩:Addr).add n=⟨b,o+n,none⟩:=by unfold Addr.add;split <;> simp_all
theorem add_zero (a:Addr):a.add 0=a:=rfl
theorem elems_at {α:Type} {a:Addr} {len k:Nat} {f:List Value→Option α} {elems:List α} (hl:elems.length=len) (hk:0<k) (h:∀ i,i<len→(w.cells? 0 (a.add (i*k)) k).bind f=elems[i]?) (h0:0<len):
  ∃ b o,a=⟨b,o,none⟩∧∀ i,i<len→∃ cs y,cs.length=k∧(∀ j,j<k→w.cell? ⟨b,o+i*k+j,none⟩=cs[j]?)∧f cs=some y:=by
 have hc:∀ i,i<len→∃ cs y,w.cells? 0 (a.add (i*k)) k=some cs∧f cs=some y:=by
  intro i hi
  obtain⟨y,hy⟩:=at_some (h i hi) (by omega)
  obtain⟨cs,h1,h2⟩:=Option.bind_eq_some_iff.1 hy
  exact⟨cs,y,h1,h2⟩
 obtain⟨cs,y,h1,h2⟩:=hc 0 h0
 obtain⟨_,hl',hcell⟩:=World.cells?_some h1
 have h3:=hcell 0 hk
 rw[Nat.zero_mul,add_zero,add_zero,List.getElem?_eq_getElem (by omega)] at h3
 have ha:=cell_plain h3
 refine⟨a.block,a.off,ha,fun i hi=>?_⟩
 obtain⟨cs,y,h1,h2⟩:=hc i hi
 obtain⟨_,hl',hcell⟩:=World.cells?_some h1
 refine⟨cs,y,hl',fun j hj=>?_,h2⟩
 rw[← hcell j hj]
 rw[ha,add_plain,add_plain]
theorem list3 {α:Type} {l:List α} (h:l.length=3):∃ a b c,l=[a,b,c]:=by
 match l,h with
 | [a,b,c],_=>exact⟨a,b,c,rfl⟩
theorem list7 {α:Type} {l:List α} (h:l.length=7):∃ a b c d e f g,l=[a,b,c,d,e,f,g]:=by
 match l,h with
 | [a,b,c,d,e,f,g],_=>exact⟨a,b,c,d,e,f,g,rfl⟩
end
end Go.Proofs.YtdmebjbkccjhbaaGreatDoor
namespace Go.Proofs.YtdmebjbkccjhbaaGreatDoor
open Go.ChangeShapes Go.WideShapes Go.ChangeAt Go.RowKit
theorem below_of_kept {w w':World} (k:Kept (fun _=>False) w w'):Below w.heap.size w w':=⟨k.os,k.tape,k.output,k.size,fun q hq=>k.block q hq (fun e=>e)⟩
theorem laidOut0:laidOutB Tryz.prog=true:=by kernel_rfl
theorem val_of_cells {v:Value} {l:List Value} (h:v.cells.toList=l) (hl:l.length≠1):v=.agg l.toArray:=by
 cases v
 all_goals first
 | (exfalso;apply hl;rw[← h];rfl)
 | (rename_i a;have:a.toList=l:=h
    rw[← this])
theorem back_of {H:Type} {enc:TypeId×Value→H} {W W':World} {T:TypeId} {v:Value} {d:DataW H} {p:List MemPlace} (h1:Tryz.prog.readableRec T=true) (h2:T<Tryz.prog.types.size) (h:DataW.Trod enc Tryz.prog W 0 (fun _=>true) true T v d p) (k:Kept (fun _=>False) W W') (hlt:∀ x∈p,x.block<W.heap.size):
  DataW.Trod enc Tryz.prog W' 0 (fun b=>decide (b<W.heap.size)) true T v d p:=Below.trod laidOut0 h1 h2 h (below_of_kept k) hlt
theorem size_ok {n:Nat} (h:n<248):n<Tryz.prog.types.size:=Nat.lt_of_lt_of_le h (of_decide_eq_true (by kernel_rfl))
end Go.Proofs.YtdmebjbkccjhbaaGreatDoor
namespace Go.Proofs.YtdmebjbkccjhbaaGreatDoor
open Go.RowKit
theorem bytes_24:Tryz.prog.bytesOf 24=48:=by kernel_rfl
theorem bytes_27:Tryz.prog.bytesOf 27=104:=by kernel_rfl
section
variable {H:Type}
theorem w_agg {P:Program} {t u:TypeId} {fs:Array Field} (hu:P.underlying t=some (.struct fs)) {xs:List (DataW H×List MemPlace)} {i:Nat} {y:DataW H×List MemPlace} (hx:xs[i]?=some y) (hf:(fs.toList.map (·.type))[i]?=some u):∀ n∈y.1.weights P u,n∈(DataW.agg (xs.map (·.1))).weights P t:=by
 intro n hn
 simp only[DataW.weights,hu]
 exact DataW.weights_mem_each hf (by rw[List.getElem?_map,hx];rfl) n hn
theorem w_all {P:Program} {e:TypeId}:∀ {l:List (DataW H×List MemPlace)} {i:Nat} {y:DataW H×List MemPlace},l[i]?=some y→∀ n∈y.1.weights P e,n∈DataW.weightsAll P e (l.map (·.1))
 | [],_,_,h,_,_=>by simp at h
 | z::r,0,y,h,n,hn=>by
  simp only[List.getElem?_cons_zero,Option.some.injEq] at h
  subst h
  simp only[List.map_cons,DataW.weightsAll,List.mem_append]
  exact Or.inl hn
 | z::r,i+1,y,h,n,hn=>by
  simp only[List.getElem?_cons_succ] at h
  simp only[List.map_cons,DataW.weightsAll,List.mem_append]
  exact Or.inr (w_all h n hn)
theorem w_row {P:Program} {t e:TypeId} (hu:P.underlying t=some (.slice e)) {elems rest:List (DataW H×List MemPlace)} {q:List MemPlace}:((elems.map (·.1)).length+(rest.map (·.1)).length)*P.bytesOf e∈((DataW.slice (elems.map (·.1)) (rest.map (·.1)),q):DataW H×List MemPlace).1.weights P t:=by
 simp only[DataW.weights,hu,List.mem_cons]
 exact Or.inl trivial
theorem w_elem {P:Program} {t e:TypeId} (hu:P.underlying t=some (.slice e)) {elems rest:List (DataW H×List MemPlace)} {q:List MemPlace} {i:Nat} {y:DataW H×List MemPlace} (hx:elems[i]?=some y):∀ n∈y.1.weights P e,n∈((DataW.slice (elems.map (·.1)) (rest.map (·.1)),q):DataW H×List MemPlace).1.weights P t:=by
 intro n hn
 simp only[DataW.weights,hu,List.mem_cons,List.mem_append]
 exact Or.inr (Or.inl (w_all hx n hn))
end
section
variable {H:Type} {enc:TypeId×Value→H} {w:World} {spare:Nat→Bool} {held:Bool}
theorem elems_atG {α:Type} {a:Addr} {len k:Nat} {f:List Value→Option α} {elems:List α} (hl:elems.length=len) (hk:0<k) (h:∀ i,i<len→(w.cells? 0 (a.add (i*k)) k).bind f=elems[i]?) (h0:0<len):
  ∃ b o,a=⟨b,o,none⟩∧∀ i,i<len→∃ cs y,cs.length=k∧(∀ j,j<k→w.cell? ⟨b,o+i*k+j,none⟩=cs[j]?)∧f cs=some y∧elems[i]?=some y:=by
 have hc:∀ i,i<len→∃ cs y,w.cells? 0 (a.add (i*k)) k=some cs∧f cs=some y∧elems[i]?=some y:=by
  intro i hi
  obtain⟨y,hy⟩:=at_some (h i hi) (by omega)
  obtain⟨cs,h1,h2⟩:=Option.bind_eq_some_iff.1 hy
  exact⟨cs,y,h1,h2,(h i hi).symm.trans hy⟩
 obtain⟨cs,y,h1,h2⟩:=hc 0 h0
 obtain⟨_,hl',hcell⟩:=World.cells?_some h1
 have h3:=hcell 0 hk
 rw[Nat.zero_mul,add_zero,add_zero,List.getElem?_eq_getElem (by omega)] at h3
 have ha:=cell_plain h3
 refine⟨a.block,a.off,ha,fun i hi=>?_⟩
 obtain⟨cs,y,h1,h2⟩:=hc i hi
 obtain⟨_,hl',hcell⟩:=World.cells?_some h1
 refine⟨cs,y,hl',fun j hj=>?_,h2⟩
 rw[← hcell j hj]
 rw[ha,add_plain,add_plain]
theorem open_tyG (fuel:Nat):∀ {cs:List Value} {x:DataW H×List MemPlace},DataW.trod enc Tryz.prog w 0 spare held fuel 24 cs=some x →
  ∃ (t:Ty) (tk:Value),cs=[.int .i64 t.kind,.string t.name,tk]∧TyL w.heap.size (fun _=>True) w t.kids tk∧SmTy big t∧((∀ n∈x.1.weights Tryz.prog 24,n≤reachBytes)→BgTy t):=by
 induction fuel using Nat.strongRecOn with
 | _ fuel ih=>
  intro cs x h
  obtain⟨xs,n,rfl,hx0,hlen,hxl,hf⟩:=DataW.trod_struct Tryz.underlying24 h
  rw[cells_24] at hlen
  obtain⟨c0,c1,c2,rfl⟩:=list3 hlen
  have hx3:xs.length=3:=hxl
  obtain⟨y0,e0⟩:=at_some (hf 0 _ rfl) (by omega)
  obtain⟨y1,e1⟩:=at_some (hf 1 _ rfl) (by omega)
  obtain⟨y2,e2⟩:=at_some (hf 2 _ rfl) (by omega)
  have g2:xs[2]?=some y2:=(hf 2 _ rfl).symm.trans e2
  have e0:DataW.trod enc Tryz.prog w 0 spare held n 3 ((([c0,c1,c2]:List Value).drop 0).take (Tryz.prog.cellsOf 3))=some y0:=e0
  have e1:DataW.trod enc Tryz.prog w 0 spare held n 9 ((([c0,c1,c2]:List Value).drop 1).take (Tryz.prog.cellsOf 9))=some y1:=e1
  have e2:DataW.trod enc Tryz.prog w 0 spare held n 22 ((([c0,c1,c2]:List Value).drop 2).take (Tryz.prog.cellsOf 22))=some y2:=e2
  rw[cells_3] at e0
  rw[cells_9] at e1
  rw[cells_22] at e2
  obtain⟨k,hk,-,-⟩:=DataW.trod_int Tryz.underlying3 e0
  obtain⟨s,hs,-,hsz⟩:=DataW.trod_string Tryz.underlying9 e1
  obtain rfl:c0=_:=List.head_eq_of_cons_eq hk
  obtain rfl:c1=_:=List.head_eq_of_cons_eq hs
  have hsz:s.size≤big:=by unfold maxLen at hsz;unfold big;omega
  rcases DataW.trod_slice Tryz.underlying22 e2 with ⟨hc,-⟩ | ⟨a,len,cap,elems,rest,m,rfl,hc,hxs,-,hl,hm,hel,helt,-,-⟩
  ·obtain rfl:c2=_:=List.head_eq_of_cons_eq hc
   exact⟨.mk k s [],_,rfl,.nil (Or.inl rfl),.mk hsz (fun t h=>by cases h),fun _=>.mk (Nat.zero_le _) (fun t h=>by cases h)⟩
  ·obtain rfl:c2=_:=List.head_eq_of_cons_eq hc
   by_cases h0:len=0
   ·subst h0
    exact⟨.mk k s [],_,rfl,.nil (Or.inr ⟨_,_,rfl⟩),.mk hsz (fun t h=>by cases h),fun _=>.mk (Nat.zero_le _) (fun t h=>by cases h)⟩
   ·rw[cells_24] at helt
    obtain⟨b,o,rfl,hat⟩:=elems_atG hel (by decide) helt (by omega)
    have iTy:Inhabited (Ty×Value):=⟨(ty0,.slice none 0 0)⟩
    obtain⟨F,hF⟩:=Go.Deep.choose_lt (α:=Ty×Value) (n:=len) (p:=fun i q=>(w.cell? ⟨b,o+i*3,none⟩=some (.int .i64 q.1.kind)∧w.cell? ⟨b,o+i*3+1,none⟩=some (.string q.1.name)∧w.cell? ⟨b,o+i*3+2,none⟩=some q.2)∧TyL w.heap.size (fun _=>True) w q.1.kids q.2∧SmTy big q.1∧∀ y,elems[i]?=some y→(∀ n∈y.1.weights Tryz.prog 24,n≤reachBytes)→BgTy q.1) (fun i hi=>by
     obtain⟨cs,y,hcl,hcell,hy,hey⟩:=hat i hi
     obtain⟨t,tk,rfl,ht,hst,hbt⟩:=ih m (by omega) hy
     exact⟨(t,tk),⟨hcell 0 (by decide),hcell 1 (by decide),hcell 2 (by decide)⟩,ht,hst,fun y2 hy2=>by cases hey.symm.trans hy2;exact hbt⟩)
    have hlen2:((List.range len).map fun i=>(F i).1).length=len:=by simp
    have hget:∀ i (h:i<((List.range len).map fun i=>(F i).1).length),((List.range len).map fun i=>(F i).1)[i]=(F i).1:=by intro i h;simp
    have hT:TyL w.heap.size (fun _=>True) w ((List.range len).map fun i=>(F i).1) (.slice (some ⟨b,o,none⟩) ((List.range len).map fun i=>(F i).1).length cap):=by
     refine TyL.mk (fun i=>(F i).2) (by intro e;rw[e] at hlen2;simp at hlen2;omega) trivial (by omega) (fun i h=>?_) (fun i h=>?_) (fun h9=>absurd (cell_lt (hF 0 (by omega)).1.1) (Nat.not_lt.2 h9))
     ·rw[hget i h];exact (hF i (by omega)).1
     ·rw[hget i h];exact (hF i (by omega)).2.1
    rw[hlen2] at hT
    refine⟨.mk k s ((List.range len).map fun i=>(F i).1),_,rfl,hT,.mk hsz (fun t ht=>?_),fun hw=>?_⟩
    ·obtain⟨i,hi,rfl⟩:=List.mem_map.1 ht
     exact (hF i (List.mem_range.1 hi)).2.2.1
    ·have hw2:∀ n∈y2.1.weights Tryz.prog 22,n≤reachBytes:=fun n hn=>hw n (by rw[hx0];exact w_agg Tryz.underlying24 g2 rfl n hn)
     rw[hxs] at hw2
     have hb:=hw2 _ (w_row Tryz.underlying22)
     rw[bytes_24,List.length_map,List.length_map] at hb
     refine .mk (by rw[hlen2];have e:reachBytes=140737488351232:=rfl;omega) (fun t ht=>?_)
     obtain⟨i,hi,rfl⟩:=List.mem_map.1 ht
     have hi:=List.mem_range.1 hi
     exact (hF i hi).2.2.2 elems[i] (List.getElem?_eq_getElem (by omega)) (fun n hn=>hw2 n (w_elem Tryz.underlying22 (List.getElem?_eq_getElem (by omega)) n hn))
theorem open_tmG (fuel:Nat):∀ {cs:List Value} {x:DataW H×List MemPlace},DataW.trod enc Tryz.prog w 0 spare held fuel 27 cs=some x →
  ∃ (t:Tm) (tk kk:Value),cs=tmCells t tk kk∧TyL w.heap.size (fun _=>True) w t.ty.kids tk∧TmL w.heap.size (fun _=>True) w t.kids kk∧SmTm big t∧((∀ n∈x.1.weights Tryz.prog 27,n≤reachBytes)→BgTm t):=by
 induction fuel using Nat.strongRecOn with
 | _ fuel ih=>
  intro cs x h
  obtain⟨xs,n,rfl,hx0,hlen,hxl,hf⟩:=DataW.trod_struct Tryz.underlying27 h
  rw[cells_27] at hlen
  obtain⟨c0,c1,c2,c3,c4,c5,c6,rfl⟩:=list7 hlen
  have hx3:xs.length=5:=hxl
  obtain⟨y0,e0⟩:=at_some (hf 0 _ rfl) (by omega)
  obtain⟨y1,e1⟩:=at_some (hf 1 _ rfl) (by omega)
  obtain⟨y2,e2⟩:=at_some (hf 2 _ rfl) (by omega)
  obtain⟨y3,e3⟩:=at_some (hf 3 _ rfl) (by omega)
  have g3:xs[3]?=some y3:=(hf 3 _ rfl).symm.trans e3
  obtain⟨y4,e4⟩:=at_some (hf 4 _ rfl) (by omega)
  have g4:xs[4]?=some y4:=(hf 4 _ rfl).symm.trans e4
  have e0:DataW.trod enc Tryz.prog w 0 spare held n 3 ((([c0,c1,c2,c3,c4,c5,c6]:List Value).drop 0).take (Tryz.prog.cellsOf 3))=some y0:=e0
  have e1:DataW.trod enc Tryz.prog w 0 spare held n 9 ((([c0,c1,c2,c3,c4,c5,c6]:List Value).drop 1).take (Tryz.prog.cellsOf 9))=some y1:=e1
  have e2:DataW.trod enc Tryz.prog w 0 spare held n 3 ((([c0,c1,c2,c3,c4,c5,c6]:List Value).drop 2).take (Tryz.prog.cellsOf 3))=some y2:=e2
  have e3:DataW.trod enc Tryz.prog w 0 spare held n 24 ((([c0,c1,c2,c3,c4,c5,c6]:List Value).drop 3).take (Tryz.prog.cellsOf 24))=some y3:=e3
  have e4:DataW.trod enc Tryz.prog w 0 spare held n 25 ((([c0,c1,c2,c3,c4,c5,c6]:List Value).drop 6).take (Tryz.prog.cellsOf 25))=some y4:=e4
  rw[cells_3] at e0 e2
  rw[cells_9] at e1
  rw[cells_24] at e3
  rw[cells_25] at e4
  obtain⟨k,hk,-,-⟩:=DataW.trod_int Tryz.underlying3 e0
  obtain⟨s,hs,-,hsz⟩:=DataW.trod_string Tryz.underlying9 e1
  obtain⟨N,hN,-,-⟩:=DataW.trod_int Tryz.underlying3 e2
  obtain⟨ty,tk,hty,htl,hts,hbY⟩:=open_tyG n e3
  obtain rfl:c0=_:=List.head_eq_of_cons_eq hk
  obtain rfl:c1=_:=List.head_eq_of_cons_eq hs
  obtain rfl:c2=_:=List.head_eq_of_cons_eq hN
  have hty:[c3,c4,c5]=[.int .i64 ty.kind,.string ty.name,tk]:=hty
  simp only[List.cons.injEq,and_true] at hty
  obtain⟨rfl,rfl,rfl⟩:=hty
  have hsz:s.size≤big:=by unfold maxLen at hsz;unfold big;omega
  have hbY2:(∀ n∈x.1.weights Tryz.prog 27,n≤reachBytes)→BgTy ty:=fun hw=>hbY (fun n hn=>hw n (by rw[hx0];exact w_agg Tryz.underlying27 g3 rfl n hn))
  rcases DataW.trod_slice Tryz.underlying25 e4 with ⟨hc,-⟩ | ⟨a,len,cap,elems,rest,m,rfl,hc,hxs,-,hl,hm,hel,helt,-,-⟩
  ·obtain rfl:c6=_:=List.head_eq_of_cons_eq hc
   exact⟨.mk k s N ty [],_,_,rfl,htl,.nil (Or.inl rfl),.mk hsz hts (fun t h=>by cases h),fun hw=>.mk (Nat.zero_le _) (hbY2 hw) (fun t h=>by cases h)⟩
  ·obtain rfl:c6=_:=List.head_eq_of_cons_eq hc
   by_cases h0:len=0
   ·subst h0
    exact⟨.mk k s N ty [],_,_,rfl,htl,.nil (Or.inr ⟨_,_,rfl⟩),.mk hsz hts (fun t h=>by cases h),fun hw=>.mk (Nat.zero_le _) (hbY2 hw) (fun t h=>by cases h)⟩
   ·rw[cells_27] at helt
    obtain⟨b,o,rfl,hat⟩:=elems_atG hel (by decide) helt (by omega)
    have iTm:Inhabited (Tm×Value×Value):=⟨(.mk 0 ⟨#[]⟩ 0 ty0 [],.slice none 0 0,.slice none 0 0)⟩
    obtain⟨F,hF⟩:=Go.Deep.choose_lt (α:=Tm×Value×Value) (n:=len) (p:=fun i q=>(w.cell? ⟨b,o+i*7,none⟩=some (.int .i64 q.1.op)∧w.cell? ⟨b,o+i*7+1,none⟩=some (.string q.1.name)∧w.cell? ⟨b,o+i*7+2,none⟩=some (.int .i64 q.1.n)∧w.cell? ⟨b,o+i*7+3,none⟩=some (.int .i64 q.1.ty.kind)∧w.cell? ⟨b,o+i*7+4,none⟩=some (.string q.1.ty.name)∧w.cell? ⟨b,o+i*7+5,none⟩=some q.2.1∧w.cell? ⟨b,o+i*7+6,none⟩=some q.2.2)∧TyL w.heap.size (fun _=>True) w q.1.ty.kids q.2.1∧TmL w.heap.size (fun _=>True) w q.1.kids q.2.2∧SmTm big q.1∧∀ y,elems[i]?=some y→(∀ n∈y.1.weights Tryz.prog 27,n≤reachBytes)→BgTm q.1) (fun i hi=>by
     obtain⟨cs,y,hcl,hcell,hy,hey⟩:=hat i hi
     obtain⟨t,tk,kk,rfl,ht,hm,hst,hbt⟩:=ih m (by omega) hy
     exact⟨(t,tk,kk),⟨hcell 0 (by decide),hcell 1 (by decide),hcell 2 (by decide),hcell 3 (by decide),hcell 4 (by decide),hcell 5 (by decide),hcell 6 (by decide)⟩,ht,hm,hst,fun y2 hy2=>by cases hey.symm.trans hy2;exact hbt⟩)
    have hlen2:((List.range len).map fun i=>(F i).1).length=len:=by simp
    have hget:∀ i (h:i<((List.range len).map fun i=>(F i).1).length),((List.range len).map fun i=>(F i).1)[i]=(F i).1:=by intro i h;simp
    have hT:TmL w.heap.size (fun _=>True) w ((List.range len).map fun i=>(F i).1) (.slice (some ⟨b,o,none⟩) ((List.range len).map fun i=>(F i).1).length cap):=by
     refine TmL.mk (fun i=>(F i).2.1) (fun i=>(F i).2.2) (by intro e;rw[e] at hlen2;simp at hlen2;omega) trivial (by omega) (fun i h=>?_) (fun i h=>?_) (fun i h=>?_) (fun h9=>absurd (cell_lt (hF 0 (by omega)).1.1) (Nat.not_lt.2 h9))
     ·rw[hget i h];exact (hF i (by omega)).1
     ·rw[hget i h];exact (hF i (by omega)).2.1
     ·rw[hget i h];exact (hF i (by omega)).2.2.1
    rw[hlen2] at hT
    refine⟨.mk k s N ty ((List.range len).map fun i=>(F i).1),_,_,rfl,htl,hT,.mk hsz hts (fun t ht=>?_),fun hw=>?_⟩
    ·obtain⟨i,hi,rfl⟩:=List.mem_map.1 ht
     exact (hF i (List.mem_range.1 hi)).2.2.2.1
    ·have hw2:∀ n∈y4.1.weights Tryz.prog 25,n≤reachBytes:=fun n hn=>hw n (by rw[hx0];exact w_agg Tryz.underlying27 g4 rfl n hn)
     rw[hxs] at hw2
     have hb:=hw2 _ (w_row Tryz.underlying25)
     rw[bytes_27,List.length_map,List.length_map] at hb
     refine .mk (by rw[hlen2];have e:reachBytes=140737488351232:=rfl;omega) (hbY2 hw) (fun t ht=>?_)
     obtain⟨i,hi,rfl⟩:=List.mem_map.1 ht
     have hi:=List.mem_range.1 hi
     exact (hF i hi).2.2.2.2 elems[i] (List.getElem?_eq_getElem (by omega)) (fun n hn=>hw2 n (w_elem Tryz.underlying25 (List.getElem?_eq_getElem (by omega)) n hn))
end
theorem arg_tmG {H:Type} {enc:TypeId×Value→H} {W:World} {v:Value} {d:DataW H} {p:List MemPlace} (h:DataW.Trod enc Tryz.prog W 0 (fun _=>true) true 27 v d p) (hw:∀ n∈d.weights Tryz.prog 27,n≤reachBytes):
  ∃ (t:Tm) (tk kk:Value),v=tmVal t tk kk∧TyL W.heap.size (fun _=>True) W t.ty.kids tk∧TmL W.heap.size (fun _=>True) W t.kids kk∧SmTm big t∧BgTm t:=by
 obtain⟨fuel,h⟩:=h
 obtain⟨t,tk,kk,hc,h1,h2,h3,h4⟩:=open_tmG fuel h
 exact⟨t,tk,kk,val_of_cells hc (by simp[tmCells]),h1,h2,h3,h4 hw⟩
end Go.Proofs.YtdmebjbkccjhbaaGreatDoor
namespace Go.Proofs.YtdmebjbkccjhbaaGreatDoor
open Go.ChangeShapes Go.WideShapes Go.ChangeAt Go.RowKit
theorem gPow : Tryz.prog.globalNamed "internal/strconv.uint64pow10" = some 0 := by kernel_rfl
theorem gPowT:(Tryz.prog.globals[0]?).map (·.type)=some 219:=by kernel_rfl
theorem p10_of_laid {W:World} (h:laidMetH Tryz.prog Rows.termFreesRow.laid W):P10 W:=by
 have h0:laidMet Tryz.prog Rows.termFreesRow.laid W:=h
 exact Lib.tabIs_of_head gPow gPowT Tryz.underlying219 Tryz.underlying189 (by kernel_rfl) (by kernel_rfl) h0.tail.tail
end Go.Proofs.YtdmebjbkccjhbaaGreatDoor
namespace Go.Proofs.YtdmebjbkccjhbaaGreatDoor
open Go.ChangeShapes Go.WideShapes Go.ChangeAt Go.RowKit
section
variable {H:Type} {enc:TypeId×Value→H} {w:World} {spare:Nat→Bool} {held:Bool}
theorem open_ints {fuel:Nat} {a:Option Addr} {n c:Nat} {x:DataW H×List MemPlace} (h:DataW.trod enc Tryz.prog w 0 spare held fuel 52 [.slice a n c]=some x):
  ∃ l:List Int,InL (fun _=>True) w l (.slice a n c)∧l.length≤9223372036854775807:=by
 rcases DataW.trod_slice Tryz.underlying52 h with ⟨hc,-⟩ | ⟨a',len,cap,elems,rest,m,rfl,hc,-,-,hl,hm,hel,helt,-,-⟩
 ·cases hc
  exact⟨[],⟨_,_,_,rfl,rfl,Nat.le_refl _,fun i hi=>absurd hi (Nat.not_lt_zero _)⟩,Nat.zero_le _⟩
 ·cases hc
  by_cases h0:n=0
  ·subst h0
   exact⟨[],⟨_,_,_,rfl,rfl,Nat.zero_le _,fun i hi=>absurd hi (Nat.not_lt_zero _)⟩,Nat.zero_le _⟩
  ·rw[cells_3] at helt
   obtain⟨b,o,rfl,hat⟩:=elems_at hel (by decide) helt (by omega)
   obtain⟨F,hF⟩:=Go.Deep.choose_lt (α:=Int) (n:=n) (p:=fun i q=>w.cell? ⟨b,o+i,none⟩=some (.int .i64 q)) (fun i hi=>by
    obtain⟨cs,y,hcl,hcell,hy⟩:=hat i hi
    obtain⟨k,hk,-,-⟩:=DataW.trod_int Tryz.underlying3 hy
    have h1:=hcell 0 (by decide)
    rw[hk,Nat.mul_one,Nat.add_zero] at h1
    exact⟨k,h1⟩)
   refine⟨(List.range n).map F,⟨_,_,_,rfl,by simp,by omega,fun i hi=>⟨b,o,rfl,trivial,?_⟩⟩,by unfold maxLen at hm;simp;omega⟩
   have hi':i<n:=by simpa using hi
   rw[hF i hi']
   simp
end
theorem arg_ints {H:Type} {enc:TypeId×Value→H} {W:World} {v:Value} {d:DataW H} {p:List MemPlace} {r:Reach} {b0:Nat} (hval:Value.okWide Tryz.prog W r b0 52 v) (h:DataW.Trod enc Tryz.prog W 0 (fun _=>true) true 52 v d p):
  ∃ (l:List Int) (a:Option Addr) (n c:Nat),v=.slice a n c∧InL (fun _=>True) W l (.slice a n c)∧l.length≤9223372036854775807:=by
 obtain⟨a,n,c,rfl⟩:=Go.WideShapes.okWide_slice Tryz.underlying52 hval
 obtain⟨fuel,h⟩:=h
 obtain⟨l,h1,h2⟩:=open_ints (a:=a) (n:=n) (c:=c) h
 exact⟨l,a,n,c,rfl,h1,h2⟩
theorem back_ints {H:Type} {enc:TypeId×Value→H} {W W':World} {v:Value} {d:DataW H} {p:List MemPlace} (h:DataW.Trod enc Tryz.prog W 0 (fun _=>true) true 52 v d p) (k:Kept (fun _=>False) W W') (hlt:∀ x∈p,x.block<W.heap.size):
  DataW.Trod enc Tryz.prog W' 0 (fun b=>decide (b<W.heap.size)) true 52 v d p:=back_of (by kernel_rfl) (size_ok (by decide)) h k hlt
end Go.Proofs.YtdmebjbkccjhbaaGreatDoor
