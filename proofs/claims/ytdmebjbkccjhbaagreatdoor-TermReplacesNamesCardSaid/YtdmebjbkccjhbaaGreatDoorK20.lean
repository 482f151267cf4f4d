/- A part. -/
import Derived.Test.YtdmebjbkccjhbaaGreatDoorK19
set_option linter.unusedVariables false
set_option linter.unusedSimpArgs false
set_option maxRecDepth 100000
set_option maxHeartbeats 32000000
namespace Go.Proofs.YtdmebjbkccjhbaaGreatDoor
open Go
section
variable {P:Program} {ops:Array Oper} {L:World→World→Prop} {T:Nat→Value→World→Prop}
def Up (L:World→World→Prop) (T:Value→World→Prop) (v:Value) (w:World):Prop:=∃ w1,L w1 w∧T v w1
def dstOf (ops:Array Oper) (j:Nat):Option Tmp:=(ops[j]?).bind (·.dst)
def depsOf (o:Oper):List Nat:=(o.after.toList.filter (Region.binds .any)).map (·.on)
def allV (ops:Array Oper) (L:World→World→Prop) (T:Nat→Value→World→Prop) (K:Act→Prop) (W:World):List Nat→Act→Prop
 | [],b=>K b
 | j::js,b=>match dstOf ops j with
  | some d=>∀ v,Up L (T j) v W→allV ops L T K W js (b.put (some d) v)
  | none=>allV ops L T K W js b
def KT (L:World→World→Prop) (T:Value→World→Prop) (o:Oper) (b:Act) (W:World) (a':Act) (w':World):Prop:=
 L W w'∧a'.defers=b.defers∧(match o.dst with | some d=>T (a'.eval (.tmp d)) w' | none=>True)
def stepM (P:Program) (ops:Array Oper) (L:World→World→Prop) (T:Nat→Value→World→Prop) (a0:Act) (w0:World) (i:Nat) (o:Oper):Prop:=
 ∀ W,L w0 W→allV ops L T (fun b=>if Region.wanted o (yielded ops b.tmps)=true then o.wp P b W (KT L (T i) o b W) (fun _ _ _=>False) else KT L (T i) o b W (b.put o.dst undef) W) W (depsOf o) a0
def stepE (P:Program) (ops:Array Oper) (L:World→World→Prop) (T:Nat→Value→World→Prop) (a0:Act) (w0:World) (i:Nat) (o:Oper):Prop:=
 ∀ W,L w0 W→allV ops L T (fun b=>∃ v,Yields P ops o v b∧T i v W) W (depsOf o) a0
def stepA (P:Program) (ops:Array Oper) (L:World→World→Prop) (T:Nat→Value→World→Prop) (late:List Nat) (a0:Act) (w0:World) (i:Nat) (o:Oper):Prop:=
 stepE P ops L T a0 w0 i o∨(late.contains i=false∧stepM P ops L T a0 w0 i o)
def allM (P:Program) (ops:Array Oper) (L:World→World→Prop) (T:Nat→Value→World→Prop) (late tl:List Nat) (a0:Act) (w0:World):Nat→List Oper→Prop
 | _,[]=>True
 | i,o::os=>(tl.contains i=true∨stepA P ops L T late a0 w0 i o)∧allM P ops L T late tl a0 w0 (i+1) os
theorem allM_nil {late tl:List Nat} {a0:Act} {w0:World} {i:Nat}:allM P ops L T late tl a0 w0 i []:=trivial
theorem allM_cons {late tl:List Nat} {a0:Act} {w0:World} {i:Nat} {o:Oper} {os:List Oper} (hl:late.contains i=false) (h:stepM P ops L T a0 w0 i o) (h':allM P ops L T late tl a0 w0 (i+1) os):allM P ops L T late tl a0 w0 i (o::os):=⟨Or.inr (Or.inr ⟨hl,h⟩),h'⟩
theorem allM_tail {late tl:List Nat} {a0:Act} {w0:World} {i:Nat} {o:Oper} {os:List Oper} (h:tl.contains i=true) (h':allM P ops L T late tl a0 w0 (i+1) os):allM P ops L T late tl a0 w0 i (o::os):=⟨Or.inl h,h'⟩
theorem allM_at {late tl:List Nat} {a0:Act} {w0:World}:∀ {os:List Oper} {k i:Nat} {o:Oper},allM P ops L T late tl a0 w0 k os→os[i]?=some o→tl.contains (k+i)=false→stepA P ops L T late a0 w0 (k+i) o
 | [],_,_,_,_,h,_=>by simp at h
 | x::os,k,0,o,h,e,ht=>by
  simp only[List.getElem?_cons_zero,Option.some.injEq] at e;subst e
  rcases h.1 with h1 | h1
  ·rw[Nat.add_zero] at ht;rw[ht] at h1;cases h1
  ·exact h1
 | x::os,k,i+1,o,h,e,ht=>by
  rw[List.getElem?_cons_succ] at e
  have e2:k+(i+1)=k+1+i:=by omega
  rw[e2] at ht ⊢
  exact allM_at h.2 e ht
def pickT (tl:List Nat):Nat→List Oper→List Oper
 | _,[]=>[]
 | i,o::os=>if tl.contains i then o::pickT tl (i+1) os else pickT tl (i+1) os
def putD (ops:Array Oper) (c:Act):List Nat→Act→Act
 | [],b=>b
 | j::js,b=>match dstOf ops j with
  | some d=>putD ops c js (b.put (some d) (c.eval (.tmp d)))
  | none=>putD ops c js b
theorem allV_at {K:Act→Prop} {W:World} {c:Act}:∀ {js:List Nat} {b:Act},allV ops L T K W js b→(∀ j,j∈js→∀ d,dstOf ops j=some d→Up L (T j) (c.eval (.tmp d)) W)→K (putD ops c js b)
 | [],_,h,_=>h
 | j::js,b,h,hU=>by
  unfold allV at h
  unfold putD
  cases hd:dstOf ops j with
  | none=>rw[hd] at h;exact allV_at h fun k hk=>hU k (List.mem_cons_of_mem _ hk)
  | some d=>rw[hd] at h;exact allV_at (h _ (hU j (List.mem_cons_self ..) d hd)) fun k hk=>hU k (List.mem_cons_of_mem _ hk)
theorem putD_defers {c:Act}:∀ {js:List Nat} {b:Act},(putD ops c js b).defers=b.defers
 | [],_=>rfl
 | j::js,b=>by
  unfold putD
  cases dstOf ops j with
  | none=>exact putD_defers
  | some d=>rw[putD_defers];rfl
theorem putD_size {c:Act}:∀ {js:List Nat} {b:Act},(putD ops c js b).tmps.size=b.tmps.size
 | [],_=>rfl
 | j::js,b=>by
  unfold putD
  cases dstOf ops j with
  | none=>exact putD_size
  | some d=>rw[putD_size];simp[Act.put]
theorem eval_get {a:Act} {t:Tmp}:a.eval (.tmp t)=a.tmps.getD t undef:=by
 simp[Act.eval,Array.getD_eq_getD_getElem?]
theorem put_get {b:Act} {d t:Tmp} {v:Value}:(b.put (some d) v).tmps[t]?=if d=t then (if d<b.tmps.size then some v else none) else b.tmps[t]?:=by
 simp only[Act.put]
 rw[Array.getElem?_setIfInBounds]
theorem get_eval {c:Act} {d:Tmp}:(if d<c.tmps.size then some (c.eval (.tmp d)) else none)=c.tmps[d]?:=by
 by_cases h:d<c.tmps.size
 ·rw[if_pos h,eval_get];simp[h]
 ·rw[if_neg h];simp[Nat.le_of_not_lt h]
theorem putD_get {c:Act} {t:Tmp}:∀ {js:List Nat} {b:Act},b.tmps.size=c.tmps.size→(b.tmps[t]?=c.tmps[t]?∨∃ j,j∈js∧dstOf ops j=some t)→(putD ops c js b).tmps[t]?=c.tmps[t]?
 | [],b,_,h=>by
  rcases h with h | ⟨j,hj,_⟩
  ·exact h
  ·cases hj
 | j::js,b,hz,h=>by
  unfold putD
  cases hd:dstOf ops j with
  | none=>
   refine putD_get hz (h.imp id ?_)
   rintro⟨k,hk,hkd⟩
   rcases List.mem_cons.1 hk with rfl | hk
   ·rw[hd] at hkd;cases hkd
   ·exact⟨k,hk,hkd⟩
  | some d=>
   have hz':(b.put (some d) (c.eval (.tmp d))).tmps.size=c.tmps.size:=by simp[Act.put,hz]
   refine putD_get hz' ?_
   rw[put_get]
   by_cases e:d=t
   ·subst e
    refine Or.inl ?_
    rw[if_pos rfl,hz,get_eval]
   ·rw[if_neg e]
    refine h.imp id ?_
    rintro⟨k,hk,hkd⟩
    rcases List.mem_cons.1 hk with rfl | hk
    ·rw[hd] at hkd;cases hkd;exact absurd rfl e
    ·exact⟨k,hk,hkd⟩
def unl (tl:List Nat) (s:Array Bool):Nat→Nat
 | 0=>0
 | n+1=>unl tl s n+(if s.getD n false=true∨tl.contains n=true then 0 else 1)
theorem unl_set {tl:List Nat} {s:Array Bool} {i:Nat} (hi:i<s.size) (h:s.getD i false=false) (ht:tl.contains i=false):∀ n,unl tl (s.setIfInBounds i true) n+(if i<n then 1 else 0)=unl tl s n
 | 0=>by simp[unl]
 | n+1=>by
  have ih:=unl_set hi h ht n
  unfold unl
  by_cases e:i=n
  ·subst e
   have h1:(s.setIfInBounds i true).getD i false=true:=by simp[hi]
   rw[h1,h,ht]
   simp only[if_true,true_or,Nat.lt_irrefl,if_false,Nat.lt_succ_self,Bool.false_eq_true,or_self] at ih ⊢
   omega
  ·rw[getD_set_ne false e]
   have e3:(if i<n+1 then 1 else 0)=(if i<n then 1 else 0):=by split <;> split <;> omega
   rw[e3]
   omega
theorem unl_zero {tl:List Nat} {s:Array Bool}:∀ {n},unl tl s n=0→∀ j,j<n→tl.contains j=false→s.getD j false=true
 | 0,_,j,hj,_=>by omega
 | n+1,h,j,hj,ht=>by
  unfold unl at h
  by_cases e:s.getD n false=true∨tl.contains n=true
  ·rcases Nat.lt_succ_iff_lt_or_eq.1 hj with h1 | h1
   ·exact unl_zero (by omega) j h1 ht
   ·rw[h1] at ht ⊢
    rcases e with e | e
    ·exact e
    ·rw[ht] at e;cases e
  ·rw[if_neg e] at h;omega
theorem unl_pos {tl:List Nat} {s:Array Bool}:∀ {n},0<unl tl s n→∃ i,i<n∧tl.contains i=false∧s.getD i false=false∧∀ j,j<i→tl.contains j=false→s.getD j false=true
 | 0,h=>by simp[unl] at h
 | n+1,h=>by
  by_cases e:unl tl s n=0
  ·have h0:=unl_zero e
   unfold unl at h
   by_cases e2:s.getD n false=true∨tl.contains n=true
   ·rw[if_pos e2] at h;omega
   ·exact⟨n,Nat.lt_succ_self _,by cases hc:tl.contains n with
     | false=>rfl
     | true=>exact absurd (Or.inr hc) e2,by cases hc:s.getD n false with
     | false=>rfl
     | true=>exact absurd (Or.inl hc) e2,h0⟩
  ·obtain⟨i,h1,h2,h3,h4⟩:=unl_pos (tl:=tl) (s:=s) (n:=n) (by omega)
   exact⟨i,by omega,h2,h3,h4⟩
def sT (ops:Array Oper) (tl:List Nat):Array Bool:=((List.range ops.size).map fun j=>!tl.contains j).toArray
def sinkL (ops:Array Oper) (tl late:List Nat):Bool:=
 match tl with
 | []=>true
 | t0::_=>(List.range ops.size).all fun i=>tl.contains i||late.contains i||Region.waitsFor .any ops t0 i||(List.range ops.size).any fun j=>decide (i<j)&&Region.waitsFor .any ops j i&&!tl.contains j&&!late.contains j
def chainL (ops:Array Oper):List Nat→Bool
 | []=>true
 | t::ts=>(match ts with | []=>true | t'::_=>Region.waitsFor .any ops t' t)&&chainL ops ts
def seqL (ops:Array Oper):List Nat→Array Bool→Bool
 | [],s=>(Region.ready .any ops s).isEmpty
 | t::ts,s=>decide (Region.ready .any ops s=[t])&&seqL ops ts (s.setIfInBounds t true)
def freeS (ops:Array Oper) (i:Nat):Bool:=
 match ops[i]? with
 | none=>false
 | some oi=>(List.range ops.size).all fun j=>decide (j=i)||Region.waitsFor .any ops j i||(depsOf oi).contains j||(match ops[j]? with
   | some oj=>oi.apart ops oj
   | none=>true)
def monoB (ops:Array Oper) (m:Nat) (tl late:List Nat):Bool:=
 Region.noSelect ops&&(sinkL ops tl late&&chainL ops tl&&late.all (fun i=>freeS ops i))&&seqL ops tl (sT ops tl) &&
 (List.range ops.size).all fun i=>tl.contains i||match ops[i]? with
  | none=>false
  | some o=>(depsOf o).all (fun j=>decide (j<i)&&!tl.contains j) &&
   (match o.dst with
    | none=>true
    | some d=>decide (d<m)&&(List.range ops.size).all fun j=>decide (j=i)||tl.contains j||decide (dstOf ops j≠some d)) &&
   (o.looksAt ops).all fun t=>(List.range ops.size).all fun j=>tl.contains j||decide (dstOf ops j≠some t)||(depsOf o).contains j
structure MInv (ops:Array Oper) (L:World→World→Prop) (T:Nat→Value→World→Prop) (tl:List Nat) (a0:Act) (w0:World) (s:Array Bool) (a:Act) (w:World):Prop where
 size:s.size=ops.size
 closed:∀ j oj,ops[j]?=some oj→s.getD j false=true→∀ e∈oj.after,Region.binds .any e=true→s.getD e.on false=true
 tail:∀ t,tl.contains t=true→s.getD t false=false
 kp:L w0 w
 df:a.defers=a0.defers
 tz:a.tmps.size=a0.tmps.size
 dn:∀ j d,s.getD j false=true→dstOf ops j=some d→Up L (T j) (a.eval (.tmp d)) w
 un:∀ t,(∀ j,j<ops.size→tl.contains j=false→dstOf ops j≠some t)→a.tmps[t]?=a0.tmps[t]?
theorem wpAny_more {md:Region.Mode} {Q:Exit→Act→World→Prop}:∀ (f:Nat) (s:Array Bool) (a:Act) (w:World),wpAny P md ops Q f s a w→wpAny P md ops Q (f+1) s a w
 | 0,s,a,w,h=>⟨fun _=>h.2,fun i hi=>by rw[h.1] at hi;cases hi⟩
 | f+1,s,a,w,h=>⟨h.1,fun i hi=>wpOp_mono (fun a' w' h'=>wpAny_more f _ a' w' h') (h.2 i hi)⟩
theorem wpAny_seqL {Q:Exit→Act→World→Prop}:∀ (ts:List Nat) (l:List Oper) (s:Array Bool) (a:Act) (w:World),(∀ j:Nat,(ts[j]?).bind (fun t:Nat=>ops[t]?)=l[j]?) →
  seqL ops ts s=true→wpList P ops Q l a w→wpAny P .any ops Q l.length s a w
 | [],[],s,a,w,_,hB,h=>⟨by simpa [seqL] using hB,h⟩
 | [],_::_,_,_,_,hl,_,_=>by have:=hl 0;simp at this
 | t::ts,[],s,a,w,hl,hB,h=>by
  simp only[seqL,Bool.and_eq_true,decide_eq_true_eq] at hB
  have h1:t∈Region.ready .any ops s:=by rw[hB.1];exact List.mem_singleton.2 rfl
  obtain⟨_,o,ho,_⟩:=mem_ready.1 h1
  have:=hl 0
  simp[ho] at this
 | t::ts,o::l,s,a,w,hl,hB,h=>by
  have h0:ops[t]?=some o:=by simpa using hl 0
  simp only[seqL,Bool.and_eq_true,decide_eq_true_eq] at hB
  refine⟨fun h1=>(by rw[hB.1] at h1;cases h1),fun i hi=>?_⟩
  rw[hB.1] at hi
  obtain rfl:i=t:=by simpa using hi
  have hw:wpOp P ops Q i (wpList P ops Q l) a w:=by unfold wpOp;simp only[h0];exact h
  exact wpOp_mono (fun a' w' h'=>wpAny_seqL ts l _ a' w' (fun j=>by have:=hl (j+1);simpa using this) hB.2 h') hw
theorem monoB_op {m i:Nat} {tl late:List Nat} {o:Oper} (hB:monoB ops m tl late=true) (hit:tl.contains i=false) (hi:ops[i]?=some o):
  (∀ j,j∈depsOf o→j<i∧tl.contains j=false)∧(∀ d,o.dst=some d→d<m∧∀ j,j<ops.size→tl.contains j=false→j≠i→dstOf ops j≠some d)∧(∀ t,t∈o.looksAt ops→∀ j,j<ops.size→tl.contains j=false→dstOf ops j=some t→j∈depsOf o):=by
 have hin:i<ops.size:=(Array.getElem?_eq_some_iff.1 hi).1
 unfold monoB at hB
 rw[Bool.and_eq_true] at hB
 have h:=List.all_eq_true.1 hB.2 i (List.mem_range.2 hin)
 rw[hi,hit,Bool.false_or] at h
 simp only[Bool.and_eq_true,List.all_eq_true,decide_eq_true_eq,List.mem_range,Bool.or_eq_true,Bool.not_eq_true'] at h
 refine⟨h.1.1,fun d hd=>?_,fun t ht j hj hjt e=>?_⟩
 ·have h2:=h.1.2
  rw[hd] at h2
  simp only[Bool.and_eq_true,List.all_eq_true,decide_eq_true_eq,List.mem_range,Bool.or_eq_true] at h2
  exact⟨h2.1,fun j hj hjt hne=>by
   rcases h2.2 j hj with (h3 | h3) | h3
   ·exact absurd h3 hne
   ·rw[hjt] at h3;cases h3
   ·exact h3⟩
 ·rcases h.2 t ht j hj with (h3 | h3) | h3
  ·rw[hjt] at h3;cases h3
  ·exact absurd e h3
  ·simpa using h3
theorem MInv.set {tl:List Nat} {a0:Act} {w0 w:World} {s:Array Bool} {a:Act} {i:Nat} (inv:MInv ops L T tl a0 w0 s a w) (hi:i∈Region.ready .any ops s) (hit:tl.contains i=false):
  (s.setIfInBounds i true).size=ops.size∧(∀ j oj,ops[j]?=some oj→(s.setIfInBounds i true).getD j false=true→∀ e∈oj.after,Region.binds .any e=true→(s.setIfInBounds i true).getD e.on false=true)∧(∀ t,tl.contains t=true→(s.setIfInBounds i true).getD t false=false):=by
 obtain⟨_,oi,hoi,hall⟩:=mem_ready.1 hi
 refine⟨by simp[inv.size],fun j oj hj hl e he hb=>?_,fun t ht=>?_⟩
 ·by_cases hij:i=j
  ·subst hij
   have:oj=oi:=Option.some.inj (hj.symm.trans hoi)
   subst this
   exact getD_set_true (hall e he hb)
  ·rw[getD_set_ne false hij] at hl
   exact getD_set_true (inv.closed j oj hj hl e he hb)
 ·have hne:i≠t:=fun e=>by rw[e,ht] at hit;cases hit
  rw[getD_set_ne false hne];exact inv.tail t ht
theorem mono_at {tl late:List Nat} {a0:Act} {w0:World} (hrf:∀ w,L w w) (htr:∀ a b c,L a b→L b c→L a c) (hB:monoB ops a0.tmps.size tl late=true)
  {i:Nat} {o:Oper} (hi:ops[i]?=some o) (hit:tl.contains i=false) {F:Act→Prop} {s:Array Bool} {a:Act} {w:World} (inv:MInv ops L T tl a0 w0 s a w) (hr:i∈Region.ready .any ops s) (hst:allV ops L T F w (depsOf o) a0):
  ∃ b:Act,F b∧execOp a.eval o=execOp b.eval o∧Region.wanted o (yielded ops a.tmps)=Region.wanted o (yielded ops b.tmps)∧b.tmps.size=a0.tmps.size ∧
   ∀ (v:Value) (w':World),L w w'→(∀ d,o.dst=some d→T i v w')→MInv ops L T tl a0 w0 (s.setIfInBounds i true) (a.put o.dst v) w':=by
 obtain⟨hun,o',ho',hall⟩:=mem_ready.1 hr
 rw[hi] at ho';cases ho'
 obtain⟨b1,b2,b3⟩:=monoB_op hB hit hi
 have hin:i<ops.size:=(Array.getElem?_eq_some_iff.1 hi).1
 have hsel:∀ cs b,o.op≠.select cs b:=by
  unfold monoB at hB
  simp only[Bool.and_eq_true] at hB
  exact fun cs b=>Region.noSelect_spec hB.1.1.1 i o cs b hi
 have hdep:∀ j,j∈depsOf o→s.getD j false=true:=by
  intro j hj
  unfold depsOf at hj
  obtain⟨e,he,rfl⟩:=List.mem_map.1 hj
  rw[List.mem_filter] at he
  exact hall e (Array.mem_toList_iff.1 he.1) he.2
 have h:=allV_at (c:=a) hst (fun j hj d hd=>inv.dn j d (hdep j hj) hd)
 have hev:∀ t,t∈o.looksAt ops→(putD ops a (depsOf o) a0).tmps[t]?=a.tmps[t]?:=by
  intro t ht
  refine putD_get inv.tz.symm ?_
  by_cases e:∃ j,j<ops.size∧tl.contains j=false∧dstOf ops j=some t
  ·obtain⟨j,hj,hjt,hd⟩:=e
   exact Or.inr ⟨j,b3 t ht j hj hjt hd,hd⟩
  ·exact Or.inl (inv.un t fun j hj hjt hd=>e ⟨j,hj,hjt,hd⟩).symm
 have hz:(putD ops a (depsOf o) a0).tmps.size=a0.tmps.size:=putD_size
 generalize putD ops a (depsOf o) a0=b at *
 have he:execOp a.eval o=execOp b.eval o:=by
  refine execOp_congr o hsel fun x hx=>?_
  cases x with
  | tmp t=>
   have ht:t∈o.looksAt ops:=List.mem_append_left _ (List.mem_filterMap.2 ⟨.tmp t,by simpa using hx,rfl⟩)
   have:=hev t ht
   simp[Act.eval,this]
  | _=>rfl
 have hw:Region.wanted o (yielded ops a.tmps)=Region.wanted o (yielded ops b.tmps):=by
  unfold Region.wanted
  cases hg:o.guard with
  | none=>rfl
  | some gw=>
   obtain⟨g,want⟩:=gw
   have hy:yielded ops a.tmps g=yielded ops b.tmps g:=by
    unfold yielded
    cases ht:(ops[g]?).bind (·.dst) with
    | none=>rfl
    | some t=>
     have hm:t∈o.looksAt ops:=List.mem_append_right _ (by simp[hg,ht])
     have:=hev t hm
     simp[this]
   simp only[hy]
 have hdst:dstOf ops i=o.dst:=by unfold dstOf;rw[hi];rfl
 -- the new state
 have next:∀ (v:Value) (w':World),L w w'→(∀ d,o.dst=some d→T i v w')→MInv ops L T tl a0 w0 (s.setIfInBounds i true) (a.put o.dst v) w':=by
  intro v w' hl ht
  obtain⟨q1,q2,q3⟩:=inv.set hr hit
  refine⟨q1,q2,q3,htr _ _ _ inv.kp hl,?_,?_,?_,?_⟩
  ·rw[← inv.df];cases o.dst <;> rfl
  ·rw[← inv.tz];cases o.dst <;> simp[Act.put]
  ·intro j d hj hd
   by_cases e:j=i
   ·subst e
    rw[hdst] at hd
    rw[hd,eval_get]
    have hlt:d<a.tmps.size:=by rw[inv.tz];exact (b2 d hd).1
    have:((a.put (some d) v).tmps.getD d undef)=v:=by simp[Act.put,hlt]
    rw[this]
    exact⟨w',hrf w',ht d hd⟩
   ·rw[getD_set_ne false (Ne.symm e)] at hj
    have hjs:j<ops.size:=by
     unfold dstOf at hd
     cases hq:ops[j]? with
     | none=>rw[hq] at hd;cases hd
     | some _=>exact (Array.getElem?_eq_some_iff.1 hq).1
    have hjt:tl.contains j=false:=by
     cases hc:tl.contains j with
     | false=>rfl
     | true=>rw[inv.tail j hc] at hj;cases hj
    obtain⟨w1,h1,h2⟩:=inv.dn j d hj hd
    have hne:∀ d',o.dst=some d'→d'≠d:=fun d' hd' q=>(b2 d' hd').2 j hjs hjt e (by rw[hd,q])
    refine⟨w1,htr _ _ _ h1 hl,?_⟩
    rw[Act.eval_put (fun d' hd' q=>hne d' hd' (by cases q;rfl))]
    exact h2
  ·intro t ht'
   cases hd:o.dst with
   | none=>exact inv.un t ht'
   | some d=>
    rw[put_get,if_neg (fun q=>ht' i hin hit (by rw[hdst,hd,q]))]
    exact inv.un t ht'
 exact⟨b,h,he,hw,hz,next⟩
theorem mono_step {tl late:List Nat} {Q:Exit→Act→World→Prop} {a0:Act} {w0:World} (hrf:∀ w,L w w) (htr:∀ a b c,L a b→L b c→L a c) (hB:monoB ops a0.tmps.size tl late=true)
  {i:Nat} {o:Oper} (hi:ops[i]?=some o) (hit:tl.contains i=false) (hst:stepA P ops L T late a0 w0 i o) {s:Array Bool} {a:Act} {w:World} (inv:MInv ops L T tl a0 w0 s a w) (hr:i∈Region.ready .any ops s) {K:Act→World→Prop}
  (hK:∀ a' w',MInv ops L T tl a0 w0 (s.setIfInBounds i true) a' w'→K a' w'):wpOp P ops Q i K a w:=by
 rcases hst with hst | ⟨_,hst⟩
 ·obtain⟨b,⟨v,hy,ht⟩,he,hw,_,next⟩:=mono_at hrf htr hB hi hit inv hr (hst w inv.kp)
  exact (hy.of_same he hw).wpOp hi (hK _ _ (next v w (hrf w) (fun _ _=>ht)))
 obtain⟨b,h,he,hw,hz,next0⟩:=mono_at hrf htr hB hi hit inv hr (hst w inv.kp)
 have next:∀ (v:Value) (w':World),L w w'→(∀ d,o.dst=some d→T i v w')→K (a.put o.dst v) w':=fun v w' hl ht=>hK _ _ (next0 v w' hl ht)
 obtain⟨b1,b2,b3⟩:=monoB_op hB hit hi
 unfold wpOp
 simp only[hi]
 rw[hw]
 split
 ·rename_i hwt
  rw[if_pos hwt] at h
  refine Or.inl ?_
  unfold Oper.wp at *
  rw[he]
  have evd:∀ d v,o.dst=some d→(b.put o.dst v).eval (.tmp d)=v:=by
   intro d v hd
   rw[hd,eval_get]
   have hlt:d<b.tmps.size:=by rw[hz];exact (b2 d hd).1
   simp[Act.put,hlt]
  have fin:∀ (v:Value) (w':World),KT L (T i) o b w (b.put o.dst v) w'→K (a.put o.dst v) w':=by
   intro v w' hk
   refine next v w' hk.1 fun d hd=>?_
   have:=hk.2.2
   have e1:=evd d v hd
   rw[hd] at this e1
   simp only[] at this
   rwa [e1] at this
  generalize (execOp b.eval o).run P w=r at *
  cases r with
  | ok nx w'=>
   cases nx <;> simp only[Oper.upon] at h ⊢
   case value v=>exact fin v w' h
   case skip=>exact fin _ w' h
   case defer d=>
    have:=h.2.1
    exfalso
    have e1:((({ b with defers:=d::b.defers }:Act).put o.dst undef)).defers=d::b.defers:=by cases o.dst <;> rfl
    rw[e1] at this
    exact absurd (congrArg List.length this) (by simp)
   case enter f args=>
    refine Calls.mono h fun e w'' hq=>?_
    cases e with
    | returned v=>exact fin v w'' hq
    | panicked c=>exact hq.elim
    | outgrown=>obtain⟨_,_,hq⟩:=hq;exact hq.elim
   case row row args=>exact Rows.mono h fun v w'' hq=>fin v w'' hq
  | halt x w'=>
   cases x <;> simp only[Oper.upon] at h ⊢
 ·rename_i hwt
  rw[if_neg hwt] at h
  refine next _ _ h.1 fun d hd=>?_
  have:=h.2.2
  have e1:(b.put o.dst undef).eval (.tmp d)=undef:=by
   rw[hd,eval_get]
   have hlt:d<b.tmps.size:=by rw[hz];exact (b2 d hd).1
   simp[Act.put,hlt]
  rw[hd] at this e1
  simp only[] at this
  rwa [e1] at this
theorem tail_waitsL {tl late:List Nat} {t0:Nat} {ts:List Nat} (htl:tl=t0::ts) (hs:sinkL ops tl late=true) {a0 a:Act} {w0 w:World} {s:Array Bool} (inv:MInv ops L T tl a0 w0 s a w):
  ∀ (d i:Nat),ops.size-i=d→i<ops.size→tl.contains i=false→late.contains i=false→s.getD i false=false→t0 ∉ Region.ready .any ops s:=by
 intro d
 induction d using Nat.strongRecOn with
 | _ d ih=>
  intro i hd hi hit hla hun hr
  obtain⟨_,ot,hot,hall⟩:=mem_ready.1 hr
  subst htl
  unfold sinkL at hs
  have h1:=List.all_eq_true.1 hs i (List.mem_range.2 hi)
  rw[hla,hit,Bool.false_or,Bool.false_or,Bool.or_eq_true] at h1
  rcases h1 with h1 | h1
  ·obtain⟨oj,hoj,e,he,hb,hon⟩:=Region.waitsFor_spec h1
   have:oj=ot:=Option.some.inj (hoj.symm.trans hot)
   subst this
   have h2:=hall e he hb
   rw[hon,hun] at h2
   cases h2
  ·obtain⟨j,hj,hj2⟩:=List.any_eq_true.1 h1
   simp only[Bool.and_eq_true,decide_eq_true_eq,Bool.not_eq_true'] at hj2
   obtain⟨⟨⟨hij,hwt⟩,hjt⟩,hjl⟩:=hj2
   obtain⟨oj,hoj,e,he,hb,hon⟩:=Region.waitsFor_spec hwt
   have hjs:=List.mem_range.1 hj
   cases hl:s.getD j false with
   | true=>
    have h2:=inv.closed j oj hoj hl e he hb
    rw[hon,hun] at h2
    cases h2
   | false=>exact ih (ops.size-j) (by omega) j rfl hjs hjt hjl hl hr
theorem chain_waits {tl:List Nat} {s:Array Bool}:∀ {l:List Nat} {t:Nat},chainL ops l=true→(∀ t,t∈l→s.getD t false=false)→t∈l→t∈Region.ready .any ops s→l.head?=some t
 | [],t,_,_,ht,_=>by cases ht
 | x::l,t,hc,hn,ht,hr=>by
  rcases List.mem_cons.1 ht with rfl | ht
  ·rfl
  ·exfalso
   unfold chainL at hc
   rw[Bool.and_eq_true] at hc
   have h1:=chain_waits (tl:=tl) hc.2 (fun t h=>hn t (List.mem_cons_of_mem _ h)) ht hr
   match l,h1,hc with
   | y::l,h1,hc=>
    obtain rfl:y=t:=Option.some.inj h1
    obtain⟨o',ho',e,he,hb,hon⟩:=Region.waitsFor_spec hc.1
    obtain⟨_,o,ho,hall⟩:=mem_ready.1 hr
    rw[ho'] at ho;cases ho
    have h2:=hall e he hb
    rw[hon,hn x (List.mem_cons_self ..)] at h2
    cases h2
theorem mono_run {g:Nat} {tl late:List Nat} {Q:Exit→Act→World→Prop} {a0:Act} {w0:World} (hrf:∀ w,L w w) (htr:∀ a b c,L a b→L b c→L a c) (hB:monoB ops a0.tmps.size tl late=true) (hQ:∀ c d v a w,Q (.panic c) (Act.put a d v) w→Q (.panic c) a w)
  (hst:∀ i o,tl.contains i=false→ops[i]?=some o→stepA P ops L T late a0 w0 i o) (hfin:∀ s a w,MInv ops L T tl a0 w0 s a w→(∀ j,j<ops.size→tl.contains j=false→s.getD j false=true)→wpAny P .any ops Q g s a w):
  ∀ (f:Nat) (s:Array Bool) (a:Act) (w:World),unl tl s ops.size≤f→MInv ops L T tl a0 w0 s a w→wpAny P .any ops Q (f+g) s a w
 | 0,s,a,w,hf,inv=>by rw[Nat.zero_add];exact hfin s a w inv (unl_zero (by omega))
 | f+1,s,a,w,hf,inv=>by
  by_cases h0:unl tl s ops.size=0
  ·have:=wpAny_more _ _ _ _ (mono_run hrf htr hB hQ hst hfin f s a w (by omega) inv)
   rwa [Nat.add_right_comm] at this
  ·obtain⟨i0,hi0,ht0,hu0,hl0⟩:=unl_pos (Nat.pos_of_ne_zero h0)
   have hBB:=hB
   unfold monoB at hBB
   simp only[Bool.and_eq_true] at hBB
   have hgo:∀ i,i<ops.size→∃ o,ops[i]?=some o:=fun i hi=>⟨_,Array.getElem?_eq_getElem hi⟩
   have hs:s.size=ops.size:=inv.size
   have hr0:i0∈Region.ready .any ops s:=by
    obtain⟨o,ho⟩:=hgo i0 hi0
    refine mem_ready.2 ⟨getD_in (by omega) hu0,o,ho,fun e he hb=>?_⟩
    have h1:=(monoB_op hB ht0 ho).1 e.on (by
     unfold depsOf
     exact List.mem_map.2 ⟨e,List.mem_filter.2 ⟨Array.mem_toList_iff.2 he,hb⟩,rfl⟩)
    exact hl0 _ h1.1 h1.2
   have hdec:∀ i,i<ops.size→tl.contains i=false→s.getD i false=false→unl tl (s.setIfInBounds i true) ops.size≤f:=fun i hin hit hiu=>by
    have:=unl_set (s:=s) (by omega:i<s.size) hiu hit ops.size
    rw[if_pos hin] at this
    omega
   rw[Nat.add_right_comm]
   by_cases hlt:∃ i,i<ops.size∧tl.contains i=false∧late.contains i=false∧s.getD i false=false
   ·obtain⟨i1,hi1,hit1,hla1,hu1⟩:=hlt
    refine⟨fun e=>(by rw[e] at hr0;cases hr0),fun i hi=>?_⟩
    have hit:tl.contains i=false:=by
     cases hc:tl.contains i with
     | false=>rfl
     | true=>
      exfalso
      have hmem:i∈tl:=by simpa using hc
      have hh:=chain_waits (tl:=tl) hBB.1.1.2.1.2 (fun t ht=>inv.tail t (by simpa using ht)) hmem hi
      match tl,hh with
      | t0::ts,hh=>
       obtain rfl:t0=i:=Option.some.inj hh
       exact tail_waitsL rfl hBB.1.1.2.1.1 inv _ i1 rfl hi1 hit1 hla1 hu1 hi
    have hio:i<ops.size:=by
     obtain⟨_,o,ho,_⟩:=mem_ready.1 hi
     exact (Array.getElem?_eq_some_iff.1 ho).1
    obtain⟨o,ho⟩:=hgo i hio
    have hiu:s.getD i false=false:=getD_both (mem_ready.1 hi).1
    exact mono_step hrf htr hB ho hit (hst i o hit ho) inv hi fun a' w' inv'=>mono_run hrf htr hB hQ hst hfin f _ a' w' (hdec i hio hit hiu) inv'
   ·have hla:late.contains i0=true:=by
     cases hc:late.contains i0 with
     | true=>rfl
     | false=>exact absurd ⟨i0,hi0,ht0,hc,hu0⟩ hlt
    obtain⟨o,ho⟩:=hgo i0 hi0
    have hE:stepE P ops L T a0 w0 i0 o:=by
     rcases hst i0 o ht0 ho with h | ⟨h,_⟩
     ·exact h
     ·rw[h] at hla;cases hla
    obtain⟨b,⟨v,hy,ht⟩,he,hw,_,next⟩:=mono_at hrf htr hB ho ht0 inv hr0 (hE w inv.kp)
    have hfr:=List.all_eq_true.1 hBB.1.1.2.2 i0 (by simpa using hla)
    unfold freeS at hfr
    rw[ho] at hfr
    simp only[List.all_eq_true,List.mem_range,Bool.or_eq_true,decide_eq_true_eq] at hfr
    refine wpAny_first ho (Region.noSelect_spec hBB.1.1.1) (fun c a w h=>hQ c _ _ a w h) (f+g) s a w ?_ hr0 (hy.of_same he hw) (mono_run hrf htr hB hQ hst hfin f _ _ _ (hdec i0 hi0 ht0 hu0) (next v w (hrf w) (fun _ _=>ht)))
    intro j oj hj hne hjun hno
    have h1:=hfr j (Array.getElem?_eq_some_iff.1 hj).1
    rcases h1 with ((h1 | h1) | h1) | h1
    ·exact absurd h1 hne
    ·obtain⟨o',ho',e,he',hb,hon⟩:=Region.waitsFor_spec h1
     rw[hj] at ho';cases ho'
     exact absurd hon (hno e he' hb)
    ·exfalso
     obtain⟨_,o',ho',hall⟩:=mem_ready.1 hr0
     rw[ho] at ho';cases ho'
     have:s.getD j false=true:=by
      have hm:j∈depsOf o:=by simpa using h1
      unfold depsOf at hm
      obtain⟨e,he',rfl⟩:=List.mem_map.1 hm
      rw[List.mem_filter] at he'
      exact hall e (Array.mem_toList_iff.1 he'.1) he'.2
     rw[getD_both hjun] at this;cases this
    ·rw[hj] at h1;exact h1
theorem sT_get (tl:List Nat) (j:Nat):(sT ops tl)[j]?=if j<ops.size then some (!tl.contains j) else none:=by
 unfold sT
 rw[List.getElem?_toArray,List.getElem?_map]
 by_cases h:j<ops.size
 ·rw[if_pos h,List.getElem?_range h];rfl
 ·rw[if_neg h,List.getElem?_eq_none (by simpa using h)];rfl
theorem fm_congr {α β:Type} {f g:α→Option β}:∀ {l:List α},(∀ x,x∈l→f x=g x)→l.filterMap f=l.filterMap g
 | [],_=>rfl
 | a::l,h=>by rw[List.filterMap_cons,List.filterMap_cons,h a (List.mem_cons_self ..),fm_congr (fun x hx=>h x (List.mem_cons_of_mem _ hx))]
theorem unl_count (tl:List Nat) (s:Array Bool):∀ n,unl tl s n+((List.range n).filter (tl.contains ·)).length≤n
 | 0=>by simp[unl]
 | n+1=>by
  have ih:=unl_count tl s n
  rw[List.range_succ,List.filter_append,List.length_append]
  unfold unl
  cases hc:tl.contains n with
  | true=>
   have:([n].filter (tl.contains ·)).length=1:=by rw[List.filter_cons,if_pos hc];rfl
   rw[this,if_pos (Or.inr rfl)];omega
  | false=>
   have:([n].filter (tl.contains ·)).length=0:=by rw[List.filter_cons,if_neg (by rw[hc];exact Bool.false_ne_true)];rfl
   rw[this];split <;> omega
theorem pick_get {tl:List Nat}:∀ (l:List Oper) (k:Nat),pickT tl k l=((List.range' k l.length).filter (tl.contains ·)).filterMap (fun i=>l[i-k]?)
 | [],k=>by simp[pickT]
 | o::l,k=>by
  have ih:=pick_get (tl:=tl) l (k+1)
  have e:((List.range' (k+1) l.length).filter (tl.contains ·)).filterMap (fun i=>(o::l)[i-k]?)=((List.range' (k+1) l.length).filter (tl.contains ·)).filterMap (fun i=>l[i-(k+1)]?):=by
   apply fm_congr
   intro i hi
   have:=List.mem_range'_1.1 (List.mem_filter.1 hi).1
   obtain⟨q,rfl⟩:∃ q,i=k+1+q:=⟨i-(k+1),by omega⟩
   rw[show k+1+q-k=q+1 by omega,List.getElem?_cons_succ,show k+1+q-(k+1)=q by omega]
  rw[pickT,ih,List.length_cons,List.range'_succ,List.filter_cons]
  split
  ·rw[List.filterMap_cons,Nat.sub_self];simp only[List.getElem?_cons_zero];rw[e]
  ·rw[e]
theorem wp_region_mono {L:World→World→Prop} (T:Nat→Value→World→Prop) {id:Nat} {Q:Exit→Act→World→Prop} {a0:Act} {w:World} {l:List Oper} (tl late:List Nat) (m:Nat) (hm:P.follows .mixedOrders=true) (hz:a0.tmps.size=m) (hB:monoB l.toArray m tl late=true)
  (htl:tl=(List.range l.length).filter (tl.contains ·))
  (hrf:∀ w,L w w) (htr:∀ a b c,L a b→L b c→L a c) (hQ:∀ c d v a w,Q (.panic c) (Act.put a d v) w→Q (.panic c) a w)
  (hst:allM P l.toArray L T late tl a0 w.drew 0 l)
  (hfin:∀ w',L w.drew w'→allV l.toArray L T (fun a'=>wpList P l.toArray Q (pickT tl 0 l) a' w') w' ((List.range l.length).filter (fun i=>!tl.contains i)) a0):(Code.region id l.toArray true).wp P Q a0 w:=by
 subst hz
 have hseq:seqL l.toArray tl (sT l.toArray tl)=true:=by
  have:=hB
  unfold monoB at this
  simp only[Bool.and_eq_true] at this
  exact this.1.2
 have hrep:∀ j,(Array.replicate l.toArray.size false).getD j false=false:=fun j=>getD_replicate_false _ _
 have inv0:MInv l.toArray L T tl a0 w.drew (Array.replicate l.toArray.size false) a0 w.drew:=
  ⟨by simp,fun j oj _ hl=>(by rw[hrep] at hl;cases hl),fun t _=>hrep t,hrf _,rfl,rfl,fun j d hj=>(by rw[hrep] at hj;cases hj),fun _ _=>rfl⟩
 have hpick:pickT tl 0 l=tl.filterMap (fun t:Nat=>l[t]?):=by
  rw[pick_get]
  simp only[Nat.sub_zero]
  rw[← List.range_eq_range',← htl]
 have hpl:∀ j:Nat,(tl[j]?).bind (fun t:Nat=>l.toArray[t]?)=(pickT tl 0 l)[j]?:=by
  rw[hpick]
  have hall:∀ t,t∈tl→∃ o,l[t]?=some o:=fun t ht=>by
   rw[htl] at ht
   exact⟨_,List.getElem?_eq_getElem (List.mem_range.1 (List.mem_filter.1 ht).1)⟩
  clear hfin hst hseq inv0 hB htl hpick
  induction tl with
  | nil=>intro j;simp
  | cons t ts ih=>
   obtain⟨o,ho⟩:=hall t (List.mem_cons_self ..)
   intro j
   rw[List.filterMap_cons,ho]
   cases j with
   | zero=>simp[ho]
   | succ j=>simpa using ih (fun t h=>hall t (List.mem_cons_of_mem _ h)) j
 refine wp_region_any hm ?_
 have hlen:(pickT tl 0 l).length=tl.length:=by
  rw[hpick]
  have hall:∀ t,t∈tl→∃ o,l[t]?=some o:=fun t ht=>by
   rw[htl] at ht
   exact⟨_,List.getElem?_eq_getElem (List.mem_range.1 (List.mem_filter.1 ht).1)⟩
  clear hfin hst hseq inv0 hB htl hpick hpl
  induction tl with
  | nil=>rfl
  | cons t ts ih=>
   obtain⟨o,ho⟩:=hall t (List.mem_cons_self ..)
   rw[List.filterMap_cons,ho,List.length_cons,List.length_cons,ih (fun t h=>hall t (List.mem_cons_of_mem _ h))]
 have hcnt:unl tl (Array.replicate l.toArray.size false) l.toArray.size+tl.length≤l.toArray.size:=by
  have h1:=unl_count tl (Array.replicate l.toArray.size false) l.toArray.size
  have h2:((List.range l.toArray.size).filter (tl.contains ·)).length=tl.length:=by
   have h3:=congrArg List.length htl
   simpa using h3.symm
  omega
 have H:=mono_run (P:=P) (Q:=Q) (g:=(pickT tl 0 l).length) hrf htr hB hQ (fun i o hi ho=>by
  have:=allM_at (k:=0) hst (show l[i]?=some o by simpa using ho) (by rwa [Nat.zero_add])
  rwa [Nat.zero_add] at this) (fun s a' w' inv hall=>by
  have es:s=sT l.toArray tl:=by
   refine Array.ext_getElem? fun j=>?_
   rw[sT_get]
   by_cases hj:j<l.toArray.size
   ·rw[if_pos hj]
    have hjs:j<s.size:=by rw[inv.size];exact hj
    cases hc:tl.contains j with
    | false=>
     have:=hall j hj hc
     simp[hjs] at this
     simp[hjs,this]
    | true=>
     have:=inv.tail j hc
     simp[hjs] at this
     simp[hjs,this]
   ·rw[if_neg hj,Array.getElem?_eq_none (by rw[inv.size];omega)]
  have ea:putD l.toArray a' ((List.range l.length).filter (fun i=>!tl.contains i)) a0=a':=by
   have e1:(putD l.toArray a' ((List.range l.length).filter (fun i=>!tl.contains i)) a0).tmps=a'.tmps:=by
    refine Array.ext_getElem? fun t=>putD_get inv.tz.symm ?_
    by_cases e:∃ j,j<l.toArray.size∧tl.contains j=false∧dstOf l.toArray j=some t
    ·obtain⟨j,hj,hjt,hd⟩:=e
     exact Or.inr ⟨j,List.mem_filter.2 ⟨List.mem_range.2 (by simpa using hj),by rw[hjt];rfl⟩,hd⟩
    ·exact Or.inl (inv.un t fun j hj hjt hd=>e ⟨j,hj,hjt,hd⟩).symm
   have e2:(putD l.toArray a' ((List.range l.length).filter (fun i=>!tl.contains i)) a0).defers=a'.defers:=by rw[putD_defers,inv.df]
   generalize putD l.toArray a' ((List.range l.length).filter (fun i=>!tl.contains i)) a0=b at *
   obtain⟨t1,d1⟩:=b
   obtain⟨t2,d2⟩:=a'
   simp only at e1 e2
   subst e1;subst e2;rfl
  have h:=allV_at (c:=a') (hfin w' inv.kp) (fun j hj d hd=>by
   have hj2:=List.mem_filter.1 hj
   exact inv.dn j d (hall j (by simpa using hj2.1) (by simpa using hj2.2)) hd)
  rw[ea] at h
  exact wpAny_seqL tl _ s a' w' hpl (by rw[es];exact hseq) h) (l.toArray.size-tl.length) (Array.replicate l.toArray.size false) a0 w.drew (by omega) inv0
 rw[hlen,show l.toArray.size-tl.length+tl.length=l.toArray.size by omega] at H
 exact H
def opW (P:Program) (ops:Array Oper) (L:World→World→Prop) (T:Value→World→Prop) (o:Oper) (b:Act) (W:World):Prop:=
 if Region.wanted o (yielded ops b.tmps)=true then o.wp P b W (KT L T o b W) (fun _ _ _=>False) else KT L T o b W (b.put o.dst undef) W
theorem stepM_of {a0:Act} {w0:World} {i:Nat} {o:Oper} (js:List Nat) (hj:depsOf o=js) (h:∀ W,L w0 W→allV ops L T (fun b=>opW P ops L (T i) o b W) W js a0):stepM P ops L T a0 w0 i o:=by
 subst hj;exact h
theorem allV_nil {K:Act→Prop} {W:World} {b:Act} (h:K b):allV ops L T K W [] b:=h
theorem allV_some {K:Act→Prop} {W:World} {b:Act} {j:Nat} {js:List Nat} (d:Tmp) (hd:dstOf ops j=some d) (h:∀ v,Up L (T j) v W→allV ops L T K W js (b.put (some d) v)):allV ops L T K W (j::js) b:=by
 unfold allV;rw[hd];exact h
theorem opW_go {T:Value→World→Prop} {o:Oper} {b:Act} {W:World} (hw:Region.wanted o (yielded ops b.tmps)=true) (h:∀ K:Act→World→Prop,(∀ a' w',KT L T o b W a' w'→K a' w')→o.wp P b W K (fun _ _ _=>False)):opW P ops L T o b W:=by
 unfold opW;rw[if_pos hw];exact h _ (fun _ _ h=>h)
theorem opW_skip {T:Value→World→Prop} {o:Oper} {b:Act} {W:World} (hw:Region.wanted o (yielded ops b.tmps)=false) (h:KT L T o b W (b.put o.dst undef) W):opW P ops L T o b W:=by
 unfold opW;rw[if_neg (by rw[hw];exact Bool.false_ne_true)];exact h
theorem KT.mk {L:World→World→Prop} {T:Value→World→Prop} {o:Oper} {b a':Act} {W w':World} (h:L W w') (hd:a'.defers=b.defers) (d:Tmp) (ho:o.dst=some d) (ht:T (a'.eval (.tmp d)) w'):KT L T o b W a' w':=by
 refine⟨h,hd,?_⟩
 rw[ho];exact ht
end
end Go.Proofs.YtdmebjbkccjhbaaGreatDoor
namespace Go.Proofs.YtdmebjbkccjhbaaGreatDoor
open Go.RowKit
def rpCells (fm tu:Tm) (fk fkk uk ukk:Value) (fB tB:Nat) (cnt:Int):List Value:=
 [.int .i64 fm.op,.string fm.name,.int .i64 fm.n,.int .i64 fm.ty.kind,.string fm.ty.name,fk,fkk,.int .i64 tu.op,.string tu.name,.int .i64 tu.n,.int .i64 tu.ty.kind,.string tu.ty.name,uk,ukk,.map (some fB),.map (some tB),.int .i64 cnt]
def cgB (names:List ByteArray) (c:ByteArray→Nat):Bool:=names.any fun s=>decide (0<c s)
theorem cgB_yes {names:List ByteArray} {c:ByteArray→Nat} {s:ByteArray} (h:mb s names=true) (h2:0<c s):cgB names c=true:=by
 unfold cgB
 exact List.any_eq_true.2 ⟨s,(mb_iff _ _).1 h,decide_eq_true h2⟩
theorem cgB_no {names:List ByteArray} {c:ByteArray→Nat} (h:∀ s,mb s names=true→c s=0):cgB names c=false:=by
 unfold cgB
 rw[← Bool.not_eq_true]
 intro e
 obtain⟨s,h1,h2⟩:=List.any_eq_true.1 e
 have:=h s ((mb_iff _ _).2 h1)
 have:=of_decide_eq_true h2
 omega
theorem here_any {t fm tu:Tm} {names:List ByteArray} {c0:ByteArray→Nat} {ok okf:Nat→Prop} {w:World} {tk kk fk fkk uk ukk:Value} {R fB tB b nf nb:Nat} {cnt:Int} (hb:BdTm t) (hd:tmD t≤900000) (h1:TyL ok w t.ty.kids tk) (h2:TmL ok w t.kids kk) (h3:TyL okf w fm.ty.kids fk) (h4:TmL okf w fm.kids fkk)
  (hR:Blk w R 87 (rpCells fm tu fk fkk uk ukk fB tB cnt)) (hF:MapF w fB nf (bagF (fun s=>mb s names))) (hc:∃ f,MapF w b nb f∧CntF f c0):
  Calls Tryz.prog 108 #[.pointer (some ⟨R,0,none⟩),tmVal t tk kk,.map (some b)] w fun e w'=>e=.returned (.bool (!cgB names c0&&alikeT t fm [] []))∧Kept (fun _=>False) w w':=by
 obtain⟨p,n,c,rfl⟩:=h1.slice
 obtain⟨pa,pn,pc,rfl⟩:=h2.slice
 obtain⟨fp,fn,fc,rfl⟩:=h3.slice
 obtain⟨fa,fq,fr0,rfl⟩:=h4.slice
 obtain⟨fmap,hc1,hc2⟩:=hc
 have HAL:=Ld (fun W (k:Kept (fun _=>False) w W)=>salike_any hb fm [] [] W ok okf (fun _=>False) (fun _=>False) _ _ _ _ (.slice none 0 0) (.slice none 0 0) (h1.frame (sK k)) (h2.frame (sK k)) (h3.frame (sK k)) (h4.frame (sK k)) NmL.nil NmL.nil (by simp only[List.length_nil];omega) (by simp only[List.length_nil];omega))
 unfold tmVal at HAL ⊢
 have B1:Hid (Blk (w.alloc (.cells #[.int .i64 t.op,.string t.name,.int .i64 t.n,.int .i64 t.ty.kind,.string t.ty.name,.slice p n c,.slice pa pn pc] 27)) w.heap.size 27 [Value.int .i64 t.op,.string t.name,.int .i64 t.n,.int .i64 t.ty.kind,.string t.ty.name,.slice p n c,.slice pa pn pc]∧Kept (fun _=>False) w (w.alloc (.cells #[.int .i64 t.op,.string t.name,.int .i64 t.n,.int .i64 t.ty.kind,.string t.ty.name,.slice p n c,.slice pa pn pc] 27))):=Ld ⟨Blk.new w 27 _,kR.alloc _⟩
 have Z1:Hid ((w.alloc (.cells #[.int .i64 t.op,.string t.name,.int .i64 t.n,.int .i64 t.ty.kind,.string t.ty.name,.slice p n c,.slice pa pn pc] 27)).heap.size=w.heap.size+1):=Ld (World.size_alloc _ _)
 have HR0:=Ld (hR.kept B1.out.2 (fun e=>e))
 have F1:=Ld (hF.kept B1.out.2 (fun e=>e))
 have M1:=Ld (hc1.kept B1.out.2 (fun e=>e))
 have HL:Hid (R<w.heap.size∧b<w.heap.size∧fB<w.heap.size):=Ld ⟨hR.lt,hc1.lt,hF.lt⟩
 have HC2:=Ld hc2
 clear h1 h2 h3 h4 hR hF hc1 hc2 hb hd
 go_enter Tryz.func108,Tryz.ntmps108
 go_upto_region 1 with (fail)
 generalize w.alloc (.cells #[.int .i64 t.op,.string t.name,.int .i64 t.n,.int .i64 t.ty.kind,.string t.ty.name,.slice p n c,.slice pa pn pc] 27)=w1 at *
 have g14:w1.cell? ⟨R,14,none⟩=some (.map (some fB)):=HR0.out.cell 14
 go_wp2_with (at_range;refine wpList_rangeF rfl _ _ 4 rfl u90 rfl F1.out ?_;intro w2 cn hRg k2 z2 hcn)
 have HRG:=Ld hRg
 rw[Z1.out] at HRG
 have B2:Hid (Blk w2 w.heap.size 27 [Value.int .i64 t.op,.string t.name,.int .i64 t.n,.int .i64 t.ty.kind,.string t.ty.name,.slice p n c,.slice pa pn pc]∧Kept (fun _=>False) w w2∧Blk w2 R 87 (rpCells fm tu (.slice fp fn fc) (.slice fa fq fr0) uk ukk fB tB cnt)∧MapF w2 b nb fmap):=Ld ⟨B1.out.1.kept k2 (fun e=>e),B1.out.2.trans k2,HR0.out.kept k2 (fun e=>e),M1.out.kept k2 (fun e=>e)⟩
 have e1:=Z1.out
 rw[e1]
 clear hRg k2 z2 hcn B1 F1 M1 HR0 e1 g14
 go_loopw [7] (fun _ wr=>∃ (cnt':Nat) (g:ByteArray→Bool),MapR wr fB (w.heap.size+1) nf (bagF (fun s=>mb s names)) g cnt'∧Hid (Blk wr w.heap.size 27 [Value.int .i64 t.op,.string t.name,.int .i64 t.n,.int .i64 t.ty.kind,.string t.ty.name,.slice p n c,.slice pa pn pc]∧Kept (fun _=>False) w wr∧Blk wr R 87 (rpCells fm tu (.slice fp fn fc) (.slice fa fq fr0) uk ukk fB tB cnt)∧MapF wr b nb fmap∧(∀ s,mb s names=true→g s=false→c0 s=0)∧(∀ s,g s=true→mb s names=true))) (fun _ wr=>wr.rangeLeft fB (w.heap.size+1))
 case atStart=>
  refine⟨cn,_,HRG.out,Ld ⟨B2.out.1,B2.out.2.1,B2.out.2.2.1,B2.out.2.2.2,fun s h1 h2=>?_,fun s h=>?_⟩⟩
  ·simp[bagF,h1] at h2
  ·unfold bagF at h
   cases hm:mb s names with
   | true=>rfl
   | false=>simp[hm] at h
 case round=>
  obtain⟨cnt',g,hRr,hq⟩:=hrel
  have HRR:=Ld hRr
  have HLF:=Ld hRr.left
  clear hRr HRG B2
  go_wp2_with (at_next;refine wpList_nextF rfl _ rfl rfl HRR.out ?_ ?_)
  ·intro h0
   have HCG:Hid (cgB names c0=false):=Ld (cgB_no (fun s hs=>hq.out.2.2.2.2.1 s hs (by
    cases hg:g s with
    | false=>rfl
    | true=>rw[h0 s (HRR.out.map.small (by simp[bagF,hs]))] at hg;cases hg)))
   clear h0
   go_upto_region 6 with (fail)
   have KD:Kept (fun _=>False) wr wr.drew:=kR.drew
   refine wp_region_mono (L:=Kept (fun _=>False)) (fun i v W=>match i with
    | 0=>v=.agg #[.slice none 0 0,.slice none 0 0]
    | 1=>v=.agg #[.int .i64 t.op,.string t.name,.int .i64 t.n,.int .i64 t.ty.kind,.string t.ty.name,.slice p n c,.slice pa pn pc]
    | 2=>v=.pointer (some ⟨R,0,none⟩)
    | 3=>v=.pointer (some ⟨R,0,none⟩)
    | 4=>v=.pointer (some ⟨R,0,none⟩)
    | 5=>v=.agg #[.int .i64 fm.op,.string fm.name,.int .i64 fm.n,.int .i64 fm.ty.kind,.string fm.ty.name,.slice fp fn fc,.slice fa fq fr0]
    | 6=>v=.bool (alikeT t fm [] [])
    | _=>True) [7] [] 28 (by kernel_rfl) rfl (by kernel_rfl) (by kernel_rfl) (fun w=>Kept.refl _ w) (fun _ _ _ h1 h2=>h1.trans h2) (fun c d v a w h=>by cases d <;> exact h) ?_ ?_
   ·refine allM_cons rfl (stepM_of [] rfl fun W k'=>allV_nil ?_) ?_
    ·refine opW_go rfl fun K hK=>?_
     go_simp
     exact hK _ _ (KT.mk kR rfl 21 rfl rfl)
    refine allM_cons rfl (stepM_of [] rfl fun W k'=>allV_nil ?_) ?_
    ·have q:=KD.trans k'
     have gA:=(hq.out.1.kept q (fun h=>h)).cell
     refine opW_go rfl fun K hK=>?_
     go_simp
     exact hK _ _ (KT.mk kR rfl 22 rfl rfl)
    refine allM_cons rfl (stepM_of [] rfl fun W k'=>allV_nil ?_) ?_
    ·refine opW_go rfl fun K hK=>?_
     go_simp
     exact hK _ _ (KT.mk kR rfl 23 rfl rfl)
    refine allM_cons rfl (stepM_of [2] rfl fun W k'=>allV_some 23 rfl fun v0 h0=>allV_nil ?_) ?_
    ·obtain⟨w1,k1,rfl⟩:=h0
     refine opW_go rfl fun K hK=>?_
     go_simp
     exact hK _ _ (KT.mk kR rfl 24 rfl rfl)
    refine allM_cons rfl (stepM_of [3] rfl fun W k'=>allV_some 24 rfl fun v0 h0=>allV_nil ?_) ?_
    ·obtain⟨w1,k1,rfl⟩:=h0
     refine opW_go rfl fun K hK=>?_
     go_simp
     exact hK _ _ (KT.mk kR rfl 25 rfl rfl)
    refine allM_cons rfl (stepM_of [4] rfl fun W k'=>allV_some 25 rfl fun v0 h0=>allV_nil ?_) ?_
    ·obtain⟨w1,k1,rfl⟩:=h0
     have q:=KD.trans k'
     have gF:∀ i,W.cell? ⟨R,i,none⟩=[Value.int .i64 fm.op,.string fm.name,.int .i64 fm.n,.int .i64 fm.ty.kind,.string fm.ty.name,.slice fp fn fc,.slice fa fq fr0,.int .i64 tu.op,.string tu.name,.int .i64 tu.n,.int .i64 tu.ty.kind,.string tu.ty.name,uk,ukk,.map (some fB),.map (some tB),.int .i64 cnt][i]?:=(hq.out.2.2.1.kept q (fun h=>h)).cell
     refine opW_go rfl fun K hK=>?_
     go_simp
     exact hK _ _ (KT.mk kR rfl 26 rfl rfl)
    refine allM_cons rfl (stepM_of [0,1,5] rfl fun W k'=>allV_some 21 rfl fun v0 h0=>allV_some 22 rfl fun v1 h1=>allV_some 26 rfl fun v2 h2=>allV_nil ?_) ?_
    ·obtain⟨w1,k1,rfl⟩:=h0
     obtain⟨w2,k2,rfl⟩:=h1
     obtain⟨w3,k3,rfl⟩:=h2
     refine opW_go rfl fun K hK=>?_
     go_simp
     go_at_call 57
     refine (HAL.out W (hq.out.2.1.trans (KD.trans k'))).mono ?_
     rintro e w' ⟨rfl,k4⟩
     exact hK _ _ (KT.mk k4 rfl 27 rfl rfl)
    refine allM_tail rfl ?_
    exact allM_nil
   ·intro W kW
    have hh:(List.range 8).filter (fun i=>!([7]:List Nat).contains i)=[0,1,2,3,4,5,6]:=by decide
    change allV _ _ _ _ _ ((List.range 8).filter (fun i=>!([7]:List Nat).contains i)) _
    rw[hh]
    refine allV_some 21 rfl fun v0 h0=>allV_some 22 rfl fun v1 h1=>allV_some 23 rfl fun v2 h2=>allV_some 24 rfl fun v3 h3=>allV_some 25 rfl fun v4 h4=>allV_some 26 rfl fun v5 h5=>allV_some 27 rfl fun v6 h6=>allV_nil ?_
    obtain⟨w0,k0,rfl⟩:=h0
    obtain⟨w1,k1,rfl⟩:=h1
    obtain⟨w2,k2,rfl⟩:=h2
    obtain⟨w3,k3,rfl⟩:=h3
    obtain⟨w4,k4,rfl⟩:=h4
    obtain⟨w5,k5,rfl⟩:=h5
    obtain⟨w6,k6,rfl⟩:=h6
    have K5:=Ld (hq.out.2.1.trans (KD.trans kW))
    clear hq KD kW hh
    show wpList Tryz.prog _ _ [_] _ W
    simp only[Act.put,List.setIfInBounds_toArray,List.set_cons_succ,List.set_cons_zero]
    go_wp2_with fail
    go_ret
    exact⟨by rw[HCG.out];rfl,K5.out⟩
  ·intro s v w3 cnt3 hs hg hfs hR3 hlt k3 zz3 hen
   have hv:v=.bool true:=by
    unfold bagF at hfs
    rw[if_pos (hq.out.2.2.2.2.2 s hg)] at hfs
    exact (Option.some.inj hfs).symm
   subst hv
   have hRb:=HL.out
   have Q3:Hid (Blk w3 w.heap.size 27 [Value.int .i64 t.op,.string t.name,.int .i64 t.n,.int .i64 t.ty.kind,.string t.ty.name,.slice p n c,.slice pa pn pc]∧Kept (fun _=>False) w w3∧Blk w3 R 87 (rpCells fm tu (.slice fp fn fc) (.slice fa fq fr0) uk ukk fB tB cnt)∧MapF w3 b nb fmap):=Ld ⟨hq.out.1.kept k3 (by show ¬ w.heap.size=w.heap.size+1;omega),hq.out.2.1.via1 k3 (fun q hq e=>by omega),hq.out.2.2.1.kept k3 (by show ¬ R=w.heap.size+1;omega),hq.out.2.2.2.1.kept k3 (by show ¬ b=w.heap.size+1;omega)⟩
   have hlk:=Q3.out.2.2.2.look u95 (z3 _) hs
   rw[HC2.out s] at hlk
   have HGS:=Ld (hq.out.2.2.2.2.2 s hg)
   have HQ5:=Ld hq.out.2.2.2.2
   have HR4:=Ld hR3
   clear hq hRb zz3 k3 hg hfs hs hR3 HRR
   by_cases hcs:0<c0 s
   case neg=>
    have hz:c0 s=0:=by omega
    have HZ:=Ld hz
    clear hz
    go_wp2_with fail
    go_roundw
    case rel=>exact⟨cnt3,_,HR4.out,Ld ⟨Q3.out.1,Q3.out.2.1,Q3.out.2.2.1,Q3.out.2.2.2,fun x h1 h2=>(by
     by_cases e:x=s
     ·rw[e];exact HZ.out
     ·simp[e] at h2;exact HQ5.out.1 x h1 h2),fun x h1=>(by
     rw[Bool.and_eq_true] at h1
     exact HQ5.out.2 x h1.1)⟩⟩
    case measure=>rw[HR4.out.left,HLF.out];exact hlt
   case pos=>
    have HCG:Hid (cgB names c0=true):=Ld (cgB_yes HGS.out hcs)
    go_wp2_with fail
    go_ret
    exact⟨by rw[HCG.out];rfl,Q3.out.2.1⟩
theorem cgB_upd (names:List ByteArray) (c:ByteArray→Nat) (nm:ByteArray):cgB names (fun t=>if t=nm then c nm+1 else c t)=(cgB names c||mb nm names):=by
 rw[Bool.eq_iff_iff,Bool.or_eq_true,mb_iff]
 unfold cgB
 rw[List.any_eq_true,List.any_eq_true]
 constructor
 ·rintro⟨s,h1,h2⟩
  have h3:0<(if s=nm then c nm+1 else c s):=of_decide_eq_true h2
  by_cases e:s=nm
  ·exact Or.inr (e ▸ h1)
  ·rw[if_neg e] at h3;exact Or.inl ⟨s,h1,decide_eq_true h3⟩
 ·rintro (⟨s,h1,h2⟩ | h)
  ·have h3:=of_decide_eq_true h2
   refine⟨s,h1,decide_eq_true (?_:0<(if s=nm then c nm+1 else c s))⟩
   split <;> omega
  ·refine⟨nm,h,decide_eq_true (?_:0<(if nm=nm then c nm+1 else c nm))⟩
   rw[if_pos rfl];omega
def OcsC (t:Tm):Prop:=∀ (fm tu:Tm) (names:List ByteArray) (c:ByteArray→Nat) (w:World) (ok okf:Nat→Prop) (tk kk fk fkk uk ukk:Value) (R fB tB b nf n:Nat) (cnt:Int),TyL ok w t.ty.kids tk→TmL ok w t.kids kk→TyL okf w fm.ty.kids fk→TmL okf w fm.kids fkk →
 Blk w R 87 (rpCells fm tu fk fkk uk ukk fB tB cnt)→MapF w fB nf (bagF (fun s=>mb s names))→(∃ f,MapF w b n f∧CntF f c)→b≠fB→b≠R→(∀ q,ok q→q≠b)→(∀ q,okf q→q≠b)→n+2*tmN t≤1000000000000→(∀ s,c s+tmD t≤900000) →
 Calls Tryz.prog 109 #[.pointer (some ⟨R,0,none⟩),tmVal t tk kk,.map (some b)] w fun e w'=>e=.returned (.bool (!cgB names c&&occT fm names t))∧Kept (fun q=>q=b) w w'∧∃ f,MapF w' b (n+2*tmN t) f∧CntF f c
structure OcsS (w:World) (ce:List Value) (b n:Nat) (c:ByteArray→Nat) (W:World):Prop where
 kp:Kept (fun q=>q=b) w W
 bo:∃ f,MapF W b n f∧CntF f c
 a:Blk W w.heap.size 27 ce
theorem OcsS.kept {w:World} {ce:List Value} {b n:Nat} {c:ByteArray→Nat} {W W':World} (h:OcsS w ce b n c W) (k:Kept (fun _=>False) W W'):OcsS w ce b n c W':=by
 obtain⟨h1,⟨f,h2,h3⟩,h5⟩:=h
 exact⟨h1.trans (k.mono (fun _ _ e=>e.elim)),⟨f,h2.kept k (fun e=>e),h3⟩,h5.kept k (fun e=>e)⟩
theorem OcsS.step {w:World} {ce:List Value} {b n n':Nat} {c c':ByteArray→Nat} {W W':World} (h:OcsS w ce b n c W) (hl:b<w.heap.size) (k:Kept (fun q=>q=b) W W') (hm:∃ f,MapF W' b n' f∧CntF f c'):OcsS w ce b n' c' W':=
 ⟨h.kp.trans k,hm,h.a.kept k (fun e=>by omega)⟩
theorem ocs_one {op:Int} {nm:ByteArray} {N:Int} {ty:Ty} {ks:List Tm} (hbd:BdTm (.mk op nm N ty ks)) (IH:∀ u,u∈ks→OcsC u) (hkn:ks.length≤1000000) (hnz:nm.size≤maxLen):OcsC (.mk op nm N ty ks):=by
 intro fm tu names c w ok okf tk kk fk fkk uk ukk R fB tB b nf n cnt h1 h2 h3 h4 hR hF hb hbf hbR hok hokf hn hc
 have h1:TyL ok w ty.kids tk:=h1
 have h2:TmL ok w ks kk:=h2
 obtain⟨a,an,ac,rfl⟩:=h1.slice
 obtain⟨ma,mn,mc,rfl⟩:=h2.slice
 change Calls Tryz.prog 109 #[.pointer (some ⟨R,0,none⟩),.agg #[.int .i64 op,.string nm,.int .i64 N,.int .i64 ty.kind,.string ty.name,.slice a an ac,.slice ma mn mc],.map (some b)] w _
 obtain rfl:mn=ks.length:=h2.len
 have K0:Kept (fun _=>False) w (w.alloc (.cells #[.int .i64 op,.string nm,.int .i64 N,.int .i64 ty.kind,.string ty.name,.slice a an ac,.slice ma ks.length mc] 27)):=kR.alloc _
 have S1:Hid (OcsS w [Value.int .i64 op,.string nm,.int .i64 N,.int .i64 ty.kind,.string ty.name,.slice a an ac,.slice ma ks.length mc] b n c (w.alloc (.cells #[.int .i64 op,.string nm,.int .i64 N,.int .i64 ty.kind,.string ty.name,.slice a an ac,.slice ma ks.length mc] 27))):=Ld (by
  obtain⟨f,hb1,hb2⟩:=hb
  exact⟨K0.mono (fun _ _ e=>e.elim),⟨f,hb1.kept K0 (fun e=>e),hb2⟩,Blk.new w 27 _⟩)
 have HAT:=Ld (fun W (k:Kept (fun q=>q=b) w W)=>(h2.frame (Same.of_kept k (fun q hq e=>hok q hq e))).at)
 have HFR:=Ld (fun W (k:Kept (fun q=>q=b) w W)=>(⟨h3.frame (Same.of_kept k (fun q hq e=>hokf q hq e)),h4.frame (Same.of_kept k (fun q hq e=>hokf q hq e)),hR.kept k (fun e=>hbR e.symm),hF.kept k (fun e=>hbf e.symm)⟩:TyL okf W fm.ty.kids fk∧TmL okf W fm.kids fkk∧Blk W R 87 (rpCells fm tu fk fkk uk ukk fB tB cnt)∧MapF W fB nf (bagF (fun s=>mb s names))))
 have hbl:b<w.heap.size:=by obtain⟨f,hb1,_⟩:=hb;exact hb1.lt
 have LB:=Ld hbl
 have HOK:=Ld hok
 have HOKF:=Ld hokf
 have HNE:=Ld (And.intro hbf hbR)
 have HIH:=Ld IH
 have HKN:=Ld hkn
 have HN0:Hid (n+2*tmNs ks+2≤n+2*tmN (.mk op nm N ty ks)):=Ld (by rw[tmN];omega)
 have HNB:=Ld hn
 have HNZ:=Ld hnz
 have HCB:Hid (∀ s,c s+tmDs ks+1≤900000):=Ld (fun s=>by have:=hc s;rw[tmD] at this;omega)
 have HHR:=Ld (fun W (kw:Kept (fun q=>q=b) w W) (hm:∃ f,MapF W b n f∧CntF f c)=>here_any (ok:=ok) (t:=.mk op nm N ty ks) hbd (by have:=hc nm;omega) (h1.frame (Same.of_kept kw (fun q hq e=>hok q hq e))) (h2.frame (Same.of_kept kw (fun q hq e=>hok q hq e))) (HFR.out W kw).1 (HFR.out W kw).2.1 (HFR.out W kw).2.2.1 (HFR.out W kw).2.2.2 hm)
 unfold tmVal at HHR
 obtain⟨rb,hrb⟩:∃ rb:Bool,rb=(!cgB names c&&occT fm names (.mk op nm N ty ks)):=⟨_,rfl⟩
 rw[← hrb]
 obtain⟨hr,hhr⟩:∃ hr:Bool,hr=(!cgB names c&&alikeT (.mk op nm N ty ks) fm [] []):=⟨_,rfl⟩
 rw[← hhr] at HHR
 have HRB:Hid (rb=(hr||(!cgB names c&&occK fm names (binderB op) nm 0 (ks.drop 0)))):=Ld (by
  rw[hrb,hhr,occT,List.drop_zero]
  cases cgB names c <;> rfl)
 clear h1 h2 h3 h4 hR hF hb hbf hbR hok hokf IH hkn hnz hbl K0 hn hc hrb hhr hbd
 change Hid (∀ W (kw:Kept (fun q=>q=b) w W) (hm:∃ f,MapF W b n f∧CntF f c),Calls Tryz.prog 108 #[.pointer (some ⟨R,0,none⟩),.agg #[.int .i64 op,.string nm,.int .i64 N,.int .i64 ty.kind,.string ty.name,.slice a an ac,.slice ma ks.length mc],.map (some b)] W fun e w'=>e=.returned (.bool hr)∧Kept (fun _=>False) W w') at HHR
 go_enter Tryz.func109,Tryz.ntmps109
 go_upto_region 1 with (fail)
 generalize w.alloc (.cells #[.int .i64 op,.string nm,.int .i64 N,.int .i64 ty.kind,.string ty.name,.slice a an ac,.slice ma ks.length mc] 27)=w1 at *
 have gA:=S1.out.a.cell
 have HC:=Ld (HHR.out w1 S1.out.kp S1.out.bo)
 clear HHR
 go_wp2_with fail
 refine HC.out.mono ?_
 rintro e w2 ⟨rfl,k2⟩
 have S2:=Ld (S1.out.kept k2)
 clear k2 HC S1 gA
 cases hr
 case true=>
  go_wp2_with fail
  go_ret
  obtain⟨f,hb1,hb2⟩:=S2.out.bo
  exact⟨by rw[HRB.out];rfl,S2.out.kp,f,hb1.mono (by omega),hb2⟩
 case false=>
  have gA:=S2.out.a.cell
  go_wp2_with fail
  go_loopw [18] (fun i wr=>∃ (k n':Nat),k≤ks.length∧i=.int .i64 k∧OcsS w [Value.int .i64 op,.string nm,.int .i64 N,.int .i64 ty.kind,.string ty.name,.slice a an ac,.slice ma ks.length mc] b n' c wr∧Hid (rb=(!cgB names c&&occK fm names (binderB op) nm k (ks.drop k)))∧Hid (n'+2*tmNs (ks.drop k)+(if k≤1 then 2 else 0)≤n+2*tmN (.mk op nm N ty ks))) (fun i _=>ks.length-(intOf i).toNat)
  case atStart=>exact⟨0,n,Nat.zero_le _,rfl,S2.out,Ld (by rw[HRB.out];rfl),Ld (by have:=HN0.out;simpa using this)⟩
  case round=>
   obtain⟨k,n',hkl,rfl,hS,hq,hn'⟩:=hrel
   have S:=Ld hS
   clear hS S2 gA HRB
   by_cases hlt:k<ks.length
   ·have i1:(k:Int)<(ks.length:Int):=by omega
    have i2:(k:Int)<1000000:=by have:=HKN.out;omega
    obtain⟨q1,o1,ta,tn,tc,pa,pn,pc,rfl,hq1,lq,hC,hkt,hkm⟩:=HAT.out wr S.out.kp k hlt
    obtain⟨c0,c1,c2,c3,c4,c5,c6⟩:=hC
    have KR:Kept (fun _=>False) wr (wr.alloc (.cells #[.int .i64 ks[k].op,.string ks[k].name,.int .i64 ks[k].n,.int .i64 ks[k].ty.kind,.string ks[k].ty.name,.slice ta tn tc,.slice pa pn pc] 27)):=kR.alloc _
    have S3:=Ld (S.out.kept KR)
    have bK:=Ld (Blk.new wr 27 [.int .i64 ks[k].op,.string ks[k].name,.int .i64 ks[k].n,.int .i64 ks[k].ty.kind,.string ks[k].ty.name,.slice ta tn tc,.slice pa pn pc])
    change Hid (Blk (wr.alloc (.cells #[.int .i64 ks[k].op,.string ks[k].name,.int .i64 ks[k].n,.int .i64 ks[k].ty.kind,.string ks[k].ty.name,.slice ta tn tc,.slice pa pn pc] 27)) _ _ _) at bK
    have HKT:=Ld (fun W (kw:Kept (fun q=>q=b) wr W)=>hkt.frame (Same.of_kept kw (fun q hq e=>HOK.out q hq e)))
    have HKM:=Ld (fun W (kw:Kept (fun q=>q=b) wr W)=>hkm.frame (Same.of_kept kw (fun q hq e=>HOK.out q hq e)))
    have KR2:Hid (Kept (fun q=>q=b) wr (wr.alloc (.cells #[.int .i64 ks[k].op,.string ks[k].name,.int .i64 ks[k].n,.int .i64 ks[k].ty.kind,.string ks[k].ty.name,.slice ta tn tc,.slice pa pn pc] 27))):=Ld (KR.mono (fun _ _ e=>e.elim))
    have LBR:Hid (b<wr.heap.size):=Ld (by have:=LB.out;have:=S.out.kp.size;omega)
    have HK1:=Ld (fun W ck kw nk hb hn hc=>HIH.out _ (List.getElem_mem hlt) fm tu names ck W ok okf _ _ fk fkk uk ukk R fB tB b nf nk cnt (HKT.out W kw) (HKM.out W kw) (HFR.out W (S.out.kp.trans kw)).1 (HFR.out W (S.out.kp.trans kw)).2.1 (HFR.out W (S.out.kp.trans kw)).2.2.1 (HFR.out W (S.out.kp.trans kw)).2.2.2 hb HNE.out.1 HNE.out.2 HOK.out HOKF.out hn hc)
    unfold tmVal at HK1
    have HDM:Hid (tmD ks[k]≤tmDs ks∧tmNs (ks.drop k)=tmN ks[k]+tmNs (ks.drop (k+1))∧1≤tmN ks[k]):=Ld ⟨kid_dn (List.getElem_mem hlt),by rw[List.drop_eq_getElem_cons hlt,tmNs],by cases ks[k] with | mk=>rw[tmN];omega⟩
    have HQ:Hid (rb=((!cgB names c&&(if binderB op&&k==1&&mb nm names then false else occT fm names ks[k]))||(!cgB names c&&occK fm names (binderB op) nm (k+1) (ks.drop (k+1))))):=Ld (by
     rw[hq.out,List.drop_eq_getElem_cons hlt,occK]
     cases cgB names c <;> rfl)
    clear hkt hkm KR hq
    generalize ks[k]=u at *
    go_upto_region 6 with (fail)
    clear c0 c1 c2 c3 c4 c5 c6
    have hwr:(wr.alloc (.cells #[.int .i64 u.op,.string u.name,.int .i64 u.n,.int .i64 u.ty.kind,.string u.ty.name,.slice ta tn tc,.slice pa pn pc] 27)).heap.size=wr.heap.size+1:=World.size_alloc _ _
    generalize wr.alloc (.cells #[.int .i64 u.op,.string u.name,.int .i64 u.n,.int .i64 u.ty.kind,.string u.ty.name,.slice ta tn tc,.slice pa pn pc] 27)=w3 at *
    have gA:=S3.out.a.cell
    go_cut [9] (fun v wc=>v=.bool (binderB op&&k==1)∧wc=w3)
    case first=>
     by_cases hk1:k=1
     ·have hk2:((k:Int)==1)=true:=by simp;omega
      have hk3:(k==1)=true:=by simp[hk1]
      clear hk1
      go_wp2_with fail
      refine (binder_any op _).mono ?_
      rintro e w3' ⟨rfl,rfl⟩
      cases hbo:binderB op
      all_goals
       go_wp2_with fail
       go_meet
       case rel=>exact⟨by rw[hk3,hbo];rfl,rfl⟩
     ·have hk2:((k:Int)==1)=false:=by simp;omega
      have hk3:(k==1)=false:=by simp[hk1]
      clear hk1
      go_wp2_with fail
      refine (binder_any op _).mono ?_
      rintro e w3' ⟨rfl,rfl⟩
      cases hbo:binderB op
      all_goals
       go_wp2_with fail
       go_meet
       case rel=>exact⟨by rw[hk3,hbo];rfl,rfl⟩
    case rest=>
     obtain⟨rfl,rfl⟩:=hcut
     have hq1':=HOK.out q1 hq1
     have HNM:Hid (n'+2*tmN u+(if k≤1 then 2 else 0)≤1000000000000∧(n'+2*tmN u+2*tmNs (ks.drop (k+1))+(if k≤1 then 2 else 0)≤n+2*tmN (.mk op nm N ty ks))):=Ld (by
      have h1:=hn'.out;have h3:=HDM.out.2.1;have h4:=HNB.out
      rw[h3] at h1
      omega)
     clear hq1' hn'
     cases hin:(binderB op&&k==1)
     ·have HQ2:Hid (rb=((!cgB names c&&occT fm names u)||(!cgB names c&&occK fm names (binderB op) nm (k+1) (ks.drop (k+1))))):=Ld (by rw[HQ.out,hin];rfl)
      have HC:=Ld (HK1.out wc c KR2.out n' S3.out.bo (by have:=HNM.out.1;omega) (fun s=>by have:=HCB.out s;have:=HDM.out.1;omega))
      clear HQ hin
      have gK:=bK.out.cell
      clear gA
      generalize (!cgB names c&&occT fm names u)=q0 at *
      go_wp2_with fail
      clear gK
      refine HC.out.mono ?_
      rintro e w5 ⟨rfl,k5,m5⟩
      have S5:=Ld (S3.out.step LB.out k5 m5)
      clear k5 m5 HC S3 S bK HK1 KR2
      cases q0
      ·go_wp2_with fail
       go_roundw
       case rel=>exact⟨k+1,_,by omega,by go_num,S5.out,Ld (by rw[HQ2.out];rfl),Ld (by have:=HNM.out.2;split <;> split at this <;> omega)⟩
       case measure=>simp[intOf];omega
      ·go_wp2_with fail
       go_ret
       obtain⟨f,hb1,hb2⟩:=S5.out.bo
       exact⟨by rw[HQ2.out];rfl,S5.out.kp,f,hb1.mono (by have:=HNM.out.2;omega),hb2⟩
     ·have hk1:k=1:=by
       rw[Bool.and_eq_true] at hin
       simpa using hin.2
      have HQ2:Hid (rb=((!cgB names (fun t=>if t=nm then c nm+1 else c t)&&occT fm names u)||(!cgB names c&&occK fm names (binderB op) nm (k+1) (ks.drop (k+1))))):=Ld (by rw[HQ.out,hin,cgB_upd];cases cgB names c <;> cases mb nm names <;> rfl)
      clear HQ hin
      obtain⟨f3,hb3,hf3⟩:=S3.out.bo
      have HF3:=Ld hf3
      have HNX:Hid (n'+2+2*tmN u+2*tmNs (ks.drop (k+1))≤n+2*tmN (.mk op nm N ty ks)∧n'+2+2*tmN u≤1000000000000):=Ld (by have h1:=HNM.out.2;have h2:=HNM.out.1;rw[if_pos (by omega)] at h1 h2;omega)
      have HK1E:=Ld hk1
      clear hk1
      have hlk:=hb3.look u95 (z3 _) HNZ.out
      rw[hf3 nm] at hlk
      have HW1:Hid (wrap64 ((c nm:Int)+1)=((c nm+1:Nat):Int)):=Ld (by have:=HCB.out nm;unfold wrap64;omega)
      have HB3:=Ld hb3
      have HLX:Hid (n'<maxLen∧n'+1+2*tmN u<maxLen):=Ld (by have:=HNX.out.2;unfold maxLen;omega)
      clear hf3 hb3
      go_upto_region 9 with (at_mapUpdate;refine wpList_storeF rfl _ _ _ _ 3 rfl u95 rfl HB3.out nm rfl HNZ.out HLX.out.1 (.int .i64 (wrap64 ((c nm:Int)+1))) rfl ?_;intro w4 hm4 k4)
      rw[HW1.out] at hm4
      have S4:=Ld (S3.out.step LB.out k4 ⟨_,hm4,HF3.out.upd nm (c nm+1)⟩)
      have bK4:=Ld (bK.out.kept k4 (fun e=>by have:=LBR.out;omega))
      have HC:=Ld (HK1.out w4 (fun t=>if t=nm then c nm+1 else c t) (KR2.out.trans k4) (n'+1) S4.out.bo (by have:=HNX.out.2;omega) (fun s=>by have h1:=HCB.out s;have h2:=HCB.out nm;have:=HDM.out.1;show (if s=nm then c nm+1 else c s)+_≤_;split <;> omega))
      have gK:=bK4.out.cell
      clear hm4 k4 hlk HW1 HB3 HF3 S3 gA bK
      generalize (!cgB names (fun t=>if t=nm then c nm+1 else c t)&&occT fm names u)=q0 at *
      go_wp2_with fail
      clear gK
      refine HC.out.mono ?_
      rintro e w5 ⟨rfl,k5,m5⟩
      have S5:=Ld (S4.out.step LB.out k5 m5)
      clear k5 m5 HC S4 S bK4 HK1 KR2
      obtain⟨f5,hb5,hf5⟩:=S5.out.bo
      have HF5:=Ld hf5
      have hlk:=hb5.look u95 (z3 _) HNZ.out
      rw[hf5 nm] at hlk
      simp only[if_true] at hlk
      have HW1:Hid (wrap64 (c nm:Int)=(c nm:Int)):=Ld (by have:=HCB.out nm;unfold wrap64;omega)
      have HB5:=Ld hb5
      have gA:=S5.out.a.cell
      clear hf5 hb5
      go_upto_region 12 with (at_mapUpdate;refine wpList_storeF rfl _ _ _ _ 3 rfl u95 rfl HB5.out nm rfl HNZ.out HLX.out.2 (.int .i64 (wrap64 (c nm:Int))) rfl ?_;intro w6 hm6 k6;clear gA hlk)
      rw[HW1.out] at hm6
      have S6:=Ld (S5.out.step LB.out k6 ⟨_,hm6,HF5.out.upd nm (c nm)⟩)
      have HCE:Hid ((fun t=>if t=nm then c nm else if t=nm then c nm+1 else c t)=c):=Ld (by funext t;by_cases ht:t=nm <;> simp[ht])
      rw[HCE.out] at S6
      clear hm6 k6 HW1 HB5 HF5 S5
      cases q0
      ·go_wp2_with fail
       go_roundw
       case rel=>exact⟨k+1,_,by omega,by go_num,S6.out,Ld (by rw[HQ2.out];rfl),Ld (by have:=HNX.out.1;have:=HK1E.out;rw[if_neg (by omega)];omega)⟩
       case measure=>simp[intOf];omega
      ·go_wp2_with fail
       go_ret
       obtain⟨f,hb1,hb2⟩:=S6.out.bo
       exact⟨by rw[HQ2.out];rfl,S6.out.kp,f,hb1.mono (by have:=HNX.out.1;omega),hb2⟩
   ·have hkk:k=ks.length:=by omega
    subst hkk
    have HEQ:Hid (rb=false):=Ld (by rw[hq.out,List.drop_length,occK,Bool.and_false])
    have gA:=S.out.a.cell
    go_wp2_with fail
    go_ret
    obtain⟨f,hb1,hb2⟩:=S.out.bo
    exact⟨by rw[HEQ.out];rfl,S.out.kp,f,hb1.mono (by have:=hn'.out;omega),hb2⟩
theorem ocs_any {t:Tm} (h:OkTm t):OcsC t:=by
 induction h with
 | mk hf hn hl ih=>exact ocs_one (ok_bd (.mk hf hn hl)) ih (by omega) (by have:=(formed_sm hf).1;unfold maxLen;omega)
mutual
theorem cnt_le (fm:Tm) (names:List ByteArray):∀ (t:Tm),cntT fm names t≤tmN t
 | .mk op nm N ty ks=>by
  rw[cntT,tmN]
  split
  ·omega
  ·have:=cntK_le fm names (binderB op) nm 0 ks;omega
theorem cntK_le (fm:Tm) (names:List ByteArray) (bi:Bool) (nm:ByteArray):∀ (i:Nat) (ks:List Tm),cntK fm names bi nm i ks≤tmNs ks
 | _,[]=>by rw[cntK];exact Nat.zero_le _
 | i,t::r=>by
  rw[cntK,tmNs]
  have h1:=cnt_le fm names t
  have h2:=cntK_le fm names bi nm (i+1) r
  split <;> omega
end
def wkT (fm tu:Tm) (f:Nat) (c:ByteArray→Nat) (t:Tm):Tm:=if cgB (fr fm) c then t else repF fm tu (fr fm) (fr tu) f t
def wkN (fm:Tm) (c:ByteArray→Nat) (t:Tm):Nat:=if cgB (fr fm) c then 0 else cntT fm (fr fm) t
def upC (c:ByteArray→Nat) (nm:ByteArray):ByteArray→Nat:=fun t=>if t=nm then c nm+1 else c t
theorem wkN_le (fm:Tm) (c:ByteArray→Nat) (t:Tm):wkN fm c t≤tmN t:=by
 unfold wkN
 split
 ·omega
 ·exact cnt_le _ _ _
section
variable {fm tu:Tm} {f:Nat} {c:ByteArray→Nat} {op:Int} {nm:ByteArray} {N:Int} {ty:Ty} {ks:List Tm}
theorem wk_hit (h:(!cgB (fr fm) c&&alikeT (.mk op nm N ty ks) fm [] [])=true):wkT fm tu (f+1) c (.mk op nm N ty ks)=tu∧wkN fm c (.mk op nm N ty ks)=1:=by
 rw[Bool.and_eq_true] at h
 unfold wkT wkN
 have h1:cgB (fr fm) c=false:=by simpa using h.1
 rw[h1,repF,cntT,if_pos h.2,if_pos h.2]
 exact⟨rfl,rfl⟩
theorem repK_map (g:Tm→Tm):∀ (i:Nat) (ks:List Tm),repK g false i ks=ks.map g
 | _,[]=>rfl
 | i,t::r=>by rw[repK,repK_map g (i+1) r];rfl
theorem wk_flat (hb:binderB op=false) (h:(!cgB (fr fm) c&&alikeT (.mk op nm N ty ks) fm [] [])=false):wkT fm tu (f+1) c (.mk op nm N ty ks)=.mk op nm N ty (ks.map (wkT fm tu f c))∧wkN fm c (.mk op nm N ty ks)=(ks.map (wkN fm c)).sum:=by
 unfold wkT wkN
 cases hc:cgB (fr fm) c
 ·rw[hc] at h
  have h2:alikeT (.mk op nm N ty ks) fm [] []=false:=by simpa using h
  refine⟨?_,?_⟩
  ·simp only[Bool.false_eq_true,if_false]
   rw[repF,if_neg (by rw[h2];exact Bool.false_ne_true),hb,if_neg Bool.false_ne_true,repK_map]
  ·simp only[Bool.false_eq_true,if_false]
   rw[cntT,if_neg (by rw[h2];exact Bool.false_ne_true),hb]
   have:∀ (i:Nat) (ks:List Tm),cntK fm (fr fm) false nm i ks=(ks.map (cntT fm (fr fm))).sum:=by
    intro i ks
    induction ks generalizing i with
    | nil=>rfl
    | cons t r ih=>rw[cntK,ih,List.map_cons,List.sum_cons];rfl
   exact this 0 ks
 ·refine⟨?_,?_⟩
  ·simp
  ·have h0:∀ ks:List Tm,(ks.map (fun _=>(0:Nat))).sum=0:=by
    intro ks
    induction ks with
    | nil=>rfl
    | cons t r ih=>rw[List.map_cons,List.sum_cons,ih]
   simp only[if_true]
   exact (h0 ks).symm
def gvB (fm tu:Tm) (c:ByteArray→Nat) (nm:ByteArray) (body:Tm):Bool:=mb nm (fr tu)&&(!cgB (fr fm) (upC c nm)&&occT fm (fr fm) body)
theorem wk_keep {d body:Tm} (hb:binderB op=true) (hbo:OkTm body) (h:(!cgB (fr fm) c&&alikeT (.mk op nm N ty [d,body]) fm [] [])=false) (hg:gvB fm tu c nm body=false):
  wkT fm tu (f+1) c (.mk op nm N ty [d,body])=.mk op nm N ty [wkT fm tu f c d,wkT fm tu f (upC c nm) body]∧wkN fm c (.mk op nm N ty [d,body])=wkN fm c d+wkN fm (upC c nm) body:=by
 have hu:cgB (fr fm) (upC c nm)=(cgB (fr fm) c||mb nm (fr fm)):=cgB_upd _ _ _
 unfold gvB at hg
 rw[hu] at hg
 unfold wkT wkN
 rw[hu]
 cases hc:cgB (fr fm) c
 ·rw[hc] at h hg
  have h2:alikeT (.mk op nm N ty [d,body]) fm [] []=false:=by simpa using h
  have hn:¬ alikeT (.mk op nm N ty [d,body]) fm [] []=true:=by rw[h2];exact Bool.false_ne_true
  rw[repF,if_neg hn,if_pos hb,cntT,if_neg hn,hb]
  cases hm:mb nm (fr fm)
  ·rw[hm] at hg
   have hg2:(mb nm (fr tu)&&occT fm (fr fm) body)=false:=by simpa using hg
   have ez:repZ fm (fr fm) (fr tu) nm body=nm:=by unfold repZ;rw[if_neg (by rw[hg2];exact Bool.false_ne_true)]
   have eb:repB fm (fr fm) (fr tu) nm body=body:=by unfold repB;rw[if_neg (by rw[hg2];exact Bool.false_ne_true)]
   refine⟨?_,?_⟩
   ·simp only[Bool.false_eq_true,if_false,Bool.or_self]
    show Tm.mk op (repZ fm (fr fm) (fr tu) nm body) N ty (repK _ false 0 [d,repB fm (fr fm) (fr tu) nm body])=_
    rw[ez,eb];rfl
   ·simp only[Bool.false_eq_true,if_false,Bool.or_self,cntK,hm]
    simp
  ·refine⟨?_,?_⟩
   ·simp only[if_true,Bool.false_eq_true,if_false,Bool.or_true]
    rfl
   ·simp only[Bool.false_eq_true,if_false,if_true,Bool.or_true,cntK,hm]
    simp
 ·exact⟨by simp,by simp⟩
theorem wk_new {d body:Tm} (hfm:NW fm) (hto:OkTm tu) (hTN:tmN tu≤100000) (hb:binderB op=true) (hbo:OkTm body) (hN:tmN body≤100000) (hid:identB nm=true) (h:(!cgB (fr fm) c&&alikeT (.mk op nm N ty [d,body]) fm [] [])=false) (hg:gvB fm tu c nm body=true):
  ∃ z body',z=freshS nm (fr body++fr tu)∧body'=subT freshS body [(nm,nameT z)]∧identB z=true∧OkTm body'∧tmN body'=tmN body∧tmD body'=tmD body ∧
  wkT fm tu (f+1) c (.mk op nm N ty [d,body])=.mk op z N ty [wkT fm tu f c d,wkT fm tu f (upC c z) body']∧wkN fm c (.mk op nm N ty [d,body])=wkN fm c d+wkN fm (upC c z) body':=by
 unfold gvB at hg
 rw[Bool.and_eq_true,Bool.and_eq_true] at hg
 obtain⟨hu,hcu,ho⟩:=hg
 have hcu:cgB (fr fm) (upC c nm)=false:=by simpa using hcu
 rw[show upC c nm=fun t=>if t=nm then c nm+1 else c t from rfl,cgB_upd,Bool.or_eq_false_iff] at hcu
 obtain⟨hc,hm⟩:=hcu
 have hul:(fr body++fr tu).length≤800000:=by
  rw[List.length_append]
  have:=frs_len body
  have:=frs_len tu
  omega
 have hz1:=freshS_ident hid hul
 have hz2:=freshS_good nm _ hul
 have ez:repZ fm (fr fm) (fr tu) nm body=freshS nm (fr body++fr tu):=by unfold repZ;rw[hu,ho];rfl
 have eb:repB fm (fr fm) (fr tu) nm body=subT freshS body [(nm,nameT (freshS nm (fr body++fr tu)))]:=by unfold repB;rw[hu,ho,ez];rfl
 refine⟨_,_,rfl,rfl,hz1,?_⟩
 generalize freshS nm (fr body++fr tu)=z at *
 rw[mb_app,Bool.or_eq_false_iff] at hz2
 have hzb:∀ s,s∈fr body→s≠nm→s≠z:=fun s hs _ e=>by rw[e] at hs;rw[(mb_iff _ _).2 hs] at hz2;cases hz2.1
 have hsz:=sub1_size hbo (ident_named hz1) hzb (by omega)
 have hso:=sub1_ok (nm:=nm) hbo (ident_named hz1) (by omega)
 have hre:=rename_body (nm:=nm) (z:=z) (body:=body) (by omega) hzb (envL [])
 rw[← envL_snoc,← envL_snoc] at hre
 have hzf:mb z (fr fm)=false:=by
  rw[← Bool.not_eq_true]
  intro e
  have:=occ_fr hfm body hbo.nw ho z ((mb_iff _ _).1 e)
  rw[(mb_iff _ _).2 this] at hz2;cases hz2.1
 have hX:∀ x:ByteArray,mb x (fr fm)=false→∀ s,s∈fr fm→s ∉ []++[x]:=fun x hx s hs e=>by
  rw[List.nil_append,List.mem_singleton] at e
  rw[e] at hs
  rw[(mb_iff _ _).2 hs] at hx;cases hx
 have hcz:cgB (fr fm) (upC c z)=false:=by
  rw[show upC c z=fun t=>if t=z then c z+1 else c t from rfl,cgB_upd,hc,hzf];rfl
 have h2:alikeT (.mk op nm N ty [d,body]) fm [] []=false:=by rw[hc] at h;simpa using h
 refine⟨hso,by omega,by omega,?_,?_⟩
 ·unfold wkT
  rw[hc,hcz]
  simp only[Bool.false_eq_true,if_false]
  rw[repF,if_neg (by rw[h2];exact Bool.false_ne_true),if_pos hb,hm,if_neg Bool.false_ne_true]
  show Tm.mk op (repZ fm (fr fm) (fr tu) nm body) N ty (repK _ false 0 [d,repB fm (fr fm) (fr tu) nm body])=_
  rw[ez,eb];rfl
 ·unfold wkN
  rw[hc,hcz]
  simp only[Bool.false_eq_true,if_false]
  rw[cntT,if_neg (by rw[h2];exact Bool.false_ne_true),hb]
  have e1:=cnt_db hfm body ([]++[nm]) hbo.nw (hX nm hm)
  have e2:=cnt_db hfm (subT freshS body [(nm,nameT z)]) ([]++[z]) hso.nw (hX z hzf)
  rw[hre] at e2
  have e3:cntT fm (fr fm) (subT freshS body [(nm,nameT z)])=cntT fm (fr fm) body:=by rw[e1,e2];rfl
  rw[e3]
  simp[cntK,hm]
end
def OkZ (t:Tm):Prop:=OkTm t∨t=tm0
def rpO (t fm tu:Tm):Tm:=repF fm tu (fr fm) (fr tu) (tmD t) t
def rplR (t fm tu:Tm):Tm×Nat×Int:=if validB t&&validB fm&&validB tu then (if validB (rpO t fm tu) then (rpO t fm tu,cntT fm (fr fm) t,0) else (tm0,0,5)) else (tm0,0,1)
section
variable {t fm tu:Tm} (ht:validB t=true) (hf:validB fm=true) (hu:validB tu=true)
include ht hf hu
theorem rpO_db:OkTm (rpO t fm tu)∧dbT (rpO t fm tu)=rpD (dbT fm) (dbT tu) (dbT t)∧cntT fm (fr fm) t=ctD (dbT fm) (dbT t):=
 rep_db (valid_ok hf).nw (valid_ok hu) (by have:=(valid_iff tu).1 hu;omega) (valid_ok ht) (by have:=(valid_iff t).1 ht;omega)
theorem rplR_of:rplR t fm tu=if validB (rpO t fm tu) then (rpO t fm tu,cntT fm (fr fm) t,0) else (tm0,0,5):=by
 unfold rplR;rw[ht,hf,hu];rfl
end
theorem rplR_bad {t fm tu:Tm} (h:(validB t&&validB fm&&validB tu)=false):rplR t fm tu=(tm0,0,1):=by
 unfold rplR;rw[h];rfl
theorem rplR_ok (t fm tu:Tm):OkZ (rplR t fm tu).1∧SmTm big (rplR t fm tu).1∧((rplR t fm tu).2.2=0→validB (rplR t fm tu).1=true)∧(rplR t fm tu).2.1≤2000:=by
 have h0:SmTm big tm0:=.mk (by decide) (.mk (by decide) (fun t h=>by cases h)) (fun t h=>by cases h)
 unfold rplR
 split
 ·rename_i h
  rw[Bool.and_eq_true,Bool.and_eq_true] at h
  have h1:=rpO_db h.1.1 h.1.2 h.2
  split
  ·rename_i h2
   exact⟨Or.inl h1.1,ok_smt h1.1,fun _=>h2,by have:=cnt_le fm (fr fm) t;have:=(valid_iff t).1 h.1.1;show cntT fm (fr fm) t≤2000;omega⟩
  ·exact⟨Or.inr rfl,h0,fun e=>by have e:((5:Int)=0):=e;omega,Nat.zero_le _⟩
 ·exact⟨Or.inr rfl,h0,fun e=>by have e:((1:Int)=0):=e;omega,Nat.zero_le _⟩
noncomputable def sg1 (s:ByteArray) (T:Db):ByteArray→Db:=fun v=>if v=s then T else .fv v
theorem sg1_ren (s:ByteArray) (T:Db):(fun v=>ren Nat.succ (sg1 s T v))=sg1 s (ren Nat.succ T):=by
 funext v
 unfold sg1
 by_cases h:v=s
 ·rw[if_pos h,if_pos h]
 ·rw[if_neg h,if_neg h];rfl
theorem rp_bd (s:ByteArray):∀ (d T:Db),rpD (.fv s) T d=bd (sg1 s T) d:=by
 intro d
 induction d using Db.rec (motive_2:=fun l=>∀ (bi:Bool) (T:Db) (i:Nat),rpDs bi (.fv s) T i l=bds bi (sg1 s T) i l) with
 | fv v=>
  intro T
  rw[rpD,bd]
  unfold sg1
  by_cases h:v=s
  ·subst h;rw[if_pos rfl,if_pos rfl]
  ·rw[if_neg (fun e=>h (Db.fv.inj e)),if_neg h]
 | bv i=>intro T;rw[rpD,bd,if_neg (fun e=>by cases e)]
 | nd op N ty l ih=>intro T;rw[rpD,bd,if_neg (fun e=>by cases e),ih]
 | nil=>rename_i bi T i;rfl
 | cons d l ihd ihl=>
  rename_i bi T i
  rw[rpDs,bds,ihl]
  congr 1
  cases hb:(bi&&i==1)
  ·simp only[Bool.false_eq_true,if_false];exact ihd T
  ·simp only[if_true]
   rw[sg1_ren]
   exact ihd _
theorem ct_fr (s:ByteArray):∀ (d:Db),0<ctD (.fv s) d↔s∈frD d:=by
 intro d
 induction d using Db.rec (motive_2:=fun l=>∀ (bi:Bool) (i:Nat),0<ctDs bi (.fv s) i l↔s∈frDs l) with
 | fv v=>
  rw[ctD,frD,List.mem_singleton]
  by_cases h:v=s
  ·subst h;rw[if_pos rfl];simp
  ·rw[if_neg (fun e=>h (Db.fv.inj e))]
   constructor
   ·intro e;omega
   ·intro e;exact absurd e.symm h
 | bv i=>rw[ctD,frD,if_neg (fun e=>by cases e)];simp
 | nd op N ty l ih=>rw[ctD,frD,if_neg (fun e=>by cases e)];exact ih _ _
 | nil=>rename_i bi i;rw[ctDs,frDs];simp
 | cons d l ihd ihl=>
  rename_i bi i
  rw[ctDs,frDs,List.mem_append,← ihl bi (i+1)]
  have e:ctD (if bi&&i==1 then ren Nat.succ (.fv s) else .fv s) d=ctD (.fv s) d:=by cases (bi&&i==1) <;> rfl
  rw[e,← ihd]
  omega
theorem fr_dbT {t:Tm} (ht:NW t) (x:ByteArray):x∈frD (dbT t)↔x∈fr t:=by
 unfold dbT
 rw[mem_fr_db t .fv x ht]
 constructor
 ·rintro⟨s,h1,h2⟩
  rw[frD,List.mem_singleton] at h2
  rw[h2];exact h1
 ·intro h;exact⟨x,h,by rw[frD];simp⟩
theorem nameT_valid {s:ByteArray} (h:namedB s=true):validB (nameT s)=true:=by
 rw[valid_iff]
 exact⟨nameT_ok h,by unfold nameT;simp[tmN,tmNs],by unfold nameT;simp[tmD,tmDs]⟩
theorem nameT_db {s:ByteArray}:dbT (nameT s)=.fv s:=rfl
theorem rn_plain {t tu:Tm} {s:ByteArray} (hs:namedB s=true):
  (rplR t (nameT s) tu).2.2=(sbstR t [(s,tu)]).2∧((rplR t (nameT s) tu).2.2≠0→(rplR t (nameT s) tu).2.1=0) ∧
  ((rplR t (nameT s) tu).2.2=0→validB t=true∧validB (rplR t (nameT s) tu).1=true∧alB (rplR t (nameT s) tu).1 (sbstR t [(s,tu)]).1=true∧decide (0<(rplR t (nameT s) tu).2.1)=mb s (fr t)):=by
 have hn:=nameT_valid hs
 cases hv:(validB t&&validB tu)
 ·have e1:rplR t (nameT s) tu=(tm0,0,1):=rplR_bad (by
   rw[hn,Bool.and_true];exact hv)
  have e2:sbstR t [(s,tu)]=(tm0,1):=by
   unfold sbstR
   have h:([(s,tu)]:List (ByteArray×Tm)).all vB=validB tu:=by
    rw[List.all_cons,List.all_nil,Bool.and_true];rfl
   rw[h,hv];rfl
  rw[e1,e2]
  exact⟨rfl,fun _=>rfl,fun e=>by have e:((1:Int)=0):=e;omega⟩
 ·rw[Bool.and_eq_true] at hv
  obtain⟨ht,hu⟩:=hv
  have h1:=(valid_iff t).1 ht
  have h2:=(valid_iff tu).1 hu
  obtain⟨a1,a2,a3⟩:=rpO_db ht hn hu
  have g1:=rplR_of ht hn hu
  have g2:=sbst_one (x:=s) ht hu
  have f1:(frB [(s,tu)]).length≤2000:=by
   have:=frs_len tu
   rw[frB,frB,List.append_nil];show (fr tu).length≤2000;omega
  have o1:OkB [(s,tu)]:=fun b hb=>by rw[List.mem_singleton.1 hb];exact h2.1
  have s1:=sub_ok h1.1 _ o1 (by omega)
  have hd:dbT (rpO t (nameT s) tu)=dbT (subT freshS t [(s,tu)]):=by
   rw[a2,nameT_db,rp_bd,sub_db (v:=t) (by omega)]
   congr 1
   funext v
   unfold sg1 evB
   have e1:look [(s,tu)] v=if s=v then some tu else look [] v:=rfl
   rw[e1]
   by_cases h:v=s
   ·rw[if_pos h,if_pos h.symm];rfl
   ·rw[if_neg h,if_neg (fun e=>h e.symm)];rfl
  have hvv:=valid_db a1 s1 hd
  have hcn:decide (0<cntT (nameT s) (fr (nameT s)) t)=mb s (fr t):=by
   rw[Bool.eq_iff_iff,decide_eq_true_iff,a3,nameT_db,ct_fr,fr_dbT h1.1.nw,mb_iff]
  cases h:validB (rpO t (nameT s) tu) with
  | false=>
   rw[h] at hvv g1
   rw[← hvv] at g2
   rw[if_neg Bool.false_ne_true] at g1 g2
   rw[g1,g2]
   exact⟨rfl,fun _=>rfl,fun e=>by have e:((5:Int)=0):=e;omega⟩
  | true=>
   rw[h] at hvv g1
   rw[← hvv] at g2
   rw[if_pos rfl] at g1 g2
   rw[g1,g2]
   exact⟨rfl,fun e=>absurd rfl e,fun _=>⟨ht,h,(alB_iff h hvv.symm).2 hd,hcn⟩⟩
theorem look_nil {l:List (ByteArray×Tm)} (h:∀ s,look l s=none):l=[]:=by
 cases l with
 | nil=>rfl
 | cons b l=>have:=h b.1;rw[look,if_pos rfl] at this;cases this
theorem subK_id {FS:ByteArray→List ByteArray→ByteArray} {bi:Bool} {l inn:List (ByteArray×Tm)}:∀ (ks:List Tm) (i:Nat),(∀ (j:Nat) (t:Tm),ks[j]?=some t→subT FS t (if bi&&(i+j)==1 then inn else l)=t)→subK FS bi l inn i ks=ks
 | [],_,_=>rfl
 | t::r,i,h=>by
  rw[subK]
  have h0:=h 0 t rfl
  rw[Nat.add_zero] at h0
  rw[h0,subK_id r (i+1) (fun j u hj=>by
   have:=h (j+1) u (by rw[List.getElem?_cons_succ];exact hj)
   rw[show i+(j+1)=i+1+j by omega] at this
   exact this)]
theorem frs_flat {nm:ByteArray} {s:ByteArray}:∀ {ks:List Tm} {i:Nat} {u:Tm},u∈ks→s∈fr u→s∈frs false nm i ks
 | t::r,i,u,h,hs=>by
  rw[frs,List.mem_append]
  rcases List.mem_cons.1 h with rfl | h
  ·left;simpa using hs
  ·right;exact frs_flat h hs
theorem sub_none {FS:ByteArray→List ByteArray→ByteArray} {t:Tm} (ht:OkTm t):∀ (l:List (ByteArray×Tm)),(∀ s,s∈fr t→look l s=none)→subT FS t l=t:=by
 induction ht with
 | mk hf hn hl ih=>
  rename_i op nm N ty ks
  intro l h
  rw[subT]
  by_cases h20:op=20
  ·rw[if_pos h20,h nm (by rw[fr,if_pos h20];simp)]
  ·rw[if_neg h20]
   cases hb:binderB op with
   | false=>
    rw[if_neg Bool.false_ne_true,subK_id ks 0 (fun j u hj=>?_)]
    have hu:=List.mem_of_getElem? hj
    refine ih u hu l (fun s hs=>h s ?_)
    rw[fr,if_neg h20,hb]
    exact frs_flat hu hs
   | true=>
    rw[if_pos rfl]
    have h2:=binder_kids hb (formed_parts hf).1
    match ks,h2 with
    | [d,y],_=>
     show Tm.mk op (newN FS nm y l) N ty (subK FS true l (inner FS nm y l) 0 [d,y])=_
     have hfr:∀ s,s∈fr (Tm.mk op nm N ty [d,y])↔s∈fr d∨(s∈fr y∧s≠nm):=fun s=>by
      rw[fr,if_neg h20,hb]
      simp[frs]
     have hr:remL l nm (fr y)=[]:=look_nil (fun s=>by
      rw[remL_look]
      by_cases e:s=nm∨mb s (fr y)=false
      ·rw[if_pos e]
      ·rw[if_neg e]
       have e1:s≠nm:=fun x=>e (Or.inl x)
       have e2:mb s (fr y)=true:=by rw[← Bool.not_eq_false];exact fun x=>e (Or.inr x)
       exact h s ((hfr s).2 (Or.inr ⟨(mb_iff _ _).1 e2,e1⟩)))
     have h0:mb nm (frB ([]:List (ByteArray×Tm)))=false:=rfl
     have hz:newN FS nm y l=nm:=by unfold newN;rw[hr,h0];rfl
     have hi:inner FS nm y l=[]:=by unfold inner;rw[hr,h0];rfl
     rw[hz,hi]
     congr 1
     rw[subK,subK,subK]
     have g1:=ih d (by simp) l (fun s hs=>h s ((hfr s).2 (Or.inl hs)))
     have g2:=ih y (by simp) [] (fun s _=>rfl)
     show [subT FS d l,subT FS y []]=[d,y]
     rw[g1,g2]
theorem fr_sub {t:Tm} {l:List (ByteArray×Tm)} (ht:validB t=true) (hl:l.all vB=true) (hn:l.length≤300) (x:ByteArray):
  x∈fr (subT freshS t l)↔∃ s,s∈fr t∧(match look l s with | some u=>x∈fr u | none=>x=s):=by
 have h1:=(valid_iff t).1 ht
 have f1:=frB_le hl
 have s1:=sub_ok h1.1 l (vb_okB hl) (by omega)
 have e:=ev_sub freshS_FS t l .fv (by omega)
 have key:∀ {u:Tm},OkTm u→(x∈frD (ev .fv u)↔x∈fr u):=fun hu=>by
  rw[mem_fr_db _ .fv x hu.nw]
  constructor
  ·rintro⟨s,h1,h2⟩
   rw[frD,List.mem_singleton] at h2
   rw[h2];exact h1
  ·intro h;exact⟨x,h,by rw[frD];simp⟩
 have hlk:∀ {l:List (ByteArray×Tm)},OkB l→∀ {s:ByteArray} {u:Tm},look l s=some u→OkTm u:=by
  intro l
  induction l with
  | nil=>intro _ s u h;cases h
  | cons b l ih=>
   intro ho s u h
   rw[look] at h
   by_cases e:b.1=s
   ·rw[if_pos e] at h;rw[← Option.some.inj h];exact ho b (by simp)
   ·rw[if_neg e] at h;exact ih (fun b hb=>ho b (List.mem_cons_of_mem _ hb)) h
 rw[← key s1,e,mem_fr_db t _ x h1.1.nw]
 constructor
 ·rintro⟨s,a,b⟩
  refine⟨s,a,?_⟩
  unfold evB at b
  cases h:look l s with
  | none=>rw[h] at b;simp only at b ⊢;rw[frD,List.mem_singleton] at b;exact b
  | some u=>rw[h] at b;simp only at b ⊢;exact (key (hlk (vb_okB hl) h)).1 b
 ·rintro⟨s,a,b⟩
  refine⟨s,a,?_⟩
  unfold evB
  cases h:look l s with
  | none=>rw[h] at b;simp only at b ⊢;rw[frD,List.mem_singleton];exact b
  | some u=>rw[h] at b;simp only at b ⊢;exact (key (hlk (vb_okB hl) h)).2 b
theorem bnl_one' {W:World} {g:Nat} {nm:ByteArray} {u:Tm} {tk kk:Value} {ok:Nat→Prop} (hb:Blk W g 38 (bCells ((nm,u),tk,kk))) (h1:TyL ok W u.ty.kids tk) (h2:TmL ok W u.kids kk):BnL (fun _=>True) W [(nm,u)] (.slice (some ⟨g,0,none⟩) 1 1):=by
 have h:W.ownsRow 0 38 8 (.slice (some ⟨g,0,none⟩) 1 1) 1 (flatB [((nm,u),tk,kk)]):=⟨rfl,.inr ⟨g,1,_,rfl,Nat.zero_le _,hb,by omega,by unfold maxLen;omega,rfl,rfl⟩⟩
 exact bnl_of_row (E:=[((nm,u),tk,kk)]) h (fun e he=>by rw[List.mem_singleton.1 he];exact⟨h1.mono (fun _ _ _=>trivial),h2.mono (fun _ _ _=>trivial)⟩) (fun _ _=>trivial)
theorem sbst1_any {t u:Tm} {nm:ByteArray} {tk kk tk' kk':Value} {ok ok':Nat→Prop} {W:World} {g:Nat} (hnm:nm.size≤maxLen) (h1:TyL ok W t.ty.kids tk) (h2:TmL ok W t.kids kk) (ht:SmTm big t) (hb:Blk W g 38 (bCells ((nm,u),tk',kk'))) (h3:TyL ok' W u.ty.kids tk') (h4:TmL ok' W u.kids kk') (hu:SmTm big u) (hp:P10 W):
  Calls Tryz.prog 18 #[tmVal t tk kk,.slice (some ⟨g,0,none⟩) 1 1] W (TmB W.heap.size (sbstR t [(nm,u)]) W):=
 subst_any h1 h2 ht (bnl_one' hb h3 h4) (fun b hb=>by rw[List.mem_singleton.1 hb];exact hu) (fun b hb=>by rw[List.mem_singleton.1 hb];exact hnm) (by show 1≤200;decide) hp
abbrev xN:ByteArray:=⟨#[120]⟩
abbrev yN:ByteArray:=⟨#[121]⟩
theorem tm0_sm:SmTm big tm0:=.mk (by decide) (.mk (by decide) (fun t h=>by cases h)) (fun t h=>by cases h)
theorem sbst_parts {t u s:Tm} {x:ByteArray} {e:Int} (ht:validB t=true) (hu:validB u=true) (h:sbstR t [(x,u)]=(s,e)):SmTm big s∧(e=0∨e=5)∧(e=0→s=subT freshS t [(x,u)]∧validB (subT freshS t [(x,u)])=true)∧(validB (subT freshS t [(x,u)])=decide (e=0)):=by
 rw[sbst_one ht hu] at h
 cases hv:validB (subT freshS t [(x,u)])
 ·rw[hv] at h
  simp only[Bool.false_eq_true,if_false] at h
  cases h
  exact⟨tm0_sm,Or.inr rfl,fun e=>absurd e (by decide),rfl⟩
 ·rw[hv] at h
  simp only[if_true] at h
  cases h
  exact⟨ok_smt (valid_ok hv),Or.inl rfl,fun _=>⟨rfl,rfl⟩,rfl⟩
theorem sbst_sm (t u:Tm) (x:ByteArray):SmTm big (sbstR t [(x,u)]).1:=by
 unfold sbstR
 split
 ·unfold ltdR
  split
  ·rename_i h;exact ok_smt (valid_ok h)
  ·exact tm0_sm
 ·exact tm0_sm
theorem tw_all {t u v s1 s2 s3:Tm} {e1 e2 e3:Int} {x y:ByteArray} (hxy:x≠y) (ht:validB t=true) (hu:validB u=true) (hv:validB v=true) (hx:mb x (fr v)=false)
  (h1:sbstR t [(x,u)]=(s1,e1)) (h2:sbstR t [(y,v)]=(s2,e2)) (h3:sbstR u [(y,v)]=(s3,e3)) (z1:e1=0) (z2:e2=0) (z3:e3=0):
  ∀ s4 e4 s5 e5,sbstR s1 [(y,v)]=(s4,e4)→sbstR s2 [(x,s3)]=(s5,e5)→SmTm big s4∧SmTm big s5∧e5=e4∧(e4=0∨e4=5)∧(e4=0→alB s4 s5=true):=by
 obtain⟨rfl,q1⟩:=(sbst_parts ht hu h1).2.2.1 z1
 obtain⟨rfl,q2⟩:=(sbst_parts ht hv h2).2.2.1 z2
 obtain⟨rfl,q3⟩:=(sbst_parts hu hv h3).2.2.1 z3
 intro s4 e4 s5 e5 h4 h5
 have p4:=sbst_parts q1 hv h4
 have p5:=sbst_parts q2 q3 h5
 obtain⟨p,q⟩:=tw_plain hxy ht hu hv hx q1 q2 q3
 rw[p4.2.2.2,p5.2.2.2] at p
 refine⟨p4.1,p5.1,?_,p4.2.1,fun z=>?_⟩
 ·rcases p4.2.1 with rfl | rfl <;> rcases p5.2.1 with rfl | rfl <;> first | rfl | (simp at p)
 ·obtain⟨rfl,q4⟩:=p4.2.2.1 z
  have z5:e5=0:=by
   rcases p5.2.1 with r | r
   ·exact r
   ·simp[z,r] at p
  obtain⟨rfl,q5⟩:=p5.2.2.1 z5
  exact q q4
end Go.Proofs.YtdmebjbkccjhbaaGreatDoor
