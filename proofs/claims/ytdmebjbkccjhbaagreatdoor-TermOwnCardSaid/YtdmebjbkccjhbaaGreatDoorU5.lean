/- A part. -/
import Derived.Test.YtdmebjbkccjhbaaGreatDoorU4
import Derived.Recover
import Derived.Lib.BufferMore
import Derived.Deep.RegionHeld3
import Derived.IntWalk
set_option linter.unusedVariables false
set_option linter.unusedSimpArgs false
set_option maxRecDepth 100000
set_option maxHeartbeats 32000000
namespace Go.Proofs.YtdmebjbkccjhbaaGreatDoor
open Go.RowKit
variable {bz:Nat}
theorem rd_idle (A E:Nat) (w:World):
  CallsD Tryz.prog 116 #[.pointer (some ⟨A,0,none⟩),.pointer (some ⟨E,0,none⟩)] .returning w fun e u' w'=>e=.returned (.tuple #[])∧u'=.returning∧w'=w:=by
 refine callsD_of_wpS Tryz.func116 rfl fun c₀ cs hu=>?_
 simp only[Tryz.ntmps116,List.size_toArray,List.length_cons,List.length_nil,Nat.reduceAdd,Nat.reduceSub,Array.replicate_succ,
   Array.replicate_zero,List.push_toArray,List.append_toArray,List.nil_append,List.cons_append]
 apply wpS_seq
 apply wpS_region
 simp[wpOpsS,go_sem,recoverD,hu,Exit.thenS]
 refine wpS_of_wp ?_
 go_wp2_with fail
 simp only[bodyPostS]
 cases c₀
 exact⟨trivial,_,by simp_all,_,results_none rfl _ _ _,rfl,rfl,trivial⟩
inductive SmTy (N:Nat):Ty→Prop
 | mk {k:Int} {n:ByteArray} {l:List Ty} (hn:n.size≤N) (hl:∀ t,t∈l→SmTy N t):SmTy N (.mk k n l)
inductive SmTm (N:Nat):Tm→Prop
 | mk {o:Int} {n:ByteArray} {i:Int} {t:Ty} {l:List Tm} (hn:n.size≤N) (ht:SmTy N t) (hl:∀ k,k∈l→SmTm N k):SmTm N (.mk o n i t l)
theorem SmTm.name {N:Nat} {t:Tm} (h:SmTm N t):t.name.size≤N:=by cases h;assumption
theorem SmTm.kids {N:Nat} {t:Tm} (h:SmTm N t):∀ k,k∈t.kids→SmTm N k:=by cases h;assumption
theorem SmTm.ty {N:Nat} {t:Tm} (h:SmTm N t):SmTy N t.ty:=by cases h;assumption
theorem SmTy.name {N:Nat} {t:Ty} (h:SmTy N t):t.name.size≤N:=by cases h;assumption
theorem SmTy.kids {N:Nat} {t:Ty} (h:SmTy N t):∀ k,k∈t.kids→SmTy N k:=by cases h;assumption
theorem sm_ty0 (N:Nat):SmTy N ty0:=.mk (Nat.zero_le _) (fun t h=>by cases h)
theorem sm_nd {N:Nat} {op:Int} {l:List Tm} (hl:∀ k,k∈l→SmTm N k):SmTm N (nd op l):=.mk (Nat.zero_le _) (sm_ty0 N) hl
theorem all1 {α:Type} {P:α→Prop} {x:α} (h:P x):∀ k,k∈[x]→P k:=by intro k hk;cases List.mem_singleton.1 hk;exact h
theorem all2 {α:Type} {P:α→Prop} {x y:α} (h:P x) (h':P y):∀ k,k∈[x,y]→P k:=by
 intro k hk;simp only[List.mem_cons,List.not_mem_nil,or_false] at hk;rcases hk with rfl | rfl <;> assumption
structure Ext (s s':ByteArray):Prop where
 lt:s.size<s'.size
 get:∀ (p:Nat) (h:p<s.size) (h':p<s'.size),s'[p]=s[p]
 sep:s'[s.size]'lt=32
 pre:∃ m,s'.data.toList=s.data.toList++(32::m)
theorem Ext.scan {s s':ByteArray} (h:Ext s s') {P:Int→Bool} (hP:P 32=false) (p:Nat) (hp:p≤s.size):scan P s' p=scan P s p:=by
 generalize hn:s.size-p=n
 induction n generalizing p with
 | zero=>
  have:p=s.size:=by omega
  subst this
  rw[scan_end P s _ (Nat.le_refl _),scan_no P s' _ h.lt (by rw[h.sep];exact hP)]
 | succ n ih=>
  have h1:p<s.size:=by omega
  have h2:p<s'.size:=Nat.lt_trans h1 h.lt
  have e:=h.get p h1 h2
  cases hc:P s[p].toNat
  ·rw[scan_no P s p h1 hc,scan_no P s' p h2 (by rw[e];exact hc)]
  ·rw[scan_yes P s p h1 hc,scan_yes P s' p h2 (by rw[e];exact hc),ih (p+1) (by omega) (by omega)]
theorem Ext.wend {s s':ByteArray} (h:Ext s s') (p:Nat) (hp:p≤s.size):wend s' p=wend s p:=h.scan (by decide) p hp
theorem Ext.skip {s s':ByteArray} (h:Ext s s') (p:Nat) (hp:p≤s.size) (hs:skip s p<s.size):skip s' p=skip s p:=by
 generalize hn:s.size-p=n
 induction n generalizing p with
 | zero=>
  have:p=s.size:=by omega
  subst this
  unfold Go.Proofs.YtdmebjbkccjhbaaGreatDoor.skip at hs
  rw[scan_end _ s _ (Nat.le_refl _)] at hs;omega
 | succ n ih=>
  have h1:p<s.size:=by omega
  have h2:p<s'.size:=Nat.lt_trans h1 h.lt
  have e:=h.get p h1 h2
  unfold Go.Proofs.YtdmebjbkccjhbaaGreatDoor.skip at *
  cases hc:blankB s[p].toNat
  ·rw[scan_no blankB s p h1 hc,scan_no blankB s' p h2 (by rw[e];exact hc)]
  ·rw[scan_yes blankB s p h1 hc] at hs
   rw[scan_yes blankB s p h1 hc,scan_yes blankB s' p h2 (by rw[e];exact hc),ih (p+1) (by omega) hs (by omega)]
theorem ba_ext {a b:ByteArray} (h:a.data.toList=b.data.toList):a=b:=by
 obtain⟨⟨a⟩⟩:=a;obtain⟨⟨b⟩⟩:=b;simp at h;subst h;rfl
theorem ext_list (s:ByteArray) (a c:Nat):(s.extract a c).data.toList=(s.data.toList.take c).drop a:=by
 rw[ByteArray.data_extract];simp[List.extract_eq_take_drop,List.take_drop]
 by_cases h:a≤c
 ·rw[show a+(c-a)=c by omega]
 ·rw[show a+(c-a)=a by omega,List.drop_eq_nil_of_le (by simp;omega),List.drop_eq_nil_of_le (by simp;omega)]
theorem Ext.extract {s s':ByteArray} (h:Ext s s') (a c:Nat) (hc:c≤s.size):s'.extract a c=s.extract a c:=by
 obtain⟨m,hm⟩:=h.pre
 apply ba_ext
 rw[ext_list,ext_list,hm,List.take_append_of_le_length (by simpa using hc)]
theorem pre_ext (l m x:List UInt8) (hx:32 ∉ x):Lib.hasPrefix (l++(32::m)) x=Lib.hasPrefix l x:=by
 unfold Lib.hasPrefix
 induction x generalizing l with
 | nil=>cases l <;> rfl
 | cons c x ih=>
  cases l with
  | nil=>
   have:(c==32)=false:=beq_false_of_ne (fun e=>hx (by simp[e]))
   show ((c==32)&&x.isPrefixOf m)=false
   rw[this];rfl
  | cons d l=>
   have:=ih l (fun h=>hx (List.mem_cons_of_mem _ h))
   show ((c==d)&&x.isPrefixOf (l++32::m))=((c==d)&&x.isPrefixOf l)
   rw[this]
theorem signs_no:∀ x∈signs,(32:UInt8) ∉ x.data.toList:=by decide
theorem sIdx_ext (l m:List UInt8) (xs:List ByteArray) (hx:∀ x∈xs,(32:UInt8) ∉ x.data.toList):sIdx (l++(32::m)) xs=sIdx l xs:=by
 unfold sIdx
 have:xs.findIdx? (fun x=>Lib.hasPrefix (l++(32::m)) x.data.toList)=xs.findIdx? (fun x=>Lib.hasPrefix l x.data.toList):=by
  induction xs with
  | nil=>rfl
  | cons x xs ih=>
   rw[List.findIdx?_cons,List.findIdx?_cons,pre_ext l m _ (hx x (by simp)),ih (fun y hy=>hx y (by simp[hy]))]
 rw[this]
theorem Ext.sIdx {s s':ByteArray} (h:Ext s s') (fr:Nat) (hf:fr≤s.size):sIdx (s'.data.toList.drop fr) signs=sIdx (s.data.toList.drop fr) signs:=by
 obtain⟨m,hm⟩:=h.pre
 rw[hm,List.drop_append_of_le_length (by simpa using hf)]
 exact sIdx_ext _ _ _ signs_no
theorem Ext.wordTo {s s':ByteArray} (h:Ext s s') (fr:Nat) (hf:fr≤s.size):wordTo s' fr=wordTo s fr:=by
 have hw:=h.wend fr hf
 have hl:=(scan_spec inWordB s fr hf).2.1
 unfold Go.Proofs.YtdmebjbkccjhbaaGreatDoor.wordTo
 rw[hw,h.extract fr (Go.Proofs.YtdmebjbkccjhbaaGreatDoor.wend s fr) hl]
 split
 ·rfl
 ·have h2:Go.Proofs.YtdmebjbkccjhbaaGreatDoor.wend s fr<s'.size:=Nat.lt_of_le_of_lt hl h.lt
  rw[dif_pos h2]
  by_cases hc:Go.Proofs.YtdmebjbkccjhbaaGreatDoor.wend s fr<s.size
  ·rw[dif_pos hc,h.get _ hc h2]
  ·rw[dif_neg hc]
   have e:∀ (r:Nat) (hr:r<s'.size),r=s.size→s'[r].toNat≠39:=by
    intro r hr e;subst e;rw[h.sep];decide
   rw[if_neg (e _ h2 (Nat.le_antisymm hl (Nat.le_of_not_lt hc)))]
theorem Ext.tokAt {s s':ByteArray} (h:Ext s s') (fr:Nat) (hf:fr<s.size):tokAt s' fr=tokAt s fr:=by
 have h2:fr<s'.size:=Nat.lt_trans hf h.lt
 unfold Go.Proofs.YtdmebjbkccjhbaaGreatDoor.tokAt
 rw[dif_pos hf,dif_pos h2,h.get fr hf h2,h.wend fr (by omega),h.wordTo fr (by omega),h.sIdx fr (by omega),h.extract fr (Go.Proofs.YtdmebjbkccjhbaaGreatDoor.wend s fr) (scan_spec inWordB s fr (by omega)).2.1,h.extract fr _ (wordTo_le s fr (by omega))]
 split
 ·rfl
 ·split
  ·rfl
  ·split
   ·rfl
   ·rename_i hi;rw[h.extract fr _ (sign_le s fr (by omega) hi)]
def bP {β:Type} (q:Except ER PS) (k:PS→Except ER β):Except ER β:=match q with | .error r=>.error r | .ok σ=>k σ
def bT {α β:Type} (q:Except ER (α×PS)) (k:α→PS→Except ER β):Except ER β:=match q with | .error r=>.error r | .ok (a,σ)=>k a σ
def ps0:PS:=⟨0,0,nil0,0,0,0⟩
def CPost {α:Type} (b:Nat) (s:ByteArray) (S:Nat→Prop) (V:α→World→Prop) (q:Except ER (α×PS)) (w:World) (e:Ending) (w':World):Prop:=
 match q with
 | .ok (a,σ')=>e=.returned (.tuple #[])∧V a w'∧PW w' b s σ'∧Kept S w w'
 | .error r=>e=.panicked [pan r.1 r.2]∧Kept S w w'
section
variable {α:Type} {b:Nat} {s:ByteArray} {S:Nat→Prop} {V:α→World→Prop} {q:Except ER (α×PS)} {w w':World} {e:Ending}
theorem CPost.ok {a:α} {σ':PS} (hq:q=.ok (a,σ')) (h:e=.returned (.tuple #[])∧V a w'∧PW w' b s σ'∧Kept S w w'):CPost b s S V q w e w':=by subst hq;exact h
theorem CPost.getOk {a:α} {σ':PS} (h:CPost b s S V q w e w') (hq:q=.ok (a,σ')):e=.returned (.tuple #[])∧V a w'∧PW w' b s σ'∧Kept S w w':=by subst hq;exact h
end
def Lies (bz:Nat) (o n:Nat) (t:Tm) (w:World):Prop:=∃ tk kk,Blk w o 27 (tmCells t tk kk)∧TyL bz (fun k=>n≤k) w t.ty.kids tk∧TmL bz (fun k=>n≤k) w t.kids kk
theorem results_cc {P:Program} {fn:Func} {p q:Tmp} {ty tz:TypeId} (h:fn.results=#[.cell p ty,.cell q tz]) {tmps:Array Value} {a b:Addr} (ha:tmps.getD p undef=.pointer (some a)) (hb:tmps.getD q undef=.pointer (some b)) {v u:Value} {W:World}
  (hl:(loadVar ty a).run P W=.ok v W) (hm:(loadVar tz b).run P W=.ok u W):(results fn tmps).run P W=.ok (.tuple #[v,u]) W:=by
 have e:results fn tmps=(do let v ← (do loadVar ty (← asAddr (tmps.getD p undef)));let u ← (do loadVar tz (← asAddr (tmps.getD q undef)));pure (Value.tuple #[v,u])):=by
  unfold results;rw[h];simp
 rw[e,ha,hb]
 show (loadVar ty a >>= fun v=>loadVar tz b >>= fun u=>pure (Value.tuple #[v,u])).run P W=_
 rw[Sem.run_bind,hl]
 show (loadVar tz b >>= fun u=>pure (Value.tuple #[v,u])).run P W=_
 rw[Sem.run_bind,hm]
 rfl
theorem results_ctt {P:Program} {fn:Func} {p q r:Tmp} {ty:TypeId} (h:fn.results=#[.cell p ty,.tmp q,.tmp r]) {tmps:Array Value} {a:Addr} (ha:tmps.getD p undef=.pointer (some a)) {v:Value} {W:World}
  (hl:(loadVar ty a).run P W=.ok v W):(results fn tmps).run P W=.ok (.tuple #[v,tmps.getD q undef,tmps.getD r undef]) W:=by
 have e:results fn tmps=(do let v ← (do loadVar ty (← asAddr (tmps.getD p undef)));pure (Value.tuple #[v,tmps.getD q undef,tmps.getD r undef])):=by
  unfold results;rw[h];simp
 rw[e,ha]
 show (loadVar ty a >>= fun v=>pure (Value.tuple #[v,tmps.getD q undef,tmps.getD r undef])).run P W=_
 rw[Sem.run_bind,hl]
 rfl
theorem load_i {W:World} {A:Nat} {x:Int} (h:Blk W A 3 [.int .i64 x]):(loadVar 3 ⟨A,0,none⟩).run Tryz.prog W=.ok (.int .i64 x) W:=by
 have:=h.cell 0
 simp[go_sem,this]
theorem load_e {W:World} {A:Nat} {x:Int} (h:Blk W A 40 [.int .i64 x]):(loadVar 40 ⟨A,0,none⟩).run Tryz.prog W=.ok (.int .i64 x) W:=by
 have:=h.cell 0
 simp[go_sem,this]
def mcells (c most deep:Nat):List Value:=[.int .i64 c,.int .i64 most,.int .i64 deep]
theorem enter_any {w:World} {m c most deep d:Nat} (hb:Blk w m 119 (mcells c most deep)) (hc:c≤1000000) {v:Bool} (hv:(decide (c+1≤most)&&decide (d≤deep))=v):
  Calls Tryz.prog 139 #[.pointer (some ⟨m,0,none⟩),.int .i64 d] w fun e w'=>e=.returned (.bool v)∧Blk w' m 119 (mcells (c+1) most deep)∧Kept (·=m) w w':=by
 have g0:w.cell? ⟨m,0,none⟩=some (.int .i64 c):=hb.cell 0
 have g1:w.cell? ⟨m,1,none⟩=some (.int .i64 most):=hb.cell 1
 have g2:w.cell? ⟨m,2,none⟩=some (.int .i64 deep):=hb.cell 2
 have f0:w.frozen? ⟨m,0,none⟩=false:=hb.frozen 0
 have h1:=hb.set 0 (.int .i64 ((c:Int)+1))
 have k1:Kept (·=m) w (w.setCell ⟨m,0,none⟩ (.int .i64 ((c:Int)+1))):=(Kept.refl (fun x=>x=m) w).setCell (p:=⟨m,0,none⟩) (Or.inl rfl) _
 by_cases a:c+1≤most
 ·by_cases e:d≤deep
  ·have i1:(c:Int)+1≤most:=by omega
   have i2:(d:Int)≤deep:=by omega
   have HV:Hid (v=true):=Ld (by rw[← hv,decide_eq_true a,decide_eq_true e];rfl)
   clear hv
   go_enter Tryz.func139,Tryz.ntmps139
   go_wp2_with fail
   go_quiet (fail)
   go_wp2_with fail
   go_ret
   exact⟨by rw[HV.out];rfl,h1.drewN nq,k1.drewN nq⟩
  ·have i1:(c:Int)+1≤most:=by omega
   have i2:decide ((d:Int)≤deep)=false:=by simp;omega
   have HV:Hid (v=false):=Ld (by rw[← hv,decide_eq_false e];simp)
   clear hv
   go_enter Tryz.func139,Tryz.ntmps139
   go_wp2_with fail
   go_quiet (fail)
   go_wp2_with fail
   go_ret
   exact⟨by rw[HV.out];rfl,h1.drewN nq,k1.drewN nq⟩
 ·have i1:decide ((c:Int)+1≤most)=false:=by simp;omega
  have HV:Hid (v=false):=Ld (by rw[← hv,decide_eq_false a];simp)
  clear hv
  go_enter Tryz.func139,Tryz.ntmps139
  go_wp2_with fail
  go_quiet (fail)
  go_wp2_with fail
  go_ret
  exact⟨by rw[HV.out];rfl,h1.drewN nq,k1.drewN nq⟩
def zeroTyB (t:Ty):Bool:=t.kind==0&&(t.name.toList==[])&&t.kids.isEmpty
theorem TyL.len {ok:Nat→Prop} {w:World} {l:List Ty} {a:Option Addr} {n c:Nat} (h:TyL bz ok w l (.slice a n c)):n=l.length:=by
 cases h with
 | nil h=>rcases h with h | ⟨a,c,h⟩ <;> cases h <;> rfl
 | mk=>rfl
theorem TmL.len {ok:Nat→Prop} {w:World} {l:List Tm} {a:Option Addr} {n c:Nat} (h:TmL bz ok w l (.slice a n c)):n=l.length:=by
 cases h with
 | nil h=>rcases h with h | ⟨a,c,h⟩ <;> cases h <;> rfl
 | mk=>rfl
theorem zeroTy_any {w:World} (k:Int) (nm:ByteArray) (a:Option Addr) (n c:Nat) {v:Bool} (hv:((k==0)&&(nm.toList==[])&&decide (n=0))=v):
  Calls Tryz.prog 182 #[.agg #[.int .i64 k,.string nm,.slice a n c]] w fun e w'=>e=.returned (.bool v)∧w'=w.alloc (.cells #[.int .i64 k,.string nm,.slice a n c] 24):=by
 cases h1:(k==0) <;> cases h2:(nm.toList==[]) <;> by_cases h3:n=0
 all_goals
  (rw[h1,h2] at hv)
  (first | subst h3 | have h4:decide ((n:Int)=0)=false:=by simp;omega)
  have HV:=Ld hv
  clear hv
  go_enter Tryz.func182,Tryz.ntmps182
  go_wp2_with fail
  go_ret
  exact⟨by rw[← HV.out];simp[*],rfl⟩
def trimQ (s:ByteArray):ByteArray:=⟨(Lib.trimSuffix s.data.toList [39]).toArray⟩
def namedB (s:ByteArray):Bool:=identB (trimQ s)
theorem trimQ_le (s:ByteArray):(trimQ s).size≤s.size:=by
 unfold trimQ Lib.trimSuffix
 show (if _ then _ else _:List UInt8).toArray.size≤s.data.size
 split <;> simp
theorem named_any (s:ByteArray) (w:World) (hs:s.size≤9223372036854775807):
  Calls Tryz.prog 34 #[.string s] w fun e w'=>e=.returned (.bool (namedB s))∧w=w':=by
 have hq:=trimQ_le s
 go_enter Tryz.func34,Tryz.ntmps34
 go_wp2_with (first | (go_at_call 37;refine (Tryz.strings_TrimSuffix s _ _ hs).mono ?_;rintro e w' ⟨rfl,rfl⟩) | (go_at_call 79;refine (ident_any (trimQ s) _ (by omega)).mono ?_;rintro e w' ⟨rfl,rfl⟩))
 go_ret
 exact⟨rfl,rfl⟩
theorem info24:(Tryz.prog.info? 24).map (fun i=>(i.zero,i.size,i.bytes))=some (some (.agg #[.int .i64 0,.string ⟨#[]⟩,.slice none 0 0]),3,48):=by kernel_rfl
def NewRow (w W:World) (ty:TypeId) (sz n b off:Nat) (v:Value):Prop:=∃ g cap L,v=.slice (some ⟨g,0,none⟩) n cap∧n≤cap∧w.heap.size≤g∧Blk W g ty L∧n*sz≤L.length∧∀ j,j<n*sz→L[j]?=w.cell? ⟨b,off+j,none⟩
def rowList (w:World) (b off k:Nat):List Value:=(List.range k).map fun j=>(w.cell? ⟨b,off+j,none⟩).getD undef
theorem rowList_get {w:World} {b off k j:Nat} {v:Value} (hj:j<k) (hv:w.cell? ⟨b,off+j,none⟩=some v):(rowList w b off k)[j]?=some v:=by
 unfold rowList;rw[List.getElem?_map,List.getElem?_range hj];simp[hv]
theorem cloneTy_some {w:World} (b off n cp:Nat) (hn:n≤1000000) (hc:∀ j,j<n*3→∃ v,w.cell? ⟨b,off+j,none⟩=some v∧v.oneCell'=true):
  Calls Tryz.prog 157 #[.slice (some ⟨b,off,none⟩) n cp] w fun e w'=>∃ v,e=.returned v∧NewRow w w' 24 3 n b off v∧Kept (fun _=>False) w w':=by
 have hne:∀ W:World,(binOp .eql 22 (.slice (some ⟨b,off,none⟩) n cp) (.slice none 0 0)).run Tryz.prog W=.ok (.bool false) W:=fun W=>Lib.run_eql_slice_some_nil W _ n cp Tryz.underlying22
 obtain⟨ii,hi,hz,hs,hb⟩:∃ i,Tryz.prog.info? 24=some i∧i.zero=some (.agg #[.int .i64 0,.string ⟨#[]⟩,.slice none 0 0])∧i.size=3∧i.bytes=48:=by
  have:=info24
  cases hh:Tryz.prog.info? 24 with
  | none=>rw[hh] at this;cases this
  | some i=>rw[hh] at this;simp only[Option.map_some,Option.some.injEq,Prod.mk.injEq] at this;exact⟨i,rfl,this.1,this.2.1,this.2.2⟩
 have HI:=Ld hi
 have HZ:=Ld hz
 have HS:=Ld hs
 have HBY:=Ld hb
 clear hi hz hs hb
 have HC:=Ld hc
 clear hc
 have own0:(w.alloc (.cells #[] 24)).ownsRow w.heap.size 24 3 (.slice (some ⟨w.heap.size,0,none⟩) 0 0) 0 []:=⟨rfl,.inr ⟨w.heap.size,0,#[],rfl,Nat.le_refl _,Blk.new w 24 [],Nat.le_refl _,Nat.zero_le _,rfl,rfl⟩⟩
 have hget:Hid (∀ j u,(rowList w b off (n*3))[j]?=some u→(w.cell? ⟨b,off+j,none⟩=some u∧u.oneCell'=true)∧(w.alloc (.cells #[] 24)).cell? ((⟨b,off,none⟩:Addr).add j)=some u):=Ld (by
  intro j u hj
  have hlt:j<n*3:=by
   have:=(List.getElem?_eq_some_iff.1 hj).1;unfold rowList at this;simpa using this
  obtain⟨v,hv,h1⟩:=HC.out j hlt
  rw[rowList_get hlt hv] at hj
  have hvu:v=u:=Option.some.inj hj
  subst hvu
  refine⟨⟨hv,h1⟩,?_⟩
  have hl:=cell_lt hv
  rw[show (⟨b,off,none⟩:Addr).add j=⟨b,off+j,none⟩ by cases j <;> simp[Addr.add]]
  rw[World.cell?_of_block (w:=w) (a:=⟨b,off+j,none⟩) (Below.heap_alloc _ _ _ hl)];exact hv)
 go_enter Tryz.func157,Tryz.ntmps157
 go_wp2_with (at_builtin;refine wpList_append_own_at _ rfl (.tmp 5) (.tmp 6) 22 rfl w.heap.size 24 ii _ 3 48 Tryz.underlying22 HI.out HZ.out HS.out HBY.out rfl (by decide) _ _ _ rfl own0 ⟨b,off,none⟩ n cp (rowList w b off (n*3)) rfl (by unfold rowList;simp) (fun j u h=>(hget.out j u h).2) ?_ ?_ ?_ ?_ ?_)
 ·intro u hu
  obtain⟨j,hj⟩:=List.getElem?_of_mem hu
  exact (hget.out j u hj).1.2
 ·unfold maxLen;omega
 ·omega
 ·simp
 ·intro v' w1 own1 gr1 hnil hat
  have kA:=kept_grown gr1
  have OWN:=Ld own1
  have NIL:=Ld hnil
  clear own1 hnil hat gr1
  go_wp2_with fail
  go_ret
  refine⟨v',rfl,?_,((Kept.refl (fun _=>False) w).alloc _).via kA (fun x hx h=>by simp[Value.ownBlock] at h;omega)⟩
  rcases OWN.out.2 with ⟨h0,_⟩ | ⟨g,cap,cur,rfl,hg,hh,h1,h2,h3,h4⟩
  ·exact (NIL.out h0).elim
  ·refine⟨g,cap,cur.toList,rfl,by omega,hg,by unfold Blk;rw[hh],?_,?_⟩
   ·rw[Array.length_toList,h3];exact Nat.mul_le_mul_right _ (by omega)
   ·intro j hj
    obtain⟨v,hv,_⟩:=HC.out j hj
    rw[hv,← rowList_get hj hv,← h4,List.getElem?_take_of_lt hj]
theorem cloneTy_zero {w:World} (ad:Addr) (cp:Nat):
  Calls Tryz.prog 157 #[.slice (some ad) 0 cp] w fun e w'=>∃ g cap,e=.returned (.slice (some ⟨g,0,none⟩) 0 cap)∧Kept (fun _=>False) w w':=by
 have hne:∀ W:World,(binOp .eql 22 (.slice (some ad) 0 cp) (.slice none 0 0)).run Tryz.prog W=.ok (.bool false) W:=fun W=>Lib.run_eql_slice_some_nil W _ 0 cp Tryz.underlying22
 obtain⟨ii,hi,hz,hs,hb⟩:∃ i,Tryz.prog.info? 24=some i∧i.zero=some (.agg #[.int .i64 0,.string ⟨#[]⟩,.slice none 0 0])∧i.size=3∧i.bytes=48:=by
  have:=info24
  cases hh:Tryz.prog.info? 24 with
  | none=>rw[hh] at this;cases this
  | some i=>rw[hh] at this;simp only[Option.map_some,Option.some.injEq,Prod.mk.injEq] at this;exact⟨i,rfl,this.1,this.2.1,this.2.2⟩
 have HI:=Ld hi
 have HZ:=Ld hz
 have HS:=Ld hs
 have HBY:=Ld hb
 clear hi hz hs hb
 have own0:(w.alloc (.cells #[] 24)).ownsRow w.heap.size 24 3 (.slice (some ⟨w.heap.size,0,none⟩) 0 0) 0 []:=⟨rfl,.inr ⟨w.heap.size,0,#[],rfl,Nat.le_refl _,Blk.new w 24 [],Nat.le_refl _,Nat.zero_le _,rfl,rfl⟩⟩
 go_enter Tryz.func157,Tryz.ntmps157
 go_wp2_with (at_builtin;refine wpList_append_own_at _ rfl (.tmp 5) (.tmp 6) 22 rfl w.heap.size 24 ii _ 3 48 Tryz.underlying22 HI.out HZ.out HS.out HBY.out rfl (by decide) _ _ _ rfl own0 ad 0 cp [] rfl rfl (fun j u h=>by cases h) ?_ ?_ ?_ ?_ ?_)
 ·intro u hu;cases hu
 ·unfold maxLen;omega
 ·omega
 ·simp
 ·intro v' w1 own1 gr1 hnil hat
  have kA:=kept_grown gr1
  have OWN:=Ld own1
  have NIL:=Ld hnil
  clear own1 hnil hat gr1
  go_wp2_with fail
  go_ret
  rcases OWN.out.2 with ⟨h0,_⟩ | ⟨g,cap,cur,rfl,hg,hh,h1,h2,h3,h4⟩
  ·exact (NIL.out h0).elim
  ·exact⟨g,cap,rfl,((Kept.refl (fun _=>False) w).alloc _).via kA (fun x hx h=>by simp[Value.ownBlock] at h;omega)⟩
theorem cloneTy_nil (w:World):Calls Tryz.prog 157 #[.slice none 0 0] w fun e w'=>e=.returned (.slice none 0 0)∧w=w':=by
 have hne:∀ W:World,(binOp .eql 22 (.slice none 0 0) (.slice none 0 0)).run Tryz.prog W=.ok (.bool true) W:=fun W=>Lib.run_eql_slice_nil_nil W 0 0 Tryz.underlying22
 go_enter Tryz.func157,Tryz.ntmps157
 go_wp2_with fail
 go_ret
 exact⟨rfl,rfl⟩
theorem clipTy_nil (w:World):Calls Tryz.prog 156 #[.slice none 0 0] w fun e w'=>e=.returned (.slice none 0 0)∧w=w':=by
 go_enter Tryz.func156,Tryz.ntmps156
 go_wp2_with fail
 go_ret
 exact⟨rfl,rfl⟩
theorem clipTy_some (w:World) (g n cap:Nat) (hn:n≤cap) (hn2:n≤1000000):Calls Tryz.prog 156 #[.slice (some ⟨g,0,none⟩) n cap] w fun e w'=>e=.returned (.slice (some ⟨g,0,none⟩) n n)∧w=w':=by
 have i1:(n:Int)≤(cap:Int):=by omega
 have i2:(0:Int)≤(n:Int):=by omega
 go_enter Tryz.func156,Tryz.ntmps156
 go_wp2_with fail
 go_ret
 exact⟨rfl,rfl⟩
theorem cloneTm_some {w:World} (b off n cp:Nat) (hn:n≤1000000) (hc:∀ j,j<n*7→∃ v,w.cell? ⟨b,off+j,none⟩=some v∧v.oneCell'=true):
  Calls Tryz.prog 115 #[.slice (some ⟨b,off,none⟩) n cp] w fun e w'=>∃ v,e=.returned v∧NewRow w w' 27 7 n b off v∧Kept (fun _=>False) w w':=by
 have hne:∀ W:World,(binOp .eql 25 (.slice (some ⟨b,off,none⟩) n cp) (.slice none 0 0)).run Tryz.prog W=.ok (.bool false) W:=fun W=>Lib.run_eql_slice_some_nil W _ n cp Tryz.underlying25
 obtain⟨ii,hi,hz,hs,hb⟩:∃ i,Tryz.prog.info? 27=some i∧i.zero=some (.agg #[.int .i64 0,.string ⟨#[]⟩,.int .i64 0,.int .i64 0,.string ⟨#[]⟩,.slice none 0 0,.slice none 0 0])∧i.size=7∧i.bytes=104:=by
  have:=info27
  cases hh:Tryz.prog.info? 27 with
  | none=>rw[hh] at this;cases this
  | some i=>rw[hh] at this;simp only[Option.map_some,Option.some.injEq,Prod.mk.injEq] at this;exact⟨i,rfl,this.1,this.2.1,this.2.2⟩
 have HI:=Ld hi
 have HZ:=Ld hz
 have HS:=Ld hs
 have HBY:=Ld hb
 clear hi hz hs hb
 have HC:=Ld hc
 clear hc
 have own0:(w.alloc (.cells #[] 27)).ownsRow w.heap.size 27 7 (.slice (some ⟨w.heap.size,0,none⟩) 0 0) 0 []:=⟨rfl,.inr ⟨w.heap.size,0,#[],rfl,Nat.le_refl _,Blk.new w 27 [],Nat.le_refl _,Nat.zero_le _,rfl,rfl⟩⟩
 have hget:Hid (∀ j u,(rowList w b off (n*7))[j]?=some u→(w.cell? ⟨b,off+j,none⟩=some u∧u.oneCell'=true)∧(w.alloc (.cells #[] 27)).cell? ((⟨b,off,none⟩:Addr).add j)=some u):=Ld (by
  intro j u hj
  have hlt:j<n*7:=by
   have:=(List.getElem?_eq_some_iff.1 hj).1;unfold rowList at this;simpa using this
  obtain⟨v,hv,h1⟩:=HC.out j hlt
  rw[rowList_get hlt hv] at hj
  have hvu:v=u:=Option.some.inj hj
  subst hvu
  refine⟨⟨hv,h1⟩,?_⟩
  have hl:=cell_lt hv
  rw[show (⟨b,off,none⟩:Addr).add j=⟨b,off+j,none⟩ by cases j <;> simp[Addr.add]]
  rw[World.cell?_of_block (w:=w) (a:=⟨b,off+j,none⟩) (Below.heap_alloc _ _ _ hl)];exact hv)
 go_enter Tryz.func115,Tryz.ntmps115
 go_wp2_with (at_builtin;refine wpList_append_own_at _ rfl (.tmp 5) (.tmp 6) 25 rfl w.heap.size 27 ii _ 7 104 Tryz.underlying25 HI.out HZ.out HS.out HBY.out rfl (by decide) _ _ _ rfl own0 ⟨b,off,none⟩ n cp (rowList w b off (n*7)) rfl (by unfold rowList;simp) (fun j u h=>(hget.out j u h).2) ?_ ?_ ?_ ?_ ?_)
 ·intro u hu
  obtain⟨j,hj⟩:=List.getElem?_of_mem hu
  exact (hget.out j u hj).1.2
 ·unfold maxLen;omega
 ·omega
 ·simp
 ·intro v' w1 own1 gr1 hnil hat
  have kA:=kept_grown gr1
  have OWN:=Ld own1
  have NIL:=Ld hnil
  clear own1 hnil hat gr1
  go_wp2_with fail
  go_ret
  refine⟨v',rfl,?_,((Kept.refl (fun _=>False) w).alloc _).via kA (fun x hx h=>by simp[Value.ownBlock] at h;omega)⟩
  rcases OWN.out.2 with ⟨h0,_⟩ | ⟨g,cap,cur,rfl,hg,hh,h1,h2,h3,h4⟩
  ·exact (NIL.out h0).elim
  ·refine⟨g,cap,cur.toList,rfl,by omega,hg,by unfold Blk;rw[hh],?_,?_⟩
   ·rw[Array.length_toList,h3];exact Nat.mul_le_mul_right _ (by omega)
   ·intro j hj
    obtain⟨v,hv,_⟩:=HC.out j hj
    rw[hv,← rowList_get hj hv,← h4,List.getElem?_take_of_lt hj]
theorem cloneTm_zero {w:World} (ad:Addr) (cp:Nat):
  Calls Tryz.prog 115 #[.slice (some ad) 0 cp] w fun e w'=>∃ g cap,e=.returned (.slice (some ⟨g,0,none⟩) 0 cap)∧Kept (fun _=>False) w w':=by
 have hne:∀ W:World,(binOp .eql 25 (.slice (some ad) 0 cp) (.slice none 0 0)).run Tryz.prog W=.ok (.bool false) W:=fun W=>Lib.run_eql_slice_some_nil W _ 0 cp Tryz.underlying25
 obtain⟨ii,hi,hz,hs,hb⟩:∃ i,Tryz.prog.info? 27=some i∧i.zero=some (.agg #[.int .i64 0,.string ⟨#[]⟩,.int .i64 0,.int .i64 0,.string ⟨#[]⟩,.slice none 0 0,.slice none 0 0])∧i.size=7∧i.bytes=104:=by
  have:=info27
  cases hh:Tryz.prog.info? 27 with
  | none=>rw[hh] at this;cases this
  | some i=>rw[hh] at this;simp only[Option.map_some,Option.some.injEq,Prod.mk.injEq] at this;exact⟨i,rfl,this.1,this.2.1,this.2.2⟩
 have HI:=Ld hi
 have HZ:=Ld hz
 have HS:=Ld hs
 have HBY:=Ld hb
 clear hi hz hs hb
 have own0:(w.alloc (.cells #[] 27)).ownsRow w.heap.size 27 7 (.slice (some ⟨w.heap.size,0,none⟩) 0 0) 0 []:=⟨rfl,.inr ⟨w.heap.size,0,#[],rfl,Nat.le_refl _,Blk.new w 27 [],Nat.le_refl _,Nat.zero_le _,rfl,rfl⟩⟩
 go_enter Tryz.func115,Tryz.ntmps115
 go_wp2_with (at_builtin;refine wpList_append_own_at _ rfl (.tmp 5) (.tmp 6) 25 rfl w.heap.size 27 ii _ 7 104 Tryz.underlying25 HI.out HZ.out HS.out HBY.out rfl (by decide) _ _ _ rfl own0 ad 0 cp [] rfl rfl (fun j u h=>by cases h) ?_ ?_ ?_ ?_ ?_)
 ·intro u hu;cases hu
 ·unfold maxLen;omega
 ·omega
 ·simp
 ·intro v' w1 own1 gr1 hnil hat
  have kA:=kept_grown gr1
  have OWN:=Ld own1
  have NIL:=Ld hnil
  clear own1 hnil hat gr1
  go_wp2_with fail
  go_ret
  rcases OWN.out.2 with ⟨h0,_⟩ | ⟨g,cap,cur,rfl,hg,hh,h1,h2,h3,h4⟩
  ·exact (NIL.out h0).elim
  ·exact⟨g,cap,rfl,((Kept.refl (fun _=>False) w).alloc _).via kA (fun x hx h=>by simp[Value.ownBlock] at h;omega)⟩
theorem cloneTm_nil (w:World):Calls Tryz.prog 115 #[.slice none 0 0] w fun e w'=>e=.returned (.slice none 0 0)∧w=w':=by
 have hne:∀ W:World,(binOp .eql 25 (.slice none 0 0) (.slice none 0 0)).run Tryz.prog W=.ok (.bool true) W:=fun W=>Lib.run_eql_slice_nil_nil W 0 0 Tryz.underlying25
 go_enter Tryz.func115,Tryz.ntmps115
 go_wp2_with fail
 go_ret
 exact⟨rfl,rfl⟩
theorem clipTm_nil (w:World):Calls Tryz.prog 71 #[.slice none 0 0] w fun e w'=>e=.returned (.slice none 0 0)∧w=w':=by
 go_enter Tryz.func71,Tryz.ntmps71
 go_wp2_with fail
 go_ret
 exact⟨rfl,rfl⟩
theorem clipTm_some (w:World) (g n cap:Nat) (hn:n≤cap) (hn2:n≤1000000):Calls Tryz.prog 71 #[.slice (some ⟨g,0,none⟩) n cap] w fun e w'=>e=.returned (.slice (some ⟨g,0,none⟩) n n)∧w=w':=by
 have i1:(n:Int)≤(cap:Int):=by omega
 have i2:(0:Int)≤(n:Int):=by omega
 go_enter Tryz.func71,Tryz.ntmps71
 go_wp2_with fail
 go_ret
 exact⟨rfl,rfl⟩
inductive BdTy:Ty→Prop
 | mk {k:Int} {n:ByteArray} {l:List Ty} (hn:l.length≤1000000) (hl:∀ t,t∈l→BdTy t):BdTy (.mk k n l)
def CpC (bz:Nat) (t:Ty):Prop:=∀ (w:World) (ok:Nat→Prop) (tk:Value),TyL bz ok w t.kids tk →
 Calls Tryz.prog 114 #[tyVal t tk] w fun e w'=>∃ v,e=.returned (tyVal t v)∧TyL bz (fun k=>w.heap.size≤k) w' t.kids v∧Kept (fun _=>False) w w'
theorem r3' {W:World} {R:Nat} {l:List Value} {x y z:Value} (h:Blk W R 24 l) (hl:l.length=3):Blk (((W.setCell ⟨R,0,none⟩ x).setCell ⟨R,1,none⟩ y).setCell ⟨R,2,none⟩ z) R 24 [x,y,z]:=r3 h hl
theorem copyTy_nil {k:Int} {nm:ByteArray} {w:World}:
  Calls Tryz.prog 114 #[.agg #[.int .i64 k,.string nm,.slice none 0 0]] w fun e w'=>e=.returned (.agg #[.int .i64 k,.string nm,.slice none 0 0])∧Kept (fun _=>False) w w':=by
 have bA:Blk ((w.alloc (.cells #[.int .i64 k,.string nm,.slice none 0 0] 24)).alloc (.cells #[.int .i64 0,.string ⟨#[]⟩,.slice none 0 0] 24)) w.heap.size 24 [.int .i64 k,.string nm,.slice none 0 0]:=(Blk.new w 24 _).alloc _
 have K0:Kept (fun _=>False) w ((w.alloc (.cells #[.int .i64 k,.string nm,.slice none 0 0] 24)).alloc (.cells #[.int .i64 0,.string ⟨#[]⟩,.slice none 0 0] 24)):=(kR.alloc _).alloc _
 go_enter Tryz.func114,Tryz.ntmps114
 go_wp2_with (first | (go_at_call 157;refine (cloneTy_nil _).mono ?_;rintro e w' ⟨rfl,rfl⟩) | (go_at_call 156;refine (clipTy_nil _).mono ?_;rintro e w' ⟨rfl,rfl⟩))
 go_loop [13] (fun i=>i=.int .i64 0) (fun i=>0)
 case atStart=>rfl
 case round=>
  subst hrel
  go_wp2_with fail
  exact bodyPost_ret (results_one Tryz.results114 rfl (load_ty (t:=.mk k nm []) (Blk.new' 24 _ (by simp)))) rfl ⟨rfl,(kR.alloc _).alloc _⟩
def ZTy (k:Int) (nm:ByteArray) (w:World) (e:Ending) (w':World):Prop:=∃ g cap,e=.returned (.agg #[.int .i64 k,.string nm,.slice (some g) 0 cap])∧Kept (fun _=>False) w w'
theorem copyTy_zero {k:Int} {nm:ByteArray} {w:World} (ad:Addr) (cp:Nat):
  Calls Tryz.prog 114 #[.agg #[.int .i64 k,.string nm,.slice (some ad) 0 cp]] w (ZTy k nm w):=by
 have bA:Blk ((w.alloc (.cells #[.int .i64 k,.string nm,.slice (some ad) 0 cp] 24)).alloc (.cells #[.int .i64 0,.string ⟨#[]⟩,.slice none 0 0] 24)) w.heap.size 24 [.int .i64 k,.string nm,.slice (some ad) 0 cp]:=(Blk.new w 24 _).alloc _
 have bR:Blk ((w.alloc (.cells #[.int .i64 k,.string nm,.slice (some ad) 0 cp] 24)).alloc (.cells #[.int .i64 0,.string ⟨#[]⟩,.slice none 0 0] 24)) (w.heap.size+1) 24 z24:=Blk.new' 24 _ (by simp)
 have K0:Kept (fun _=>False) w ((w.alloc (.cells #[.int .i64 k,.string nm,.slice (some ad) 0 cp] 24)).alloc (.cells #[.int .i64 0,.string ⟨#[]⟩,.slice none 0 0] 24)):=(kR.alloc _).alloc _
 go_enter Tryz.func114,Tryz.ntmps114
 go_wp2_with fail
 refine (cloneTy_zero ad cp).mono ?_
 rintro e w1 ⟨g,cap,rfl,k1⟩
 have bA1:=bA.kept k1 (fun h=>h)
 have bR1:=bR.kept k1 (fun h=>h)
 have K1:=K0.trans k1
 have a0:w1.cell? ⟨w.heap.size,0,none⟩=some (.int .i64 k):=bA1.cell 0
 have a1:w1.cell? ⟨w.heap.size,1,none⟩=some (.string nm):=bA1.cell 1
 have a2:w1.cell? ⟨w.heap.size,2,none⟩=some (.slice (some ad) 0 cp):=bA1.cell 2
 have fa2:=bA1.frozen 2
 have r0:w1.cell? ⟨w.heap.size+1,0,none⟩=some (.int .i64 0):=bR1.cell 0
 have r1:w1.cell? ⟨w.heap.size+1,1,none⟩=some (.string ⟨#[]⟩):=bR1.cell 1
 have r2:w1.cell? ⟨w.heap.size+1,2,none⟩=some (.slice none 0 0):=bR1.cell 2
 have f0:=bR1.frozen 0
 have f1:=bR1.frozen 1
 have f2:=bR1.frozen 2
 have BR:=Ld bR1
 have KP:=Ld K1
 clear bR1 K1 bA1 bA bR
 go_wp2_with (go_at_call 156;refine (clipTy_some _ g 0 cap (Nat.zero_le _) (Nat.zero_le _)).mono ?_;rintro e w' ⟨rfl,rfl⟩)
 go_loop [13] (fun i=>i=.int .i64 0) (fun i=>0)
 case atStart=>rfl
 case round=>
  subst hrel
  go_wp2_with fail
  have bF:=r3' (x:=.int .i64 k) (y:=.string nm) (z:=.slice (some ⟨g,0,none⟩) 0 0) (BR.out.set_other ⟨w.heap.size,2,none⟩ (.slice (some ⟨g,0,none⟩) 0 0) (by show w.heap.size+1≠w.heap.size;omega)) rfl
  refine bodyPost_ret (results_one Tryz.results114 rfl (load_ty (t:=.mk k nm []) bF)) rfl ?_
  exact⟨_,_,rfl,(((KP.out.setCell (p:=⟨w.heap.size,2,none⟩) (Or.inr (Nat.le_refl _)) _).setCell (p:=⟨w.heap.size+1,0,none⟩) (Or.inr (by show w.heap.size≤w.heap.size+1;omega)) _).setCell (p:=⟨w.heap.size+1,1,none⟩) (Or.inr (by show w.heap.size≤w.heap.size+1;omega)) _).setCell (p:=⟨w.heap.size+1,2,none⟩) (Or.inr (by show w.heap.size≤w.heap.size+1;omega)) _⟩
structure CI (bz:Nat) (w:World) (l:List Ty) (kd:Int) (nm:ByteArray) (n b off g k:Nat) (wr:World):Prop where
 kp:Kept (fun _=>False) w wr
 a:Blk wr w.heap.size 24 [.int .i64 kd,.string nm,.slice (some ⟨g,0,none⟩) n n]
 r:Blk wr (w.heap.size+1) 24 z24
 row:∃ (L:List Value) (K':Nat→Value),Blk wr g 24 L∧n*3≤L.length∧(∀ j,k*3≤j→j<n*3→L[j]?=w.cell? ⟨b,off+j,none⟩) ∧
  ∀ i (_:i<k) (h:i<l.length),L[i*3]?=some (.int .i64 l[i].kind)∧L[i*3+1]?=some (.string l[i].name)∧L[i*3+2]?=some (K' i)∧TyL bz (fun q=>w.heap.size+2≤q∧q≠g) wr l[i].kids (K' i)
theorem set3 {W:World} {ok:Nat→Prop} {g i j q:Nat} {x y z:Value} (h:∀ k,ok k→k≠g):Same ok W (((W.setCell ⟨g,i,none⟩ x).setCell ⟨g,j,none⟩ y).setCell ⟨g,q,none⟩ z):=
 Same.of_kept (S:=(·=g)) ((((Kept.refl (fun x=>x=g) W).setCell (p:=⟨g,i,none⟩) (Or.inl rfl) _).setCell (p:=⟨g,j,none⟩) (Or.inl rfl) _).setCell (p:=⟨g,q,none⟩) (Or.inl rfl) _) h
theorem CI.step {w wr w4:World} {l:List Ty} {kd:Int} {nm:ByteArray} {b off g k:Nat} {v:Value} (h:CI bz w l kd nm l.length b off g k wr) (hg:w.heap.size+2≤g) (hk:k<l.length) (kk:Kept (fun _=>False) wr w4) (hv:TyL bz (fun q=>wr.heap.size≤q) w4 l[k].kids v):
  CI bz w l kd nm l.length b off g (k+1) (((w4.setCell ⟨g,k*3,none⟩ (.int .i64 l[k].kind)).setCell ⟨g,k*3+1,none⟩ (.string l[k].name)).setCell ⟨g,k*3+2,none⟩ v):=by
 obtain⟨L,K',bG,hLn,hLo,hLd⟩:=h.row
 have lg:=bG.lt
 have b4:=bG.kept kk (fun h=>h)
 refine⟨(((h.kp.trans kk).setCell (p:=⟨g,k*3,none⟩) (Or.inr (by show w.heap.size≤g;omega)) _).setCell (p:=⟨g,k*3+1,none⟩) (Or.inr (by show w.heap.size≤g;omega)) _).setCell (p:=⟨g,k*3+2,none⟩) (Or.inr (by show w.heap.size≤g;omega)) _,
  (((h.a.kept kk (fun h=>h)).set_other _ _ (by show w.heap.size≠g;omega)).set_other _ _ (by show w.heap.size≠g;omega)).set_other _ _ (by show w.heap.size≠g;omega),
  (((h.r.kept kk (fun h=>h)).set_other _ _ (by show w.heap.size+1≠g;omega)).set_other _ _ (by show w.heap.size+1≠g;omega)).set_other _ _ (by show w.heap.size+1≠g;omega),
  ((L.set (k*3) (.int .i64 l[k].kind)).set (k*3+1) (.string l[k].name)).set (k*3+2) v,fun i=>if i=k then v else K' i,
  ((b4.set _ _).set _ _).set _ _,by simpa using hLn,fun j h1 h2=>?_,fun i hi hl=>?_⟩
 ·rw[List.getElem?_set_ne (by omega),List.getElem?_set_ne (by omega),List.getElem?_set_ne (by omega)]
  exact hLo j (by omega) h2
 ·by_cases hik:i=k
  ·subst hik
   refine⟨?_,?_,?_,?_⟩
   ·rw[List.getElem?_set_ne (by omega),List.getElem?_set_ne (by omega),List.getElem?_set_self (by omega)]
   ·rw[List.getElem?_set_ne (by omega),List.getElem?_set_self (by simp;omega)]
   ·rw[List.getElem?_set_self (by simp;omega)];show some v=some (if i=i then v else K' i);rw[if_pos rfl]
   ·show TyL bz _ _ _ (if i=i then v else K' i)
    rw[if_pos rfl]
    exact (hv.mono (ok':=fun q=>w.heap.size+2≤q∧q≠g) (fun q _ h=>⟨by omega,by omega⟩)).frame (set3 (fun q h=>h.2))
  ·obtain⟨e0,e1,e2,e3⟩:=hLd i (by omega) hl
   refine⟨?_,?_,?_,?_⟩
   ·rw[List.getElem?_set_ne (by omega),List.getElem?_set_ne (by omega),List.getElem?_set_ne (by omega)];exact e0
   ·rw[List.getElem?_set_ne (by omega),List.getElem?_set_ne (by omega),List.getElem?_set_ne (by omega)];exact e1
   ·rw[List.getElem?_set_ne (by omega),List.getElem?_set_ne (by omega),List.getElem?_set_ne (by omega)];show _=some (if i=k then v else K' i);rw[if_neg hik];exact e2
   ·show TyL bz _ _ _ (if i=k then v else K' i)
    rw[if_neg hik]
    exact (e3.frame (sK kk)).frame (set3 (fun q h=>h.2))
theorem CI.done {w wr:World} {l:List Ty} {kd:Int} {nm:ByteArray} {b off g:Nat} (h:CI bz w l kd nm l.length b off g l.length wr) (hne:l≠[]) (hg:w.heap.size+2≤g):TyL bz (fun k=>w.heap.size≤k) wr l (.slice (some ⟨g,0,none⟩) l.length l.length):=by
 obtain⟨L,K',bG,hLn,hLo,hLd⟩:=h.row
 refine TyL.mk K' hne (by omega) (Nat.le_refl _) (fun i hi=>?_) (fun i hi=>?_) (fun _=>⟨rfl,_,bG,by omega⟩)
 ·obtain⟨e0,e1,e2,e3⟩:=hLd i hi hi
  rw[Nat.zero_add]
  exact⟨by rw[bG.cell];exact e0,by rw[bG.cell];exact e1,by rw[bG.cell];exact e2⟩
 ·exact (hLd i hi hi).2.2.2.mono (fun q _ h=>by omega)
theorem three {n j:Nat} (h:j<n*3):∃ i r,i<n∧r<3∧j=i*3+r:=⟨j / 3,j % 3,by omega,by omega,by omega⟩
theorem copyTy_some {kd:Int} {nm:ByteArray} {l:List Ty} {w:World} {ok:Nat→Prop} {b off cp:Nat} (IH:∀ t,t∈l→CpC bz t) (hn:l.length≤1000000) (K:Nat→Value)
  (hcell:∀ i (h:i<l.length),w.cell? ⟨b,off+i*3,none⟩=some (.int .i64 l[i].kind)∧w.cell? ⟨b,off+i*3+1,none⟩=some (.string l[i].name)∧w.cell? ⟨b,off+i*3+2,none⟩=some (K i))
  (hk:∀ i (h:i<l.length),TyL bz ok w l[i].kids (K i)):
  Calls Tryz.prog 114 #[.agg #[.int .i64 kd,.string nm,.slice (some ⟨b,off,none⟩) l.length cp]] w fun e w'=>∃ v,e=.returned (.agg #[.int .i64 kd,.string nm,v])∧TyL bz (fun k=>w.heap.size≤k) w' l v∧Kept (fun _=>False) w w':=by
 have bA:Blk ((w.alloc (.cells #[.int .i64 kd,.string nm,.slice (some ⟨b,off,none⟩) l.length cp] 24)).alloc (.cells #[.int .i64 0,.string ⟨#[]⟩,.slice none 0 0] 24)) w.heap.size 24 [.int .i64 kd,.string nm,.slice (some ⟨b,off,none⟩) l.length cp]:=(Blk.new w 24 _).alloc _
 have bR:Blk ((w.alloc (.cells #[.int .i64 kd,.string nm,.slice (some ⟨b,off,none⟩) l.length cp] 24)).alloc (.cells #[.int .i64 0,.string ⟨#[]⟩,.slice none 0 0] 24)) (w.heap.size+1) 24 z24:=Blk.new' 24 _ (by simp)
 have K0:Kept (fun _=>False) w ((w.alloc (.cells #[.int .i64 kd,.string nm,.slice (some ⟨b,off,none⟩) l.length cp] 24)).alloc (.cells #[.int .i64 0,.string ⟨#[]⟩,.slice none 0 0] 24)):=(kR.alloc _).alloc _
 have z0:((w.alloc (.cells #[.int .i64 kd,.string nm,.slice (some ⟨b,off,none⟩) l.length cp] 24)).alloc (.cells #[.int .i64 0,.string ⟨#[]⟩,.slice none 0 0] 24)).heap.size=w.heap.size+2:=by simp
 have HCELL:=Ld hcell
 have HK:=Ld hk
 have HIH:=Ld IH
 clear hcell hk IH
 have hone:Hid (∀ j,j<l.length*3→∃ v,w.cell? ⟨b,off+j,none⟩=some v∧v.oneCell'=true):=Ld (by
  intro j hj
  obtain⟨i,r,hi,hr,rfl⟩:=three hj
  have c:=HCELL.out i hi
  rcases (show r=0∨r=1∨r=2 by omega) with rfl | rfl | rfl
  ·exact⟨_,c.1,rfl⟩
  ·exact⟨_,by rw[show off+(i*3+1)=off+i*3+1 by omega];exact c.2.1,rfl⟩
  ·obtain⟨a,n,c',hh⟩:=(HK.out i hi).slice
   exact⟨_,by rw[show off+(i*3+2)=off+i*3+2 by omega];exact c.2.2,by rw[hh];rfl⟩)
 have Z0:=Ld z0
 clear z0
 go_enter Tryz.func114,Tryz.ntmps114
 go_wp2_with fail
 refine (cloneTy_some b off l.length cp hn (fun j hj=>?_)).mono ?_
 ·obtain⟨v,hv,h1⟩:=hone.out j hj
  exact⟨v,by rw[K0.cell (p:=⟨b,off+j,none⟩) (cell_lt hv) (fun h=>h)];exact hv,h1⟩
 rintro e w1 ⟨v,rfl,⟨g,cap,L,rfl,hcap,hg,hL,hLl,hLc⟩,k1⟩
 rw[Z0.out] at hg
 have bA1:=bA.kept k1 (fun h=>h)
 have bR1:=bR.kept k1 (fun h=>h)
 have hA2:=bA1.cell 2
 have fA2:=bA1.frozen 2
 have HLC:=Ld hLc
 have HLL:=Ld hLl
 have HG:=Ld hg
 clear hLc hLl hg
 go_wp2_with (go_at_call 156;refine (clipTy_some _ g l.length cap hcap hn).mono ?_;rintro e w' ⟨rfl,rfl⟩)
 have c1:CI bz w l kd nm l.length b off g 0 (w1.setCell ⟨w.heap.size,2,none⟩ (.slice (some ⟨g,0,none⟩) l.length l.length)):=by
  have hg:=HG.out
  refine⟨(K0.via k1 (fun _ _ h=>h)).setCell (p:=⟨w.heap.size,2,none⟩) (Or.inr (Nat.le_refl _)) _,bA1.set 2 _,bR1.set_other _ _ (by show w.heap.size+1≠w.heap.size;omega),L,K,hL.set_other _ _ (by show g≠w.heap.size;omega),HLL.out,fun j _ hj=>?_,fun i hi=>absurd hi (Nat.not_lt_zero _)⟩
  rw[HLC.out j hj]
  obtain⟨v,hv,_⟩:=hone.out j hj
  rw[K0.cell (p:=⟨b,off+j,none⟩) (cell_lt hv) (fun h=>h)]
 have C1:=Ld c1
 clear c1 hA2 fA2 bA1 bR1 bA bR hL
 go_loopw [13] (fun i wr=>∃ k:Nat,k≤l.length∧i=.int .i64 k∧Hid (CI bz w l kd nm l.length b off g k wr)) (fun i _=>l.length-(intOf i).toNat)
 case atStart=>exact⟨0,Nat.zero_le _,rfl,C1⟩
 case round=>
  obtain⟨k,hkl,rfl,HCI⟩:=hrel
  have hg:=HG.out
  have qA:=HCI.out.a
  have qR:=HCI.out.r
  have kp:=HCI.out.kp
  obtain⟨L,K',bG,hLn,hLo,hLd⟩:=HCI.out.row
  have HLo:=Ld hLo
  have HLd:=Ld hLd
  have HLn:=Ld hLn
  have BG:=Ld bG
  clear hLo hLd hLn bG
  by_cases hlt:k<l.length
  ·have c0:wr.cell? ⟨g,k*3,none⟩=some (.int .i64 l[k].kind):=by
    rw[BG.out.cell,HLo.out (k*3) (Nat.le_refl _) (by omega)];exact (HCELL.out k hlt).1
   have c1:wr.cell? ⟨g,k*3+1,none⟩=some (.string l[k].name):=by
    rw[BG.out.cell,HLo.out (k*3+1) (by omega) (by omega)];exact (HCELL.out k hlt).2.1
   obtain⟨ta,tn,tc,hKk⟩:=(HK.out k hlt).slice
   have c2:wr.cell? ⟨g,k*3+2,none⟩=some (.slice ta tn tc):=by
    rw[BG.out.cell,HLo.out (k*3+2) (by omega) (by omega),← hKk];exact (HCELL.out k hlt).2.2
   have i1:(k:Int)<(l.length:Int):=by omega
   have a2:wr.cell? ⟨w.heap.size,2,none⟩=some (.slice (some ⟨g,0,none⟩) l.length l.length):=qA.cell 2
   have lA:=qA.lt
   have lG:=BG.out.lt
   have hcon:=Ld (HIH.out _ (List.getElem_mem hlt))
   have hty:Hid (TyL bz ok wr l[k].kids (.slice ta tn tc)):=Ld (by rw[← hKk];exact (HK.out k hlt).frame (sK kp))
   clear hKk
   go_wp2_with fail
   have bX:Blk (wr.alloc (.cells #[.int .i64 l[k].kind,.string l[k].name,.slice ta tn tc] 24)) wr.heap.size 24 [.int .i64 l[k].kind,.string l[k].name,.slice ta tn tc]:=Blk.new wr 24 _
   have hAX:w.heap.size≠wr.heap.size:=by omega
   have hGX:g≠wr.heap.size:=by omega
   have hAG:g≠w.heap.size:=by omega
   refine wp_gen (F:=fun W3=>Kept (fun _=>False) wr W3∧Blk W3 wr.heap.size 24 [.int .i64 l[k].kind,.string l[k].name,.slice ta tn tc]∧wr.heap.size<W3.heap.size) ⟨kR.alloc _,bX,bX.lt⟩ ?_
   rintro W3 ⟨k3,b3,z3⟩
   have a3:W3.cell? ⟨w.heap.size,2,none⟩=some (.slice (some ⟨g,0,none⟩) l.length l.length):=(qA.kept k3 (fun h=>h)).cell 2
   have x0:W3.cell? ⟨wr.heap.size,0,none⟩=some (.int .i64 l[k].kind):=b3.cell 0
   have x1:W3.cell? ⟨wr.heap.size,1,none⟩=some (.string l[k].name):=b3.cell 1
   have x2:W3.cell? ⟨wr.heap.size,2,none⟩=some (.slice ta tn tc):=b3.cell 2
   have HC3:Hid (Calls Tryz.prog 114 #[.agg #[.int .i64 l[k].kind,.string l[k].name,.slice ta tn tc]] W3.drew fun e w'=>∃ v,e=.returned (tyVal l[k] v)∧TyL bz (fun q=>W3.heap.size≤q) w' l[k].kids v∧Kept (fun _=>False) W3 w'):=Ld ((hcon.out W3.drew ok (.slice ta tn tc) ((hty.out.frame (sK k3)).frame (Same.drew _))).mono fun e w' ⟨v,h1,h2,h3⟩=>⟨v,h1,h2,(kR.drew).trans h3⟩)
   have B3:=Ld b3
   have G3:=Ld (BG.out.kept k3 (fun h=>h))
   clear b3 bX c0 c1 c2 a2
   go_region_held3 (fun w'=>w'.cell? ⟨w.heap.size,2,none⟩=some (.slice (some ⟨g,0,none⟩) l.length l.length)∧w'.cell? ⟨wr.heap.size,0,none⟩=some (.int .i64 l[k].kind)∧w'.cell? ⟨wr.heap.size,1,none⟩=some (.string l[k].name)∧w'.cell? ⟨wr.heap.size,2,none⟩=some (.slice ta tn tc)) (go_keep)
    (first | (go_at_call 114;refine HC3.out.mono ?_;rintro e w4 ⟨v,rfl,hv,k4⟩;obtain⟨va,vn,vc,rfl⟩:=hv.slice;unfold tyVal;have G4:=G3.out.kept k4 (fun h=>h);have y0:w4.cell? ⟨w.heap.size,2,none⟩=some (.slice (some ⟨g,0,none⟩) l.length l.length):=(by rw[k4.cell (p:=⟨w.heap.size,2,none⟩) (by show w.heap.size<_;omega) (fun h=>h)];exact a3);have y1:w4.cell? ⟨wr.heap.size,0,none⟩=some (.int .i64 l[k].kind):=(B3.out.kept k4 (fun h=>h)).cell 0;have y2:w4.cell? ⟨wr.heap.size,1,none⟩=some (.string l[k].name):=(B3.out.kept k4 (fun h=>h)).cell 1;have y3:w4.cell? ⟨wr.heap.size,2,none⟩=some (.slice ta tn tc):=(B3.out.kept k4 (fun h=>h)).cell 2;have t0:w4.cell? ⟨g,k*3,none⟩=some (L[k*3]'(by have:=HLn.out;omega)):=(by rw[G4.cell];exact List.getElem?_eq_getElem _);have t1:w4.cell? ⟨g,k*3+1,none⟩=some (L[k*3+1]'(by have:=HLn.out;omega)):=(by rw[G4.cell];exact List.getElem?_eq_getElem _);have t2:w4.cell? ⟨g,k*3+2,none⟩=some (L[k*3+2]'(by have:=HLn.out;omega)):=(by rw[G4.cell];exact List.getElem?_eq_getElem _);have f0:=G4.frozen (k*3);have f1:=G4.frozen (k*3+1);have f2:=G4.frozen (k*3+2)))
   have HST:=Ld (HCI.out.step hg hlt (k3.trans k4) (hv.mono (fun q _ h=>by omega)))
   go_wp2_with fail
   go_roundw
   case rel=>exact⟨k+1,by omega,by go_num,HST⟩
   case measure=>simp[intOf];omega
  ·have hkk:k=l.length:=by omega
   subst hkk
   have a0:wr.cell? ⟨w.heap.size,0,none⟩=some (.int .i64 kd):=qA.cell 0
   have a1:wr.cell? ⟨w.heap.size,1,none⟩=some (.string nm):=qA.cell 1
   have a2:wr.cell? ⟨w.heap.size,2,none⟩=some (.slice (some ⟨g,0,none⟩) l.length l.length):=qA.cell 2
   have r0:wr.cell? ⟨w.heap.size+1,0,none⟩=some (.int .i64 0):=qR.cell 0
   have r1:wr.cell? ⟨w.heap.size+1,1,none⟩=some (.string ⟨#[]⟩):=qR.cell 1
   have r2:wr.cell? ⟨w.heap.size+1,2,none⟩=some (.slice none 0 0):=qR.cell 2
   have f0:=qR.frozen 0
   have f1:=qR.frozen 1
   have f2:=qR.frozen 2
   have QR:=Ld qR
   have KP:=Ld kp
   clear qR kp qA
   go_wp2_with fail
   have bF:=r3' (x:=.int .i64 kd) (y:=.string nm) (z:=.slice (some ⟨g,0,none⟩) l.length l.length) QR.out rfl
   refine bodyPost_ret (results_one Tryz.results114 rfl (load_ty (t:=.mk kd nm l) bF)) rfl ⟨_,rfl,?_,?_⟩
   ·by_cases hne:l=[]
    ·subst hne;exact .nil (Or.inr ⟨_,_,rfl⟩)
    ·have D:=HCI.out.done hne hg
     obtain⟨L,K',bG,hLn,hLo,hLd⟩:=HCI.out.row
     refine TyL.mk K' hne (by omega) (Nat.le_refl _) (fun i hi=>?_) (fun i hi=>?_) (fun _=>⟨rfl,_,((bG.set_other ⟨w.heap.size+1,0,none⟩ (.int .i64 kd) (by show g≠w.heap.size+1;omega)).set_other ⟨w.heap.size+1,1,none⟩ (.string nm) (by show g≠w.heap.size+1;omega)).set_other ⟨w.heap.size+1,2,none⟩ _ (by show g≠w.heap.size+1;omega),by omega⟩)
     ·obtain⟨e0,e1,e2,e3⟩:=hLd i hi hi
      rw[Nat.zero_add]
      have bG':=((bG.set_other ⟨w.heap.size+1,0,none⟩ (.int .i64 kd) (by show g≠w.heap.size+1;omega)).set_other ⟨w.heap.size+1,1,none⟩ (.string nm) (by show g≠w.heap.size+1;omega)).set_other ⟨w.heap.size+1,2,none⟩ (.slice (some ⟨g,0,none⟩) l.length l.length) (by show g≠w.heap.size+1;omega)
      exact⟨by rw[bG'.cell];exact e0,by rw[bG'.cell];exact e1,by rw[bG'.cell];exact e2⟩
     ·exact ((hLd i hi hi).2.2.2.frame (set3 (g:=w.heap.size+1) (fun q h=>by omega))).mono (fun q _ h=>by omega)
   ·exact ((KP.out.setCell (p:=⟨w.heap.size+1,0,none⟩) (Or.inr (by show w.heap.size≤w.heap.size+1;omega)) _).setCell (p:=⟨w.heap.size+1,1,none⟩) (Or.inr (by show w.heap.size≤w.heap.size+1;omega)) _).setCell (p:=⟨w.heap.size+1,2,none⟩) (Or.inr (by show w.heap.size≤w.heap.size+1;omega)) _
theorem copyTy_any {t:Ty} (hb:BdTy t):CpC bz t:=by
 induction hb with
 | mk hn hl ih=>
  intro w ok tk h
  cases h with
  | nil h=>
   rcases h with rfl | ⟨ad,c,rfl⟩
   ·exact copyTy_nil.mono fun e w' ⟨h1,h2⟩=>⟨_,h1,.nil0,h2⟩
   ·exact (copyTy_zero ad c).mono fun e w' ⟨g,cap,h1,h2⟩=>⟨_,h1,.nil (Or.inr ⟨_,_,rfl⟩),h2⟩
  | mk K hne hb hc hcell hk hs2=>exact (copyTy_some ih hn K hcell hk).mono fun e w' ⟨v,h1,h2,h3⟩=>⟨v,h1,h2,h3⟩
end Go.Proofs.YtdmebjbkccjhbaaGreatDoor
