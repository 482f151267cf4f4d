/- A part. -/
import Derived.Test.YtdmebjbkccjhbaaGreatDoorV6
import Derived.Maps.RangeWalk
import Derived.Maps.Own
set_option linter.unusedVariables false
set_option linter.unusedSimpArgs false
set_option maxRecDepth 100000
set_option maxHeartbeats 32000000
namespace Go.Proofs.YtdmebjbkccjhbaaGreatDoor
open Go.RowKit
variable {bz:Nat}
abbrev E2:=Ty×Value
def tyCells (t:Ty) (tk:Value):List Value:=[.int .i64 t.kind,.string t.name,tk]
def flatY:List E2→List Value
 | []=>[]
 | e::E=>tyCells e.1 e.2++flatY E
def ELY (bz:Nat) (ok:Nat→Prop) (w:World) (E:List E2):Prop:=∀ e∈E,TyL bz ok w e.1.kids e.2
theorem flatY_len:∀ (E:List E2),(flatY E).length=E.length*3
 | []=>rfl
 | e::E=>by rw[flatY,List.length_append,flatY_len E,List.length_cons];show 3+_=_;omega
theorem flatY_snoc:∀ (E:List E2) (e:E2),flatY (E++[e])=flatY E++tyCells e.1 e.2
 | [],e=>by simp[flatY]
 | x::E,e=>by rw[List.cons_append,flatY,flatY_snoc E e,flatY,List.append_assoc]
theorem flatY_get:∀ (E:List E2) (i j:Nat) (h:i<E.length),j<3→(flatY E)[i*3+j]?=(tyCells E[i].1 E[i].2)[j]?
 | e::E,0,j,_,hj=>by
  rw[flatY,Nat.zero_mul,Nat.zero_add,List.getElem?_append_left (by show j<3;exact hj)];rfl
 | e::E,i+1,j,h,hj=>by
  rw[flatY,List.getElem?_append_right (by show 3≤_;omega)]
  have:=flatY_get E i j (by simpa using h) hj
  rw[show (i+1)*3+j-(tyCells e.1 e.2).length=i*3+j by show (i+1)*3+j-3=_;omega,this]
  rfl
theorem tyl_of_row {ok:Nat→Prop} {w:World} {base:Nat} {v:Value} {E:List E2} (hown:w.ownsRow base 24 3 v E.length (flatY E)) (hl:ELY bz ok w E) (hok:∀ g,v.ownBlock=some g→ok g):TyL bz ok w (E.map (·.1)) v:=by
 obtain⟨_,hv⟩:=hown
 rcases hv with ⟨hv,hn⟩ | ⟨g,cap,cur,rfl,hbg,hg,hnc,hcm,hcs,htake⟩
 ·have:E=[]:=List.length_eq_zero_iff.1 hn
  subst this
  rw[hv];exact .nil (Or.inl rfl)
 ·by_cases hE:E=[]
  ·subst hE;exact .nil (Or.inr ⟨_,_,rfl⟩)
  have hb:Blk w g 24 cur.toList:=by show w.heap[g]?=_;rw[hg]
  have hc:∀ i j,i<E.length→j<3→w.cell? ⟨g,0+i*3+j,none⟩=(flatY E)[i*3+j]?:=by
   intro i j hi hj
   rw[hb.cell,← htake,List.getElem?_take,if_pos (by omega),Nat.zero_add]
  have:=TyL.mk (bz:=bz) (ok:=ok) (w:=w) (l:=E.map (·.1)) (b:=g) (off:=0) (cap:=cap) (fun i=>(E.getD i (ty0,undef)).2) (by simpa using hE) (hok g rfl) (by simpa using hnc) (fun i h=>?_) (fun i h=>?_) (fun _=>⟨rfl,_,hb,by rw[List.length_map];have h5:=congrArg List.length htake;rw[List.length_take,flatY_len] at h5;omega⟩)
  ·rw[List.length_map] at this;exact this
  all_goals
   have hi:i<E.length:=by simpa using h
   have e1:(E.map (·.1))[i]=E[i].1:=List.getElem_map ..
   have e2:E.getD i (ty0,undef)=E[i]:=by rw[List.getD_eq_getElem?_getD,List.getElem?_eq_getElem hi];rfl
   rw[e1]
   try rw[e2]
  ·exact⟨(hc i 0 hi (by omega)).trans (flatY_get E i 0 hi (by omega)),(hc i 1 hi (by omega)).trans (flatY_get E i 1 hi (by omega)),(hc i 2 hi (by omega)).trans (flatY_get E i 2 hi (by omega))⟩
  ·exact hl _ (List.getElem_mem hi)
theorem ELY.frame {ok:Nat→Prop} {w w':World} {E:List E2} (h:ELY bz ok w E) (hs:Same ok w w'):ELY bz ok w' E:=fun e he=>(h e he).frame hs
theorem ELY.mono {ok ok':Nat→Prop} {w:World} {E:List E2} (h:ELY bz ok w E) (ho:∀ k,k<w.heap.size→ok k→ok' k):ELY bz ok' w E:=fun e he=>(h e he).mono ho
theorem ELY.snoc {ok:Nat→Prop} {w:World} {E:List E2} {e:E2} (h:ELY bz ok w E) (ha:TyL bz ok w e.1.kids e.2):ELY bz ok w (E++[e]):=by
 intro x hx
 rcases List.mem_append.1 hx with hx | hx
 ·exact h x hx
 ·rw[List.mem_singleton.1 hx];exact ha
theorem own_keptT {S:Nat→Prop} {T sz:Nat} {w w':World} {base:Nat} {v:Value} {n:Nat} {xs:List Value} (h:w.ownsRow base T sz v n xs) (hk:Kept S w w') (hS:∀ g,v.ownBlock=some g→¬ S g):w'.ownsRow base T sz v n xs:=by
 obtain⟨h1,h2⟩:=h
 refine⟨h1,?_⟩
 rcases h2 with h2 | ⟨g,cap,cur,hv,hbg,hg,r⟩
 ·exact .inl h2
 ·refine .inr ⟨g,cap,cur,hv,hbg,?_,r⟩
  rw[hk.block g (Array.getElem?_eq_some_iff.1 hg).1 (hS g (by rw[hv];rfl))]
  exact hg
theorem own_base {T sz:Nat} {w:World} {base base':Nat} {v:Value} {n:Nat} {xs:List Value} (h:w.ownsRow base T sz v n xs) (hb:∀ g,v.ownBlock=some g→base'≤g):w.ownsRow base' T sz v n xs:=by
 obtain⟨h1,h2⟩:=h
 refine⟨h1,?_⟩
 rcases h2 with h2 | ⟨g,cap,cur,hv,hbg,r⟩
 ·exact .inl h2
 ·exact .inr ⟨g,cap,cur,hv,hb g (by rw[hv];rfl),r⟩
theorem tml_of_row' {ok:Nat→Prop} {w:World} {base:Nat} {v:Value} {E:List E3} (hown:w.ownsRow base 27 7 v E.length (flat E)) (hl:EL bz ok w E) (hok:∀ g,v.ownBlock=some g→ok g):TmL bz ok w (E.map (·.1)) v:=by
 by_cases hE:E=[]
 ·subst hE
  rcases hown.2 with ⟨hv,_⟩ | ⟨g,cap,cur,rfl,_⟩
  ·rw[hv];exact .nil (Or.inl rfl)
  ·exact .nil (Or.inr ⟨_,_,rfl⟩)
 ·exact tml_of_row hE hown hl hok
theorem flat_app:∀ (E F:List E3),flat (E++F)=flat E++flat F
 | [],F=>rfl
 | x::E,F=>by rw[List.cons_append,flat,flat_app E F,flat,List.append_assoc]
theorem EL.app {ok:Nat→Prop} {w:World} {E F:List E3} (h:EL bz ok w E) (k:EL bz ok w F):EL bz ok w (E++F):=by
 intro x hx
 rcases List.mem_append.1 hx with hx | hx
 ·exact h x hx
 ·exact k x hx
structure C3 (w:World) (g o:Nat) (t:Ty) (tk:Value):Prop where
 c0:w.cell? ⟨g,o,none⟩=some (.int .i64 t.kind)
 c1:w.cell? ⟨g,o+1,none⟩=some (.string t.name)
 c2:w.cell? ⟨g,o+2,none⟩=some tk
structure C7 (w:World) (g o:Nat) (t:Tm) (tk kk:Value):Prop where
 c0:w.cell? ⟨g,o,none⟩=some (.int .i64 t.op)
 c1:w.cell? ⟨g,o+1,none⟩=some (.string t.name)
 c2:w.cell? ⟨g,o+2,none⟩=some (.int .i64 t.n)
 c3:w.cell? ⟨g,o+3,none⟩=some (.int .i64 t.ty.kind)
 c4:w.cell? ⟨g,o+4,none⟩=some (.string t.ty.name)
 c5:w.cell? ⟨g,o+5,none⟩=some tk
 c6:w.cell? ⟨g,o+6,none⟩=some kk
theorem C7.same {w W:World} {g o:Nat} {t:Tm} {tk kk:Value} (h:C7 w g o t tk kk) {ok:Nat→Prop} (hs:Same ok w W) (hg:ok g):C7 W g o t tk kk:=
 ⟨hs.cell hg h.c0,hs.cell hg h.c1,hs.cell hg h.c2,hs.cell hg h.c3,hs.cell hg h.c4,hs.cell hg h.c5,hs.cell hg h.c6⟩
theorem C7.kept {w W:World} {g o:Nat} {t:Tm} {tk kk:Value} (h:C7 w g o t tk kk) {S:Nat→Prop} (k:Kept S w W) (hg:¬ S g):C7 W g o t tk kk:=h.same (Same.of_kept (ok:=(·=g)) k (fun q e=>e ▸ hg)) rfl
theorem TyL.at {ok:Nat→Prop} {w:World} {l:List Ty} {a:Option Addr} {n c:Nat} (h:TyL bz ok w l (.slice a n c)) (i:Nat) (hi:i<l.length):∃ g off ta tn tc,a=some ⟨g,off,none⟩∧ok g∧g<w.heap.size∧C3 w g (off+i*3) l[i] (.slice ta tn tc)∧TyL bz ok w l[i].kids (.slice ta tn tc):=by
 generalize hv:Value.slice a n c=v at h
 cases h with
 | nil he=>exact absurd hi (Nat.not_lt_zero _)
 | mk K hne hb hc hcell hk hs2=>
  cases hv
  obtain⟨ta,tn,tc,hK⟩:=(hk i hi).slice
  exact⟨_,_,ta,tn,tc,rfl,hb,cell_lt (hcell i hi).1,⟨(hcell i hi).1,(hcell i hi).2.1,by rw[← hK];exact (hcell i hi).2.2⟩,by rw[← hK];exact hk i hi⟩
theorem TmL.at {ok:Nat→Prop} {w:World} {l:List Tm} {a:Option Addr} {n c:Nat} (h:TmL bz ok w l (.slice a n c)) (i:Nat) (hi:i<l.length):∃ g off ta tn tc ma mn mc,a=some ⟨g,off,none⟩∧ok g∧g<w.heap.size∧C7 w g (off+i*7) l[i] (.slice ta tn tc) (.slice ma mn mc)∧TyL bz ok w l[i].ty.kids (.slice ta tn tc)∧TmL bz ok w l[i].kids (.slice ma mn mc):=by
 generalize hv:Value.slice a n c=v at h
 cases h with
 | nil he=>exact absurd hi (Nat.not_lt_zero _)
 | mk K M hne hb hc hcell hk hm hs2=>
  cases hv
  obtain⟨ta,tn,tc,hK⟩:=(hk i hi).slice
  obtain⟨ma,mn,mc,hM⟩:=(hm i hi).slice
  have c:=hcell i hi
  exact⟨_,_,ta,tn,tc,ma,mn,mc,rfl,hb,cell_lt c.1,⟨c.1,c.2.1,c.2.2.1,c.2.2.2.1,c.2.2.2.2.1,by rw[← hK];exact c.2.2.2.2.2.1,by rw[← hM];exact c.2.2.2.2.2.2⟩,by rw[← hK];exact hk i hi,by rw[← hM];exact hm i hi⟩
theorem newsT {w:World} {B T:Nat} {cs:List Value} (hb:Blk w B T cs):∀ j x,cs[j]?=some x→w.cell? ((⟨B,0,none⟩:Addr).add j)=some x:=by
 intro j x hx
 have:=hb.cell j
 rw[← hx,← this];cases j <;> simp[Addr.add]
theorem oneY {u:Ty} {a:Option Addr} {n c:Nat}:∀ x,x∈tyCells u (.slice a n c)→x.oneCell'=true:=by
 intro x hx
 unfold tyCells at hx
 simp only[List.mem_cons,List.not_mem_nil,or_false] at hx
 rcases hx with rfl | rfl | rfl <;> rfl
theorem oneT {u:Tm} {a d:Option Addr} {n c e f:Nat}:∀ x,x∈tmCells u (.slice a n c) (.slice d e f)→x.oneCell'=true:=by
 intro x hx
 unfold tmCells at hx
 simp only[List.mem_cons,List.not_mem_nil,or_false] at hx
 rcases hx with rfl | rfl | rfl | rfl | rfl | rfl | rfl <;> rfl
theorem info_ty:∃ i,Tryz.prog.info? 24=some i∧i.zero=some (.agg #[.int .i64 0,.string ⟨#[]⟩,.slice none 0 0])∧i.size=3∧i.bytes=48:=by
 have:=info24
 cases hh:Tryz.prog.info? 24 with
 | none=>rw[hh] at this;cases this
 | some i=>rw[hh] at this;simp only[Option.map_some,Option.some.injEq,Prod.mk.injEq] at this;exact⟨i,rfl,this.1,this.2.1,this.2.2⟩
theorem info_tm:∃ i,Tryz.prog.info? 27=some i∧i.zero=some (.agg #[.int .i64 0,.string ⟨#[]⟩,.int .i64 0,.int .i64 0,.string ⟨#[]⟩,.slice none 0 0,.slice none 0 0])∧i.size=7∧i.bytes=104:=by
 have:=info27
 cases hh:Tryz.prog.info? 27 with
 | none=>rw[hh] at this;cases this
 | some i=>rw[hh] at this;simp only[Option.map_some,Option.some.injEq,Prod.mk.injEq] at this;exact⟨i,rfl,this.1,this.2.1,this.2.2⟩
theorem results_ct {P:Program} {fn:Func} {p q:Tmp} {ty:TypeId} (h:fn.results=#[.cell p ty,.tmp q]) {tmps:Array Value} {a:Addr} (ha:tmps.getD p undef=.pointer (some a)) {v:Value} {W:World}
  (hl:(loadVar ty a).run P W=.ok v W):(results fn tmps).run P W=.ok (.tuple #[v,tmps.getD q undef]) W:=by
 have e:results fn tmps=(do let v ← (do loadVar ty (← asAddr (tmps.getD p undef)));pure (Value.tuple #[v,tmps.getD q undef])):=by
  unfold results;rw[h];simp
 rw[e,ha]
 show (loadVar ty a >>= fun v=>pure (Value.tuple #[v,tmps.getD q undef])).run P W=_
 rw[Sem.run_bind,hl]
 rfl
def okb (base:Nat) (v:Value) (q:Nat):Prop:=base≤q∧v.ownBlock≠some q
structure RowT (bz:Nat) (w:World) (base:Nat) (wr:World) (E:List E3) (v:Value):Prop where
 kp:Kept (fun _=>False) w wr
 own:wr.ownsRow base 27 7 v E.length (flat E)
 el:EL bz (okb base v) wr E
theorem RowT.tml {w wr:World} {base:Nat} {E:List E3} {v:Value} (h:RowT bz w base wr E v):TmL bz (fun q=>base≤q) wr (E.map (·.1)) v:=
 tml_of_row' h.own (h.el.mono (fun _ _ h=>h.1)) (fun g hg=>(h.own.lt g hg).1)
theorem RowT.kept {w wr w':World} {base:Nat} {E:List E3} {v:Value} (h:RowT bz w base wr E v) (k:Kept (fun _=>False) wr w'):RowT bz w base w' E v:=
 ⟨h.kp.trans k,own_keptT h.own k (fun _ _ h=>h),h.el.frame (sK k)⟩
theorem RowT.nil {w wr:World} {base:Nat} (k:Kept (fun _=>False) w wr):RowT bz w base wr [] (.slice none 0 0):=⟨k,World.ownsRow_nil _ _ _ _,fun e he=>by cases he⟩
theorem RowT.app {w wr w6 W8:World} {base:Nat} {E F:List E3} {v:Value} {gg n cap H:Nat} (hb:w.heap.size≤base) (h:RowT bz w base wr E v) (k6:Kept (fun _=>False) wr w6) (hbl:base≤wr.heap.size)
  (hF:EL bz (fun q=>wr.heap.size≤q) w6 F)
  (own8:W8.ownsRow base 27 7 (.slice (some ⟨gg,0,none⟩) n cap) n (flat E++flat F)) (hn:n=E.length+F.length) (hgrow:w6.grownBy W8 v.ownBlock) (hat:v.ownBlock=some gg∨gg=H) (hH:H=w6.heap.size):
  RowT bz w base W8 (E++F) (.slice (some ⟨gg,0,none⟩) n cap):=by
 have kG:=kept_grown hgrow
 have z6:=k6.size
 have zk:=h.kp.size
 have hvb:∀ x,v.ownBlock=some x→base≤x∧x<wr.heap.size:=fun x e=>h.own.lt x e
 refine⟨(h.kp.trans k6).via kG (fun x hx e=>by have:=(hvb x e).1;omega),by rw[flat_app,List.length_append,← hn];exact own8,?_⟩
 have e1:EL bz (okb base v) w6 (E++F):=(h.el.frame (sK k6)).app (hF.mono (fun q _ hq=>⟨by omega,fun e=>by have:=(hvb q e).2;omega⟩))
 have e2:=e1.mono (ok':=fun q=>okb base v q∧okb base (.slice (some ⟨gg,0,none⟩) n cap) q) (fun q hq hh=>⟨hh,hh.1,fun e=>by
  have e1:gg=q:=Option.some.inj e
  rcases hat with hat | hat
  ·exact hh.2 (by rw[hat,e1])
  ·omega⟩)
 exact (e2.frame (Same.of_kept kG (fun q hq e=>hq.1.2 e))).mono (fun q _ hq=>hq.2)
theorem RowT.step {w wr w6 W8:World} {base:Nat} {E:List E3} {v tk kk:Value} {t:Tm} {gg cap H:Nat} (hb:w.heap.size≤base) (h:RowT bz w base wr E v) (k6:Kept (fun _=>False) wr w6) (hbl:base≤wr.heap.size)
  (hty:TyL bz (fun q=>wr.heap.size≤q) w6 t.ty.kids tk) (htm:TmL bz (fun q=>wr.heap.size≤q) w6 t.kids kk)
  (own8:W8.ownsRow base 27 7 (.slice (some ⟨gg,0,none⟩) (E.length+1) cap) (E.length+1) (flat E++tmCells t tk kk)) (o:Obj) (hgrow:(w6.alloc o).grownBy W8 v.ownBlock) (hat:v.ownBlock=some gg∨gg=H) (hH:H=w6.heap.size+1):
  RowT bz w base W8 (E++[(t,tk,kk)]) (.slice (some ⟨gg,0,none⟩) (E.length+1) cap):=by
 refine RowT.app (w6:=w6.alloc o) (F:=[(t,tk,kk)]) hb h (k6.alloc _) hbl ?_ (by show W8.ownsRow base 27 7 _ _ (flat E++(tmCells t tk kk++[]));rw[List.append_nil];exact own8) rfl hgrow hat (by rw[hH];simp)
 intro e he
 rw[List.mem_singleton.1 he]
 exact⟨hty.frame (Same.alloc _ _),htm.frame (Same.alloc _ _)⟩
def RCpC (bz:Nat) (t:Ty):Prop:=∀ (w:World) (ok:Nat→Prop) (tk:Value),TyL bz ok w t.kids tk →
 Calls Tryz.prog 64 #[tyVal t tk] w fun e w'=>∃ v,e=.returned (tyVal t v)∧TyL bz (fun k=>w.heap.size≤k) w' t.kids v∧Kept (fun _=>False) w w'
structure RC (bz:Nat) (w:World) (kd:Int) (nm:ByteArray) (l:List Ty) (a:Option Addr) (c k:Nat) (wr:World) (E:List E2) (v:Value):Prop where
 kp:Kept (fun _=>False) w wr
 a:Blk wr w.heap.size 24 [.int .i64 kd,.string nm,.slice a l.length c]
 r:Blk wr (w.heap.size+1) 24 [.int .i64 0,.string ⟨#[]⟩,.slice none 0 0]
 o:Blk wr (w.heap.size+2) 24 [.int .i64 kd,.string nm,v]
 own:wr.ownsRow (w.heap.size+3) 24 3 v E.length (flatY E)
 el:ELY bz (fun q=>w.heap.size+3≤q∧v.ownBlock≠some q) wr E
 len:E.length=k
 mp:E.map (·.1)=l.take k
theorem RC.step {w wr w6 W8:World} {kd:Int} {nm:ByteArray} {l:List Ty} {a:Option Addr} {c k:Nat} {E:List E2} {v u:Value} {va:Option Addr} {vn vc gg cap:Nat} (h:RC bz w kd nm l a c k wr E v) (hk:k<l.length) (k6:Kept (fun _=>False) wr w6) (hu:TyL bz (fun q=>wr.heap.size≤q) w6 l[k].kids u)
  (hv:v=.slice va vn vc) (o:Obj) (own8:W8.ownsRow (w.heap.size+3) 24 3 (.slice (some ⟨gg,0,none⟩) (E.length+1) cap) (E.length+1) (flatY E++tyCells l[k] u)) (hgrow:(w6.alloc o).grownBy W8 v.ownBlock) (hat:v.ownBlock=some gg∨gg=w6.heap.size+1):
  RC bz w kd nm l a c (k+1) (W8.setCell ⟨w.heap.size+2,2,none⟩ (.slice (some ⟨gg,0,none⟩) (E.length+1) cap)) (E++[(l[k],u)]) (.slice (some ⟨gg,0,none⟩) (E.length+1) cap):=by
 have kA:Kept (fun _=>False) wr (w6.alloc o):=k6.alloc _
 have kG:=kept_grown hgrow
 have zA:(w6.alloc o).heap.size=w6.heap.size+1:=by simp
 have z6:=k6.size
 have zr:=h.o.lt
 have hg3:w.heap.size+3≤gg:=by
  have:=(own8.lt gg rfl).1;exact this
 have hvb:∀ x,v.ownBlock=some x→w.heap.size+3≤x∧x<wr.heap.size:=fun x e=>h.own.lt x e
 have kS:Kept (·=w.heap.size+2) W8 (W8.setCell ⟨w.heap.size+2,2,none⟩ (.slice (some ⟨gg,0,none⟩) (E.length+1) cap)):=(Kept.refl (fun x=>x=w.heap.size+2) _).setCell (p:=⟨w.heap.size+2,2,none⟩) (Or.inl rfl) _
 refine⟨((h.kp.trans kA).via kG (fun x hx e=>by have:=(hvb x e).1;omega)).via kS (fun x hx e=>by have e':x=w.heap.size+2:=e;omega),
  ((h.a.kept kA (fun h=>h)).kept kG (fun e=>by have:=(hvb _ e).1;omega)).kept kS (by show ¬ w.heap.size=w.heap.size+2;omega),
  ((h.r.kept kA (fun h=>h)).kept kG (fun e=>by have:=(hvb _ e).1;omega)).kept kS (by show ¬ w.heap.size+1=w.heap.size+2;omega),
  ((h.o.kept kA (fun h=>h)).kept kG (fun e=>by have:=(hvb _ e).1;omega)).set 2 _,?_,?_,by simp[h.len],?_⟩
 ·have:=own_keptT own8 kS (fun g hg e=>by have e':some gg=some g:=hg;have e2:=Option.some.inj e';have e3:g=w.heap.size+2:=e;omega)
  rw[flatY_snoc,List.length_append];exact this
 ·have e1:ELY bz (fun q=>w.heap.size+3≤q∧v.ownBlock≠some q) w6 (E++[(l[k],u)]):=(h.el.frame (sK k6)).snoc (e:=(l[k],u)) (hu.mono (fun q _ hq=>⟨by omega,fun e=>by have:=(hvb q e).2;omega⟩))
  have e2:=(e1.frame (Same.alloc _ o)).mono (ok':=fun q=>(w.heap.size+3≤q∧v.ownBlock≠some q)∧w.heap.size+3≤q∧(Value.slice (some ⟨gg,0,none⟩) (E.length+1) cap).ownBlock≠some q) (fun q hq hh=>⟨hh,hh.1,fun e=>by
   have e1:gg=q:=Option.some.inj e
   rcases hat with hat | hat
   ·exact hh.2 (by rw[hat,e1])
   ·omega⟩)
  exact ((e2.frame (Same.of_kept kG (fun q hq e=>hq.1.2 e))).frame (Same.of_kept kS (fun q hq e=>by have e':q=w.heap.size+2:=e;have:=hq.1.1;omega))).mono (fun q _ hq=>hq.2)
 ·rw[List.map_append,h.mp,List.take_succ_eq_append_getElem hk];rfl
theorem rcopyTy_one {kd:Int} {nm:ByteArray} {l:List Ty} (IH:∀ t,t∈l→RCpC bz t) (hn1:l.length≤1000000):RCpC bz (.mk kd nm l):=by
 intro w ok tk hk
 obtain⟨a,n,c,rfl⟩:=hk.slice
 have hn:n=l.length:=hk.len
 subst hn
 have hk':TyL bz ok w l (.slice a l.length c):=hk
 clear hk
 have HIH:=Ld IH
 have HN1:=Ld hn1
 clear IH hn1
 have HAT:=Ld (fun W (k:Kept (fun _=>False) w W)=>(hk'.frame (sK k)).at)
 clear hk'
 change Calls Tryz.prog 64 #[.agg #[.int .i64 kd,.string nm,.slice a l.length c]] w _
 have b3:=Blk.new' (w:=(w.alloc (.cells #[.int .i64 kd,.string nm,.slice a l.length c] 24)).alloc (.cells #[.int .i64 0,.string ⟨#[]⟩,.slice none 0 0] 24)) (g:=w.heap.size+2) 24 [.int .i64 kd,.string nm,.slice none 0 0] (by simp)
 have bA:=(((Blk.new w 24 [.int .i64 kd,.string nm,.slice a l.length c]).alloc (.cells #[.int .i64 0,.string ⟨#[]⟩,.slice none 0 0] 24)).alloc (.cells #[.int .i64 kd,.string nm,.slice none 0 0] 24))
 have bR:=((Blk.new' (w:=w.alloc (.cells #[.int .i64 kd,.string nm,.slice a l.length c] 24)) (g:=w.heap.size+1) 24 [.int .i64 0,.string ⟨#[]⟩,.slice none 0 0] (by simp)).alloc (.cells #[.int .i64 kd,.string nm,.slice none 0 0] 24))
 have K0:Kept (fun _=>False) w (((w.alloc (.cells #[.int .i64 kd,.string nm,.slice a l.length c] 24)).alloc (.cells #[.int .i64 0,.string ⟨#[]⟩,.slice none 0 0] 24)).alloc (.cells #[.int .i64 kd,.string nm,.slice none 0 0] 24)):=((kR.alloc _).alloc _).alloc _
 have HRC:Hid (RC bz w kd nm l a c 0 (((w.alloc (.cells #[.int .i64 kd,.string nm,.slice a l.length c] 24)).alloc (.cells #[.int .i64 0,.string ⟨#[]⟩,.slice none 0 0] 24)).alloc (.cells #[.int .i64 kd,.string nm,.slice none 0 0] 24)) [] (.slice none 0 0)):=Ld
  ⟨K0,bA,bR,b3,World.ownsRow_nil _ _ _ _,(fun e he=>by cases he),rfl,by simp⟩
 clear b3 bA bR K0
 go_enter Tryz.func64,Tryz.ntmps64
 go_wp2_with fail
 go_loopw [4] (fun i wr=>∃ (k:Nat) (E:List E2) (v:Value),k≤l.length∧i=.int .i64 k∧RC bz w kd nm l a c k wr E v) (fun i _=>l.length-(intOf i).toNat)
 case atStart=>exact⟨0,[],_,Nat.zero_le _,rfl,HRC.out⟩
 case round=>
  clear HRC
  obtain⟨k,E,v,hkl,rfl,h⟩:=hrel
  obtain⟨va,vn,vc,rfl⟩:=(tyl_of_row (ok:=fun _=>True) h.own (h.el.mono (fun _ _ _=>trivial)) (fun _ _=>trivial)).slice
  have gA:∀ i,wr.cell? ⟨w.heap.size,i,none⟩=[Value.int .i64 kd,.string nm,.slice a l.length c][i]?:=h.a.cell
  have gO:∀ i,wr.cell? ⟨w.heap.size+1+1,i,none⟩=[Value.int .i64 kd,.string nm,.slice va vn vc][i]?:=h.o.cell
  have gR:∀ i,wr.cell? ⟨w.heap.size+1,i,none⟩=[Value.int .i64 0,.string ⟨#[]⟩,.slice none 0 0][i]?:=h.r.cell
  have fO:∀ i,wr.frozen? ⟨w.heap.size+1+1,i,none⟩=false:=h.o.frozen
  have fR:∀ i,wr.frozen? ⟨w.heap.size+1,i,none⟩=false:=h.r.frozen
  have lO:=h.o.lt
  have H:=Ld h
  clear h
  by_cases hlt:k<l.length
  ·have hn2:=HN1.out
   have i1:(k:Int)<(l.length:Int):=by omega
   have i2:(k:Int)<1000000:=by omega
   obtain⟨g,off,ta,tn,tc,rfl,_,lg,⟨c0,c1,c2⟩,hty⟩:=HAT.out wr H.out.kp k hlt
   have hcon:=Ld ((HIH.out _ (List.getElem_mem hlt)) wr.drew ok _ (hty.frame (Same.drew _)))
   unfold tyVal at hcon
   have hlen:=Ld H.out.len
   have hmx:Hid (E.length+1≤maxLen):=Ld (by have:=hlen.out;unfold maxLen;omega)
   have hby:Hid ((E.length+1)*48≤140737488355328):=Ld (by have:=hlen.out;omega)
   obtain⟨i26,hi26,hz26,hs26,hb26⟩:=info_ty
   have HI26:=Ld hi26
   have HZ26:=Ld hz26
   have HS26:=Ld hs26
   have HB26:=Ld hb26
   clear hty hn2 hi26 hz26 hs26 hb26
   go_upto_region 5 with (fail)
   go_region_law (first | (refine step_append_lies _ (by rfl) _ _ _ (by rfl) (w.heap.size+3) 24 i26 _ 3 48 Tryz.underlying22 HI26.out HZ26.out HS26.out HB26.out rfl (by decide) (.slice va vn vc) E.length (flatY E) (by rfl) (own6.alloc _) ⟨w6.heap.size,0,none⟩ 1 1 (tyCells l[k] (.slice ua un uc)) (by rfl) rfl (newsT (Blk.new w6 24 (tyCells l[k] (.slice ua un uc)))) oneY (by omega) hmx.out hby.out (by simp;omega) (w6.heap.size+1) (by simp) ?_;intro gg cap w8 own8 hgrow hatg hltg;have hO8:=(hO6.alloc (.cells #[.int .i64 l[k].kind,.string l[k].name,.slice ua un uc] 24)).kept (kept_grown hgrow) (fun e=>hvS e);have q8:w8.cell? ⟨w.heap.size+1+1,2,none⟩=some (.slice va vn vc):=hO8.cell 2;have f8:w8.frozen? ⟨w.heap.size+1+1,2,none⟩=false:=hO8.frozen 2) | (go_simp;go_at_call 64;refine hcon.out.mono ?_;rintro e w6 ⟨u,rfl,hu,k6'⟩;obtain⟨ua,un,uc,rfl⟩:=hu.slice;have k6:Kept (fun _=>False) wr w6:=(kR.drew).trans k6';have hO6:=H.out.o.kept k6 (fun h=>h);have own6:=own_keptT H.out.own k6 (fun _ _ h=>h);have gO6:∀ i,w6.cell? ⟨w.heap.size+1+1,i,none⟩=[Value.int .i64 kd,.string nm,.slice va vn vc][i]?:=hO6.cell;have hvS:(Value.slice va vn vc).ownBlock≠some (w.heap.size+2):=(fun e=>by have:=(own6.lt _ e).1;omega);have l6:=hO6.lt))
   all_goals
    have HX:=Ld (RC.step H.out hlt k6 (hu.mono (fun q _ h=>h)) rfl _ own8 hgrow hatg)
    clear hO6 hO8 own6 own8 hgrow hu k6' hcon
    go_wp2_with fail
    go_roundw
    case rel=>exact⟨k+1,_,_,by omega,by go_num,HX.out⟩
    case measure=>simp[intOf];omega
  ·have hkk:k=l.length:=by omega
   subst hkk
   go_wp2_with fail
   have bF:=r3' (x:=.int .i64 kd) (y:=.string nm) (z:=.slice va vn vc) H.out.r rfl
   have hml:=tyl_of_row (ok:=fun q=>w.heap.size+3≤q) H.out.own (H.out.el.mono (fun _ _ h=>h.1)) (fun g hg=>(H.out.own.lt g hg).1)
   rw[H.out.mp,List.take_length] at hml
   refine bodyPost_ret (results_one Tryz.results64 rfl (load_ty (t:=.mk kd nm l) bF)) rfl ⟨_,rfl,?_,?_⟩
   ·exact (hml.frame (set3 (g:=w.heap.size+1) (fun q h=>by omega))).mono (fun q _ h=>by omega)
   ·exact ((H.out.kp.setCell (p:=⟨w.heap.size+1,0,none⟩) (Or.inr (by show w.heap.size≤w.heap.size+1;omega)) _).setCell (p:=⟨w.heap.size+1,1,none⟩) (Or.inr (by show w.heap.size≤w.heap.size+1;omega)) _).setCell (p:=⟨w.heap.size+1,2,none⟩) (Or.inr (by show w.heap.size≤w.heap.size+1;omega)) _
theorem rcopyTy_any {t:Ty} (hb:BdTy t):RCpC bz t:=by
 induction hb with
 | mk hn hl ih=>exact rcopyTy_one ih hn
def CpyP (bz:Nat) (t:Tm) (w:World) (e:Ending) (w':World):Prop:=∃ (tk:Value) (E:List E3) (kk:Value),e=.returned (tmVal t tk kk)∧TyL bz (okb w.heap.size kk) w' t.ty.kids tk∧RowT bz w w.heap.size w' E kk∧E.map (·.1)=t.kids
def RClC (bz:Nat) (t:Tm):Prop:=∀ (w:World) (ok:Nat→Prop) (tk kk:Value),TyL bz ok w t.ty.kids tk→TmL bz ok w t.kids kk→Calls Tryz.prog 26 #[tmVal t tk kk] w (CpyP bz t w)
theorem rcopies_any {l:List Tm} {ok:Nat→Prop} {w:World} {a:Option Addr} {n c:Nat} (IH:∀ t,t∈l→RClC bz t) (hn1:l.length≤1000000) (hk:TmL bz ok w l (.slice a n c)):
  Calls Tryz.prog 65 #[.slice a n c] w fun e w'=>∃ (E:List E3) (v:Value),e=.returned v∧RowT bz w w.heap.size w' E v∧E.map (·.1)=l:=by
 have hn:n=l.length:=hk.len
 subst hn
 have HIH:=Ld IH
 have HN1:=Ld hn1
 have HAT:=Ld (fun W (k:Kept (fun _=>False) w W)=>(hk.frame (sK k)).at)
 clear IH hn1 hk
 go_enter Tryz.func65,Tryz.ntmps65
 go_wp2_with fail
 go_loopw [3,4] (fun v i wr=>∃ (k:Nat) (E:List E3),k≤l.length∧i=.int .i64 k∧RowT bz w w.heap.size wr E v∧E.map (·.1)=l.take k) (fun v i _=>l.length-(intOf i).toNat)
 case atStart=>exact⟨0,[],Nat.zero_le _,rfl,RowT.nil kR,by simp⟩
 case round=>
  obtain⟨k,E,hkl,rfl,h,hmp⟩:=hrel
  obtain⟨va,vn,vc,rfl⟩:=h.tml.slice
  have hEk:E.length=k:=by have:=congrArg List.length hmp;simpa [Nat.min_eq_left hkl] using this
  have H:=Ld h
  have HM:=Ld hmp
  have HE:=Ld hEk
  clear h hmp hEk
  by_cases hlt:k<l.length
  ·have hn2:=HN1.out
   have i1:(k:Int)<(l.length:Int):=by omega
   have i2:(k:Int)<1000000:=by omega
   obtain⟨g,off,ta,tn,tc,ma,mn,mc,rfl,_,lg,⟨c0,c1,c2,c3,c4,c5,c6⟩,hty,htm⟩:=HAT.out wr H.out.kp k hlt
   have hcon:=Ld ((HIH.out _ (List.getElem_mem hlt)) wr ok _ _ hty htm)
   unfold tmVal at hcon
   obtain⟨i28,hi28,hz28,hs28,hb28⟩:=info_tm
   have HI:=Ld hi28
   have HZ:=Ld hz28
   have HS:=Ld hs28
   have HB:=Ld hb28
   clear hty htm hn2 hi28 hz28 hs28 hb28
   go_wp2_with fail
   refine hcon.out.mono ?_
   rintro e w6 ⟨tk,F,kk,rfl,hty6,hr6,hm6⟩
   have htm6:TmL bz (fun q=>wr.heap.size≤q) w6 l[k].kids kk:=by rw[← hm6];exact hr6.tml
   obtain⟨ua,un,uc,rfl⟩:=hty6.slice
   obtain⟨ud,ue,uf,rfl⟩:=htm6.slice
   have k6:=hr6.kp
   have H6:=H.out.kept k6
   unfold tmVal
   go_wp2_with (at_builtin;refine wpList_append_lies _ rfl _ _ _ rfl w.heap.size 27 i28 _ 7 104 Tryz.underlying25 HI.out HZ.out HS.out HB.out rfl (by decide) (.slice va vn vc) E.length (flat E) rfl (H6.own.alloc _) ⟨w6.heap.size,0,none⟩ 1 1 (tmCells l[k] (.slice ua un uc) (.slice ud ue uf)) rfl rfl (newsT (Blk.new w6 27 (tmCells l[k] (.slice ua un uc) (.slice ud ue uf)))) oneT (by omega) ?_ ?_ ?_ (w6.heap.size+1) (by simp) ?_)
   ·have:=HE.out;unfold maxLen;omega
   ·have:=HE.out;omega
   ·have:=H6.kp.size;simp;omega
   ·intro gg cap w8 own8 hgrow hatg hltg
    have HX:=Ld (RowT.step (Nat.le_refl _) H.out k6 H.out.kp.size (hty6.mono (fun q _ h=>h.1)) htm6 own8 _ hgrow hatg rfl)
    clear own8 hgrow hty6 hr6 htm6 H6
    go_wp2_with fail
    go_roundw
    case rel=>exact⟨k+1,_,by omega,by go_num,HX.out,by rw[List.map_append,HM.out,List.take_succ_eq_append_getElem hlt];rfl⟩
    case measure=>simp[intOf];omega
  ·have hkk:k=l.length:=by omega
   subst hkk
   go_wp2_with fail
   go_ret
   exact⟨E,_,rfl,H.out,by rw[HM.out,List.take_length]⟩
structure CT (bz:Nat) (w:World) (op:Int) (nm:ByteArray) (N:Int) (ty:Ty) (tk kk v:Value) (O:Nat) (W:World):Prop where
 kp:Kept (fun _=>False) w W
 a:Blk W w.heap.size 27 [.int .i64 op,.string nm,.int .i64 N,.int .i64 ty.kind,.string ty.name,tk,kk]
 r:Blk W (w.heap.size+1) 27 z27
 o:Blk W O 27 [.int .i64 op,.string nm,.int .i64 N,.int .i64 ty.kind,.string ty.name,v,.slice none 0 0]
 ho:w.heap.size+2≤O
 ty:TyL bz (fun q=>w.heap.size+2≤q∧q≠O) W ty.kids v
theorem CT.late {w w4:World} {op:Int} {nm:ByteArray} {N:Int} {ty:Ty} {tk kk v:Value} (K:Kept (fun _=>False) w w4) (bA:Blk w4 w.heap.size 27 [.int .i64 op,.string nm,.int .i64 N,.int .i64 ty.kind,.string ty.name,tk,kk]) (bR:Blk w4 (w.heap.size+1) 27 z27) (hv:TyL bz (fun q=>w.heap.size+2≤q) w4 ty.kids v):
  CT bz w op nm N ty tk kk v w4.heap.size (w4.alloc (.cells #[.int .i64 op,.string nm,.int .i64 N,.int .i64 ty.kind,.string ty.name,v,.slice none 0 0] 27)):=
 ⟨K.alloc _,bA.alloc _,bR.alloc _,Blk.new w4 27 _,by have:=bR.lt;omega,(hv.mono (fun q hq h=>⟨h,by omega⟩)).frame (Same.alloc _ _)⟩
theorem CT.early {w w4:World} {op:Int} {nm:ByteArray} {N:Int} {ty:Ty} {tk kk v:Value} {O:Nat} (K:Kept (fun _=>False) w w4) (bA:Blk w4 w.heap.size 27 [.int .i64 op,.string nm,.int .i64 N,.int .i64 ty.kind,.string ty.name,tk,kk]) (bR:Blk w4 (w.heap.size+1) 27 z27) (bO:Blk w4 O 27 z27) (ho:w.heap.size+2≤O) (hv:TyL bz (fun q=>w.heap.size+2≤q∧q≠O) w4 ty.kids v):
  CT bz w op nm N ty tk kk v O (((((((w4.setCell ⟨O,0,none⟩ (.int .i64 op)).setCell ⟨O,1,none⟩ (.string nm)).setCell ⟨O,2,none⟩ (.int .i64 N)).setCell ⟨O,3,none⟩ (.int .i64 ty.kind)).setCell ⟨O,4,none⟩ (.string ty.name)).setCell ⟨O,5,none⟩ v).setCell ⟨O,6,none⟩ (.slice none 0 0)):=by
 have n1:w.heap.size≠O:=by omega
 have n2:w.heap.size+1≠O:=by omega
 exact⟨k7w K (Or.inr (by omega)),((((((bA.set_other _ _ n1).set_other _ _ n1).set_other _ _ n1).set_other _ _ n1).set_other _ _ n1).set_other _ _ n1).set_other _ _ n1,((((((bR.set_other _ _ n2).set_other _ _ n2).set_other _ _ n2).set_other _ _ n2).set_other _ _ n2).set_other _ _ n2).set_other _ _ n2,r7 bO rfl,ho,hv.frame (set7 (fun q hq=>hq.2))⟩
theorem CT.kept {w W W':World} {op:Int} {nm:ByteArray} {N:Int} {ty:Ty} {tk kk v:Value} {O:Nat} (h:CT bz w op nm N ty tk kk v O W) (k:Kept (fun _=>False) W W'):CT bz w op nm N ty tk kk v O W':=
 ⟨h.kp.trans k,h.a.kept k (fun h=>h),h.r.kept k (fun h=>h),h.o.kept k (fun h=>h),h.ho,h.ty.frame (sK k)⟩
theorem CT.done {w W:World} {op:Int} {nm:ByteArray} {N:Int} {ty:Ty} {l:List Tm} {tk kk v u:Value} {O:Nat} {E:List E3} {base:Nat} (h:CT bz w op nm N ty tk kk v O W) (hb:base≤W.heap.size) (hO:O<base) (hu:W.ownsRow base 27 7 u E.length (flat E)) (hel:EL bz (okb base u) W E) (hm:E.map (·.1)=l) (hv:TyL bz (fun q=>w.heap.size+2≤q∧q≠O∧u.ownBlock≠some q) W ty.kids v) (W2:World)
  (hW2:W2=(((((((W.setCell ⟨O,6,none⟩ u).setCell ⟨w.heap.size+1,0,none⟩ (.int .i64 op)).setCell ⟨w.heap.size+1,1,none⟩ (.string nm)).setCell ⟨w.heap.size+1,2,none⟩ (.int .i64 N)).setCell ⟨w.heap.size+1,3,none⟩ (.int .i64 ty.kind)).setCell ⟨w.heap.size+1,4,none⟩ (.string ty.name)).setCell ⟨w.heap.size+1,5,none⟩ v).setCell ⟨w.heap.size+1,6,none⟩ u):
  Blk W2 (w.heap.size+1) 27 (tmCells (.mk op nm N ty l) v u)∧TyL bz (okb w.heap.size u) W2 ty.kids v∧RowT bz w w.heap.size W2 E u:=by
 subst hW2
 have n1:w.heap.size+1≠O:=by have:=h.ho;omega
 have hub:∀ g,u.ownBlock=some g→base≤g:=fun g hg=>(hu.lt g hg).1
 have kS:Kept (fun q=>q=O∨q=w.heap.size+1) W ((((((((W.setCell ⟨O,6,none⟩ u).setCell ⟨w.heap.size+1,0,none⟩ (.int .i64 op)).setCell ⟨w.heap.size+1,1,none⟩ (.string nm)).setCell ⟨w.heap.size+1,2,none⟩ (.int .i64 N)).setCell ⟨w.heap.size+1,3,none⟩ (.int .i64 ty.kind)).setCell ⟨w.heap.size+1,4,none⟩ (.string ty.name)).setCell ⟨w.heap.size+1,5,none⟩ v).setCell ⟨w.heap.size+1,6,none⟩ u):=
  k7w ((Kept.refl (fun q=>q=O∨q=w.heap.size+1) W).setCell (p:=⟨O,6,none⟩) (Or.inl (Or.inl rfl)) u) (Or.inl (Or.inr rfl))
 have hho:=h.ho
 refine⟨r7 (h.r.set_other ⟨O,6,none⟩ u n1) rfl,(hv.frame (Same.of_kept kS (fun q hq e=>by rcases e with e | e <;> omega))).mono (fun q _ hq=>⟨by omega,hq.2.2⟩),k7w (h.kp.setCell (p:=⟨O,6,none⟩) (Or.inr (by show w.heap.size≤O;omega)) u) (Or.inr (by omega)),?_,?_⟩
 ·exact own_base (own_keptT hu kS (fun g hg e=>by have:=hub g hg;rcases e with e | e <;> omega)) (fun g hg=>by have:=hub g hg;omega)
 ·exact (hel.frame (Same.of_kept kS (fun q hq e=>by have:=hq.1;rcases e with e | e <;> omega))).mono (fun q _ hq=>⟨by have:=hq.1;omega,hq.2⟩)
theorem rcopy_one {op:Int} {nm:ByteArray} {N:Int} {ty:Ty} {l:List Tm} (hty:BdTy ty) (IH:∀ u,u∈l→RClC bz u) (hn:l.length≤1000000):RClC bz (.mk op nm N ty l):=by
 intro w ok tk kk h1 h2
 have h1:TyL bz ok w ty.kids tk:=h1
 have h2:TmL bz ok w l kk:=h2
 obtain⟨a,n,c,rfl⟩:=h1.slice
 obtain⟨ma,mn,mc,rfl⟩:=h2.slice
 have HT:=Ld (fun W (k:Kept (fun _=>False) w W)=>rcopyTy_any hty W ok _ (h1.frame (sK k)))
 have HK:=Ld (fun W (k:Kept (fun _=>False) w W)=>rcopies_any IH hn (h2.frame (sK k)))
 unfold tyVal at HT
 change Calls Tryz.prog 26 #[.agg #[.int .i64 op,.string nm,.int .i64 N,.int .i64 ty.kind,.string ty.name,.slice a n c,.slice ma mn mc]] w _
 clear h1 h2 IH
 have bA:Blk ((w.alloc (.cells #[.int .i64 op,.string nm,.int .i64 N,.int .i64 ty.kind,.string ty.name,.slice a n c,.slice ma mn mc] 27)).alloc Z7) w.heap.size 27 [.int .i64 op,.string nm,.int .i64 N,.int .i64 ty.kind,.string ty.name,.slice a n c,.slice ma mn mc]:=(Blk.new w 27 _).alloc _
 have bR:Blk ((w.alloc (.cells #[.int .i64 op,.string nm,.int .i64 N,.int .i64 ty.kind,.string ty.name,.slice a n c,.slice ma mn mc] 27)).alloc Z7) (w.heap.size+1) 27 z27:=Blk.new' 27 _ (by simp)
 have K0:Kept (fun _=>False) w ((w.alloc (.cells #[.int .i64 op,.string nm,.int .i64 N,.int .i64 ty.kind,.string ty.name,.slice a n c,.slice ma mn mc] 27)).alloc Z7):=(kR.alloc _).alloc _
 go_enter Tryz.func26,Tryz.ntmps26
 go_upto_region 1 with (fail)
 refine wp_gen (F:=fun W3=>Kept (fun _=>False) w W3∧W3.heap.size=w.heap.size+2∧Blk W3 w.heap.size 27 [.int .i64 op,.string nm,.int .i64 N,.int .i64 ty.kind,.string ty.name,.slice a n c,.slice ma mn mc]∧Blk W3 (w.heap.size+1) 27 z27) ⟨K0,by simp,bA,bR⟩ ?_
 clear K0 bA bR
 rintro w1 ⟨K1,z1,bA,bR⟩
 have gA:∀ i,w1.cell? ⟨w.heap.size,i,none⟩=[Value.int .i64 op,.string nm,.int .i64 N,.int .i64 ty.kind,.string ty.name,.slice a n c,.slice ma mn mc][i]?:=bA.cell
 have Z1:=Ld z1
 have KK1:=Ld K1
 have BA:=Ld bA
 have BR:=Ld bR
 have lA:=bA.lt
 have lR:=bR.lt
 have nA:w.heap.size≠w1.heap.size:=by omega
 have nA2:w1.heap.size≠w.heap.size:=by omega
 clear z1 K1 bA bR
 have x0:w1.cell? ⟨w.heap.size,0,none⟩=some (.int .i64 op):=gA 0
 have x1:w1.cell? ⟨w.heap.size,1,none⟩=some (.string nm):=gA 1
 have x2:w1.cell? ⟨w.heap.size,2,none⟩=some (.int .i64 N):=gA 2
 have x3:w1.cell? ⟨w.heap.size,3,none⟩=some (.int .i64 ty.kind):=gA 3
 have x4:w1.cell? ⟨w.heap.size,4,none⟩=some (.string ty.name):=gA 4
 have x5:w1.cell? ⟨w.heap.size,5,none⟩=some (.slice a n c):=gA 5
 go_region_held3 (fun w'=>w'.cell? ⟨w.heap.size,0,none⟩=some (.int .i64 op)∧w'.cell? ⟨w.heap.size,1,none⟩=some (.string nm)∧w'.cell? ⟨w.heap.size,2,none⟩=some (.int .i64 N)∧w'.cell? ⟨w.heap.size,3,none⟩=some (.int .i64 ty.kind)∧w'.cell? ⟨w.heap.size,4,none⟩=some (.string ty.name)∧w'.cell? ⟨w.heap.size,5,none⟩=some (.slice a n c)) (go_keep) (first | (go_at_call 64;refine (HT.out _ (by first | exact KK1.out.drew | exact KK1.out.drew.alloc _ | exact (KK1.out.alloc _).drew)).mono ?_;rintro e w4 ⟨v,rfl,hv,k4⟩;obtain⟨va,vn,vc,rfl⟩:=hv.slice;have k5:Kept (fun _=>False) w1 w4:=(by first | exact kR.drew.trans k4 | exact (kR.drew.alloc _).trans k4);have lA4:=(BA.out.kept k5 (fun h=>h)).lt;(try (have bO:Blk w4 w1.heap.size 27 [.int .i64 0,.string ⟨#[]⟩,.int .i64 0,.int .i64 0,.string ⟨#[]⟩,.slice none 0 0,.slice none 0 0]:=(by first | exact ((Blk.new w1 27 [.int .i64 0,.string ⟨#[]⟩,.int .i64 0,.int .i64 0,.string ⟨#[]⟩,.slice none 0 0,.slice none 0 0]).drew).kept k4 (fun h=>h) | exact (Blk.new w1.drew 27 [.int .i64 0,.string ⟨#[]⟩,.int .i64 0,.int .i64 0,.string ⟨#[]⟩,.slice none 0 0,.slice none 0 0]).kept k4 (fun h=>h));have gO:∀ i,w4.cell? ⟨w1.heap.size,i,none⟩=[Value.int .i64 0,.string ⟨#[]⟩,.int .i64 0,.int .i64 0,.string ⟨#[]⟩,.slice none 0 0,.slice none 0 0][i]?:=bO.cell;have fO:∀ i,w4.frozen? ⟨w1.heap.size,i,none⟩=false:=bO.frozen;have lO:=bO.lt));have y0:w4.cell? ⟨w.heap.size,0,none⟩=some (.int .i64 op):=(BA.out.kept k5 (fun h=>h)).cell 0;have y1:w4.cell? ⟨w.heap.size,1,none⟩=some (.string nm):=(BA.out.kept k5 (fun h=>h)).cell 1;have y2:w4.cell? ⟨w.heap.size,2,none⟩=some (.int .i64 N):=(BA.out.kept k5 (fun h=>h)).cell 2;have y3:w4.cell? ⟨w.heap.size,3,none⟩=some (.int .i64 ty.kind):=(BA.out.kept k5 (fun h=>h)).cell 3;have y4:w4.cell? ⟨w.heap.size,4,none⟩=some (.string ty.name):=(BA.out.kept k5 (fun h=>h)).cell 4;have y5:w4.cell? ⟨w.heap.size,5,none⟩=some (.slice a n c):=(BA.out.kept k5 (fun h=>h)).cell 5))
 all_goals
  first
  | (have HX:=Ld (CT.late (KK1.out.trans k5) (BA.out.kept k5 (fun h=>h)) (BR.out.kept k5 (fun h=>h)) (hv.mono (fun q _ hq=>by have:=Z1.out;have hq2:w1.heap.size≤q:=hq;omega)))
     generalize hOO:w4.heap.size=O at *
     generalize w4.alloc (.cells #[.int .i64 op,.string nm,.int .i64 N,.int .i64 ty.kind,.string ty.name,.slice va vn vc,.slice none 0 0] 27)=w5 at *
     clear hOO)
  | (have HX:=Ld (CT.early (O:=w1.heap.size) (KK1.out.trans k5) (BA.out.kept k5 (fun h=>h)) (BR.out.kept k5 (fun h=>h)) bO (by have:=Z1.out;omega) (hv.mono (fun q _ hq=>by have:=Z1.out;have hq2:w1.heap.size+1≤q:=(by simpa using hq);omega)))
     generalize hOO:w1.heap.size=O at *
     generalize (((((((w4.setCell ⟨O,0,none⟩ (.int .i64 op)).setCell ⟨O,1,none⟩ (.string nm)).setCell ⟨O,2,none⟩ (.int .i64 N)).setCell ⟨O,3,none⟩ (.int .i64 ty.kind)).setCell ⟨O,4,none⟩ (.string ty.name)).setCell ⟨O,5,none⟩ (.slice va vn vc)).setCell ⟨O,6,none⟩ (.slice none 0 0))=w5 at *
     clear hOO)
 all_goals
  have h6:Hid (Calls Tryz.prog 65 #[.slice ma mn mc] w5 fun e w'=>∃ (E:List E3) (v:Value),e=.returned v∧RowT bz w5 w5.heap.size w' E v∧E.map (·.1)=l):=Ld (HK.out w5 HX.out.kp)
  clear HK HT hv KK1 Z1 BA BR k4 k5 gA x0 x1 x2 x3 x4 x5
  have gA5:∀ i,w5.cell? ⟨w.heap.size,i,none⟩=[Value.int .i64 op,.string nm,.int .i64 N,.int .i64 ty.kind,.string ty.name,.slice a n c,.slice ma mn mc][i]?:=HX.out.a.cell
  go_wp2_with fail
  refine h6.out.mono ?_
  rintro e w6 ⟨E,u,rfl,R6,hm6⟩
  have HX6:=Ld (HX.out.kept R6.kp)
  have gO6:∀ i,w6.cell? ⟨O,i,none⟩=[Value.int .i64 op,.string nm,.int .i64 N,.int .i64 ty.kind,.string ty.name,.slice va vn vc,.slice none 0 0][i]?:=HX6.out.o.cell
  have fO6:∀ i,w6.frozen? ⟨O,i,none⟩=false:=HX6.out.o.frozen
  have gR6:∀ i,w6.cell? ⟨w.heap.size+1,i,none⟩=[Value.int .i64 0,.string ⟨#[]⟩,.int .i64 0,.int .i64 0,.string ⟨#[]⟩,.slice none 0 0,.slice none 0 0][i]?:=HX6.out.r.cell
  have fR6:∀ i,w6.frozen? ⟨w.heap.size+1,i,none⟩=false:=HX6.out.r.frozen
  have nO:O≠w.heap.size+1:=by have:=HX6.out.ho;omega
  have nO2:w.heap.size+1≠O:=by have:=HX6.out.ho;omega
  have lO5:=HX.out.o.lt
  obtain⟨ua,un,uc,rfl⟩:=R6.tml.slice
  have hv6:TyL bz (fun q=>w.heap.size+2≤q∧q≠O∧(Value.slice ua un uc).ownBlock≠some q) w6 ty.kids (.slice va vn vc):=
   (HX.out.ty.mono (ok':=fun q=>(w.heap.size+2≤q∧q≠O)∧q<w5.heap.size) (fun q hq h=>⟨h,hq⟩)).frame (sK R6.kp) |>.mono (fun q _ h=>⟨h.1.1,h.1.2,fun e=>by have:=(R6.own.lt q e).1;omega⟩)
  have HM:=Ld hm6
  have HD:=Ld (CT.done HX6.out R6.kp.size lO5 R6.own R6.el hm6 hv6 _ rfl)
  clear gA5 HX R6 hm6 hv6 h6 lO5
  go_wp2_with fail
  exact bodyPost_ret (results_one Tryz.results26 rfl (load_tm (t:=.mk op nm N ty l) HD.out.1)) rfl ⟨_,E,_,rfl,HD.out.2.1,HD.out.2.2,HM.out⟩
theorem rcopy_any {t:Tm} (hb:BdTm t):RClC bz t:=by
 induction hb with
 | mk hn ht hl ih=>exact rcopy_one ht ih hn
structure KRow (bz:Nat) (W:World) (base g:Nat) (l:List Tm):Prop where
 row:∃ (L:List Value) (K M:Nat→Value),Blk W g 27 L∧l.length*7≤L.length∧∀ i (h:i<l.length),L[i*7]?=some (.int .i64 l[i].op)∧L[i*7+1]?=some (.string l[i].name)∧L[i*7+2]?=some (.int .i64 l[i].n)∧L[i*7+3]?=some (.int .i64 l[i].ty.kind)∧L[i*7+4]?=some (.string l[i].ty.name)∧L[i*7+5]?=some (K i)∧L[i*7+6]?=some (M i)∧TyL bz (fun q=>base≤q∧q≠g) W l[i].ty.kids (K i)∧TmL bz (fun q=>base≤q∧q≠g) W l[i].kids (M i)
theorem KRow.tml {W:World} {base g c:Nat} {l:List Tm} (h:KRow bz W base g l) (hg:base≤g) (hc:l.length≤c):TmL bz (fun q=>base≤q) W l (.slice (some ⟨g,0,none⟩) l.length c):=by
 by_cases hne:l=[]
 ·subst hne;exact .nil (Or.inr ⟨_,_,rfl⟩)
 ·obtain⟨L,K,M,bG,hL,hR⟩:=h.row
  refine TmL.mk K M hne hg hc (fun i hi=>?_) (fun i hi=>?_) (fun i hi=>?_) (fun _=>⟨rfl,_,bG,hL⟩)
  ·obtain⟨e0,e1,e2,e3,e4,e5,e6,e7,e8⟩:=hR i hi
   rw[Nat.zero_add]
   exact⟨by rw[bG.cell];exact e0,by rw[bG.cell];exact e1,by rw[bG.cell];exact e2,by rw[bG.cell];exact e3,by rw[bG.cell];exact e4,by rw[bG.cell];exact e5,by rw[bG.cell];exact e6⟩
  ·exact (hR i hi).2.2.2.2.2.2.2.1.mono (fun q _ h=>h.1)
  ·exact (hR i hi).2.2.2.2.2.2.2.2.mono (fun q _ h=>h.1)
theorem KRow.kept {W W':World} {base g:Nat} {l:List Tm} (h:KRow bz W base g l) {S:Nat→Prop} (k:Kept S W W') (h1:¬ S g) (h2:∀ q,base≤q→q≠g→¬ S q):KRow bz W' base g l:=by
 obtain⟨L,K,M,bG,hL,hR⟩:=h.row
 refine⟨⟨L,K,M,bG.kept k h1,hL,fun i hi=>?_⟩⟩
 obtain⟨e0,e1,e2,e3,e4,e5,e6,e7,e8⟩:=hR i hi
 exact⟨e0,e1,e2,e3,e4,e5,e6,e7.frame (Same.of_kept k (fun q hq=>h2 q hq.1 hq.2)),e8.frame (Same.of_kept k (fun q hq=>h2 q hq.1 hq.2))⟩
theorem KRow.put {W:World} {base g j:Nat} {l:List Tm} {u:Tm} {v x:Value} (h:KRow bz W base g l) (hj:j<l.length) (hv:TyL bz (fun q=>base≤q∧q≠g) W u.ty.kids v) (hx:TmL bz (fun q=>base≤q∧q≠g) W u.kids x):
  KRow bz (((((((W.setCell ⟨g,j*7,none⟩ (.int .i64 u.op)).setCell ⟨g,j*7+1,none⟩ (.string u.name)).setCell ⟨g,j*7+2,none⟩ (.int .i64 u.n)).setCell ⟨g,j*7+3,none⟩ (.int .i64 u.ty.kind)).setCell ⟨g,j*7+4,none⟩ (.string u.ty.name)).setCell ⟨g,j*7+5,none⟩ v).setCell ⟨g,j*7+6,none⟩ x) base g (l.set j u):=by
 obtain⟨L,K,M,bG,hL,hR⟩:=h.row
 refine⟨⟨((((((L.set (j*7) (.int .i64 u.op)).set (j*7+1) (.string u.name)).set (j*7+2) (.int .i64 u.n)).set (j*7+3) (.int .i64 u.ty.kind)).set (j*7+4) (.string u.ty.name)).set (j*7+5) v).set (j*7+6) x,fun i=>if i=j then v else K i,fun i=>if i=j then x else M i,
  (((((((bG.set _ _).set _ _).set _ _).set _ _).set _ _).set _ _).set _ _),by simpa using hL,fun i hi=>?_⟩⟩
 have hi':i<l.length:=by simpa using hi
 by_cases hij:i=j
 ·subst hij
  simp only[List.getElem_set_self,if_pos]
  refine⟨?_,?_,?_,?_,?_,?_,?_,?_,?_⟩
  ·rw[List.getElem?_set_ne (by omega),List.getElem?_set_ne (by omega),List.getElem?_set_ne (by omega),List.getElem?_set_ne (by omega),List.getElem?_set_ne (by omega),List.getElem?_set_ne (by omega),List.getElem?_set_self (by omega)]
  ·rw[List.getElem?_set_ne (by omega),List.getElem?_set_ne (by omega),List.getElem?_set_ne (by omega),List.getElem?_set_ne (by omega),List.getElem?_set_ne (by omega),List.getElem?_set_self (by simp;omega)]
  ·rw[List.getElem?_set_ne (by omega),List.getElem?_set_ne (by omega),List.getElem?_set_ne (by omega),List.getElem?_set_ne (by omega),List.getElem?_set_self (by simp;omega)]
  ·rw[List.getElem?_set_ne (by omega),List.getElem?_set_ne (by omega),List.getElem?_set_ne (by omega),List.getElem?_set_self (by simp;omega)]
  ·rw[List.getElem?_set_ne (by omega),List.getElem?_set_ne (by omega),List.getElem?_set_self (by simp;omega)]
  ·rw[List.getElem?_set_ne (by omega),List.getElem?_set_self (by simp;omega)]
  ·rw[List.getElem?_set_self (by simp;omega)]
  ·exact hv.frame (set7 (fun q h=>h.2))
  ·exact hx.frame (set7 (fun q h=>h.2))
 ·obtain⟨e0,e1,e2,e3,e4,e5,e6,e7,e8⟩:=hR i hi'
  have eg:(l.set j u)[i]=l[i]:=List.getElem_set_ne (Ne.symm hij) _
  rw[eg]
  simp only[if_neg hij]
  refine⟨?_,?_,?_,?_,?_,?_,?_,e7.frame (set7 (fun q h=>h.2)),e8.frame (set7 (fun q h=>h.2))⟩
  all_goals (rw[List.getElem?_set_ne (by omega),List.getElem?_set_ne (by omega),List.getElem?_set_ne (by omega),List.getElem?_set_ne (by omega),List.getElem?_set_ne (by omega),List.getElem?_set_ne (by omega),List.getElem?_set_ne (by omega)];assumption)
def ClP2 (bz:Nat) (t:Tm) (w:World) (e:Ending) (w':World):Prop:=∃ v g c,e=.returned (tmVal t v (.slice (some ⟨g,0,none⟩) t.kids.length c))∧t.kids.length≤c∧w.heap.size≤g∧TyL bz (fun q=>w.heap.size≤q∧q≠g) w' t.ty.kids v∧KRow bz w' w.heap.size g t.kids∧Kept (fun _=>False) w w'
theorem RowT.krow {w wr:World} {base:Nat} {E:List E3} {v:Value} (h:RowT bz w base wr E v) (hne:E≠[]):∃ g c,v=.slice (some ⟨g,0,none⟩) E.length c∧base≤g∧E.length≤c∧KRow bz wr base g (E.map (·.1)):=by
 rcases h.own.2 with ⟨_,hn⟩ | ⟨g,cap,cur,hv,hbg,hg,hnc,hcm,hcs,htake⟩
 ·exact absurd (List.length_eq_zero_iff.1 hn) hne
 ·have hE:=h.el
  subst hv
  have hb:Blk wr g 27 cur.toList:=by show wr.heap[g]?=_;rw[hg]
  have hlen:E.length*7≤cur.toList.length:=by
   have:=congrArg List.length htake
   rw[List.length_take,flat_len] at this
   omega
  have hget:∀ i (h:i<E.length) (r:Nat),r<7→cur.toList[i*7+r]?=(tmCells E[i].1 E[i].2.1 E[i].2.2)[r]?:=by
   intro i hi r hr
   have h1:=flat_get E i r hi hr
   rw[← htake,List.getElem?_take,if_pos (by omega)] at h1
   exact h1
  have iv:Inhabited E3:=⟨(.mk 0 ⟨#[]⟩ 0 ty0 [],.slice none 0 0,.slice none 0 0)⟩
  refine⟨g,cap,rfl,hbg,hnc,⟨⟨cur.toList,fun i=>E[i]!.2.1,fun i=>E[i]!.2.2,hb,by simpa using hlen,fun i hi=>?_⟩⟩⟩
  have hi':i<E.length:=by simpa using hi
  have e1:(E.map (·.1))[i]=E[i].1:=by simp
  have e2:E[i]! = E[i]:=getElem!_pos E i hi'
  have hm:=hE _ (List.getElem_mem hi')
  rw[e1]
  simp only[e2]
  exact⟨hget i hi' 0 (by decide),hget i hi' 1 (by decide),hget i hi' 2 (by decide),hget i hi' 3 (by decide),hget i hi' 4 (by decide),hget i hi' 5 (by decide),hget i hi' 6 (by decide),hm.1.mono (fun q _ h=>⟨h.1,fun e=>h.2 (by rw[e];rfl)⟩),hm.2.mono (fun q _ h=>⟨h.1,fun e=>h.2 (by rw[e];rfl)⟩)⟩
theorem rcopy_kids {t:Tm} (hb:BdTm t) (hne:t.kids≠[]) {w:World} {ok:Nat→Prop} {tk kk:Value} (h:TyL bz ok w t.ty.kids tk) (h':TmL bz ok w t.kids kk):Calls Tryz.prog 26 #[tmVal t tk kk] w (ClP2 bz t w):=by
 refine (rcopy_any hb w ok tk kk h h').mono ?_
 rintro e w' ⟨v,E,k,rfl,h1,h2,h3⟩
 obtain⟨g,c,rfl,hg,hc,hr⟩:=h2.krow (by intro e;rw[e] at h3;exact hne h3.symm)
 have hl:E.length=t.kids.length:=by rw[← h3,List.length_map]
 rw[h3] at hr
 rw[hl] at hc ⊢
 exact⟨v,g,c,rfl,hc,hg,h1.mono (fun q _ h=>⟨h.1,fun e=>h.2 (by rw[e];rfl)⟩),hr,h2.kp⟩
structure KRowY (bz:Nat) (W:World) (base g:Nat) (l:List Ty):Prop where
 row:∃ (L:List Value) (K:Nat→Value),Blk W g 24 L∧l.length*3≤L.length∧∀ i (h:i<l.length),L[i*3]?=some (.int .i64 l[i].kind)∧L[i*3+1]?=some (.string l[i].name)∧L[i*3+2]?=some (K i)∧TyL bz (fun q=>base≤q∧q≠g) W l[i].kids (K i)
theorem KRowY.tyl {W:World} {base g c:Nat} {l:List Ty} (h:KRowY bz W base g l) (hg:base≤g) (hc:l.length≤c):TyL bz (fun q=>base≤q) W l (.slice (some ⟨g,0,none⟩) l.length c):=by
 by_cases hne:l=[]
 ·subst hne;exact .nil (Or.inr ⟨_,_,rfl⟩)
 ·obtain⟨L,K,bG,hL,hR⟩:=h.row
  refine TyL.mk K hne hg hc (fun i hi=>?_) (fun i hi=>?_) (fun _=>⟨rfl,L,bG,hL⟩)
  ·obtain⟨e0,e1,e2,e3⟩:=hR i hi
   rw[Nat.zero_add]
   exact⟨by rw[bG.cell];exact e0,by rw[bG.cell];exact e1,by rw[bG.cell];exact e2⟩
  ·exact (hR i hi).2.2.2.mono (fun q _ h=>h.1)
theorem KRowY.kept {W W':World} {base g:Nat} {l:List Ty} (h:KRowY bz W base g l) {S:Nat→Prop} (k:Kept S W W') (h1:¬ S g) (h2:∀ q,base≤q→q≠g→¬ S q):KRowY bz W' base g l:=by
 obtain⟨L,K,bG,hL,hR⟩:=h.row
 refine⟨⟨L,K,bG.kept k h1,hL,fun i hi=>?_⟩⟩
 obtain⟨e0,e1,e2,e3⟩:=hR i hi
 exact⟨e0,e1,e2,e3.frame (Same.of_kept k (fun q hq=>h2 q hq.1 hq.2))⟩
theorem KRowY.lower {W:World} {base base' g:Nat} {l:List Ty} (h:KRowY bz W base g l) (hb:base'≤base):KRowY bz W base' g l:=by
 obtain⟨L,K,bG,hL,hR⟩:=h.row
 refine⟨⟨L,K,bG,hL,fun i hi=>?_⟩⟩
 obtain⟨e0,e1,e2,e3⟩:=hR i hi
 exact⟨e0,e1,e2,e3.mono (fun q _ h=>⟨Nat.le_trans hb h.1,h.2⟩)⟩
theorem KRowY.put {W:World} {base g j:Nat} {l:List Ty} {u:Ty} {v:Value} (h:KRowY bz W base g l) (hj:j<l.length) (hv:TyL bz (fun q=>base≤q∧q≠g) W u.kids v):
  KRowY bz (((W.setCell ⟨g,j*3,none⟩ (.int .i64 u.kind)).setCell ⟨g,j*3+1,none⟩ (.string u.name)).setCell ⟨g,j*3+2,none⟩ v) base g (l.set j u):=by
 obtain⟨L,K,bG,hL,hR⟩:=h.row
 refine⟨⟨((L.set (j*3) (.int .i64 u.kind)).set (j*3+1) (.string u.name)).set (j*3+2) v,fun i=>if i=j then v else K i,(((bG.set _ _).set _ _).set _ _),by simpa using hL,fun i hi=>?_⟩⟩
 have hi':i<l.length:=by simpa using hi
 by_cases hij:i=j
 ·subst hij
  simp only[List.getElem_set_self,if_pos]
  refine⟨?_,?_,?_,?_⟩
  ·rw[List.getElem?_set_ne (by omega),List.getElem?_set_ne (by omega),List.getElem?_set_self (by omega)]
  ·rw[List.getElem?_set_ne (by omega),List.getElem?_set_self (by simp;omega)]
  ·rw[List.getElem?_set_self (by simp;omega)]
  ·exact hv.frame (set3 (fun q h=>h.2))
 ·obtain⟨e0,e1,e2,e3⟩:=hR i hi'
  have eg:(l.set j u)[i]=l[i]:=List.getElem_set_ne (Ne.symm hij) _
  rw[eg]
  simp only[if_neg hij]
  refine⟨?_,?_,?_,e3.frame (set3 (fun q h=>h.2))⟩
  all_goals (rw[List.getElem?_set_ne (by omega),List.getElem?_set_ne (by omega),List.getElem?_set_ne (by omega)];assumption)
theorem krowY_of {W:World} {base:Nat} {E:List E2} {v:Value} (hown:W.ownsRow base 24 3 v E.length (flatY E)) (hel:ELY bz (fun q=>base≤q∧v.ownBlock≠some q) W E) (hne:E≠[]):∃ g c,v=.slice (some ⟨g,0,none⟩) E.length c∧base≤g∧E.length≤c∧KRowY bz W base g (E.map (·.1)):=by
 rcases hown.2 with ⟨_,hn⟩ | ⟨g,cap,cur,hv,hbg,hg,hnc,hcm,hcs,htake⟩
 ·exact absurd (List.length_eq_zero_iff.1 hn) hne
 ·subst hv
  have hb:Blk W g 24 cur.toList:=by show W.heap[g]?=_;rw[hg]
  have hlen:E.length*3≤cur.toList.length:=by
   have:=congrArg List.length htake
   rw[List.length_take,flatY_len] at this
   omega
  have hget:∀ i (h:i<E.length) (r:Nat),r<3→cur.toList[i*3+r]?=(tyCells E[i].1 E[i].2)[r]?:=by
   intro i hi r hr
   have h1:=flatY_get E i r hi hr
   rw[← htake,List.getElem?_take,if_pos (by omega)] at h1
   exact h1
  have iv:Inhabited E2:=⟨(ty0,.slice none 0 0)⟩
  refine⟨g,cap,rfl,hbg,hnc,⟨⟨cur.toList,fun i=>E[i]!.2,hb,by simpa using hlen,fun i hi=>?_⟩⟩⟩
  have hi':i<E.length:=by simpa using hi
  have e1:(E.map (·.1))[i]=E[i].1:=by simp
  have e2:E[i]! = E[i]:=getElem!_pos E i hi'
  have hm:=hel _ (List.getElem_mem hi')
  rw[e1]
  simp only[e2]
  exact⟨hget i hi' 0 (by decide),hget i hi' 1 (by decide),hget i hi' 2 (by decide),hm.mono (fun q _ h=>⟨h.1,fun e=>h.2 (by rw[e];rfl)⟩)⟩
def ClY (bz:Nat) (t:Ty) (w:World) (e:Ending) (w':World):Prop:=∃ g c,e=.returned (tyVal t (.slice (some ⟨g,0,none⟩) t.kids.length c))∧t.kids.length≤c∧w.heap.size≤g∧KRowY bz w' w.heap.size g t.kids∧Kept (fun _=>False) w w'
theorem rcopyTy_two {kd:Int} {nm:ByteArray} {l:List Ty} (IH:∀ t,t∈l→RCpC bz t) (hn1:l.length≤1000000) (hne:l≠[]) {w:World} {ok:Nat→Prop} {tk:Value} (hk:TyL bz ok w l tk):Calls Tryz.prog 64 #[tyVal (.mk kd nm l) tk] w (ClY bz (.mk kd nm l) w):=by
 obtain⟨a,n,c,rfl⟩:=hk.slice
 have hn:n=l.length:=hk.len
 subst hn
 have hk':TyL bz ok w l (.slice a l.length c):=hk
 clear hk
 have HIH:=Ld IH
 have HN1:=Ld hn1
 have HNE:=Ld hne
 clear IH hn1 hne
 have HAT:=Ld (fun W (k:Kept (fun _=>False) w W)=>(hk'.frame (sK k)).at)
 clear hk'
 change Calls Tryz.prog 64 #[.agg #[.int .i64 kd,.string nm,.slice a l.length c]] w _
 have b3:=Blk.new' (w:=(w.alloc (.cells #[.int .i64 kd,.string nm,.slice a l.length c] 24)).alloc (.cells #[.int .i64 0,.string ⟨#[]⟩,.slice none 0 0] 24)) (g:=w.heap.size+2) 24 [.int .i64 kd,.string nm,.slice none 0 0] (by simp)
 have bA:=(((Blk.new w 24 [.int .i64 kd,.string nm,.slice a l.length c]).alloc (.cells #[.int .i64 0,.string ⟨#[]⟩,.slice none 0 0] 24)).alloc (.cells #[.int .i64 kd,.string nm,.slice none 0 0] 24))
 have bR:=((Blk.new' (w:=w.alloc (.cells #[.int .i64 kd,.string nm,.slice a l.length c] 24)) (g:=w.heap.size+1) 24 [.int .i64 0,.string ⟨#[]⟩,.slice none 0 0] (by simp)).alloc (.cells #[.int .i64 kd,.string nm,.slice none 0 0] 24))
 have K0:Kept (fun _=>False) w (((w.alloc (.cells #[.int .i64 kd,.string nm,.slice a l.length c] 24)).alloc (.cells #[.int .i64 0,.string ⟨#[]⟩,.slice none 0 0] 24)).alloc (.cells #[.int .i64 kd,.string nm,.slice none 0 0] 24)):=((kR.alloc _).alloc _).alloc _
 have HRC:Hid (RC bz w kd nm l a c 0 (((w.alloc (.cells #[.int .i64 kd,.string nm,.slice a l.length c] 24)).alloc (.cells #[.int .i64 0,.string ⟨#[]⟩,.slice none 0 0] 24)).alloc (.cells #[.int .i64 kd,.string nm,.slice none 0 0] 24)) [] (.slice none 0 0)):=Ld
  ⟨K0,bA,bR,b3,World.ownsRow_nil _ _ _ _,(fun e he=>by cases he),rfl,by simp⟩
 clear b3 bA bR K0
 go_enter Tryz.func64,Tryz.ntmps64
 go_wp2_with fail
 go_loopw [4] (fun i wr=>∃ (k:Nat) (E:List E2) (v:Value),k≤l.length∧i=.int .i64 k∧RC bz w kd nm l a c k wr E v) (fun i _=>l.length-(intOf i).toNat)
 case atStart=>exact⟨0,[],_,Nat.zero_le _,rfl,HRC.out⟩
 case round=>
  clear HRC
  obtain⟨k,E,v,hkl,rfl,h⟩:=hrel
  obtain⟨va,vn,vc,rfl⟩:=(tyl_of_row (ok:=fun _=>True) h.own (h.el.mono (fun _ _ _=>trivial)) (fun _ _=>trivial)).slice
  have gA:∀ i,wr.cell? ⟨w.heap.size,i,none⟩=[Value.int .i64 kd,.string nm,.slice a l.length c][i]?:=h.a.cell
  have gO:∀ i,wr.cell? ⟨w.heap.size+1+1,i,none⟩=[Value.int .i64 kd,.string nm,.slice va vn vc][i]?:=h.o.cell
  have gR:∀ i,wr.cell? ⟨w.heap.size+1,i,none⟩=[Value.int .i64 0,.string ⟨#[]⟩,.slice none 0 0][i]?:=h.r.cell
  have fO:∀ i,wr.frozen? ⟨w.heap.size+1+1,i,none⟩=false:=h.o.frozen
  have fR:∀ i,wr.frozen? ⟨w.heap.size+1,i,none⟩=false:=h.r.frozen
  have lO:=h.o.lt
  have H:=Ld h
  clear h
  by_cases hlt:k<l.length
  ·have hn2:=HN1.out
   have i1:(k:Int)<(l.length:Int):=by omega
   have i2:(k:Int)<1000000:=by omega
   obtain⟨g,off,ta,tn,tc,rfl,_,lg,⟨c0,c1,c2⟩,hty⟩:=HAT.out wr H.out.kp k hlt
   have hcon:=Ld ((HIH.out _ (List.getElem_mem hlt)) wr.drew ok _ (hty.frame (Same.drew _)))
   unfold tyVal at hcon
   have hlen:=Ld H.out.len
   have hmx:Hid (E.length+1≤maxLen):=Ld (by have:=hlen.out;unfold maxLen;omega)
   have hby:Hid ((E.length+1)*48≤140737488355328):=Ld (by have:=hlen.out;omega)
   obtain⟨i26,hi26,hz26,hs26,hb26⟩:=info_ty
   have HI26:=Ld hi26
   have HZ26:=Ld hz26
   have HS26:=Ld hs26
   have HB26:=Ld hb26
   clear hty hn2 hi26 hz26 hs26 hb26
   go_upto_region 5 with (fail)
   go_region_law (first | (refine step_append_lies _ (by rfl) _ _ _ (by rfl) (w.heap.size+3) 24 i26 _ 3 48 Tryz.underlying22 HI26.out HZ26.out HS26.out HB26.out rfl (by decide) (.slice va vn vc) E.length (flatY E) (by rfl) (own6.alloc _) ⟨w6.heap.size,0,none⟩ 1 1 (tyCells l[k] (.slice ua un uc)) (by rfl) rfl (newsT (Blk.new w6 24 (tyCells l[k] (.slice ua un uc)))) oneY (by omega) hmx.out hby.out (by simp;omega) (w6.heap.size+1) (by simp) ?_;intro gg cap w8 own8 hgrow hatg hltg;have hO8:=(hO6.alloc (.cells #[.int .i64 l[k].kind,.string l[k].name,.slice ua un uc] 24)).kept (kept_grown hgrow) (fun e=>hvS e);have q8:w8.cell? ⟨w.heap.size+1+1,2,none⟩=some (.slice va vn vc):=hO8.cell 2;have f8:w8.frozen? ⟨w.heap.size+1+1,2,none⟩=false:=hO8.frozen 2) | (go_simp;go_at_call 64;refine hcon.out.mono ?_;rintro e w6 ⟨u,rfl,hu,k6'⟩;obtain⟨ua,un,uc,rfl⟩:=hu.slice;have k6:Kept (fun _=>False) wr w6:=(kR.drew).trans k6';have hO6:=H.out.o.kept k6 (fun h=>h);have own6:=own_keptT H.out.own k6 (fun _ _ h=>h);have gO6:∀ i,w6.cell? ⟨w.heap.size+1+1,i,none⟩=[Value.int .i64 kd,.string nm,.slice va vn vc][i]?:=hO6.cell;have hvS:(Value.slice va vn vc).ownBlock≠some (w.heap.size+2):=(fun e=>by have:=(own6.lt _ e).1;omega);have l6:=hO6.lt))
   all_goals
    have HX:=Ld (RC.step H.out hlt k6 (hu.mono (fun q _ h=>h)) rfl _ own8 hgrow hatg)
    clear hO6 hO8 own6 own8 hgrow hu k6' hcon
    go_wp2_with fail
    go_roundw
    case rel=>exact⟨k+1,_,_,by omega,by go_num,HX.out⟩
    case measure=>simp[intOf];omega
  ·have hkk:k=l.length:=by omega
   subst hkk
   go_wp2_with fail
   have bF:=r3' (x:=.int .i64 kd) (y:=.string nm) (z:=.slice va vn vc) H.out.r rfl
   obtain⟨g,c0,hgv,hgb,hgc,hrow⟩:=krowY_of H.out.own H.out.el (fun e=>by
    have h1:=H.out.mp
    rw[e,List.take_length] at h1
    exact HNE.out h1.symm)
   cases hgv
   have hEl:E.length=l.length:=H.out.len
   rw[H.out.mp,List.take_length] at hrow
   refine bodyPost_ret (results_one Tryz.results64 rfl (load_ty (t:=.mk kd nm l) bF)) rfl ⟨g,vc,by show _=Ending.returned (tyVal (.mk kd nm l) (.slice (some ⟨g,0,none⟩) l.length vc));rw[← hEl],by show l.length≤_;rw[← hEl];exact hgc,by omega,?_,?_⟩
   ·have kS:Kept (·=w.heap.size+1) wr (((wr.setCell ⟨w.heap.size+1,0,none⟩ (.int .i64 kd)).setCell ⟨w.heap.size+1,1,none⟩ (.string nm)).setCell ⟨w.heap.size+1,2,none⟩ (.slice (some ⟨g,0,none⟩) E.length vc)):=(((Kept.refl (fun x=>x=w.heap.size+1) _).setCell (p:=⟨w.heap.size+1,0,none⟩) (Or.inl rfl) _).setCell (p:=⟨w.heap.size+1,1,none⟩) (Or.inl rfl) _).setCell (p:=⟨w.heap.size+1,2,none⟩) (Or.inl rfl) _
    exact (hrow.kept kS (by show ¬ g=w.heap.size+1;omega) (fun q hq _=>by show ¬ q=w.heap.size+1;omega)).lower (by omega)
   ·exact ((H.out.kp.setCell (p:=⟨w.heap.size+1,0,none⟩) (Or.inr (by show w.heap.size≤w.heap.size+1;omega)) _).setCell (p:=⟨w.heap.size+1,1,none⟩) (Or.inr (by show w.heap.size≤w.heap.size+1;omega)) _).setCell (p:=⟨w.heap.size+1,2,none⟩) (Or.inr (by show w.heap.size≤w.heap.size+1;omega)) _
theorem rcopyTy_kids {t:Ty} (hb:BdTy t) (hne:t.kids≠[]) {w:World} {ok:Nat→Prop} {tk:Value} (h:TyL bz ok w t.kids tk):Calls Tryz.prog 64 #[tyVal t tk] w (ClY bz t w):=by
 cases hb with
 | mk hn hl=>exact rcopyTy_two (fun t ht=>rcopyTy_any (hl t ht)) hn hne h
def heldE (v:Value):Option (DataW Value×List MemPlace):=some (.held v,[])
def kL (s:ByteArray):Lit:=.string s.data.toList
theorem kL_inj {s t:ByteArray} (h:kL s=kL t):s=t:=by
 unfold kL at h
 cases s with | mk s=>cases t with | mk t=>simp only[Lit.string.injEq] at h;rw[Array.toList_inj.1 h]
theorem kL_key (s:ByteArray):WideAt.IsKeyLit (kL s):=trivial
theorem k9:Maps.Keyed Tryz.prog 9:=Maps.string_keyed Tryz.underlying9
theorem k9_of {s:ByteArray} (h:s.size≤maxLen):keyOf Tryz.prog 9 (.string s)=some (kL s):=WideMaps.keyOf_string_mk Tryz.underlying9 h
theorem k9_inv {key:Value} {kl:Lit} (h:keyOf Tryz.prog 9 key=some kl):∃ s:ByteArray,key=.string s∧kl=kL s∧s.size≤maxLen:=by
 have e:=keyOf_string Tryz.underlying9 (v:=key)
 cases key with
 | string s=>
  rw[keyOf_string Tryz.underlying9] at h
  simp only[mapKey,Tryz.underlying9] at h
  split at h
  ·cases h;exact⟨s,rfl,rfl,by assumption⟩
  ·cases h
 | _=>
  rw[keyOf_string Tryz.underlying9] at h
  simp[mapKey,Tryz.underlying9] at h
structure Says (D:DataW Value) (f:ByteArray→Option Value):Prop where
 has:∀ s,Maps.has D (kL s)=(f s).isSome
 val:∀ s v,f s=some v→∀ z,D.atKey (kL s) z=.held v
def MapF (w:World) (b n:Nat) (f:ByteArray→Option Value):Prop:=∃ D:DataW Value,w.ownsMap Tryz.prog 9 heldE b n D∧Says D f
def updF (f:ByteArray→Option Value) (s:ByteArray) (v:Value):ByteArray→Option Value:=fun t=>if t=s then some v else f t
theorem Says.get {D:DataW Value} {f:ByteArray→Option Value} (h:Says D f) (s:ByteArray) (z:Value):D.atKey (kL s) (.held z)=.held ((f s).getD z):=by
 cases hf:f s with
 | none=>
  have:=h.has s
  rw[hf] at this
  exact Maps.atKey_of_not_has this _
 | some v=>exact h.val s v hf _
theorem Says.put {D:DataW Value} {f:ByteArray→Option Value} (h:Says D f) (hD:Maps.IsMap D) (s:ByteArray) (v:Value):Says (D.put (kL s) (.held v)) (updF f s v):=by
 refine⟨fun t=>?_,fun t u hu z=>?_⟩
 ·unfold updF
  by_cases e:t=s
  ·subst e;rw[if_pos rfl,Maps.has_put_same hD (kL_key t)];rfl
  ·rw[if_neg e,Maps.has_put_other (fun h=>e (kL_inj h)),h.has]
 ·unfold updF at hu
  by_cases e:t=s
  ·subst e;rw[if_pos rfl] at hu;cases hu;exact Maps.atKey_put_same hD (kL_key t) _ _
  ·rw[if_neg e] at hu;rw[Maps.atKey_put_other (fun h=>e (kL_inj h))];exact h.val t u hu z
theorem MapF.made (w:World):MapF (w.alloc (.map #[] 0)) w.heap.size 0 (fun _=>none):=
 ⟨.map [],World.ownsMap_made w Tryz.prog 9 heldE,fun _=>rfl,fun _ _ h=>by cases h⟩
theorem MapF.lt {w:World} {b n:Nat} {f:ByteArray→Option Value} (h:MapF w b n f):b<w.heap.size:=by obtain⟨D,h,_⟩:=h;exact h.lt
theorem MapF.mono {w:World} {b n n':Nat} {f:ByteArray→Option Value} (h:MapF w b n f) (hn:n≤n'):MapF w b n' f:=by obtain⟨D,h,h2⟩:=h;exact⟨D,h.mono hn,h2⟩
theorem MapF.kept {S:Nat→Prop} {w w':World} {b n:Nat} {f:ByteArray→Option Value} (h:MapF w b n f) (k:Kept S w w') (hb:¬ S b):MapF w' b n f:=by
 have hlt:=h.lt
 obtain⟨D,⟨es,clock,h1,h2⟩,h3⟩:=h
 exact⟨D,⟨es,clock,(k.block b hlt hb).trans h1,h2⟩,h3⟩
theorem MapF.look {w:World} {b n:Nat} {f:ByteArray→Option Value} (h:MapF w b n f) {t e:TypeId} (ht:Tryz.prog.underlying t=some (.map 9 e)) {z:Value} (hz:(zeroValue e).run Tryz.prog w=.ok z w) {s:ByteArray} (hs:s.size≤maxLen):
  (Instr.lookup t (.map (some b)) (.string s) false).run Tryz.prog w=.ok ((f s).getD z) w:=by
 obtain⟨D,hD,hf⟩:=h
 obtain⟨v,ps,h1,h2⟩:=hD.lookup (z:=z) k9 ht hz (zd:=.held z) (zp:=[]) rfl (k9_of hs)
 rw[hf.get s z] at h2
 cases h2
 exact h1
theorem MapF.look_ok {w:World} {b n:Nat} {f:ByteArray→Option Value} (h:MapF w b n f) {t e:TypeId} (ht:Tryz.prog.underlying t=some (.map 9 e)) {z:Value} (hz:(zeroValue e).run Tryz.prog w=.ok z w) {s:ByteArray} (hs:s.size≤maxLen):
  (Instr.lookup t (.map (some b)) (.string s) true).run Tryz.prog w=.ok (.tuple #[(f s).getD z,.bool (f s).isSome]) w:=by
 obtain⟨D,hD,hf⟩:=h
 obtain⟨v,ps,h1,h2⟩:=hD.look_ok (z:=z) k9 ht hz (zd:=.held z) (zp:=[]) rfl (k9_of hs)
 rw[hf.get s z] at h2
 rw[hf.has s] at h1
 cases h2
 exact h1
theorem MapF.store {w:World} {b n:Nat} {f:ByteArray→Option Value} (h:MapF w b n f) {t e:TypeId} (ht:Tryz.prog.underlying t=some (.map 9 e)) {s:ByteArray} (hs:s.size≤maxLen) (hn:n<maxLen) (v:Value):
  ∃ w',(Instr.mapUpdate t (.map (some b)) (.string s) v).run Tryz.prog w=.ok () w'∧MapF w' b (n+1) (updF f s v)∧Kept (fun q=>q=b) w w':=by
 obtain⟨D,hD,hf⟩:=h
 obtain⟨w',h1,h2,h3⟩:=hD.update k9 ht hn (k9_of hs) (val:=v) (d:=.held v) (ps:=[]) rfl
 exact⟨w',h1,⟨_,h2,hf.put hD.isMap s v⟩,⟨h3.os,h3.tape,h3.output,h3.size,fun k hk hn=>h3.block k hk (fun e=>hn (Option.some.inj e))⟩⟩
theorem MapF.isEmpty {w:World} {b n:Nat} {f:ByteArray→Option Value} (h:MapF w b n f) {t e:TypeId} (ht:Tryz.prog.underlying t=some (.map 9 e)) (ty:TypeId):
  ∃ m:Nat,(Builtin.len_ #[t] ty #[.map (some b)]).run Tryz.prog w=.ok (.int .i64 m) w∧m≤n∧(m=0↔∀ s:ByteArray,s.size≤maxLen→f s=none):=by
 obtain⟨D,hD,hf⟩:=h
 refine⟨_,hD.len ht ty,hD.size_le,?_⟩
 obtain⟨es,clock,h1,F,h2,rfl⟩:=hD
 constructor
 ·intro h s _
  have h3:=hf.has s
  have h4:((es.toList.map (WideElems.rg Tryz.prog 9 heldE)).foldr DataW.insert [])=[]:=List.length_eq_zero_iff.1 h
  rw[h4] at h3
  cases hs:f s with
  | none=>rfl
  | some v=>rw[hs] at h3;cases h3
 ·intro h
  rw[Maps.size_eq]
  apply List.length_eq_zero_iff.2
  apply List.eq_nil_iff_forall_not_mem.2
  intro p hp
  obtain⟨x,hx,rfl⟩:=List.mem_map.1 (mem_sorted.1 hp)
  obtain⟨y,hy⟩:=F.reads x hx
  obtain⟨s,_,e2,hs⟩:=k9_inv (WideElems.rd_key hy)
  have h3:=hf.has s
  rw[h s hs,Maps.has_eq] at h3
  have h5:((es.toList.map (WideElems.rg Tryz.prog 9 heldE)).foldr DataW.insert []).any (fun p=>p.1.sameKey (kL s))=true:=
   List.any_eq_true.2 ⟨_,hp,by rw[WideElems.rg_of hy,e2];exact WideAt.sameKey_self (kL_key s)⟩
  rw[h5] at h3;cases h3
theorem MapF.small {w:World} {b n:Nat} {f:ByteArray→Option Value} (h:MapF w b n f) {s:ByteArray} (hs:(f s).isSome=true):s.size≤maxLen:=by
 obtain⟨D,hD,hf⟩:=h
 obtain⟨es,clock,h1,F,h2,rfl⟩:=hD
 have h3:=hf.has s
 rw[hs,Maps.has_eq] at h3
 obtain⟨p,hp,hk⟩:=List.any_eq_true.1 h3
 obtain⟨x,hx,rfl⟩:=List.mem_map.1 (mem_sorted.1 hp)
 obtain⟨y,hy⟩:=F.reads x hx
 obtain⟨s',_,e2,hs'⟩:=k9_inv (WideElems.rd_key hy)
 rw[WideElems.rg_of hy,e2] at hk
 have e:=kL_inj ((WideAt.sameKey_iff (kL_key s)).1 hk)
 rw[← e];exact hs'
def MapR (w:World) (b r n:Nat) (f:ByteArray→Option Value) (g:ByteArray→Bool) (cnt:Nat):Prop:=∃ (D:DataW Value) (left:Lit→Bool),w.ranges Tryz.prog 9 heldE b r n D left cnt∧Says D f∧∀ s,left (kL s)=g s
theorem MapR.map {w:World} {b r n cnt:Nat} {f:ByteArray→Option Value} {g:ByteArray→Bool} (h:MapR w b r n f g cnt):MapF w b n f:=by obtain⟨D,l,h,hf,_⟩:=h;exact⟨D,h.owns,hf⟩
theorem MapR.left {w:World} {b r n cnt:Nat} {f:ByteArray→Option Value} {g:ByteArray→Bool} (h:MapR w b r n f g cnt):w.rangeLeft b r=cnt:=by obtain⟨D,l,h,_⟩:=h;exact h.left_eq
theorem MapR.lt {w:World} {b r n cnt:Nat} {f:ByteArray→Option Value} {g:ByteArray→Bool} (h:MapR w b r n f g cnt):r<w.heap.size:=by obtain⟨D,l,h,_⟩:=h;exact h.lt
theorem MapR.kept {S:Nat→Prop} {w w':World} {b r n cnt:Nat} {f:ByteArray→Option Value} {g:ByteArray→Bool} (h:MapR w b r n f g cnt) (k:Kept S w w') (hb:¬ S b) (hr:¬ S r):MapR w' b r n f g cnt:=by
 have h1:=h.map.lt
 have h2:=h.lt
 obtain⟨D,l,⟨es,clock,since,seen,c0,e1,F,hs,hD,e2,rest⟩,hf⟩:=h
 exact⟨D,l,⟨es,clock,since,seen,c0,(k.block b h1 hb).trans e1,F,hs,hD,(k.block r h2 hr).trans e2,rest⟩,hf⟩
theorem MapF.range {w:World} {b n:Nat} {f:ByteArray→Option Value} (h:MapF w b n f) {t e:TypeId} (ht:Tryz.prog.underlying t=some (.map 9 e)):
  ∃ w' cnt,(Instr.range t (.map (some b))).run Tryz.prog w=.ok (.pointer (some ⟨w.heap.size,0,none⟩)) w'∧MapR w' b w.heap.size n f (fun s=>(f s).isSome) cnt∧Kept (fun _=>False) w w'∧w'.heap.size=w.heap.size+1∧cnt≤n:=by
 obtain⟨D,hD,hf⟩:=h
 obtain⟨w',h1,h2,h3,h4⟩:=hD.range k9 ht
 exact⟨w',_,h1,⟨D,_,h2,hf,hf.has⟩,⟨h3.os,h3.tape,h3.output,h3.size,fun k hk _=>h3.block k hk (by simp)⟩,h4,hD.size_le⟩
theorem MapR.next {w:World} {b r n cnt:Nat} {f:ByteArray→Option Value} {g:ByteArray→Bool} (h:MapR w b r n f g cnt) (ty:TypeId):
  ((∀ s:ByteArray,s.size≤maxLen→g s=false)∧(Instr.next (.pointer (some ⟨r,0,none⟩)) false ty).run Tryz.prog w=.ok (.tuple #[.bool false]) w) ∨
  ∃ s v w' cnt',s.size≤maxLen∧g s=true∧f s=some v∧(Instr.next (.pointer (some ⟨r,0,none⟩)) false ty).run Tryz.prog w=.ok (.tuple #[.bool true,.string s,v]) w' ∧
   MapR w' b r n f (fun t=>g t&&!decide (t=s)) cnt'∧cnt'<cnt∧Kept (fun q=>q=r) w w'∧w'.heap.size=w.heap.size∧(Instr.entry (.pointer (some ⟨r,0,none⟩))).run Tryz.prog w'=.ok (.tuple #[.string s,v]) w':=by
 obtain⟨D,l,h1,hf,hl⟩:=h
 rcases h1.next k9 ty with ⟨h0,ha,hrun⟩ | ⟨key,v,kl,y,w',cnt',hkey,hlk,hv,hat,hrun,hrg,hlt,hgr,hsz,hen⟩
 ·exact Or.inl ⟨fun s _=>by rw[← hl,ha],hrun⟩
 ·obtain⟨s,rfl,rfl,hs⟩:=k9_inv hkey
  cases hv
  have hfs:f s=some v:=by
   cases hfs:f s with
   | none=>
    have:=hat .nil
    rw[Maps.atKey_of_not_has (by rw[hf.has,hfs];rfl)] at this
    cases this
   | some u=>
    have:=hf.val s u hfs .nil
    rw[hat] at this
    cases this
    rfl
  refine Or.inr ⟨s,v,w',cnt',hs,by rw[← hl,hlk],hfs,hrun,⟨D,_,hrg,hf,fun t=>?_⟩,hlt,⟨hgr.os,hgr.tape,hgr.output,hgr.size,fun k hk hn=>hgr.block k hk (fun e=>hn (Option.some.inj e))⟩,hsz,hen⟩
  show (l (kL t)&&!(kL t).sameKey (kL s))=_
  have e:(kL t).sameKey (kL s)=decide (t=s):=by
   rw[Bool.eq_iff_iff,WideAt.sameKey_iff (kL_key s),decide_eq_true_eq]
   exact⟨kL_inj,fun e=>by rw[e]⟩
  rw[hl,e]
section
variable {ops:Array Oper} {rest:List Oper} {o:Oper} {a:Act} {Q:Exit→Act→World→Prop} {w:World} {b n:Nat} {f:ByteArray→Option Value} {t e:TypeId}
theorem wpList_storeF (hg:o.guard=none) (m x v:Operand) (t e:TypeId) (hop:o.op=Op.mapUpdate t m x v) (ht:Tryz.prog.underlying t=some (.map 9 e)) (hm:a.eval m=.map (some b)) (hM:MapF w b n f) (s:ByteArray) (hx:a.eval x=.string s) (hs:s.size≤maxLen) (hn:n<maxLen) (u:Value) (hv:a.eval v=u)
  (h:∀ w',MapF w' b (n+1) (updF f s u)→Kept (fun q=>q=b) w w'→wpList Tryz.prog ops Q rest (a.put o.dst undef) w'):wpList Tryz.prog ops Q (o::rest) a w:=by
 refine wpList_plain hg fun K' hK'=>?_
 obtain⟨w',hrun,r1,r2⟩:=hM.store ht hs hn u
 unfold Oper.wp
 simp[execOp,hop,hm,hx,hv,hrun,Result.andThen]
 exact hK' _ _ (h w' r1 r2)
theorem wpList_rangeF (hg:o.guard=none) (m:Operand) (t e:TypeId) (hop:o.op=Op.range t m) (ht:Tryz.prog.underlying t=some (.map 9 e)) (hm:a.eval m=.map (some b)) (hM:MapF w b n f)
  (h:∀ w' cnt,MapR w' b w.heap.size n f (fun s=>(f s).isSome) cnt→Kept (fun _=>False) w w'→w'.heap.size=w.heap.size+1→cnt≤n→wpList Tryz.prog ops Q rest (a.put o.dst (.pointer (some ⟨w.heap.size,0,none⟩))) w'):wpList Tryz.prog ops Q (o::rest) a w:=by
 refine wpList_plain hg fun K' hK'=>?_
 obtain⟨w',cnt,hrun,r1,r2,r3,r4⟩:=hM.range ht
 unfold Oper.wp
 simp[execOp,hop,hm,hrun,Result.andThen]
 exact hK' _ _ (h w' cnt r1 r2 r3 r4)
theorem wpList_nextF {r cnt:Nat} {g:ByteArray→Bool} (hg:o.guard=none) (it:Operand) (hop:o.op=Op.next it false) (hit:a.eval it=.pointer (some ⟨r,0,none⟩)) (hR:MapR w b r n f g cnt)
  (hDone:(∀ s:ByteArray,s.size≤maxLen→g s=false)→wpList Tryz.prog ops Q rest (a.put o.dst (.tuple #[.bool false])) w)
  (hMore:∀ (s:ByteArray) (v:Value) (w':World) (cnt':Nat),s.size≤maxLen→g s=true→f s=some v→MapR w' b r n f (fun t=>g t&&!decide (t=s)) cnt'→cnt'<cnt→Kept (fun q=>q=r) w w'→w'.heap.size=w.heap.size →
   (Instr.entry (.pointer (some ⟨r,0,none⟩))).run Tryz.prog w'=.ok (.tuple #[.string s,v]) w'→wpList Tryz.prog ops Q rest (a.put o.dst (.tuple #[.bool true,.string s,v])) w'):wpList Tryz.prog ops Q (o::rest) a w:=by
 refine wpList_plain hg fun K' hK'=>?_
 unfold Oper.wp
 rcases hR.next o.type with ⟨h0,hrun⟩ | ⟨s,v,w',cnt',h1,h2,h3,hrun,h4,h5,h6,h7,h8⟩
 ·simp[execOp,hop,hit,hrun,Result.andThen]
  exact hK' _ _ (hDone h0)
 ·simp[execOp,hop,hit,hrun,Result.andThen]
  exact hK' _ _ (hMore s v w' cnt' h1 h2 h3 h4 h5 h6 h7 h8)
end
def bagF (B:ByteArray→Bool):ByteArray→Option Value:=fun s=>if B s then some (.bool true) else none
theorem bagF_upd (B:ByteArray→Bool) (s:ByteArray):updF (bagF B) s (.bool true)=bagF (fun t=>B t||decide (t=s)):=by
 funext t
 unfold updF bagF
 by_cases e:t=s
 ·subst e;simp
 ·simp[e]
theorem bagF_get (B:ByteArray→Bool) (s:ByteArray):(bagF B s).getD (.bool false)=.bool (B s):=by
 unfold bagF;cases B s <;> rfl
def CntF (f:ByteArray→Option Value) (c:ByteArray→Nat):Prop:=∀ s,(f s).getD (.int .i64 0)=.int .i64 (c s)
theorem CntF.upd {f:ByteArray→Option Value} {c:ByteArray→Nat} (h:CntF f c) (s:ByteArray) (k:Nat):CntF (updF f s (.int .i64 k)) (fun t=>if t=s then k else c t):=by
 intro t
 show _=Value.int .i64 ((if t=s then k else c t:Nat):Int)
 unfold updF
 by_cases e:t=s
 ·rw[if_pos e,if_pos e];rfl
 ·rw[if_neg e,if_neg e];exact h t
theorem u90:Tryz.prog.underlying 69=some (.map 9 4):=Tryz.underlying69
theorem u95:Tryz.prog.underlying 89=some (.map 9 3):=Tryz.underlying89
theorem z4 (w:World):(zeroValue 4).run Tryz.prog w=.ok (.bool false) w:=Tryz.zeroValue4 w
theorem z3 (w:World):(zeroValue 3).run Tryz.prog w=.ok (.int .i64 0) w:=Tryz.zeroValue3 w
def tyHead (k:Int) (nm:ByteArray) (n:Nat) (within:Bool):Bool:=
 if k=1 then decide (n=0)&&(nm.toList==[])
 else if k=2 then !within&&decide (n=0)&&(nm.toList==[])
 else if k=3 then identB nm&&decide (n=0)
 else if k=4 then decide (n=2)&&(nm.toList==[])
 else if k=5 then decide (n=1)&&(nm.toList==[])
 else false
mutual
def tfS (most deep:Nat):Ty→Nat→Bool→Nat→Bool×Nat
 | .mk k nm l,d,wi,c=>
  match (decide (c+1≤most)&&decide (d≤deep))&&tyHead k nm l.length wi with
  | false=>(false,c+1)
  | true=>tfsS most deep l (d+1) (c+1)
def tfsS (most deep:Nat):List Ty→Nat→Nat→Bool×Nat
 | [],_,c=>(true,c)
 | t::l,d,c=>
  match tfS most deep t d true c with
  | (true,c')=>tfsS most deep l d c'
  | (false,c')=>(false,c')
end
def FPost (m most deep:Nat) (r:Bool×Nat) (w:World) (e:Ending) (w':World):Prop:=e=.returned (.bool r.1)∧Blk w' m 119 (mcells r.2 most deep)∧Kept (·=m) w w'
def TyC (bz:Nat) (m most deep:Nat) (t:Ty):Prop:=∀ (w:World) (c d:Nat) (wi:Bool) (tk:Value),Blk w m 119 (mcells c most deep)→c≤most→d≤deep+1→TyL bz (fun k=>k≠m) w t.kids tk →
 Calls Tryz.prog 216 #[.pointer (some ⟨m,0,none⟩),tyVal t tk,.int .i64 d,.bool wi] w (FPost m most deep (tfS most deep t d wi c) w)
theorem tf_le (most deep:Nat):∀ (t:Ty) (d:Nat) (wi:Bool) (c:Nat),c≤most→(tfS most deep t d wi c).1=true→c+1≤(tfS most deep t d wi c).2∧(tfS most deep t d wi c).2≤most:=by
 intro t
 induction t using Ty.rec (motive_2:=fun l=>∀ (d c:Nat),c≤most→(tfsS most deep l d c).1=true→c≤(tfsS most deep l d c).2∧(tfsS most deep l d c).2≤most) with
 | mk k nm l ih=>
  intro d wi c hc h
  rw[tfS] at h ⊢
  cases hb:(decide (c+1≤most)&&decide (d≤deep))&&tyHead k nm l.length wi
  ·rw[hb] at h;cases h
  ·rw[hb] at h
   have:c+1≤most:=by simp at hb;exact hb.1.1
   exact ih _ _ this h
 | nil=>rename_i d c hc h;exact⟨Nat.le_refl _,hc⟩
 | cons t l iht ihl=>
  rename_i d c hc h
  rw[tfsS] at h ⊢
  cases hr:tfS most deep t d true c with
  | mk b c'=>
   cases b
   ·rw[hr] at h;cases h
   ·rw[hr] at h
    have a:=iht d true c hc (by rw[hr])
    rw[hr] at a
    have:=ihl d c' a.2 h
    exact⟨Nat.le_trans (Nat.le_trans (Nat.le_succ _) a.1) this.1,this.2⟩
theorem tf1_any {m most deep d c M D:Nat} {t:Ty} {a:Option Addr} {n cp:Nat} {w:World} (hT:TyC bz m most deep t) (hb:Blk w m 119 (mcells c most deep)) (hc:c≤most) (hd:d≤deep) (hdp:deep≤1000)
  (hM:w.cell? ⟨M,0,none⟩=some (.pointer (some ⟨m,0,none⟩))) (hD:w.cell? ⟨D,0,none⟩=some (.int .i64 d)) (hk:TyL bz (fun k=>k≠m) w t.kids (.slice a n cp)):
  Calls Tryz.prog 234 #[tyVal t (.slice a n cp),.pointer (some ⟨M,0,none⟩),.pointer (some ⟨D,0,none⟩)] w (FPost m most deep (!(tfS most deep t (d+1) true c).1,(tfS most deep t (d+1) true c).2) w):=by
 unfold tyVal
 have HT:=Ld hT
 clear hT
 have hb1:=hb.alloc (.cells #[.int .i64 t.kind,.string t.name,.slice a n cp] 24)
 have hk1:=hk.frame (Same.alloc w (.cells #[.int .i64 t.kind,.string t.name,.slice a n cp] 24))
 have lM:=cell_lt hM
 have lD:=cell_lt hD
 have nM:M≠w.heap.size:=by omega
 have nD:D≠w.heap.size:=by omega
 go_enter Tryz.func234,Tryz.ntmps234
 go_wp2_with fail
 refine (HT.out _ c (d+1) true _ hb1 hc (by omega) hk1).mono ?_
 rintro e w' ⟨rfl,h1,h2⟩
 go_wp2_with fail
 go_ret
 exact⟨rfl,h1,(kR.alloc _).trans h2⟩
theorem drop_cons {α:Type} (l:List α) (k:Nat) (h:k<l.length):l.drop k=l[k]::l.drop (k+1):=(List.getElem_cons_drop h).symm
theorem tfs_step {most deep d c:Nat} {l:List Ty} {k:Nat} (h:k<l.length):tfsS most deep (l.drop k) d c=(if (tfS most deep l[k] d true c).1=true then tfsS most deep (l.drop (k+1)) d (tfS most deep l[k] d true c).2 else (false,(tfS most deep l[k] d true c).2)):=by
 rw[drop_cons l k h,tfsS]
 cases tfS most deep l[k] d true c with
 | mk b c'=>cases b <;> rfl
theorem idxTy_any {m most deep d c M D:Nat} {l:List Ty} {a:Option Addr} {n cp:Nat} {w:World} (hT:∀ t,t∈l→TyC bz m most deep t) (hb:Blk w m 119 (mcells c most deep)) (hc:c≤most) (hmo:most≤100000) (hd:d≤deep) (hdp:deep≤1000) (hMm:M≠m) (hDm:D≠m)
  (hM:w.cell? ⟨M,0,none⟩=some (.pointer (some ⟨m,0,none⟩))) (hD:w.cell? ⟨D,0,none⟩=some (.int .i64 d)) (hk:TyL bz (fun k=>k≠m) w l (.slice a n cp)):
  Calls Tryz.prog 240 #[.slice a n cp,.func (.func 234) #[] #[.pointer (some ⟨M,0,none⟩),.pointer (some ⟨D,0,none⟩)]] w fun e w'=>∃ i:Int,e=.returned (.int .i64 i)∧decide (0≤i)=!(tfsS most deep l (d+1) c).1∧Blk w' m 119 (mcells (tfsS most deep l (d+1) c).2 most deep)∧Kept (·=m) w w':=by
 have HT:=Ld hT
 clear hT
 have hn:=hk.len
 subst hn
 cases hk with
 | nil he=>
  have hz:Hid (tfsS most deep ([]:List Ty) (d+1) c=(true,c)):=Ld (by rw[tfsS])
  go_enter Tryz.func240,Tryz.ntmps240
  go_wp2_with fail
  go_loop [8] (fun i=>i=.int .i64 0) (fun i=>0)
  case atStart=>rfl
  case round=>
   subst hrel
   go_wp2_with fail
   go_ret
   exact⟨-1,rfl,by rw[hz.out];rfl,by rw[hz.out];exact hb,Kept.refl _ _⟩
 | mk K hne hok hcap hcell hkk hs2=>
  rename_i g off
  have HC:=Ld hcell
  have HK:=Ld hkk
  clear hcell hkk
  have LM:=Ld (cell_lt hM)
  have LD:=Ld (cell_lt hD)
  go_enter Tryz.func240,Tryz.ntmps240
  go_wp2_with fail
  go_loopw [8] (fun i wr=>∃ k ck:Nat,k≤l.length∧i=.int .i64 k∧k≤ck∧ck≤most∧Blk wr m 119 (mcells ck most deep)∧Kept (·=m) w wr∧Hid (tfsS most deep l (d+1) c=tfsS most deep (l.drop k) (d+1) ck)) (fun i _=>l.length-(intOf i).toNat)
  case atStart=>exact⟨0,c,Nat.zero_le _,rfl,Nat.zero_le _,hc,hb,Kept.refl _ _,Ld rfl⟩
  case round=>
   obtain⟨k,ck,hkl,rfl,hkc,hcm,hbr,hkr,heq⟩:=hrel
   by_cases hlt:k<l.length
   ·have c0:=(Same.of_kept (ok:=fun k=>k≠m) hkr (fun k h e=>h e)).cell hok (HC.out k hlt).1
    have c1:=(Same.of_kept (ok:=fun k=>k≠m) hkr (fun k h e=>h e)).cell hok (HC.out k hlt).2.1
    have c2:=(Same.of_kept (ok:=fun k=>k≠m) hkr (fun k h e=>h e)).cell hok (HC.out k hlt).2.2
    have i1:(k:Int)<(l.length:Int):=by omega
    have i2:(k:Int)<1000000:=by omega
    obtain⟨ta,tn,tc,hK⟩:=(HK.out k hlt).slice
    have hkk:=(HK.out k hlt).frame (Same.of_kept (ok:=fun k=>k≠m) hkr (fun k h e=>h e))
    rw[hK] at c2 hkk
    have hM':wr.cell? ⟨M,0,none⟩=some (.pointer (some ⟨m,0,none⟩)):=by rw[hkr.cell (p:=⟨M,0,none⟩) LM.out hMm];exact hM
    have hD':wr.cell? ⟨D,0,none⟩=some (.int .i64 d):=by rw[hkr.cell (p:=⟨D,0,none⟩) LD.out hDm];exact hD
    have hst:=Ld (tfs_step (most:=most) (deep:=deep) (d:=d+1) (c:=ck) hlt)
    have hle:=Ld (tf_le most deep l[k] (d+1) true ck hcm)
    have hcon:=Ld (tf1_any (HT.out _ (List.getElem_mem hlt)) hbr hcm hd hdp hM' hD' hkk)
    clear hkk hM' hD'
    cases hr:(tfS most deep l[k] (d+1) true ck).1
    ·go_wp2_with (go_at_call 234;refine hcon.out.mono ?_;rintro e w' ⟨rfl,h1,h2⟩)
     go_ret
     have q:=heq.out.trans hst.out
     rw[hr,if_neg (by simp)] at q
     exact⟨k,rfl,by rw[q];simp,by rw[q];exact h1,hkr.trans h2⟩
    ·go_wp2_with (go_at_call 234;refine hcon.out.mono ?_;rintro e w' ⟨rfl,h1,h2⟩)
     go_roundw
     case rel=>
      have q:=heq.out.trans hst.out
      rw[hr,if_pos rfl] at q
      have z:=hle.out hr
      exact⟨k+1,_,by omega,by go_num,by omega,z.2,h1,hkr.trans h2,Ld q⟩
     case measure=>simp[intOf];omega
   ·have hz:Hid (tfsS most deep l (d+1) c=(true,ck)):=Ld (by rw[heq.out,List.drop_eq_nil_of_le (by omega),tfsS])
    go_wp2_with fail
    go_ret
    exact⟨-1,rfl,by rw[hz.out];rfl,by rw[hz.out];exact hbr,hkr⟩
theorem contTy_any {m most deep d c M D:Nat} {l:List Ty} {a:Option Addr} {n cp:Nat} {w:World} (hT:∀ t,t∈l→TyC bz m most deep t) (hb:Blk w m 119 (mcells c most deep)) (hc:c≤most) (hmo:most≤100000) (hd:d≤deep) (hdp:deep≤1000) (hMm:M≠m) (hDm:D≠m)
  (hM:w.cell? ⟨M,0,none⟩=some (.pointer (some ⟨m,0,none⟩))) (hD:w.cell? ⟨D,0,none⟩=some (.int .i64 d)) (hk:TyL bz (fun k=>k≠m) w l (.slice a n cp)):
  Calls Tryz.prog 233 #[.slice a n cp,.func (.func 234) #[] #[.pointer (some ⟨M,0,none⟩),.pointer (some ⟨D,0,none⟩)]] w fun e w'=>e=.returned (.bool (!(tfsS most deep l (d+1) c).1))∧Blk w' m 119 (mcells (tfsS most deep l (d+1) c).2 most deep)∧Kept (·=m) w w':=by
 have hcon:=Ld (idxTy_any hT hb hc hmo hd hdp hMm hDm hM hD hk)
 clear hT hM hD hk
 go_enter Tryz.func233,Tryz.ntmps233
 go_wp2_with fail
 refine hcon.out.mono ?_
 rintro e w' ⟨i,rfl,hi,h1,h2⟩
 go_wp2_with fail
 go_ret
 exact⟨rfl,h1,h2⟩
theorem tf_eq (most deep:Nat) (k:Int) (nm:ByteArray) (l:List Ty) (d:Nat) (wi:Bool) (c:Nat):tfS most deep (.mk k nm l) d wi c=if ((decide (c+1≤most)&&decide (d≤deep))&&tyHead k nm l.length wi)=true then tfsS most deep l (d+1) (c+1) else (false,c+1):=by
 rw[tfS]
 cases (decide (c+1≤most)&&decide (d≤deep))&&tyHead k nm l.length wi <;> rfl
theorem ident_t' {t:ByteArray} {v:Bool} (h:identB t=v) (ht:t.size≤9223372036854775807) (w:World):Calls Tryz.prog 79 #[.string t] w fun e w'=>e=.returned (.bool v)∧w=w':=(ident_any t w ht).mono fun _ _ q=>⟨by rw[← h];exact q.1,q.2⟩
theorem typeFits_one {m most deep:Nat} {k:Int} {nm:ByteArray} {l:List Ty} (hmo:most≤100000) (hdp:deep≤1000) (hsz:nm.size≤9223372036854775807) (IH:∀ t,t∈l→TyC bz m most deep t):TyC bz m most deep (.mk k nm l):=by
 intro w c d wi tk hb hc hd hk
 obtain⟨a,n,cp,rfl⟩:=hk.slice
 have hn:=hk.len
 unfold tyVal
 have hk':TyL bz (fun k=>k≠m) w l (.slice a n cp):=hk
 clear hk
 simp only[Ty.kind,Ty.name,Ty.kids] at hn ⊢
 have HIH:=Ld IH
 clear IH
 have hml:=hb.lt
 have HQ:=Ld (tf_eq most deep k nm l d wi c)
 have HN:=Ld hn
 clear hn
 have hb3:=((hb.alloc (.cells #[.pointer (some ⟨m,0,none⟩)] 159)).alloc (.cells #[.int .i64 k,.string nm,.slice a n cp] 24)).alloc (.cells #[.int .i64 d] 3)
 have K3:Kept (·=m) w (((w.alloc (.cells #[.pointer (some ⟨m,0,none⟩)] 159)).alloc (.cells #[.int .i64 k,.string nm,.slice a n cp] 24)).alloc (.cells #[.int .i64 d] 3)):=((kR.alloc _).alloc _).alloc _
 have b0:Blk (((w.alloc (.cells #[.pointer (some ⟨m,0,none⟩)] 159)).alloc (.cells #[.int .i64 k,.string nm,.slice a n cp] 24)).alloc (.cells #[.int .i64 d] 3)) w.heap.size 159 [.pointer (some ⟨m,0,none⟩)]:=((Blk.new w 159 _).alloc _).alloc _
 have b1:Blk (((w.alloc (.cells #[.pointer (some ⟨m,0,none⟩)] 159)).alloc (.cells #[.int .i64 k,.string nm,.slice a n cp] 24)).alloc (.cells #[.int .i64 d] 3)) (w.heap.size+1) 24 [.int .i64 k,.string nm,.slice a n cp]:=(Blk.new' 24 _ (by simp)).alloc _
 have b2:Blk (((w.alloc (.cells #[.pointer (some ⟨m,0,none⟩)] 159)).alloc (.cells #[.int .i64 k,.string nm,.slice a n cp] 24)).alloc (.cells #[.int .i64 d] 3)) (w.heap.size+2) 3 [.int .i64 d]:=Blk.new' 3 _ (by simp)
 cases hv:(decide (c+1≤most)&&decide (d≤deep))
 ·have hq:Hid (tfS most deep (.mk k nm l) d wi c=(false,c+1)):=Ld (by rw[HQ.out,hv];rfl)
  go_enter Tryz.func216,Tryz.ntmps216
  go_wp2_with fail
  refine (enter_any hb3 (by omega) hv).mono ?_
  rintro e W ⟨rfl,hbW,hkW⟩
  go_wp2_with fail
  go_ret
  exact⟨by rw[hq.out];rfl,by rw[hq.out];exact hbW,K3.trans hkW⟩
 have hd1:d≤deep:=by simp at hv;exact hv.2
 have hc1:c+1≤most:=by simp at hv;exact hv.1
 have HD1:=Ld hd1
 have HC1:=Ld hc1
 clear hd1 hc1
 go_enter Tryz.func216,Tryz.ntmps216
 go_wp2_with fail
 refine (enter_any hb3 (by omega) hv).mono ?_
 rintro e W ⟨rfl,hbW,hkW⟩
 have p0:W.cell? ⟨w.heap.size,0,none⟩=some (.pointer (some ⟨m,0,none⟩)):=(b0.kept hkW (by show ¬ w.heap.size=m;omega)).cell 0
 have g0:W.cell? ⟨w.heap.size+1,0,none⟩=some (.int .i64 k):=(b1.kept hkW (by show ¬ w.heap.size+1=m;omega)).cell 0
 have g1:W.cell? ⟨w.heap.size+1,1,none⟩=some (.string nm):=(b1.kept hkW (by show ¬ w.heap.size+1=m;omega)).cell 1
 have g2:W.cell? ⟨w.heap.size+1,2,none⟩=some (.slice a n cp):=(b1.kept hkW (by show ¬ w.heap.size+1=m;omega)).cell 2
 have dd:W.cell? ⟨w.heap.size+2,0,none⟩=some (.int .i64 d):=(b2.kept hkW (by show ¬ w.heap.size+2=m;omega)).cell 0
 have KW:=K3.trans hkW
 have hkl:TyL bz (fun k=>k≠m) W l (.slice a n cp):=hk'.frame (Same.of_kept KW (fun k h e=>h e))
 have HCON:Hid (tyHead k nm n wi=true→Calls Tryz.prog 233 #[.slice a n cp,.func (.func 234) #[] #[.pointer (some ⟨w.heap.size,0,none⟩),.pointer (some ⟨w.heap.size+2,0,none⟩)]] W fun e w'=>e=.returned (.bool (!(tfS most deep (.mk k nm l) d wi c).1))∧Blk w' m 119 (mcells (tfS most deep (.mk k nm l) d wi c).2 most deep)∧Kept (·=m) w w'):=Ld (by
  intro hB
  rw[HQ.out,hv,← HN.out,hB]
  exact (contTy_any HIH.out hbW HC1.out hmo HD1.out hdp (by omega) (by omega) p0 dd hkl).mono fun e w' ⟨q1,q2,q3⟩=>⟨q1,q2,KW.trans q3⟩)
 have HNO:Hid (tyHead k nm n wi=false→tfS most deep (.mk k nm l) d wi c=(false,c+1)):=Ld (by intro hB;rw[HQ.out,hv,← HN.out,hB];rfl)
 clear hkl hv
 by_cases k1:k=1
 ·subst k1
  by_cases hl:n=0
  ·subst hl
   cases he:(nm.toList==[])
   ·have hq:=HNO.out (by unfold tyHead;simp[*])
    have HQ2:=Ld hq
    clear hq
    go_wp2_with fail
    go_ret
    exact⟨by rw[HQ2.out];rfl,by rw[HQ2.out];exact hbW,KW⟩
   ·have hq:=HCON.out (by unfold tyHead;simp[*])
    have HQ2:=Ld hq
    clear hq
    go_wp2_with fail
    refine HQ2.out.mono ?_
    rintro e w' ⟨rfl,h1,h2⟩
    go_wp2_with fail
    go_ret
    exact⟨by simp,h1,h2⟩
  ·have hl':decide ((n:Int)=0)=false:=by simp;omega
   have hl2:((n:Int)==0)=false:=by simp;omega
   have hq:=HNO.out (by unfold tyHead;simp[hl])
   have HQ2:=Ld hq
   clear hq
   go_wp2_with fail
   go_ret
   exact⟨by rw[HQ2.out];rfl,by rw[HQ2.out];exact hbW,KW⟩
 by_cases k2:k=2
 ·subst k2
  cases wi
  case true=>
   have hq:=HNO.out (by unfold tyHead;simp)
   have HQ2:=Ld hq
   clear hq
   go_wp2_with fail
   go_ret
   exact⟨by rw[HQ2.out];rfl,by rw[HQ2.out];exact hbW,KW⟩
  by_cases hl:n=0
  ·subst hl
   cases he:(nm.toList==[])
   ·have hq:=HNO.out (by unfold tyHead;simp[*])
    have HQ2:=Ld hq
    clear hq
    go_wp2_with fail
    go_ret
    exact⟨by rw[HQ2.out];rfl,by rw[HQ2.out];exact hbW,KW⟩
   ·have hq:=HCON.out (by unfold tyHead;simp[*])
    have HQ2:=Ld hq
    clear hq
    go_wp2_with fail
    refine HQ2.out.mono ?_
    rintro e w' ⟨rfl,h1,h2⟩
    go_wp2_with fail
    go_ret
    exact⟨by simp,h1,h2⟩
  ·have hl':decide ((n:Int)=0)=false:=by simp;omega
   have hl2:((n:Int)==0)=false:=by simp;omega
   have hq:=HNO.out (by unfold tyHead;simp[hl])
   have HQ2:=Ld hq
   clear hq
   go_wp2_with fail
   go_ret
   exact⟨by rw[HQ2.out];rfl,by rw[HQ2.out];exact hbW,KW⟩
 by_cases k3:k=3
 ·subst k3
  cases hi:identB nm
  case false=>
   have hq:=HNO.out (by unfold tyHead;simp[hi])
   have HQ2:=Ld hq
   clear hq
   go_wp2_with (go_at_call 79;refine cR (ident_t' hi hsz _) ?_)
   go_ret
   exact⟨by rw[HQ2.out];rfl,by rw[HQ2.out];exact hbW,KW⟩
  by_cases hl:n=0
  ·subst hl
   have hq:=HCON.out (by unfold tyHead;simp[*])
   have HQ2:=Ld hq
   clear hq
   go_wp2_with (go_at_call 79;refine cR (ident_t' hi hsz _) ?_)
   refine HQ2.out.mono ?_
   rintro e w' ⟨rfl,h1,h2⟩
   go_wp2_with fail
   go_ret
   exact⟨by simp,h1,h2⟩
  ·have hl':decide ((n:Int)=0)=false:=by simp;omega
   have hl2:((n:Int)==0)=false:=by simp;omega
   have hq:=HNO.out (by unfold tyHead;simp[hl])
   have HQ2:=Ld hq
   clear hq
   go_wp2_with (go_at_call 79;refine cR (ident_t' hi hsz _) ?_)
   go_ret
   exact⟨by rw[HQ2.out];rfl,by rw[HQ2.out];exact hbW,KW⟩
 by_cases k4:k=4
 ·subst k4
  by_cases hl:n=2
  ·subst hl
   cases he:(nm.toList==[])
   ·have hq:=HNO.out (by unfold tyHead;simp[*])
    have HQ2:=Ld hq
    clear hq
    go_wp2_with fail
    go_ret
    exact⟨by rw[HQ2.out];rfl,by rw[HQ2.out];exact hbW,KW⟩
   ·have hq:=HCON.out (by unfold tyHead;simp[*])
    have HQ2:=Ld hq
    clear hq
    go_wp2_with fail
    refine HQ2.out.mono ?_
    rintro e w' ⟨rfl,h1,h2⟩
    go_wp2_with fail
    go_ret
    exact⟨by simp,h1,h2⟩
  ·have hl':decide ((n:Int)=2)=false:=by simp;omega
   have hl2:((n:Int)==2)=false:=by simp;omega
   have hq:=HNO.out (by unfold tyHead;simp[hl])
   have HQ2:=Ld hq
   clear hq
   go_wp2_with fail
   go_ret
   exact⟨by rw[HQ2.out];rfl,by rw[HQ2.out];exact hbW,KW⟩
 by_cases k5:k=5
 ·subst k5
  by_cases hl:n=1
  ·subst hl
   cases he:(nm.toList==[])
   ·have hq:=HNO.out (by unfold tyHead;simp[*])
    have HQ2:=Ld hq
    clear hq
    go_wp2_with fail
    go_ret
    exact⟨by rw[HQ2.out];rfl,by rw[HQ2.out];exact hbW,KW⟩
   ·have hq:=HCON.out (by unfold tyHead;simp[*])
    have HQ2:=Ld hq
    clear hq
    go_wp2_with fail
    refine HQ2.out.mono ?_
    rintro e w' ⟨rfl,h1,h2⟩
    go_wp2_with fail
    go_ret
    exact⟨by simp,h1,h2⟩
  ·have hl':decide ((n:Int)=1)=false:=by simp;omega
   have hl2:((n:Int)==1)=false:=by simp;omega
   have hq:=HNO.out (by unfold tyHead;simp[hl])
   have HQ2:=Ld hq
   clear hq
   go_wp2_with fail
   go_ret
   exact⟨by rw[HQ2.out];rfl,by rw[HQ2.out];exact hbW,KW⟩
 have q1:(k==1)=false:=beq_false_of_ne k1
 have q2:(k==2)=false:=beq_false_of_ne k2
 have q3:(k==3)=false:=beq_false_of_ne k3
 have q4:(k==4)=false:=beq_false_of_ne k4
 have q5:(k==5)=false:=beq_false_of_ne k5
 have hq:=HNO.out (by unfold tyHead;simp[k1,k2,k3,k4,k5])
 have HQ2:=Ld hq
 clear hq k1 k2 k3 k4 k5
 go_wp2_with fail
 go_ret
 exact⟨by rw[HQ2.out];rfl,by rw[HQ2.out];exact hbW,KW⟩
end Go.Proofs.YtdmebjbkccjhbaaGreatDoor
