/- A part. -/
import Derived.Test.YtdmebjbkccjhbaaGreatDoorU6
set_option linter.unusedVariables false
set_option linter.unusedSimpArgs false
set_option maxRecDepth 100000
set_option maxHeartbeats 32000000
namespace Go.Proofs.YtdmebjbkccjhbaaGreatDoor
open Go.RowKit
variable {bz:Nat}
abbrev E2:=Ty×Value
def tyCells (t:Ty) (tk:Value):List Value:=[.int .i64 t.kind,.string t.name,tk]
def flatY:List E2→List Value
 | []=>[]
 | e::E=>tyCells e.1 e.2++flatY E
def ELY (bz:Nat) (ok:Nat→Prop) (w:World) (E:List E2):Prop:=∀ e∈E,TyL bz ok w e.1.kids e.2
theorem flatY_len:∀ (E:List E2),(flatY E).length=E.length*3
 | []=>rfl
 | e::E=>by rw[flatY,List.length_append,flatY_len E,List.length_cons];show 3+_=_;omega
theorem flatY_snoc:∀ (E:List E2) (e:E2),flatY (E++[e])=flatY E++tyCells e.1 e.2
 | [],e=>by simp[flatY]
 | x::E,e=>by rw[List.cons_append,flatY,flatY_snoc E e,flatY,List.append_assoc]
theorem flatY_get:∀ (E:List E2) (i j:Nat) (h:i<E.length),j<3→(flatY E)[i*3+j]?=(tyCells E[i].1 E[i].2)[j]?
 | e::E,0,j,_,hj=>by
  rw[flatY,Nat.zero_mul,Nat.zero_add,List.getElem?_append_left (by show j<3;exact hj)];rfl
 | e::E,i+1,j,h,hj=>by
  rw[flatY,List.getElem?_append_right (by show 3≤_;omega)]
  have:=flatY_get E i j (by simpa using h) hj
  rw[show (i+1)*3+j-(tyCells e.1 e.2).length=i*3+j by show (i+1)*3+j-3=_;omega,this]
  rfl
theorem tyl_of_row {ok:Nat→Prop} {w:World} {base:Nat} {v:Value} {E:List E2} (hown:w.ownsRow base 24 3 v E.length (flatY E)) (hl:ELY bz ok w E) (hok:∀ g,v.ownBlock=some g→ok g):TyL bz ok w (E.map (·.1)) v:=by
 obtain⟨_,hv⟩:=hown
 rcases hv with ⟨hv,hn⟩ | ⟨g,cap,cur,rfl,hbg,hg,hnc,hcm,hcs,htake⟩
 ·have:E=[]:=List.length_eq_zero_iff.1 hn
  subst this
  rw[hv];exact .nil (Or.inl rfl)
 ·by_cases hE:E=[]
  ·subst hE;exact .nil (Or.inr ⟨_,_,rfl⟩)
  have hb:Blk w g 24 cur.toList:=by show w.heap[g]?=_;rw[hg]
  have hc:∀ i j,i<E.length→j<3→w.cell? ⟨g,0+i*3+j,none⟩=(flatY E)[i*3+j]?:=by
   intro i j hi hj
   rw[hb.cell,← htake,List.getElem?_take,if_pos (by omega),Nat.zero_add]
  have:=TyL.mk (bz:=bz) (ok:=ok) (w:=w) (l:=E.map (·.1)) (b:=g) (off:=0) (cap:=cap) (fun i=>(E.getD i (ty0,undef)).2) (by simpa using hE) (hok g rfl) (by simpa using hnc) (fun i h=>?_) (fun i h=>?_) (fun _=>⟨rfl,_,hb,by rw[List.length_map];have h5:=congrArg List.length htake;rw[List.length_take,flatY_len] at h5;omega⟩)
  ·rw[List.length_map] at this;exact this
  all_goals
   have hi:i<E.length:=by simpa using h
   have e1:(E.map (·.1))[i]=E[i].1:=List.getElem_map ..
   have e2:E.getD i (ty0,undef)=E[i]:=by rw[List.getD_eq_getElem?_getD,List.getElem?_eq_getElem hi];rfl
   rw[e1]
   try rw[e2]
  ·exact⟨(hc i 0 hi (by omega)).trans (flatY_get E i 0 hi (by omega)),(hc i 1 hi (by omega)).trans (flatY_get E i 1 hi (by omega)),(hc i 2 hi (by omega)).trans (flatY_get E i 2 hi (by omega))⟩
  ·exact hl _ (List.getElem_mem hi)
theorem ELY.frame {ok:Nat→Prop} {w w':World} {E:List E2} (h:ELY bz ok w E) (hs:Same ok w w'):ELY bz ok w' E:=fun e he=>(h e he).frame hs
theorem ELY.mono {ok ok':Nat→Prop} {w:World} {E:List E2} (h:ELY bz ok w E) (ho:∀ k,k<w.heap.size→ok k→ok' k):ELY bz ok' w E:=fun e he=>(h e he).mono ho
theorem ELY.snoc {ok:Nat→Prop} {w:World} {E:List E2} {e:E2} (h:ELY bz ok w E) (ha:TyL bz ok w e.1.kids e.2):ELY bz ok w (E++[e]):=by
 intro x hx
 rcases List.mem_append.1 hx with hx | hx
 ·exact h x hx
 ·rw[List.mem_singleton.1 hx];exact ha
theorem own_keptT {S:Nat→Prop} {T sz:Nat} {w w':World} {base:Nat} {v:Value} {n:Nat} {xs:List Value} (h:w.ownsRow base T sz v n xs) (hk:Kept S w w') (hS:∀ g,v.ownBlock=some g→¬ S g):w'.ownsRow base T sz v n xs:=by
 obtain⟨h1,h2⟩:=h
 refine⟨h1,?_⟩
 rcases h2 with h2 | ⟨g,cap,cur,hv,hbg,hg,r⟩
 ·exact .inl h2
 ·refine .inr ⟨g,cap,cur,hv,hbg,?_,r⟩
  rw[hk.block g (Array.getElem?_eq_some_iff.1 hg).1 (hS g (by rw[hv];rfl))]
  exact hg
theorem own_base {T sz:Nat} {w:World} {base base':Nat} {v:Value} {n:Nat} {xs:List Value} (h:w.ownsRow base T sz v n xs) (hb:∀ g,v.ownBlock=some g→base'≤g):w.ownsRow base' T sz v n xs:=by
 obtain⟨h1,h2⟩:=h
 refine⟨h1,?_⟩
 rcases h2 with h2 | ⟨g,cap,cur,hv,hbg,r⟩
 ·exact .inl h2
 ·exact .inr ⟨g,cap,cur,hv,hb g (by rw[hv];rfl),r⟩
theorem tml_of_row' {ok:Nat→Prop} {w:World} {base:Nat} {v:Value} {E:List E3} (hown:w.ownsRow base 27 7 v E.length (flat E)) (hl:EL bz ok w E) (hok:∀ g,v.ownBlock=some g→ok g):TmL bz ok w (E.map (·.1)) v:=by
 by_cases hE:E=[]
 ·subst hE
  rcases hown.2 with ⟨hv,_⟩ | ⟨g,cap,cur,rfl,_⟩
  ·rw[hv];exact .nil (Or.inl rfl)
  ·exact .nil (Or.inr ⟨_,_,rfl⟩)
 ·exact tml_of_row hE hown hl hok
theorem flat_app:∀ (E F:List E3),flat (E++F)=flat E++flat F
 | [],F=>rfl
 | x::E,F=>by rw[List.cons_append,flat,flat_app E F,flat,List.append_assoc]
theorem EL.app {ok:Nat→Prop} {w:World} {E F:List E3} (h:EL bz ok w E) (k:EL bz ok w F):EL bz ok w (E++F):=by
 intro x hx
 rcases List.mem_append.1 hx with hx | hx
 ·exact h x hx
 ·exact k x hx
theorem own_cells {w:World} {base:Nat} {T sz n m cap:Nat} {ad:Addr} {xs:List Value} (h:w.ownsRow base T sz (.slice (some ad) m cap) n xs):∀ j u,xs[j]?=some u→w.cell? (ad.add j)=some u:=by
 intro j u hu
 rcases h.2 with ⟨hv,_⟩ | ⟨g,cap',cur,hv,hbg,hg,hnc,hcm,hcs,htake⟩
 ·cases hv
 ·cases hv
  have hj:j<n*sz:=by
   have:=(List.getElem?_eq_some_iff.1 hu).1
   rw[← htake] at this
   simp at this;omega
  have hb:Blk w g T cur.toList:=by show w.heap[g]?=_;rw[hg]
  have e:(⟨g,0,none⟩:Addr).add j=⟨g,j,none⟩:=by cases j <;> simp[Addr.add]
  rw[e,hb.cell,← hu,← htake,List.getElem?_take,if_pos hj]
theorem flat_one:∀ (E:List E3),(∀ e∈E,(∃ a n c,e.2.1=.slice a n c)∧∃ a n c,e.2.2=.slice a n c)→∀ x∈flat E,x.oneCell'=true
 | [],_,x,hx=>by cases hx
 | e::E,h,x,hx=>by
  rw[flat] at hx
  rcases List.mem_append.1 hx with hx | hx
  ·obtain⟨⟨a,n,c,h1⟩,⟨a',n',c',h2⟩⟩:=h e (by simp)
   unfold tmCells at hx
   simp only[List.mem_cons,List.not_mem_nil,or_false] at hx
   rcases hx with rfl | rfl | rfl | rfl | rfl | rfl | rfl <;> first | rfl | (rw[h1];rfl) | (rw[h2];rfl)
  ·exact flat_one E (fun e he=>h e (List.mem_cons_of_mem _ he)) x hx
theorem EL.one {ok:Nat→Prop} {w:World} {E:List E3} (h:EL bz ok w E):∀ x∈flat E,x.oneCell'=true:=flat_one E fun e he=>⟨(h e he).1.slice,(h e he).2.slice⟩
theorem TmL.row {ok:Nat→Prop} {w:World} {l:List Tm} {ad:Addr} {n c:Nat} (h:TmL bz ok w l (.slice (some ad) n c)):∃ E:List E3,E.map (·.1)=l∧EL bz ok w E∧E.length=n∧∀ j u,(flat E)[j]?=some u→w.cell? (ad.add j)=some u:=by
 generalize hv:Value.slice (some ad) n c=v at h
 cases h with
 | nil he=>
  refine⟨[],rfl,(fun e he=>by cases he),?_,(fun j u hu=>by cases hu)⟩
  rcases he with he | ⟨_,_,he⟩ <;> rw[he] at hv <;> cases hv
  rfl
 | mk K M hne hb hc hcell hk hm hs2=>
  rename_i b off cap
  cases hv
  refine⟨(List.range l.length).attach.map fun i=>(l[i.1]'(List.mem_range.1 i.2),K i.1,M i.1),?_,?_,by simp,?_⟩
  ·apply List.ext_getElem
   ·simp
   ·intro i h1 h2;simp
  ·intro e he
   rw[List.mem_map] at he
   obtain⟨⟨i,hi⟩,_,rfl⟩:=he
   exact⟨hk i (List.mem_range.1 hi),hm i (List.mem_range.1 hi)⟩
  ·intro j u hu
   have hj:j<l.length*7:=by
    have:=(List.getElem?_eq_some_iff.1 hu).1
    rw[flat_len] at this;simpa using this
   obtain⟨i,r,hi,hr,rfl⟩:=seven hj
   rw[flat_get _ i r (by simpa using hi) hr] at hu
   simp only[List.getElem_map,List.getElem_attach,List.getElem_range] at hu
   have e:(⟨b,off,none⟩:Addr).add (i*7+r)=⟨b,off+i*7+r,none⟩:=by
    unfold Addr.add;split <;> simp_all <;> omega
   rw[e]
   have c:=hcell i hi
   rcases (show r=0∨r=1∨r=2∨r=3∨r=4∨r=5∨r=6 by omega) with rfl | rfl | rfl | rfl | rfl | rfl | rfl <;> cases hu
   ·exact c.1
   ·exact c.2.1
   ·exact c.2.2.1
   ·exact c.2.2.2.1
   ·exact c.2.2.2.2.1
   ·exact c.2.2.2.2.2.1
   ·exact c.2.2.2.2.2.2
structure C3 (w:World) (g o:Nat) (t:Ty) (tk:Value):Prop where
 c0:w.cell? ⟨g,o,none⟩=some (.int .i64 t.kind)
 c1:w.cell? ⟨g,o+1,none⟩=some (.string t.name)
 c2:w.cell? ⟨g,o+2,none⟩=some tk
structure C7 (w:World) (g o:Nat) (t:Tm) (tk kk:Value):Prop where
 c0:w.cell? ⟨g,o,none⟩=some (.int .i64 t.op)
 c1:w.cell? ⟨g,o+1,none⟩=some (.string t.name)
 c2:w.cell? ⟨g,o+2,none⟩=some (.int .i64 t.n)
 c3:w.cell? ⟨g,o+3,none⟩=some (.int .i64 t.ty.kind)
 c4:w.cell? ⟨g,o+4,none⟩=some (.string t.ty.name)
 c5:w.cell? ⟨g,o+5,none⟩=some tk
 c6:w.cell? ⟨g,o+6,none⟩=some kk
theorem C3.same {w W:World} {g o:Nat} {t:Ty} {tk:Value} (h:C3 w g o t tk) {ok:Nat→Prop} (hs:Same ok w W) (hg:ok g):C3 W g o t tk:=
 ⟨hs.cell hg h.c0,hs.cell hg h.c1,hs.cell hg h.c2⟩
theorem C7.same {w W:World} {g o:Nat} {t:Tm} {tk kk:Value} (h:C7 w g o t tk kk) {ok:Nat→Prop} (hs:Same ok w W) (hg:ok g):C7 W g o t tk kk:=
 ⟨hs.cell hg h.c0,hs.cell hg h.c1,hs.cell hg h.c2,hs.cell hg h.c3,hs.cell hg h.c4,hs.cell hg h.c5,hs.cell hg h.c6⟩
theorem C3.kept {w W:World} {g o:Nat} {t:Ty} {tk:Value} (h:C3 w g o t tk) {S:Nat→Prop} (k:Kept S w W) (hg:¬ S g):C3 W g o t tk:=h.same (Same.of_kept (ok:=(·=g)) k (fun q e=>e ▸ hg)) rfl
theorem C7.kept {w W:World} {g o:Nat} {t:Tm} {tk kk:Value} (h:C7 w g o t tk kk) {S:Nat→Prop} (k:Kept S w W) (hg:¬ S g):C7 W g o t tk kk:=h.same (Same.of_kept (ok:=(·=g)) k (fun q e=>e ▸ hg)) rfl
theorem TyL.at {ok:Nat→Prop} {w:World} {l:List Ty} {a:Option Addr} {n c:Nat} (h:TyL bz ok w l (.slice a n c)) (i:Nat) (hi:i<l.length):∃ g off ta tn tc,a=some ⟨g,off,none⟩∧ok g∧g<w.heap.size∧C3 w g (off+i*3) l[i] (.slice ta tn tc)∧TyL bz ok w l[i].kids (.slice ta tn tc):=by
 generalize hv:Value.slice a n c=v at h
 cases h with
 | nil he=>exact absurd hi (Nat.not_lt_zero _)
 | mk K hne hb hc hcell hk hs2=>
  cases hv
  obtain⟨ta,tn,tc,hK⟩:=(hk i hi).slice
  exact⟨_,_,ta,tn,tc,rfl,hb,cell_lt (hcell i hi).1,⟨(hcell i hi).1,(hcell i hi).2.1,by rw[← hK];exact (hcell i hi).2.2⟩,by rw[← hK];exact hk i hi⟩
theorem TmL.at {ok:Nat→Prop} {w:World} {l:List Tm} {a:Option Addr} {n c:Nat} (h:TmL bz ok w l (.slice a n c)) (i:Nat) (hi:i<l.length):∃ g off ta tn tc ma mn mc,a=some ⟨g,off,none⟩∧ok g∧g<w.heap.size∧C7 w g (off+i*7) l[i] (.slice ta tn tc) (.slice ma mn mc)∧TyL bz ok w l[i].ty.kids (.slice ta tn tc)∧TmL bz ok w l[i].kids (.slice ma mn mc):=by
 generalize hv:Value.slice a n c=v at h
 cases h with
 | nil he=>exact absurd hi (Nat.not_lt_zero _)
 | mk K M hne hb hc hcell hk hm hs2=>
  cases hv
  obtain⟨ta,tn,tc,hK⟩:=(hk i hi).slice
  obtain⟨ma,mn,mc,hM⟩:=(hm i hi).slice
  have c:=hcell i hi
  exact⟨_,_,ta,tn,tc,ma,mn,mc,rfl,hb,cell_lt c.1,⟨c.1,c.2.1,c.2.2.1,c.2.2.2.1,c.2.2.2.2.1,by rw[← hK];exact c.2.2.2.2.2.1,by rw[← hM];exact c.2.2.2.2.2.2⟩,by rw[← hK];exact hk i hi,by rw[← hM];exact hm i hi⟩
theorem newsT {w:World} {B T:Nat} {cs:List Value} (hb:Blk w B T cs):∀ j x,cs[j]?=some x→w.cell? ((⟨B,0,none⟩:Addr).add j)=some x:=by
 intro j x hx
 have:=hb.cell j
 rw[← hx,← this];cases j <;> simp[Addr.add]
theorem oneY {u:Ty} {a:Option Addr} {n c:Nat}:∀ x,x∈tyCells u (.slice a n c)→x.oneCell'=true:=by
 intro x hx
 unfold tyCells at hx
 simp only[List.mem_cons,List.not_mem_nil,or_false] at hx
 rcases hx with rfl | rfl | rfl <;> rfl
theorem oneT {u:Tm} {a d:Option Addr} {n c e f:Nat}:∀ x,x∈tmCells u (.slice a n c) (.slice d e f)→x.oneCell'=true:=by
 intro x hx
 unfold tmCells at hx
 simp only[List.mem_cons,List.not_mem_nil,or_false] at hx
 rcases hx with rfl | rfl | rfl | rfl | rfl | rfl | rfl <;> rfl
theorem info_ty:∃ i,Tryz.prog.info? 24=some i∧i.zero=some (.agg #[.int .i64 0,.string ⟨#[]⟩,.slice none 0 0])∧i.size=3∧i.bytes=48:=by
 have:=info24
 cases hh:Tryz.prog.info? 24 with
 | none=>rw[hh] at this;cases this
 | some i=>rw[hh] at this;simp only[Option.map_some,Option.some.injEq,Prod.mk.injEq] at this;exact⟨i,rfl,this.1,this.2.1,this.2.2⟩
theorem info_tm:∃ i,Tryz.prog.info? 27=some i∧i.zero=some (.agg #[.int .i64 0,.string ⟨#[]⟩,.int .i64 0,.int .i64 0,.string ⟨#[]⟩,.slice none 0 0,.slice none 0 0])∧i.size=7∧i.bytes=104:=by
 have:=info27
 cases hh:Tryz.prog.info? 27 with
 | none=>rw[hh] at this;cases this
 | some i=>rw[hh] at this;simp only[Option.map_some,Option.some.injEq,Prod.mk.injEq] at this;exact⟨i,rfl,this.1,this.2.1,this.2.2⟩
theorem results_ct {P:Program} {fn:Func} {p q:Tmp} {ty:TypeId} (h:fn.results=#[.cell p ty,.tmp q]) {tmps:Array Value} {a:Addr} (ha:tmps.getD p undef=.pointer (some a)) {v:Value} {W:World}
  (hl:(loadVar ty a).run P W=.ok v W):(results fn tmps).run P W=.ok (.tuple #[v,tmps.getD q undef]) W:=by
 have e:results fn tmps=(do let v ← (do loadVar ty (← asAddr (tmps.getD p undef)));pure (Value.tuple #[v,tmps.getD q undef])):=by
  unfold results;rw[h];simp
 rw[e,ha]
 show (loadVar ty a >>= fun v=>pure (Value.tuple #[v,tmps.getD q undef])).run P W=_
 rw[Sem.run_bind,hl]
 rfl
def okb (base:Nat) (v:Value) (q:Nat):Prop:=base≤q∧v.ownBlock≠some q
structure RowT (bz:Nat) (w:World) (base:Nat) (wr:World) (E:List E3) (v:Value):Prop where
 kp:Kept (fun _=>False) w wr
 own:wr.ownsRow base 27 7 v E.length (flat E)
 el:EL bz (okb base v) wr E
theorem RowT.tml {w wr:World} {base:Nat} {E:List E3} {v:Value} (h:RowT bz w base wr E v):TmL bz (fun q=>base≤q) wr (E.map (·.1)) v:=
 tml_of_row' h.own (h.el.mono (fun _ _ h=>h.1)) (fun g hg=>(h.own.lt g hg).1)
theorem RowT.kept {w wr w':World} {base:Nat} {E:List E3} {v:Value} (h:RowT bz w base wr E v) (k:Kept (fun _=>False) wr w'):RowT bz w base w' E v:=
 ⟨h.kp.trans k,own_keptT h.own k (fun _ _ h=>h),h.el.frame (sK k)⟩
theorem RowT.nil {w wr:World} {base:Nat} (k:Kept (fun _=>False) w wr):RowT bz w base wr [] (.slice none 0 0):=⟨k,World.ownsRow_nil _ _ _ _,fun e he=>by cases he⟩
theorem RowT.app {w wr w6 W8:World} {base:Nat} {E F:List E3} {v:Value} {gg n cap H:Nat} (hb:w.heap.size≤base) (h:RowT bz w base wr E v) (k6:Kept (fun _=>False) wr w6) (hbl:base≤wr.heap.size)
  (hF:EL bz (fun q=>wr.heap.size≤q) w6 F)
  (own8:W8.ownsRow base 27 7 (.slice (some ⟨gg,0,none⟩) n cap) n (flat E++flat F)) (hn:n=E.length+F.length) (hgrow:w6.grownBy W8 v.ownBlock) (hat:v.ownBlock=some gg∨gg=H) (hH:H=w6.heap.size):
  RowT bz w base W8 (E++F) (.slice (some ⟨gg,0,none⟩) n cap):=by
 have kG:=kept_grown hgrow
 have z6:=k6.size
 have zk:=h.kp.size
 have hvb:∀ x,v.ownBlock=some x→base≤x∧x<wr.heap.size:=fun x e=>h.own.lt x e
 refine⟨(h.kp.trans k6).via kG (fun x hx e=>by have:=(hvb x e).1;omega),by rw[flat_app,List.length_append,← hn];exact own8,?_⟩
 have e1:EL bz (okb base v) w6 (E++F):=(h.el.frame (sK k6)).app (hF.mono (fun q _ hq=>⟨by omega,fun e=>by have:=(hvb q e).2;omega⟩))
 have e2:=e1.mono (ok':=fun q=>okb base v q∧okb base (.slice (some ⟨gg,0,none⟩) n cap) q) (fun q hq hh=>⟨hh,hh.1,fun e=>by
  have e1:gg=q:=Option.some.inj e
  rcases hat with hat | hat
  ·exact hh.2 (by rw[hat,e1])
  ·omega⟩)
 exact (e2.frame (Same.of_kept kG (fun q hq e=>hq.1.2 e))).mono (fun q _ hq=>hq.2)
theorem RowT.step {w wr w6 W8:World} {base:Nat} {E:List E3} {v tk kk:Value} {t:Tm} {gg cap H:Nat} (hb:w.heap.size≤base) (h:RowT bz w base wr E v) (k6:Kept (fun _=>False) wr w6) (hbl:base≤wr.heap.size)
  (hty:TyL bz (fun q=>wr.heap.size≤q) w6 t.ty.kids tk) (htm:TmL bz (fun q=>wr.heap.size≤q) w6 t.kids kk)
  (own8:W8.ownsRow base 27 7 (.slice (some ⟨gg,0,none⟩) (E.length+1) cap) (E.length+1) (flat E++tmCells t tk kk)) (o:Obj) (hgrow:(w6.alloc o).grownBy W8 v.ownBlock) (hat:v.ownBlock=some gg∨gg=H) (hH:H=w6.heap.size+1):
  RowT bz w base W8 (E++[(t,tk,kk)]) (.slice (some ⟨gg,0,none⟩) (E.length+1) cap):=by
 refine RowT.app (w6:=w6.alloc o) (F:=[(t,tk,kk)]) hb h (k6.alloc _) hbl ?_ (by show W8.ownsRow base 27 7 _ _ (flat E++(tmCells t tk kk++[]));rw[List.append_nil];exact own8) rfl hgrow hat (by rw[hH];simp)
 intro e he
 rw[List.mem_singleton.1 he]
 exact⟨hty.frame (Same.alloc _ _),htm.frame (Same.alloc _ _)⟩
theorem RowT.one {w wr:World} {base g:Nat} {t:Tm} {tk kk:Value} (k:Kept (fun _=>False) w wr) (hb:Blk wr g 27 (tmCells t tk kk)) (hg:base≤g) (hty:TyL bz (fun q=>base≤q∧q≠g) wr t.ty.kids tk) (htm:TmL bz (fun q=>base≤q∧q≠g) wr t.kids kk):
  RowT bz w base wr [(t,tk,kk)] (.slice (some ⟨g,0,none⟩) 1 1):=
 ⟨k,own_one hb hg,fun e he=>by
  rw[List.mem_singleton.1 he]
  exact⟨hty.mono (fun q _ h=>⟨h.1,fun e=>h.2 (Option.some.inj e).symm⟩),htm.mono (fun q _ h=>⟨h.1,fun e=>h.2 (Option.some.inj e).symm⟩)⟩⟩
theorem TmL.src {ok:Nat→Prop} {w:World} {l:List Tm} {v:Value} (h:TmL bz ok w l v):∃ E:List E3,E.map (·.1)=l∧EL bz ok w E∧Src w v l.length (flat E):=by
 obtain⟨a,n,c,rfl⟩:=h.slice
 have hn:=h.len
 cases a with
 | none=>
  have:l=[]∧n=0∧c=0:=by
   generalize hv:Value.slice none n c=v at h
   cases h with
   | nil he=>
    rcases he with he | ⟨_,_,he⟩ <;> rw[he] at hv <;> cases hv
    exact⟨rfl,rfl,rfl⟩
   | mk=>cases hv
  obtain⟨rfl,rfl,rfl⟩:=this
  exact⟨[],rfl,(fun e he=>by cases he),.inl ⟨rfl,rfl,rfl⟩⟩
 | some ad=>
  obtain⟨E,h1,h2,h3,h4⟩:=h.row
  exact⟨E,h1,h2,.inr ⟨ad,c,by rw[hn],h4⟩⟩
theorem RowT.app2 {w wr W8:World} {base:Nat} {E F:List E3} {v v':Value} (hb:w.heap.size≤base) (h:RowT bz w base wr E v) (hF:EL bz (okb base v) wr F)
  (own8:W8.ownsRow base 27 7 v' (E.length+F.length) (flat E++flat F)) (hgrow:wr.grownBy W8 v.ownBlock) (hat:v'.ownBlock=v.ownBlock∨v'.ownBlock=some wr.heap.size):
  RowT bz w base W8 (E++F) v':=by
 have kG:=kept_grown hgrow
 have zk:=h.kp.size
 have hvb:∀ x,v.ownBlock=some x→base≤x∧x<wr.heap.size:=fun x e=>h.own.lt x e
 refine⟨h.kp.via kG (fun x hx e=>by have:=(hvb x e).1;omega),by rw[flat_app,List.length_append];exact own8,?_⟩
 have e2:=(h.el.app hF).mono (ok':=fun q=>okb base v q∧okb base v' q) (fun q hq hh=>⟨hh,hh.1,fun e=>by
  rcases hat with hat | hat
  ·exact hh.2 (by rw[← hat,e])
  ·rw[hat] at e
   have:=Option.some.inj e
   omega⟩)
 exact (e2.frame (Same.of_kept kG (fun q hq e=>hq.1.2 e))).mono (fun q _ hq=>hq.2)
theorem RowT.src {w wr:World} {base:Nat} {E:List E3} {v:Value} (h:RowT bz w base wr E v):Src wr v E.length (flat E):=by
 have h0:=h.own
 rcases h.own.2 with ⟨rfl,hn⟩ | ⟨g,cap,cur,rfl,hr⟩
 ·have:E=[]:=List.length_eq_zero_iff.1 hn
  subst this
  exact .inl ⟨rfl,rfl,rfl⟩
 ·exact .inr ⟨_,_,rfl,own_cells h0⟩
theorem RowT.one' {w wr:World} {base:Nat} {E:List E3} {v:Value} (h:RowT bz w base wr E v):∀ x∈flat E,x.oneCell'=true:=h.el.one
def RCpC (bz:Nat) (t:Ty):Prop:=∀ (w:World) (ok:Nat→Prop) (tk:Value),TyL bz ok w t.kids tk →
 Calls Tryz.prog 64 #[tyVal t tk] w fun e w'=>∃ v,e=.returned (tyVal t v)∧TyL bz (fun k=>w.heap.size≤k) w' t.kids v∧Kept (fun _=>False) w w'
structure RC (bz:Nat) (w:World) (kd:Int) (nm:ByteArray) (l:List Ty) (a:Option Addr) (c k:Nat) (wr:World) (E:List E2) (v:Value):Prop where
 kp:Kept (fun _=>False) w wr
 a:Blk wr w.heap.size 24 [.int .i64 kd,.string nm,.slice a l.length c]
 r:Blk wr (w.heap.size+1) 24 [.int .i64 0,.string ⟨#[]⟩,.slice none 0 0]
 o:Blk wr (w.heap.size+2) 24 [.int .i64 kd,.string nm,v]
 own:wr.ownsRow (w.heap.size+3) 24 3 v E.length (flatY E)
 el:ELY bz (fun q=>w.heap.size+3≤q∧v.ownBlock≠some q) wr E
 len:E.length=k
 mp:E.map (·.1)=l.take k
theorem RC.step {w wr w6 W8:World} {kd:Int} {nm:ByteArray} {l:List Ty} {a:Option Addr} {c k:Nat} {E:List E2} {v u:Value} {va:Option Addr} {vn vc gg cap:Nat} (h:RC bz w kd nm l a c k wr E v) (hk:k<l.length) (k6:Kept (fun _=>False) wr w6) (hu:TyL bz (fun q=>wr.heap.size≤q) w6 l[k].kids u)
  (hv:v=.slice va vn vc) (o:Obj) (own8:W8.ownsRow (w.heap.size+3) 24 3 (.slice (some ⟨gg,0,none⟩) (E.length+1) cap) (E.length+1) (flatY E++tyCells l[k] u)) (hgrow:(w6.alloc o).grownBy W8 v.ownBlock) (hat:v.ownBlock=some gg∨gg=w6.heap.size+1):
  RC bz w kd nm l a c (k+1) (W8.setCell ⟨w.heap.size+2,2,none⟩ (.slice (some ⟨gg,0,none⟩) (E.length+1) cap)) (E++[(l[k],u)]) (.slice (some ⟨gg,0,none⟩) (E.length+1) cap):=by
 have kA:Kept (fun _=>False) wr (w6.alloc o):=k6.alloc _
 have kG:=kept_grown hgrow
 have zA:(w6.alloc o).heap.size=w6.heap.size+1:=by simp
 have z6:=k6.size
 have zr:=h.o.lt
 have hg3:w.heap.size+3≤gg:=by
  have:=(own8.lt gg rfl).1;exact this
 have hvb:∀ x,v.ownBlock=some x→w.heap.size+3≤x∧x<wr.heap.size:=fun x e=>h.own.lt x e
 have kS:Kept (·=w.heap.size+2) W8 (W8.setCell ⟨w.heap.size+2,2,none⟩ (.slice (some ⟨gg,0,none⟩) (E.length+1) cap)):=(Kept.refl (fun x=>x=w.heap.size+2) _).setCell (p:=⟨w.heap.size+2,2,none⟩) (Or.inl rfl) _
 refine⟨((h.kp.trans kA).via kG (fun x hx e=>by have:=(hvb x e).1;omega)).via kS (fun x hx e=>by have e':x=w.heap.size+2:=e;omega),
  ((h.a.kept kA (fun h=>h)).kept kG (fun e=>by have:=(hvb _ e).1;omega)).kept kS (by show ¬ w.heap.size=w.heap.size+2;omega),
  ((h.r.kept kA (fun h=>h)).kept kG (fun e=>by have:=(hvb _ e).1;omega)).kept kS (by show ¬ w.heap.size+1=w.heap.size+2;omega),
  ((h.o.kept kA (fun h=>h)).kept kG (fun e=>by have:=(hvb _ e).1;omega)).set 2 _,?_,?_,by simp[h.len],?_⟩
 ·have:=own_keptT own8 kS (fun g hg e=>by have e':some gg=some g:=hg;have e2:=Option.some.inj e';have e3:g=w.heap.size+2:=e;omega)
  rw[flatY_snoc,List.length_append];exact this
 ·have e1:ELY bz (fun q=>w.heap.size+3≤q∧v.ownBlock≠some q) w6 (E++[(l[k],u)]):=(h.el.frame (sK k6)).snoc (e:=(l[k],u)) (hu.mono (fun q _ hq=>⟨by omega,fun e=>by have:=(hvb q e).2;omega⟩))
  have e2:=(e1.frame (Same.alloc _ o)).mono (ok':=fun q=>(w.heap.size+3≤q∧v.ownBlock≠some q)∧w.heap.size+3≤q∧(Value.slice (some ⟨gg,0,none⟩) (E.length+1) cap).ownBlock≠some q) (fun q hq hh=>⟨hh,hh.1,fun e=>by
   have e1:gg=q:=Option.some.inj e
   rcases hat with hat | hat
   ·exact hh.2 (by rw[hat,e1])
   ·omega⟩)
  exact ((e2.frame (Same.of_kept kG (fun q hq e=>hq.1.2 e))).frame (Same.of_kept kS (fun q hq e=>by have e':q=w.heap.size+2:=e;have:=hq.1.1;omega))).mono (fun q _ hq=>hq.2)
 ·rw[List.map_append,h.mp,List.take_succ_eq_append_getElem hk];rfl
theorem rcopyTy_one {kd:Int} {nm:ByteArray} {l:List Ty} (IH:∀ t,t∈l→RCpC bz t) (hn1:l.length≤1000000):RCpC bz (.mk kd nm l):=by
 intro w ok tk hk
 obtain⟨a,n,c,rfl⟩:=hk.slice
 have hn:n=l.length:=hk.len
 subst hn
 have hk':TyL bz ok w l (.slice a l.length c):=hk
 clear hk
 have HIH:=Ld IH
 have HN1:=Ld hn1
 clear IH hn1
 have HAT:=Ld (fun W (k:Kept (fun _=>False) w W)=>(hk'.frame (sK k)).at)
 clear hk'
 change Calls Tryz.prog 64 #[.agg #[.int .i64 kd,.string nm,.slice a l.length c]] w _
 have b3:=Blk.new' (w:=(w.alloc (.cells #[.int .i64 kd,.string nm,.slice a l.length c] 24)).alloc (.cells #[.int .i64 0,.string ⟨#[]⟩,.slice none 0 0] 24)) (g:=w.heap.size+2) 24 [.int .i64 kd,.string nm,.slice none 0 0] (by simp)
 have bA:=(((Blk.new w 24 [.int .i64 kd,.string nm,.slice a l.length c]).alloc (.cells #[.int .i64 0,.string ⟨#[]⟩,.slice none 0 0] 24)).alloc (.cells #[.int .i64 kd,.string nm,.slice none 0 0] 24))
 have bR:=((Blk.new' (w:=w.alloc (.cells #[.int .i64 kd,.string nm,.slice a l.length c] 24)) (g:=w.heap.size+1) 24 [.int .i64 0,.string ⟨#[]⟩,.slice none 0 0] (by simp)).alloc (.cells #[.int .i64 kd,.string nm,.slice none 0 0] 24))
 have K0:Kept (fun _=>False) w (((w.alloc (.cells #[.int .i64 kd,.string nm,.slice a l.length c] 24)).alloc (.cells #[.int .i64 0,.string ⟨#[]⟩,.slice none 0 0] 24)).alloc (.cells #[.int .i64 kd,.string nm,.slice none 0 0] 24)):=((kR.alloc _).alloc _).alloc _
 have HRC:Hid (RC bz w kd nm l a c 0 (((w.alloc (.cells #[.int .i64 kd,.string nm,.slice a l.length c] 24)).alloc (.cells #[.int .i64 0,.string ⟨#[]⟩,.slice none 0 0] 24)).alloc (.cells #[.int .i64 kd,.string nm,.slice none 0 0] 24)) [] (.slice none 0 0)):=Ld
  ⟨K0,bA,bR,b3,World.ownsRow_nil _ _ _ _,(fun e he=>by cases he),rfl,by simp⟩
 clear b3 bA bR K0
 go_enter Tryz.func64,Tryz.ntmps64
 go_wp2_with fail
 go_loopw [4] (fun i wr=>∃ (k:Nat) (E:List E2) (v:Value),k≤l.length∧i=.int .i64 k∧RC bz w kd nm l a c k wr E v) (fun i _=>l.length-(intOf i).toNat)
 case atStart=>exact⟨0,[],_,Nat.zero_le _,rfl,HRC.out⟩
 case round=>
  clear HRC
  obtain⟨k,E,v,hkl,rfl,h⟩:=hrel
  obtain⟨va,vn,vc,rfl⟩:=(tyl_of_row (ok:=fun _=>True) h.own (h.el.mono (fun _ _ _=>trivial)) (fun _ _=>trivial)).slice
  have gA:∀ i,wr.cell? ⟨w.heap.size,i,none⟩=[Value.int .i64 kd,.string nm,.slice a l.length c][i]?:=h.a.cell
  have gO:∀ i,wr.cell? ⟨w.heap.size+1+1,i,none⟩=[Value.int .i64 kd,.string nm,.slice va vn vc][i]?:=h.o.cell
  have gR:∀ i,wr.cell? ⟨w.heap.size+1,i,none⟩=[Value.int .i64 0,.string ⟨#[]⟩,.slice none 0 0][i]?:=h.r.cell
  have fO:∀ i,wr.frozen? ⟨w.heap.size+1+1,i,none⟩=false:=h.o.frozen
  have fR:∀ i,wr.frozen? ⟨w.heap.size+1,i,none⟩=false:=h.r.frozen
  have lO:=h.o.lt
  have H:=Ld h
  clear h
  by_cases hlt:k<l.length
  ·have hn2:=HN1.out
   have i1:(k:Int)<(l.length:Int):=by omega
   have i2:(k:Int)<1000000:=by omega
   obtain⟨g,off,ta,tn,tc,rfl,_,lg,⟨c0,c1,c2⟩,hty⟩:=HAT.out wr H.out.kp k hlt
   have hcon:=Ld ((HIH.out _ (List.getElem_mem hlt)) wr.drew ok _ (hty.frame (Same.drew _)))
   unfold tyVal at hcon
   have hlen:=Ld H.out.len
   have hmx:Hid (E.length+1≤maxLen):=Ld (by have:=hlen.out;unfold maxLen;omega)
   have hby:Hid ((E.length+1)*48≤140737488355328):=Ld (by have:=hlen.out;omega)
   obtain⟨i26,hi26,hz26,hs26,hb26⟩:=info_ty
   have HI26:=Ld hi26
   have HZ26:=Ld hz26
   have HS26:=Ld hs26
   have HB26:=Ld hb26
   clear hty hn2 hi26 hz26 hs26 hb26
   go_upto_region 5 with (fail)
   go_region_law (first | (refine step_append_lies _ (by rfl) _ _ _ (by rfl) (w.heap.size+3) 24 i26 _ 3 48 Tryz.underlying22 HI26.out HZ26.out HS26.out HB26.out rfl (by decide) (.slice va vn vc) E.length (flatY E) (by rfl) (own6.alloc _) ⟨w6.heap.size,0,none⟩ 1 1 (tyCells l[k] (.slice ua un uc)) (by rfl) rfl (newsT (Blk.new w6 24 (tyCells l[k] (.slice ua un uc)))) oneY (by omega) hmx.out hby.out (by simp;omega) (w6.heap.size+1) (by simp) ?_;intro gg cap w8 own8 hgrow hatg hltg;have hO8:=(hO6.alloc (.cells #[.int .i64 l[k].kind,.string l[k].name,.slice ua un uc] 24)).kept (kept_grown hgrow) (fun e=>hvS e);have q8:w8.cell? ⟨w.heap.size+1+1,2,none⟩=some (.slice va vn vc):=hO8.cell 2;have f8:w8.frozen? ⟨w.heap.size+1+1,2,none⟩=false:=hO8.frozen 2) | (go_simp;go_at_call 64;refine hcon.out.mono ?_;rintro e w6 ⟨u,rfl,hu,k6'⟩;obtain⟨ua,un,uc,rfl⟩:=hu.slice;have k6:Kept (fun _=>False) wr w6:=(kR.drew).trans k6';have hO6:=H.out.o.kept k6 (fun h=>h);have own6:=own_keptT H.out.own k6 (fun _ _ h=>h);have gO6:∀ i,w6.cell? ⟨w.heap.size+1+1,i,none⟩=[Value.int .i64 kd,.string nm,.slice va vn vc][i]?:=hO6.cell;have hvS:(Value.slice va vn vc).ownBlock≠some (w.heap.size+2):=(fun e=>by have:=(own6.lt _ e).1;omega);have l6:=hO6.lt))
   all_goals
    have HX:=Ld (RC.step H.out hlt k6 (hu.mono (fun q _ h=>h)) rfl _ own8 hgrow hatg)
    clear hO6 hO8 own6 own8 hgrow hu k6' hcon
    go_wp2_with fail
    go_roundw
    case rel=>exact⟨k+1,_,_,by omega,by go_num,HX.out⟩
    case measure=>simp[intOf];omega
  ·have hkk:k=l.length:=by omega
   subst hkk
   go_wp2_with fail
   have bF:=r3' (x:=.int .i64 kd) (y:=.string nm) (z:=.slice va vn vc) H.out.r rfl
   have hml:=tyl_of_row (ok:=fun q=>w.heap.size+3≤q) H.out.own (H.out.el.mono (fun _ _ h=>h.1)) (fun g hg=>(H.out.own.lt g hg).1)
   rw[H.out.mp,List.take_length] at hml
   refine bodyPost_ret (results_one Tryz.results64 rfl (load_ty (t:=.mk kd nm l) bF)) rfl ⟨_,rfl,?_,?_⟩
   ·exact (hml.frame (set3 (g:=w.heap.size+1) (fun q h=>by omega))).mono (fun q _ h=>by omega)
   ·exact ((H.out.kp.setCell (p:=⟨w.heap.size+1,0,none⟩) (Or.inr (by show w.heap.size≤w.heap.size+1;omega)) _).setCell (p:=⟨w.heap.size+1,1,none⟩) (Or.inr (by show w.heap.size≤w.heap.size+1;omega)) _).setCell (p:=⟨w.heap.size+1,2,none⟩) (Or.inr (by show w.heap.size≤w.heap.size+1;omega)) _
theorem rcopyTy_any {t:Ty} (hb:BdTy t):RCpC bz t:=by
 induction hb with
 | mk hn hl ih=>exact rcopyTy_one ih hn
def CpyP (bz:Nat) (t:Tm) (w:World) (e:Ending) (w':World):Prop:=∃ (tk:Value) (E:List E3) (kk:Value),e=.returned (tmVal t tk kk)∧TyL bz (okb w.heap.size kk) w' t.ty.kids tk∧RowT bz w w.heap.size w' E kk∧E.map (·.1)=t.kids
def RClC (bz:Nat) (t:Tm):Prop:=∀ (w:World) (ok:Nat→Prop) (tk kk:Value),TyL bz ok w t.ty.kids tk→TmL bz ok w t.kids kk→Calls Tryz.prog 26 #[tmVal t tk kk] w (CpyP bz t w)
theorem rcopies_any {l:List Tm} {ok:Nat→Prop} {w:World} {a:Option Addr} {n c:Nat} (IH:∀ t,t∈l→RClC bz t) (hn1:l.length≤1000000) (hk:TmL bz ok w l (.slice a n c)):
  Calls Tryz.prog 65 #[.slice a n c] w fun e w'=>∃ (E:List E3) (v:Value),e=.returned v∧RowT bz w w.heap.size w' E v∧E.map (·.1)=l:=by
 have hn:n=l.length:=hk.len
 subst hn
 have HIH:=Ld IH
 have HN1:=Ld hn1
 have HAT:=Ld (fun W (k:Kept (fun _=>False) w W)=>(hk.frame (sK k)).at)
 clear IH hn1 hk
 go_enter Tryz.func65,Tryz.ntmps65
 go_wp2_with fail
 go_loopw [3,4] (fun v i wr=>∃ (k:Nat) (E:List E3),k≤l.length∧i=.int .i64 k∧RowT bz w w.heap.size wr E v∧E.map (·.1)=l.take k) (fun v i _=>l.length-(intOf i).toNat)
 case atStart=>exact⟨0,[],Nat.zero_le _,rfl,RowT.nil kR,by simp⟩
 case round=>
  obtain⟨k,E,hkl,rfl,h,hmp⟩:=hrel
  obtain⟨va,vn,vc,rfl⟩:=h.tml.slice
  have hEk:E.length=k:=by have:=congrArg List.length hmp;simpa [Nat.min_eq_left hkl] using this
  have H:=Ld h
  have HM:=Ld hmp
  have HE:=Ld hEk
  clear h hmp hEk
  by_cases hlt:k<l.length
  ·have hn2:=HN1.out
   have i1:(k:Int)<(l.length:Int):=by omega
   have i2:(k:Int)<1000000:=by omega
   obtain⟨g,off,ta,tn,tc,ma,mn,mc,rfl,_,lg,⟨c0,c1,c2,c3,c4,c5,c6⟩,hty,htm⟩:=HAT.out wr H.out.kp k hlt
   have hcon:=Ld ((HIH.out _ (List.getElem_mem hlt)) wr ok _ _ hty htm)
   unfold tmVal at hcon
   obtain⟨i28,hi28,hz28,hs28,hb28⟩:=info_tm
   have HI:=Ld hi28
   have HZ:=Ld hz28
   have HS:=Ld hs28
   have HB:=Ld hb28
   clear hty htm hn2 hi28 hz28 hs28 hb28
   go_wp2_with fail
   refine hcon.out.mono ?_
   rintro e w6 ⟨tk,F,kk,rfl,hty6,hr6,hm6⟩
   have htm6:TmL bz (fun q=>wr.heap.size≤q) w6 l[k].kids kk:=by rw[← hm6];exact hr6.tml
   obtain⟨ua,un,uc,rfl⟩:=hty6.slice
   obtain⟨ud,ue,uf,rfl⟩:=htm6.slice
   have k6:=hr6.kp
   have H6:=H.out.kept k6
   unfold tmVal
   go_wp2_with (at_builtin;refine wpList_append_lies _ rfl _ _ _ rfl w.heap.size 27 i28 _ 7 104 Tryz.underlying25 HI.out HZ.out HS.out HB.out rfl (by decide) (.slice va vn vc) E.length (flat E) rfl (H6.own.alloc _) ⟨w6.heap.size,0,none⟩ 1 1 (tmCells l[k] (.slice ua un uc) (.slice ud ue uf)) rfl rfl (newsT (Blk.new w6 27 (tmCells l[k] (.slice ua un uc) (.slice ud ue uf)))) oneT (by omega) ?_ ?_ ?_ (w6.heap.size+1) (by simp) ?_)
   ·have:=HE.out;unfold maxLen;omega
   ·have:=HE.out;omega
   ·have:=H6.kp.size;simp;omega
   ·intro gg cap w8 own8 hgrow hatg hltg
    have HX:=Ld (RowT.step (Nat.le_refl _) H.out k6 H.out.kp.size (hty6.mono (fun q _ h=>h.1)) htm6 own8 _ hgrow hatg rfl)
    clear own8 hgrow hty6 hr6 htm6 H6
    go_wp2_with fail
    go_roundw
    case rel=>exact⟨k+1,_,by omega,by go_num,HX.out,by rw[List.map_append,HM.out,List.take_succ_eq_append_getElem hlt];rfl⟩
    case measure=>simp[intOf];omega
  ·have hkk:k=l.length:=by omega
   subst hkk
   go_wp2_with fail
   go_ret
   exact⟨E,_,rfl,H.out,by rw[HM.out,List.take_length]⟩
def kwsB:List ByteArray:=kws.map fun l=>⟨l.toArray⟩
def KwW (w:World):World:=w.alloc (.cells (kwsB.map Value.string).toArray 9)
theorem KwW.kept (w:World):Kept (fun _=>False) w (KwW w):=kR.alloc _
theorem toList_inj {a b:ByteArray} (h:a.toList=b.toList):a=b:=by
 rw[Go.ByteArray.toList_eq,Go.ByteArray.toList_eq] at h;exact ba_ext h
def tyHead (k:Int) (nm:ByteArray) (n:Nat) (within:Bool):Bool:=
 if k=1 then decide (n=0)&&(nm.toList==[])
 else if k=2 then !within&&decide (n=0)&&(nm.toList==[])
 else if k=3 then identB nm&&decide (n=0)
 else if k=4 then decide (n=2)&&(nm.toList==[])
 else if k=5 then decide (n=1)&&(nm.toList==[])
 else false
mutual
def tfS (most deep:Nat):Ty→Nat→Bool→Nat→Bool×Nat
 | .mk k nm l,d,wi,c=>
  match (decide (c+1≤most)&&decide (d≤deep))&&tyHead k nm l.length wi with
  | false=>(false,c+1)
  | true=>tfsS most deep l (d+1) (c+1)
def tfsS (most deep:Nat):List Ty→Nat→Nat→Bool×Nat
 | [],_,c=>(true,c)
 | t::l,d,c=>
  match tfS most deep t d true c with
  | (true,c')=>tfsS most deep l d c'
  | (false,c')=>(false,c')
end
def FPost (m most deep:Nat) (r:Bool×Nat) (w:World) (e:Ending) (w':World):Prop:=e=.returned (.bool r.1)∧Blk w' m 119 (mcells r.2 most deep)∧Kept (·=m) w w'
def TyC (bz:Nat) (m most deep:Nat) (t:Ty):Prop:=∀ (w:World) (c d:Nat) (wi:Bool) (tk:Value),Blk w m 119 (mcells c most deep)→c≤most→d≤deep+1→TyL bz (fun k=>k≠m) w t.kids tk →
 Calls Tryz.prog 216 #[.pointer (some ⟨m,0,none⟩),tyVal t tk,.int .i64 d,.bool wi] w (FPost m most deep (tfS most deep t d wi c) w)
theorem tf_le (most deep:Nat):∀ (t:Ty) (d:Nat) (wi:Bool) (c:Nat),c≤most→(tfS most deep t d wi c).1=true→c+1≤(tfS most deep t d wi c).2∧(tfS most deep t d wi c).2≤most:=by
 intro t
 induction t using Ty.rec (motive_2:=fun l=>∀ (d c:Nat),c≤most→(tfsS most deep l d c).1=true→c≤(tfsS most deep l d c).2∧(tfsS most deep l d c).2≤most) with
 | mk k nm l ih=>
  intro d wi c hc h
  rw[tfS] at h ⊢
  cases hb:(decide (c+1≤most)&&decide (d≤deep))&&tyHead k nm l.length wi
  ·rw[hb] at h;cases h
  ·rw[hb] at h
   have:c+1≤most:=by simp at hb;exact hb.1.1
   exact ih _ _ this h
 | nil=>rename_i d c hc h;exact⟨Nat.le_refl _,hc⟩
 | cons t l iht ihl=>
  rename_i d c hc h
  rw[tfsS] at h ⊢
  cases hr:tfS most deep t d true c with
  | mk b c'=>
   cases b
   ·rw[hr] at h;cases h
   ·rw[hr] at h
    have a:=iht d true c hc (by rw[hr])
    rw[hr] at a
    have:=ihl d c' a.2 h
    exact⟨Nat.le_trans (Nat.le_trans (Nat.le_succ _) a.1) this.1,this.2⟩
theorem tf1_any {m most deep d c M D:Nat} {t:Ty} {a:Option Addr} {n cp:Nat} {w:World} (hT:TyC bz m most deep t) (hb:Blk w m 119 (mcells c most deep)) (hc:c≤most) (hd:d≤deep) (hdp:deep≤1000)
  (hM:w.cell? ⟨M,0,none⟩=some (.pointer (some ⟨m,0,none⟩))) (hD:w.cell? ⟨D,0,none⟩=some (.int .i64 d)) (hk:TyL bz (fun k=>k≠m) w t.kids (.slice a n cp)):
  Calls Tryz.prog 234 #[tyVal t (.slice a n cp),.pointer (some ⟨M,0,none⟩),.pointer (some ⟨D,0,none⟩)] w (FPost m most deep (!(tfS most deep t (d+1) true c).1,(tfS most deep t (d+1) true c).2) w):=by
 unfold tyVal
 have HT:=Ld hT
 clear hT
 have hb1:=hb.alloc (.cells #[.int .i64 t.kind,.string t.name,.slice a n cp] 24)
 have hk1:=hk.frame (Same.alloc w (.cells #[.int .i64 t.kind,.string t.name,.slice a n cp] 24))
 have lM:=cell_lt hM
 have lD:=cell_lt hD
 have nM:M≠w.heap.size:=by omega
 have nD:D≠w.heap.size:=by omega
 go_enter Tryz.func234,Tryz.ntmps234
 go_wp2_with fail
 refine (HT.out _ c (d+1) true _ hb1 hc (by omega) hk1).mono ?_
 rintro e w' ⟨rfl,h1,h2⟩
 go_wp2_with fail
 go_ret
 exact⟨rfl,h1,(kR.alloc _).trans h2⟩
theorem drop_cons {α:Type} (l:List α) (k:Nat) (h:k<l.length):l.drop k=l[k]::l.drop (k+1):=(List.getElem_cons_drop h).symm
theorem tfs_step {most deep d c:Nat} {l:List Ty} {k:Nat} (h:k<l.length):tfsS most deep (l.drop k) d c=(if (tfS most deep l[k] d true c).1=true then tfsS most deep (l.drop (k+1)) d (tfS most deep l[k] d true c).2 else (false,(tfS most deep l[k] d true c).2)):=by
 rw[drop_cons l k h,tfsS]
 cases tfS most deep l[k] d true c with
 | mk b c'=>cases b <;> rfl
theorem idxTy_any {m most deep d c M D:Nat} {l:List Ty} {a:Option Addr} {n cp:Nat} {w:World} (hT:∀ t,t∈l→TyC bz m most deep t) (hb:Blk w m 119 (mcells c most deep)) (hc:c≤most) (hmo:most≤100000) (hd:d≤deep) (hdp:deep≤1000) (hMm:M≠m) (hDm:D≠m)
  (hM:w.cell? ⟨M,0,none⟩=some (.pointer (some ⟨m,0,none⟩))) (hD:w.cell? ⟨D,0,none⟩=some (.int .i64 d)) (hk:TyL bz (fun k=>k≠m) w l (.slice a n cp)):
  Calls Tryz.prog 240 #[.slice a n cp,.func (.func 234) #[] #[.pointer (some ⟨M,0,none⟩),.pointer (some ⟨D,0,none⟩)]] w fun e w'=>∃ i:Int,e=.returned (.int .i64 i)∧decide (0≤i)=!(tfsS most deep l (d+1) c).1∧Blk w' m 119 (mcells (tfsS most deep l (d+1) c).2 most deep)∧Kept (·=m) w w':=by
 have HT:=Ld hT
 clear hT
 have hn:=hk.len
 subst hn
 cases hk with
 | nil he=>
  have hz:Hid (tfsS most deep ([]:List Ty) (d+1) c=(true,c)):=Ld (by rw[tfsS])
  go_enter Tryz.func240,Tryz.ntmps240
  go_wp2_with fail
  go_loop [8] (fun i=>i=.int .i64 0) (fun i=>0)
  case atStart=>rfl
  case round=>
   subst hrel
   go_wp2_with fail
   go_ret
   exact⟨-1,rfl,by rw[hz.out];rfl,by rw[hz.out];exact hb,Kept.refl _ _⟩
 | mk K hne hok hcap hcell hkk hs2=>
  rename_i g off
  have HC:=Ld hcell
  have HK:=Ld hkk
  clear hcell hkk
  have LM:=Ld (cell_lt hM)
  have LD:=Ld (cell_lt hD)
  go_enter Tryz.func240,Tryz.ntmps240
  go_wp2_with fail
  go_loopw [8] (fun i wr=>∃ k ck:Nat,k≤l.length∧i=.int .i64 k∧k≤ck∧ck≤most∧Blk wr m 119 (mcells ck most deep)∧Kept (·=m) w wr∧Hid (tfsS most deep l (d+1) c=tfsS most deep (l.drop k) (d+1) ck)) (fun i _=>l.length-(intOf i).toNat)
  case atStart=>exact⟨0,c,Nat.zero_le _,rfl,Nat.zero_le _,hc,hb,Kept.refl _ _,Ld rfl⟩
  case round=>
   obtain⟨k,ck,hkl,rfl,hkc,hcm,hbr,hkr,heq⟩:=hrel
   by_cases hlt:k<l.length
   ·have c0:=(Same.of_kept (ok:=fun k=>k≠m) hkr (fun k h e=>h e)).cell hok (HC.out k hlt).1
    have c1:=(Same.of_kept (ok:=fun k=>k≠m) hkr (fun k h e=>h e)).cell hok (HC.out k hlt).2.1
    have c2:=(Same.of_kept (ok:=fun k=>k≠m) hkr (fun k h e=>h e)).cell hok (HC.out k hlt).2.2
    have i1:(k:Int)<(l.length:Int):=by omega
    have i2:(k:Int)<1000000:=by omega
    obtain⟨ta,tn,tc,hK⟩:=(HK.out k hlt).slice
    have hkk:=(HK.out k hlt).frame (Same.of_kept (ok:=fun k=>k≠m) hkr (fun k h e=>h e))
    rw[hK] at c2 hkk
    have hM':wr.cell? ⟨M,0,none⟩=some (.pointer (some ⟨m,0,none⟩)):=by rw[hkr.cell (p:=⟨M,0,none⟩) LM.out hMm];exact hM
    have hD':wr.cell? ⟨D,0,none⟩=some (.int .i64 d):=by rw[hkr.cell (p:=⟨D,0,none⟩) LD.out hDm];exact hD
    have hst:=Ld (tfs_step (most:=most) (deep:=deep) (d:=d+1) (c:=ck) hlt)
    have hle:=Ld (tf_le most deep l[k] (d+1) true ck hcm)
    have hcon:=Ld (tf1_any (HT.out _ (List.getElem_mem hlt)) hbr hcm hd hdp hM' hD' hkk)
    clear hkk hM' hD'
    cases hr:(tfS most deep l[k] (d+1) true ck).1
    ·go_wp2_with (go_at_call 234;refine hcon.out.mono ?_;rintro e w' ⟨rfl,h1,h2⟩)
     go_ret
     have q:=heq.out.trans hst.out
     rw[hr,if_neg (by simp)] at q
     exact⟨k,rfl,by rw[q];simp,by rw[q];exact h1,hkr.trans h2⟩
    ·go_wp2_with (go_at_call 234;refine hcon.out.mono ?_;rintro e w' ⟨rfl,h1,h2⟩)
     go_roundw
     case rel=>
      have q:=heq.out.trans hst.out
      rw[hr,if_pos rfl] at q
      have z:=hle.out hr
      exact⟨k+1,_,by omega,by go_num,by omega,z.2,h1,hkr.trans h2,Ld q⟩
     case measure=>simp[intOf];omega
   ·have hz:Hid (tfsS most deep l (d+1) c=(true,ck)):=Ld (by rw[heq.out,List.drop_eq_nil_of_le (by omega),tfsS])
    go_wp2_with fail
    go_ret
    exact⟨-1,rfl,by rw[hz.out];rfl,by rw[hz.out];exact hbr,hkr⟩
theorem contTy_any {m most deep d c M D:Nat} {l:List Ty} {a:Option Addr} {n cp:Nat} {w:World} (hT:∀ t,t∈l→TyC bz m most deep t) (hb:Blk w m 119 (mcells c most deep)) (hc:c≤most) (hmo:most≤100000) (hd:d≤deep) (hdp:deep≤1000) (hMm:M≠m) (hDm:D≠m)
  (hM:w.cell? ⟨M,0,none⟩=some (.pointer (some ⟨m,0,none⟩))) (hD:w.cell? ⟨D,0,none⟩=some (.int .i64 d)) (hk:TyL bz (fun k=>k≠m) w l (.slice a n cp)):
  Calls Tryz.prog 233 #[.slice a n cp,.func (.func 234) #[] #[.pointer (some ⟨M,0,none⟩),.pointer (some ⟨D,0,none⟩)]] w fun e w'=>e=.returned (.bool (!(tfsS most deep l (d+1) c).1))∧Blk w' m 119 (mcells (tfsS most deep l (d+1) c).2 most deep)∧Kept (·=m) w w':=by
 have hcon:=Ld (idxTy_any hT hb hc hmo hd hdp hMm hDm hM hD hk)
 clear hT hM hD hk
 go_enter Tryz.func233,Tryz.ntmps233
 go_wp2_with fail
 refine hcon.out.mono ?_
 rintro e w' ⟨i,rfl,hi,h1,h2⟩
 go_wp2_with fail
 go_ret
 exact⟨rfl,h1,h2⟩
theorem tf_eq (most deep:Nat) (k:Int) (nm:ByteArray) (l:List Ty) (d:Nat) (wi:Bool) (c:Nat):tfS most deep (.mk k nm l) d wi c=if ((decide (c+1≤most)&&decide (d≤deep))&&tyHead k nm l.length wi)=true then tfsS most deep l (d+1) (c+1) else (false,c+1):=by
 rw[tfS]
 cases (decide (c+1≤most)&&decide (d≤deep))&&tyHead k nm l.length wi <;> rfl
theorem ident_t' {t:ByteArray} {v:Bool} (h:identB t=v) (ht:t.size≤9223372036854775807) (w:World):Calls Tryz.prog 79 #[.string t] w fun e w'=>e=.returned (.bool v)∧w=w':=(ident_any t w ht).mono fun _ _ q=>⟨by rw[← h];exact q.1,q.2⟩
theorem typeFits_one {m most deep:Nat} {k:Int} {nm:ByteArray} {l:List Ty} (hmo:most≤100000) (hdp:deep≤1000) (hsz:nm.size≤9223372036854775807) (IH:∀ t,t∈l→TyC bz m most deep t):TyC bz m most deep (.mk k nm l):=by
 intro w c d wi tk hb hc hd hk
 obtain⟨a,n,cp,rfl⟩:=hk.slice
 have hn:=hk.len
 unfold tyVal
 have hk':TyL bz (fun k=>k≠m) w l (.slice a n cp):=hk
 clear hk
 simp only[Ty.kind,Ty.name,Ty.kids] at hn ⊢
 have HIH:=Ld IH
 clear IH
 have hml:=hb.lt
 have HQ:=Ld (tf_eq most deep k nm l d wi c)
 have HN:=Ld hn
 clear hn
 have hb3:=((hb.alloc (.cells #[.pointer (some ⟨m,0,none⟩)] 159)).alloc (.cells #[.int .i64 k,.string nm,.slice a n cp] 24)).alloc (.cells #[.int .i64 d] 3)
 have K3:Kept (·=m) w (((w.alloc (.cells #[.pointer (some ⟨m,0,none⟩)] 159)).alloc (.cells #[.int .i64 k,.string nm,.slice a n cp] 24)).alloc (.cells #[.int .i64 d] 3)):=((kR.alloc _).alloc _).alloc _
 have b0:Blk (((w.alloc (.cells #[.pointer (some ⟨m,0,none⟩)] 159)).alloc (.cells #[.int .i64 k,.string nm,.slice a n cp] 24)).alloc (.cells #[.int .i64 d] 3)) w.heap.size 159 [.pointer (some ⟨m,0,none⟩)]:=((Blk.new w 159 _).alloc _).alloc _
 have b1:Blk (((w.alloc (.cells #[.pointer (some ⟨m,0,none⟩)] 159)).alloc (.cells #[.int .i64 k,.string nm,.slice a n cp] 24)).alloc (.cells #[.int .i64 d] 3)) (w.heap.size+1) 24 [.int .i64 k,.string nm,.slice a n cp]:=(Blk.new' 24 _ (by simp)).alloc _
 have b2:Blk (((w.alloc (.cells #[.pointer (some ⟨m,0,none⟩)] 159)).alloc (.cells #[.int .i64 k,.string nm,.slice a n cp] 24)).alloc (.cells #[.int .i64 d] 3)) (w.heap.size+2) 3 [.int .i64 d]:=Blk.new' 3 _ (by simp)
 cases hv:(decide (c+1≤most)&&decide (d≤deep))
 ·have hq:Hid (tfS most deep (.mk k nm l) d wi c=(false,c+1)):=Ld (by rw[HQ.out,hv];rfl)
  go_enter Tryz.func216,Tryz.ntmps216
  go_wp2_with fail
  refine (enter_any hb3 (by omega) hv).mono ?_
  rintro e W ⟨rfl,hbW,hkW⟩
  go_wp2_with fail
  go_ret
  exact⟨by rw[hq.out];rfl,by rw[hq.out];exact hbW,K3.trans hkW⟩
 have hd1:d≤deep:=by simp at hv;exact hv.2
 have hc1:c+1≤most:=by simp at hv;exact hv.1
 have HD1:=Ld hd1
 have HC1:=Ld hc1
 clear hd1 hc1
 go_enter Tryz.func216,Tryz.ntmps216
 go_wp2_with fail
 refine (enter_any hb3 (by omega) hv).mono ?_
 rintro e W ⟨rfl,hbW,hkW⟩
 have p0:W.cell? ⟨w.heap.size,0,none⟩=some (.pointer (some ⟨m,0,none⟩)):=(b0.kept hkW (by show ¬ w.heap.size=m;omega)).cell 0
 have g0:W.cell? ⟨w.heap.size+1,0,none⟩=some (.int .i64 k):=(b1.kept hkW (by show ¬ w.heap.size+1=m;omega)).cell 0
 have g1:W.cell? ⟨w.heap.size+1,1,none⟩=some (.string nm):=(b1.kept hkW (by show ¬ w.heap.size+1=m;omega)).cell 1
 have g2:W.cell? ⟨w.heap.size+1,2,none⟩=some (.slice a n cp):=(b1.kept hkW (by show ¬ w.heap.size+1=m;omega)).cell 2
 have dd:W.cell? ⟨w.heap.size+2,0,none⟩=some (.int .i64 d):=(b2.kept hkW (by show ¬ w.heap.size+2=m;omega)).cell 0
 have KW:=K3.trans hkW
 have hkl:TyL bz (fun k=>k≠m) W l (.slice a n cp):=hk'.frame (Same.of_kept KW (fun k h e=>h e))
 have HCON:Hid (tyHead k nm n wi=true→Calls Tryz.prog 233 #[.slice a n cp,.func (.func 234) #[] #[.pointer (some ⟨w.heap.size,0,none⟩),.pointer (some ⟨w.heap.size+2,0,none⟩)]] W fun e w'=>e=.returned (.bool (!(tfS most deep (.mk k nm l) d wi c).1))∧Blk w' m 119 (mcells (tfS most deep (.mk k nm l) d wi c).2 most deep)∧Kept (·=m) w w'):=Ld (by
  intro hB
  rw[HQ.out,hv,← HN.out,hB]
  exact (contTy_any HIH.out hbW HC1.out hmo HD1.out hdp (by omega) (by omega) p0 dd hkl).mono fun e w' ⟨q1,q2,q3⟩=>⟨q1,q2,KW.trans q3⟩)
 have HNO:Hid (tyHead k nm n wi=false→tfS most deep (.mk k nm l) d wi c=(false,c+1)):=Ld (by intro hB;rw[HQ.out,hv,← HN.out,hB];rfl)
 clear hkl hv
 by_cases k1:k=1
 ·subst k1
  by_cases hl:n=0
  ·subst hl
   cases he:(nm.toList==[])
   ·have hq:=HNO.out (by unfold tyHead;simp[*])
    have HQ2:=Ld hq
    clear hq
    go_wp2_with fail
    go_ret
    exact⟨by rw[HQ2.out];rfl,by rw[HQ2.out];exact hbW,KW⟩
   ·have hq:=HCON.out (by unfold tyHead;simp[*])
    have HQ2:=Ld hq
    clear hq
    go_wp2_with fail
    refine HQ2.out.mono ?_
    rintro e w' ⟨rfl,h1,h2⟩
    go_wp2_with fail
    go_ret
    exact⟨by simp,h1,h2⟩
  ·have hl':decide ((n:Int)=0)=false:=by simp;omega
   have hl2:((n:Int)==0)=false:=by simp;omega
   have hq:=HNO.out (by unfold tyHead;simp[hl])
   have HQ2:=Ld hq
   clear hq
   go_wp2_with fail
   go_ret
   exact⟨by rw[HQ2.out];rfl,by rw[HQ2.out];exact hbW,KW⟩
 by_cases k2:k=2
 ·subst k2
  cases wi
  case true=>
   have hq:=HNO.out (by unfold tyHead;simp)
   have HQ2:=Ld hq
   clear hq
   go_wp2_with fail
   go_ret
   exact⟨by rw[HQ2.out];rfl,by rw[HQ2.out];exact hbW,KW⟩
  by_cases hl:n=0
  ·subst hl
   cases he:(nm.toList==[])
   ·have hq:=HNO.out (by unfold tyHead;simp[*])
    have HQ2:=Ld hq
    clear hq
    go_wp2_with fail
    go_ret
    exact⟨by rw[HQ2.out];rfl,by rw[HQ2.out];exact hbW,KW⟩
   ·have hq:=HCON.out (by unfold tyHead;simp[*])
    have HQ2:=Ld hq
    clear hq
    go_wp2_with fail
    refine HQ2.out.mono ?_
    rintro e w' ⟨rfl,h1,h2⟩
    go_wp2_with fail
    go_ret
    exact⟨by simp,h1,h2⟩
  ·have hl':decide ((n:Int)=0)=false:=by simp;omega
   have hl2:((n:Int)==0)=false:=by simp;omega
   have hq:=HNO.out (by unfold tyHead;simp[hl])
   have HQ2:=Ld hq
   clear hq
   go_wp2_with fail
   go_ret
   exact⟨by rw[HQ2.out];rfl,by rw[HQ2.out];exact hbW,KW⟩
 by_cases k3:k=3
 ·subst k3
  cases hi:identB nm
  case false=>
   have hq:=HNO.out (by unfold tyHead;simp[hi])
   have HQ2:=Ld hq
   clear hq
   go_wp2_with (go_at_call 79;refine cR (ident_t' hi hsz _) ?_)
   go_ret
   exact⟨by rw[HQ2.out];rfl,by rw[HQ2.out];exact hbW,KW⟩
  by_cases hl:n=0
  ·subst hl
   have hq:=HCON.out (by unfold tyHead;simp[*])
   have HQ2:=Ld hq
   clear hq
   go_wp2_with (go_at_call 79;refine cR (ident_t' hi hsz _) ?_)
   refine HQ2.out.mono ?_
   rintro e w' ⟨rfl,h1,h2⟩
   go_wp2_with fail
   go_ret
   exact⟨by simp,h1,h2⟩
  ·have hl':decide ((n:Int)=0)=false:=by simp;omega
   have hl2:((n:Int)==0)=false:=by simp;omega
   have hq:=HNO.out (by unfold tyHead;simp[hl])
   have HQ2:=Ld hq
   clear hq
   go_wp2_with (go_at_call 79;refine cR (ident_t' hi hsz _) ?_)
   go_ret
   exact⟨by rw[HQ2.out];rfl,by rw[HQ2.out];exact hbW,KW⟩
 by_cases k4:k=4
 ·subst k4
  by_cases hl:n=2
  ·subst hl
   cases he:(nm.toList==[])
   ·have hq:=HNO.out (by unfold tyHead;simp[*])
    have HQ2:=Ld hq
    clear hq
    go_wp2_with fail
    go_ret
    exact⟨by rw[HQ2.out];rfl,by rw[HQ2.out];exact hbW,KW⟩
   ·have hq:=HCON.out (by unfold tyHead;simp[*])
    have HQ2:=Ld hq
    clear hq
    go_wp2_with fail
    refine HQ2.out.mono ?_
    rintro e w' ⟨rfl,h1,h2⟩
    go_wp2_with fail
    go_ret
    exact⟨by simp,h1,h2⟩
  ·have hl':decide ((n:Int)=2)=false:=by simp;omega
   have hl2:((n:Int)==2)=false:=by simp;omega
   have hq:=HNO.out (by unfold tyHead;simp[hl])
   have HQ2:=Ld hq
   clear hq
   go_wp2_with fail
   go_ret
   exact⟨by rw[HQ2.out];rfl,by rw[HQ2.out];exact hbW,KW⟩
 by_cases k5:k=5
 ·subst k5
  by_cases hl:n=1
  ·subst hl
   cases he:(nm.toList==[])
   ·have hq:=HNO.out (by unfold tyHead;simp[*])
    have HQ2:=Ld hq
    clear hq
    go_wp2_with fail
    go_ret
    exact⟨by rw[HQ2.out];rfl,by rw[HQ2.out];exact hbW,KW⟩
   ·have hq:=HCON.out (by unfold tyHead;simp[*])
    have HQ2:=Ld hq
    clear hq
    go_wp2_with fail
    refine HQ2.out.mono ?_
    rintro e w' ⟨rfl,h1,h2⟩
    go_wp2_with fail
    go_ret
    exact⟨by simp,h1,h2⟩
  ·have hl':decide ((n:Int)=1)=false:=by simp;omega
   have hl2:((n:Int)==1)=false:=by simp;omega
   have hq:=HNO.out (by unfold tyHead;simp[hl])
   have HQ2:=Ld hq
   clear hq
   go_wp2_with fail
   go_ret
   exact⟨by rw[HQ2.out];rfl,by rw[HQ2.out];exact hbW,KW⟩
 have q1:(k==1)=false:=beq_false_of_ne k1
 have q2:(k==2)=false:=beq_false_of_ne k2
 have q3:(k==3)=false:=beq_false_of_ne k3
 have q4:(k==4)=false:=beq_false_of_ne k4
 have q5:(k==5)=false:=beq_false_of_ne k5
 have hq:=HNO.out (by unfold tyHead;simp[k1,k2,k3,k4,k5])
 have HQ2:=Ld hq
 clear hq k1 k2 k3 k4 k5
 go_wp2_with fail
 go_ret
 exact⟨by rw[HQ2.out];rfl,by rw[HQ2.out];exact hbW,KW⟩
end Go.Proofs.YtdmebjbkccjhbaaGreatDoor
