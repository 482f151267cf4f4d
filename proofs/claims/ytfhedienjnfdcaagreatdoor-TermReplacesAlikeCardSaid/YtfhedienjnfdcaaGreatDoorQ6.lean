/- A part. -/
import Derived.Test.YtfhedienjnfdcaaGreatDoorQ5
import Derived.Deep.AppendLies
import Derived.Deep.RegionLaw
import Derived.Laws.AppendOwnNone
set_option linter.unusedVariables false
set_option linter.unusedSimpArgs false
set_option maxRecDepth 100000
set_option maxHeartbeats 32000000
namespace Go.Proofs.YtfhedienjnfdcaaGreatDoor
open Go.RowKit
abbrev E2:=Ty×Value
def tyCells (t:Ty) (tk:Value):List Value:=[.int .i64 t.kind,.string t.name,tk]
def flatY:List E2→List Value
 | []=>[]
 | e::E=>tyCells e.1 e.2++flatY E
def ELY (ok:Nat→Prop) (w:World) (E:List E2):Prop:=∀ e∈E,TyL ok w e.1.kids e.2
theorem flatY_snoc:∀ (E:List E2) (e:E2),flatY (E++[e])=flatY E++tyCells e.1 e.2
 | [],e=>by simp[flatY]
 | x::E,e=>by rw[List.cons_append,flatY,flatY_snoc E e,flatY,List.append_assoc]
theorem flatY_get:∀ (E:List E2) (i j:Nat) (h:i<E.length),j<3→(flatY E)[i*3+j]?=(tyCells E[i].1 E[i].2)[j]?
 | e::E,0,j,_,hj=>by
  rw[flatY,Nat.zero_mul,Nat.zero_add,List.getElem?_append_left (by show j<3;exact hj)];rfl
 | e::E,i+1,j,h,hj=>by
  rw[flatY,List.getElem?_append_right (by show 3≤_;omega)]
  have:=flatY_get E i j (by simpa using h) hj
  rw[show (i+1)*3+j-(tyCells e.1 e.2).length=i*3+j by show (i+1)*3+j-3=_;omega,this]
  rfl
theorem tyl_of_row {ok:Nat→Prop} {w:World} {base:Nat} {v:Value} {E:List E2} (hown:w.ownsRow base 26 3 v E.length (flatY E)) (hl:ELY ok w E) (hok:∀ g,v.ownBlock=some g→ok g):TyL ok w (E.map (·.1)) v:=by
 obtain⟨_,hv⟩:=hown
 rcases hv with ⟨hv,hn⟩ | ⟨g,cap,cur,rfl,hbg,hg,hnc,hcm,hcs,htake⟩
 ·have:E=[]:=List.length_eq_zero_iff.1 hn
  subst this
  rw[hv];exact .nil (Or.inl rfl)
 ·by_cases hE:E=[]
  ·subst hE;exact .nil (Or.inr ⟨_,_,rfl⟩)
  have hb:Blk w g 26 cur.toList:=by show w.heap[g]?=_;rw[hg]
  have hc:∀ i j,i<E.length→j<3→w.cell? ⟨g,0+i*3+j,none⟩=(flatY E)[i*3+j]?:=by
   intro i j hi hj
   rw[hb.cell,← htake,List.getElem?_take,if_pos (by omega),Nat.zero_add]
  have:=TyL.mk (ok:=ok) (w:=w) (l:=E.map (·.1)) (b:=g) (off:=0) (cap:=cap) (fun i=>(E.getD i (ty0,undef)).2) (by simpa using hE) (hok g rfl) (by simpa using hnc) (fun i h=>?_) (fun i h=>?_)
  ·rw[List.length_map] at this;exact this
  all_goals
   have hi:i<E.length:=by simpa using h
   have e1:(E.map (·.1))[i]=E[i].1:=List.getElem_map ..
   have e2:E.getD i (ty0,undef)=E[i]:=by rw[List.getD_eq_getElem?_getD,List.getElem?_eq_getElem hi];rfl
   rw[e1]
   try rw[e2]
  ·exact⟨(hc i 0 hi (by omega)).trans (flatY_get E i 0 hi (by omega)),(hc i 1 hi (by omega)).trans (flatY_get E i 1 hi (by omega)),(hc i 2 hi (by omega)).trans (flatY_get E i 2 hi (by omega))⟩
  ·exact hl _ (List.getElem_mem hi)
theorem ELY.frame {ok:Nat→Prop} {w w':World} {E:List E2} (h:ELY ok w E) (hs:Same ok w w'):ELY ok w' E:=fun e he=>(h e he).frame hs
theorem ELY.mono {ok ok':Nat→Prop} {w:World} {E:List E2} (h:ELY ok w E) (ho:∀ k,k<w.heap.size→ok k→ok' k):ELY ok' w E:=fun e he=>(h e he).mono ho
theorem ELY.snoc {ok:Nat→Prop} {w:World} {E:List E2} {e:E2} (h:ELY ok w E) (ha:TyL ok w e.1.kids e.2):ELY ok w (E++[e]):=by
 intro x hx
 rcases List.mem_append.1 hx with hx | hx
 ·exact h x hx
 ·rw[List.mem_singleton.1 hx];exact ha
theorem own_keptT {S:Nat→Prop} {T sz:Nat} {w w':World} {base:Nat} {v:Value} {n:Nat} {xs:List Value} (h:w.ownsRow base T sz v n xs) (hk:Kept S w w') (hS:∀ g,v.ownBlock=some g→¬ S g):w'.ownsRow base T sz v n xs:=by
 obtain⟨h1,h2⟩:=h
 refine⟨h1,?_⟩
 rcases h2 with h2 | ⟨g,cap,cur,hv,hbg,hg,r⟩
 ·exact .inl h2
 ·refine .inr ⟨g,cap,cur,hv,hbg,?_,r⟩
  rw[hk.block g (Array.getElem?_eq_some_iff.1 hg).1 (hS g (by rw[hv];rfl))]
  exact hg
theorem own_base {T sz:Nat} {w:World} {base base':Nat} {v:Value} {n:Nat} {xs:List Value} (h:w.ownsRow base T sz v n xs) (hb:∀ g,v.ownBlock=some g→base'≤g):w.ownsRow base' T sz v n xs:=by
 obtain⟨h1,h2⟩:=h
 refine⟨h1,?_⟩
 rcases h2 with h2 | ⟨g,cap,cur,hv,hbg,r⟩
 ·exact .inl h2
 ·exact .inr ⟨g,cap,cur,hv,hb g (by rw[hv];rfl),r⟩
theorem tml_of_row' {ok:Nat→Prop} {w:World} {base:Nat} {v:Value} {E:List E3} (hown:w.ownsRow base 28 7 v E.length (flat E)) (hl:EL ok w E) (hok:∀ g,v.ownBlock=some g→ok g):TmL ok w (E.map (·.1)) v:=by
 by_cases hE:E=[]
 ·subst hE
  rcases hown.2 with ⟨hv,_⟩ | ⟨g,cap,cur,rfl,_⟩
  ·rw[hv];exact .nil (Or.inl rfl)
  ·exact .nil (Or.inr ⟨_,_,rfl⟩)
 ·exact tml_of_row hE hown hl hok
theorem flat_app:∀ (E F:List E3),flat (E++F)=flat E++flat F
 | [],F=>rfl
 | x::E,F=>by rw[List.cons_append,flat,flat_app E F,flat,List.append_assoc]
theorem EL.app {ok:Nat→Prop} {w:World} {E F:List E3} (h:EL ok w E) (k:EL ok w F):EL ok w (E++F):=by
 intro x hx
 rcases List.mem_append.1 hx with hx | hx
 ·exact h x hx
 ·exact k x hx
theorem own_cells {w:World} {base:Nat} {T sz n m cap:Nat} {ad:Addr} {xs:List Value} (h:w.ownsRow base T sz (.slice (some ad) m cap) n xs):∀ j u,xs[j]?=some u→w.cell? (ad.add j)=some u:=by
 intro j u hu
 rcases h.2 with ⟨hv,_⟩ | ⟨g,cap',cur,hv,hbg,hg,hnc,hcm,hcs,htake⟩
 ·cases hv
 ·cases hv
  have hj:j<n*sz:=by
   have:=(List.getElem?_eq_some_iff.1 hu).1
   rw[← htake] at this
   simp at this;omega
  have hb:Blk w g T cur.toList:=by show w.heap[g]?=_;rw[hg]
  have e:(⟨g,0,none⟩:Addr).add j=⟨g,j,none⟩:=by cases j <;> simp[Addr.add]
  rw[e,hb.cell,← hu,← htake,List.getElem?_take,if_pos hj]
theorem flat_one:∀ (E:List E3),(∀ e∈E,(∃ a n c,e.2.1=.slice a n c)∧∃ a n c,e.2.2=.slice a n c)→∀ x∈flat E,x.oneCell'=true
 | [],_,x,hx=>by cases hx
 | e::E,h,x,hx=>by
  rw[flat] at hx
  rcases List.mem_append.1 hx with hx | hx
  ·obtain⟨⟨a,n,c,h1⟩,⟨a',n',c',h2⟩⟩:=h e (by simp)
   unfold tmCells at hx
   simp only[List.mem_cons,List.not_mem_nil,or_false] at hx
   rcases hx with rfl | rfl | rfl | rfl | rfl | rfl | rfl <;> first | rfl | (rw[h1];rfl) | (rw[h2];rfl)
  ·exact flat_one E (fun e he=>h e (List.mem_cons_of_mem _ he)) x hx
theorem EL.one {ok:Nat→Prop} {w:World} {E:List E3} (h:EL ok w E):∀ x∈flat E,x.oneCell'=true:=flat_one E fun e he=>⟨(h e he).1.slice,(h e he).2.slice⟩
theorem TmL.row {ok:Nat→Prop} {w:World} {l:List Tm} {ad:Addr} {n c:Nat} (h:TmL ok w l (.slice (some ad) n c)):∃ E:List E3,E.map (·.1)=l∧EL ok w E∧E.length=n∧∀ j u,(flat E)[j]?=some u→w.cell? (ad.add j)=some u:=by
 generalize hv:Value.slice (some ad) n c=v at h
 cases h with
 | nil he=>
  refine⟨[],rfl,(fun e he=>by cases he),?_,(fun j u hu=>by cases hu)⟩
  rcases he with he | ⟨_,_,he⟩ <;> rw[he] at hv <;> cases hv
  rfl
 | mk K M hne hb hc hcell hk hm=>
  rename_i b off cap
  cases hv
  refine⟨(List.range l.length).attach.map fun i=>(l[i.1]'(List.mem_range.1 i.2),K i.1,M i.1),?_,?_,by simp,?_⟩
  ·apply List.ext_getElem
   ·simp
   ·intro i h1 h2;simp
  ·intro e he
   rw[List.mem_map] at he
   obtain⟨⟨i,hi⟩,_,rfl⟩:=he
   exact⟨hk i (List.mem_range.1 hi),hm i (List.mem_range.1 hi)⟩
  ·intro j u hu
   have hj:j<l.length*7:=by
    have:=(List.getElem?_eq_some_iff.1 hu).1
    rw[flat_len] at this;simpa using this
   obtain⟨i,r,hi,hr,rfl⟩:=seven hj
   rw[flat_get _ i r (by simpa using hi) hr] at hu
   simp only[List.getElem_map,List.getElem_attach,List.getElem_range] at hu
   have e:(⟨b,off,none⟩:Addr).add (i*7+r)=⟨b,off+i*7+r,none⟩:=by
    unfold Addr.add;split <;> simp_all <;> omega
   rw[e]
   have c:=hcell i hi
   rcases (show r=0∨r=1∨r=2∨r=3∨r=4∨r=5∨r=6 by omega) with rfl | rfl | rfl | rfl | rfl | rfl | rfl <;> cases hu
   ·exact c.1
   ·exact c.2.1
   ·exact c.2.2.1
   ·exact c.2.2.2.1
   ·exact c.2.2.2.2.1
   ·exact c.2.2.2.2.2.1
   ·exact c.2.2.2.2.2.2
structure C3 (w:World) (g o:Nat) (t:Ty) (tk:Value):Prop where
 c0:w.cell? ⟨g,o,none⟩=some (.int .i64 t.kind)
 c1:w.cell? ⟨g,o+1,none⟩=some (.string t.name)
 c2:w.cell? ⟨g,o+2,none⟩=some tk
structure C7 (w:World) (g o:Nat) (t:Tm) (tk kk:Value):Prop where
 c0:w.cell? ⟨g,o,none⟩=some (.int .i64 t.op)
 c1:w.cell? ⟨g,o+1,none⟩=some (.string t.name)
 c2:w.cell? ⟨g,o+2,none⟩=some (.int .i64 t.n)
 c3:w.cell? ⟨g,o+3,none⟩=some (.int .i64 t.ty.kind)
 c4:w.cell? ⟨g,o+4,none⟩=some (.string t.ty.name)
 c5:w.cell? ⟨g,o+5,none⟩=some tk
 c6:w.cell? ⟨g,o+6,none⟩=some kk
theorem C7.same {w W:World} {g o:Nat} {t:Tm} {tk kk:Value} (h:C7 w g o t tk kk) {ok:Nat→Prop} (hs:Same ok w W) (hg:ok g):C7 W g o t tk kk:=
 ⟨hs.cell hg h.c0,hs.cell hg h.c1,hs.cell hg h.c2,hs.cell hg h.c3,hs.cell hg h.c4,hs.cell hg h.c5,hs.cell hg h.c6⟩
theorem C7.kept {w W:World} {g o:Nat} {t:Tm} {tk kk:Value} (h:C7 w g o t tk kk) {S:Nat→Prop} (k:Kept S w W) (hg:¬ S g):C7 W g o t tk kk:=h.same (Same.of_kept (ok:=(·=g)) k (fun q e=>e ▸ hg)) rfl
theorem TyL.at {ok:Nat→Prop} {w:World} {l:List Ty} {a:Option Addr} {n c:Nat} (h:TyL ok w l (.slice a n c)) (i:Nat) (hi:i<l.length):∃ g off ta tn tc,a=some ⟨g,off,none⟩∧ok g∧g<w.heap.size∧C3 w g (off+i*3) l[i] (.slice ta tn tc)∧TyL ok w l[i].kids (.slice ta tn tc):=by
 generalize hv:Value.slice a n c=v at h
 cases h with
 | nil he=>exact absurd hi (Nat.not_lt_zero _)
 | mk K hne hb hc hcell hk=>
  cases hv
  obtain⟨ta,tn,tc,hK⟩:=(hk i hi).slice
  exact⟨_,_,ta,tn,tc,rfl,hb,cell_lt (hcell i hi).1,⟨(hcell i hi).1,(hcell i hi).2.1,by rw[← hK];exact (hcell i hi).2.2⟩,by rw[← hK];exact hk i hi⟩
theorem TmL.at {ok:Nat→Prop} {w:World} {l:List Tm} {a:Option Addr} {n c:Nat} (h:TmL ok w l (.slice a n c)) (i:Nat) (hi:i<l.length):∃ g off ta tn tc ma mn mc,a=some ⟨g,off,none⟩∧ok g∧g<w.heap.size∧C7 w g (off+i*7) l[i] (.slice ta tn tc) (.slice ma mn mc)∧TyL ok w l[i].ty.kids (.slice ta tn tc)∧TmL ok w l[i].kids (.slice ma mn mc):=by
 generalize hv:Value.slice a n c=v at h
 cases h with
 | nil he=>exact absurd hi (Nat.not_lt_zero _)
 | mk K M hne hb hc hcell hk hm=>
  cases hv
  obtain⟨ta,tn,tc,hK⟩:=(hk i hi).slice
  obtain⟨ma,mn,mc,hM⟩:=(hm i hi).slice
  have c:=hcell i hi
  exact⟨_,_,ta,tn,tc,ma,mn,mc,rfl,hb,cell_lt c.1,⟨c.1,c.2.1,c.2.2.1,c.2.2.2.1,c.2.2.2.2.1,by rw[← hK];exact c.2.2.2.2.2.1,by rw[← hM];exact c.2.2.2.2.2.2⟩,by rw[← hK];exact hk i hi,by rw[← hM];exact hm i hi⟩
theorem newsT {w:World} {B T:Nat} {cs:List Value} (hb:Blk w B T cs):∀ j x,cs[j]?=some x→w.cell? ((⟨B,0,none⟩:Addr).add j)=some x:=by
 intro j x hx
 have:=hb.cell j
 rw[← hx,← this];cases j <;> simp[Addr.add]
theorem oneY {u:Ty} {a:Option Addr} {n c:Nat}:∀ x,x∈tyCells u (.slice a n c)→x.oneCell'=true:=by
 intro x hx
 unfold tyCells at hx
 simp only[List.mem_cons,List.not_mem_nil,or_false] at hx
 rcases hx with rfl | rfl | rfl <;> rfl
theorem oneT {u:Tm} {a d:Option Addr} {n c e f:Nat}:∀ x,x∈tmCells u (.slice a n c) (.slice d e f)→x.oneCell'=true:=by
 intro x hx
 unfold tmCells at hx
 simp only[List.mem_cons,List.not_mem_nil,or_false] at hx
 rcases hx with rfl | rfl | rfl | rfl | rfl | rfl | rfl <;> rfl
theorem info_ty:∃ i,Tryz.prog.info? 26=some i∧i.zero=some (.agg #[.int .i64 0,.string ⟨#[]⟩,.slice none 0 0])∧i.size=3∧i.bytes=48:=by
 have:=info24
 cases hh:Tryz.prog.info? 26 with
 | none=>rw[hh] at this;cases this
 | some i=>rw[hh] at this;simp only[Option.map_some,Option.some.injEq,Prod.mk.injEq] at this;exact⟨i,rfl,this.1,this.2.1,this.2.2⟩
theorem info_tm:∃ i,Tryz.prog.info? 28=some i∧i.zero=some (.agg #[.int .i64 0,.string ⟨#[]⟩,.int .i64 0,.int .i64 0,.string ⟨#[]⟩,.slice none 0 0,.slice none 0 0])∧i.size=7∧i.bytes=104:=by
 have:=info27
 cases hh:Tryz.prog.info? 28 with
 | none=>rw[hh] at this;cases this
 | some i=>rw[hh] at this;simp only[Option.map_some,Option.some.injEq,Prod.mk.injEq] at this;exact⟨i,rfl,this.1,this.2.1,this.2.2⟩
theorem results_ct {P:Program} {fn:Func} {p q:Tmp} {ty:TypeId} (h:fn.results=#[.cell p ty,.tmp q]) {tmps:Array Value} {a:Addr} (ha:tmps.getD p undef=.pointer (some a)) {v:Value} {W:World}
  (hl:(loadVar ty a).run P W=.ok v W):(results fn tmps).run P W=.ok (.tuple #[v,tmps.getD q undef]) W:=by
 have e:results fn tmps=(do let v ← (do loadVar ty (← asAddr (tmps.getD p undef)));pure (Value.tuple #[v,tmps.getD q undef])):=by
  unfold results;rw[h];simp
 rw[e,ha]
 show (loadVar ty a >>= fun v=>pure (Value.tuple #[v,tmps.getD q undef])).run P W=_
 rw[Sem.run_bind,hl]
 rfl
inductive Db where
 | fv (s:ByteArray)
 | bv (i:Nat)
 | nd (op N:Int) (ty:Ty) (l:List Db)
def upR (r:Nat→Nat):Nat→Nat
 | 0=>0
 | i+1=>r i+1
mutual
def ren (r:Nat→Nat):Db→Db
 | .fv s=>.fv s
 | .bv i=>.bv (r i)
 | .nd op N ty l=>.nd op N ty (rens (binderB op) r 0 l)
def rens (bi:Bool) (r:Nat→Nat):Nat→List Db→List Db
 | _,[]=>[]
 | i,d::l=>ren (if bi&&i==1 then upR r else r) d::rens bi r (i+1) l
end
def upE (nm:ByteArray) (ρ:ByteArray→Db):ByteArray→Db:=fun s=>if s=nm then .bv 0 else ren Nat.succ (ρ s)
mutual
def ev (ρ:ByteArray→Db):Tm→Db
 | .mk op nm N ty l=>if op=20 then ρ nm else .nd op N ty (evs (binderB op) nm ρ 0 l)
def evs (bi:Bool) (nm:ByteArray) (ρ:ByteArray→Db):Nat→List Tm→List Db
 | _,[]=>[]
 | i,t::l=>ev (if bi&&i==1 then upE nm ρ else ρ) t::evs bi nm ρ (i+1) l
end
mutual
def fr:Tm→List ByteArray
 | .mk op nm _ _ l=>if op=20 then [nm] else frs (binderB op) nm 0 l
def frs (bi:Bool) (nm:ByteArray):Nat→List Tm→List ByteArray
 | _,[]=>[]
 | i,t::l=>(if bi&&i==1 then (fr t).filter (fun s=>!decide (s=nm)) else fr t)++frs bi nm (i+1) l
end
def mb (s:ByteArray) (l:List ByteArray):Bool:=l.any fun x=>decide (x=s)
theorem mb_iff (s:ByteArray) (l:List ByteArray):mb s l=true↔s∈l:=by
 unfold mb;rw[List.any_eq_true];constructor
 ·rintro⟨x,h1,h2⟩;rw[← of_decide_eq_true h2];exact h1
 ·intro h;exact⟨s,h,by simp⟩
theorem mb_app (s:ByteArray) (l r:List ByteArray):mb s (l++r)=(mb s l||mb s r):=by unfold mb;rw[List.any_append]
mutual
def frL (B:List ByteArray):Tm→List ByteArray
 | .mk op nm _ _ l=>if op=20 then (if mb nm B then [] else [nm]) else frLs B (binderB op) nm 0 l
def frLs (B:List ByteArray) (bi:Bool) (nm:ByteArray):Nat→List Tm→List ByteArray
 | _,[]=>[]
 | i,t::l=>frL (if bi&&i==1 then B++[nm] else B) t++frLs B bi nm (i+1) l
end
theorem frL_eq:∀ (t:Tm) (B:List ByteArray),frL B t=(fr t).filter (fun s=>!mb s B):=by
 intro t
 induction t using Tm.rec (motive_2:=fun l=>∀ (B:List ByteArray) (bi:Bool) (nm:ByteArray) (i:Nat),frLs B bi nm i l=(frs bi nm i l).filter (fun s=>!mb s B)) with
 | mk op nm N ty l ih=>
  intro B
  rw[frL,fr]
  by_cases h:op=20
  ·rw[if_pos h,if_pos h]
   cases hb:mb nm B <;> simp[hb]
  ·rw[if_neg h,if_neg h];exact ih _ _ _ _
 | nil=>rename_i B bi nm i;rfl
 | cons t l iht ihl=>
  rename_i B bi nm i
  rw[frLs,frs,List.filter_append,ihl]
  congr 1
  cases hb:(bi&&i==1)
  ·simp only[Bool.false_eq_true,if_false];exact iht B
  ·simp only[if_true]
   rw[iht,List.filter_filter]
   congr 1
   funext s
   rw[mb_app]
   have:mb s [nm]=decide (s=nm):=by simp[mb,eq_comm]
   rw[this]
   cases mb s B <;> simp
theorem ren_ren:∀ (d:Db) (r q:Nat→Nat),ren r (ren q d)=ren (fun i=>r (q i)) d:=by
 intro d
 induction d using Db.rec (motive_2:=fun l=>∀ (bi:Bool) (r q:Nat→Nat) (i:Nat),rens bi r i (rens bi q i l)=rens bi (fun i=>r (q i)) i l) with
 | fv s=>intro r q;rfl
 | bv i=>intro r q;rfl
 | nd op N ty l ih=>intro r q;rw[ren,ren,ren,ih]
 | nil=>rename_i bi r q i;rfl
 | cons d l ihd ihl=>
  rename_i bi r q i
  rw[rens,rens,rens,ihl]
  congr 1
  cases hb:(bi&&i==1)
  ·simp only[Bool.false_eq_true,if_false];exact ihd _ _
  ·simp only[if_true]
   rw[ihd]
   congr 1
   funext i
   cases i <;> rfl
theorem upE_ren (nm:ByteArray) (ρ:ByteArray→Db) (r:Nat→Nat):(fun s=>ren (upR r) (upE nm ρ s))=upE nm (fun s=>ren r (ρ s)):=by
 funext s
 unfold upE
 by_cases h:s=nm
 ·rw[if_pos h,if_pos h];rfl
 ·rw[if_neg h,if_neg h,ren_ren,ren_ren];rfl
theorem ren_ev:∀ (t:Tm) (ρ:ByteArray→Db) (r:Nat→Nat),ren r (ev ρ t)=ev (fun s=>ren r (ρ s)) t:=by
 intro t
 induction t using Tm.rec (motive_2:=fun l=>∀ (bi:Bool) (nm:ByteArray) (ρ:ByteArray→Db) (r:Nat→Nat) (i:Nat),rens bi r i (evs bi nm ρ i l)=evs bi nm (fun s=>ren r (ρ s)) i l) with
 | mk op nm N ty l ih=>
  intro ρ r
  rw[ev,ev]
  by_cases h:op=20
  ·rw[if_pos h,if_pos h]
  ·rw[if_neg h,if_neg h,ren,ih]
 | nil=>rename_i bi nm ρ r i;rfl
 | cons t l iht ihl=>
  rename_i bi nm ρ r i
  rw[evs,evs,rens,ihl]
  congr 1
  cases hb:(bi&&i==1)
  ·simp only[Bool.false_eq_true,if_false];exact iht _ _
  ·simp only[if_true]
   rw[iht,upE_ren]
theorem ev_cong:∀ (t:Tm) (ρ ρ':ByteArray→Db),(∀ s,s∈fr t→ρ s=ρ' s)→ev ρ t=ev ρ' t:=by
 intro t
 induction t using Tm.rec (motive_2:=fun l=>∀ (bi:Bool) (nm:ByteArray) (ρ ρ':ByteArray→Db) (i:Nat),(∀ s,s∈frs bi nm i l→ρ s=ρ' s)→evs bi nm ρ i l=evs bi nm ρ' i l) with
 | mk op nm N ty l ih=>
  intro ρ ρ' hh
  rw[fr] at hh
  rw[ev,ev]
  by_cases h:op=20
  ·rw[if_pos h] at hh
   rw[if_pos h,if_pos h];exact hh nm (by simp)
  ·rw[if_neg h] at hh
   rw[if_neg h,if_neg h,ih _ _ _ _ _ hh]
 | nil=>rfl
 | cons t l iht ihl=>
  rename_i bi nm ρ ρ' i hh
  rw[frs] at hh
  rw[evs,evs,ihl bi nm ρ ρ' (i+1) (fun s hs=>hh s (List.mem_append_right _ hs))]
  congr 1
  cases hb:(bi&&i==1)
  ·rw[hb] at hh
   simp only[Bool.false_eq_true,if_false] at hh ⊢
   exact iht _ _ (fun s hs=>hh s (List.mem_append_left _ hs))
  ·rw[hb] at hh
   simp only[if_true] at hh ⊢
   refine iht _ _ (fun s hs=>?_)
   unfold upE
   by_cases h:s=nm
   ·rw[if_pos h,if_pos h]
   ·rw[if_neg h,if_neg h,hh s (List.mem_append_left _ (List.mem_filter.2 ⟨hs,by simp[h]⟩))]
mutual
def bd (σ:ByteArray→Db):Db→Db
 | .fv s=>σ s
 | .bv i=>.bv i
 | .nd op N ty l=>.nd op N ty (bds (binderB op) σ 0 l)
def bds (bi:Bool) (σ:ByteArray→Db):Nat→List Db→List Db
 | _,[]=>[]
 | i,d::l=>bd (if bi&&i==1 then (fun s=>ren Nat.succ (σ s)) else σ) d::bds bi σ (i+1) l
end
theorem bd_ren:∀ (d:Db) (σ:ByteArray→Db) (r:Nat→Nat),bd (fun s=>ren r (σ s)) (ren r d)=ren r (bd σ d):=by
 intro d
 induction d using Db.rec (motive_2:=fun l=>∀ (bi:Bool) (σ:ByteArray→Db) (r:Nat→Nat) (i:Nat),bds bi (fun s=>ren r (σ s)) i (rens bi r i l)=rens bi r i (bds bi σ i l)) with
 | fv s=>intro σ r;rfl
 | bv i=>intro σ r;rfl
 | nd op N ty l ih=>intro σ r;rw[ren,bd,bd,ren,ih]
 | nil=>rename_i bi σ r i;rfl
 | cons d l ihd ihl=>
  rename_i bi σ r i
  rw[rens,bds,bds,rens,ihl]
  congr 1
  cases hb:(bi&&i==1)
  ·simp only[Bool.false_eq_true,if_false];exact ihd _ _
  ·simp only[if_true]
   rw[← ihd]
   congr 1
   funext s
   rw[ren_ren,ren_ren];rfl
theorem bd_ev:∀ (t:Tm) (ρ σ:ByteArray→Db),bd σ (ev ρ t)=ev (fun s=>bd σ (ρ s)) t:=by
 intro t
 induction t using Tm.rec (motive_2:=fun l=>∀ (bi:Bool) (nm:ByteArray) (ρ σ:ByteArray→Db) (i:Nat),bds bi σ i (evs bi nm ρ i l)=evs bi nm (fun s=>bd σ (ρ s)) i l) with
 | mk op nm N ty l ih=>
  intro ρ σ
  rw[ev,ev]
  by_cases h:op=20
  ·rw[if_pos h,if_pos h]
  ·rw[if_neg h,if_neg h,bd,ih]
 | nil=>rename_i bi nm ρ σ i;rfl
 | cons t l iht ihl=>
  rename_i bi nm ρ σ i
  rw[evs,evs,bds,ihl]
  congr 1
  cases hb:(bi&&i==1)
  ·simp only[Bool.false_eq_true,if_false];exact iht _ _
  ·simp only[if_true]
   rw[iht]
   congr 1
   funext s
   unfold upE
   by_cases h:s=nm
   ·rw[if_pos h,if_pos h];rfl
   ·rw[if_neg h,if_neg h,bd_ren]
def dbT (t:Tm):Db:=ev .fv t
theorem ev_dbT (ρ:ByteArray→Db) (t:Tm):ev ρ t=bd ρ (dbT t):=by
 unfold dbT;rw[bd_ev];rfl
theorem ev_alike {t u:Tm} (h:dbT t=dbT u) (ρ:ByteArray→Db):ev ρ t=ev ρ u:=by rw[ev_dbT,ev_dbT,h]
mutual
def frD:Db→List ByteArray
 | .fv s=>[s]
 | .bv _=>[]
 | .nd _ _ _ l=>frDs l
def frDs:List Db→List ByteArray
 | []=>[]
 | d::l=>frD d++frDs l
end
mutual
def szD:Db→Nat
 | .nd _ _ _ l=>szDs l+1
 | _=>1
def szDs:List Db→Nat
 | []=>0
 | d::l=>szD d+szDs l
end
mutual
def dpD:Db→Nat
 | .nd _ _ _ l=>dpDs l+1
 | _=>1
def dpDs:List Db→Nat
 | []=>0
 | d::l=>max (dpD d) (dpDs l)
end
theorem frD_ren:∀ (d:Db) (r:Nat→Nat),frD (ren r d)=frD d:=by
 intro d
 induction d using Db.rec (motive_2:=fun l=>∀ (bi:Bool) (r:Nat→Nat) (i:Nat),frDs (rens bi r i l)=frDs l) with
 | fv s=>intro r;rfl
 | bv i=>intro r;rfl
 | nd op N ty l ih=>intro r;rw[ren,frD,frD,ih]
 | nil=>rename_i bi r i;rfl
 | cons d l ihd ihl=>rename_i bi r i;rw[rens,frDs,frDs,ihd,ihl]
theorem szD_ren:∀ (d:Db) (r:Nat→Nat),szD (ren r d)=szD d:=by
 intro d
 induction d using Db.rec (motive_2:=fun l=>∀ (bi:Bool) (r:Nat→Nat) (i:Nat),szDs (rens bi r i l)=szDs l) with
 | fv s=>intro r;rfl
 | bv i=>intro r;rfl
 | nd op N ty l ih=>intro r;rw[ren,szD,szD,ih]
 | nil=>rename_i bi r i;rfl
 | cons d l ihd ihl=>rename_i bi r i;rw[rens,szDs,szDs,ihd,ihl]
theorem dpD_ren:∀ (d:Db) (r:Nat→Nat),dpD (ren r d)=dpD d:=by
 intro d
 induction d using Db.rec (motive_2:=fun l=>∀ (bi:Bool) (r:Nat→Nat) (i:Nat),dpDs (rens bi r i l)=dpDs l) with
 | fv s=>intro r;rfl
 | bv i=>intro r;rfl
 | nd op N ty l ih=>intro r;rw[ren,dpD,dpD,ih]
 | nil=>rename_i bi r i;rfl
 | cons d l ihd ihl=>rename_i bi r i;rw[rens,dpDs,dpDs,ihd,ihl]
mutual
def tmN:Tm→Nat
 | .mk _ _ _ _ l=>tmNs l+1
def tmNs:List Tm→Nat
 | []=>0
 | t::l=>tmN t+tmNs l
end
mutual
def tmD:Tm→Nat
 | .mk _ _ _ _ l=>tmDs l+1
def tmDs:List Tm→Nat
 | []=>0
 | t::l=>max (tmD t) (tmDs l)
end
def look:List (ByteArray×Tm)→ByteArray→Option Tm
 | [],_=>none
 | b::l,s=>if b.1=s then some b.2 else look l s
theorem look_app (s:ByteArray) (l r:List (ByteArray×Tm)):look (l++r) s=(match look l s with | some u=>some u | none=>look r s):=by
 induction l with
 | nil=>rfl
 | cons b l ih=>
  rw[List.cons_append,look,look,ih]
  by_cases h:b.1=s
  ·rw[if_pos h,if_pos h]
  ·rw[if_neg h,if_neg h]
def remG (x:ByteArray) (F:List ByteArray):List (ByteArray×Tm)→List (ByteArray×Tm)→List (ByteArray×Tm)
 | out,[]=>out
 | out,b::l=>if (look out b.1).isSome||decide (b.1=x)||!mb b.1 F then remG x F out l else remG x F (out++[b]) l
def remL (l:List (ByteArray×Tm)) (x:ByteArray) (F:List ByteArray):List (ByteArray×Tm):=remG x F [] l
theorem remG_look (x:ByteArray) (F:List ByteArray) (s:ByteArray):∀ (l out:List (ByteArray×Tm)),look (remG x F out l) s=(match look out s with | some u=>some u | none=>if s=x∨mb s F=false then none else look l s)
 | [],out=>by
  rw[remG]
  cases h:look out s
  ·simp[look]
  ·rfl
 | b::l,out=>by
  rw[remG]
  split
  ·rename_i h
   rw[remG_look x F s l out]
   cases ho:look out s with
   | some u=>rfl
   | none=>
    simp only
    by_cases hs:s=x∨mb s F=false
    ·rw[if_pos hs,if_pos hs]
    ·rw[if_neg hs,if_neg hs,look]
     rw[if_neg ?_]
     intro e
     subst e
     simp only[Bool.or_eq_true,ho,Option.isSome_none,Bool.false_eq_true,false_or,decide_eq_true_eq,Bool.not_eq_true'] at h
     exact hs h
  ·rename_i h
   rw[remG_look x F s l (out++[b]),look_app]
   cases ho:look out s with
   | some u=>rfl
   | none=>
    simp only[look]
    simp only[Bool.or_eq_true,Bool.not_eq_true,not_or,decide_eq_true_eq,Bool.not_eq_true',Bool.not_eq_false] at h
    by_cases hb:b.1=s
    ·subst hb
     simp only[if_true]
     rw[if_neg (by rintro (e | e);exact h.1.2 e;rw[h.2] at e;cases e)]
    ·simp only[if_neg hb]
theorem remL_look (x:ByteArray) (F:List ByteArray) (s:ByteArray) (l:List (ByteArray×Tm)):look (remL l x F) s=if s=x∨mb s F=false then none else look l s:=by
 unfold remL;rw[remG_look];rfl
def frB:List (ByteArray×Tm)→List ByteArray
 | []=>[]
 | b::l=>fr b.2++frB l
theorem frB_mem {l:List (ByteArray×Tm)} {s x:ByteArray} {u:Tm} (h:look l s=some u) (hx:x∈fr u):x∈frB l:=by
 induction l with
 | nil=>cases h
 | cons b l ih=>
  rw[look] at h
  rw[frB]
  by_cases hb:b.1=s
  ·rw[if_pos hb] at h
   cases h
   exact List.mem_append_left _ hx
  ·rw[if_neg hb] at h
   exact List.mem_append_right _ (ih h)
def nameT (s:ByteArray):Tm:=.mk 20 s 0 ty0 []
section
variable (FS:ByteArray→List ByteArray→ByteArray)
def newN (x:ByteArray) (body:Tm) (l:List (ByteArray×Tm)):ByteArray:=
 if mb x (frB (remL l x (fr body))) then FS x (fr body++frB (remL l x (fr body))) else x
def inner (x:ByteArray) (body:Tm) (l:List (ByteArray×Tm)):List (ByteArray×Tm):=
 if mb x (frB (remL l x (fr body))) then remL l x (fr body)++[(x,nameT (newN FS x body l))] else remL l x (fr body)
mutual
def subT:Tm→List (ByteArray×Tm)→Tm
 | .mk op nm N ty ks,l=>
  if op=20 then (match look l nm with | some u=>u | none=>.mk op nm N ty ks)
  else if binderB op then .mk op (newN FS nm (ks.getD 1 (nameT nm)) l) N ty (subK true l (inner FS nm (ks.getD 1 (nameT nm)) l) 0 ks)
  else .mk op nm N ty (subK false l l 0 ks)
def subK (bi:Bool) (l inn:List (ByteArray×Tm)):Nat→List Tm→List Tm
 | _,[]=>[]
 | i,t::r=>subT t (if bi&&i==1 then inn else l)::subK bi l inn (i+1) r
end
end
def evB (ρ:ByteArray→Db) (l:List (ByteArray×Tm)):ByteArray→Db:=fun s=>match look l s with | some u=>ev ρ u | none=>ρ s
theorem nameT_ev (ρ:ByteArray→Db) (s:ByteArray):ev ρ (nameT s)=ρ s:=by unfold nameT;rw[ev,if_pos rfl]
theorem inner_ev {FS:ByteArray→List ByteArray→ByteArray} {x:ByteArray} {body:Tm} {l:List (ByteArray×Tm)} (hFS:mb x (frB (remL l x (fr body)))=true→mb (FS x (fr body++frB (remL l x (fr body)))) (fr body++frB (remL l x (fr body)))=false) (ρ:ByteArray→Db) (y:ByteArray) (hy:y∈fr body):
  evB (upE (newN FS x body l) ρ) (inner FS x body l) y=upE x (evB ρ l) y:=by
 have hyF:mb y (fr body)=true:=(mb_iff _ _).2 hy
 have key:∀ (z:ByteArray),(∀ u,look (remL l x (fr body)) y=some u→z ∉ fr u)→∀ u,look (remL l x (fr body)) y=some u→ev (upE z ρ) u=ren Nat.succ (ev ρ u):=by
  intro z hz u hu
  rw[ren_ev]
  apply ev_cong
  intro s hs
  unfold upE
  rw[if_neg]
  rintro rfl
  exact hz u hu hs
 unfold newN inner
 cases hc:mb x (frB (remL l x (fr body)))
 ·simp only[Bool.false_eq_true,if_false]
  unfold evB
  rw[remL_look]
  by_cases hyx:y=x
  ·rw[if_pos (Or.inl hyx)]
   unfold upE;rw[if_pos hyx,if_pos hyx]
  ·rw[if_neg (by rintro (e | e);exact hyx e;rw[hyF] at e;cases e)]
   have:upE x (fun s=>match look l s with | some u=>ev ρ u | none=>ρ s) y=ren Nat.succ (match look l y with | some u=>ev ρ u | none=>ρ y):=by unfold upE;rw[if_neg hyx]
   rw[this]
   cases hl:look l y with
   | none=>simp only;unfold upE;rw[if_neg hyx]
   | some u=>
    simp only
    refine key x (fun v hv hx=>?_) u (by rw[remL_look,if_neg (by rintro (e | e);exact hyx e;rw[hyF] at e;cases e),hl])
    have:=frB_mem hv hx
    rw[← mb_iff,hc] at this;cases this
 ·simp only[if_true]
  have hz:=hFS hc
  generalize hzz:FS x (fr body++frB (remL l x (fr body)))=z at *
  rw[mb_app,Bool.or_eq_false_iff] at hz
  unfold evB
  rw[look_app,remL_look]
  by_cases hyx:y=x
  ·rw[if_pos (Or.inl hyx)]
   simp only[look]
   rw[if_pos hyx.symm]
   simp only
   rw[nameT_ev]
   have e2:newN FS x body l=z:=by unfold newN;rw[if_pos hc];exact hzz
   rw[e2]
   unfold upE;rw[if_pos hyx,if_pos rfl]
  ·rw[if_neg (by rintro (e | e);exact hyx e;rw[hyF] at e;cases e)]
   have:upE x (fun s=>match look l s with | some u=>ev ρ u | none=>ρ s) y=ren Nat.succ (match look l y with | some u=>ev ρ u | none=>ρ y):=by unfold upE;rw[if_neg hyx]
   rw[this]
   cases hl:look l y with
   | none=>
    simp only[look]
    rw[if_neg (Ne.symm hyx)]
    simp only
    unfold upE;rw[if_neg]
    rintro rfl
    rw[hyF] at hz;cases hz.1
   | some u=>
    simp only
    refine key z (fun v hv hx=>?_) u (by rw[remL_look,if_neg (by rintro (e | e);exact hyx e;rw[hyF] at e;cases e),hl])
    have:=frB_mem hv hx
    rw[← mb_iff,hz.2] at this;cases this
def GoodFS (FS:ByteArray→List ByteArray→ByteArray) (M:Nat):Prop:=∀ x U,U.length≤M→mb (FS x U) U=false
theorem frs_len:∀ (t:Tm),(fr t).length≤tmN t:=by
 intro t
 induction t using Tm.rec (motive_2:=fun l=>∀ (bi:Bool) (nm:ByteArray) (i:Nat),(frs bi nm i l).length≤tmNs l) with
 | mk op nm N ty l ih=>
  rw[fr,tmN]
  split
  ·simp
  ·have:=ih (binderB op) nm 0;omega
 | nil=>rename_i bi nm i;exact Nat.le_refl _
 | cons t l iht ihl=>
  rename_i bi nm i
  rw[frs,tmNs,List.length_append]
  have:=ihl bi nm (i+1)
  split
  ·have:=List.length_filter_le (fun s=>!decide (s=nm)) (fr t);omega
  ·omega
theorem frB_app (a b:List (ByteArray×Tm)):frB (a++b)=frB a++frB b:=by
 induction a with
 | nil=>rfl
 | cons c a ih=>rw[List.cons_append,frB,ih,frB,List.append_assoc]
theorem remG_len (x:ByteArray) (F:List ByteArray):∀ (l out:List (ByteArray×Tm)),(frB (remG x F out l)).length≤(frB out).length+(frB l).length
 | [],out=>by rw[remG];exact Nat.le_add_right _ _
 | b::l,out=>by
  rw[remG,frB,List.length_append]
  split
  ·have:=remG_len x F l out;omega
  ·have:=remG_len x F l (out++[b])
   rw[frB_app,List.length_append] at this
   have e:(frB [b]).length=(fr b.2).length:=by rw[frB,frB,List.append_nil]
   omega
theorem remL_len (x:ByteArray) (F:List ByteArray) (l:List (ByteArray×Tm)):(frB (remL l x F)).length≤(frB l).length:=by
 have:=remG_len x F l []
 unfold remL
 exact Nat.le_trans this (by show 0+_≤_;omega)
theorem fr_nameT (s:ByteArray):fr (nameT s)=[s]:=by unfold nameT;rw[fr,if_pos rfl]
theorem inner_len (FS:ByteArray→List ByteArray→ByteArray) (x:ByteArray) (body:Tm) (l:List (ByteArray×Tm)):(frB (inner FS x body l)).length≤(frB l).length+1:=by
 have:=remL_len x (fr body) l
 unfold inner
 split
 ·rw[frB_app,List.length_append,frB,frB,fr_nameT];simp;omega
 ·omega
theorem ev_sub {FS:ByteArray→List ByteArray→ByteArray} {M:Nat} (hFS:GoodFS FS M):∀ (t:Tm) (l:List (ByteArray×Tm)) (ρ:ByteArray→Db),tmN t+(frB l).length≤M→ev ρ (subT FS t l)=ev (evB ρ l) t:=by
 intro t
 induction t using Tm.rec (motive_2:=fun ks=>∀ (bi:Bool) (nm z:ByteArray) (l inn:List (ByteArray×Tm)) (ρ:ByteArray→Db) (i:Nat),tmNs ks+(frB l).length≤M→(∀ (j:Nat) (t:Tm),ks[j]?=some t→(bi&&(i+j)==1)=true→tmN t+(frB inn).length≤M∧∀ s,s∈fr t→evB (upE z ρ) inn s=upE nm (evB ρ l) s)→evs bi z ρ i (subK FS bi l inn i ks)=evs bi nm (evB ρ l) i ks) with
 | mk op nm N ty ks ih=>
  intro l ρ hM
  rw[tmN] at hM
  rw[subT]
  by_cases h:op=20
  ·rw[if_pos h]
   rw[ev,if_pos h]
   unfold evB
   cases look l nm with
   | none=>simp only;rw[ev,if_pos h]
   | some u=>rfl
  ·rw[if_neg h]
   cases hb:binderB op
   ·simp only[Bool.false_eq_true,if_false]
    rw[ev,ev,if_neg h,if_neg h,hb,ih false nm nm l l ρ 0 (by omega) (fun j t _ e=>by cases e)]
   ·simp only[if_true]
    rw[ev,ev,if_neg h,if_neg h,hb,ih true nm (newN FS nm (ks.getD 1 (nameT nm)) l) l (inner FS nm (ks.getD 1 (nameT nm)) l) ρ 0 (by omega) (fun j t hj e=>?_)]
    have hj1:j=1:=by simpa using e
    subst hj1
    have e:ks.getD 1 (nameT nm)=t:=by rw[List.getD_eq_getElem?_getD,hj];rfl
    rw[e]
    have hle:tmN t≤tmNs ks:=by
     have:∀ (ks:List Tm) (i:Nat),ks[i]?=some t→tmN t≤tmNs ks:=by
      intro ks
      induction ks with
      | nil=>intro i h;simp at h
      | cons a ks ih=>
       intro i h
       rw[tmNs]
       cases i with
       | zero=>simp at h;subst h;omega
       | succ i=>have:=ih i (by simpa using h);omega
     exact this ks 1 hj
    refine⟨by have:=inner_len FS nm t l;omega,fun s hs=>inner_ev (fun _=>hFS _ _ ?_) ρ s hs⟩
    rw[List.length_append]
    have h1:=frs_len t
    have h2:=remL_len nm (fr t) l
    omega
 | nil=>rfl
 | cons t ks iht ihl=>
  rename_i bi nm z l inn ρ i hM hin
  rw[tmNs] at hM
  rw[subK,evs,evs,ihl bi nm z l inn ρ (i+1) (by omega) (fun j t hj e=>hin (j+1) t (by simpa using hj) (by rw[show i+(j+1)=i+1+j by omega];exact e))]
  congr 1
  cases hb:(bi&&i==1)
  ·simp only[Bool.false_eq_true,if_false];exact iht _ _ (by omega)
  ·simp only[if_true]
   obtain⟨h1,h2⟩:=hin 0 t rfl (by rw[Nat.add_zero];exact hb)
   rw[iht _ _ h1]
   exact ev_cong _ _ _ h2
mutual
def tyEq:Ty→Ty→Bool
 | .mk k n l,.mk k' n' l'=>decide (k=k')&&decide (n=n')&&tysEq l l'
def tysEq:List Ty→List Ty→Bool
 | [],[]=>true
 | t::l,t'::l'=>tyEq t t'&&tysEq l l'
 | _,_=>false
end
theorem tyEq_iff:∀ (a b:Ty),tyEq a b=true↔a=b:=by
 intro a
 induction a using Ty.rec (motive_2:=fun l=>∀ l',tysEq l l'=true↔l=l') with
 | mk k n l ih=>
  intro b
  cases b with
  | mk k' n' l'=>
   simp only[tyEq,Bool.and_eq_true,decide_eq_true_eq,ih l',Ty.mk.injEq]
   constructor
   ·rintro⟨⟨a,b⟩,c⟩;exact⟨a,b,c⟩
   ·rintro⟨a,b,c⟩;exact⟨⟨a,b⟩,c⟩
 | nil=>rename_i l';cases l' <;> simp[tysEq]
 | cons t l iht ihl=>
  rename_i l'
  cases l' with
  | nil=>simp[tysEq]
  | cons t' l'=>simp only[tysEq,Bool.and_eq_true,iht,ihl,List.cons.injEq]
def idx (s:ByteArray):List ByteArray→Option Nat
 | []=>none
 | x::X=>if x=s then some 0 else (idx s X).map (·+1)
theorem idxN_lt {s:ByteArray}:∀ {X:List ByteArray} {i:Nat},idx s X=some i→i<X.length
 | x::X,i,h=>by
  rw[idx] at h
  split at h
  ·cases h;simp
  ·cases hx:idx s X with
   | none=>rw[hx] at h;cases h
   | some j=>
    rw[hx] at h
    have:=idxN_lt hx
    simp only[Option.map_some,Option.some.injEq] at h
    simp;omega
def lastI (s:ByteArray) (l:List ByteArray):Int:=match idx s l.reverse with
 | some i=>(l.length:Int)-1-i
 | none=>-1
def envL (X:List ByteArray):ByteArray→Db:=X.foldl (fun ρ n=>upE n ρ) .fv
theorem envL_snoc (X:List ByteArray) (n:ByteArray):envL (X++[n])=upE n (envL X):=by unfold envL;rw[List.foldl_append];rfl
theorem envL_at (s:ByteArray):∀ (R:List ByteArray),envL R.reverse s=match idx s R with | some i=>.bv i | none=>.fv s
 | []=>rfl
 | x::R=>by
  rw[List.reverse_cons,envL_snoc,idx]
  unfold upE
  by_cases h:x=s
  ·rw[if_pos h.symm,if_pos h]
  ·rw[if_neg (Ne.symm h),if_neg h,envL_at s R]
   cases idx s R <;> rfl
theorem envL_idx (s:ByteArray) (X:List ByteArray):envL X s=match idx s X.reverse with | some i=>.bv i | none=>.fv s:=by
 have:=envL_at s X.reverse
 rw[List.reverse_reverse] at this;exact this
inductive NW:Tm→Prop
 | mk {op:Int} {nm:ByteArray} {N:Int} {ty:Ty} {l:List Tm} (h:op=20→N=0∧ty=ty0∧l=[]) (hl:∀ t,t∈l→NW t):NW (.mk op nm N ty l)
mutual
def alikeT:Tm→Tm→List ByteArray→List ByteArray→Bool
 | .mk op nm N ty l,.mk op' nm' N' ty' l',x,y=>
  (decide (op=op')&&decide (N=N')&&tyEq ty ty'&&decide (l.length=l'.length)) &&
   (if op=20 then decide (lastI nm x=lastI nm' y)&&(decide (0≤lastI nm x)||decide (nm=nm')) else alikeK (binderB op) nm nm' 0 l l' x y)
def alikeK (bi:Bool) (nm nm':ByteArray):Nat→List Tm→List Tm→List ByteArray→List ByteArray→Bool
 | i,a::l,b::l',x,y=>alikeT a b (if bi&&i==1 then x++[nm] else x) (if bi&&i==1 then y++[nm'] else y)&&alikeK bi nm nm' (i+1) l l' x y
 | _,_,_,_,_=>true
end
theorem ev_len (bi:Bool) (nm:ByteArray) (ρ:ByteArray→Db):∀ (l:List Tm) (i:Nat),(evs bi nm ρ i l).length=l.length
 | [],i=>rfl
 | t::l,i=>by rw[evs,List.length_cons,ev_len bi nm ρ l,List.length_cons]
theorem last_eq {s s':ByteArray} {X Y:List ByteArray} (h:X.length=Y.length):(decide (lastI s X=lastI s' Y)&&(decide (0≤lastI s X)||decide (s=s')))=true↔envL X s=envL Y s':=by
 rw[envL_idx,envL_idx]
 unfold lastI
 cases h1:idx s X.reverse with
 | none=>
  cases h2:idx s' Y.reverse with
  | none=>simp
  | some j=>
   have:=idxN_lt h2
   rw[List.length_reverse] at this
   simp only[Bool.and_eq_true,decide_eq_true_eq,reduceCtorEq,iff_false,not_and]
   intro e;omega
 | some i=>
  have hi:=idxN_lt h1
  rw[List.length_reverse] at hi
  cases h2:idx s' Y.reverse with
  | none=>
   simp only[Bool.and_eq_true,decide_eq_true_eq,reduceCtorEq,iff_false,not_and]
   intro e;omega
  | some j=>
   have hj:=idxN_lt h2
   rw[List.length_reverse] at hj
   simp only[Bool.and_eq_true,decide_eq_true_eq,Bool.or_eq_true,Db.bv.injEq]
   constructor
   ·rintro⟨e,_⟩;omega
   ·intro e;exact⟨by omega,Or.inl (by omega)⟩
theorem env_no_nd (X:List ByteArray) (s:ByteArray) (op N:Int) (ty:Ty) (l:List Db):envL X s≠.nd op N ty l:=by
 rw[envL_idx];cases idx s X.reverse <;> simp
theorem alike_iff:∀ (a b:Tm) (X Y:List ByteArray),X.length=Y.length→NW a→NW b→(alikeT a b X Y=true↔ev (envL X) a=ev (envL Y) b):=by
 intro a
 induction a using Tm.rec (motive_2:=fun l=>∀ (l':List Tm) (bi:Bool) (nm nm':ByteArray) (i:Nat) (X Y:List ByteArray),l.length=l'.length→X.length=Y.length→(∀ t,t∈l→NW t)→(∀ t,t∈l'→NW t)→(alikeK bi nm nm' i l l' X Y=true↔evs bi nm (envL X) i l=evs bi nm' (envL Y) i l')) with
 | mk op nm N ty l ih=>
  intro b X Y hXY ha hb
  cases b with
  | mk op' nm' N' ty' l'=>
   cases ha with
   | mk ha hal=>
    cases hb with
    | mk hb hbl=>
     rw[alikeT,ev,ev,Bool.and_eq_true]
     simp only[Bool.and_eq_true,decide_eq_true_eq,tyEq_iff]
     by_cases h:op=20
     ·by_cases h':op'=20
      ·rw[if_pos h,if_pos h,if_pos h']
       obtain⟨a1,a2,a3⟩:=ha h
       obtain⟨b1,b2,b3⟩:=hb h'
       subst h h' a1 a2 a3 b1 b2 b3
       rw[← last_eq hXY]
       simp
      ·rw[if_pos h,if_pos h,if_neg h']
       constructor
       ·rintro⟨⟨⟨⟨e,_⟩,_⟩,_⟩,_⟩;exact absurd (e.symm.trans h) h'
       ·intro e;exact absurd e (env_no_nd _ _ _ _ _ _)
     ·by_cases h':op'=20
      ·rw[if_neg h,if_neg h,if_pos h']
       constructor
       ·rintro⟨⟨⟨⟨e,_⟩,_⟩,_⟩,_⟩;exact absurd (e.trans h') h
       ·intro e;exact absurd e.symm (env_no_nd _ _ _ _ _ _)
      ·rw[if_neg h,if_neg h,if_neg h',Db.nd.injEq]
       constructor
       ·rintro⟨⟨⟨⟨e1,e2⟩,e3⟩,e4⟩,e5⟩
        subst e1
        exact⟨rfl,e2,e3,(ih _ _ _ _ _ _ _ e4 hXY hal hbl).1 e5⟩
       ·rintro⟨e1,e2,e3,e4⟩
        subst e1
        have el:l.length=l'.length:=by
         have:=congrArg List.length e4
         rw[ev_len,ev_len] at this;exact this
        exact⟨⟨⟨⟨rfl,e2⟩,e3⟩,el⟩,(ih _ _ _ _ _ _ _ el hXY hal hbl).2 e4⟩
 | nil=>
  rename_i l' bi nm nm' i X Y hl hXY _ _
  cases l' with
  | nil=>simp[alikeK,evs]
  | cons b l'=>simp at hl
 | cons a l iha ihl=>
  rename_i l' bi nm nm' i X Y hl hXY h1 h2
  cases l' with
  | nil=>simp at hl
  | cons b l'=>
   rw[alikeK,evs,evs,Bool.and_eq_true,List.cons.injEq,ihl l' bi nm nm' (i+1) X Y (by simpa using hl) hXY (fun t ht=>h1 t (List.mem_cons_of_mem _ ht)) (fun t ht=>h2 t (List.mem_cons_of_mem _ ht))]
   cases hb:(bi&&i==1)
   ·simp only[Bool.false_eq_true,if_false]
    rw[iha b X Y hXY (h1 a (by simp)) (h2 b (by simp))]
   ·simp only[if_true]
    rw[iha b (X++[nm]) (Y++[nm']) (by simp[hXY]) (h1 a (by simp)) (h2 b (by simp)),envL_snoc,envL_snoc]
theorem alike_db {a b:Tm} (ha:NW a) (hb:NW b):alikeT a b [] []=true↔dbT a=dbT b:=alike_iff a b [] [] rfl ha hb
theorem ev_size:∀ (t:Tm) (ρ:ByteArray→Db),NW t→(∀ s,szD (ρ s)=1)→szD (ev ρ t)=tmN t:=by
 intro t
 induction t using Tm.rec (motive_2:=fun l=>∀ (bi:Bool) (nm:ByteArray) (ρ:ByteArray→Db) (i:Nat),(∀ t,t∈l→NW t)→(∀ s,szD (ρ s)=1)→szDs (evs bi nm ρ i l)=tmNs l) with
 | mk op nm N ty l ih=>
  intro ρ h1 h2
  cases h1 with
  | mk h1 hl=>
   rw[ev,tmN]
   by_cases h:op=20
   ·rw[if_pos h,(h1 h).2.2,h2];rfl
   ·rw[if_neg h,szD,ih _ _ _ _ hl h2]
 | nil=>rfl
 | cons t l iht ihl=>
  rename_i bi nm ρ i h1 h2
  rw[evs,szDs,tmNs,ihl bi nm ρ (i+1) (fun t ht=>h1 t (List.mem_cons_of_mem _ ht)) h2,iht _ (h1 t (by simp)) ?_]
  intro s
  split
  ·unfold upE
   split
   ·rfl
   ·rw[szD_ren];exact h2 s
  ·exact h2 s
theorem ev_depth:∀ (t:Tm) (ρ:ByteArray→Db),NW t→(∀ s,dpD (ρ s)=1)→dpD (ev ρ t)=tmD t:=by
 intro t
 induction t using Tm.rec (motive_2:=fun l=>∀ (bi:Bool) (nm:ByteArray) (ρ:ByteArray→Db) (i:Nat),(∀ t,t∈l→NW t)→(∀ s,dpD (ρ s)=1)→dpDs (evs bi nm ρ i l)=tmDs l) with
 | mk op nm N ty l ih=>
  intro ρ h1 h2
  cases h1 with
  | mk h1 hl=>
   rw[ev,tmD]
   by_cases h:op=20
   ·rw[if_pos h,(h1 h).2.2,h2];rfl
   ·rw[if_neg h,dpD,ih _ _ _ _ hl h2]
 | nil=>rfl
 | cons t l iht ihl=>
  rename_i bi nm ρ i h1 h2
  rw[evs,dpDs,tmDs,ihl bi nm ρ (i+1) (fun t ht=>h1 t (List.mem_cons_of_mem _ ht)) h2,iht _ (h1 t (by simp)) ?_]
  intro s
  split
  ·unfold upE
   split
   ·rfl
   ·rw[dpD_ren];exact h2 s
  ·exact h2 s
theorem dbT_size {t:Tm} (h:NW t):szD (dbT t)=tmN t:=ev_size t _ h (fun _=>rfl)
theorem dbT_depth {t:Tm} (h:NW t):dpD (dbT t)=tmD t:=ev_depth t _ h (fun _=>rfl)
theorem db_size {t u:Tm} (ht:NW t) (hu:NW u) (h:dbT t=dbT u):tmN t=tmN u:=by rw[← dbT_size ht,← dbT_size hu,h]
theorem db_depth {t u:Tm} (ht:NW t) (hu:NW u) (h:dbT t=dbT u):tmD t=tmD u:=by rw[← dbT_depth ht,← dbT_depth hu,h]
def NmL (ok:Nat→Prop) (w:World) (l:List ByteArray) (v:Value):Prop:=
 ∃ a n c,v=.slice a n c∧n=l.length∧n≤c∧(a=none→c=0)∧∀ i (h:i<l.length),∃ g off,a=some ⟨g,off,none⟩∧ok g∧w.cell? ⟨g,off+i,none⟩=some (.string l[i])
theorem NmL.nil {ok:Nat→Prop} {w:World}:NmL ok w [] (.slice none 0 0):=⟨none,0,0,rfl,rfl,Nat.le_refl _,fun _=>rfl,fun i h=>absurd h (Nat.not_lt_zero _)⟩
theorem NmL.frame {ok:Nat→Prop} {w W:World} {l:List ByteArray} {v:Value} (h:NmL ok w l v) (hs:Same ok w W):NmL ok W l v:=by
 obtain⟨a,n,c,h1,h2,h3,h5,h4⟩:=h
 refine⟨a,n,c,h1,h2,h3,h5,fun i hi=>?_⟩
 obtain⟨g,off,e,hg,hc⟩:=h4 i hi
 exact⟨g,off,e,hg,hs.cell hg hc⟩
theorem NmL.mono {ok ok':Nat→Prop} {w:World} {l:List ByteArray} {v:Value} (h:NmL ok w l v) (ho:∀ k,k<w.heap.size→ok k→ok' k):NmL ok' w l v:=by
 obtain⟨a,n,c,h1,h2,h3,h5,h4⟩:=h
 refine⟨a,n,c,h1,h2,h3,h5,fun i hi=>?_⟩
 obtain⟨g,off,e,hg,hc⟩:=h4 i hi
 exact⟨g,off,e,ho _ (cell_lt hc) hg,hc⟩
theorem NmL.slice {ok:Nat→Prop} {w:World} {l:List ByteArray} {v:Value} (h:NmL ok w l v):∃ a c,v=.slice a l.length c:=by
 obtain⟨a,n,c,h1,h2,_⟩:=h
 exact⟨a,c,by rw[h1,h2]⟩
theorem NmL.at {ok:Nat→Prop} {w:World} {l:List ByteArray} {a:Option Addr} {n c:Nat} (h:NmL ok w l (.slice a n c)) (i:Nat) (hi:i<l.length):∃ g off,a=some ⟨g,off,none⟩∧ok g∧w.cell? ⟨g,off+i,none⟩=some (.string l[i]):=by
 obtain⟨a',n',c',h1,h2,h3,h5,h4⟩:=h
 cases h1
 exact h4 i hi
theorem nm_eq {a b:ByteArray}:(a.toList==b.toList)=decide (a=b):=by
 rw[Bool.eq_iff_iff];simp only[beq_iff_eq,decide_eq_true_eq]
 rw[Go.ByteArray.toList_eq,Go.ByteArray.toList_eq]
 exact⟨fun h=>ByteArray.ext (Array.toList_inj.1 h),fun h=>by rw[h]⟩
theorem idx_take {s:ByteArray}:∀ (l:List ByteArray) (k:Nat) (h:k<l.length),idx s (l.take (k+1)).reverse=if l[k]=s then some 0 else (idx s (l.take k).reverse).map (·+1):=by
 intro l k h
 rw[List.take_succ_eq_append_getElem h,List.reverse_append,List.reverse_cons,List.reverse_nil,List.nil_append,List.singleton_append,idx]
theorem last_take {s:ByteArray} {l:List ByteArray} {k:Nat} (h:k<l.length):lastI s (l.take (k+1))=if l[k]=s then (k:Int) else lastI s (l.take k):=by
 unfold lastI
 rw[idx_take l k h]
 have e1:(l.take (k+1)).length=k+1:=by rw[List.length_take];omega
 have e2:(l.take k).length=k:=by rw[List.length_take];omega
 by_cases hs:l[k]=s
 ·rw[if_pos hs,if_pos hs,e1];simp only;omega
 ·rw[if_neg hs,if_neg hs,e1,e2]
  cases idx s (l.take k).reverse with
  | none=>rfl
  | some i=>simp only[Option.map_some];omega
theorem rlast_any {ok:Nat→Prop} {w:World} {l:List ByteArray} {v:Value} (s:ByteArray) (h:NmL ok w l v) (hn:l.length≤1000000):
  Calls Tryz.prog 113 #[.string s,v] w fun e w'=>e=.returned (.int .i64 (lastI s l))∧w=w':=by
 obtain⟨a,c,rfl⟩:=h.slice
 have HAT:=Ld (fun i hi=>h.at i hi)
 have HN:=Ld hn
 clear h
 go_enter Tryz.func113,Tryz.ntmps113
 go_wp2_with fail
 go_loop [5] (fun i=>∃ k:Nat,k≤l.length∧i=.int .i64 ((k:Int)-1)∧Hid (lastI s l=lastI s (l.take k))) (fun i=>(intOf i+1).toNat)
 case atStart=>exact⟨l.length,Nat.le_refl _,by simp,Ld (by rw[List.take_length])⟩
 case round=>
  obtain⟨k,hk,rfl,hq⟩:=hrel
  cases k with
  | zero=>
   have i0:((0:Nat):Int)-1=-1:=rfl
   have HZ:Hid (lastI s l=-1):=Ld (by rw[hq.out];rfl)
   rw[i0]
   go_wp2_with fail
   go_ret
   exact⟨by rw[HZ.out];rfl,rfl⟩
  | succ k=>
   have hkl:k<l.length:=by omega
   obtain⟨g,off,rfl,_,c0⟩:=HAT.out k hkl
   have i0:((k+1:Nat):Int)-1=k:=by omega
   have i1:(k:Int)<(l.length:Int):=by omega
   have i2:(k:Int)<1000000:=by have:=HN.out;omega
   have i3:decide (0≤(k:Int))=true:=by simp
   have HS:=Ld (last_take (s:=s) hkl)
   rw[i0]
   clear i0 hk
   cases hs:(l[k].toList==s.toList)
   ·have hne:Hid (l[k]≠s):=Ld (by intro e;rw[e] at hs;simp at hs)
    go_wp2_with fail
    go_round
    case rel=>exact⟨k,by omega,rfl,Ld (by rw[hq.out,HS.out,if_neg hne.out])⟩
    case measure=>simp[intOf]
   ·have hye:Hid (l[k]=s):=Ld (by rw[nm_eq] at hs;exact of_decide_eq_true hs)
    go_wp2_with fail
    go_ret
    exact⟨by rw[hq.out,HS.out,if_pos hye.out];rfl,rfl⟩
theorem info_str:∃ i,Tryz.prog.info? 9=some i∧i.zero=some (.string ⟨#[]⟩)∧i.size=1∧i.bytes=16:=by
 have:(Tryz.prog.info? 9).map (fun i=>(i.zero,i.size,i.bytes))=some (some (.string ⟨#[]⟩),1,16):=by kernel_rfl
 cases hh:Tryz.prog.info? 9 with
 | none=>rw[hh] at this;cases this
 | some i=>rw[hh] at this;simp only[Option.map_some,Option.some.injEq,Prod.mk.injEq] at this;exact⟨i,rfl,this.1,this.2.1,this.2.2⟩
theorem strs_one:∀ (l:List ByteArray),∀ u∈l.map Value.string,u.oneCell'=true:=by
 intro l u hu
 obtain⟨x,_,rfl⟩:=List.mem_map.1 hu
 rfl
def Src (w:World) (x:Value) (m:Nat) (news:List Value):Prop:=(x=.slice none 0 0∧m=0∧news=[])∨∃ ad c,x=.slice (some ad) m c∧∀ j u,news[j]?=some u→w.cell? (ad.add j)=some u
theorem wpList_app_src {P:Program} {w:World} {ops:Array Oper} {rest:List Oper} {o:Oper} {a:Act} {Q:Exit→Act→World→Prop} (hgd:o.guard=none) (s x:Operand) (t:TypeId)
  (ho:o.op=.call { callee:=.builtin .append,args:=#[s,x],argTypes:=#[t,t] })
  (base:Nat) (e:TypeId) (i:TypeInfo) (z:Value) (size bytes:Nat) (ht:P.underlying t=some (.slice e)) (hi:P.info? e=some i) (hz:i.zero=some z)
  (hsize:i.size=size) (hby:i.bytes=bytes) (hzs:z.cells.size=size) (hsz:0<size)
  (v:Value) (n:Nat) (xs:List Value) (hs:a.eval s=v) (hown:w.ownsRow base e size v n xs)
  (u:Value) (m:Nat) (news:List Value) (hx:a.eval x=u) (hsrc:Src w u m news) (hl:news.length=m*size) (h1:∀ u∈news,u.oneCell'=true)
  (h63:n+m≤maxLen) (hbytes:(n+m)*bytes≤140737488355328) (hbase:base≤w.heap.size)
  (h:∀ v' w',w'.ownsRow base e size v' (n+m) (xs++news)→w.grownBy w' v.ownBlock→(v'.ownBlock=v.ownBlock∨v'.ownBlock=some w.heap.size)→wpList P ops Q rest (a.put o.dst v') w'):wpList P ops Q (o::rest) a w:=by
 rcases hsrc with ⟨rfl,rfl,rfl⟩ | ⟨ad,c,rfl,hc⟩
 ·exact wpList_append_own_none hgd s x t ho base e i size ht hi v n xs hs hown hx (h v w (by simpa using hown) (World.grownBy.refl w _) (.inl rfl))
 ·exact wpList_append_own_at w hgd s x t ho base e i z size bytes ht hi hz hsize hby hzs hsz v n xs hs hown ad m c news hx hl hc h1 h63 hbytes hbase (fun v' w' h2 h3 _ h5=>h v' w' h2 h3 h5)
theorem run_app_src {P:Program} {w:World} (t ty:TypeId) (base:Nat) (e:TypeId) (i:TypeInfo) (z:Value) (size bytes:Nat) (ht:P.underlying t=some (.slice e)) (hi:P.info? e=some i) (hz:i.zero=some z)
  (hsize:i.size=size) (hby:i.bytes=bytes) (hzs:z.cells.size=size) (hsz:0<size)
  (v:Value) (n:Nat) (xs:List Value) (hown:w.ownsRow base e size v n xs) (u:Value) (m:Nat) (news:List Value) (hsrc:Src w u m news) (hl:news.length=m*size) (h1:∀ u∈news,u.oneCell'=true)
  (h63:n+m≤maxLen) (hbytes:(n+m)*bytes≤140737488355328) (hbase:base≤w.heap.size):
  ∃ v' w',(Builtin.append_ #[t,t] ty #[v,u]).run P w=.ok v' w'∧w'.ownsRow base e size v' (n+m) (xs++news)∧w.grownBy w' v.ownBlock∧(v'.ownBlock=v.ownBlock∨v'.ownBlock=some w.heap.size):=by
 rcases hsrc with ⟨rfl,rfl,rfl⟩ | ⟨ad,c,rfl,hc⟩
 ·exact⟨v,w,run_append_owned_none (P:=P) (w:=w) base t ty e i size ht hi v n xs hown,by simpa using hown,World.grownBy.refl w _,.inl rfl⟩
 ·obtain⟨v',w',hr,h2,h3,_,h5⟩:=run_append_own_at (P:=P) w base t ty e i z size bytes ht hi hz hsize hby hzs hsz v n xs hown ad m c news hl hc h1 h63 hbytes hbase
  exact⟨v',w',hr,h2,h3,h5⟩
theorem step_app_src {P:Program} {w:World} {ops:Array Oper} {o:Oper} {a:Act} {K:Act→World→Prop} {Q:Exit→Act→World→Prop} {X:Prop} (hgd:o.guard=none) (s x:Operand) (t:TypeId)
  (ho:o.op=.call { callee:=.builtin .append,args:=#[s,x],argTypes:=#[t,t] })
  (base:Nat) (e:TypeId) (i:TypeInfo) (z:Value) (size bytes:Nat) (ht:P.underlying t=some (.slice e)) (hi:P.info? e=some i) (hz:i.zero=some z)
  (hsize:i.size=size) (hby:i.bytes=bytes) (hzs:z.cells.size=size) (hsz:0<size)
  (v:Value) (n:Nat) (xs:List Value) (hs:a.eval s=v) (hown:w.ownsRow base e size v n xs)
  (u:Value) (m:Nat) (news:List Value) (hx:a.eval x=u) (hsrc:Src w u m news) (hl:news.length=m*size) (h1:∀ u∈news,u.oneCell'=true)
  (h63:n+m≤maxLen) (hbytes:(n+m)*bytes≤140737488355328) (hbase:base≤w.heap.size)
  (h:∀ v' w',w'.ownsRow base e size v' (n+m) (xs++news)→w.grownBy w' v.ownBlock→(v'.ownBlock=v.ownBlock∨v'.ownBlock=some w.heap.size)→K (a.put o.dst v') w'):
  if Region.wanted o (yielded ops a.tmps)=true then Oper.wp P o a w K Q else X:=by
 have hw:Region.wanted o (yielded ops a.tmps)=true:=by simp[Region.wanted,hgd]
 rw[if_pos hw]
 obtain⟨v',w',hr,h2,h3,h4⟩:=run_app_src (P:=P) (w:=w) t o.type base e i z size bytes ht hi hz hsize hby hzs hsz v n xs hown u m news hsrc hl h1 h63 hbytes hbase
 unfold Oper.wp execOp
 simp only[ho,resolve,invoke,builtin,Sem.run_bind,Sem.run_pure,Result.andThen_ok,List.map_toArray,List.map_cons,List.map_nil,hs,hx,hr]
 exact h v' w' h2 h3 h4
theorem NmL.src {ok:Nat→Prop} {w:World} {l:List ByteArray} {v:Value} (h:NmL ok w l v):Src w v l.length (l.map Value.string):=by
 obtain⟨a,n,c,rfl,rfl,h3,h5,h4⟩:=h
 cases a with
 | none=>
  have hc:=h5 rfl
  subst hc
  have hl:l=[]:=List.length_eq_zero_iff.1 (by omega)
  subst hl
  exact .inl ⟨rfl,rfl,rfl⟩
 | some ad=>
  refine .inr ⟨ad,c,rfl,fun j u hu=>?_⟩
  have hj:j<l.length:=by
   have:=(List.getElem?_eq_some_iff.1 hu).1
   simpa using this
  obtain⟨g,off,e,_,hc⟩:=h4 j hj
  cases e
  rw[List.getElem?_map,List.getElem?_eq_getElem hj] at hu
  cases hu
  have e:(⟨g,off,none⟩:Addr).add j=⟨g,off+j,none⟩:=by unfold Addr.add;split <;> simp_all
  rw[e];exact hc
theorem NmL.of_own {ok:Nat→Prop} {w:World} {base:Nat} {l:List ByteArray} {v:Value} (h:w.ownsRow base 9 1 v l.length (l.map Value.string)) (hok:∀ g,v.ownBlock=some g→ok g):NmL ok w l v:=by
 rcases h.2 with ⟨rfl,hn⟩ | ⟨g,cap,cur,rfl,hbg,hg,hnc,hcm,hcs,htake⟩
 ·have:l=[]:=List.length_eq_zero_iff.1 hn
  subst this;exact .nil
 ·refine⟨some ⟨g,0,none⟩,l.length,cap,rfl,rfl,by omega,(fun e=>by cases e),fun i hi=>⟨g,0,rfl,hok g rfl,?_⟩⟩
  have hb:Blk w g 9 cur.toList:=by show w.heap[g]?=_;rw[hg]
  have h1:(cur.toList.take (l.length*1))[i]?=(l.map Value.string)[i]?:=by rw[htake]
  rw[List.getElem?_take,if_pos (by omega),List.getElem?_map,List.getElem?_eq_getElem hi] at h1
  rw[hb.cell,Nat.zero_add];exact h1
theorem kept_grown1 {w w':World} {row:Option Nat} (h:w.grownBy w' row):Kept (fun k=>row=some k) w w':=⟨h.os,h.tape,h.output,h.size,fun k hk hn=>h.block k hk (fun e=>hn e.symm)⟩
theorem Kept.via1 {S S':Nat→Prop} {w w1 w2:World} (h:Kept S w w1) (k:Kept S' w1 w2) (hS:∀ x,x<w.heap.size→S' x→S x):Kept S w w2:=
 ⟨k.os.trans h.os,k.tape.trans h.tape,k.output.trans h.output,Nat.le_trans h.size k.size,fun i hi hs=>(k.block i (Nat.lt_of_lt_of_le hi h.size) (fun q=>hs (hS i hi q))).trans (h.block i hi hs)⟩
structure NRow (w:World) (base:Nat) (W:World) (l:List ByteArray) (v:Value):Prop where
 kp:Kept (fun _=>False) w W
 own:W.ownsRow base 9 1 v l.length (l.map Value.string)
theorem NRow.nml {w W:World} {base:Nat} {l:List ByteArray} {v:Value} (h:NRow w base W l v):NmL (fun q=>base≤q) W l v:=.of_own h.own (fun g hg=>(h.own.lt g hg).1)
theorem NRow.app {w W W8:World} {base:Nat} {l r:List ByteArray} {v v':Value} (h:NRow w base W l v) (hb:w.heap.size≤base) (own8:W8.ownsRow base 9 1 v' (l.length+r.length) (l.map Value.string++r.map Value.string)) (hgrow:W.grownBy W8 v.ownBlock):NRow w base W8 (l++r) v':=by
 refine⟨h.kp.via1 (kept_grown1 hgrow) (fun x hx e=>by have:=(h.own.lt x e).1;omega),?_⟩
 rw[List.length_append,List.map_append];exact own8
theorem rwith_any {ok:Nat→Prop} {w:World} {l:List ByteArray} {v:Value} (s:ByteArray) (h:NmL ok w l v) (hn:l.length≤1000000):
  Calls Tryz.prog 114 #[v,.string s] w fun e w'=>∃ v',e=.returned v'∧NRow w w.heap.size w' (l++[s]) v':=by
 obtain⟨i9,hi9,hz9,hs9,hb9⟩:=info_str
 have HI:=Ld hi9
 have HZ:=Ld hz9
 have HS:=Ld hs9
 have HB:=Ld hb9
 obtain⟨a,c,rfl⟩:=h.slice
 have HSRC:=Ld (fun W (k:Kept (fun _=>False) w W)=>(h.frame (sK k)).src)
 have HN:=Ld hn
 clear h hi9 hz9 hs9 hb9 hn
 go_enter Tryz.func114,Tryz.ntmps114
 go_wp2_with (at_builtin;refine wpList_app_src rfl (.tmp 5) (.tmp 6) _ rfl w.heap.size 9 i9 _ 1 16 Tryz.underlying41 HI.out HZ.out HS.out HB.out rfl (by decide) (.slice (some ⟨w.heap.size,0,none⟩) 0 0) 0 [] rfl (World.ownsRow_made w #[] 0 (Nat.le_refl _) (by decide) rfl) (.slice a l.length c) l.length (l.map Value.string) rfl (HSRC.out _ (kR.alloc _)) (by simp) (strs_one l) ?_ ?_ (by simp) ?_)
 ·have:=HN.out;unfold maxLen;omega
 ·have:=HN.out;omega
 intro v1 w1 own1 hg1 hat1
 have R1:Hid (NRow w w.heap.size w1 l v1):=Ld (by
  exact⟨((Kept.refl (fun _=>False) w).alloc (.cells #[] 9)).via1 (kept_grown1 hg1) (fun x hx e=>by have e2:some w.heap.size=some x:=e;have:=Option.some.inj e2;omega),by simpa using own1⟩)
 clear own1 hg1 hat1
 go_wp2_with (at_builtin;refine wpList_app_src rfl (.tmp 7) (.tmp 9) _ rfl w.heap.size 9 i9 _ 1 16 Tryz.underlying41 HI.out HZ.out HS.out HB.out rfl (by decide) v1 l.length (l.map Value.string) rfl (R1.out.own.alloc _) (.slice (some ⟨w1.heap.size,0,none⟩) 1 1) 1 [.string s] rfl (.inr ⟨_,_,rfl,cell_one_new _ _ _⟩) rfl (strs_one [s]) ?_ ?_ ?_ ?_)
 ·have:=HN.out;unfold maxLen;omega
 ·have:=HN.out;omega
 ·have:=R1.out.kp.size;simp;omega
 intro v2 w2 own2 hg2 hat2
 go_wp2_with fail
 go_ret
 refine⟨_,rfl,NRow.app (W:=w1.alloc (.cells #[.string s] 9)) (r:=[s]) ⟨R1.out.kp.alloc _,R1.out.own.alloc _⟩ (Nat.le_refl _) own2 hg2⟩
theorem rletter_any (c:Int) (w:World):
  Calls Tryz.prog 135 #[.int .u8 c] w fun e w'=>e=.returned (.bool (letterB c))∧w=w':=by
 cases h1:decide (97≤c) <;> cases h2:decide (c≤122) <;> cases h3:decide (65≤c) <;> cases h4:decide (c≤90)
 all_goals
  have hk:=Ld (show letterB c=_ by unfold letterB;rw[h1,h2,h3,h4])
  go_enter Tryz.func135,Tryz.ntmps135
  go_wp2_with fail
  go_ret
  exact⟨by rw[hk.out];rfl,rfl⟩
theorem rdigit_any (c:Int) (w:World):
  Calls Tryz.prog 137 #[.int .u8 c] w fun e w'=>e=.returned (.bool (digitB c))∧w=w':=by
 cases h1:decide (48≤c) <;> cases h2:decide (c≤57)
 all_goals
  have hk:=Ld (show digitB c=_ by unfold digitB;rw[h1,h2])
  go_enter Tryz.func137,Tryz.ntmps137
  go_wp2_with fail
  go_ret
  exact⟨by rw[hk.out];rfl,rfl⟩
def inB (s:ByteArray) (l:List ByteArray):Bool:=l.any fun x=>x.toList==s.toList
theorem inB_yes (s:ByteArray) (l:List ByteArray) (k:Nat) (h:k<l.length) (hy:(l[k].toList==s.toList)=true):inB s l=true:=by
 unfold inB;rw[List.any_eq_true];exact⟨l[k],List.getElem_mem h,hy⟩
theorem inB_no (s:ByteArray) (l:List ByteArray) (hno:∀ j (h:j<l.length),(l[j].toList==s.toList)=false):inB s l=false:=by
 unfold inB;rw[List.any_eq_false]
 intro x hx
 obtain⟨j,hj,rfl⟩:=List.getElem_of_mem hx
 rw[hno j hj];simp
theorem rin_any (s:ByteArray) (xs:List ByteArray) (g cap:Nat) (w:World) (hx:∀ i (h:i<xs.length),w.cell? ⟨g,i,none⟩=some (.string xs[i])) (hl:xs.length≤1000):
  Calls Tryz.prog 129 #[.string s,.slice (some ⟨g,0,none⟩) xs.length cap] w fun e w'=>e=.returned (.bool (inB s xs))∧w=w':=by
 have HX:=Ld hx
 clear hx
 go_enter Tryz.func129,Tryz.ntmps129
 go_wp2_with fail
 go_loop [5] (fun i=>∃ k:Nat,k≤xs.length∧i=.int .i64 k∧Hid (∀ j (h:j<k) (h':j<xs.length),(xs[j].toList==s.toList)=false)) (fun i=>xs.length-(intOf i).toNat)
 case atStart=>exact⟨0,Nat.zero_le _,rfl,Ld (fun j h=>by omega)⟩
 case round=>
  obtain⟨k,hk,rfl,hno⟩:=hrel
  by_cases hlt:k<xs.length
  ·have hc:=HX.out k hlt
   have i1:(k:Int)<(xs.length:Int):=by omega
   cases hy:(xs[k].toList==s.toList)
   ·have hno':Hid (∀ j (h:j<k+1) (h':j<xs.length),(xs[j].toList==s.toList)=false):=Ld (fun j h h'=>by
     rcases Nat.lt_succ_iff_lt_or_eq.1 h with h | rfl
     ·exact hno.out j h h'
     ·exact hy)
    go_wp2_with fail
    go_round
    case rel=>exact⟨k+1,by omega,by go_num,hno'⟩
    case measure=>simp[intOf];omega
   ·have hi:=Ld (inB_yes s xs k hlt hy)
    go_wp2_with fail
    go_ret
    exact⟨by rw[hi.out];rfl,rfl⟩
  ·have hi:=Ld (inB_no s xs (fun j h=>hno.out j (by omega) h))
   go_wp2_with fail
   go_ret
   exact⟨by rw[hi.out];rfl,rfl⟩
def kwsB:List ByteArray:=kws.map fun l=>⟨l.toArray⟩
theorem inB_kws (s:ByteArray):inB s kwsB=keywordB s:=by
 unfold inB kwsB keywordB
 rw[List.any_map,List.contains_eq_any_beq]
 congr 1
 funext l
 simp only[Function.comp]
 rw[Go.ByteArray.toList_eq]
 exact Bool.beq_comm
theorem rkeyword_any (s:ByteArray) (w:World):
  Calls Tryz.prog 136 #[.string s] w fun e w'=>e=.returned (.bool (keywordB s))∧w'=w.alloc (.cells (kwsB.map Value.string).toArray 9):=by
 have hx:∀ i (h:i<kwsB.length),(w.alloc (.cells (kwsB.map Value.string).toArray 9)).cell? ⟨w.heap.size,i,none⟩=some (.string kwsB[i]):=by
  intro i h
  have:=(Blk.new w 9 (kwsB.map Value.string)).cell i
  rw[this,List.getElem?_map,List.getElem?_eq_getElem h];rfl
 have HX:=Ld hx
 clear hx
 go_enter Tryz.func136,Tryz.ntmps136
 go_wp2_with fail
 refine (rin_any s kwsB w.heap.size 21 _ HX.out (by decide)).mono ?_
 rintro e w' ⟨rfl,rfl⟩
 rw[inB_kws]
 go_wp2_with fail
 go_ret
 exact⟨rfl,rfl⟩
def KwW (w:World):World:=w.alloc (.cells (kwsB.map Value.string).toArray 9)
theorem rkw_t {s:ByteArray} {v:Bool} (h:keywordB s=v) (w:World):Calls Tryz.prog 136 #[.string s] w fun e w'=>e=.returned (.bool v)∧w'=KwW w:=by
 rw[← h];exact rkeyword_any s w
theorem KwW.kept (w:World):Kept (fun _=>False) w (KwW w):=kR.alloc _
theorem head_in {s:ByteArray} (h:0<s.size) (hl:letterB (s[0].toNat)=true):allW (s.data.toList.take 1)=true:=by
 rw[take_snoc s 0 h,List.take_zero,List.nil_append];simp[allW,inWordB,hl]
theorem rident_any (s:ByteArray) (w:World) (hs:s.size≤9223372036854775807):
  Calls Tryz.prog 83 #[.string s] w fun e w'=>e=.returned (.bool (identB s))∧Kept (fun _=>False) w w':=by
 by_cases h0:0<s.size
 case neg=>
  have h1:(s.size:Int)<1:=by omega
  have hk:=Ld (show identB s=false by unfold identB;rw[decide_eq_false h0];rfl)
  clear h0
  go_enter Tryz.func83,Tryz.ntmps83
  go_wp2_with fail
  go_ret
  exact⟨by rw[hk.out];rfl,Kept.refl _ _⟩
 have h1:decide ((s.size:Int)<1)=false:=by simp;omega
 by_cases h16:s.size≤16
 case neg=>
  have hd:decide (16<(s.size:Int))=true:=by simp;omega
  have hk:=Ld (show identB s=false by unfold identB;rw[decide_eq_false h16];simp)
  clear h16
  go_enter Tryz.func83,Tryz.ntmps83
  go_wp2_with fail
  go_ret
  exact⟨by rw[hk.out];rfl,Kept.refl _ _⟩
 have hd:decide (16<(s.size:Int))=false:=by simp;omega
 have hh:=head_of s h0
 cases hl:letterB (s[0].toNat)
 case false=>
  have hk:=Ld (show identB s=false by unfold identB;rw[hh,hl];simp)
  clear hh
  go_enter Tryz.func83,Tryz.ntmps83
  go_wp2_with (go_at_call 135;refine (rletter_any _ _).mono ?_;rintro e w' ⟨rfl,rfl⟩)
  go_ret
  exact⟨by rw[hk.out];rfl,Kept.refl _ _⟩
 cases hkw:keywordB s
 case true=>
  have hk:=Ld (show identB s=false by unfold identB;rw[hkw];simp)
  have HK:=Ld hkw
  clear hh hkw
  go_enter Tryz.func83,Tryz.ntmps83
  go_wp2_with (go_at_call 135;refine (rletter_any _ _).mono ?_;rintro e w' ⟨rfl,rfl⟩)
  refine (rkw_t HK.out _).mono ?_
  rintro e w' ⟨rfl,rfl⟩
  go_wp2_with fail
  go_ret
  exact⟨by rw[hk.out];rfl,KwW.kept _⟩
 have hk:=Ld (show identB s=allW s.data.toList by unfold identB;rw[hh,hl,hkw,decide_eq_true h0,decide_eq_true h16];simp)
 have HK:=Ld hkw
 have HI:=Ld (head_in h0 hl)
 clear hh hkw
 go_enter Tryz.func83,Tryz.ntmps83
 go_wp2_with (go_at_call 135;refine (rletter_any _ _).mono ?_;rintro e w' ⟨rfl,rfl⟩)
 refine (rkw_t HK.out _).mono ?_
 rintro e w' ⟨rfl,rfl⟩
 have kW:=KwW.kept w
 generalize KwW w=w1 at *
 go_wp2_with fail
 go_loop [3] (fun i=>∃ k:Nat,k≤s.size∧i=.int .i64 k∧Hid (allW (s.data.toList.take k)=true)) (fun i=>s.size-(intOf i).toNat)
 case atStart=>exact⟨1,by omega,rfl,HI⟩
 case round=>
  obtain⟨k,hks,rfl,hall⟩:=hrel
  by_cases hlt:k<s.size
  ·cases a1:letterB s[k].toNat <;> cases a2:digitB s[k].toNat <;> cases a3:((s[k].toNat:Int)==95)
   case false.false.false=>
    have hf:=Ld (allW_false s k hlt (by unfold inWordB;rw[a1,a2,a3];rfl))
    go_wp2_with (first | (go_at_call 135;refine (rletter_any _ _).mono ?_;rintro e w' ⟨rfl,rfl⟩) | (go_at_call 137;refine (rdigit_any _ _).mono ?_;rintro e w' ⟨rfl,rfl⟩))
    go_ret
    exact⟨by rw[hk.out,hf.out];rfl,kW⟩
   all_goals
    have hall':Hid (allW (s.data.toList.take (k+1))=true):=Ld (by rw[take_snoc s k hlt,allW_snoc,hall.out];unfold inWordB;rw[a1,a2,a3];rfl)
    go_wp2_with (first | (go_at_call 135;refine (rletter_any _ _).mono ?_;rintro e w' ⟨rfl,rfl⟩) | (go_at_call 137;refine (rdigit_any _ _).mono ?_;rintro e w' ⟨rfl,rfl⟩))
    go_round
    case rel=>exact⟨k+1,by omega,by go_num,hall'⟩
    case measure=>simp[intOf];omega
  ·have hf:Hid (allW s.data.toList=true):=by
    have h:=hall.out
    rw[List.take_of_length_le (by simp;omega)] at h
    exact Ld h
   go_wp2_with fail
   go_ret
   exact⟨by rw[hk.out,hf.out];rfl,kW⟩
def primB (x:ByteArray):Bool:=if h:1<x.size then ((x[x.size-1].toNat:Int)==39)&&identB (x.extract 0 (x.size-1)) else false
def tyHead (k:Int) (nm:ByteArray) (n:Nat) (within:Bool):Bool:=
 if k=1 then decide (n=0)&&(nm.toList==[])
 else if k=2 then !within&&decide (n=0)&&(nm.toList==[])
 else if k=3 then identB nm&&decide (n=0)
 else if k=4 then decide (n=2)&&(nm.toList==[])
 else if k=5 then decide (n=1)&&(nm.toList==[])
 else false
mutual
def tfS (most deep:Nat):Ty→Nat→Bool→Nat→Bool×Nat
 | .mk k nm l,d,wi,c=>
  match (decide (c+1≤most)&&decide (d≤deep))&&tyHead k nm l.length wi with
  | false=>(false,c+1)
  | true=>tfsS most deep l (d+1) (c+1)
def tfsS (most deep:Nat):List Ty→Nat→Nat→Bool×Nat
 | [],_,c=>(true,c)
 | t::l,d,c=>
  match tfS most deep t d true c with
  | (true,c')=>tfsS most deep l d c'
  | (false,c')=>(false,c')
end
def FPost (m most deep:Nat) (r:Bool×Nat) (w:World) (e:Ending) (w':World):Prop:=e=.returned (.bool r.1)∧Blk w' m 118 (mcells r.2 most deep)∧Kept (·=m) w w'
def TyC (m most deep:Nat) (t:Ty):Prop:=∀ (w:World) (c d:Nat) (wi:Bool) (tk:Value),Blk w m 118 (mcells c most deep)→c≤most→d≤deep+1→TyL (fun k=>k≠m) w t.kids tk →
 Calls Tryz.prog 232 #[.pointer (some ⟨m,0,none⟩),tyVal t tk,.int .i64 d,.bool wi] w (FPost m most deep (tfS most deep t d wi c) w)
theorem tf_le (most deep:Nat):∀ (t:Ty) (d:Nat) (wi:Bool) (c:Nat),c≤most→(tfS most deep t d wi c).1=true→c+1≤(tfS most deep t d wi c).2∧(tfS most deep t d wi c).2≤most:=by
 intro t
 induction t using Ty.rec (motive_2:=fun l=>∀ (d c:Nat),c≤most→(tfsS most deep l d c).1=true→c≤(tfsS most deep l d c).2∧(tfsS most deep l d c).2≤most) with
 | mk k nm l ih=>
  intro d wi c hc h
  rw[tfS] at h ⊢
  cases hb:(decide (c+1≤most)&&decide (d≤deep))&&tyHead k nm l.length wi
  ·rw[hb] at h;cases h
  ·rw[hb] at h
   have:c+1≤most:=by simp at hb;exact hb.1.1
   exact ih _ _ this h
 | nil=>rename_i d c hc h;exact⟨Nat.le_refl _,hc⟩
 | cons t l iht ihl=>
  rename_i d c hc h
  rw[tfsS] at h ⊢
  cases hr:tfS most deep t d true c with
  | mk b c'=>
   cases b
   ·rw[hr] at h;cases h
   ·rw[hr] at h
    have a:=iht d true c hc (by rw[hr])
    rw[hr] at a
    have:=ihl d c' a.2 h
    exact⟨Nat.le_trans (Nat.le_trans (Nat.le_succ _) a.1) this.1,this.2⟩
theorem tf1_any {m most deep d c M D:Nat} {t:Ty} {a:Option Addr} {n cp:Nat} {w:World} (hT:TyC m most deep t) (hb:Blk w m 118 (mcells c most deep)) (hc:c≤most) (hd:d≤deep) (hdp:deep≤1000)
  (hM:w.cell? ⟨M,0,none⟩=some (.pointer (some ⟨m,0,none⟩))) (hD:w.cell? ⟨D,0,none⟩=some (.int .i64 d)) (hk:TyL (fun k=>k≠m) w t.kids (.slice a n cp)):
  Calls Tryz.prog 251 #[tyVal t (.slice a n cp),.pointer (some ⟨M,0,none⟩),.pointer (some ⟨D,0,none⟩)] w (FPost m most deep (!(tfS most deep t (d+1) true c).1,(tfS most deep t (d+1) true c).2) w):=by
 unfold tyVal
 have HT:=Ld hT
 clear hT
 have hb1:=hb.alloc (.cells #[.int .i64 t.kind,.string t.name,.slice a n cp] 26)
 have hk1:=hk.frame (Same.alloc w (.cells #[.int .i64 t.kind,.string t.name,.slice a n cp] 26))
 have lM:=cell_lt hM
 have lD:=cell_lt hD
 have nM:M≠w.heap.size:=by omega
 have nD:D≠w.heap.size:=by omega
 go_enter Tryz.func251,Tryz.ntmps251
 go_wp2_with fail
 refine (HT.out _ c (d+1) true _ hb1 hc (by omega) hk1).mono ?_
 rintro e w' ⟨rfl,h1,h2⟩
 go_wp2_with fail
 go_ret
 exact⟨rfl,h1,(kR.alloc _).trans h2⟩
theorem drop_cons {α:Type} (l:List α) (k:Nat) (h:k<l.length):l.drop k=l[k]::l.drop (k+1):=(List.getElem_cons_drop h).symm
theorem tfs_step {most deep d c:Nat} {l:List Ty} {k:Nat} (h:k<l.length):tfsS most deep (l.drop k) d c=(if (tfS most deep l[k] d true c).1=true then tfsS most deep (l.drop (k+1)) d (tfS most deep l[k] d true c).2 else (false,(tfS most deep l[k] d true c).2)):=by
 rw[drop_cons l k h,tfsS]
 cases tfS most deep l[k] d true c with
 | mk b c'=>cases b <;> rfl
theorem idxTy_any {m most deep d c M D:Nat} {l:List Ty} {a:Option Addr} {n cp:Nat} {w:World} (hT:∀ t,t∈l→TyC m most deep t) (hb:Blk w m 118 (mcells c most deep)) (hc:c≤most) (hmo:most≤100000) (hd:d≤deep) (hdp:deep≤1000) (hMm:M≠m) (hDm:D≠m)
  (hM:w.cell? ⟨M,0,none⟩=some (.pointer (some ⟨m,0,none⟩))) (hD:w.cell? ⟨D,0,none⟩=some (.int .i64 d)) (hk:TyL (fun k=>k≠m) w l (.slice a n cp)):
  Calls Tryz.prog 258 #[.slice a n cp,.func (.func 251) #[] #[.pointer (some ⟨M,0,none⟩),.pointer (some ⟨D,0,none⟩)]] w fun e w'=>∃ i:Int,e=.returned (.int .i64 i)∧decide (0≤i)=!(tfsS most deep l (d+1) c).1∧Blk w' m 118 (mcells (tfsS most deep l (d+1) c).2 most deep)∧Kept (·=m) w w':=by
 have HT:=Ld hT
 clear hT
 have hn:=hk.len
 subst hn
 cases hk with
 | nil he=>
  have hz:Hid (tfsS most deep ([]:List Ty) (d+1) c=(true,c)):=Ld (by rw[tfsS])
  go_enter Tryz.func258,Tryz.ntmps258
  go_wp2_with fail
  go_loop [8] (fun i=>i=.int .i64 0) (fun i=>0)
  case atStart=>rfl
  case round=>
   subst hrel
   go_wp2_with fail
   go_ret
   exact⟨-1,rfl,by rw[hz.out];rfl,by rw[hz.out];exact hb,Kept.refl _ _⟩
 | mk K hne hok hcap hcell hkk=>
  rename_i g off
  have HC:=Ld hcell
  have HK:=Ld hkk
  clear hcell hkk
  have LM:=Ld (cell_lt hM)
  have LD:=Ld (cell_lt hD)
  go_enter Tryz.func258,Tryz.ntmps258
  go_wp2_with fail
  go_loopw [8] (fun i wr=>∃ k ck:Nat,k≤l.length∧i=.int .i64 k∧k≤ck∧ck≤most∧Blk wr m 118 (mcells ck most deep)∧Kept (·=m) w wr∧Hid (tfsS most deep l (d+1) c=tfsS most deep (l.drop k) (d+1) ck)) (fun i _=>l.length-(intOf i).toNat)
  case atStart=>exact⟨0,c,Nat.zero_le _,rfl,Nat.zero_le _,hc,hb,Kept.refl _ _,Ld rfl⟩
  case round=>
   obtain⟨k,ck,hkl,rfl,hkc,hcm,hbr,hkr,heq⟩:=hrel
   by_cases hlt:k<l.length
   ·have c0:=(Same.of_kept (ok:=fun k=>k≠m) hkr (fun k h e=>h e)).cell hok (HC.out k hlt).1
    have c1:=(Same.of_kept (ok:=fun k=>k≠m) hkr (fun k h e=>h e)).cell hok (HC.out k hlt).2.1
    have c2:=(Same.of_kept (ok:=fun k=>k≠m) hkr (fun k h e=>h e)).cell hok (HC.out k hlt).2.2
    have i1:(k:Int)<(l.length:Int):=by omega
    have i2:(k:Int)<1000000:=by omega
    obtain⟨ta,tn,tc,hK⟩:=(HK.out k hlt).slice
    have hkk:=(HK.out k hlt).frame (Same.of_kept (ok:=fun k=>k≠m) hkr (fun k h e=>h e))
    rw[hK] at c2 hkk
    have hM':wr.cell? ⟨M,0,none⟩=some (.pointer (some ⟨m,0,none⟩)):=by rw[hkr.cell (p:=⟨M,0,none⟩) LM.out hMm];exact hM
    have hD':wr.cell? ⟨D,0,none⟩=some (.int .i64 d):=by rw[hkr.cell (p:=⟨D,0,none⟩) LD.out hDm];exact hD
    have hst:=Ld (tfs_step (most:=most) (deep:=deep) (d:=d+1) (c:=ck) hlt)
    have hle:=Ld (tf_le most deep l[k] (d+1) true ck hcm)
    have hcon:=Ld (tf1_any (HT.out _ (List.getElem_mem hlt)) hbr hcm hd hdp hM' hD' hkk)
    clear hkk hM' hD'
    cases hr:(tfS most deep l[k] (d+1) true ck).1
    ·go_wp2_with (go_at_call 251;refine hcon.out.mono ?_;rintro e w' ⟨rfl,h1,h2⟩)
     go_ret
     have q:=heq.out.trans hst.out
     rw[hr,if_neg (by simp)] at q
     exact⟨k,rfl,by rw[q];simp,by rw[q];exact h1,hkr.trans h2⟩
    ·go_wp2_with (go_at_call 251;refine hcon.out.mono ?_;rintro e w' ⟨rfl,h1,h2⟩)
     go_roundw
     case rel=>
      have q:=heq.out.trans hst.out
      rw[hr,if_pos rfl] at q
      have z:=hle.out hr
      exact⟨k+1,_,by omega,by go_num,by omega,z.2,h1,hkr.trans h2,Ld q⟩
     case measure=>simp[intOf];omega
   ·have hz:Hid (tfsS most deep l (d+1) c=(true,ck)):=Ld (by rw[heq.out,List.drop_eq_nil_of_le (by omega),tfsS])
    go_wp2_with fail
    go_ret
    exact⟨-1,rfl,by rw[hz.out];rfl,by rw[hz.out];exact hbr,hkr⟩
theorem contTy_any {m most deep d c M D:Nat} {l:List Ty} {a:Option Addr} {n cp:Nat} {w:World} (hT:∀ t,t∈l→TyC m most deep t) (hb:Blk w m 118 (mcells c most deep)) (hc:c≤most) (hmo:most≤100000) (hd:d≤deep) (hdp:deep≤1000) (hMm:M≠m) (hDm:D≠m)
  (hM:w.cell? ⟨M,0,none⟩=some (.pointer (some ⟨m,0,none⟩))) (hD:w.cell? ⟨D,0,none⟩=some (.int .i64 d)) (hk:TyL (fun k=>k≠m) w l (.slice a n cp)):
  Calls Tryz.prog 250 #[.slice a n cp,.func (.func 251) #[] #[.pointer (some ⟨M,0,none⟩),.pointer (some ⟨D,0,none⟩)]] w fun e w'=>e=.returned (.bool (!(tfsS most deep l (d+1) c).1))∧Blk w' m 118 (mcells (tfsS most deep l (d+1) c).2 most deep)∧Kept (·=m) w w':=by
 have hcon:=Ld (idxTy_any hT hb hc hmo hd hdp hMm hDm hM hD hk)
 clear hT hM hD hk
 go_enter Tryz.func250,Tryz.ntmps250
 go_wp2_with fail
 refine hcon.out.mono ?_
 rintro e w' ⟨i,rfl,hi,h1,h2⟩
 go_wp2_with fail
 go_ret
 exact⟨rfl,h1,h2⟩
theorem tf_eq (most deep:Nat) (k:Int) (nm:ByteArray) (l:List Ty) (d:Nat) (wi:Bool) (c:Nat):tfS most deep (.mk k nm l) d wi c=if ((decide (c+1≤most)&&decide (d≤deep))&&tyHead k nm l.length wi)=true then tfsS most deep l (d+1) (c+1) else (false,c+1):=by
 rw[tfS]
 cases (decide (c+1≤most)&&decide (d≤deep))&&tyHead k nm l.length wi <;> rfl
theorem ident_t' {t:ByteArray} {v:Bool} (h:identB t=v) (ht:t.size≤9223372036854775807) (w:World):Calls Tryz.prog 132 #[.string t] w fun e w'=>e=.returned (.bool v)∧w=w':=(ident_any t w ht).mono fun _ _ q=>⟨by rw[← h];exact q.1,q.2⟩
theorem typeFits_one {m most deep:Nat} {k:Int} {nm:ByteArray} {l:List Ty} (hmo:most≤100000) (hdp:deep≤1000) (hsz:nm.size≤9223372036854775807) (IH:∀ t,t∈l→TyC m most deep t):TyC m most deep (.mk k nm l):=by
 intro w c d wi tk hb hc hd hk
 obtain⟨a,n,cp,rfl⟩:=hk.slice
 have hn:=hk.len
 unfold tyVal
 have hk':TyL (fun k=>k≠m) w l (.slice a n cp):=hk
 clear hk
 simp only[Ty.kind,Ty.name,Ty.kids] at hn ⊢
 have HIH:=Ld IH
 clear IH
 have hml:=hb.lt
 have HQ:=Ld (tf_eq most deep k nm l d wi c)
 have HN:=Ld hn
 clear hn
 have hb3:=((hb.alloc (.cells #[.pointer (some ⟨m,0,none⟩)] 171)).alloc (.cells #[.int .i64 k,.string nm,.slice a n cp] 26)).alloc (.cells #[.int .i64 d] 3)
 have K3:Kept (·=m) w (((w.alloc (.cells #[.pointer (some ⟨m,0,none⟩)] 171)).alloc (.cells #[.int .i64 k,.string nm,.slice a n cp] 26)).alloc (.cells #[.int .i64 d] 3)):=((kR.alloc _).alloc _).alloc _
 have b0:Blk (((w.alloc (.cells #[.pointer (some ⟨m,0,none⟩)] 171)).alloc (.cells #[.int .i64 k,.string nm,.slice a n cp] 26)).alloc (.cells #[.int .i64 d] 3)) w.heap.size 171 [.pointer (some ⟨m,0,none⟩)]:=((Blk.new w 171 _).alloc _).alloc _
 have b1:Blk (((w.alloc (.cells #[.pointer (some ⟨m,0,none⟩)] 171)).alloc (.cells #[.int .i64 k,.string nm,.slice a n cp] 26)).alloc (.cells #[.int .i64 d] 3)) (w.heap.size+1) 26 [.int .i64 k,.string nm,.slice a n cp]:=(Blk.new' 26 _ (by simp)).alloc _
 have b2:Blk (((w.alloc (.cells #[.pointer (some ⟨m,0,none⟩)] 171)).alloc (.cells #[.int .i64 k,.string nm,.slice a n cp] 26)).alloc (.cells #[.int .i64 d] 3)) (w.heap.size+2) 3 [.int .i64 d]:=Blk.new' 3 _ (by simp)
 cases hv:(decide (c+1≤most)&&decide (d≤deep))
 ·have hq:Hid (tfS most deep (.mk k nm l) d wi c=(false,c+1)):=Ld (by rw[HQ.out,hv];rfl)
  go_enter Tryz.func232,Tryz.ntmps232
  go_wp2_with fail
  refine (enter_any hb3 (by omega) hv).mono ?_
  rintro e W ⟨rfl,hbW,hkW⟩
  go_wp2_with fail
  go_ret
  exact⟨by rw[hq.out];rfl,by rw[hq.out];exact hbW,K3.trans hkW⟩
 have hd1:d≤deep:=by simp at hv;exact hv.2
 have hc1:c+1≤most:=by simp at hv;exact hv.1
 have HD1:=Ld hd1
 have HC1:=Ld hc1
 clear hd1 hc1
 go_enter Tryz.func232,Tryz.ntmps232
 go_wp2_with fail
 refine (enter_any hb3 (by omega) hv).mono ?_
 rintro e W ⟨rfl,hbW,hkW⟩
 have p0:W.cell? ⟨w.heap.size,0,none⟩=some (.pointer (some ⟨m,0,none⟩)):=(b0.kept hkW (by show ¬ w.heap.size=m;omega)).cell 0
 have g0:W.cell? ⟨w.heap.size+1,0,none⟩=some (.int .i64 k):=(b1.kept hkW (by show ¬ w.heap.size+1=m;omega)).cell 0
 have g1:W.cell? ⟨w.heap.size+1,1,none⟩=some (.string nm):=(b1.kept hkW (by show ¬ w.heap.size+1=m;omega)).cell 1
 have g2:W.cell? ⟨w.heap.size+1,2,none⟩=some (.slice a n cp):=(b1.kept hkW (by show ¬ w.heap.size+1=m;omega)).cell 2
 have dd:W.cell? ⟨w.heap.size+2,0,none⟩=some (.int .i64 d):=(b2.kept hkW (by show ¬ w.heap.size+2=m;omega)).cell 0
 have KW:=K3.trans hkW
 have hkl:TyL (fun k=>k≠m) W l (.slice a n cp):=hk'.frame (Same.of_kept KW (fun k h e=>h e))
 have HCON:Hid (tyHead k nm n wi=true→Calls Tryz.prog 250 #[.slice a n cp,.func (.func 251) #[] #[.pointer (some ⟨w.heap.size,0,none⟩),.pointer (some ⟨w.heap.size+2,0,none⟩)]] W fun e w'=>e=.returned (.bool (!(tfS most deep (.mk k nm l) d wi c).1))∧Blk w' m 118 (mcells (tfS most deep (.mk k nm l) d wi c).2 most deep)∧Kept (·=m) w w'):=Ld (by
  intro hB
  rw[HQ.out,hv,← HN.out,hB]
  exact (contTy_any HIH.out hbW HC1.out hmo HD1.out hdp (by omega) (by omega) p0 dd hkl).mono fun e w' ⟨q1,q2,q3⟩=>⟨q1,q2,KW.trans q3⟩)
 have HNO:Hid (tyHead k nm n wi=false→tfS most deep (.mk k nm l) d wi c=(false,c+1)):=Ld (by intro hB;rw[HQ.out,hv,← HN.out,hB];rfl)
 clear hkl hv
 by_cases k1:k=1
 ·subst k1
  by_cases hl:n=0
  ·subst hl
   cases he:(nm.toList==[])
   ·have hq:=HNO.out (by unfold tyHead;simp[*])
    have HQ2:=Ld hq
    clear hq
    go_wp2_with fail
    go_ret
    exact⟨by rw[HQ2.out];rfl,by rw[HQ2.out];exact hbW,KW⟩
   ·have hq:=HCON.out (by unfold tyHead;simp[*])
    have HQ2:=Ld hq
    clear hq
    go_wp2_with fail
    refine HQ2.out.mono ?_
    rintro e w' ⟨rfl,h1,h2⟩
    go_wp2_with fail
    go_ret
    exact⟨by simp,h1,h2⟩
  ·have hl':decide ((n:Int)=0)=false:=by simp;omega
   have hl2:((n:Int)==0)=false:=by simp;omega
   have hq:=HNO.out (by unfold tyHead;simp[hl])
   have HQ2:=Ld hq
   clear hq
   go_wp2_with fail
   go_ret
   exact⟨by rw[HQ2.out];rfl,by rw[HQ2.out];exact hbW,KW⟩
 by_cases k2:k=2
 ·subst k2
  cases wi
  case true=>
   have hq:=HNO.out (by unfold tyHead;simp)
   have HQ2:=Ld hq
   clear hq
   go_wp2_with fail
   go_ret
   exact⟨by rw[HQ2.out];rfl,by rw[HQ2.out];exact hbW,KW⟩
  by_cases hl:n=0
  ·subst hl
   cases he:(nm.toList==[])
   ·have hq:=HNO.out (by unfold tyHead;simp[*])
    have HQ2:=Ld hq
    clear hq
    go_wp2_with fail
    go_ret
    exact⟨by rw[HQ2.out];rfl,by rw[HQ2.out];exact hbW,KW⟩
   ·have hq:=HCON.out (by unfold tyHead;simp[*])
    have HQ2:=Ld hq
    clear hq
    go_wp2_with fail
    refine HQ2.out.mono ?_
    rintro e w' ⟨rfl,h1,h2⟩
    go_wp2_with fail
    go_ret
    exact⟨by simp,h1,h2⟩
  ·have hl':decide ((n:Int)=0)=false:=by simp;omega
   have hl2:((n:Int)==0)=false:=by simp;omega
   have hq:=HNO.out (by unfold tyHead;simp[hl])
   have HQ2:=Ld hq
   clear hq
   go_wp2_with fail
   go_ret
   exact⟨by rw[HQ2.out];rfl,by rw[HQ2.out];exact hbW,KW⟩
 by_cases k3:k=3
 ·subst k3
  cases hi:identB nm
  case false=>
   have hq:=HNO.out (by unfold tyHead;simp[hi])
   have HQ2:=Ld hq
   clear hq
   go_wp2_with (go_at_call 132;refine cR (ident_t' hi hsz _) ?_)
   go_ret
   exact⟨by rw[HQ2.out];rfl,by rw[HQ2.out];exact hbW,KW⟩
  by_cases hl:n=0
  ·subst hl
   have hq:=HCON.out (by unfold tyHead;simp[*])
   have HQ2:=Ld hq
   clear hq
   go_wp2_with (go_at_call 132;refine cR (ident_t' hi hsz _) ?_)
   refine HQ2.out.mono ?_
   rintro e w' ⟨rfl,h1,h2⟩
   go_wp2_with fail
   go_ret
   exact⟨by simp,h1,h2⟩
  ·have hl':decide ((n:Int)=0)=false:=by simp;omega
   have hl2:((n:Int)==0)=false:=by simp;omega
   have hq:=HNO.out (by unfold tyHead;simp[hl])
   have HQ2:=Ld hq
   clear hq
   go_wp2_with (go_at_call 132;refine cR (ident_t' hi hsz _) ?_)
   go_ret
   exact⟨by rw[HQ2.out];rfl,by rw[HQ2.out];exact hbW,KW⟩
 by_cases k4:k=4
 ·subst k4
  by_cases hl:n=2
  ·subst hl
   cases he:(nm.toList==[])
   ·have hq:=HNO.out (by unfold tyHead;simp[*])
    have HQ2:=Ld hq
    clear hq
    go_wp2_with fail
    go_ret
    exact⟨by rw[HQ2.out];rfl,by rw[HQ2.out];exact hbW,KW⟩
   ·have hq:=HCON.out (by unfold tyHead;simp[*])
    have HQ2:=Ld hq
    clear hq
    go_wp2_with fail
    refine HQ2.out.mono ?_
    rintro e w' ⟨rfl,h1,h2⟩
    go_wp2_with fail
    go_ret
    exact⟨by simp,h1,h2⟩
  ·have hl':decide ((n:Int)=2)=false:=by simp;omega
   have hl2:((n:Int)==2)=false:=by simp;omega
   have hq:=HNO.out (by unfold tyHead;simp[hl])
   have HQ2:=Ld hq
   clear hq
   go_wp2_with fail
   go_ret
   exact⟨by rw[HQ2.out];rfl,by rw[HQ2.out];exact hbW,KW⟩
 by_cases k5:k=5
 ·subst k5
  by_cases hl:n=1
  ·subst hl
   cases he:(nm.toList==[])
   ·have hq:=HNO.out (by unfold tyHead;simp[*])
    have HQ2:=Ld hq
    clear hq
    go_wp2_with fail
    go_ret
    exact⟨by rw[HQ2.out];rfl,by rw[HQ2.out];exact hbW,KW⟩
   ·have hq:=HCON.out (by unfold tyHead;simp[*])
    have HQ2:=Ld hq
    clear hq
    go_wp2_with fail
    refine HQ2.out.mono ?_
    rintro e w' ⟨rfl,h1,h2⟩
    go_wp2_with fail
    go_ret
    exact⟨by simp,h1,h2⟩
  ·have hl':decide ((n:Int)=1)=false:=by simp;omega
   have hl2:((n:Int)==1)=false:=by simp;omega
   have hq:=HNO.out (by unfold tyHead;simp[hl])
   have HQ2:=Ld hq
   clear hq
   go_wp2_with fail
   go_ret
   exact⟨by rw[HQ2.out];rfl,by rw[HQ2.out];exact hbW,KW⟩
 have q1:(k==1)=false:=beq_false_of_ne k1
 have q2:(k==2)=false:=beq_false_of_ne k2
 have q3:(k==3)=false:=beq_false_of_ne k3
 have q4:(k==4)=false:=beq_false_of_ne k4
 have q5:(k==5)=false:=beq_false_of_ne k5
 have hq:=HNO.out (by unfold tyHead;simp[k1,k2,k3,k4,k5])
 have HQ2:=Ld hq
 clear hq k1 k2 k3 k4 k5
 go_wp2_with fail
 go_ret
 exact⟨by rw[HQ2.out];rfl,by rw[HQ2.out];exact hbW,KW⟩
end Go.Proofs.YtfhedienjnfdcaaGreatDoor
