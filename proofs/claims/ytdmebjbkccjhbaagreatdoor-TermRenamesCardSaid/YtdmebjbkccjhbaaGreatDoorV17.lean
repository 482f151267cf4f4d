/- A part. -/
import Derived.Test.YtdmebjbkccjhbaaGreatDoorV16
set_option linter.unusedVariables false
set_option linter.unusedSimpArgs false
set_option maxRecDepth 100000
set_option maxHeartbeats 32000000
namespace Go.Proofs.YtdmebjbkccjhbaaGreatDoor
open Go.RowKit
variable {bz:Nat}
theorem KRow.keptL {W W':World} {base g:Nat} {l:List Tm} (h:KRow bz W base g l) {S:Nat→Prop} (k:Kept S W W') (h1:¬ S g) (h2:∀ q,base≤q→q≠g→q<W.heap.size→¬ S q):KRow bz W' base g l:=by
 obtain⟨L,K,M,bG,hL,hR⟩:=h.row
 refine⟨⟨L,K,M,bG.kept k h1,hL,fun i hi=>?_⟩⟩
 obtain⟨e0,e1,e2,e3,e4,e5,e6,e7,e8⟩:=hR i hi
 exact⟨e0,e1,e2,e3,e4,e5,e6,e7.frame (fun q hq hl=>k.block q hl (h2 q hq.1 hq.2 hl)),e8.frame (fun q hq hl=>k.block q hl (h2 q hq.1 hq.2 hl))⟩
theorem KRow.lt {W:World} {base g:Nat} {l:List Tm} (h:KRow bz W base g l):g<W.heap.size:=by
 obtain⟨L,K,M,bG,_⟩:=h.row;exact bG.lt
theorem KRow.fz {W:World} {base g:Nat} {l:List Tm} (h:KRow bz W base g l) (i:Nat):W.frozen? ⟨g,i,none⟩=false:=by
 obtain⟨L,K,M,bG,_⟩:=h.row;exact bG.frozen i
theorem KRow.at {W:World} {base g:Nat} {l:List Tm} (h:KRow bz W base g l) (i:Nat) (hi:i<l.length):∃ ta tn tc ma mn mc,C7 W g (i*7) l[i] (.slice ta tn tc) (.slice ma mn mc)∧TyL bz (fun q=>base≤q∧q≠g) W l[i].ty.kids (.slice ta tn tc)∧TmL bz (fun q=>base≤q∧q≠g) W l[i].kids (.slice ma mn mc):=by
 obtain⟨L,K,M,bG,hL,hR⟩:=h.row
 obtain⟨e0,e1,e2,e3,e4,e5,e6,e7,e8⟩:=hR i hi
 obtain⟨ta,tn,tc,hK⟩:=e7.slice
 obtain⟨ma,mn,mc,hM⟩:=e8.slice
 rw[hK] at e5 e7
 rw[hM] at e6 e8
 exact⟨ta,tn,tc,ma,mn,mc,⟨by rw[bG.cell];exact e0,by rw[bG.cell];exact e1,by rw[bG.cell];exact e2,by rw[bG.cell];exact e3,by rw[bG.cell];exact e4,by rw[bG.cell];exact e5,by rw[bG.cell];exact e6⟩,e7,e8⟩
theorem rcopy_row {t:Tm} (hb:BdTm t) {w:World} {ok:Nat→Prop} {tk kk:Value} (h:TyL bz ok w t.ty.kids tk) (h':TmL bz ok w t.kids kk):Calls Tryz.prog 26 #[tmVal t tk kk] w fun e w'=>∃ va vn vc a c g,e=.returned (tmVal t (.slice va vn vc) (.slice a t.kids.length c))∧TyL bz (fun q=>w.heap.size≤q∧(t.kids≠[]→q≠g)) w' t.ty.kids (.slice va vn vc)∧(t.kids=[]→empty0 (.slice a t.kids.length c))∧(t.kids≠[]→a=some ⟨g,0,none⟩∧w.heap.size≤g∧g<w'.heap.size∧t.kids.length≤c∧KRow bz w' w.heap.size g t.kids)∧Kept (fun _=>False) w w':=by
 by_cases hne:t.kids=[]
 ·refine (rcopy_any hb w ok tk kk h h').mono ?_
  rintro e w' ⟨v,E,k,rfl,h1,h2,h3⟩
  have h4:=h2.tml
  rw[h3] at h4
  obtain⟨va,vn,vc,rfl⟩:=h1.slice
  obtain⟨a,n,c,rfl⟩:=h4.slice
  obtain rfl:n=t.kids.length:=h4.len
  refine⟨va,vn,vc,a,c,0,rfl,h1.mono (fun q _ h=>⟨h.1,fun e=>absurd hne e⟩),fun _=>?_,fun h=>absurd hne h,h2.kp⟩
  rw[hne] at h4 ⊢
  cases h4 with
  | nil h=>exact h
  | mk K M hne=>exact absurd rfl hne
 ·refine (rcopy_kids hb hne h h').mono ?_
  rintro e w' ⟨v,g,c,rfl,hc,hg,h1,hr,k⟩
  obtain⟨va,vn,vc,rfl⟩:=h1.slice
  exact⟨va,vn,vc,_,c,g,rfl,h1.mono (fun q _ h=>⟨h.1,fun _=>h.2⟩),fun e=>absurd e hne,fun _=>⟨rfl,hg,hr.lt,hc,hr⟩,k⟩
def rlM (x y:ByteArray) (l:List Tm) (j:Nat):List Tm:=(l.take j).map (rdT x y)++l.drop j
theorem rlM_len {x y:ByteArray} {l:List Tm} {j:Nat}:(rlM x y l j).length=l.length:=by unfold rlM;simp;omega
theorem rlM_at {x y:ByteArray} {l:List Tm} {j:Nat} (h:j<l.length) (h':j<(rlM x y l j).length):(rlM x y l j)[j]=l[j]:=by
 have h1:(rlM x y l j)[j]?=some l[j]:=by
  unfold rlM
  rw[List.getElem?_append_right (by simp;omega),List.length_map,List.length_take,Nat.min_eq_left (Nat.le_of_lt h),Nat.sub_self,List.getElem?_drop,Nat.add_zero,List.getElem?_eq_getElem h]
 rw[List.getElem?_eq_getElem h'] at h1
 exact Option.some.inj h1
theorem rlM_set {x y:ByteArray} {l:List Tm} {j:Nat} (h:j<l.length):(rlM x y l j).set j (rdT x y l[j])=rlM x y l (j+1):=by
 unfold rlM
 rw[List.take_succ_eq_append_getElem h,List.map_append,List.drop_eq_getElem_cons h,List.set_append_right _ _ (by simp;omega)]
 have e:j-((l.take j).map (rdT x y)).length=0:=by simp;omega
 rw[e,List.set_cons_zero,List.append_assoc]
 rfl
theorem rlM_zero {x y:ByteArray} {l:List Tm}:rlM x y l 0=l:=by unfold rlM;simp
theorem rlM_all {x y:ByteArray} {l:List Tm}:rlM x y l l.length=rdTs x y l:=by unfold rlM;rw[rdTs_map];simp
theorem rdTs_len (x y:ByteArray) (l:List Tm):(rdTs x y l).length=l.length:=by rw[rdTs_map,List.length_map]
def RnMC (bz:Nat) (x y:ByteArray) (t:Tm):Prop:=∀ (w:World) (ok:Nat→Prop) (tk kk:Value),TyL bz ok w t.ty.kids tk→TmL bz ok w t.kids kk →
 Calls Tryz.prog 62 #[tmVal t tk kk,.string x,.string y] w fun e w'=>∃ v u,e=.returned (tmVal (rdT x y t) v u)∧TyL bz (fun q=>w.heap.size≤q) w' (rdT x y t).ty.kids v∧TmL bz (fun q=>w.heap.size≤q) w' (rdTs x y t.kids) u∧Kept (fun _=>False) w w'
structure RnJ (bz:Nat) (w:World) (op:Int) (nm:ByteArray) (N:Int) (ty:Ty) (tv:Value) (x y:ByteArray) (l:List Tm) (a:Option Addr) (c g O j:Nat) (wr:World):Prop where
 kp:Kept (fun _=>False) w wr
 r:Blk wr (w.heap.size+1) 27 z27
 o:Blk wr O 27 [Value.int .i64 op,.string nm,.int .i64 N,.int .i64 ty.kind,.string ty.name,tv,.slice a l.length c]
 ob:w.heap.size+2≤O
 ol:l=[]→empty0 (.slice a l.length c)
 ty:TyL bz (fun q=>w.heap.size+2≤q∧(l≠[]→q≠g)) wr ty.kids tv
 row:l≠[]→a=some ⟨g,0,none⟩∧w.heap.size+2≤g∧g≠O∧l.length≤c∧KRow bz wr (w.heap.size+2) g (rlM x y l j)
theorem RnJ.kept {w wr W:World} {op:Int} {nm:ByteArray} {N:Int} {ty:Ty} {tv:Value} {x y:ByteArray} {l:List Tm} {a:Option Addr} {c g O j:Nat} (h:RnJ bz w op nm N ty tv x y l a c g O j wr) (k:Kept (fun _=>False) wr W):RnJ bz w op nm N ty tv x y l a c g O j W:=
 ⟨h.kp.trans k,h.r.kept k (fun e=>e),h.o.kept k (fun e=>e),h.ob,h.ol,h.ty.frame (sK k),fun hne=>by
  obtain⟨h1,h2,h3,h4,h5⟩:=h.row hne
  exact⟨h1,h2,h3,h4,h5.kept k (fun e=>e) (fun _ _ _ e=>e)⟩⟩
theorem RnJ.step {w wr W:World} {op:Int} {nm:ByteArray} {N:Int} {ty:Ty} {tv:Value} {x y:ByteArray} {l:List Tm} {a:Option Addr} {c g O j:Nat} {v u:Value} (h:RnJ bz w op nm N ty tv x y l a c g O j wr) (hj:j<l.length) (k:Kept (fun _=>False) wr W) (hv:TyL bz (fun q=>wr.heap.size≤q) W (rdT x y l[j]).ty.kids v) (hu:TmL bz (fun q=>wr.heap.size≤q) W (rdT x y l[j]).kids u):
  RnJ bz w op nm N ty tv x y l a c g O (j+1) (((((((W.setCell ⟨g,j*7,none⟩ (.int .i64 (rdT x y l[j]).op)).setCell ⟨g,j*7+1,none⟩ (.string (rdT x y l[j]).name)).setCell ⟨g,j*7+2,none⟩ (.int .i64 (rdT x y l[j]).n)).setCell ⟨g,j*7+3,none⟩ (.int .i64 (rdT x y l[j]).ty.kind)).setCell ⟨g,j*7+4,none⟩ (.string (rdT x y l[j]).ty.name)).setCell ⟨g,j*7+5,none⟩ v).setCell ⟨g,j*7+6,none⟩ u):=by
 have hne:l≠[]:=fun e=>by subst e;simp at hj
 have h0:=h.kept k
 obtain⟨h1,h2,h3,h4,h5⟩:=h0.row hne
 have hgl:g<wr.heap.size:=(h.row hne).2.2.2.2.lt
 have kS:Kept (·=g) W (((((((W.setCell ⟨g,j*7,none⟩ (.int .i64 (rdT x y l[j]).op)).setCell ⟨g,j*7+1,none⟩ (.string (rdT x y l[j]).name)).setCell ⟨g,j*7+2,none⟩ (.int .i64 (rdT x y l[j]).n)).setCell ⟨g,j*7+3,none⟩ (.int .i64 (rdT x y l[j]).ty.kind)).setCell ⟨g,j*7+4,none⟩ (.string (rdT x y l[j]).ty.name)).setCell ⟨g,j*7+5,none⟩ v).setCell ⟨g,j*7+6,none⟩ u):=(((((((Kept.refl (fun x=>x=g) _).setCell (p:=⟨g,j*7,none⟩) (Or.inl rfl) _).setCell (p:=⟨g,j*7+1,none⟩) (Or.inl rfl) _).setCell (p:=⟨g,j*7+2,none⟩) (Or.inl rfl) _).setCell (p:=⟨g,j*7+3,none⟩) (Or.inl rfl) _).setCell (p:=⟨g,j*7+4,none⟩) (Or.inl rfl) _).setCell (p:=⟨g,j*7+5,none⟩) (Or.inl rfl) _).setCell (p:=⟨g,j*7+6,none⟩) (Or.inl rfl) _
 have hz:w.heap.size+2≤wr.heap.size:=by have:=h.o.lt;have:=h.ob;omega
 refine⟨h0.kp.via1 kS (fun q hq e=>by have e':q=g:=e;omega),h0.r.kept kS (by show ¬ w.heap.size+1=g;omega),h0.o.kept kS (by show ¬ O=g;omega),h.ob,fun e=>absurd e hne,h0.ty.frame (Same.of_kept kS (fun q hq e=>hq.2 hne e)),fun _=>⟨h1,h2,h3,h4,?_⟩⟩
 have hp:=h5.put (j:=j) (u:=rdT x y l[j]) (v:=v) (x:=u) (by rw[rlM_len];exact hj) (hv.mono (fun q _ hq=>⟨by omega,by omega⟩)) (hu.mono (fun q _ hq=>⟨by omega,by omega⟩))
 rw[rlM_set hj] at hp
 exact hp
theorem rnm_one {x y:ByteArray} {op:Int} {nm:ByteArray} {N:Int} {ty:Ty} {l:List Tm} (hb:BdTm (.mk op nm N ty l)) (hbt:BdTy ty) (IH:∀ t,t∈l→RnMC bz x y t):RnMC bz x y (.mk op nm N ty l):=by
 intro w ok tk kk h1 h2
 obtain⟨p0,n0,c0,rfl⟩:=h1.slice
 obtain⟨a0,nn,m0,rfl⟩:=h2.slice
 have hn:nn=l.length:=h2.len
 subst hn
 have HIH:=Ld IH
 have HRY:=Ld (rny_any (bz:=bz) (x:=x) (y:=y) hbt)
 have HN1:Hid (l.length≤1000000):=Ld (by cases hb;assumption)
 change Calls Tryz.prog 62 #[.agg #[.int .i64 op,.string nm,.int .i64 N,.int .i64 ty.kind,.string ty.name,.slice p0 n0 c0,.slice a0 l.length m0],.string x,.string y] w _
 have K0:Kept (fun _=>False) w ((w.alloc (.cells #[.int .i64 op,.string nm,.int .i64 N,.int .i64 ty.kind,.string ty.name,.slice p0 n0 c0,.slice a0 l.length m0] 27)).alloc Z7):=(kR.alloc _).alloc _
 have HC:Hid (Calls Tryz.prog 26 #[.agg #[.int .i64 op,.string nm,.int .i64 N,.int .i64 ty.kind,.string ty.name,.slice p0 n0 c0,.slice a0 l.length m0]] ((w.alloc (.cells #[.int .i64 op,.string nm,.int .i64 N,.int .i64 ty.kind,.string ty.name,.slice p0 n0 c0,.slice a0 l.length m0] 27)).alloc Z7) fun e w'=>∃ va vn vc a c g,e=.returned (.agg #[.int .i64 op,.string nm,.int .i64 N,.int .i64 ty.kind,.string ty.name,.slice va vn vc,.slice a l.length c])∧TyL bz (fun q=>((w.alloc (.cells #[.int .i64 op,.string nm,.int .i64 N,.int .i64 ty.kind,.string ty.name,.slice p0 n0 c0,.slice a0 l.length m0] 27)).alloc Z7).heap.size≤q∧(l≠[]→q≠g)) w' ty.kids (.slice va vn vc)∧(l=[]→empty0 (.slice a l.length c))∧(l≠[]→a=some ⟨g,0,none⟩∧((w.alloc (.cells #[.int .i64 op,.string nm,.int .i64 N,.int .i64 ty.kind,.string ty.name,.slice p0 n0 c0,.slice a0 l.length m0] 27)).alloc Z7).heap.size≤g∧g<w'.heap.size∧l.length≤c∧KRow bz w' ((w.alloc (.cells #[.int .i64 op,.string nm,.int .i64 N,.int .i64 ty.kind,.string ty.name,.slice p0 n0 c0,.slice a0 l.length m0] 27)).alloc Z7).heap.size g l)∧Kept (fun _=>False) ((w.alloc (.cells #[.int .i64 op,.string nm,.int .i64 N,.int .i64 ty.kind,.string ty.name,.slice p0 n0 c0,.slice a0 l.length m0] 27)).alloc Z7) w'):=Ld (rcopy_row (t:=.mk op nm N ty l) hb (h1.frame (sK K0)) (h2.frame (sK K0)))
 have BR:Hid (Blk ((w.alloc (.cells #[.int .i64 op,.string nm,.int .i64 N,.int .i64 ty.kind,.string ty.name,.slice p0 n0 c0,.slice a0 l.length m0] 27)).alloc Z7) (w.heap.size+1) 27 z27):=Ld (Blk.new' 27 _ (by simp))
 have BA:Hid (Blk ((w.alloc (.cells #[.int .i64 op,.string nm,.int .i64 N,.int .i64 ty.kind,.string ty.name,.slice p0 n0 c0,.slice a0 l.length m0] 27)).alloc Z7) w.heap.size 27 [Value.int .i64 op,.string nm,.int .i64 N,.int .i64 ty.kind,.string ty.name,.slice p0 n0 c0,.slice a0 l.length m0]):=Ld ((Blk.new w 27 _).alloc _)
 have Z1:Hid (((w.alloc (.cells #[.int .i64 op,.string nm,.int .i64 N,.int .i64 ty.kind,.string ty.name,.slice p0 n0 c0,.slice a0 l.length m0] 27)).alloc Z7).heap.size=w.heap.size+2):=Ld (by simp)
 have HK:=Ld K0
 have HRD:Hid (rdT x y (.mk op nm N ty l)=.mk op nm N (if op=29 then rnY x y ty else ty) (rdTs x y l)):=Ld (by rw[rdT])
 clear h1 h2 IH K0 hb hbt
 go_enter Tryz.func62,Tryz.ntmps62
 go_wp2_with fail
 generalize ((w.alloc (.cells #[.int .i64 op,.string nm,.int .i64 N,.int .i64 ty.kind,.string ty.name,.slice p0 n0 c0,.slice a0 l.length m0] 27)).alloc Z7)=w1 at *
 refine HC.out.mono ?_
 rintro e w2 ⟨va,vn,vc,a,c,g,rfl,hty,hol,hrow,k2⟩
 rw[Z1.out] at hrow hty
 have HROW:=Ld hrow
 have HTY:=Ld hty
 have HOL:=Ld hol
 have K2:=Ld (HK.out.trans k2)
 have BR2:=Ld (BR.out.kept k2 (fun e=>e))
 have Z2:Hid (w.heap.size+2≤w2.heap.size):=Ld (by have:=k2.size;have:=Z1.out;omega)
 clear hty hol hrow k2 HC BA BR HK Z1
 go_upto_region 2 with (fail)
 have KO:Kept (fun _=>False) w2 (w2.alloc (.cells #[.int .i64 op,.string nm,.int .i64 N,.int .i64 ty.kind,.string ty.name,.slice va vn vc,.slice a l.length c] 27)):=kR.alloc _
 have BO:Hid (Blk (w2.alloc (.cells #[.int .i64 op,.string nm,.int .i64 N,.int .i64 ty.kind,.string ty.name,.slice va vn vc,.slice a l.length c] 27)) w2.heap.size 27 [Value.int .i64 op,.string nm,.int .i64 N,.int .i64 ty.kind,.string ty.name,.slice va vn vc,.slice a l.length c]):=Ld (Blk.new w2 27 _)
 have K3:=Ld (K2.out.trans KO)
 have BR3:=Ld (BR2.out.kept KO (fun e=>e))
 have HGO:Hid (l≠[]→g<(w2.alloc (.cells #[.int .i64 op,.string nm,.int .i64 N,.int .i64 ty.kind,.string ty.name,.slice va vn vc,.slice a l.length c] 27)).heap.size):=Ld (fun h=>by have:=(HROW.out h).2.2.1;have:=KO.size;omega)
 have HTY3:=Ld (HTY.out.frame (sK KO))
 have HTY2:Hid (∀ W,Kept (·=w2.heap.size) (w2.alloc (.cells #[.int .i64 op,.string nm,.int .i64 N,.int .i64 ty.kind,.string ty.name,.slice va vn vc,.slice a l.length c] 27)) W→TyL bz (fun q=>w.heap.size+2≤q∧(l≠[]→q≠g)) W ty.kids (.slice va vn vc)):=Ld (fun W k=>by
  have k4:Kept (·=w2.heap.size) w2 W:=by
   have k5:Kept (·=w2.heap.size) w2 (w2.alloc (.cells #[.int .i64 op,.string nm,.int .i64 N,.int .i64 ty.kind,.string ty.name,.slice va vn vc,.slice a l.length c] 27)):=kR.alloc _
   exact k5.trans k
  exact HTY.out.frame (fun q hq hl=>k4.block q hl (by show ¬ q=_;omega)))
 have HROW2:Hid (∀ W,Kept (·=w2.heap.size) (w2.alloc (.cells #[.int .i64 op,.string nm,.int .i64 N,.int .i64 ty.kind,.string ty.name,.slice va vn vc,.slice a l.length c] 27)) W→l≠[]→a=some ⟨g,0,none⟩∧w.heap.size+2≤g∧g<w2.heap.size∧l.length≤c∧KRow bz W (w.heap.size+2) g l):=Ld (fun W k h=>by
  obtain⟨h1,h2,h3,h4,h5⟩:=HROW.out h
  have k4:Kept (·=w2.heap.size) w2 W:=by
   have k5:Kept (·=w2.heap.size) w2 (w2.alloc (.cells #[.int .i64 op,.string nm,.int .i64 N,.int .i64 ty.kind,.string ty.name,.slice va vn vc,.slice a l.length c] 27)):=kR.alloc _
   exact k5.trans k
  exact⟨h1,h2,h3,h4,h5.keptL k4 (by show ¬ g=_;omega) (fun q _ _ hq=>by show ¬ q=_;omega)⟩)
 have ZO:Hid (w2.heap.size<(w2.alloc (.cells #[.int .i64 op,.string nm,.int .i64 N,.int .i64 ty.kind,.string ty.name,.slice va vn vc,.slice a l.length c] 27)).heap.size∧w.heap.size+2≤(w2.alloc (.cells #[.int .i64 op,.string nm,.int .i64 N,.int .i64 ty.kind,.string ty.name,.slice va vn vc,.slice a l.length c] 27)).heap.size):=Ld ⟨by simp,by have:=Z2.out;have:=KO.size;omega⟩
 clear KO HROW HTY K2 BR2
 generalize (w2.alloc (.cells #[.int .i64 op,.string nm,.int .i64 N,.int .i64 ty.kind,.string ty.name,.slice va vn vc,.slice a l.length c] 27))=w3 at *
 generalize w2.heap.size=O at *
 obtain⟨db,hdb⟩:∃ db,db=decide (op=29):=⟨_,rfl⟩
 have HDB:=Ld hdb
 clear hdb
 go_cut [13] (fun v wc=>v=.bool db∧wc=w3)
 case first=>
  have gO:∀ i,w3.cell? ⟨O,i,none⟩=[Value.int .i64 op,.string nm,.int .i64 N,.int .i64 ty.kind,.string ty.name,.slice va vn vc,.slice a l.length c][i]?:=BO.out.cell
  have he:(op==29)=db:=by rw[HDB.out];rw[Bool.eq_iff_iff];simp
  go_wp2_with fail
  go_meet
  case rel=>exact⟨by first | rfl | (rw[he]) | (rw[HDB.out]),rfl⟩
 case rest=>
  obtain⟨rfl,hwc⟩:=hcut
  subst hwc
  generalize wc=v3 at *
  generalize hrn:(if op=29 then rnY x y ty else ty)=tz at *
  have HR:=Ld hrn
  clear hrn
  go_upto_if 13 with (fail)
  go_cut [13,15] (fun _ _ wd=>∃ za zn zc,Kept (·=O) v3 wd∧Blk wd O 27 [Value.int .i64 op,.string nm,.int .i64 N,.int .i64 tz.kind,.string tz.name,.slice za zn zc,.slice a l.length c]∧TyL bz (fun q=>w.heap.size+2≤q∧(l≠[]→q≠g)) wd tz.kids (.slice za zn zc))
  case first=>
   have gO:∀ i,v3.cell? ⟨O,i,none⟩=[Value.int .i64 op,.string nm,.int .i64 N,.int .i64 ty.kind,.string ty.name,.slice va vn vc,.slice a l.length c][i]?:=BO.out.cell
   by_cases hb:op=29
   ·have hd:db=true:=HDB.out.trans (decide_eq_true hb)
    have hr:tz=rnY x y ty:=by rw[← HR.out,if_pos hb]
    have HC:=Ld (HRY.out v3 _ _ HTY3.out)
    have hrk:(rnY x y ty).kids=rnYs x y ty.kids:=by cases ty;rfl
    subst hd
    have HRK:=Ld hrk
    have HRT:=Ld hr
    clear hb HDB hr hrk
    unfold tyVal at HC
    go_wp2_with fail
    clear gO
    refine HC.out.mono ?_
    rintro e w5 ⟨v,rfl,hv,k5⟩
    obtain⟨za,zn,zc,rfl⟩:=hv.slice
    have HV:=Ld hv
    have K5:=Ld k5
    have B5:=Ld (BO.out.kept k5 (fun e=>e))
    clear hv k5 HC
    have gO:∀ i,w5.cell? ⟨O,i,none⟩=[Value.int .i64 op,.string nm,.int .i64 N,.int .i64 ty.kind,.string ty.name,.slice va vn vc,.slice a l.length c][i]?:=B5.out.cell
    have fO:∀ i,w5.frozen? ⟨O,i,none⟩=false:=B5.out.frozen
    go_wp2_with fail
    go_meet
    case rel=>
     refine⟨za,zn,zc,?_,?_,?_⟩
     ·have q:Kept (·=O) v3 w5:=⟨K5.out.os,K5.out.tape,K5.out.output,K5.out.size,fun q hq _=>K5.out.block q hq (fun e=>e)⟩
      exact (((q.setCell (p:=⟨O,3,none⟩) (Or.inl rfl) _).setCell (p:=⟨O,4,none⟩) (Or.inl rfl) _).setCell (p:=⟨O,5,none⟩) (Or.inl rfl) _)
     ·rw[HRT.out];exact ((B5.out.set 3 _).set 4 _).set 5 _
     ·rw[HRT.out,HRK.out]
      have hO:=ZO.out
      exact (HV.out.frame (set3 (fun q hq=>by omega))).mono (fun q _ hq=>⟨by omega,fun hne=>by have:=HGO.out hne;omega⟩)
   ·have hd:db=false:=HDB.out.trans (decide_eq_false hb)
    have hr:tz=ty:=by rw[← HR.out,if_neg hb]
    subst hd
    have HRT:=Ld hr
    clear hb HDB hr
    go_wp2_with fail
    go_meet
    case rel=>exact⟨va,vn,vc,Kept.refl _ _,by rw[HRT.out];exact BO.out,by rw[HRT.out];exact HTY3.out⟩
  case rest=>
   obtain⟨za,zn,zc,hk4,hb4,ht4⟩:=hcut
   have I0:Hid (RnJ bz w op nm N tz (.slice za zn zc) x y l a c g O 0 wc):=Ld (by
    have hO:w.heap.size+2≤O:=Z2.out
    refine⟨K3.out.via1 hk4 (fun q hq e=>by have e':q=O:=e;omega),BR3.out.kept hk4 (by show ¬ w.heap.size+1=O;omega),hb4,hO,HOL.out,ht4,fun hne=>?_⟩
    obtain⟨h1,h2,h3,h4,h5⟩:=HROW2.out wc hk4 hne
    exact⟨h1,h2,by omega,h4,by rw[rlM_zero];exact h5⟩)
   clear hk4 hb4 ht4 HROW2 HTY2 HTY3 K3 BR3 BO HOL Z2 HRY HGO ZO HDB
   generalize wc=w4 at *
   go_wp2_with fail
   go_loopw [8] (fun i wr=>∃ j:Nat,j≤l.length∧i=.int .i64 j∧Hid (RnJ bz w op nm N tz (.slice za zn zc) x y l a c g O j wr)) (fun i _=>l.length-(intOf i).toNat)
   case atStart=>exact⟨0,Nat.zero_le _,rfl,I0⟩
   case round=>
    clear I0
    obtain⟨j,hj,rfl,HI⟩:=hrel
    have gO:∀ i,wr.cell? ⟨O,i,none⟩=[Value.int .i64 op,.string nm,.int .i64 N,.int .i64 tz.kind,.string tz.name,.slice za zn zc,.slice a l.length c][i]?:=HI.out.o.cell
    by_cases hlt:j<l.length
    ·have i1:(j:Int)<(l.length:Int):=by omega
     have i2:(j:Int)<1000000:=by have:=HN1.out;omega
     have hne:l≠[]:=fun e=>by subst e;simp at hlt
     obtain⟨ha,hg2,hgO,hlc,hrow⟩:=HI.out.row hne
     subst ha
     have HGL:Hid (g<wr.heap.size):=Ld hrow.lt
     have HAT:=Ld (fun W (k:Kept (fun _=>False) wr W)=>(hrow.kept k (fun e=>e) (fun _ _ _ e=>e)).at j (by rw[rlM_len];exact hlt))
     rw[rlM_at hlt] at HAT
     obtain⟨ta,tn,tc,ma,mn,mc,C,hty,htm⟩:=HAT.out wr kR
     have HC7:=Ld C
     have HJ:=Ld (fun W (k:Kept (fun _=>False) wr W)=>HIH.out _ (List.getElem_mem hlt) W _ _ _ (hty.frame (sK k)) (htm.frame (sK k)))
     unfold tmVal at HJ
     have HRK:Hid ((rdT x y l[j]).kids=rdTs x y l[j].kids):=Ld (by cases l[j];rfl)
     clear hrow hty htm hne HAT C
     go_upto_region 7 with (fail)
     have KD:Kept (fun _=>False) wr wr.drew:=kR.drew
     refine wp_region_mono (L:=Kept (fun _=>False)) (fun i v W=>match i with
      | 0=>v=.pointer (some ⟨O,6,none⟩)
      | 1=>v=.slice (some ⟨g,0,none⟩) l.length c
      | 2=>v=.int .i64 (j:Nat)
      | 3=>v=.pointer (some ⟨O,6,none⟩)
      | 4=>v=.slice (some ⟨g,0,none⟩) l.length c
      | 5=>v=.int .i64 (j:Nat)
      | 6=>v=.pointer (some ⟨g,j*7,none⟩)
      | 7=>v=.agg #[.int .i64 l[j].op,.string l[j].name,.int .i64 l[j].n,.int .i64 l[j].ty.kind,.string l[j].ty.name,.slice ta tn tc,.slice ma mn mc]
      | 8=>v=.string x
      | 9=>v=.string y
      | 10=>∃ x1 x2 x3 y1 y2 y3,v=.agg #[.int .i64 (rdT x y l[j]).op,.string (rdT x y l[j]).name,.int .i64 (rdT x y l[j]).n,.int .i64 (rdT x y l[j]).ty.kind,.string (rdT x y l[j]).ty.name,.slice x1 x2 x3,.slice y1 y2 y3]∧TyL bz (fun q=>wr.heap.size≤q) W (rdT x y l[j]).ty.kids (.slice x1 x2 x3)∧TmL bz (fun q=>wr.heap.size≤q) W (rdTs x y l[j].kids) (.slice y1 y2 y3)
      | _=>True) [11,12] [] 40 (by kernel_rfl) rfl (by kernel_rfl) (by kernel_rfl) (fun w=>Kept.refl _ w) (fun _ _ _ h1 h2=>h1.trans h2) (fun c d v a w h=>by cases d <;> exact h) ?_ ?_
     ·refine allM_cons rfl (stepM_of [] rfl fun W k=>allV_nil ?_) ?_
      ·refine opW_go rfl fun K hK=>?_
       go_simp
       exact hK _ _ (KT.mk kR rfl 27 rfl rfl)
      refine allM_cons rfl (stepM_of [0] rfl fun W k=>allV_some 27 rfl fun v0 h0=>allV_nil ?_) ?_
      ·obtain⟨w1,k1,rfl⟩:=h0
       have q:=KD.trans k
       have gX:∀ i,W.cell? ⟨O,i,none⟩=[Value.int .i64 op,.string nm,.int .i64 N,.int .i64 tz.kind,.string tz.name,.slice za zn zc,.slice (some ⟨g,0,none⟩) l.length c][i]?:=(HI.out.o.kept q (fun h=>h)).cell
       refine opW_go rfl fun K hK=>?_
       go_simp
       exact hK _ _ (KT.mk kR rfl 28 rfl rfl)
      refine allM_cons rfl (stepM_of [] rfl fun W k=>allV_nil ?_) ?_
      ·refine opW_go rfl fun K hK=>?_
       go_simp
       exact hK _ _ (KT.mk kR rfl 29 rfl rfl)
      refine allM_cons rfl (stepM_of [] rfl fun W k=>allV_nil ?_) ?_
      ·refine opW_go rfl fun K hK=>?_
       go_simp
       exact hK _ _ (KT.mk kR rfl 30 rfl rfl)
      refine allM_cons rfl (stepM_of [3] rfl fun W k=>allV_some 30 rfl fun v0 h0=>allV_nil ?_) ?_
      ·obtain⟨w1,k1,rfl⟩:=h0
       have q:=KD.trans k
       have gX:∀ i,W.cell? ⟨O,i,none⟩=[Value.int .i64 op,.string nm,.int .i64 N,.int .i64 tz.kind,.string tz.name,.slice za zn zc,.slice (some ⟨g,0,none⟩) l.length c][i]?:=(HI.out.o.kept q (fun h=>h)).cell
       refine opW_go rfl fun K hK=>?_
       go_simp
       exact hK _ _ (KT.mk kR rfl 31 rfl rfl)
      refine allM_cons rfl (stepM_of [] rfl fun W k=>allV_nil ?_) ?_
      ·refine opW_go rfl fun K hK=>?_
       go_simp
       exact hK _ _ (KT.mk kR rfl 32 rfl rfl)
      refine allM_cons rfl (stepM_of [4,5] rfl fun W k=>allV_some 31 rfl fun v0 h0=>allV_some 32 rfl fun v1 h1=>allV_nil ?_) ?_
      ·obtain⟨w1,k1,rfl⟩:=h0
       obtain⟨w2,k2,rfl⟩:=h1
       refine opW_go rfl fun K hK=>?_
       go_simp
       exact hK _ _ (KT.mk kR rfl 33 rfl rfl)
      refine allM_cons rfl (stepM_of [6] rfl fun W k=>allV_some 33 rfl fun v0 h0=>allV_nil ?_) ?_
      ·obtain⟨w1,k1,rfl⟩:=h0
       have q:=KD.trans k
       obtain⟨y0,y1,y2,y3,y4,y5,y6⟩:=C7.kept HC7.out q (fun h=>h)
       refine opW_go rfl fun K hK=>?_
       go_simp
       exact hK _ _ (KT.mk kR rfl 34 rfl rfl)
      refine allM_cons rfl (stepM_of [] rfl fun W k=>allV_nil ?_) ?_
      ·refine opW_go rfl fun K hK=>?_
       go_simp
       exact hK _ _ (KT.mk kR rfl 35 rfl rfl)
      refine allM_cons rfl (stepM_of [] rfl fun W k=>allV_nil ?_) ?_
      ·refine opW_go rfl fun K hK=>?_
       go_simp
       exact hK _ _ (KT.mk kR rfl 36 rfl rfl)
      refine allM_cons rfl (stepM_of [7,8,9] rfl fun W k=>allV_some 34 rfl fun v0 h0=>allV_some 35 rfl fun v1 h1=>allV_some 36 rfl fun v2 h2=>allV_nil ?_) ?_
      ·obtain⟨w1,k1,rfl⟩:=h0
       obtain⟨w2,k2,rfl⟩:=h1
       obtain⟨w3,k3,rfl⟩:=h2
       refine opW_go rfl fun K hK=>?_
       go_simp
       go_at_call 62
       refine (HJ.out W (KD.trans k)).mono ?_
       rintro e w' ⟨tk,kk,rfl,h5,h6,k'⟩
       obtain⟨x1,x2,x3,rfl⟩:=h5.slice
       obtain⟨y1,y2,y3,rfl⟩:=h6.slice
       exact hK _ _ (KT.mk k' rfl 37 rfl ⟨x1,x2,x3,y1,y2,y3,rfl,h5.mono (fun q _ hq=>by have:=(KD.trans k).size;omega),h6.mono (fun q _ hq=>by have:=(KD.trans k).size;omega)⟩)
      refine allM_tail rfl ?_
      refine allM_tail rfl ?_
      exact allM_nil
     ·intro W kW
      have hh:(List.range 13).filter (fun i=>!([11,12]:List Nat).contains i)=[0,1,2,3,4,5,6,7,8,9,10]:=by decide
      change allV _ _ _ _ _ ((List.range 13).filter (fun i=>!([11,12]:List Nat).contains i)) _
      rw[hh]
      generalize hKK:(fun a1=>wpList Tryz.prog _ _ (pickT [11,12] 0 _) a1 W)=KK
      refine allV_some 27 (by kernel_rfl) ?_
      intro v0 h0
      refine allV_some 28 (by kernel_rfl) ?_
      intro v1 h1
      refine allV_some 29 (by kernel_rfl) ?_
      intro v2 h2
      refine allV_some 30 (by kernel_rfl) ?_
      intro v3 h3
      refine allV_some 31 (by kernel_rfl) ?_
      intro v4 h4
      refine allV_some 32 (by kernel_rfl) ?_
      intro v5 h5
      refine allV_some 33 (by kernel_rfl) ?_
      intro v6 h6
      refine allV_some 34 (by kernel_rfl) ?_
      intro v7 h7
      refine allV_some 35 (by kernel_rfl) ?_
      intro v8 h8
      refine allV_some 36 (by kernel_rfl) ?_
      intro v9 h9
      refine allV_some 37 (by kernel_rfl) ?_
      intro v10 h10
      refine allV_nil ?_
      obtain⟨w0,k0,rfl⟩:=h0
      obtain⟨w1,k1,rfl⟩:=h1
      obtain⟨w2,k2,rfl⟩:=h2
      obtain⟨w3,k3,rfl⟩:=h3
      obtain⟨w4,k4,rfl⟩:=h4
      obtain⟨w5,k5,rfl⟩:=h5
      obtain⟨w6,k6,rfl⟩:=h6
      obtain⟨w7,k7,rfl⟩:=h7
      obtain⟨w8,k8,rfl⟩:=h8
      obtain⟨w9,k9,rfl⟩:=h9
      obtain⟨w10,k10,x1,x2,x3,y1,y2,y3,rfl,hq,hr⟩:=h10
      subst hKK
      have KW:Kept (fun _=>False) wr W:=KD.trans kW
      have HS:=Ld (HI.out.step hlt KW (v:=.slice x1 x2 x3) (u:=.slice y1 y2 y3) (hq.frame (sK k10)) (by rw[HRK.out];exact hr.frame (sK k10)))
      have BG:=Ld (((HI.out.kept KW).row (fun e=>by subst e;simp at hlt)).2.2.2.2)
      have fg:Hid (∀ i,W.frozen? ⟨g,i,none⟩=false):=Ld BG.out.fz
      obtain⟨e0,e1,e2,e3,e4,e5,e6⟩:=C7.kept HC7.out KW (fun h=>h)
      have f0:=fg.out (j*7)
      have f1:=fg.out (j*7+1)
      have f2:=fg.out (j*7+2)
      have f3:=fg.out (j*7+3)
      have f4:=fg.out (j*7+4)
      have f5:=fg.out (j*7+5)
      have f6:=fg.out (j*7+6)
      clear hq hr k0 k1 k2 k3 k4 k5 k6 k7 k8 k9 k10 hh HJ HC7 BG fg HI
      show wpList Tryz.prog _ _ [_,_] _ W
      simp only[Act.put,List.setIfInBounds_toArray,List.set_cons_succ,List.set_cons_zero]
      go_wp2_with fail
      go_roundw
      case rel=>exact⟨j+1,by omega,by go_num,HS⟩
      case measure=>simp[intOf];omega
    ·obtain rfl:j=l.length:=by omega
     have i1:¬ (l.length:Int)<(l.length:Int):=by omega
     have gR:∀ i,wr.cell? ⟨w.heap.size+1,i,none⟩=[Value.int .i64 0,.string ⟨#[]⟩,.int .i64 0,.int .i64 0,.string ⟨#[]⟩,.slice none 0 0,.slice none 0 0][i]?:=HI.out.r.cell
     have fR:∀ i,wr.frozen? ⟨w.heap.size+1,i,none⟩=false:=HI.out.r.frozen
     clear hlt
     go_wp2_with fail
     have bF:=r7 (x0:=.int .i64 op) (x1:=.string nm) (x2:=.int .i64 N) (x3:=.int .i64 tz.kind) (x4:=.string tz.name) (x5:=.slice za zn zc) (x6:=.slice a l.length c) HI.out.r rfl
     have HLEN:(rdTs x y l).length=l.length:=rdTs_len x y l
     refine bodyPost_ret (results_one Tryz.results62 rfl (load_tm (t:=.mk op nm N tz (rdTs x y l)) bF)) rfl ⟨_,_,by rw[HRD.out],?_,?_,?_⟩
     ·rw[HRD.out]
      exact (HI.out.ty.frame (set7 (fun q h=>by omega))).mono (fun q _ h=>by omega)
     ·show TmL bz _ _ (rdTs x y l) _
      by_cases hne:l=[]
      ·have:=HI.out.ol hne
       subst hne
       exact .nil this
      ·obtain⟨ha,hg2,hgO,hlc,hrow⟩:=HI.out.row hne
       rw[rlM_all] at hrow
       subst ha
       have ht:=hrow.tml (c:=c) hg2 (by rw[HLEN];exact hlc)
       rw[HLEN] at ht
       exact (ht.frame (set7 (fun q h=>by omega))).mono (fun q _ h=>by omega)
     ·exact k7w HI.out.kp (Or.inr (by omega))
theorem rnm_any {x y:ByteArray} {t:Tm} (hb:BdTm t):RnMC bz x y t:=by
 induction hb with
 | mk hn ht hl ih=>exact rnm_one (.mk hn ht hl) ht ih
def rnN (x y:ByteArray) (k:Int) (nm:ByteArray):ByteArray:=if k=3∧nm=x then y else nm
def Part (x y:ByteArray) (k:Int) (n m:ByteArray):Prop:=m=n∨m=rnN x y k n
def Full (x y:ByteArray) (k:Int) (n m:ByteArray):Prop:=m=rnN x y k n
theorem full_stay {x y n:ByteArray} (h:Full x y 3 n x):Full x y 3 n y:=by
 unfold Full rnN at *
 by_cases e:n=x
 ·rw[if_pos ⟨rfl,e⟩]
 ·rw[if_neg (fun q=>e q.2)] at h
  exact absurd h.symm e
theorem part_stay {x y n:ByteArray} (h:Part x y 3 n x):Part x y 3 n y:=by
 rcases h with h | h
 ·right;unfold rnN;rw[if_pos ⟨rfl,h.symm⟩]
 ·exact Or.inr (full_stay h)
theorem part_rn {x y n m:ByteArray} {k:Int} (h:Part x y k n m):(if k=3∧m=x then y else m)=rnN x y k n:=by
 rcases h with rfl | h
 ·rfl
 ·by_cases e:k=3∧m=x
  ·obtain⟨rfl,rfl⟩:=e
   rw[if_pos ⟨rfl,rfl⟩]
   exact full_stay h
  ·rw[if_neg e];exact h
theorem part_turn {x y n m:ByteArray} {k:Int} (h:Part x y k n m):rnN x y k n=m∨(k=3∧m=x∧rnN x y k n=y):=by
 rcases h with rfl | h
 ·unfold rnN
  by_cases e:k=3∧m=x
  ·rw[if_pos e];exact Or.inr ⟨e.1,e.2,rfl⟩
  ·rw[if_neg e];exact Or.inl rfl
 ·exact Or.inl h.symm
def posY (T c:Nat):Prop:=(T=24∧c % 3=1)∨(T=27∧c % 7=4)
def RL (x y:ByteArray) (T:Nat) (L L':List Value):Prop:=L'.length=L.length∧∀ c,L'[c]?=L[c]?∨(posY T c∧L[c]?=some (.string x)∧L'[c]?=some (.string y)∧L[c-1]?=some (.int .i64 3))
theorem RL.refl {x y:ByteArray} {T:Nat} {L:List Value}:RL x y T L L:=⟨rfl,fun _=>Or.inl rfl⟩
theorem RL.trans {x y:ByteArray} {T:Nat} {L L' L2:List Value} (h:RL x y T L L') (h2:RL x y T L' L2):RL x y T L L2:=by
 refine⟨h2.1.trans h.1,fun c=>?_⟩
 rcases h2.2 c with e | ⟨p,e1,e2,e3⟩
 ·rw[e];exact h.2 c
 ·right
  have e4:L[c-1]?=some (.int .i64 3):=by
   rcases h.2 (c-1) with q | ⟨_,_,q,_⟩
   ·rw[← q];exact e3
   ·rw[q] at e3;cases e3
  rcases h.2 c with q | ⟨_,q,_,_⟩
  ·rw[q] at e1;exact⟨p,e1,e2,e4⟩
  ·exact⟨p,q,e2,e4⟩
def RwB (x y:ByteArray) (ok:Nat→Prop) (W W':World):Prop:=∀ b T L,ok b→Blk W b T L→∃ L',Blk W' b T L'∧RL x y T L L'
theorem RwB.of_kept {x y:ByteArray} {ok S:Nat→Prop} {W W':World} (k:Kept S W W') (h:∀ q,ok q→¬ S q):RwB x y ok W W':=fun b T L hb hL=>⟨L,hL.kept k (h b hb),RL.refl⟩
structure Rw (x y:ByteArray) (ok:Nat→Prop) (W W':World):Prop where
 kp:Kept ok W W'
 bl:RwB x y ok W W'
theorem Rw.refl {x y:ByteArray} {ok:Nat→Prop} {W:World}:Rw x y ok W W:=⟨Kept.refl _ _,fun b T L _ h=>⟨L,h,RL.refl⟩⟩
theorem Rw.trans {x y:ByteArray} {ok:Nat→Prop} {W W' W2:World} (h:Rw x y ok W W') (h2:Rw x y ok W' W2):Rw x y ok W W2:=
 ⟨h.kp.trans h2.kp,fun b T L hb hL=>by
  obtain⟨L',h3,h4⟩:=h.bl b T L hb hL
  obtain⟨L2,h5,h6⟩:=h2.bl b T L' hb h3
  exact⟨L2,h5,h4.trans h6⟩⟩
theorem Rw.via {x y:ByteArray} {ok S:Nat→Prop} {W W' W2:World} (h:Rw x y ok W W') (k:Kept S W' W2) (hS:∀ q,q<W.heap.size→¬ S q):Rw x y ok W W2:=
 ⟨h.kp.via1 k (fun q hq e=>absurd e (hS q hq)),fun b T L hb hL=>by
  obtain⟨L',h3,h4⟩:=h.bl b T L hb hL
  exact⟨L',h3.kept k (hS b hL.lt),h4⟩⟩
theorem Rw.of_kept {x y:ByteArray} {ok:Nat→Prop} {W W':World} (k:Kept (fun _=>False) W W'):Rw x y ok W W':=Rw.refl.via k (fun _ _ e=>e)
theorem Rw.out {x y:ByteArray} {ok:Nat→Prop} {W W':World} (h:Rw x y ok W W') {b T:Nat} {L:List Value} (hb:Blk W b T L) (hn:¬ ok b):Blk W' b T L:=hb.kept h.kp hn
inductive PyL (P:Int→ByteArray→ByteArray→Prop) (ok:Nat→Prop) (w:World):List Ty→Value→Prop
 | nil {v:Value} (h:empty0 v):PyL P ok w [] v
 | mk {l:List Ty} {b cap:Nat} (K:Nat→Value) (L:List Value) (hne:l≠[]) (hb:ok b) (hc:l.length≤cap) (hL:Blk w b 24 L) (hl:l.length*3≤L.length)
   (hcell:∀ i (h:i<l.length),L[i*3]?=some (.int .i64 l[i].kind)∧(∃ m,L[i*3+1]?=some (.string m)∧P l[i].kind l[i].name m)∧L[i*3+2]?=some (K i))
   (hk:∀ i (h:i<l.length),PyL P ok w l[i].kids (K i)):PyL P ok w l (.slice (some ⟨b,0,none⟩) l.length cap)
inductive PmL (P:Int→ByteArray→ByteArray→Prop) (ok:Nat→Prop) (w:World):List Tm→Value→Prop
 | nil {v:Value} (h:empty0 v):PmL P ok w [] v
 | mk {l:List Tm} {b cap:Nat} (K M:Nat→Value) (L:List Value) (hne:l≠[]) (hb:ok b) (hc:l.length≤cap) (hL:Blk w b 27 L) (hl:l.length*7≤L.length)
   (hcell:∀ i (h:i<l.length),L[i*7]?=some (.int .i64 l[i].op)∧L[i*7+1]?=some (.string l[i].name)∧L[i*7+2]?=some (.int .i64 l[i].n)∧L[i*7+3]?=some (.int .i64 l[i].ty.kind)∧(∃ m,L[i*7+4]?=some (.string m)∧P l[i].ty.kind l[i].ty.name m)∧L[i*7+5]?=some (K i)∧L[i*7+6]?=some (M i))
   (hk:∀ i (h:i<l.length),PyL P ok w l[i].ty.kids (K i)) (hm:∀ i (h:i<l.length),PmL P ok w l[i].kids (M i)):PmL P ok w l (.slice (some ⟨b,0,none⟩) l.length cap)
theorem RL.keep {x y:ByteArray} {T:Nat} {L L':List Value} (h:RL x y T L L') {c:Nat} {v:Value} (hc:L[c]?=some v) (hp:¬ posY T c):L'[c]?=some v:=by
 rcases h.2 c with e | ⟨p,_⟩
 ·rw[e];exact hc
 ·exact absurd p hp
theorem RL.name {x y:ByteArray} {T:Nat} {L L':List Value} (h:RL x y T L L') {P:Int→ByteArray→ByteArray→Prop} (hP:∀ n,P 3 n x→P 3 n y) {c:Nat} {k:Int} {n:ByteArray} (hk:L[c]?=some (.int .i64 k)) (hc:∃ m,L[c+1]?=some (.string m)∧P k n m):∃ m,L'[c+1]?=some (.string m)∧P k n m:=by
 obtain⟨m,e,p⟩:=hc
 rcases h.2 (c+1) with q | ⟨_,q1,q2,q3⟩
 ·exact⟨m,by rw[q];exact e,p⟩
 ·rw[Nat.add_sub_cancel,hk] at q3
  have e1:k=3:=by injection q3 with q3;injection q3
  rw[e] at q1
  have e2:m=x:=by injection q1 with q1;injection q1
  subst e1 e2
  exact⟨y,q2,hP n p⟩
theorem PyL.frame {x y:ByteArray} {P:Int→ByteArray→ByteArray→Prop} {ok:Nat→Prop} {W W':World} (hP:∀ n,P 3 n x→P 3 n y) (h:RwB x y ok W W') {l:List Ty} {v:Value} (p:PyL P ok W l v):PyL P ok W' l v:=by
 induction p with
 | nil h=>exact .nil h
 | mk K L hne hb hc hL hl hcell hk ih=>
  obtain⟨L',hL',hr⟩:=h _ _ _ hb hL
  refine .mk K L' hne hb hc hL' (by rw[hr.1];exact hl) (fun i hi=>?_) ih
  obtain⟨c0,c1,c2⟩:=hcell i hi
  exact⟨hr.keep c0 (by unfold posY;omega),hr.name hP c0 c1,hr.keep c2 (by unfold posY;omega)⟩
theorem PmL.frame {x y:ByteArray} {P:Int→ByteArray→ByteArray→Prop} {ok:Nat→Prop} {W W':World} (hP:∀ n,P 3 n x→P 3 n y) (h:RwB x y ok W W') {l:List Tm} {v:Value} (p:PmL P ok W l v):PmL P ok W' l v:=by
 induction p with
 | nil h=>exact .nil h
 | mk K M L hne hb hc hL hl hcell hk hm ih=>
  obtain⟨L',hL',hr⟩:=h _ _ _ hb hL
  refine .mk K M L' hne hb hc hL' (by rw[hr.1];exact hl) (fun i hi=>?_) (fun i hi=>(hk i hi).frame hP h) ih
  obtain⟨c0,c1,c2,c3,c4,c5,c6⟩:=hcell i hi
  exact⟨hr.keep c0 (by unfold posY;omega),hr.keep c1 (by unfold posY;omega),hr.keep c2 (by unfold posY;omega),hr.keep c3 (by unfold posY;omega),hr.name hP c3 c4,hr.keep c5 (by unfold posY;omega),hr.keep c6 (by unfold posY;omega)⟩
theorem TyL.part {x y:ByteArray} {ok:Nat→Prop} {w:World} (ho:∀ q,ok q→bz≤q) {l:List Ty} {v:Value} (h:TyL bz ok w l v):PyL (Part x y) ok w l v:=by
 induction h with
 | nil h=>exact .nil h
 | mk K hne hb hc hcell hk hs ih=>
  obtain⟨rfl,L,hL,hl⟩:=hs (ho _ hb)
  refine .mk K L hne hb hc hL hl (fun i hi=>?_) ih
  obtain⟨c0,c1,c2⟩:=hcell i hi
  rw[Nat.zero_add,hL.cell] at c0 c1 c2
  exact⟨c0,⟨_,c1,Or.inl rfl⟩,c2⟩
theorem TmL.part {x y:ByteArray} {ok:Nat→Prop} {w:World} (ho:∀ q,ok q→bz≤q) {l:List Tm} {v:Value} (h:TmL bz ok w l v):PmL (Part x y) ok w l v:=by
 induction h with
 | nil h=>exact .nil h
 | mk K M hne hb hc hcell hk hm hs ih=>
  obtain⟨rfl,L,hL,hl⟩:=hs (ho _ hb)
  refine .mk K M L hne hb hc hL hl (fun i hi=>?_) (fun i hi=>(hk i hi).part ho) ih
  obtain⟨c0,c1,c2,c3,c4,c5,c6⟩:=hcell i hi
  rw[Nat.zero_add,hL.cell] at c0 c1 c2 c3 c4 c5 c6
  exact⟨c0,c1,c2,c3,⟨_,c4,Or.inl rfl⟩,c5,c6⟩
theorem rnY_parts (x y:ByteArray) (t:Ty):(rnY x y t).kind=t.kind∧(rnY x y t).name=rnN x y t.kind t.name∧(rnY x y t).kids=rnYs x y t.kids:=by cases t;exact⟨rfl,rfl,rfl⟩
theorem rnT_parts (x y:ByteArray) (t:Tm):(rnT x y t).op=t.op∧(rnT x y t).name=t.name∧(rnT x y t).n=t.n∧(rnT x y t).ty=rnY x y t.ty∧(rnT x y t).kids=rnTs x y t.kids:=by cases t;exact⟨rfl,rfl,rfl,rfl,rfl⟩
theorem PyL.whole {x y:ByteArray} {ok:Nat→Prop} {w:World} {l:List Ty} {v:Value} (h:PyL (Full x y) ok w l v):TyL bz ok w (rnYs x y l) v:=by
 induction h with
 | nil h=>exact .nil h
 | mk K L hne hb hc hL hl hcell hk ih=>
  rename_i l b cap
  have hlen:=rnYs_len x y l
  have hat:∀ i (h:i<(rnYs x y l).length) (h':i<l.length),(rnYs x y l)[i]=rnY x y l[i]:=fun i h h'=>by simp only[rnYs_map,List.getElem_map]
  have key:TyL bz ok w (rnYs x y l) (.slice (some ⟨b,0,none⟩) (rnYs x y l).length cap):=by
   refine TyL.mk K (fun e=>hne (by rw[e] at hlen;exact List.length_eq_zero_iff.1 hlen.symm)) hb (by rw[hlen];exact hc) (fun i hi=>?_) (fun i hi=>?_) (fun _=>⟨rfl,L,hL,by rw[hlen];exact hl⟩)
   ·have hi':i<l.length:=by rw[hlen] at hi;exact hi
    obtain⟨c0,⟨m,c1,p⟩,c2⟩:=hcell i hi'
    rw[hat i hi hi',(rnY_parts x y l[i]).1,(rnY_parts x y l[i]).2.1,Nat.zero_add,hL.cell,hL.cell,hL.cell]
    have p:m=rnN x y l[i].kind l[i].name:=p
    rw[← p]
    exact⟨c0,c1,c2⟩
   ·have hi':i<l.length:=by rw[hlen] at hi;exact hi
    rw[hat i hi hi',(rnY_parts x y l[i]).2.2]
    exact ih i hi'
  rw[hlen] at key
  exact key
theorem PmL.whole {x y:ByteArray} {ok:Nat→Prop} {w:World} {l:List Tm} {v:Value} (h:PmL (Full x y) ok w l v):TmL bz ok w (rnTs x y l) v:=by
 induction h with
 | nil h=>exact .nil h
 | mk K M L hne hb hc hL hl hcell hk hm ih=>
  rename_i l b cap
  have hlen:=rnTs_len x y l
  have hat:∀ i (h:i<(rnTs x y l).length) (h':i<l.length),(rnTs x y l)[i]=rnT x y l[i]:=fun i h h'=>by simp only[rnTs_map,List.getElem_map]
  have key:TmL bz ok w (rnTs x y l) (.slice (some ⟨b,0,none⟩) (rnTs x y l).length cap):=by
   refine TmL.mk K M (fun e=>hne (by rw[e] at hlen;exact List.length_eq_zero_iff.1 hlen.symm)) hb (by rw[hlen];exact hc) (fun i hi=>?_) (fun i hi=>?_) (fun i hi=>?_) (fun _=>⟨rfl,L,hL,by rw[hlen];exact hl⟩)
   ·have hi':i<l.length:=by rw[hlen] at hi;exact hi
    obtain⟨c0,c1,c2,c3,⟨m,c4,p⟩,c5,c6⟩:=hcell i hi'
    obtain⟨q0,q1,q2,q3,_⟩:=rnT_parts x y l[i]
    rw[hat i hi hi',q0,q1,q2,q3,(rnY_parts x y l[i].ty).1,(rnY_parts x y l[i].ty).2.1,Nat.zero_add]
    simp only[hL.cell]
    have p:m=rnN x y l[i].ty.kind l[i].ty.name:=p
    rw[← p]
    exact⟨c0,c1,c2,c3,c4,c5,c6⟩
   ·have hi':i<l.length:=by rw[hlen] at hi;exact hi
    rw[hat i hi hi',(rnT_parts x y l[i]).2.2.2.1,(rnY_parts x y l[i].ty).2.2]
    exact (hk i hi').whole
   ·have hi':i<l.length:=by rw[hlen] at hi;exact hi
    rw[hat i hi hi',(rnT_parts x y l[i]).2.2.2.2]
    exact ih i hi'
  rw[hlen] at key
  exact key
theorem PyL.slice {P:Int→ByteArray→ByteArray→Prop} {ok:Nat→Prop} {w:World} {l:List Ty} {v:Value} (h:PyL P ok w l v):∃ a c,v=.slice a l.length c:=by
 cases h with
 | nil h=>rcases h with rfl | ⟨a,c,rfl⟩ <;> exact⟨_,_,rfl⟩
 | mk K L=>exact⟨_,_,rfl⟩
theorem PmL.slice {P:Int→ByteArray→ByteArray→Prop} {ok:Nat→Prop} {w:World} {l:List Tm} {v:Value} (h:PmL P ok w l v):∃ a c,v=.slice a l.length c:=by
 cases h with
 | nil h=>rcases h with rfl | ⟨a,c,rfl⟩ <;> exact⟨_,_,rfl⟩
 | mk K M L=>exact⟨_,_,rfl⟩
structure PRow (x y:ByteArray) (ok:Nat→Prop) (W:World) (b:Nat) (l:List Ty) (j:Nat):Prop where
 row:∃ (L:List Value) (K:Nat→Value),Blk W b 24 L∧l.length*3≤L.length∧∀ i (h:i<l.length),L[i*3]?=some (.int .i64 l[i].kind)∧(∃ m,L[i*3+1]?=some (.string m)∧Part x y l[i].kind l[i].name m∧(i<j→m=rnN x y l[i].kind l[i].name))∧L[i*3+2]?=some (K i)∧PyL (Part x y) ok W l[i].kids (K i)∧(i<j→PyL (Full x y) ok W l[i].kids (K i))
theorem PRow.lt {x y:ByteArray} {ok:Nat→Prop} {W:World} {b:Nat} {l:List Ty} {j:Nat} (h:PRow x y ok W b l j):b<W.heap.size:=by
 obtain⟨L,K,bG,_⟩:=h.row;exact bG.lt
theorem PRow.fz {x y:ByteArray} {ok:Nat→Prop} {W:World} {b:Nat} {l:List Ty} {j:Nat} (h:PRow x y ok W b l j) (i:Nat):W.frozen? ⟨b,i,none⟩=false:=by
 obtain⟨L,K,bG,_⟩:=h.row;exact bG.frozen i
theorem PRow.frame {x y:ByteArray} {ok:Nat→Prop} {W W':World} {b:Nat} {l:List Ty} {j:Nat} (h:PRow x y ok W b l j) (hb:ok b) (hr:RwB x y ok W W'):PRow x y ok W' b l j:=by
 obtain⟨L,K,bG,hL,hR⟩:=h.row
 obtain⟨L',bG',hq⟩:=hr _ _ _ hb bG
 refine⟨⟨L',K,bG',by rw[hq.1];exact hL,fun i hi=>?_⟩⟩
 obtain⟨c0,c1,c2,c3,c4⟩:=hR i hi
 refine⟨hq.keep c0 (by unfold posY;omega),?_,hq.keep c2 (by unfold posY;omega),c3.frame (fun _=>part_stay) hr,fun q=>(c4 q).frame (fun _=>full_stay) hr⟩
 obtain⟨m,e,p⟩:=hq.name (P:=fun k n m=>Part x y k n m∧(i<j→m=rnN x y k n)) (fun n q=>⟨part_stay q.1,fun w=>full_stay (q.2 w)⟩) c0 (by obtain⟨m,e,p,q⟩:=c1;exact⟨m,e,p,q⟩)
 exact⟨m,e,p.1,p.2⟩
theorem PRow.of {x y:ByteArray} {ok:Nat→Prop} {W:World} {l:List Ty} {v:Value} (h:PyL (Part x y) ok W l v) (hne:l≠[]):∃ b c,v=.slice (some ⟨b,0,none⟩) l.length c∧ok b∧l.length≤c∧PRow x y ok W b l 0:=by
 cases h with
 | nil h=>exact absurd rfl hne
 | mk K L hne hb hc hL hl hcell hk=>
  refine⟨_,_,rfl,hb,hc,⟨⟨L,K,hL,hl,fun i hi=>?_⟩⟩⟩
  obtain⟨c0,⟨m,c1,p⟩,c2⟩:=hcell i hi
  exact⟨c0,⟨m,c1,p,fun e=>absurd e (Nat.not_lt_zero _)⟩,c2,hk i hi,fun e=>absurd e (Nat.not_lt_zero _)⟩
theorem PRow.whole {x y:ByteArray} {ok:Nat→Prop} {W:World} {b c:Nat} {l:List Ty} (h:PRow x y ok W b l l.length) (hne:l≠[]) (hb:ok b) (hc:l.length≤c):PyL (Full x y) ok W l (.slice (some ⟨b,0,none⟩) l.length c):=by
 obtain⟨L,K,bG,hL,hR⟩:=h.row
 refine .mk K L hne hb hc bG hL (fun i hi=>?_) (fun i hi=>(hR i hi).2.2.2.2 hi)
 obtain⟨c0,⟨m,c1,_,p⟩,c2,_⟩:=hR i hi
 exact⟨c0,⟨m,c1,p hi⟩,c2⟩
theorem PRow.at {x y:ByteArray} {ok:Nat→Prop} {W:World} {b:Nat} {l:List Ty} {j:Nat} (h:PRow x y ok W b l j) (hj:j<l.length):∃ m ta tn tc,W.cell? ⟨b,j*3,none⟩=some (.int .i64 l[j].kind)∧W.cell? ⟨b,j*3+1,none⟩=some (.string m)∧W.cell? ⟨b,j*3+2,none⟩=some (.slice ta tn tc)∧Part x y l[j].kind l[j].name m∧PyL (Part x y) ok W l[j].kids (.slice ta tn tc):=by
 obtain⟨L,K,bG,hL,hR⟩:=h.row
 obtain⟨c0,⟨m,c1,p,_⟩,c2,c3,_⟩:=hR j hj
 obtain⟨ta,tc,hK⟩:=c3.slice
 rw[hK] at c2 c3
 exact⟨m,ta,_,tc,by rw[bG.cell];exact c0,by rw[bG.cell];exact c1,by rw[bG.cell];exact c2,p,c3⟩
theorem PRow.kcell {x y:ByteArray} {ok:Nat→Prop} {W W':World} {b:Nat} {l:List Ty} {j i:Nat} (h:PRow x y ok W b l j) (hb:ok b) (hr:RwB x y ok W W') {v:Value} (hc:W.cell? ⟨b,i*3+2,none⟩=some v):W'.cell? ⟨b,i*3+2,none⟩=some v:=by
 obtain⟨L,K,bG,_⟩:=h.row
 obtain⟨L',bG',hq⟩:=hr _ _ _ hb bG
 rw[bG.cell] at hc
 rw[bG'.cell]
 exact hq.keep hc (by unfold posY;omega)
theorem PRow.step {x y:ByteArray} {ok:Nat→Prop} {W:World} {b:Nat} {l:List Ty} {j:Nat} {ta:Option Addr} {tn tc:Nat} (h:PRow x y ok W b l j) (hb:ok b) (hj:j<l.length) (hc:W.cell? ⟨b,j*3+2,none⟩=some (.slice ta tn tc)) (hf:PyL (Full x y) ok W l[j].kids (.slice ta tn tc)):
  Rw x y ok W (((W.setCell ⟨b,j*3,none⟩ (.int .i64 l[j].kind)).setCell ⟨b,j*3+1,none⟩ (.string (rnN x y l[j].kind l[j].name))).setCell ⟨b,j*3+2,none⟩ (.slice ta tn tc))∧PRow x y ok (((W.setCell ⟨b,j*3,none⟩ (.int .i64 l[j].kind)).setCell ⟨b,j*3+1,none⟩ (.string (rnN x y l[j].kind l[j].name))).setCell ⟨b,j*3+2,none⟩ (.slice ta tn tc)) b l (j+1):=by
 obtain⟨L,K,bG,hL,hR⟩:=h.row
 obtain⟨d0,⟨m,d1,dp,_⟩,d2,d3,_⟩:=hR j hj
 rw[bG.cell,d2] at hc
 have hK:K j=.slice ta tn tc:=Option.some.inj hc
 have hR1:Rw x y ok W (((W.setCell ⟨b,j*3,none⟩ (.int .i64 l[j].kind)).setCell ⟨b,j*3+1,none⟩ (.string (rnN x y l[j].kind l[j].name))).setCell ⟨b,j*3+2,none⟩ (.slice ta tn tc)):=by
  refine⟨((((Kept.refl ok W).setCell (p:=⟨b,j*3,none⟩) (Or.inl hb) _).setCell (p:=⟨b,j*3+1,none⟩) (Or.inl hb) _).setCell (p:=⟨b,j*3+2,none⟩) (Or.inl hb) _),fun b' T L0 hb' hL0=>?_⟩
  by_cases e:b'=b
  ·subst e
   have e1:(some (Obj.cells L0.toArray T (0,0)):Option Obj)=some (Obj.cells L.toArray 24 (0,0)):=hL0.symm.trans bG
   injection e1 with e1
   injection e1 with e1 e2
   subst e2
   have e3:L0=L:=by simpa using congrArg Array.toList e1
   subst e3
   refine⟨((L0.set (j*3) (.int .i64 l[j].kind)).set (j*3+1) (.string (rnN x y l[j].kind l[j].name))).set (j*3+2) (.slice ta tn tc),((bG.set _ _).set _ _).set _ _,by simp,fun c=>?_⟩
   by_cases h2:c=j*3+2
   ·subst h2;left;rw[List.getElem?_set_self (by simp;omega),d2,hK]
   ·rw[List.getElem?_set_ne (Ne.symm h2)]
    by_cases h1:c=j*3+1
    ·subst h1
     rw[List.getElem?_set_self (by simp;omega)]
     rcases part_turn dp with e | ⟨e1,e2,e3⟩
     ·left;rw[d1,e]
     ·right;refine⟨Or.inl ⟨rfl,by omega⟩,by rw[d1,e2],by rw[e3],?_⟩
      rw[Nat.add_sub_cancel,d0,e1]
    ·rw[List.getElem?_set_ne (Ne.symm h1)]
     left
     by_cases h0:c=j*3
     ·subst h0;rw[List.getElem?_set_self (by omega),d0]
     ·rw[List.getElem?_set_ne (Ne.symm h0)]
  ·exact⟨L0,((hL0.set_other _ _ e).set_other _ _ e).set_other _ _ e,RL.refl⟩
 refine⟨hR1,?_⟩
 refine⟨⟨((L.set (j*3) (.int .i64 l[j].kind)).set (j*3+1) (.string (rnN x y l[j].kind l[j].name))).set (j*3+2) (.slice ta tn tc),K,((bG.set _ _).set _ _).set _ _,by simpa using hL,fun i hi=>?_⟩⟩
 obtain⟨c0,c1,c2,c3,c4⟩:=hR i hi
 by_cases e:i=j
 ·subst e
  refine⟨?_,⟨_,?_,Or.inr rfl,fun _=>rfl⟩,?_,c3.frame (fun _=>part_stay) hR1.bl,fun _=>by rw[hK];exact hf.frame (fun _=>full_stay) hR1.bl⟩
  ·rw[List.getElem?_set_ne (by omega),List.getElem?_set_ne (by omega),List.getElem?_set_self (by omega)]
  ·rw[List.getElem?_set_ne (by omega),List.getElem?_set_self (by simp;omega)]
  ·rw[List.getElem?_set_self (by simp;omega),hK]
 ·refine⟨?_,?_,?_,c3.frame (fun _=>part_stay) hR1.bl,fun q=>(c4 (by omega)).frame (fun _=>full_stay) hR1.bl⟩
  ·rw[List.getElem?_set_ne (by omega),List.getElem?_set_ne (by omega),List.getElem?_set_ne (by omega)];exact c0
  ·obtain⟨m',e1,e2,e3⟩:=c1
   exact⟨m',by rw[List.getElem?_set_ne (by omega),List.getElem?_set_ne (by omega),List.getElem?_set_ne (by omega)];exact e1,e2,fun q=>e3 (by omega)⟩
  ·rw[List.getElem?_set_ne (by omega),List.getElem?_set_ne (by omega),List.getElem?_set_ne (by omega)];exact c2
def CaC (x y:ByteArray) (ok:Nat→Prop) (t:Ty):Prop:=∀ (W:World) (tk:Value) (m:ByteArray),(∀ q,ok q→q<W.heap.size)→Part x y t.kind t.name m→PyL (Part x y) ok W t.kids tk →
 Calls Tryz.prog 110 #[.agg #[.int .i64 t.kind,.string m,tk],.string x,.string y] W fun e w'=>e=.returned (.agg #[.int .i64 t.kind,.string (rnN x y t.kind t.name),tk])∧Rw x y ok W w'∧PyL (Full x y) ok w' t.kids tk
structure CaI (x y:ByteArray) (ok:Nat→Prop) (w:World) (kd:Int) (rn:ByteArray) (l:List Ty) (a:Option Addr) (c b j:Nat) (wr:World):Prop where
 rr:Rw x y ok w wr
 bx:Blk wr w.heap.size 24 [.int .i64 kd,.string rn,.slice a l.length c]
 br:Blk wr (w.heap.size+1) 24 [Value.int .i64 0,.string ⟨#[]⟩,.slice none 0 0]
 row:l≠[]→a=some ⟨b,0,none⟩∧ok b∧l.length≤c∧PRow x y ok wr b l j
theorem CaI.rwd {x y:ByteArray} {ok:Nat→Prop} {w wr W:World} {kd:Int} {rn:ByteArray} {l:List Ty} {a:Option Addr} {c b j:Nat} (h:CaI x y ok w kd rn l a c b j wr) (hok:∀ q,ok q→q<w.heap.size) (k:Rw x y ok wr W):CaI x y ok w kd rn l a c b j W:=
 ⟨h.rr.trans k,k.out h.bx (fun e=>by have:=hok _ e;omega),k.out h.br (fun e=>by have:=hok _ e;omega),fun hne=>by
  obtain⟨h1,h2,h3,h4⟩:=h.row hne
  exact⟨h1,h2,h3,h4.frame h2 k.bl⟩⟩
theorem CaI.step {x y:ByteArray} {ok:Nat→Prop} {w W:World} {kd:Int} {rn:ByteArray} {l:List Ty} {a:Option Addr} {c b j:Nat} {ta:Option Addr} {tn tc:Nat} (h:CaI x y ok w kd rn l a c b j W) (hok:∀ q,ok q→q<w.heap.size) (hj:j<l.length) (hc:W.cell? ⟨b,j*3+2,none⟩=some (.slice ta tn tc)) (hf:PyL (Full x y) ok W l[j].kids (.slice ta tn tc)):
  CaI x y ok w kd rn l a c b (j+1) (((W.setCell ⟨b,j*3,none⟩ (.int .i64 l[j].kind)).setCell ⟨b,j*3+1,none⟩ (.string (rnN x y l[j].kind l[j].name))).setCell ⟨b,j*3+2,none⟩ (.slice ta tn tc)):=by
 have hne:l≠[]:=fun e=>by subst e;simp at hj
 obtain⟨h1,h2,h3,h4⟩:=h.row hne
 obtain⟨q1,q2⟩:=h4.step h2 hj hc hf
 have h':=h.rwd hok q1
 exact⟨h'.rr,h'.bx,h'.br,fun _=>⟨h1,h2,h3,q2⟩⟩
theorem ca_one {x y:ByteArray} {ok:Nat→Prop} {kd:Int} {nm0:ByteArray} {l:List Ty} (hn1:l.length≤1000000) (IH:∀ t,t∈l→CaC x y ok t):CaC x y ok (.mk kd nm0 l):=by
 intro w tk nm hok hp hk
 obtain⟨a,c,hkv⟩:=hk.slice
 have hk:PyL (Part x y) ok w l tk:=hk
 have hkv:tk=.slice a l.length c:=hkv
 subst hkv
 have hp:Part x y kd nm0 nm:=hp
 have HIH:=Ld IH
 have HN1:=Ld hn1
 have HOK:=Ld hok
 have HRN:=Ld (part_rn hp)
 have HEM:Hid (l=[]→PyL (Full x y) ok w l (.slice a l.length c)):=Ld (fun e=>by
  subst e
  cases hk with
  | nil h=>exact .nil h
  | mk K L hne=>exact absurd rfl hne)
 obtain⟨b,hb⟩:∃ b,l≠[]→a=some ⟨b,0,none⟩∧ok b∧l.length≤c∧PRow x y ok w b l 0:=by
  by_cases hne:l=[]
  ·exact⟨0,fun h=>absurd hne h⟩
  ·obtain⟨b,c',e,h1,h2,h3⟩:=PRow.of hk hne
   cases e
   exact⟨b,fun _=>⟨rfl,h1,h2,h3⟩⟩
 have K0:Kept (fun _=>False) w ((w.alloc (.cells #[.int .i64 kd,.string nm,.slice a l.length c] 24)).alloc (.cells #[.int .i64 0,.string ⟨#[]⟩,.slice none 0 0] 24)):=(kR.alloc _).alloc _
 have HROW:Hid (l≠[]→a=some ⟨b,0,none⟩∧ok b∧l.length≤c∧PRow x y ok ((w.alloc (.cells #[.int .i64 kd,.string nm,.slice a l.length c] 24)).alloc (.cells #[.int .i64 0,.string ⟨#[]⟩,.slice none 0 0] 24)) b l 0):=Ld (fun h=>by
  obtain⟨h1,h2,h3,h4⟩:=hb h
  exact⟨h1,h2,h3,h4.frame h2 (Rw.of_kept K0).bl⟩)
 have BA:Hid (Blk ((w.alloc (.cells #[.int .i64 kd,.string nm,.slice a l.length c] 24)).alloc (.cells #[.int .i64 0,.string ⟨#[]⟩,.slice none 0 0] 24)) w.heap.size 24 [.int .i64 kd,.string nm,.slice a l.length c]):=Ld ((Blk.new w 24 _).alloc _)
 have BR:Hid (Blk ((w.alloc (.cells #[.int .i64 kd,.string nm,.slice a l.length c] 24)).alloc (.cells #[.int .i64 0,.string ⟨#[]⟩,.slice none 0 0] 24)) (w.heap.size+1) 24 [Value.int .i64 0,.string ⟨#[]⟩,.slice none 0 0]):=Ld (Blk.new' 24 _ (by simp))
 have HK:Hid (Rw x y ok w ((w.alloc (.cells #[.int .i64 kd,.string nm,.slice a l.length c] 24)).alloc (.cells #[.int .i64 0,.string ⟨#[]⟩,.slice none 0 0] 24))):=Ld (Rw.of_kept K0)
 have HEQ:Hid (∀ b,(nm.toList==x.toList)=b→(b=true↔nm=x)):=Ld (fun b h=>by rw[← h,nm_eq,decide_eq_true_iff])
 clear hk hp hb K0 IH hok
 change Calls Tryz.prog 110 #[.agg #[.int .i64 kd,.string nm,.slice a l.length c],.string x,.string y] w _
 go_enter Tryz.func110,Tryz.ntmps110
 go_upto_region 1 with (fail)
 generalize ((w.alloc (.cells #[.int .i64 kd,.string nm,.slice a l.length c] 24)).alloc (.cells #[.int .i64 0,.string ⟨#[]⟩,.slice none 0 0] 24))=w1 at *
 obtain⟨db,hdb⟩:∃ db,db=decide (kd=3∧nm=x):=⟨_,rfl⟩
 have HDB:=Ld hdb
 clear hdb
 go_cut [17] (fun v wc=>v=.bool db∧wc=w1)
 case first=>
  have gO:∀ i,w1.cell? ⟨w.heap.size,i,none⟩=[Value.int .i64 kd,.string nm,.slice a l.length c][i]?:=BA.out.cell
  cases h3:(kd==3)
  ·have hd:Hid (decide (kd=3∧nm=x)=false):=Ld (decide_eq_false (fun e=>by rw[e.1] at h3;cases h3))
   go_wp2_with fail
   go_meet
   case rel=>exact⟨by rw[HDB.out,hd.out],rfl⟩
  ·cases hx:(nm.toList==x.toList)
   ·have hd:Hid (decide (kd=3∧nm=x)=false):=Ld (decide_eq_false (fun e=>by have:=(HEQ.out false hx).2 e.2;cases this))
    go_wp2_with fail
    go_meet
    case rel=>exact⟨by rw[HDB.out,hd.out],rfl⟩
   ·have hd:Hid (decide (kd=3∧nm=x)=true):=Ld (decide_eq_true ⟨by simpa using h3,(HEQ.out true hx).1 rfl⟩)
    go_wp2_with fail
    go_meet
    case rel=>exact⟨by rw[HDB.out,hd.out],rfl⟩
 case rest=>
  obtain⟨rfl,hwc⟩:=hcut
  subst hwc
  generalize wc=v3 at *
  generalize hrn:(if kd=3∧nm=x then y else nm)=rn at *
  have HR:=Ld hrn
  clear hrn HEQ
  go_upto_if 17 with (fail)
  go_cut [17,18] (fun _ _ wd=>Kept (·=w.heap.size) v3 wd∧Blk wd w.heap.size 24 [.int .i64 kd,.string rn,.slice a l.length c])
  case first=>
   have gO:∀ i,v3.cell? ⟨w.heap.size,i,none⟩=[Value.int .i64 kd,.string nm,.slice a l.length c][i]?:=BA.out.cell
   have fO:∀ i,v3.frozen? ⟨w.heap.size,i,none⟩=false:=BA.out.frozen
   by_cases hb:kd=3∧nm=x
   ·have hd:db=true:=HDB.out.trans (decide_eq_true hb)
    have hr:rn=y:=by rw[← HR.out,if_pos hb]
    subst hr hd
    have BO2:=Ld (BA.out.set 1 (.string rn))
    clear hb HDB
    go_wp2_with fail
    go_meet
    case rel=>exact⟨(Kept.refl (fun x=>x=w.heap.size) _).setCell (p:=⟨w.heap.size,1,none⟩) (Or.inl rfl) _,BO2.out⟩
   ·have hd:db=false:=HDB.out.trans (decide_eq_false hb)
    have hr:rn=nm:=by rw[← HR.out,if_neg hb]
    subst hr hd
    clear hb HDB
    go_wp2_with fail
    go_meet
    case rel=>exact⟨Kept.refl _ _,BA.out⟩
  case rest=>
   obtain⟨hk4,hb4⟩:=hcut
   have I0:Hid (CaI x y ok w kd rn l a c b 0 wc):=Ld (by
    refine⟨HK.out.via hk4 (fun q hq e=>by have e':q=w.heap.size:=e;omega),hb4,BR.out.kept hk4 (by show ¬ w.heap.size+1=w.heap.size;omega),fun hne=>?_⟩
    obtain⟨h1,h2,h3,h4⟩:=HROW.out hne
    exact⟨h1,h2,h3,h4.frame h2 (RwB.of_kept hk4 (fun q hq=>by have:=HOK.out q hq;show ¬ q=w.heap.size;omega))⟩)
   clear hk4 hb4 HROW BR BA HK
   generalize wc=w4 at *
   have gA:∀ i,w4.cell? ⟨w.heap.size,i,none⟩=[Value.int .i64 kd,.string rn,.slice a l.length c][i]?:=I0.out.bx.cell
   go_wp2_with fail
   clear gA
   go_loopw [23] (fun i wr=>∃ j:Nat,j≤l.length∧i=.int .i64 j∧Hid (CaI x y ok w kd rn l a c b j wr)) (fun i _=>l.length-(intOf i).toNat)
   case atStart=>exact⟨0,Nat.zero_le _,rfl,I0⟩
   case round=>
    clear I0
    obtain⟨j,hj,rfl,HI⟩:=hrel
    by_cases hlt:j<l.length
    ·have i1:(j:Int)<(l.length:Int):=by omega
     have i2:(j:Int)<1000000:=by have:=HN1.out;omega
     have hne:l≠[]:=fun e=>by subst e;simp at hlt
     obtain⟨ha,hbk,hbc,hrow⟩:=HI.out.row hne
     subst ha
     obtain⟨m,ta,tn,tc,c0,c1,c2,hpm,hpk⟩:=hrow.at hlt
     have HPM:=Ld hpm
     have HPK:=Ld hpk
     have HBK:=Ld hbk
     have HJ:=Ld (HIH.out _ (List.getElem_mem hlt))
     have lb:=hrow.lt
     clear hrow hpm hpk hne hbk hbc
     go_upto_region 6 with (fail)
     have KB:Kept (fun _=>False) wr (wr.alloc (.cells #[.int .i64 l[j].kind,.string m,.slice ta tn tc] 24)):=kR.alloc _
     have BX:Hid (Blk (wr.alloc (.cells #[.int .i64 l[j].kind,.string m,.slice ta tn tc] 24)) wr.heap.size 24 [.int .i64 l[j].kind,.string m,.slice ta tn tc]):=Ld (Blk.new wr 24 _)
     have HI5:=Ld (HI.out.rwd HOK.out (Rw.of_kept KB))
     have HPK5:=Ld (HPK.out.frame (fun _=>part_stay) (Rw.of_kept KB).bl)
     have d2:(wr.alloc (.cells #[.int .i64 l[j].kind,.string m,.slice ta tn tc] 24)).cell? ⟨b,j*3+2,none⟩=some (.slice ta tn tc):=by rw[KB.cell (p:=⟨b,j*3+2,none⟩) lb (fun h=>h)];exact c2
     have ZX:Hid (w.heap.size+2≤wr.heap.size):=Ld (by have:=HI.out.br.lt;omega)
     clear KB HI HPK c0 c1 c2 lb
     generalize wr.alloc (.cells #[.int .i64 l[j].kind,.string m,.slice ta tn tc] 24)=v5 at *
     generalize wr.heap.size=X at *
     have HC2:=Ld d2
     clear d2
     have KD:Rw x y ok v5 v5.drew:=Rw.of_kept (kR.drew)
     refine wp_region_mono (L:=Rw x y ok) (fun i v W=>match i with
      | 0=>v=.pointer (some ⟨w.heap.size,2,none⟩)
      | 1=>v=.slice (some ⟨b,0,none⟩) l.length c
      | 2=>v=.int .i64 (j:Nat)
      | 3=>v=.agg #[.int .i64 l[j].kind,.string m,.slice ta tn tc]
      | 4=>v=.string x
      | 5=>v=.string y
      | 6=>v=.agg #[.int .i64 l[j].kind,.string (rnN x y l[j].kind l[j].name),.slice ta tn tc]∧PyL (Full x y) ok W l[j].kids (.slice ta tn tc)
      | _=>True) [7,8] [] 38 (by kernel_rfl) rfl (by kernel_rfl) (by kernel_rfl) (fun w=>Rw.refl) (fun _ _ _ h1 h2=>h1.trans h2) (fun c d v a w h=>by cases d <;> exact h) ?_ ?_
     ·refine allM_cons rfl (stepM_of [] rfl fun W k=>allV_nil ?_) ?_
      ·refine opW_go rfl fun K hK=>?_
       go_simp
       exact hK _ _ (KT.mk Rw.refl rfl 28 rfl rfl)
      refine allM_cons rfl (stepM_of [0] rfl fun W k=>allV_some 28 rfl fun v0 h0=>allV_nil ?_) ?_
      ·obtain⟨w1,k1,rfl⟩:=h0
       have q:=KD.trans k
       have gX:∀ i,W.cell? ⟨w.heap.size,i,none⟩=[Value.int .i64 kd,.string rn,.slice (some ⟨b,0,none⟩) l.length c][i]?:=(q.out HI5.out.bx (fun e=>by have:=HOK.out _ e;omega)).cell
       refine opW_go rfl fun K hK=>?_
       go_simp
       exact hK _ _ (KT.mk Rw.refl rfl 29 rfl rfl)
      refine allM_cons rfl (stepM_of [] rfl fun W k=>allV_nil ?_) ?_
      ·refine opW_go rfl fun K hK=>?_
       go_simp
       exact hK _ _ (KT.mk Rw.refl rfl 30 rfl rfl)
      refine allM_cons rfl (stepM_of [] rfl fun W k=>allV_nil ?_) ?_
      ·have q:=KD.trans k
       have gX:∀ i,W.cell? ⟨X,i,none⟩=[Value.int .i64 l[j].kind,.string m,.slice ta tn tc][i]?:=(q.out BX.out (fun e=>by have:=HOK.out _ e;have:=ZX.out;omega)).cell
       refine opW_go rfl fun K hK=>?_
       go_simp
       exact hK _ _ (KT.mk Rw.refl rfl 31 rfl rfl)
      refine allM_cons rfl (stepM_of [] rfl fun W k=>allV_nil ?_) ?_
      ·refine opW_go rfl fun K hK=>?_
       go_simp
       exact hK _ _ (KT.mk Rw.refl rfl 32 rfl rfl)
      refine allM_cons rfl (stepM_of [] rfl fun W k=>allV_nil ?_) ?_
      ·refine opW_go rfl fun K hK=>?_
       go_simp
       exact hK _ _ (KT.mk Rw.refl rfl 33 rfl rfl)
      refine allM_cons rfl (stepM_of [3,4,5] rfl fun W k=>allV_some 31 rfl fun v0 h0=>allV_some 32 rfl fun v1 h1=>allV_some 33 rfl fun v2 h2=>allV_nil ?_) ?_
      ·obtain⟨w1,k1,rfl⟩:=h0
       obtain⟨w2,k2,rfl⟩:=h1
       obtain⟨w3,k3,rfl⟩:=h2
       have q:=KD.trans k
       refine opW_go rfl fun K hK=>?_
       go_simp
       go_at_call 110
       refine (HJ.out W _ m (fun z hz=>by have h1:=HOK.out z hz;have h2:=HI5.out.rr.kp.size;have h3:=q.kp.size;omega) HPM.out (HPK5.out.frame (fun _=>part_stay) q.bl)).mono ?_
       rintro e w' ⟨rfl,h5,h6⟩
       exact hK _ _ (KT.mk h5 rfl 34 rfl ⟨rfl,h6⟩)
      refine allM_tail rfl ?_
      refine allM_tail rfl ?_
      exact allM_nil
     ·intro W kW
      have hh:(List.range 9).filter (fun i=>!([7,8]:List Nat).contains i)=[0,1,2,3,4,5,6]:=by decide
      change allV _ _ _ _ _ ((List.range 9).filter (fun i=>!([7,8]:List Nat).contains i)) _
      rw[hh]
      generalize hKK:(fun a1=>wpList Tryz.prog _ _ (pickT [7,8] 0 _) a1 W)=KK
      refine allV_some 28 (by kernel_rfl) ?_
      intro v0 h0
      refine allV_some 29 (by kernel_rfl) ?_
      intro v1 h1
      refine allV_some 30 (by kernel_rfl) ?_
      intro v2 h2
      refine allV_some 31 (by kernel_rfl) ?_
      intro v3 h3
      refine allV_some 32 (by kernel_rfl) ?_
      intro v4 h4
      refine allV_some 33 (by kernel_rfl) ?_
      intro v5 h5
      refine allV_some 34 (by kernel_rfl) ?_
      intro v6 h6
      refine allV_nil ?_
      obtain⟨w0,k0,rfl⟩:=h0
      obtain⟨w1,k1,rfl⟩:=h1
      obtain⟨w2,k2,rfl⟩:=h2
      obtain⟨w3,k3,rfl⟩:=h3
      obtain⟨w4,k4,rfl⟩:=h4
      obtain⟨w5,k5,rfl⟩:=h5
      obtain⟨w6,k6,rfl,hq⟩:=h6
      subst hKK
      have KW:Rw x y ok v5 W:=KD.trans kW
      obtain⟨_,hbk,_,hrow5⟩:=HI5.out.row (fun e=>by subst e;simp at hlt)
      have hc2:=hrow5.kcell hbk KW.bl HC2.out
      have HS:=Ld ((HI5.out.rwd HOK.out KW).step HOK.out hlt hc2 (hq.frame (fun _=>full_stay) k6.bl))
      have hrowW:=hrow5.frame hbk KW.bl
      obtain⟨m2,ta2,tn2,tc2,e0,e1,e2,_,_⟩:=hrowW.at hlt
      have f0:=hrowW.fz (j*3)
      have f1:=hrowW.fz (j*3+1)
      have f2:=hrowW.fz (j*3+2)
      clear hq k0 k1 k2 k3 k4 k5 k6 hh HJ hrow5 hrowW hc2 HI5 HPK5 HPM HBK BX HC2 hbk
      show wpList Tryz.prog _ _ [_,_] _ W
      simp only[Act.put,List.setIfInBounds_toArray,List.set_cons_succ,List.set_cons_zero]
      go_wp2_with fail
      go_roundw
      case rel=>exact⟨j+1,by omega,by go_num,HS⟩
      case measure=>simp[intOf];omega
    ·obtain rfl:j=l.length:=by omega
     have i1:¬ (l.length:Int)<(l.length:Int):=by omega
     have gA:∀ i,wr.cell? ⟨w.heap.size,i,none⟩=[Value.int .i64 kd,.string rn,.slice a l.length c][i]?:=HI.out.bx.cell
     have gR:∀ i,wr.cell? ⟨w.heap.size+1,i,none⟩=[Value.int .i64 0,.string ⟨#[]⟩,.slice none 0 0][i]?:=HI.out.br.cell
     have fR:∀ i,wr.frozen? ⟨w.heap.size+1,i,none⟩=false:=HI.out.br.frozen
     clear hlt
     go_wp2_with fail
     have bF:=r3' (x:=.int .i64 kd) (y:=.string rn) (z:=.slice a l.length c) HI.out.br rfl
     have kS:Kept (·=w.heap.size+1) wr (((wr.setCell ⟨w.heap.size+1,0,none⟩ (.int .i64 kd)).setCell ⟨w.heap.size+1,1,none⟩ (.string rn)).setCell ⟨w.heap.size+1,2,none⟩ (.slice a l.length c)):=(((Kept.refl (fun x=>x=w.heap.size+1) _).setCell (p:=⟨w.heap.size+1,0,none⟩) (Or.inl rfl) _).setCell (p:=⟨w.heap.size+1,1,none⟩) (Or.inl rfl) _).setCell (p:=⟨w.heap.size+1,2,none⟩) (Or.inl rfl) _
     have hRw:Rw x y ok w (((wr.setCell ⟨w.heap.size+1,0,none⟩ (.int .i64 kd)).setCell ⟨w.heap.size+1,1,none⟩ (.string rn)).setCell ⟨w.heap.size+1,2,none⟩ (.slice a l.length c)):=HI.out.rr.via kS (fun q hq e=>by have e':q=w.heap.size+1:=e;omega)
     refine bodyPost_ret (results_one Tryz.results110 rfl (load_ty (t:=.mk kd rn l) bF)) rfl ⟨by show _=Ending.returned (.agg #[.int .i64 kd,.string (rnN x y kd nm0),.slice a l.length c]);rw[← HRN.out];rfl,hRw,?_⟩
     show PyL (Full x y) ok _ l _
     by_cases hne:l=[]
     ·exact (HEM.out hne).frame (fun _=>full_stay) hRw.bl
     ·obtain⟨ha,hbk,hbc,hrow⟩:=HI.out.row hne
      subst ha
      exact PRow.whole (hrow.frame hbk (RwB.of_kept kS (fun q hq=>by have:=HOK.out q hq;show ¬ q=w.heap.size+1;omega))) hne hbk hbc
theorem ca_any {x y:ByteArray} {ok:Nat→Prop} {t:Ty} (hb:BdTy t):CaC x y ok t:=by
 induction hb with
 | mk hn hl ih=>exact ca_one hn ih
end Go.Proofs.YtdmebjbkccjhbaaGreatDoor
