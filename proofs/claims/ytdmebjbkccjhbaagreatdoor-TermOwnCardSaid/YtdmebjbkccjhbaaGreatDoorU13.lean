/- A part. -/
import Derived.Test.YtdmebjbkccjhbaaGreatDoorU12
import Derived.Shelf.SlIter.Collect
import Derived.Laws.IdiomStrings
set_option linter.unusedVariables false
set_option linter.unusedSimpArgs false
set_option maxRecDepth 100000
set_option maxHeartbeats 32000000
namespace Go.Proofs.YtdmebjbkccjhbaaGreatDoor
open Go.RowKit
variable {bz:Nat}
structure CT (bz:Nat) (w:World) (op:Int) (nm:ByteArray) (N:Int) (ty:Ty) (tk kk v:Value) (O:Nat) (W:World):Prop where
 kp:Kept (fun _=>False) w W
 a:Blk W w.heap.size 27 [.int .i64 op,.string nm,.int .i64 N,.int .i64 ty.kind,.string ty.name,tk,kk]
 r:Blk W (w.heap.size+1) 27 z27
 o:Blk W O 27 [.int .i64 op,.string nm,.int .i64 N,.int .i64 ty.kind,.string ty.name,v,.slice none 0 0]
 ho:w.heap.size+2≤O
 ty:TyL bz (fun q=>w.heap.size+2≤q∧q≠O) W ty.kids v
theorem CT.late {w w4:World} {op:Int} {nm:ByteArray} {N:Int} {ty:Ty} {tk kk v:Value} (K:Kept (fun _=>False) w w4) (bA:Blk w4 w.heap.size 27 [.int .i64 op,.string nm,.int .i64 N,.int .i64 ty.kind,.string ty.name,tk,kk]) (bR:Blk w4 (w.heap.size+1) 27 z27) (hv:TyL bz (fun q=>w.heap.size+2≤q) w4 ty.kids v):
  CT bz w op nm N ty tk kk v w4.heap.size (w4.alloc (.cells #[.int .i64 op,.string nm,.int .i64 N,.int .i64 ty.kind,.string ty.name,v,.slice none 0 0] 27)):=
 ⟨K.alloc _,bA.alloc _,bR.alloc _,Blk.new w4 27 _,by have:=bR.lt;omega,(hv.mono (fun q hq h=>⟨h,by omega⟩)).frame (Same.alloc _ _)⟩
theorem CT.early {w w4:World} {op:Int} {nm:ByteArray} {N:Int} {ty:Ty} {tk kk v:Value} {O:Nat} (K:Kept (fun _=>False) w w4) (bA:Blk w4 w.heap.size 27 [.int .i64 op,.string nm,.int .i64 N,.int .i64 ty.kind,.string ty.name,tk,kk]) (bR:Blk w4 (w.heap.size+1) 27 z27) (bO:Blk w4 O 27 z27) (ho:w.heap.size+2≤O) (hv:TyL bz (fun q=>w.heap.size+2≤q∧q≠O) w4 ty.kids v):
  CT bz w op nm N ty tk kk v O (((((((w4.setCell ⟨O,0,none⟩ (.int .i64 op)).setCell ⟨O,1,none⟩ (.string nm)).setCell ⟨O,2,none⟩ (.int .i64 N)).setCell ⟨O,3,none⟩ (.int .i64 ty.kind)).setCell ⟨O,4,none⟩ (.string ty.name)).setCell ⟨O,5,none⟩ v).setCell ⟨O,6,none⟩ (.slice none 0 0)):=by
 have n1:w.heap.size≠O:=by omega
 have n2:w.heap.size+1≠O:=by omega
 exact⟨k7w K (Or.inr (by omega)),((((((bA.set_other _ _ n1).set_other _ _ n1).set_other _ _ n1).set_other _ _ n1).set_other _ _ n1).set_other _ _ n1).set_other _ _ n1,((((((bR.set_other _ _ n2).set_other _ _ n2).set_other _ _ n2).set_other _ _ n2).set_other _ _ n2).set_other _ _ n2).set_other _ _ n2,r7 bO rfl,ho,hv.frame (set7 (fun q hq=>hq.2))⟩
theorem CT.kept {w W W':World} {op:Int} {nm:ByteArray} {N:Int} {ty:Ty} {tk kk v:Value} {O:Nat} (h:CT bz w op nm N ty tk kk v O W) (k:Kept (fun _=>False) W W'):CT bz w op nm N ty tk kk v O W':=
 ⟨h.kp.trans k,h.a.kept k (fun h=>h),h.r.kept k (fun h=>h),h.o.kept k (fun h=>h),h.ho,h.ty.frame (sK k)⟩
theorem CT.done {w W:World} {op:Int} {nm:ByteArray} {N:Int} {ty:Ty} {l:List Tm} {tk kk v u:Value} {O:Nat} {E:List E3} {base:Nat} (h:CT bz w op nm N ty tk kk v O W) (hb:base≤W.heap.size) (hO:O<base) (hu:W.ownsRow base 27 7 u E.length (flat E)) (hel:EL bz (okb base u) W E) (hm:E.map (·.1)=l) (hv:TyL bz (fun q=>w.heap.size+2≤q∧q≠O∧u.ownBlock≠some q) W ty.kids v) (W2:World)
  (hW2:W2=(((((((W.setCell ⟨O,6,none⟩ u).setCell ⟨w.heap.size+1,0,none⟩ (.int .i64 op)).setCell ⟨w.heap.size+1,1,none⟩ (.string nm)).setCell ⟨w.heap.size+1,2,none⟩ (.int .i64 N)).setCell ⟨w.heap.size+1,3,none⟩ (.int .i64 ty.kind)).setCell ⟨w.heap.size+1,4,none⟩ (.string ty.name)).setCell ⟨w.heap.size+1,5,none⟩ v).setCell ⟨w.heap.size+1,6,none⟩ u):
  Blk W2 (w.heap.size+1) 27 (tmCells (.mk op nm N ty l) v u)∧TyL bz (okb w.heap.size u) W2 ty.kids v∧RowT bz w w.heap.size W2 E u:=by
 subst hW2
 have n1:w.heap.size+1≠O:=by have:=h.ho;omega
 have hub:∀ g,u.ownBlock=some g→base≤g:=fun g hg=>(hu.lt g hg).1
 have kS:Kept (fun q=>q=O∨q=w.heap.size+1) W ((((((((W.setCell ⟨O,6,none⟩ u).setCell ⟨w.heap.size+1,0,none⟩ (.int .i64 op)).setCell ⟨w.heap.size+1,1,none⟩ (.string nm)).setCell ⟨w.heap.size+1,2,none⟩ (.int .i64 N)).setCell ⟨w.heap.size+1,3,none⟩ (.int .i64 ty.kind)).setCell ⟨w.heap.size+1,4,none⟩ (.string ty.name)).setCell ⟨w.heap.size+1,5,none⟩ v).setCell ⟨w.heap.size+1,6,none⟩ u):=
  k7w ((Kept.refl (fun q=>q=O∨q=w.heap.size+1) W).setCell (p:=⟨O,6,none⟩) (Or.inl (Or.inl rfl)) u) (Or.inl (Or.inr rfl))
 have hho:=h.ho
 refine⟨r7 (h.r.set_other ⟨O,6,none⟩ u n1) rfl,(hv.frame (Same.of_kept kS (fun q hq e=>by rcases e with e | e <;> omega))).mono (fun q _ hq=>⟨by omega,hq.2.2⟩),k7w (h.kp.setCell (p:=⟨O,6,none⟩) (Or.inr (by show w.heap.size≤O;omega)) u) (Or.inr (by omega)),?_,?_⟩
 ·exact own_base (own_keptT hu kS (fun g hg e=>by have:=hub g hg;rcases e with e | e <;> omega)) (fun g hg=>by have:=hub g hg;omega)
 ·exact (hel.frame (Same.of_kept kS (fun q hq e=>by have:=hq.1;rcases e with e | e <;> omega))).mono (fun q _ hq=>⟨by have:=hq.1;omega,hq.2⟩)
theorem rcopy_one {op:Int} {nm:ByteArray} {N:Int} {ty:Ty} {l:List Tm} (hty:BdTy ty) (IH:∀ u,u∈l→RClC bz u) (hn:l.length≤1000000):RClC bz (.mk op nm N ty l):=by
 intro w ok tk kk h1 h2
 have h1:TyL bz ok w ty.kids tk:=h1
 have h2:TmL bz ok w l kk:=h2
 obtain⟨a,n,c,rfl⟩:=h1.slice
 obtain⟨ma,mn,mc,rfl⟩:=h2.slice
 have HT:=Ld (fun W (k:Kept (fun _=>False) w W)=>rcopyTy_any hty W ok _ (h1.frame (sK k)))
 have HK:=Ld (fun W (k:Kept (fun _=>False) w W)=>rcopies_any IH hn (h2.frame (sK k)))
 unfold tyVal at HT
 change Calls Tryz.prog 26 #[.agg #[.int .i64 op,.string nm,.int .i64 N,.int .i64 ty.kind,.string ty.name,.slice a n c,.slice ma mn mc]] w _
 clear h1 h2 IH
 have bA:Blk ((w.alloc (.cells #[.int .i64 op,.string nm,.int .i64 N,.int .i64 ty.kind,.string ty.name,.slice a n c,.slice ma mn mc] 27)).alloc Z7) w.heap.size 27 [.int .i64 op,.string nm,.int .i64 N,.int .i64 ty.kind,.string ty.name,.slice a n c,.slice ma mn mc]:=(Blk.new w 27 _).alloc _
 have bR:Blk ((w.alloc (.cells #[.int .i64 op,.string nm,.int .i64 N,.int .i64 ty.kind,.string ty.name,.slice a n c,.slice ma mn mc] 27)).alloc Z7) (w.heap.size+1) 27 z27:=Blk.new' 27 _ (by simp)
 have K0:Kept (fun _=>False) w ((w.alloc (.cells #[.int .i64 op,.string nm,.int .i64 N,.int .i64 ty.kind,.string ty.name,.slice a n c,.slice ma mn mc] 27)).alloc Z7):=(kR.alloc _).alloc _
 go_enter Tryz.func26,Tryz.ntmps26
 go_upto_region 1 with (fail)
 refine wp_gen (F:=fun W3=>Kept (fun _=>False) w W3∧W3.heap.size=w.heap.size+2∧Blk W3 w.heap.size 27 [.int .i64 op,.string nm,.int .i64 N,.int .i64 ty.kind,.string ty.name,.slice a n c,.slice ma mn mc]∧Blk W3 (w.heap.size+1) 27 z27) ⟨K0,by simp,bA,bR⟩ ?_
 clear K0 bA bR
 rintro w1 ⟨K1,z1,bA,bR⟩
 have gA:∀ i,w1.cell? ⟨w.heap.size,i,none⟩=[Value.int .i64 op,.string nm,.int .i64 N,.int .i64 ty.kind,.string ty.name,.slice a n c,.slice ma mn mc][i]?:=bA.cell
 have Z1:=Ld z1
 have KK1:=Ld K1
 have BA:=Ld bA
 have BR:=Ld bR
 have lA:=bA.lt
 have lR:=bR.lt
 have nA:w.heap.size≠w1.heap.size:=by omega
 have nA2:w1.heap.size≠w.heap.size:=by omega
 clear z1 K1 bA bR
 have x0:w1.cell? ⟨w.heap.size,0,none⟩=some (.int .i64 op):=gA 0
 have x1:w1.cell? ⟨w.heap.size,1,none⟩=some (.string nm):=gA 1
 have x2:w1.cell? ⟨w.heap.size,2,none⟩=some (.int .i64 N):=gA 2
 have x3:w1.cell? ⟨w.heap.size,3,none⟩=some (.int .i64 ty.kind):=gA 3
 have x4:w1.cell? ⟨w.heap.size,4,none⟩=some (.string ty.name):=gA 4
 have x5:w1.cell? ⟨w.heap.size,5,none⟩=some (.slice a n c):=gA 5
 go_region_held3 (fun w'=>w'.cell? ⟨w.heap.size,0,none⟩=some (.int .i64 op)∧w'.cell? ⟨w.heap.size,1,none⟩=some (.string nm)∧w'.cell? ⟨w.heap.size,2,none⟩=some (.int .i64 N)∧w'.cell? ⟨w.heap.size,3,none⟩=some (.int .i64 ty.kind)∧w'.cell? ⟨w.heap.size,4,none⟩=some (.string ty.name)∧w'.cell? ⟨w.heap.size,5,none⟩=some (.slice a n c)) (go_keep) (first | (go_at_call 64;refine (HT.out _ (by first | exact KK1.out.drew | exact KK1.out.drew.alloc _ | exact (KK1.out.alloc _).drew)).mono ?_;rintro e w4 ⟨v,rfl,hv,k4⟩;obtain⟨va,vn,vc,rfl⟩:=hv.slice;have k5:Kept (fun _=>False) w1 w4:=(by first | exact kR.drew.trans k4 | exact (kR.drew.alloc _).trans k4);have lA4:=(BA.out.kept k5 (fun h=>h)).lt;(try (have bO:Blk w4 w1.heap.size 27 [.int .i64 0,.string ⟨#[]⟩,.int .i64 0,.int .i64 0,.string ⟨#[]⟩,.slice none 0 0,.slice none 0 0]:=(by first | exact ((Blk.new w1 27 [.int .i64 0,.string ⟨#[]⟩,.int .i64 0,.int .i64 0,.string ⟨#[]⟩,.slice none 0 0,.slice none 0 0]).drew).kept k4 (fun h=>h) | exact (Blk.new w1.drew 27 [.int .i64 0,.string ⟨#[]⟩,.int .i64 0,.int .i64 0,.string ⟨#[]⟩,.slice none 0 0,.slice none 0 0]).kept k4 (fun h=>h));have gO:∀ i,w4.cell? ⟨w1.heap.size,i,none⟩=[Value.int .i64 0,.string ⟨#[]⟩,.int .i64 0,.int .i64 0,.string ⟨#[]⟩,.slice none 0 0,.slice none 0 0][i]?:=bO.cell;have fO:∀ i,w4.frozen? ⟨w1.heap.size,i,none⟩=false:=bO.frozen;have lO:=bO.lt));have y0:w4.cell? ⟨w.heap.size,0,none⟩=some (.int .i64 op):=(BA.out.kept k5 (fun h=>h)).cell 0;have y1:w4.cell? ⟨w.heap.size,1,none⟩=some (.string nm):=(BA.out.kept k5 (fun h=>h)).cell 1;have y2:w4.cell? ⟨w.heap.size,2,none⟩=some (.int .i64 N):=(BA.out.kept k5 (fun h=>h)).cell 2;have y3:w4.cell? ⟨w.heap.size,3,none⟩=some (.int .i64 ty.kind):=(BA.out.kept k5 (fun h=>h)).cell 3;have y4:w4.cell? ⟨w.heap.size,4,none⟩=some (.string ty.name):=(BA.out.kept k5 (fun h=>h)).cell 4;have y5:w4.cell? ⟨w.heap.size,5,none⟩=some (.slice a n c):=(BA.out.kept k5 (fun h=>h)).cell 5))
 all_goals
  first
  | (have HX:=Ld (CT.late (KK1.out.trans k5) (BA.out.kept k5 (fun h=>h)) (BR.out.kept k5 (fun h=>h)) (hv.mono (fun q _ hq=>by have:=Z1.out;have hq2:w1.heap.size≤q:=hq;omega)))
     generalize hOO:w4.heap.size=O at *
     generalize w4.alloc (.cells #[.int .i64 op,.string nm,.int .i64 N,.int .i64 ty.kind,.string ty.name,.slice va vn vc,.slice none 0 0] 27)=w5 at *
     clear hOO)
  | (have HX:=Ld (CT.early (O:=w1.heap.size) (KK1.out.trans k5) (BA.out.kept k5 (fun h=>h)) (BR.out.kept k5 (fun h=>h)) bO (by have:=Z1.out;omega) (hv.mono (fun q _ hq=>by have:=Z1.out;have hq2:w1.heap.size+1≤q:=(by simpa using hq);omega)))
     generalize hOO:w1.heap.size=O at *
     generalize (((((((w4.setCell ⟨O,0,none⟩ (.int .i64 op)).setCell ⟨O,1,none⟩ (.string nm)).setCell ⟨O,2,none⟩ (.int .i64 N)).setCell ⟨O,3,none⟩ (.int .i64 ty.kind)).setCell ⟨O,4,none⟩ (.string ty.name)).setCell ⟨O,5,none⟩ (.slice va vn vc)).setCell ⟨O,6,none⟩ (.slice none 0 0))=w5 at *
     clear hOO)
 all_goals
  have h6:Hid (Calls Tryz.prog 65 #[.slice ma mn mc] w5 fun e w'=>∃ (E:List E3) (v:Value),e=.returned v∧RowT bz w5 w5.heap.size w' E v∧E.map (·.1)=l):=Ld (HK.out w5 HX.out.kp)
  clear HK HT hv KK1 Z1 BA BR k4 k5 gA x0 x1 x2 x3 x4 x5
  have gA5:∀ i,w5.cell? ⟨w.heap.size,i,none⟩=[Value.int .i64 op,.string nm,.int .i64 N,.int .i64 ty.kind,.string ty.name,.slice a n c,.slice ma mn mc][i]?:=HX.out.a.cell
  go_wp2_with fail
  refine h6.out.mono ?_
  rintro e w6 ⟨E,u,rfl,R6,hm6⟩
  have HX6:=Ld (HX.out.kept R6.kp)
  have gO6:∀ i,w6.cell? ⟨O,i,none⟩=[Value.int .i64 op,.string nm,.int .i64 N,.int .i64 ty.kind,.string ty.name,.slice va vn vc,.slice none 0 0][i]?:=HX6.out.o.cell
  have fO6:∀ i,w6.frozen? ⟨O,i,none⟩=false:=HX6.out.o.frozen
  have gR6:∀ i,w6.cell? ⟨w.heap.size+1,i,none⟩=[Value.int .i64 0,.string ⟨#[]⟩,.int .i64 0,.int .i64 0,.string ⟨#[]⟩,.slice none 0 0,.slice none 0 0][i]?:=HX6.out.r.cell
  have fR6:∀ i,w6.frozen? ⟨w.heap.size+1,i,none⟩=false:=HX6.out.r.frozen
  have nO:O≠w.heap.size+1:=by have:=HX6.out.ho;omega
  have nO2:w.heap.size+1≠O:=by have:=HX6.out.ho;omega
  have lO5:=HX.out.o.lt
  obtain⟨ua,un,uc,rfl⟩:=R6.tml.slice
  have hv6:TyL bz (fun q=>w.heap.size+2≤q∧q≠O∧(Value.slice ua un uc).ownBlock≠some q) w6 ty.kids (.slice va vn vc):=
   (HX.out.ty.mono (ok':=fun q=>(w.heap.size+2≤q∧q≠O)∧q<w5.heap.size) (fun q hq h=>⟨h,hq⟩)).frame (sK R6.kp) |>.mono (fun q _ h=>⟨h.1.1,h.1.2,fun e=>by have:=(R6.own.lt q e).1;omega⟩)
  have HM:=Ld hm6
  have HD:=Ld (CT.done HX6.out R6.kp.size lO5 R6.own R6.el hm6 hv6 _ rfl)
  clear gA5 HX R6 hm6 hv6 h6 lO5
  go_wp2_with fail
  exact bodyPost_ret (results_one Tryz.results26 rfl (load_tm (t:=.mk op nm N ty l) HD.out.1)) rfl ⟨_,E,_,rfl,HD.out.2.1,HD.out.2.2,HM.out⟩
theorem rcopy_any {t:Tm} (hb:BdTm t):RClC bz t:=by
 induction hb with
 | mk hn ht hl ih=>exact rcopy_one ht ih hn
structure KRow (bz:Nat) (W:World) (base g:Nat) (l:List Tm):Prop where
 row:∃ (L:List Value) (K M:Nat→Value),Blk W g 27 L∧l.length*7≤L.length∧∀ i (h:i<l.length),L[i*7]?=some (.int .i64 l[i].op)∧L[i*7+1]?=some (.string l[i].name)∧L[i*7+2]?=some (.int .i64 l[i].n)∧L[i*7+3]?=some (.int .i64 l[i].ty.kind)∧L[i*7+4]?=some (.string l[i].ty.name)∧L[i*7+5]?=some (K i)∧L[i*7+6]?=some (M i)∧TyL bz (fun q=>base≤q∧q≠g) W l[i].ty.kids (K i)∧TmL bz (fun q=>base≤q∧q≠g) W l[i].kids (M i)
theorem KRow.tml {W:World} {base g c:Nat} {l:List Tm} (h:KRow bz W base g l) (hg:base≤g) (hc:l.length≤c):TmL bz (fun q=>base≤q) W l (.slice (some ⟨g,0,none⟩) l.length c):=by
 by_cases hne:l=[]
 ·subst hne;exact .nil (Or.inr ⟨_,_,rfl⟩)
 ·obtain⟨L,K,M,bG,hL,hR⟩:=h.row
  refine TmL.mk K M hne hg hc (fun i hi=>?_) (fun i hi=>?_) (fun i hi=>?_) (fun _=>⟨rfl,_,bG,hL⟩)
  ·obtain⟨e0,e1,e2,e3,e4,e5,e6,e7,e8⟩:=hR i hi
   rw[Nat.zero_add]
   exact⟨by rw[bG.cell];exact e0,by rw[bG.cell];exact e1,by rw[bG.cell];exact e2,by rw[bG.cell];exact e3,by rw[bG.cell];exact e4,by rw[bG.cell];exact e5,by rw[bG.cell];exact e6⟩
  ·exact (hR i hi).2.2.2.2.2.2.2.1.mono (fun q _ h=>h.1)
  ·exact (hR i hi).2.2.2.2.2.2.2.2.mono (fun q _ h=>h.1)
theorem KRow.kept {W W':World} {base g:Nat} {l:List Tm} (h:KRow bz W base g l) {S:Nat→Prop} (k:Kept S W W') (h1:¬ S g) (h2:∀ q,base≤q→q≠g→¬ S q):KRow bz W' base g l:=by
 obtain⟨L,K,M,bG,hL,hR⟩:=h.row
 refine⟨⟨L,K,M,bG.kept k h1,hL,fun i hi=>?_⟩⟩
 obtain⟨e0,e1,e2,e3,e4,e5,e6,e7,e8⟩:=hR i hi
 exact⟨e0,e1,e2,e3,e4,e5,e6,e7.frame (Same.of_kept k (fun q hq=>h2 q hq.1 hq.2)),e8.frame (Same.of_kept k (fun q hq=>h2 q hq.1 hq.2))⟩
theorem KRow.put {W:World} {base g j:Nat} {l:List Tm} {u:Tm} {v x:Value} (h:KRow bz W base g l) (hj:j<l.length) (hv:TyL bz (fun q=>base≤q∧q≠g) W u.ty.kids v) (hx:TmL bz (fun q=>base≤q∧q≠g) W u.kids x):
  KRow bz (((((((W.setCell ⟨g,j*7,none⟩ (.int .i64 u.op)).setCell ⟨g,j*7+1,none⟩ (.string u.name)).setCell ⟨g,j*7+2,none⟩ (.int .i64 u.n)).setCell ⟨g,j*7+3,none⟩ (.int .i64 u.ty.kind)).setCell ⟨g,j*7+4,none⟩ (.string u.ty.name)).setCell ⟨g,j*7+5,none⟩ v).setCell ⟨g,j*7+6,none⟩ x) base g (l.set j u):=by
 obtain⟨L,K,M,bG,hL,hR⟩:=h.row
 refine⟨⟨((((((L.set (j*7) (.int .i64 u.op)).set (j*7+1) (.string u.name)).set (j*7+2) (.int .i64 u.n)).set (j*7+3) (.int .i64 u.ty.kind)).set (j*7+4) (.string u.ty.name)).set (j*7+5) v).set (j*7+6) x,fun i=>if i=j then v else K i,fun i=>if i=j then x else M i,
  (((((((bG.set _ _).set _ _).set _ _).set _ _).set _ _).set _ _).set _ _),by simpa using hL,fun i hi=>?_⟩⟩
 have hi':i<l.length:=by simpa using hi
 by_cases hij:i=j
 ·subst hij
  simp only[List.getElem_set_self,if_pos]
  refine⟨?_,?_,?_,?_,?_,?_,?_,?_,?_⟩
  ·rw[List.getElem?_set_ne (by omega),List.getElem?_set_ne (by omega),List.getElem?_set_ne (by omega),List.getElem?_set_ne (by omega),List.getElem?_set_ne (by omega),List.getElem?_set_ne (by omega),List.getElem?_set_self (by omega)]
  ·rw[List.getElem?_set_ne (by omega),List.getElem?_set_ne (by omega),List.getElem?_set_ne (by omega),List.getElem?_set_ne (by omega),List.getElem?_set_ne (by omega),List.getElem?_set_self (by simp;omega)]
  ·rw[List.getElem?_set_ne (by omega),List.getElem?_set_ne (by omega),List.getElem?_set_ne (by omega),List.getElem?_set_ne (by omega),List.getElem?_set_self (by simp;omega)]
  ·rw[List.getElem?_set_ne (by omega),List.getElem?_set_ne (by omega),List.getElem?_set_ne (by omega),List.getElem?_set_self (by simp;omega)]
  ·rw[List.getElem?_set_ne (by omega),List.getElem?_set_ne (by omega),List.getElem?_set_self (by simp;omega)]
  ·rw[List.getElem?_set_ne (by omega),List.getElem?_set_self (by simp;omega)]
  ·rw[List.getElem?_set_self (by simp;omega)]
  ·exact hv.frame (set7 (fun q h=>h.2))
  ·exact hx.frame (set7 (fun q h=>h.2))
 ·obtain⟨e0,e1,e2,e3,e4,e5,e6,e7,e8⟩:=hR i hi'
  have eg:(l.set j u)[i]=l[i]:=List.getElem_set_ne (Ne.symm hij) _
  rw[eg]
  simp only[if_neg hij]
  refine⟨?_,?_,?_,?_,?_,?_,?_,e7.frame (set7 (fun q h=>h.2)),e8.frame (set7 (fun q h=>h.2))⟩
  all_goals (rw[List.getElem?_set_ne (by omega),List.getElem?_set_ne (by omega),List.getElem?_set_ne (by omega),List.getElem?_set_ne (by omega),List.getElem?_set_ne (by omega),List.getElem?_set_ne (by omega),List.getElem?_set_ne (by omega)];assumption)
def ClP2 (bz:Nat) (t:Tm) (w:World) (e:Ending) (w':World):Prop:=∃ v g c,e=.returned (tmVal t v (.slice (some ⟨g,0,none⟩) t.kids.length c))∧t.kids.length≤c∧w.heap.size≤g∧TyL bz (fun q=>w.heap.size≤q∧q≠g) w' t.ty.kids v∧KRow bz w' w.heap.size g t.kids∧Kept (fun _=>False) w w'
theorem clone_some2 {op:Int} {nm:ByteArray} {N:Int} {ty:Ty} {w:World} {ok:Nat→Prop} {ta:Option Addr} {tn tc:Nat} (hcp:CpC bz ty) (hty:TyL bz ok w ty.kids (.slice ta tn tc)) {l:List Tm} {b off cp:Nat} (IH:∀ t,t∈l→ClC bz t) (hn:l.length≤1000000) (K M:Nat→Value) (hcell:∀ i (h:i<l.length),w.cell? ⟨b,off+i*7,none⟩=some (.int .i64 l[i].op)∧w.cell? ⟨b,off+i*7+1,none⟩=some (.string l[i].name)∧w.cell? ⟨b,off+i*7+2,none⟩=some (.int .i64 l[i].n)∧w.cell? ⟨b,off+i*7+3,none⟩=some (.int .i64 l[i].ty.kind)∧w.cell? ⟨b,off+i*7+4,none⟩=some (.string l[i].ty.name)∧w.cell? ⟨b,off+i*7+5,none⟩=some (K i)∧w.cell? ⟨b,off+i*7+6,none⟩=some (M i)) (hk:∀ i (h:i<l.length),TyL bz ok w l[i].ty.kids (K i)) (hm:∀ i (h:i<l.length),TmL bz ok w l[i].kids (M i)):Calls Tryz.prog 70 #[.agg #[.int .i64 op,.string nm,.int .i64 N,.int .i64 ty.kind,.string ty.name,.slice ta tn tc,.slice (some ⟨b,off,none⟩) l.length cp]] w (ClP2 bz (.mk op nm N ty l) w):=by
 have HCELL:=Ld hcell
 have HK:=Ld hk
 have HM:=Ld hm
 have HIH:=Ld IH
 clear hcell hk hm IH
 have hone:Hid (∀ j,j<l.length*7→∃ v,w.cell? ⟨b,off+j,none⟩=some v∧v.oneCell'=true):=Ld (by
  intro j hj
  obtain⟨i,r,hi,hr,rfl⟩:=seven hj
  have c:=HCELL.out i hi
  rcases (show r=0∨r=1∨r=2∨r=3∨r=4∨r=5∨r=6 by omega) with rfl | rfl | rfl | rfl | rfl | rfl | rfl
  ·exact⟨_,c.1,rfl⟩
  ·exact⟨_,by rw[show off+(i*7+1)=off+i*7+1 by omega];exact c.2.1,rfl⟩
  ·exact⟨_,by rw[show off+(i*7+2)=off+i*7+2 by omega];exact c.2.2.1,rfl⟩
  ·exact⟨_,by rw[show off+(i*7+3)=off+i*7+3 by omega];exact c.2.2.2.1,rfl⟩
  ·exact⟨_,by rw[show off+(i*7+4)=off+i*7+4 by omega];exact c.2.2.2.2.1,rfl⟩
  ·obtain⟨a,n,c',hh⟩:=(HK.out i hi).slice
   exact⟨_,by rw[show off+(i*7+5)=off+i*7+5 by omega];exact c.2.2.2.2.2.1,by rw[hh];rfl⟩
  ·obtain⟨a,n,c',hh⟩:=(HM.out i hi).slice
   exact⟨_,by rw[show off+(i*7+6)=off+i*7+6 by omega];exact c.2.2.2.2.2.2,by rw[hh];rfl⟩)
 have bA:Blk ((w.alloc (.cells #[.int .i64 op,.string nm,.int .i64 N,.int .i64 ty.kind,.string ty.name,.slice ta tn tc,.slice (some ⟨b,off,none⟩) l.length cp] 27)).alloc Z7) w.heap.size 27 [.int .i64 op,.string nm,.int .i64 N,.int .i64 ty.kind,.string ty.name,.slice ta tn tc,.slice (some ⟨b,off,none⟩) l.length cp]:=(Blk.new w 27 _).alloc _
 have bR:Blk ((w.alloc (.cells #[.int .i64 op,.string nm,.int .i64 N,.int .i64 ty.kind,.string ty.name,.slice ta tn tc,.slice (some ⟨b,off,none⟩) l.length cp] 27)).alloc Z7) (w.heap.size+1) 27 z27:=Blk.new' 27 _ (by simp)
 have K0:Kept (fun _=>False) w ((w.alloc (.cells #[.int .i64 op,.string nm,.int .i64 N,.int .i64 ty.kind,.string ty.name,.slice ta tn tc,.slice (some ⟨b,off,none⟩) l.length cp] 27)).alloc Z7):=(kR.alloc _).alloc _
 have Z0:Hid (((w.alloc (.cells #[.int .i64 op,.string nm,.int .i64 N,.int .i64 ty.kind,.string ty.name,.slice ta tn tc,.slice (some ⟨b,off,none⟩) l.length cp] 27)).alloc Z7).heap.size=w.heap.size+2):=Ld (by simp)
 have HT0:=Ld (hcp ((w.alloc (.cells #[.int .i64 op,.string nm,.int .i64 N,.int .i64 ty.kind,.string ty.name,.slice ta tn tc,.slice (some ⟨b,off,none⟩) l.length cp] 27)).alloc Z7) ok (.slice ta tn tc) ((hty.frame (Same.alloc w (.cells #[.int .i64 op,.string nm,.int .i64 N,.int .i64 ty.kind,.string ty.name,.slice ta tn tc,.slice (some ⟨b,off,none⟩) l.length cp] 27))).frame (Same.alloc _ _)))
 clear hcp
 go_enter Tryz.func70,Tryz.ntmps70
 go_wp2_with fail
 refine HT0.out.mono ?_
 rintro e w1 ⟨tv,rfl,hT1,k1⟩
 obtain⟨va,vn,vc,rfl⟩:=hT1.slice
 unfold tyVal
 rw[Z0.out] at hT1
 have bA1:=bA.kept k1 (fun h=>h)
 have bR1:=bR.kept k1 (fun h=>h)
 have K1:=K0.trans k1
 have a0:w1.cell? ⟨w.heap.size,0,none⟩=some (.int .i64 op):=bA1.cell 0
 have a1:w1.cell? ⟨w.heap.size,1,none⟩=some (.string nm):=bA1.cell 1
 have a2:w1.cell? ⟨w.heap.size,2,none⟩=some (.int .i64 N):=bA1.cell 2
 have a3:w1.cell? ⟨w.heap.size,3,none⟩=some (.int .i64 ty.kind):=bA1.cell 3
 have a4:w1.cell? ⟨w.heap.size,4,none⟩=some (.string ty.name):=bA1.cell 4
 have a5:w1.cell? ⟨w.heap.size,5,none⟩=some (.slice ta tn tc):=bA1.cell 5
 have a6:w1.cell? ⟨w.heap.size,6,none⟩=some (.slice (some ⟨b,off,none⟩) l.length cp):=bA1.cell 6
 have fa3:=bA1.frozen 3
 have fa4:=bA1.frozen 4
 have fa5:=bA1.frozen 5
 have fa6:=bA1.frozen 6
 go_wp2_with fail
 have K1s:=(((K1.setCell (p:=⟨w.heap.size,3,none⟩) (Or.inr (by show w.heap.size≤w.heap.size;omega)) (.int .i64 ty.kind)).setCell (p:=⟨w.heap.size,4,none⟩) (Or.inr (by show w.heap.size≤w.heap.size;omega)) (.string ty.name)).setCell (p:=⟨w.heap.size,5,none⟩) (Or.inr (by show w.heap.size≤w.heap.size;omega)) (.slice va vn vc))
 refine (cloneTm_some b off l.length cp hn (fun j hj=>?_)).mono ?_
 ·obtain⟨v,hv,h1⟩:=hone.out j hj
  exact⟨v,by rw[K1s.cell (p:=⟨b,off+j,none⟩) (cell_lt hv) (fun h=>h)];exact hv,h1⟩
 rintro e w2 ⟨v,rfl,⟨g,cap,L,rfl,hcap,hg,hL,hLl,hLc⟩,k2⟩
 have hsz1:=K1.size
 have z1:=bR1.lt
 have hg1:w1.heap.size≤g:=by simpa [World.setCell] using hg
 have hg2:w.heap.size+2≤g:=Nat.le_trans z1 hg1
 have bA2:=(((bA1.set 3 (.int .i64 ty.kind)).set 4 (.string ty.name)).set 5 (.slice va vn vc)).kept k2 (fun h=>h)
 have bR2:=(((bR1.set_other _ _ (by show w.heap.size+1≠w.heap.size;omega)).set_other _ _ (by show w.heap.size+1≠w.heap.size;omega)).set_other _ _ (by show w.heap.size+1≠w.heap.size;omega)).kept k2 (fun h=>h)
 have K2:=K1s.trans k2
 have HT1:Hid (TyL bz (fun q=>w.heap.size+2≤q∧q≠g) w2 ty.kids (.slice va vn vc)):=Ld ((hT1.mono (ok':=fun q=>w.heap.size+2≤q∧q≠g) (fun q hq h=>⟨h,by omega⟩)).frame (Same.trans (Same.of_kept (S:=(·=w.heap.size)) ((((Kept.refl (fun x=>x=w.heap.size) w1).setCell (p:=⟨w.heap.size,3,none⟩) (Or.inl rfl) (.int .i64 ty.kind)).setCell (p:=⟨w.heap.size,4,none⟩) (Or.inl rfl) (.string ty.name)).setCell (p:=⟨w.heap.size,5,none⟩) (Or.inl rfl) (.slice va vn vc)) (fun q h e=>by omega)) (sK k2) (by simp[World.setCell])))
 have HLC:=Ld hLc
 have HLL:=Ld hLl
 have HG:=Ld hg2
 have HK1s:=Ld K1s
 clear a0 a1 a2 a3 a4 a5 a6 fa3 fa4 fa5 fa6 hLc hLl hg2 hg hg1 K1s hT1
 have a6:w2.cell? ⟨w.heap.size,6,none⟩=some (.slice (some ⟨b,off,none⟩) l.length cp):=bA2.cell 6
 have fa6:=bA2.frozen 6
 go_wp2_with (go_at_call 71;refine (clipTm_some _ g l.length cap hcap hn).mono ?_;rintro e w' ⟨rfl,rfl⟩)
 have c1:CJ bz w l [.int .i64 op,.string nm,.int .i64 N,.int .i64 ty.kind,.string ty.name,.slice va vn vc] l.length b off g 0 (w2.setCell ⟨w.heap.size,6,none⟩ (.slice (some ⟨g,0,none⟩) l.length l.length)):=by
  have hg:=HG.out
  refine⟨K2.setCell (p:=⟨w.heap.size,6,none⟩) (Or.inr (Nat.le_refl _)) _,bA2.set 6 _,bR2.set_other _ _ (by show w.heap.size+1≠w.heap.size;omega),L,K,M,hL.set_other _ _ (by show g≠w.heap.size;omega),HLL.out,fun j _ hj=>?_,fun i hi=>absurd hi (Nat.not_lt_zero _)⟩
  rw[HLC.out j hj]
  obtain⟨v,hv,_⟩:=hone.out j hj
  rw[HK1s.out.cell (p:=⟨b,off+j,none⟩) (cell_lt hv) (fun h=>h)]
 have HT2:Hid (TyL bz (fun q=>w.heap.size+2≤q∧q≠g) (w2.setCell ⟨w.heap.size,6,none⟩ (.slice (some ⟨g,0,none⟩) l.length l.length)) ty.kids (.slice va vn vc)):=Ld (HT1.out.frame (Same.of_kept (S:=(·=w.heap.size)) ((Kept.refl (fun x=>x=w.heap.size) w2).setCell (p:=⟨w.heap.size,6,none⟩) (Or.inl rfl) _) (fun q h e=>by omega)))
 have C1:=Ld c1
 clear c1 a6 fa6 bA1 bR1 bA bR hL bA2 bR2 K1 K2
 go_loopw [17] (fun i wr=>∃ k:Nat,k≤l.length∧i=.int .i64 k∧Hid (CJ bz w l [.int .i64 op,.string nm,.int .i64 N,.int .i64 ty.kind,.string ty.name,.slice va vn vc] l.length b off g k wr)∧Hid (TyL bz (fun q=>w.heap.size+2≤q∧q≠g) wr ty.kids (.slice va vn vc))) (fun i _=>l.length-(intOf i).toNat)
 case atStart=>exact⟨0,Nat.zero_le _,rfl,C1,HT2⟩
 case round=>
  obtain⟨k,hkl,rfl,HCI,HTk⟩:=hrel
  have hg:=HG.out
  have qA:=HCI.out.a
  have qR:=HCI.out.r
  have kp:=HCI.out.kp
  obtain⟨L,K',M',bG,hLn,hLo,hLd⟩:=HCI.out.row
  have HLo:=Ld hLo
  have HLd:=Ld hLd
  have HLn:=Ld hLn
  have BG:=Ld bG
  clear hLo hLd hLn bG
  by_cases hlt:k<l.length
  ·obtain⟨xa,xn,xc,hKk⟩:=(HK.out k hlt).slice
   obtain⟨ya,yn,yc,hMk⟩:=(HM.out k hlt).slice
   have c0:wr.cell? ⟨g,k*7,none⟩=some (.int .i64 l[k].op):=by
    rw[BG.out.cell,HLo.out (k*7) (by omega) (by omega)];exact (HCELL.out k hlt).1
   have c1:wr.cell? ⟨g,k*7+1,none⟩=some (.string l[k].name):=by
    rw[BG.out.cell,HLo.out (k*7+1) (by omega) (by omega)];exact (HCELL.out k hlt).2.1
   have c2:wr.cell? ⟨g,k*7+2,none⟩=some (.int .i64 l[k].n):=by
    rw[BG.out.cell,HLo.out (k*7+2) (by omega) (by omega)];exact (HCELL.out k hlt).2.2.1
   have c3:wr.cell? ⟨g,k*7+3,none⟩=some (.int .i64 l[k].ty.kind):=by
    rw[BG.out.cell,HLo.out (k*7+3) (by omega) (by omega)];exact (HCELL.out k hlt).2.2.2.1
   have c4:wr.cell? ⟨g,k*7+4,none⟩=some (.string l[k].ty.name):=by
    rw[BG.out.cell,HLo.out (k*7+4) (by omega) (by omega)];exact (HCELL.out k hlt).2.2.2.2.1
   have c5:wr.cell? ⟨g,k*7+5,none⟩=some (.slice xa xn xc):=by
    rw[BG.out.cell,HLo.out (k*7+5) (by omega) (by omega),← hKk];exact (HCELL.out k hlt).2.2.2.2.2.1
   have c6:wr.cell? ⟨g,k*7+6,none⟩=some (.slice ya yn yc):=by
    rw[BG.out.cell,HLo.out (k*7+6) (by omega) (by omega),← hMk];exact (HCELL.out k hlt).2.2.2.2.2.2
   have i1:(k:Int)<(l.length:Int):=by omega
   have a6:wr.cell? ⟨w.heap.size,6,none⟩=some (.slice (some ⟨g,0,none⟩) l.length l.length):=qA.cell 6
   have lA:=qA.lt
   have lG:=BG.out.lt
   have hcon:=Ld (HIH.out _ (List.getElem_mem hlt))
   have hty':Hid (TyL bz ok wr l[k].ty.kids (.slice xa xn xc)):=Ld (by rw[← hKk];exact (HK.out k hlt).frame (sK kp))
   have htm':Hid (TmL bz ok wr l[k].kids (.slice ya yn yc)):=Ld (by rw[← hMk];exact (HM.out k hlt).frame (sK kp))
   clear hKk hMk
   go_wp2_with fail
   have bX:Blk (wr.alloc (.cells #[.int .i64 l[k].op,.string l[k].name,.int .i64 l[k].n,.int .i64 l[k].ty.kind,.string l[k].ty.name,.slice xa xn xc,.slice ya yn yc] 27)) wr.heap.size 27 [.int .i64 l[k].op,.string l[k].name,.int .i64 l[k].n,.int .i64 l[k].ty.kind,.string l[k].ty.name,.slice xa xn xc,.slice ya yn yc]:=Blk.new wr 27 _
   have hAX:w.heap.size≠wr.heap.size:=by omega
   have hGX:g≠wr.heap.size:=by omega
   have hAG:g≠w.heap.size:=by omega
   refine wp_gen (F:=fun W3=>Kept (fun _=>False) wr W3∧Blk W3 wr.heap.size 27 [.int .i64 l[k].op,.string l[k].name,.int .i64 l[k].n,.int .i64 l[k].ty.kind,.string l[k].ty.name,.slice xa xn xc,.slice ya yn yc]∧wr.heap.size<W3.heap.size) ⟨kR.alloc _,bX,bX.lt⟩ ?_
   rintro W3 ⟨k3,b3,z3⟩
   have a3:W3.cell? ⟨w.heap.size,6,none⟩=some (.slice (some ⟨g,0,none⟩) l.length l.length):=(qA.kept k3 (fun h=>h)).cell 6
   have x0:W3.cell? ⟨wr.heap.size,0,none⟩=some (.int .i64 l[k].op):=b3.cell 0
   have x1:W3.cell? ⟨wr.heap.size,1,none⟩=some (.string l[k].name):=b3.cell 1
   have x2:W3.cell? ⟨wr.heap.size,2,none⟩=some (.int .i64 l[k].n):=b3.cell 2
   have x3:W3.cell? ⟨wr.heap.size,3,none⟩=some (.int .i64 l[k].ty.kind):=b3.cell 3
   have x4:W3.cell? ⟨wr.heap.size,4,none⟩=some (.string l[k].ty.name):=b3.cell 4
   have x5:W3.cell? ⟨wr.heap.size,5,none⟩=some (.slice xa xn xc):=b3.cell 5
   have x6:W3.cell? ⟨wr.heap.size,6,none⟩=some (.slice ya yn yc):=b3.cell 6
   have HC3:Hid (Calls Tryz.prog 70 #[.agg #[.int .i64 l[k].op,.string l[k].name,.int .i64 l[k].n,.int .i64 l[k].ty.kind,.string l[k].ty.name,.slice xa xn xc,.slice ya yn yc]] W3.drew fun e w'=>∃ v u,e=.returned (tmVal l[k] v u)∧TyL bz (fun q=>W3.heap.size≤q) w' l[k].ty.kids v∧TmL bz (fun q=>W3.heap.size≤q) w' l[k].kids u∧Kept (fun _=>False) W3 w'):=Ld ((hcon.out W3.drew ok (.slice xa xn xc) (.slice ya yn yc) ((hty'.out.frame (sK k3)).frame (Same.drew _)) ((htm'.out.frame (sK k3)).frame (Same.drew _))).mono fun e w' ⟨v,u,h1,h2,h3,h4⟩=>⟨v,u,h1,h2,h3,(kR.drew).trans h4⟩)
   have B3:=Ld b3
   have G3:=Ld (BG.out.kept k3 (fun h=>h))
   clear b3 bX c0 c1 c2 c3 c4 c5 c6 a6
   go_region_held3 (fun w'=>w'.cell? ⟨w.heap.size,6,none⟩=some (.slice (some ⟨g,0,none⟩) l.length l.length)∧w'.cell? ⟨wr.heap.size,0,none⟩=some (.int .i64 l[k].op)∧w'.cell? ⟨wr.heap.size,1,none⟩=some (.string l[k].name)∧w'.cell? ⟨wr.heap.size,2,none⟩=some (.int .i64 l[k].n)∧w'.cell? ⟨wr.heap.size,3,none⟩=some (.int .i64 l[k].ty.kind)∧w'.cell? ⟨wr.heap.size,4,none⟩=some (.string l[k].ty.name)∧w'.cell? ⟨wr.heap.size,5,none⟩=some (.slice xa xn xc)∧w'.cell? ⟨wr.heap.size,6,none⟩=some (.slice ya yn yc)) (go_keep)
    (first | (go_at_call 70;refine HC3.out.mono ?_;rintro e w4 ⟨v,u,rfl,hv,hu,k4⟩;obtain⟨va4,vn4,vc4,rfl⟩:=hv.slice;obtain⟨ua4,un4,uc4,rfl⟩:=hu.slice;unfold tmVal;have G4:=G3.out.kept k4 (fun h=>h);have y0:w4.cell? ⟨w.heap.size,6,none⟩=some (.slice (some ⟨g,0,none⟩) l.length l.length):=(by rw[k4.cell (p:=⟨w.heap.size,6,none⟩) (by show w.heap.size<_;omega) (fun h=>h)];exact a3);have y1:w4.cell? ⟨wr.heap.size,0,none⟩=some (.int .i64 l[k].op):=(B3.out.kept k4 (fun h=>h)).cell 0;have y2:w4.cell? ⟨wr.heap.size,1,none⟩=some (.string l[k].name):=(B3.out.kept k4 (fun h=>h)).cell 1;have y3:w4.cell? ⟨wr.heap.size,2,none⟩=some (.int .i64 l[k].n):=(B3.out.kept k4 (fun h=>h)).cell 2;have y4:w4.cell? ⟨wr.heap.size,3,none⟩=some (.int .i64 l[k].ty.kind):=(B3.out.kept k4 (fun h=>h)).cell 3;have y5:w4.cell? ⟨wr.heap.size,4,none⟩=some (.string l[k].ty.name):=(B3.out.kept k4 (fun h=>h)).cell 4;have y6:w4.cell? ⟨wr.heap.size,5,none⟩=some (.slice xa xn xc):=(B3.out.kept k4 (fun h=>h)).cell 5;have y7:w4.cell? ⟨wr.heap.size,6,none⟩=some (.slice ya yn yc):=(B3.out.kept k4 (fun h=>h)).cell 6;have t0:w4.cell? ⟨g,k*7,none⟩=some (L[k*7]'(by have:=HLn.out;omega)):=(by rw[G4.cell];exact List.getElem?_eq_getElem _);have t1:w4.cell? ⟨g,k*7+1,none⟩=some (L[k*7+1]'(by have:=HLn.out;omega)):=(by rw[G4.cell];exact List.getElem?_eq_getElem _);have t2:w4.cell? ⟨g,k*7+2,none⟩=some (L[k*7+2]'(by have:=HLn.out;omega)):=(by rw[G4.cell];exact List.getElem?_eq_getElem _);have t3:w4.cell? ⟨g,k*7+3,none⟩=some (L[k*7+3]'(by have:=HLn.out;omega)):=(by rw[G4.cell];exact List.getElem?_eq_getElem _);have t4:w4.cell? ⟨g,k*7+4,none⟩=some (L[k*7+4]'(by have:=HLn.out;omega)):=(by rw[G4.cell];exact List.getElem?_eq_getElem _);have t5:w4.cell? ⟨g,k*7+5,none⟩=some (L[k*7+5]'(by have:=HLn.out;omega)):=(by rw[G4.cell];exact List.getElem?_eq_getElem _);have t6:w4.cell? ⟨g,k*7+6,none⟩=some (L[k*7+6]'(by have:=HLn.out;omega)):=(by rw[G4.cell];exact List.getElem?_eq_getElem _);have f0:=G4.frozen (k*7);have f1:=G4.frozen (k*7+1);have f2:=G4.frozen (k*7+2);have f3:=G4.frozen (k*7+3);have f4:=G4.frozen (k*7+4);have f5:=G4.frozen (k*7+5);have f6:=G4.frozen (k*7+6)))
   have HST:=Ld (HCI.out.step hg hlt (k3.trans k4) (hv.mono (fun q _ h=>by omega)) (hu.mono (fun q _ h=>by omega)))
   have HTS:=Ld ((HTk.out.frame (sK (k3.trans k4))).frame (set7 (g:=g) (i0:=k*7) (i1:=k*7+1) (i2:=k*7+2) (i3:=k*7+3) (i4:=k*7+4) (i5:=k*7+5) (i6:=k*7+6) (x0:=.int .i64 l[k].op) (x1:=.string l[k].name) (x2:=.int .i64 l[k].n) (x3:=.int .i64 l[k].ty.kind) (x4:=.string l[k].ty.name) (x5:=.slice va4 vn4 vc4) (x6:=.slice ua4 un4 uc4) (fun q h=>h.2)))
   go_wp2_with fail
   go_roundw
   case rel=>exact⟨k+1,by omega,by go_num,HST,HTS⟩
   case measure=>simp[intOf];omega
  ·have hkk:k=l.length:=by omega
   subst hkk
   have a0:wr.cell? ⟨w.heap.size,0,none⟩=some (.int .i64 op):=qA.cell 0
   have a1:wr.cell? ⟨w.heap.size,1,none⟩=some (.string nm):=qA.cell 1
   have a2:wr.cell? ⟨w.heap.size,2,none⟩=some (.int .i64 N):=qA.cell 2
   have a3:wr.cell? ⟨w.heap.size,3,none⟩=some (.int .i64 ty.kind):=qA.cell 3
   have a4:wr.cell? ⟨w.heap.size,4,none⟩=some (.string ty.name):=qA.cell 4
   have a5:wr.cell? ⟨w.heap.size,5,none⟩=some (.slice va vn vc):=qA.cell 5
   have a6:wr.cell? ⟨w.heap.size,6,none⟩=some (.slice (some ⟨g,0,none⟩) l.length l.length):=qA.cell 6
   have r0:wr.cell? ⟨w.heap.size+1,0,none⟩=some (.int .i64 0):=qR.cell 0
   have f0:=qR.frozen 0
   have r1:wr.cell? ⟨w.heap.size+1,1,none⟩=some (.string ⟨#[]⟩):=qR.cell 1
   have f1:=qR.frozen 1
   have r2:wr.cell? ⟨w.heap.size+1,2,none⟩=some (.int .i64 0):=qR.cell 2
   have f2:=qR.frozen 2
   have r3:wr.cell? ⟨w.heap.size+1,3,none⟩=some (.int .i64 0):=qR.cell 3
   have f3:=qR.frozen 3
   have r4:wr.cell? ⟨w.heap.size+1,4,none⟩=some (.string ⟨#[]⟩):=qR.cell 4
   have f4:=qR.frozen 4
   have r5:wr.cell? ⟨w.heap.size+1,5,none⟩=some (.slice none 0 0):=qR.cell 5
   have f5:=qR.frozen 5
   have r6:wr.cell? ⟨w.heap.size+1,6,none⟩=some (.slice none 0 0):=qR.cell 6
   have f6:=qR.frozen 6
   have QR:=Ld qR
   have KP:=Ld kp
   clear qR kp qA
   go_wp2_with fail
   have bF:=r7 (x0:=.int .i64 op) (x1:=.string nm) (x2:=.int .i64 N) (x3:=.int .i64 ty.kind) (x4:=.string ty.name) (x5:=.slice va vn vc) (x6:=.slice (some ⟨g,0,none⟩) l.length l.length) QR.out rfl
   refine bodyPost_ret (results_one Tryz.results70 rfl (load_tm (t:=.mk op nm N ty l) bF)) rfl ⟨_,g,_,rfl,Nat.le_refl _,by omega,?_,?_,?_⟩
   ·exact (HTk.out.frame (set7 (g:=w.heap.size+1) (fun q h=>by omega))).mono (fun q _ h=>⟨by omega,h.2⟩)
   ·obtain⟨L,K',M',bG,hLn,hLo,hLd⟩:=HCI.out.row
    have bG':=(((((((bG.set_other ⟨w.heap.size+1,0,none⟩ (.int .i64 op) (by show g≠w.heap.size+1;omega)).set_other ⟨w.heap.size+1,1,none⟩ (.string nm) (by show g≠w.heap.size+1;omega)).set_other ⟨w.heap.size+1,2,none⟩ (.int .i64 N) (by show g≠w.heap.size+1;omega)).set_other ⟨w.heap.size+1,3,none⟩ (.int .i64 ty.kind) (by show g≠w.heap.size+1;omega)).set_other ⟨w.heap.size+1,4,none⟩ (.string ty.name) (by show g≠w.heap.size+1;omega)).set_other ⟨w.heap.size+1,5,none⟩ (.slice va vn vc) (by show g≠w.heap.size+1;omega)).set_other ⟨w.heap.size+1,6,none⟩ (.slice (some ⟨g,0,none⟩) l.length l.length) (by show g≠w.heap.size+1;omega))
    refine⟨⟨L,K',M',bG',hLn,fun i hi=>?_⟩⟩
    obtain⟨e0,e1,e2,e3,e4,e5,e6,e7,e8⟩:=hLd i hi hi
    exact⟨e0,e1,e2,e3,e4,e5,e6,(e7.frame (set7 (g:=w.heap.size+1) (fun q h=>by omega))).mono (fun q _ h=>⟨by omega,h.2⟩),(e8.frame (set7 (g:=w.heap.size+1) (fun q h=>by omega))).mono (fun q _ h=>⟨by omega,h.2⟩)⟩
   ·exact (((((((KP.out.setCell (p:=⟨w.heap.size+1,0,none⟩) (Or.inr (by show w.heap.size≤w.heap.size+1;omega)) _).setCell (p:=⟨w.heap.size+1,1,none⟩) (Or.inr (by show w.heap.size≤w.heap.size+1;omega)) _).setCell (p:=⟨w.heap.size+1,2,none⟩) (Or.inr (by show w.heap.size≤w.heap.size+1;omega)) _).setCell (p:=⟨w.heap.size+1,3,none⟩) (Or.inr (by show w.heap.size≤w.heap.size+1;omega)) _).setCell (p:=⟨w.heap.size+1,4,none⟩) (Or.inr (by show w.heap.size≤w.heap.size+1;omega)) _).setCell (p:=⟨w.heap.size+1,5,none⟩) (Or.inr (by show w.heap.size≤w.heap.size+1;omega)) _).setCell (p:=⟨w.heap.size+1,6,none⟩) (Or.inr (by show w.heap.size≤w.heap.size+1;omega)) _)
theorem clone_kids {t:Tm} (hb:BdTm t) (hne:t.kids≠[]) {w:World} {ok:Nat→Prop} {tk kk:Value} (h:TyL bz ok w t.ty.kids tk) (h':TmL bz ok w t.kids kk):Calls Tryz.prog 70 #[tmVal t tk kk] w (ClP2 bz t w):=by
 obtain⟨op,nm,N,ty,l⟩:=t
 cases hb with
 | mk hn ht hl=>
  obtain⟨ta,tn,tc,rfl⟩:=h.slice
  cases h' with
  | nil h'=>exact absurd rfl hne
  | mk K M hne hb hc hcell hk hm hs2=>exact clone_some2 (copyTy_any ht) h (fun t ht=>clone_any (hl t ht)) hn K M hcell hk hm
theorem RowT.krow {w wr:World} {base:Nat} {E:List E3} {v:Value} (h:RowT bz w base wr E v) (hne:E≠[]):∃ g c,v=.slice (some ⟨g,0,none⟩) E.length c∧base≤g∧E.length≤c∧KRow bz wr base g (E.map (·.1)):=by
 rcases h.own.2 with ⟨_,hn⟩ | ⟨g,cap,cur,hv,hbg,hg,hnc,hcm,hcs,htake⟩
 ·exact absurd (List.length_eq_zero_iff.1 hn) hne
 ·have hE:=h.el
  subst hv
  have hb:Blk wr g 27 cur.toList:=by show wr.heap[g]?=_;rw[hg]
  have hlen:E.length*7≤cur.toList.length:=by
   have:=congrArg List.length htake
   rw[List.length_take,flat_len] at this
   omega
  have hget:∀ i (h:i<E.length) (r:Nat),r<7→cur.toList[i*7+r]?=(tmCells E[i].1 E[i].2.1 E[i].2.2)[r]?:=by
   intro i hi r hr
   have h1:=flat_get E i r hi hr
   rw[← htake,List.getElem?_take,if_pos (by omega)] at h1
   exact h1
  have iv:Inhabited E3:=⟨(.mk 0 ⟨#[]⟩ 0 ty0 [],.slice none 0 0,.slice none 0 0)⟩
  refine⟨g,cap,rfl,hbg,hnc,⟨⟨cur.toList,fun i=>E[i]!.2.1,fun i=>E[i]!.2.2,hb,by simpa using hlen,fun i hi=>?_⟩⟩⟩
  have hi':i<E.length:=by simpa using hi
  have e1:(E.map (·.1))[i]=E[i].1:=by simp
  have e2:E[i]! = E[i]:=getElem!_pos E i hi'
  have hm:=hE _ (List.getElem_mem hi')
  rw[e1]
  simp only[e2]
  exact⟨hget i hi' 0 (by decide),hget i hi' 1 (by decide),hget i hi' 2 (by decide),hget i hi' 3 (by decide),hget i hi' 4 (by decide),hget i hi' 5 (by decide),hget i hi' 6 (by decide),hm.1.mono (fun q _ h=>⟨h.1,fun e=>h.2 (by rw[e];rfl)⟩),hm.2.mono (fun q _ h=>⟨h.1,fun e=>h.2 (by rw[e];rfl)⟩)⟩
theorem remG_once (x:ByteArray) (F:List ByteArray):∀ (l out:List (ByteArray×Tm)),(∀ b∈out,look out b.1=some b.2)→∀ b∈remG x F out l,look (remG x F out l) b.1=some b.2
 | [],out,h=>by rw[remG];exact h
 | b::l,out,h=>by
  rw[remG]
  split
  ·exact remG_once x F l out h
  ·rename_i hc
   refine remG_once x F l (out++[b]) (fun c hcm=>?_)
   simp only[Bool.or_eq_true,not_or,Bool.not_eq_true] at hc
   have hn:look out b.1=none:=by
    cases hl:look out b.1 with
    | none=>rfl
    | some u=>rw[hl] at hc;exact absurd hc.1.1 (by simp)
   rw[look_app]
   rcases List.mem_append.1 hcm with hcm | hcm
   ·rw[h c hcm]
   ·rw[List.mem_singleton.1 hcm,hn]
    simp[look]
theorem frB_look {l:List (ByteArray×Tm)} (h:∀ b∈l,look l b.1=some b.2) (x:ByteArray):mb x (frB l)=true↔∃ s u,look l s=some u∧mb x (fr u)=true:=by
 constructor
 ·intro hx
  have key:∀ (r:List (ByteArray×Tm)),mb x (frB r)=true→∃ b∈r,mb x (fr b.2)=true:=by
   intro r
   induction r with
   | nil=>intro h;cases h
   | cons b r ih=>
    intro h
    rw[frB,mb_app,Bool.or_eq_true] at h
    rcases h with h | h
    ·exact⟨b,by simp,h⟩
    ·obtain⟨c,hc,hx⟩:=ih h
     exact⟨c,List.mem_cons_of_mem _ hc,hx⟩
  obtain⟨b,hb,hx⟩:=key l hx
  exact⟨b.1,b.2,h b hb,hx⟩
 ·rintro⟨s,u,hs,hx⟩
  rw[mb_iff] at hx ⊢
  exact frB_mem hs hx
theorem rem_und {l:List (ByteArray×Tm)} {σ:ByteArray→Option Tm} (h:∀ s,look l s=σ s) (x:ByteArray) (y:Tm) (s:ByteArray):look (remL l x (fr y)) s=undF x (fun s=>mb s (fr y)) σ s:=by
 rw[remL_look,h]
 unfold undF
 by_cases hx:s=x
 ·simp[hx]
 ·cases hm:mb s (fr y) <;> simp[hx,hm]
theorem rem_caught {l:List (ByteArray×Tm)} {σ:ByteArray→Option Tm} (h:∀ s,look l s=σ s) (x:ByteArray) (y:Tm) (z:ByteArray):mb z (frB (remL l x (fr y)))=true↔∃ s u,undF x (fun s=>mb s (fr y)) σ s=some u∧mb z (fr u)=true:=by
 have h0:∀ b∈remL l x (fr y),look (remL l x (fr y)) b.1=some b.2:=remG_once x (fr y) l [] (fun b hb=>by cases hb)
 rw[frB_look h0]
 constructor
 ·rintro⟨s,u,hs,hz⟩;exact⟨s,u,by rw[← rem_und h];exact hs,hz⟩
 ·rintro⟨s,u,hs,hz⟩;exact⟨s,u,by have:=rem_und h x y s;rw[hs] at this;exact this,hz⟩
theorem look_none {l:List (ByteArray×Tm)} (h:∀ s,look l s=none):l=[]:=by
 cases l with
 | nil=>rfl
 | cons b l=>have:=h b.1;rw[look,if_pos rfl] at this;cases this
structure KP (bz:Nat) (W:World) (base g n:Nat) (R:Nat→Option Tm):Prop where
 row:∃ (L:List Value) (K M:Nat→Value),Blk W g 27 L∧L.length=n*7∧∀ i,i<n→∀ u,R i=some u→L[i*7]?=some (.int .i64 u.op)∧L[i*7+1]?=some (.string u.name)∧L[i*7+2]?=some (.int .i64 u.n)∧L[i*7+3]?=some (.int .i64 u.ty.kind)∧L[i*7+4]?=some (.string u.ty.name)∧L[i*7+5]?=some (K i)∧L[i*7+6]?=some (M i)∧TyL bz (fun q=>base≤q∧q≠g) W u.ty.kids (K i)∧TmL bz (fun q=>base≤q∧q≠g) W u.kids (M i)
theorem KP.kept {W W':World} {base g n:Nat} {R:Nat→Option Tm} (h:KP bz W base g n R) {S:Nat→Prop} (k:Kept S W W') (h1:¬ S g) (h2:∀ q,base≤q→q≠g→¬ S q):KP bz W' base g n R:=by
 obtain⟨L,K,M,bG,hL,hR⟩:=h.row
 refine⟨⟨L,K,M,bG.kept k h1,hL,fun i hi u hu=>?_⟩⟩
 obtain⟨e0,e1,e2,e3,e4,e5,e6,e7,e8⟩:=hR i hi u hu
 exact⟨e0,e1,e2,e3,e4,e5,e6,e7.frame (Same.of_kept k (fun q hq=>h2 q hq.1 hq.2)),e8.frame (Same.of_kept k (fun q hq=>h2 q hq.1 hq.2))⟩
theorem KP.lt {W:World} {base g n:Nat} {R:Nat→Option Tm} (h:KP bz W base g n R):g<W.heap.size:=by obtain⟨L,K,M,bG,_⟩:=h.row;exact bG.lt
theorem KP.frozen {W:World} {base g n:Nat} {R:Nat→Option Tm} (h:KP bz W base g n R):∀ i,W.frozen? ⟨g,i,none⟩=false:=by obtain⟨L,K,M,bG,_⟩:=h.row;exact bG.frozen
theorem KP.there {W:World} {base g n:Nat} {R:Nat→Option Tm} (h:KP bz W base g n R) {i:Nat} (hi:i<n*7):∃ v,W.cell? ⟨g,i,none⟩=some v:=by
 obtain⟨L,K,M,bG,hL,_⟩:=h.row
 exact⟨L[i],by rw[bG.cell,List.getElem?_eq_getElem]⟩
theorem KP.lay {W:World} {base g n j:Nat} (h:KP bz W base g n (fun _=>none)) (hj:j<n) (x0 x1 x2 x3 x4 x5 x6:Value) (W3:World)
  (hW:W3=((((((W.setCell ⟨g,j*7,none⟩ x0).setCell ⟨g,j*7+1,none⟩ x1).setCell ⟨g,j*7+2,none⟩ x2).setCell ⟨g,j*7+3,none⟩ x3).setCell ⟨g,j*7+4,none⟩ x4).setCell ⟨g,j*7+5,none⟩ x5).setCell ⟨g,j*7+6,none⟩ x6):KP bz W3 base g n (fun _=>none):=by
 obtain⟨L,K,M,bG,hL,hR⟩:=h.row
 subst hW
 exact⟨⟨_,K,M,(((((((bG.set _ _).set _ _).set _ _).set _ _).set _ _).set _ _).set _ _),by simpa using hL,fun i hi u hu=>by cases hu⟩⟩
theorem KP.put {W:World} {base g n j:Nat} {R:Nat→Option Tm} {u:Tm} {v x:Value} (h:KP bz W base g n R) (hj:j<n) (hv:TyL bz (fun q=>base≤q∧q≠g) W u.ty.kids v) (hx:TmL bz (fun q=>base≤q∧q≠g) W u.kids x) (W3:World)
  (hW:W3=((((((W.setCell ⟨g,j*7,none⟩ (.int .i64 u.op)).setCell ⟨g,j*7+1,none⟩ (.string u.name)).setCell ⟨g,j*7+2,none⟩ (.int .i64 u.n)).setCell ⟨g,j*7+3,none⟩ (.int .i64 u.ty.kind)).setCell ⟨g,j*7+4,none⟩ (.string u.ty.name)).setCell ⟨g,j*7+5,none⟩ v).setCell ⟨g,j*7+6,none⟩ x):KP bz W3 base g n (fun i=>if i=j then some u else R i):=by
 obtain⟨L,K,M,bG,hL,hR⟩:=h.row
 subst hW
 refine⟨⟨((((((L.set (j*7) (.int .i64 u.op)).set (j*7+1) (.string u.name)).set (j*7+2) (.int .i64 u.n)).set (j*7+3) (.int .i64 u.ty.kind)).set (j*7+4) (.string u.ty.name)).set (j*7+5) v).set (j*7+6) x,fun i=>if i=j then v else K i,fun i=>if i=j then x else M i,
  (((((((bG.set _ _).set _ _).set _ _).set _ _).set _ _).set _ _).set _ _),by simpa using hL,fun i hi t ht=>?_⟩⟩
 by_cases hij:i=j
 ·subst hij
  simp only[if_true,Option.some.injEq] at ht ⊢
  subst ht
  refine⟨?_,?_,?_,?_,?_,?_,?_,?_,?_⟩
  ·rw[List.getElem?_set_ne (by omega),List.getElem?_set_ne (by omega),List.getElem?_set_ne (by omega),List.getElem?_set_ne (by omega),List.getElem?_set_ne (by omega),List.getElem?_set_ne (by omega),List.getElem?_set_self (by omega)]
  ·rw[List.getElem?_set_ne (by omega),List.getElem?_set_ne (by omega),List.getElem?_set_ne (by omega),List.getElem?_set_ne (by omega),List.getElem?_set_ne (by omega),List.getElem?_set_self (by simp;omega)]
  ·rw[List.getElem?_set_ne (by omega),List.getElem?_set_ne (by omega),List.getElem?_set_ne (by omega),List.getElem?_set_ne (by omega),List.getElem?_set_self (by simp;omega)]
  ·rw[List.getElem?_set_ne (by omega),List.getElem?_set_ne (by omega),List.getElem?_set_ne (by omega),List.getElem?_set_self (by simp;omega)]
  ·rw[List.getElem?_set_ne (by omega),List.getElem?_set_ne (by omega),List.getElem?_set_self (by simp;omega)]
  ·rw[List.getElem?_set_ne (by omega),List.getElem?_set_self (by simp;omega)]
  ·rw[List.getElem?_set_self (by simp;omega)]
  ·exact hv.frame (set7 (fun q h=>h.2))
  ·exact hx.frame (set7 (fun q h=>h.2))
 ·simp only[if_neg hij] at ht ⊢
  obtain⟨e0,e1,e2,e3,e4,e5,e6,e7,e8⟩:=hR i hi t ht
  refine⟨?_,?_,?_,?_,?_,?_,?_,e7.frame (set7 (fun q h=>h.2)),e8.frame (set7 (fun q h=>h.2))⟩
  all_goals (rw[List.getElem?_set_ne (by omega),List.getElem?_set_ne (by omega),List.getElem?_set_ne (by omega),List.getElem?_set_ne (by omega),List.getElem?_set_ne (by omega),List.getElem?_set_ne (by omega),List.getElem?_set_ne (by omega)];assumption)
theorem KP.krow {W:World} {base g:Nat} {l:List Tm} {R:Nat→Option Tm} (h:KP bz W base g l.length R) (hR:∀ i (hi:i<l.length),R i=some l[i]):KRow bz W base g l:=by
 obtain⟨L,K,M,bG,hL,h1⟩:=h.row
 exact⟨⟨L,K,M,bG,by omega,fun i hi=>h1 i hi _ (hR i hi)⟩⟩
end Go.Proofs.YtdmebjbkccjhbaaGreatDoor
namespace Go.Proofs.YtdmebjbkccjhbaaGreatDoor
open Go.RowKit Go.Maps Go.Sort Go.Shelf
def keysA_ren:Go.Shelf.Ren:=⟨fun | 7=>43 | 10=>90 | n=>n,fun | 23=>69 | 26=>9 | 3=>4 | 28=>67 | 0=>0 | 27=>66 | 33=>32 | 4=>4 | n=>n,fun | n=>n⟩
def collA_ren:Go.Shelf.Ren:=⟨fun | 8=>88 | 11=>142 | n=>n,fun | 26=>9 | 28=>67 | 24=>28 | 0=>0 | 33=>32 | 4=>4 | n=>n,fun | n=>n⟩
theorem keysA:SlLaysZ.n7 Tryz.prog keysA_ren:={
 mixed:=by kernel_rfl
 f7 := ⟨"maps.Keys[map[string]bool,string,bool]", by decide, Tryz.func43.trans (congrArg some (by kernel_rfl))⟩
 f10 := ⟨"maps.Keys[map[string]bool,string,bool]$1", by decide, Tryz.func90.trans (congrArg some (by kernel_rfl))⟩
 t0:=Tryz.underlying0,a0:=Tryz.isAgg0,z0:=Tryz.sizeOf0,v0:=Tryz.zeroValue0
 t4:=Tryz.underlying4,a4:=Tryz.isAgg4,z4:=Tryz.sizeOf4,v4:=Tryz.zeroValue4
 t23:=Tryz.underlying69,a23:=Tryz.isAgg69,z23:=Tryz.sizeOf69,v23:=Tryz.zeroValue69
 t26:=Tryz.underlying9,a26:=Tryz.isAgg9,z26:=Tryz.sizeOf9,v26:=Tryz.zeroValue9
 t27:=Tryz.underlying66,a27:=Tryz.isAgg66,z27:=Tryz.sizeOf66,v27:=Tryz.zeroValue66
 t28:=Tryz.underlying67,a28:=Tryz.isAgg67,z28:=Tryz.sizeOf67,v28:=Tryz.zeroValue67
 t33:=Tryz.underlying32,a33:=Tryz.isAgg32,z33:=Tryz.sizeOf32,v33:=Tryz.zeroValue32 }
theorem collA:SlLaysZ.n8 Tryz.prog collA_ren:={
 mixed:=by kernel_rfl
 f8 := ⟨"slices.Collect[string]", by decide, Tryz.func88.trans (congrArg some (by kernel_rfl))⟩
 f11 := ⟨"slices.AppendSeq[[]string,string]", by decide, Tryz.func142.trans (congrArg some (by kernel_rfl))⟩
 t0:=Tryz.underlying0,a0:=Tryz.isAgg0,z0:=Tryz.sizeOf0,v0:=Tryz.zeroValue0
 t24:=Tryz.underlying28,a24:=Tryz.isAgg28,z24:=Tryz.sizeOf28,v24:=Tryz.zeroValue28
 t26:=Tryz.underlying9,a26:=Tryz.isAgg9,z26:=Tryz.sizeOf9,v26:=Tryz.zeroValue9
 t28:=Tryz.underlying67,a28:=Tryz.isAgg67,z28:=Tryz.sizeOf67,v28:=Tryz.zeroValue67
 i26:=by kernel_rfl }
theorem keys_any (mb:Option Nat) (W:World):Calls Tryz.prog 43 #[.map mb] W fun e w'=>e=.returned (.func (.func 90) #[] #[.pointer (some ⟨W.heap.size,0,none⟩)])∧w'=W.alloc (.cells #[.map mb] 69):=
 (callsIn_wide (n:=5)).1 (AnyZ.keys_in keysA Fence.wide 5 trivial rfl mb W)
theorem mem_strKeys {w:World} {p n:Nat} {R:Value→Option (DataW Value×List MemPlace)} {D:DataW Value} (h:w.ownsMap Tryz.prog 9 R p n D) (x:List UInt8):x∈strKeys D↔Maps.has D (.string x)=true:=by
 obtain⟨es,rfl,hko⟩:=h.keysOf
 rw[Maps.has_eq,List.any_eq_true]
 show x∈es.map (fun p=>Go.strOf p.1)↔_
 rw[List.mem_map]
 constructor
 ·rintro⟨q,hq,rfl⟩
  obtain⟨v,hv⟩:=hko q hq
  obtain⟨y,_,hy,_⟩:=Maps.keyOf_str Tryz.underlying9 hv
  exact⟨q,hq,by rw[hy];simp[Lit.sameKey,Go.strOf]⟩
 ·rintro⟨q,hq,hs⟩
  obtain⟨v,hv⟩:=hko q hq
  obtain⟨y,_,hy,_⟩:=Maps.keyOf_str Tryz.underlying9 hv
  rw[hy] at hs
  exact⟨q,hq,by rw[hy];simpa [Lit.sameKey,Go.strOf] using hs⟩
theorem strKeys_size {w:World} {p n:Nat} {R:Value→Option (DataW Value×List MemPlace)} {D:DataW Value} (h:w.ownsMap Tryz.prog 9 R p n D):(strKeys D).length≤n:=by
 have h1:=h.size_le
 obtain⟨es,rfl,hko⟩:=h.keysOf
 rw[Maps.size_eq] at h1
 simpa [strKeys] using h1
theorem collect_any {w:World} {p n Bm:Nat} {B:ByteArray→Bool} (hM:MapF w p n (bagF B)) (hn:n≤800000) (hBm:Bm<w.heap.size) (hbox:w.cell? ⟨Bm,0,none⟩=some (.map (some p))):
  Calls Tryz.prog 88 #[.func (.func 90) #[] #[.pointer (some ⟨Bm,0,none⟩)]] w fun e w'=>∃ (l:List ByteArray) (v:Value),e=.returned v∧(∀ s,mb s l=B s)∧l.length≤n∧NRow w w.heap.size w' l v:=by
 obtain⟨D,hD,hf⟩:=hM
 have hs:=hD.size_le
 have hseq:SeqGives Fence.wide 3 Tryz.prog 90 #[.pointer (some ⟨Bm,0,none⟩)] encStr (fun ss=>ss.Perm (strKeys D)) (Maps.size D) w:=
  AnyZ.keys_gives (ρ:=keysA_ren) { keysA with } Fence.wide 3 trivial rfl (by omega) Bm p n D w hBm hbox hD
 have h:=AnyZ.collect_in collA Fence.wide 5 trivial trivial rfl (by omega) 90 #[.pointer (some ⟨Bm,0,none⟩)] trivial (enters_of Tryz.func90 (by kernel_rfl) rfl) (fun ss=>ss.Perm (strKeys D)) (Maps.size D) (by unfold maxLen;omega) (by omega) w hseq
 refine ((callsIn_wide (n:=5)).1 h).mono ?_
 rintro e w' ⟨v,ss,rfl,hp,hrow,_,hb⟩
 refine⟨ss.map (fun x=>⟨x.toArray⟩),v,rfl,fun s=>?_,?_,Kept.of_below hb,?_⟩
 ·rw[Bool.eq_iff_iff,mb_iff,List.mem_map]
  have h1:(bagF B s).isSome=B s:=by unfold bagF;cases B s <;> rfl
  rw[← h1,← hf.has s]
  unfold kL
  rw[← mem_strKeys hD,← hp.mem_iff]
  constructor
  ·rintro⟨x,hx,rfl⟩;simpa using hx
  ·intro hx;exact⟨_,hx,by simp⟩
 ·rw[List.length_map,hp.length_eq];exact strKeys_size hD
 ·rw[List.length_map,List.map_map];exact hrow
end Go.Proofs.YtdmebjbkccjhbaaGreatDoor
namespace Go.Proofs.YtdmebjbkccjhbaaGreatDoor
open Go.RowKit
variable {bz:Nat}
theorem bagF_some (B:ByteArray→Bool) (s:ByteArray):(bagF B s).isSome=B s:=by unfold bagF;cases B s <;> rfl
theorem copyM_any {w:World} {d c m n:Nat} {B C:ByteArray→Bool} (hd:MapF w d m (bagF B)) (hc:MapF w c n (bagF C)) (hdc:d≠c) (hb:m+n≤1000000):
  Calls Tryz.prog 149 #[.map (some d),.map (some c)] w fun e w'=>e=.returned (.tuple #[])∧MapF w' d (m+n) (bagF (fun s=>B s||C s))∧Kept (fun q=>q=d) w w':=by
 have HD:=Ld hd
 have HC:=Ld hc
 have HL:Hid (d<w.heap.size∧c<w.heap.size∧d≠c):=Ld ⟨hd.lt,hc.lt,hdc⟩
 have HB:=Ld hb
 clear hd hc hdc hb
 go_enter Tryz.func149,Tryz.ntmps149
 go_wp2_with (at_range;refine wpList_rangeF rfl _ _ 4 rfl u90 rfl HC.out ?_;intro w2 cnt hR k2 z2 hcn)
 have HR:=Ld hR
 have HCN:=Ld hcn
 have M2:=Ld (HD.out.kept k2 (fun e=>e))
 have K2:Hid (Kept (fun q=>q=d) w w2):=Ld (k2.mono (fun _ _ e=>e.elim))
 clear hR k2 z2 hcn
 go_frame
 go_loopw [] (fun wr=>∃ (cnt' k:Nat) (g:ByteArray→Bool),Kept (fun q=>q=d) w wr∧MapR wr c w.heap.size n (bagF C) g cnt'∧cnt'+k≤cnt∧(∀ s,g s=true→C s=true)∧MapF wr d (m+k) (bagF (fun s=>B s||(C s&&!g s)))) (fun wr=>wr.rangeLeft c w.heap.size)
 case atStart=>
  refine⟨cnt,0,fun s=>(bagF C s).isSome,K2.out,HR.out,Nat.le_refl _,fun s h=>by have h2:(bagF C s).isSome=true:=h;rw[bagF_some] at h2;exact h2,?_⟩
  have e:(fun s=>B s||(C s&&!(bagF C s).isSome))=B:=by funext s;rw[bagF_some];cases B s <;> cases C s <;> rfl
  rw[e]
  exact M2.out
 case round=>
  obtain⟨cnt',k,g,hk,hR',hle,hgs,hM⟩:=hrel
  have HK:=Ld hk
  have HRR:=Ld hR'
  have HM:=Ld hM
  have HLE:=Ld hle
  have HGS:=Ld hgs
  clear hk hR' hle hM hgs HR M2 K2
  go_wp2_with (at_next;refine wpList_nextF rfl _ rfl rfl HRR.out ?_ ?_)
  ·intro h0
   have HE:Hid (MapF wr d (m+n) (bagF (fun s=>B s||C s))):=Ld (by
    have e:(fun s=>B s||(C s&&!g s))=fun s=>B s||C s:=by
     funext s
     cases hg:g s with
     | false=>simp
     | true=>
      have hc:=HGS.out s hg
      rw[h0 s (HRR.out.map.small (by rw[bagF_some];exact hc))] at hg
      cases hg
    rw[← e]
    exact HM.out.mono (by have:=HLE.out;have:=HCN.out;omega))
   go_wp2_with fail
   go_end0
   exact⟨rfl,HE.out,HK.out⟩
  ·intro s v w3 cnt3 hs hg hfs hR3 hlt k3 z3 hen
   have hCs:=HGS.out s hg
   obtain rfl:v=.bool true:=by
    unfold bagF at hfs
    rw[hCs] at hfs
    simpa using hfs.symm
   have HLO:=Ld HRR.out.left
   have KW3:=Ld (HK.out.via1 k3 (fun q hq e=>by omega))
   have M3:=Ld (HM.out.kept k3 (fun e=>by have:=HL.out.1;omega))
   have HR3:=Ld hR3
   have HLT:=Ld hlt
   have HS:=Ld hs
   have HG:=Ld hg
   have HCS:=Ld hCs
   have HGN:Hid (∀ t,(g t&&!decide (t=s))=true→C t=true):=Ld (fun t ht=>HGS.out t (by rw[Bool.and_eq_true] at ht;exact ht.1))
   have HST:Hid (updF (bagF (fun t=>B t||(C t&&!g t))) s (.bool true)=bagF (fun t=>B t||(C t&&!(g t&&!decide (t=s))))):=Ld (by
    rw[bagF_upd]
    congr 1
    funext t
    by_cases ht:t=s
    ·subst ht;simp[HCS.out]
    ·simp[ht])
   have HNK:Hid (m+k<maxLen):=Ld (by have:=HLE.out;have:=HCN.out;have:=HB.out;unfold maxLen;omega)
   clear k3 hR3 hlt hg hfs hs HRR HM hCs HGS
   go_wp2_with (at_mapUpdate;refine wpList_storeF rfl _ _ _ _ 4 rfl u90 rfl M3.out s rfl HS.out HNK.out (.bool true) rfl ?_;intro w5 hm5 k5;clear hen)
   rw[HST.out] at hm5
   have KW5:=Ld (KW3.out.trans k5)
   have HR5:=Ld (HR3.out.kept k5 (fun e=>HL.out.2.2 e.symm) (fun e=>by have:=HL.out.1;omega))
   have HM5:=Ld hm5
   clear hm5 k5
   go_wp2_with fail
   go_frame
   go_roundw
   case rel=>exact⟨cnt3,k+1,_,KW5.out,HR5.out,by have:=HLE.out;have:=HLT.out;omega,HGN.out,HM5.out⟩
   case measure=>rw[HR5.out.left,HLO.out];exact HLT.out
theorem format_ok {t:Tm} {out:List UInt8} {ok:Nat→Prop} {w:World} {ta:Option Addr} {tn tc:Nat} {ma:Option Addr} {mn mc:Nat} (hty:TyL bz ok w t.ty.kids (.slice ta tn tc)) (htm:TmL bz ok w t.kids (.slice ma mn mc)) (hp:PC bz t out) (hv:validB t=true) (hs:SmTm big t) (h0:out≠[]) (hlen:out.length≤1000000000):
  Calls Tryz.prog 33 #[.agg #[.int .i64 t.op,.string t.name,.int .i64 t.n,.int .i64 t.ty.kind,.string t.ty.name,.slice ta tn tc,.slice ma mn mc]] w fun e w'=>e=.returned (.string ⟨out.toArray⟩)∧Kept (fun _=>False) w w':=by
 have K0:Kept (fun _=>False) w (w.alloc (.cells #[.int .i64 t.op,.string t.name,.int .i64 t.n,.int .i64 t.ty.kind,.string t.ty.name,.slice ta tn tc,.slice ma mn mc] 27)):=kR.alloc _
 have bX:Blk (w.alloc (.cells #[.int .i64 t.op,.string t.name,.int .i64 t.n,.int .i64 t.ty.kind,.string t.ty.name,.slice ta tn tc,.slice ma mn mc] 27)) w.heap.size 27 (tmCells t (.slice ta tn tc) (.slice ma mn mc)):=Blk.new w 27 _
 have HV:=Ld (valid_any (hty.frame (Same.alloc w (.cells #[.int .i64 t.op,.string t.name,.int .i64 t.n,.int .i64 t.ty.kind,.string t.ty.name,.slice ta tn tc,.slice ma mn mc] 27))) (htm.frame (Same.alloc w (.cells #[.int .i64 t.op,.string t.name,.int .i64 t.n,.int .i64 t.ty.kind,.string t.ty.name,.slice ta tn tc,.slice ma mn mc] 27))) hs)
 have HP:=Ld hp
 have H0:=Ld h0
 have HL:=Ld hlen
 clear hp h0 hlen hs
 go_enter Tryz.func33,Tryz.ntmps33
 go_wp2_with fail
 refine HV.out.mono ?_
 rintro e w1 ⟨rfl,k1⟩
 rw[hv]
 have K1:=K0.trans k1
 have b1:=bX.kept k1 (fun h=>h)
 have bB:Blk (w1.alloc (.cells #[.pointer none,.slice none 0 0] 107)) w1.heap.size 107 [.pointer none,.slice none 0 0]:=Blk.new w1 107 _
 have K2:Kept (fun _=>False) w1 (w1.alloc (.cells #[.pointer none,.slice none 0 0] 107)):=kR.alloc _
 have hU:Bu w1.heap.size w1.heap.size [] (w1.alloc (.cells #[.pointer none,.slice none 0 0] 107)):=Or.inl ⟨Nat.le_refl _,.slice none 0 0,bB,World.ownsRow_nil _ _ _ _,by simp[Value.ownBlock]⟩
 have t5:=((hty.frame (sK K1)).mono (ok':=fun q=>q<w1.heap.size) (fun q h _=>h)).frame (sK K2)
 have t6:=((htm.frame (sK K1)).mono (ok':=fun q=>q<w1.heap.size) (fun q h _=>h)).frame (sK K2)
 have HC:=Ld (HP.out w1.heap.size w1.heap.size [] _ _ _ hU (by simp) t5 t6 (by have:=HL.out;simpa using this))
 have b2:=b1.alloc (.cells #[.pointer none,.slice none 0 0] 107)
 have l1:=b1.lt
 have n1:w.heap.size≠w1.heap.size:=by omega
 have g0:w1.cell? ⟨w.heap.size,0,none⟩=some (.int .i64 t.op):=b1.cell 0
 have g1:w1.cell? ⟨w.heap.size,1,none⟩=some (.string t.name):=b1.cell 1
 have g2:w1.cell? ⟨w.heap.size,2,none⟩=some (.int .i64 t.n):=b1.cell 2
 have g3:w1.cell? ⟨w.heap.size,3,none⟩=some (.int .i64 t.ty.kind):=b1.cell 3
 have g4:w1.cell? ⟨w.heap.size,4,none⟩=some (.string t.ty.name):=b1.cell 4
 have g5:w1.cell? ⟨w.heap.size,5,none⟩=some (.slice ta tn tc):=b1.cell 5
 have g6:w1.cell? ⟨w.heap.size,6,none⟩=some (.slice ma mn mc):=b1.cell 6
 go_wp2_with fail
 refine HC.out.mono ?_
 rintro e w3 ⟨rfl,u3,k3⟩
 rw[List.nil_append] at u3
 have HS:=Ld (bstr_any u3 H0.out)
 have K3:Kept (fun k=>w1.heap.size≤k) w1 w3:=(K2.mono (fun _ _ h=>h.elim)).via k3 (fun x hx e=>by
  rcases e with rfl | ⟨h,_⟩
  ·exact Nat.le_refl _
  ·exact h)
 go_wp2_with fail
 refine HS.out.mono ?_
 rintro e w4 ⟨rfl,k4⟩
 go_wp2_with fail
 go_ret
 refine⟨rfl,K1.via (S':=fun k=>w1.heap.size≤k) (K3.via (S':=fun k=>w1.heap.size≤k) ⟨k4.os,k4.tape,k4.output,k4.size,fun q hq hn=>k4.block q (by omega)⟩ (fun _ _ h=>h)) (fun x hx h=>?_)⟩
 have:=K1.size
 omega
def digS:ByteArray:=⟨#[48,49,50,51,52,53,54,55,56,57]⟩
def digL:List Value:=(Lib.setCells digS.data.toList).toList
theorem dig_zero:∀ w,(zeroValue 113).run Tryz.prog w=.ok (.agg (Array.replicate 256 (.bool false))) w:=fun w=>by kernel_rfl
theorem dig_set (w:World):Calls Tryz.prog 82 #[.string digS] w fun e w'=>e=.returned (.tuple #[.agg digL.toArray,.bool true])∧w'=w.alloc (.cells digL.toArray 113):=by
 refine (Tryz.strings_makeASCIISet dig_zero digS w (by decide) ?_).mono fun e w' ⟨h1,h2⟩=>⟨by rw[h1];unfold digL;rw[Array.toArray_toList],by rw[h2];unfold digL;rw[Array.toArray_toList]⟩
 intro j b hj
 have hlt:j<10:=(List.getElem?_eq_some_iff.1 hj).1
 rcases (show j=0∨j=1∨j=2∨j=3∨j=4∨j=5∨j=6∨j=7∨j=8∨j=9 by omega) with rfl | rfl | rfl | rfl | rfl | rfl | rfl | rfl | rfl | rfl <;> (cases hj;decide)
theorem dig_50:digL[50]?=some (.bool true):=by kernel_rfl
theorem dig_49:digL[49]?=some (.bool true):=by kernel_rfl
theorem dig_120:digL[120]?=some (.bool false):=by kernel_rfl
def strSz:Value→Nat
 | .string s=>s.size
 | _=>0
theorem trimR (w:World) (X:Nat) (h50:w.cell? ⟨X,50,none⟩=some (.bool true)) (h49:w.cell? ⟨X,49,none⟩=some (.bool true)) (h120:w.cell? ⟨X,120,none⟩=some (.bool false)):
  Calls Tryz.prog 83 #[.string ⟨#[120,49,50]⟩,.pointer (some ⟨X,0,none⟩)] w fun e w'=>e=.returned (.string ⟨#[120]⟩)∧w=w':=by
 have c50:=Ld (Tryz.asciiSet_contains X 50 true w h50)
 have c49:=Ld (Tryz.asciiSet_contains X 49 true w h49)
 have c120:=Ld (Tryz.asciiSet_contains X 120 false w h120)
 clear h50 h49 h120
 go_enter Tryz.func83,Tryz.ntmps83
 go_wp2_with fail
 go_loop [0] (fun v=>v=.string ⟨#[120,49,50]⟩∨v=.string ⟨#[120,49]⟩∨v=.string ⟨#[120]⟩) (fun v=>strSz v)
 case atStart=>exact Or.inl rfl
 case round=>
  rcases hrel with rfl | rfl | rfl
  ·go_wp2_with (go_at_call 134;refine c50.out.mono ?_;rintro e w' ⟨rfl,rfl⟩)
   go_round
   case rel=>exact Or.inr (Or.inl rfl)
   case measure=>decide
  ·go_wp2_with (go_at_call 134;refine c49.out.mono ?_;rintro e w' ⟨rfl,rfl⟩)
   go_round
   case rel=>exact Or.inr (Or.inr rfl)
   case measure=>decide
  ·go_wp2_with (go_at_call 134;refine c120.out.mono ?_;rintro e w' ⟨rfl,rfl⟩)
   go_ret
   exact⟨rfl,rfl⟩
theorem wpList_store_at {P:Program} {ops:Array Oper} {rest:List Oper} {o:Oper} {a:Act} {Q:Exit→Act→World→Prop} {w0 w:World} {ty:TypeId} {Z L:List Value} (hb:Blk w w0.heap.size ty Z) (hk:Kept (fun _=>False) w0 w) (hgd:o.guard=none) (x y:Operand) (ho:o.op=.store ty x y) (hx:a.eval x=.pointer (some ⟨w0.heap.size,0,none⟩)) (hy:a.eval y=.agg L.toArray)
  (hi:(P.info? ty).map (·.size)=some L.length) (hZ:Z.length=L.length) (h1:L.toArray.all (·.oneCell')=true)
  (h:∀ W,Blk W w0.heap.size ty L→Kept (fun _=>False) w0 W→wpList P ops Q rest (a.put o.dst undef) W):wpList P ops Q (o::rest) a w:=by
 refine wpList_store_mid hgd ty x y ho w0.heap.size 0 L.toArray hx hy ?_ (by simpa using hi) h1 ?_
 ·have:=hb.there;rw[hZ] at this;simpa using this
 ·refine h _ ?_ ?_
  ·have:=hb.setCells (l':=L) hZ.symm;simpa using this
  ·exact hk.setCells (Or.inr (Nat.le_refl _))
theorem dig_blk (w:World):Blk (w.alloc (.cells Tryz.zeroCells113 113)) w.heap.size 113 Tryz.zeroCells113.toList:=by
 have:=Blk.new w 113 Tryz.zeroCells113.toList
 rwa [Array.toArray_toList] at this
theorem dig_zl:Tryz.zeroCells113.toList.length=digL.length:=by kernel_rfl
theorem trimRight_x (w:World):Calls Tryz.prog 36 #[.string ⟨#[120,49,50]⟩,.string digS] w fun e w'=>e=.returned (.string ⟨#[120]⟩)∧Kept (fun _=>False) w w':=by
 have i1:digS.toList.isEmpty=false:=by kernel_rfl
 have i2:digS.size=10:=rfl
 have i3:(digS.toList==[])=false:=by kernel_rfl
 have HD:=Ld dig_set
 go_enter Tryz.func36,Tryz.ntmps36
 go_wp2_with (first | (go_at_call 82;refine (HD.out _).mono ?_;rintro e w1 ⟨rfl,hw1⟩;have k1:Kept (fun _=>False) w w1:=(by rw[hw1];exact kR.alloc _);clear hw1) | (refine wpList_store_at (w0:=w1) (L:=digL) (dig_blk w1) (kR.alloc _) rfl _ _ rfl rfl rfl (by kernel_rfl) dig_zl (by kernel_rfl) ?_;intro W bW kW;have h50:W.cell? ⟨w1.heap.size,50,none⟩=some (.bool true):=(by rw[bW.cell];exact dig_50);have h49:W.cell? ⟨w1.heap.size,49,none⟩=some (.bool true):=(by rw[bW.cell];exact dig_49);have h120:W.cell? ⟨w1.heap.size,120,none⟩=some (.bool false):=(by rw[bW.cell];exact dig_120);have HT:=Ld (trimR W w1.heap.size h50 h49 h120)) | (go_at_call 83;refine HT.out.mono ?_;rintro e w' ⟨rfl,rfl⟩))
 go_ret
 exact⟨rfl,k1.trans kW⟩
def sX12:ByteArray:=⟨#[120,49,50]⟩
def sX1:ByteArray:=⟨#[120,49]⟩
def sX2:ByteArray:=⟨#[120,50]⟩
theorem fx1:Lib.containsS (List.take 2 [sX12,sX1]) sX12=true:=by rw[Lib.containsS_iff];simp[sX12]
theorem fx2:Lib.containsS (List.take 2 [sX12,sX1]) sX1=true:=by rw[Lib.containsS_iff];simp[sX1]
theorem fx3:Lib.containsS (List.take 2 [sX12,sX1]) sX2=false:=by
 cases h:Lib.containsS (List.take 2 [sX12,sX1]) sX2
 ·rfl
 ·rw[Lib.containsS_iff] at h;simp[sX12,sX1,sX2] at h
theorem fx4:namedB ⟨#[120,49,50]⟩=true:=by kernel_rfl
theorem fx5:Lib.decDigits 1=[49]:=by unfold Lib.decDigits;rfl
theorem fx6:Lib.decDigits 2=[50]:=by unfold Lib.decDigits;rfl
theorem fx7:keywordB ⟨#[120,49]⟩=false:=by kernel_rfl
theorem fx8:keywordB ⟨#[120,50]⟩=false:=by kernel_rfl
theorem fresh_x (w:World) (g:Nat) (h0:w.cell? ⟨g,0,none⟩=some (.string ⟨#[120,49,50]⟩)) (h1:w.cell? ⟨g,1,none⟩=some (.string ⟨#[120,49]⟩)):
  Calls Tryz.prog 10 #[.string ⟨#[120,49,50]⟩,.slice (some ⟨g,0,none⟩) 2 2] w fun e w'=>e=.returned (.string ⟨#[120,50]⟩)∧Kept (fun _=>False) w w':=by
 have hcl:∀ W:World,Kept (fun _=>False) w W→∀ j,j<[sX12,sX1].length→W.cell? ⟨g,0+j,none⟩=some (.string ([sX12,sX1].getD j ByteArray.empty)):=by
  intro W k j hj
  have:j=0∨j=1:=by simp at hj;omega
  rcases this with rfl | rfl
  ·rw[k.cell (p:=⟨g,0+0,none⟩) (cell_lt h0) (fun h=>h)];exact h0
  ·rw[k.cell (p:=⟨g,0+1,none⟩) (cell_lt h1) (fun h=>h)];exact h1
 have cA:Hid (∀ W:World,Kept (fun _=>False) w W→Calls Tryz.prog 35 #[.slice (some ⟨g,0,none⟩) 2 2,.string ⟨#[120,49,50]⟩] W fun e w'=>e=.returned (.bool true)∧W=w'):=Ld (fun W k=>(Tryz.slices_Contains_string g 0 2 2 [sX12,sX1] sX12 W (by decide) (by decide) (hcl W k)).mono fun e w' ⟨q1,q2⟩=>⟨by rw[q1,fx1],q2.symm⟩)
 have cB:Hid (∀ W:World,Kept (fun _=>False) w W→Calls Tryz.prog 35 #[.slice (some ⟨g,0,none⟩) 2 2,.string ⟨#[120,49]⟩] W fun e w'=>e=.returned (.bool true)∧W=w'):=Ld (fun W k=>(Tryz.slices_Contains_string g 0 2 2 [sX12,sX1] sX1 W (by decide) (by decide) (hcl W k)).mono fun e w' ⟨q1,q2⟩=>⟨by rw[q1,fx2],q2.symm⟩)
 have cC:Hid (∀ W:World,Kept (fun _=>False) w W→Calls Tryz.prog 35 #[.slice (some ⟨g,0,none⟩) 2 2,.string ⟨#[120,50]⟩] W fun e w'=>e=.returned (.bool false)∧W=w'):=Ld (fun W k=>(Tryz.slices_Contains_string g 0 2 2 [sX12,sX1] sX2 W (by decide) (by decide) (hcl W k)).mono fun e w' ⟨q1,q2⟩=>⟨by rw[q1,fx3],q2.symm⟩)
 have HN:Hid (∀ W,Calls Tryz.prog 34 #[.string ⟨#[120,49,50]⟩] W fun e w'=>e=.returned (.bool true)∧W=w'):=Ld (fun W=>(named_any _ W (by decide)).mono fun e w' ⟨q1,q2⟩=>⟨by rw[q1,fx4],q2⟩)
 have HT:Hid (∀ W,Calls Tryz.prog 37 #[.string ⟨#[120,49,50]⟩,.string ⟨#[39]⟩] W fun e w'=>e=.returned (.string ⟨#[120,49,50]⟩)∧W=w'):=Ld (fun W=>(Tryz.strings_TrimSuffix _ _ W (by decide)).mono fun e w' ⟨q1,q2⟩=>⟨by rw[q1];rfl,q2.symm⟩)
 have HI1:Hid (∀ W,Calls Tryz.prog 38 #[.int .i64 1] W fun e w'=>e=.returned (.string ⟨#[49]⟩)∧W=w'):=Ld (fun W=>(Tryz.strconv_Itoa_small 1 (by decide) W).mono fun e w' ⟨q1,q2⟩=>⟨by rw[q1,fx5],q2.symm⟩)
 have HI2:Hid (∀ W,Calls Tryz.prog 38 #[.int .i64 2] W fun e w'=>e=.returned (.string ⟨#[50]⟩)∧W=w'):=Ld (fun W=>(Tryz.strconv_Itoa_small 2 (by decide) W).mono fun e w' ⟨q1,q2⟩=>⟨by rw[q1,fx6],q2.symm⟩)
 have HK1:Hid (∀ W,Calls Tryz.prog 39 #[.string ⟨#[120,49]⟩] W fun e w'=>e=.returned (.bool false)∧W=w'):=Ld (fun W=>(keyword_any _ W).mono fun e w' ⟨q1,q2⟩=>⟨by rw[q1,fx7],q2⟩)
 have HK2:Hid (∀ W,Calls Tryz.prog 39 #[.string ⟨#[120,50]⟩] W fun e w'=>e=.returned (.bool false)∧W=w'):=Ld (fun W=>(keyword_any _ W).mono fun e w' ⟨q1,q2⟩=>⟨by rw[q1,fx8],q2⟩)
 have HR:=Ld trimRight_x
 clear hcl
 go_enter Tryz.func10,Tryz.ntmps10
 go_wp2_with (first | (go_at_call 34;refine (HN.out _).mono ?_;rintro e w' ⟨rfl,rfl⟩) | (go_at_call 35;refine (cA.out w kR).mono ?_;rintro e w' ⟨rfl,rfl⟩) | (go_at_call 37;refine (HT.out _).mono ?_;rintro e w' ⟨rfl,rfl⟩) | (go_at_call 36;refine (HR.out _).mono ?_;rintro e w1 ⟨rfl,k1⟩))
 have hcu:digS=digS:=rfl
 go_loop [6] (fun i=>i=.int .i64 1∨i=.int .i64 2) (fun i=>2-(intOf i).toNat)
 case atStart=>exact Or.inl rfl
 case round=>
  rcases hrel with rfl | rfl
  ·go_wp2_with (first | (go_at_call 38;refine (HI1.out _).mono ?_;rintro e w' ⟨rfl,rfl⟩) | (go_at_call 39;refine (HK1.out _).mono ?_;rintro e w' ⟨rfl,rfl⟩) | (go_at_call 35;refine (cB.out w1 k1).mono ?_;rintro e w' ⟨rfl,rfl⟩))
   go_round
   case rel=>exact Or.inr rfl
   case measure=>decide
  ·go_wp2_with (first | (go_at_call 38;refine (HI2.out _).mono ?_;rintro e w' ⟨rfl,rfl⟩) | (go_at_call 39;refine (HK2.out _).mono ?_;rintro e w' ⟨rfl,rfl⟩) | (go_at_call 35;refine (cC.out w1 k1).mono ?_;rintro e w' ⟨rfl,rfl⟩))
   go_ret
   exact⟨rfl,k1⟩
theorem frGo_ext {U V:List ByteArray} (h:∀ s,mb s U=mb s V) (b:List UInt8):∀ (f k:Nat),frGo b U f k=frGo b V f k
 | 0,k=>rfl
 | f+1,k=>by rw[frGo,frGo,h,frGo_ext h b f]
theorem freshS_ext {U V:List ByteArray} (h:∀ s,mb s U=mb s V) (n:ByteArray):freshS n U=freshS n V:=by
 unfold freshS frFrom
 rw[h,frGo_ext h]
theorem tmD_kid {ks:List Tm} {t:Tm} (h:t∈ks):tmD t≤tmDs ks∧tmN t≤tmNs ks:=by
 induction ks with
 | nil=>cases h
 | cons a ks ih=>
  rw[tmDs,tmNs]
  rcases List.mem_cons.1 h with rfl | h
  ·omega
  ·have:=ih h;omega
theorem strip_at (s:ByteArray) (h:s.size-1<s.size):stripD s.data.toList=if digitB (s[s.size-1].toNat) then stripD (s.extract 0 (s.size-1)).data.toList else s.data.toList:=by
 have e1:=take_snoc s (s.size-1) h
 have e2:s.data.toList.take (s.size-1+1)=s.data.toList:=List.take_of_length_le (by
  have:s.data.toList.length=s.size:=ba_len s
  omega)
 rw[e2] at e1
 rw[ext_take]
 have e3:=stripD_snoc (s.data.toList.take (s.size-1)) s[s.size-1]
 rw[← e1] at e3
 rw[e3]
theorem fresh_at {nm:ByteArray} {used:List ByteArray} (hn:namedB nm=true) (hu:used.length≤800000) (hm:mb nm used=true):∃ j,1≤j∧j≤1000001∧frFrom nm used=str (candL (baseL nm) j)∧mb (str (candL (baseL nm) j)) used=false∧∀ i,1≤i→i<j→mb (str (candL (baseL nm) i)) used=true:=by
 obtain⟨j,h1,h2,h3,h4,h5⟩:=frGo_at (baseL nm) used 1000000 1 (cand_free (baseL nm) used hu)
 refine⟨j,h3,by omega,?_,h2,h5⟩
 unfold frFrom
 rw[if_pos hm,h1]
theorem base_size {nm:ByteArray} (hn:namedB nm=true):(baseL nm).length≤16:=by
 unfold baseL
 obtain⟨r,hr⟩:=stripD_pre (trimQ nm).data.toList
 have h1:=congrArg List.length hr
 rw[List.length_append] at h1
 unfold namedB identB at hn
 simp only[Bool.and_eq_true,decide_eq_true_eq] at hn
 have h2:(trimQ nm).data.toList.length=(trimQ nm).size:=ba_len _
 omega
def strOf:Value→ByteArray
 | .string s=>s
 | _=>⟨#[]⟩
def P10 (w : World) : Prop := Lib.TabIs Tryz.prog w "internal/strconv.uint64pow10" .u64 Lib.pow10Tab
theorem P10.kept {w w':World} (h:P10 w) (k:Kept (fun _=>False) w w'):P10 w':=
 Lib.tabBelow_of_tabIs h w' ⟨k.os,k.tape,k.output,k.size,fun q hq=>k.block q hq (fun e=>e)⟩
theorem itoa_dec {k:Nat} (hk:k≤1000001) {w:World} (h:P10 w):Calls Tryz.prog 38 #[.int .i64 k] w fun e w'=>e=.returned (.string (str (Lib.decDigits k)))∧Kept (fun _=>False) w w':=by
 refine (Tryz.strconv_Itoa k (by omega) (by omega) w h).mono ?_
 rintro e w' ⟨rfl,j,os,rfl⟩
 refine⟨?_,Kept.of_below (Lib.below_grow w.heap.size w (Nat.le_refl _) j os)⟩
 have e1:Lib.itoa (k:Int)=Lib.decDigits k:=by unfold Lib.itoa;simp
 rw[e1];rfl
theorem contains_any {ok:Nat→Prop} {w:World} {l:List ByteArray} {v:Value} (s:ByteArray) (h:NmL ok w l v) (hn:l.length≤10000000):Calls Tryz.prog 35 #[v,.string s] w fun e w'=>e=.returned (.bool (mb s l))∧w=w':=by
 obtain⟨a,c,rfl⟩:=h.slice
 by_cases h0:l=[]
 ·subst h0
  refine (Tryz.slices_Contains_string_empty a c s w).mono ?_
  rintro e w' ⟨rfl,rfl⟩
  exact⟨rfl,rfl⟩
 ·have hlen:0<l.length:=List.length_pos_iff.2 h0
  obtain⟨g,off,rfl,_,_⟩:=h.at 0 hlen
  refine (Tryz.slices_Contains_string g off l.length c l s w (Nat.le_refl _) (by omega) (fun j hj=>?_)).mono ?_
  ·obtain⟨g',off',e,_,hc⟩:=h.at j hj
   cases e
   rw[hc,List.getD_eq_getElem?_getD,List.getElem?_eq_getElem hj];rfl
  ·rintro e w' ⟨rfl,rfl⟩
   refine⟨?_,rfl⟩
   rw[List.take_length]
   have:Lib.containsS l s=mb s l:=by rw[Bool.eq_iff_iff,Lib.containsS_iff,mb_iff]
   rw[this]
theorem dig_eq:digL=(List.range 256).map (fun (c:Nat)=>Value.bool (digitB (c:Int))):=by kernel_rfl
theorem dig_get {c:Nat} (h:c<256):digL[c]?=some (.bool (digitB c)):=by
 rw[dig_eq,List.getElem?_map,List.getElem?_range h];rfl
theorem trimR_any {s0:ByteArray} {w:World} {X:Nat} (hX:∀ c,c<256→w.cell? ⟨X,c,none⟩=some (.bool (digitB c))) (hs:s0.size≤9223372036854775807):
  Calls Tryz.prog 83 #[.string s0,.pointer (some ⟨X,0,none⟩)] w fun e w'=>e=.returned (.string (str (stripD s0.data.toList)))∧w=w':=by
 have HC:=Ld (fun (x:UInt8)=>Tryz.asciiSet_contains X x (digitB x.toNat) w (hX x.toNat x.toNat_lt))
 have HS:=Ld hs
 clear hX hs
 go_enter Tryz.func83,Tryz.ntmps83
 go_wp2_with fail
 go_loop [0] (fun v=>∃ s:ByteArray,v=.string s∧s.size≤9223372036854775807∧Hid (stripD s.data.toList=stripD s0.data.toList)) (fun v=>strSz v)
 case atStart=>exact⟨s0,rfl,HS.out,Ld rfl⟩
 case round=>
  obtain⟨s,rfl,hsz,hq⟩:=hrel
  have HQ:=hq
  clear hq
  by_cases hz:s.size=0
  ·have h3:s.data.toList=[]:=List.length_eq_zero_iff.1 (by rw[ba_len];omega)
   have HR:Hid (str (stripD s0.data.toList)=s):=Ld (by
    rw[← HQ.out,h3]
    apply ByteArray.ext
    apply Array.toList_inj.1
    rw[h3]
    rfl)
   have i1:¬ (0:Int)<(s.size:Int):=by omega
   clear hz h3
   go_wp2_with fail
   go_ret
   exact⟨by rw[HR.out];rfl,rfl⟩
  ·have i1:(0:Int)<(s.size:Int):=by omega
   have i2:s.size-1<s.size:=by omega
   have i3:(s.size:Int)-1=((s.size-1:Nat):Int):=by omega
   have HSA:=Ld (strip_at s i2)
   have HCC:=Ld (HC.out s[s.size-1])
   clear hz
   cases hd:digitB (s[s.size-1].toNat)
   ·have HR:Hid (str (stripD s0.data.toList)=s):=Ld (by
     rw[← HQ.out,HSA.out,hd]
     apply ByteArray.ext
     apply Array.toList_inj.1
     rw[if_neg (by decide),str_list])
    rw[hd] at HCC
    clear hd HSA
    go_wp2_with (go_at_call 134;refine HCC.out.mono ?_;rintro e w' ⟨rfl,rfl⟩)
    go_ret
    exact⟨by rw[HR.out];rfl,rfl⟩
   ·have HS2:Hid (stripD (s.extract 0 (s.size-1)).data.toList=stripD s0.data.toList∧(s.extract 0 (s.size-1)).size≤9223372036854775807∧(s.extract 0 (s.size-1)).size<s.size):=Ld ⟨by rw[← HQ.out,HSA.out,hd];rfl,by rw[ByteArray.size_extract];omega,by rw[ByteArray.size_extract];omega⟩
    rw[hd] at HCC
    clear hd HSA
    go_wp2_with (go_at_call 134;refine HCC.out.mono ?_;rintro e w' ⟨rfl,rfl⟩)
    go_round
    case rel=>exact⟨_,rfl,HS2.out.2.1,Ld HS2.out.1⟩
    case measure=>exact HS2.out.2.2
theorem trimRight_dig {s:ByteArray} (hs:s.size≤9223372036854775807) (hne:s.size≠0) (w:World):Calls Tryz.prog 36 #[.string s,.string digS] w fun e w'=>e=.returned (.string (str (stripD s.data.toList)))∧Kept (fun _=>False) w w':=by
 have i1:digS.toList.isEmpty=false:=by kernel_rfl
 have i2:digS.size=10:=rfl
 have i3:(digS.toList==[])=false:=by kernel_rfl
 have i4:(s.toList==[])=false:=by
  rw[beq_eq_false_iff_ne]
  intro e
  rw[Go.ByteArray.toList_eq] at e
  have:=ba_len s
  rw[e] at this
  exact hne this.symm
 have HD:=Ld dig_set
 have HSZ:=Ld hs
 clear hs hne
 go_enter Tryz.func36,Tryz.ntmps36
 go_wp2_with (first | (go_at_call 82;refine (HD.out _).mono ?_;rintro e w1 ⟨rfl,hw1⟩;have k1:Kept (fun _=>False) w w1:=(by rw[hw1];exact kR.alloc _);clear hw1) | (refine wpList_store_at (w0:=w1) (L:=digL) (dig_blk w1) (kR.alloc _) rfl _ _ rfl rfl rfl (by kernel_rfl) dig_zl (by kernel_rfl) ?_;intro W bW kW;have HX:=Ld (fun c (hc:c<256)=>(bW.cell c).trans (dig_get hc));clear bW) | (go_at_call 83;refine (trimR_any HX.out HSZ.out).mono ?_;rintro e w' ⟨rfl,rfl⟩))
 go_ret
 exact⟨rfl,k1.trans kW⟩
theorem cand_min {b:List UInt8} {k:Nat} {m:Nat} (hm:m=min b.length (16-(Lib.decDigits k).length)):(str b).extract 0 m++str (Lib.decDigits k)=str (candL b k):=by
 apply ByteArray.ext
 apply Array.toList_inj.1
 rw[ByteArray.data_append,Array.toList_append,str_list,str_list,ext_take,str_list]
 unfold candL
 congr 1
 rw[hm]
 by_cases h:b.length≤16-(Lib.decDigits k).length
 ·rw[Nat.min_eq_left h,List.take_length,List.take_of_length_le h]
 ·rw[Nat.min_eq_right (by omega)]
theorem cand_free2 {b:List UInt8} {k:Nat} (hb:b≠[]) (hl:letterB (b.headD 0).toNat=true) (hw:allW b=true) (hk:k<10000000):keywordB (str (candL b k))=false:=(ident_parts.1 (cand_ident hb hl hw hk)).2.2.2.1
theorem trimQ_ne {nm:ByteArray} (h:namedB nm=true):(trimQ nm).size≠0:=by
 unfold namedB at h
 intro e
 have h1:=(ident_parts.1 h).1
 exact h1 (List.length_eq_zero_iff.1 (by rw[ba_len];exact e))
theorem fresh_any {ok:Nat→Prop} {w:World} {used:List ByteArray} {vu:Value} (name:ByteArray) (hN:NmL ok w used vu) (hu:used.length≤800000) (hsz:name.size≤9223372036854775807) (hp:P10 w):
  Calls Tryz.prog 10 #[.string name,vu] w fun e w'=>e=.returned (.string (freshS name used))∧Kept (fun _=>False) w w':=by
 obtain⟨a,c,rfl⟩:=hN.slice
 have HIN:=Ld (fun W (k:Kept (fun _=>False) w W) (s:ByteArray)=>contains_any s (hN.frame (sK k)) (by omega))
 have HNV:=Ld (named_any name w hsz)
 have HU:=Ld hu
 have HFR:Hid (freshS name used=frFrom (if namedB name then name else ⟨#[120]⟩) used):=Ld rfl
 have HSZ:Hid ((if namedB name then name else ⟨#[120]⟩:ByteArray).size≤9223372036854775807∧namedB (if namedB name then name else ⟨#[120]⟩)=true):=Ld (by
  cases h:namedB name
  ·exact⟨(by decide:(⟨#[120]⟩:ByteArray).size≤9223372036854775807),ident_named x_ident⟩
  ·exact⟨hsz,h⟩)
 have HP:=Ld hp
 clear hN hu hsz hp
 generalize freshS name used=res at *
 go_enter Tryz.func10,Tryz.ntmps10
 go_upto_region 1 with (fail)
 go_cut [11] (fun v wc=>v=.bool (!namedB name)∧wc=w)
 case first=>
  go_wp2_with (go_at_call 34;refine HNV.out.mono ?_;rintro e w' ⟨rfl,rfl⟩)
  go_meet
  case rel=>exact⟨rfl,rfl⟩
 case rest=>
  obtain⟨rfl,rfl⟩:=hcut
  clear HNV
  go_upto_if 11 with (fail)
  go_cut [0] (fun v wd=>v=.string (if namedB name then name else ⟨#[120]⟩)∧wd=wc)
  case first=>
   cases hnb:namedB name
   ·go_wp2_with fail
    go_meet
    case rel=>exact⟨by rw[hnb];rfl,rfl⟩
   ·go_wp2_with fail
    go_meet
    case rel=>exact⟨by rw[hnb];rfl,rfl⟩
  case rest=>
   obtain⟨rfl,hw⟩:=hcut
   subst hw
   generalize (if namedB name then name else (⟨#[120]⟩:ByteArray))=nm at *
   have HC0:=Ld (HIN.out _ kR nm)
   go_wp2_with fail
   refine HC0.out.mono ?_
   rintro e w3 ⟨rfl,rfl⟩
   cases hm:mb nm used
   ·have HE:Hid (res=nm):=Ld (by rw[HFR.out];unfold frFrom;rw[hm];rfl)
    clear hm HIN HFR HC0
    go_wp2_with fail
    go_ret
    exact⟨by rw[HE.out];rfl,Kept.refl _ _⟩
   ·obtain⟨j,hj1,hj2,hj3,hj4,hj5⟩:=fresh_at HSZ.out.2 HU.out hm
    have HRJ:Hid (res=str (candL (baseL nm) j)):=Ld (by rw[HFR.out,hj3])
    have HJ4:=Ld hj4
    have HJ5:=Ld hj5
    have HBS:=Ld (base_size HSZ.out.2)
    have HBO:=Ld (base_ok HSZ.out.2)
    have HT1:Hid (∀ W,Calls Tryz.prog 37 #[.string nm,.string ⟨#[39]⟩] W fun e w'=>e=.returned (.string (trimQ nm))∧W=w'):=Ld (fun W=>(Tryz.strings_TrimSuffix nm ⟨#[39]⟩ W HSZ.out.1).mono fun e w' ⟨q1,q2⟩=>⟨q1,q2.symm⟩)
    have HT2:=Ld (fun W=>trimRight_dig (s:=trimQ nm) (by have:=trimQ_le nm;have:=HSZ.out.1;omega) (trimQ_ne HSZ.out.2) W)
    change Hid (∀ W,Calls Tryz.prog 36 _ W fun e w'=>e=.returned (.string (str (baseL nm)))∧_) at HT2
    generalize baseL nm=b at *
    clear hm hj3 hj4 hj5 HFR HC0
    have hcu:digS=digS:=rfl
    have HK0:=Ld (Kept.refl (fun _=>False) wc)
    generalize trimQ nm=tq at *
    go_wp2_with (first | (go_at_call 37;refine (HT1.out _).mono ?_;rintro e w' ⟨rfl,rfl⟩) | (go_at_call 36;refine (HT2.out _).mono ?_;rintro e w1 ⟨rfl,k1⟩))
    clear HT1 HT2 hcu
    have hbs:Hid ((str b).size=b.length):=Ld (str_size b)
    go_loopw [6] (fun i wr=>∃ k:Nat,1≤k∧k≤j∧i=.int .i64 k∧Kept (fun _=>False) wc wr) (fun i _=>j-(intOf i).toNat)
    case atStart=>exact⟨1,Nat.le_refl _,hj1,rfl,k1⟩
    case round=>
     obtain⟨k,hk1,hk2,rfl,kr2⟩:=hrel
     have q1:(k:Int)<1000002:=by omega
     have hdl:=dec_len2 6 k (by omega)
     have HDD:=Ld (itoa_dec (k:=k) (by omega) (HP.out.kept kr2))
     obtain⟨m,hm⟩:∃ m,m=min b.length (16-(Lib.decDigits k).length):=⟨_,rfl⟩
     have HCS:=Ld (cand_min hm)
     have HKW:=Ld (cand_free2 (k:=k) HBO.out.1 HBO.out.2.1 HBO.out.2.2 (by omega))
     have hDs:(str (Lib.decDigits k)).size≤7:=by rw[str_size];exact hdl
     have hms:Hid (m=min b.length (16-(str (Lib.decDigits k)).size)):=Ld (by rw[str_size];exact hm)
     clear hdl hm k1
     generalize str (Lib.decDigits k)=D at *
     go_wp2_with fail
     refine HDD.out.mono ?_
     rintro e w7 ⟨rfl,k7⟩
     have KK7:=Ld (kr2.trans k7)
     clear HDD
     have hmn:(min ((str b).size:Int) (16-(D.size:Int))).toNat=m:=by
      have h1:=hbs.out
      have h2:=hms.out
      omega
     have HIN2:=Ld (HIN.out w7 KK7.out (str (candL b k)))
     have HKY:=Ld (keyword_t HKW.out w7)
     go_upto_region 10 with (fail)
     rw[HCS.out]
     clear hmn hms HCS HKW
     by_cases hkj:k=j
     ·subst hkj
      have HIN3:Hid (Calls Tryz.prog 35 #[.slice a used.length c,.string (str (candL b k))] w7 fun e w'=>e=.returned (.bool false)∧w7=w'):=Ld (by rw[← HJ4.out];exact HIN2.out)
      clear HIN2 HJ5 HJ4
      generalize str (candL b k)=cd at *
      go_wp2_with (first | (go_at_call 39;refine HKY.out.mono ?_;rintro e w' ⟨rfl,rfl⟩) | (go_at_call 35;refine HIN3.out.mono ?_;rintro e w' ⟨rfl,rfl⟩))
      go_ret
      exact⟨by rw[HRJ.out];rfl,KK7.out⟩
     ·have HIN3:Hid (Calls Tryz.prog 35 #[.slice a used.length c,.string (str (candL b k))] w7 fun e w'=>e=.returned (.bool true)∧w7=w'):=Ld (by rw[← HJ5.out k hk1 (by omega)];exact HIN2.out)
      clear HIN2
      generalize str (candL b k)=cd at *
      go_wp2_with (first | (go_at_call 39;refine HKY.out.mono ?_;rintro e w' ⟨rfl,rfl⟩) | (go_at_call 35;refine HIN3.out.mono ?_;rintro e w' ⟨rfl,rfl⟩))
      go_roundw
      case rel=>exact⟨k+1,by omega,by omega,by go_num,KK7.out⟩
      case measure=>simp[intOf];omega
def stepB (t:Tm) (i:Int):Bool:=decide (0≤i)&&decide (i<t.kids.length)
def kidI (t:Tm) (i:Int):Tm:=t.kids.getD i.toNat tm0
def atP:Tm→List Int→Option Tm
 | t,[]=>some t
 | t,i::p=>if stepB t i then atP (kidI t i) p else none
def setKid (t:Tm) (i:Nat) (u:Tm):Tm:=.mk t.op t.name t.n t.ty (t.kids.set i u)
def putP:Tm→List Int→Tm→Tm
 | _,[],u=>u
 | t,i::p,u=>setKid t i.toNat (putP (kidI t i) p u)
theorem step_lt {t:Tm} {i:Int} (h:stepB t i=true):i.toNat<t.kids.length:=by
 simp only[stepB,Bool.and_eq_true,decide_eq_true_eq] at h;omega
theorem kid_get {t:Tm} {i:Int} (h:i.toNat<t.kids.length):kidI t i=t.kids[i.toNat]:=by
 unfold kidI;simp[h]
theorem kid_mem {t:Tm} {i:Int} (h:stepB t i=true):kidI t i∈t.kids:=by
 rw[kid_get (step_lt h)];exact List.getElem_mem _
theorem subt_ok {t u:Tm} (h:OkTm t∧tmN t≤2000∧tmD t≤64) (hu:u∈t.kids):OkTm u∧tmN u≤2000∧tmD u≤64:=by
 obtain⟨op,nm,N,ty,l⟩:=t
 obtain⟨h1,h2,h3⟩:=h
 cases h1 with
 | mk _ _ hl=>
  have n1:∀ {l:List Tm},u∈l→tmN u≤tmNs l:=by
   intro l
   induction l with
   | nil=>intro h;cases h
   | cons a l ih=>
    intro h
    rw[tmNs]
    rcases List.mem_cons.1 h with rfl | h
    ·omega
    ·have:=ih h;omega
  have n2:∀ {l:List Tm},u∈l→tmD u≤tmDs l:=by
   intro l
   induction l with
   | nil=>intro h;cases h
   | cons a l ih=>
    intro h
    rw[tmDs]
    rcases List.mem_cons.1 h with rfl | h
    ·exact Nat.le_max_left _ _
    ·have:=ih h;exact Nat.le_trans this (Nat.le_max_right _ _)
  rw[tmN] at h2
  rw[tmD] at h3
  have:=n1 (l:=l) hu
  have:=n2 (l:=l) hu
  exact⟨hl u hu,by omega,by omega⟩
theorem at_valid:∀ (p:List Int) (t o:Tm),validB t=true→atP t p=some o→validB o=true
 | [],t,o,h,e=>by cases e;exact h
 | i::p,t,o,h,e=>by
  rw[atP] at e
  by_cases hs:stepB t i=true
  ·rw[if_pos hs] at e
   exact at_valid p _ o ((valid_iff _).2 (subt_ok ((valid_iff t).1 h) (kid_mem hs))) e
  ·rw[if_neg hs] at e;cases e
def atPS (t:Tm) (p:List Int):Tm×Int:=if validB t then (match atP t p with | some u=>(u,0) | none=>(tm0,12)) else (tm0,1)
def repPS (t:Tm) (p:List Int) (u:Tm):Tm×Int:=
 if validB t&&validB u then (match atP t p with | some _=>(if validB (putP t p u) then (putP t p u,0) else (tm0,5)) | none=>(tm0,12)) else (tm0,1)
theorem val1_any {ok:Nat→Prop} {w:World} {t:Tm} {a:Option Addr} {n c:Nat} {ma:Option Addr} {mn mc:Nat} (hk:TyL bz ok w t.ty.kids (.slice a n c)) (hm:TmL bz ok w t.kids (.slice ma mn mc)) (hs:SmTm big t):
  Calls Tryz.prog 103 #[.agg #[.int .i64 t.op,.string t.name,.int .i64 t.n,.int .i64 t.ty.kind,.string t.ty.name,.slice a n c,.slice ma mn mc]] w fun e w'=>e=.returned (.bool (!validB t))∧Kept (fun _=>False) w w':=by
 have hcon:=Ld (valid_any (hk.frame (Same.alloc w (.cells #[.int .i64 t.op,.string t.name,.int .i64 t.n,.int .i64 t.ty.kind,.string t.ty.name,.slice a n c,.slice ma mn mc] 27))) (hm.frame (Same.alloc w (.cells #[.int .i64 t.op,.string t.name,.int .i64 t.n,.int .i64 t.ty.kind,.string t.ty.name,.slice a n c,.slice ma mn mc] 27))) hs)
 clear hk hm hs
 go_enter Tryz.func103,Tryz.ntmps103
 go_wp2_with fail
 refine hcon.out.mono ?_
 rintro e w' ⟨rfl,h⟩
 go_wp2_with fail
 go_ret
 exact⟨rfl,(kR.alloc _).trans h⟩
theorem all_drop {p:Tm→Bool} {l:List Tm} {k:Nat} (h:k<l.length):(l.drop k).all p=(p l[k]&&(l.drop (k+1)).all p):=by
 rw[drop_cons l k h,List.all_cons]
theorem idxV_any {ok:Nat→Prop} {l:List Tm} {a:Option Addr} {n cp:Nat} {w:World} (hn1:l.length≤1000000) (hs:∀ t,t∈l→SmTm big t) (hk:TmL bz ok w l (.slice a n cp)):
  Calls Tryz.prog 150 #[.slice a n cp,.func (.func 103) #[] #[]] w fun e w'=>∃ i:Int,e=.returned (.int .i64 i)∧decide (0≤i)=!(l.all validB)∧Kept (fun _=>False) w w':=by
 have HS:=Ld hs
 clear hs
 have hn:=hk.len
 subst hn
 cases hk with
 | nil he=>
  go_enter Tryz.func150,Tryz.ntmps150
  go_wp2_with fail
  go_loop [8] (fun i=>i=.int .i64 0) (fun i=>0)
  case atStart=>rfl
  case round=>
   subst hrel
   go_wp2_with fail
   go_ret
   exact⟨-1,rfl,by simp,Kept.refl _ _⟩
 | mk K MM hne hok hcap hcell hkk hmm hs2=>
  rename_i g off
  have HC:=Ld hcell
  have HK:=Ld hkk
  have HMM:=Ld hmm
  clear hcell hkk hmm
  have hn2:=Ld hn1
  clear hn1
  go_enter Tryz.func150,Tryz.ntmps150
  go_wp2_with fail
  go_loopw [8] (fun i wr=>∃ k:Nat,k≤l.length∧i=.int .i64 k∧Kept (fun _=>False) w wr∧Hid (l.all validB=(l.drop k).all validB)) (fun i _=>l.length-(intOf i).toNat)
  case atStart=>exact⟨0,Nat.zero_le _,rfl,Kept.refl _ _,Ld rfl⟩
  case round=>
   obtain⟨k,hkl,rfl,hkr,heq⟩:=hrel
   have hn3:=hn2.out
   by_cases hlt:k<l.length
   ·have hs:=Same.of_kept (ok:=ok) hkr (fun k h e=>e)
    have c0:=hs.cell hok (HC.out k hlt).1
    have c1:=hs.cell hok (HC.out k hlt).2.1
    have c2:=hs.cell hok (HC.out k hlt).2.2.1
    have c3:=hs.cell hok (HC.out k hlt).2.2.2.1
    have c4:=hs.cell hok (HC.out k hlt).2.2.2.2.1
    have c5:=hs.cell hok (HC.out k hlt).2.2.2.2.2.1
    have c6:=hs.cell hok (HC.out k hlt).2.2.2.2.2.2
    have i1:(k:Int)<(l.length:Int):=by omega
    have i2:(k:Int)<1000000:=by omega
    obtain⟨ta,tn,tc,hK⟩:=(HK.out k hlt).slice
    have hkk:=(HK.out k hlt).frame hs
    rw[hK] at c5 hkk
    obtain⟨ua,un,uc,hU⟩:=(HMM.out k hlt).slice
    have hmm:=(HMM.out k hlt).frame hs
    rw[hU] at c6 hmm
    have hst:=Ld (all_drop (p:=validB) hlt)
    have hcon:=Ld (val1_any hkk hmm (HS.out _ (List.getElem_mem hlt)))
    clear hkk hmm hs
    cases hr:validB l[k]
    ·rw[hr] at hcon
     go_wp2_with (go_at_call 103;refine hcon.out.mono ?_;rintro e w' ⟨rfl,h1⟩)
     go_ret
     exact⟨k,rfl,by rw[heq.out,hst.out,hr];simp,hkr.trans h1⟩
    ·rw[hr] at hcon
     go_wp2_with (go_at_call 103;refine hcon.out.mono ?_;rintro e w' ⟨rfl,h1⟩)
     go_roundw
     case rel=>exact⟨k+1,by omega,by go_num,hkr.trans h1,Ld (by rw[heq.out,hst.out,hr];rfl)⟩
     case measure=>simp[intOf];omega
   ·have hz:Hid (l.all validB=true):=Ld (by rw[heq.out,List.drop_eq_nil_of_le (by omega)];rfl)
    go_wp2_with fail
    go_ret
    exact⟨-1,rfl,by rw[hz.out];rfl,hkr⟩
theorem contV_any {ok:Nat→Prop} {l:List Tm} {a:Option Addr} {n cp:Nat} {w:World} (hn1:l.length≤1000000) (hs:∀ t,t∈l→SmTm big t) (hk:TmL bz ok w l (.slice a n cp)):
  Calls Tryz.prog 102 #[.slice a n cp,.func (.func 103) #[] #[]] w fun e w'=>e=.returned (.bool (!(l.all validB)))∧Kept (fun _=>False) w w':=by
 have hcon:=Ld (idxV_any hn1 hs hk)
 clear hs hk hn1
 go_enter Tryz.func102,Tryz.ntmps102
 go_wp2_with fail
 refine hcon.out.mono ?_
 rintro e w' ⟨i,rfl,hi,h1⟩
 go_wp2_with fail
 go_ret
 exact⟨rfl,h1⟩
theorem valids_any {ok:Nat→Prop} {l:List Tm} {a:Option Addr} {n cp:Nat} {w:World} (hn1:l.length≤1000000) (hs:∀ t,t∈l→SmTm big t) (hk:TmL bz ok w l (.slice a n cp)):
  Calls Tryz.prog 56 #[.slice a n cp] w fun e w'=>e=.returned (.bool (l.all validB))∧Kept (fun _=>False) w w':=by
 have hcon:=Ld (contV_any hn1 hs hk)
 clear hs hk hn1
 go_enter Tryz.func56,Tryz.ntmps56
 go_wp2_with fail
 refine hcon.out.mono ?_
 rintro e w' ⟨rfl,h1⟩
 go_wp2_with fail
 go_ret
 exact⟨by simp,h1⟩
end Go.Proofs.YtdmebjbkccjhbaaGreatDoor
