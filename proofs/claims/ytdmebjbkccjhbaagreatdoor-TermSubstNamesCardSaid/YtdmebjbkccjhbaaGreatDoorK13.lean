/- A part. -/
import Derived.Test.YtdmebjbkccjhbaaGreatDoorK12
import Derived.Laws.IdiomStrings
set_option linter.unusedVariables false
set_option linter.unusedSimpArgs false
set_option maxRecDepth 100000
set_option maxHeartbeats 32000000
namespace Go.Proofs.YtdmebjbkccjhbaaGreatDoor
open Go.RowKit
structure KRow (W:World) (base g:Nat) (l:List Tm):Prop where
 row:∃ (L:List Value) (K M:Nat→Value),Blk W g 27 L∧l.length*7≤L.length∧∀ i (h:i<l.length),L[i*7]?=some (.int .i64 l[i].op)∧L[i*7+1]?=some (.string l[i].name)∧L[i*7+2]?=some (.int .i64 l[i].n)∧L[i*7+3]?=some (.int .i64 l[i].ty.kind)∧L[i*7+4]?=some (.string l[i].ty.name)∧L[i*7+5]?=some (K i)∧L[i*7+6]?=some (M i)∧TyL (fun q=>base≤q∧q≠g) W l[i].ty.kids (K i)∧TmL (fun q=>base≤q∧q≠g) W l[i].kids (M i)
theorem KRow.tml {W:World} {base g c:Nat} {l:List Tm} (h:KRow W base g l) (hg:base≤g) (hc:l.length≤c):TmL (fun q=>base≤q) W l (.slice (some ⟨g,0,none⟩) l.length c):=by
 by_cases hne:l=[]
 ·subst hne;exact .nil (Or.inr ⟨_,_,rfl⟩)
 ·obtain⟨L,K,M,bG,hL,hR⟩:=h.row
  refine TmL.mk K M hne hg hc (fun i hi=>?_) (fun i hi=>?_) (fun i hi=>?_)
  ·obtain⟨e0,e1,e2,e3,e4,e5,e6,e7,e8⟩:=hR i hi
   rw[Nat.zero_add]
   exact⟨by rw[bG.cell];exact e0,by rw[bG.cell];exact e1,by rw[bG.cell];exact e2,by rw[bG.cell];exact e3,by rw[bG.cell];exact e4,by rw[bG.cell];exact e5,by rw[bG.cell];exact e6⟩
  ·exact (hR i hi).2.2.2.2.2.2.2.1.mono (fun q _ h=>h.1)
  ·exact (hR i hi).2.2.2.2.2.2.2.2.mono (fun q _ h=>h.1)
def ClP2 (t:Tm) (w:World) (e:Ending) (w':World):Prop:=∃ v g c,e=.returned (tmVal t v (.slice (some ⟨g,0,none⟩) t.kids.length c))∧t.kids.length≤c∧w.heap.size≤g∧TyL (fun q=>w.heap.size≤q∧q≠g) w' t.ty.kids v∧KRow w' w.heap.size g t.kids∧Kept (fun _=>False) w w'
theorem clone_some2 {op:Int} {nm:ByteArray} {N:Int} {ty:Ty} {w:World} {ok:Nat→Prop} {ta:Option Addr} {tn tc:Nat} (hcp:CpC ty) (hty:TyL ok w ty.kids (.slice ta tn tc)) {l:List Tm} {b off cp:Nat} (IH:∀ t,t∈l→ClC t) (hn:l.length≤1000000) (K M:Nat→Value) (hcell:∀ i (h:i<l.length),w.cell? ⟨b,off+i*7,none⟩=some (.int .i64 l[i].op)∧w.cell? ⟨b,off+i*7+1,none⟩=some (.string l[i].name)∧w.cell? ⟨b,off+i*7+2,none⟩=some (.int .i64 l[i].n)∧w.cell? ⟨b,off+i*7+3,none⟩=some (.int .i64 l[i].ty.kind)∧w.cell? ⟨b,off+i*7+4,none⟩=some (.string l[i].ty.name)∧w.cell? ⟨b,off+i*7+5,none⟩=some (K i)∧w.cell? ⟨b,off+i*7+6,none⟩=some (M i)) (hk:∀ i (h:i<l.length),TyL ok w l[i].ty.kids (K i)) (hm:∀ i (h:i<l.length),TmL ok w l[i].kids (M i)):Calls Tryz.prog 70 #[.agg #[.int .i64 op,.string nm,.int .i64 N,.int .i64 ty.kind,.string ty.name,.slice ta tn tc,.slice (some ⟨b,off,none⟩) l.length cp]] w (ClP2 (.mk op nm N ty l) w):=by
 have HCELL:=Ld hcell
 have HK:=Ld hk
 have HM:=Ld hm
 have HIH:=Ld IH
 clear hcell hk hm IH
 have hone:Hid (∀ j,j<l.length*7→∃ v,w.cell? ⟨b,off+j,none⟩=some v∧v.oneCell'=true):=Ld (by
  intro j hj
  obtain⟨i,r,hi,hr,rfl⟩:=seven hj
  have c:=HCELL.out i hi
  rcases (show r=0∨r=1∨r=2∨r=3∨r=4∨r=5∨r=6 by omega) with rfl | rfl | rfl | rfl | rfl | rfl | rfl
  ·exact⟨_,c.1,rfl⟩
  ·exact⟨_,by rw[show off+(i*7+1)=off+i*7+1 by omega];exact c.2.1,rfl⟩
  ·exact⟨_,by rw[show off+(i*7+2)=off+i*7+2 by omega];exact c.2.2.1,rfl⟩
  ·exact⟨_,by rw[show off+(i*7+3)=off+i*7+3 by omega];exact c.2.2.2.1,rfl⟩
  ·exact⟨_,by rw[show off+(i*7+4)=off+i*7+4 by omega];exact c.2.2.2.2.1,rfl⟩
  ·obtain⟨a,n,c',hh⟩:=(HK.out i hi).slice
   exact⟨_,by rw[show off+(i*7+5)=off+i*7+5 by omega];exact c.2.2.2.2.2.1,by rw[hh];rfl⟩
  ·obtain⟨a,n,c',hh⟩:=(HM.out i hi).slice
   exact⟨_,by rw[show off+(i*7+6)=off+i*7+6 by omega];exact c.2.2.2.2.2.2,by rw[hh];rfl⟩)
 have bA:Blk ((w.alloc (.cells #[.int .i64 op,.string nm,.int .i64 N,.int .i64 ty.kind,.string ty.name,.slice ta tn tc,.slice (some ⟨b,off,none⟩) l.length cp] 27)).alloc Z7) w.heap.size 27 [.int .i64 op,.string nm,.int .i64 N,.int .i64 ty.kind,.string ty.name,.slice ta tn tc,.slice (some ⟨b,off,none⟩) l.length cp]:=(Blk.new w 27 _).alloc _
 have bR:Blk ((w.alloc (.cells #[.int .i64 op,.string nm,.int .i64 N,.int .i64 ty.kind,.string ty.name,.slice ta tn tc,.slice (some ⟨b,off,none⟩) l.length cp] 27)).alloc Z7) (w.heap.size+1) 27 z27:=Blk.new' 27 _ (by simp)
 have K0:Kept (fun _=>False) w ((w.alloc (.cells #[.int .i64 op,.string nm,.int .i64 N,.int .i64 ty.kind,.string ty.name,.slice ta tn tc,.slice (some ⟨b,off,none⟩) l.length cp] 27)).alloc Z7):=(kR.alloc _).alloc _
 have Z0:Hid (((w.alloc (.cells #[.int .i64 op,.string nm,.int .i64 N,.int .i64 ty.kind,.string ty.name,.slice ta tn tc,.slice (some ⟨b,off,none⟩) l.length cp] 27)).alloc Z7).heap.size=w.heap.size+2):=Ld (by simp)
 have HT0:=Ld (hcp ((w.alloc (.cells #[.int .i64 op,.string nm,.int .i64 N,.int .i64 ty.kind,.string ty.name,.slice ta tn tc,.slice (some ⟨b,off,none⟩) l.length cp] 27)).alloc Z7) ok (.slice ta tn tc) ((hty.frame (Same.alloc w (.cells #[.int .i64 op,.string nm,.int .i64 N,.int .i64 ty.kind,.string ty.name,.slice ta tn tc,.slice (some ⟨b,off,none⟩) l.length cp] 27))).frame (Same.alloc _ _)))
 clear hcp
 go_enter Tryz.func70,Tryz.ntmps70
 go_wp2_with fail
 refine HT0.out.mono ?_
 rintro e w1 ⟨tv,rfl,hT1,k1⟩
 obtain⟨va,vn,vc,rfl⟩:=hT1.slice
 unfold tyVal
 rw[Z0.out] at hT1
 have bA1:=bA.kept k1 (fun h=>h)
 have bR1:=bR.kept k1 (fun h=>h)
 have K1:=K0.trans k1
 have a0:w1.cell? ⟨w.heap.size,0,none⟩=some (.int .i64 op):=bA1.cell 0
 have a1:w1.cell? ⟨w.heap.size,1,none⟩=some (.string nm):=bA1.cell 1
 have a2:w1.cell? ⟨w.heap.size,2,none⟩=some (.int .i64 N):=bA1.cell 2
 have a3:w1.cell? ⟨w.heap.size,3,none⟩=some (.int .i64 ty.kind):=bA1.cell 3
 have a4:w1.cell? ⟨w.heap.size,4,none⟩=some (.string ty.name):=bA1.cell 4
 have a5:w1.cell? ⟨w.heap.size,5,none⟩=some (.slice ta tn tc):=bA1.cell 5
 have a6:w1.cell? ⟨w.heap.size,6,none⟩=some (.slice (some ⟨b,off,none⟩) l.length cp):=bA1.cell 6
 have fa3:=bA1.frozen 3
 have fa4:=bA1.frozen 4
 have fa5:=bA1.frozen 5
 have fa6:=bA1.frozen 6
 go_wp2_with fail
 have K1s:=(((K1.setCell (p:=⟨w.heap.size,3,none⟩) (Or.inr (by show w.heap.size≤w.heap.size;omega)) (.int .i64 ty.kind)).setCell (p:=⟨w.heap.size,4,none⟩) (Or.inr (by show w.heap.size≤w.heap.size;omega)) (.string ty.name)).setCell (p:=⟨w.heap.size,5,none⟩) (Or.inr (by show w.heap.size≤w.heap.size;omega)) (.slice va vn vc))
 refine (cloneTm_some b off l.length cp hn (fun j hj=>?_)).mono ?_
 ·obtain⟨v,hv,h1⟩:=hone.out j hj
  exact⟨v,by rw[K1s.cell (p:=⟨b,off+j,none⟩) (cell_lt hv) (fun h=>h)];exact hv,h1⟩
 rintro e w2 ⟨v,rfl,⟨g,cap,L,rfl,hcap,hg,hL,hLl,hLc⟩,k2⟩
 have hsz1:=K1.size
 have z1:=bR1.lt
 have hg1:w1.heap.size≤g:=by simpa [World.setCell] using hg
 have hg2:w.heap.size+2≤g:=Nat.le_trans z1 hg1
 have bA2:=(((bA1.set 3 (.int .i64 ty.kind)).set 4 (.string ty.name)).set 5 (.slice va vn vc)).kept k2 (fun h=>h)
 have bR2:=(((bR1.set_other _ _ (by show w.heap.size+1≠w.heap.size;omega)).set_other _ _ (by show w.heap.size+1≠w.heap.size;omega)).set_other _ _ (by show w.heap.size+1≠w.heap.size;omega)).kept k2 (fun h=>h)
 have K2:=K1s.trans k2
 have HT1:Hid (TyL (fun q=>w.heap.size+2≤q∧q≠g) w2 ty.kids (.slice va vn vc)):=Ld ((hT1.mono (ok':=fun q=>w.heap.size+2≤q∧q≠g) (fun q hq h=>⟨h,by omega⟩)).frame (Same.trans (Same.of_kept (S:=(·=w.heap.size)) ((((Kept.refl (fun x=>x=w.heap.size) w1).setCell (p:=⟨w.heap.size,3,none⟩) (Or.inl rfl) (.int .i64 ty.kind)).setCell (p:=⟨w.heap.size,4,none⟩) (Or.inl rfl) (.string ty.name)).setCell (p:=⟨w.heap.size,5,none⟩) (Or.inl rfl) (.slice va vn vc)) (fun q h e=>by omega)) (sK k2) (by simp[World.setCell])))
 have HLC:=Ld hLc
 have HLL:=Ld hLl
 have HG:=Ld hg2
 have HK1s:=Ld K1s
 clear a0 a1 a2 a3 a4 a5 a6 fa3 fa4 fa5 fa6 hLc hLl hg2 hg hg1 K1s hT1
 have a6:w2.cell? ⟨w.heap.size,6,none⟩=some (.slice (some ⟨b,off,none⟩) l.length cp):=bA2.cell 6
 have fa6:=bA2.frozen 6
 go_wp2_with (go_at_call 71;refine (clipTm_some _ g l.length cap hcap hn).mono ?_;rintro e w' ⟨rfl,rfl⟩)
 have c1:CJ w l [.int .i64 op,.string nm,.int .i64 N,.int .i64 ty.kind,.string ty.name,.slice va vn vc] l.length b off g 0 (w2.setCell ⟨w.heap.size,6,none⟩ (.slice (some ⟨g,0,none⟩) l.length l.length)):=by
  have hg:=HG.out
  refine⟨K2.setCell (p:=⟨w.heap.size,6,none⟩) (Or.inr (Nat.le_refl _)) _,bA2.set 6 _,bR2.set_other _ _ (by show w.heap.size+1≠w.heap.size;omega),L,K,M,hL.set_other _ _ (by show g≠w.heap.size;omega),HLL.out,fun j _ hj=>?_,fun i hi=>absurd hi (Nat.not_lt_zero _)⟩
  rw[HLC.out j hj]
  obtain⟨v,hv,_⟩:=hone.out j hj
  rw[HK1s.out.cell (p:=⟨b,off+j,none⟩) (cell_lt hv) (fun h=>h)]
 have HT2:Hid (TyL (fun q=>w.heap.size+2≤q∧q≠g) (w2.setCell ⟨w.heap.size,6,none⟩ (.slice (some ⟨g,0,none⟩) l.length l.length)) ty.kids (.slice va vn vc)):=Ld (HT1.out.frame (Same.of_kept (S:=(·=w.heap.size)) ((Kept.refl (fun x=>x=w.heap.size) w2).setCell (p:=⟨w.heap.size,6,none⟩) (Or.inl rfl) _) (fun q h e=>by omega)))
 have C1:=Ld c1
 clear c1 a6 fa6 bA1 bR1 bA bR hL bA2 bR2 K1 K2
 go_loopw [17] (fun i wr=>∃ k:Nat,k≤l.length∧i=.int .i64 k∧Hid (CJ w l [.int .i64 op,.string nm,.int .i64 N,.int .i64 ty.kind,.string ty.name,.slice va vn vc] l.length b off g k wr)∧Hid (TyL (fun q=>w.heap.size+2≤q∧q≠g) wr ty.kids (.slice va vn vc))) (fun i _=>l.length-(intOf i).toNat)
 case atStart=>exact⟨0,Nat.zero_le _,rfl,C1,HT2⟩
 case round=>
  obtain⟨k,hkl,rfl,HCI,HTk⟩:=hrel
  have hg:=HG.out
  have qA:=HCI.out.a
  have qR:=HCI.out.r
  have kp:=HCI.out.kp
  obtain⟨L,K',M',bG,hLn,hLo,hLd⟩:=HCI.out.row
  have HLo:=Ld hLo
  have HLd:=Ld hLd
  have HLn:=Ld hLn
  have BG:=Ld bG
  clear hLo hLd hLn bG
  by_cases hlt:k<l.length
  ·obtain⟨xa,xn,xc,hKk⟩:=(HK.out k hlt).slice
   obtain⟨ya,yn,yc,hMk⟩:=(HM.out k hlt).slice
   have c0:wr.cell? ⟨g,k*7,none⟩=some (.int .i64 l[k].op):=by
    rw[BG.out.cell,HLo.out (k*7) (by omega) (by omega)];exact (HCELL.out k hlt).1
   have c1:wr.cell? ⟨g,k*7+1,none⟩=some (.string l[k].name):=by
    rw[BG.out.cell,HLo.out (k*7+1) (by omega) (by omega)];exact (HCELL.out k hlt).2.1
   have c2:wr.cell? ⟨g,k*7+2,none⟩=some (.int .i64 l[k].n):=by
    rw[BG.out.cell,HLo.out (k*7+2) (by omega) (by omega)];exact (HCELL.out k hlt).2.2.1
   have c3:wr.cell? ⟨g,k*7+3,none⟩=some (.int .i64 l[k].ty.kind):=by
    rw[BG.out.cell,HLo.out (k*7+3) (by omega) (by omega)];exact (HCELL.out k hlt).2.2.2.1
   have c4:wr.cell? ⟨g,k*7+4,none⟩=some (.string l[k].ty.name):=by
    rw[BG.out.cell,HLo.out (k*7+4) (by omega) (by omega)];exact (HCELL.out k hlt).2.2.2.2.1
   have c5:wr.cell? ⟨g,k*7+5,none⟩=some (.slice xa xn xc):=by
    rw[BG.out.cell,HLo.out (k*7+5) (by omega) (by omega),← hKk];exact (HCELL.out k hlt).2.2.2.2.2.1
   have c6:wr.cell? ⟨g,k*7+6,none⟩=some (.slice ya yn yc):=by
    rw[BG.out.cell,HLo.out (k*7+6) (by omega) (by omega),← hMk];exact (HCELL.out k hlt).2.2.2.2.2.2
   have i1:(k:Int)<(l.length:Int):=by omega
   have a6:wr.cell? ⟨w.heap.size,6,none⟩=some (.slice (some ⟨g,0,none⟩) l.length l.length):=qA.cell 6
   have lA:=qA.lt
   have lG:=BG.out.lt
   have hcon:=Ld (HIH.out _ (List.getElem_mem hlt))
   have hty':Hid (TyL ok wr l[k].ty.kids (.slice xa xn xc)):=Ld (by rw[← hKk];exact (HK.out k hlt).frame (sK kp))
   have htm':Hid (TmL ok wr l[k].kids (.slice ya yn yc)):=Ld (by rw[← hMk];exact (HM.out k hlt).frame (sK kp))
   clear hKk hMk
   go_wp2_with fail
   have bX:Blk (wr.alloc (.cells #[.int .i64 l[k].op,.string l[k].name,.int .i64 l[k].n,.int .i64 l[k].ty.kind,.string l[k].ty.name,.slice xa xn xc,.slice ya yn yc] 27)) wr.heap.size 27 [.int .i64 l[k].op,.string l[k].name,.int .i64 l[k].n,.int .i64 l[k].ty.kind,.string l[k].ty.name,.slice xa xn xc,.slice ya yn yc]:=Blk.new wr 27 _
   have hAX:w.heap.size≠wr.heap.size:=by omega
   have hGX:g≠wr.heap.size:=by omega
   have hAG:g≠w.heap.size:=by omega
   refine wp_gen (F:=fun W3=>Kept (fun _=>False) wr W3∧Blk W3 wr.heap.size 27 [.int .i64 l[k].op,.string l[k].name,.int .i64 l[k].n,.int .i64 l[k].ty.kind,.string l[k].ty.name,.slice xa xn xc,.slice ya yn yc]∧wr.heap.size<W3.heap.size) ⟨kR.alloc _,bX,bX.lt⟩ ?_
   rintro W3 ⟨k3,b3,z3⟩
   have a3:W3.cell? ⟨w.heap.size,6,none⟩=some (.slice (some ⟨g,0,none⟩) l.length l.length):=(qA.kept k3 (fun h=>h)).cell 6
   have x0:W3.cell? ⟨wr.heap.size,0,none⟩=some (.int .i64 l[k].op):=b3.cell 0
   have x1:W3.cell? ⟨wr.heap.size,1,none⟩=some (.string l[k].name):=b3.cell 1
   have x2:W3.cell? ⟨wr.heap.size,2,none⟩=some (.int .i64 l[k].n):=b3.cell 2
   have x3:W3.cell? ⟨wr.heap.size,3,none⟩=some (.int .i64 l[k].ty.kind):=b3.cell 3
   have x4:W3.cell? ⟨wr.heap.size,4,none⟩=some (.string l[k].ty.name):=b3.cell 4
   have x5:W3.cell? ⟨wr.heap.size,5,none⟩=some (.slice xa xn xc):=b3.cell 5
   have x6:W3.cell? ⟨wr.heap.size,6,none⟩=some (.slice ya yn yc):=b3.cell 6
   have HC3:Hid (Calls Tryz.prog 70 #[.agg #[.int .i64 l[k].op,.string l[k].name,.int .i64 l[k].n,.int .i64 l[k].ty.kind,.string l[k].ty.name,.slice xa xn xc,.slice ya yn yc]] W3.drew fun e w'=>∃ v u,e=.returned (tmVal l[k] v u)∧TyL (fun q=>W3.heap.size≤q) w' l[k].ty.kids v∧TmL (fun q=>W3.heap.size≤q) w' l[k].kids u∧Kept (fun _=>False) W3 w'):=Ld ((hcon.out W3.drew ok (.slice xa xn xc) (.slice ya yn yc) ((hty'.out.frame (sK k3)).frame (Same.drew _)) ((htm'.out.frame (sK k3)).frame (Same.drew _))).mono fun e w' ⟨v,u,h1,h2,h3,h4⟩=>⟨v,u,h1,h2,h3,(kR.drew).trans h4⟩)
   have B3:=Ld b3
   have G3:=Ld (BG.out.kept k3 (fun h=>h))
   clear b3 bX c0 c1 c2 c3 c4 c5 c6 a6
   go_region_held3 (fun w'=>w'.cell? ⟨w.heap.size,6,none⟩=some (.slice (some ⟨g,0,none⟩) l.length l.length)∧w'.cell? ⟨wr.heap.size,0,none⟩=some (.int .i64 l[k].op)∧w'.cell? ⟨wr.heap.size,1,none⟩=some (.string l[k].name)∧w'.cell? ⟨wr.heap.size,2,none⟩=some (.int .i64 l[k].n)∧w'.cell? ⟨wr.heap.size,3,none⟩=some (.int .i64 l[k].ty.kind)∧w'.cell? ⟨wr.heap.size,4,none⟩=some (.string l[k].ty.name)∧w'.cell? ⟨wr.heap.size,5,none⟩=some (.slice xa xn xc)∧w'.cell? ⟨wr.heap.size,6,none⟩=some (.slice ya yn yc)) (go_keep)
    (first | (go_at_call 70;refine HC3.out.mono ?_;rintro e w4 ⟨v,u,rfl,hv,hu,k4⟩;obtain⟨va4,vn4,vc4,rfl⟩:=hv.slice;obtain⟨ua4,un4,uc4,rfl⟩:=hu.slice;unfold tmVal;have G4:=G3.out.kept k4 (fun h=>h);have y0:w4.cell? ⟨w.heap.size,6,none⟩=some (.slice (some ⟨g,0,none⟩) l.length l.length):=(by rw[k4.cell (p:=⟨w.heap.size,6,none⟩) (by show w.heap.size<_;omega) (fun h=>h)];exact a3);have y1:w4.cell? ⟨wr.heap.size,0,none⟩=some (.int .i64 l[k].op):=(B3.out.kept k4 (fun h=>h)).cell 0;have y2:w4.cell? ⟨wr.heap.size,1,none⟩=some (.string l[k].name):=(B3.out.kept k4 (fun h=>h)).cell 1;have y3:w4.cell? ⟨wr.heap.size,2,none⟩=some (.int .i64 l[k].n):=(B3.out.kept k4 (fun h=>h)).cell 2;have y4:w4.cell? ⟨wr.heap.size,3,none⟩=some (.int .i64 l[k].ty.kind):=(B3.out.kept k4 (fun h=>h)).cell 3;have y5:w4.cell? ⟨wr.heap.size,4,none⟩=some (.string l[k].ty.name):=(B3.out.kept k4 (fun h=>h)).cell 4;have y6:w4.cell? ⟨wr.heap.size,5,none⟩=some (.slice xa xn xc):=(B3.out.kept k4 (fun h=>h)).cell 5;have y7:w4.cell? ⟨wr.heap.size,6,none⟩=some (.slice ya yn yc):=(B3.out.kept k4 (fun h=>h)).cell 6;have t0:w4.cell? ⟨g,k*7,none⟩=some (L[k*7]'(by have:=HLn.out;omega)):=(by rw[G4.cell];exact List.getElem?_eq_getElem _);have t1:w4.cell? ⟨g,k*7+1,none⟩=some (L[k*7+1]'(by have:=HLn.out;omega)):=(by rw[G4.cell];exact List.getElem?_eq_getElem _);have t2:w4.cell? ⟨g,k*7+2,none⟩=some (L[k*7+2]'(by have:=HLn.out;omega)):=(by rw[G4.cell];exact List.getElem?_eq_getElem _);have t3:w4.cell? ⟨g,k*7+3,none⟩=some (L[k*7+3]'(by have:=HLn.out;omega)):=(by rw[G4.cell];exact List.getElem?_eq_getElem _);have t4:w4.cell? ⟨g,k*7+4,none⟩=some (L[k*7+4]'(by have:=HLn.out;omega)):=(by rw[G4.cell];exact List.getElem?_eq_getElem _);have t5:w4.cell? ⟨g,k*7+5,none⟩=some (L[k*7+5]'(by have:=HLn.out;omega)):=(by rw[G4.cell];exact List.getElem?_eq_getElem _);have t6:w4.cell? ⟨g,k*7+6,none⟩=some (L[k*7+6]'(by have:=HLn.out;omega)):=(by rw[G4.cell];exact List.getElem?_eq_getElem _);have f0:=G4.frozen (k*7);have f1:=G4.frozen (k*7+1);have f2:=G4.frozen (k*7+2);have f3:=G4.frozen (k*7+3);have f4:=G4.frozen (k*7+4);have f5:=G4.frozen (k*7+5);have f6:=G4.frozen (k*7+6)))
   have HST:=Ld (HCI.out.step hg hlt (k3.trans k4) (hv.mono (fun q _ h=>by omega)) (hu.mono (fun q _ h=>by omega)))
   have HTS:=Ld ((HTk.out.frame (sK (k3.trans k4))).frame (set7 (g:=g) (i0:=k*7) (i1:=k*7+1) (i2:=k*7+2) (i3:=k*7+3) (i4:=k*7+4) (i5:=k*7+5) (i6:=k*7+6) (x0:=.int .i64 l[k].op) (x1:=.string l[k].name) (x2:=.int .i64 l[k].n) (x3:=.int .i64 l[k].ty.kind) (x4:=.string l[k].ty.name) (x5:=.slice va4 vn4 vc4) (x6:=.slice ua4 un4 uc4) (fun q h=>h.2)))
   go_wp2_with fail
   go_roundw
   case rel=>exact⟨k+1,by omega,by go_num,HST,HTS⟩
   case measure=>simp[intOf];omega
  ·have hkk:k=l.length:=by omega
   subst hkk
   have a0:wr.cell? ⟨w.heap.size,0,none⟩=some (.int .i64 op):=qA.cell 0
   have a1:wr.cell? ⟨w.heap.size,1,none⟩=some (.string nm):=qA.cell 1
   have a2:wr.cell? ⟨w.heap.size,2,none⟩=some (.int .i64 N):=qA.cell 2
   have a3:wr.cell? ⟨w.heap.size,3,none⟩=some (.int .i64 ty.kind):=qA.cell 3
   have a4:wr.cell? ⟨w.heap.size,4,none⟩=some (.string ty.name):=qA.cell 4
   have a5:wr.cell? ⟨w.heap.size,5,none⟩=some (.slice va vn vc):=qA.cell 5
   have a6:wr.cell? ⟨w.heap.size,6,none⟩=some (.slice (some ⟨g,0,none⟩) l.length l.length):=qA.cell 6
   have r0:wr.cell? ⟨w.heap.size+1,0,none⟩=some (.int .i64 0):=qR.cell 0
   have f0:=qR.frozen 0
   have r1:wr.cell? ⟨w.heap.size+1,1,none⟩=some (.string ⟨#[]⟩):=qR.cell 1
   have f1:=qR.frozen 1
   have r2:wr.cell? ⟨w.heap.size+1,2,none⟩=some (.int .i64 0):=qR.cell 2
   have f2:=qR.frozen 2
   have r3:wr.cell? ⟨w.heap.size+1,3,none⟩=some (.int .i64 0):=qR.cell 3
   have f3:=qR.frozen 3
   have r4:wr.cell? ⟨w.heap.size+1,4,none⟩=some (.string ⟨#[]⟩):=qR.cell 4
   have f4:=qR.frozen 4
   have r5:wr.cell? ⟨w.heap.size+1,5,none⟩=some (.slice none 0 0):=qR.cell 5
   have f5:=qR.frozen 5
   have r6:wr.cell? ⟨w.heap.size+1,6,none⟩=some (.slice none 0 0):=qR.cell 6
   have f6:=qR.frozen 6
   have QR:=Ld qR
   have KP:=Ld kp
   clear qR kp qA
   go_wp2_with fail
   have bF:=r7 (x0:=.int .i64 op) (x1:=.string nm) (x2:=.int .i64 N) (x3:=.int .i64 ty.kind) (x4:=.string ty.name) (x5:=.slice va vn vc) (x6:=.slice (some ⟨g,0,none⟩) l.length l.length) QR.out rfl
   refine bodyPost_ret (results_one Tryz.results70 rfl (load_tm (t:=.mk op nm N ty l) bF)) rfl ⟨_,g,_,rfl,Nat.le_refl _,by omega,?_,?_,?_⟩
   ·exact (HTk.out.frame (set7 (g:=w.heap.size+1) (fun q h=>by omega))).mono (fun q _ h=>⟨by omega,h.2⟩)
   ·obtain⟨L,K',M',bG,hLn,hLo,hLd⟩:=HCI.out.row
    have bG':=(((((((bG.set_other ⟨w.heap.size+1,0,none⟩ (.int .i64 op) (by show g≠w.heap.size+1;omega)).set_other ⟨w.heap.size+1,1,none⟩ (.string nm) (by show g≠w.heap.size+1;omega)).set_other ⟨w.heap.size+1,2,none⟩ (.int .i64 N) (by show g≠w.heap.size+1;omega)).set_other ⟨w.heap.size+1,3,none⟩ (.int .i64 ty.kind) (by show g≠w.heap.size+1;omega)).set_other ⟨w.heap.size+1,4,none⟩ (.string ty.name) (by show g≠w.heap.size+1;omega)).set_other ⟨w.heap.size+1,5,none⟩ (.slice va vn vc) (by show g≠w.heap.size+1;omega)).set_other ⟨w.heap.size+1,6,none⟩ (.slice (some ⟨g,0,none⟩) l.length l.length) (by show g≠w.heap.size+1;omega))
    refine⟨⟨L,K',M',bG',hLn,fun i hi=>?_⟩⟩
    obtain⟨e0,e1,e2,e3,e4,e5,e6,e7,e8⟩:=hLd i hi hi
    exact⟨e0,e1,e2,e3,e4,e5,e6,(e7.frame (set7 (g:=w.heap.size+1) (fun q h=>by omega))).mono (fun q _ h=>⟨by omega,h.2⟩),(e8.frame (set7 (g:=w.heap.size+1) (fun q h=>by omega))).mono (fun q _ h=>⟨by omega,h.2⟩)⟩
   ·exact (((((((KP.out.setCell (p:=⟨w.heap.size+1,0,none⟩) (Or.inr (by show w.heap.size≤w.heap.size+1;omega)) _).setCell (p:=⟨w.heap.size+1,1,none⟩) (Or.inr (by show w.heap.size≤w.heap.size+1;omega)) _).setCell (p:=⟨w.heap.size+1,2,none⟩) (Or.inr (by show w.heap.size≤w.heap.size+1;omega)) _).setCell (p:=⟨w.heap.size+1,3,none⟩) (Or.inr (by show w.heap.size≤w.heap.size+1;omega)) _).setCell (p:=⟨w.heap.size+1,4,none⟩) (Or.inr (by show w.heap.size≤w.heap.size+1;omega)) _).setCell (p:=⟨w.heap.size+1,5,none⟩) (Or.inr (by show w.heap.size≤w.heap.size+1;omega)) _).setCell (p:=⟨w.heap.size+1,6,none⟩) (Or.inr (by show w.heap.size≤w.heap.size+1;omega)) _)
theorem clone_kids {t:Tm} (hb:BdTm t) (hne:t.kids≠[]) {w:World} {ok:Nat→Prop} {tk kk:Value} (h:TyL ok w t.ty.kids tk) (h':TmL ok w t.kids kk):Calls Tryz.prog 70 #[tmVal t tk kk] w (ClP2 t w):=by
 obtain⟨op,nm,N,ty,l⟩:=t
 cases hb with
 | mk hn ht hl=>
  obtain⟨ta,tn,tc,rfl⟩:=h.slice
  cases h' with
  | nil h'=>exact absurd rfl hne
  | mk K M hne hb hc hcell hk hm=>exact clone_some2 (copyTy_any ht) h (fun t ht=>clone_any (hl t ht)) hn K M hcell hk hm
theorem remG_once (x:ByteArray) (F:List ByteArray):∀ (l out:List (ByteArray×Tm)),(∀ b∈out,look out b.1=some b.2)→∀ b∈remG x F out l,look (remG x F out l) b.1=some b.2
 | [],out,h=>by rw[remG];exact h
 | b::l,out,h=>by
  rw[remG]
  split
  ·exact remG_once x F l out h
  ·rename_i hc
   refine remG_once x F l (out++[b]) (fun c hcm=>?_)
   simp only[Bool.or_eq_true,not_or,Bool.not_eq_true] at hc
   have hn:look out b.1=none:=by
    cases hl:look out b.1 with
    | none=>rfl
    | some u=>rw[hl] at hc;exact absurd hc.1.1 (by simp)
   rw[look_app]
   rcases List.mem_append.1 hcm with hcm | hcm
   ·rw[h c hcm]
   ·rw[List.mem_singleton.1 hcm,hn]
    simp[look]
theorem frB_look {l:List (ByteArray×Tm)} (h:∀ b∈l,look l b.1=some b.2) (x:ByteArray):mb x (frB l)=true↔∃ s u,look l s=some u∧mb x (fr u)=true:=by
 constructor
 ·intro hx
  have key:∀ (r:List (ByteArray×Tm)),mb x (frB r)=true→∃ b∈r,mb x (fr b.2)=true:=by
   intro r
   induction r with
   | nil=>intro h;cases h
   | cons b r ih=>
    intro h
    rw[frB,mb_app,Bool.or_eq_true] at h
    rcases h with h | h
    ·exact⟨b,by simp,h⟩
    ·obtain⟨c,hc,hx⟩:=ih h
     exact⟨c,List.mem_cons_of_mem _ hc,hx⟩
  obtain⟨b,hb,hx⟩:=key l hx
  exact⟨b.1,b.2,h b hb,hx⟩
 ·rintro⟨s,u,hs,hx⟩
  rw[mb_iff] at hx ⊢
  exact frB_mem hs hx
theorem rem_und {l:List (ByteArray×Tm)} {σ:ByteArray→Option Tm} (h:∀ s,look l s=σ s) (x:ByteArray) (y:Tm) (s:ByteArray):look (remL l x (fr y)) s=undF x (fun s=>mb s (fr y)) σ s:=by
 rw[remL_look,h]
 unfold undF
 by_cases hx:s=x
 ·simp[hx]
 ·cases hm:mb s (fr y) <;> simp[hx,hm]
theorem rem_caught {l:List (ByteArray×Tm)} {σ:ByteArray→Option Tm} (h:∀ s,look l s=σ s) (x:ByteArray) (y:Tm) (z:ByteArray):mb z (frB (remL l x (fr y)))=true↔∃ s u,undF x (fun s=>mb s (fr y)) σ s=some u∧mb z (fr u)=true:=by
 have h0:∀ b∈remL l x (fr y),look (remL l x (fr y)) b.1=some b.2:=remG_once x (fr y) l [] (fun b hb=>by cases hb)
 rw[frB_look h0]
 constructor
 ·rintro⟨s,u,hs,hz⟩;exact⟨s,u,by rw[← rem_und h];exact hs,hz⟩
 ·rintro⟨s,u,hs,hz⟩;exact⟨s,u,by have:=rem_und h x y s;rw[hs] at this;exact this,hz⟩
theorem look_none {l:List (ByteArray×Tm)} (h:∀ s,look l s=none):l=[]:=by
 cases l with
 | nil=>rfl
 | cons b l=>have:=h b.1;rw[look,if_pos rfl] at this;cases this
structure KP (W:World) (base g n:Nat) (R:Nat→Option Tm):Prop where
 row:∃ (L:List Value) (K M:Nat→Value),Blk W g 27 L∧L.length=n*7∧∀ i,i<n→∀ u,R i=some u→L[i*7]?=some (.int .i64 u.op)∧L[i*7+1]?=some (.string u.name)∧L[i*7+2]?=some (.int .i64 u.n)∧L[i*7+3]?=some (.int .i64 u.ty.kind)∧L[i*7+4]?=some (.string u.ty.name)∧L[i*7+5]?=some (K i)∧L[i*7+6]?=some (M i)∧TyL (fun q=>base≤q∧q≠g) W u.ty.kids (K i)∧TmL (fun q=>base≤q∧q≠g) W u.kids (M i)
theorem KP.kept {W W':World} {base g n:Nat} {R:Nat→Option Tm} (h:KP W base g n R) {S:Nat→Prop} (k:Kept S W W') (h1:¬ S g) (h2:∀ q,base≤q→q≠g→¬ S q):KP W' base g n R:=by
 obtain⟨L,K,M,bG,hL,hR⟩:=h.row
 refine⟨⟨L,K,M,bG.kept k h1,hL,fun i hi u hu=>?_⟩⟩
 obtain⟨e0,e1,e2,e3,e4,e5,e6,e7,e8⟩:=hR i hi u hu
 exact⟨e0,e1,e2,e3,e4,e5,e6,e7.frame (Same.of_kept k (fun q hq=>h2 q hq.1 hq.2)),e8.frame (Same.of_kept k (fun q hq=>h2 q hq.1 hq.2))⟩
theorem KP.lt {W:World} {base g n:Nat} {R:Nat→Option Tm} (h:KP W base g n R):g<W.heap.size:=by obtain⟨L,K,M,bG,_⟩:=h.row;exact bG.lt
theorem KP.frozen {W:World} {base g n:Nat} {R:Nat→Option Tm} (h:KP W base g n R):∀ i,W.frozen? ⟨g,i,none⟩=false:=by obtain⟨L,K,M,bG,_⟩:=h.row;exact bG.frozen
theorem KP.there {W:World} {base g n:Nat} {R:Nat→Option Tm} (h:KP W base g n R) {i:Nat} (hi:i<n*7):∃ v,W.cell? ⟨g,i,none⟩=some v:=by
 obtain⟨L,K,M,bG,hL,_⟩:=h.row
 exact⟨L[i],by rw[bG.cell,List.getElem?_eq_getElem]⟩
theorem KP.lay {W:World} {base g n j:Nat} (h:KP W base g n (fun _=>none)) (hj:j<n) (x0 x1 x2 x3 x4 x5 x6:Value) (W3:World)
  (hW:W3=((((((W.setCell ⟨g,j*7,none⟩ x0).setCell ⟨g,j*7+1,none⟩ x1).setCell ⟨g,j*7+2,none⟩ x2).setCell ⟨g,j*7+3,none⟩ x3).setCell ⟨g,j*7+4,none⟩ x4).setCell ⟨g,j*7+5,none⟩ x5).setCell ⟨g,j*7+6,none⟩ x6):KP W3 base g n (fun _=>none):=by
 obtain⟨L,K,M,bG,hL,hR⟩:=h.row
 subst hW
 exact⟨⟨_,K,M,(((((((bG.set _ _).set _ _).set _ _).set _ _).set _ _).set _ _).set _ _),by simpa using hL,fun i hi u hu=>by cases hu⟩⟩
theorem KP.put {W:World} {base g n j:Nat} {R:Nat→Option Tm} {u:Tm} {v x:Value} (h:KP W base g n R) (hj:j<n) (hv:TyL (fun q=>base≤q∧q≠g) W u.ty.kids v) (hx:TmL (fun q=>base≤q∧q≠g) W u.kids x) (W3:World)
  (hW:W3=((((((W.setCell ⟨g,j*7,none⟩ (.int .i64 u.op)).setCell ⟨g,j*7+1,none⟩ (.string u.name)).setCell ⟨g,j*7+2,none⟩ (.int .i64 u.n)).setCell ⟨g,j*7+3,none⟩ (.int .i64 u.ty.kind)).setCell ⟨g,j*7+4,none⟩ (.string u.ty.name)).setCell ⟨g,j*7+5,none⟩ v).setCell ⟨g,j*7+6,none⟩ x):KP W3 base g n (fun i=>if i=j then some u else R i):=by
 obtain⟨L,K,M,bG,hL,hR⟩:=h.row
 subst hW
 refine⟨⟨((((((L.set (j*7) (.int .i64 u.op)).set (j*7+1) (.string u.name)).set (j*7+2) (.int .i64 u.n)).set (j*7+3) (.int .i64 u.ty.kind)).set (j*7+4) (.string u.ty.name)).set (j*7+5) v).set (j*7+6) x,fun i=>if i=j then v else K i,fun i=>if i=j then x else M i,
  (((((((bG.set _ _).set _ _).set _ _).set _ _).set _ _).set _ _).set _ _),by simpa using hL,fun i hi t ht=>?_⟩⟩
 by_cases hij:i=j
 ·subst hij
  simp only[if_true,Option.some.injEq] at ht ⊢
  subst ht
  refine⟨?_,?_,?_,?_,?_,?_,?_,?_,?_⟩
  ·rw[List.getElem?_set_ne (by omega),List.getElem?_set_ne (by omega),List.getElem?_set_ne (by omega),List.getElem?_set_ne (by omega),List.getElem?_set_ne (by omega),List.getElem?_set_ne (by omega),List.getElem?_set_self (by omega)]
  ·rw[List.getElem?_set_ne (by omega),List.getElem?_set_ne (by omega),List.getElem?_set_ne (by omega),List.getElem?_set_ne (by omega),List.getElem?_set_ne (by omega),List.getElem?_set_self (by simp;omega)]
  ·rw[List.getElem?_set_ne (by omega),List.getElem?_set_ne (by omega),List.getElem?_set_ne (by omega),List.getElem?_set_ne (by omega),List.getElem?_set_self (by simp;omega)]
  ·rw[List.getElem?_set_ne (by omega),List.getElem?_set_ne (by omega),List.getElem?_set_ne (by omega),List.getElem?_set_self (by simp;omega)]
  ·rw[List.getElem?_set_ne (by omega),List.getElem?_set_ne (by omega),List.getElem?_set_self (by simp;omega)]
  ·rw[List.getElem?_set_ne (by omega),List.getElem?_set_self (by simp;omega)]
  ·rw[List.getElem?_set_self (by simp;omega)]
  ·exact hv.frame (set7 (fun q h=>h.2))
  ·exact hx.frame (set7 (fun q h=>h.2))
 ·simp only[if_neg hij] at ht ⊢
  obtain⟨e0,e1,e2,e3,e4,e5,e6,e7,e8⟩:=hR i hi t ht
  refine⟨?_,?_,?_,?_,?_,?_,?_,e7.frame (set7 (fun q h=>h.2)),e8.frame (set7 (fun q h=>h.2))⟩
  all_goals (rw[List.getElem?_set_ne (by omega),List.getElem?_set_ne (by omega),List.getElem?_set_ne (by omega),List.getElem?_set_ne (by omega),List.getElem?_set_ne (by omega),List.getElem?_set_ne (by omega),List.getElem?_set_ne (by omega)];assumption)
theorem KP.krow {W:World} {base g:Nat} {l:List Tm} {R:Nat→Option Tm} (h:KP W base g l.length R) (hR:∀ i (hi:i<l.length),R i=some l[i]):KRow W base g l:=by
 obtain⟨L,K,M,bG,hL,h1⟩:=h.row
 exact⟨⟨L,K,M,bG,by omega,fun i hi=>h1 i hi _ (hR i hi)⟩⟩
theorem bagF_some (B:ByteArray→Bool) (s:ByteArray):(bagF B s).isSome=B s:=by unfold bagF;cases B s <;> rfl
theorem copyM_any {w:World} {d c m n:Nat} {B C:ByteArray→Bool} (hd:MapF w d m (bagF B)) (hc:MapF w c n (bagF C)) (hdc:d≠c) (hb:m+n≤1000000):
  Calls Tryz.prog 149 #[.map (some d),.map (some c)] w fun e w'=>e=.returned (.tuple #[])∧MapF w' d (m+n) (bagF (fun s=>B s||C s))∧Kept (fun q=>q=d) w w':=by
 have HD:=Ld hd
 have HC:=Ld hc
 have HL:Hid (d<w.heap.size∧c<w.heap.size∧d≠c):=Ld ⟨hd.lt,hc.lt,hdc⟩
 have HB:=Ld hb
 clear hd hc hdc hb
 go_enter Tryz.func149,Tryz.ntmps149
 go_wp2_with (at_range;refine wpList_rangeF rfl _ _ 4 rfl u90 rfl HC.out ?_;intro w2 cnt hR k2 z2 hcn)
 have HR:=Ld hR
 have HCN:=Ld hcn
 have M2:=Ld (HD.out.kept k2 (fun e=>e))
 have K2:Hid (Kept (fun q=>q=d) w w2):=Ld (k2.mono (fun _ _ e=>e.elim))
 clear hR k2 z2 hcn
 go_frame
 go_loopw [] (fun wr=>∃ (cnt' k:Nat) (g:ByteArray→Bool),Kept (fun q=>q=d) w wr∧MapR wr c w.heap.size n (bagF C) g cnt'∧cnt'+k≤cnt∧(∀ s,g s=true→C s=true)∧MapF wr d (m+k) (bagF (fun s=>B s||(C s&&!g s)))) (fun wr=>wr.rangeLeft c w.heap.size)
 case atStart=>
  refine⟨cnt,0,fun s=>(bagF C s).isSome,K2.out,HR.out,Nat.le_refl _,fun s h=>by have h2:(bagF C s).isSome=true:=h;rw[bagF_some] at h2;exact h2,?_⟩
  have e:(fun s=>B s||(C s&&!(bagF C s).isSome))=B:=by funext s;rw[bagF_some];cases B s <;> cases C s <;> rfl
  rw[e]
  exact M2.out
 case round=>
  obtain⟨cnt',k,g,hk,hR',hle,hgs,hM⟩:=hrel
  have HK:=Ld hk
  have HRR:=Ld hR'
  have HM:=Ld hM
  have HLE:=Ld hle
  have HGS:=Ld hgs
  clear hk hR' hle hM hgs HR M2 K2
  go_wp2_with (at_next;refine wpList_nextF rfl _ rfl rfl HRR.out ?_ ?_)
  ·intro h0
   have HE:Hid (MapF wr d (m+n) (bagF (fun s=>B s||C s))):=Ld (by
    have e:(fun s=>B s||(C s&&!g s))=fun s=>B s||C s:=by
     funext s
     cases hg:g s with
     | false=>simp
     | true=>
      have hc:=HGS.out s hg
      rw[h0 s (HRR.out.map.small (by rw[bagF_some];exact hc))] at hg
      cases hg
    rw[← e]
    exact HM.out.mono (by have:=HLE.out;have:=HCN.out;omega))
   go_wp2_with fail
   go_end0
   exact⟨rfl,HE.out,HK.out⟩
  ·intro s v w3 cnt3 hs hg hfs hR3 hlt k3 z3 hen
   have hCs:=HGS.out s hg
   obtain rfl:v=.bool true:=by
    unfold bagF at hfs
    rw[hCs] at hfs
    simpa using hfs.symm
   have HLO:=Ld HRR.out.left
   have KW3:=Ld (HK.out.via1 k3 (fun q hq e=>by omega))
   have M3:=Ld (HM.out.kept k3 (fun e=>by have:=HL.out.1;omega))
   have HR3:=Ld hR3
   have HLT:=Ld hlt
   have HS:=Ld hs
   have HG:=Ld hg
   have HCS:=Ld hCs
   have HGN:Hid (∀ t,(g t&&!decide (t=s))=true→C t=true):=Ld (fun t ht=>HGS.out t (by rw[Bool.and_eq_true] at ht;exact ht.1))
   have HST:Hid (updF (bagF (fun t=>B t||(C t&&!g t))) s (.bool true)=bagF (fun t=>B t||(C t&&!(g t&&!decide (t=s))))):=Ld (by
    rw[bagF_upd]
    congr 1
    funext t
    by_cases ht:t=s
    ·subst ht;simp[HCS.out]
    ·simp[ht])
   have HNK:Hid (m+k<maxLen):=Ld (by have:=HLE.out;have:=HCN.out;have:=HB.out;unfold maxLen;omega)
   clear k3 hR3 hlt hg hfs hs HRR HM hCs HGS
   go_wp2_with (at_mapUpdate;refine wpList_storeF rfl _ _ _ _ 4 rfl u90 rfl M3.out s rfl HS.out HNK.out (.bool true) rfl ?_;intro w5 hm5 k5;clear hen)
   rw[HST.out] at hm5
   have KW5:=Ld (KW3.out.trans k5)
   have HR5:=Ld (HR3.out.kept k5 (fun e=>HL.out.2.2 e.symm) (fun e=>by have:=HL.out.1;omega))
   have HM5:=Ld hm5
   clear hm5 k5
   go_wp2_with fail
   go_frame
   go_roundw
   case rel=>exact⟨cnt3,k+1,_,KW5.out,HR5.out,by have:=HLE.out;have:=HLT.out;omega,HGN.out,HM5.out⟩
   case measure=>rw[HR5.out.left,HLO.out];exact HLT.out
theorem format_ok {t:Tm} {out:List UInt8} {ok:Nat→Prop} {w:World} {ta:Option Addr} {tn tc:Nat} {ma:Option Addr} {mn mc:Nat} (hty:TyL ok w t.ty.kids (.slice ta tn tc)) (htm:TmL ok w t.kids (.slice ma mn mc)) (hp:PC t out) (hv:validB t=true) (hs:SmTm big t) (h0:out≠[]) (hlen:out.length≤1000000000):
  Calls Tryz.prog 33 #[.agg #[.int .i64 t.op,.string t.name,.int .i64 t.n,.int .i64 t.ty.kind,.string t.ty.name,.slice ta tn tc,.slice ma mn mc]] w fun e w'=>e=.returned (.string ⟨out.toArray⟩)∧Kept (fun _=>False) w w':=by
 have K0:Kept (fun _=>False) w (w.alloc (.cells #[.int .i64 t.op,.string t.name,.int .i64 t.n,.int .i64 t.ty.kind,.string t.ty.name,.slice ta tn tc,.slice ma mn mc] 27)):=kR.alloc _
 have bX:Blk (w.alloc (.cells #[.int .i64 t.op,.string t.name,.int .i64 t.n,.int .i64 t.ty.kind,.string t.ty.name,.slice ta tn tc,.slice ma mn mc] 27)) w.heap.size 27 (tmCells t (.slice ta tn tc) (.slice ma mn mc)):=Blk.new w 27 _
 have HV:=Ld (valid_any (hty.frame (Same.alloc w (.cells #[.int .i64 t.op,.string t.name,.int .i64 t.n,.int .i64 t.ty.kind,.string t.ty.name,.slice ta tn tc,.slice ma mn mc] 27))) (htm.frame (Same.alloc w (.cells #[.int .i64 t.op,.string t.name,.int .i64 t.n,.int .i64 t.ty.kind,.string t.ty.name,.slice ta tn tc,.slice ma mn mc] 27))) hs)
 have HP:=Ld hp
 have H0:=Ld h0
 have HL:=Ld hlen
 clear hp h0 hlen hs
 go_enter Tryz.func33,Tryz.ntmps33
 go_wp2_with fail
 refine HV.out.mono ?_
 rintro e w1 ⟨rfl,k1⟩
 rw[hv]
 have K1:=K0.trans k1
 have b1:=bX.kept k1 (fun h=>h)
 have bB:Blk (w1.alloc (.cells #[.pointer none,.slice none 0 0] 107)) w1.heap.size 107 [.pointer none,.slice none 0 0]:=Blk.new w1 107 _
 have K2:Kept (fun _=>False) w1 (w1.alloc (.cells #[.pointer none,.slice none 0 0] 107)):=kR.alloc _
 have hU:Bu w1.heap.size w1.heap.size [] (w1.alloc (.cells #[.pointer none,.slice none 0 0] 107)):=Or.inl ⟨Nat.le_refl _,.slice none 0 0,bB,World.ownsRow_nil _ _ _ _,by simp[Value.ownBlock]⟩
 have t5:=((hty.frame (sK K1)).mono (ok':=fun q=>q<w1.heap.size) (fun q h _=>h)).frame (sK K2)
 have t6:=((htm.frame (sK K1)).mono (ok':=fun q=>q<w1.heap.size) (fun q h _=>h)).frame (sK K2)
 have HC:=Ld (HP.out w1.heap.size w1.heap.size [] _ _ _ hU (by simp) t5 t6 (by have:=HL.out;simpa using this))
 have b2:=b1.alloc (.cells #[.pointer none,.slice none 0 0] 107)
 have l1:=b1.lt
 have n1:w.heap.size≠w1.heap.size:=by omega
 have g0:w1.cell? ⟨w.heap.size,0,none⟩=some (.int .i64 t.op):=b1.cell 0
 have g1:w1.cell? ⟨w.heap.size,1,none⟩=some (.string t.name):=b1.cell 1
 have g2:w1.cell? ⟨w.heap.size,2,none⟩=some (.int .i64 t.n):=b1.cell 2
 have g3:w1.cell? ⟨w.heap.size,3,none⟩=some (.int .i64 t.ty.kind):=b1.cell 3
 have g4:w1.cell? ⟨w.heap.size,4,none⟩=some (.string t.ty.name):=b1.cell 4
 have g5:w1.cell? ⟨w.heap.size,5,none⟩=some (.slice ta tn tc):=b1.cell 5
 have g6:w1.cell? ⟨w.heap.size,6,none⟩=some (.slice ma mn mc):=b1.cell 6
 go_wp2_with fail
 refine HC.out.mono ?_
 rintro e w3 ⟨rfl,u3,k3⟩
 rw[List.nil_append] at u3
 have HS:=Ld (bstr_any u3 H0.out)
 have K3:Kept (fun k=>w1.heap.size≤k) w1 w3:=(K2.mono (fun _ _ h=>h.elim)).via k3 (fun x hx e=>by
  rcases e with rfl | ⟨h,_⟩
  ·exact Nat.le_refl _
  ·exact h)
 go_wp2_with fail
 refine HS.out.mono ?_
 rintro e w4 ⟨rfl,k4⟩
 go_wp2_with fail
 go_ret
 refine⟨rfl,K1.via (S':=fun k=>w1.heap.size≤k) (K3.via (S':=fun k=>w1.heap.size≤k) ⟨k4.os,k4.tape,k4.output,k4.size,fun q hq hn=>k4.block q (by omega)⟩ (fun _ _ h=>h)) (fun x hx h=>?_)⟩
 have:=K1.size
 omega
def digS:ByteArray:=⟨#[48,49,50,51,52,53,54,55,56,57]⟩
def digL:List Value:=(Lib.setCells digS.data.toList).toList
theorem dig_zero:∀ w,(zeroValue 113).run Tryz.prog w=.ok (.agg (Array.replicate 256 (.bool false))) w:=fun w=>by kernel_rfl
theorem dig_set (w:World):Calls Tryz.prog 82 #[.string digS] w fun e w'=>e=.returned (.tuple #[.agg digL.toArray,.bool true])∧w'=w.alloc (.cells digL.toArray 113):=by
 refine (Tryz.strings_makeASCIISet dig_zero digS w (by decide) ?_).mono fun e w' ⟨h1,h2⟩=>⟨by rw[h1];unfold digL;rw[Array.toArray_toList],by rw[h2];unfold digL;rw[Array.toArray_toList]⟩
 intro j b hj
 have hlt:j<10:=(List.getElem?_eq_some_iff.1 hj).1
 rcases (show j=0∨j=1∨j=2∨j=3∨j=4∨j=5∨j=6∨j=7∨j=8∨j=9 by omega) with rfl | rfl | rfl | rfl | rfl | rfl | rfl | rfl | rfl | rfl <;> (cases hj;decide)
theorem dig_50:digL[50]?=some (.bool true):=by kernel_rfl
theorem dig_49:digL[49]?=some (.bool true):=by kernel_rfl
theorem dig_120:digL[120]?=some (.bool false):=by kernel_rfl
def strSz:Value→Nat
 | .string s=>s.size
 | _=>0
theorem trimR (w:World) (X:Nat) (h50:w.cell? ⟨X,50,none⟩=some (.bool true)) (h49:w.cell? ⟨X,49,none⟩=some (.bool true)) (h120:w.cell? ⟨X,120,none⟩=some (.bool false)):
  Calls Tryz.prog 83 #[.string ⟨#[120,49,50]⟩,.pointer (some ⟨X,0,none⟩)] w fun e w'=>e=.returned (.string ⟨#[120]⟩)∧w=w':=by
 have c50:=Ld (Tryz.asciiSet_contains X 50 true w h50)
 have c49:=Ld (Tryz.asciiSet_contains X 49 true w h49)
 have c120:=Ld (Tryz.asciiSet_contains X 120 false w h120)
 clear h50 h49 h120
 go_enter Tryz.func83,Tryz.ntmps83
 go_wp2_with fail
 go_loop [0] (fun v=>v=.string ⟨#[120,49,50]⟩∨v=.string ⟨#[120,49]⟩∨v=.string ⟨#[120]⟩) (fun v=>strSz v)
 case atStart=>exact Or.inl rfl
 case round=>
  rcases hrel with rfl | rfl | rfl
  ·go_wp2_with (go_at_call 134;refine c50.out.mono ?_;rintro e w' ⟨rfl,rfl⟩)
   go_round
   case rel=>exact Or.inr (Or.inl rfl)
   case measure=>decide
  ·go_wp2_with (go_at_call 134;refine c49.out.mono ?_;rintro e w' ⟨rfl,rfl⟩)
   go_round
   case rel=>exact Or.inr (Or.inr rfl)
   case measure=>decide
  ·go_wp2_with (go_at_call 134;refine c120.out.mono ?_;rintro e w' ⟨rfl,rfl⟩)
   go_ret
   exact⟨rfl,rfl⟩
theorem wpList_store_at {P:Program} {ops:Array Oper} {rest:List Oper} {o:Oper} {a:Act} {Q:Exit→Act→World→Prop} {w0 w:World} {ty:TypeId} {Z L:List Value} (hb:Blk w w0.heap.size ty Z) (hk:Kept (fun _=>False) w0 w) (hgd:o.guard=none) (x y:Operand) (ho:o.op=.store ty x y) (hx:a.eval x=.pointer (some ⟨w0.heap.size,0,none⟩)) (hy:a.eval y=.agg L.toArray)
  (hi:(P.info? ty).map (·.size)=some L.length) (hZ:Z.length=L.length) (h1:L.toArray.all (·.oneCell')=true)
  (h:∀ W,Blk W w0.heap.size ty L→Kept (fun _=>False) w0 W→wpList P ops Q rest (a.put o.dst undef) W):wpList P ops Q (o::rest) a w:=by
 refine wpList_store_mid hgd ty x y ho w0.heap.size 0 L.toArray hx hy ?_ (by simpa using hi) h1 ?_
 ·have:=hb.there;rw[hZ] at this;simpa using this
 ·refine h _ ?_ ?_
  ·have:=hb.setCells (l':=L) hZ.symm;simpa using this
  ·exact hk.setCells (Or.inr (Nat.le_refl _))
theorem dig_blk (w:World):Blk (w.alloc (.cells Tryz.zeroCells113 113)) w.heap.size 113 Tryz.zeroCells113.toList:=by
 have:=Blk.new w 113 Tryz.zeroCells113.toList
 rwa [Array.toArray_toList] at this
theorem dig_zl:Tryz.zeroCells113.toList.length=digL.length:=by kernel_rfl
theorem trimRight_x (w:World):Calls Tryz.prog 36 #[.string ⟨#[120,49,50]⟩,.string digS] w fun e w'=>e=.returned (.string ⟨#[120]⟩)∧Kept (fun _=>False) w w':=by
 have i1:digS.toList.isEmpty=false:=by kernel_rfl
 have i2:digS.size=10:=rfl
 have i3:(digS.toList==[])=false:=by kernel_rfl
 have HD:=Ld dig_set
 go_enter Tryz.func36,Tryz.ntmps36
 go_wp2_with (first | (go_at_call 82;refine (HD.out _).mono ?_;rintro e w1 ⟨rfl,hw1⟩;have k1:Kept (fun _=>False) w w1:=(by rw[hw1];exact kR.alloc _);clear hw1) | (refine wpList_store_at (w0:=w1) (L:=digL) (dig_blk w1) (kR.alloc _) rfl _ _ rfl rfl rfl (by kernel_rfl) dig_zl (by kernel_rfl) ?_;intro W bW kW;have h50:W.cell? ⟨w1.heap.size,50,none⟩=some (.bool true):=(by rw[bW.cell];exact dig_50);have h49:W.cell? ⟨w1.heap.size,49,none⟩=some (.bool true):=(by rw[bW.cell];exact dig_49);have h120:W.cell? ⟨w1.heap.size,120,none⟩=some (.bool false):=(by rw[bW.cell];exact dig_120);have HT:=Ld (trimR W w1.heap.size h50 h49 h120)) | (go_at_call 83;refine HT.out.mono ?_;rintro e w' ⟨rfl,rfl⟩))
 go_ret
 exact⟨rfl,k1.trans kW⟩
def sX12:ByteArray:=⟨#[120,49,50]⟩
def sX1:ByteArray:=⟨#[120,49]⟩
def sX2:ByteArray:=⟨#[120,50]⟩
theorem fx1:Lib.containsS (List.take 2 [sX12,sX1]) sX12=true:=by rw[Lib.containsS_iff];simp[sX12]
theorem fx2:Lib.containsS (List.take 2 [sX12,sX1]) sX1=true:=by rw[Lib.containsS_iff];simp[sX1]
theorem fx3:Lib.containsS (List.take 2 [sX12,sX1]) sX2=false:=by
 cases h:Lib.containsS (List.take 2 [sX12,sX1]) sX2
 ·rfl
 ·rw[Lib.containsS_iff] at h;simp[sX12,sX1,sX2] at h
theorem fx4:namedB ⟨#[120,49,50]⟩=true:=by kernel_rfl
theorem fx5:Lib.decDigits 1=[49]:=by unfold Lib.decDigits;rfl
theorem fx6:Lib.decDigits 2=[50]:=by unfold Lib.decDigits;rfl
theorem fx7:keywordB ⟨#[120,49]⟩=false:=by kernel_rfl
theorem fx8:keywordB ⟨#[120,50]⟩=false:=by kernel_rfl
theorem fresh_x (w:World) (g:Nat) (h0:w.cell? ⟨g,0,none⟩=some (.string ⟨#[120,49,50]⟩)) (h1:w.cell? ⟨g,1,none⟩=some (.string ⟨#[120,49]⟩)):
  Calls Tryz.prog 10 #[.string ⟨#[120,49,50]⟩,.slice (some ⟨g,0,none⟩) 2 2] w fun e w'=>e=.returned (.string ⟨#[120,50]⟩)∧Kept (fun _=>False) w w':=by
 have hcl:∀ W:World,Kept (fun _=>False) w W→∀ j,j<[sX12,sX1].length→W.cell? ⟨g,0+j,none⟩=some (.string ([sX12,sX1].getD j ByteArray.empty)):=by
  intro W k j hj
  have:j=0∨j=1:=by simp at hj;omega
  rcases this with rfl | rfl
  ·rw[k.cell (p:=⟨g,0+0,none⟩) (cell_lt h0) (fun h=>h)];exact h0
  ·rw[k.cell (p:=⟨g,0+1,none⟩) (cell_lt h1) (fun h=>h)];exact h1
 have cA:Hid (∀ W:World,Kept (fun _=>False) w W→Calls Tryz.prog 35 #[.slice (some ⟨g,0,none⟩) 2 2,.string ⟨#[120,49,50]⟩] W fun e w'=>e=.returned (.bool true)∧W=w'):=Ld (fun W k=>(Tryz.slices_Contains_string g 0 2 2 [sX12,sX1] sX12 W (by decide) (by decide) (hcl W k)).mono fun e w' ⟨q1,q2⟩=>⟨by rw[q1,fx1],q2.symm⟩)
 have cB:Hid (∀ W:World,Kept (fun _=>False) w W→Calls Tryz.prog 35 #[.slice (some ⟨g,0,none⟩) 2 2,.string ⟨#[120,49]⟩] W fun e w'=>e=.returned (.bool true)∧W=w'):=Ld (fun W k=>(Tryz.slices_Contains_string g 0 2 2 [sX12,sX1] sX1 W (by decide) (by decide) (hcl W k)).mono fun e w' ⟨q1,q2⟩=>⟨by rw[q1,fx2],q2.symm⟩)
 have cC:Hid (∀ W:World,Kept (fun _=>False) w W→Calls Tryz.prog 35 #[.slice (some ⟨g,0,none⟩) 2 2,.string ⟨#[120,50]⟩] W fun e w'=>e=.returned (.bool false)∧W=w'):=Ld (fun W k=>(Tryz.slices_Contains_string g 0 2 2 [sX12,sX1] sX2 W (by decide) (by decide) (hcl W k)).mono fun e w' ⟨q1,q2⟩=>⟨by rw[q1,fx3],q2.symm⟩)
 have HN:Hid (∀ W,Calls Tryz.prog 34 #[.string ⟨#[120,49,50]⟩] W fun e w'=>e=.returned (.bool true)∧W=w'):=Ld (fun W=>(named_any _ W (by decide)).mono fun e w' ⟨q1,q2⟩=>⟨by rw[q1,fx4],q2⟩)
 have HT:Hid (∀ W,Calls Tryz.prog 37 #[.string ⟨#[120,49,50]⟩,.string ⟨#[39]⟩] W fun e w'=>e=.returned (.string ⟨#[120,49,50]⟩)∧W=w'):=Ld (fun W=>(Tryz.strings_TrimSuffix _ _ W (by decide)).mono fun e w' ⟨q1,q2⟩=>⟨by rw[q1];rfl,q2.symm⟩)
 have HI1:Hid (∀ W,Calls Tryz.prog 38 #[.int .i64 1] W fun e w'=>e=.returned (.string ⟨#[49]⟩)∧W=w'):=Ld (fun W=>(Tryz.strconv_Itoa_small 1 (by decide) W).mono fun e w' ⟨q1,q2⟩=>⟨by rw[q1,fx5],q2.symm⟩)
 have HI2:Hid (∀ W,Calls Tryz.prog 38 #[.int .i64 2] W fun e w'=>e=.returned (.string ⟨#[50]⟩)∧W=w'):=Ld (fun W=>(Tryz.strconv_Itoa_small 2 (by decide) W).mono fun e w' ⟨q1,q2⟩=>⟨by rw[q1,fx6],q2.symm⟩)
 have HK1:Hid (∀ W,Calls Tryz.prog 39 #[.string ⟨#[120,49]⟩] W fun e w'=>e=.returned (.bool false)∧W=w'):=Ld (fun W=>(keyword_any _ W).mono fun e w' ⟨q1,q2⟩=>⟨by rw[q1,fx7],q2⟩)
 have HK2:Hid (∀ W,Calls Tryz.prog 39 #[.string ⟨#[120,50]⟩] W fun e w'=>e=.returned (.bool false)∧W=w'):=Ld (fun W=>(keyword_any _ W).mono fun e w' ⟨q1,q2⟩=>⟨by rw[q1,fx8],q2⟩)
 have HR:=Ld trimRight_x
 clear hcl
 go_enter Tryz.func10,Tryz.ntmps10
 go_wp2_with (first | (go_at_call 34;refine (HN.out _).mono ?_;rintro e w' ⟨rfl,rfl⟩) | (go_at_call 35;refine (cA.out w kR).mono ?_;rintro e w' ⟨rfl,rfl⟩) | (go_at_call 37;refine (HT.out _).mono ?_;rintro e w' ⟨rfl,rfl⟩) | (go_at_call 36;refine (HR.out _).mono ?_;rintro e w1 ⟨rfl,k1⟩))
 have hcu:digS=digS:=rfl
 go_loop [6] (fun i=>i=.int .i64 1∨i=.int .i64 2) (fun i=>2-(intOf i).toNat)
 case atStart=>exact Or.inl rfl
 case round=>
  rcases hrel with rfl | rfl
  ·go_wp2_with (first | (go_at_call 38;refine (HI1.out _).mono ?_;rintro e w' ⟨rfl,rfl⟩) | (go_at_call 39;refine (HK1.out _).mono ?_;rintro e w' ⟨rfl,rfl⟩) | (go_at_call 35;refine (cB.out w1 k1).mono ?_;rintro e w' ⟨rfl,rfl⟩))
   go_round
   case rel=>exact Or.inr rfl
   case measure=>decide
  ·go_wp2_with (first | (go_at_call 38;refine (HI2.out _).mono ?_;rintro e w' ⟨rfl,rfl⟩) | (go_at_call 39;refine (HK2.out _).mono ?_;rintro e w' ⟨rfl,rfl⟩) | (go_at_call 35;refine (cC.out w1 k1).mono ?_;rintro e w' ⟨rfl,rfl⟩))
   go_ret
   exact⟨rfl,k1⟩
theorem frGo_ext {U V:List ByteArray} (h:∀ s,mb s U=mb s V) (b:List UInt8):∀ (f k:Nat),frGo b U f k=frGo b V f k
 | 0,k=>rfl
 | f+1,k=>by rw[frGo,frGo,h,frGo_ext h b f]
theorem freshS_ext {U V:List ByteArray} (h:∀ s,mb s U=mb s V) (n:ByteArray):freshS n U=freshS n V:=by
 unfold freshS frFrom
 rw[h,frGo_ext h]
theorem frB_one (nm z:ByteArray):frB [(nm,nameT z)]=[z]:=by rw[frB,frB,fr_nameT];rfl
theorem rename_body {nm z:ByteArray} {body:Tm} (hM:tmN body≤700000) (hz:∀ s,s∈fr body→s≠nm→s≠z) (ρ:ByteArray→Db):ev (upE z ρ) (subT freshS body [(nm,nameT z)])=ev (upE nm ρ) body:=by
 rw[ev_sub freshS_FS body _ _ (by rw[frB_one,List.length_singleton];omega)]
 apply ev_cong
 intro s hs
 unfold evB
 rw[look]
 by_cases e:nm=s
 ·rw[if_pos e]
  simp only
  rw[nameT_ev]
  unfold upE;rw[if_pos rfl,if_pos e.symm]
 ·rw[if_neg e]
  simp only[look]
  unfold upE
  rw[if_neg (hz s hs (Ne.symm e)),if_neg (Ne.symm e)]
theorem tmD_kid {ks:List Tm} {t:Tm} (h:t∈ks):tmD t≤tmDs ks∧tmN t≤tmNs ks:=by
 induction ks with
 | nil=>cases h
 | cons a ks ih=>
  rw[tmDs,tmNs]
  rcases List.mem_cons.1 h with rfl | h
  ·omega
  ·have:=ih h;omega
theorem sub1_ok {nm z:ByteArray} {body:Tm} (hb:OkTm body) (hz:namedB z=true) (hM:tmN body≤700000):OkTm (subT freshS body [(nm,nameT z)]):=
 sub_ok hb _ (fun b hb=>by rw[List.mem_singleton.1 hb];exact nameT_ok hz) (by rw[frB_one,List.length_singleton];omega)
theorem szD_up {ρ:ByteArray→Db} (h:∀ s,szD (ρ s)=1) (nm s:ByteArray):szD (upE nm ρ s)=1:=by
 unfold upE;split
 ·rfl
 ·rw[szD_ren];exact h s
theorem dpD_up {ρ:ByteArray→Db} (h:∀ s,dpD (ρ s)=1) (nm s:ByteArray):dpD (upE nm ρ s)=1:=by
 unfold upE;split
 ·rfl
 ·rw[dpD_ren];exact h s
theorem sub1_size {nm z:ByteArray} {body:Tm} (hb:OkTm body) (hz:namedB z=true) (hzf:∀ s,s∈fr body→s≠nm→s≠z) (hM:tmN body≤700000):tmN (subT freshS body [(nm,nameT z)])=tmN body∧tmD (subT freshS body [(nm,nameT z)])=tmD body:=by
 have e:=rename_body hM hzf .fv
 have h1:=sub1_ok (nm:=nm) hb hz hM
 constructor
 ·rw[← ev_size _ (upE z .fv) h1.nw (szD_up (fun _=>rfl) z),e,ev_size _ (upE nm .fv) hb.nw (szD_up (fun _=>rfl) nm)]
 ·rw[← ev_depth _ (upE z .fv) h1.nw (dpD_up (fun _=>rfl) z),e,ev_depth _ (upE nm .fv) hb.nw (dpD_up (fun _=>rfl) nm)]
theorem mb_drop {s:ByteArray} {l:List ByteArray} {k:Nat} (h:k<l.length):mb s (l.drop k)=(decide (l[k]=s)||mb s (l.drop (k+1))):=by
 rw[List.drop_eq_getElem_cons h];unfold mb;rw[List.any_cons]
theorem rinN_any {ok:Nat→Prop} {w:World} {l:List ByteArray} {v:Value} (s:ByteArray) (h:NmL ok w l v) (hn:l.length≤10000000):
  Calls Tryz.prog 17 #[.string s,v] w fun e w'=>e=.returned (.bool (mb s l))∧w=w':=by
 obtain⟨a,c,rfl⟩:=h.slice
 have HAT:=Ld (fun i hi=>h.at i hi)
 have HN:=Ld hn
 clear h hn
 go_enter Tryz.func17,Tryz.ntmps17
 go_wp2_with fail
 go_loop [5] (fun i=>∃ k:Nat,k≤l.length∧i=.int .i64 k∧Hid (mb s l=mb s (l.drop k))) (fun i=>l.length-(intOf i).toNat)
 case atStart=>exact⟨0,Nat.zero_le _,rfl,Ld rfl⟩
 case round=>
  obtain⟨k,hk,rfl,hq⟩:=hrel
  by_cases hlt:k<l.length
  ·have i1:(k:Int)<(l.length:Int):=by omega
   have i2:(k:Int)<10000000:=by have:=HN.out;omega
   obtain⟨g,off,rfl,_,c0⟩:=HAT.out k hlt
   have HS:=Ld (mb_drop (s:=s) hlt)
   cases hs:(l[k].toList==s.toList)
   ·have hne:Hid (decide (l[k]=s)=false):=Ld (by rw[nm_eq] at hs;exact hs)
    go_wp2_with fail
    go_round
    case rel=>exact⟨k+1,by omega,by go_num,Ld (by rw[hq.out,HS.out,hne.out];rfl)⟩
    case measure=>simp[intOf];omega
   ·have hye:Hid (decide (l[k]=s)=true):=Ld (by rw[nm_eq] at hs;exact hs)
    go_wp2_with fail
    go_ret
    exact⟨by rw[hq.out,HS.out,hye.out];rfl,rfl⟩
  ·have hkk:k=l.length:=by omega
   subst hkk
   have HE:Hid (mb s l=false):=Ld (by rw[hq.out,List.drop_length];rfl)
   go_wp2_with fail
   go_ret
   exact⟨by rw[HE.out];rfl,rfl⟩
def DcC (n:Nat):Prop:=∀ W,Calls Tryz.prog 48 #[.int .i64 n] W fun e w'=>e=.returned (.string (str (Lib.decDigits n)))∧Kept (fun _=>False) W w'
theorem dig_lt (n:Nat) (h:n<10):((UInt8.ofNat (48+n)).toNat:Int)=48+(n:Int):=by
 have all:∀ m:Fin 10,(UInt8.ofNat (48+m.val)).toNat=48+m.val:=by decide
 have:(UInt8.ofNat (48+n)).toNat=48+n:=all ⟨n,h⟩
 rw[this];omega
theorem conv_dig (W:World) (B n:Nat) (h:n<10) (hc:W.cell? ⟨B,0,none⟩=some (.int .u8 (48+(n:Int)))):(convert 103 9 (.slice (some ⟨B,0,none⟩) 1 1)).run Tryz.prog W=.ok (.string ⟨#[UInt8.ofNat (48+n)]⟩) W:=
 run_convert_bytes_back (P:=Tryz.prog) W 103 9 5 ⟨B,0,none⟩ 1 [UInt8.ofNat (48+n)] Tryz.underlying103 Tryz.underlying5 Tryz.underlying9 (fun j hj=>by
  have h0:j=0:=by simpa using hj
  subst h0
  show W.cell? _=some (.int .u8 ((UInt8.ofNat (48+n)).toNat:Int))
  rw[dig_lt n h]
  exact hc)
theorem dec_small (n:Nat) (h:n<10):DcC n:=by
 intro W
 have i0:((n:Int)==-9223372036854775808)=false:=by rw[beq_eq_false_iff_ne];omega
 have i1:decide ((n:Int)<0)=false:=decide_eq_false (by omega)
 have i2:decide ((n:Int)<10)=true:=decide_eq_true (by omega)
 have hcv:=conv_dig (W.alloc (.cells #[.int .u8 (48+(n:Int))] 5)) W.heap.size n h ((Blk.new W 5 [.int .u8 (48+(n:Int))]).cell 0)
 have HT:Hid (str (Lib.decDigits n)=⟨#[UInt8.ofNat (48+n)]⟩):=Ld (by unfold Lib.decDigits;rw[dif_pos h];rfl)
 generalize UInt8.ofNat (48+n)=dg at *
 go_enter Tryz.func48,Tryz.ntmps48
 go_wp2_with fail
 go_ret
 exact⟨by rw[HT.out];rfl,kR.alloc _⟩
theorem decDigits_len (n:Nat):(Lib.decDigits n).length≤n+1:=by
 induction n using Nat.strongRecOn with
 | _ n ih=>
  unfold Lib.decDigits
  by_cases h:n<10
  ·rw[dif_pos h];simp
  ·rw[dif_neg h]
   have:=ih (n / 10) (by omega)
   simp only[List.length_append,List.length_cons,List.length_nil]
   omega
theorem dec_more (n:Nat) (h:¬ n<10) (hn:n≤1000000000) (ih:DcC (n / 10)):DcC n:=by
 intro W
 have i0:((n:Int)==-9223372036854775808)=false:=by rw[beq_eq_false_iff_ne];omega
 have i1:decide ((n:Int)<0)=false:=decide_eq_false (by omega)
 have i2:decide ((n:Int)<10)=false:=decide_eq_false (by omega)
 have hq:(n:Int).tdiv 10=((n / 10:Nat):Int):=by rw[Int.tdiv_eq_ediv_of_nonneg (by omega)];omega
 have hr:(n:Int).tmod 10=((n % 10:Nat):Int):=by rw[Int.tmod_eq_emod_of_nonneg (by omega)];omega
 have hm:n % 10<10:=Nat.mod_lt _ (by decide)
 have hqb:n / 10≤100000000:=by omega
 have HSZ:Hid ((str (Lib.decDigits (n / 10))).size≤1000000001):=Ld (by rw[str_size];have:=decDigits_len (n / 10);omega)
 have HT:Hid (str (Lib.decDigits n)=str (Lib.decDigits (n / 10))++⟨#[UInt8.ofNat (48+n % 10)]⟩):=Ld (by
  conv=>lhs;unfold Lib.decDigits
  rw[dif_neg h,← str_app];rfl)
 have HCV:=Ld (fun (X:World) (B:Nat)=>conv_dig X B (n % 10) hm)
 have IH:=Ld ih
 unfold DcC at IH
 generalize UInt8.ofNat (48+n % 10)=dg at *
 generalize str (Lib.decDigits (n / 10))=sq at *
 have hz1:¬ 9223372036854775807<sq.size+1:=by have:=HSZ.out;omega
 clear ih h hn
 generalize hmm:n % 10=m at *
 generalize hqq:n / 10=q at *
 have HMQ:=Ld (And.intro hmm hqq)
 have m10:(m:Int)<10:=by omega
 have q10:(q:Int)<100000001:=by omega
 have wq:IntKind.i64.wrap (q:Int)=q:=by rw[IntKind.wrap_i64];omega
 have wm:IntKind.i64.wrap (m:Int)=m:=by rw[IntKind.wrap_i64];omega
 have w48:IntKind.i64.wrap (48+(m:Int))=48+m:=by rw[IntKind.wrap_i64];omega
 have w8:IntKind.u8.wrap (48+(m:Int))=48+m:=by rw[show IntKind.u8.wrap (48+(m:Int))=(48+(m:Int)) % 256 by simp[IntKind.wrap,IntKind.bits,IntKind.signed]];omega
 clear hmm hqq hm hqb
 have bA:Blk (W.drew.alloc (.cells #[.int .u8 (48+(m:Int))] 5)) W.heap.size 5 [.int .u8 (48+(m:Int))]:=Blk.new W.drew 5 _
 have hcv0:=HCV.out _ W.heap.size (bA.cell 0)
 have hcv1:=HCV.out _ W.heap.size ((Blk.drew (Blk.new W 5 [.int .u8 (48+(m:Int))])).cell 0)
 have KD:Kept (fun _=>False) W W.drew:=kR.drew
 have KA:Kept (fun _=>False) W (W.alloc (.cells #[.int .u8 (48+(m:Int))] 5)).drew:=(kR.alloc _).drew
 go_enter Tryz.func48,Tryz.ntmps48
 go_wp2_with fail
 go_region_law
  (first | (go_simp;go_at_call 48;refine (IH.out _).mono ?_;rintro e wq ⟨rfl,kq⟩;first | (have KE:=KA.trans kq;have hcvA:=HCV.out wq W.heap.size (((Blk.drew (Blk.new W 5 [.int .u8 (48+(m:Int))])).kept kq (fun h=>h)).cell 0)) | (have KE:=KD.trans kq;have hcvB:=HCV.out (wq.alloc (.cells #[.int .u8 (48+(m:Int))] 5)) wq.heap.size ((Blk.new wq 5 [.int .u8 (48+(m:Int))]).cell 0))))
 all_goals
  go_wp2_with fail
  go_ret
  exact⟨by rw[HT.out];rfl,by first | exact KE | exact KE.alloc _⟩
theorem dec_nat (n:Nat) (hn:n≤1000000000):DcC n:=by
 induction n using Nat.strongRecOn with
 | _ n ih=>
  by_cases h:n<10
  ·exact dec_small n h
  ·exact dec_more n h hn (ih (n / 10) (by omega) (by omega))
theorem strip_at (s:ByteArray) (h:s.size-1<s.size):stripD s.data.toList=if digitB (s[s.size-1].toNat) then stripD (s.extract 0 (s.size-1)).data.toList else s.data.toList:=by
 have e1:=take_snoc s (s.size-1) h
 have e2:s.data.toList.take (s.size-1+1)=s.data.toList:=List.take_of_length_le (by
  have:s.data.toList.length=s.size:=ba_len s
  omega)
 rw[e2] at e1
 rw[ext_take]
 have e3:=stripD_snoc (s.data.toList.take (s.size-1)) s[s.size-1]
 rw[← e1] at e3
 rw[e3]
theorem prim_trim {nm:ByteArray} (h:namedB nm=true):(primB nm=true∧1<nm.size∧trimQ nm=nm.extract 0 (nm.size-1))∨(primB nm=false∧trimQ nm=nm):=by
 unfold namedB at h
 rcases trim_parts nm with ⟨h1,h2,h3⟩ | ⟨h1,h2⟩
 ·rw[h3] at h
  have h4:1<nm.size:=by
   by_cases hs:1<nm.size
   ·exact hs
   ·have hz:(nm.extract 0 (nm.size-1)).size=0:=by rw[ByteArray.size_extract];omega
    unfold identB at h
    rw[hz] at h
    simp at h
  refine .inl ⟨?_,h4,h3⟩
  unfold primB
  rw[dif_pos h4,h]
  have:((nm[nm.size-1].toNat:Int)==39)=true:=by rw[h2];decide
  rw[this];rfl
 ·refine .inr ⟨?_,h2⟩
  unfold primB
  by_cases h4:1<nm.size
  ·rw[dif_pos h4]
   have h5:=h1 (by omega)
   have:((nm[nm.size-1].toNat:Int)==39)=false:=by
    rw[beq_eq_false_iff_ne]
    intro e
    exact h5 (UInt8.toNat.inj (by rw[show (39:UInt8).toNat=39 from rfl];omega))
   rw[this];rfl
  ·rw[dif_neg h4]
theorem cand_str {B:ByteArray} {k:Nat}:(if 16<B.size+(str (Lib.decDigits k)).size then B.extract 0 (16-(str (Lib.decDigits k)).size) else B)++str (Lib.decDigits k)=str (candL B.data.toList k):=by
 apply ByteArray.ext
 apply Array.toList_inj.1
 have hs:(str (Lib.decDigits k)).size=(Lib.decDigits k).length:=by rw[str_size]
 have hl:B.data.toList.length=B.size:=ba_len B
 rw[ByteArray.data_append,Array.toList_append,str_list,str_list]
 unfold candL
 congr 1
 rw[hs]
 split
 ·rw[ext_take]
 ·rw[List.take_of_length_le (by omega)]
theorem fresh_at {nm:ByteArray} {used:List ByteArray} (hn:namedB nm=true) (hu:used.length≤800000) (hm:mb nm used=true):∃ j,1≤j∧j≤1000001∧frFrom nm used=str (candL (baseL nm) j)∧mb (str (candL (baseL nm) j)) used=false∧∀ i,1≤i→i<j→mb (str (candL (baseL nm) i)) used=true:=by
 obtain⟨j,h1,h2,h3,h4,h5⟩:=frGo_at (baseL nm) used 1000000 1 (cand_free (baseL nm) used hu)
 refine⟨j,h3,by omega,?_,h2,h5⟩
 unfold frFrom
 rw[if_pos hm,h1]
theorem base_size {nm:ByteArray} (hn:namedB nm=true):(baseL nm).length≤16:=by
 unfold baseL
 obtain⟨r,hr⟩:=stripD_pre (trimQ nm).data.toList
 have h1:=congrArg List.length hr
 rw[List.length_append] at h1
 unfold namedB identB at hn
 simp only[Bool.and_eq_true,decide_eq_true_eq] at hn
 have h2:(trimQ nm).data.toList.length=(trimQ nm).size:=ba_len _
 omega
def strOf:Value→ByteArray
 | .string s=>s
 | _=>⟨#[]⟩
theorem rfresh_any {ok:Nat→Prop} {w:World} {used:List ByteArray} {vu:Value} (name:ByteArray) (hN:NmL ok w used vu) (hu:used.length≤800000) (hsz:name.size≤9223372036854775807):
  Calls Tryz.prog 13 #[.string name,vu] w fun e w'=>e=.returned (.string (freshS name used))∧Kept (fun _=>False) w w':=by
 have HIN:=Ld (fun W (k:Kept (fun _=>False) w W) (s:ByteArray)=>rinN_any s (hN.frame (sK k)) (by omega))
 have HNV:=Ld (fun (v:Bool) (hv:namedB name=v)=>rnamed_t hv hsz w)
 have HU:=Ld hu
 have HFR:Hid (freshS name used=frFrom (if namedB name then name else xS) used):=Ld rfl
 have HSZ:=Ld hsz
 clear hN hu hsz
 generalize freshS name used=res at *
 cases hv:namedB name
 ·have HRN:Hid (res=frFrom xS used):=Ld (by rw[HFR.out,hv];rfl)
  have HNV2:=Ld (HNV.out _ hv)
  clear hv HNV HFR
  go_enter Tryz.func13,Tryz.ntmps13
  go_wp2_with fail
  refine HNV2.out.mono ?_
  rintro e w2 ⟨rfl,k2⟩
  have HK:=Ld k2
  clear k2 HNV2
  have HNM:Hid (namedB xS=true):=Ld (ident_named x_ident)
  have HSN:Hid (xS.size≤9223372036854775807):=Ld (by decide)
  go_upto_region 3 with (fail)
  change Hid (namedB (⟨#[120]⟩:ByteArray)=true) at HNM
  change Hid ((⟨#[120]⟩:ByteArray).size≤9223372036854775807) at HSN
  change Hid (res=frFrom (⟨#[120]⟩:ByteArray) used) at HRN
  generalize (⟨#[120]⟩:ByteArray)=nm at *
  go_wp2_with fail
  refine (HIN.out _ HK.out nm).mono ?_
  rintro e w3 ⟨rfl,rfl⟩
  cases hm:mb nm used
  ·have HE:Hid (res=nm):=Ld (by rw[HRN.out];unfold frFrom;rw[hm];rfl)
   clear hm HIN
   go_wp2_with fail
   go_ret
   exact⟨by rw[HE.out];rfl,HK.out⟩
  ·obtain⟨j,hj1,hj2,hj3,hj4,hj5⟩:=fresh_at HNM.out HU.out hm
   have HRJ:Hid (res=str (candL (baseL nm) j)):=Ld (by rw[HRN.out,hj3])
   have HJ4:=Ld hj4
   have HJ5:=Ld hj5
   have HBS:=Ld (base_size HNM.out)
   have HBN:=Ld (base_ok HNM.out).1
   have HPT:=Ld (prim_trim HNM.out)
   have HP:=Ld (fun (v:Bool) (hv:primB nm=v)=>primed_big nm w2 HSN.out hv)
   have HBL:Hid (baseL nm=stripD (trimQ nm).data.toList):=Ld rfl
   generalize baseL nm=b at *
   clear hm hj3 hj4 hj5 HRN HNM
   rcases HPT.out with ⟨hp,hp1,hp2⟩ | ⟨hp,hp2⟩
   ·have HPC:=Ld (HP.out _ hp)
    have HST:Hid (stripD (nm.extract 0 (nm.size-1)).data.toList=b∧(nm.extract 0 (nm.size-1)).size≤9223372036854775807):=Ld ⟨by rw[← hp2];exact HBL.out.symm,by rw[ByteArray.size_extract];have:=HSN.out;omega⟩
    have i1:(1:Int)<(nm.size:Int):=by omega
    have i2:nm.size-1<nm.size:=by omega
    have i3:(nm.size:Int)-1=((nm.size-1:Nat):Int):=by omega
    have i4:=HSN.out
    clear hp hp1 hp2 HP HPT
    go_wp2_with fail
    refine HPC.out.mono ?_
    rintro e w4 ⟨rfl,k4⟩
    have HK3:=Ld (HK.out.trans k4)
    clear HPC k4 HK
    go_wp2_with fail
    clear i1 i2 i3 i4
    go_loopw [0] (fun v wr=>∃ s:ByteArray,v=.string s∧Kept (fun _=>False) w wr∧Hid (stripD s.data.toList=b∧s.size≤9223372036854775807)) (fun v _=>(strOf v).size)
    case atStart=>exact⟨_,rfl,HK3.out,HST⟩
    case round=>
     obtain⟨s,rfl,kr,hq⟩:=hrel
     have hpos:0<s.size:=by
      have h1:=hq.out.1
      have h2:=HBN.out
      by_cases h:0<s.size
      ·exact h
      ·exfalso
       have h3:s.data.toList=[]:=List.length_eq_zero_iff.1 (by rw[ba_len];omega)
       rw[h3] at h1
       exact h2 h1.symm
     have i1:(0:Int)<(s.size:Int):=by omega
     have i2:s.size-1<s.size:=by omega
     have i3:(s.size:Int)-1=((s.size-1:Nat):Int):=by omega
     have i4:=hq.out.2
     have HSA:=Ld (strip_at s i2)
     cases hd:digitB (s[s.size-1].toNat)
     ·have HB:Hid (s.data.toList=b):=Ld (by rw[← hq.out.1,HSA.out,hd];rfl)
      go_wp2_with (go_at_call 47;refine (rdigit_any _ _).mono ?_;rintro e w' ⟨rfl,rfl⟩)
      clear hd HSA i1 i3 hpos
      have i4:s.size≤16:=by have h1:=HBS.out;have h2:=congrArg List.length HB.out;rw[ba_len] at h2;omega
      go_loopw [5,6,7] (fun i x y wr=>∃ k:Nat,1≤k∧k≤j∧i=.int .i64 k∧Kept (fun _=>False) w wr) (fun i x y _=>j-(intOf i).toNat)
      case atStart=>exact⟨1,Nat.le_refl _,hj1,rfl,kr⟩
      case round=>
       obtain⟨k,hk1,hk2,rfl,kr2⟩:=hrel
       have k1:(k:Int)<1000002:=by omega
       have hdl:=dec_len2 6 k (by omega)
       have HDD:=Ld (dec_nat k (by omega) wr)
       have HCS:=Ld (cand_str (B:=s) (k:=k))
       rw[HB.out] at HCS
       have hDs:(str (Lib.decDigits k)).size≤7:=by rw[str_size];exact hdl
       clear hdl
       generalize str (Lib.decDigits k)=D at *
       go_wp2_with fail
       refine HDD.out.mono ?_
       rintro e w7 ⟨rfl,k7⟩
       have KK7:=Ld (kr2.trans k7)
       clear HDD
       have n1:(D.size:Int)≤7:=by omega
       have n2:(s.size:Int)≤16:=by omega
       have n3:(0:Int)≤(D.size:Int):=by omega
       have n4:(0:Int)≤(s.size:Int):=by omega
       by_cases hc:16<s.size+D.size
       ·have t1:decide ((16:Int)<(s.size:Int)+(D.size:Int))=true:=decide_eq_true (by omega)
        have n5:(16:Int)-(D.size:Int)=((16-D.size:Nat):Int):=by omega
        have n6:16-D.size≤s.size:=by omega
        have n7:((16-D.size:Nat):Int)≤(s.size:Int):=by omega
        rw[if_pos hc] at HCS
        clear hc
        by_cases hkj:k=j
        ·have hmb:mb (s.extract 0 (16-D.size)++D) used=false:=by rw[HCS.out,hkj];exact HJ4.out
         have HRE:Hid (res=s.extract 0 (16-D.size)++D):=Ld (by rw[HRJ.out,← hkj,HCS.out])
         go_wp2_with fail
         refine (HIN.out w7 KK7.out (s.extract 0 (16-D.size)++D)).mono ?_
         rintro e w8 ⟨rfl,rfl⟩
         go_wp2_with fail
         go_ret
         exact⟨by rw[HRE.out];rfl,KK7.out⟩
        ·have hmb:mb (s.extract 0 (16-D.size)++D) used=true:=by rw[HCS.out];exact HJ5.out k hk1 (by omega)
         go_wp2_with fail
         refine (HIN.out w7 KK7.out (s.extract 0 (16-D.size)++D)).mono ?_
         rintro e w8 ⟨rfl,rfl⟩
         go_wp2_with fail
         go_roundw
         case rel=>exact⟨k+1,by omega,by omega,by go_num,KK7.out⟩
         case measure=>simp[intOf];omega
       ·have t1:decide ((16:Int)<(s.size:Int)+(D.size:Int))=false:=decide_eq_false (by omega)
        rw[if_neg hc] at HCS
        clear hc
        by_cases hkj:k=j
        ·have hmb:mb (s++D) used=false:=by rw[HCS.out,hkj];exact HJ4.out
         have HRE:Hid (res=s++D):=Ld (by rw[HRJ.out,← hkj,HCS.out])
         go_wp2_with fail
         refine (HIN.out w7 KK7.out (s++D)).mono ?_
         rintro e w8 ⟨rfl,rfl⟩
         go_wp2_with fail
         go_ret
         exact⟨by rw[HRE.out];rfl,KK7.out⟩
        ·have hmb:mb (s++D) used=true:=by rw[HCS.out];exact HJ5.out k hk1 (by omega)
         go_wp2_with fail
         refine (HIN.out w7 KK7.out (s++D)).mono ?_
         rintro e w8 ⟨rfl,rfl⟩
         go_wp2_with fail
         go_roundw
         case rel=>exact⟨k+1,by omega,by omega,by go_num,KK7.out⟩
         case measure=>simp[intOf];omega
     ·have HN2:Hid (stripD (s.extract 0 (s.size-1)).data.toList=b∧(s.extract 0 (s.size-1)).size≤9223372036854775807):=Ld ⟨by rw[← hq.out.1,HSA.out,hd];rfl,by rw[ByteArray.size_extract];omega⟩
      go_wp2_with (go_at_call 47;refine (rdigit_any _ _).mono ?_;rintro e w' ⟨rfl,rfl⟩)
      go_roundw
      case rel=>exact⟨_,rfl,kr,HN2⟩
      case measure=>simp only[strOf,ByteArray.size_extract];omega
   ·have HPC:=Ld (HP.out _ hp)
    have HST:Hid (stripD nm.data.toList=b∧nm.size≤9223372036854775807):=Ld ⟨by rw[hp2] at HBL;exact HBL.out.symm,HSN.out⟩
    clear hp hp2 HP HPT
    go_wp2_with fail
    refine HPC.out.mono ?_
    rintro e w4 ⟨rfl,k4⟩
    have HK3:=Ld (HK.out.trans k4)
    clear HPC k4 HK
    go_wp2_with fail
    go_loopw [0] (fun v wr=>∃ s:ByteArray,v=.string s∧Kept (fun _=>False) w wr∧Hid (stripD s.data.toList=b∧s.size≤9223372036854775807)) (fun v _=>(strOf v).size)
    case atStart=>exact⟨_,rfl,HK3.out,HST⟩
    case round=>
     obtain⟨s,rfl,kr,hq⟩:=hrel
     have hpos:0<s.size:=by
      have h1:=hq.out.1
      have h2:=HBN.out
      by_cases h:0<s.size
      ·exact h
      ·exfalso
       have h3:s.data.toList=[]:=List.length_eq_zero_iff.1 (by rw[ba_len];omega)
       rw[h3] at h1
       exact h2 h1.symm
     have i1:(0:Int)<(s.size:Int):=by omega
     have i2:s.size-1<s.size:=by omega
     have i3:(s.size:Int)-1=((s.size-1:Nat):Int):=by omega
     have i4:=hq.out.2
     have HSA:=Ld (strip_at s i2)
     cases hd:digitB (s[s.size-1].toNat)
     ·have HB:Hid (s.data.toList=b):=Ld (by rw[← hq.out.1,HSA.out,hd];rfl)
      go_wp2_with (go_at_call 47;refine (rdigit_any _ _).mono ?_;rintro e w' ⟨rfl,rfl⟩)
      clear hd HSA i1 i3 hpos
      have i4:s.size≤16:=by have h1:=HBS.out;have h2:=congrArg List.length HB.out;rw[ba_len] at h2;omega
      go_loopw [5,6,7] (fun i x y wr=>∃ k:Nat,1≤k∧k≤j∧i=.int .i64 k∧Kept (fun _=>False) w wr) (fun i x y _=>j-(intOf i).toNat)
      case atStart=>exact⟨1,Nat.le_refl _,hj1,rfl,kr⟩
      case round=>
       obtain⟨k,hk1,hk2,rfl,kr2⟩:=hrel
       have k1:(k:Int)<1000002:=by omega
       have hdl:=dec_len2 6 k (by omega)
       have HDD:=Ld (dec_nat k (by omega) wr)
       have HCS:=Ld (cand_str (B:=s) (k:=k))
       rw[HB.out] at HCS
       have hDs:(str (Lib.decDigits k)).size≤7:=by rw[str_size];exact hdl
       clear hdl
       generalize str (Lib.decDigits k)=D at *
       go_wp2_with fail
       refine HDD.out.mono ?_
       rintro e w7 ⟨rfl,k7⟩
       have KK7:=Ld (kr2.trans k7)
       clear HDD
       have n1:(D.size:Int)≤7:=by omega
       have n2:(s.size:Int)≤16:=by omega
       have n3:(0:Int)≤(D.size:Int):=by omega
       have n4:(0:Int)≤(s.size:Int):=by omega
       by_cases hc:16<s.size+D.size
       ·have t1:decide ((16:Int)<(s.size:Int)+(D.size:Int))=true:=decide_eq_true (by omega)
        have n5:(16:Int)-(D.size:Int)=((16-D.size:Nat):Int):=by omega
        have n6:16-D.size≤s.size:=by omega
        have n7:((16-D.size:Nat):Int)≤(s.size:Int):=by omega
        rw[if_pos hc] at HCS
        clear hc
        by_cases hkj:k=j
        ·have hmb:mb (s.extract 0 (16-D.size)++D) used=false:=by rw[HCS.out,hkj];exact HJ4.out
         have HRE:Hid (res=s.extract 0 (16-D.size)++D):=Ld (by rw[HRJ.out,← hkj,HCS.out])
         go_wp2_with fail
         refine (HIN.out w7 KK7.out (s.extract 0 (16-D.size)++D)).mono ?_
         rintro e w8 ⟨rfl,rfl⟩
         go_wp2_with fail
         go_ret
         exact⟨by rw[HRE.out];rfl,KK7.out⟩
        ·have hmb:mb (s.extract 0 (16-D.size)++D) used=true:=by rw[HCS.out];exact HJ5.out k hk1 (by omega)
         go_wp2_with fail
         refine (HIN.out w7 KK7.out (s.extract 0 (16-D.size)++D)).mono ?_
         rintro e w8 ⟨rfl,rfl⟩
         go_wp2_with fail
         go_roundw
         case rel=>exact⟨k+1,by omega,by omega,by go_num,KK7.out⟩
         case measure=>simp[intOf];omega
       ·have t1:decide ((16:Int)<(s.size:Int)+(D.size:Int))=false:=decide_eq_false (by omega)
        rw[if_neg hc] at HCS
        clear hc
        by_cases hkj:k=j
        ·have hmb:mb (s++D) used=false:=by rw[HCS.out,hkj];exact HJ4.out
         have HRE:Hid (res=s++D):=Ld (by rw[HRJ.out,← hkj,HCS.out])
         go_wp2_with fail
         refine (HIN.out w7 KK7.out (s++D)).mono ?_
         rintro e w8 ⟨rfl,rfl⟩
         go_wp2_with fail
         go_ret
         exact⟨by rw[HRE.out];rfl,KK7.out⟩
        ·have hmb:mb (s++D) used=true:=by rw[HCS.out];exact HJ5.out k hk1 (by omega)
         go_wp2_with fail
         refine (HIN.out w7 KK7.out (s++D)).mono ?_
         rintro e w8 ⟨rfl,rfl⟩
         go_wp2_with fail
         go_roundw
         case rel=>exact⟨k+1,by omega,by omega,by go_num,KK7.out⟩
         case measure=>simp[intOf];omega
     ·have HN2:Hid (stripD (s.extract 0 (s.size-1)).data.toList=b∧(s.extract 0 (s.size-1)).size≤9223372036854775807):=Ld ⟨by rw[← hq.out.1,HSA.out,hd];rfl,by rw[ByteArray.size_extract];omega⟩
      go_wp2_with (go_at_call 47;refine (rdigit_any _ _).mono ?_;rintro e w' ⟨rfl,rfl⟩)
      go_roundw
      case rel=>exact⟨_,rfl,kr,HN2⟩
      case measure=>simp only[strOf,ByteArray.size_extract];omega
 ·have HRN:Hid (res=frFrom name used):=Ld (by rw[HFR.out,hv];rfl)
  have HNV2:=Ld (HNV.out _ hv)
  have HNM:=Ld hv
  have HSN:=HSZ
  clear hv HNV HFR HSZ
  generalize name=nm at *
  go_enter Tryz.func13,Tryz.ntmps13
  go_wp2_with fail
  refine HNV2.out.mono ?_
  rintro e w2 ⟨rfl,k2⟩
  have HK:=Ld k2
  clear k2 HNV2
  go_wp2_with fail
  refine (HIN.out _ HK.out nm).mono ?_
  rintro e w3 ⟨rfl,rfl⟩
  cases hm:mb nm used
  ·have HE:Hid (res=nm):=Ld (by rw[HRN.out];unfold frFrom;rw[hm];rfl)
   clear hm HIN
   go_wp2_with fail
   go_ret
   exact⟨by rw[HE.out];rfl,HK.out⟩
  ·obtain⟨j,hj1,hj2,hj3,hj4,hj5⟩:=fresh_at HNM.out HU.out hm
   have HRJ:Hid (res=str (candL (baseL nm) j)):=Ld (by rw[HRN.out,hj3])
   have HJ4:=Ld hj4
   have HJ5:=Ld hj5
   have HBS:=Ld (base_size HNM.out)
   have HBN:=Ld (base_ok HNM.out).1
   have HPT:=Ld (prim_trim HNM.out)
   have HP:=Ld (fun (v:Bool) (hv:primB nm=v)=>primed_big nm w2 HSN.out hv)
   have HBL:Hid (baseL nm=stripD (trimQ nm).data.toList):=Ld rfl
   generalize baseL nm=b at *
   clear hm hj3 hj4 hj5 HRN HNM
   rcases HPT.out with ⟨hp,hp1,hp2⟩ | ⟨hp,hp2⟩
   ·have HPC:=Ld (HP.out _ hp)
    have HST:Hid (stripD (nm.extract 0 (nm.size-1)).data.toList=b∧(nm.extract 0 (nm.size-1)).size≤9223372036854775807):=Ld ⟨by rw[← hp2];exact HBL.out.symm,by rw[ByteArray.size_extract];have:=HSN.out;omega⟩
    have i1:(1:Int)<(nm.size:Int):=by omega
    have i2:nm.size-1<nm.size:=by omega
    have i3:(nm.size:Int)-1=((nm.size-1:Nat):Int):=by omega
    have i4:=HSN.out
    clear hp hp1 hp2 HP HPT
    go_wp2_with fail
    refine HPC.out.mono ?_
    rintro e w4 ⟨rfl,k4⟩
    have HK3:=Ld (HK.out.trans k4)
    clear HPC k4 HK
    go_wp2_with fail
    clear i1 i2 i3 i4
    go_loopw [0] (fun v wr=>∃ s:ByteArray,v=.string s∧Kept (fun _=>False) w wr∧Hid (stripD s.data.toList=b∧s.size≤9223372036854775807)) (fun v _=>(strOf v).size)
    case atStart=>exact⟨_,rfl,HK3.out,HST⟩
    case round=>
     obtain⟨s,rfl,kr,hq⟩:=hrel
     have hpos:0<s.size:=by
      have h1:=hq.out.1
      have h2:=HBN.out
      by_cases h:0<s.size
      ·exact h
      ·exfalso
       have h3:s.data.toList=[]:=List.length_eq_zero_iff.1 (by rw[ba_len];omega)
       rw[h3] at h1
       exact h2 h1.symm
     have i1:(0:Int)<(s.size:Int):=by omega
     have i2:s.size-1<s.size:=by omega
     have i3:(s.size:Int)-1=((s.size-1:Nat):Int):=by omega
     have i4:=hq.out.2
     have HSA:=Ld (strip_at s i2)
     cases hd:digitB (s[s.size-1].toNat)
     ·have HB:Hid (s.data.toList=b):=Ld (by rw[← hq.out.1,HSA.out,hd];rfl)
      go_wp2_with (go_at_call 47;refine (rdigit_any _ _).mono ?_;rintro e w' ⟨rfl,rfl⟩)
      clear hd HSA i1 i3 hpos
      have i4:s.size≤16:=by have h1:=HBS.out;have h2:=congrArg List.length HB.out;rw[ba_len] at h2;omega
      go_loopw [5,6,7] (fun i x y wr=>∃ k:Nat,1≤k∧k≤j∧i=.int .i64 k∧Kept (fun _=>False) w wr) (fun i x y _=>j-(intOf i).toNat)
      case atStart=>exact⟨1,Nat.le_refl _,hj1,rfl,kr⟩
      case round=>
       obtain⟨k,hk1,hk2,rfl,kr2⟩:=hrel
       have k1:(k:Int)<1000002:=by omega
       have hdl:=dec_len2 6 k (by omega)
       have HDD:=Ld (dec_nat k (by omega) wr)
       have HCS:=Ld (cand_str (B:=s) (k:=k))
       rw[HB.out] at HCS
       have hDs:(str (Lib.decDigits k)).size≤7:=by rw[str_size];exact hdl
       clear hdl
       generalize str (Lib.decDigits k)=D at *
       go_wp2_with fail
       refine HDD.out.mono ?_
       rintro e w7 ⟨rfl,k7⟩
       have KK7:=Ld (kr2.trans k7)
       clear HDD
       have n1:(D.size:Int)≤7:=by omega
       have n2:(s.size:Int)≤16:=by omega
       have n3:(0:Int)≤(D.size:Int):=by omega
       have n4:(0:Int)≤(s.size:Int):=by omega
       by_cases hc:16<s.size+D.size
       ·have t1:decide ((16:Int)<(s.size:Int)+(D.size:Int))=true:=decide_eq_true (by omega)
        have n5:(16:Int)-(D.size:Int)=((16-D.size:Nat):Int):=by omega
        have n6:16-D.size≤s.size:=by omega
        have n7:((16-D.size:Nat):Int)≤(s.size:Int):=by omega
        rw[if_pos hc] at HCS
        clear hc
        by_cases hkj:k=j
        ·have hmb:mb (s.extract 0 (16-D.size)++D) used=false:=by rw[HCS.out,hkj];exact HJ4.out
         have HRE:Hid (res=s.extract 0 (16-D.size)++D):=Ld (by rw[HRJ.out,← hkj,HCS.out])
         go_wp2_with fail
         refine (HIN.out w7 KK7.out (s.extract 0 (16-D.size)++D)).mono ?_
         rintro e w8 ⟨rfl,rfl⟩
         go_wp2_with fail
         go_ret
         exact⟨by rw[HRE.out];rfl,KK7.out⟩
        ·have hmb:mb (s.extract 0 (16-D.size)++D) used=true:=by rw[HCS.out];exact HJ5.out k hk1 (by omega)
         go_wp2_with fail
         refine (HIN.out w7 KK7.out (s.extract 0 (16-D.size)++D)).mono ?_
         rintro e w8 ⟨rfl,rfl⟩
         go_wp2_with fail
         go_roundw
         case rel=>exact⟨k+1,by omega,by omega,by go_num,KK7.out⟩
         case measure=>simp[intOf];omega
       ·have t1:decide ((16:Int)<(s.size:Int)+(D.size:Int))=false:=decide_eq_false (by omega)
        rw[if_neg hc] at HCS
        clear hc
        by_cases hkj:k=j
        ·have hmb:mb (s++D) used=false:=by rw[HCS.out,hkj];exact HJ4.out
         have HRE:Hid (res=s++D):=Ld (by rw[HRJ.out,← hkj,HCS.out])
         go_wp2_with fail
         refine (HIN.out w7 KK7.out (s++D)).mono ?_
         rintro e w8 ⟨rfl,rfl⟩
         go_wp2_with fail
         go_ret
         exact⟨by rw[HRE.out];rfl,KK7.out⟩
        ·have hmb:mb (s++D) used=true:=by rw[HCS.out];exact HJ5.out k hk1 (by omega)
         go_wp2_with fail
         refine (HIN.out w7 KK7.out (s++D)).mono ?_
         rintro e w8 ⟨rfl,rfl⟩
         go_wp2_with fail
         go_roundw
         case rel=>exact⟨k+1,by omega,by omega,by go_num,KK7.out⟩
         case measure=>simp[intOf];omega
     ·have HN2:Hid (stripD (s.extract 0 (s.size-1)).data.toList=b∧(s.extract 0 (s.size-1)).size≤9223372036854775807):=Ld ⟨by rw[← hq.out.1,HSA.out,hd];rfl,by rw[ByteArray.size_extract];omega⟩
      go_wp2_with (go_at_call 47;refine (rdigit_any _ _).mono ?_;rintro e w' ⟨rfl,rfl⟩)
      go_roundw
      case rel=>exact⟨_,rfl,kr,HN2⟩
      case measure=>simp only[strOf,ByteArray.size_extract];omega
   ·have HPC:=Ld (HP.out _ hp)
    have HST:Hid (stripD nm.data.toList=b∧nm.size≤9223372036854775807):=Ld ⟨by rw[hp2] at HBL;exact HBL.out.symm,HSN.out⟩
    clear hp hp2 HP HPT
    go_wp2_with fail
    refine HPC.out.mono ?_
    rintro e w4 ⟨rfl,k4⟩
    have HK3:=Ld (HK.out.trans k4)
    clear HPC k4 HK
    go_wp2_with fail
    go_loopw [0] (fun v wr=>∃ s:ByteArray,v=.string s∧Kept (fun _=>False) w wr∧Hid (stripD s.data.toList=b∧s.size≤9223372036854775807)) (fun v _=>(strOf v).size)
    case atStart=>exact⟨_,rfl,HK3.out,HST⟩
    case round=>
     obtain⟨s,rfl,kr,hq⟩:=hrel
     have hpos:0<s.size:=by
      have h1:=hq.out.1
      have h2:=HBN.out
      by_cases h:0<s.size
      ·exact h
      ·exfalso
       have h3:s.data.toList=[]:=List.length_eq_zero_iff.1 (by rw[ba_len];omega)
       rw[h3] at h1
       exact h2 h1.symm
     have i1:(0:Int)<(s.size:Int):=by omega
     have i2:s.size-1<s.size:=by omega
     have i3:(s.size:Int)-1=((s.size-1:Nat):Int):=by omega
     have i4:=hq.out.2
     have HSA:=Ld (strip_at s i2)
     cases hd:digitB (s[s.size-1].toNat)
     ·have HB:Hid (s.data.toList=b):=Ld (by rw[← hq.out.1,HSA.out,hd];rfl)
      go_wp2_with (go_at_call 47;refine (rdigit_any _ _).mono ?_;rintro e w' ⟨rfl,rfl⟩)
      clear hd HSA i1 i3 hpos
      have i4:s.size≤16:=by have h1:=HBS.out;have h2:=congrArg List.length HB.out;rw[ba_len] at h2;omega
      go_loopw [5,6,7] (fun i x y wr=>∃ k:Nat,1≤k∧k≤j∧i=.int .i64 k∧Kept (fun _=>False) w wr) (fun i x y _=>j-(intOf i).toNat)
      case atStart=>exact⟨1,Nat.le_refl _,hj1,rfl,kr⟩
      case round=>
       obtain⟨k,hk1,hk2,rfl,kr2⟩:=hrel
       have k1:(k:Int)<1000002:=by omega
       have hdl:=dec_len2 6 k (by omega)
       have HDD:=Ld (dec_nat k (by omega) wr)
       have HCS:=Ld (cand_str (B:=s) (k:=k))
       rw[HB.out] at HCS
       have hDs:(str (Lib.decDigits k)).size≤7:=by rw[str_size];exact hdl
       clear hdl
       generalize str (Lib.decDigits k)=D at *
       go_wp2_with fail
       refine HDD.out.mono ?_
       rintro e w7 ⟨rfl,k7⟩
       have KK7:=Ld (kr2.trans k7)
       clear HDD
       have n1:(D.size:Int)≤7:=by omega
       have n2:(s.size:Int)≤16:=by omega
       have n3:(0:Int)≤(D.size:Int):=by omega
       have n4:(0:Int)≤(s.size:Int):=by omega
       by_cases hc:16<s.size+D.size
       ·have t1:decide ((16:Int)<(s.size:Int)+(D.size:Int))=true:=decide_eq_true (by omega)
        have n5:(16:Int)-(D.size:Int)=((16-D.size:Nat):Int):=by omega
        have n6:16-D.size≤s.size:=by omega
        have n7:((16-D.size:Nat):Int)≤(s.size:Int):=by omega
        rw[if_pos hc] at HCS
        clear hc
        by_cases hkj:k=j
        ·have hmb:mb (s.extract 0 (16-D.size)++D) used=false:=by rw[HCS.out,hkj];exact HJ4.out
         have HRE:Hid (res=s.extract 0 (16-D.size)++D):=Ld (by rw[HRJ.out,← hkj,HCS.out])
         go_wp2_with fail
         refine (HIN.out w7 KK7.out (s.extract 0 (16-D.size)++D)).mono ?_
         rintro e w8 ⟨rfl,rfl⟩
         go_wp2_with fail
         go_ret
         exact⟨by rw[HRE.out];rfl,KK7.out⟩
        ·have hmb:mb (s.extract 0 (16-D.size)++D) used=true:=by rw[HCS.out];exact HJ5.out k hk1 (by omega)
         go_wp2_with fail
         refine (HIN.out w7 KK7.out (s.extract 0 (16-D.size)++D)).mono ?_
         rintro e w8 ⟨rfl,rfl⟩
         go_wp2_with fail
         go_roundw
         case rel=>exact⟨k+1,by omega,by omega,by go_num,KK7.out⟩
         case measure=>simp[intOf];omega
       ·have t1:decide ((16:Int)<(s.size:Int)+(D.size:Int))=false:=decide_eq_false (by omega)
        rw[if_neg hc] at HCS
        clear hc
        by_cases hkj:k=j
        ·have hmb:mb (s++D) used=false:=by rw[HCS.out,hkj];exact HJ4.out
         have HRE:Hid (res=s++D):=Ld (by rw[HRJ.out,← hkj,HCS.out])
         go_wp2_with fail
         refine (HIN.out w7 KK7.out (s++D)).mono ?_
         rintro e w8 ⟨rfl,rfl⟩
         go_wp2_with fail
         go_ret
         exact⟨by rw[HRE.out];rfl,KK7.out⟩
        ·have hmb:mb (s++D) used=true:=by rw[HCS.out];exact HJ5.out k hk1 (by omega)
         go_wp2_with fail
         refine (HIN.out w7 KK7.out (s++D)).mono ?_
         rintro e w8 ⟨rfl,rfl⟩
         go_wp2_with fail
         go_roundw
         case rel=>exact⟨k+1,by omega,by omega,by go_num,KK7.out⟩
         case measure=>simp[intOf];omega
     ·have HN2:Hid (stripD (s.extract 0 (s.size-1)).data.toList=b∧(s.extract 0 (s.size-1)).size≤9223372036854775807):=Ld ⟨by rw[← hq.out.1,HSA.out,hd];rfl,by rw[ByteArray.size_extract];omega⟩
      go_wp2_with (go_at_call 47;refine (rdigit_any _ _).mono ?_;rintro e w' ⟨rfl,rfl⟩)
      go_roundw
      case rel=>exact⟨_,rfl,kr,HN2⟩
      case measure=>simp only[strOf,ByteArray.size_extract];omega
end Go.Proofs.YtdmebjbkccjhbaaGreatDoor
