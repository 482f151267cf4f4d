/- A part. -/
import Derived.Test.YtfhedienjnfdcaaGreatDoorQ12
import Derived.Laws.IdiomStrings
set_option linter.unusedVariables false
set_option linter.unusedSimpArgs false
set_option maxRecDepth 100000
set_option maxHeartbeats 32000000
namespace Go.Proofs.YtfhedienjnfdcaaGreatDoor
open Go.RowKit
structure KRow (W:World) (base g:Nat) (l:List Tm):Prop where
 row:∃ (L:List Value) (K M:Nat→Value),Blk W g 28 L∧l.length*7≤L.length∧∀ i (h:i<l.length),L[i*7]?=some (.int .i64 l[i].op)∧L[i*7+1]?=some (.string l[i].name)∧L[i*7+2]?=some (.int .i64 l[i].n)∧L[i*7+3]?=some (.int .i64 l[i].ty.kind)∧L[i*7+4]?=some (.string l[i].ty.name)∧L[i*7+5]?=some (K i)∧L[i*7+6]?=some (M i)∧TyL (fun q=>base≤q∧q≠g) W l[i].ty.kids (K i)∧TmL (fun q=>base≤q∧q≠g) W l[i].kids (M i)
theorem KRow.tml {W:World} {base g c:Nat} {l:List Tm} (h:KRow W base g l) (hg:base≤g) (hc:l.length≤c):TmL (fun q=>base≤q) W l (.slice (some ⟨g,0,none⟩) l.length c):=by
 by_cases hne:l=[]
 ·subst hne;exact .nil (Or.inr ⟨_,_,rfl⟩)
 ·obtain⟨L,K,M,bG,hL,hR⟩:=h.row
  refine TmL.mk K M hne hg hc (fun i hi=>?_) (fun i hi=>?_) (fun i hi=>?_)
  ·obtain⟨e0,e1,e2,e3,e4,e5,e6,e7,e8⟩:=hR i hi
   rw[Nat.zero_add]
   exact⟨by rw[bG.cell];exact e0,by rw[bG.cell];exact e1,by rw[bG.cell];exact e2,by rw[bG.cell];exact e3,by rw[bG.cell];exact e4,by rw[bG.cell];exact e5,by rw[bG.cell];exact e6⟩
  ·exact (hR i hi).2.2.2.2.2.2.2.1.mono (fun q _ h=>h.1)
  ·exact (hR i hi).2.2.2.2.2.2.2.2.mono (fun q _ h=>h.1)
def ClP2 (t:Tm) (w:World) (e:Ending) (w':World):Prop:=∃ v g c,e=.returned (tmVal t v (.slice (some ⟨g,0,none⟩) t.kids.length c))∧t.kids.length≤c∧w.heap.size≤g∧TyL (fun q=>w.heap.size≤q∧q≠g) w' t.ty.kids v∧KRow w' w.heap.size g t.kids∧Kept (fun _=>False) w w'
theorem clone_some2 {op:Int} {nm:ByteArray} {N:Int} {ty:Ty} {w:World} {ok:Nat→Prop} {ta:Option Addr} {tn tc:Nat} (hcp:CpC ty) (hty:TyL ok w ty.kids (.slice ta tn tc)) {l:List Tm} {b off cp:Nat} (IH:∀ t,t∈l→ClC t) (hn:l.length≤1000000) (K M:Nat→Value) (hcell:∀ i (h:i<l.length),w.cell? ⟨b,off+i*7,none⟩=some (.int .i64 l[i].op)∧w.cell? ⟨b,off+i*7+1,none⟩=some (.string l[i].name)∧w.cell? ⟨b,off+i*7+2,none⟩=some (.int .i64 l[i].n)∧w.cell? ⟨b,off+i*7+3,none⟩=some (.int .i64 l[i].ty.kind)∧w.cell? ⟨b,off+i*7+4,none⟩=some (.string l[i].ty.name)∧w.cell? ⟨b,off+i*7+5,none⟩=some (K i)∧w.cell? ⟨b,off+i*7+6,none⟩=some (M i)) (hk:∀ i (h:i<l.length),TyL ok w l[i].ty.kids (K i)) (hm:∀ i (h:i<l.length),TmL ok w l[i].kids (M i)):Calls Tryz.prog 58 #[.agg #[.int .i64 op,.string nm,.int .i64 N,.int .i64 ty.kind,.string ty.name,.slice ta tn tc,.slice (some ⟨b,off,none⟩) l.length cp]] w (ClP2 (.mk op nm N ty l) w):=by
 have HCELL:=Ld hcell
 have HK:=Ld hk
 have HM:=Ld hm
 have HIH:=Ld IH
 clear hcell hk hm IH
 have hone:Hid (∀ j,j<l.length*7→∃ v,w.cell? ⟨b,off+j,none⟩=some v∧v.oneCell'=true):=Ld (by
  intro j hj
  obtain⟨i,r,hi,hr,rfl⟩:=seven hj
  have c:=HCELL.out i hi
  rcases (show r=0∨r=1∨r=2∨r=3∨r=4∨r=5∨r=6 by omega) with rfl | rfl | rfl | rfl | rfl | rfl | rfl
  ·exact⟨_,c.1,rfl⟩
  ·exact⟨_,by rw[show off+(i*7+1)=off+i*7+1 by omega];exact c.2.1,rfl⟩
  ·exact⟨_,by rw[show off+(i*7+2)=off+i*7+2 by omega];exact c.2.2.1,rfl⟩
  ·exact⟨_,by rw[show off+(i*7+3)=off+i*7+3 by omega];exact c.2.2.2.1,rfl⟩
  ·exact⟨_,by rw[show off+(i*7+4)=off+i*7+4 by omega];exact c.2.2.2.2.1,rfl⟩
  ·obtain⟨a,n,c',hh⟩:=(HK.out i hi).slice
   exact⟨_,by rw[show off+(i*7+5)=off+i*7+5 by omega];exact c.2.2.2.2.2.1,by rw[hh];rfl⟩
  ·obtain⟨a,n,c',hh⟩:=(HM.out i hi).slice
   exact⟨_,by rw[show off+(i*7+6)=off+i*7+6 by omega];exact c.2.2.2.2.2.2,by rw[hh];rfl⟩)
 have bA:Blk ((w.alloc (.cells #[.int .i64 op,.string nm,.int .i64 N,.int .i64 ty.kind,.string ty.name,.slice ta tn tc,.slice (some ⟨b,off,none⟩) l.length cp] 28)).alloc Z7) w.heap.size 28 [.int .i64 op,.string nm,.int .i64 N,.int .i64 ty.kind,.string ty.name,.slice ta tn tc,.slice (some ⟨b,off,none⟩) l.length cp]:=(Blk.new w 28 _).alloc _
 have bR:Blk ((w.alloc (.cells #[.int .i64 op,.string nm,.int .i64 N,.int .i64 ty.kind,.string ty.name,.slice ta tn tc,.slice (some ⟨b,off,none⟩) l.length cp] 28)).alloc Z7) (w.heap.size+1) 28 z27:=Blk.new' 28 _ (by simp)
 have K0:Kept (fun _=>False) w ((w.alloc (.cells #[.int .i64 op,.string nm,.int .i64 N,.int .i64 ty.kind,.string ty.name,.slice ta tn tc,.slice (some ⟨b,off,none⟩) l.length cp] 28)).alloc Z7):=(kR.alloc _).alloc _
 have Z0:Hid (((w.alloc (.cells #[.int .i64 op,.string nm,.int .i64 N,.int .i64 ty.kind,.string ty.name,.slice ta tn tc,.slice (some ⟨b,off,none⟩) l.length cp] 28)).alloc Z7).heap.size=w.heap.size+2):=Ld (by simp)
 have HT0:=Ld (hcp ((w.alloc (.cells #[.int .i64 op,.string nm,.int .i64 N,.int .i64 ty.kind,.string ty.name,.slice ta tn tc,.slice (some ⟨b,off,none⟩) l.length cp] 28)).alloc Z7) ok (.slice ta tn tc) ((hty.frame (Same.alloc w (.cells #[.int .i64 op,.string nm,.int .i64 N,.int .i64 ty.kind,.string ty.name,.slice ta tn tc,.slice (some ⟨b,off,none⟩) l.length cp] 28))).frame (Same.alloc _ _)))
 clear hcp
 go_enter Tryz.func58,Tryz.ntmps58
 go_wp2_with fail
 refine HT0.out.mono ?_
 rintro e w1 ⟨tv,rfl,hT1,k1⟩
 obtain⟨va,vn,vc,rfl⟩:=hT1.slice
 unfold tyVal
 rw[Z0.out] at hT1
 have bA1:=bA.kept k1 (fun h=>h)
 have bR1:=bR.kept k1 (fun h=>h)
 have K1:=K0.trans k1
 have a0:w1.cell? ⟨w.heap.size,0,none⟩=some (.int .i64 op):=bA1.cell 0
 have a1:w1.cell? ⟨w.heap.size,1,none⟩=some (.string nm):=bA1.cell 1
 have a2:w1.cell? ⟨w.heap.size,2,none⟩=some (.int .i64 N):=bA1.cell 2
 have a3:w1.cell? ⟨w.heap.size,3,none⟩=some (.int .i64 ty.kind):=bA1.cell 3
 have a4:w1.cell? ⟨w.heap.size,4,none⟩=some (.string ty.name):=bA1.cell 4
 have a5:w1.cell? ⟨w.heap.size,5,none⟩=some (.slice ta tn tc):=bA1.cell 5
 have a6:w1.cell? ⟨w.heap.size,6,none⟩=some (.slice (some ⟨b,off,none⟩) l.length cp):=bA1.cell 6
 have fa3:=bA1.frozen 3
 have fa4:=bA1.frozen 4
 have fa5:=bA1.frozen 5
 have fa6:=bA1.frozen 6
 go_wp2_with fail
 have K1s:=(((K1.setCell (p:=⟨w.heap.size,3,none⟩) (Or.inr (by show w.heap.size≤w.heap.size;omega)) (.int .i64 ty.kind)).setCell (p:=⟨w.heap.size,4,none⟩) (Or.inr (by show w.heap.size≤w.heap.size;omega)) (.string ty.name)).setCell (p:=⟨w.heap.size,5,none⟩) (Or.inr (by show w.heap.size≤w.heap.size;omega)) (.slice va vn vc))
 refine (cloneTm_some b off l.length cp hn (fun j hj=>?_)).mono ?_
 ·obtain⟨v,hv,h1⟩:=hone.out j hj
  exact⟨v,by rw[K1s.cell (p:=⟨b,off+j,none⟩) (cell_lt hv) (fun h=>h)];exact hv,h1⟩
 rintro e w2 ⟨v,rfl,⟨g,cap,L,rfl,hcap,hg,hL,hLl,hLc⟩,k2⟩
 have hsz1:=K1.size
 have z1:=bR1.lt
 have hg1:w1.heap.size≤g:=by simpa [World.setCell] using hg
 have hg2:w.heap.size+2≤g:=Nat.le_trans z1 hg1
 have bA2:=(((bA1.set 3 (.int .i64 ty.kind)).set 4 (.string ty.name)).set 5 (.slice va vn vc)).kept k2 (fun h=>h)
 have bR2:=(((bR1.set_other _ _ (by show w.heap.size+1≠w.heap.size;omega)).set_other _ _ (by show w.heap.size+1≠w.heap.size;omega)).set_other _ _ (by show w.heap.size+1≠w.heap.size;omega)).kept k2 (fun h=>h)
 have K2:=K1s.trans k2
 have HT1:Hid (TyL (fun q=>w.heap.size+2≤q∧q≠g) w2 ty.kids (.slice va vn vc)):=Ld ((hT1.mono (ok':=fun q=>w.heap.size+2≤q∧q≠g) (fun q hq h=>⟨h,by omega⟩)).frame (Same.trans (Same.of_kept (S:=(·=w.heap.size)) ((((Kept.refl (fun x=>x=w.heap.size) w1).setCell (p:=⟨w.heap.size,3,none⟩) (Or.inl rfl) (.int .i64 ty.kind)).setCell (p:=⟨w.heap.size,4,none⟩) (Or.inl rfl) (.string ty.name)).setCell (p:=⟨w.heap.size,5,none⟩) (Or.inl rfl) (.slice va vn vc)) (fun q h e=>by omega)) (sK k2) (by simp[World.setCell])))
 have HLC:=Ld hLc
 have HLL:=Ld hLl
 have HG:=Ld hg2
 have HK1s:=Ld K1s
 clear a0 a1 a2 a3 a4 a5 a6 fa3 fa4 fa5 fa6 hLc hLl hg2 hg hg1 K1s hT1
 have a6:w2.cell? ⟨w.heap.size,6,none⟩=some (.slice (some ⟨b,off,none⟩) l.length cp):=bA2.cell 6
 have fa6:=bA2.frozen 6
 go_wp2_with (go_at_call 53;refine (clipTm_some _ g l.length cap hcap hn).mono ?_;rintro e w' ⟨rfl,rfl⟩)
 have c1:CJ w l [.int .i64 op,.string nm,.int .i64 N,.int .i64 ty.kind,.string ty.name,.slice va vn vc] l.length b off g 0 (w2.setCell ⟨w.heap.size,6,none⟩ (.slice (some ⟨g,0,none⟩) l.length l.length)):=by
  have hg:=HG.out
  refine⟨K2.setCell (p:=⟨w.heap.size,6,none⟩) (Or.inr (Nat.le_refl _)) _,bA2.set 6 _,bR2.set_other _ _ (by show w.heap.size+1≠w.heap.size;omega),L,K,M,hL.set_other _ _ (by show g≠w.heap.size;omega),HLL.out,fun j _ hj=>?_,fun i hi=>absurd hi (Nat.not_lt_zero _)⟩
  rw[HLC.out j hj]
  obtain⟨v,hv,_⟩:=hone.out j hj
  rw[HK1s.out.cell (p:=⟨b,off+j,none⟩) (cell_lt hv) (fun h=>h)]
 have HT2:Hid (TyL (fun q=>w.heap.size+2≤q∧q≠g) (w2.setCell ⟨w.heap.size,6,none⟩ (.slice (some ⟨g,0,none⟩) l.length l.length)) ty.kids (.slice va vn vc)):=Ld (HT1.out.frame (Same.of_kept (S:=(·=w.heap.size)) ((Kept.refl (fun x=>x=w.heap.size) w2).setCell (p:=⟨w.heap.size,6,none⟩) (Or.inl rfl) _) (fun q h e=>by omega)))
 have C1:=Ld c1
 clear c1 a6 fa6 bA1 bR1 bA bR hL bA2 bR2 K1 K2
 go_loopw [17] (fun i wr=>∃ k:Nat,k≤l.length∧i=.int .i64 k∧Hid (CJ w l [.int .i64 op,.string nm,.int .i64 N,.int .i64 ty.kind,.string ty.name,.slice va vn vc] l.length b off g k wr)∧Hid (TyL (fun q=>w.heap.size+2≤q∧q≠g) wr ty.kids (.slice va vn vc))) (fun i _=>l.length-(intOf i).toNat)
 case atStart=>exact⟨0,Nat.zero_le _,rfl,C1,HT2⟩
 case round=>
  obtain⟨k,hkl,rfl,HCI,HTk⟩:=hrel
  have hg:=HG.out
  have qA:=HCI.out.a
  have qR:=HCI.out.r
  have kp:=HCI.out.kp
  obtain⟨L,K',M',bG,hLn,hLo,hLd⟩:=HCI.out.row
  have HLo:=Ld hLo
  have HLd:=Ld hLd
  have HLn:=Ld hLn
  have BG:=Ld bG
  clear hLo hLd hLn bG
  by_cases hlt:k<l.length
  ·obtain⟨xa,xn,xc,hKk⟩:=(HK.out k hlt).slice
   obtain⟨ya,yn,yc,hMk⟩:=(HM.out k hlt).slice
   have c0:wr.cell? ⟨g,k*7,none⟩=some (.int .i64 l[k].op):=by
    rw[BG.out.cell,HLo.out (k*7) (by omega) (by omega)];exact (HCELL.out k hlt).1
   have c1:wr.cell? ⟨g,k*7+1,none⟩=some (.string l[k].name):=by
    rw[BG.out.cell,HLo.out (k*7+1) (by omega) (by omega)];exact (HCELL.out k hlt).2.1
   have c2:wr.cell? ⟨g,k*7+2,none⟩=some (.int .i64 l[k].n):=by
    rw[BG.out.cell,HLo.out (k*7+2) (by omega) (by omega)];exact (HCELL.out k hlt).2.2.1
   have c3:wr.cell? ⟨g,k*7+3,none⟩=some (.int .i64 l[k].ty.kind):=by
    rw[BG.out.cell,HLo.out (k*7+3) (by omega) (by omega)];exact (HCELL.out k hlt).2.2.2.1
   have c4:wr.cell? ⟨g,k*7+4,none⟩=some (.string l[k].ty.name):=by
    rw[BG.out.cell,HLo.out (k*7+4) (by omega) (by omega)];exact (HCELL.out k hlt).2.2.2.2.1
   have c5:wr.cell? ⟨g,k*7+5,none⟩=some (.slice xa xn xc):=by
    rw[BG.out.cell,HLo.out (k*7+5) (by omega) (by omega),← hKk];exact (HCELL.out k hlt).2.2.2.2.2.1
   have c6:wr.cell? ⟨g,k*7+6,none⟩=some (.slice ya yn yc):=by
    rw[BG.out.cell,HLo.out (k*7+6) (by omega) (by omega),← hMk];exact (HCELL.out k hlt).2.2.2.2.2.2
   have i1:(k:Int)<(l.length:Int):=by omega
   have a6:wr.cell? ⟨w.heap.size,6,none⟩=some (.slice (some ⟨g,0,none⟩) l.length l.length):=qA.cell 6
   have lA:=qA.lt
   have lG:=BG.out.lt
   have hcon:=Ld (HIH.out _ (List.getElem_mem hlt))
   have hty':Hid (TyL ok wr l[k].ty.kids (.slice xa xn xc)):=Ld (by rw[← hKk];exact (HK.out k hlt).frame (sK kp))
   have htm':Hid (TmL ok wr l[k].kids (.slice ya yn yc)):=Ld (by rw[← hMk];exact (HM.out k hlt).frame (sK kp))
   clear hKk hMk
   go_wp2_with fail
   have bX:Blk (wr.alloc (.cells #[.int .i64 l[k].op,.string l[k].name,.int .i64 l[k].n,.int .i64 l[k].ty.kind,.string l[k].ty.name,.slice xa xn xc,.slice ya yn yc] 28)) wr.heap.size 28 [.int .i64 l[k].op,.string l[k].name,.int .i64 l[k].n,.int .i64 l[k].ty.kind,.string l[k].ty.name,.slice xa xn xc,.slice ya yn yc]:=Blk.new wr 28 _
   have hAX:w.heap.size≠wr.heap.size:=by omega
   have hGX:g≠wr.heap.size:=by omega
   have hAG:g≠w.heap.size:=by omega
   refine wp_gen (F:=fun W3=>Kept (fun _=>False) wr W3∧Blk W3 wr.heap.size 28 [.int .i64 l[k].op,.string l[k].name,.int .i64 l[k].n,.int .i64 l[k].ty.kind,.string l[k].ty.name,.slice xa xn xc,.slice ya yn yc]∧wr.heap.size<W3.heap.size) ⟨kR.alloc _,bX,bX.lt⟩ ?_
   rintro W3 ⟨k3,b3,z3⟩
   have a3:W3.cell? ⟨w.heap.size,6,none⟩=some (.slice (some ⟨g,0,none⟩) l.length l.length):=(qA.kept k3 (fun h=>h)).cell 6
   have x0:W3.cell? ⟨wr.heap.size,0,none⟩=some (.int .i64 l[k].op):=b3.cell 0
   have x1:W3.cell? ⟨wr.heap.size,1,none⟩=some (.string l[k].name):=b3.cell 1
   have x2:W3.cell? ⟨wr.heap.size,2,none⟩=some (.int .i64 l[k].n):=b3.cell 2
   have x3:W3.cell? ⟨wr.heap.size,3,none⟩=some (.int .i64 l[k].ty.kind):=b3.cell 3
   have x4:W3.cell? ⟨wr.heap.size,4,none⟩=some (.string l[k].ty.name):=b3.cell 4
   have x5:W3.cell? ⟨wr.heap.size,5,none⟩=some (.slice xa xn xc):=b3.cell 5
   have x6:W3.cell? ⟨wr.heap.size,6,none⟩=some (.slice ya yn yc):=b3.cell 6
   have HC3:Hid (Calls Tryz.prog 58 #[.agg #[.int .i64 l[k].op,.string l[k].name,.int .i64 l[k].n,.int .i64 l[k].ty.kind,.string l[k].ty.name,.slice xa xn xc,.slice ya yn yc]] W3.drew fun e w'=>∃ v u,e=.returned (tmVal l[k] v u)∧TyL (fun q=>W3.heap.size≤q) w' l[k].ty.kids v∧TmL (fun q=>W3.heap.size≤q) w' l[k].kids u∧Kept (fun _=>False) W3 w'):=Ld ((hcon.out W3.drew ok (.slice xa xn xc) (.slice ya yn yc) ((hty'.out.frame (sK k3)).frame (Same.drew _)) ((htm'.out.frame (sK k3)).frame (Same.drew _))).mono fun e w' ⟨v,u,h1,h2,h3,h4⟩=>⟨v,u,h1,h2,h3,(kR.drew).trans h4⟩)
   have B3:=Ld b3
   have G3:=Ld (BG.out.kept k3 (fun h=>h))
   clear b3 bX c0 c1 c2 c3 c4 c5 c6 a6
   go_region_held3 (fun w'=>w'.cell? ⟨w.heap.size,6,none⟩=some (.slice (some ⟨g,0,none⟩) l.length l.length)∧w'.cell? ⟨wr.heap.size,0,none⟩=some (.int .i64 l[k].op)∧w'.cell? ⟨wr.heap.size,1,none⟩=some (.string l[k].name)∧w'.cell? ⟨wr.heap.size,2,none⟩=some (.int .i64 l[k].n)∧w'.cell? ⟨wr.heap.size,3,none⟩=some (.int .i64 l[k].ty.kind)∧w'.cell? ⟨wr.heap.size,4,none⟩=some (.string l[k].ty.name)∧w'.cell? ⟨wr.heap.size,5,none⟩=some (.slice xa xn xc)∧w'.cell? ⟨wr.heap.size,6,none⟩=some (.slice ya yn yc)) (go_keep)
    (first | (go_at_call 58;refine HC3.out.mono ?_;rintro e w4 ⟨v,u,rfl,hv,hu,k4⟩;obtain⟨va4,vn4,vc4,rfl⟩:=hv.slice;obtain⟨ua4,un4,uc4,rfl⟩:=hu.slice;unfold tmVal;have G4:=G3.out.kept k4 (fun h=>h);have y0:w4.cell? ⟨w.heap.size,6,none⟩=some (.slice (some ⟨g,0,none⟩) l.length l.length):=(by rw[k4.cell (p:=⟨w.heap.size,6,none⟩) (by show w.heap.size<_;omega) (fun h=>h)];exact a3);have y1:w4.cell? ⟨wr.heap.size,0,none⟩=some (.int .i64 l[k].op):=(B3.out.kept k4 (fun h=>h)).cell 0;have y2:w4.cell? ⟨wr.heap.size,1,none⟩=some (.string l[k].name):=(B3.out.kept k4 (fun h=>h)).cell 1;have y3:w4.cell? ⟨wr.heap.size,2,none⟩=some (.int .i64 l[k].n):=(B3.out.kept k4 (fun h=>h)).cell 2;have y4:w4.cell? ⟨wr.heap.size,3,none⟩=some (.int .i64 l[k].ty.kind):=(B3.out.kept k4 (fun h=>h)).cell 3;have y5:w4.cell? ⟨wr.heap.size,4,none⟩=some (.string l[k].ty.name):=(B3.out.kept k4 (fun h=>h)).cell 4;have y6:w4.cell? ⟨wr.heap.size,5,none⟩=some (.slice xa xn xc):=(B3.out.kept k4 (fun h=>h)).cell 5;have y7:w4.cell? ⟨wr.heap.size,6,none⟩=some (.slice ya yn yc):=(B3.out.kept k4 (fun h=>h)).cell 6;have t0:w4.cell? ⟨g,k*7,none⟩=some (L[k*7]'(by have:=HLn.out;omega)):=(by rw[G4.cell];exact List.getElem?_eq_getElem _);have t1:w4.cell? ⟨g,k*7+1,none⟩=some (L[k*7+1]'(by have:=HLn.out;omega)):=(by rw[G4.cell];exact List.getElem?_eq_getElem _);have t2:w4.cell? ⟨g,k*7+2,none⟩=some (L[k*7+2]'(by have:=HLn.out;omega)):=(by rw[G4.cell];exact List.getElem?_eq_getElem _);have t3:w4.cell? ⟨g,k*7+3,none⟩=some (L[k*7+3]'(by have:=HLn.out;omega)):=(by rw[G4.cell];exact List.getElem?_eq_getElem _);have t4:w4.cell? ⟨g,k*7+4,none⟩=some (L[k*7+4]'(by have:=HLn.out;omega)):=(by rw[G4.cell];exact List.getElem?_eq_getElem _);have t5:w4.cell? ⟨g,k*7+5,none⟩=some (L[k*7+5]'(by have:=HLn.out;omega)):=(by rw[G4.cell];exact List.getElem?_eq_getElem _);have t6:w4.cell? ⟨g,k*7+6,none⟩=some (L[k*7+6]'(by have:=HLn.out;omega)):=(by rw[G4.cell];exact List.getElem?_eq_getElem _);have f0:=G4.frozen (k*7);have f1:=G4.frozen (k*7+1);have f2:=G4.frozen (k*7+2);have f3:=G4.frozen (k*7+3);have f4:=G4.frozen (k*7+4);have f5:=G4.frozen (k*7+5);have f6:=G4.frozen (k*7+6)))
   have HST:=Ld (HCI.out.step hg hlt (k3.trans k4) (hv.mono (fun q _ h=>by omega)) (hu.mono (fun q _ h=>by omega)))
   have HTS:=Ld ((HTk.out.frame (sK (k3.trans k4))).frame (set7 (g:=g) (i0:=k*7) (i1:=k*7+1) (i2:=k*7+2) (i3:=k*7+3) (i4:=k*7+4) (i5:=k*7+5) (i6:=k*7+6) (x0:=.int .i64 l[k].op) (x1:=.string l[k].name) (x2:=.int .i64 l[k].n) (x3:=.int .i64 l[k].ty.kind) (x4:=.string l[k].ty.name) (x5:=.slice va4 vn4 vc4) (x6:=.slice ua4 un4 uc4) (fun q h=>h.2)))
   go_wp2_with fail
   go_roundw
   case rel=>exact⟨k+1,by omega,by go_num,HST,HTS⟩
   case measure=>simp[intOf];omega
  ·have hkk:k=l.length:=by omega
   subst hkk
   have a0:wr.cell? ⟨w.heap.size,0,none⟩=some (.int .i64 op):=qA.cell 0
   have a1:wr.cell? ⟨w.heap.size,1,none⟩=some (.string nm):=qA.cell 1
   have a2:wr.cell? ⟨w.heap.size,2,none⟩=some (.int .i64 N):=qA.cell 2
   have a3:wr.cell? ⟨w.heap.size,3,none⟩=some (.int .i64 ty.kind):=qA.cell 3
   have a4:wr.cell? ⟨w.heap.size,4,none⟩=some (.string ty.name):=qA.cell 4
   have a5:wr.cell? ⟨w.heap.size,5,none⟩=some (.slice va vn vc):=qA.cell 5
   have a6:wr.cell? ⟨w.heap.size,6,none⟩=some (.slice (some ⟨g,0,none⟩) l.length l.length):=qA.cell 6
   have r0:wr.cell? ⟨w.heap.size+1,0,none⟩=some (.int .i64 0):=qR.cell 0
   have f0:=qR.frozen 0
   have r1:wr.cell? ⟨w.heap.size+1,1,none⟩=some (.string ⟨#[]⟩):=qR.cell 1
   have f1:=qR.frozen 1
   have r2:wr.cell? ⟨w.heap.size+1,2,none⟩=some (.int .i64 0):=qR.cell 2
   have f2:=qR.frozen 2
   have r3:wr.cell? ⟨w.heap.size+1,3,none⟩=some (.int .i64 0):=qR.cell 3
   have f3:=qR.frozen 3
   have r4:wr.cell? ⟨w.heap.size+1,4,none⟩=some (.string ⟨#[]⟩):=qR.cell 4
   have f4:=qR.frozen 4
   have r5:wr.cell? ⟨w.heap.size+1,5,none⟩=some (.slice none 0 0):=qR.cell 5
   have f5:=qR.frozen 5
   have r6:wr.cell? ⟨w.heap.size+1,6,none⟩=some (.slice none 0 0):=qR.cell 6
   have f6:=qR.frozen 6
   have QR:=Ld qR
   have KP:=Ld kp
   clear qR kp qA
   go_wp2_with fail
   have bF:=r7 (x0:=.int .i64 op) (x1:=.string nm) (x2:=.int .i64 N) (x3:=.int .i64 ty.kind) (x4:=.string ty.name) (x5:=.slice va vn vc) (x6:=.slice (some ⟨g,0,none⟩) l.length l.length) QR.out rfl
   refine bodyPost_ret (results_one Tryz.results58 rfl (load_tm (t:=.mk op nm N ty l) bF)) rfl ⟨_,g,_,rfl,Nat.le_refl _,by omega,?_,?_,?_⟩
   ·exact (HTk.out.frame (set7 (g:=w.heap.size+1) (fun q h=>by omega))).mono (fun q _ h=>⟨by omega,h.2⟩)
   ·obtain⟨L,K',M',bG,hLn,hLo,hLd⟩:=HCI.out.row
    have bG':=(((((((bG.set_other ⟨w.heap.size+1,0,none⟩ (.int .i64 op) (by show g≠w.heap.size+1;omega)).set_other ⟨w.heap.size+1,1,none⟩ (.string nm) (by show g≠w.heap.size+1;omega)).set_other ⟨w.heap.size+1,2,none⟩ (.int .i64 N) (by show g≠w.heap.size+1;omega)).set_other ⟨w.heap.size+1,3,none⟩ (.int .i64 ty.kind) (by show g≠w.heap.size+1;omega)).set_other ⟨w.heap.size+1,4,none⟩ (.string ty.name) (by show g≠w.heap.size+1;omega)).set_other ⟨w.heap.size+1,5,none⟩ (.slice va vn vc) (by show g≠w.heap.size+1;omega)).set_other ⟨w.heap.size+1,6,none⟩ (.slice (some ⟨g,0,none⟩) l.length l.length) (by show g≠w.heap.size+1;omega))
    refine⟨⟨L,K',M',bG',hLn,fun i hi=>?_⟩⟩
    obtain⟨e0,e1,e2,e3,e4,e5,e6,e7,e8⟩:=hLd i hi hi
    exact⟨e0,e1,e2,e3,e4,e5,e6,(e7.frame (set7 (g:=w.heap.size+1) (fun q h=>by omega))).mono (fun q _ h=>⟨by omega,h.2⟩),(e8.frame (set7 (g:=w.heap.size+1) (fun q h=>by omega))).mono (fun q _ h=>⟨by omega,h.2⟩)⟩
   ·exact (((((((KP.out.setCell (p:=⟨w.heap.size+1,0,none⟩) (Or.inr (by show w.heap.size≤w.heap.size+1;omega)) _).setCell (p:=⟨w.heap.size+1,1,none⟩) (Or.inr (by show w.heap.size≤w.heap.size+1;omega)) _).setCell (p:=⟨w.heap.size+1,2,none⟩) (Or.inr (by show w.heap.size≤w.heap.size+1;omega)) _).setCell (p:=⟨w.heap.size+1,3,none⟩) (Or.inr (by show w.heap.size≤w.heap.size+1;omega)) _).setCell (p:=⟨w.heap.size+1,4,none⟩) (Or.inr (by show w.heap.size≤w.heap.size+1;omega)) _).setCell (p:=⟨w.heap.size+1,5,none⟩) (Or.inr (by show w.heap.size≤w.heap.size+1;omega)) _).setCell (p:=⟨w.heap.size+1,6,none⟩) (Or.inr (by show w.heap.size≤w.heap.size+1;omega)) _)
theorem clone_kids {t:Tm} (hb:BdTm t) (hne:t.kids≠[]) {w:World} {ok:Nat→Prop} {tk kk:Value} (h:TyL ok w t.ty.kids tk) (h':TmL ok w t.kids kk):Calls Tryz.prog 58 #[tmVal t tk kk] w (ClP2 t w):=by
 obtain⟨op,nm,N,ty,l⟩:=t
 cases hb with
 | mk hn ht hl=>
  obtain⟨ta,tn,tc,rfl⟩:=h.slice
  cases h' with
  | nil h'=>exact absurd rfl hne
  | mk K M hne hb hc hcell hk hm=>exact clone_some2 (copyTy_any ht) h (fun t ht=>clone_any (hl t ht)) hn K M hcell hk hm
def PutP (r:Tm) (w:World) (e:Ending) (w':World):Prop:=∃ tk kk,e=.returned (tmVal r tk kk)∧TyL (fun q=>w.heap.size≤q) w' r.ty.kids tk∧TmL (fun q=>w.heap.size≤q) w' r.kids kk∧Kept (fun _=>False) w w'
theorem rcopy_put {t:Tm} (hb:BdTm t) {w:World} {ok:Nat→Prop} {tk kk:Value} (h1:TyL ok w t.ty.kids tk) (h2:TmL ok w t.kids kk):Calls Tryz.prog 42 #[tmVal t tk kk] w (PutP t w):=
 (rcopy_any hb w ok tk kk h1 h2).mono fun e w' ⟨v,E,k,h,h3,h4,h5⟩=>⟨v,k,h,h3.mono (fun q _ hq=>hq.1),by rw[← h5];exact h4.tml,h4.kp⟩
def FitB (l:List (ByteArray×Tm)) (t:Tm) (M:Nat):Prop:=∀ (x:ByteArray) (F:List ByteArray),(∀ s,mb s F=true→s≠x→mb s (fr t)=true)→(frB (remL l x F)).length≤M
def RSuC (t:Tm):Prop:=∀ (l:List (ByteArray×Tm)) (M:Nat) (w:World) (ok okb:Nat→Prop) (tk kk vl:Value),TyL ok w t.ty.kids tk→TmL ok w t.kids kk→BnL okb w l vl→(∀ b∈l,BdTm b.2∧tmD b.2≤900000∧tmN b.2≤700000)→l.length+tmD t≤100000→FitB l t M→M+tmN t≤700000 →
 Calls Tryz.prog 78 #[tmVal t tk kk,vl] w (PutP (subT freshS t l) w)
theorem rsub_name {nm:ByteArray} {N:Int} {ty:Ty} {ks:List Tm} (hb:BdTm (.mk 20 nm N ty ks)):RSuC (.mk 20 nm N ty ks):=by
 intro l M w ok okb tk kk vl h1 h2 hB hbl hn _ _
 have h1:TyL ok w ty.kids tk:=h1
 have h2:TmL ok w ks kk:=h2
 obtain⟨a,n,c,rfl⟩:=h1.slice
 obtain⟨ma,mn,mc,rfl⟩:=h2.slice
 obtain⟨la,lc,rfl⟩:=hB.slice
 change Calls Tryz.prog 78 #[.agg #[.int .i64 20,.string nm,.int .i64 N,.int .i64 ty.kind,.string ty.name,.slice a n c,.slice ma mn mc],.slice la l.length lc] w _
 have B0:Hid (Blk ((w.alloc (.cells #[.int .i64 20,.string nm,.int .i64 N,.int .i64 ty.kind,.string ty.name,.slice a n c,.slice ma mn mc] 28)).alloc Z7) w.heap.size 28 [.int .i64 20,.string nm,.int .i64 N,.int .i64 ty.kind,.string ty.name,.slice a n c,.slice ma mn mc]∧Blk ((w.alloc (.cells #[.int .i64 20,.string nm,.int .i64 N,.int .i64 ty.kind,.string ty.name,.slice a n c,.slice ma mn mc] 28)).alloc Z7) (w.heap.size+1) 28 z27∧Kept (fun _=>False) w ((w.alloc (.cells #[.int .i64 20,.string nm,.int .i64 N,.int .i64 ty.kind,.string ty.name,.slice a n c,.slice ma mn mc] 28)).alloc Z7)):=Ld
  ⟨(Blk.new w 28 _).alloc _,Blk.new' 28 _ (by simp),(kR.alloc _).alloc _⟩
 have HBO:=Ld (fun W (k:Kept (fun _=>False) w W)=>rbof_any nm (hB.frame (sK k)) (by omega))
 have HCT:=Ld (fun W (k:Kept (fun _=>False) w W)=>rcopy_put hb (w:=W) (show TyL ok W ty.kids _ from h1.frame (sK k)) (show TmL ok W ks _ from h2.frame (sK k)))
 change Hid (∀ W,Kept (fun _=>False) w W→Calls Tryz.prog 42 #[.agg #[.int .i64 20,.string nm,.int .i64 N,.int .i64 ty.kind,.string ty.name,.slice a n c,.slice ma mn mc]] W _) at HCT
 have HRE:Hid (subT freshS (.mk 20 nm N ty ks) l=if (look l nm).isSome then (look l nm).getD tm0 else .mk 20 nm N ty ks):=Ld (by rw[subT,if_pos rfl];cases look l nm <;> rfl)
 have HBD:Hid ((look l nm).isSome=true→BdTm ((look l nm).getD tm0)):=Ld (fun h=>by
  have key:∀ (l:List (ByteArray×Tm)),(∀ b∈l,BdTm b.2)→(look l nm).isSome=true→BdTm ((look l nm).getD tm0):=by
   intro l
   induction l with
   | nil=>intro _ h;cases h
   | cons b l ih=>
    intro hb' h
    rw[look] at h ⊢
    by_cases e:b.1=nm
    ·rw[if_pos e];exact hb' b (by simp)
    ·rw[if_neg e] at h ⊢;exact ih (fun b hb=>hb' b (List.mem_cons_of_mem _ hb)) h
  exact key l (fun b hb=>(hbl b hb).1) h)
 clear h1 h2 hB hbl hn hb
 unfold BofP tmVal at HBO
 unfold PutP tmVal at HCT
 generalize subT freshS (.mk 20 nm N ty ks) l=res at *
 generalize (look l nm).getD tm0=r at *
 generalize (look l nm).isSome=b at *
 go_enter Tryz.func78,Tryz.ntmps78
 go_wp2_with fail
 generalize ((w.alloc (.cells #[.int .i64 20,.string nm,.int .i64 N,.int .i64 ty.kind,.string ty.name,.slice a n c,.slice ma mn mc] 28)).alloc Z7)=w1 at *
 refine (HBO.out w1 B0.out.2.2).mono ?_
 rintro e w3 ⟨otk,okk,rfl,hty,htm,k3⟩
 obtain⟨ua,un,uc,rfl⟩:=hty.slice
 obtain⟨va,vn,vc,rfl⟩:=htm.slice
 have BA3:=Ld (B0.out.1.kept k3 (fun h=>h))
 have BR3:=Ld (B0.out.2.1.kept k3 (fun h=>h))
 have KK3:=Ld (B0.out.2.2.trans k3)
 have HTY:=Ld hty
 have HTM:=Ld htm
 clear hty htm k3 B0 HBO
 go_upto_region 3 with (fail)
 have KK4:=Ld (KK3.out.alloc (.cells #[.int .i64 r.op,.string r.name,.int .i64 r.n,.int .i64 r.ty.kind,.string r.ty.name,.slice ua un uc,.slice va vn vc] 28))
 have BA4:=Ld (BA3.out.alloc (.cells #[.int .i64 r.op,.string r.name,.int .i64 r.n,.int .i64 r.ty.kind,.string r.ty.name,.slice ua un uc,.slice va vn vc] 28))
 have BR4:=Ld (BR3.out.alloc (.cells #[.int .i64 r.op,.string r.name,.int .i64 r.n,.int .i64 r.ty.kind,.string r.ty.name,.slice ua un uc,.slice va vn vc] 28))
 have BN4:=Ld (Blk.new w3 28 [.int .i64 r.op,.string r.name,.int .i64 r.n,.int .i64 r.ty.kind,.string r.ty.name,.slice ua un uc,.slice va vn vc])
 change Hid (Blk (w3.alloc (.cells #[.int .i64 r.op,.string r.name,.int .i64 r.n,.int .i64 r.ty.kind,.string r.ty.name,.slice ua un uc,.slice va vn vc] 28)) _ _ _) at BN4
 have HCR:=Ld (fun (hb:BdTm r)=>rcopy_put hb (w:=w3.alloc (.cells #[.int .i64 r.op,.string r.name,.int .i64 r.n,.int .i64 r.ty.kind,.string r.ty.name,.slice ua un uc,.slice va vn vc] 28)) (HTY.out.frame (Same.alloc _ _)) (HTM.out.frame (Same.alloc _ _)))
 unfold PutP tmVal at HCR
 clear KK3 BA3 BR3 HTY HTM
 generalize w3.alloc (.cells #[.int .i64 r.op,.string r.name,.int .i64 r.n,.int .i64 r.ty.kind,.string r.ty.name,.slice ua un uc,.slice va vn vc] 28)=w4 at *
 cases b
 ·have hres:Hid (res=.mk 20 nm N ty ks):=Ld (by rw[HRE.out];rfl)
  have HC:=Ld (HCT.out w4 KK4.out)
  have gA:∀ i,w4.cell? ⟨w.heap.size,i,none⟩=[Value.int .i64 20,.string nm,.int .i64 N,.int .i64 ty.kind,.string ty.name,.slice a n c,.slice ma mn mc][i]?:=BA4.out.cell
  clear HRE HBD HCT HCR BN4
  go_wp2_with fail
  clear gA
  refine HC.out.mono ?_
  rintro e w5 ⟨tk,kk,rfl,hty5,htm5,k5⟩
  obtain⟨pa,pn,pc,rfl⟩:=hty5.slice
  obtain⟨qa,qn,qc,rfl⟩:=htm5.slice
  have lw4:=BR4.out.lt
  have BR5:=Ld (BR4.out.kept k5 (fun h=>h))
  have KK5:=Ld (KK4.out.trans k5)
  have HTY:=Ld hty5
  have HTM:=Ld htm5
  clear hty5 htm5 k5 BR4 KK4 HC BA4
  have gR:∀ i,w5.cell? ⟨w.heap.size+1,i,none⟩=[Value.int .i64 0,.string ⟨#[]⟩,.int .i64 0,.int .i64 0,.string ⟨#[]⟩,.slice none 0 0,.slice none 0 0][i]?:=BR5.out.cell
  have fR:∀ i,w5.frozen? ⟨w.heap.size+1,i,none⟩=false:=BR5.out.frozen
  go_wp2_with fail
  exact bodyPost_ret (results_one Tryz.results78 rfl (load_tm (t:=.mk 20 nm N ty ks) (r7 BR5.out rfl))) rfl ⟨_,_,by rw[hres.out],by rw[hres.out];exact (HTY.out.frame (set7 (fun q hq=>by omega))).mono (fun q _ hq=>by omega),by rw[hres.out];exact (HTM.out.frame (set7 (fun q hq=>by omega))).mono (fun q _ hq=>by omega),k7w KK5.out (Or.inr (Nat.le_succ _))⟩
 ·have hres:Hid (res=r):=Ld (by rw[HRE.out];rfl)
  have HC:=Ld (HCR.out (HBD.out rfl))
  have gN:∀ i,w4.cell? ⟨w3.heap.size,i,none⟩=[Value.int .i64 r.op,.string r.name,.int .i64 r.n,.int .i64 r.ty.kind,.string r.ty.name,.slice ua un uc,.slice va vn vc][i]?:=BN4.out.cell
  clear HRE HBD HCT HCR BA4
  go_wp2_with fail
  clear gN
  refine HC.out.mono ?_
  rintro e w5 ⟨tk,kk,rfl,hty5,htm5,k5⟩
  obtain⟨pa,pn,pc,rfl⟩:=hty5.slice
  obtain⟨qa,qn,qc,rfl⟩:=htm5.slice
  have lw4:=BR4.out.lt
  have BR5:=Ld (BR4.out.kept k5 (fun h=>h))
  have KK5:=Ld (KK4.out.trans k5)
  have HTY:=Ld hty5
  have HTM:=Ld htm5
  clear hty5 htm5 k5 BR4 KK4 HC BN4
  have gR:∀ i,w5.cell? ⟨w.heap.size+1,i,none⟩=[Value.int .i64 0,.string ⟨#[]⟩,.int .i64 0,.int .i64 0,.string ⟨#[]⟩,.slice none 0 0,.slice none 0 0][i]?:=BR5.out.cell
  have fR:∀ i,w5.frozen? ⟨w.heap.size+1,i,none⟩=false:=BR5.out.frozen
  go_wp2_with fail
  exact bodyPost_ret (results_one Tryz.results78 rfl (load_tm (t:=r) (r7 BR5.out rfl))) rfl ⟨_,_,by rw[hres.out],by rw[hres.out];exact (HTY.out.frame (set7 (fun q hq=>by omega))).mono (fun q _ hq=>by omega),by rw[hres.out];exact (HTM.out.frame (set7 (fun q hq=>by omega))).mono (fun q _ hq=>by omega),k7w KK5.out (Or.inr (Nat.le_succ _))⟩
theorem remG_frB (x:ByteArray) (F:List ByteArray):∀ (l out:List (ByteArray×Tm)),(frB (remG x F out l)).length≤(frB out).length+(frB l).length∧(remG x F out l).length≤out.length+l.length
 | [],out=>⟨Nat.le_refl _,Nat.le_refl _⟩
 | b::l,out=>by
  rw[remG,frB,List.length_append,List.length_cons]
  split
  ·have:=remG_frB x F l out;omega
  ·have:=remG_frB x F l (out++[b])
   rw[frB_app,List.length_append,frB,List.length_append,List.length_append,List.length_singleton] at this
   simp only[frB,List.length_nil] at this
   omega
theorem remL_count (l:List (ByteArray×Tm)) (x:ByteArray) (F:List ByteArray):(remL l x F).length≤l.length:=by
 have:=(remG_frB x F l []).2;unfold remL;simpa using this
theorem remL_frB (l:List (ByteArray×Tm)) (x:ByteArray) (F:List ByteArray):(frB (remL l x F)).length≤(frB l).length:=by
 have:=(remG_frB x F l []).1;unfold remL;simpa [frB] using this
theorem fr_bind {op:Int} {nm:ByteArray} {N:Int} {ty:Ty} {d y:Tm} (hop:op≠20) (hb:binderB op=true):fr (.mk op nm N ty [d,y])=fr d++(fr y).filter (fun s=>!decide (s=nm)):=by
 rw[fr,if_neg hop,hb,frs,frs,frs,List.append_nil];rfl
theorem FitB.dom {l:List (ByteArray×Tm)} {op:Int} {nm:ByteArray} {N:Int} {ty:Ty} {d y:Tm} {M:Nat} (hop:op≠20) (hb:binderB op=true) (h:FitB l (.mk op nm N ty [d,y]) M):FitB l d M:=
 fun x F hF=>h x F (fun s hs hx=>by rw[fr_bind hop hb,mb_app,hF s hs hx];rfl)
theorem FitB.rem {l:List (ByteArray×Tm)} {op:Int} {nm:ByteArray} {N:Int} {ty:Ty} {d y:Tm} {M:Nat} (hop:op≠20) (hb:binderB op=true) (h:FitB l (.mk op nm N ty [d,y]) M):(frB (remL l nm (fr y))).length≤M:=
 h nm (fr y) (fun s hs hx=>by
  rw[fr_bind hop hb,mb_app]
  have:mb s ((fr y).filter (fun s=>!decide (s=nm)))=true:=(mb_iff _ _).2 (List.mem_filter.2 ⟨(mb_iff _ _).1 hs,by simp[hx]⟩)
  rw[this];simp)
theorem inner_frB (nm:ByteArray) (y:Tm) (l:List (ByteArray×Tm)):(frB (inner freshS nm y l)).length≤(frB (remL l nm (fr y))).length+1∧(inner freshS nm y l).length≤l.length+1:=by
 have h:=remL_count l nm (fr y)
 unfold inner
 split
 ·rw[frB_app,List.length_append,List.length_append,List.length_singleton,frB,fr_nameT]
  simp only[frB,List.append_nil,List.length_singleton]
  omega
 ·omega
theorem FitB.inn {l:List (ByteArray×Tm)} {op:Int} {nm:ByteArray} {N:Int} {ty:Ty} {d y:Tm} {M:Nat} (hop:op≠20) (hb:binderB op=true) (h:FitB l (.mk op nm N ty [d,y]) M):FitB (inner freshS nm y l) y (M+1):=
 fun x F _=>by
  have h1:=remL_frB (inner freshS nm y l) x F
  have h2:=(inner_frB nm y l).1
  have h3:=FitB.rem hop hb h
  omega
theorem bd_nameT (z:ByteArray):BdTm (nameT z):=.mk (by decide) (.mk (by decide) (fun t h=>by cases h)) (fun t h=>by cases h)
theorem inner_bd {nm:ByteArray} {y:Tm} {l:List (ByteArray×Tm)} (h:∀ b∈l,BdTm b.2∧tmD b.2≤900000∧tmN b.2≤700000):∀ b∈inner freshS nm y l,BdTm b.2∧tmD b.2≤900000∧tmN b.2≤700000:=by
 have hz:∀ z,BdTm (nameT z)∧tmD (nameT z)≤900000∧tmN (nameT z)≤700000:=fun z=>⟨bd_nameT z,by unfold nameT;rw[tmD];simp only[tmDs];omega,by unfold nameT;rw[tmN];simp only[tmNs];omega⟩
 intro b hb
 unfold inner at hb
 split at hb
 ·rcases List.mem_append.1 hb with hb | hb
  ·exact h b (remL_mem hb)
  ·rw[List.mem_singleton.1 hb];exact hz _
 ·exact h b (remL_mem hb)
theorem frB_drop {l:List (ByteArray×Tm)} {k:Nat} (h:k<l.length):frB (l.drop k)=fr l[k].2++frB (l.drop (k+1)):=by
 rw[List.drop_eq_getElem_cons h,frB]
theorem fitB_one (nm z:ByteArray) (t:Tm):FitB [(nm,nameT z)] t 1:=fun x F _=>by
 have h:=remL_frB [(nm,nameT z)] x F
 rw[frB,frB,fr_nameT] at h
 simpa using h
structure B13 (w5:World) (r y:Tm) (tk kk a b:Value) (O9 O10:Nat) (W:World):Prop where
 kp:Kept (fun _=>False) w5 W
 b9:Blk W O9 28 (tmCells r tk kk)
 b10:Blk W O10 28 (tmCells y a b)
 lo:w5.heap.size≤O9∧w5.heap.size≤O10
 ty:TyL (fun q=>w5.heap.size≤q) W r.ty.kids tk
 tm:TmL (fun q=>w5.heap.size≤q) W r.kids kk
structure B13s (w5:World) (r:Tm) (tk kk:Value) (c:Nat) (W:World):Prop where
 kp:Kept (fun _=>False) w5 W
 ty:TyL (fun q=>c≤q) W r.ty.kids tk
 tm:TmL (fun q=>c≤q) W r.kids kk
theorem B13s.al {w5 W:World} {r:Tm} {tk kk:Value} {c:Nat} (h:B13s w5 r tk kk c W) (o:Obj):B13s w5 r tk kk c (W.alloc o):=⟨h.kp.alloc _,h.ty.frame (Same.alloc _ _),h.tm.frame (Same.alloc _ _)⟩
def st7 (W:World) (g:Nat) (t:Tm) (a b:Value):World:=((((((W.setCell ⟨g,0,none⟩ (.int .i64 t.op)).setCell ⟨g,1,none⟩ (.string t.name)).setCell ⟨g,2,none⟩ (.int .i64 t.n)).setCell ⟨g,3,none⟩ (.int .i64 t.ty.kind)).setCell ⟨g,4,none⟩ (.string t.ty.name)).setCell ⟨g,5,none⟩ a).setCell ⟨g,6,none⟩ b
def al7 (W:World) (t:Tm) (a b:Value):World:=W.alloc (.cells #[.int .i64 t.op,.string t.name,.int .i64 t.n,.int .i64 t.ty.kind,.string t.ty.name,a,b] 28)
theorem B13s.st {w5 W:World} {r:Tm} {tk kk:Value} {c g:Nat} {t:Tm} {a b:Value} (h:B13s w5 r tk kk c W) (h1:w5.heap.size≤g) (h2:g<c):B13s w5 r tk kk c (st7 W g t a b):=
 ⟨k7w h.kp (Or.inr h1),h.ty.frame (set7 (fun q hq=>by omega)),h.tm.frame (set7 (fun q hq=>by omega))⟩
theorem B13s.a7 {w5 W:World} {r:Tm} {tk kk:Value} {c:Nat} {t:Tm} {a b:Value} (h:B13s w5 r tk kk c W):B13s w5 r tk kk c (al7 W t a b):=h.al _
theorem so7 {W:World} {b g:Nat} {l:List Value} {t:Tm} {x y:Value} (h:Blk W b 28 l) (hn:b≠g):Blk (st7 W g t x y) b 28 l:=
 (((((((h.set_other _ _ hn).set_other _ _ hn).set_other _ _ hn).set_other _ _ hn).set_other _ _ hn).set_other _ _ hn).set_other _ _ hn)
theorem at7 {W:World} {g:Nat} {t:Tm} {x y:Value} (h:Blk W g 28 z27):Blk (st7 W g t x y) g 28 (tmCells t x y):=r7 h rfl
theorem nw7 {W:World} {g:Nat} {t:Tm} {x y:Value} (h:g=W.heap.size):Blk (al7 W t x y) g 28 (tmCells t x y):=Blk.new' 28 _ h
theorem ao7 {W:World} {b:Nat} {l:List Value} {t:Tm} {x y:Value} (h:Blk W b 28 l):Blk (al7 W t x y) b 28 l:=h.alloc _
theorem sz7 (W:World) (g:Nat) (t:Tm) (x y:Value):(st7 W g t x y).heap.size=W.heap.size:=by simp[st7,World.setCell]
theorem za7 (W:World) (t:Tm) (x y:Value):(al7 W t x y).heap.size=W.heap.size+1:=by simp[al7]
theorem B13s.fin {w5 W:World} {r y:Tm} {tk kk a b:Value} {c O9 O10:Nat} (h:B13s w5 r tk kk c W) (hc:w5.heap.size≤c) (h9:w5.heap.size≤O9) (h10:w5.heap.size≤O10) (b9:Blk W O9 28 (tmCells r tk kk)) (b10:Blk W O10 28 (tmCells y a b)):B13 w5 r y tk kk a b O9 O10 W:=
 ⟨h.kp,b9,b10,⟨h9,h10⟩,h.ty.mono (fun q _ hq=>by omega),h.tm.mono (fun q _ hq=>by omega)⟩
section
variable {w5 w4:World} {r y:Tm} {tk kk a b:Value} {c:Nat}
theorem b13_ll (h:B13s w5 r tk kk c w4) (hc:w5.heap.size≤c):B13 w5 r y tk kk a b w4.heap.size (w4.heap.size+1) (al7 (al7 w4 r tk kk) y a b):=
 h.a7.a7.fin hc h.kp.size (by have:=h.kp.size;omega) (ao7 (nw7 rfl)) (nw7 (by rw[za7]))
theorem b13_ll' (h:B13s w5 r tk kk c w4) (hc:w5.heap.size≤c):B13 w5 r y tk kk a b (w4.heap.size+1) w4.heap.size (al7 (al7 w4 y a b) r tk kk):=
 h.a7.a7.fin hc (by have:=h.kp.size;omega) h.kp.size (nw7 (by rw[za7])) (ao7 (nw7 rfl))
theorem b13_el (h:B13s w5 r tk kk c w4) (hc:w5.heap.size+1≤c) (bP:Blk w4 w5.heap.size 28 z27):B13 w5 r y tk kk a b w5.heap.size w4.heap.size (al7 (st7 w4 w5.heap.size r tk kk) y a b):=
 (h.st (Nat.le_refl _) (by omega)).a7.fin (by omega) (Nat.le_refl _) h.kp.size (ao7 (at7 bP)) (nw7 (by rw[sz7]))
theorem b13_le2 (h:B13s w5 r tk kk c w4) (hc:w5.heap.size+1≤c) (bP:Blk w4 w5.heap.size 28 z27):B13 w5 r y tk kk a b w4.heap.size w5.heap.size (al7 (st7 w4 w5.heap.size y a b) r tk kk):=
 (h.st (Nat.le_refl _) (by omega)).a7.fin (by omega) h.kp.size (Nat.le_refl _) (nw7 (by rw[sz7])) (ao7 (at7 bP))
theorem b13_ee (h:B13s w5 r tk kk c w4) (hc:w5.heap.size+2≤c) (bP:Blk w4 w5.heap.size 28 z27) (bQ:Blk w4 (w5.heap.size+1) 28 z27):B13 w5 r y tk kk a b w5.heap.size (w5.heap.size+1) (st7 (st7 w4 w5.heap.size r tk kk) (w5.heap.size+1) y a b):=
 ((h.st (Nat.le_refl _) (by omega)).st (Nat.le_succ _) (by omega)).fin (by omega) (Nat.le_refl _) (Nat.le_succ _) (so7 (at7 bP) (by omega)) (at7 (so7 bQ (by omega)))
theorem b13_ee' (h:B13s w5 r tk kk c w4) (hc:w5.heap.size+2≤c) (bP:Blk w4 w5.heap.size 28 z27) (bQ:Blk w4 (w5.heap.size+1) 28 z27):B13 w5 r y tk kk a b (w5.heap.size+1) w5.heap.size (st7 (st7 w4 (w5.heap.size+1) r tk kk) w5.heap.size y a b):=
 ((h.st (Nat.le_succ _) (by omega)).st (Nat.le_refl _) (by omega)).fin (by omega) (Nat.le_succ _) (Nat.le_refl _) (so7 (at7 bQ) (by omega)) (at7 (so7 bP (by omega)))
end
structure S20 (w:World) (op:Int) (nm:ByteArray) (N:Int) (ty:Ty) (v:Value) (r y:Tm) (tk kk a b:Value) (O O9 O10 B:Nat) (W:World):Prop where
 kp:Kept (fun _=>False) w W
 rb:Blk W (w.heap.size+1) 28 z27
 o:Blk W O 28 [.int .i64 op,.string nm,.int .i64 N,.int .i64 ty.kind,.string ty.name,v,.slice none 0 0]
 b9:Blk W O9 28 (tmCells r tk kk)
 b10:Blk W O10 28 (tmCells y a b)
 lo:w.heap.size+2≤O∧O<O9∧O<O10∧O9<B∧O10<B
 ty:TyL (fun q=>w.heap.size+2≤q∧q≠O∧q<B) W ty.kids v
 rt:TyL (fun q=>O<q∧q<B) W r.ty.kids tk
 rm:TmL (fun q=>O<q∧q<B) W r.kids kk
section
variable {w W W1 w5:World} {op:Int} {nm:ByteArray} {N:Int} {ty:Ty} {v:Value} {r y z:Tm} {tk kk a b zt zk:Value} {O O9 O10 B:Nat}
theorem S20.start {ak bk:Value} (h:CT w op nm N ty ak bk v O w5) (g:B13 w5 r y tk kk a b O9 O10 W):S20 w op nm N ty v r y tk kk a b O O9 O10 W.heap.size W:=
 have h5:=h.kept g.kp
 have l5:=h.o.lt
 ⟨h5.kp,h5.r,h5.o,g.b9,g.b10,⟨h.ho,by have:=g.lo.1;omega,by have:=g.lo.2;omega,g.b9.lt,g.b10.lt⟩,h5.ty.mono (fun q hq h=>⟨h.1,h.2,hq⟩),g.ty.mono (fun q hq h=>⟨by omega,hq⟩),g.tm.mono (fun q hq h=>⟨by omega,hq⟩)⟩
theorem S20.keptS {S:Nat→Prop} (h:S20 w op nm N ty v r y tk kk a b O O9 O10 B W) (k:Kept S W W1) (hS:∀ q,S q→B≤q):S20 w op nm N ty v r y tk kk a b O O9 O10 B W1:=by
 obtain⟨l1,l2,l3,l4,l5⟩:=h.lo
 have l6:=h.kp.size
 exact⟨h.kp.via1 k (fun x hx hs=>by have:=hS x hs;omega),h.rb.kept k (fun e=>by have:=hS _ e;omega),h.o.kept k (fun e=>by have:=hS _ e;omega),h.b9.kept k (fun e=>by have:=hS _ e;omega),h.b10.kept k (fun e=>by have:=hS _ e;omega),h.lo,h.ty.frame (Same.of_kept k (fun q hq e=>by have:=hS _ e;omega)),h.rt.frame (Same.of_kept k (fun q hq e=>by have:=hS _ e;omega)),h.rm.frame (Same.of_kept k (fun q hq e=>by have:=hS _ e;omega))⟩
theorem S20.kept (h:S20 w op nm N ty v r y tk kk a b O O9 O10 B W) (k:Kept (fun _=>False) W W1):S20 w op nm N ty v r y tk kk a b O O9 O10 B W1:=h.keptS k (fun _ e=>e.elim)
theorem S20.name (h:S20 w op nm N ty v r y tk kk a b O O9 O10 B W) (s:ByteArray):S20 w op s N ty v r y tk kk a b O O9 O10 B (W.setCell ⟨O,1,none⟩ (.string s)):=by
 have kS:Kept (fun q=>q=O) W (W.setCell ⟨O,1,none⟩ (.string s)):=(Kept.refl (fun q=>q=O) W).setCell (p:=⟨O,1,none⟩) (Or.inl rfl) _
 obtain⟨h1,h2,h3,h4,h5⟩:=h.lo
 exact⟨h.kp.setCell (p:=⟨O,1,none⟩) (Or.inr (by show w.heap.size≤O;omega)) _,h.rb.kept kS (fun e=>by omega),h.o.set 1 (.string s),h.b9.kept kS (fun e=>by omega),h.b10.kept kS (fun e=>by omega),h.lo,h.ty.frame (Same.of_kept kS (fun q hq e=>hq.2.1 e)),h.rt.frame (Same.of_kept kS (fun q hq e=>by omega)),h.rm.frame (Same.of_kept kS (fun q hq e=>by omega))⟩
theorem two_row {base g:Nat} (k:Kept (fun _=>False) w W) (hb:Blk W g 28 (tmCells r tk kk++tmCells z zt zk)) (hg:base≤g) (h1:TyL (fun q=>base≤q∧q≠g) W r.ty.kids tk) (h2:TmL (fun q=>base≤q∧q≠g) W r.kids kk) (h3:TyL (fun q=>base≤q∧q≠g) W z.ty.kids zt) (h4:TmL (fun q=>base≤q∧q≠g) W z.kids zk):
  RowT w base W [(r,tk,kk),(z,zt,zk)] (.slice (some ⟨g,0,none⟩) 2 2):=
 ⟨k,⟨rfl,.inr ⟨g,2,_,rfl,hg,hb,Nat.le_refl _,by unfold maxLen;omega,rfl,rfl⟩⟩,fun e he=>by
  rcases List.mem_cons.1 he with rfl | he
  ·exact⟨h1.mono (fun q _ h=>⟨h.1,fun e=>h.2 (Option.some.inj e).symm⟩),h2.mono (fun q _ h=>⟨h.1,fun e=>h.2 (Option.some.inj e).symm⟩)⟩
  ·rw[List.mem_singleton.1 he]
   exact⟨h3.mono (fun q _ h=>⟨h.1,fun e=>h.2 (Option.some.inj e).symm⟩),h4.mono (fun q _ h=>⟨h.1,fun e=>h.2 (Option.some.inj e).symm⟩)⟩⟩
theorem S20.done (h:S20 w op nm N ty v r y tk kk a b O O9 O10 B W) (k1:Kept (fun _=>False) W W1) (h3:TyL (fun q=>W.heap.size≤q) W1 z.ty.kids zt) (h4:TmL (fun q=>W.heap.size≤q) W1 z.kids zk) (W3:World)
  (hW:W3=(W1.setCell ⟨O,6,none⟩ (.slice (some ⟨W1.heap.size,0,none⟩) 2 2)).alloc (.cells #[.int .i64 r.op,.string r.name,.int .i64 r.n,.int .i64 r.ty.kind,.string r.ty.name,tk,kk,.int .i64 z.op,.string z.name,.int .i64 z.n,.int .i64 z.ty.kind,.string z.ty.name,zt,zk] 28)):
  Blk W3 (w.heap.size+1) 28 z27∧Blk W3 O 28 [.int .i64 op,.string nm,.int .i64 N,.int .i64 ty.kind,.string ty.name,v,.slice (some ⟨W1.heap.size,0,none⟩) 2 2]∧Kept (fun _=>False) w W3∧TyL (fun q=>w.heap.size+2≤q) W3 ty.kids v∧TmL (fun q=>w.heap.size+2≤q) W3 [r,z] (.slice (some ⟨W1.heap.size,0,none⟩) 2 2):=by
 subst hW
 have h1:=h.kept k1
 obtain⟨l1,l2,l3,l4,l5⟩:=h.lo
 have lO:=h1.o.lt
 have l9:=h.b9.lt
 have zsz:=k1.size
 have kS:Kept (fun q=>q=O) W1 (W1.setCell ⟨O,6,none⟩ (.slice (some ⟨W1.heap.size,0,none⟩) 2 2)):=(Kept.refl (fun q=>q=O) W1).setCell (p:=⟨O,6,none⟩) (Or.inl rfl) _
 have kp2:Kept (fun _=>False) w (W1.setCell ⟨O,6,none⟩ (.slice (some ⟨W1.heap.size,0,none⟩) 2 2)):=h1.kp.setCell (p:=⟨O,6,none⟩) (Or.inr (by show w.heap.size≤O;omega)) _
 have bO:=h1.o.set 6 (.slice (some ⟨W1.heap.size,0,none⟩) 2 2)
 have bR:=h1.rb.kept kS (fun e=>by omega)
 have eT:=h1.ty.frame (Same.of_kept kS (fun q hq e=>hq.2.1 e))
 have e1:=(h1.rt.mono (ok':=fun q=>O<q∧q≠W1.heap.size) (fun q hq ho=>⟨ho.1,by omega⟩)).frame (Same.of_kept kS (fun q hq e=>by omega))
 have e2:=(h1.rm.mono (ok':=fun q=>O<q∧q≠W1.heap.size) (fun q hq ho=>⟨ho.1,by omega⟩)).frame (Same.of_kept kS (fun q hq e=>by omega))
 have e3:=(h3.mono (ok':=fun q=>W.heap.size≤q∧q≠W1.heap.size) (fun q hq ho=>⟨ho,by omega⟩)).frame (Same.of_kept kS (fun q hq e=>by omega))
 have e4:=(h4.mono (ok':=fun q=>W.heap.size≤q∧q≠W1.heap.size) (fun q hq ho=>⟨ho,by omega⟩)).frame (Same.of_kept kS (fun q hq e=>by omega))
 have z2:(W1.setCell ⟨O,6,none⟩ (.slice (some ⟨W1.heap.size,0,none⟩) 2 2)).heap.size=W1.heap.size:=by simp[World.setCell]
 generalize W1.setCell ⟨O,6,none⟩ (.slice (some ⟨W1.heap.size,0,none⟩) 2 2)=W2 at *
 have kA:Kept (fun _=>False) W2 (W2.alloc (.cells #[.int .i64 r.op,.string r.name,.int .i64 r.n,.int .i64 r.ty.kind,.string r.ty.name,tk,kk,.int .i64 z.op,.string z.name,.int .i64 z.n,.int .i64 z.ty.kind,.string z.ty.name,zt,zk] 28)):=kR.alloc _
 have bG:Blk (W2.alloc (.cells #[.int .i64 r.op,.string r.name,.int .i64 r.n,.int .i64 r.ty.kind,.string r.ty.name,tk,kk,.int .i64 z.op,.string z.name,.int .i64 z.n,.int .i64 z.ty.kind,.string z.ty.name,zt,zk] 28)) W1.heap.size 28 (tmCells r tk kk++tmCells z zt zk):=Blk.new' 28 (tmCells r tk kk++tmCells z zt zk) z2.symm
 have kp3:=kp2.trans kA
 refine⟨bR.kept kA (fun e=>e),bO.kept kA (fun e=>e),kp3,(eT.frame (sK kA)).mono (fun q _ hq=>hq.1),?_⟩
 exact RowT.tml (two_row (base:=w.heap.size+2) kp3 bG (by omega)
  ((e1.frame (sK kA)).mono (fun q _ hq=>⟨by omega,hq.2⟩)) ((e2.frame (sK kA)).mono (fun q _ hq=>⟨by omega,hq.2⟩))
  ((e3.frame (sK kA)).mono (fun q _ hq=>⟨by omega,hq.2⟩)) ((e4.frame (sK kA)).mono (fun q _ hq=>⟨by omega,hq.2⟩)))
theorem RowB.to {ok:Nat→Prop} {w6 W:World} {base:Nat} {E:List E4} {u:Value} (h:RowB ok w6 base W E u) (hw:Kept (fun _=>False) w W):RowB ok w base W E u:=⟨hw,h.own,h.el,h.lo⟩
theorem RowB.put {ok:Nat→Prop} {base:Nat} {E:List E4} {u:Value} (h:RowB ok w base W E u) (hO:w.heap.size≤O) (hb:O<base) (hok:∀ q,ok q→q≠O) (i:Nat) (x:Value):RowB ok w base (W.setCell ⟨O,i,none⟩ x) E u:=by
 have kS:Kept (fun q=>q=O) W (W.setCell ⟨O,i,none⟩ x):=(Kept.refl (fun q=>q=O) W).setCell (p:=⟨O,i,none⟩) (Or.inl rfl) _
 exact⟨h.kp.setCell (p:=⟨O,i,none⟩) (Or.inr hO) _,own_keptT h.own kS (fun g hg e=>by have:=(World.ownsRow.lt h.own g hg).1;omega),h.el.frame (Same.of_kept kS (fun q hq e=>hok q hq e)),h.lo⟩
end
def DcC (n:Nat):Prop:=∀ W,Calls Tryz.prog 181 #[.int .i64 n] W fun e w'=>e=.returned (.string (str (Lib.decDigits n)))∧Kept (fun _=>False) W w'
theorem dig_lt (n:Nat) (h:n<10):((UInt8.ofNat (48+n)).toNat:Int)=48+(n:Int):=by
 have all:∀ m:Fin 10,(UInt8.ofNat (48+m.val)).toNat=48+m.val:=by decide
 have:(UInt8.ofNat (48+n)).toNat=48+n:=all ⟨n,h⟩
 rw[this];omega
theorem conv_dig (W:World) (B n:Nat) (h:n<10) (hc:W.cell? ⟨B,0,none⟩=some (.int .u8 (48+(n:Int)))):(convert 107 9 (.slice (some ⟨B,0,none⟩) 1 1)).run Tryz.prog W=.ok (.string ⟨#[UInt8.ofNat (48+n)]⟩) W:=
 run_convert_bytes_back (P:=Tryz.prog) W 107 9 5 ⟨B,0,none⟩ 1 [UInt8.ofNat (48+n)] Tryz.underlying107 Tryz.underlying5 Tryz.underlying9 (fun j hj=>by
  have h0:j=0:=by simpa using hj
  subst h0
  show W.cell? _=some (.int .u8 ((UInt8.ofNat (48+n)).toNat:Int))
  rw[dig_lt n h]
  exact hc)
theorem dec_small (n:Nat) (h:n<10):DcC n:=by
 intro W
 have i0:((n:Int)==-9223372036854775808)=false:=by rw[beq_eq_false_iff_ne];omega
 have i1:decide ((n:Int)<0)=false:=decide_eq_false (by omega)
 have i2:decide ((n:Int)<10)=true:=decide_eq_true (by omega)
 have hcv:=conv_dig (W.alloc (.cells #[.int .u8 (48+(n:Int))] 5)) W.heap.size n h ((Blk.new W 5 [.int .u8 (48+(n:Int))]).cell 0)
 have HT:Hid (str (Lib.decDigits n)=⟨#[UInt8.ofNat (48+n)]⟩):=Ld (by unfold Lib.decDigits;rw[dif_pos h];rfl)
 generalize UInt8.ofNat (48+n)=dg at *
 go_enter Tryz.func181,Tryz.ntmps181
 go_wp2_with fail
 go_ret
 exact⟨by rw[HT.out];rfl,kR.alloc _⟩
theorem decDigits_len (n:Nat):(Lib.decDigits n).length≤n+1:=by
 induction n using Nat.strongRecOn with
 | _ n ih=>
  unfold Lib.decDigits
  by_cases h:n<10
  ·rw[dif_pos h];simp
  ·rw[dif_neg h]
   have:=ih (n / 10) (by omega)
   simp only[List.length_append,List.length_cons,List.length_nil]
   omega
theorem dec_more (n:Nat) (h:¬ n<10) (hn:n≤1000000000) (ih:DcC (n / 10)):DcC n:=by
 intro W
 have i0:((n:Int)==-9223372036854775808)=false:=by rw[beq_eq_false_iff_ne];omega
 have i1:decide ((n:Int)<0)=false:=decide_eq_false (by omega)
 have i2:decide ((n:Int)<10)=false:=decide_eq_false (by omega)
 have hq:(n:Int).tdiv 10=((n / 10:Nat):Int):=by rw[Int.tdiv_eq_ediv_of_nonneg (by omega)];omega
 have hr:(n:Int).tmod 10=((n % 10:Nat):Int):=by rw[Int.tmod_eq_emod_of_nonneg (by omega)];omega
 have hm:n % 10<10:=Nat.mod_lt _ (by decide)
 have hqb:n / 10≤100000000:=by omega
 have HSZ:Hid ((str (Lib.decDigits (n / 10))).size≤1000000001):=Ld (by rw[str_size];have:=decDigits_len (n / 10);omega)
 have HT:Hid (str (Lib.decDigits n)=str (Lib.decDigits (n / 10))++⟨#[UInt8.ofNat (48+n % 10)]⟩):=Ld (by
  conv=>lhs;unfold Lib.decDigits
  rw[dif_neg h,← str_app];rfl)
 have HCV:=Ld (fun (X:World) (B:Nat)=>conv_dig X B (n % 10) hm)
 have IH:=Ld ih
 unfold DcC at IH
 generalize UInt8.ofNat (48+n % 10)=dg at *
 generalize str (Lib.decDigits (n / 10))=sq at *
 have hz1:¬ 9223372036854775807<sq.size+1:=by have:=HSZ.out;omega
 clear ih h hn
 generalize hmm:n % 10=m at *
 generalize hqq:n / 10=q at *
 have HMQ:=Ld (And.intro hmm hqq)
 have m10:(m:Int)<10:=by omega
 have q10:(q:Int)<100000001:=by omega
 have wq:IntKind.i64.wrap (q:Int)=q:=by rw[IntKind.wrap_i64];omega
 have wm:IntKind.i64.wrap (m:Int)=m:=by rw[IntKind.wrap_i64];omega
 have w48:IntKind.i64.wrap (48+(m:Int))=48+m:=by rw[IntKind.wrap_i64];omega
 have w8:IntKind.u8.wrap (48+(m:Int))=48+m:=by rw[show IntKind.u8.wrap (48+(m:Int))=(48+(m:Int)) % 256 by simp[IntKind.wrap,IntKind.bits,IntKind.signed]];omega
 clear hmm hqq hm hqb
 have bA:Blk (W.drew.alloc (.cells #[.int .u8 (48+(m:Int))] 5)) W.heap.size 5 [.int .u8 (48+(m:Int))]:=Blk.new W.drew 5 _
 have hcv0:=HCV.out _ W.heap.size (bA.cell 0)
 have hcv1:=HCV.out _ W.heap.size ((Blk.drew (Blk.new W 5 [.int .u8 (48+(m:Int))])).cell 0)
 have KD:Kept (fun _=>False) W W.drew:=kR.drew
 have KA:Kept (fun _=>False) W (W.alloc (.cells #[.int .u8 (48+(m:Int))] 5)).drew:=(kR.alloc _).drew
 go_enter Tryz.func181,Tryz.ntmps181
 go_wp2_with fail
 go_region_law
  (first | (go_simp;go_at_call 181;refine (IH.out _).mono ?_;rintro e wq ⟨rfl,kq⟩;first | (have KE:=KA.trans kq;have hcvA:=HCV.out wq W.heap.size (((Blk.drew (Blk.new W 5 [.int .u8 (48+(m:Int))])).kept kq (fun h=>h)).cell 0)) | (have KE:=KD.trans kq;have hcvB:=HCV.out (wq.alloc (.cells #[.int .u8 (48+(m:Int))] 5)) wq.heap.size ((Blk.new wq 5 [.int .u8 (48+(m:Int))]).cell 0))))
 all_goals
  go_wp2_with fail
  go_ret
  exact⟨by rw[HT.out];rfl,by first | exact KE | exact KE.alloc _⟩
theorem dec_nat (n:Nat) (hn:n≤1000000000):DcC n:=by
 induction n using Nat.strongRecOn with
 | _ n ih=>
  by_cases h:n<10
  ·exact dec_small n h
  ·exact dec_more n h hn (ih (n / 10) (by omega) (by omega))
theorem strip_at (s:ByteArray) (h:s.size-1<s.size):stripD s.data.toList=if digitB (s[s.size-1].toNat) then stripD (s.extract 0 (s.size-1)).data.toList else s.data.toList:=by
 have e1:=take_snoc s (s.size-1) h
 have e2:s.data.toList.take (s.size-1+1)=s.data.toList:=List.take_of_length_le (by
  have:s.data.toList.length=s.size:=ba_len s
  omega)
 rw[e2] at e1
 rw[ext_take]
 have e3:=stripD_snoc (s.data.toList.take (s.size-1)) s[s.size-1]
 rw[← e1] at e3
 rw[e3]
theorem prim_trim {nm:ByteArray} (h:namedB nm=true):(primB nm=true∧1<nm.size∧trimQ nm=nm.extract 0 (nm.size-1))∨(primB nm=false∧trimQ nm=nm):=by
 unfold namedB at h
 rcases trim_parts nm with ⟨h1,h2,h3⟩ | ⟨h1,h2⟩
 ·rw[h3] at h
  have h4:1<nm.size:=by
   by_cases hs:1<nm.size
   ·exact hs
   ·have hz:(nm.extract 0 (nm.size-1)).size=0:=by rw[ByteArray.size_extract];omega
    unfold identB at h
    rw[hz] at h
    simp at h
  refine .inl ⟨?_,h4,h3⟩
  unfold primB
  rw[dif_pos h4,h]
  have:((nm[nm.size-1].toNat:Int)==39)=true:=by rw[h2];decide
  rw[this];rfl
 ·refine .inr ⟨?_,h2⟩
  unfold primB
  by_cases h4:1<nm.size
  ·rw[dif_pos h4]
   have h5:=h1 (by omega)
   have:((nm[nm.size-1].toNat:Int)==39)=false:=by
    rw[beq_eq_false_iff_ne]
    intro e
    exact h5 (UInt8.toNat.inj (by rw[show (39:UInt8).toNat=39 from rfl];omega))
   rw[this];rfl
  ·rw[dif_neg h4]
theorem cand_str {B:ByteArray} {k:Nat}:(if 16<B.size+(str (Lib.decDigits k)).size then B.extract 0 (16-(str (Lib.decDigits k)).size) else B)++str (Lib.decDigits k)=str (candL B.data.toList k):=by
 apply ByteArray.ext
 apply Array.toList_inj.1
 have hs:(str (Lib.decDigits k)).size=(Lib.decDigits k).length:=by rw[str_size]
 have hl:B.data.toList.length=B.size:=ba_len B
 rw[ByteArray.data_append,Array.toList_append,str_list,str_list]
 unfold candL
 congr 1
 rw[hs]
 split
 ·rw[ext_take]
 ·rw[List.take_of_length_le (by omega)]
theorem fresh_at {nm:ByteArray} {used:List ByteArray} (hn:namedB nm=true) (hu:used.length≤800000) (hm:mb nm used=true):∃ j,1≤j∧j≤1000001∧frFrom nm used=str (candL (baseL nm) j)∧mb (str (candL (baseL nm) j)) used=false∧∀ i,1≤i→i<j→mb (str (candL (baseL nm) i)) used=true:=by
 obtain⟨j,h1,h2,h3,h4,h5⟩:=frGo_at (baseL nm) used 1000000 1 (cand_free (baseL nm) used hu)
 refine⟨j,h3,by omega,?_,h2,h5⟩
 unfold frFrom
 rw[if_pos hm,h1]
theorem base_size {nm:ByteArray} (hn:namedB nm=true):(baseL nm).length≤16:=by
 unfold baseL
 obtain⟨r,hr⟩:=stripD_pre (trimQ nm).data.toList
 have h1:=congrArg List.length hr
 rw[List.length_append] at h1
 unfold namedB identB at hn
 simp only[Bool.and_eq_true,decide_eq_true_eq] at hn
 have h2:(trimQ nm).data.toList.length=(trimQ nm).size:=ba_len _
 omega
def strOf:Value→ByteArray
 | .string s=>s
 | _=>⟨#[]⟩
theorem rfresh_any {ok:Nat→Prop} {w:World} {used:List ByteArray} {vu:Value} (name:ByteArray) (hN:NmL ok w used vu) (hu:used.length≤800000) (hsz:name.size≤9223372036854775807):
  Calls Tryz.prog 123 #[.string name,vu] w fun e w'=>e=.returned (.string (freshS name used))∧Kept (fun _=>False) w w':=by
 have HIN:=Ld (fun W (k:Kept (fun _=>False) w W) (s:ByteArray)=>rinN_any s (hN.frame (sK k)) (by omega))
 have HNV:=Ld (fun (v:Bool) (hv:namedB name=v)=>rnamed_t hv hsz w)
 have HU:=Ld hu
 have HFR:Hid (freshS name used=frFrom (if namedB name then name else xS) used):=Ld rfl
 have HSZ:=Ld hsz
 clear hN hu hsz
 generalize freshS name used=res at *
 cases hv:namedB name
 ·have HRN:Hid (res=frFrom xS used):=Ld (by rw[HFR.out,hv];rfl)
  have HNV2:=Ld (HNV.out _ hv)
  clear hv HNV HFR
  go_enter Tryz.func123,Tryz.ntmps123
  go_wp2_with fail
  refine HNV2.out.mono ?_
  rintro e w2 ⟨rfl,k2⟩
  have HK:=Ld k2
  clear k2 HNV2
  have HNM:Hid (namedB xS=true):=Ld (ident_named x_ident)
  have HSN:Hid (xS.size≤9223372036854775807):=Ld (by decide)
  go_upto_region 3 with (fail)
  change Hid (namedB (⟨#[120]⟩:ByteArray)=true) at HNM
  change Hid ((⟨#[120]⟩:ByteArray).size≤9223372036854775807) at HSN
  change Hid (res=frFrom (⟨#[120]⟩:ByteArray) used) at HRN
  generalize (⟨#[120]⟩:ByteArray)=nm at *
  go_wp2_with fail
  refine (HIN.out _ HK.out nm).mono ?_
  rintro e w3 ⟨rfl,rfl⟩
  cases hm:mb nm used
  ·have HE:Hid (res=nm):=Ld (by rw[HRN.out];unfold frFrom;rw[hm];rfl)
   clear hm HIN
   go_wp2_with fail
   go_ret
   exact⟨by rw[HE.out];rfl,HK.out⟩
  ·obtain⟨j,hj1,hj2,hj3,hj4,hj5⟩:=fresh_at HNM.out HU.out hm
   have HRJ:Hid (res=str (candL (baseL nm) j)):=Ld (by rw[HRN.out,hj3])
   have HJ4:=Ld hj4
   have HJ5:=Ld hj5
   have HBS:=Ld (base_size HNM.out)
   have HBN:=Ld (base_ok HNM.out).1
   have HPT:=Ld (prim_trim HNM.out)
   have HP:=Ld (fun (v:Bool) (hv:primB nm=v)=>primed_big nm w2 HSN.out hv)
   have HBL:Hid (baseL nm=stripD (trimQ nm).data.toList):=Ld rfl
   generalize baseL nm=b at *
   clear hm hj3 hj4 hj5 HRN HNM
   rcases HPT.out with ⟨hp,hp1,hp2⟩ | ⟨hp,hp2⟩
   ·have HPC:=Ld (HP.out _ hp)
    have HST:Hid (stripD (nm.extract 0 (nm.size-1)).data.toList=b∧(nm.extract 0 (nm.size-1)).size≤9223372036854775807):=Ld ⟨by rw[← hp2];exact HBL.out.symm,by rw[ByteArray.size_extract];have:=HSN.out;omega⟩
    have i1:(1:Int)<(nm.size:Int):=by omega
    have i2:nm.size-1<nm.size:=by omega
    have i3:(nm.size:Int)-1=((nm.size-1:Nat):Int):=by omega
    have i4:=HSN.out
    clear hp hp1 hp2 HP HPT
    go_wp2_with fail
    refine HPC.out.mono ?_
    rintro e w4 ⟨rfl,k4⟩
    have HK3:=Ld (HK.out.trans k4)
    clear HPC k4 HK
    go_wp2_with fail
    clear i1 i2 i3 i4
    go_loopw [0] (fun v wr=>∃ s:ByteArray,v=.string s∧Kept (fun _=>False) w wr∧Hid (stripD s.data.toList=b∧s.size≤9223372036854775807)) (fun v _=>(strOf v).size)
    case atStart=>exact⟨_,rfl,HK3.out,HST⟩
    case round=>
     obtain⟨s,rfl,kr,hq⟩:=hrel
     have hpos:0<s.size:=by
      have h1:=hq.out.1
      have h2:=HBN.out
      by_cases h:0<s.size
      ·exact h
      ·exfalso
       have h3:s.data.toList=[]:=List.length_eq_zero_iff.1 (by rw[ba_len];omega)
       rw[h3] at h1
       exact h2 h1.symm
     have i1:(0:Int)<(s.size:Int):=by omega
     have i2:s.size-1<s.size:=by omega
     have i3:(s.size:Int)-1=((s.size-1:Nat):Int):=by omega
     have i4:=hq.out.2
     have HSA:=Ld (strip_at s i2)
     cases hd:digitB (s[s.size-1].toNat)
     ·have HB:Hid (s.data.toList=b):=Ld (by rw[← hq.out.1,HSA.out,hd];rfl)
      go_wp2_with (go_at_call 137;refine (rdigit_any _ _).mono ?_;rintro e w' ⟨rfl,rfl⟩)
      clear hd HSA i1 i3 hpos
      have i4:s.size≤16:=by have h1:=HBS.out;have h2:=congrArg List.length HB.out;rw[ba_len] at h2;omega
      go_loopw [5,6,7] (fun i x y wr=>∃ k:Nat,1≤k∧k≤j∧i=.int .i64 k∧Kept (fun _=>False) w wr) (fun i x y _=>j-(intOf i).toNat)
      case atStart=>exact⟨1,Nat.le_refl _,hj1,rfl,kr⟩
      case round=>
       obtain⟨k,hk1,hk2,rfl,kr2⟩:=hrel
       have k1:(k:Int)<1000002:=by omega
       have hdl:=dec_len2 6 k (by omega)
       have HDD:=Ld (dec_nat k (by omega) wr)
       have HCS:=Ld (cand_str (B:=s) (k:=k))
       rw[HB.out] at HCS
       have hDs:(str (Lib.decDigits k)).size≤7:=by rw[str_size];exact hdl
       clear hdl
       generalize str (Lib.decDigits k)=D at *
       go_wp2_with fail
       refine HDD.out.mono ?_
       rintro e w7 ⟨rfl,k7⟩
       have KK7:=Ld (kr2.trans k7)
       clear HDD
       have n1:(D.size:Int)≤7:=by omega
       have n2:(s.size:Int)≤16:=by omega
       have n3:(0:Int)≤(D.size:Int):=by omega
       have n4:(0:Int)≤(s.size:Int):=by omega
       by_cases hc:16<s.size+D.size
       ·have t1:decide ((16:Int)<(s.size:Int)+(D.size:Int))=true:=decide_eq_true (by omega)
        have n5:(16:Int)-(D.size:Int)=((16-D.size:Nat):Int):=by omega
        have n6:16-D.size≤s.size:=by omega
        have n7:((16-D.size:Nat):Int)≤(s.size:Int):=by omega
        rw[if_pos hc] at HCS
        clear hc
        by_cases hkj:k=j
        ·have hmb:mb (s.extract 0 (16-D.size)++D) used=false:=by rw[HCS.out,hkj];exact HJ4.out
         have HRE:Hid (res=s.extract 0 (16-D.size)++D):=Ld (by rw[HRJ.out,← hkj,HCS.out])
         go_wp2_with fail
         refine (HIN.out w7 KK7.out (s.extract 0 (16-D.size)++D)).mono ?_
         rintro e w8 ⟨rfl,rfl⟩
         go_wp2_with fail
         go_ret
         exact⟨by rw[HRE.out];rfl,KK7.out⟩
        ·have hmb:mb (s.extract 0 (16-D.size)++D) used=true:=by rw[HCS.out];exact HJ5.out k hk1 (by omega)
         go_wp2_with fail
         refine (HIN.out w7 KK7.out (s.extract 0 (16-D.size)++D)).mono ?_
         rintro e w8 ⟨rfl,rfl⟩
         go_wp2_with fail
         go_roundw
         case rel=>exact⟨k+1,by omega,by omega,by go_num,KK7.out⟩
         case measure=>simp[intOf];omega
       ·have t1:decide ((16:Int)<(s.size:Int)+(D.size:Int))=false:=decide_eq_false (by omega)
        rw[if_neg hc] at HCS
        clear hc
        by_cases hkj:k=j
        ·have hmb:mb (s++D) used=false:=by rw[HCS.out,hkj];exact HJ4.out
         have HRE:Hid (res=s++D):=Ld (by rw[HRJ.out,← hkj,HCS.out])
         go_wp2_with fail
         refine (HIN.out w7 KK7.out (s++D)).mono ?_
         rintro e w8 ⟨rfl,rfl⟩
         go_wp2_with fail
         go_ret
         exact⟨by rw[HRE.out];rfl,KK7.out⟩
        ·have hmb:mb (s++D) used=true:=by rw[HCS.out];exact HJ5.out k hk1 (by omega)
         go_wp2_with fail
         refine (HIN.out w7 KK7.out (s++D)).mono ?_
         rintro e w8 ⟨rfl,rfl⟩
         go_wp2_with fail
         go_roundw
         case rel=>exact⟨k+1,by omega,by omega,by go_num,KK7.out⟩
         case measure=>simp[intOf];omega
     ·have HN2:Hid (stripD (s.extract 0 (s.size-1)).data.toList=b∧(s.extract 0 (s.size-1)).size≤9223372036854775807):=Ld ⟨by rw[← hq.out.1,HSA.out,hd];rfl,by rw[ByteArray.size_extract];omega⟩
      go_wp2_with (go_at_call 137;refine (rdigit_any _ _).mono ?_;rintro e w' ⟨rfl,rfl⟩)
      go_roundw
      case rel=>exact⟨_,rfl,kr,HN2⟩
      case measure=>simp only[strOf,ByteArray.size_extract];omega
   ·have HPC:=Ld (HP.out _ hp)
    have HST:Hid (stripD nm.data.toList=b∧nm.size≤9223372036854775807):=Ld ⟨by rw[hp2] at HBL;exact HBL.out.symm,HSN.out⟩
    clear hp hp2 HP HPT
    go_wp2_with fail
    refine HPC.out.mono ?_
    rintro e w4 ⟨rfl,k4⟩
    have HK3:=Ld (HK.out.trans k4)
    clear HPC k4 HK
    go_wp2_with fail
    go_loopw [0] (fun v wr=>∃ s:ByteArray,v=.string s∧Kept (fun _=>False) w wr∧Hid (stripD s.data.toList=b∧s.size≤9223372036854775807)) (fun v _=>(strOf v).size)
    case atStart=>exact⟨_,rfl,HK3.out,HST⟩
    case round=>
     obtain⟨s,rfl,kr,hq⟩:=hrel
     have hpos:0<s.size:=by
      have h1:=hq.out.1
      have h2:=HBN.out
      by_cases h:0<s.size
      ·exact h
      ·exfalso
       have h3:s.data.toList=[]:=List.length_eq_zero_iff.1 (by rw[ba_len];omega)
       rw[h3] at h1
       exact h2 h1.symm
     have i1:(0:Int)<(s.size:Int):=by omega
     have i2:s.size-1<s.size:=by omega
     have i3:(s.size:Int)-1=((s.size-1:Nat):Int):=by omega
     have i4:=hq.out.2
     have HSA:=Ld (strip_at s i2)
     cases hd:digitB (s[s.size-1].toNat)
     ·have HB:Hid (s.data.toList=b):=Ld (by rw[← hq.out.1,HSA.out,hd];rfl)
      go_wp2_with (go_at_call 137;refine (rdigit_any _ _).mono ?_;rintro e w' ⟨rfl,rfl⟩)
      clear hd HSA i1 i3 hpos
      have i4:s.size≤16:=by have h1:=HBS.out;have h2:=congrArg List.length HB.out;rw[ba_len] at h2;omega
      go_loopw [5,6,7] (fun i x y wr=>∃ k:Nat,1≤k∧k≤j∧i=.int .i64 k∧Kept (fun _=>False) w wr) (fun i x y _=>j-(intOf i).toNat)
      case atStart=>exact⟨1,Nat.le_refl _,hj1,rfl,kr⟩
      case round=>
       obtain⟨k,hk1,hk2,rfl,kr2⟩:=hrel
       have k1:(k:Int)<1000002:=by omega
       have hdl:=dec_len2 6 k (by omega)
       have HDD:=Ld (dec_nat k (by omega) wr)
       have HCS:=Ld (cand_str (B:=s) (k:=k))
       rw[HB.out] at HCS
       have hDs:(str (Lib.decDigits k)).size≤7:=by rw[str_size];exact hdl
       clear hdl
       generalize str (Lib.decDigits k)=D at *
       go_wp2_with fail
       refine HDD.out.mono ?_
       rintro e w7 ⟨rfl,k7⟩
       have KK7:=Ld (kr2.trans k7)
       clear HDD
       have n1:(D.size:Int)≤7:=by omega
       have n2:(s.size:Int)≤16:=by omega
       have n3:(0:Int)≤(D.size:Int):=by omega
       have n4:(0:Int)≤(s.size:Int):=by omega
       by_cases hc:16<s.size+D.size
       ·have t1:decide ((16:Int)<(s.size:Int)+(D.size:Int))=true:=decide_eq_true (by omega)
        have n5:(16:Int)-(D.size:Int)=((16-D.size:Nat):Int):=by omega
        have n6:16-D.size≤s.size:=by omega
        have n7:((16-D.size:Nat):Int)≤(s.size:Int):=by omega
        rw[if_pos hc] at HCS
        clear hc
        by_cases hkj:k=j
        ·have hmb:mb (s.extract 0 (16-D.size)++D) used=false:=by rw[HCS.out,hkj];exact HJ4.out
         have HRE:Hid (res=s.extract 0 (16-D.size)++D):=Ld (by rw[HRJ.out,← hkj,HCS.out])
         go_wp2_with fail
         refine (HIN.out w7 KK7.out (s.extract 0 (16-D.size)++D)).mono ?_
         rintro e w8 ⟨rfl,rfl⟩
         go_wp2_with fail
         go_ret
         exact⟨by rw[HRE.out];rfl,KK7.out⟩
        ·have hmb:mb (s.extract 0 (16-D.size)++D) used=true:=by rw[HCS.out];exact HJ5.out k hk1 (by omega)
         go_wp2_with fail
         refine (HIN.out w7 KK7.out (s.extract 0 (16-D.size)++D)).mono ?_
         rintro e w8 ⟨rfl,rfl⟩
         go_wp2_with fail
         go_roundw
         case rel=>exact⟨k+1,by omega,by omega,by go_num,KK7.out⟩
         case measure=>simp[intOf];omega
       ·have t1:decide ((16:Int)<(s.size:Int)+(D.size:Int))=false:=decide_eq_false (by omega)
        rw[if_neg hc] at HCS
        clear hc
        by_cases hkj:k=j
        ·have hmb:mb (s++D) used=false:=by rw[HCS.out,hkj];exact HJ4.out
         have HRE:Hid (res=s++D):=Ld (by rw[HRJ.out,← hkj,HCS.out])
         go_wp2_with fail
         refine (HIN.out w7 KK7.out (s++D)).mono ?_
         rintro e w8 ⟨rfl,rfl⟩
         go_wp2_with fail
         go_ret
         exact⟨by rw[HRE.out];rfl,KK7.out⟩
        ·have hmb:mb (s++D) used=true:=by rw[HCS.out];exact HJ5.out k hk1 (by omega)
         go_wp2_with fail
         refine (HIN.out w7 KK7.out (s++D)).mono ?_
         rintro e w8 ⟨rfl,rfl⟩
         go_wp2_with fail
         go_roundw
         case rel=>exact⟨k+1,by omega,by omega,by go_num,KK7.out⟩
         case measure=>simp[intOf];omega
     ·have HN2:Hid (stripD (s.extract 0 (s.size-1)).data.toList=b∧(s.extract 0 (s.size-1)).size≤9223372036854775807):=Ld ⟨by rw[← hq.out.1,HSA.out,hd];rfl,by rw[ByteArray.size_extract];omega⟩
      go_wp2_with (go_at_call 137;refine (rdigit_any _ _).mono ?_;rintro e w' ⟨rfl,rfl⟩)
      go_roundw
      case rel=>exact⟨_,rfl,kr,HN2⟩
      case measure=>simp only[strOf,ByteArray.size_extract];omega
 ·have HRN:Hid (res=frFrom name used):=Ld (by rw[HFR.out,hv];rfl)
  have HNV2:=Ld (HNV.out _ hv)
  have HNM:=Ld hv
  have HSN:=HSZ
  clear hv HNV HFR HSZ
  generalize name=nm at *
  go_enter Tryz.func123,Tryz.ntmps123
  go_wp2_with fail
  refine HNV2.out.mono ?_
  rintro e w2 ⟨rfl,k2⟩
  have HK:=Ld k2
  clear k2 HNV2
  go_wp2_with fail
  refine (HIN.out _ HK.out nm).mono ?_
  rintro e w3 ⟨rfl,rfl⟩
  cases hm:mb nm used
  ·have HE:Hid (res=nm):=Ld (by rw[HRN.out];unfold frFrom;rw[hm];rfl)
   clear hm HIN
   go_wp2_with fail
   go_ret
   exact⟨by rw[HE.out];rfl,HK.out⟩
  ·obtain⟨j,hj1,hj2,hj3,hj4,hj5⟩:=fresh_at HNM.out HU.out hm
   have HRJ:Hid (res=str (candL (baseL nm) j)):=Ld (by rw[HRN.out,hj3])
   have HJ4:=Ld hj4
   have HJ5:=Ld hj5
   have HBS:=Ld (base_size HNM.out)
   have HBN:=Ld (base_ok HNM.out).1
   have HPT:=Ld (prim_trim HNM.out)
   have HP:=Ld (fun (v:Bool) (hv:primB nm=v)=>primed_big nm w2 HSN.out hv)
   have HBL:Hid (baseL nm=stripD (trimQ nm).data.toList):=Ld rfl
   generalize baseL nm=b at *
   clear hm hj3 hj4 hj5 HRN HNM
   rcases HPT.out with ⟨hp,hp1,hp2⟩ | ⟨hp,hp2⟩
   ·have HPC:=Ld (HP.out _ hp)
    have HST:Hid (stripD (nm.extract 0 (nm.size-1)).data.toList=b∧(nm.extract 0 (nm.size-1)).size≤9223372036854775807):=Ld ⟨by rw[← hp2];exact HBL.out.symm,by rw[ByteArray.size_extract];have:=HSN.out;omega⟩
    have i1:(1:Int)<(nm.size:Int):=by omega
    have i2:nm.size-1<nm.size:=by omega
    have i3:(nm.size:Int)-1=((nm.size-1:Nat):Int):=by omega
    have i4:=HSN.out
    clear hp hp1 hp2 HP HPT
    go_wp2_with fail
    refine HPC.out.mono ?_
    rintro e w4 ⟨rfl,k4⟩
    have HK3:=Ld (HK.out.trans k4)
    clear HPC k4 HK
    go_wp2_with fail
    clear i1 i2 i3 i4
    go_loopw [0] (fun v wr=>∃ s:ByteArray,v=.string s∧Kept (fun _=>False) w wr∧Hid (stripD s.data.toList=b∧s.size≤9223372036854775807)) (fun v _=>(strOf v).size)
    case atStart=>exact⟨_,rfl,HK3.out,HST⟩
    case round=>
     obtain⟨s,rfl,kr,hq⟩:=hrel
     have hpos:0<s.size:=by
      have h1:=hq.out.1
      have h2:=HBN.out
      by_cases h:0<s.size
      ·exact h
      ·exfalso
       have h3:s.data.toList=[]:=List.length_eq_zero_iff.1 (by rw[ba_len];omega)
       rw[h3] at h1
       exact h2 h1.symm
     have i1:(0:Int)<(s.size:Int):=by omega
     have i2:s.size-1<s.size:=by omega
     have i3:(s.size:Int)-1=((s.size-1:Nat):Int):=by omega
     have i4:=hq.out.2
     have HSA:=Ld (strip_at s i2)
     cases hd:digitB (s[s.size-1].toNat)
     ·have HB:Hid (s.data.toList=b):=Ld (by rw[← hq.out.1,HSA.out,hd];rfl)
      go_wp2_with (go_at_call 137;refine (rdigit_any _ _).mono ?_;rintro e w' ⟨rfl,rfl⟩)
      clear hd HSA i1 i3 hpos
      have i4:s.size≤16:=by have h1:=HBS.out;have h2:=congrArg List.length HB.out;rw[ba_len] at h2;omega
      go_loopw [5,6,7] (fun i x y wr=>∃ k:Nat,1≤k∧k≤j∧i=.int .i64 k∧Kept (fun _=>False) w wr) (fun i x y _=>j-(intOf i).toNat)
      case atStart=>exact⟨1,Nat.le_refl _,hj1,rfl,kr⟩
      case round=>
       obtain⟨k,hk1,hk2,rfl,kr2⟩:=hrel
       have k1:(k:Int)<1000002:=by omega
       have hdl:=dec_len2 6 k (by omega)
       have HDD:=Ld (dec_nat k (by omega) wr)
       have HCS:=Ld (cand_str (B:=s) (k:=k))
       rw[HB.out] at HCS
       have hDs:(str (Lib.decDigits k)).size≤7:=by rw[str_size];exact hdl
       clear hdl
       generalize str (Lib.decDigits k)=D at *
       go_wp2_with fail
       refine HDD.out.mono ?_
       rintro e w7 ⟨rfl,k7⟩
       have KK7:=Ld (kr2.trans k7)
       clear HDD
       have n1:(D.size:Int)≤7:=by omega
       have n2:(s.size:Int)≤16:=by omega
       have n3:(0:Int)≤(D.size:Int):=by omega
       have n4:(0:Int)≤(s.size:Int):=by omega
       by_cases hc:16<s.size+D.size
       ·have t1:decide ((16:Int)<(s.size:Int)+(D.size:Int))=true:=decide_eq_true (by omega)
        have n5:(16:Int)-(D.size:Int)=((16-D.size:Nat):Int):=by omega
        have n6:16-D.size≤s.size:=by omega
        have n7:((16-D.size:Nat):Int)≤(s.size:Int):=by omega
        rw[if_pos hc] at HCS
        clear hc
        by_cases hkj:k=j
        ·have hmb:mb (s.extract 0 (16-D.size)++D) used=false:=by rw[HCS.out,hkj];exact HJ4.out
         have HRE:Hid (res=s.extract 0 (16-D.size)++D):=Ld (by rw[HRJ.out,← hkj,HCS.out])
         go_wp2_with fail
         refine (HIN.out w7 KK7.out (s.extract 0 (16-D.size)++D)).mono ?_
         rintro e w8 ⟨rfl,rfl⟩
         go_wp2_with fail
         go_ret
         exact⟨by rw[HRE.out];rfl,KK7.out⟩
        ·have hmb:mb (s.extract 0 (16-D.size)++D) used=true:=by rw[HCS.out];exact HJ5.out k hk1 (by omega)
         go_wp2_with fail
         refine (HIN.out w7 KK7.out (s.extract 0 (16-D.size)++D)).mono ?_
         rintro e w8 ⟨rfl,rfl⟩
         go_wp2_with fail
         go_roundw
         case rel=>exact⟨k+1,by omega,by omega,by go_num,KK7.out⟩
         case measure=>simp[intOf];omega
       ·have t1:decide ((16:Int)<(s.size:Int)+(D.size:Int))=false:=decide_eq_false (by omega)
        rw[if_neg hc] at HCS
        clear hc
        by_cases hkj:k=j
        ·have hmb:mb (s++D) used=false:=by rw[HCS.out,hkj];exact HJ4.out
         have HRE:Hid (res=s++D):=Ld (by rw[HRJ.out,← hkj,HCS.out])
         go_wp2_with fail
         refine (HIN.out w7 KK7.out (s++D)).mono ?_
         rintro e w8 ⟨rfl,rfl⟩
         go_wp2_with fail
         go_ret
         exact⟨by rw[HRE.out];rfl,KK7.out⟩
        ·have hmb:mb (s++D) used=true:=by rw[HCS.out];exact HJ5.out k hk1 (by omega)
         go_wp2_with fail
         refine (HIN.out w7 KK7.out (s++D)).mono ?_
         rintro e w8 ⟨rfl,rfl⟩
         go_wp2_with fail
         go_roundw
         case rel=>exact⟨k+1,by omega,by omega,by go_num,KK7.out⟩
         case measure=>simp[intOf];omega
     ·have HN2:Hid (stripD (s.extract 0 (s.size-1)).data.toList=b∧(s.extract 0 (s.size-1)).size≤9223372036854775807):=Ld ⟨by rw[← hq.out.1,HSA.out,hd];rfl,by rw[ByteArray.size_extract];omega⟩
      go_wp2_with (go_at_call 137;refine (rdigit_any _ _).mono ?_;rintro e w' ⟨rfl,rfl⟩)
      go_roundw
      case rel=>exact⟨_,rfl,kr,HN2⟩
      case measure=>simp only[strOf,ByteArray.size_extract];omega
   ·have HPC:=Ld (HP.out _ hp)
    have HST:Hid (stripD nm.data.toList=b∧nm.size≤9223372036854775807):=Ld ⟨by rw[hp2] at HBL;exact HBL.out.symm,HSN.out⟩
    clear hp hp2 HP HPT
    go_wp2_with fail
    refine HPC.out.mono ?_
    rintro e w4 ⟨rfl,k4⟩
    have HK3:=Ld (HK.out.trans k4)
    clear HPC k4 HK
    go_wp2_with fail
    go_loopw [0] (fun v wr=>∃ s:ByteArray,v=.string s∧Kept (fun _=>False) w wr∧Hid (stripD s.data.toList=b∧s.size≤9223372036854775807)) (fun v _=>(strOf v).size)
    case atStart=>exact⟨_,rfl,HK3.out,HST⟩
    case round=>
     obtain⟨s,rfl,kr,hq⟩:=hrel
     have hpos:0<s.size:=by
      have h1:=hq.out.1
      have h2:=HBN.out
      by_cases h:0<s.size
      ·exact h
      ·exfalso
       have h3:s.data.toList=[]:=List.length_eq_zero_iff.1 (by rw[ba_len];omega)
       rw[h3] at h1
       exact h2 h1.symm
     have i1:(0:Int)<(s.size:Int):=by omega
     have i2:s.size-1<s.size:=by omega
     have i3:(s.size:Int)-1=((s.size-1:Nat):Int):=by omega
     have i4:=hq.out.2
     have HSA:=Ld (strip_at s i2)
     cases hd:digitB (s[s.size-1].toNat)
     ·have HB:Hid (s.data.toList=b):=Ld (by rw[← hq.out.1,HSA.out,hd];rfl)
      go_wp2_with (go_at_call 137;refine (rdigit_any _ _).mono ?_;rintro e w' ⟨rfl,rfl⟩)
      clear hd HSA i1 i3 hpos
      have i4:s.size≤16:=by have h1:=HBS.out;have h2:=congrArg List.length HB.out;rw[ba_len] at h2;omega
      go_loopw [5,6,7] (fun i x y wr=>∃ k:Nat,1≤k∧k≤j∧i=.int .i64 k∧Kept (fun _=>False) w wr) (fun i x y _=>j-(intOf i).toNat)
      case atStart=>exact⟨1,Nat.le_refl _,hj1,rfl,kr⟩
      case round=>
       obtain⟨k,hk1,hk2,rfl,kr2⟩:=hrel
       have k1:(k:Int)<1000002:=by omega
       have hdl:=dec_len2 6 k (by omega)
       have HDD:=Ld (dec_nat k (by omega) wr)
       have HCS:=Ld (cand_str (B:=s) (k:=k))
       rw[HB.out] at HCS
       have hDs:(str (Lib.decDigits k)).size≤7:=by rw[str_size];exact hdl
       clear hdl
       generalize str (Lib.decDigits k)=D at *
       go_wp2_with fail
       refine HDD.out.mono ?_
       rintro e w7 ⟨rfl,k7⟩
       have KK7:=Ld (kr2.trans k7)
       clear HDD
       have n1:(D.size:Int)≤7:=by omega
       have n2:(s.size:Int)≤16:=by omega
       have n3:(0:Int)≤(D.size:Int):=by omega
       have n4:(0:Int)≤(s.size:Int):=by omega
       by_cases hc:16<s.size+D.size
       ·have t1:decide ((16:Int)<(s.size:Int)+(D.size:Int))=true:=decide_eq_true (by omega)
        have n5:(16:Int)-(D.size:Int)=((16-D.size:Nat):Int):=by omega
        have n6:16-D.size≤s.size:=by omega
        have n7:((16-D.size:Nat):Int)≤(s.size:Int):=by omega
        rw[if_pos hc] at HCS
        clear hc
        by_cases hkj:k=j
        ·have hmb:mb (s.extract 0 (16-D.size)++D) used=false:=by rw[HCS.out,hkj];exact HJ4.out
         have HRE:Hid (res=s.extract 0 (16-D.size)++D):=Ld (by rw[HRJ.out,← hkj,HCS.out])
         go_wp2_with fail
         refine (HIN.out w7 KK7.out (s.extract 0 (16-D.size)++D)).mono ?_
         rintro e w8 ⟨rfl,rfl⟩
         go_wp2_with fail
         go_ret
         exact⟨by rw[HRE.out];rfl,KK7.out⟩
        ·have hmb:mb (s.extract 0 (16-D.size)++D) used=true:=by rw[HCS.out];exact HJ5.out k hk1 (by omega)
         go_wp2_with fail
         refine (HIN.out w7 KK7.out (s.extract 0 (16-D.size)++D)).mono ?_
         rintro e w8 ⟨rfl,rfl⟩
         go_wp2_with fail
         go_roundw
         case rel=>exact⟨k+1,by omega,by omega,by go_num,KK7.out⟩
         case measure=>simp[intOf];omega
       ·have t1:decide ((16:Int)<(s.size:Int)+(D.size:Int))=false:=decide_eq_false (by omega)
        rw[if_neg hc] at HCS
        clear hc
        by_cases hkj:k=j
        ·have hmb:mb (s++D) used=false:=by rw[HCS.out,hkj];exact HJ4.out
         have HRE:Hid (res=s++D):=Ld (by rw[HRJ.out,← hkj,HCS.out])
         go_wp2_with fail
         refine (HIN.out w7 KK7.out (s++D)).mono ?_
         rintro e w8 ⟨rfl,rfl⟩
         go_wp2_with fail
         go_ret
         exact⟨by rw[HRE.out];rfl,KK7.out⟩
        ·have hmb:mb (s++D) used=true:=by rw[HCS.out];exact HJ5.out k hk1 (by omega)
         go_wp2_with fail
         refine (HIN.out w7 KK7.out (s++D)).mono ?_
         rintro e w8 ⟨rfl,rfl⟩
         go_wp2_with fail
         go_roundw
         case rel=>exact⟨k+1,by omega,by omega,by go_num,KK7.out⟩
         case measure=>simp[intOf];omega
     ·have HN2:Hid (stripD (s.extract 0 (s.size-1)).data.toList=b∧(s.extract 0 (s.size-1)).size≤9223372036854775807):=Ld ⟨by rw[← hq.out.1,HSA.out,hd];rfl,by rw[ByteArray.size_extract];omega⟩
      go_wp2_with (go_at_call 137;refine (rdigit_any _ _).mono ?_;rintro e w' ⟨rfl,rfl⟩)
      go_roundw
      case rel=>exact⟨_,rfl,kr,HN2⟩
      case measure=>simp only[strOf,ByteArray.size_extract];omega
end Go.Proofs.YtfhedienjnfdcaaGreatDoor
