/- A part. -/
import Derived.Test.YtdmebjbkccjhbaaGreatDoorV17
set_option linter.unusedVariables false
set_option linter.unusedSimpArgs false
set_option maxRecDepth 100000
set_option maxHeartbeats 32000000
namespace Go.Proofs.YtdmebjbkccjhbaaGreatDoor
open Go.RowKit
variable {bz:Nat}
structure MRow (x y:ByteArray) (ok:Nat→Prop) (W:World) (b:Nat) (l:List Tm) (j:Nat):Prop where
 row:∃ (L:List Value) (K M:Nat→Value),Blk W b 27 L∧l.length*7≤L.length∧∀ i (h:i<l.length),(L[i*7]?=some (.int .i64 l[i].op)∧L[i*7+1]?=some (.string l[i].name)∧L[i*7+2]?=some (.int .i64 l[i].n)∧L[i*7+3]?=some (.int .i64 l[i].ty.kind))∧(∃ m,L[i*7+4]?=some (.string m)∧Part x y l[i].ty.kind l[i].ty.name m∧(i<j→m=rnN x y l[i].ty.kind l[i].ty.name))∧(L[i*7+5]?=some (K i)∧L[i*7+6]?=some (M i))∧(PyL (Part x y) ok W l[i].ty.kids (K i)∧PmL (Part x y) ok W l[i].kids (M i))∧(i<j→PyL (Full x y) ok W l[i].ty.kids (K i)∧PmL (Full x y) ok W l[i].kids (M i))
theorem MRow.lt {x y:ByteArray} {ok:Nat→Prop} {W:World} {b:Nat} {l:List Tm} {j:Nat} (h:MRow x y ok W b l j):b<W.heap.size:=by
 obtain⟨L,K,M,bG,_⟩:=h.row;exact bG.lt
theorem MRow.fz {x y:ByteArray} {ok:Nat→Prop} {W:World} {b:Nat} {l:List Tm} {j:Nat} (h:MRow x y ok W b l j) (i:Nat):W.frozen? ⟨b,i,none⟩=false:=by
 obtain⟨L,K,M,bG,_⟩:=h.row;exact bG.frozen i
theorem MRow.frame {x y:ByteArray} {ok:Nat→Prop} {W W':World} {b:Nat} {l:List Tm} {j:Nat} (h:MRow x y ok W b l j) (hb:ok b) (hr:RwB x y ok W W'):MRow x y ok W' b l j:=by
 obtain⟨L,K,M,bG,hL,hR⟩:=h.row
 obtain⟨L',bG',hq⟩:=hr _ _ _ hb bG
 refine⟨⟨L',K,M,bG',by rw[hq.1];exact hL,fun i hi=>?_⟩⟩
 obtain⟨⟨c0,c1,c2,c3⟩,c4,⟨c5,c6⟩,⟨c7,c8⟩,c9⟩:=hR i hi
 refine⟨⟨hq.keep c0 (by unfold posY;omega),hq.keep c1 (by unfold posY;omega),hq.keep c2 (by unfold posY;omega),hq.keep c3 (by unfold posY;omega)⟩,?_,⟨hq.keep c5 (by unfold posY;omega),hq.keep c6 (by unfold posY;omega)⟩,⟨c7.frame (fun _=>part_stay) hr,c8.frame (fun _=>part_stay) hr⟩,fun q=>⟨(c9 q).1.frame (fun _=>full_stay) hr,(c9 q).2.frame (fun _=>full_stay) hr⟩⟩
 obtain⟨m,e,p⟩:=hq.name (c:=i*7+3) (P:=fun k n m=>Part x y k n m∧(i<j→m=rnN x y k n)) (fun n q=>⟨part_stay q.1,fun w=>full_stay (q.2 w)⟩) c3 (by obtain⟨m,e,p,q⟩:=c4;exact⟨m,e,p,q⟩)
 exact⟨m,e,p.1,p.2⟩
theorem MRow.of {x y:ByteArray} {ok:Nat→Prop} {W:World} {l:List Tm} {v:Value} (h:PmL (Part x y) ok W l v) (hne:l≠[]):∃ b c,v=.slice (some ⟨b,0,none⟩) l.length c∧ok b∧l.length≤c∧MRow x y ok W b l 0:=by
 cases h with
 | nil h=>exact absurd rfl hne
 | mk K M L hne hb hc hL hl hcell hk hm=>
  refine⟨_,_,rfl,hb,hc,⟨⟨L,K,M,hL,hl,fun i hi=>?_⟩⟩⟩
  obtain⟨c0,c1,c2,c3,⟨m,c4,p⟩,c5,c6⟩:=hcell i hi
  exact⟨⟨c0,c1,c2,c3⟩,⟨m,c4,p,fun e=>absurd e (Nat.not_lt_zero _)⟩,⟨c5,c6⟩,⟨hk i hi,hm i hi⟩,fun e=>absurd e (Nat.not_lt_zero _)⟩
theorem MRow.whole {x y:ByteArray} {ok:Nat→Prop} {W:World} {b c:Nat} {l:List Tm} (h:MRow x y ok W b l l.length) (hne:l≠[]) (hb:ok b) (hc:l.length≤c):PmL (Full x y) ok W l (.slice (some ⟨b,0,none⟩) l.length c):=by
 obtain⟨L,K,M,bG,hL,hR⟩:=h.row
 refine .mk K M L hne hb hc bG hL (fun i hi=>?_) (fun i hi=>((hR i hi).2.2.2.2 hi).1) (fun i hi=>((hR i hi).2.2.2.2 hi).2)
 obtain⟨⟨c0,c1,c2,c3⟩,⟨m,c4,_,p⟩,⟨c5,c6⟩,_⟩:=hR i hi
 exact⟨c0,c1,c2,c3,⟨m,c4,p hi⟩,c5,c6⟩
theorem MRow.at {x y:ByteArray} {ok:Nat→Prop} {W:World} {b:Nat} {l:List Tm} {j:Nat} (h:MRow x y ok W b l j) (hj:j<l.length):∃ m ta tn tc ua un uc,(W.cell? ⟨b,j*7,none⟩=some (.int .i64 l[j].op)∧W.cell? ⟨b,j*7+1,none⟩=some (.string l[j].name)∧W.cell? ⟨b,j*7+2,none⟩=some (.int .i64 l[j].n)∧W.cell? ⟨b,j*7+3,none⟩=some (.int .i64 l[j].ty.kind)∧W.cell? ⟨b,j*7+4,none⟩=some (.string m)∧W.cell? ⟨b,j*7+5,none⟩=some (.slice ta tn tc)∧W.cell? ⟨b,j*7+6,none⟩=some (.slice ua un uc))∧Part x y l[j].ty.kind l[j].ty.name m∧PyL (Part x y) ok W l[j].ty.kids (.slice ta tn tc)∧PmL (Part x y) ok W l[j].kids (.slice ua un uc):=by
 obtain⟨L,K,M,bG,hL,hR⟩:=h.row
 obtain⟨⟨c0,c1,c2,c3⟩,⟨m,c4,p,_⟩,⟨c5,c6⟩,⟨c7,c8⟩,_⟩:=hR j hj
 obtain⟨ta,tc,hK⟩:=c7.slice
 obtain⟨ua,uc,hM⟩:=c8.slice
 rw[hK] at c5 c7
 rw[hM] at c6 c8
 exact⟨m,ta,_,tc,ua,_,uc,⟨by rw[bG.cell];exact c0,by rw[bG.cell];exact c1,by rw[bG.cell];exact c2,by rw[bG.cell];exact c3,by rw[bG.cell];exact c4,by rw[bG.cell];exact c5,by rw[bG.cell];exact c6⟩,p,c7,c8⟩
theorem MRow.kcell {x y:ByteArray} {ok:Nat→Prop} {W W':World} {b:Nat} {l:List Tm} {j c:Nat} (h:MRow x y ok W b l j) (hb:ok b) (hr:RwB x y ok W W') (hp:c % 7≠4) {v:Value} (hc:W.cell? ⟨b,c,none⟩=some v):W'.cell? ⟨b,c,none⟩=some v:=by
 obtain⟨L,K,M,bG,_⟩:=h.row
 obtain⟨L',bG',hq⟩:=hr _ _ _ hb bG
 rw[bG.cell] at hc
 rw[bG'.cell]
 exact hq.keep hc (by unfold posY;omega)
theorem MRow.step {x y:ByteArray} {ok:Nat→Prop} {W:World} {b:Nat} {l:List Tm} {j:Nat} {ta:Option Addr} {tn tc:Nat} {ua:Option Addr} {un uc:Nat} (h:MRow x y ok W b l j) (hb:ok b) (hj:j<l.length) (hc:W.cell? ⟨b,j*7+5,none⟩=some (.slice ta tn tc)) (hc':W.cell? ⟨b,j*7+6,none⟩=some (.slice ua un uc)) (hf:PyL (Full x y) ok W l[j].ty.kids (.slice ta tn tc)) (hg:PmL (Full x y) ok W l[j].kids (.slice ua un uc)):
  Rw x y ok W (((((((W.setCell ⟨b,j*7,none⟩ (.int .i64 l[j].op)).setCell ⟨b,j*7+1,none⟩ (.string l[j].name)).setCell ⟨b,j*7+2,none⟩ (.int .i64 l[j].n)).setCell ⟨b,j*7+3,none⟩ (.int .i64 l[j].ty.kind)).setCell ⟨b,j*7+4,none⟩ (.string (rnN x y l[j].ty.kind l[j].ty.name))).setCell ⟨b,j*7+5,none⟩ (.slice ta tn tc)).setCell ⟨b,j*7+6,none⟩ (.slice ua un uc))∧MRow x y ok (((((((W.setCell ⟨b,j*7,none⟩ (.int .i64 l[j].op)).setCell ⟨b,j*7+1,none⟩ (.string l[j].name)).setCell ⟨b,j*7+2,none⟩ (.int .i64 l[j].n)).setCell ⟨b,j*7+3,none⟩ (.int .i64 l[j].ty.kind)).setCell ⟨b,j*7+4,none⟩ (.string (rnN x y l[j].ty.kind l[j].ty.name))).setCell ⟨b,j*7+5,none⟩ (.slice ta tn tc)).setCell ⟨b,j*7+6,none⟩ (.slice ua un uc)) b l (j+1):=by
 obtain⟨L,K,M,bG,hL,hR⟩:=h.row
 obtain⟨⟨d0,d1,d2,d3⟩,⟨m,d4,dp,_⟩,⟨d5,d6⟩,_,_⟩:=hR j hj
 rw[bG.cell,d5] at hc
 rw[bG.cell,d6] at hc'
 have hK:K j=.slice ta tn tc:=Option.some.inj hc
 have hM:M j=.slice ua un uc:=Option.some.inj hc'
 have bG7:Blk (((((((W.setCell ⟨b,j*7,none⟩ (.int .i64 l[j].op)).setCell ⟨b,j*7+1,none⟩ (.string l[j].name)).setCell ⟨b,j*7+2,none⟩ (.int .i64 l[j].n)).setCell ⟨b,j*7+3,none⟩ (.int .i64 l[j].ty.kind)).setCell ⟨b,j*7+4,none⟩ (.string (rnN x y l[j].ty.kind l[j].ty.name))).setCell ⟨b,j*7+5,none⟩ (.slice ta tn tc)).setCell ⟨b,j*7+6,none⟩ (.slice ua un uc)) b 27 (((((((L.set (j*7) (.int .i64 l[j].op)).set (j*7+1) (.string l[j].name)).set (j*7+2) (.int .i64 l[j].n)).set (j*7+3) (.int .i64 l[j].ty.kind)).set (j*7+4) (.string (rnN x y l[j].ty.kind l[j].ty.name))).set (j*7+5) (.slice ta tn tc)).set (j*7+6) (.slice ua un uc)):=((((((bG.set _ _).set _ _).set _ _).set _ _).set _ _).set _ _).set _ _
 have hRL:RL x y 27 L (((((((L.set (j*7) (.int .i64 l[j].op)).set (j*7+1) (.string l[j].name)).set (j*7+2) (.int .i64 l[j].n)).set (j*7+3) (.int .i64 l[j].ty.kind)).set (j*7+4) (.string (rnN x y l[j].ty.kind l[j].ty.name))).set (j*7+5) (.slice ta tn tc)).set (j*7+6) (.slice ua un uc)):=by
  refine⟨by simp,fun c=>?_⟩
  by_cases h6:c=j*7+6
  ·subst h6;left;rw[List.getElem?_set_self (by simp;omega),d6,hM]
  ·rw[List.getElem?_set_ne (Ne.symm h6)]
   by_cases h5:c=j*7+5
   ·subst h5;left;rw[List.getElem?_set_self (by simp;omega),d5,hK]
   ·rw[List.getElem?_set_ne (Ne.symm h5)]
    by_cases h4:c=j*7+4
    ·subst h4
     rw[List.getElem?_set_self (by simp;omega)]
     rcases part_turn dp with e | ⟨e1,e2,e3⟩
     ·left;rw[d4,e]
     ·right;refine⟨Or.inr ⟨rfl,by omega⟩,by rw[d4,e2],by rw[e3],?_⟩
      show L[j*7+3]?=_
      rw[d3,e1]
    ·rw[List.getElem?_set_ne (Ne.symm h4)]
     left
     by_cases h3:c=j*7+3
     ·subst h3;rw[List.getElem?_set_self (by simp;omega),d3]
     ·rw[List.getElem?_set_ne (Ne.symm h3)]
      by_cases h2:c=j*7+2
      ·subst h2;rw[List.getElem?_set_self (by simp;omega),d2]
      ·rw[List.getElem?_set_ne (Ne.symm h2)]
       by_cases h1:c=j*7+1
       ·subst h1;rw[List.getElem?_set_self (by simp;omega),d1]
       ·rw[List.getElem?_set_ne (Ne.symm h1)]
        by_cases h0:c=j*7
        ·subst h0;rw[List.getElem?_set_self (by omega),d0]
        ·rw[List.getElem?_set_ne (Ne.symm h0)]
 have hR1:Rw x y ok W (((((((W.setCell ⟨b,j*7,none⟩ (.int .i64 l[j].op)).setCell ⟨b,j*7+1,none⟩ (.string l[j].name)).setCell ⟨b,j*7+2,none⟩ (.int .i64 l[j].n)).setCell ⟨b,j*7+3,none⟩ (.int .i64 l[j].ty.kind)).setCell ⟨b,j*7+4,none⟩ (.string (rnN x y l[j].ty.kind l[j].ty.name))).setCell ⟨b,j*7+5,none⟩ (.slice ta tn tc)).setCell ⟨b,j*7+6,none⟩ (.slice ua un uc)):=by
  refine⟨((((((((Kept.refl ok W).setCell (p:=⟨b,j*7,none⟩) (Or.inl hb) _).setCell (p:=⟨b,j*7+1,none⟩) (Or.inl hb) _).setCell (p:=⟨b,j*7+2,none⟩) (Or.inl hb) _).setCell (p:=⟨b,j*7+3,none⟩) (Or.inl hb) _).setCell (p:=⟨b,j*7+4,none⟩) (Or.inl hb) _).setCell (p:=⟨b,j*7+5,none⟩) (Or.inl hb) _).setCell (p:=⟨b,j*7+6,none⟩) (Or.inl hb) _),fun b' T L0 hb' hL0=>?_⟩
  by_cases e:b'=b
  ·subst e
   have e1:(some (Obj.cells L0.toArray T (0,0)):Option Obj)=some (Obj.cells L.toArray 27 (0,0)):=hL0.symm.trans bG
   injection e1 with e1
   injection e1 with e1 e2
   subst e2
   have e3:L0=L:=by simpa using congrArg Array.toList e1
   subst e3
   exact⟨_,bG7,hRL⟩
  ·exact⟨L0,((((((hL0.set_other _ _ e).set_other _ _ e).set_other _ _ e).set_other _ _ e).set_other _ _ e).set_other _ _ e).set_other _ _ e,RL.refl⟩
 refine⟨hR1,?_⟩
 refine⟨⟨_,K,M,bG7,by simpa using hL,fun i hi=>?_⟩⟩
 obtain⟨⟨c0,c1,c2,c3⟩,c4,⟨c5,c6⟩,⟨c7,c8⟩,c9⟩:=hR i hi
 by_cases e:i=j
 ·subst e
  refine⟨⟨?_,?_,?_,?_⟩,⟨_,?_,Or.inr rfl,fun _=>rfl⟩,⟨?_,?_⟩,⟨c7.frame (fun _=>part_stay) hR1.bl,c8.frame (fun _=>part_stay) hR1.bl⟩,fun _=>⟨by rw[hK];exact hf.frame (fun _=>full_stay) hR1.bl,by rw[hM];exact hg.frame (fun _=>full_stay) hR1.bl⟩⟩
  ·rw[List.getElem?_set_ne (by omega),List.getElem?_set_ne (by omega),List.getElem?_set_ne (by omega),List.getElem?_set_ne (by omega),List.getElem?_set_ne (by omega),List.getElem?_set_ne (by omega),List.getElem?_set_self (by omega)]
  ·rw[List.getElem?_set_ne (by omega),List.getElem?_set_ne (by omega),List.getElem?_set_ne (by omega),List.getElem?_set_ne (by omega),List.getElem?_set_ne (by omega),List.getElem?_set_self (by simp;omega)]
  ·rw[List.getElem?_set_ne (by omega),List.getElem?_set_ne (by omega),List.getElem?_set_ne (by omega),List.getElem?_set_ne (by omega),List.getElem?_set_self (by simp;omega)]
  ·rw[List.getElem?_set_ne (by omega),List.getElem?_set_ne (by omega),List.getElem?_set_ne (by omega),List.getElem?_set_self (by simp;omega)]
  ·rw[List.getElem?_set_ne (by omega),List.getElem?_set_ne (by omega),List.getElem?_set_self (by simp;omega)]
  ·rw[List.getElem?_set_ne (by omega),List.getElem?_set_self (by simp;omega),hK]
  ·rw[List.getElem?_set_self (by simp;omega),hM]
 ·have key:∀ r,r<7→(((((((L.set (j*7) (.int .i64 l[j].op)).set (j*7+1) (.string l[j].name)).set (j*7+2) (.int .i64 l[j].n)).set (j*7+3) (.int .i64 l[j].ty.kind)).set (j*7+4) (.string (rnN x y l[j].ty.kind l[j].ty.name))).set (j*7+5) (.slice ta tn tc)).set (j*7+6) (.slice ua un uc))[i*7+r]?=L[i*7+r]?:=fun r hr=>by
   rw[List.getElem?_set_ne (by omega),List.getElem?_set_ne (by omega),List.getElem?_set_ne (by omega),List.getElem?_set_ne (by omega),List.getElem?_set_ne (by omega),List.getElem?_set_ne (by omega),List.getElem?_set_ne (by omega)]
  refine⟨⟨?_,?_,?_,?_⟩,?_,⟨?_,?_⟩,⟨c7.frame (fun _=>part_stay) hR1.bl,c8.frame (fun _=>part_stay) hR1.bl⟩,fun q=>⟨(c9 (by omega)).1.frame (fun _=>full_stay) hR1.bl,(c9 (by omega)).2.frame (fun _=>full_stay) hR1.bl⟩⟩
  ·exact (key 0 (by decide)).trans c0
  ·exact (key 1 (by decide)).trans c1
  ·exact (key 2 (by decide)).trans c2
  ·exact (key 3 (by decide)).trans c3
  ·obtain⟨m',e1,e2,e3⟩:=c4
   exact⟨m',(key 4 (by decide)).trans e1,e2,fun q=>e3 (by omega)⟩
  ·exact (key 5 (by decide)).trans c5
  ·exact (key 6 (by decide)).trans c6
def CmC (x y:ByteArray) (ok:Nat→Prop) (t:Tm):Prop:=∀ (W:World) (tk kk:Value) (m:ByteArray),(∀ q,ok q→q<W.heap.size)→Part x y t.ty.kind t.ty.name m→PyL (Part x y) ok W t.ty.kids tk→PmL (Part x y) ok W t.kids kk →
 Calls Tryz.prog 61 #[.agg #[.int .i64 t.op,.string t.name,.int .i64 t.n,.int .i64 t.ty.kind,.string m,tk,kk],.string x,.string y] W fun e w'=>e=.returned (.agg #[.int .i64 t.op,.string t.name,.int .i64 t.n,.int .i64 t.ty.kind,.string (rnN x y t.ty.kind t.ty.name),tk,kk])∧Rw x y ok W w'∧PyL (Full x y) ok w' t.ty.kids tk∧PmL (Full x y) ok w' t.kids kk
structure CmI (x y:ByteArray) (ok:Nat→Prop) (w:World) (A:List Value) (tys:List Ty) (tv:Value) (l:List Tm) (a:Option Addr) (c b j:Nat) (wr:World):Prop where
 rr:Rw x y ok w wr
 bx:Blk wr w.heap.size 27 A
 br:Blk wr (w.heap.size+1) 27 [Value.int .i64 0,.string ⟨#[]⟩,.int .i64 0,.int .i64 0,.string ⟨#[]⟩,.slice none 0 0,.slice none 0 0]
 ty:PyL (Full x y) ok wr tys tv
 row:l≠[]→a=some ⟨b,0,none⟩∧ok b∧l.length≤c∧MRow x y ok wr b l j
theorem CmI.rwd {x y:ByteArray} {ok:Nat→Prop} {w wr W:World} {A:List Value} {tys:List Ty} {tv:Value} {l:List Tm} {a:Option Addr} {c b j:Nat} (h:CmI x y ok w A tys tv l a c b j wr) (hok:∀ q,ok q→q<w.heap.size) (k:Rw x y ok wr W):CmI x y ok w A tys tv l a c b j W:=
 ⟨h.rr.trans k,k.out h.bx (fun e=>by have:=hok _ e;omega),k.out h.br (fun e=>by have:=hok _ e;omega),h.ty.frame (fun _=>full_stay) k.bl,fun hne=>by
  obtain⟨h1,h2,h3,h4⟩:=h.row hne
  exact⟨h1,h2,h3,h4.frame h2 k.bl⟩⟩
theorem CmI.step {x y:ByteArray} {ok:Nat→Prop} {w W:World} {A:List Value} {tys:List Ty} {tv:Value} {l:List Tm} {a:Option Addr} {c b j:Nat} {ta:Option Addr} {tn tc:Nat} {ua:Option Addr} {un uc:Nat} (h:CmI x y ok w A tys tv l a c b j W) (hok:∀ q,ok q→q<w.heap.size) (hj:j<l.length) (hc:W.cell? ⟨b,j*7+5,none⟩=some (.slice ta tn tc)) (hc':W.cell? ⟨b,j*7+6,none⟩=some (.slice ua un uc)) (hf:PyL (Full x y) ok W l[j].ty.kids (.slice ta tn tc)) (hg:PmL (Full x y) ok W l[j].kids (.slice ua un uc)):
  CmI x y ok w A tys tv l a c b (j+1) (((((((W.setCell ⟨b,j*7,none⟩ (.int .i64 l[j].op)).setCell ⟨b,j*7+1,none⟩ (.string l[j].name)).setCell ⟨b,j*7+2,none⟩ (.int .i64 l[j].n)).setCell ⟨b,j*7+3,none⟩ (.int .i64 l[j].ty.kind)).setCell ⟨b,j*7+4,none⟩ (.string (rnN x y l[j].ty.kind l[j].ty.name))).setCell ⟨b,j*7+5,none⟩ (.slice ta tn tc)).setCell ⟨b,j*7+6,none⟩ (.slice ua un uc)):=by
 have hne:l≠[]:=fun e=>by subst e;simp at hj
 obtain⟨h1,h2,h3,h4⟩:=h.row hne
 obtain⟨q1,q2⟩:=h4.step h2 hj hc hc' hf hg
 have h':=h.rwd hok q1
 exact⟨h'.rr,h'.bx,h'.br,h'.ty,fun _=>⟨h1,h2,h3,q2⟩⟩
theorem cm_one {x y:ByteArray} {ok:Nat→Prop} {op:Int} {nm:ByteArray} {N kd:Int} {tn0:ByteArray} {tys:List Ty} {l:List Tm} (hbt:BdTy (.mk kd tn0 tys)) (hn1:l.length≤1000000) (IH:∀ t,t∈l→CmC x y ok t):CmC x y ok (.mk op nm N (.mk kd tn0 tys) l):=by
 intro w tk kk m0 hok hp ht hk
 have ht:PyL (Part x y) ok w tys tk:=ht
 have hk:PmL (Part x y) ok w l kk:=hk
 have hp:Part x y kd tn0 m0:=hp
 obtain⟨va,vc,htv⟩:=ht.slice
 obtain⟨a,c,hkv⟩:=hk.slice
 subst htv hkv
 have HIH:=Ld IH
 have HN1:=Ld hn1
 have HOK:=Ld hok
 have HEM:Hid (l=[]→PmL (Full x y) ok w l (.slice a l.length c)):=Ld (fun e=>by
  subst e
  cases hk with
  | nil h=>exact .nil h
  | mk K M L hne=>exact absurd rfl hne)
 obtain⟨b,hb⟩:∃ b,l≠[]→a=some ⟨b,0,none⟩∧ok b∧l.length≤c∧MRow x y ok w b l 0:=by
  by_cases hne:l=[]
  ·exact⟨0,fun h=>absurd hne h⟩
  ·obtain⟨b,c',e,h1,h2,h3⟩:=MRow.of hk hne
   cases e
   exact⟨b,fun _=>⟨rfl,h1,h2,h3⟩⟩
 change Calls Tryz.prog 61 #[.agg #[.int .i64 op,.string nm,.int .i64 N,.int .i64 kd,.string m0,.slice va tys.length vc,.slice a l.length c],.string x,.string y] w _
 generalize hvn:tys.length=vn at *
 have K0:Kept (fun _=>False) w ((w.alloc (.cells #[.int .i64 op,.string nm,.int .i64 N,.int .i64 kd,.string m0,.slice va vn vc,.slice a l.length c] 27)).alloc Z7):=(kR.alloc _).alloc _
 have HROW:Hid (l≠[]→a=some ⟨b,0,none⟩∧ok b∧l.length≤c∧MRow x y ok ((w.alloc (.cells #[.int .i64 op,.string nm,.int .i64 N,.int .i64 kd,.string m0,.slice va vn vc,.slice a l.length c] 27)).alloc Z7) b l 0):=Ld (fun h=>by
  obtain⟨h1,h2,h3,h4⟩:=hb h
  exact⟨h1,h2,h3,h4.frame h2 (Rw.of_kept K0).bl⟩)
 have HC:Hid (Calls Tryz.prog 110 #[.agg #[.int .i64 kd,.string m0,.slice va vn vc],.string x,.string y] ((w.alloc (.cells #[.int .i64 op,.string nm,.int .i64 N,.int .i64 kd,.string m0,.slice va vn vc,.slice a l.length c] 27)).alloc Z7) fun e w'=>e=.returned (.agg #[.int .i64 kd,.string (rnN x y kd tn0),.slice va vn vc])∧Rw x y ok ((w.alloc (.cells #[.int .i64 op,.string nm,.int .i64 N,.int .i64 kd,.string m0,.slice va vn vc,.slice a l.length c] 27)).alloc Z7) w'∧PyL (Full x y) ok w' tys (.slice va vn vc)):=Ld (ca_any hbt ((w.alloc (.cells #[.int .i64 op,.string nm,.int .i64 N,.int .i64 kd,.string m0,.slice va vn vc,.slice a l.length c] 27)).alloc Z7) _ m0 (fun q hq=>by have h1:=hok q hq;have h2:=K0.size;omega) hp (ht.frame (fun _=>part_stay) (Rw.of_kept K0).bl))
 have BA:Hid (Blk ((w.alloc (.cells #[.int .i64 op,.string nm,.int .i64 N,.int .i64 kd,.string m0,.slice va vn vc,.slice a l.length c] 27)).alloc Z7) w.heap.size 27 [Value.int .i64 op,.string nm,.int .i64 N,.int .i64 kd,.string m0,.slice va vn vc,.slice a l.length c]):=Ld ((Blk.new w 27 _).alloc _)
 have BR:Hid (Blk ((w.alloc (.cells #[.int .i64 op,.string nm,.int .i64 N,.int .i64 kd,.string m0,.slice va vn vc,.slice a l.length c] 27)).alloc Z7) (w.heap.size+1) 27 [Value.int .i64 0,.string ⟨#[]⟩,.int .i64 0,.int .i64 0,.string ⟨#[]⟩,.slice none 0 0,.slice none 0 0]):=Ld (Blk.new' 27 _ (by simp))
 have HK:Hid (Rw x y ok w ((w.alloc (.cells #[.int .i64 op,.string nm,.int .i64 N,.int .i64 kd,.string m0,.slice va vn vc,.slice a l.length c] 27)).alloc Z7)):=Ld (Rw.of_kept K0)
 clear hk ht hp hb K0 IH hok hvn hbt
 generalize hrn:rnN x y kd tn0=rn at *
 have HRN:=Ld hrn
 clear hrn
 go_enter Tryz.func61,Tryz.ntmps61
 go_upto_region 1 with (fail)
 generalize ((w.alloc (.cells #[.int .i64 op,.string nm,.int .i64 N,.int .i64 kd,.string m0,.slice va vn vc,.slice a l.length c] 27)).alloc Z7)=w1 at *
 have gA:∀ i,w1.cell? ⟨w.heap.size,i,none⟩=[Value.int .i64 op,.string nm,.int .i64 N,.int .i64 kd,.string m0,.slice va vn vc,.slice a l.length c][i]?:=BA.out.cell
 go_wp2_with fail
 clear gA
 refine HC.out.mono ?_
 rintro e w2 ⟨rfl,r2,t2⟩
 have BA2:=Ld (r2.out BA.out (fun e=>by have:=HOK.out _ e;omega))
 have BR2:=Ld (r2.out BR.out (fun e=>by have:=HOK.out _ e;omega))
 have R2:=Ld r2
 have T2:=Ld t2
 clear r2 t2 HC BA BR
 have gA:∀ i,w2.cell? ⟨w.heap.size,i,none⟩=[Value.int .i64 op,.string nm,.int .i64 N,.int .i64 kd,.string m0,.slice va vn vc,.slice a l.length c][i]?:=BA2.out.cell
 have fA:∀ i,w2.frozen? ⟨w.heap.size,i,none⟩=false:=BA2.out.frozen
 go_upto_region 2 with (fail)
 clear gA fA
 have kS:Kept (·=w.heap.size) w2 (((w2.setCell ⟨w.heap.size,3,none⟩ (.int .i64 kd)).setCell ⟨w.heap.size,4,none⟩ (.string rn)).setCell ⟨w.heap.size,5,none⟩ (.slice va vn vc)):=(((Kept.refl (fun x=>x=w.heap.size) _).setCell (p:=⟨w.heap.size,3,none⟩) (Or.inl rfl) _).setCell (p:=⟨w.heap.size,4,none⟩) (Or.inl rfl) _).setCell (p:=⟨w.heap.size,5,none⟩) (Or.inl rfl) _
 have hkb:∀ q,ok q→¬ q=w.heap.size:=fun q hq=>by have:=HOK.out q hq;omega
 have I0:Hid (CmI x y ok w [Value.int .i64 op,.string nm,.int .i64 N,.int .i64 kd,.string rn,.slice va vn vc,.slice a l.length c] tys (.slice va vn vc) l a c b 0 (((w2.setCell ⟨w.heap.size,3,none⟩ (.int .i64 kd)).setCell ⟨w.heap.size,4,none⟩ (.string rn)).setCell ⟨w.heap.size,5,none⟩ (.slice va vn vc))):=Ld (by
  refine⟨(HK.out.trans R2.out).via kS (fun q hq e=>by have e':q=w.heap.size:=e;omega),((BA2.out.set 3 _).set 4 _).set 5 _,BR2.out.kept kS (by show ¬ w.heap.size+1=w.heap.size;omega),T2.out.frame (fun _=>full_stay) (RwB.of_kept kS hkb),fun hne=>?_⟩
  obtain⟨h1,h2,h3,h4⟩:=HROW.out hne
  exact⟨h1,h2,h3,(h4.frame h2 R2.out.bl).frame h2 (RwB.of_kept kS hkb)⟩)
 clear kS hkb HROW BR2 BA2 HK R2 T2
 generalize (((w2.setCell ⟨w.heap.size,3,none⟩ (.int .i64 kd)).setCell ⟨w.heap.size,4,none⟩ (.string rn)).setCell ⟨w.heap.size,5,none⟩ (.slice va vn vc))=w4 at *
 have gA:∀ i,w4.cell? ⟨w.heap.size,i,none⟩=[Value.int .i64 op,.string nm,.int .i64 N,.int .i64 kd,.string rn,.slice va vn vc,.slice a l.length c][i]?:=I0.out.bx.cell
 go_wp2_with fail
 clear gA
 go_loopw [18] (fun i wr=>∃ j:Nat,j≤l.length∧i=.int .i64 j∧Hid (CmI x y ok w [Value.int .i64 op,.string nm,.int .i64 N,.int .i64 kd,.string rn,.slice va vn vc,.slice a l.length c] tys (.slice va vn vc) l a c b j wr)) (fun i _=>l.length-(intOf i).toNat)
 case atStart=>exact⟨0,Nat.zero_le _,rfl,I0⟩
 case round=>
  clear I0
  obtain⟨j,hj,rfl,HI⟩:=hrel
  by_cases hlt:j<l.length
  ·have i1:(j:Int)<(l.length:Int):=by omega
   have i2:(j:Int)<1000000:=by have:=HN1.out;omega
   have hne:l≠[]:=fun e=>by subst e;simp at hlt
   obtain⟨ha,hbk,hbc,hrow⟩:=HI.out.row hne
   subst ha
   obtain⟨m,ta,tn,tc,ua,un,uc,⟨c0,c1,c2,c3,c4,c5,c6⟩,hpm,hpk,hpl⟩:=hrow.at hlt
   have HPM:=Ld hpm
   have HPK:=Ld hpk
   have HPL:=Ld hpl
   have HBK:=Ld hbk
   have HJ:=Ld (HIH.out _ (List.getElem_mem hlt))
   have lb:=hrow.lt
   clear hrow hpm hpk hpl hne hbk hbc
   go_upto_region 5 with (fail)
   have KB:Kept (fun _=>False) wr (wr.alloc (.cells #[.int .i64 l[j].op,.string l[j].name,.int .i64 l[j].n,.int .i64 l[j].ty.kind,.string m,.slice ta tn tc,.slice ua un uc] 27)):=kR.alloc _
   have BX:Hid (Blk (wr.alloc (.cells #[.int .i64 l[j].op,.string l[j].name,.int .i64 l[j].n,.int .i64 l[j].ty.kind,.string m,.slice ta tn tc,.slice ua un uc] 27)) wr.heap.size 27 [Value.int .i64 l[j].op,.string l[j].name,.int .i64 l[j].n,.int .i64 l[j].ty.kind,.string m,.slice ta tn tc,.slice ua un uc]):=Ld (Blk.new wr 27 _)
   have HI5:=Ld (HI.out.rwd HOK.out (Rw.of_kept KB))
   have HPK5:=Ld (HPK.out.frame (fun _=>part_stay) (Rw.of_kept KB).bl)
   have HPL5:=Ld (HPL.out.frame (fun _=>part_stay) (Rw.of_kept KB).bl)
   have d5:(wr.alloc (.cells #[.int .i64 l[j].op,.string l[j].name,.int .i64 l[j].n,.int .i64 l[j].ty.kind,.string m,.slice ta tn tc,.slice ua un uc] 27)).cell? ⟨b,j*7+5,none⟩=some (.slice ta tn tc):=by rw[KB.cell (p:=⟨b,j*7+5,none⟩) lb (fun h=>h)];exact c5
   have d6:(wr.alloc (.cells #[.int .i64 l[j].op,.string l[j].name,.int .i64 l[j].n,.int .i64 l[j].ty.kind,.string m,.slice ta tn tc,.slice ua un uc] 27)).cell? ⟨b,j*7+6,none⟩=some (.slice ua un uc):=by rw[KB.cell (p:=⟨b,j*7+6,none⟩) lb (fun h=>h)];exact c6
   have ZX:Hid (w.heap.size+2≤wr.heap.size):=Ld (by have:=HI.out.br.lt;omega)
   clear KB HI HPK HPL c0 c1 c2 c3 c4 c5 c6 lb
   generalize wr.alloc (.cells #[.int .i64 l[j].op,.string l[j].name,.int .i64 l[j].n,.int .i64 l[j].ty.kind,.string m,.slice ta tn tc,.slice ua un uc] 27)=v5 at *
   generalize wr.heap.size=X at *
   have HC5:=Ld d5
   have HC6:=Ld d6
   clear d5 d6
   have KD:Rw x y ok v5 v5.drew:=Rw.of_kept (kR.drew)
   refine wp_region_mono (L:=Rw x y ok) (fun i v W=>match i with
    | 0=>v=.pointer (some ⟨w.heap.size,6,none⟩)
    | 1=>v=.slice (some ⟨b,0,none⟩) l.length c
    | 2=>v=.int .i64 (j:Nat)
    | 3=>v=.agg #[.int .i64 l[j].op,.string l[j].name,.int .i64 l[j].n,.int .i64 l[j].ty.kind,.string m,.slice ta tn tc,.slice ua un uc]
    | 4=>v=.string x
    | 5=>v=.string y
    | 6=>v=.agg #[.int .i64 l[j].op,.string l[j].name,.int .i64 l[j].n,.int .i64 l[j].ty.kind,.string (rnN x y l[j].ty.kind l[j].ty.name),.slice ta tn tc,.slice ua un uc]∧PyL (Full x y) ok W l[j].ty.kids (.slice ta tn tc)∧PmL (Full x y) ok W l[j].kids (.slice ua un uc)
    | _=>True) [7,8] [] 33 (by kernel_rfl) rfl (by kernel_rfl) (by kernel_rfl) (fun w=>Rw.refl) (fun _ _ _ h1 h2=>h1.trans h2) (fun c d v a w h=>by cases d <;> exact h) ?_ ?_
   ·refine allM_cons rfl (stepM_of [] rfl fun W k=>allV_nil ?_) ?_
    ·refine opW_go rfl fun K hK=>?_
     go_simp
     exact hK _ _ (KT.mk Rw.refl rfl 23 rfl rfl)
    refine allM_cons rfl (stepM_of [0] rfl fun W k=>allV_some 23 rfl fun v0 h0=>allV_nil ?_) ?_
    ·obtain⟨w1,k1,rfl⟩:=h0
     have q:=KD.trans k
     have gX:∀ i,W.cell? ⟨w.heap.size,i,none⟩=[Value.int .i64 op,.string nm,.int .i64 N,.int .i64 kd,.string rn,.slice va vn vc,.slice (some ⟨b,0,none⟩) l.length c][i]?:=(q.out HI5.out.bx (fun e=>by have:=HOK.out _ e;omega)).cell
     refine opW_go rfl fun K hK=>?_
     go_simp
     exact hK _ _ (KT.mk Rw.refl rfl 24 rfl rfl)
    refine allM_cons rfl (stepM_of [] rfl fun W k=>allV_nil ?_) ?_
    ·refine opW_go rfl fun K hK=>?_
     go_simp
     exact hK _ _ (KT.mk Rw.refl rfl 25 rfl rfl)
    refine allM_cons rfl (stepM_of [] rfl fun W k=>allV_nil ?_) ?_
    ·have q:=KD.trans k
     have gX:∀ i,W.cell? ⟨X,i,none⟩=[Value.int .i64 l[j].op,.string l[j].name,.int .i64 l[j].n,.int .i64 l[j].ty.kind,.string m,.slice ta tn tc,.slice ua un uc][i]?:=(q.out BX.out (fun e=>by have:=HOK.out _ e;have:=ZX.out;omega)).cell
     refine opW_go rfl fun K hK=>?_
     go_simp
     exact hK _ _ (KT.mk Rw.refl rfl 26 rfl rfl)
    refine allM_cons rfl (stepM_of [] rfl fun W k=>allV_nil ?_) ?_
    ·refine opW_go rfl fun K hK=>?_
     go_simp
     exact hK _ _ (KT.mk Rw.refl rfl 27 rfl rfl)
    refine allM_cons rfl (stepM_of [] rfl fun W k=>allV_nil ?_) ?_
    ·refine opW_go rfl fun K hK=>?_
     go_simp
     exact hK _ _ (KT.mk Rw.refl rfl 28 rfl rfl)
    refine allM_cons rfl (stepM_of [3,4,5] rfl fun W k=>allV_some 26 rfl fun v0 h0=>allV_some 27 rfl fun v1 h1=>allV_some 28 rfl fun v2 h2=>allV_nil ?_) ?_
    ·obtain⟨w1,k1,rfl⟩:=h0
     obtain⟨w2,k2,rfl⟩:=h1
     obtain⟨w3,k3,rfl⟩:=h2
     have q:=KD.trans k
     refine opW_go rfl fun K hK=>?_
     go_simp
     go_at_call 61
     refine (HJ.out W _ _ m (fun z hz=>by have h1:=HOK.out z hz;have h2:=HI5.out.rr.kp.size;have h3:=q.kp.size;omega) HPM.out (HPK5.out.frame (fun _=>part_stay) q.bl) (HPL5.out.frame (fun _=>part_stay) q.bl)).mono ?_
     rintro e w' ⟨rfl,h5,h6,h7⟩
     exact hK _ _ (KT.mk h5 rfl 29 rfl ⟨rfl,h6,h7⟩)
    refine allM_tail rfl ?_
    refine allM_tail rfl ?_
    exact allM_nil
   ·intro W kW
    have hh:(List.range 9).filter (fun i=>!([7,8]:List Nat).contains i)=[0,1,2,3,4,5,6]:=by decide
    change allV _ _ _ _ _ ((List.range 9).filter (fun i=>!([7,8]:List Nat).contains i)) _
    rw[hh]
    generalize hKK:(fun a1=>wpList Tryz.prog _ _ (pickT [7,8] 0 _) a1 W)=KK
    refine allV_some 23 (by kernel_rfl) ?_
    intro v0 h0
    refine allV_some 24 (by kernel_rfl) ?_
    intro v1 h1
    refine allV_some 25 (by kernel_rfl) ?_
    intro v2 h2
    refine allV_some 26 (by kernel_rfl) ?_
    intro v3 h3
    refine allV_some 27 (by kernel_rfl) ?_
    intro v4 h4
    refine allV_some 28 (by kernel_rfl) ?_
    intro v5 h5
    refine allV_some 29 (by kernel_rfl) ?_
    intro v6 h6
    refine allV_nil ?_
    obtain⟨w0,k0,rfl⟩:=h0
    obtain⟨w1,k1,rfl⟩:=h1
    obtain⟨w2,k2,rfl⟩:=h2
    obtain⟨w3,k3,rfl⟩:=h3
    obtain⟨w4,k4,rfl⟩:=h4
    obtain⟨w5,k5,rfl⟩:=h5
    obtain⟨w6,k6,rfl,hq,hr⟩:=h6
    subst hKK
    have KW:Rw x y ok v5 W:=KD.trans kW
    obtain⟨_,hbk,_,hrow5⟩:=HI5.out.row (fun e=>by subst e;simp at hlt)
    have hc5:=hrow5.kcell hbk KW.bl (by omega) HC5.out
    have hc6:=hrow5.kcell hbk KW.bl (by omega) HC6.out
    have HS:=Ld ((HI5.out.rwd HOK.out KW).step HOK.out hlt hc5 hc6 (hq.frame (fun _=>full_stay) k6.bl) (hr.frame (fun _=>full_stay) k6.bl))
    have hrowW:=hrow5.frame hbk KW.bl
    obtain⟨m2,ta2,tn2,tc2,ua2,un2,uc2,⟨e0,e1,e2,e3,e4,e5,e6⟩,_,_⟩:=hrowW.at hlt
    have f0:=hrowW.fz (j*7)
    have f1:=hrowW.fz (j*7+1)
    have f2:=hrowW.fz (j*7+2)
    have f3:=hrowW.fz (j*7+3)
    have f4:=hrowW.fz (j*7+4)
    have f5:=hrowW.fz (j*7+5)
    have f6:=hrowW.fz (j*7+6)
    clear hq hr k0 k1 k2 k3 k4 k5 k6 hh HJ hrow5 hrowW hc5 hc6 HI5 HPK5 HPL5 HPM HBK BX HC5 HC6 hbk
    show wpList Tryz.prog _ _ [_,_] _ W
    simp only[Act.put,List.setIfInBounds_toArray,List.set_cons_succ,List.set_cons_zero]
    go_wp2_with fail
    go_roundw
    case rel=>exact⟨j+1,by omega,by go_num,HS⟩
    case measure=>simp[intOf];omega
  ·obtain rfl:j=l.length:=by omega
   have i1:¬ (l.length:Int)<(l.length:Int):=by omega
   have gA:∀ i,wr.cell? ⟨w.heap.size,i,none⟩=[Value.int .i64 op,.string nm,.int .i64 N,.int .i64 kd,.string rn,.slice va vn vc,.slice a l.length c][i]?:=HI.out.bx.cell
   have gR:∀ i,wr.cell? ⟨w.heap.size+1,i,none⟩=[Value.int .i64 0,.string ⟨#[]⟩,.int .i64 0,.int .i64 0,.string ⟨#[]⟩,.slice none 0 0,.slice none 0 0][i]?:=HI.out.br.cell
   have fR:∀ i,wr.frozen? ⟨w.heap.size+1,i,none⟩=false:=HI.out.br.frozen
   clear hlt
   go_wp2_with fail
   have bF:=r7 (x0:=.int .i64 op) (x1:=.string nm) (x2:=.int .i64 N) (x3:=.int .i64 kd) (x4:=.string rn) (x5:=.slice va vn vc) (x6:=.slice a l.length c) HI.out.br rfl
   have kS:Kept (·=w.heap.size+1) wr (((((((wr.setCell ⟨w.heap.size+1,0,none⟩ (.int .i64 op)).setCell ⟨w.heap.size+1,1,none⟩ (.string nm)).setCell ⟨w.heap.size+1,2,none⟩ (.int .i64 N)).setCell ⟨w.heap.size+1,3,none⟩ (.int .i64 kd)).setCell ⟨w.heap.size+1,4,none⟩ (.string rn)).setCell ⟨w.heap.size+1,5,none⟩ (.slice va vn vc)).setCell ⟨w.heap.size+1,6,none⟩ (.slice a l.length c)):=k7w (Kept.refl (fun x=>x=w.heap.size+1) _) (Or.inl rfl)
   have hRw:Rw x y ok w (((((((wr.setCell ⟨w.heap.size+1,0,none⟩ (.int .i64 op)).setCell ⟨w.heap.size+1,1,none⟩ (.string nm)).setCell ⟨w.heap.size+1,2,none⟩ (.int .i64 N)).setCell ⟨w.heap.size+1,3,none⟩ (.int .i64 kd)).setCell ⟨w.heap.size+1,4,none⟩ (.string rn)).setCell ⟨w.heap.size+1,5,none⟩ (.slice va vn vc)).setCell ⟨w.heap.size+1,6,none⟩ (.slice a l.length c)):=HI.out.rr.via kS (fun q hq e=>by have e':q=w.heap.size+1:=e;omega)
   have hkb:RwB x y ok wr (((((((wr.setCell ⟨w.heap.size+1,0,none⟩ (.int .i64 op)).setCell ⟨w.heap.size+1,1,none⟩ (.string nm)).setCell ⟨w.heap.size+1,2,none⟩ (.int .i64 N)).setCell ⟨w.heap.size+1,3,none⟩ (.int .i64 kd)).setCell ⟨w.heap.size+1,4,none⟩ (.string rn)).setCell ⟨w.heap.size+1,5,none⟩ (.slice va vn vc)).setCell ⟨w.heap.size+1,6,none⟩ (.slice a l.length c)):=RwB.of_kept kS (fun q hq=>by have:=HOK.out q hq;show ¬ q=w.heap.size+1;omega)
   refine bodyPost_ret (results_one Tryz.results61 rfl (load_tm (t:=.mk op nm N (.mk kd rn tys) l) bF)) rfl ⟨by show _=Ending.returned (.agg #[.int .i64 op,.string nm,.int .i64 N,.int .i64 kd,.string (rnN x y kd tn0),.slice va vn vc,.slice a l.length c]);rw[HRN.out];rfl,hRw,HI.out.ty.frame (fun _=>full_stay) hkb,?_⟩
   show PmL (Full x y) ok _ l _
   by_cases hne:l=[]
   ·exact (HEM.out hne).frame (fun _=>full_stay) hRw.bl
   ·obtain⟨ha,hbk,hbc,hrow⟩:=HI.out.row hne
    subst ha
    exact MRow.whole (hrow.frame hbk hkb) hne hbk hbc
theorem cm_any {x y:ByteArray} {ok:Nat→Prop} {t:Tm} (hb:BdTm t):CmC x y ok t:=by
 induction hb with
 | mk hn ht hl ih=>
  rename_i op nm N ty l
  obtain⟨kd,tn0,tys⟩:=ty
  exact cm_one ht hn ih
def wgI (o:Option Nat):Int:=match o with | some m=>m | none=>-1
def WgC (bz:Nat) (t:Tm):Prop:=∀ (l:List (ByteArray×Tm)) (B:List ByteArray) (n at_:Nat) (w:World) (ok okb okB:Nat→Prop) (tk kk vl v:Value),TyL bz ok w t.ty.kids tk→TmL bz ok w t.kids kk→BnL bz okb w l vl→(∀ b,b∈l→SmTm big b.2∧validB b.2=true)→l.length≤1000→NmL okB w B v→B.length+tmD t≤900000→n≤2000→at_+tmD t≤900000 →
 Calls Tryz.prog 112 #[tmVal t tk kk,vl,v,.int .i64 n,.int .i64 at_] w fun e w'=>e=.returned (.int .i64 (wgI (wgT l B n at_ t)))∧Kept (fun _=>False) w w'
theorem wgTs_drop {l:List (ByteArray×Tm)} {B:List ByteArray} {bi:Bool} {nm:ByteArray} {n at_:Nat} {ks:List Tm} {k:Nat} (h:k<ks.length):wgTs l B bi nm k n at_ (ks.drop k)=(match wgT l (if bi&&k==1 then B++[nm] else B) n at_ ks[k] with | none=>none | some m=>wgTs l B bi nm (k+1) m at_ (ks.drop (k+1))):=by
 rw[List.drop_eq_getElem_cons h,wgTs]
 cases wgT l (if bi&&k==1 then B++[nm] else B) n at_ ks[k] <;> rfl
mutual
theorem wgT_le (l:List (ByteArray×Tm)):∀ (t:Tm) (B:List ByteArray) (n at_ m:Nat),wgT l B n at_ t=some m→m≤2000
 | .mk op nm N ty ks,B,n,at_,m,h=>by
  rw[wgT] at h
  split at h
  ·split at h
   ·cases h
   ·cases h;omega
  ·split at h
   ·cases h
   ·exact wgTs_le l ks B _ nm 0 _ _ m (by omega) h
theorem wgTs_le (l:List (ByteArray×Tm)):∀ (ks:List Tm) (B:List ByteArray) (bi:Bool) (nm:ByteArray) (i n at_ m:Nat),n≤2000→wgTs l B bi nm i n at_ ks=some m→m≤2000
 | [],B,bi,nm,i,n,at_,m,hn,h=>by rw[wgTs] at h;cases h;exact hn
 | t::ks,B,bi,nm,i,n,at_,m,hn,h=>by
  rw[wgTs] at h
  split at h
  ·cases h
  ·rename_i k hk
   exact wgTs_le l ks B bi nm (i+1) k at_ m (wgT_le l t _ _ _ _ hk) h
end
theorem rwg_name {nm:ByteArray} {N:Int} {ty:Ty}:WgC bz (.mk 20 nm N ty []):=by
 intro l B n at_ w ok okb okB tk kk vl v h1 h2 hB hl hll hN hd hn hat
 have h1:TyL bz ok w ty.kids tk:=h1
 have h2:TmL bz ok w [] kk:=h2
 obtain⟨a,an,ac,rfl⟩:=h1.slice
 obtain⟨ma,mn,mc,rfl⟩:=h2.slice
 obtain rfl:mn=0:=h2.len
 have hD:tmD (.mk 20 nm N ty [])=1:=rfl
 rw[hD] at hd hat
 change Calls Tryz.prog 112 #[.agg #[.int .i64 20,.string nm,.int .i64 N,.int .i64 ty.kind,.string ty.name,.slice a an ac,.slice ma 0 mc],vl,v,.int .i64 n,.int .i64 at_] w _
 have K1:Kept (fun _=>False) w (w.alloc (.cells #[.int .i64 20,.string nm,.int .i64 N,.int .i64 ty.kind,.string ty.name,.slice a an ac,.slice ma 0 mc] 27)):=kR.alloc _
 have HI:=Ld (rinN_any nm (hN.frame (sK K1)) (by omega))
 have HBO:=Ld (fun W (k:Kept (fun _=>False) w W)=>rbof_any nm (hB.frame (sK k)) (by omega))
 have HSU:Hid (∀ u,look l nm=some u→SmTm big u∧szA u=(tmN u:Int)∧szB u=(tmD u:Int)∧tmN u≤2000∧tmD u≤64):=Ld (fun u hu=>by
  obtain⟨b,hb,rfl⟩:=look_mem hu
  have h:=hl b hb
  have h3:=(valid_iff b.2).1 h.2
  exact⟨h.1,by unfold szA;rw[h.2];rfl,by unfold szB;rw[h.2];rfl,h3.2.1,h3.2.2⟩)
 have HR:Hid (wgT l B n at_ (.mk 20 nm N ty [])=if (mb nm B=false∧(look l nm).isSome=true) then
   (if n+tmN ((look l nm).getD tm0) > 2000∨at_+tmD ((look l nm).getD tm0) > 65 then none else some (n+tmN ((look l nm).getD tm0)))
  else if n+1 > 2000∨at_ > 64 then none else some (n+1)):=Ld (by
  rw[wgT];simp only[true_and];rfl)
 have HK:=Ld K1
 have HN:=Ld (⟨hn,hat⟩:_∧_)
 obtain⟨va,vc,rfl⟩:=hN.slice
 obtain⟨la,lc,rfl⟩:=hB.slice
 clear h1 h2 hB hd hN hll hl K1 hn hat hD
 generalize wgT l B n at_ (.mk 20 nm N ty [])=r at *
 go_enter Tryz.func112,Tryz.ntmps112
 go_upto_region 1 with (fail)
 have bA:=Ld (Blk.new w 27 [Value.int .i64 20,.string nm,.int .i64 N,.int .i64 ty.kind,.string ty.name,.slice a an ac,.slice ma 0 mc])
 change Hid (Blk (w.alloc (.cells #[.int .i64 20,.string nm,.int .i64 N,.int .i64 ty.kind,.string ty.name,.slice a an ac,.slice ma 0 mc] 27)) _ _ _) at bA
 generalize w.alloc (.cells #[.int .i64 20,.string nm,.int .i64 N,.int .i64 ty.kind,.string ty.name,.slice a an ac,.slice ma 0 mc] 27)=w1 at *
 have gA:∀ i,w1.cell? ⟨w.heap.size,i,none⟩=[Value.int .i64 20,.string nm,.int .i64 N,.int .i64 ty.kind,.string ty.name,.slice a an ac,.slice ma 0 mc][i]?:=bA.out.cell
 go_wp2_with fail
 refine HI.out.mono ?_
 rintro e w2 ⟨rfl,rfl⟩
 clear HI
 cases hm:mb nm B
 ·have HBO1:=Ld (HBO.out w1 HK.out)
  clear HBO
  go_wp2_with fail
  refine HBO1.out.mono ?_
  unfold BofP
  cases hu:look l nm with
  | some u=>
   obtain⟨hu1,hu2,hu3,hu4,hu5⟩:=HSU.out u hu
   rintro e w3 ⟨ta',ka',rfl,hty,htm,k3⟩
   have hty:TyL bz _ w3 u.ty.kids ta':=hty
   have htm:TmL bz _ w3 u.kids ka':=htm
   obtain⟨ta,tn,tc,rfl⟩:=hty.slice
   obtain⟨qa,qn,qc,rfl⟩:=htm.slice
   have HQ:Hid (r=if n+tmN u > 2000∨at_+tmD u > 65 then none else some (n+tmN u)):=Ld (by rw[HR.out,hm,hu];simp only[Option.isSome_some,and_self,if_true,Option.getD_some])
   have k4:Kept (fun _=>False) w3 (w3.alloc (.cells #[.int .i64 u.op,.string u.name,.int .i64 u.n,.int .i64 u.ty.kind,.string u.ty.name,.slice ta tn tc,.slice qa qn qc] 27)):=kR.alloc _
   have HSZ:=Ld (rsize_of (hty.frame (Same.of_kept (ok:=fun _=>True) k4 (fun _ _ e=>e) |> fun s=>by exact sK k4)) (htm.frame (sK k4)) hu1)
   rw[hu2,hu3] at HSZ
   have K4:=Ld ((HK.out.trans k3).trans k4)
   clear hu HR HSU hm HBO1 hty htm hu1 hu2 hu3 k3 HK
   unfold tmVal
   simp only[Option.getD_some,Option.isSome_some]
   have HNM:Hid (tmN u≤2000∧tmD u≤64):=Ld ⟨hu4,hu5⟩
   clear hu4 hu5 k4
   go_upto_region 3 with (fail)
   have bU:=Ld (Blk.new w3 27 [Value.int .i64 u.op,.string u.name,.int .i64 u.n,.int .i64 u.ty.kind,.string u.ty.name,.slice ta tn tc,.slice qa qn qc])
   change Hid (Blk (w3.alloc (.cells #[.int .i64 u.op,.string u.name,.int .i64 u.n,.int .i64 u.ty.kind,.string u.ty.name,.slice ta tn tc,.slice qa qn qc] 27)) w3.heap.size _ _) at bU
   generalize w3.alloc (.cells #[.int .i64 u.op,.string u.name,.int .i64 u.n,.int .i64 u.ty.kind,.string u.ty.name,.slice ta tn tc,.slice qa qn qc] 27)=w4 at *
   generalize w3.heap.size=Q at *
   have gU:∀ i,w4.cell? ⟨Q,i,none⟩=[Value.int .i64 u.op,.string u.name,.int .i64 u.n,.int .i64 u.ty.kind,.string u.ty.name,.slice ta tn tc,.slice qa qn qc][i]?:=bU.out.cell
   clear gA
   go_wp2_with fail
   refine HSZ.out.mono ?_
   rintro e w5 ⟨rfl,k5⟩
   have K5:=Ld (K4.out.trans k5)
   clear k5 HSZ gU
   have wr1:IntKind.i64.wrap ((n:Int)+(tmN u:Int))=(n:Int)+(tmN u:Int):=by rw[IntKind.wrap_i64];have:=HNM.out;have:=HN.out;omega
   have wr2:IntKind.i64.wrap ((at_:Int)+(tmD u:Int))=(at_:Int)+(tmD u:Int):=by rw[IntKind.wrap_i64];have:=HNM.out;have:=HN.out;omega
   have wr3:IntKind.i64.wrap ((at_:Int)+(tmD u:Int)-1)=(at_:Int)+(tmD u:Int)-1:=by rw[IntKind.wrap_i64];have:=HNM.out;have:=HN.out;omega
   by_cases hc1:n+tmN u > 2000
   ·have t1:decide ((2000:Int)<(n:Int)+(tmN u:Int))=true:=decide_eq_true (by omega)
    have HE:Hid (r=none):=Ld (by rw[HQ.out,if_pos (Or.inl hc1)])
    clear hc1
    go_wp2_with fail
    go_ret
    exact⟨by rw[HE.out];rfl,K5.out⟩
   ·have t1:decide ((2000:Int)<(n:Int)+(tmN u:Int))=false:=decide_eq_false (by omega)
    by_cases hc2:at_+tmD u > 65
    ·have t2:decide ((64:Int)<(at_:Int)+(tmD u:Int)-1)=true:=decide_eq_true (by omega)
     have HE:Hid (r=none):=Ld (by rw[HQ.out,if_pos (Or.inr hc2)])
     clear hc1 hc2
     go_wp2_with fail
     go_ret
     exact⟨by rw[HE.out];rfl,K5.out⟩
    ·have t2:decide ((64:Int)<(at_:Int)+(tmD u:Int)-1)=false:=decide_eq_false (by omega)
     have HE:Hid (r=some (n+tmN u)):=Ld (by rw[HQ.out,if_neg (by omega)])
     clear hc1 hc2
     go_wp2_with fail
     go_ret
     exact⟨by rw[HE.out];show Ending.returned (.int .i64 ((n:Int)+(tmN u:Int)))=Ending.returned (.int .i64 ((n+tmN u:Nat):Int));rw[Int.natCast_add],K5.out⟩
  | none=>
   rintro e w3 ⟨ta',ka',rfl,hty,htm,k3⟩
   have hty:TyL bz _ w3 [] ta':=hty
   have htm:TmL bz _ w3 [] ka':=htm
   obtain⟨ta,tn,tc,rfl⟩:=hty.slice
   obtain⟨qa,qn,qc,rfl⟩:=htm.slice
   have HQ:Hid (r=if n+1 > 2000∨at_ > 64 then none else some (n+1)):=Ld (by rw[HR.out,hu];simp only[Option.isSome_none,Bool.false_eq_true,and_false,if_false])
   have BA:=Ld (bA.out.kept k3 (fun e=>e))
   have K3:=Ld (HK.out.trans k3)
   clear hu HR HSU hm HBO1 hty htm k3 HK gA bA
   simp only[Option.getD_none,Option.isSome_none]
   rw[show tmVal tm0 (.slice ta tn tc) (.slice qa qn qc)=.agg #[.int .i64 0,.string ⟨#[]⟩,.int .i64 0,.int .i64 0,.string ⟨#[]⟩,.slice ta tn tc,.slice qa qn qc] from rfl]
   go_upto_region 3 with (fail)
   have K4:=Ld (K3.out.alloc (.cells #[.int .i64 0,.string ⟨#[]⟩,.int .i64 0,.int .i64 0,.string ⟨#[]⟩,.slice ta tn tc,.slice qa qn qc] 27))
   have B4:=Ld (BA.out.alloc (.cells #[.int .i64 0,.string ⟨#[]⟩,.int .i64 0,.int .i64 0,.string ⟨#[]⟩,.slice ta tn tc,.slice qa qn qc] 27))
   generalize w3.alloc (.cells #[.int .i64 0,.string ⟨#[]⟩,.int .i64 0,.int .i64 0,.string ⟨#[]⟩,.slice ta tn tc,.slice qa qn qc] 27)=w4 at *
   clear K3 BA
   have gA:∀ i,w4.cell? ⟨w.heap.size,i,none⟩=[Value.int .i64 20,.string nm,.int .i64 N,.int .i64 ty.kind,.string ty.name,.slice a an ac,.slice ma 0 mc][i]?:=B4.out.cell
   have wr1:IntKind.i64.wrap ((n:Int)+1)=(n:Int)+1:=by rw[IntKind.wrap_i64];have:=HN.out;omega
   by_cases hc1:n+1 > 2000
   ·have t1:decide ((2000:Int)<(n:Int)+1)=true:=decide_eq_true (by omega)
    have HE:Hid (r=none):=Ld (by rw[HQ.out,if_pos (Or.inl hc1)])
    clear hc1
    go_wp2_with fail
    go_ret
    exact⟨by rw[HE.out];rfl,K4.out⟩
   ·have t1:decide ((2000:Int)<(n:Int)+1)=false:=decide_eq_false (by omega)
    by_cases hc2:at_ > 64
    ·have t2:decide ((64:Int)<(at_:Int))=true:=decide_eq_true (by omega)
     have HE:Hid (r=none):=Ld (by rw[HQ.out,if_pos (Or.inr hc2)])
     clear hc1 hc2
     go_wp2_with fail
     go_ret
     exact⟨by rw[HE.out];rfl,K4.out⟩
    ·have t2:decide ((64:Int)<(at_:Int))=false:=decide_eq_false (by omega)
     have HE:Hid (r=some (n+1)):=Ld (by rw[HQ.out,if_neg (by omega)])
     clear hc1 hc2
     go_wp2_with fail
     go_loopw [3,15,16] (fun v i b wr=>v=.int .i64 ((n:Int)+1)∧i=.int .i64 0∧wr=w4) (fun _ _ _ _=>0)
     case atStart=>exact⟨rfl,rfl,rfl⟩
     case round=>
      obtain⟨rfl,rfl,rfl⟩:=hrel
      go_wp2_with fail
      go_ret
      exact⟨by rw[HE.out];rfl,K4.out⟩
 ·have HQ:Hid (r=if n+1 > 2000∨at_ > 64 then none else some (n+1)):=Ld (by rw[HR.out,hm];simp only[Bool.true_eq_false,false_and,if_false])
  have K4:=Ld HK.out
  clear HR HSU hm HBO HK
  have wr1:IntKind.i64.wrap ((n:Int)+1)=(n:Int)+1:=by rw[IntKind.wrap_i64];have:=HN.out;omega
  by_cases hc1:n+1 > 2000
  ·have t1:decide ((2000:Int)<(n:Int)+1)=true:=decide_eq_true (by omega)
   have HE:Hid (r=none):=Ld (by rw[HQ.out,if_pos (Or.inl hc1)])
   clear hc1
   go_wp2_with fail
   go_ret
   exact⟨by rw[HE.out];rfl,K4.out⟩
  ·have t1:decide ((2000:Int)<(n:Int)+1)=false:=decide_eq_false (by omega)
   by_cases hc2:at_ > 64
   ·have t2:decide ((64:Int)<(at_:Int))=true:=decide_eq_true (by omega)
    have HE:Hid (r=none):=Ld (by rw[HQ.out,if_pos (Or.inr hc2)])
    clear hc1 hc2
    go_wp2_with fail
    go_ret
    exact⟨by rw[HE.out];rfl,K4.out⟩
   ·have t2:decide ((64:Int)<(at_:Int))=false:=decide_eq_false (by omega)
    have HE:Hid (r=some (n+1)):=Ld (by rw[HQ.out,if_neg (by omega)])
    clear hc1 hc2
    go_wp2_with fail
    go_loopw [3,15,16] (fun v i b wr=>v=.int .i64 ((n:Int)+1)∧i=.int .i64 0∧wr=w1) (fun _ _ _ _=>0)
    case atStart=>exact⟨rfl,rfl,rfl⟩
    case round=>
     obtain⟨rfl,rfl,rfl⟩:=hrel
     go_wp2_with fail
     go_ret
     exact⟨by rw[HE.out];rfl,K4.out⟩
theorem rwg_one {op:Int} {nm:ByteArray} {N:Int} {ty:Ty} {ks:List Tm} (hop:op≠20) (IH:∀ u,u∈ks→WgC bz u) (hkn:ks.length≤1000000):WgC bz (.mk op nm N ty ks):=by
 intro l B n at_ w ok okb okB tk kk vl v h1 h2 hB hl hll hN hd hn hat
 have h1:TyL bz ok w ty.kids tk:=h1
 have h2:TmL bz ok w ks kk:=h2
 obtain⟨a,an,ac,rfl⟩:=h1.slice
 obtain⟨ma,mn,mc,rfl⟩:=h2.slice
 obtain rfl:mn=ks.length:=h2.len
 rw[tmD] at hd hat
 change Calls Tryz.prog 112 #[.agg #[.int .i64 op,.string nm,.int .i64 N,.int .i64 ty.kind,.string ty.name,.slice a an ac,.slice ma ks.length mc],vl,v,.int .i64 n,.int .i64 at_] w _
 have K1:Kept (fun _=>False) w (w.alloc (.cells #[.int .i64 op,.string nm,.int .i64 N,.int .i64 ty.kind,.string ty.name,.slice a an ac,.slice ma ks.length mc] 27)):=kR.alloc _
 have hop2:(op==20)=false:=by simp[hop]
 have HNF:=Ld (fun W (k:Kept (fun _=>False) w W)=>hN.frame (sK k))
 have HAT:=Ld (fun W (k:Kept (fun _=>False) w W)=>(h2.frame (sK k)).at)
 have HIH:=Ld (fun (u:Tm) (hu:u∈ks) (B':List ByteArray) (m:Nat) (v' tk' kk':Value) (ok3 ok4:Nat→Prop) W (k:Kept (fun _=>False) w W) (h3:TyL bz ok3 W u.ty.kids tk') (h4:TmL bz ok3 W u.kids kk') (h5:NmL ok4 W B' v') (h6:B'.length≤B.length+1) (h7:m≤2000)=>IH u hu l B' m (at_+1) W ok3 okb ok4 tk' kk' vl v' h3 h4 (hB.frame (sK k)) hl hll h5 (by have:=tmDs_mem hu;omega) h7 (by have:=tmDs_mem hu;omega))
 unfold tmVal at HIH
 have HR:Hid (wgT l B n at_ (.mk op nm N ty ks)=if n+1 > 2000∨at_ > 64 then none else wgTs l B (binderB op) nm 0 (n+1) (at_+1) ks):=Ld (by
  rw[wgT,if_neg (fun h=>hop h.1)])
 have HK:=Ld K1
 have HN:=Ld (⟨hn,hat,hd,hkn⟩:_∧_∧_∧_)
 obtain⟨va,vc,rfl⟩:=hN.slice
 obtain⟨la,lc,rfl⟩:=hB.slice
 clear h1 h2 hB hd hN hll hl K1 hn hat hop IH hkn
 generalize wgT l B n at_ (.mk op nm N ty ks)=r at *
 go_enter Tryz.func112,Tryz.ntmps112
 go_upto_region 1 with (fail)
 have bA:=Ld (Blk.new w 27 [Value.int .i64 op,.string nm,.int .i64 N,.int .i64 ty.kind,.string ty.name,.slice a an ac,.slice ma ks.length mc])
 change Hid (Blk (w.alloc (.cells #[.int .i64 op,.string nm,.int .i64 N,.int .i64 ty.kind,.string ty.name,.slice a an ac,.slice ma ks.length mc] 27)) _ _ _) at bA
 generalize w.alloc (.cells #[.int .i64 op,.string nm,.int .i64 N,.int .i64 ty.kind,.string ty.name,.slice a an ac,.slice ma ks.length mc] 27)=w1 at *
 have gA:∀ i,w1.cell? ⟨w.heap.size,i,none⟩=[Value.int .i64 op,.string nm,.int .i64 N,.int .i64 ty.kind,.string ty.name,.slice a an ac,.slice ma ks.length mc][i]?:=bA.out.cell
 have wr1:IntKind.i64.wrap ((n:Int)+1)=(n:Int)+1:=by rw[IntKind.wrap_i64];have:=HN.out.1;omega
 by_cases hc1:n+1 > 2000
 ·have t1:decide ((2000:Int)<(n:Int)+1)=true:=decide_eq_true (by omega)
  have HE:Hid (r=none):=Ld (by rw[HR.out,if_pos (Or.inl hc1)])
  clear hc1
  go_wp2_with fail
  go_ret
  exact⟨by rw[HE.out];rfl,HK.out⟩
 ·have t1:decide ((2000:Int)<(n:Int)+1)=false:=decide_eq_false (by omega)
  by_cases hc2:at_ > 64
  ·have t2:decide ((64:Int)<(at_:Int))=true:=decide_eq_true (by omega)
   have HE:Hid (r=none):=Ld (by rw[HR.out,if_pos (Or.inr hc2)])
   clear hc1 hc2
   go_wp2_with fail
   go_ret
   exact⟨by rw[HE.out];rfl,HK.out⟩
  ·have t2:decide ((64:Int)<(at_:Int))=false:=decide_eq_false (by omega)
   have HE:Hid (r=wgTs l B (binderB op) nm 0 (n+1) (at_+1) ks):=Ld (by rw[HR.out,if_neg (by omega)])
   have HM0:Hid (n+1≤2000):=Ld (by omega)
   clear hc1 hc2 HR
   go_wp2_with fail
   clear t1 t2 wr1 gA
   go_loopw [3,15,16] (fun v i b wr=>∃ (k m:Nat),k≤ks.length∧v=.int .i64 m∧i=.int .i64 k∧Hid (m≤2000∧Kept (fun _=>False) w wr∧Blk wr w.heap.size 27 [Value.int .i64 op,.string nm,.int .i64 N,.int .i64 ty.kind,.string ty.name,.slice a an ac,.slice ma ks.length mc]∧r=wgTs l B (binderB op) nm k m (at_+1) (ks.drop k))) (fun v i b _=>ks.length-(intOf i).toNat)
   case atStart=>exact⟨0,n+1,Nat.zero_le _,by rw[Int.natCast_add];rfl,rfl,Ld ⟨HM0.out,HK.out,bA.out,HE.out⟩⟩
   case round=>
    obtain⟨k,m,hkl,rfl,rfl,hq⟩:=hrel
    clear HE HM0 HK bA
    have gA:∀ i,wr.cell? ⟨w.heap.size,i,none⟩=[Value.int .i64 op,.string nm,.int .i64 N,.int .i64 ty.kind,.string ty.name,.slice a an ac,.slice ma ks.length mc][i]?:=hq.out.2.2.1.cell
    by_cases hlt:k<ks.length
    ·have i1:(k:Int)<(ks.length:Int):=by omega
     have i2:(k:Int)<1000000:=by have:=HN.out.2.2.2;omega
     have wr2:IntKind.i64.wrap ((at_:Int)+1)=(at_:Int)+1:=by rw[IntKind.wrap_i64];have:=HN.out.2.1;omega
     obtain⟨g,off,ta,tn,tc,qa,qn,qc,rfl,_,lg,⟨c0,c1,c2,c3,c4,c5,c6⟩,hty,htm⟩:=HAT.out wr hq.out.2.1 k hlt
     have HD2:=Ld (wgTs_drop (l:=l) (B:=B) (bi:=binderB op) (nm:=nm) (n:=m) (at_:=at_+1) hlt)
     have HKF:=Ld (fun (B':List ByteArray) (v':Value) (ok4:Nat→Prop) W (kW:Kept (fun _=>False) wr W) (h5:NmL ok4 W B' v') (h6:B'.length≤B.length+1)=>HIH.out _ (List.getElem_mem hlt) B' m v' _ _ _ ok4 W (hq.out.2.1.trans kW) (hty.frame (sK kW)) (htm.frame (sK kW)) h5 h6 hq.out.1)
     rw[Int.natCast_add] at HKF
     have HC:=Ld (fun W (kW:Kept (fun _=>False) wr W)=>C7.kept ⟨c0,c1,c2,c3,c4,c5,c6⟩ kW (fun h=>h))
     have HBW:=Ld (fun W (kW:Kept (fun _=>False) wr W)=>(⟨hq.out.2.1.trans kW,hq.out.2.2.1.kept kW (fun h=>h)⟩:_∧_))
     have HEQ:=Ld (hq.out.2.2.2.trans HD2.out)
     clear hty htm hq HD2 lg
     go_wp2_with fail
     cases hbi:binderB op
     ·have hBI:Hid ((if binderB op&&k==1 then B++[nm] else B)=B):=Ld (by rw[hbi];rfl)
      refine (rbinder_t hbi _).mono ?_
      rintro e w4 ⟨rfl,rfl⟩
      clear hbi
      have KWW:Kept (fun _=>False) wr wr:=Kept.refl _ _
      go_wp2_with fail
      refine (HKF.out B _ _ wr KWW (HNF.out wr (HBW.out wr kR).1) (Nat.le_succ _)).mono ?_
      rintro e w6 ⟨rfl,k6⟩
      have HB6:=Ld (HBW.out w6 (KWW.trans k6))
      have HE6:=HEQ.out
      rw[hBI.out] at HE6
      have HLE:=Ld (wgT_le l ks[k] B m (at_+1))
      have HQ6:=Ld HE6
      clear HE6 k6 gA HEQ hBI HKF HC HBW c0 c1 c2 c3 c4 c5 c6
      generalize wgT l B m (at_+1) ks[k]=q at *
      cases q with
      | none=>
       have HE:Hid (r=none):=Ld HQ6.out
       unfold wgI
       go_wp2_with fail
       go_ret
       exact⟨by rw[HE.out];rfl,HB6.out.1⟩
      | some m2=>
       have hm2:=HLE.out m2 rfl
       have t3:decide ((m2:Int)<0)=false:=decide_eq_false (by omega)
       unfold wgI
       have HM2:=Ld hm2
       clear hm2
       go_wp2_with fail
       go_roundw
       case rel=>exact⟨k+1,m2,by omega,rfl,by go_num,Ld ⟨HM2.out,HB6.out.1,HB6.out.2,HQ6.out⟩⟩
       case measure=>simp[intOf];omega
     ·cases hk1:((k:Int)==1)
      ·have hBI:Hid ((if binderB op&&k==1 then B++[nm] else B)=B):=Ld (by
        have:(k==1)=false:=by simp at hk1;simp;omega
        rw[this];simp)
       refine (rbinder_t hbi _).mono ?_
       rintro e w4 ⟨rfl,rfl⟩
       clear hbi
       have KWW:Kept (fun _=>False) wr wr:=Kept.refl _ _
       go_wp2_with fail
       refine (HKF.out B _ _ wr KWW (HNF.out wr (HBW.out wr kR).1) (Nat.le_succ _)).mono ?_
       rintro e w6 ⟨rfl,k6⟩
       have HB6:=Ld (HBW.out w6 (KWW.trans k6))
       have HE6:=HEQ.out
       rw[hBI.out] at HE6
       have HLE:=Ld (wgT_le l ks[k] B m (at_+1))
       have HQ6:=Ld HE6
       clear HE6 k6 gA HEQ hBI HKF HC HBW c0 c1 c2 c3 c4 c5 c6
       generalize wgT l B m (at_+1) ks[k]=q at *
       cases q with
       | none=>
        have HE:Hid (r=none):=Ld HQ6.out
        unfold wgI
        go_wp2_with fail
        go_ret
        exact⟨by rw[HE.out];rfl,HB6.out.1⟩
       | some m2=>
        have hm2:=HLE.out m2 rfl
        have t3:decide ((m2:Int)<0)=false:=decide_eq_false (by omega)
        unfold wgI
        have HM2:=Ld hm2
        clear hm2
        go_wp2_with fail
        go_roundw
        case rel=>exact⟨k+1,m2,by omega,rfl,by go_num,Ld ⟨HM2.out,HB6.out.1,HB6.out.2,HQ6.out⟩⟩
        case measure=>simp[intOf];omega
      ·have hBI:Hid ((if binderB op&&k==1 then B++[nm] else B)=B++[nm]):=Ld (by
        have:(k==1)=true:=by simp at hk1;simp;omega
        rw[this,hbi];rfl)
       refine (rbinder_t hbi _).mono ?_
       rintro e w4 ⟨rfl,rfl⟩
       clear hbi
       have HW:=Ld (rwith_any nm (HNF.out wr (HBW.out wr kR).1) (by have:=HN.out.2.2.1;omega))
       go_wp2_with fail
       refine HW.out.mono ?_
       rintro e w5 ⟨v5,rfl,h5⟩
       have KWW:Kept (fun _=>False) wr w5:=h5.kp
       have HN5:=Ld h5.nml
       obtain⟨ya,yc,hv5⟩:=h5.nml.slice
       rw[List.length_append,List.length_singleton] at hv5
       subst hv5
       clear h5 HW gA c0 c1 c2 c3 c4 c5 c6
       have gA:∀ i,w5.cell? ⟨w.heap.size,i,none⟩=_:=(HBW.out w5 KWW).2.cell
       obtain⟨c0,c1,c2,c3,c4,c5,c6⟩:=HC.out w5 KWW
       go_wp2_with fail
       refine (HKF.out (B++[nm]) _ _ w5 KWW HN5.out (by simp)).mono ?_
       rintro e w6 ⟨rfl,k6⟩
       have HB6:=Ld (HBW.out w6 (KWW.trans k6))
       have HE6:=HEQ.out
       rw[hBI.out] at HE6
       have HLE:=Ld (wgT_le l ks[k] (B++[nm]) m (at_+1))
       have HQ6:=Ld HE6
       clear HE6 k6 gA HEQ hBI HKF HC HBW c0 c1 c2 c3 c4 c5 c6
       generalize wgT l (B++[nm]) m (at_+1) ks[k]=q at *
       cases q with
       | none=>
        have HE:Hid (r=none):=Ld HQ6.out
        unfold wgI
        go_wp2_with fail
        go_ret
        exact⟨by rw[HE.out];rfl,HB6.out.1⟩
       | some m2=>
        have hm2:=HLE.out m2 rfl
        have t3:decide ((m2:Int)<0)=false:=decide_eq_false (by omega)
        unfold wgI
        have HM2:=Ld hm2
        clear hm2
        go_wp2_with fail
        go_roundw
        case rel=>exact⟨k+1,m2,by omega,rfl,by go_num,Ld ⟨HM2.out,HB6.out.1,HB6.out.2,HQ6.out⟩⟩
        case measure=>simp[intOf];omega
    ·have hkk:k=ks.length:=by omega
     subst hkk
     have HE:Hid (r=some m):=Ld (by rw[hq.out.2.2.2,List.drop_length,wgTs])
     have HKQ:=Ld hq.out.2.1
     clear hq
     go_wp2_with fail
     go_ret
     exact⟨by rw[HE.out];rfl,HKQ.out⟩
theorem rwg_any {t:Tm} (h:OkTm t):WgC bz t:=by
 induction h with
 | mk hf hn hl ih=>
  rename_i op nm N ty ks
  by_cases ho:op=20
  ·subst ho
   have h0:ks=[]:=by
    have h1:=(OkTm.mk hf hn hl).nw
    cases h1 with
    | mk h2 _=>exact (h2 rfl).2.2
   subst h0
   exact rwg_name
  ·exact rwg_one ho ih (by omega)
abbrev E4:=(ByteArray×Tm)×Value×Value
def bCells (e:E4):List Value:=.string e.1.1::tmCells e.1.2 e.2.1 e.2.2
def flatB:List E4→List Value
 | []=>[]
 | e::E=>bCells e++flatB E
def BEL (bz:Nat) (ok:Nat→Prop) (w:World) (E:List E4):Prop:=∀ e∈E,TyL bz ok w e.1.2.ty.kids e.2.1∧TmL bz ok w e.1.2.kids e.2.2
theorem flatB_app:∀ (E F:List E4),flatB (E++F)=flatB E++flatB F
 | [],F=>rfl
 | x::E,F=>by rw[List.cons_append,flatB,flatB_app E F,flatB,List.append_assoc]
theorem flatB_get:∀ (E:List E4) (i j:Nat) (h:i<E.length),j<8→(flatB E)[i*8+j]?=(bCells E[i])[j]?
 | e::E,0,j,_,hj=>by
  rw[flatB,Nat.zero_mul,Nat.zero_add,List.getElem?_append_left (by show j<8;exact hj)];rfl
 | e::E,i+1,j,h,hj=>by
  rw[flatB,List.getElem?_append_right (by show 8≤_;omega)]
  have:=flatB_get E i j (by simpa using h) hj
  rw[show (i+1)*8+j-(bCells e).length=i*8+j by show (i+1)*8+j-8=_;omega,this]
  rfl
theorem BEL.frame {ok:Nat→Prop} {w w':World} {E:List E4} (h:BEL bz ok w E) (hs:Same ok w w'):BEL bz ok w' E:=fun e he=>⟨(h e he).1.frame hs,(h e he).2.frame hs⟩
theorem BEL.snoc {ok:Nat→Prop} {w:World} {E:List E4} {e:E4} (h:BEL bz ok w E) (ha:TyL bz ok w e.1.2.ty.kids e.2.1) (hc:TmL bz ok w e.1.2.kids e.2.2):BEL bz ok w (E++[e]):=by
 intro x hx
 rcases List.mem_append.1 hx with hx | hx
 ·exact h x hx
 ·rw[List.mem_singleton.1 hx];exact⟨ha,hc⟩
theorem bnl_of_row {ok:Nat→Prop} {w:World} {base:Nat} {v:Value} {E:List E4} (hown:w.ownsRow base 38 8 v E.length (flatB E)) (hl:BEL bz ok w E) (hok:∀ g,v.ownBlock=some g→ok g):BnL bz ok w (E.map (·.1)) v:=by
 rcases hown.2 with ⟨rfl,hn⟩ | ⟨g,cap,cur,rfl,hbg,hg,hnc,hcm,hcs,htake⟩
 ·have:E=[]:=List.length_eq_zero_iff.1 hn
  subst this;exact .nil
 ·have hb:Blk w g 38 cur.toList:=by show w.heap[g]?=_;rw[hg]
  have hc:∀ i j,i<E.length→j<8→w.cell? ⟨g,0+i*8+j,none⟩=(flatB E)[i*8+j]?:=by
   intro i j hi hj
   rw[hb.cell,← htake,List.getElem?_take,if_pos (by omega),Nat.zero_add]
  refine⟨some ⟨g,0,none⟩,E.length,cap,rfl,by simp,by omega,(fun e=>by cases e),fun i hi=>?_⟩
  have hi':i<E.length:=by simpa using hi
  have e1:(E.map (·.1))[i]=E[i].1:=List.getElem_map ..
  obtain⟨ta,tn,tc,hT⟩:=(hl _ (List.getElem_mem hi')).1.slice
  obtain⟨ma,mn,mc,hM⟩:=(hl _ (List.getElem_mem hi')).2.slice
  have q:∀ j (hj:j<8),w.cell? ⟨g,0+i*8+j,none⟩=(bCells E[i])[j]?:=fun j hj=>(hc i j hi' hj).trans (flatB_get E i j hi' hj)
  rw[e1]
  refine⟨g,0,ta,tn,tc,ma,mn,mc,rfl,hok g rfl,hb.lt,q 0 (by omega),⟨?_,?_,?_,?_,?_,?_,?_⟩,by rw[← hT];exact (hl _ (List.getElem_mem hi')).1,by rw[← hM];exact (hl _ (List.getElem_mem hi')).2⟩
  ·exact q 1 (by omega)
  ·exact q 2 (by omega)
  ·exact q 3 (by omega)
  ·exact q 4 (by omega)
  ·exact q 5 (by omega)
  ·rw[← hT];exact q 6 (by omega)
  ·rw[← hM];exact q 7 (by omega)
structure RowB (bz:Nat) (ok:Nat→Prop) (w:World) (base:Nat) (wr:World) (E:List E4) (v:Value):Prop where
 kp:Kept (fun _=>False) w wr
 own:wr.ownsRow base 38 8 v E.length (flatB E)
 el:BEL bz ok wr E
 lo:∀ q,ok q→q<base
theorem RowB.nil {ok:Nat→Prop} {w wr:World} {base:Nat} (k:Kept (fun _=>False) w wr) (lo:∀ q,ok q→q<base):RowB bz ok w base wr [] (.slice none 0 0):=⟨k,World.ownsRow_nil _ _ _ _,(fun e he=>by cases he),lo⟩
theorem RowB.kept {ok:Nat→Prop} {w wr w':World} {base:Nat} {E:List E4} {v:Value} (h:RowB bz ok w base wr E v) (k:Kept (fun _=>False) wr w'):RowB bz ok w base w' E v:=
 ⟨h.kp.trans k,own_keptT h.own k (fun _ _ h=>h),h.el.frame (sK k),h.lo⟩
theorem BEL.mono {ok ok':Nat→Prop} {w:World} {E:List E4} (h:BEL bz ok w E) (ho:∀ k,k<w.heap.size→ok k→ok' k):BEL bz ok' w E:=fun e he=>⟨(h e he).1.mono ho,(h e he).2.mono ho⟩
theorem RowB.bnl {ok:Nat→Prop} {w wr:World} {base:Nat} {E:List E4} {v:Value} (h:RowB bz ok w base wr E v):BnL bz (fun q=>ok q∨base≤q) wr (E.map (·.1)) v:=
 bnl_of_row h.own (h.el.mono (fun _ _ h=>.inl h)) (fun g hg=>.inr (World.ownsRow.lt h.own g hg).1)
theorem RowB.app1 {ok:Nat→Prop} {w wr w6 W8:World} {base:Nat} {E:List E4} {v v':Value} {e:E4} (hb:w.heap.size≤base) (h:RowB bz ok w base wr E v) (k6:Kept (fun _=>False) wr w6) (ht:TyL bz ok w6 e.1.2.ty.kids e.2.1) (hm:TmL bz ok w6 e.1.2.kids e.2.2)
  (own8:W8.ownsRow base 38 8 v' (E.length+1) (flatB E++bCells e)) (hgrow:w6.grownBy W8 v.ownBlock):RowB bz ok w base W8 (E++[e]) v':=by
 have kG:=kept_grown1 hgrow
 have hvb:∀ x,v.ownBlock=some x→base≤x:=fun x e=>(World.ownsRow.lt h.own x e).1
 refine⟨(h.kp.trans k6).via1 kG (fun x hx e=>by have:=hvb x e;omega),?_,?_,h.lo⟩
 ·rw[flatB_app,List.length_append]
  show W8.ownsRow base 38 8 v' (E.length+1) (flatB E++(bCells e++[]))
  rw[List.append_nil];exact own8
 ·exact ((h.el.frame (sK k6)).snoc ht hm).frame (Same.of_kept kG (fun q hq e=>by have:=hvb q e;have:=h.lo q hq;omega))
theorem info_bd:∃ i,Tryz.prog.info? 38=some i∧i.zero=some (.agg #[.string ⟨#[]⟩,.int .i64 0,.string ⟨#[]⟩,.int .i64 0,.int .i64 0,.string ⟨#[]⟩,.slice none 0 0,.slice none 0 0])∧i.size=8∧i.bytes=120:=by
 have:(Tryz.prog.info? 38).map (fun i=>(i.zero,i.size,i.bytes))=some (some (.agg #[.string ⟨#[]⟩,.int .i64 0,.string ⟨#[]⟩,.int .i64 0,.int .i64 0,.string ⟨#[]⟩,.slice none 0 0,.slice none 0 0]),8,120):=by kernel_rfl
 cases hh:Tryz.prog.info? 38 with
 | none=>rw[hh] at this;cases this
 | some i=>rw[hh] at this;simp only[Option.map_some,Option.some.injEq,Prod.mk.injEq] at this;exact⟨i,rfl,this.1,this.2.1,this.2.2⟩
theorem oneB {s:ByteArray} {u:Tm} {a d:Option Addr} {n c e f:Nat}:∀ x,x∈bCells ((s,u),.slice a n c,.slice d e f)→x.oneCell'=true:=by
 intro x hx
 rcases List.mem_cons.1 hx with rfl | hx
 ·rfl
 ·exact oneT x hx
theorem frLs_drop {B:List ByteArray} {bi:Bool} {nm:ByteArray} {l:List Tm} {k:Nat} (h:k<l.length):frLs B bi nm k (l.drop k)=frL (if bi&&k==1 then B++[nm] else B) l[k]++frLs B bi nm (k+1) (l.drop (k+1)):=by
 rw[List.drop_eq_getElem_cons h,frLs]
theorem frL_len:∀ (t:Tm) (B:List ByteArray),(frL B t).length≤tmN t:=by
 intro t
 induction t using Tm.rec (motive_2:=fun l=>∀ (B:List ByteArray) (bi:Bool) (nm:ByteArray) (i:Nat),(frLs B bi nm i l).length≤tmNs l) with
 | mk op nm N ty l ih=>
  intro B
  rw[frL,tmN]
  split
  ·split <;> simp
  ·have:=ih B (binderB op) nm 0;omega
 | nil=>exact Nat.le_refl _
 | cons t l iht ihl=>
  rename_i B bi nm i
  rw[frLs,List.length_append,tmNs]
  have h1:=iht (if bi&&i==1 then B++[nm] else B)
  have h2:=ihl B bi nm (i+1)
  omega
theorem own_name {w:World} {base g:Nat} {s:ByteArray} (hb:Blk w g 9 [.string s]) (hg:base≤g):w.ownsRow base 9 1 (.slice (some ⟨g,0,none⟩) 1 1) [s].length ([s].map Value.string):=
 ⟨rfl,.inr ⟨g,1,_,rfl,hg,hb,Nat.le_refl _,by unfold maxLen;omega,rfl,rfl⟩⟩
def RFrC (bz:Nat) (t:Tm):Prop:=∀ (B:List ByteArray) (w:World) (ok okB:Nat→Prop) (tk kk v:Value),TyL bz ok w t.ty.kids tk→TmL bz ok w t.kids kk→NmL okB w B v→B.length+tmD t≤900000→tmN t≤700000 →
 Calls Tryz.prog 45 #[tmVal t tk kk,v] w fun e w'=>∃ v',e=.returned v'∧NRow w w.heap.size w' (frL B t) v'
theorem rfree_name {nm:ByteArray} {N:Int} {ty:Ty} {l:List Tm}:RFrC bz (.mk 20 nm N ty l):=by
 intro B w ok okB tk kk v h1 h2 hB hd hz
 have h1:TyL bz ok w ty.kids tk:=h1
 have h2:TmL bz ok w l kk:=h2
 obtain⟨a,n,c,rfl⟩:=h1.slice
 obtain⟨ma,mn,mc,rfl⟩:=h2.slice
 change Calls Tryz.prog 45 #[.agg #[.int .i64 20,.string nm,.int .i64 N,.int .i64 ty.kind,.string ty.name,.slice a n c,.slice ma mn mc],v] w _
 have K1:Kept (fun _=>False) w (w.alloc (.cells #[.int .i64 20,.string nm,.int .i64 N,.int .i64 ty.kind,.string ty.name,.slice a n c,.slice ma mn mc] 27)):=kR.alloc _
 have HI:=Ld (rinN_any nm (hB.frame (sK K1)) (by omega))
 have HK:=Ld K1
 have HR:Hid (frL B (.mk 20 nm N ty l)=if mb nm B then [] else [nm]):=Ld (by rw[frL,if_pos rfl])
 clear h1 h2 hB hd hz K1
 generalize frL B (.mk 20 nm N ty l)=r at *
 go_enter Tryz.func45,Tryz.ntmps45
 go_wp2_with fail
 have bA:=Ld (Blk.new w 27 [.int .i64 20,.string nm,.int .i64 N,.int .i64 ty.kind,.string ty.name,.slice a n c,.slice ma mn mc])
 change Hid (Blk (w.alloc (.cells #[.int .i64 20,.string nm,.int .i64 N,.int .i64 ty.kind,.string ty.name,.slice a n c,.slice ma mn mc] 27)) _ _ _) at bA
 generalize w.alloc (.cells #[.int .i64 20,.string nm,.int .i64 N,.int .i64 ty.kind,.string ty.name,.slice a n c,.slice ma mn mc] 27)=w1 at *
 refine HI.out.mono ?_
 rintro e w2 ⟨rfl,rfl⟩
 cases hm:mb nm B
 ·have hq:Hid (r=[nm]):=Ld (by rw[HR.out,hm];rfl)
  have gA:=bA.out.cell
  clear hm HI
  go_wp2_with fail
  go_ret
  exact⟨_,rfl,by rw[hq.out];exact⟨HK.out.alloc _,own_name (Blk.new w1 9 [.string nm]) HK.out.size⟩⟩
 ·have hq:Hid (r=[]):=Ld (by rw[HR.out,hm];rfl)
  clear hm HI
  go_wp2_with fail
  go_ret
  exact⟨_,rfl,by rw[hq.out];exact⟨HK.out,World.ownsRow_nil _ _ _ _⟩⟩
theorem rfree_one {op:Int} {nm:ByteArray} {N:Int} {ty:Ty} {l:List Tm} (hop:op≠20) (IH:∀ u,u∈l→RFrC bz u) (hn:l.length≤1000000):RFrC bz (.mk op nm N ty l):=by
 intro B w ok okB tk kk v h1 h2 hB hd hz
 have h1:TyL bz ok w ty.kids tk:=h1
 have h2:TmL bz ok w l kk:=h2
 obtain⟨a,n,c,rfl⟩:=h1.slice
 obtain⟨ma,mn,mc,rfl⟩:=h2.slice
 obtain⟨ba,bc,rfl⟩:=hB.slice
 obtain rfl:mn=l.length:=h2.len
 change Calls Tryz.prog 45 #[.agg #[.int .i64 op,.string nm,.int .i64 N,.int .i64 ty.kind,.string ty.name,.slice a n c,.slice ma l.length mc],.slice ba B.length bc] w _
 have K1:Kept (fun _=>False) w (w.alloc (.cells #[.int .i64 op,.string nm,.int .i64 N,.int .i64 ty.kind,.string ty.name,.slice a n c,.slice ma l.length mc] 27)):=kR.alloc _
 have hop2:(op==20)=false:=by simp[hop]
 have bA:=Ld (Blk.new w 27 [.int .i64 op,.string nm,.int .i64 N,.int .i64 ty.kind,.string ty.name,.slice a n c,.slice ma l.length mc])
 have HR:Hid (frL B (.mk op nm N ty l)=frLs B (binderB op) nm 0 l):=Ld (by rw[frL,if_neg hop])
 rw[tmD] at hd
 rw[tmN] at hz
 have HD:=Ld hd
 have HZ0:=Ld hz
 have HN:=Ld hn
 have HAT:=Ld (fun W (k:Kept (fun _=>False) w W)=>(h2.frame (sK k)).at)
 have HBF:=Ld (fun W (k:Kept (fun _=>False) w W)=>hB.frame (sK k))
 have HIH:=Ld IH
 have HK:=Ld K1
 clear h1 h2 hB hd hz K1 IH hn hop
 have hRL:Hid ((frL B (.mk op nm N ty l)).length≤700000):=Ld (by have h1:=frL_len (.mk op nm N ty l) B;rw[tmN] at h1;have:=HZ0.out;omega)
 generalize frL B (.mk op nm N ty l)=r at *
 go_enter Tryz.func45,Tryz.ntmps45
 go_wp2_with fail
 change Hid (Blk (w.alloc (.cells #[.int .i64 op,.string nm,.int .i64 N,.int .i64 ty.kind,.string ty.name,.slice a n c,.slice ma l.length mc] 27)) _ _ _) at bA
 generalize w.alloc (.cells #[.int .i64 op,.string nm,.int .i64 N,.int .i64 ty.kind,.string ty.name,.slice a n c,.slice ma l.length mc] 27)=w1 at *
 go_loopw [5,6,7] (fun v i b wr=>∃ (k:Nat) (out:List ByteArray),k≤l.length∧i=.int .i64 k∧NRow w w.heap.size wr out v∧Hid (Blk wr w.heap.size 27 [.int .i64 op,.string nm,.int .i64 N,.int .i64 ty.kind,.string ty.name,.slice a n c,.slice ma l.length mc]∧r=out++frLs B (binderB op) nm k (l.drop k)∧v.ownBlock≠some w.heap.size)) (fun v i b _=>l.length-(intOf i).toNat)
 case atStart=>exact⟨0,[],Nat.zero_le _,rfl,⟨HK.out,World.ownsRow_nil _ _ _ _⟩,Ld ⟨bA.out,HR.out,fun e=>by cases e⟩⟩
 case round=>
  obtain⟨k,out,hkl,rfl,hR,hq⟩:=hrel
  obtain⟨va,vc,hv⟩:=hR.nml.slice
  subst hv
  have R:=Ld hR
  clear hR
  have gA:=hq.out.1.cell
  by_cases hlt:k<l.length
  ·have i1:(k:Int)<(l.length:Int):=by omega
   have i2:(k:Int)<1000000:=by have:=HN.out;omega
   obtain⟨g,off,ta,tn,tc,qa,qn,qc,rfl,_,lg,⟨c0,c1,c2,c3,c4,c5,c6⟩,hty,htm⟩:=HAT.out wr R.out.kp k hlt
   have HD2:=Ld (frLs_drop (B:=B) (bi:=binderB op) (nm:=nm) hlt)
   have HBD:Hid (∀ B':List ByteArray,B'.length≤B.length+1→B'.length+tmD l[k]≤900000):=Ld (fun B' hb'=>by
    have h1:=tmDs_mem (List.getElem_mem hlt)
    have h2:=HD.out
    omega)
   have HZ1:Hid (tmN l[k]≤700000):=Ld (by
    have h1:=(tmD_kid (List.getElem_mem hlt)).2
    have h2:=HZ0.out
    omega)
   obtain⟨i9,hi9,hz9,hs9,hb9⟩:=info_str
   have HI9:=Ld hi9
   have HZ9:=Ld hz9
   have HS9:=Ld hs9
   have HB9:=Ld hb9
   have HKF:=Ld (fun (B':List ByteArray) (v':Value) (ok3:Nat→Prop) W (kW:Kept (fun _=>False) wr W) (hb':B'.length≤B.length+1) (hB':NmL ok3 W B' v')=>(HIH.out _ (List.getElem_mem hlt)) B' W ok ok3 _ _ _ (hty.frame (sK kW)) (htm.frame (sK kW)) hB' (HBD.out _ hb') HZ1.out)
   unfold tmVal at HKF
   have RW:=Ld (fun W (kW:Kept (fun _=>False) wr W)=>(⟨R.out.kp.trans kW,own_keptT R.out.own kW (fun _ _ h=>h)⟩:NRow w w.heap.size W out (.slice va out.length vc)))
   have hbx:Hid (∀ W,Kept (fun _=>False) wr W→Blk W w.heap.size 27 [.int .i64 op,.string nm,.int .i64 N,.int .i64 ty.kind,.string ty.name,.slice a n c,.slice (some ⟨g,off,none⟩) l.length mc]):=Ld (fun W kW=>hq.out.1.kept kW (fun h=>h))
   clear hty htm hi9 hz9 hs9 hb9 HBD HZ1
   go_wp2_with fail
   cases hbi:binderB op
   ·have hBI:Hid ((if binderB op&&k==1 then B++[nm] else B)=B):=Ld (by rw[hbi];rfl)
    refine (rbinder_t hbi _).mono ?_
    rintro e w4 ⟨rfl,rfl⟩
    clear hbi
    have KWW:Kept (fun _=>False) wr wr:=Kept.refl _ _
    skip
    go_wp2_with fail
    refine (HKF.out B _ _ wr kR (Nat.le_succ _) (HBF.out wr R.out.kp)).mono ?_
    rintro e w6 ⟨v3,rfl,h3⟩
    obtain⟨xa,xc,hv3⟩:=h3.nml.slice
    subst hv3
    have K6:=(KWW).trans h3.kp
    have R6:=Ld (RW.out w6 K6)
    have B6:=Ld (hbx.out w6 K6)
    have S3:=Ld h3.nml.src
    have hz6:=(frL_len l[k] (B))
    have HLEN:Hid (out.length+(frL (B) l[k]).length≤700000):=Ld (by
     have h5:=hRL.out
     rw[hq.out.2.1,HD2.out,hBI.out,List.length_append,List.length_append] at h5
     omega)
    have hEQ:Hid (r=(out++frL (B) l[k])++frLs B (binderB op) nm (k+1) (l.drop (k+1))):=Ld (by rw[hq.out.2.1,HD2.out,hBI.out,List.append_assoc])
    have hOB:=hq.out.2.2
    have zw6:=R6.out.kp.size
    clear h3 K6 hz6 gA
    go_wp2_with (at_builtin;refine wpList_app_src rfl (.tmp 37) (.tmp 44) _ rfl w.heap.size 9 i9 _ 1 16 Tryz.underlying28 HI9.out HZ9.out HS9.out HB9.out rfl (by decide) (.slice va out.length vc) out.length (out.map Value.string) rfl R6.out.own (.slice xa (frL (B) l[k]).length xc) (frL (B) l[k]).length ((frL (B) l[k]).map Value.string) rfl S3.out (by simp) (strs_one _) ?_ ?_ zw6 ?_)
    ·have:=HLEN.out;unfold maxLen;omega
    ·have:=HLEN.out;omega
    intro v7 w7 own7 hg7 hat7
    have R7:=Ld (NRow.app R6.out (Nat.le_refl _) own7 hg7)
    have B7:=Ld (B6.out.kept (kept_grown1 hg7) (fun e=>hOB e))
    have hO7:Hid (v7.ownBlock≠some w.heap.size):=Ld (by
     have lb:=B6.out.lt
     rcases hat7 with h | h
     ·rw[h];exact hOB
     ·rw[h];intro e;have:=Option.some.inj e;omega)
    clear own7 hg7 hat7 hOB zw6
    go_wp2_with fail
    go_roundw
    case rel=>exact⟨k+1,_,by omega,by go_num,R7.out,Ld ⟨B7.out,hEQ.out,hO7.out⟩⟩
    case measure=>simp[intOf];omega
   ·cases hk1:((k:Int)==1)
    ·have hBI:Hid ((if binderB op&&k==1 then B++[nm] else B)=B):=Ld (by
      have:(k==1)=false:=by simp at hk1;simp;omega
      rw[this];simp)
     refine (rbinder_t hbi _).mono ?_
     rintro e w4 ⟨rfl,rfl⟩
     clear hbi
     have KWW:Kept (fun _=>False) wr wr:=Kept.refl _ _
     skip
     go_wp2_with fail
     refine (HKF.out B _ _ wr kR (Nat.le_succ _) (HBF.out wr R.out.kp)).mono ?_
     rintro e w6 ⟨v3,rfl,h3⟩
     obtain⟨xa,xc,hv3⟩:=h3.nml.slice
     subst hv3
     have K6:=(KWW).trans h3.kp
     have R6:=Ld (RW.out w6 K6)
     have B6:=Ld (hbx.out w6 K6)
     have S3:=Ld h3.nml.src
     have hz6:=(frL_len l[k] (B))
     have HLEN:Hid (out.length+(frL (B) l[k]).length≤700000):=Ld (by
      have h5:=hRL.out
      rw[hq.out.2.1,HD2.out,hBI.out,List.length_append,List.length_append] at h5
      omega)
     have hEQ:Hid (r=(out++frL (B) l[k])++frLs B (binderB op) nm (k+1) (l.drop (k+1))):=Ld (by rw[hq.out.2.1,HD2.out,hBI.out,List.append_assoc])
     have hOB:=hq.out.2.2
     have zw6:=R6.out.kp.size
     clear h3 K6 hz6 gA
     go_wp2_with (at_builtin;refine wpList_app_src rfl (.tmp 37) (.tmp 44) _ rfl w.heap.size 9 i9 _ 1 16 Tryz.underlying28 HI9.out HZ9.out HS9.out HB9.out rfl (by decide) (.slice va out.length vc) out.length (out.map Value.string) rfl R6.out.own (.slice xa (frL (B) l[k]).length xc) (frL (B) l[k]).length ((frL (B) l[k]).map Value.string) rfl S3.out (by simp) (strs_one _) ?_ ?_ zw6 ?_)
     ·have:=HLEN.out;unfold maxLen;omega
     ·have:=HLEN.out;omega
     intro v7 w7 own7 hg7 hat7
     have R7:=Ld (NRow.app R6.out (Nat.le_refl _) own7 hg7)
     have B7:=Ld (B6.out.kept (kept_grown1 hg7) (fun e=>hOB e))
     have hO7:Hid (v7.ownBlock≠some w.heap.size):=Ld (by
      have lb:=B6.out.lt
      rcases hat7 with h | h
      ·rw[h];exact hOB
      ·rw[h];intro e;have:=Option.some.inj e;omega)
     clear own7 hg7 hat7 hOB zw6
     go_wp2_with fail
     go_roundw
     case rel=>exact⟨k+1,_,by omega,by go_num,R7.out,Ld ⟨B7.out,hEQ.out,hO7.out⟩⟩
     case measure=>simp[intOf];omega
    ·have hBI:Hid ((if binderB op&&k==1 then B++[nm] else B)=B++[nm]):=Ld (by
      have:(k==1)=true:=by simp at hk1;simp;omega
      rw[this,hbi];rfl)
     refine (rbinder_t hbi _).mono ?_
     rintro e w4 ⟨rfl,rfl⟩
     clear hbi
     have HW:=Ld (rwith_any nm (HBF.out wr R.out.kp) (by have:=HD.out;omega))
     go_wp2_with fail
     refine HW.out.mono ?_
     rintro e w5 ⟨v5,rfl,h5⟩
     obtain⟨ya,yc,hv5⟩:=h5.nml.slice
     rw[List.length_append,List.length_singleton] at hv5
     subst hv5
     have KWW:Kept (fun _=>False) wr w5:=h5.kp
     have HN5:=Ld h5.nml
     have gA5:=(hbx.out w5 KWW).cell
     have C5:C7 w5 g (off+k*7) l[k] (.slice ta tn tc) (.slice qa qn qc):=C7.kept ⟨c0,c1,c2,c3,c4,c5,c6⟩ KWW (fun h=>h)
     obtain⟨d0,d1,d2,d3,d4,d5,d6⟩:=C5
     clear h5 HW gA c0 c1 c2 c3 c4 c5 c6
     have gA:=gA5
     clear gA5
     skip
     go_wp2_with fail
     refine (HKF.out (B++[nm]) _ _ w5 KWW (by simp) HN5.out).mono ?_
     rintro e w6 ⟨v3,rfl,h3⟩
     obtain⟨xa,xc,hv3⟩:=h3.nml.slice
     subst hv3
     have K6:=(KWW).trans h3.kp
     have R6:=Ld (RW.out w6 K6)
     have B6:=Ld (hbx.out w6 K6)
     have S3:=Ld h3.nml.src
     have hz6:=(frL_len l[k] (B++[nm]))
     have HLEN:Hid (out.length+(frL (B++[nm]) l[k]).length≤700000):=Ld (by
      have h5:=hRL.out
      rw[hq.out.2.1,HD2.out,hBI.out,List.length_append,List.length_append] at h5
      omega)
     have hEQ:Hid (r=(out++frL (B++[nm]) l[k])++frLs B (binderB op) nm (k+1) (l.drop (k+1))):=Ld (by rw[hq.out.2.1,HD2.out,hBI.out,List.append_assoc])
     have hOB:=hq.out.2.2
     have zw6:=R6.out.kp.size
     clear h3 K6 hz6 gA
     go_wp2_with (at_builtin;refine wpList_app_src rfl (.tmp 37) (.tmp 44) _ rfl w.heap.size 9 i9 _ 1 16 Tryz.underlying28 HI9.out HZ9.out HS9.out HB9.out rfl (by decide) (.slice va out.length vc) out.length (out.map Value.string) rfl R6.out.own (.slice xa (frL (B++[nm]) l[k]).length xc) (frL (B++[nm]) l[k]).length ((frL (B++[nm]) l[k]).map Value.string) rfl S3.out (by simp) (strs_one _) ?_ ?_ zw6 ?_)
     ·have:=HLEN.out;unfold maxLen;omega
     ·have:=HLEN.out;omega
     intro v7 w7 own7 hg7 hat7
     have R7:=Ld (NRow.app R6.out (Nat.le_refl _) own7 hg7)
     have B7:=Ld (B6.out.kept (kept_grown1 hg7) (fun e=>hOB e))
     have hO7:Hid (v7.ownBlock≠some w.heap.size):=Ld (by
      have lb:=B6.out.lt
      rcases hat7 with h | h
      ·rw[h];exact hOB
      ·rw[h];intro e;have:=Option.some.inj e;omega)
     clear own7 hg7 hat7 hOB zw6
     go_wp2_with fail
     go_roundw
     case rel=>exact⟨k+1,_,by omega,by go_num,R7.out,Ld ⟨B7.out,hEQ.out,hO7.out⟩⟩
     case measure=>simp[intOf];omega
  ·have hkk:k=l.length:=by omega
   subst hkk
   have HE:Hid (r=out):=Ld (by rw[hq.out.2.1,List.drop_length];simp[frLs])
   go_wp2_with fail
   go_ret
   exact⟨_,rfl,by rw[HE.out];exact R.out⟩
theorem rfree_any {t:Tm} (hb:BdTm t):RFrC bz t:=by
 induction hb with
 | mk hn ht hl ih=>
  rename_i o n i t l
  by_cases h:o=20
  ·subst h;exact rfree_name
  ·exact rfree_one h ih hn
theorem frL_nil (t:Tm):frL [] t=fr t:=by
 rw[frL_eq]
 exact List.filter_eq_self.2 (fun s _=>rfl)
theorem remG_drop {x:ByteArray} {F:List ByteArray} {out l:List (ByteArray×Tm)} {k:Nat} (h:k<l.length):remG x F out (l.drop k)=if (look out l[k].1).isSome||decide (l[k].1=x)||!mb l[k].1 F then remG x F out (l.drop (k+1)) else remG x F (out++[l[k]]) (l.drop (k+1)):=by
 rw[List.drop_eq_getElem_cons h,remG]
theorem rrem_any {l:List (ByteArray×Tm)} {x:ByteArray} {body:Tm} {ok ok':Nat→Prop} {w:World} {vl tk kk:Value} (hB:BnL bz ok w l vl) (hn:l.length≤100000) (h1:TyL bz ok' w body.ty.kids tk) (h2:TmL bz ok' w body.kids kk) (hb:BdTm body) (hd:tmD body≤900000) (hz:tmN body≤700000):
  Calls Tryz.prog 155 #[vl,.string x,tmVal body tk kk] w fun e w'=>∃ E v,e=.returned v∧RowB bz (fun q=>ok q∧q<w.heap.size) w (w.heap.size+1) w' E v∧E.map (·.1)=remL l x (fr body):=by
 obtain⟨a,c,rfl⟩:=hB.slice
 obtain⟨p,n,cp,rfl⟩:=h1.slice
 obtain⟨ma,mn,mc,rfl⟩:=h2.slice
 have K0:Kept (fun _=>False) w (w.alloc (.cells #[.int .i64 body.op,.string body.name,.int .i64 body.n,.int .i64 body.ty.kind,.string body.ty.name,.slice p n cp,.slice ma mn mc] 27)):=kR.alloc _
 have z0:w.heap.size+1≤(w.alloc (.cells #[.int .i64 body.op,.string body.name,.int .i64 body.n,.int .i64 body.ty.kind,.string body.ty.name,.slice p n cp,.slice ma mn mc] 27)).heap.size:=by simp
 have HF:=Ld (rfree_any hb [] _ _ (fun _=>True) _ _ _ (h1.frame (sK K0)) (h2.frame (sK K0)) .nil (by simpa using hd) hz)
 rw[frL_nil] at HF
 have HFL:Hid ((fr body).length≤700000):=Ld (by have h5:=frL_len body [];rw[frL_nil] at h5;omega)
 have HAT:=Ld (fun W (k:Kept (fun _=>False) w W)=>((hB.mono (ok':=fun q=>ok q∧q<w.heap.size) (fun q h1 h2=>⟨h2,h1⟩)).frame (sK k)).at)
 have HN:=Ld hn
 have HK:=Ld K0
 have HZ:=Ld z0
 clear hB hn h1 h2 hb hd hz K0 z0
 unfold tmVal at HF ⊢
 have HRL:Hid (remL l x (fr body)=remG x (fr body) [] l):=Ld rfl
 generalize remL l x (fr body)=rr at *
 generalize fr body=F at *
 go_enter Tryz.func155,Tryz.ntmps155
 go_wp2_with fail
 generalize w.alloc (.cells #[.int .i64 body.op,.string body.name,.int .i64 body.n,.int .i64 body.ty.kind,.string body.ty.name,.slice p n cp,.slice ma mn mc] 27)=w1 at *
 refine HF.out.mono ?_
 rintro e w2 ⟨v7,rfl,h7⟩
 obtain⟨fa,fc,hv7⟩:=h7.nml.slice
 subst hv7
 have K2:=HK.out.trans h7.kp
 have HIN:=Ld (fun W (k:Kept (fun _=>False) w2 W) (s:ByteArray)=>rinN_any s (h7.nml.frame (sK k)) (by have:=HFL.out;omega))
 have HK2:=Ld K2
 have hz2:Hid (w.heap.size+1≤w2.heap.size):=Ld (Nat.le_trans HZ.out h7.kp.size)
 clear h7 K2 HF HK HZ
 go_wp2_with fail
 go_loopw [8,9,10,11] (fun v i q b wr=>∃ (k:Nat) (E:List E4),k≤l.length∧i=.int .i64 k∧RowB bz (fun q=>ok q∧q<w.heap.size) w2 w2.heap.size wr E v∧Hid (rr=remG x F (E.map (·.1)) (l.drop k)∧E.length≤k)) (fun v i q b _=>l.length-(intOf i).toNat)
 case atStart=>exact⟨0,[],Nat.zero_le _,rfl,RowB.nil kR (fun q hq=>by have:=hz2.out;omega),Ld ⟨HRL.out,Nat.le_refl _⟩⟩
 case round=>
  obtain⟨k,E,hkl,rfl,hR,hq⟩:=hrel
  obtain⟨va,vc,hv⟩:=hR.bnl.slice
  rw[List.length_map] at hv
  subst hv
  have R:=Ld hR
  clear hR
  by_cases hlt:k<l.length
  ·have i1:(k:Int)<(l.length:Int):=by omega
   have i2:(k:Int)<1000000:=by have:=HN.out;omega
   obtain⟨g,off,ta,tn,tc,qa,qn,qc,rfl,hg,lg,c0,C0,hty,htm⟩:=HAT.out wr (HK2.out.trans R.out.kp) k hlt
   have HD:=Ld (remG_drop (x:=x) (F:=F) (out:=E.map (·.1)) hlt)
   have hlen:(E.map (·.1)).length≤1000000:=by rw[List.length_map];have:=hq.out.2;have:=HN.out;omega
   have HBO:=Ld (rbof_any l[k].1 R.out.bnl hlen)
   rw[List.length_map] at hlen
   have HTY:=Ld (fun W (kW:Kept (fun _=>False) wr W)=>hty.frame (sK kW))
   have HTM:=Ld (fun W (kW:Kept (fun _=>False) wr W)=>htm.frame (sK kW))
   have HC7:=Ld (fun W (kW:Kept (fun _=>False) wr W)=>C0.kept kW (fun h=>h))
   have HC0:=Ld (fun W (kW:Kept (fun _=>False) wr W)=>(by rw[kW.cell (p:=⟨g,off+k*8,none⟩) (cell_lt c0) (fun h=>h)];exact c0:W.cell? ⟨g,off+k*8,none⟩=some (.string l[k].1)))
   have HSK:Hid (((look (E.map (·.1)) l[k].1).isSome||decide (l[k].1=x)||!mb l[k].1 F)=true→rr=remG x F (E.map (·.1)) (l.drop (k+1))):=Ld (fun h=>by rw[hq.out.1,HD.out,if_pos h])
   have HAD:Hid (((look (E.map (·.1)) l[k].1).isSome||decide (l[k].1=x)||!mb l[k].1 F)=false→rr=remG x F (E.map (·.1)++[l[k]]) (l.drop (k+1))):=Ld (fun h=>by rw[hq.out.1,HD.out,if_neg (by rw[h];simp)])
   clear hty htm C0
   unfold BofP tmVal at HBO
   generalize (look (E.map (·.1)) l[k].1).getD tm0=o at *
   generalize (look (E.map (·.1)) l[k].1).isSome=b0 at *
   go_wp2_with fail
   refine HBO.out.mono ?_
   rintro e w5 ⟨otk,okk,rfl,ht5,hm5,k5⟩
   obtain⟨ua,un,uc,rfl⟩:=ht5.slice
   obtain⟨ya,yn,yc,rfl⟩:=hm5.slice
   clear ht5 hm5 HBO c0
   go_upto_region 7 with (fail)
   have K6:Kept (fun _=>False) wr (w5.alloc (.cells #[.int .i64 o.op,.string o.name,.int .i64 o.n,.int .i64 o.ty.kind,.string o.ty.name,.slice ua un uc,.slice ya yn yc] 27)):=k5.alloc _
   generalize w5.alloc (.cells #[.int .i64 o.op,.string o.name,.int .i64 o.n,.int .i64 o.ty.kind,.string o.ty.name,.slice ua un uc,.slice ya yn yc] 27)=w6 at *
   have R6:=Ld (R.out.kept K6)
   have d0:=HC0.out w6 K6
   obtain⟨e0,e1,e2,e3,e4,e5,e6⟩:=HC7.out w6 K6
   have T6:=Ld (HTY.out w6 K6)
   have M6:=Ld (HTM.out w6 K6)
   have HI6:=Ld (HIN.out w6 R6.out.kp l[k].1)
   clear k5 K6 R HTY HTM HC7 HC0
   cases b0
   ·cases hs:(l[k].1.toList==x.toList)
    ·have hne:decide (l[k].1=x)=false:=by rw[nm_eq] at hs;exact hs
     go_wp2_with fail
     refine HI6.out.mono ?_
     rintro e w7 ⟨rfl,rfl⟩
     cases hm:mb l[k].1 F
     ·have HSK2:Hid (rr=remG x F (E.map (·.1)) (l.drop (k+1))):=Ld (HSK.out (by rw[hne,hm];rfl))
      clear HSK HAD hm hne
      go_wp2_with fail
      go_roundw
      case rel=>exact⟨k+1,E,by omega,by go_num,R6.out,Ld ⟨HSK2.out,by have:=hq.out.2;omega⟩⟩
      case measure=>simp[intOf];omega
     ·have HAD2:Hid (rr=remG x F ((E++[((l[k],Value.slice ta tn tc,Value.slice qa qn qc):E4)]).map (fun e=>e.1)) (l.drop (k+1))):=Ld (by rw[List.map_append];exact HAD.out (by rw[hne,hm];rfl))
      clear HSK HAD hm hne
      obtain⟨i53,hi,hz,hsz,hby⟩:=info_bd
      have HI:=Ld hi
      have HZ:=Ld hz
      have HS:=Ld hsz
      have HB:=Ld hby
      have zw:=R6.out.kp.size
      have HEL:Hid (E.length≤100000):=Ld (by have:=hq.out.2;have:=HN.out;omega)
      clear hi hz hsz hby
      go_wp2_with (at_builtin;refine wpList_app_src rfl (.tmp 50) (.tmp 55) _ rfl w2.heap.size 38 i53 _ 8 120 Tryz.underlying34 HI.out HZ.out HS.out HB.out rfl (by decide) (.slice va E.length vc) E.length (flatB E) rfl (own_keptT R6.out.own ((Kept.refl (fun _=>False) w6).alloc (.cells (bCells (l[k],.slice ta tn tc,.slice qa qn qc)).toArray 38)) (fun _ _ h=>h)) (.slice (some ⟨w6.heap.size,0,none⟩) 1 1) 1 (bCells (l[k],.slice ta tn tc,.slice qa qn qc)) rfl (.inr ⟨_,_,rfl,newsT (Blk.new w6 38 (bCells (l[k],.slice ta tn tc,.slice qa qn qc)))⟩) rfl oneB ?_ ?_ ?_ ?_)
      ·have:=HEL.out;unfold maxLen;omega
      ·have:=HEL.out;omega
      ·simp;omega
      intro v8 w8 own8 hg8 hat8
      have R8:=Ld (RowB.app1 (e:=(l[k],.slice ta tn tc,.slice qa qn qc)) (Nat.le_refl _) R6.out ((Kept.refl (fun _=>False) w6).alloc (.cells (bCells (l[k],.slice ta tn tc,.slice qa qn qc)).toArray 38)) (T6.out.frame (Same.alloc _ _)) (M6.out.frame (Same.alloc _ _)) own8 hg8)
      clear own8 hg8 hat8 zw
      go_wp2_with fail
      go_roundw
      case rel=>exact⟨k+1,_,by omega,by go_num,R8.out,Ld ⟨HAD2.out,by have:=hq.out.2;simp;omega⟩⟩
      case measure=>simp[intOf];omega
    ·have HSK2:Hid (rr=remG x F (E.map (·.1)) (l.drop (k+1))):=Ld (HSK.out (by rw[nm_eq] at hs;rw[hs];rfl))
     clear HSK HAD
     go_wp2_with fail
     go_roundw
     case rel=>exact⟨k+1,E,by omega,by go_num,R6.out,Ld ⟨HSK2.out,by have:=hq.out.2;omega⟩⟩
     case measure=>simp[intOf];omega
   ·have HSK2:Hid (rr=remG x F (E.map (·.1)) (l.drop (k+1))):=Ld (HSK.out rfl)
    clear HSK HAD
    go_wp2_with fail
    go_roundw
    case rel=>exact⟨k+1,E,by omega,by go_num,R6.out,Ld ⟨HSK2.out,by have:=hq.out.2;omega⟩⟩
    case measure=>simp[intOf];omega
  ·have hkk:k=l.length:=by omega
   subst hkk
   have HE:Hid (E.map (·.1)=rr):=Ld (by rw[hq.out.1,List.drop_length,remG])
   go_wp2_with fail
   go_ret
   exact⟨E,_,rfl,⟨HK2.out.trans R.out.kp,own_base R.out.own (fun g hg=>by have:=(World.ownsRow.lt R.out.own g hg).1;have:=hz2.out;omega),R.out.el,fun q hq=>by omega⟩,HE.out⟩
theorem rcopy_put {t:Tm} (hb:BdTm t) {w:World} {ok:Nat→Prop} {tk kk:Value} (h1:TyL bz ok w t.ty.kids tk) (h2:TmL bz ok w t.kids kk):Calls Tryz.prog 26 #[tmVal t tk kk] w (PutP bz t w):=
 (rcopy_any hb w ok tk kk h1 h2).mono fun e w' ⟨v,E,k,h,h3,h4,h5⟩=>⟨v,k,h,h3.mono (fun q _ hq=>hq.1),by rw[← h5];exact h4.tml,h4.kp⟩
def FitB (l:List (ByteArray×Tm)) (t:Tm) (M:Nat):Prop:=∀ (x:ByteArray) (F:List ByteArray),(∀ s,mb s F=true→s≠x→mb s (fr t)=true)→(frB (remL l x F)).length≤M
def RSuC (bz:Nat) (t:Tm):Prop:=∀ (l:List (ByteArray×Tm)) (M:Nat) (w:World) (ok okb:Nat→Prop) (tk kk vl:Value),TyL bz ok w t.ty.kids tk→TmL bz ok w t.kids kk→BnL bz okb w l vl→(∀ b∈l,BdTm b.2∧tmD b.2≤900000∧tmN b.2≤700000)→l.length+tmD t≤100000→FitB l t M→M+tmN t≤700000 →
 Calls Tryz.prog 113 #[tmVal t tk kk,vl] w (PutP bz (subT freshS t l) w)
theorem rsub_name {nm:ByteArray} {N:Int} {ty:Ty} {ks:List Tm} (hb:BdTm (.mk 20 nm N ty ks)):RSuC bz (.mk 20 nm N ty ks):=by
 intro l M w ok okb tk kk vl h1 h2 hB hbl hn _ _
 have h1:TyL bz ok w ty.kids tk:=h1
 have h2:TmL bz ok w ks kk:=h2
 obtain⟨a,n,c,rfl⟩:=h1.slice
 obtain⟨ma,mn,mc,rfl⟩:=h2.slice
 obtain⟨la,lc,rfl⟩:=hB.slice
 change Calls Tryz.prog 113 #[.agg #[.int .i64 20,.string nm,.int .i64 N,.int .i64 ty.kind,.string ty.name,.slice a n c,.slice ma mn mc],.slice la l.length lc] w _
 have B0:Hid (Blk ((w.alloc (.cells #[.int .i64 20,.string nm,.int .i64 N,.int .i64 ty.kind,.string ty.name,.slice a n c,.slice ma mn mc] 27)).alloc Z7) w.heap.size 27 [.int .i64 20,.string nm,.int .i64 N,.int .i64 ty.kind,.string ty.name,.slice a n c,.slice ma mn mc]∧Blk ((w.alloc (.cells #[.int .i64 20,.string nm,.int .i64 N,.int .i64 ty.kind,.string ty.name,.slice a n c,.slice ma mn mc] 27)).alloc Z7) (w.heap.size+1) 27 z27∧Kept (fun _=>False) w ((w.alloc (.cells #[.int .i64 20,.string nm,.int .i64 N,.int .i64 ty.kind,.string ty.name,.slice a n c,.slice ma mn mc] 27)).alloc Z7)):=Ld
  ⟨(Blk.new w 27 _).alloc _,Blk.new' 27 _ (by simp),(kR.alloc _).alloc _⟩
 have HBO:=Ld (fun W (k:Kept (fun _=>False) w W)=>rbof_any nm (hB.frame (sK k)) (by omega))
 have HCT:=Ld (fun W (k:Kept (fun _=>False) w W)=>rcopy_put hb (w:=W) (show TyL bz ok W ty.kids _ from h1.frame (sK k)) (show TmL bz ok W ks _ from h2.frame (sK k)))
 change Hid (∀ W,Kept (fun _=>False) w W→Calls Tryz.prog 26 #[.agg #[.int .i64 20,.string nm,.int .i64 N,.int .i64 ty.kind,.string ty.name,.slice a n c,.slice ma mn mc]] W _) at HCT
 have HRE:Hid (subT freshS (.mk 20 nm N ty ks) l=if (look l nm).isSome then (look l nm).getD tm0 else .mk 20 nm N ty ks):=Ld (by rw[subT,if_pos rfl];cases look l nm <;> rfl)
 have HBD:Hid ((look l nm).isSome=true→BdTm ((look l nm).getD tm0)):=Ld (fun h=>by
  have key:∀ (l:List (ByteArray×Tm)),(∀ b∈l,BdTm b.2)→(look l nm).isSome=true→BdTm ((look l nm).getD tm0):=by
   intro l
   induction l with
   | nil=>intro _ h;cases h
   | cons b l ih=>
    intro hb' h
    rw[look] at h ⊢
    by_cases e:b.1=nm
    ·rw[if_pos e];exact hb' b (by simp)
    ·rw[if_neg e] at h ⊢;exact ih (fun b hb=>hb' b (List.mem_cons_of_mem _ hb)) h
  exact key l (fun b hb=>(hbl b hb).1) h)
 clear h1 h2 hB hbl hn hb
 unfold BofP tmVal at HBO
 unfold PutP tmVal at HCT
 generalize subT freshS (.mk 20 nm N ty ks) l=res at *
 generalize (look l nm).getD tm0=r at *
 generalize (look l nm).isSome=b at *
 go_enter Tryz.func113,Tryz.ntmps113
 go_wp2_with fail
 generalize ((w.alloc (.cells #[.int .i64 20,.string nm,.int .i64 N,.int .i64 ty.kind,.string ty.name,.slice a n c,.slice ma mn mc] 27)).alloc Z7)=w1 at *
 refine (HBO.out w1 B0.out.2.2).mono ?_
 rintro e w3 ⟨otk,okk,rfl,hty,htm,k3⟩
 obtain⟨ua,un,uc,rfl⟩:=hty.slice
 obtain⟨va,vn,vc,rfl⟩:=htm.slice
 have BA3:=Ld (B0.out.1.kept k3 (fun h=>h))
 have BR3:=Ld (B0.out.2.1.kept k3 (fun h=>h))
 have KK3:=Ld (B0.out.2.2.trans k3)
 have HTY:=Ld hty
 have HTM:=Ld htm
 clear hty htm k3 B0 HBO
 go_upto_region 3 with (fail)
 have KK4:=Ld (KK3.out.alloc (.cells #[.int .i64 r.op,.string r.name,.int .i64 r.n,.int .i64 r.ty.kind,.string r.ty.name,.slice ua un uc,.slice va vn vc] 27))
 have BA4:=Ld (BA3.out.alloc (.cells #[.int .i64 r.op,.string r.name,.int .i64 r.n,.int .i64 r.ty.kind,.string r.ty.name,.slice ua un uc,.slice va vn vc] 27))
 have BR4:=Ld (BR3.out.alloc (.cells #[.int .i64 r.op,.string r.name,.int .i64 r.n,.int .i64 r.ty.kind,.string r.ty.name,.slice ua un uc,.slice va vn vc] 27))
 have BN4:=Ld (Blk.new w3 27 [.int .i64 r.op,.string r.name,.int .i64 r.n,.int .i64 r.ty.kind,.string r.ty.name,.slice ua un uc,.slice va vn vc])
 change Hid (Blk (w3.alloc (.cells #[.int .i64 r.op,.string r.name,.int .i64 r.n,.int .i64 r.ty.kind,.string r.ty.name,.slice ua un uc,.slice va vn vc] 27)) _ _ _) at BN4
 have HCR:=Ld (fun (hb:BdTm r)=>rcopy_put hb (w:=w3.alloc (.cells #[.int .i64 r.op,.string r.name,.int .i64 r.n,.int .i64 r.ty.kind,.string r.ty.name,.slice ua un uc,.slice va vn vc] 27)) (HTY.out.frame (Same.alloc _ _)) (HTM.out.frame (Same.alloc _ _)))
 unfold PutP tmVal at HCR
 clear KK3 BA3 BR3 HTY HTM
 generalize w3.alloc (.cells #[.int .i64 r.op,.string r.name,.int .i64 r.n,.int .i64 r.ty.kind,.string r.ty.name,.slice ua un uc,.slice va vn vc] 27)=w4 at *
 cases b
 ·have hres:Hid (res=.mk 20 nm N ty ks):=Ld (by rw[HRE.out];rfl)
  have HC:=Ld (HCT.out w4 KK4.out)
  have gA:∀ i,w4.cell? ⟨w.heap.size,i,none⟩=[Value.int .i64 20,.string nm,.int .i64 N,.int .i64 ty.kind,.string ty.name,.slice a n c,.slice ma mn mc][i]?:=BA4.out.cell
  clear HRE HBD HCT HCR BN4
  go_wp2_with fail
  clear gA
  refine HC.out.mono ?_
  rintro e w5 ⟨tk,kk,rfl,hty5,htm5,k5⟩
  obtain⟨pa,pn,pc,rfl⟩:=hty5.slice
  obtain⟨qa,qn,qc,rfl⟩:=htm5.slice
  have lw4:=BR4.out.lt
  have BR5:=Ld (BR4.out.kept k5 (fun h=>h))
  have KK5:=Ld (KK4.out.trans k5)
  have HTY:=Ld hty5
  have HTM:=Ld htm5
  clear hty5 htm5 k5 BR4 KK4 HC BA4
  have gR:∀ i,w5.cell? ⟨w.heap.size+1,i,none⟩=[Value.int .i64 0,.string ⟨#[]⟩,.int .i64 0,.int .i64 0,.string ⟨#[]⟩,.slice none 0 0,.slice none 0 0][i]?:=BR5.out.cell
  have fR:∀ i,w5.frozen? ⟨w.heap.size+1,i,none⟩=false:=BR5.out.frozen
  go_wp2_with fail
  exact bodyPost_ret (results_one Tryz.results113 rfl (load_tm (t:=.mk 20 nm N ty ks) (r7 BR5.out rfl))) rfl ⟨_,_,by rw[hres.out],by rw[hres.out];exact (HTY.out.frame (set7 (fun q hq=>by omega))).mono (fun q _ hq=>by omega),by rw[hres.out];exact (HTM.out.frame (set7 (fun q hq=>by omega))).mono (fun q _ hq=>by omega),k7w KK5.out (Or.inr (Nat.le_succ _))⟩
 ·have hres:Hid (res=r):=Ld (by rw[HRE.out];rfl)
  have HC:=Ld (HCR.out (HBD.out rfl))
  have gN:∀ i,w4.cell? ⟨w3.heap.size,i,none⟩=[Value.int .i64 r.op,.string r.name,.int .i64 r.n,.int .i64 r.ty.kind,.string r.ty.name,.slice ua un uc,.slice va vn vc][i]?:=BN4.out.cell
  clear HRE HBD HCT HCR BA4
  go_wp2_with fail
  clear gN
  refine HC.out.mono ?_
  rintro e w5 ⟨tk,kk,rfl,hty5,htm5,k5⟩
  obtain⟨pa,pn,pc,rfl⟩:=hty5.slice
  obtain⟨qa,qn,qc,rfl⟩:=htm5.slice
  have lw4:=BR4.out.lt
  have BR5:=Ld (BR4.out.kept k5 (fun h=>h))
  have KK5:=Ld (KK4.out.trans k5)
  have HTY:=Ld hty5
  have HTM:=Ld htm5
  clear hty5 htm5 k5 BR4 KK4 HC BN4
  have gR:∀ i,w5.cell? ⟨w.heap.size+1,i,none⟩=[Value.int .i64 0,.string ⟨#[]⟩,.int .i64 0,.int .i64 0,.string ⟨#[]⟩,.slice none 0 0,.slice none 0 0][i]?:=BR5.out.cell
  have fR:∀ i,w5.frozen? ⟨w.heap.size+1,i,none⟩=false:=BR5.out.frozen
  go_wp2_with fail
  exact bodyPost_ret (results_one Tryz.results113 rfl (load_tm (t:=r) (r7 BR5.out rfl))) rfl ⟨_,_,by rw[hres.out],by rw[hres.out];exact (HTY.out.frame (set7 (fun q hq=>by omega))).mono (fun q _ hq=>by omega),by rw[hres.out];exact (HTM.out.frame (set7 (fun q hq=>by omega))).mono (fun q _ hq=>by omega),k7w KK5.out (Or.inr (Nat.le_succ _))⟩
end Go.Proofs.YtdmebjbkccjhbaaGreatDoor
