/- A part. -/
import Derived.Test.YtdmebjbkccjhbaaGreatDoorU5
set_option linter.unusedVariables false
set_option linter.unusedSimpArgs false
set_option maxRecDepth 100000
set_option maxHeartbeats 32000000
namespace Go.Proofs.YtdmebjbkccjhbaaGreatDoor
open Go.RowKit
variable {bz:Nat}
inductive BdTm:Tm→Prop
 | mk {o:Int} {n:ByteArray} {i:Int} {t:Ty} {l:List Tm} (hn:l.length≤1000000) (ht:BdTy t) (hl:∀ k,k∈l→BdTm k):BdTm (.mk o n i t l)
def ClP (bz:Nat) (t:Tm) (w:World) (e:Ending) (w':World):Prop:=∃ v u,e=.returned (tmVal t v u)∧TyL bz (fun k=>w.heap.size≤k) w' t.ty.kids v∧TmL bz (fun k=>w.heap.size≤k) w' t.kids u∧Kept (fun _=>False) w w'
def ClC (bz:Nat) (t:Tm):Prop:=∀ (w:World) (ok:Nat→Prop) (tk kk:Value),TyL bz ok w t.ty.kids tk→TmL bz ok w t.kids kk→Calls Tryz.prog 70 #[tmVal t tk kk] w (ClP bz t w)
theorem seven {n j:Nat} (h:j<n*7):∃ i r,i<n∧r<7∧j=i*7+r:=⟨j / 7,j % 7,by omega,by omega,by omega⟩
theorem set7 {W:World} {ok:Nat→Prop} {g i0 i1 i2 i3 i4 i5 i6:Nat} {x0 x1 x2 x3 x4 x5 x6:Value} (h:∀ k,ok k→k≠g):Same ok W (((((((W.setCell ⟨g,i0,none⟩ (x0)).setCell ⟨g,i1,none⟩ (x1)).setCell ⟨g,i2,none⟩ (x2)).setCell ⟨g,i3,none⟩ (x3)).setCell ⟨g,i4,none⟩ (x4)).setCell ⟨g,i5,none⟩ (x5)).setCell ⟨g,i6,none⟩ (x6)):=
 Same.of_kept (S:=(·=g)) ((((((((Kept.refl (fun x=>x=g) W).setCell (p:=⟨g,i0,none⟩) (Or.inl rfl) _).setCell (p:=⟨g,i1,none⟩) (Or.inl rfl) _).setCell (p:=⟨g,i2,none⟩) (Or.inl rfl) _).setCell (p:=⟨g,i3,none⟩) (Or.inl rfl) _).setCell (p:=⟨g,i4,none⟩) (Or.inl rfl) _).setCell (p:=⟨g,i5,none⟩) (Or.inl rfl) _).setCell (p:=⟨g,i6,none⟩) (Or.inl rfl) _) h
structure CJ (bz:Nat) (w:World) (l:List Tm) (hd:List Value) (n b off g k:Nat) (wr:World):Prop where
 kp:Kept (fun _=>False) w wr
 a:Blk wr w.heap.size 27 (hd++[.slice (some ⟨g,0,none⟩) n n])
 r:Blk wr (w.heap.size+1) 27 z27
 row:∃ (L:List Value) (K' M':Nat→Value),Blk wr g 27 L∧n*7≤L.length∧(∀ j,k*7≤j→j<n*7→L[j]?=w.cell? ⟨b,off+j,none⟩) ∧
  ∀ i (_:i<k) (h:i<l.length),L[i*7]?=some (.int .i64 l[i].op)∧L[i*7+1]?=some (.string l[i].name)∧L[i*7+2]?=some (.int .i64 l[i].n)∧L[i*7+3]?=some (.int .i64 l[i].ty.kind)∧L[i*7+4]?=some (.string l[i].ty.name)∧L[i*7+5]?=some (K' i)∧L[i*7+6]?=some (M' i)∧TyL bz (fun q=>w.heap.size+2≤q∧q≠g) wr l[i].ty.kids (K' i)∧TmL bz (fun q=>w.heap.size+2≤q∧q≠g) wr l[i].kids (M' i)
theorem CJ.step {w wr w4:World} {l:List Tm} {hd:List Value} {b off g k:Nat} {v u:Value} (h:CJ bz w l hd l.length b off g k wr) (hg:w.heap.size+2≤g) (hk:k<l.length) (kk:Kept (fun _=>False) wr w4) (hv:TyL bz (fun q=>wr.heap.size≤q) w4 l[k].ty.kids v) (hu:TmL bz (fun q=>wr.heap.size≤q) w4 l[k].kids u):
  CJ bz w l hd l.length b off g (k+1) (((((((w4.setCell ⟨g,k*7,none⟩ (.int .i64 l[k].op)).setCell ⟨g,k*7+1,none⟩ (.string l[k].name)).setCell ⟨g,k*7+2,none⟩ (.int .i64 l[k].n)).setCell ⟨g,k*7+3,none⟩ (.int .i64 l[k].ty.kind)).setCell ⟨g,k*7+4,none⟩ (.string l[k].ty.name)).setCell ⟨g,k*7+5,none⟩ (v)).setCell ⟨g,k*7+6,none⟩ (u)):=by
 obtain⟨L,K',M',bG,hLn,hLo,hLd⟩:=h.row
 have lg:=bG.lt
 have b4:=bG.kept kk (fun h=>h)
 refine⟨((((((((h.kp.trans kk).setCell (p:=⟨g,k*7,none⟩) (Or.inr (by show w.heap.size≤g;omega)) _).setCell (p:=⟨g,k*7+1,none⟩) (Or.inr (by show w.heap.size≤g;omega)) _).setCell (p:=⟨g,k*7+2,none⟩) (Or.inr (by show w.heap.size≤g;omega)) _).setCell (p:=⟨g,k*7+3,none⟩) (Or.inr (by show w.heap.size≤g;omega)) _).setCell (p:=⟨g,k*7+4,none⟩) (Or.inr (by show w.heap.size≤g;omega)) _).setCell (p:=⟨g,k*7+5,none⟩) (Or.inr (by show w.heap.size≤g;omega)) _).setCell (p:=⟨g,k*7+6,none⟩) (Or.inr (by show w.heap.size≤g;omega)) _),
  ((((((((h.a.kept kk (fun h=>h)).set_other _ _ (by show w.heap.size≠g;omega)).set_other _ _ (by show w.heap.size≠g;omega)).set_other _ _ (by show w.heap.size≠g;omega)).set_other _ _ (by show w.heap.size≠g;omega)).set_other _ _ (by show w.heap.size≠g;omega)).set_other _ _ (by show w.heap.size≠g;omega)).set_other _ _ (by show w.heap.size≠g;omega)),
  ((((((((h.r.kept kk (fun h=>h)).set_other _ _ (by show w.heap.size+1≠g;omega)).set_other _ _ (by show w.heap.size+1≠g;omega)).set_other _ _ (by show w.heap.size+1≠g;omega)).set_other _ _ (by show w.heap.size+1≠g;omega)).set_other _ _ (by show w.heap.size+1≠g;omega)).set_other _ _ (by show w.heap.size+1≠g;omega)).set_other _ _ (by show w.heap.size+1≠g;omega)),
  (((((((L.set (k*7) (.int .i64 l[k].op)).set (k*7+1) (.string l[k].name)).set (k*7+2) (.int .i64 l[k].n)).set (k*7+3) (.int .i64 l[k].ty.kind)).set (k*7+4) (.string l[k].ty.name)).set (k*7+5) (v)).set (k*7+6) (u)),fun i=>if i=k then v else K' i,fun i=>if i=k then u else M' i,
  (((((((b4.set _ _).set _ _).set _ _).set _ _).set _ _).set _ _).set _ _),by simpa using hLn,fun j h1 h2=>?_,fun i hi hl=>?_⟩
 ·rw[List.getElem?_set_ne (by omega),List.getElem?_set_ne (by omega),List.getElem?_set_ne (by omega),List.getElem?_set_ne (by omega),List.getElem?_set_ne (by omega),List.getElem?_set_ne (by omega),List.getElem?_set_ne (by omega)]
  exact hLo j (by omega) h2
 ·by_cases hik:i=k
  ·subst hik
   refine⟨?_,?_,?_,?_,?_,?_,?_,?_,?_⟩
   ·rw[List.getElem?_set_ne (by omega),List.getElem?_set_ne (by omega),List.getElem?_set_ne (by omega),List.getElem?_set_ne (by omega),List.getElem?_set_ne (by omega),List.getElem?_set_ne (by omega),List.getElem?_set_self (by omega)]
   ·rw[List.getElem?_set_ne (by omega),List.getElem?_set_ne (by omega),List.getElem?_set_ne (by omega),List.getElem?_set_ne (by omega),List.getElem?_set_ne (by omega),List.getElem?_set_self (by simp;omega)]
   ·rw[List.getElem?_set_ne (by omega),List.getElem?_set_ne (by omega),List.getElem?_set_ne (by omega),List.getElem?_set_ne (by omega),List.getElem?_set_self (by simp;omega)]
   ·rw[List.getElem?_set_ne (by omega),List.getElem?_set_ne (by omega),List.getElem?_set_ne (by omega),List.getElem?_set_self (by simp;omega)]
   ·rw[List.getElem?_set_ne (by omega),List.getElem?_set_ne (by omega),List.getElem?_set_self (by simp;omega)]
   ·rw[List.getElem?_set_ne (by omega),List.getElem?_set_self (by simp;omega)];show some v=some (if i=i then v else K' i);rw[if_pos rfl]
   ·rw[List.getElem?_set_self (by simp;omega)];show some u=some (if i=i then u else M' i);rw[if_pos rfl]
   ·show TyL bz _ _ _ (if i=i then v else K' i)
    rw[if_pos rfl]
    exact (hv.mono (ok':=fun q=>w.heap.size+2≤q∧q≠g) (fun q _ h=>⟨by omega,by omega⟩)).frame (set7 (fun q h=>h.2))
   ·show TmL bz _ _ _ (if i=i then u else M' i)
    rw[if_pos rfl]
    exact (hu.mono (ok':=fun q=>w.heap.size+2≤q∧q≠g) (fun q _ h=>⟨by omega,by omega⟩)).frame (set7 (fun q h=>h.2))
  ·obtain⟨e0,e1,e2,e3,e4,e5,e6,e7,e8⟩:=hLd i (by omega) hl
   refine⟨?_,?_,?_,?_,?_,?_,?_,?_,?_⟩
   ·rw[List.getElem?_set_ne (by omega),List.getElem?_set_ne (by omega),List.getElem?_set_ne (by omega),List.getElem?_set_ne (by omega),List.getElem?_set_ne (by omega),List.getElem?_set_ne (by omega),List.getElem?_set_ne (by omega)];exact e0
   ·rw[List.getElem?_set_ne (by omega),List.getElem?_set_ne (by omega),List.getElem?_set_ne (by omega),List.getElem?_set_ne (by omega),List.getElem?_set_ne (by omega),List.getElem?_set_ne (by omega),List.getElem?_set_ne (by omega)];exact e1
   ·rw[List.getElem?_set_ne (by omega),List.getElem?_set_ne (by omega),List.getElem?_set_ne (by omega),List.getElem?_set_ne (by omega),List.getElem?_set_ne (by omega),List.getElem?_set_ne (by omega),List.getElem?_set_ne (by omega)];exact e2
   ·rw[List.getElem?_set_ne (by omega),List.getElem?_set_ne (by omega),List.getElem?_set_ne (by omega),List.getElem?_set_ne (by omega),List.getElem?_set_ne (by omega),List.getElem?_set_ne (by omega),List.getElem?_set_ne (by omega)];exact e3
   ·rw[List.getElem?_set_ne (by omega),List.getElem?_set_ne (by omega),List.getElem?_set_ne (by omega),List.getElem?_set_ne (by omega),List.getElem?_set_ne (by omega),List.getElem?_set_ne (by omega),List.getElem?_set_ne (by omega)];exact e4
   ·rw[List.getElem?_set_ne (by omega),List.getElem?_set_ne (by omega),List.getElem?_set_ne (by omega),List.getElem?_set_ne (by omega),List.getElem?_set_ne (by omega),List.getElem?_set_ne (by omega),List.getElem?_set_ne (by omega)];show _=some (if i=k then v else K' i);rw[if_neg hik];exact e5
   ·rw[List.getElem?_set_ne (by omega),List.getElem?_set_ne (by omega),List.getElem?_set_ne (by omega),List.getElem?_set_ne (by omega),List.getElem?_set_ne (by omega),List.getElem?_set_ne (by omega),List.getElem?_set_ne (by omega)];show _=some (if i=k then u else M' i);rw[if_neg hik];exact e6
   ·show TyL bz _ _ _ (if i=k then v else K' i)
    rw[if_neg hik]
    exact (e7.frame (sK kk)).frame (set7 (fun q h=>h.2))
   ·show TmL bz _ _ _ (if i=k then u else M' i)
    rw[if_neg hik]
    exact (e8.frame (sK kk)).frame (set7 (fun q h=>h.2))
theorem clone_nil {op:Int} {nm:ByteArray} {N:Int} {ty:Ty} {w:World} {ok:Nat→Prop} {ta:Option Addr} {tn tc:Nat} (hcp:CpC bz ty) (hty:TyL bz ok w ty.kids (.slice ta tn tc)) :Calls Tryz.prog 70 #[.agg #[.int .i64 op,.string nm,.int .i64 N,.int .i64 ty.kind,.string ty.name,.slice ta tn tc,.slice none 0 0]] w (ClP bz (.mk op nm N ty []) w):=by
 have bA:Blk ((w.alloc (.cells #[.int .i64 op,.string nm,.int .i64 N,.int .i64 ty.kind,.string ty.name,.slice ta tn tc,.slice none 0 0] 27)).alloc Z7) w.heap.size 27 [.int .i64 op,.string nm,.int .i64 N,.int .i64 ty.kind,.string ty.name,.slice ta tn tc,.slice none 0 0]:=(Blk.new w 27 _).alloc _
 have bR:Blk ((w.alloc (.cells #[.int .i64 op,.string nm,.int .i64 N,.int .i64 ty.kind,.string ty.name,.slice ta tn tc,.slice none 0 0] 27)).alloc Z7) (w.heap.size+1) 27 z27:=Blk.new' 27 _ (by simp)
 have K0:Kept (fun _=>False) w ((w.alloc (.cells #[.int .i64 op,.string nm,.int .i64 N,.int .i64 ty.kind,.string ty.name,.slice ta tn tc,.slice none 0 0] 27)).alloc Z7):=(kR.alloc _).alloc _
 have Z0:Hid (((w.alloc (.cells #[.int .i64 op,.string nm,.int .i64 N,.int .i64 ty.kind,.string ty.name,.slice ta tn tc,.slice none 0 0] 27)).alloc Z7).heap.size=w.heap.size+2):=Ld (by simp)
 have HT0:=Ld (hcp ((w.alloc (.cells #[.int .i64 op,.string nm,.int .i64 N,.int .i64 ty.kind,.string ty.name,.slice ta tn tc,.slice none 0 0] 27)).alloc Z7) ok (.slice ta tn tc) ((hty.frame (Same.alloc w (.cells #[.int .i64 op,.string nm,.int .i64 N,.int .i64 ty.kind,.string ty.name,.slice ta tn tc,.slice none 0 0] 27))).frame (Same.alloc _ _)))
 clear hcp
 go_enter Tryz.func70,Tryz.ntmps70
 go_wp2_with fail
 refine HT0.out.mono ?_
 rintro e w1 ⟨tv,rfl,hT1,k1⟩
 obtain⟨va,vn,vc,rfl⟩:=hT1.slice
 unfold tyVal
 rw[Z0.out] at hT1
 have bA1:=bA.kept k1 (fun h=>h)
 have bR1:=bR.kept k1 (fun h=>h)
 have K1:=K0.trans k1
 have a0:w1.cell? ⟨w.heap.size,0,none⟩=some (.int .i64 op):=bA1.cell 0
 have a1:w1.cell? ⟨w.heap.size,1,none⟩=some (.string nm):=bA1.cell 1
 have a2:w1.cell? ⟨w.heap.size,2,none⟩=some (.int .i64 N):=bA1.cell 2
 have a3:w1.cell? ⟨w.heap.size,3,none⟩=some (.int .i64 ty.kind):=bA1.cell 3
 have a4:w1.cell? ⟨w.heap.size,4,none⟩=some (.string ty.name):=bA1.cell 4
 have a5:w1.cell? ⟨w.heap.size,5,none⟩=some (.slice ta tn tc):=bA1.cell 5
 have a6:w1.cell? ⟨w.heap.size,6,none⟩=some (.slice none 0 0):=bA1.cell 6
 have fa3:=bA1.frozen 3
 have fa4:=bA1.frozen 4
 have fa5:=bA1.frozen 5
 have fa6:=bA1.frozen 6
 have r0:w1.cell? ⟨w.heap.size+1,0,none⟩=some (.int .i64 0):=bR1.cell 0
 have f0:=bR1.frozen 0
 have r1:w1.cell? ⟨w.heap.size+1,1,none⟩=some (.string ⟨#[]⟩):=bR1.cell 1
 have f1:=bR1.frozen 1
 have r2:w1.cell? ⟨w.heap.size+1,2,none⟩=some (.int .i64 0):=bR1.cell 2
 have f2:=bR1.frozen 2
 have r3:w1.cell? ⟨w.heap.size+1,3,none⟩=some (.int .i64 0):=bR1.cell 3
 have f3:=bR1.frozen 3
 have r4:w1.cell? ⟨w.heap.size+1,4,none⟩=some (.string ⟨#[]⟩):=bR1.cell 4
 have f4:=bR1.frozen 4
 have r5:w1.cell? ⟨w.heap.size+1,5,none⟩=some (.slice none 0 0):=bR1.cell 5
 have f5:=bR1.frozen 5
 have r6:w1.cell? ⟨w.heap.size+1,6,none⟩=some (.slice none 0 0):=bR1.cell 6
 have f6:=bR1.frozen 6
 have BR:=Ld bR1
 have KP:=Ld K1
 have HT1:=Ld hT1
 have BA1:=Ld bA1
 clear bR1 K1 bA1 bA bR hT1
 go_wp2_with (first | (go_at_call 115;refine (cloneTm_nil _).mono ?_;rintro e w' ⟨rfl,rfl⟩) | (go_at_call 71;refine (clipTm_nil _).mono ?_;rintro e w' ⟨rfl,rfl⟩))
 go_loop [17] (fun i=>i=.int .i64 0) (fun i=>0)
 case atStart=>rfl
 case round=>
  subst hrel
  go_wp2_with fail
  have bF:=r7 (x0:=.int .i64 op) (x1:=.string nm) (x2:=.int .i64 N) (x3:=.int .i64 ty.kind) (x4:=.string ty.name) (x5:=.slice va vn vc) (x6:=.slice none 0 0) ((((BR.out.set_other ⟨w.heap.size,3,none⟩ (.int .i64 ty.kind) (by show w.heap.size+1≠w.heap.size;omega)).set_other ⟨w.heap.size,4,none⟩ (.string ty.name) (by show w.heap.size+1≠w.heap.size;omega)).set_other ⟨w.heap.size,5,none⟩ (.slice va vn vc) (by show w.heap.size+1≠w.heap.size;omega)).set_other ⟨w.heap.size,6,none⟩ (.slice none 0 0) (by show w.heap.size+1≠w.heap.size;omega)) rfl
  refine bodyPost_ret (results_one Tryz.results70 rfl (load_tm (t:=.mk op nm N ty []) bF)) rfl ⟨_,_,rfl,?_,?_,?_⟩
  ·exact ((HT1.out.frame (Same.of_kept (S:=(·=w.heap.size)) (((((Kept.refl (fun x=>x=w.heap.size) _).setCell (p:=⟨w.heap.size,3,none⟩) (Or.inl rfl) (.int .i64 ty.kind)).setCell (p:=⟨w.heap.size,4,none⟩) (Or.inl rfl) (.string ty.name)).setCell (p:=⟨w.heap.size,5,none⟩) (Or.inl rfl) (.slice va vn vc)).setCell (p:=⟨w.heap.size,6,none⟩) (Or.inl rfl) (.slice none 0 0)) (fun q h e=>by omega))).frame (set7 (g:=w.heap.size+1) (fun q h=>by omega))).mono (fun q _ h=>by omega)
  ·exact .nil (Or.inl rfl)
  ·exact (((((((((((KP.out.setCell (p:=⟨w.heap.size,3,none⟩) (Or.inr (Nat.le_refl _)) _).setCell (p:=⟨w.heap.size,4,none⟩) (Or.inr (Nat.le_refl _)) _).setCell (p:=⟨w.heap.size,5,none⟩) (Or.inr (Nat.le_refl _)) _).setCell (p:=⟨w.heap.size,6,none⟩) (Or.inr (Nat.le_refl _)) _).setCell (p:=⟨w.heap.size+1,0,none⟩) (Or.inr (by show w.heap.size≤w.heap.size+1;omega)) _).setCell (p:=⟨w.heap.size+1,1,none⟩) (Or.inr (by show w.heap.size≤w.heap.size+1;omega)) _).setCell (p:=⟨w.heap.size+1,2,none⟩) (Or.inr (by show w.heap.size≤w.heap.size+1;omega)) _).setCell (p:=⟨w.heap.size+1,3,none⟩) (Or.inr (by show w.heap.size≤w.heap.size+1;omega)) _).setCell (p:=⟨w.heap.size+1,4,none⟩) (Or.inr (by show w.heap.size≤w.heap.size+1;omega)) _).setCell (p:=⟨w.heap.size+1,5,none⟩) (Or.inr (by show w.heap.size≤w.heap.size+1;omega)) _).setCell (p:=⟨w.heap.size+1,6,none⟩) (Or.inr (by show w.heap.size≤w.heap.size+1;omega)) _)
theorem clone_zero {op:Int} {nm:ByteArray} {N:Int} {ty:Ty} {w:World} {ok:Nat→Prop} {ta:Option Addr} {tn tc:Nat} (hcp:CpC bz ty) (hty:TyL bz ok w ty.kids (.slice ta tn tc)) (ad:Addr) (cp:Nat):Calls Tryz.prog 70 #[.agg #[.int .i64 op,.string nm,.int .i64 N,.int .i64 ty.kind,.string ty.name,.slice ta tn tc,.slice (some ad) 0 cp]] w (ClP bz (.mk op nm N ty []) w):=by
 have bA:Blk ((w.alloc (.cells #[.int .i64 op,.string nm,.int .i64 N,.int .i64 ty.kind,.string ty.name,.slice ta tn tc,.slice (some ad) 0 cp] 27)).alloc Z7) w.heap.size 27 [.int .i64 op,.string nm,.int .i64 N,.int .i64 ty.kind,.string ty.name,.slice ta tn tc,.slice (some ad) 0 cp]:=(Blk.new w 27 _).alloc _
 have bR:Blk ((w.alloc (.cells #[.int .i64 op,.string nm,.int .i64 N,.int .i64 ty.kind,.string ty.name,.slice ta tn tc,.slice (some ad) 0 cp] 27)).alloc Z7) (w.heap.size+1) 27 z27:=Blk.new' 27 _ (by simp)
 have K0:Kept (fun _=>False) w ((w.alloc (.cells #[.int .i64 op,.string nm,.int .i64 N,.int .i64 ty.kind,.string ty.name,.slice ta tn tc,.slice (some ad) 0 cp] 27)).alloc Z7):=(kR.alloc _).alloc _
 have Z0:Hid (((w.alloc (.cells #[.int .i64 op,.string nm,.int .i64 N,.int .i64 ty.kind,.string ty.name,.slice ta tn tc,.slice (some ad) 0 cp] 27)).alloc Z7).heap.size=w.heap.size+2):=Ld (by simp)
 have HT0:=Ld (hcp ((w.alloc (.cells #[.int .i64 op,.string nm,.int .i64 N,.int .i64 ty.kind,.string ty.name,.slice ta tn tc,.slice (some ad) 0 cp] 27)).alloc Z7) ok (.slice ta tn tc) ((hty.frame (Same.alloc w (.cells #[.int .i64 op,.string nm,.int .i64 N,.int .i64 ty.kind,.string ty.name,.slice ta tn tc,.slice (some ad) 0 cp] 27))).frame (Same.alloc _ _)))
 clear hcp
 go_enter Tryz.func70,Tryz.ntmps70
 go_wp2_with fail
 refine HT0.out.mono ?_
 rintro e w1 ⟨tv,rfl,hT1,k1⟩
 obtain⟨va,vn,vc,rfl⟩:=hT1.slice
 unfold tyVal
 rw[Z0.out] at hT1
 have bA1:=bA.kept k1 (fun h=>h)
 have bR1:=bR.kept k1 (fun h=>h)
 have K1:=K0.trans k1
 have a0:w1.cell? ⟨w.heap.size,0,none⟩=some (.int .i64 op):=bA1.cell 0
 have a1:w1.cell? ⟨w.heap.size,1,none⟩=some (.string nm):=bA1.cell 1
 have a2:w1.cell? ⟨w.heap.size,2,none⟩=some (.int .i64 N):=bA1.cell 2
 have a3:w1.cell? ⟨w.heap.size,3,none⟩=some (.int .i64 ty.kind):=bA1.cell 3
 have a4:w1.cell? ⟨w.heap.size,4,none⟩=some (.string ty.name):=bA1.cell 4
 have a5:w1.cell? ⟨w.heap.size,5,none⟩=some (.slice ta tn tc):=bA1.cell 5
 have a6:w1.cell? ⟨w.heap.size,6,none⟩=some (.slice (some ad) 0 cp):=bA1.cell 6
 have fa3:=bA1.frozen 3
 have fa4:=bA1.frozen 4
 have fa5:=bA1.frozen 5
 have fa6:=bA1.frozen 6
 go_wp2_with fail
 refine (cloneTm_zero ad cp).mono ?_
 rintro e w2 ⟨g,cap,rfl,k2⟩
 have bA2:=(((bA1.set 3 (.int .i64 ty.kind)).set 4 (.string ty.name)).set 5 (.slice va vn vc)).kept k2 (fun h=>h)
 have bR2:=(((bR1.set_other _ _ (by show w.heap.size+1≠w.heap.size;omega)).set_other _ _ (by show w.heap.size+1≠w.heap.size;omega)).set_other _ _ (by show w.heap.size+1≠w.heap.size;omega)).kept k2 (fun h=>h)
 have K2:=(((K1.setCell (p:=⟨w.heap.size,3,none⟩) (Or.inr (by show w.heap.size≤w.heap.size;omega)) _).setCell (p:=⟨w.heap.size,4,none⟩) (Or.inr (by show w.heap.size≤w.heap.size;omega)) _).setCell (p:=⟨w.heap.size,5,none⟩) (Or.inr (by show w.heap.size≤w.heap.size;omega)) _).trans k2
 have HT1:=Ld ((hT1.mono (ok':=fun k=>w.heap.size+2≤k) (fun _ _ h=>h)).frame (Same.trans (Same.of_kept (S:=(·=w.heap.size)) ((((Kept.refl (fun x=>x=w.heap.size) w1).setCell (p:=⟨w.heap.size,3,none⟩) (Or.inl rfl) (.int .i64 ty.kind)).setCell (p:=⟨w.heap.size,4,none⟩) (Or.inl rfl) (.string ty.name)).setCell (p:=⟨w.heap.size,5,none⟩) (Or.inl rfl) (.slice va vn vc)) (fun q h e=>by omega)) (sK k2) (by simp[World.setCell])))
 clear a0 a1 a2 a3 a4 a5 a6 fa3 fa4 fa5 fa6
 have a0:w2.cell? ⟨w.heap.size,0,none⟩=some (.int .i64 op):=bA2.cell 0
 have a1:w2.cell? ⟨w.heap.size,1,none⟩=some (.string nm):=bA2.cell 1
 have a2:w2.cell? ⟨w.heap.size,2,none⟩=some (.int .i64 N):=bA2.cell 2
 have a3:w2.cell? ⟨w.heap.size,3,none⟩=some (.int .i64 ty.kind):=bA2.cell 3
 have a4:w2.cell? ⟨w.heap.size,4,none⟩=some (.string ty.name):=bA2.cell 4
 have a5:w2.cell? ⟨w.heap.size,5,none⟩=some (.slice va vn vc):=bA2.cell 5
 have a6:w2.cell? ⟨w.heap.size,6,none⟩=some (.slice (some ad) 0 cp):=bA2.cell 6
 have fa6:=bA2.frozen 6
 have r0:w2.cell? ⟨w.heap.size+1,0,none⟩=some (.int .i64 0):=bR2.cell 0
 have f0:=bR2.frozen 0
 have r1:w2.cell? ⟨w.heap.size+1,1,none⟩=some (.string ⟨#[]⟩):=bR2.cell 1
 have f1:=bR2.frozen 1
 have r2:w2.cell? ⟨w.heap.size+1,2,none⟩=some (.int .i64 0):=bR2.cell 2
 have f2:=bR2.frozen 2
 have r3:w2.cell? ⟨w.heap.size+1,3,none⟩=some (.int .i64 0):=bR2.cell 3
 have f3:=bR2.frozen 3
 have r4:w2.cell? ⟨w.heap.size+1,4,none⟩=some (.string ⟨#[]⟩):=bR2.cell 4
 have f4:=bR2.frozen 4
 have r5:w2.cell? ⟨w.heap.size+1,5,none⟩=some (.slice none 0 0):=bR2.cell 5
 have f5:=bR2.frozen 5
 have r6:w2.cell? ⟨w.heap.size+1,6,none⟩=some (.slice none 0 0):=bR2.cell 6
 have f6:=bR2.frozen 6
 have BR:=Ld bR2
 have KP:=Ld K2
 clear bR1 K1 bA1 bA bR hT1 bR2 K2 bA2
 go_wp2_with (go_at_call 71;refine (clipTm_some _ g 0 cap (Nat.zero_le _) (Nat.zero_le _)).mono ?_;rintro e w' ⟨rfl,rfl⟩)
 go_loop [17] (fun i=>i=.int .i64 0) (fun i=>0)
 case atStart=>rfl
 case round=>
  subst hrel
  go_wp2_with fail
  have bF:=r7 (x0:=.int .i64 op) (x1:=.string nm) (x2:=.int .i64 N) (x3:=.int .i64 ty.kind) (x4:=.string ty.name) (x5:=.slice va vn vc) (x6:=.slice (some ⟨g,0,none⟩) 0 0) (BR.out.set_other ⟨w.heap.size,6,none⟩ (.slice (some ⟨g,0,none⟩) 0 0) (by show w.heap.size+1≠w.heap.size;omega)) rfl
  refine bodyPost_ret (results_one Tryz.results70 rfl (load_tm (t:=.mk op nm N ty []) bF)) rfl ⟨_,_,rfl,?_,?_,?_⟩
  ·exact ((HT1.out.frame (Same.of_kept (S:=(·=w.heap.size)) ((Kept.refl (fun x=>x=w.heap.size) _).setCell (p:=⟨w.heap.size,6,none⟩) (Or.inl rfl) (.slice (some ⟨g,0,none⟩) 0 0)) (fun q h e=>by omega))).frame (set7 (g:=w.heap.size+1) (fun q h=>by omega))).mono (fun q _ h=>by omega)
  ·exact .nil (Or.inr ⟨_,_,rfl⟩)
  ·exact ((((((((KP.out.setCell (p:=⟨w.heap.size,6,none⟩) (Or.inr (Nat.le_refl _)) _).setCell (p:=⟨w.heap.size+1,0,none⟩) (Or.inr (by show w.heap.size≤w.heap.size+1;omega)) _).setCell (p:=⟨w.heap.size+1,1,none⟩) (Or.inr (by show w.heap.size≤w.heap.size+1;omega)) _).setCell (p:=⟨w.heap.size+1,2,none⟩) (Or.inr (by show w.heap.size≤w.heap.size+1;omega)) _).setCell (p:=⟨w.heap.size+1,3,none⟩) (Or.inr (by show w.heap.size≤w.heap.size+1;omega)) _).setCell (p:=⟨w.heap.size+1,4,none⟩) (Or.inr (by show w.heap.size≤w.heap.size+1;omega)) _).setCell (p:=⟨w.heap.size+1,5,none⟩) (Or.inr (by show w.heap.size≤w.heap.size+1;omega)) _).setCell (p:=⟨w.heap.size+1,6,none⟩) (Or.inr (by show w.heap.size≤w.heap.size+1;omega)) _)
theorem clone_some {op:Int} {nm:ByteArray} {N:Int} {ty:Ty} {w:World} {ok:Nat→Prop} {ta:Option Addr} {tn tc:Nat} (hcp:CpC bz ty) (hty:TyL bz ok w ty.kids (.slice ta tn tc)) {l:List Tm} {b off cp:Nat} (IH:∀ t,t∈l→ClC bz t) (hn:l.length≤1000000) (K M:Nat→Value) (hcell:∀ i (h:i<l.length),w.cell? ⟨b,off+i*7,none⟩=some (.int .i64 l[i].op)∧w.cell? ⟨b,off+i*7+1,none⟩=some (.string l[i].name)∧w.cell? ⟨b,off+i*7+2,none⟩=some (.int .i64 l[i].n)∧w.cell? ⟨b,off+i*7+3,none⟩=some (.int .i64 l[i].ty.kind)∧w.cell? ⟨b,off+i*7+4,none⟩=some (.string l[i].ty.name)∧w.cell? ⟨b,off+i*7+5,none⟩=some (K i)∧w.cell? ⟨b,off+i*7+6,none⟩=some (M i)) (hk:∀ i (h:i<l.length),TyL bz ok w l[i].ty.kids (K i)) (hm:∀ i (h:i<l.length),TmL bz ok w l[i].kids (M i)):Calls Tryz.prog 70 #[.agg #[.int .i64 op,.string nm,.int .i64 N,.int .i64 ty.kind,.string ty.name,.slice ta tn tc,.slice (some ⟨b,off,none⟩) l.length cp]] w (ClP bz (.mk op nm N ty l) w):=by
 have HCELL:=Ld hcell
 have HK:=Ld hk
 have HM:=Ld hm
 have HIH:=Ld IH
 clear hcell hk hm IH
 have hone:Hid (∀ j,j<l.length*7→∃ v,w.cell? ⟨b,off+j,none⟩=some v∧v.oneCell'=true):=Ld (by
  intro j hj
  obtain⟨i,r,hi,hr,rfl⟩:=seven hj
  have c:=HCELL.out i hi
  rcases (show r=0∨r=1∨r=2∨r=3∨r=4∨r=5∨r=6 by omega) with rfl | rfl | rfl | rfl | rfl | rfl | rfl
  ·exact⟨_,c.1,rfl⟩
  ·exact⟨_,by rw[show off+(i*7+1)=off+i*7+1 by omega];exact c.2.1,rfl⟩
  ·exact⟨_,by rw[show off+(i*7+2)=off+i*7+2 by omega];exact c.2.2.1,rfl⟩
  ·exact⟨_,by rw[show off+(i*7+3)=off+i*7+3 by omega];exact c.2.2.2.1,rfl⟩
  ·exact⟨_,by rw[show off+(i*7+4)=off+i*7+4 by omega];exact c.2.2.2.2.1,rfl⟩
  ·obtain⟨a,n,c',hh⟩:=(HK.out i hi).slice
   exact⟨_,by rw[show off+(i*7+5)=off+i*7+5 by omega];exact c.2.2.2.2.2.1,by rw[hh];rfl⟩
  ·obtain⟨a,n,c',hh⟩:=(HM.out i hi).slice
   exact⟨_,by rw[show off+(i*7+6)=off+i*7+6 by omega];exact c.2.2.2.2.2.2,by rw[hh];rfl⟩)
 have bA:Blk ((w.alloc (.cells #[.int .i64 op,.string nm,.int .i64 N,.int .i64 ty.kind,.string ty.name,.slice ta tn tc,.slice (some ⟨b,off,none⟩) l.length cp] 27)).alloc Z7) w.heap.size 27 [.int .i64 op,.string nm,.int .i64 N,.int .i64 ty.kind,.string ty.name,.slice ta tn tc,.slice (some ⟨b,off,none⟩) l.length cp]:=(Blk.new w 27 _).alloc _
 have bR:Blk ((w.alloc (.cells #[.int .i64 op,.string nm,.int .i64 N,.int .i64 ty.kind,.string ty.name,.slice ta tn tc,.slice (some ⟨b,off,none⟩) l.length cp] 27)).alloc Z7) (w.heap.size+1) 27 z27:=Blk.new' 27 _ (by simp)
 have K0:Kept (fun _=>False) w ((w.alloc (.cells #[.int .i64 op,.string nm,.int .i64 N,.int .i64 ty.kind,.string ty.name,.slice ta tn tc,.slice (some ⟨b,off,none⟩) l.length cp] 27)).alloc Z7):=(kR.alloc _).alloc _
 have Z0:Hid (((w.alloc (.cells #[.int .i64 op,.string nm,.int .i64 N,.int .i64 ty.kind,.string ty.name,.slice ta tn tc,.slice (some ⟨b,off,none⟩) l.length cp] 27)).alloc Z7).heap.size=w.heap.size+2):=Ld (by simp)
 have HT0:=Ld (hcp ((w.alloc (.cells #[.int .i64 op,.string nm,.int .i64 N,.int .i64 ty.kind,.string ty.name,.slice ta tn tc,.slice (some ⟨b,off,none⟩) l.length cp] 27)).alloc Z7) ok (.slice ta tn tc) ((hty.frame (Same.alloc w (.cells #[.int .i64 op,.string nm,.int .i64 N,.int .i64 ty.kind,.string ty.name,.slice ta tn tc,.slice (some ⟨b,off,none⟩) l.length cp] 27))).frame (Same.alloc _ _)))
 clear hcp
 go_enter Tryz.func70,Tryz.ntmps70
 go_wp2_with fail
 refine HT0.out.mono ?_
 rintro e w1 ⟨tv,rfl,hT1,k1⟩
 obtain⟨va,vn,vc,rfl⟩:=hT1.slice
 unfold tyVal
 rw[Z0.out] at hT1
 have bA1:=bA.kept k1 (fun h=>h)
 have bR1:=bR.kept k1 (fun h=>h)
 have K1:=K0.trans k1
 have a0:w1.cell? ⟨w.heap.size,0,none⟩=some (.int .i64 op):=bA1.cell 0
 have a1:w1.cell? ⟨w.heap.size,1,none⟩=some (.string nm):=bA1.cell 1
 have a2:w1.cell? ⟨w.heap.size,2,none⟩=some (.int .i64 N):=bA1.cell 2
 have a3:w1.cell? ⟨w.heap.size,3,none⟩=some (.int .i64 ty.kind):=bA1.cell 3
 have a4:w1.cell? ⟨w.heap.size,4,none⟩=some (.string ty.name):=bA1.cell 4
 have a5:w1.cell? ⟨w.heap.size,5,none⟩=some (.slice ta tn tc):=bA1.cell 5
 have a6:w1.cell? ⟨w.heap.size,6,none⟩=some (.slice (some ⟨b,off,none⟩) l.length cp):=bA1.cell 6
 have fa3:=bA1.frozen 3
 have fa4:=bA1.frozen 4
 have fa5:=bA1.frozen 5
 have fa6:=bA1.frozen 6
 go_wp2_with fail
 have K1s:=(((K1.setCell (p:=⟨w.heap.size,3,none⟩) (Or.inr (by show w.heap.size≤w.heap.size;omega)) (.int .i64 ty.kind)).setCell (p:=⟨w.heap.size,4,none⟩) (Or.inr (by show w.heap.size≤w.heap.size;omega)) (.string ty.name)).setCell (p:=⟨w.heap.size,5,none⟩) (Or.inr (by show w.heap.size≤w.heap.size;omega)) (.slice va vn vc))
 refine (cloneTm_some b off l.length cp hn (fun j hj=>?_)).mono ?_
 ·obtain⟨v,hv,h1⟩:=hone.out j hj
  exact⟨v,by rw[K1s.cell (p:=⟨b,off+j,none⟩) (cell_lt hv) (fun h=>h)];exact hv,h1⟩
 rintro e w2 ⟨v,rfl,⟨g,cap,L,rfl,hcap,hg,hL,hLl,hLc⟩,k2⟩
 have hsz1:=K1.size
 have z1:=bR1.lt
 have hg1:w1.heap.size≤g:=by simpa [World.setCell] using hg
 have hg2:w.heap.size+2≤g:=Nat.le_trans z1 hg1
 have bA2:=(((bA1.set 3 (.int .i64 ty.kind)).set 4 (.string ty.name)).set 5 (.slice va vn vc)).kept k2 (fun h=>h)
 have bR2:=(((bR1.set_other _ _ (by show w.heap.size+1≠w.heap.size;omega)).set_other _ _ (by show w.heap.size+1≠w.heap.size;omega)).set_other _ _ (by show w.heap.size+1≠w.heap.size;omega)).kept k2 (fun h=>h)
 have K2:=K1s.trans k2
 have HT1:Hid (TyL bz (fun q=>w.heap.size+2≤q∧q≠g) w2 ty.kids (.slice va vn vc)):=Ld ((hT1.mono (ok':=fun q=>w.heap.size+2≤q∧q≠g) (fun q hq h=>⟨h,by omega⟩)).frame (Same.trans (Same.of_kept (S:=(·=w.heap.size)) ((((Kept.refl (fun x=>x=w.heap.size) w1).setCell (p:=⟨w.heap.size,3,none⟩) (Or.inl rfl) (.int .i64 ty.kind)).setCell (p:=⟨w.heap.size,4,none⟩) (Or.inl rfl) (.string ty.name)).setCell (p:=⟨w.heap.size,5,none⟩) (Or.inl rfl) (.slice va vn vc)) (fun q h e=>by omega)) (sK k2) (by simp[World.setCell])))
 have HLC:=Ld hLc
 have HLL:=Ld hLl
 have HG:=Ld hg2
 have HK1s:=Ld K1s
 clear a0 a1 a2 a3 a4 a5 a6 fa3 fa4 fa5 fa6 hLc hLl hg2 hg hg1 K1s hT1
 have a6:w2.cell? ⟨w.heap.size,6,none⟩=some (.slice (some ⟨b,off,none⟩) l.length cp):=bA2.cell 6
 have fa6:=bA2.frozen 6
 go_wp2_with (go_at_call 71;refine (clipTm_some _ g l.length cap hcap hn).mono ?_;rintro e w' ⟨rfl,rfl⟩)
 have c1:CJ bz w l [.int .i64 op,.string nm,.int .i64 N,.int .i64 ty.kind,.string ty.name,.slice va vn vc] l.length b off g 0 (w2.setCell ⟨w.heap.size,6,none⟩ (.slice (some ⟨g,0,none⟩) l.length l.length)):=by
  have hg:=HG.out
  refine⟨K2.setCell (p:=⟨w.heap.size,6,none⟩) (Or.inr (Nat.le_refl _)) _,bA2.set 6 _,bR2.set_other _ _ (by show w.heap.size+1≠w.heap.size;omega),L,K,M,hL.set_other _ _ (by show g≠w.heap.size;omega),HLL.out,fun j _ hj=>?_,fun i hi=>absurd hi (Nat.not_lt_zero _)⟩
  rw[HLC.out j hj]
  obtain⟨v,hv,_⟩:=hone.out j hj
  rw[HK1s.out.cell (p:=⟨b,off+j,none⟩) (cell_lt hv) (fun h=>h)]
 have HT2:Hid (TyL bz (fun q=>w.heap.size+2≤q∧q≠g) (w2.setCell ⟨w.heap.size,6,none⟩ (.slice (some ⟨g,0,none⟩) l.length l.length)) ty.kids (.slice va vn vc)):=Ld (HT1.out.frame (Same.of_kept (S:=(·=w.heap.size)) ((Kept.refl (fun x=>x=w.heap.size) w2).setCell (p:=⟨w.heap.size,6,none⟩) (Or.inl rfl) _) (fun q h e=>by omega)))
 have C1:=Ld c1
 clear c1 a6 fa6 bA1 bR1 bA bR hL bA2 bR2 K1 K2
 go_loopw [17] (fun i wr=>∃ k:Nat,k≤l.length∧i=.int .i64 k∧Hid (CJ bz w l [.int .i64 op,.string nm,.int .i64 N,.int .i64 ty.kind,.string ty.name,.slice va vn vc] l.length b off g k wr)∧Hid (TyL bz (fun q=>w.heap.size+2≤q∧q≠g) wr ty.kids (.slice va vn vc))) (fun i _=>l.length-(intOf i).toNat)
 case atStart=>exact⟨0,Nat.zero_le _,rfl,C1,HT2⟩
 case round=>
  obtain⟨k,hkl,rfl,HCI,HTk⟩:=hrel
  have hg:=HG.out
  have qA:=HCI.out.a
  have qR:=HCI.out.r
  have kp:=HCI.out.kp
  obtain⟨L,K',M',bG,hLn,hLo,hLd⟩:=HCI.out.row
  have HLo:=Ld hLo
  have HLd:=Ld hLd
  have HLn:=Ld hLn
  have BG:=Ld bG
  clear hLo hLd hLn bG
  by_cases hlt:k<l.length
  ·obtain⟨xa,xn,xc,hKk⟩:=(HK.out k hlt).slice
   obtain⟨ya,yn,yc,hMk⟩:=(HM.out k hlt).slice
   have c0:wr.cell? ⟨g,k*7,none⟩=some (.int .i64 l[k].op):=by
    rw[BG.out.cell,HLo.out (k*7) (by omega) (by omega)];exact (HCELL.out k hlt).1
   have c1:wr.cell? ⟨g,k*7+1,none⟩=some (.string l[k].name):=by
    rw[BG.out.cell,HLo.out (k*7+1) (by omega) (by omega)];exact (HCELL.out k hlt).2.1
   have c2:wr.cell? ⟨g,k*7+2,none⟩=some (.int .i64 l[k].n):=by
    rw[BG.out.cell,HLo.out (k*7+2) (by omega) (by omega)];exact (HCELL.out k hlt).2.2.1
   have c3:wr.cell? ⟨g,k*7+3,none⟩=some (.int .i64 l[k].ty.kind):=by
    rw[BG.out.cell,HLo.out (k*7+3) (by omega) (by omega)];exact (HCELL.out k hlt).2.2.2.1
   have c4:wr.cell? ⟨g,k*7+4,none⟩=some (.string l[k].ty.name):=by
    rw[BG.out.cell,HLo.out (k*7+4) (by omega) (by omega)];exact (HCELL.out k hlt).2.2.2.2.1
   have c5:wr.cell? ⟨g,k*7+5,none⟩=some (.slice xa xn xc):=by
    rw[BG.out.cell,HLo.out (k*7+5) (by omega) (by omega),← hKk];exact (HCELL.out k hlt).2.2.2.2.2.1
   have c6:wr.cell? ⟨g,k*7+6,none⟩=some (.slice ya yn yc):=by
    rw[BG.out.cell,HLo.out (k*7+6) (by omega) (by omega),← hMk];exact (HCELL.out k hlt).2.2.2.2.2.2
   have i1:(k:Int)<(l.length:Int):=by omega
   have a6:wr.cell? ⟨w.heap.size,6,none⟩=some (.slice (some ⟨g,0,none⟩) l.length l.length):=qA.cell 6
   have lA:=qA.lt
   have lG:=BG.out.lt
   have hcon:=Ld (HIH.out _ (List.getElem_mem hlt))
   have hty':Hid (TyL bz ok wr l[k].ty.kids (.slice xa xn xc)):=Ld (by rw[← hKk];exact (HK.out k hlt).frame (sK kp))
   have htm':Hid (TmL bz ok wr l[k].kids (.slice ya yn yc)):=Ld (by rw[← hMk];exact (HM.out k hlt).frame (sK kp))
   clear hKk hMk
   go_wp2_with fail
   have bX:Blk (wr.alloc (.cells #[.int .i64 l[k].op,.string l[k].name,.int .i64 l[k].n,.int .i64 l[k].ty.kind,.string l[k].ty.name,.slice xa xn xc,.slice ya yn yc] 27)) wr.heap.size 27 [.int .i64 l[k].op,.string l[k].name,.int .i64 l[k].n,.int .i64 l[k].ty.kind,.string l[k].ty.name,.slice xa xn xc,.slice ya yn yc]:=Blk.new wr 27 _
   have hAX:w.heap.size≠wr.heap.size:=by omega
   have hGX:g≠wr.heap.size:=by omega
   have hAG:g≠w.heap.size:=by omega
   refine wp_gen (F:=fun W3=>Kept (fun _=>False) wr W3∧Blk W3 wr.heap.size 27 [.int .i64 l[k].op,.string l[k].name,.int .i64 l[k].n,.int .i64 l[k].ty.kind,.string l[k].ty.name,.slice xa xn xc,.slice ya yn yc]∧wr.heap.size<W3.heap.size) ⟨kR.alloc _,bX,bX.lt⟩ ?_
   rintro W3 ⟨k3,b3,z3⟩
   have a3:W3.cell? ⟨w.heap.size,6,none⟩=some (.slice (some ⟨g,0,none⟩) l.length l.length):=(qA.kept k3 (fun h=>h)).cell 6
   have x0:W3.cell? ⟨wr.heap.size,0,none⟩=some (.int .i64 l[k].op):=b3.cell 0
   have x1:W3.cell? ⟨wr.heap.size,1,none⟩=some (.string l[k].name):=b3.cell 1
   have x2:W3.cell? ⟨wr.heap.size,2,none⟩=some (.int .i64 l[k].n):=b3.cell 2
   have x3:W3.cell? ⟨wr.heap.size,3,none⟩=some (.int .i64 l[k].ty.kind):=b3.cell 3
   have x4:W3.cell? ⟨wr.heap.size,4,none⟩=some (.string l[k].ty.name):=b3.cell 4
   have x5:W3.cell? ⟨wr.heap.size,5,none⟩=some (.slice xa xn xc):=b3.cell 5
   have x6:W3.cell? ⟨wr.heap.size,6,none⟩=some (.slice ya yn yc):=b3.cell 6
   have HC3:Hid (Calls Tryz.prog 70 #[.agg #[.int .i64 l[k].op,.string l[k].name,.int .i64 l[k].n,.int .i64 l[k].ty.kind,.string l[k].ty.name,.slice xa xn xc,.slice ya yn yc]] W3.drew fun e w'=>∃ v u,e=.returned (tmVal l[k] v u)∧TyL bz (fun q=>W3.heap.size≤q) w' l[k].ty.kids v∧TmL bz (fun q=>W3.heap.size≤q) w' l[k].kids u∧Kept (fun _=>False) W3 w'):=Ld ((hcon.out W3.drew ok (.slice xa xn xc) (.slice ya yn yc) ((hty'.out.frame (sK k3)).frame (Same.drew _)) ((htm'.out.frame (sK k3)).frame (Same.drew _))).mono fun e w' ⟨v,u,h1,h2,h3,h4⟩=>⟨v,u,h1,h2,h3,(kR.drew).trans h4⟩)
   have B3:=Ld b3
   have G3:=Ld (BG.out.kept k3 (fun h=>h))
   clear b3 bX c0 c1 c2 c3 c4 c5 c6 a6
   go_region_held3 (fun w'=>w'.cell? ⟨w.heap.size,6,none⟩=some (.slice (some ⟨g,0,none⟩) l.length l.length)∧w'.cell? ⟨wr.heap.size,0,none⟩=some (.int .i64 l[k].op)∧w'.cell? ⟨wr.heap.size,1,none⟩=some (.string l[k].name)∧w'.cell? ⟨wr.heap.size,2,none⟩=some (.int .i64 l[k].n)∧w'.cell? ⟨wr.heap.size,3,none⟩=some (.int .i64 l[k].ty.kind)∧w'.cell? ⟨wr.heap.size,4,none⟩=some (.string l[k].ty.name)∧w'.cell? ⟨wr.heap.size,5,none⟩=some (.slice xa xn xc)∧w'.cell? ⟨wr.heap.size,6,none⟩=some (.slice ya yn yc)) (go_keep)
    (first | (go_at_call 70;refine HC3.out.mono ?_;rintro e w4 ⟨v,u,rfl,hv,hu,k4⟩;obtain⟨va4,vn4,vc4,rfl⟩:=hv.slice;obtain⟨ua4,un4,uc4,rfl⟩:=hu.slice;unfold tmVal;have G4:=G3.out.kept k4 (fun h=>h);have y0:w4.cell? ⟨w.heap.size,6,none⟩=some (.slice (some ⟨g,0,none⟩) l.length l.length):=(by rw[k4.cell (p:=⟨w.heap.size,6,none⟩) (by show w.heap.size<_;omega) (fun h=>h)];exact a3);have y1:w4.cell? ⟨wr.heap.size,0,none⟩=some (.int .i64 l[k].op):=(B3.out.kept k4 (fun h=>h)).cell 0;have y2:w4.cell? ⟨wr.heap.size,1,none⟩=some (.string l[k].name):=(B3.out.kept k4 (fun h=>h)).cell 1;have y3:w4.cell? ⟨wr.heap.size,2,none⟩=some (.int .i64 l[k].n):=(B3.out.kept k4 (fun h=>h)).cell 2;have y4:w4.cell? ⟨wr.heap.size,3,none⟩=some (.int .i64 l[k].ty.kind):=(B3.out.kept k4 (fun h=>h)).cell 3;have y5:w4.cell? ⟨wr.heap.size,4,none⟩=some (.string l[k].ty.name):=(B3.out.kept k4 (fun h=>h)).cell 4;have y6:w4.cell? ⟨wr.heap.size,5,none⟩=some (.slice xa xn xc):=(B3.out.kept k4 (fun h=>h)).cell 5;have y7:w4.cell? ⟨wr.heap.size,6,none⟩=some (.slice ya yn yc):=(B3.out.kept k4 (fun h=>h)).cell 6;have t0:w4.cell? ⟨g,k*7,none⟩=some (L[k*7]'(by have:=HLn.out;omega)):=(by rw[G4.cell];exact List.getElem?_eq_getElem _);have t1:w4.cell? ⟨g,k*7+1,none⟩=some (L[k*7+1]'(by have:=HLn.out;omega)):=(by rw[G4.cell];exact List.getElem?_eq_getElem _);have t2:w4.cell? ⟨g,k*7+2,none⟩=some (L[k*7+2]'(by have:=HLn.out;omega)):=(by rw[G4.cell];exact List.getElem?_eq_getElem _);have t3:w4.cell? ⟨g,k*7+3,none⟩=some (L[k*7+3]'(by have:=HLn.out;omega)):=(by rw[G4.cell];exact List.getElem?_eq_getElem _);have t4:w4.cell? ⟨g,k*7+4,none⟩=some (L[k*7+4]'(by have:=HLn.out;omega)):=(by rw[G4.cell];exact List.getElem?_eq_getElem _);have t5:w4.cell? ⟨g,k*7+5,none⟩=some (L[k*7+5]'(by have:=HLn.out;omega)):=(by rw[G4.cell];exact List.getElem?_eq_getElem _);have t6:w4.cell? ⟨g,k*7+6,none⟩=some (L[k*7+6]'(by have:=HLn.out;omega)):=(by rw[G4.cell];exact List.getElem?_eq_getElem _);have f0:=G4.frozen (k*7);have f1:=G4.frozen (k*7+1);have f2:=G4.frozen (k*7+2);have f3:=G4.frozen (k*7+3);have f4:=G4.frozen (k*7+4);have f5:=G4.frozen (k*7+5);have f6:=G4.frozen (k*7+6)))
   have HST:=Ld (HCI.out.step hg hlt (k3.trans k4) (hv.mono (fun q _ h=>by omega)) (hu.mono (fun q _ h=>by omega)))
   have HTS:=Ld ((HTk.out.frame (sK (k3.trans k4))).frame (set7 (g:=g) (i0:=k*7) (i1:=k*7+1) (i2:=k*7+2) (i3:=k*7+3) (i4:=k*7+4) (i5:=k*7+5) (i6:=k*7+6) (x0:=.int .i64 l[k].op) (x1:=.string l[k].name) (x2:=.int .i64 l[k].n) (x3:=.int .i64 l[k].ty.kind) (x4:=.string l[k].ty.name) (x5:=.slice va4 vn4 vc4) (x6:=.slice ua4 un4 uc4) (fun q h=>h.2)))
   go_wp2_with fail
   go_roundw
   case rel=>exact⟨k+1,by omega,by go_num,HST,HTS⟩
   case measure=>simp[intOf];omega
  ·have hkk:k=l.length:=by omega
   subst hkk
   have a0:wr.cell? ⟨w.heap.size,0,none⟩=some (.int .i64 op):=qA.cell 0
   have a1:wr.cell? ⟨w.heap.size,1,none⟩=some (.string nm):=qA.cell 1
   have a2:wr.cell? ⟨w.heap.size,2,none⟩=some (.int .i64 N):=qA.cell 2
   have a3:wr.cell? ⟨w.heap.size,3,none⟩=some (.int .i64 ty.kind):=qA.cell 3
   have a4:wr.cell? ⟨w.heap.size,4,none⟩=some (.string ty.name):=qA.cell 4
   have a5:wr.cell? ⟨w.heap.size,5,none⟩=some (.slice va vn vc):=qA.cell 5
   have a6:wr.cell? ⟨w.heap.size,6,none⟩=some (.slice (some ⟨g,0,none⟩) l.length l.length):=qA.cell 6
   have r0:wr.cell? ⟨w.heap.size+1,0,none⟩=some (.int .i64 0):=qR.cell 0
   have f0:=qR.frozen 0
   have r1:wr.cell? ⟨w.heap.size+1,1,none⟩=some (.string ⟨#[]⟩):=qR.cell 1
   have f1:=qR.frozen 1
   have r2:wr.cell? ⟨w.heap.size+1,2,none⟩=some (.int .i64 0):=qR.cell 2
   have f2:=qR.frozen 2
   have r3:wr.cell? ⟨w.heap.size+1,3,none⟩=some (.int .i64 0):=qR.cell 3
   have f3:=qR.frozen 3
   have r4:wr.cell? ⟨w.heap.size+1,4,none⟩=some (.string ⟨#[]⟩):=qR.cell 4
   have f4:=qR.frozen 4
   have r5:wr.cell? ⟨w.heap.size+1,5,none⟩=some (.slice none 0 0):=qR.cell 5
   have f5:=qR.frozen 5
   have r6:wr.cell? ⟨w.heap.size+1,6,none⟩=some (.slice none 0 0):=qR.cell 6
   have f6:=qR.frozen 6
   have QR:=Ld qR
   have KP:=Ld kp
   clear qR kp qA
   go_wp2_with fail
   have bF:=r7 (x0:=.int .i64 op) (x1:=.string nm) (x2:=.int .i64 N) (x3:=.int .i64 ty.kind) (x4:=.string ty.name) (x5:=.slice va vn vc) (x6:=.slice (some ⟨g,0,none⟩) l.length l.length) QR.out rfl
   refine bodyPost_ret (results_one Tryz.results70 rfl (load_tm (t:=.mk op nm N ty l) bF)) rfl ⟨_,_,rfl,?_,?_,?_⟩
   ·exact (HTk.out.frame (set7 (g:=w.heap.size+1) (fun q h=>by omega))).mono (fun q _ h=>by omega)
   ·by_cases hne:l=[]
    ·subst hne;exact .nil (Or.inr ⟨_,_,rfl⟩)
    ·obtain⟨L,K',M',bG,hLn,hLo,hLd⟩:=HCI.out.row
     refine TmL.mk K' M' hne (by omega) (Nat.le_refl _) (fun i hi=>?_) (fun i hi=>?_) (fun i hi=>?_) (fun _=>⟨rfl,_,bG.kept (k7w (S:=fun q=>q=w.heap.size+1) kR (Or.inl rfl)) (fun e=>by omega),hLn⟩)
     ·obtain⟨e0,e1,e2,e3,e4,e5,e6,e7,e8⟩:=hLd i hi hi
      rw[Nat.zero_add]
      have bG':=(((((((bG.set_other ⟨w.heap.size+1,0,none⟩ (.int .i64 op) (by show g≠w.heap.size+1;omega)).set_other ⟨w.heap.size+1,1,none⟩ (.string nm) (by show g≠w.heap.size+1;omega)).set_other ⟨w.heap.size+1,2,none⟩ (.int .i64 N) (by show g≠w.heap.size+1;omega)).set_other ⟨w.heap.size+1,3,none⟩ (.int .i64 ty.kind) (by show g≠w.heap.size+1;omega)).set_other ⟨w.heap.size+1,4,none⟩ (.string ty.name) (by show g≠w.heap.size+1;omega)).set_other ⟨w.heap.size+1,5,none⟩ (.slice va vn vc) (by show g≠w.heap.size+1;omega)).set_other ⟨w.heap.size+1,6,none⟩ (.slice (some ⟨g,0,none⟩) l.length l.length) (by show g≠w.heap.size+1;omega))
      exact⟨by rw[bG'.cell];exact e0,by rw[bG'.cell];exact e1,by rw[bG'.cell];exact e2,by rw[bG'.cell];exact e3,by rw[bG'.cell];exact e4,by rw[bG'.cell];exact e5,by rw[bG'.cell];exact e6⟩
     ·exact ((hLd i hi hi).2.2.2.2.2.2.2.1.frame (set7 (g:=w.heap.size+1) (fun q h=>by omega))).mono (fun q _ h=>by omega)
     ·exact ((hLd i hi hi).2.2.2.2.2.2.2.2.frame (set7 (g:=w.heap.size+1) (fun q h=>by omega))).mono (fun q _ h=>by omega)
   ·exact (((((((KP.out.setCell (p:=⟨w.heap.size+1,0,none⟩) (Or.inr (by show w.heap.size≤w.heap.size+1;omega)) _).setCell (p:=⟨w.heap.size+1,1,none⟩) (Or.inr (by show w.heap.size≤w.heap.size+1;omega)) _).setCell (p:=⟨w.heap.size+1,2,none⟩) (Or.inr (by show w.heap.size≤w.heap.size+1;omega)) _).setCell (p:=⟨w.heap.size+1,3,none⟩) (Or.inr (by show w.heap.size≤w.heap.size+1;omega)) _).setCell (p:=⟨w.heap.size+1,4,none⟩) (Or.inr (by show w.heap.size≤w.heap.size+1;omega)) _).setCell (p:=⟨w.heap.size+1,5,none⟩) (Or.inr (by show w.heap.size≤w.heap.size+1;omega)) _).setCell (p:=⟨w.heap.size+1,6,none⟩) (Or.inr (by show w.heap.size≤w.heap.size+1;omega)) _)
theorem clone_any {t:Tm} (hb:BdTm t):ClC bz t:=by
 induction hb with
 | mk hn ht hl ih=>
  intro w ok tk kk h h'
  obtain⟨ta,tn,tc,rfl⟩:=h.slice
  cases h' with
  | nil h'=>
   rcases h' with rfl | ⟨ad,c,rfl⟩
   ·exact clone_nil (copyTy_any ht) h
   ·exact clone_zero (copyTy_any ht) h ad c
  | mk K M hne hb hc hcell hk hm hs2=>exact clone_some (copyTy_any ht) h ih hn K M hcell hk hm
end Go.Proofs.YtdmebjbkccjhbaaGreatDoor
