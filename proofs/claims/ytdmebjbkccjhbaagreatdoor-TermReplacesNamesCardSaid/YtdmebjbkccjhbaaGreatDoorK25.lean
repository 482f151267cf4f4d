/- A part. -/
import Derived.Test.YtdmebjbkccjhbaaGreatDoorK20
set_option linter.unusedVariables false
set_option linter.unusedSimpArgs false
set_option maxRecDepth 100000
set_option maxHeartbeats 32000000
namespace Go.Proofs.YtdmebjbkccjhbaaGreatDoor
open Go.RowKit
def fvAny (ts:List Tm) (s:ByteArray):Bool:=ts.any fun t=>mb s (fr t)
def FreQ (ts:List Tm) (w:World) (e:Ending) (w':World):Prop:=∃ p,e=.returned (.map (some p))∧w.heap.size≤p∧MapF w' p (tmNs ts) (bagF (fvAny ts))∧Kept (fun _=>False) w w'
theorem freeL_any {ts:List Tm} (ht:∀ t,t∈ts→OkTm t) (hn:ts.length≤1000000) (hN:tmNs ts≤400000) (hD:tmDs ts≤400000) {ok:Nat→Prop} {w:World} {a:Option Addr} {n c:Nat} (h2:TmL ok w ts (.slice a n c)):Calls Tryz.prog 44 #[.slice a n c] w (FreQ ts w):=by
 have hlen:n=ts.length:=h2.len
 have HCL:=Ld (fun t (h:t∈ts)=>clc_any (ht t h))
 have HKN:=Ld hn
 have HND:Hid (tmNs ts≤400000∧tmDs ts≤400000):=Ld ⟨hN,hD⟩
 have HAT:=Ld (fun W (k:Kept (fun _=>False) w W)=>((h2.mono (ok':=fun q=>q<w.heap.size) (fun q hq _=>hq)).frame (sK k)).at)
 clear hN hD h2 ht hn
 subst hlen
 have hmm:=@run_makeMap Tryz.prog
 go_enter Tryz.func44,Tryz.ntmps44
 go_upto_region 2 with (fail)
 have M1:=Ld (MapF.made w)
 have K1:Hid (Kept (fun _=>False) w (w.alloc (.map #[] 0))):=Ld (kR.alloc _)
 generalize w.alloc (.map #[] 0)=w1 at *
 go_wp2_with fail
 obtain⟨q0,hq0⟩:∃ p,p=w.heap.size:=⟨_,rfl⟩
 go_loopw [9] (fun i wr=>Kept (fun _=>False) w wr∧∃ (k m:Nat) (G:ByteArray→Bool),k≤ts.length∧i=.int .i64 k∧MapF wr w.heap.size m (bagF G)∧Hid (m+tmNs (ts.drop k)≤tmNs ts∧∀ s,fvAny ts s=(G s||fvAny (ts.drop k) s))) (fun i _=>ts.length-(intOf i).toNat)
 case atStart=>exact⟨K1.out,0,0,fun _=>false,Nat.zero_le _,rfl,(by rw[bagF_none];exact M1.out),Ld ⟨by simp,fun s=>by simp⟩⟩
 case round=>
  obtain⟨hk,k,m,G,hkl,rfl,hm,hq⟩:=hrel
  by_cases hlt:k<ts.length
  ·have i1:(k:Int)<(ts.length:Int):=by omega
   have i2:(k:Int)<1000000:=by have:=HKN.out;omega
   obtain⟨q1,o1,ta,tn,tc,pa,pn,pc,rfl,hq1,lq,hC,hkt,hkm⟩:=HAT.out wr hk k hlt
   have HCT:=Ld (HCL.out _ (List.getElem_mem hlt))
   have HDM:Hid (tmD ts[k]≤tmDs ts∧tmNs (ts.drop k)=tmN ts[k]+tmNs (ts.drop (k+1))∧∀ s,fvAny (ts.drop k) s=(mb s (fr ts[k])||fvAny (ts.drop (k+1)) s)):=Ld ⟨kid_dn (List.getElem_mem hlt),by rw[List.drop_eq_getElem_cons hlt,tmNs],fun s=>by rw[List.drop_eq_getElem_cons hlt];unfold fvAny;rw[List.any_cons]⟩
   obtain⟨c0,c1,c2,c3,c4,c5,c6⟩:=hC
   generalize ts[k]=t at *
   have KR:Kept (fun _=>False) wr (wr.alloc (.cells #[.int .i64 t.op,.string t.name,.int .i64 t.n,.int .i64 t.ty.kind,.string t.ty.name,.slice ta tn tc,.slice pa pn pc] 27)):=kR.alloc _
   have bK:=Ld (Blk.new wr 27 [.int .i64 t.op,.string t.name,.int .i64 t.n,.int .i64 t.ty.kind,.string t.ty.name,.slice ta tn tc,.slice pa pn pc])
   change Hid (Blk (wr.alloc (.cells #[.int .i64 t.op,.string t.name,.int .i64 t.n,.int .i64 t.ty.kind,.string t.ty.name,.slice ta tn tc,.slice pa pn pc] 27)) _ _ _) at bK
   have HK:=Ld hk
   have HM:=Ld hm
   have HKT:=Ld hkt
   have HKM:=Ld hkm
   have KR1:=Ld KR
   clear hk hm hkt hkm KR M1 K1
   go_upto_region 5 with (fail)
   clear c0 c1 c2 c3 c4 c5 c6
   have hw3:Hid ((wr.alloc (.cells #[.int .i64 t.op,.string t.name,.int .i64 t.n,.int .i64 t.ty.kind,.string t.ty.name,.slice ta tn tc,.slice pa pn pc] 27)).heap.size=wr.heap.size+1):=Ld (World.size_alloc _ _)
   generalize wr.alloc (.cells #[.int .i64 t.op,.string t.name,.int .i64 t.n,.int .i64 t.ty.kind,.string t.ty.name,.slice ta tn tc,.slice pa pn pc] 27)=w3 at *
   have gK:=bK.out.cell
   have M3:=Ld (MapF.made w3)
   have K3:Hid (Kept (fun _=>False) w3 (w3.alloc (.map #[] 0))):=Ld (kR.alloc _)
   have HC:=Ld (HCT.out G (fun _=>0) (w3.alloc (.map #[] 0)) (fun q=>q<w.heap.size) _ _ w3.heap.size 0 w.heap.size m (HKT.out.frame (sK (KR1.out.trans K3.out))) (HKM.out.frame (sK (KR1.out.trans K3.out))) ⟨_,M3.out,cnt_none⟩ (HM.out.kept (KR1.out.trans K3.out) (fun e=>e)) (by have:=HM.out.lt;have:=hw3.out;omega) (fun q hq=>⟨by have:=HK.out.size;have:=hw3.out;omega,by omega⟩) (by have:=HND.out.1;have:=HDM.out.2.1;have:=hq.out.1;omega) (by have:=HND.out.1;have:=HDM.out.2.1;have:=hq.out.1;omega) (fun s=>by have:=HND.out.2;have:=HDM.out.1;omega))
   unfold tmVal at HC
   go_wp2_with fail
   clear gK
   refine HC.out.mono ?_
   rintro e w5 ⟨rfl,hR⟩
   have K5:Hid (Kept (fun _=>False) w w5):=Ld (((HK.out.trans KR1.out).trans K3.out).via1 hR.kp (fun x hx e=>by have:=HK.out.size;have:=hw3.out;rcases e with e | e <;> omega))
   have M5:=Ld hR.into
   clear hR HC M3 K3 HK HM HKT HKM KR1 bK
   go_wp2_with fail
   go_roundw
   case rel=>exact⟨K5.out,k+1,_,_,by omega,by go_num,M5.out,Ld ⟨by have:=HDM.out.2.1;have:=hq.out.1;omega,fun s=>by rw[hq.out.2 s,HDM.out.2.2 s];simp[Bool.or_assoc]⟩⟩
   case measure=>simp[intOf];omega
  ·have hkk:k=ts.length:=by omega
   subst hkk
   have HK:=Ld hk
   have HM:=Ld hm
   clear hk hm M1 K1
   have HG:Hid (G=fvAny ts):=Ld (by funext s;rw[hq.out.2 s,List.drop_length];simp[fvAny])
   go_wp2_with fail
   go_ret
   exact⟨_,rfl,Nat.le_refl _,by rw[← HG.out];exact HM.out.mono (by have:=hq.out.1;omega),HK.out⟩
structure KQ (P:Nat→Prop) (W:World) (g:Nat) (l:List Tm):Prop where
 row:∃ (L:List Value) (K M:Nat→Value),Blk W g 27 L∧l.length*7≤L.length∧∀ i (h:i<l.length),L[i*7]?=some (.int .i64 l[i].op)∧L[i*7+1]?=some (.string l[i].name)∧L[i*7+2]?=some (.int .i64 l[i].n)∧L[i*7+3]?=some (.int .i64 l[i].ty.kind)∧L[i*7+4]?=some (.string l[i].ty.name)∧L[i*7+5]?=some (K i)∧L[i*7+6]?=some (M i)∧TyL P W l[i].ty.kids (K i)∧TmL P W l[i].kids (M i)
theorem KRow.toQ {W:World} {base0 base g X:Nat} {l:List Tm} (h:KRow W base0 g l) (hb:base≤base0) (hX:W.heap.size=X):KQ (fun q=>base≤q∧q≠g∧q≠X) W g l:=by
 obtain⟨L,K,M,bG,hL,hR⟩:=h.row
 refine⟨⟨L,K,M,bG,hL,fun i hi=>?_⟩⟩
 obtain⟨e0,e1,e2,e3,e4,e5,e6,e7,e8⟩:=hR i hi
 exact⟨e0,e1,e2,e3,e4,e5,e6,e7.mono (fun q hq h=>⟨by omega,h.2,by omega⟩),e8.mono (fun q hq h=>⟨by omega,h.2,by omega⟩)⟩
theorem KQ.kept {P:Nat→Prop} {W W':World} {g:Nat} {l:List Tm} (h:KQ P W g l) {S:Nat→Prop} (k:Kept S W W') (h1:¬ S g) (h2:∀ q,P q→¬ S q):KQ P W' g l:=by
 obtain⟨L,K,M,bG,hL,hR⟩:=h.row
 refine⟨⟨L,K,M,bG.kept k h1,hL,fun i hi=>?_⟩⟩
 obtain⟨e0,e1,e2,e3,e4,e5,e6,e7,e8⟩:=hR i hi
 exact⟨e0,e1,e2,e3,e4,e5,e6,e7.frame (Same.of_kept k (fun q hq=>h2 q hq)),e8.frame (Same.of_kept k (fun q hq=>h2 q hq))⟩
theorem KQ.frozen {P:Nat→Prop} {W:World} {g:Nat} {l:List Tm} (h:KQ P W g l):∀ i,W.frozen? ⟨g,i,none⟩=false:=by obtain⟨L,K,M,bG,_⟩:=h.row;exact bG.frozen
theorem KQ.lt {P:Nat→Prop} {W:World} {g:Nat} {l:List Tm} (h:KQ P W g l):g<W.heap.size:=by obtain⟨L,K,M,bG,_⟩:=h.row;exact bG.lt
theorem KQ.there {P:Nat→Prop} {W:World} {g i:Nat} {l:List Tm} (h:KQ P W g l) (hi:i<l.length*7):∃ v,W.cell? ⟨g,i,none⟩=some v:=by
 obtain⟨L,K,M,bG,hL,_⟩:=h.row
 have hl:i<L.length:=by omega
 exact⟨L[i],by rw[bG.cell,List.getElem?_eq_getElem hl]⟩
theorem KQ.put {P:Nat→Prop} {W:World} {g j:Nat} {l:List Tm} {u:Tm} {v x:Value} (h:KQ P W g l) (hP:∀ q,P q→q≠g) (hj:j<l.length) (hv:TyL P W u.ty.kids v) (hx:TmL P W u.kids x) (W3:World)
  (hW:W3=((((((W.setCell ⟨g,j*7,none⟩ (.int .i64 u.op)).setCell ⟨g,j*7+1,none⟩ (.string u.name)).setCell ⟨g,j*7+2,none⟩ (.int .i64 u.n)).setCell ⟨g,j*7+3,none⟩ (.int .i64 u.ty.kind)).setCell ⟨g,j*7+4,none⟩ (.string u.ty.name)).setCell ⟨g,j*7+5,none⟩ v).setCell ⟨g,j*7+6,none⟩ x):KQ P W3 g (l.set j u):=by
 subst hW
 obtain⟨L,K,M,bG,hL,hR⟩:=h.row
 refine⟨⟨((((((L.set (j*7) (.int .i64 u.op)).set (j*7+1) (.string u.name)).set (j*7+2) (.int .i64 u.n)).set (j*7+3) (.int .i64 u.ty.kind)).set (j*7+4) (.string u.ty.name)).set (j*7+5) v).set (j*7+6) x,fun i=>if i=j then v else K i,fun i=>if i=j then x else M i,
  (((((((bG.set _ _).set _ _).set _ _).set _ _).set _ _).set _ _).set _ _),by simpa using hL,fun i hi=>?_⟩⟩
 have hi':i<l.length:=by simpa using hi
 by_cases hij:i=j
 ·subst hij
  simp only[List.getElem_set_self,if_pos]
  refine⟨?_,?_,?_,?_,?_,?_,?_,?_,?_⟩
  ·rw[List.getElem?_set_ne (by omega),List.getElem?_set_ne (by omega),List.getElem?_set_ne (by omega),List.getElem?_set_ne (by omega),List.getElem?_set_ne (by omega),List.getElem?_set_ne (by omega),List.getElem?_set_self (by omega)]
  ·rw[List.getElem?_set_ne (by omega),List.getElem?_set_ne (by omega),List.getElem?_set_ne (by omega),List.getElem?_set_ne (by omega),List.getElem?_set_ne (by omega),List.getElem?_set_self (by simp;omega)]
  ·rw[List.getElem?_set_ne (by omega),List.getElem?_set_ne (by omega),List.getElem?_set_ne (by omega),List.getElem?_set_ne (by omega),List.getElem?_set_self (by simp;omega)]
  ·rw[List.getElem?_set_ne (by omega),List.getElem?_set_ne (by omega),List.getElem?_set_ne (by omega),List.getElem?_set_self (by simp;omega)]
  ·rw[List.getElem?_set_ne (by omega),List.getElem?_set_ne (by omega),List.getElem?_set_self (by simp;omega)]
  ·rw[List.getElem?_set_ne (by omega),List.getElem?_set_self (by simp;omega)]
  ·rw[List.getElem?_set_self (by simp;omega)]
  ·exact hv.frame (set7 (fun q h=>hP q h))
  ·exact hx.frame (set7 (fun q h=>hP q h))
 ·obtain⟨e0,e1,e2,e3,e4,e5,e6,e7,e8⟩:=hR i hi'
  have eg:(l.set j u)[i]=l[i]:=List.getElem_set_ne (Ne.symm hij) _
  rw[eg]
  simp only[if_neg hij]
  refine⟨?_,?_,?_,?_,?_,?_,?_,e7.frame (set7 (fun q h=>hP q h)),e8.frame (set7 (fun q h=>hP q h))⟩
  all_goals (rw[List.getElem?_set_ne (by omega),List.getElem?_set_ne (by omega),List.getElem?_set_ne (by omega),List.getElem?_set_ne (by omega),List.getElem?_set_ne (by omega),List.getElem?_set_ne (by omega),List.getElem?_set_ne (by omega)];assumption)
theorem KQ.tml {P ok:Nat→Prop} {W:World} {g c:Nat} {l:List Tm} (h:KQ P W g l) (hP:∀ q,P q→ok q) (hg:ok g) (hc:l.length≤c):TmL ok W l (.slice (some ⟨g,0,none⟩) l.length c):=by
 by_cases hne:l=[]
 ·subst hne;exact .nil (Or.inr ⟨_,_,rfl⟩)
 ·obtain⟨L,K,M,bG,hL,hR⟩:=h.row
  refine TmL.mk K M hne hg hc (fun i hi=>?_) (fun i hi=>?_) (fun i hi=>?_)
  ·obtain⟨e0,e1,e2,e3,e4,e5,e6,e7,e8⟩:=hR i hi
   rw[Nat.zero_add]
   exact⟨by rw[bG.cell];exact e0,by rw[bG.cell];exact e1,by rw[bG.cell];exact e2,by rw[bG.cell];exact e3,by rw[bG.cell];exact e4,by rw[bG.cell];exact e5,by rw[bG.cell];exact e6⟩
  ·exact (hR i hi).2.2.2.2.2.2.2.1.mono (fun q _ h=>hP q h)
  ·exact (hR i hi).2.2.2.2.2.2.2.2.mono (fun q _ h=>hP q h)
theorem set_step {l rs ks:List Tm} {k:Nat} {r:Tm} (h:l.length=ks.length∧∀ i,l[i]?=if i<k then rs[i]? else ks[i]?) (hk:k<l.length) (hr:rs[k]?=some r):(l.set k r).length=ks.length∧∀ i,(l.set k r)[i]?=if i<k+1 then rs[i]? else ks[i]?:=by
 refine⟨by rw[List.length_set];exact h.1,fun i=>?_⟩
 rw[List.getElem?_set]
 by_cases e:k=i
 ·subst e;rw[if_pos rfl,if_pos hk,if_pos (by omega),hr]
 ·rw[if_neg e,h.2 i]
  by_cases e2:i<k
  ·rw[if_pos e2,if_pos (by omega)]
  ·rw[if_neg e2,if_neg (by omega)]
structure WK (w:World) (b R X g:Nat) (rc:Nat→List Value) (ca:List Value) (oc:ByteArray→List Value) (ty:Ty) (tv:Value) (n:Nat) (c:ByteArray→Nat) (cnt:Nat) (z:ByteArray) (l:List Tm) (W:World):Prop where
 kp:Kept (fun q=>q=b∨q=R) w W
 bo:∃ f,MapF W b n f∧CntF f c
 rp:Blk W R 87 (rc cnt)
 a:Blk W w.heap.size 27 ca
 r:Blk W (w.heap.size+1) 27 z27
 o:Blk W X 27 (oc z)
 ne:b<w.heap.size∧R<w.heap.size∧w.heap.size+2≤g∧w.heap.size+2≤X∧g≠X
 ty:TyL (fun q=>w.heap.size+2≤q∧q≠g∧q≠X) W ty.kids tv
 row:KQ (fun q=>w.heap.size+2≤q∧q≠g∧q≠X) W g l
section
variable {w W W':World} {b R X g:Nat} {rc:Nat→List Value} {ca:List Value} {oc:ByteArray→List Value} {ty:Ty} {tv:Value} {n:Nat} {c:ByteArray→Nat} {cnt:Nat} {z:ByteArray} {l:List Tm}
theorem WK.kept (h:WK w b R X g rc ca oc ty tv n c cnt z l W) (k:Kept (fun _=>False) W W'):WK w b R X g rc ca oc ty tv n c cnt z l W':=by
 obtain⟨f,h2,h3⟩:=h.bo
 exact⟨h.kp.trans (k.mono (fun _ _ e=>e.elim)),⟨f,h2.kept k (fun e=>e),h3⟩,h.rp.kept k (fun e=>e),h.a.kept k (fun e=>e),h.r.kept k (fun e=>e),h.o.kept k (fun e=>e),h.ne,h.ty.frame (sK k),h.row.kept k (fun e=>e) (fun _ _ e=>e)⟩
theorem WK.step {n' cnt':Nat} {c':ByteArray→Nat} (h:WK w b R X g rc ca oc ty tv n c cnt z l W) (k:Kept (fun q=>q=b∨q=R) W W') (hm:∃ f,MapF W' b n' f∧CntF f c') (hr:Blk W' R 87 (rc cnt')):WK w b R X g rc ca oc ty tv n' c' cnt' z l W':=by
 obtain⟨h1,h2,h3,h4,h5⟩:=h.ne
 exact⟨h.kp.trans k,hm,hr,h.a.kept k (fun e=>by omega),h.r.kept k (fun e=>by omega),h.o.kept k (fun e=>by omega),h.ne,h.ty.frame (Same.of_kept k (fun _ _ e=>by omega)),h.row.kept k (fun e=>by omega) (fun _ _ e=>by omega)⟩
theorem WK.stepB {n':Nat} {c':ByteArray→Nat} (hbR:b≠R) (h:WK w b R X g rc ca oc ty tv n c cnt z l W) (k:Kept (fun q=>q=b) W W') (hm:∃ f,MapF W' b n' f∧CntF f c'):WK w b R X g rc ca oc ty tv n' c' cnt z l W':=
 h.step (k.mono (fun _ _ e=>Or.inl e)) hm (h.rp.kept k (fun e=>hbR e.symm))
theorem WK.put {j:Nat} {u:Tm} {v x:Value} (h:WK w b R X g rc ca oc ty tv n c cnt z l W) (hj:j<l.length) (hv:TyL (fun q=>w.heap.size+2≤q∧q≠g∧q≠X) W u.ty.kids v) (hx:TmL (fun q=>w.heap.size+2≤q∧q≠g∧q≠X) W u.kids x) (W3:World)
  (hW:W3=((((((W.setCell ⟨g,j*7,none⟩ (.int .i64 u.op)).setCell ⟨g,j*7+1,none⟩ (.string u.name)).setCell ⟨g,j*7+2,none⟩ (.int .i64 u.n)).setCell ⟨g,j*7+3,none⟩ (.int .i64 u.ty.kind)).setCell ⟨g,j*7+4,none⟩ (.string u.ty.name)).setCell ⟨g,j*7+5,none⟩ v).setCell ⟨g,j*7+6,none⟩ x):WK w b R X g rc ca oc ty tv n c cnt z (l.set j u) W3:=by
 have h1:=h.row.put (fun q hq=>hq.2.1) hj hv hx W3 hW
 obtain⟨n1,n2,n3,n4,n5⟩:=h.ne
 have k:Kept (fun q=>q=g) W W3:=by rw[hW];exact k7g
 obtain⟨f,h2,h3⟩:=h.bo
 exact⟨h.kp.via1 k (fun x hx e=>by omega),⟨f,h2.kept k (fun e=>by omega),h3⟩,h.rp.kept k (fun e=>by omega),h.a.kept k (fun e=>by omega),h.r.kept k (fun e=>by omega),h.o.kept k (fun e=>by omega),h.ne,h.ty.frame (Same.of_kept k (fun q hq e=>hq.2.1 e)),h1⟩
theorem WK.name (h:WK w b R X g rc ca oc ty tv n c cnt z l W) (s:ByteArray) (ho:(oc z).set 1 (.string s)=oc s):WK w b R X g rc ca oc ty tv n c cnt s l (W.setCell ⟨X,1,none⟩ (.string s)):=by
 have k:Kept (fun q=>q=X) W (W.setCell ⟨X,1,none⟩ (.string s)):=(Kept.refl (fun q=>q=X) W).setCell (p:=⟨X,1,none⟩) (Or.inl rfl) _
 obtain⟨n1,n2,n3,n4,n5⟩:=h.ne
 obtain⟨f,h2,h3⟩:=h.bo
 exact⟨h.kp.via1 k (fun x hx e=>by omega),⟨f,h2.kept k (fun e=>by omega),h3⟩,h.rp.kept k (fun e=>by omega),h.a.kept k (fun e=>by omega),h.r.kept k (fun e=>by omega),by rw[← ho];exact h.o.set 1 (.string s),h.ne,h.ty.frame (Same.of_kept k (fun q hq e=>hq.2.2 e)),h.row.kept k (fun e=>by omega) (fun q hq e=>hq.2.2 e)⟩
theorem WK.done (h:WK w b R X g rc ca oc ty tv n c cnt z l W) {m cg:Nat} (hm:l.length=m) (hc:m≤cg) {x0 x1 x2 x3 x4 x5 x6:Value} {i0 i1 i2 i3 i4 i5 i6:Nat}:
  let W3:=(((((((W.setCell ⟨w.heap.size+1,i0,none⟩ x0).setCell ⟨w.heap.size+1,i1,none⟩ x1).setCell ⟨w.heap.size+1,i2,none⟩ x2).setCell ⟨w.heap.size+1,i3,none⟩ x3).setCell ⟨w.heap.size+1,i4,none⟩ x4).setCell ⟨w.heap.size+1,i5,none⟩ x5).setCell ⟨w.heap.size+1,i6,none⟩ x6)
  TyL (fun q=>w.heap.size≤q) W3 ty.kids tv∧TmL (fun q=>w.heap.size≤q) W3 l (.slice (some ⟨g,0,none⟩) m cg)∧Kept (fun q=>q=b∨q=R) w W3∧(∃ f,MapF W3 b n f∧CntF f c)∧Blk W3 R 87 (rc cnt):=by
 intro W3
 subst hm
 obtain⟨n1,n2,n3,n4,n5⟩:=h.ne
 have k:Kept (fun q=>q=w.heap.size+1) W W3:=k7g
 obtain⟨f,h2,h3⟩:=h.bo
 have h1:=h.row.kept k (fun e=>by omega) (fun q hq e=>by omega)
 exact⟨(h.ty.frame (Same.of_kept k (fun q hq e=>by omega))).mono (fun q _ hq=>by omega),h1.tml (fun q hq=>by omega) (by omega) hc,h.kp.via1 k (fun x hx e=>by omega),⟨f,h2.kept k (fun e=>by omega),h3⟩,h.rp.kept k (fun e=>by omega)⟩
end
section
variable {ops:Array Oper} {rest:List Oper} {o:Oper} {a:Act} {Q:Exit→Act→World→Prop} {w:World} {b n:Nat} {f:ByteArray→Option Value}
theorem wpList_insertF (hg:o.guard=none) (m x v:Operand) (t e:TypeId) (hop:o.op=Op.insert t m x v) (ht:Tryz.prog.underlying t=some (.map 9 e)) (hm:a.eval m=.map (some b)) (hM:MapF w b n f) (s:ByteArray) (hx:a.eval x=.string s) (hs:s.size≤maxLen) (hn:n<maxLen) (u:Value) (hv:a.eval v=u)
  (h:∀ w',MapF w' b (n+1) (updF f s u)→Kept (fun q=>q=b) w w'→wpList Tryz.prog ops Q rest (a.put o.dst undef) w'):wpList Tryz.prog ops Q (o::rest) a w:=by
 refine wpList_plain hg fun K' hK'=>?_
 obtain⟨w',hrun,r1,r2⟩:=hM.store ht hs hn u
 unfold Oper.wp
 simp[execOp,hop,hm,hx,hv,hrun,Result.andThen]
 exact hK' _ _ (h w' r1 r2)
end
theorem sg_one {nm z:ByteArray} (hz:identB z=true):SgOk (look [(nm,nameT z)]):=by
 intro s u hs
 have e:u=nameT z:=by
  rw[look] at hs
  split at hs
  ·exact (Option.some.inj hs).symm
  ·rw[look] at hs;cases hs
 subst e
 exact⟨nameT_ok (ident_named hz),by unfold nameT;simp[tmN,tmNs],by unfold nameT;simp[tmD,tmDs]⟩
theorem prm_one {W:World} {b n:Nat} {nm z:ByteArray} (hM:MapF W b n (updF (fun _=>none) nm (.agg #[.int .i64 20,.string z,.int .i64 0,.int .i64 0,.string ⟨#[]⟩,.slice none 0 0,.slice none 0 0]))):PrM (fun _=>False) W b n (look [(nm,nameT z)]):=by
 refine⟨_,hM,fun s=>?_⟩
 rw[look]
 by_cases hs:s=nm
 ·subst hs
  simp only[if_true]
  exact⟨none,0,0,none,0,0,by unfold updF;rw[if_pos rfl];rfl,.nil (Or.inl rfl),.nil (Or.inl rfl)⟩
 ·have hs2:¬ nm=s:=fun e=>hs e.symm
  simp only[hs,hs2,if_false,look]
  show updF (fun _=>none) nm _ s=none
  unfold updF;rw[if_neg hs]
theorem tml_two {ok:Nat→Prop} {W:World} {g:Nat} {t u:Tm} {tk kk tk' kk':Value} {ok':Nat→Prop} (hb:Blk W g 27 (tmCells t tk kk++(tmCells u tk' kk'++[]))) (h1:TyL ok W t.ty.kids tk) (h2:TmL ok W t.kids kk) (h3:TyL ok' W u.ty.kids tk') (h4:TmL ok' W u.kids kk'):TmL (fun _=>True) W [t,u] (.slice (some ⟨g,0,none⟩) 2 2):=by
 refine tml_of_row' (base:=0) (E:=[(t,tk,kk),(u,tk',kk')]) ⟨rfl,.inr ⟨g,2,_,rfl,Nat.zero_le g,hb,Nat.le_refl 2,(by unfold maxLen;decide),rfl,rfl⟩⟩ (fun e he=>?_) (fun _ _=>trivial)
 rcases List.mem_cons.1 he with rfl | he
 ·exact⟨h1.mono (fun _ _ _=>trivial),h2.mono (fun _ _ _=>trivial)⟩
 ·rw[List.mem_singleton.1 he];exact⟨h3.mono (fun _ _ _=>trivial),h4.mono (fun _ _ _=>trivial)⟩
theorem fvAny_two (y tu:Tm) (s:ByteArray):fvAny [y,tu] s=mb s (fr y++fr tu):=by
 rw[mb_app];unfold fvAny;simp
theorem KQ.mono' {P P':Nat→Prop} {W:World} {g:Nat} {l:List Tm} (h:KQ P W g l) (hm:∀ q,q<W.heap.size→P q→P' q):KQ P' W g l:=by
 obtain⟨L,K,M,bG,hL,hR⟩:=h.row
 refine⟨⟨L,K,M,bG,hL,fun i hi=>?_⟩⟩
 obtain⟨e0,e1,e2,e3,e4,e5,e6,e7,e8⟩:=hR i hi
 exact⟨e0,e1,e2,e3,e4,e5,e6,e7.mono hm,e8.mono hm⟩
structure WKY (Y:Nat) (w:World) (b R X g:Nat) (rc:Nat→List Value) (ca:List Value) (oc:ByteArray→List Value) (tt:Ty) (tv:Value) (n:Nat) (c:ByteArray→Nat) (cnt:Nat) (z:ByteArray) (l:List Tm) (W:World):Prop extends WK w b R X g rc ca oc tt tv n c cnt z l W where
 tyY:TyL (fun q=>(w.heap.size+2≤q∧q≠g∧q≠X)∧q≠Y) W tt.kids tv
 rowY:KQ (fun q=>(w.heap.size+2≤q∧q≠g∧q≠X)∧q≠Y) W g l
section
variable {Y:Nat} {w W W':World} {b R X g:Nat} {rc:Nat→List Value} {ca:List Value} {oc:ByteArray→List Value} {ty:Ty} {tv:Value} {n:Nat} {c:ByteArray→Nat} {cnt:Nat} {z:ByteArray} {l:List Tm}
theorem WKY.start (h:WK w b R X g rc ca oc ty tv n c cnt z l W) (hY:W.heap.size=Y) (k:Kept (fun _=>False) W W'):WKY Y w b R X g rc ca oc ty tv n c cnt z l W':=
 ⟨h.kept k,(h.ty.mono (ok':=fun q=>(w.heap.size+2≤q∧q≠g∧q≠X)∧q≠Y) (fun q hq hh=>⟨hh,by omega⟩)).frame (sK k),(h.row.mono' (P':=fun q=>(w.heap.size+2≤q∧q≠g∧q≠X)∧q≠Y) (fun q hq hh=>⟨hh,by omega⟩)).kept k (fun e=>e) (fun _ _ e=>e)⟩
theorem WKY.kept (h:WKY Y w b R X g rc ca oc ty tv n c cnt z l W) (k:Kept (fun _=>False) W W'):WKY Y w b R X g rc ca oc ty tv n c cnt z l W':=
 ⟨h.toWK.kept k,h.tyY.frame (sK k),h.rowY.kept k (fun e=>e) (fun _ _ e=>e)⟩
theorem WKY.step {n' cnt':Nat} {c':ByteArray→Nat} (h:WKY Y w b R X g rc ca oc ty tv n c cnt z l W) (k:Kept (fun q=>q=b∨q=R) W W') (hm:∃ f,MapF W' b n' f∧CntF f c') (hr:Blk W' R 87 (rc cnt')):WKY Y w b R X g rc ca oc ty tv n' c' cnt' z l W':=by
 obtain⟨h1,h2,h3,h4,h5⟩:=h.ne
 exact⟨h.toWK.step k hm hr,h.tyY.frame (Same.of_kept k (fun _ _ e=>by omega)),h.rowY.kept k (fun e=>by omega) (fun _ _ e=>by omega)⟩
theorem WKY.stepB {n':Nat} {c':ByteArray→Nat} (hbR:b≠R) (h:WKY Y w b R X g rc ca oc ty tv n c cnt z l W) (k:Kept (fun q=>q=b) W W') (hm:∃ f,MapF W' b n' f∧CntF f c'):WKY Y w b R X g rc ca oc ty tv n' c' cnt z l W':=
 h.step (k.mono (fun _ _ e=>Or.inl e)) hm (h.rp.kept k (fun e=>hbR e.symm))
theorem WKY.name (h:WKY Y w b R X g rc ca oc ty tv n c cnt z l W) (s:ByteArray) (ho:(oc z).set 1 (.string s)=oc s):WKY Y w b R X g rc ca oc ty tv n c cnt s l (W.setCell ⟨X,1,none⟩ (.string s)):=by
 have k:Kept (fun q=>q=X) W (W.setCell ⟨X,1,none⟩ (.string s)):=(Kept.refl (fun q=>q=X) W).setCell (p:=⟨X,1,none⟩) (Or.inl rfl) _
 obtain⟨n1,n2,n3,n4,n5⟩:=h.ne
 exact⟨h.toWK.name s ho,h.tyY.frame (Same.of_kept k (fun q hq e=>hq.1.2.2 e)),h.rowY.kept k (fun e=>by omega) (fun q hq e=>hq.1.2.2 e)⟩
theorem WKY.box (h:WKY Y w b R X g rc ca oc ty tv n c cnt z l W) (k:Kept (fun q=>q=Y) W W') (hY:w.heap.size+2≤Y∧X<Y∧g<Y):WK w b R X g rc ca oc ty tv n c cnt z l W':=by
 obtain⟨n1,n2,n3,n4,n5⟩:=h.ne
 obtain⟨f,h2,h3⟩:=h.bo
 exact⟨h.kp.via1 k (fun x hx e=>by omega),⟨f,h2.kept k (fun e=>by omega),h3⟩,h.rp.kept k (fun e=>by omega),h.a.kept k (fun e=>by omega),h.r.kept k (fun e=>by omega),h.o.kept k (fun e=>by omega),h.ne,(h.tyY.frame (Same.of_kept k (fun q hq e=>hq.2 e))).mono (fun q _ hq=>hq.1),(h.rowY.kept k (fun e=>by omega) (fun q hq e=>hq.2 e)).mono' (fun q _ hq=>hq.1)⟩
end
end Go.Proofs.YtdmebjbkccjhbaaGreatDoor
