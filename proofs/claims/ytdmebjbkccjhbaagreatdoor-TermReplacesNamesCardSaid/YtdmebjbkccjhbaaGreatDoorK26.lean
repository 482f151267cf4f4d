/- A part. -/
import Derived.Test.YtdmebjbkccjhbaaGreatDoorK25
set_option linter.unusedVariables false
set_option linter.unusedSimpArgs false
set_option maxRecDepth 100000
set_option maxHeartbeats 32000000
namespace Go.Proofs.YtdmebjbkccjhbaaGreatDoor
open Go.RowKit
structure WkE (fm tu:Tm) (okf oku:Nat→Prop) (fk fkk uk ukk:Value) (R fB tB b nf nt:Nat) (w:World):Prop where
 nw:NW fm
 okt:OkTm tu
 un:tmN tu≤100000∧tmD tu≤290
 f1:TyL okf w fm.ty.kids fk
 f2:TmL okf w fm.kids fkk
 u1:TyL oku w tu.ty.kids uk
 u2:TmL oku w tu.kids ukk
 mf:MapF w fB nf (bagF (fun s=>mb s (fr fm)))
 mt:MapF w tB nt (bagF (fun s=>mb s (fr tu)))
 ne:b≠R∧fB≠b∧fB≠R∧tB≠b∧tB≠R
 ff:∀ q,okf q→q≠b∧q≠R
 fu:∀ q,oku q→q≠b∧q≠R
 hp:∀ W,Kept (fun q=>q=b∨q=R) w W→P10 W
theorem WkE.kept {fm tu:Tm} {okf oku:Nat→Prop} {fk fkk uk ukk:Value} {R fB tB b nf nt:Nat} {w W:World} (h:WkE fm tu okf oku fk fkk uk ukk R fB tB b nf nt w) (k:Kept (fun q=>q=b∨q=R) w W):WkE fm tu okf oku fk fkk uk ukk R fB tB b nf nt W:=by
 obtain⟨n1,n2,n3,n4,n5⟩:=h.ne
 have s1:∀ q,okf q→¬ (q=b∨q=R):=fun q hq e=>by have:=h.ff q hq;omega
 have s2:∀ q,oku q→¬ (q=b∨q=R):=fun q hq e=>by have:=h.fu q hq;omega
 exact⟨h.nw,h.okt,h.un,h.f1.frame (Same.of_kept k s1),h.f2.frame (Same.of_kept k s1),h.u1.frame (Same.of_kept k s2),h.u2.frame (Same.of_kept k s2),h.mf.kept k (fun e=>by omega),h.mt.kept k (fun e=>by omega),h.ne,h.ff,h.fu,fun W' k'=>h.hp W' (k.trans k')⟩
theorem two_of {op:Int} {ks:List Tm} (hb:binderB op=true) (hk:kidOk op ks.length=true):∃ d y,ks=[d,y]  :=by
 have h:=binder_kids hb hk
 match ks,h with
 | [d,y],_=>exact⟨d,y,rfl⟩
def WkP (fm tu:Tm) (fk fkk uk ukk:Value) (R fB tB b n:Nat) (c:ByteArray→Nat) (cnt m:Nat) (r:Tm) (d:Nat) (w:World) (e:Ending) (w':World):Prop:=
 ∃ tk' kk',e=.returned (tmVal r tk' kk')∧TyL (fun q=>w.heap.size≤q) w' r.ty.kids tk'∧TmL (fun q=>w.heap.size≤q) w' r.kids kk'∧Kept (fun q=>q=b∨q=R) w w'∧(∃ g,MapF w' b (n+300000*m) g∧CntF g c)∧Blk w' R 87 (rpCells fm tu fk fkk uk ukk fB tB ((cnt+d:Nat):Int))
def WkC (f:Nat):Prop:=∀ (t fm tu:Tm) (c:ByteArray→Nat) (w:World) (ok okf oku:Nat→Prop) (tk kk fk fkk uk ukk:Value) (R fB tB b nf nt n cnt:Nat),OkTm t→tmD t≤f→tmN t≤100000→tmD t≤290→TyL ok w t.ty.kids tk→TmL ok w t.kids kk→(∀ q,ok q→q≠b∧q≠R)→WkE fm tu okf oku fk fkk uk ukk R fB tB b nf nt w →
 Blk w R 87 (rpCells fm tu fk fkk uk ukk fB tB (cnt:Nat))→(∃ f,MapF w b n f∧CntF f c)→n+300000*tmN t≤1000000000000→(∀ s,c s+tmD t≤900000)→cnt+tmN t≤1000000000 →
 Calls Tryz.prog 60 #[.pointer (some ⟨R,0,none⟩),tmVal t tk kk,.map (some b)] w (WkP fm tu fk fkk uk ukk R fB tB b n c cnt (tmN t) (wkT fm tu f c t) (wkN fm c t) w)
theorem wk_one {f:Nat} (IH:WkC f):WkC (f+1):=by
 intro t fm tu c w ok okf oku tk kk fk fkk uk ukk R fB tB b nf nt n cnt hokt hD hN hD2 h1 h2 hok hE hR hb hn hc hcnt
 obtain⟨op,nm,N,ty,ks⟩:=t
 have h1:TyL ok w ty.kids tk:=h1
 have h2:TmL ok w ks kk:=h2
 obtain⟨a,an,ac,rfl⟩:=h1.slice
 obtain⟨ma,mn,mc,rfl⟩:=h2.slice
 obtain⟨fp,fn,fc,rfl⟩:=hE.f1.slice
 obtain⟨fa,fq,fr0,rfl⟩:=hE.f2.slice
 obtain⟨up,un,uc,rfl⟩:=hE.u1.slice
 obtain⟨ua,uq,uv,rfl⟩:=hE.u2.slice
 change Calls Tryz.prog 60 #[.pointer (some ⟨R,0,none⟩),.agg #[.int .i64 op,.string nm,.int .i64 N,.int .i64 ty.kind,.string ty.name,.slice a an ac,.slice ma mn mc],.map (some b)] w _
 obtain rfl:mn=ks.length:=h2.len
 have hbd:=ok_bd hokt
 have KTY:=Ld (fun W (k:Kept (fun q=>q=b∨q=R) w W)=>h1.frame (Same.of_kept k (fun q hq e=>by have:=hok q hq;omega)))
 have KM:=Ld (fun W (k:Kept (fun q=>q=b∨q=R) w W)=>h2.frame (Same.of_kept k (fun q hq e=>by have:=hok q hq;omega)))
 have HEK:=Ld (fun W (k:Kept (fun q=>q=b∨q=R) w W)=>hE.kept k)
 have HOK:=Ld hok
 have HOT:=Ld hokt
 have HBD:=Ld hbd
 have hbl:b<w.heap.size:=by obtain⟨f,hb1,_⟩:=hb;exact hb1.lt
 have LB:Hid (b<w.heap.size∧R<w.heap.size∧b≠R):=Ld ⟨hbl,hR.lt,hE.ne.1⟩
 have HND:Hid (tmNs ks+1=tmN (.mk op nm N ty ks)∧tmDs ks+1=tmD (.mk op nm N ty ks)∧tmD (.mk op nm N ty ks)≤f+1∧tmN (.mk op nm N ty ks)≤100000∧tmD (.mk op nm N ty ks)≤290∧n+300000*tmN (.mk op nm N ty ks)≤1000000000000∧cnt+tmN (.mk op nm N ty ks)≤1000000000):=Ld ⟨by rw[tmN],by rw[tmD],hD,hN,hD2,hn,hcnt⟩
 have HCB:Hid (∀ s,c s+tmDs ks+1≤900000):=Ld (fun s=>by have:=hc s;rw[tmD] at this;omega)
 have HHR:=Ld (fun W (kw:Kept (fun _=>False) w W)=>here_any (t:=.mk op nm N ty ks) (c0:=c) hbd (by omega) (KTY.out W (kw.mono (fun _ _ e=>e.elim))) (KM.out W (kw.mono (fun _ _ e=>e.elim))) (HEK.out W (kw.mono (fun _ _ e=>e.elim))).f1 (HEK.out W (kw.mono (fun _ _ e=>e.elim))).f2 (hR.kept kw (fun e=>e)) (HEK.out W (kw.mono (fun _ _ e=>e.elim))).mf (by obtain⟨f,hb1,hb2⟩:=hb;exact⟨f,hb1.kept kw (fun e=>e),hb2⟩))
 unfold tmVal at HHR
 obtain⟨hr,hhr⟩:∃ hr:Bool,hr=(!cgB (fr fm) c&&alikeT (.mk op nm N ty ks) fm [] []):=⟨_,rfl⟩
 rw[← hhr] at HHR
 have HHQ:=Ld hhr
 have HRE:Hid (∃ res d,res=wkT fm tu (f+1) c (.mk op nm N ty ks)∧d=wkN fm c (.mk op nm N ty ks)):=Ld ⟨_,_,rfl,rfl⟩
 obtain⟨res,d,hres,hd⟩:=HRE.out
 rw[← hres,← hd]
 have HRS:=Ld hres
 have HDS:=Ld hd
 have K0:Kept (fun _=>False) w ((w.alloc (.cells #[.int .i64 op,.string nm,.int .i64 N,.int .i64 ty.kind,.string ty.name,.slice a an ac,.slice ma ks.length mc] 27)).alloc Z7):=(kR.alloc _).alloc _
 have bA:Blk ((w.alloc (.cells #[.int .i64 op,.string nm,.int .i64 N,.int .i64 ty.kind,.string ty.name,.slice a an ac,.slice ma ks.length mc] 27)).alloc Z7) w.heap.size 27 [Value.int .i64 op,.string nm,.int .i64 N,.int .i64 ty.kind,.string ty.name,.slice a an ac,.slice ma ks.length mc]:=(Blk.new w 27 _).alloc _
 have bR:Blk ((w.alloc (.cells #[.int .i64 op,.string nm,.int .i64 N,.int .i64 ty.kind,.string ty.name,.slice a an ac,.slice ma ks.length mc] 27)).alloc Z7) (w.heap.size+1) 27 z27:=Blk.new' 27 _ (by simp)
 have HR0:=Ld hR
 have HB0:=Ld hb
 clear h1 h2 hok hE hR hb hn hc hcnt hokt hD hN hD2 hbd hbl HRE hres hd hhr
 change Hid (∀ W (kw:Kept (fun _=>False) w W),Calls Tryz.prog 108 #[.pointer (some ⟨R,0,none⟩),.agg #[.int .i64 op,.string nm,.int .i64 N,.int .i64 ty.kind,.string ty.name,.slice a an ac,.slice ma ks.length mc],.map (some b)] W fun e w'=>e=.returned (.bool hr)∧Kept (fun _=>False) W w') at HHR
 go_enter Tryz.func60,Tryz.ntmps60
 go_upto_region 1 with (fail)
 refine wp_gen (F:=fun W3=>Kept (fun _=>False) w W3∧W3.heap.size=w.heap.size+2∧Blk W3 w.heap.size 27 [Value.int .i64 op,.string nm,.int .i64 N,.int .i64 ty.kind,.string ty.name,.slice a an ac,.slice ma ks.length mc]∧Blk W3 (w.heap.size+1) 27 z27) ⟨K0,by simp,bA,bR⟩ ?_
 clear K0 bA bR
 rintro w1 ⟨K1,z1,bA,bR⟩
 have gA:=bA.cell
 have HC:=Ld (HHR.out w1 K1)
 have HK1:=Ld K1
 have HA1:=Ld bA
 have HR1:=Ld bR
 have HZ1:=Ld z1
 clear HHR K1 bA bR z1
 go_wp2_with fail
 refine HC.out.mono ?_
 rintro e w2 ⟨rfl,k2⟩
 have HK2:=Ld (HK1.out.trans k2)
 have HA:=Ld (HA1.out.kept k2 (fun e=>e))
 have HR:=Ld (HR1.out.kept k2 (fun e=>e))
 have HZ:Hid (w.heap.size+2≤w2.heap.size):=Ld (by have:=k2.size;have:=HZ1.out;omega)
 have HRP:=Ld (HR0.out.kept HK2.out (fun e=>e))
 have HBO:Hid (∃ f,MapF w2 b n f∧CntF f c):=Ld (by obtain⟨f,hb1,hb2⟩:=HB0.out;exact⟨f,hb1.kept HK2.out (fun e=>e),hb2⟩)
 clear k2 HC gA HK1 HA1 HR1 HZ1 HR0 HB0
 have HKW:Hid (Kept (fun q=>q=b∨q=R) w w2):=Ld (HK2.out.mono (fun _ _ e=>e.elim))
 have gA:=HA.out.cell
 cases hr
 case true=>
  have HHT:Hid (res=tu∧d=1):=Ld (by rw[HRS.out,HDS.out];exact wk_hit HHQ.out.symm)
  have gR:∀ i,w2.cell? ⟨R,i,none⟩=[Value.int .i64 fm.op,.string fm.name,.int .i64 fm.n,.int .i64 fm.ty.kind,.string fm.ty.name,.slice fp fn fc,.slice fa fq fr0,.int .i64 tu.op,.string tu.name,.int .i64 tu.n,.int .i64 tu.ty.kind,.string tu.ty.name,.slice up un uc,.slice ua uq uv,.map (some fB),.map (some tB),.int .i64 (cnt:Nat)][i]?:=HRP.out.cell
  have fR:=HRP.out.frozen
  have hRl:R<w2.heap.size:=HRP.out.lt
  have HW1:Hid (wrap64 ((cnt:Int)+1)=((cnt+1:Nat):Int)):=Ld (by have:=HND.out.2.2.2.2.2.2;unfold wrap64;omega)
  clear HRS HDS HHQ gA
  go_upto_region 3 with (fail)
  rw[HW1.out]
  have b3:Hid (Blk (w2.setCell ⟨R,16,none⟩ (.int .i64 ((cnt+1:Nat):Int))) R 87 (rpCells fm tu (.slice fp fn fc) (.slice fa fq fr0) (.slice up un uc) (.slice ua uq uv) fB tB ((cnt+1:Nat):Int))):=Ld (HRP.out.set 16 _)
  have K3:Hid (Kept (fun q=>q=R) w2 (w2.setCell ⟨R,16,none⟩ (.int .i64 ((cnt+1:Nat):Int)))):=Ld ((Kept.refl (fun q=>q=R) w2).setCell (p:=⟨R,16,none⟩) (Or.inl rfl) _)
  clear gR fR hRl HRP
  generalize w2.setCell ⟨R,16,none⟩ (.int .i64 ((cnt+1:Nat):Int))=w3 at *
  have gR:∀ i,w3.cell? ⟨R,i,none⟩=(rpCells fm tu (.slice fp fn fc) (.slice fa fq fr0) (.slice up un uc) (.slice ua uq uv) fB tB ((cnt+1:Nat):Int))[i]?:=b3.out.cell
  unfold rpCells at gR
  have KW3:=Ld (HKW.out.trans (K3.out.mono (fun _ _ e=>Or.inr e)))
  have HCL:=Ld (clone_any (ok_bd (HEK.out _ HKW.out).okt) w3 oku _ _ (HEK.out w3 KW3.out).u1 (HEK.out w3 KW3.out).u2)
  unfold ClP tmVal at HCL
  go_wp2_with fail
  clear gR
  refine HCL.out.mono ?_
  rintro e w4 ⟨tk2,kk2,rfl,hty2,htm2,k4⟩
  obtain⟨pa,pn,pc,rfl⟩:=hty2.slice
  obtain⟨qa,qn,qc,rfl⟩:=htm2.slice
  have BR4:=Ld ((HR.out.kept K3.out (fun e=>by have:=LB.out;omega)).kept k4 (fun h=>h))
  have KW4:=Ld (KW3.out.trans (k4.mono (fun _ _ e=>e.elim)))
  have T4:=Ld hty2
  have M4:=Ld htm2
  have B4:=Ld (b3.out.kept k4 (fun h=>h))
  have LZ:Hid (w.heap.size+2≤w3.heap.size):=Ld (by have:=HZ.out;have:=K3.out.size;omega)
  have BO4:Hid (∃ f,MapF w4 b n f∧CntF f c):=Ld (by obtain⟨f,hb1,hb2⟩:=HBO.out;exact⟨f,(hb1.kept K3.out (fun e=>LB.out.2.2 e)).kept k4 (fun e=>e),hb2⟩)
  have lR:=BR4.out.lt
  have gR:∀ i,w4.cell? ⟨w.heap.size+1,i,none⟩=[Value.int .i64 0,.string ⟨#[]⟩,.int .i64 0,.int .i64 0,.string ⟨#[]⟩,.slice none 0 0,.slice none 0 0][i]?:=BR4.out.cell
  have fR:=BR4.out.frozen
  clear hty2 htm2 k4 HCL
  go_wp2_with fail
  have K7:∀ {x0 x1 x2 x3 x4 x5 x6:Value},Kept (fun q=>q=w.heap.size+1) w4 (((((((w4.setCell ⟨w.heap.size+1,0,none⟩ x0).setCell ⟨w.heap.size+1,1,none⟩ x1).setCell ⟨w.heap.size+1,2,none⟩ x2).setCell ⟨w.heap.size+1,3,none⟩ x3).setCell ⟨w.heap.size+1,4,none⟩ x4).setCell ⟨w.heap.size+1,5,none⟩ x5).setCell ⟨w.heap.size+1,6,none⟩ x6):=k7g
  exact bodyPost_ret (results_one Tryz.results60 rfl (load_tm (t:=tu) (r7 BR4.out rfl))) rfl ⟨_,_,by rw[HHT.out.1],by rw[HHT.out.1];exact (T4.out.frame (set7 (fun q hq=>by have:=LZ.out;omega))).mono (fun q _ hq=>by have:=LZ.out;omega),by rw[HHT.out.1];exact (M4.out.frame (set7 (fun q hq=>by have:=LZ.out;omega))).mono (fun q _ hq=>by have:=LZ.out;omega),k7w KW4.out (Or.inr (Nat.le_succ _)),by obtain⟨f,hb1,hb2⟩:=BO4.out;exact⟨f,(hb1.kept K7 (fun e=>by have:=LB.out;omega)).mono (by omega),hb2⟩,by rw[HHT.out.2];exact B4.out.kept K7 (fun e=>by have:=LB.out;omega)⟩
 case false=>
  by_cases hks:ks=[]
  ·subst hks
   have HHT:Hid (res=.mk op nm N ty []∧d=0∧binderB op=false):=Ld (by
    have hb:binderB op=false:=by
     cases hb:binderB op with
     | false=>rfl
     | true=>
      have h:=HOT.out
      cases h with
      | mk hf _ _=>have:=binder_kids hb (formed_parts hf).1;simp at this
    have h:=wk_flat (fm:=fm) (tu:=tu) (f:=f) (c:=c) (N:=N) (ks:=[]) hb HHQ.out.symm
    rw[HRS.out,HDS.out,h.1,h.2]
    exact⟨rfl,rfl,hb⟩)
   have HCL:=Ld (clone_any HBD.out w2 ok (.slice a an ac) (.slice ma (0:Nat) mc) (KTY.out w2 HKW.out) (KM.out w2 HKW.out))
   unfold ClP tmVal at HCL
   clear HRS HDS HHQ
   go_wp2_with fail
   clear gA
   refine HCL.out.mono ?_
   rintro e w4 ⟨tk2,kk2,rfl,hty2,htm2,k4⟩
   obtain⟨pa,pn,pc,rfl⟩:=hty2.slice
   obtain⟨qa,qn,qc,rfl⟩:=htm2.slice
   have T4:=Ld hty2
   have M4:=Ld htm2
   have BA4:=Ld (HA.out.kept k4 (fun h=>h))
   have BR4:=Ld (HR.out.kept k4 (fun h=>h))
   have K4:=Ld (HK2.out.trans k4)
   have LZ:=Ld k4.size
   have KZ4:=Ld k4
   clear hty2 htm2 k4 HCL
   go_upto_region 5 with (fail)
   refine wp_gen (F:=fun W3=>Kept (fun _=>False) w4 W3∧Blk W3 w4.heap.size 27 [.int .i64 op,.string nm,.int .i64 N,.int .i64 ty.kind,.string ty.name,.slice pa pn pc,.slice qa qn qc]) ⟨kR.alloc _,Blk.new w4 27 _⟩ ?_
   rintro w5 ⟨k5,bX⟩
   have BA5:=Ld (BA4.out.kept k5 (fun h=>h))
   have BR5:=Ld (BR4.out.kept k5 (fun h=>h))
   have K5:=Ld (K4.out.trans k5)
   have T5:=Ld (T4.out.frame (sK k5))
   have M5:=Ld (M4.out.frame (sK k5))
   have BX:=Ld bX
   have KZ:=Ld (KZ4.out.trans k5)
   clear k5 bX
   have gA:=BA5.out.cell
   have hbo:=HHT.out.2.2
   go_wp2_with fail
   refine (binder_any op _).mono ?_
   rintro e w5' ⟨rfl,rfl⟩
   rw[hbo]
   go_wp2_with fail
   clear gA hbo
   go_loopw [38] (fun i wr=>i=.int .i64 0∧wr=w5) (fun _ _=>0)
   case atStart=>exact⟨rfl,rfl⟩
   case round=>
    obtain⟨rfl,rfl⟩:=hrel
    have gX:=BX.out.cell
    have lR:=BR5.out.lt
    have gR:∀ i,wr.cell? ⟨w.heap.size+1,i,none⟩=[Value.int .i64 0,.string ⟨#[]⟩,.int .i64 0,.int .i64 0,.string ⟨#[]⟩,.slice none 0 0,.slice none 0 0][i]?:=BR5.out.cell
    have fR:=BR5.out.frozen
    go_wp2_with fail
    have K7:∀ {x0 x1 x2 x3 x4 x5 x6:Value},Kept (fun q=>q=w.heap.size+1) wr (((((((wr.setCell ⟨w.heap.size+1,0,none⟩ x0).setCell ⟨w.heap.size+1,1,none⟩ x1).setCell ⟨w.heap.size+1,2,none⟩ x2).setCell ⟨w.heap.size+1,3,none⟩ x3).setCell ⟨w.heap.size+1,4,none⟩ x4).setCell ⟨w.heap.size+1,5,none⟩ x5).setCell ⟨w.heap.size+1,6,none⟩ x6):=k7g
    exact bodyPost_ret (results_one Tryz.results60 rfl (load_tm (t:=.mk op nm N ty []) (r7 BR5.out rfl))) rfl ⟨_,_,by rw[HHT.out.1],by rw[HHT.out.1];exact (T5.out.frame (set7 (fun q hq=>by have:=HZ.out;omega))).mono (fun q _ hq=>by have:=HZ.out;omega),by rw[HHT.out.1];exact (M5.out.frame (set7 (fun q hq=>by have:=HZ.out;omega))).mono (fun q _ hq=>by have:=HZ.out;omega),k7w (K5.out.mono (fun _ _ e=>e.elim)) (Or.inr (Nat.le_succ _)),by obtain⟨f,hb1,hb2⟩:=HBO.out;exact⟨f,((hb1.kept KZ.out (fun e=>e)).kept K7 (fun e=>by have:=LB.out;omega)).mono (by omega),hb2⟩,by rw[HHT.out.2.1];exact (HRP.out.kept KZ.out (fun e=>e)).kept K7 (fun e=>by have:=LB.out;omega)⟩
  ·have hne:=hks
   have HCL:=Ld (clone_kids HBD.out hne (KTY.out w2 HKW.out) (KM.out w2 HKW.out))
   unfold ClP2 tmVal at HCL
   clear hks hne
   go_wp2_with fail
   clear gA
   refine HCL.out.mono ?_
   rintro e w4 ⟨tv,g,cg,rfl,hcg,hg,hty2,hrow,k4⟩
   obtain⟨va,vn,vc,rfl⟩:=hty2.slice
   change ks.length≤cg at hcg
   have HCG:=Ld hcg
   have T4:=Ld hty2
   have R4:=Ld hrow
   have KZ4:=Ld k4
   have HG:=Ld hg
   clear hty2 hrow k4 hg HCL hcg
   go_upto_region 5 with (fail)
   have gw:Hid (g<w4.heap.size):=Ld (by obtain⟨L,K,M,bG,_⟩:=R4.out.row;exact bG.lt)
   refine wp_gen (F:=fun W3=>WK w b R w4.heap.size g (fun cnt:Nat=>rpCells fm tu (.slice fp fn fc) (.slice fa fq fr0) (.slice up un uc) (.slice ua uq uv) fB tB (cnt:Int)) [Value.int .i64 op,.string nm,.int .i64 N,.int .i64 ty.kind,.string ty.name,.slice a an ac,.slice ma ks.length mc] (fun z:ByteArray=>[Value.int .i64 op,.string z,.int .i64 N,.int .i64 ty.kind,.string ty.name,.slice va vn vc,.slice (some ⟨g,0,none⟩) ks.length cg]) ty (.slice va vn vc) n c cnt nm ks W3) ?_ ?_
   ·have k5:Kept (fun _=>False) w4 (w4.alloc (.cells #[.int .i64 op,.string nm,.int .i64 N,.int .i64 ty.kind,.string ty.name,.slice va vn vc,.slice (some ⟨g,0,none⟩) ks.length cg] 27)):=kR.alloc _
    have hz:=HZ.out
    have hg:=HG.out
    have hgw:=gw.out
    have h4:=KZ4.out.size
    have hX:=LB.out
    have kk:=KZ4.out.trans k5
    obtain⟨f0,hb1,hb2⟩:=HBO.out
    exact⟨HKW.out.trans (kk.mono (fun _ _ e=>e.elim)),⟨f0,hb1.kept kk (fun e=>e),hb2⟩,HRP.out.kept kk (fun e=>e),HA.out.kept kk (fun e=>e),HR.out.kept kk (fun e=>e),Blk.new w4 27 _,⟨hX.1,hX.2.1,by omega,by omega,by omega⟩,
     (T4.out.mono (ok':=fun q=>w.heap.size+2≤q∧q≠g∧q≠w4.heap.size) (fun q h1 h2=>⟨by omega,h2.2,by omega⟩)).frame (sK k5),
     ((show KRow w4 w2.heap.size g ks from R4.out).toQ (base:=w.heap.size+2) (by omega) rfl).kept k5 (fun e=>e) (fun _ _ e=>e)⟩
   rintro w5 hS5
   have S5:=Ld hS5
   have HGX:Hid (w.heap.size+2≤w4.heap.size):=Ld hS5.ne.2.2.2.1
   clear hS5 T4 R4 KZ4 HG gw HZ HA HR HRP HBO HKW HK2
   generalize w4.heap.size=X at *
   have gA:=S5.out.a.cell
   have HIHK:=Ld (fun (u:Tm) (hu:u∈ks) W (kW:Kept (fun q=>q=b∨q=R) w W) (c':ByteArray→Nat) (n' cnt':Nat) (tuv kuv:Value) (okk:Nat→Prop) (hkk:∀ q,okk q→q≠b∧q≠R) (h1:TyL okk W u.ty.kids tuv) (h2:TmL okk W u.kids kuv) (hr:Blk W R 87 (rpCells fm tu (.slice fp fn fc) (.slice fa fq fr0) (.slice up un uc) (.slice ua uq uv) fB tB (cnt':Nat))) (hb:∃ f,MapF W b n' f∧CntF f c') (hn:n'+300000*tmN u≤1000000000000) (hc:∀ s,c' s+tmD u≤900000) (hct:cnt'+tmN u≤1000000000)=>IH u fm tu c' W okk okf oku tuv kuv _ _ _ _ R fB tB b nf nt n' cnt' (HOT.out.kid hu) (by have:=(tmD_kid hu).1;have:=HND.out;omega) (by have:=(tmD_kid hu).2;have:=HND.out;omega) (by have:=(tmD_kid hu).1;have:=HND.out;omega) h1 h2 hkk (HEK.out W kW) hr hb hn hc hct)
   unfold WkP tmVal at HIHK
   have HKN:Hid (ks.length≤1000000):=Ld (by have h:=HBD.out;cases h with | mk hn _ _=>exact hn)
   go_wp2_with fail
   cases hbi:binderB op
   case false=>
    refine (binder_t hbi _).mono ?_
    rintro e w' ⟨rfl,rfl⟩
    have hres:Hid (res=.mk op nm N ty (ks.map (wkT fm tu f c))∧d=(ks.map (wkN fm c)).sum):=Ld (by
     have h:=wk_flat (fm:=fm) (tu:=tu) (f:=f) (c:=c) (N:=N) (ty:=ty) (nm:=nm) hbi HHQ.out.symm
     rw[HRS.out,HDS.out,h.1,h.2]
     exact⟨rfl,rfl⟩)
    have HRS2:Hid (∀ i,(hi:i<ks.length)→(ks.map (wkT fm tu f c))[i]?=some (wkT fm tu f c ks[i])):=Ld (fun i hi=>by rw[List.getElem?_map,List.getElem?_eq_getElem hi];rfl)
    have HRL:Hid ((ks.map (wkT fm tu f c)).length=ks.length):=Ld (List.length_map _)
    clear hbi HRS HDS HHQ
    generalize ks.map (wkT fm tu f c)=rs at *
    go_wp2_with fail
    clear gA
    go_loopw [38] (fun i wr=>∃ (k n' cnt':Nat) (l:List Tm),k≤ks.length∧i=.int .i64 k∧WK w b R X g (fun cnt:Nat=>rpCells fm tu (.slice fp fn fc) (.slice fa fq fr0) (.slice up un uc) (.slice ua uq uv) fB tB (cnt:Int)) [Value.int .i64 op,.string nm,.int .i64 N,.int .i64 ty.kind,.string ty.name,.slice a an ac,.slice ma ks.length mc] (fun z:ByteArray=>[Value.int .i64 op,.string z,.int .i64 N,.int .i64 ty.kind,.string ty.name,.slice va vn vc,.slice (some ⟨g,0,none⟩) ks.length cg]) ty (.slice va vn vc) n' c cnt' nm l wr∧Hid (l.length=ks.length∧∀ i,l[i]?=if i<k then rs[i]? else ks[i]?)∧Hid (n'+300000*tmNs (ks.drop k)≤n+300000*tmNs ks∧cnt'+((ks.drop k).map (wkN fm c)).sum=cnt+d∧cnt'+tmNs (ks.drop k)≤cnt+tmNs ks)) (fun i _=>ks.length-(intOf i).toNat)
    case atStart=>exact⟨0,n,cnt,ks,Nat.zero_le _,rfl,S5.out,Ld ⟨rfl,fun i=>by simp⟩,Ld ⟨by simp,by rw[List.drop_zero,hres.out.2],by simp⟩⟩
    case round=>
     obtain⟨k,n',cnt',l,hkl,rfl,hS,hL,hQ⟩:=hrel
     have S1:=Ld hS
     clear hS S5
     by_cases hlt:k<ks.length
     ·have i1:(k:Int)<(ks.length:Int):=by omega
      have i2:(k:Int)<1000000:=by have:=HKN.out;omega
      obtain⟨q1,o1,ta,tn,tc,pa,pn,pc,rfl,hq1,lq,hC,hkt,hkm⟩:=(KM.out wr S1.out.kp).at k hlt
      obtain⟨c0,c1,c2,c3,c4,c5,c6⟩:=hC
      have HKC:=Ld (fun W (kW:Kept (fun q=>q=b∨q=R) wr W)=>HIHK.out ks[k] (List.getElem_mem hlt) W (S1.out.kp.trans kW) c n' cnt' _ _ ok HOK.out (hkt.frame (Same.of_kept kW (fun q hq e=>by have:=HOK.out q hq;omega))) (hkm.frame (Same.of_kept kW (fun q hq e=>by have:=HOK.out q hq;omega))))
      have HRK:=Ld (HRS2.out k hlt)
      have HDM:Hid (tmD ks[k]≤tmDs ks∧tmNs (ks.drop k)=tmN ks[k]+tmNs (ks.drop (k+1))∧((ks.drop k).map (wkN fm c)).sum=wkN fm c ks[k]+((ks.drop (k+1)).map (wkN fm c)).sum∧wkN fm c ks[k]≤tmN ks[k]):=Ld ⟨kid_dn (List.getElem_mem hlt),by rw[List.drop_eq_getElem_cons hlt,tmNs],by rw[List.drop_eq_getElem_cons hlt,List.map_cons,List.sum_cons],wkN_le _ _ _⟩
      have hk7:Hid (k*7+7≤l.length*7∧k<l.length):=Ld (by have:=hL.out.1;omega)
      clear hkt hkm hq1
      generalize wkT fm tu f c ks[k]=r at *
      generalize wkN fm c ks[k]=dk at *
      generalize ks[k]=u at *
      go_upto_region 9 with (fail)
      clear c0 c1 c2 c3 c4 c5 c6
      have KR:Hid (Kept (fun _=>False) wr (wr.alloc (.cells #[.int .i64 u.op,.string u.name,.int .i64 u.n,.int .i64 u.ty.kind,.string u.ty.name,.slice ta tn tc,.slice pa pn pc] 27))):=Ld (kR.alloc _)
      have bK:Hid (Blk (wr.alloc (.cells #[.int .i64 u.op,.string u.name,.int .i64 u.n,.int .i64 u.ty.kind,.string u.ty.name,.slice ta tn tc,.slice pa pn pc] 27)) wr.heap.size 27 [.int .i64 u.op,.string u.name,.int .i64 u.n,.int .i64 u.ty.kind,.string u.ty.name,.slice ta tn tc,.slice pa pn pc]):=Ld (Blk.new wr 27 _)
      generalize wr.alloc (.cells #[.int .i64 u.op,.string u.name,.int .i64 u.n,.int .i64 u.ty.kind,.string u.ty.name,.slice ta tn tc,.slice pa pn pc] 27)=w7 at *
      have S7:=Ld (S1.out.kept KR.out)
      have x0:w7.cell? ⟨X,6,none⟩=some (.slice (some ⟨g,0,none⟩) ks.length cg):=S7.out.o.cell 6
      have x1:w7.cell? ⟨wr.heap.size,0,none⟩=some (.int .i64 u.op):=bK.out.cell 0
      have x2:w7.cell? ⟨wr.heap.size,1,none⟩=some (.string u.name):=bK.out.cell 1
      have x3:w7.cell? ⟨wr.heap.size,2,none⟩=some (.int .i64 u.n):=bK.out.cell 2
      have x4:w7.cell? ⟨wr.heap.size,3,none⟩=some (.int .i64 u.ty.kind):=bK.out.cell 3
      have x5:w7.cell? ⟨wr.heap.size,4,none⟩=some (.string u.ty.name):=bK.out.cell 4
      have x6:w7.cell? ⟨wr.heap.size,5,none⟩=some (.slice ta tn tc):=bK.out.cell 5
      have x7:w7.cell? ⟨wr.heap.size,6,none⟩=some (.slice pa pn pc):=bK.out.cell 6
      have KD:Kept (fun _=>False) w7 (World.drew w7):=kR.drew
      have HLW:Hid (g<w7.heap.size∧X<w7.heap.size∧w.heap.size+2≤w7.heap.size):=Ld ⟨S7.out.row.lt,S7.out.o.lt,by have:=S7.out.ne;have:=S7.out.row.lt;omega⟩
      have SD:=Ld (S7.out.kept KD)
      have HCA:=Ld (HKC.out (World.drew w7) ((KR.out.trans KD).mono (fun _ _ e=>e.elim)) SD.out.rp SD.out.bo (by have:=hQ.out;have:=HDM.out;have:=HND.out;omega) (fun s=>by have:=HCB.out s;have:=HDM.out;omega) (by have:=hQ.out;have:=HDM.out;have:=HND.out;omega))
      go_region_law (first
       | (go_simp;go_at_call 60;refine HCA.out.mono ?_;rintro e w8 ⟨zk,zm,rfl,hzk,hzm,k8,m8,r8⟩;obtain⟨zka,zkn,zkc,rfl⟩:=hzk.slice;obtain⟨zma,zmn,zmc,rfl⟩:=hzm.slice;have S8:=Ld (SD.out.step k8 m8 r8);have y0:w8.cell? ⟨X,6,none⟩=some (.slice (some ⟨g,0,none⟩) ks.length cg):=S8.out.o.cell 6;have fg8:=S8.out.row.frozen;obtain⟨t0,th0⟩:=S8.out.row.there (i:=k*7) (by have:=hk7.out;omega);obtain⟨t1,th1⟩:=S8.out.row.there (i:=k*7+1) (by have:=hk7.out;omega);obtain⟨t2,th2⟩:=S8.out.row.there (i:=k*7+2) (by have:=hk7.out;omega);obtain⟨t3,th3⟩:=S8.out.row.there (i:=k*7+3) (by have:=hk7.out;omega);obtain⟨t4,th4⟩:=S8.out.row.there (i:=k*7+4) (by have:=hk7.out;omega);obtain⟨t5,th5⟩:=S8.out.row.there (i:=k*7+5) (by have:=hk7.out;omega);obtain⟨t6,th6⟩:=S8.out.row.there (i:=k*7+6) (by have:=hk7.out;omega);have S9:=Ld (WK.put S8.out hk7.out.2 (hzk.mono (fun q _ hq=>by have h5:w7.heap.size≤q:=hq;have:=HLW.out;omega)) (hzm.mono (fun q _ hq=>by have h5:w7.heap.size≤q:=hq;have:=HLW.out;omega)) _ rfl);clear hzk hzm k8 m8 r8))
      all_goals
       clear x0 x1 x2 x3 x4 x5 x6 x7 y0 fg8 th0 th1 th2 th3 th4 th5 th6 S8 S7 S1 SD bK KR KD HLW HCA HKC
       generalize ((((((w8.setCell ⟨g,k*7,none⟩ (.int .i64 r.op)).setCell ⟨g,k*7+1,none⟩ (.string r.name)).setCell ⟨g,k*7+2,none⟩ (.int .i64 r.n)).setCell ⟨g,k*7+3,none⟩ (.int .i64 r.ty.kind)).setCell ⟨g,k*7+4,none⟩ (.string r.ty.name)).setCell ⟨g,k*7+5,none⟩ (.slice zka zkn zkc)).setCell ⟨g,k*7+6,none⟩ (.slice zma zmn zmc)=w9 at *
       go_wp2_with fail
       go_roundw
       case rel=>exact⟨k+1,_,_,_,by omega,by go_num,S9.out,Ld (set_step hL.out hk7.out.2 HRK.out),Ld (by have:=hQ.out;have:=HDM.out;omega)⟩
       case measure=>simp[intOf];omega
     ·have hkk:k=ks.length:=by omega
      subst hkk
      have hexit:¬ (ks.length:Int)<(ks.length:Int):=by omega
      have HLE:Hid (l=rs):=Ld (List.ext_getElem? (fun i=>by
       rw[hL.out.2 i]
       by_cases h:i<ks.length
       ·rw[if_pos h]
       ·rw[if_neg h,List.getElem?_eq_none (by omega),List.getElem?_eq_none (by rw[HRL.out];omega)]))
      rw[HLE.out] at S1
      have gO:∀ i,wr.cell? ⟨X,i,none⟩=[Value.int .i64 op,.string nm,.int .i64 N,.int .i64 ty.kind,.string ty.name,.slice va vn vc,.slice (some ⟨g,0,none⟩) ks.length cg][i]?:=S1.out.o.cell
      have gR:∀ i,wr.cell? ⟨w.heap.size+1,i,none⟩=[Value.int .i64 0,.string ⟨#[]⟩,.int .i64 0,.int .i64 0,.string ⟨#[]⟩,.slice none 0 0,.slice none 0 0][i]?:=S1.out.r.cell
      have fR:=S1.out.r.frozen
      have lR:=S1.out.r.lt
      have HCT:Hid (cnt'=cnt+d∧n'≤n+300000*tmN (.mk op nm N ty ks)):=Ld (by
       have h1:=hQ.out;have h2:=HND.out
       rw[List.drop_length] at h1
       simp only[List.map_nil,List.sum_nil,tmNs] at h1
       omega)
      clear hlt hkl hexit
      go_wp2_with fail
      have D:=fun (x0 x1 x2 x3 x4 x5 x6:Value)=>S1.out.done HRL.out HCG.out (x0:=x0) (x1:=x1) (x2:=x2) (x3:=x3) (x4:=x4) (x5:=x5) (x6:=x6) (i0:=0) (i1:=1) (i2:=2) (i3:=3) (i4:=4) (i5:=5) (i6:=6)
      exact bodyPost_ret (results_one Tryz.results60 rfl (load_tm (t:=.mk op nm N ty rs) (r7 S1.out.r rfl))) rfl ⟨_,_,by rw[hres.out.1],by rw[hres.out.1];exact (D _ _ _ _ _ _ _).1,by rw[hres.out.1];exact (D _ _ _ _ _ _ _).2.1,(D _ _ _ _ _ _ _).2.2.1,(by obtain⟨f0,hb1,hb2⟩:=(D _ _ _ _ _ _ _).2.2.2.1;exact⟨f0,hb1.mono HCT.out.2,hb2⟩),by rw[← HCT.out.1];exact (D _ _ _ _ _ _ _).2.2.2.2⟩
   case true=>
    refine (binder_t hbi _).mono ?_
    rintro e w' ⟨rfl,rfl⟩
    go_wp2_with fail
    clear gA
    have HQH:=Ld HHQ.out.symm
    clear HHQ
    generalize hlen:ks.length=mn at *
    obtain⟨dd,y,rfl⟩:∃ dd y,ks=[dd,y]:=by
     have h:=HOT.out
     cases h with
     | mk hf _ _=>
      exact two_of hbi (formed_parts hf).1
    obtain rfl:mn=2:=hlen.symm
    clear hlen
    have HYK:Hid (OkTm y∧identB nm=true∧nm.size≤maxLen∧tmN dd+tmN y+1=tmN (.mk op nm N ty [dd,y])∧tmD dd+1≤tmD (.mk op nm N ty [dd,y])∧tmD y+1≤tmD (.mk op nm N ty [dd,y])):=Ld (by
     refine⟨HOT.out.kid (by simp[Tm.kids]),?_,by have:=ok_name HOT.out;unfold maxLen;omega,by simp only[tmN,tmNs];omega,by simp only[tmD,tmDs];omega,by simp only[tmD,tmDs];omega⟩
     have h:=HOT.out
     cases h with
     | mk hf _ _=>exact formed_ident hf hbi)
    obtain⟨q1,o1,ta,tn,tc,pa,pn,pc,hqa,hq1,lq,hC,hkt,hkm⟩:=(KM.out w5 S5.out.kp).at 0 (by simp)
    obtain⟨q1',o1',ta',tn',tc',pa',pn',pc',hqa',hq1',lq',hC',hkt',hkm'⟩:=(KM.out w kR).at 1 (by simp)
    cases hqa
    cases hqa'
    change TyL ok w5 dd.ty.kids _ at hkt
    change TmL ok w5 dd.kids _ at hkm
    change TyL ok w y.ty.kids _ at hkt'
    change TmL ok w y.kids _ at hkm'
    have HQN:Hid (q1≠b∧q1≠R):=Ld (HOK.out q1 hq1)
    have HKC:=Ld (fun W (kW:Kept (fun q=>q=b∨q=R) w5 W)=>HIHK.out dd (by simp) W (S5.out.kp.trans kW) c n cnt _ _ ok HOK.out (hkt.frame (Same.of_kept kW (fun q hq e=>by have:=HOK.out q hq;omega))) (hkm.frame (Same.of_kept kW (fun q hq e=>by have:=HOK.out q hq;omega))))
    have HYT:=Ld (fun W (kW:Kept (fun q=>q=b∨q=R) w W)=>hkt'.frame (Same.of_kept kW (fun q hq e=>by have:=HOK.out q hq;omega)))
    have HYM:=Ld (fun W (kW:Kept (fun q=>q=b∨q=R) w W)=>hkm'.frame (Same.of_kept kW (fun q hq e=>by have:=HOK.out q hq;omega)))
    have HCY:=Ld (fun W (kW:Kept (fun q=>q=b∨q=R) w W)=>hC'.kept kW (fun e=>by have:=HQN.out;omega))
    obtain⟨c0,c1,c2,c3,c4,c5,c6⟩:=hC
    rw[show o1+0*7=o1 by omega] at c0 c1 c2 c3 c4 c5 c6
    change w5.cell? _=some (.int .i64 dd.op) at c0
    change w5.cell? _=some (.string dd.name) at c1
    change w5.cell? _=some (.int .i64 dd.n) at c2
    change w5.cell? _=some (.int .i64 dd.ty.kind) at c3
    change w5.cell? _=some (.string dd.ty.name) at c4
    change Hid (∀ W,Kept (fun q=>q=b∨q=R) w W→C7 W q1 (o1+1*7) y (.slice ta' tn' tc') (.slice pa' pn' pc')) at HCY
    rw[show o1+1*7=o1+7 by omega] at HCY
    clear hkt hkm hkt' hkm' hC' hq1 hq1' lq'
    have HWD:=Ld (wkN_le fm c dd)
    obtain⟨r,hr⟩:∃ r,r=wkT fm tu f c dd:=⟨_,rfl⟩
    obtain⟨d0,hd0⟩:∃ d0,d0=wkN fm c dd:=⟨_,rfl⟩
    rw[← hr,← hd0] at HKC
    rw[← hd0] at HWD
    have HRD:=Ld (And.intro hr hd0)
    clear hr hd0
    go_upto_region 12 with (fail)
    go_cut [] (fun wd=>WK w b R X g (fun cnt:Nat=>rpCells fm tu (.slice fp fn fc) (.slice fa fq fr0) (.slice up un uc) (.slice ua uq uv) fB tB (cnt:Int)) [Value.int .i64 op,.string nm,.int .i64 N,.int .i64 ty.kind,.string ty.name,.slice a an ac,.slice (some ⟨q1,o1,none⟩) 2 mc] (fun z:ByteArray=>[Value.int .i64 op,.string z,.int .i64 N,.int .i64 ty.kind,.string ty.name,.slice va vn vc,.slice (some ⟨g,0,none⟩) 2 cg]) ty (.slice va vn vc) (n+300000*tmN dd) c (cnt+d0) nm [r,y] wd)
    case first=>
     have x0:w5.cell? ⟨X,6,none⟩=some (.slice (some ⟨g,0,none⟩) 2 cg):=S5.out.o.cell 6
     have x1:w5.cell? ⟨w.heap.size,6,none⟩=some (.slice (some ⟨q1,o1,none⟩) 2 mc):=S5.out.a.cell 6
     have KD:Kept (fun _=>False) w5 (World.drew w5):=kR.drew
     have S7:=S5
     have HLW:Hid (g<w5.heap.size∧X<w5.heap.size∧w.heap.size+2≤w5.heap.size):=Ld ⟨S7.out.row.lt,S7.out.o.lt,by have:=S7.out.ne;have:=S7.out.row.lt;omega⟩
     have SD:=Ld (S7.out.kept KD)
     have HCA:=Ld (HKC.out (World.drew w5) (KD.mono (fun _ _ e=>e.elim)) SD.out.rp SD.out.bo (by have:=HND.out;have:=HYK.out;omega) (fun s=>by have h5:=HCB.out s;simp only[tmDs] at h5;omega) (by have:=HND.out;have:=HYK.out;omega))
     go_region_law (first
      | (go_simp;go_at_call 60;refine HCA.out.mono ?_;rintro e w8 ⟨zk,zm,rfl,hzk,hzm,k8,m8,r8⟩;obtain⟨zka,zkn,zkc,rfl⟩:=hzk.slice;obtain⟨zma,zmn,zmc,rfl⟩:=hzm.slice;have S8:=Ld (SD.out.step k8 m8 r8);have y0:w8.cell? ⟨X,6,none⟩=some (.slice (some ⟨g,0,none⟩) 2 cg):=S8.out.o.cell 6;have fg8:=S8.out.row.frozen;obtain⟨t0,th0⟩:=S8.out.row.there (i:=0) (by simp);obtain⟨t1,th1⟩:=S8.out.row.there (i:=1) (by simp);obtain⟨t2,th2⟩:=S8.out.row.there (i:=2) (by simp);obtain⟨t3,th3⟩:=S8.out.row.there (i:=3) (by simp);obtain⟨t4,th4⟩:=S8.out.row.there (i:=4) (by simp);obtain⟨t5,th5⟩:=S8.out.row.there (i:=5) (by simp);obtain⟨t6,th6⟩:=S8.out.row.there (i:=6) (by simp);have S9:=Ld (WK.put (j:=0) S8.out (by simp) (hzk.mono (fun q _ hq=>by have h5:w5.heap.size≤q:=hq;have:=HLW.out;omega)) (hzm.mono (fun q _ hq=>by have h5:w5.heap.size≤q:=hq;have:=HLW.out;omega)) (((((((w8.setCell ⟨g,0,none⟩ (.int .i64 r.op)).setCell ⟨g,1,none⟩ (.string r.name)).setCell ⟨g,2,none⟩ (.int .i64 r.n)).setCell ⟨g,3,none⟩ (.int .i64 r.ty.kind)).setCell ⟨g,4,none⟩ (.string r.ty.name)).setCell ⟨g,5,none⟩ (.slice zka zkn zkc)).setCell ⟨g,6,none⟩ (.slice zma zmn zmc)) rfl);clear hzk hzm k8 m8 r8))
     all_goals
      clear x0 x1 y0 fg8 th0 th1 th2 th3 th4 th5 th6 S8 S7 S5 KD HLW SD HCA HKC
      go_wp2_with fail
      go_meet
      case rel=>exact S9.out
    case rest=>
     have S0:=Ld hcut
     clear hcut S5 c0 c1 c2 c3 c4 c5 c6 HKC lq HIHK
     generalize wc=w0 at *
     obtain⟨e0,e1,e2,e3,e4,e5,e6⟩:=HCY.out w0 S0.out.kp
     have gA:∀ i,w0.cell? ⟨w.heap.size,i,none⟩=[Value.int .i64 op,.string nm,.int .i64 N,.int .i64 ty.kind,.string ty.name,.slice a an ac,.slice (some ⟨q1,o1,none⟩) 2 mc][i]?:=S0.out.a.cell
     go_upto_region 14 with (fail)
     clear e0 e1 e2 e3 e4 e5 e6 gA
     have HY0:Hid (w.heap.size+2≤w0.heap.size∧X<w0.heap.size∧g<w0.heap.size∧b<w0.heap.size∧R<w0.heap.size):=Ld (by have h1:=S0.out.ne;have h2:=S0.out.row.lt;have h3:=S0.out.o.lt;omega)
     refine wp_gen (F:=fun W3=>Kept (fun _=>False) w0 W3∧Blk W3 w0.heap.size 27 [Value.int .i64 y.op,.string y.name,.int .i64 y.n,.int .i64 y.ty.kind,.string y.ty.name,.slice ta' tn' tc',.slice pa' pn' pc']) ⟨kR.alloc _,Blk.new w0 27 _⟩ ?_
     rintro w1 ⟨k1,bY⟩
     have S1:=Ld (WKY.start (Y:=w0.heap.size) S0.out rfl k1)
     have BY:=Ld bY
     clear k1 bY S0
     generalize w0.heap.size=Y at *
     obtain⟨f3,hb3,hf3⟩:=S1.out.bo
     have HF3:=Ld hf3
     have hlk:=hb3.look Tryz.underlying89 (z3 _) HYK.out.2.2.1
     rw[hf3 nm] at hlk
     have HW1:Hid (wrap64 ((c nm:Int)+1)=((c nm+1:Nat):Int)):=Ld (by have:=HCB.out nm;unfold wrap64;omega)
     have HB3:=Ld hb3
     have HLX:Hid (n+300000*tmN dd<maxLen∧n+300000*tmN dd+1+2*tmN y+1<maxLen∧n+300000*tmN dd+1+2*tmN y+2+300000*tmN y<maxLen):=Ld (by have:=HND.out;have:=HYK.out;unfold maxLen;omega)
     have gA:∀ i,w1.cell? ⟨w.heap.size,i,none⟩=[Value.int .i64 op,.string nm,.int .i64 N,.int .i64 ty.kind,.string ty.name,.slice a an ac,.slice (some ⟨q1,o1,none⟩) 2 mc][i]?:=S1.out.a.cell
     clear hf3 hb3
     go_upto_region 15 with (at_mapUpdate;refine wpList_storeF rfl _ _ _ _ 3 rfl Tryz.underlying89 rfl HB3.out nm rfl HYK.out.2.2.1 HLX.out.1 (.int .i64 (wrap64 ((c nm:Int)+1))) rfl ?_;intro w2 hm2 k2)
     rw[HW1.out] at hm2
     have S2:Hid (WKY Y w b R X g (fun cnt:Nat=>rpCells fm tu (.slice fp fn fc) (.slice fa fq fr0) (.slice up un uc) (.slice ua uq uv) fB tB (cnt:Int)) [Value.int .i64 op,.string nm,.int .i64 N,.int .i64 ty.kind,.string ty.name,.slice a an ac,.slice (some ⟨q1,o1,none⟩) 2 mc] (fun z:ByteArray=>[Value.int .i64 op,.string z,.int .i64 N,.int .i64 ty.kind,.string ty.name,.slice va vn vc,.slice (some ⟨g,0,none⟩) 2 cg]) ty (.slice va vn vc) (n+300000*tmN dd+1) (upC c nm) (cnt+d0) nm [r,y] w2):=Ld (S1.out.stepB LB.out.2.2 k2 ⟨_,hm2,HF3.out.upd nm (c nm+1)⟩)
     have BY2:=Ld (BY.out.kept k2 (fun e=>by have:=HY0.out;omega))
     clear hm2 k2 hlk HW1 HB3 HF3 S1 gA BY
     obtain⟨gv,hgv⟩:∃ gv,gv=gvB fm tu c nm y:=⟨_,rfl⟩
     have HGV:=Ld hgv
     clear hgv
     simp only[Act.put]
     go_cut [11] (fun v wc=>v=.bool gv∧WKY Y w b R X g (fun cnt:Nat=>rpCells fm tu (.slice fp fn fc) (.slice fa fq fr0) (.slice up un uc) (.slice ua uq uv) fB tB (cnt:Int)) [Value.int .i64 op,.string nm,.int .i64 N,.int .i64 ty.kind,.string ty.name,.slice a an ac,.slice (some ⟨q1,o1,none⟩) 2 mc] (fun z:ByteArray=>[Value.int .i64 op,.string z,.int .i64 N,.int .i64 ty.kind,.string ty.name,.slice va vn vc,.slice (some ⟨g,0,none⟩) 2 cg]) ty (.slice va vn vc) (n+300000*tmN dd+1+2*tmN y) (upC c nm) (cnt+d0) nm [r,y] wc∧Blk wc Y 27 [Value.int .i64 y.op,.string y.name,.int .i64 y.n,.int .i64 y.ty.kind,.string y.ty.name,.slice ta' tn' tc',.slice pa' pn' pc'])
     case first=>
      have KD:Kept (fun _=>False) w2 (World.drew w2):=kR.drew
      have HOC:=Ld (fun W (kW:Kept (fun _=>False) w2 W)=>ocs_any HYK.out.1 fm tu (fr fm) (upC c nm) W ok okf _ _ _ _ _ _ R fB tB b nf (n+300000*tmN dd+1) ((cnt+d0:Nat):Int) (HYT.out _ (S2.out.kept kW).kp) (HYM.out _ (S2.out.kept kW).kp) (HEK.out _ (S2.out.kept kW).kp).f1 (HEK.out _ (S2.out.kept kW).kp).f2 (S2.out.kept kW).rp (HEK.out _ (S2.out.kept kW).kp).mf (S2.out.kept kW).bo (HEK.out _ (S2.out.kept kW).kp).ne.2.1.symm LB.out.2.2 (fun q hq=>(HOK.out q hq).1) (fun q hq=>((HEK.out _ (S2.out.kept kW).kp).ff q hq).1) (by have:=HND.out;have:=HYK.out;omega) (fun s=>by have h5:=HCB.out s;have h6:=HCB.out nm;simp only[tmDs] at h5 h6;unfold upC;split <;> omega))
      unfold tmVal at HOC
      obtain⟨ov,hov⟩:∃ ov,ov=(!cgB (fr fm) (upC c nm)&&occT fm (fr fm) y):=⟨_,rfl⟩
      rw[← hov] at HOC
      have HGQ:Hid (gv=(mb nm (fr tu)&&ov)):=Ld (by rw[HGV.out,hov];rfl)
      clear hov
      cases hmq:mb nm (fr tu)
      ·rw[hmq] at HGQ
       refine wp_region_mono (L:=Kept (fun _=>False)) (fun i v W=>match i with
        | 0=>v=.pointer (some ⟨R,0,none⟩)
        | 1=>v=.pointer (some ⟨R,0,none⟩)
        | 2=>v=.pointer (some ⟨R,15,none⟩)
        | 3=>v=.map (some tB)
        | 4=>v=.pointer (some ⟨w.heap.size,1,none⟩)
        | 5=>v=.string nm
        | 6=>v=.bool false
        | 7=>v=.bool false
        | _=>True) [11,12,13] [] 132 (by kernel_rfl) rfl (by kernel_rfl) (by kernel_rfl) (fun w=>Kept.refl _ w) (fun _ _ _ h1 h2=>h1.trans h2) (fun c d v a w h=>by cases d <;> exact h) ?_ ?_
       ·refine allM_cons rfl (stepM_of [] rfl fun W k'=>allV_nil ?_) ?_
        ·refine opW_go rfl fun K hK=>?_
         go_simp
         exact hK _ _ (KT.mk kR rfl 72 rfl rfl)
        refine allM_cons rfl (stepM_of [0] rfl fun W k'=>allV_some 72 rfl fun v0 h0=>allV_nil ?_) ?_
        ·obtain⟨w1,k1,rfl⟩:=h0
         refine opW_go rfl fun K hK=>?_
         go_simp
         exact hK _ _ (KT.mk kR rfl 73 rfl rfl)
        refine allM_cons rfl (stepM_of [1] rfl fun W k'=>allV_some 73 rfl fun v0 h0=>allV_nil ?_) ?_
        ·obtain⟨w1,k1,rfl⟩:=h0
         refine opW_go rfl fun K hK=>?_
         go_simp
         exact hK _ _ (KT.mk kR rfl 74 rfl rfl)
        refine allM_cons rfl (stepM_of [2] rfl fun W k'=>allV_some 74 rfl fun v0 h0=>allV_nil ?_) ?_
        ·obtain⟨w1,k1,rfl⟩:=h0
         have q:=KD.trans k'
         have gR:∀ i,W.cell? ⟨R,i,none⟩=[Value.int .i64 fm.op,.string fm.name,.int .i64 fm.n,.int .i64 fm.ty.kind,.string fm.ty.name,.slice fp fn fc,.slice fa fq fr0,.int .i64 tu.op,.string tu.name,.int .i64 tu.n,.int .i64 tu.ty.kind,.string tu.ty.name,.slice up un uc,.slice ua uq uv,.map (some fB),.map (some tB),.int .i64 ((cnt+d0:Nat):Int)][i]?:=(S2.out.kept q).rp.cell
         refine opW_go rfl fun K hK=>?_
         go_simp
         exact hK _ _ (KT.mk kR rfl 75 rfl rfl)
        refine allM_cons rfl (stepM_of [] rfl fun W k'=>allV_nil ?_) ?_
        ·refine opW_go rfl fun K hK=>?_
         go_simp
         exact hK _ _ (KT.mk kR rfl 76 rfl rfl)
        refine allM_cons rfl (stepM_of [4] rfl fun W k'=>allV_some 76 rfl fun v0 h0=>allV_nil ?_) ?_
        ·obtain⟨w1,k1,rfl⟩:=h0
         have q:=KD.trans k'
         have gA:∀ i,W.cell? ⟨w.heap.size,i,none⟩=[Value.int .i64 op,.string nm,.int .i64 N,.int .i64 ty.kind,.string ty.name,.slice a an ac,.slice (some ⟨q1,o1,none⟩) 2 mc][i]?:=(S2.out.kept q).a.cell
         refine opW_go rfl fun K hK=>?_
         go_simp
         exact hK _ _ (KT.mk kR rfl 77 rfl rfl)
        refine allM_cons rfl (stepM_of [3,5] rfl fun W k'=>allV_some 75 rfl fun v0 h0=>allV_some 77 rfl fun v1 h1=>allV_nil ?_) ?_
        ·obtain⟨w1,k1,rfl⟩:=h0
         obtain⟨w2,k2,rfl⟩:=h1
         have q:=KD.trans k'
         have hl:=((HEK.out W (S2.out.kept q).kp).mt).look Tryz.underlying69 (z4 _) HYK.out.2.2.1
         rw[bagF_get,hmq] at hl
         refine opW_go rfl fun K hK=>?_
         go_simp
         exact hK _ _ (KT.mk kR rfl 78 rfl rfl)
        refine allM_cons rfl (stepM_of [6] rfl fun W k'=>allV_some 78 rfl fun v0 h0=>allV_nil ?_) ?_
        ·obtain⟨w1,k1,rfl⟩:=h0
         refine opW_go rfl fun K hK=>?_
         go_simp
         exact hK _ _ (KT.mk kR rfl 79 rfl rfl)
        refine allM_cons rfl (stepM_of [7] rfl fun W k'=>allV_some 79 rfl fun v0 h0=>allV_nil ?_) ?_
        ·obtain⟨w1,k1,rfl⟩:=h0
         exact opW_skip (by kernel_rfl) (KT.mk kR rfl 80 rfl trivial)
        refine allM_cons rfl (stepM_of [7] rfl fun W k'=>allV_some 79 rfl fun v0 h0=>allV_nil ?_) ?_
        ·obtain⟨w1,k1,rfl⟩:=h0
         exact opW_skip (by kernel_rfl) (KT.mk kR rfl 81 rfl trivial)
        refine allM_cons rfl (stepM_of [7] rfl fun W k'=>allV_some 79 rfl fun v0 h0=>allV_nil ?_) ?_
        ·obtain⟨w1,k1,rfl⟩:=h0
         exact opW_skip (by kernel_rfl) (KT.mk kR rfl 82 rfl trivial)
        refine allM_tail rfl ?_
        refine allM_tail rfl ?_
        refine allM_tail rfl ?_
        exact allM_nil
       intro W kW
       have hh:(List.range 14).filter (fun i=>!([11,12,13]:List Nat).contains i)=[0,1,2,3,4,5,6,7,8,9,10]:=by decide
       change allV _ _ _ _ _ ((List.range 14).filter (fun i=>!([11,12,13]:List Nat).contains i)) _
       rw[hh]
       generalize hKK:(fun a1=>wpList Tryz.prog _ _ (pickT [11,12,13] 0 _) a1 W)=KK
       refine allV_some 72 (by kernel_rfl) ?_
       intro v0 h0
       refine allV_some 73 (by kernel_rfl) ?_
       intro v1 h1
       refine allV_some 74 (by kernel_rfl) ?_
       intro v2 h2
       refine allV_some 75 (by kernel_rfl) ?_
       intro v3 h3
       refine allV_some 76 (by kernel_rfl) ?_
       intro v4 h4
       refine allV_some 77 (by kernel_rfl) ?_
       intro v5 h5
       refine allV_some 78 (by kernel_rfl) ?_
       intro v6 h6
       refine allV_some 79 (by kernel_rfl) ?_
       intro v7 h7
       refine allV_some 80 (by kernel_rfl) ?_
       intro v8 h8
       refine allV_some 81 (by kernel_rfl) ?_
       intro v9 h9
       refine allV_some 82 (by kernel_rfl) ?_
       intro v10 h10
       refine allV_nil ?_
       obtain⟨w0,k0,rfl⟩:=h0
       obtain⟨w1,k1,rfl⟩:=h1
       obtain⟨w2,k2,rfl⟩:=h2
       obtain⟨w3,k3,rfl⟩:=h3
       obtain⟨w4,k4,rfl⟩:=h4
       obtain⟨w5,k5,rfl⟩:=h5
       obtain⟨w6,k6,rfl⟩:=h6
       obtain⟨w7,k7,rfl⟩:=h7
       clear h8
       clear h9
       clear h10
       subst hKK
       have SW:=Ld (S2.out.kept (KD.trans kW))
       have BYW:=Ld (BY2.out.kept (KD.trans kW) (fun e=>e))
       clear kW hh KD HOC S2 BY2
       show wpList Tryz.prog _ _ [_,_,_] _ W
       simp only[Act.put,List.setIfInBounds_toArray,List.set_cons_succ,List.set_cons_zero]
       go_wp2_with fail
       go_meet
       case rel=>exact⟨by rw[HGQ.out];rfl,SW.out.step kR (by obtain⟨f,h1,h2⟩:=SW.out.bo;exact⟨f,h1.mono (by omega),h2⟩) SW.out.rp,BYW.out⟩
      ·rw[hmq] at HGQ
       refine wp_region_mono (L:=Kept (fun _=>False)) (fun i v W=>match i with
        | 0=>v=.pointer (some ⟨R,0,none⟩)
        | 1=>v=.pointer (some ⟨R,0,none⟩)
        | 2=>v=.pointer (some ⟨R,15,none⟩)
        | 3=>v=.map (some tB)
        | 4=>v=.pointer (some ⟨w.heap.size,1,none⟩)
        | 5=>v=.string nm
        | 6=>v=.bool true
        | 7=>v=.bool true
        | 8=>v=.pointer (some ⟨R,0,none⟩)
        | 9=>v=.agg #[.int .i64 y.op,.string y.name,.int .i64 y.n,.int .i64 y.ty.kind,.string y.ty.name,.slice ta' tn' tc',.slice pa' pn' pc']
        | 10=>v=.map (some b)
        | _=>True) [11,12,13] [] 132 (by kernel_rfl) rfl (by kernel_rfl) (by kernel_rfl) (fun w=>Kept.refl _ w) (fun _ _ _ h1 h2=>h1.trans h2) (fun c d v a w h=>by cases d <;> exact h) ?_ ?_
       ·refine allM_cons rfl (stepM_of [] rfl fun W k'=>allV_nil ?_) ?_
        ·refine opW_go rfl fun K hK=>?_
         go_simp
         exact hK _ _ (KT.mk kR rfl 72 rfl rfl)
        refine allM_cons rfl (stepM_of [0] rfl fun W k'=>allV_some 72 rfl fun v0 h0=>allV_nil ?_) ?_
        ·obtain⟨w1,k1,rfl⟩:=h0
         refine opW_go rfl fun K hK=>?_
         go_simp
         exact hK _ _ (KT.mk kR rfl 73 rfl rfl)
        refine allM_cons rfl (stepM_of [1] rfl fun W k'=>allV_some 73 rfl fun v0 h0=>allV_nil ?_) ?_
        ·obtain⟨w1,k1,rfl⟩:=h0
         refine opW_go rfl fun K hK=>?_
         go_simp
         exact hK _ _ (KT.mk kR rfl 74 rfl rfl)
        refine allM_cons rfl (stepM_of [2] rfl fun W k'=>allV_some 74 rfl fun v0 h0=>allV_nil ?_) ?_
        ·obtain⟨w1,k1,rfl⟩:=h0
         have q:=KD.trans k'
         have gR:∀ i,W.cell? ⟨R,i,none⟩=[Value.int .i64 fm.op,.string fm.name,.int .i64 fm.n,.int .i64 fm.ty.kind,.string fm.ty.name,.slice fp fn fc,.slice fa fq fr0,.int .i64 tu.op,.string tu.name,.int .i64 tu.n,.int .i64 tu.ty.kind,.string tu.ty.name,.slice up un uc,.slice ua uq uv,.map (some fB),.map (some tB),.int .i64 ((cnt+d0:Nat):Int)][i]?:=(S2.out.kept q).rp.cell
         refine opW_go rfl fun K hK=>?_
         go_simp
         exact hK _ _ (KT.mk kR rfl 75 rfl rfl)
        refine allM_cons rfl (stepM_of [] rfl fun W k'=>allV_nil ?_) ?_
        ·refine opW_go rfl fun K hK=>?_
         go_simp
         exact hK _ _ (KT.mk kR rfl 76 rfl rfl)
        refine allM_cons rfl (stepM_of [4] rfl fun W k'=>allV_some 76 rfl fun v0 h0=>allV_nil ?_) ?_
        ·obtain⟨w1,k1,rfl⟩:=h0
         have q:=KD.trans k'
         have gA:∀ i,W.cell? ⟨w.heap.size,i,none⟩=[Value.int .i64 op,.string nm,.int .i64 N,.int .i64 ty.kind,.string ty.name,.slice a an ac,.slice (some ⟨q1,o1,none⟩) 2 mc][i]?:=(S2.out.kept q).a.cell
         refine opW_go rfl fun K hK=>?_
         go_simp
         exact hK _ _ (KT.mk kR rfl 77 rfl rfl)
        refine allM_cons rfl (stepM_of [3,5] rfl fun W k'=>allV_some 75 rfl fun v0 h0=>allV_some 77 rfl fun v1 h1=>allV_nil ?_) ?_
        ·obtain⟨w1,k1,rfl⟩:=h0
         obtain⟨w2,k2,rfl⟩:=h1
         have q:=KD.trans k'
         have hl:=((HEK.out W (S2.out.kept q).kp).mt).look Tryz.underlying69 (z4 _) HYK.out.2.2.1
         rw[bagF_get,hmq] at hl
         refine opW_go rfl fun K hK=>?_
         go_simp
         exact hK _ _ (KT.mk kR rfl 78 rfl rfl)
        refine allM_cons rfl (stepM_of [6] rfl fun W k'=>allV_some 78 rfl fun v0 h0=>allV_nil ?_) ?_
        ·obtain⟨w1,k1,rfl⟩:=h0
         refine opW_go rfl fun K hK=>?_
         go_simp
         exact hK _ _ (KT.mk kR rfl 79 rfl rfl)
        refine allM_cons rfl (stepM_of [7] rfl fun W k'=>allV_some 79 rfl fun v0 h0=>allV_nil ?_) ?_
        ·obtain⟨w1,k1,rfl⟩:=h0
         refine opW_go rfl fun K hK=>?_
         go_simp
         exact hK _ _ (KT.mk kR rfl 80 rfl rfl)
        refine allM_cons rfl (stepM_of [7] rfl fun W k'=>allV_some 79 rfl fun v0 h0=>allV_nil ?_) ?_
        ·obtain⟨w1,k1,rfl⟩:=h0
         have q:=KD.trans k'
         have gY:∀ i,W.cell? ⟨Y,i,none⟩=[Value.int .i64 y.op,.string y.name,.int .i64 y.n,.int .i64 y.ty.kind,.string y.ty.name,.slice ta' tn' tc',.slice pa' pn' pc'][i]?:=(BY2.out.kept q (fun e=>e)).cell
         refine opW_go rfl fun K hK=>?_
         go_simp
         exact hK _ _ (KT.mk kR rfl 81 rfl rfl)
        refine allM_cons rfl (stepM_of [7] rfl fun W k'=>allV_some 79 rfl fun v0 h0=>allV_nil ?_) ?_
        ·obtain⟨w1,k1,rfl⟩:=h0
         refine opW_go rfl fun K hK=>?_
         go_simp
         exact hK _ _ (KT.mk kR rfl 82 rfl rfl)
        refine allM_tail rfl ?_
        refine allM_tail rfl ?_
        refine allM_tail rfl ?_
        exact allM_nil
       intro W kW
       have hh:(List.range 14).filter (fun i=>!([11,12,13]:List Nat).contains i)=[0,1,2,3,4,5,6,7,8,9,10]:=by decide
       change allV _ _ _ _ _ ((List.range 14).filter (fun i=>!([11,12,13]:List Nat).contains i)) _
       rw[hh]
       generalize hKK:(fun a1=>wpList Tryz.prog _ _ (pickT [11,12,13] 0 _) a1 W)=KK
       refine allV_some 72 (by kernel_rfl) ?_
       intro v0 h0
       refine allV_some 73 (by kernel_rfl) ?_
       intro v1 h1
       refine allV_some 74 (by kernel_rfl) ?_
       intro v2 h2
       refine allV_some 75 (by kernel_rfl) ?_
       intro v3 h3
       refine allV_some 76 (by kernel_rfl) ?_
       intro v4 h4
       refine allV_some 77 (by kernel_rfl) ?_
       intro v5 h5
       refine allV_some 78 (by kernel_rfl) ?_
       intro v6 h6
       refine allV_some 79 (by kernel_rfl) ?_
       intro v7 h7
       refine allV_some 80 (by kernel_rfl) ?_
       intro v8 h8
       refine allV_some 81 (by kernel_rfl) ?_
       intro v9 h9
       refine allV_some 82 (by kernel_rfl) ?_
       intro v10 h10
       refine allV_nil ?_
       obtain⟨w0,k0,rfl⟩:=h0
       obtain⟨w1,k1,rfl⟩:=h1
       obtain⟨w2,k2,rfl⟩:=h2
       obtain⟨w3,k3,rfl⟩:=h3
       obtain⟨w4,k4,rfl⟩:=h4
       obtain⟨w5,k5,rfl⟩:=h5
       obtain⟨w6,k6,rfl⟩:=h6
       obtain⟨w7,k7,rfl⟩:=h7
       obtain⟨w8,k8,rfl⟩:=h8
       obtain⟨w9,k9,rfl⟩:=h9
       obtain⟨w10,k10,rfl⟩:=h10
       subst hKK
       have SW:=Ld (S2.out.kept (KD.trans kW))
       have BYW:=Ld (BY2.out.kept (KD.trans kW) (fun e=>e))
       have HOW:=Ld (HOC.out W (KD.trans kW))
       clear kW hh KD HOC S2 BY2
       show wpList Tryz.prog _ _ [_,_,_] _ W
       simp only[Act.put,List.setIfInBounds_toArray,List.set_cons_succ,List.set_cons_zero]
       go_wp2_with fail
       refine HOW.out.mono ?_
       rintro e w8 ⟨rfl,k8,m8⟩
       have S8:=Ld (SW.out.stepB LB.out.2.2 k8 m8)
       have BY8:=Ld (BYW.out.kept k8 (fun e=>by have:=HY0.out;omega))
       clear k8 m8 HOW SW BYW
       go_wp2_with fail
       go_meet
       case rel=>exact⟨by rw[HGQ.out];rfl,S8.out,BY8.out⟩
     case rest=>
      obtain⟨rfl,hS3,hBY3⟩:=hcut
      have S3:=Ld hS3
      have BY3:=Ld hBY3
      clear hS3 hBY3 S2 BY2
      generalize wc=w3 at *
      obtain⟨f5,hb5,hf5⟩:=S3.out.bo
      have HF5:=Ld hf5
      have hlk:=hb5.look Tryz.underlying89 (z3 _) HYK.out.2.2.1
      rw[hf5 nm,show upC c nm nm=c nm+1 from if_pos rfl] at hlk
      have HW1:Hid (wrap64 (c nm:Int)=(c nm:Int)):=Ld (by have:=HCB.out nm;unfold wrap64;omega)
      have HB5:=Ld hb5
      have HLY:Hid (n+300000*tmN dd+1+2*tmN y<maxLen):=Ld (by have:=HLX.out;omega)
      have gA:∀ i,w3.cell? ⟨w.heap.size,i,none⟩=[Value.int .i64 op,.string nm,.int .i64 N,.int .i64 ty.kind,.string ty.name,.slice a an ac,.slice (some ⟨q1,o1,none⟩) 2 mc][i]?:=S3.out.a.cell
      clear hf5 hb5
      go_upto_region 17 with (at_mapUpdate;refine wpList_storeF rfl _ _ _ _ 3 rfl Tryz.underlying89 rfl HB5.out nm rfl HYK.out.2.2.1 HLY.out (.int .i64 (wrap64 (c nm:Int))) rfl ?_;intro w4 hm4 k4;clear gA hlk)
      rw[HW1.out] at hm4
      have HCE:Hid ((fun t=>if t=nm then c nm else upC c nm t)=c):=Ld (by funext t;unfold upC;by_cases ht:t=nm <;> simp[ht])
      have S4:Hid (WKY Y w b R X g (fun cnt:Nat=>rpCells fm tu (.slice fp fn fc) (.slice fa fq fr0) (.slice up un uc) (.slice ua uq uv) fB tB (cnt:Int)) [Value.int .i64 op,.string nm,.int .i64 N,.int .i64 ty.kind,.string ty.name,.slice a an ac,.slice (some ⟨q1,o1,none⟩) 2 mc] (fun z:ByteArray=>[Value.int .i64 op,.string z,.int .i64 N,.int .i64 ty.kind,.string ty.name,.slice va vn vc,.slice (some ⟨g,0,none⟩) 2 cg]) ty (.slice va vn vc) (n+300000*tmN dd+1+2*tmN y+1) c (cnt+d0) nm [r,y] w4):=Ld (S3.out.stepB LB.out.2.2 k4 ⟨_,hm4,by have h:=HF5.out.upd nm (c nm);rw[HCE.out] at h;exact h⟩)
      have BY4:=Ld (BY3.out.kept k4 (fun e=>by have:=HY0.out;omega))
      clear hm4 k4 HW1 HB5 HF5 S3 BY3 HCE
      go_upto_if 90 with (fail)
      go_cut [] (fun wd=>∃ z,WK w b R X g (fun cnt:Nat=>rpCells fm tu (.slice fp fn fc) (.slice fa fq fr0) (.slice up un uc) (.slice ua uq uv) fB tB (cnt:Int)) [Value.int .i64 op,.string nm,.int .i64 N,.int .i64 ty.kind,.string ty.name,.slice a an ac,.slice (some ⟨q1,o1,none⟩) 2 mc] (fun z:ByteArray=>[Value.int .i64 op,.string z,.int .i64 N,.int .i64 ty.kind,.string ty.name,.slice va vn vc,.slice (some ⟨g,0,none⟩) 2 cg]) ty (.slice va vn vc) (n+300000*tmN dd+1+2*tmN y+1) c (cnt+d0) z [r,y] wd∧∃ y' ya' yn yc ka' kn kc,Blk wd Y 27 [.int .i64 y'.op,.string y'.name,.int .i64 y'.n,.int .i64 y'.ty.kind,.string y'.ty.name,.slice ya' yn yc,.slice ka' kn kc]∧TyL (fun q=>q≠b∧q≠R) wd y'.ty.kids (.slice ya' yn yc)∧TmL (fun q=>q≠b∧q≠R) wd y'.kids (.slice ka' kn kc)∧Hid (OkTm y'∧tmN y'=tmN y∧tmD y'=tmD y∧identB z=true∧res=.mk op z N ty [r,wkT fm tu f (upC c z) y']∧d=d0+wkN fm (upC c z) y'))
      case first=>
       cases gv
       case false=>
        have HKE:=Ld (wk_keep (f:=f) (N:=N) (ty:=ty) hbi HYK.out.1 HQH.out HGV.out.symm)
        go_wp2_with fail
        go_meet
        case rel=>exact⟨nm,S4.out.toWK,y,_,_,_,_,_,_,BY4.out,(HYT.out _ S4.out.kp).mono (fun q _ hq=>HOK.out q hq),(HYM.out _ S4.out.kp).mono (fun q _ hq=>HOK.out q hq),Ld ⟨HYK.out.1,rfl,rfl,HYK.out.2.1,by rw[HRS.out,HRD.out.1];exact HKE.out.1,by rw[HDS.out,HRD.out.2];exact HKE.out.2⟩⟩
       case true=>
        have HNW:Hid _:=Ld (wk_new (f:=f) (N:=N) (ty:=ty) (HEK.out w kR).nw (HEK.out w kR).okt (HEK.out w kR).un.1 hbi HYK.out.1 (by have:=HND.out;have:=HYK.out;omega) HYK.out.2.1 HQH.out HGV.out.symm)
        obtain⟨zn,y',hzn,hy',hwn⟩:=HNW.out
        have HZN:Hid (∀ L,(∀ s,mb s L=fvAny [y,tu] s)→freshS nm L=zn):=Ld (fun L hL=>by rw[hzn];exact freshS_ext (fun s=>by rw[hL,fvAny_two]) nm)
        have HYE:=Ld hy'
        have HWN:=Ld hwn
        clear HNW hzn hy' hwn HGV
        have KD:Kept (fun _=>False) w4 (World.drew w4):=kR.drew
        have HTU:Hid (tmNs [y,tu]≤400000∧tmDs [y,tu]≤400000∧tmNs [y,tu]≤800000):=Ld (by have h1:=HND.out;have h2:=HYK.out;have h3:=(HEK.out w kR).un;simp only[tmNs,tmDs];omega)
        have KA:Hid (Kept (fun _=>False) w4 ((World.drew w4).alloc (.cells #[.int .i64 y.op,.string y.name,.int .i64 y.n,.int .i64 y.ty.kind,.string y.ty.name,.slice ta' tn' tc',.slice pa' pn' pc',.int .i64 tu.op,.string tu.name,.int .i64 tu.n,.int .i64 tu.ty.kind,.string tu.ty.name,.slice up un uc,.slice ua uq uv] 27))):=Ld (KD.alloc _)
        have HF86:=Ld (freeL_any (ts:=[y,tu]) (fun t ht=>by
         rcases List.mem_cons.1 ht with rfl | ht
         ·exact HYK.out.1
         ·rw[List.mem_singleton.1 ht];exact (HEK.out w kR).okt) (by simp) HTU.out.1 HTU.out.2.1 (tml_two (Blk.new (World.drew w4) 27 [Value.int .i64 y.op,.string y.name,.int .i64 y.n,.int .i64 y.ty.kind,.string y.ty.name,.slice ta' tn' tc',.slice pa' pn' pc',.int .i64 tu.op,.string tu.name,.int .i64 tu.n,.int .i64 tu.ty.kind,.string tu.ty.name,.slice up un uc,.slice ua uq uv]) (HYT.out _ (S4.out.kept KA.out).kp) (HYM.out _ (S4.out.kept KA.out).kp) (HEK.out _ (S4.out.kept KA.out).kp).u1 (HEK.out _ (S4.out.kept KA.out).kp).u2))
        have x1:w4.cell? ⟨Y,0,none⟩=some (.int .i64 y.op):=BY4.out.cell 0
        have x2:w4.cell? ⟨Y,1,none⟩=some (.string y.name):=BY4.out.cell 1
        have x3:w4.cell? ⟨Y,2,none⟩=some (.int .i64 y.n):=BY4.out.cell 2
        have x4:w4.cell? ⟨Y,3,none⟩=some (.int .i64 y.ty.kind):=BY4.out.cell 3
        have x5:w4.cell? ⟨Y,4,none⟩=some (.string y.ty.name):=BY4.out.cell 4
        have x6:w4.cell? ⟨Y,5,none⟩=some (.slice ta' tn' tc'):=BY4.out.cell 5
        have x7:w4.cell? ⟨Y,6,none⟩=some (.slice pa' pn' pc'):=BY4.out.cell 6
        have v1:w4.cell? ⟨R,7,none⟩=some (.int .i64 tu.op):=S4.out.rp.cell 7
        have v2:w4.cell? ⟨R,8,none⟩=some (.string tu.name):=S4.out.rp.cell 8
        have v3:w4.cell? ⟨R,9,none⟩=some (.int .i64 tu.n):=S4.out.rp.cell 9
        have v4:w4.cell? ⟨R,10,none⟩=some (.int .i64 tu.ty.kind):=S4.out.rp.cell 10
        have v5:w4.cell? ⟨R,11,none⟩=some (.string tu.ty.name):=S4.out.rp.cell 11
        have v6:w4.cell? ⟨R,12,none⟩=some (.slice up un uc):=S4.out.rp.cell 12
        have v7:w4.cell? ⟨R,13,none⟩=some (.slice ua uq uv):=S4.out.rp.cell 13
        go_upto_region 18 with (fail)
        go_cut [12] (fun v wd=>∃ p1,v=.map (some p1)∧MapF wd p1 (tmNs [y,tu]) (bagF (fvAny [y,tu]))∧WKY Y w b R X g (fun cnt:Nat=>rpCells fm tu (.slice fp fn fc) (.slice fa fq fr0) (.slice up un uc) (.slice ua uq uv) fB tB (cnt:Int)) [Value.int .i64 op,.string nm,.int .i64 N,.int .i64 ty.kind,.string ty.name,.slice a an ac,.slice (some ⟨q1,o1,none⟩) 2 mc] (fun z:ByteArray=>[Value.int .i64 op,.string z,.int .i64 N,.int .i64 ty.kind,.string ty.name,.slice va vn vc,.slice (some ⟨g,0,none⟩) 2 cg]) ty (.slice va vn vc) (n+300000*tmN dd+1+2*tmN y+1) c (cnt+d0) nm [r,y] wd∧Blk wd Y 27 [Value.int .i64 y.op,.string y.name,.int .i64 y.n,.int .i64 y.ty.kind,.string y.ty.name,.slice ta' tn' tc',.slice pa' pn' pc'])
        case first=>
         go_region_law (first
          | (go_simp;go_at_call 44;refine HF86.out.mono ?_;rintro e w10 ⟨p1,rfl,_,hm10,k10⟩;have M10:=Ld hm10;have K10:=Ld (KA.out.trans k10);clear hm10 k10))
         all_goals
          have S10:=Ld (S4.out.kept K10.out)
          have BY10:=Ld (BY4.out.kept K10.out (fun e=>e))
          clear x1 x2 x3 x4 x5 x6 x7 v1 v2 v3 v4 v5 v6 v7 KA HF86 KD K10 S4 BY4
          go_wp2_with fail
          go_meet
          case rel=>exact⟨_,rfl,M10.out,S10.out,BY10.out⟩
        case rest=>
         obtain⟨p1,rfl,hM10,hS10,hBY10⟩:=hcut
         have M10:=Ld hM10
         have S10:=Ld hS10
         have BY10:=Ld hBY10
         clear x1 x2 x3 x4 x5 x6 x7 v1 v2 v3 v4 v5 v6 v7 KA HF86 KD S4 BY4 hM10 hS10 hBY10
         generalize wc=w10 at *
         go_upto_region 19 with (fail)
         go_cut [] (fun wd=>WKY Y w b R X g (fun cnt:Nat=>rpCells fm tu (.slice fp fn fc) (.slice fa fq fr0) (.slice up un uc) (.slice ua uq uv) fB tB (cnt:Int)) [Value.int .i64 op,.string nm,.int .i64 N,.int .i64 ty.kind,.string ty.name,.slice a an ac,.slice (some ⟨q1,o1,none⟩) 2 mc] (fun z:ByteArray=>[Value.int .i64 op,.string z,.int .i64 N,.int .i64 ty.kind,.string ty.name,.slice va vn vc,.slice (some ⟨g,0,none⟩) 2 cg]) ty (.slice va vn vc) (n+300000*tmN dd+1+2*tmN y+1) c (cnt+d0) zn [r,y] wd∧Blk wd Y 27 [Value.int .i64 y.op,.string y.name,.int .i64 y.n,.int .i64 y.ty.kind,.string y.ty.name,.slice ta' tn' tc',.slice pa' pn' pc'])
         case first=>
          have xn:w10.cell? ⟨w.heap.size,1,none⟩=some (.string nm):=S10.out.a.cell 1
          have KD:Kept (fun _=>False) w10 (World.drew w10):=kR.drew
          go_region_law (first
           | (go_simp;go_at_call 43;refine (keys_box p1 _).mono ?_;rintro e w11 ⟨X1,rfl,hX1,hX2,k11⟩;have K11:=Ld (KD.trans k11);have HX1:=Ld hX1;have HX2:=Ld hX2;have M11:=Ld (M10.out.kept K11.out (fun e=>e));have xn11:w11.cell? ⟨w.heap.size,1,none⟩=some (.string nm):=(S10.out.kept K11.out).a.cell 1;clear k11 hX1 hX2)
           | (go_simp;go_at_call 88;refine (collect_any M11.out HTU.out.2.2 HX1.out HX2.out).mono ?_;rintro e w12 ⟨L,vL,rfl,hL,hLn,hR12⟩;obtain⟨La,Lc,hvL⟩:=hR12.nml.slice;subst hvL;have K12:=Ld (K11.out.trans hR12.kp);have HL:=Ld hL;have HLL:=Ld (show L.length≤800000 by have:=HTU.out.2.2;omega);have N12:=Ld hR12.nml;have xn12:w12.cell? ⟨w.heap.size,1,none⟩=some (.string nm):=(S10.out.kept K12.out).a.cell 1;clear hR12 hL hLn)
           | (go_simp;go_at_call 10;refine (fresh_any nm N12.out HLL.out (by have:=HYK.out.2.2.1;unfold maxLen at this;exact this) ((HEK.out w10 S10.out.kp).hp _ (K12.out.mono (fun _ _ e=>e.elim)))).mono ?_;rw[HZN.out L HL.out];rintro e w13 ⟨rfl,k13⟩;have K13:=Ld (K12.out.trans k13);have S13:=Ld (S10.out.kept K13.out);have gO13:∀ i,w13.cell? ⟨X,i,none⟩=[Value.int .i64 op,.string nm,.int .i64 N,.int .i64 ty.kind,.string ty.name,.slice va vn vc,.slice (some ⟨g,0,none⟩) 2 cg][i]?:=S13.out.o.cell;have fO13:=S13.out.o.frozen))
          all_goals
           have S14:=Ld (S13.out.name zn rfl)
           have BY14:=Ld (((BY10.out.kept K13.out (fun e=>e))).kept ((Kept.refl (fun q=>q=X) w13).setCell (p:=⟨X,1,none⟩) (Or.inl rfl) (.string zn)) (fun e=>by have:=HY0.out;omega))
           clear gO13 fO13 xn xn11 xn12 S13 K13 K12 K11 KD N12 HL HLL HX1 HX2 M10 M11 k13 HZN S10 BY10
           generalize w13.setCell ⟨X,1,none⟩ (.string zn)=w14 at *
           go_wp2_with fail
           go_meet
           case rel=>exact⟨S14.out,BY14.out⟩
         case rest=>
          obtain⟨hS14,hBY14⟩:=hcut
          have S14:=Ld hS14
          have BY14:=Ld hBY14
          clear hS14 hBY14 M10 HZN S10 BY10
          generalize wc=w14 at *
          have hmm:=@run_makeMap Tryz.prog
          have M15:=Ld (MapF.made w14)
          have K15:Hid (Kept (fun _=>False) w14 (w14.alloc (.map #[] 0))):=Ld (kR.alloc _)
          have gA:∀ i,(w14.alloc (.map #[] 0)).cell? ⟨w.heap.size,i,none⟩=[Value.int .i64 op,.string nm,.int .i64 N,.int .i64 ty.kind,.string ty.name,.slice a an ac,.slice (some ⟨q1,o1,none⟩) 2 mc][i]?:=(S14.out.kept K15.out).a.cell
          have gO:∀ i,(w14.alloc (.map #[] 0)).cell? ⟨X,i,none⟩=[Value.int .i64 op,.string zn,.int .i64 N,.int .i64 ty.kind,.string ty.name,.slice va vn vc,.slice (some ⟨g,0,none⟩) 2 cg][i]?:=(S14.out.kept K15.out).o.cell
          have HN0:Hid (0<maxLen):=Ld (by unfold maxLen;omega)
          go_wp2_with (refine wpList_insertF rfl _ _ _ _ _ rfl Tryz.underlying77 rfl M15.out nm rfl HYK.out.2.2.1 HN0.out (.agg #[.int .i64 20,.string zn,.int .i64 0,.int .i64 0,.string ⟨#[]⟩,.slice none 0 0,.slice none 0 0]) rfl ?_;intro w16 hm16 k16;clear gA gO;have K16:=Ld (K15.out.via1 k16 (fun x hx e=>by omega));have BY16:=Ld (BY14.out.kept K16.out (fun e=>e));have gY:∀ i,w16.cell? ⟨Y,i,none⟩=[Value.int .i64 y.op,.string y.name,.int .i64 y.n,.int .i64 y.ty.kind,.string y.ty.name,.slice ta' tn' tc',.slice pa' pn' pc'][i]?:=BY16.out.cell)
          have S16:=Ld (S14.out.kept K16.out)
          have HSB:=Ld (psub_any HYK.out.1 [(nm,nameT zn)] _ w16 ok (fun _=>False) _ _ _ _ (fun s=>rfl) (sg_one HWN.out.1) (HYT.out _ S16.out.kp) (HYM.out _ S16.out.kp) (prm_one hm16) ((HEK.out w16 S16.out.kp).hp _ kR) (by have:=HND.out;have:=HYK.out;omega) (by have:=HND.out;have:=HYK.out;omega))
          rw[← HYE.out] at HSB
          unfold PutP tmVal at HSB
          clear hm16 k16 hmm
          clear gY
          refine HSB.out.mono ?_
          rintro e w17 ⟨zk,zm,rfl,hzk,hzm,k17⟩
          obtain⟨zka,zkn,zkc,rfl⟩:=hzk.slice
          obtain⟨zma,zmn,zmc,rfl⟩:=hzm.slice
          have S17:=Ld (S16.out.kept k17)
          have BY17:=Ld (BY16.out.kept k17 (fun e=>e))
          have LY17:Hid (Y<w16.heap.size):=Ld BY16.out.lt
          have HZK:=Ld hzk
          have HZM:=Ld hzm
          have gY:∀ i,w17.cell? ⟨Y,i,none⟩=[Value.int .i64 y.op,.string y.name,.int .i64 y.n,.int .i64 y.ty.kind,.string y.ty.name,.slice ta' tn' tc',.slice pa' pn' pc'][i]?:=BY17.out.cell
          have fY:=BY17.out.frozen
          have lY:=BY17.out.lt
          clear hzk hzm k17 HSB S14 S16 BY14 BY16 K15 K16 M15
          go_wp2_with fail
          go_meet
          case rel=>exact⟨zn,S17.out.box k7g (by have:=HY0.out;omega),y',_,_,_,_,_,_,r7 BY17.out rfl,(HZK.out.frame (set7 (fun q hq e=>by have:=LY17.out;omega))).mono (fun q _ hq=>by have h1:=HY0.out;have h2:=LY17.out;omega),(HZM.out.frame (set7 (fun q hq e=>by have:=LY17.out;omega))).mono (fun q _ hq=>by have h1:=HY0.out;have h2:=LY17.out;omega),Ld ⟨HWN.out.2.1,HWN.out.2.2.1,HWN.out.2.2.2.1,HWN.out.1,by rw[HRS.out,HRD.out.1];exact HWN.out.2.2.2.2.1,by rw[HDS.out,HRD.out.2];exact HWN.out.2.2.2.2.2⟩⟩
      case rest=>
       obtain⟨z,hS5,y',yA,yn,yc,kA,kn,kc,hBY5,hyt,hym,hF⟩:=hcut
       have S5:=Ld hS5
       have BY5:=Ld hBY5
       have HT5:=Ld hyt
       have HM5:=Ld hym
       clear hS5 hBY5 hyt hym S4 BY4
       generalize wc=w5b at *
       have HZZ:Hid (z.size≤maxLen):=Ld (by have:=ident_sz hF.out.2.2.2.1;unfold maxLen;omega)
       obtain⟨f7,hb7,hf7⟩:=S5.out.bo
       have HF7:=Ld hf7
       have hlk:=hb7.look Tryz.underlying89 (z3 _) HZZ.out
       rw[hf7 z] at hlk
       have HW1:Hid (wrap64 ((c z:Int)+1)=((c z+1:Nat):Int)):=Ld (by have:=HCB.out z;unfold wrap64;omega)
       have HB7:=Ld hb7
       have HLZ:Hid (n+300000*tmN dd+1+2*tmN y+1<maxLen):=Ld (by have:=HLX.out;omega)
       have gO:∀ i,w5b.cell? ⟨X,i,none⟩=[Value.int .i64 op,.string z,.int .i64 N,.int .i64 ty.kind,.string ty.name,.slice va vn vc,.slice (some ⟨g,0,none⟩) 2 cg][i]?:=S5.out.o.cell
       clear hf7 hb7
       go_upto_region 22 with (at_mapUpdate;refine wpList_storeF rfl _ _ _ _ 3 rfl Tryz.underlying89 rfl HB7.out z rfl HZZ.out HLZ.out (.int .i64 (wrap64 ((c z:Int)+1))) rfl ?_;intro w6 hm6 k6;clear gO hlk)
       rw[HW1.out] at hm6
       have S6:Hid (WK w b R X g (fun cnt:Nat=>rpCells fm tu (.slice fp fn fc) (.slice fa fq fr0) (.slice up un uc) (.slice ua uq uv) fB tB (cnt:Int)) [Value.int .i64 op,.string nm,.int .i64 N,.int .i64 ty.kind,.string ty.name,.slice a an ac,.slice (some ⟨q1,o1,none⟩) 2 mc] (fun z:ByteArray=>[Value.int .i64 op,.string z,.int .i64 N,.int .i64 ty.kind,.string ty.name,.slice va vn vc,.slice (some ⟨g,0,none⟩) 2 cg]) ty (.slice va vn vc) (n+300000*tmN dd+1+2*tmN y+1+1) (upC c z) (cnt+d0) z [r,y] w6):=Ld (S5.out.stepB LB.out.2.2 k6 ⟨_,hm6,HF7.out.upd z (c z+1)⟩)
       have BY6:=Ld (BY5.out.kept k6 (fun e=>by have:=HY0.out;omega))
       have HT6:=Ld (HT5.out.frame (Same.of_kept k6 (fun q hq e=>hq.1 e)))
       have HM6:=Ld (HM5.out.frame (Same.of_kept k6 (fun q hq e=>hq.1 e)))
       clear hm6 k6 HW1 HB7 HF7 S5 BY5 HT5 HM5
       have KD:Kept (fun _=>False) w6 (World.drew w6):=kR.drew
       have SD:=Ld (S6.out.kept KD)
       have HCA:=Ld (IH y' fm tu (upC c z) (World.drew w6) (fun q=>q≠b∧q≠R) okf oku _ _ _ _ _ _ R fB tB b nf nt _ _ hF.out.1 (by have:=hF.out;have:=HYK.out;have:=HND.out;omega) (by have:=hF.out;have:=HYK.out;have:=HND.out;omega) (by have:=hF.out;have:=HYK.out;have:=HND.out;omega) (HT6.out.frame (sK KD)) (HM6.out.frame (sK KD)) (fun q h=>h) (HEK.out _ SD.out.kp) SD.out.rp SD.out.bo (by have:=hF.out;have:=HND.out;have:=HYK.out;omega) (fun s=>by have h5:=HCB.out s;have h6:=HCB.out z;have:=hF.out;simp only[tmDs] at h5 h6;unfold upC;split <;> omega) (by have:=HWD.out;have:=hF.out;have:=HND.out;have:=HYK.out;omega))
       unfold WkP tmVal at HCA
       have HFF:=Ld hF.out
       simp only[Act.put]
       obtain⟨r2,hr2⟩:∃ r2,r2=wkT fm tu f (upC c z) y':=⟨_,rfl⟩
       obtain⟨d2,hd2⟩:∃ d2,d2=wkN fm (upC c z) y':=⟨_,rfl⟩
       have HRS3:Hid (res=.mk op z N ty [r,r2]∧d=d0+d2):=Ld (by rw[hr2,hd2];exact hF.out.2.2.2.2)
       rw[← hr2,← hd2] at HCA
       clear hr2 hd2 HFF
       go_cut [] (fun wd=>WK w b R X g (fun cnt:Nat=>rpCells fm tu (.slice fp fn fc) (.slice fa fq fr0) (.slice up un uc) (.slice ua uq uv) fB tB (cnt:Int)) [Value.int .i64 op,.string nm,.int .i64 N,.int .i64 ty.kind,.string ty.name,.slice a an ac,.slice (some ⟨q1,o1,none⟩) 2 mc] (fun z:ByteArray=>[Value.int .i64 op,.string z,.int .i64 N,.int .i64 ty.kind,.string ty.name,.slice va vn vc,.slice (some ⟨g,0,none⟩) 2 cg]) ty (.slice va vn vc) (n+300000*tmN dd+1+2*tmN y+1+1+300000*tmN y') (upC c z) (cnt+d0+d2) z [r,r2] wd)
       case first=>
        have x0:w6.cell? ⟨X,6,none⟩=some (.slice (some ⟨g,0,none⟩) 2 cg):=S6.out.o.cell 6
        have x1:w6.cell? ⟨Y,0,none⟩=some (.int .i64 y'.op):=BY6.out.cell 0
        have x2:w6.cell? ⟨Y,1,none⟩=some (.string y'.name):=BY6.out.cell 1
        have x3:w6.cell? ⟨Y,2,none⟩=some (.int .i64 y'.n):=BY6.out.cell 2
        have x4:w6.cell? ⟨Y,3,none⟩=some (.int .i64 y'.ty.kind):=BY6.out.cell 3
        have x5:w6.cell? ⟨Y,4,none⟩=some (.string y'.ty.name):=BY6.out.cell 4
        have x6:w6.cell? ⟨Y,5,none⟩=some (.slice yA yn yc):=BY6.out.cell 5
        have x7:w6.cell? ⟨Y,6,none⟩=some (.slice kA kn kc):=BY6.out.cell 6
        have HLW:Hid (g<w6.heap.size∧X<w6.heap.size∧w.heap.size+2≤w6.heap.size):=Ld ⟨S6.out.row.lt,S6.out.o.lt,by have:=S6.out.ne;have:=S6.out.row.lt;omega⟩
        go_region_law (first
         | (go_simp;go_at_call 60;refine HCA.out.mono ?_;rintro e w8 ⟨zk,zm,rfl,hzk,hzm,k8,m8,r8⟩;obtain⟨zka,zkn,zkc,rfl⟩:=hzk.slice;obtain⟨zma,zmn,zmc,rfl⟩:=hzm.slice;have S8:=Ld (SD.out.step k8 m8 r8);have y0:w8.cell? ⟨X,6,none⟩=some (.slice (some ⟨g,0,none⟩) 2 cg):=S8.out.o.cell 6;have fg8:=S8.out.row.frozen;obtain⟨t0,th0⟩:=S8.out.row.there (i:=7) (by simp);obtain⟨t1,th1⟩:=S8.out.row.there (i:=8) (by simp);obtain⟨t2,th2⟩:=S8.out.row.there (i:=9) (by simp);obtain⟨t3,th3⟩:=S8.out.row.there (i:=10) (by simp);obtain⟨t4,th4⟩:=S8.out.row.there (i:=11) (by simp);obtain⟨t5,th5⟩:=S8.out.row.there (i:=12) (by simp);obtain⟨t6,th6⟩:=S8.out.row.there (i:=13) (by simp);have S9:=Ld (WK.put (j:=1) S8.out (by simp) (hzk.mono (fun q _ hq=>by have h5:w6.heap.size≤q:=hq;have:=HLW.out;omega)) (hzm.mono (fun q _ hq=>by have h5:w6.heap.size≤q:=hq;have:=HLW.out;omega)) (((((((w8.setCell ⟨g,7,none⟩ (.int .i64 r2.op)).setCell ⟨g,8,none⟩ (.string r2.name)).setCell ⟨g,9,none⟩ (.int .i64 r2.n)).setCell ⟨g,10,none⟩ (.int .i64 r2.ty.kind)).setCell ⟨g,11,none⟩ (.string r2.ty.name)).setCell ⟨g,12,none⟩ (.slice zka zkn zkc)).setCell ⟨g,13,none⟩ (.slice zma zmn zmc)) rfl);clear hzk hzm k8 m8 r8))
        all_goals
         clear x0 x1 x2 x3 x4 x5 x6 x7 y0 fg8 th0 th1 th2 th3 th4 th5 th6 S8 S6 KD HLW SD HCA
         go_wp2_with fail
         go_meet
         case rel=>exact S9.out
       case rest=>
        have S7:=Ld hcut
        clear hcut S6 SD HCA KD
        generalize wc=w7 at *
        obtain⟨f9,hb9,hf9⟩:=S7.out.bo
        have HF9:=Ld hf9
        have hlk:=hb9.look Tryz.underlying89 (z3 _) HZZ.out
        rw[hf9 z,show upC c z z=c z+1 from if_pos rfl] at hlk
        have HW1:Hid (wrap64 (c z:Int)=(c z:Int)):=Ld (by have:=HCB.out z;unfold wrap64;omega)
        have HB9:=Ld hb9
        have HLV:Hid (n+300000*tmN dd+1+2*tmN y+1+1+300000*tmN y'<maxLen):=Ld (by have:=HND.out;have:=HYK.out;have:=hF.out;unfold maxLen;omega)
        have gO:∀ i,w7.cell? ⟨X,i,none⟩=[Value.int .i64 op,.string z,.int .i64 N,.int .i64 ty.kind,.string ty.name,.slice va vn vc,.slice (some ⟨g,0,none⟩) 2 cg][i]?:=S7.out.o.cell
        clear hf9 hb9
        go_upto_region 24 with (at_mapUpdate;refine wpList_storeF rfl _ _ _ _ 3 rfl Tryz.underlying89 rfl HB9.out z rfl HZZ.out HLV.out (.int .i64 (wrap64 (c z:Int))) rfl ?_;intro w8 hm8 k8;clear gO hlk)
        rw[HW1.out] at hm8
        have HCE:Hid ((fun t=>if t=z then c z else upC c z t)=c):=Ld (by funext t;unfold upC;by_cases ht:t=z <;> simp[ht])
        have S8:Hid (WK w b R X g (fun cnt:Nat=>rpCells fm tu (.slice fp fn fc) (.slice fa fq fr0) (.slice up un uc) (.slice ua uq uv) fB tB (cnt:Int)) [Value.int .i64 op,.string nm,.int .i64 N,.int .i64 ty.kind,.string ty.name,.slice a an ac,.slice (some ⟨q1,o1,none⟩) 2 mc] (fun z:ByteArray=>[Value.int .i64 op,.string z,.int .i64 N,.int .i64 ty.kind,.string ty.name,.slice va vn vc,.slice (some ⟨g,0,none⟩) 2 cg]) ty (.slice va vn vc) (n+300000*tmN dd+1+2*tmN y+1+1+300000*tmN y'+1) c (cnt+d0+d2) z [r,r2] w8):=Ld (S7.out.stepB LB.out.2.2 k8 ⟨_,hm8,by have h:=HF9.out.upd z (c z);rw[HCE.out] at h;exact h⟩)
        clear hm8 k8 HW1 HB9 HF9 S7 HCE
        have gO:∀ i,w8.cell? ⟨X,i,none⟩=[Value.int .i64 op,.string z,.int .i64 N,.int .i64 ty.kind,.string ty.name,.slice va vn vc,.slice (some ⟨g,0,none⟩) 2 cg][i]?:=S8.out.o.cell
        have gR:∀ i,w8.cell? ⟨w.heap.size+1,i,none⟩=[Value.int .i64 0,.string ⟨#[]⟩,.int .i64 0,.int .i64 0,.string ⟨#[]⟩,.slice none 0 0,.slice none 0 0][i]?:=S8.out.r.cell
        have fR:=S8.out.r.frozen
        have lR:=S8.out.r.lt
        have HNN:Hid (n+300000*tmN dd+1+2*tmN y+1+1+300000*tmN y'+1≤n+300000*tmN (.mk op nm N ty [dd,y])):=Ld (by have:=HND.out;have:=HYK.out;have:=hF.out;omega)
        go_wp2_with fail
        have D:=fun (x0 x1 x2 x3 x4 x5 x6:Value)=>S8.out.done rfl HCG.out (x0:=x0) (x1:=x1) (x2:=x2) (x3:=x3) (x4:=x4) (x5:=x5) (x6:=x6) (i0:=0) (i1:=1) (i2:=2) (i3:=3) (i4:=4) (i5:=5) (i6:=6)
        exact bodyPost_ret (results_one Tryz.results60 rfl (load_tm (t:=.mk op z N ty [r,r2]) (r7 S8.out.r rfl))) rfl ⟨_,_,by rw[HRS3.out.1],by rw[HRS3.out.1];exact (D _ _ _ _ _ _ _).1,by rw[HRS3.out.1];exact (D _ _ _ _ _ _ _).2.1,(D _ _ _ _ _ _ _).2.2.1,(by obtain⟨f0,hb1,hb2⟩:=(D _ _ _ _ _ _ _).2.2.2.1;exact⟨f0,hb1.mono HNN.out,hb2⟩),by rw[HRS3.out.2,← Nat.add_assoc];exact (D _ _ _ _ _ _ _).2.2.2.2⟩
theorem wk_any:∀ f,WkC f:=by
 intro f
 induction f with
 | zero=>
  intro t fm tu c w ok okf oku tk kk fk fkk uk ukk R fB tB b nf nt n cnt hokt hD
  obtain⟨op,nm,N,ty,ks⟩:=t
  rw[tmD] at hD
  omega
 | succ f ih=>exact wk_one ih
end Go.Proofs.YtdmebjbkccjhbaaGreatDoor
