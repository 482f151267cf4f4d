/- A part. -/
import Derived.Test.YtfhedienjnfdcaaGreatDoorM15
set_option linter.unusedVariables false
set_option linter.unusedSimpArgs false
set_option maxRecDepth 100000
set_option maxHeartbeats 32000000
namespace Go.Proofs.YtfhedienjnfdcaaGreatDoor
open Go.RowKit
theorem occK_drop {fm:Tm} {names:List ByteArray} {bi:Bool} {nm:ByteArray} {ks:List Tm} {k:Nat} (h:k<ks.length):occK fm names bi nm k (ks.drop k)=((if bi&&k==1&&mb nm names then false else occT fm names ks[k])||occK fm names bi nm (k+1) (ks.drop (k+1))):=by
 rw[List.drop_eq_getElem_cons h,occK]
theorem cntK_drop {fm:Tm} {names:List ByteArray} {bi:Bool} {nm:ByteArray} {ks:List Tm} {k:Nat} (h:k<ks.length):cntK fm names bi nm k (ks.drop k)=(if bi&&k==1&&mb nm names then 0 else cntT fm names ks[k])+cntK fm names bi nm (k+1) (ks.drop (k+1)):=by
 rw[List.drop_eq_getElem_cons h,cntK]
mutual
theorem rocT_le (fm:Tm) (names:List ByteArray):∀ (t:Tm),cntT fm names t≤tmN t
 | .mk op nm N ty ks=>by
  rw[cntT,tmN]
  have:=rocK_le fm names (binderB op) nm 0 ks
  split <;> omega
theorem rocK_le (fm:Tm) (names:List ByteArray) (bi:Bool) (nm:ByteArray):∀ (i:Nat) (ks:List Tm),cntK fm names bi nm i ks≤tmNs ks
 | _,[]=>Nat.zero_le _
 | i,t::r=>by
  rw[cntK,tmNs]
  have h1:=rocT_le fm names t
  have h2:=rocK_le fm names bi nm (i+1) r
  split <;> omega
end
structure Rc2 (w:World) (ce cf:List Value) (W:World):Prop where
 kp:Kept (fun _=>False) w W
 a:Blk W w.heap.size 28 ce
 f:Blk W (w.heap.size+1) 28 cf
theorem Rc2.kept {w W W':World} {ce cf:List Value} (h:Rc2 w ce cf W) (q:Kept (fun _=>False) W W'):Rc2 w ce cf W':=⟨h.kp.trans q,h.a.kept q (fun e=>e),h.f.kept q (fun e=>e)⟩
def OcC (t:Tm):Prop:=∀ (fm:Tm) (names:List ByteArray) (w:World) (ok okf okB:Nat→Prop) (tk kk fk fkk v:Value),TyL ok w t.ty.kids tk→TmL ok w t.kids kk→TyL okf w fm.ty.kids fk→TmL okf w fm.kids fkk→NmL okB w names v→names.length≤1000000→tmD t≤900000→tmN t≤700000 →
 Calls Tryz.prog 144 #[tmVal t tk kk,tmVal fm fk fkk,v] w fun e w'=>e=.returned (.bool (occT fm names t))∧Kept (fun _=>False) w w'
theorem roc_one {op:Int} {nm:ByteArray} {N:Int} {ty:Ty} {ks:List Tm} (hb:BdTm (.mk op nm N ty ks)) (IH:∀ u,u∈ks→OcC u) (hkn:ks.length≤1000000):OcC (.mk op nm N ty ks):=by
 intro fm names w ok okf okB tk kk fk fkk v h1 h2 h3 h4 hN hnl hd hz
 have h1:TyL ok w ty.kids tk:=h1
 have h2:TmL ok w ks kk:=h2
 obtain⟨a,an,ac,rfl⟩:=h1.slice
 obtain⟨ma,mn,mc,rfl⟩:=h2.slice
 obtain⟨p,n,c,rfl⟩:=h3.slice
 obtain⟨pa,pn,pc,rfl⟩:=h4.slice
 obtain⟨va,vc,rfl⟩:=hN.slice
 obtain rfl:mn=ks.length:=h2.len
 have HAL:=Ld (fun W (k:Kept (fun _=>False) w W)=>ralike_any hb fm [] [] W ok okf (fun _=>False) (fun _=>False) _ _ _ _ (.slice none 0 0) (.slice none 0 0) (h1.frame (sK k)) (h2.frame (sK k)) (h3.frame (sK k)) (h4.frame (sK k)) NmL.nil NmL.nil (by simp only[List.length_nil];omega) (by simp only[List.length_nil];omega))
 have HIN:=Ld (fun W (k:Kept (fun _=>False) w W)=>rinN_any nm (hN.frame (sK k)) (by omega))
 rw[tmD] at hd
 rw[tmN] at hz
 have HAT:=Ld (fun W (k:Kept (fun _=>False) w W)=>(h2.frame (sK k)).at)
 have HIH:=Ld (fun (u:Tm) (hu:u∈ks) (tk' kk':Value) (ok3:Nat→Prop) W (k:Kept (fun _=>False) w W) (h5:TyL ok3 W u.ty.kids tk') (h6:TmL ok3 W u.kids kk')=>IH u hu fm names W ok3 okf okB tk' kk' _ _ _ h5 h6 (h3.frame (sK k)) (h4.frame (sK k)) (hN.frame (sK k)) hnl (by have:=tmDs_mem hu;omega) (by have:=(tmD_kid hu).2;omega))
 unfold tmVal at HIH HAL ⊢
 have HZ:=Ld (⟨hz,hkn⟩:_∧_)
 have B0:Hid (Rc2 w [Value.int .i64 op,.string nm,.int .i64 N,.int .i64 ty.kind,.string ty.name,.slice a an ac,.slice ma ks.length mc] [Value.int .i64 fm.op,.string fm.name,.int .i64 fm.n,.int .i64 fm.ty.kind,.string fm.ty.name,.slice p n c,.slice pa pn pc] ((w.alloc (.cells #[.int .i64 op,.string nm,.int .i64 N,.int .i64 ty.kind,.string ty.name,.slice a an ac,.slice ma ks.length mc] 28)).alloc (.cells #[.int .i64 fm.op,.string fm.name,.int .i64 fm.n,.int .i64 fm.ty.kind,.string fm.ty.name,.slice p n c,.slice pa pn pc] 28))):=Ld
  ⟨(kR.alloc _).alloc _,(Blk.new w 28 [Value.int .i64 op,.string nm,.int .i64 N,.int .i64 ty.kind,.string ty.name,.slice a an ac,.slice ma ks.length mc]).alloc _,Blk.new' 28 _ (by simp)⟩
 clear h1 h2 h3 h4 hN hnl hd hz hb IH hkn
 have HR:Hid (occT fm names (.mk op nm N ty ks)=if alikeT (.mk op nm N ty ks) fm [] [] then true else occK fm names (binderB op) nm 0 ks):=Ld (by
  rw[occT];cases alikeT (.mk op nm N ty ks) fm [] [] <;> rfl)
 generalize occT fm names (.mk op nm N ty ks)=r at *
 generalize alikeT (.mk op nm N ty ks) fm [] []=al at *
 change Calls Tryz.prog 144 #[.agg #[.int .i64 op,.string nm,.int .i64 N,.int .i64 ty.kind,.string ty.name,.slice a an ac,.slice ma ks.length mc],.agg #[.int .i64 fm.op,.string fm.name,.int .i64 fm.n,.int .i64 fm.ty.kind,.string fm.ty.name,.slice p n c,.slice pa pn pc],.slice va names.length vc] w _
 go_enter Tryz.func144,Tryz.ntmps144
 go_upto_region 1 with (fail)
 generalize ((w.alloc (.cells #[.int .i64 op,.string nm,.int .i64 N,.int .i64 ty.kind,.string ty.name,.slice a an ac,.slice ma ks.length mc] 28)).alloc (.cells #[.int .i64 fm.op,.string fm.name,.int .i64 fm.n,.int .i64 fm.ty.kind,.string fm.ty.name,.slice p n c,.slice pa pn pc] 28))=w1 at *
 have gA:=B0.out.a.cell
 have gF:∀ i,w1.cell? ⟨w.heap.size+1,i,none⟩=[Value.int .i64 fm.op,.string fm.name,.int .i64 fm.n,.int .i64 fm.ty.kind,.string fm.ty.name,.slice p n c,.slice pa pn pc][i]?:=B0.out.f.cell
 go_wp2_with fail
 refine (HAL.out w1 B0.out.kp).mono ?_
 rintro e w2 ⟨rfl,k2⟩
 have B2:=Ld (B0.out.kept k2)
 clear k2 B0 gA gF HAL
 cases al
 ·have HR2:Hid (r=occK fm names (binderB op) nm 0 ks):=Ld (by rw[HR.out];rfl)
  clear HR
  go_wp2_with fail
  go_loopw [7] (fun i wr=>∃ k:Nat,k≤ks.length∧i=.int .i64 k∧Hid (Rc2 w [Value.int .i64 op,.string nm,.int .i64 N,.int .i64 ty.kind,.string ty.name,.slice a an ac,.slice ma ks.length mc] [Value.int .i64 fm.op,.string fm.name,.int .i64 fm.n,.int .i64 fm.ty.kind,.string fm.ty.name,.slice p n c,.slice pa pn pc] wr∧r=occK fm names (binderB op) nm k (ks.drop k))) (fun i _=>ks.length-(intOf i).toNat)
  case atStart=>exact⟨0,Nat.zero_le _,rfl,Ld ⟨B2.out,HR2.out⟩⟩
  case round=>
   obtain⟨k,hkl,rfl,hq⟩:=hrel
   clear B2 HR2
   have gA:=hq.out.1.a.cell
   by_cases hlt:k<ks.length
   ·have i1:(k:Int)<(ks.length:Int):=by omega
    have i2:(k:Int)<1000000:=by have:=HZ.out.2;omega
    have HD2:=Ld (occK_drop (fm:=fm) (names:=names) (bi:=binderB op) (nm:=nm) hlt)
    go_wp2_with fail
    refine (rbinder_t (op:=op) rfl _).mono ?_
    rintro e w4 ⟨rfl,rfl⟩
    cases hbi:binderB op
    ·have HBI:Hid ((binderB op&&k==1&&mb nm names)=false):=Ld (by rw[hbi];rfl)
     have HBB:=Ld hbi
     clear hbi
     obtain⟨g,off,ta,tn,tc,qa,qn,qc,rfl,_,lg,⟨c0,c1,c2,c3,c4,c5,c6⟩,hty,htm⟩:=HAT.out wr hq.out.1.kp k hlt
     have HKF:=Ld (fun W (kW:Kept (fun _=>False) wr W)=>HIH.out _ (List.getElem_mem hlt) _ _ _ W (hq.out.1.kp.trans kW) (hty.frame (sK kW)) (htm.frame (sK kW)))
     have HC:=Ld (fun W (kW:Kept (fun _=>False) wr W)=>C7.kept ⟨c0,c1,c2,c3,c4,c5,c6⟩ kW (fun h=>h))
     clear hty htm c0 c1 c2 c3 c4 c5 c6 lg gA
     go_upto_region 7 with (fail)
     have KD:Kept (fun _=>False) wr wr.drew:=kR.drew
     refine wp_region_mono (L:=Kept (fun _=>False)) (fun i v W=>match i with
      | 0=>v=.pointer (some ⟨w.heap.size,6,none⟩)
      | 1=>v=.slice (some ⟨g,off,none⟩) ks.length mc
      | 2=>v=.int .i64 k
      | 3=>v=.pointer (some ⟨g,off+k*7,none⟩)
      | 4=>v=.agg #[.int .i64 ks[k].op,.string ks[k].name,.int .i64 ks[k].n,.int .i64 ks[k].ty.kind,.string ks[k].ty.name,.slice ta tn tc,.slice qa qn qc]
      | 5=>v=.agg #[.int .i64 fm.op,.string fm.name,.int .i64 fm.n,.int .i64 fm.ty.kind,.string fm.ty.name,.slice p n c,.slice pa pn pc]
      | 6=>v=.slice va names.length vc
      | 7=>v=.bool (occT fm names ks[k])
      | _=>True) [] [] 39 (by kernel_rfl) rfl (by kernel_rfl) (by kernel_rfl) (fun w=>Kept.refl _ w) (fun _ _ _ h1 h2=>h1.trans h2) (fun c d v a w h=>by cases d <;> exact h) ?_ ?_
     ·refine allM_cons rfl (stepM_of [] rfl fun W k'=>allV_nil ?_) ?_
      ·refine opW_go rfl fun K hK=>?_
       go_simp
       exact hK _ _ (KT.mk kR rfl 31 rfl rfl)
      refine allM_cons rfl (stepM_of [0] rfl fun W k'=>allV_some 31 rfl fun v0 h0=>allV_nil ?_) ?_
      ·obtain⟨w1,k1,rfl⟩:=h0
       have q:=KD.trans k'
       have gA:=(hq.out.1.a.kept q (fun h=>h)).cell
       refine opW_go rfl fun K hK=>?_
       go_simp
       exact hK _ _ (KT.mk kR rfl 32 rfl rfl)
      refine allM_cons rfl (stepM_of [] rfl fun W k'=>allV_nil ?_) ?_
      ·refine opW_go rfl fun K hK=>?_
       go_simp
       exact hK _ _ (KT.mk kR rfl 33 rfl rfl)
      refine allM_cons rfl (stepM_of [1,2] rfl fun W k'=>allV_some 32 rfl fun v0 h0=>allV_some 33 rfl fun v1 h1=>allV_nil ?_) ?_
      ·obtain⟨w1,k1,rfl⟩:=h0
       obtain⟨w2,k2,rfl⟩:=h1
       refine opW_go rfl fun K hK=>?_
       go_simp
       exact hK _ _ (KT.mk kR rfl 34 rfl rfl)
      refine allM_cons rfl (stepM_of [3] rfl fun W k'=>allV_some 34 rfl fun v0 h0=>allV_nil ?_) ?_
      ·obtain⟨w1,k1,rfl⟩:=h0
       have q:=KD.trans k'
       obtain⟨c0,c1,c2,c3,c4,c5,c6⟩:=HC.out W q
       refine opW_go rfl fun K hK=>?_
       go_simp
       exact hK _ _ (KT.mk kR rfl 35 rfl rfl)
      refine allM_cons rfl (stepM_of [] rfl fun W k'=>allV_nil ?_) ?_
      ·have q:=KD.trans k'
       have gF:∀ i,W.cell? ⟨w.heap.size+1,i,none⟩=[Value.int .i64 fm.op,.string fm.name,.int .i64 fm.n,.int .i64 fm.ty.kind,.string fm.ty.name,.slice p n c,.slice pa pn pc][i]?:=(hq.out.1.f.kept q (fun h=>h)).cell
       refine opW_go rfl fun K hK=>?_
       go_simp
       exact hK _ _ (KT.mk kR rfl 36 rfl rfl)
      refine allM_cons rfl (stepM_of [] rfl fun W k'=>allV_nil ?_) ?_
      ·refine opW_go rfl fun K hK=>?_
       go_simp
       exact hK _ _ (KT.mk kR rfl 37 rfl rfl)
      refine allM_cons rfl (stepM_of [4,5,6] rfl fun W k'=>allV_some 35 rfl fun v0 h0=>allV_some 36 rfl fun v1 h1=>allV_some 37 rfl fun v2 h2=>allV_nil ?_) ?_
      ·obtain⟨w1,k1,rfl⟩:=h0
       obtain⟨w2,k2,rfl⟩:=h1
       obtain⟨w3,k3,rfl⟩:=h2
       refine opW_go rfl fun K hK=>?_
       go_simp
       go_at_call 144
       refine (HKF.out W (KD.trans k')).mono ?_
       rintro e w' ⟨rfl,k4⟩
       exact hK _ _ (KT.mk k4 rfl 38 rfl rfl)
      exact allM_nil
     ·intro W kW
      have hh:(List.range 8).filter (fun i=>!([]:List Nat).contains i)=[0,1,2,3,4,5,6,7]:=by decide
      change allV _ _ _ _ _ ((List.range 8).filter (fun i=>!([]:List Nat).contains i)) _
      rw[hh]
      refine allV_some 31 rfl fun v0 h0=>allV_some 32 rfl fun v1 h1=>allV_some 33 rfl fun v2 h2=>allV_some 34 rfl fun v3 h3=>allV_some 35 rfl fun v4 h4=>allV_some 36 rfl fun v5 h5=>allV_some 37 rfl fun v6 h6=>allV_some 38 rfl fun v7 h7=>allV_nil ?_
      obtain⟨w0,k0,rfl⟩:=h0
      obtain⟨w1,k1,rfl⟩:=h1
      obtain⟨w2,k2,rfl⟩:=h2
      obtain⟨w3,k3,rfl⟩:=h3
      obtain⟨w4,k4,rfl⟩:=h4
      obtain⟨w5,k5,rfl⟩:=h5
      obtain⟨w6,k6,rfl⟩:=h6
      obtain⟨w7,k7,rfl⟩:=h7
      have B5:=Ld (hq.out.1.kept (KD.trans kW))
      clear HC HKF
      clear k0
      clear k1
      clear k2
      clear k3
      clear k4
      clear k5
      clear k6
      clear k7
      generalize hoc:occT fm names ks[k]=oc at *
      have HEQ:Hid (r=(oc||occK fm names (binderB op) nm (k+1) (ks.drop (k+1)))):=Ld (by rw[hq.out.2,HD2.out,if_neg (by rw[HBI.out];exact Bool.false_ne_true)])
      clear hoc hq HD2 kW hh
      refine wpList_nil ?_
      simp only[Act.put,List.setIfInBounds_toArray,List.set_cons_succ,List.set_cons_zero]
      cases oc
      ·go_wp2_with fail
       go_roundw
       case rel=>exact⟨k+1,by omega,by go_num,Ld ⟨B5.out,by rw[HEQ.out];rfl⟩⟩
       case measure=>simp[intOf];omega
      ·have HE:Hid (r=true):=Ld (by rw[HEQ.out];rfl)
       go_wp2_with fail
       go_ret
       exact⟨by rw[HE.out];rfl,B5.out.kp⟩
    ·cases hk1:((k:Int)==1)
     ·have HBI:Hid ((binderB op&&k==1&&mb nm names)=false):=Ld (by
       have:(k==1)=false:=by simp at hk1;simp;omega
       rw[this];simp)
      clear hbi
      obtain⟨g,off,ta,tn,tc,qa,qn,qc,rfl,_,lg,⟨c0,c1,c2,c3,c4,c5,c6⟩,hty,htm⟩:=HAT.out wr hq.out.1.kp k hlt
      have HKF:=Ld (fun W (kW:Kept (fun _=>False) wr W)=>HIH.out _ (List.getElem_mem hlt) _ _ _ W (hq.out.1.kp.trans kW) (hty.frame (sK kW)) (htm.frame (sK kW)))
      have HC:=Ld (fun W (kW:Kept (fun _=>False) wr W)=>C7.kept ⟨c0,c1,c2,c3,c4,c5,c6⟩ kW (fun h=>h))
      clear hty htm c0 c1 c2 c3 c4 c5 c6 lg gA
      go_upto_region 7 with (fail)
      have KD:Kept (fun _=>False) wr wr.drew:=kR.drew
      refine wp_region_mono (L:=Kept (fun _=>False)) (fun i v W=>match i with
       | 0=>v=.pointer (some ⟨w.heap.size,6,none⟩)
       | 1=>v=.slice (some ⟨g,off,none⟩) ks.length mc
       | 2=>v=.int .i64 k
       | 3=>v=.pointer (some ⟨g,off+k*7,none⟩)
       | 4=>v=.agg #[.int .i64 ks[k].op,.string ks[k].name,.int .i64 ks[k].n,.int .i64 ks[k].ty.kind,.string ks[k].ty.name,.slice ta tn tc,.slice qa qn qc]
       | 5=>v=.agg #[.int .i64 fm.op,.string fm.name,.int .i64 fm.n,.int .i64 fm.ty.kind,.string fm.ty.name,.slice p n c,.slice pa pn pc]
       | 6=>v=.slice va names.length vc
       | 7=>v=.bool (occT fm names ks[k])
       | _=>True) [] [] 39 (by kernel_rfl) rfl (by kernel_rfl) (by kernel_rfl) (fun w=>Kept.refl _ w) (fun _ _ _ h1 h2=>h1.trans h2) (fun c d v a w h=>by cases d <;> exact h) ?_ ?_
      ·refine allM_cons rfl (stepM_of [] rfl fun W k'=>allV_nil ?_) ?_
       ·refine opW_go rfl fun K hK=>?_
        go_simp
        exact hK _ _ (KT.mk kR rfl 31 rfl rfl)
       refine allM_cons rfl (stepM_of [0] rfl fun W k'=>allV_some 31 rfl fun v0 h0=>allV_nil ?_) ?_
       ·obtain⟨w1,k1,rfl⟩:=h0
        have q:=KD.trans k'
        have gA:=(hq.out.1.a.kept q (fun h=>h)).cell
        refine opW_go rfl fun K hK=>?_
        go_simp
        exact hK _ _ (KT.mk kR rfl 32 rfl rfl)
       refine allM_cons rfl (stepM_of [] rfl fun W k'=>allV_nil ?_) ?_
       ·refine opW_go rfl fun K hK=>?_
        go_simp
        exact hK _ _ (KT.mk kR rfl 33 rfl rfl)
       refine allM_cons rfl (stepM_of [1,2] rfl fun W k'=>allV_some 32 rfl fun v0 h0=>allV_some 33 rfl fun v1 h1=>allV_nil ?_) ?_
       ·obtain⟨w1,k1,rfl⟩:=h0
        obtain⟨w2,k2,rfl⟩:=h1
        refine opW_go rfl fun K hK=>?_
        go_simp
        exact hK _ _ (KT.mk kR rfl 34 rfl rfl)
       refine allM_cons rfl (stepM_of [3] rfl fun W k'=>allV_some 34 rfl fun v0 h0=>allV_nil ?_) ?_
       ·obtain⟨w1,k1,rfl⟩:=h0
        have q:=KD.trans k'
        obtain⟨c0,c1,c2,c3,c4,c5,c6⟩:=HC.out W q
        refine opW_go rfl fun K hK=>?_
        go_simp
        exact hK _ _ (KT.mk kR rfl 35 rfl rfl)
       refine allM_cons rfl (stepM_of [] rfl fun W k'=>allV_nil ?_) ?_
       ·have q:=KD.trans k'
        have gF:∀ i,W.cell? ⟨w.heap.size+1,i,none⟩=[Value.int .i64 fm.op,.string fm.name,.int .i64 fm.n,.int .i64 fm.ty.kind,.string fm.ty.name,.slice p n c,.slice pa pn pc][i]?:=(hq.out.1.f.kept q (fun h=>h)).cell
        refine opW_go rfl fun K hK=>?_
        go_simp
        exact hK _ _ (KT.mk kR rfl 36 rfl rfl)
       refine allM_cons rfl (stepM_of [] rfl fun W k'=>allV_nil ?_) ?_
       ·refine opW_go rfl fun K hK=>?_
        go_simp
        exact hK _ _ (KT.mk kR rfl 37 rfl rfl)
       refine allM_cons rfl (stepM_of [4,5,6] rfl fun W k'=>allV_some 35 rfl fun v0 h0=>allV_some 36 rfl fun v1 h1=>allV_some 37 rfl fun v2 h2=>allV_nil ?_) ?_
       ·obtain⟨w1,k1,rfl⟩:=h0
        obtain⟨w2,k2,rfl⟩:=h1
        obtain⟨w3,k3,rfl⟩:=h2
        refine opW_go rfl fun K hK=>?_
        go_simp
        go_at_call 144
        refine (HKF.out W (KD.trans k')).mono ?_
        rintro e w' ⟨rfl,k4⟩
        exact hK _ _ (KT.mk k4 rfl 38 rfl rfl)
       exact allM_nil
      ·intro W kW
       have hh:(List.range 8).filter (fun i=>!([]:List Nat).contains i)=[0,1,2,3,4,5,6,7]:=by decide
       change allV _ _ _ _ _ ((List.range 8).filter (fun i=>!([]:List Nat).contains i)) _
       rw[hh]
       refine allV_some 31 rfl fun v0 h0=>allV_some 32 rfl fun v1 h1=>allV_some 33 rfl fun v2 h2=>allV_some 34 rfl fun v3 h3=>allV_some 35 rfl fun v4 h4=>allV_some 36 rfl fun v5 h5=>allV_some 37 rfl fun v6 h6=>allV_some 38 rfl fun v7 h7=>allV_nil ?_
       obtain⟨w0,k0,rfl⟩:=h0
       obtain⟨w1,k1,rfl⟩:=h1
       obtain⟨w2,k2,rfl⟩:=h2
       obtain⟨w3,k3,rfl⟩:=h3
       obtain⟨w4,k4,rfl⟩:=h4
       obtain⟨w5,k5,rfl⟩:=h5
       obtain⟨w6,k6,rfl⟩:=h6
       obtain⟨w7,k7,rfl⟩:=h7
       have B5:=Ld (hq.out.1.kept (KD.trans kW))
       clear HC HKF
       clear k0
       clear k1
       clear k2
       clear k3
       clear k4
       clear k5
       clear k6
       clear k7
       generalize hoc:occT fm names ks[k]=oc at *
       have HEQ:Hid (r=(oc||occK fm names (binderB op) nm (k+1) (ks.drop (k+1)))):=Ld (by rw[hq.out.2,HD2.out,if_neg (by rw[HBI.out];exact Bool.false_ne_true)])
       clear hoc hq HD2 kW hh
       refine wpList_nil ?_
       simp only[Act.put,List.setIfInBounds_toArray,List.set_cons_succ,List.set_cons_zero]
       cases oc
       ·go_wp2_with fail
        go_roundw
        case rel=>exact⟨k+1,by omega,by go_num,Ld ⟨B5.out,by rw[HEQ.out];rfl⟩⟩
        case measure=>simp[intOf];omega
       ·have HE:Hid (r=true):=Ld (by rw[HEQ.out];rfl)
        go_wp2_with fail
        go_ret
        exact⟨by rw[HE.out];rfl,B5.out.kp⟩
     ·have HK1:Hid ((binderB op&&k==1)=true):=Ld (by
       have:(k==1)=true:=by simp at hk1;simp;omega
       rw[this,hbi];rfl)
      clear hbi
      go_wp2_with fail
      refine (HIN.out wr hq.out.1.kp).mono ?_
      rintro e w5 ⟨rfl,rfl⟩
      cases hmb:mb nm names
      ·have HBI:Hid ((binderB op&&k==1&&mb nm names)=false):=Ld (by rw[hmb];simp)
       clear hmb
       obtain⟨g,off,ta,tn,tc,qa,qn,qc,rfl,_,lg,⟨c0,c1,c2,c3,c4,c5,c6⟩,hty,htm⟩:=HAT.out wr hq.out.1.kp k hlt
       have HKF:=Ld (fun W (kW:Kept (fun _=>False) wr W)=>HIH.out _ (List.getElem_mem hlt) _ _ _ W (hq.out.1.kp.trans kW) (hty.frame (sK kW)) (htm.frame (sK kW)))
       have HC:=Ld (fun W (kW:Kept (fun _=>False) wr W)=>C7.kept ⟨c0,c1,c2,c3,c4,c5,c6⟩ kW (fun h=>h))
       clear hty htm c0 c1 c2 c3 c4 c5 c6 lg gA
       go_upto_region 7 with (fail)
       have KD:Kept (fun _=>False) wr wr.drew:=kR.drew
       refine wp_region_mono (L:=Kept (fun _=>False)) (fun i v W=>match i with
        | 0=>v=.pointer (some ⟨w.heap.size,6,none⟩)
        | 1=>v=.slice (some ⟨g,off,none⟩) ks.length mc
        | 2=>v=.int .i64 k
        | 3=>v=.pointer (some ⟨g,off+k*7,none⟩)
        | 4=>v=.agg #[.int .i64 ks[k].op,.string ks[k].name,.int .i64 ks[k].n,.int .i64 ks[k].ty.kind,.string ks[k].ty.name,.slice ta tn tc,.slice qa qn qc]
        | 5=>v=.agg #[.int .i64 fm.op,.string fm.name,.int .i64 fm.n,.int .i64 fm.ty.kind,.string fm.ty.name,.slice p n c,.slice pa pn pc]
        | 6=>v=.slice va names.length vc
        | 7=>v=.bool (occT fm names ks[k])
        | _=>True) [] [] 39 (by kernel_rfl) rfl (by kernel_rfl) (by kernel_rfl) (fun w=>Kept.refl _ w) (fun _ _ _ h1 h2=>h1.trans h2) (fun c d v a w h=>by cases d <;> exact h) ?_ ?_
       ·refine allM_cons rfl (stepM_of [] rfl fun W k'=>allV_nil ?_) ?_
        ·refine opW_go rfl fun K hK=>?_
         go_simp
         exact hK _ _ (KT.mk kR rfl 31 rfl rfl)
        refine allM_cons rfl (stepM_of [0] rfl fun W k'=>allV_some 31 rfl fun v0 h0=>allV_nil ?_) ?_
        ·obtain⟨w1,k1,rfl⟩:=h0
         have q:=KD.trans k'
         have gA:=(hq.out.1.a.kept q (fun h=>h)).cell
         refine opW_go rfl fun K hK=>?_
         go_simp
         exact hK _ _ (KT.mk kR rfl 32 rfl rfl)
        refine allM_cons rfl (stepM_of [] rfl fun W k'=>allV_nil ?_) ?_
        ·refine opW_go rfl fun K hK=>?_
         go_simp
         exact hK _ _ (KT.mk kR rfl 33 rfl rfl)
        refine allM_cons rfl (stepM_of [1,2] rfl fun W k'=>allV_some 32 rfl fun v0 h0=>allV_some 33 rfl fun v1 h1=>allV_nil ?_) ?_
        ·obtain⟨w1,k1,rfl⟩:=h0
         obtain⟨w2,k2,rfl⟩:=h1
         refine opW_go rfl fun K hK=>?_
         go_simp
         exact hK _ _ (KT.mk kR rfl 34 rfl rfl)
        refine allM_cons rfl (stepM_of [3] rfl fun W k'=>allV_some 34 rfl fun v0 h0=>allV_nil ?_) ?_
        ·obtain⟨w1,k1,rfl⟩:=h0
         have q:=KD.trans k'
         obtain⟨c0,c1,c2,c3,c4,c5,c6⟩:=HC.out W q
         refine opW_go rfl fun K hK=>?_
         go_simp
         exact hK _ _ (KT.mk kR rfl 35 rfl rfl)
        refine allM_cons rfl (stepM_of [] rfl fun W k'=>allV_nil ?_) ?_
        ·have q:=KD.trans k'
         have gF:∀ i,W.cell? ⟨w.heap.size+1,i,none⟩=[Value.int .i64 fm.op,.string fm.name,.int .i64 fm.n,.int .i64 fm.ty.kind,.string fm.ty.name,.slice p n c,.slice pa pn pc][i]?:=(hq.out.1.f.kept q (fun h=>h)).cell
         refine opW_go rfl fun K hK=>?_
         go_simp
         exact hK _ _ (KT.mk kR rfl 36 rfl rfl)
        refine allM_cons rfl (stepM_of [] rfl fun W k'=>allV_nil ?_) ?_
        ·refine opW_go rfl fun K hK=>?_
         go_simp
         exact hK _ _ (KT.mk kR rfl 37 rfl rfl)
        refine allM_cons rfl (stepM_of [4,5,6] rfl fun W k'=>allV_some 35 rfl fun v0 h0=>allV_some 36 rfl fun v1 h1=>allV_some 37 rfl fun v2 h2=>allV_nil ?_) ?_
        ·obtain⟨w1,k1,rfl⟩:=h0
         obtain⟨w2,k2,rfl⟩:=h1
         obtain⟨w3,k3,rfl⟩:=h2
         refine opW_go rfl fun K hK=>?_
         go_simp
         go_at_call 144
         refine (HKF.out W (KD.trans k')).mono ?_
         rintro e w' ⟨rfl,k4⟩
         exact hK _ _ (KT.mk k4 rfl 38 rfl rfl)
        exact allM_nil
       ·intro W kW
        have hh:(List.range 8).filter (fun i=>!([]:List Nat).contains i)=[0,1,2,3,4,5,6,7]:=by decide
        change allV _ _ _ _ _ ((List.range 8).filter (fun i=>!([]:List Nat).contains i)) _
        rw[hh]
        refine allV_some 31 rfl fun v0 h0=>allV_some 32 rfl fun v1 h1=>allV_some 33 rfl fun v2 h2=>allV_some 34 rfl fun v3 h3=>allV_some 35 rfl fun v4 h4=>allV_some 36 rfl fun v5 h5=>allV_some 37 rfl fun v6 h6=>allV_some 38 rfl fun v7 h7=>allV_nil ?_
        obtain⟨w0,k0,rfl⟩:=h0
        obtain⟨w1,k1,rfl⟩:=h1
        obtain⟨w2,k2,rfl⟩:=h2
        obtain⟨w3,k3,rfl⟩:=h3
        obtain⟨w4,k4,rfl⟩:=h4
        obtain⟨w5,k5,rfl⟩:=h5
        obtain⟨w6,k6,rfl⟩:=h6
        obtain⟨w7,k7,rfl⟩:=h7
        have B5:=Ld (hq.out.1.kept (KD.trans kW))
        clear HC HKF
        clear k0
        clear k1
        clear k2
        clear k3
        clear k4
        clear k5
        clear k6
        clear k7
        generalize hoc:occT fm names ks[k]=oc at *
        have HEQ:Hid (r=(oc||occK fm names (binderB op) nm (k+1) (ks.drop (k+1)))):=Ld (by rw[hq.out.2,HD2.out,if_neg (by rw[HBI.out];exact Bool.false_ne_true)])
        clear hoc hq HD2 kW hh
        refine wpList_nil ?_
        simp only[Act.put,List.setIfInBounds_toArray,List.set_cons_succ,List.set_cons_zero]
        cases oc
        ·go_wp2_with fail
         go_roundw
         case rel=>exact⟨k+1,by omega,by go_num,Ld ⟨B5.out,by rw[HEQ.out];rfl⟩⟩
         case measure=>simp[intOf];omega
        ·have HE:Hid (r=true):=Ld (by rw[HEQ.out];rfl)
         go_wp2_with fail
         go_ret
         exact⟨by rw[HE.out];rfl,B5.out.kp⟩
      ·have HEQ:Hid (r=occK fm names (binderB op) nm (k+1) (ks.drop (k+1))):=Ld (by rw[hq.out.2,HD2.out,HK1.out,hmb];rfl)
       clear hmb
       go_wp2_with fail
       go_roundw
       case rel=>exact⟨k+1,by omega,by go_num,Ld ⟨hq.out.1,HEQ.out⟩⟩
       case measure=>simp[intOf];omega
   ·have hkk:k=ks.length:=by omega
    subst hkk
    have HE:Hid (r=false):=Ld (by rw[hq.out.2,List.drop_length,occK])
    have HKQ:=Ld hq.out.1.kp
    clear hq
    go_wp2_with fail
    go_ret
    exact⟨by rw[HE.out];rfl,HKQ.out⟩
 ·have HE:Hid (r=true):=Ld (by rw[HR.out];rfl)
  go_wp2_with fail
  go_ret
  exact⟨by rw[HE.out];rfl,B2.out.kp⟩
theorem roc_any {t:Tm} (h:BdTm t):OcC t:=by
 induction h with
 | mk hn ht hl ih=>
  exact roc_one (.mk hn ht hl) ih hn
def CnC (t:Tm):Prop:=∀ (fm:Tm) (names:List ByteArray) (w:World) (ok okf okB:Nat→Prop) (tk kk fk fkk v:Value),TyL ok w t.ty.kids tk→TmL ok w t.kids kk→TyL okf w fm.ty.kids fk→TmL okf w fm.kids fkk→NmL okB w names v→names.length≤1000000→tmD t≤900000→tmN t≤700000 →
 Calls Tryz.prog 89 #[tmVal t tk kk,tmVal fm fk fkk,v] w fun e w'=>e=.returned (.int .i64 (cntT fm names t))∧Kept (fun _=>False) w w'
theorem rcn_one {op:Int} {nm:ByteArray} {N:Int} {ty:Ty} {ks:List Tm} (hb:BdTm (.mk op nm N ty ks)) (IH:∀ u,u∈ks→CnC u) (hkn:ks.length≤1000000):CnC (.mk op nm N ty ks):=by
 intro fm names w ok okf okB tk kk fk fkk v h1 h2 h3 h4 hN hnl hd hz
 have h1:TyL ok w ty.kids tk:=h1
 have h2:TmL ok w ks kk:=h2
 obtain⟨a,an,ac,rfl⟩:=h1.slice
 obtain⟨ma,mn,mc,rfl⟩:=h2.slice
 obtain⟨p,n,c,rfl⟩:=h3.slice
 obtain⟨pa,pn,pc,rfl⟩:=h4.slice
 obtain⟨va,vc,rfl⟩:=hN.slice
 obtain rfl:mn=ks.length:=h2.len
 have HAL:=Ld (fun W (k:Kept (fun _=>False) w W)=>ralike_any hb fm [] [] W ok okf (fun _=>False) (fun _=>False) _ _ _ _ (.slice none 0 0) (.slice none 0 0) (h1.frame (sK k)) (h2.frame (sK k)) (h3.frame (sK k)) (h4.frame (sK k)) NmL.nil NmL.nil (by simp only[List.length_nil];omega) (by simp only[List.length_nil];omega))
 have HIN:=Ld (fun W (k:Kept (fun _=>False) w W)=>rinN_any nm (hN.frame (sK k)) (by omega))
 rw[tmD] at hd
 rw[tmN] at hz
 have HAT:=Ld (fun W (k:Kept (fun _=>False) w W)=>(h2.frame (sK k)).at)
 have HIH:=Ld (fun (u:Tm) (hu:u∈ks) (tk' kk':Value) (ok3:Nat→Prop) W (k:Kept (fun _=>False) w W) (h5:TyL ok3 W u.ty.kids tk') (h6:TmL ok3 W u.kids kk')=>IH u hu fm names W ok3 okf okB tk' kk' _ _ _ h5 h6 (h3.frame (sK k)) (h4.frame (sK k)) (hN.frame (sK k)) hnl (by have:=tmDs_mem hu;omega) (by have:=(tmD_kid hu).2;omega))
 unfold tmVal at HIH HAL ⊢
 have HZ:=Ld (⟨hz,hkn⟩:_∧_)
 have B0:Hid (Rc2 w [Value.int .i64 op,.string nm,.int .i64 N,.int .i64 ty.kind,.string ty.name,.slice a an ac,.slice ma ks.length mc] [Value.int .i64 fm.op,.string fm.name,.int .i64 fm.n,.int .i64 fm.ty.kind,.string fm.ty.name,.slice p n c,.slice pa pn pc] ((w.alloc (.cells #[.int .i64 op,.string nm,.int .i64 N,.int .i64 ty.kind,.string ty.name,.slice a an ac,.slice ma ks.length mc] 28)).alloc (.cells #[.int .i64 fm.op,.string fm.name,.int .i64 fm.n,.int .i64 fm.ty.kind,.string fm.ty.name,.slice p n c,.slice pa pn pc] 28))):=Ld
  ⟨(kR.alloc _).alloc _,(Blk.new w 28 [Value.int .i64 op,.string nm,.int .i64 N,.int .i64 ty.kind,.string ty.name,.slice a an ac,.slice ma ks.length mc]).alloc _,Blk.new' 28 _ (by simp)⟩
 clear h1 h2 h3 h4 hN hnl hd hz hb IH hkn
 have HR:Hid (cntT fm names (.mk op nm N ty ks)=if alikeT (.mk op nm N ty ks) fm [] [] then 1 else cntK fm names (binderB op) nm 0 ks):=Ld (by
  rw[cntT])
 generalize cntT fm names (.mk op nm N ty ks)=r at *
 generalize alikeT (.mk op nm N ty ks) fm [] []=al at *
 change Calls Tryz.prog 89 #[.agg #[.int .i64 op,.string nm,.int .i64 N,.int .i64 ty.kind,.string ty.name,.slice a an ac,.slice ma ks.length mc],.agg #[.int .i64 fm.op,.string fm.name,.int .i64 fm.n,.int .i64 fm.ty.kind,.string fm.ty.name,.slice p n c,.slice pa pn pc],.slice va names.length vc] w _
 go_enter Tryz.func89,Tryz.ntmps89
 go_upto_region 1 with (fail)
 generalize ((w.alloc (.cells #[.int .i64 op,.string nm,.int .i64 N,.int .i64 ty.kind,.string ty.name,.slice a an ac,.slice ma ks.length mc] 28)).alloc (.cells #[.int .i64 fm.op,.string fm.name,.int .i64 fm.n,.int .i64 fm.ty.kind,.string fm.ty.name,.slice p n c,.slice pa pn pc] 28))=w1 at *
 have gA:=B0.out.a.cell
 have gF:∀ i,w1.cell? ⟨w.heap.size+1,i,none⟩=[Value.int .i64 fm.op,.string fm.name,.int .i64 fm.n,.int .i64 fm.ty.kind,.string fm.ty.name,.slice p n c,.slice pa pn pc][i]?:=B0.out.f.cell
 go_wp2_with fail
 refine (HAL.out w1 B0.out.kp).mono ?_
 rintro e w2 ⟨rfl,k2⟩
 have B2:=Ld (B0.out.kept k2)
 clear k2 B0 gA gF HAL
 cases al
 ·have HR2:Hid (r=cntK fm names (binderB op) nm 0 ks):=Ld (by rw[HR.out];rfl)
  clear HR
  go_wp2_with fail
  go_loopw [7,8] (fun m i wr=>∃ k q:Nat,k≤ks.length∧i=.int .i64 k∧m=.int .i64 q∧Hid (Rc2 w [Value.int .i64 op,.string nm,.int .i64 N,.int .i64 ty.kind,.string ty.name,.slice a an ac,.slice ma ks.length mc] [Value.int .i64 fm.op,.string fm.name,.int .i64 fm.n,.int .i64 fm.ty.kind,.string fm.ty.name,.slice p n c,.slice pa pn pc] wr∧r=q+cntK fm names (binderB op) nm k (ks.drop k)∧r≤700000)) (fun m i _=>ks.length-(intOf i).toNat)
  case atStart=>exact⟨0,0,Nat.zero_le _,rfl,rfl,Ld ⟨B2.out,by rw[HR2.out,List.drop_zero,Nat.zero_add],by rw[HR2.out];have:=rocK_le fm names (binderB op) nm 0 ks;have:=HZ.out.1;omega⟩⟩
  case round=>
   obtain⟨k,q,hkl,rfl,rfl,hq⟩:=hrel
   clear B2 HR2
   have gA:=hq.out.1.a.cell
   by_cases hlt:k<ks.length
   ·have i1:(k:Int)<(ks.length:Int):=by omega
    have i2:(k:Int)<1000000:=by have:=HZ.out.2;omega
    have HD2:=Ld (cntK_drop (fm:=fm) (names:=names) (bi:=binderB op) (nm:=nm) hlt)
    go_wp2_with fail
    refine (rbinder_t (op:=op) rfl _).mono ?_
    rintro e w4 ⟨rfl,rfl⟩
    cases hbi:binderB op
    ·have HBI:Hid ((binderB op&&k==1&&mb nm names)=false):=Ld (by rw[hbi];rfl)
     have HBB:=Ld hbi
     clear hbi
     obtain⟨g,off,ta,tn,tc,qa,qn,qc,rfl,_,lg,⟨c0,c1,c2,c3,c4,c5,c6⟩,hty,htm⟩:=HAT.out wr hq.out.1.kp k hlt
     have HKF:=Ld (fun W (kW:Kept (fun _=>False) wr W)=>HIH.out _ (List.getElem_mem hlt) _ _ _ W (hq.out.1.kp.trans kW) (hty.frame (sK kW)) (htm.frame (sK kW)))
     have HC:=Ld (fun W (kW:Kept (fun _=>False) wr W)=>C7.kept ⟨c0,c1,c2,c3,c4,c5,c6⟩ kW (fun h=>h))
     clear hty htm c0 c1 c2 c3 c4 c5 c6 lg gA
     go_upto_region 8 with (fail)
     have KD:Kept (fun _=>False) wr wr.drew:=kR.drew
     have hw9:IntKind.i64.wrap ((q:Int)+(cntT fm names ks[k]:Nat))=(q:Int)+(cntT fm names ks[k]:Nat):=by
      rw[IntKind.wrap_i64];have h1:=hq.out.2;rw[HD2.out,if_neg (by rw[HBI.out];exact Bool.false_ne_true)] at h1;omega
     refine wp_region_mono (L:=Kept (fun _=>False)) (fun i v W=>match i with
      | 0=>v=.int .i64 q
      | 1=>v=.pointer (some ⟨w.heap.size,6,none⟩)
      | 2=>v=.slice (some ⟨g,off,none⟩) ks.length mc
      | 3=>v=.int .i64 k
      | 4=>v=.pointer (some ⟨g,off+k*7,none⟩)
      | 5=>v=.agg #[.int .i64 ks[k].op,.string ks[k].name,.int .i64 ks[k].n,.int .i64 ks[k].ty.kind,.string ks[k].ty.name,.slice ta tn tc,.slice qa qn qc]
      | 6=>v=.agg #[.int .i64 fm.op,.string fm.name,.int .i64 fm.n,.int .i64 fm.ty.kind,.string fm.ty.name,.slice p n c,.slice pa pn pc]
      | 7=>v=.slice va names.length vc
      | 8=>v=.int .i64 (cntT fm names ks[k])
      | 9=>v=.int .i64 ((q:Int)+(cntT fm names ks[k]:Nat))
      | _=>True) [10] [] 43 (by kernel_rfl) rfl (by kernel_rfl) (by kernel_rfl) (fun w=>Kept.refl _ w) (fun _ _ _ h1 h2=>h1.trans h2) (fun c d v a w h=>by cases d <;> exact h) ?_ ?_
     ·refine allM_cons rfl (stepM_of [] rfl fun W k'=>allV_nil ?_) ?_
      ·refine opW_go rfl fun K hK=>?_
       go_simp
       exact hK _ _ (KT.mk kR rfl 32 rfl rfl)
      refine allM_cons rfl (stepM_of [] rfl fun W k'=>allV_nil ?_) ?_
      ·refine opW_go rfl fun K hK=>?_
       go_simp
       exact hK _ _ (KT.mk kR rfl 33 rfl rfl)
      refine allM_cons rfl (stepM_of [1] rfl fun W k'=>allV_some 33 rfl fun v0 h0=>allV_nil ?_) ?_
      ·obtain⟨w1,k1,rfl⟩:=h0
       have q:=KD.trans k'
       have gA:=(hq.out.1.a.kept q (fun h=>h)).cell
       refine opW_go rfl fun K hK=>?_
       go_simp
       exact hK _ _ (KT.mk kR rfl 34 rfl rfl)
      refine allM_cons rfl (stepM_of [] rfl fun W k'=>allV_nil ?_) ?_
      ·refine opW_go rfl fun K hK=>?_
       go_simp
       exact hK _ _ (KT.mk kR rfl 35 rfl rfl)
      refine allM_cons rfl (stepM_of [2,3] rfl fun W k'=>allV_some 34 rfl fun v0 h0=>allV_some 35 rfl fun v1 h1=>allV_nil ?_) ?_
      ·obtain⟨w1,k1,rfl⟩:=h0
       obtain⟨w2,k2,rfl⟩:=h1
       refine opW_go rfl fun K hK=>?_
       go_simp
       exact hK _ _ (KT.mk kR rfl 36 rfl rfl)
      refine allM_cons rfl (stepM_of [4] rfl fun W k'=>allV_some 36 rfl fun v0 h0=>allV_nil ?_) ?_
      ·obtain⟨w1,k1,rfl⟩:=h0
       have q:=KD.trans k'
       obtain⟨c0,c1,c2,c3,c4,c5,c6⟩:=HC.out W q
       refine opW_go rfl fun K hK=>?_
       go_simp
       exact hK _ _ (KT.mk kR rfl 37 rfl rfl)
      refine allM_cons rfl (stepM_of [] rfl fun W k'=>allV_nil ?_) ?_
      ·have q:=KD.trans k'
       have gF:∀ i,W.cell? ⟨w.heap.size+1,i,none⟩=[Value.int .i64 fm.op,.string fm.name,.int .i64 fm.n,.int .i64 fm.ty.kind,.string fm.ty.name,.slice p n c,.slice pa pn pc][i]?:=(hq.out.1.f.kept q (fun h=>h)).cell
       refine opW_go rfl fun K hK=>?_
       go_simp
       exact hK _ _ (KT.mk kR rfl 38 rfl rfl)
      refine allM_cons rfl (stepM_of [] rfl fun W k'=>allV_nil ?_) ?_
      ·refine opW_go rfl fun K hK=>?_
       go_simp
       exact hK _ _ (KT.mk kR rfl 39 rfl rfl)
      refine allM_cons rfl (stepM_of [5,6,7] rfl fun W k'=>allV_some 37 rfl fun v0 h0=>allV_some 38 rfl fun v1 h1=>allV_some 39 rfl fun v2 h2=>allV_nil ?_) ?_
      ·obtain⟨w1,k1,rfl⟩:=h0
       obtain⟨w2,k2,rfl⟩:=h1
       obtain⟨w3,k3,rfl⟩:=h2
       refine opW_go rfl fun K hK=>?_
       go_simp
       go_at_call 89
       refine (HKF.out W (KD.trans k')).mono ?_
       rintro e w' ⟨rfl,k4⟩
       exact hK _ _ (KT.mk k4 rfl 40 rfl rfl)
      refine allM_cons rfl (stepM_of [0,8] rfl fun W k'=>allV_some 32 rfl fun v0 h0=>allV_some 40 rfl fun v1 h1=>allV_nil ?_) ?_
      ·obtain⟨w1,k1,rfl⟩:=h0
       obtain⟨w2,k2,rfl⟩:=h1
       refine opW_go rfl fun K hK=>?_
       go_simp
       exact hK _ _ (KT.mk kR rfl 41 rfl rfl)
      refine allM_tail rfl ?_
      exact allM_nil
     ·intro W kW
      have hh:(List.range 11).filter (fun i=>!([10]:List Nat).contains i)=[0,1,2,3,4,5,6,7,8,9]:=by decide
      change allV _ _ _ _ _ ((List.range 11).filter (fun i=>!([10]:List Nat).contains i)) _
      rw[hh]
      refine allV_some 32 rfl fun v0 h0=>allV_some 33 rfl fun v1 h1=>allV_some 34 rfl fun v2 h2=>allV_some 35 rfl fun v3 h3=>allV_some 36 rfl fun v4 h4=>allV_some 37 rfl fun v5 h5=>allV_some 38 rfl fun v6 h6=>allV_some 39 rfl fun v7 h7=>allV_some 40 rfl fun v8 h8=>allV_some 41 rfl fun v9 h9=>allV_nil ?_
      obtain⟨w0,k0,rfl⟩:=h0
      obtain⟨w1,k1,rfl⟩:=h1
      obtain⟨w2,k2,rfl⟩:=h2
      obtain⟨w3,k3,rfl⟩:=h3
      obtain⟨w4,k4,rfl⟩:=h4
      obtain⟨w5,k5,rfl⟩:=h5
      obtain⟨w6,k6,rfl⟩:=h6
      obtain⟨w7,k7,rfl⟩:=h7
      obtain⟨w8,k8,rfl⟩:=h8
      obtain⟨w9,k9,rfl⟩:=h9
      have B5:=Ld (hq.out.1.kept (KD.trans kW))
      clear HC HKF
      clear k0
      clear k1
      clear k2
      clear k3
      clear k4
      clear k5
      clear k6
      clear k7
      clear k8
      clear k9
      generalize hoc:cntT fm names ks[k]=oc at *
      have HEQ:Hid (r=q+oc+cntK fm names (binderB op) nm (k+1) (ks.drop (k+1))∧r≤700000):=Ld ⟨by rw[hq.out.2.1,HD2.out,if_neg (by rw[HBI.out];exact Bool.false_ne_true),Nat.add_assoc],hq.out.2.2⟩
      clear hoc hq HD2 kW hh hw9
      show wpList Tryz.prog _ _ [_] _ W
      simp only[Act.put,List.setIfInBounds_toArray,List.set_cons_succ,List.set_cons_zero]
      go_wp2_with fail
      go_roundw
      case rel=>exact⟨k+1,q+oc,by omega,by go_num,by rw[Int.natCast_add],Ld ⟨B5.out,HEQ.out.1,HEQ.out.2⟩⟩
      case measure=>simp[intOf];omega
    ·cases hk1:((k:Int)==1)
     ·have HBI:Hid ((binderB op&&k==1&&mb nm names)=false):=Ld (by
       have:(k==1)=false:=by simp at hk1;simp;omega
       rw[this];simp)
      clear hbi
      obtain⟨g,off,ta,tn,tc,qa,qn,qc,rfl,_,lg,⟨c0,c1,c2,c3,c4,c5,c6⟩,hty,htm⟩:=HAT.out wr hq.out.1.kp k hlt
      have HKF:=Ld (fun W (kW:Kept (fun _=>False) wr W)=>HIH.out _ (List.getElem_mem hlt) _ _ _ W (hq.out.1.kp.trans kW) (hty.frame (sK kW)) (htm.frame (sK kW)))
      have HC:=Ld (fun W (kW:Kept (fun _=>False) wr W)=>C7.kept ⟨c0,c1,c2,c3,c4,c5,c6⟩ kW (fun h=>h))
      clear hty htm c0 c1 c2 c3 c4 c5 c6 lg gA
      go_upto_region 8 with (fail)
      have KD:Kept (fun _=>False) wr wr.drew:=kR.drew
      have hw9:IntKind.i64.wrap ((q:Int)+(cntT fm names ks[k]:Nat))=(q:Int)+(cntT fm names ks[k]:Nat):=by
       rw[IntKind.wrap_i64];have h1:=hq.out.2;rw[HD2.out,if_neg (by rw[HBI.out];exact Bool.false_ne_true)] at h1;omega
      refine wp_region_mono (L:=Kept (fun _=>False)) (fun i v W=>match i with
       | 0=>v=.int .i64 q
       | 1=>v=.pointer (some ⟨w.heap.size,6,none⟩)
       | 2=>v=.slice (some ⟨g,off,none⟩) ks.length mc
       | 3=>v=.int .i64 k
       | 4=>v=.pointer (some ⟨g,off+k*7,none⟩)
       | 5=>v=.agg #[.int .i64 ks[k].op,.string ks[k].name,.int .i64 ks[k].n,.int .i64 ks[k].ty.kind,.string ks[k].ty.name,.slice ta tn tc,.slice qa qn qc]
       | 6=>v=.agg #[.int .i64 fm.op,.string fm.name,.int .i64 fm.n,.int .i64 fm.ty.kind,.string fm.ty.name,.slice p n c,.slice pa pn pc]
       | 7=>v=.slice va names.length vc
       | 8=>v=.int .i64 (cntT fm names ks[k])
       | 9=>v=.int .i64 ((q:Int)+(cntT fm names ks[k]:Nat))
       | _=>True) [10] [] 43 (by kernel_rfl) rfl (by kernel_rfl) (by kernel_rfl) (fun w=>Kept.refl _ w) (fun _ _ _ h1 h2=>h1.trans h2) (fun c d v a w h=>by cases d <;> exact h) ?_ ?_
      ·refine allM_cons rfl (stepM_of [] rfl fun W k'=>allV_nil ?_) ?_
       ·refine opW_go rfl fun K hK=>?_
        go_simp
        exact hK _ _ (KT.mk kR rfl 32 rfl rfl)
       refine allM_cons rfl (stepM_of [] rfl fun W k'=>allV_nil ?_) ?_
       ·refine opW_go rfl fun K hK=>?_
        go_simp
        exact hK _ _ (KT.mk kR rfl 33 rfl rfl)
       refine allM_cons rfl (stepM_of [1] rfl fun W k'=>allV_some 33 rfl fun v0 h0=>allV_nil ?_) ?_
       ·obtain⟨w1,k1,rfl⟩:=h0
        have q:=KD.trans k'
        have gA:=(hq.out.1.a.kept q (fun h=>h)).cell
        refine opW_go rfl fun K hK=>?_
        go_simp
        exact hK _ _ (KT.mk kR rfl 34 rfl rfl)
       refine allM_cons rfl (stepM_of [] rfl fun W k'=>allV_nil ?_) ?_
       ·refine opW_go rfl fun K hK=>?_
        go_simp
        exact hK _ _ (KT.mk kR rfl 35 rfl rfl)
       refine allM_cons rfl (stepM_of [2,3] rfl fun W k'=>allV_some 34 rfl fun v0 h0=>allV_some 35 rfl fun v1 h1=>allV_nil ?_) ?_
       ·obtain⟨w1,k1,rfl⟩:=h0
        obtain⟨w2,k2,rfl⟩:=h1
        refine opW_go rfl fun K hK=>?_
        go_simp
        exact hK _ _ (KT.mk kR rfl 36 rfl rfl)
       refine allM_cons rfl (stepM_of [4] rfl fun W k'=>allV_some 36 rfl fun v0 h0=>allV_nil ?_) ?_
       ·obtain⟨w1,k1,rfl⟩:=h0
        have q:=KD.trans k'
        obtain⟨c0,c1,c2,c3,c4,c5,c6⟩:=HC.out W q
        refine opW_go rfl fun K hK=>?_
        go_simp
        exact hK _ _ (KT.mk kR rfl 37 rfl rfl)
       refine allM_cons rfl (stepM_of [] rfl fun W k'=>allV_nil ?_) ?_
       ·have q:=KD.trans k'
        have gF:∀ i,W.cell? ⟨w.heap.size+1,i,none⟩=[Value.int .i64 fm.op,.string fm.name,.int .i64 fm.n,.int .i64 fm.ty.kind,.string fm.ty.name,.slice p n c,.slice pa pn pc][i]?:=(hq.out.1.f.kept q (fun h=>h)).cell
        refine opW_go rfl fun K hK=>?_
        go_simp
        exact hK _ _ (KT.mk kR rfl 38 rfl rfl)
       refine allM_cons rfl (stepM_of [] rfl fun W k'=>allV_nil ?_) ?_
       ·refine opW_go rfl fun K hK=>?_
        go_simp
        exact hK _ _ (KT.mk kR rfl 39 rfl rfl)
       refine allM_cons rfl (stepM_of [5,6,7] rfl fun W k'=>allV_some 37 rfl fun v0 h0=>allV_some 38 rfl fun v1 h1=>allV_some 39 rfl fun v2 h2=>allV_nil ?_) ?_
       ·obtain⟨w1,k1,rfl⟩:=h0
        obtain⟨w2,k2,rfl⟩:=h1
        obtain⟨w3,k3,rfl⟩:=h2
        refine opW_go rfl fun K hK=>?_
        go_simp
        go_at_call 89
        refine (HKF.out W (KD.trans k')).mono ?_
        rintro e w' ⟨rfl,k4⟩
        exact hK _ _ (KT.mk k4 rfl 40 rfl rfl)
       refine allM_cons rfl (stepM_of [0,8] rfl fun W k'=>allV_some 32 rfl fun v0 h0=>allV_some 40 rfl fun v1 h1=>allV_nil ?_) ?_
       ·obtain⟨w1,k1,rfl⟩:=h0
        obtain⟨w2,k2,rfl⟩:=h1
        refine opW_go rfl fun K hK=>?_
        go_simp
        exact hK _ _ (KT.mk kR rfl 41 rfl rfl)
       refine allM_tail rfl ?_
       exact allM_nil
      ·intro W kW
       have hh:(List.range 11).filter (fun i=>!([10]:List Nat).contains i)=[0,1,2,3,4,5,6,7,8,9]:=by decide
       change allV _ _ _ _ _ ((List.range 11).filter (fun i=>!([10]:List Nat).contains i)) _
       rw[hh]
       refine allV_some 32 rfl fun v0 h0=>allV_some 33 rfl fun v1 h1=>allV_some 34 rfl fun v2 h2=>allV_some 35 rfl fun v3 h3=>allV_some 36 rfl fun v4 h4=>allV_some 37 rfl fun v5 h5=>allV_some 38 rfl fun v6 h6=>allV_some 39 rfl fun v7 h7=>allV_some 40 rfl fun v8 h8=>allV_some 41 rfl fun v9 h9=>allV_nil ?_
       obtain⟨w0,k0,rfl⟩:=h0
       obtain⟨w1,k1,rfl⟩:=h1
       obtain⟨w2,k2,rfl⟩:=h2
       obtain⟨w3,k3,rfl⟩:=h3
       obtain⟨w4,k4,rfl⟩:=h4
       obtain⟨w5,k5,rfl⟩:=h5
       obtain⟨w6,k6,rfl⟩:=h6
       obtain⟨w7,k7,rfl⟩:=h7
       obtain⟨w8,k8,rfl⟩:=h8
       obtain⟨w9,k9,rfl⟩:=h9
       have B5:=Ld (hq.out.1.kept (KD.trans kW))
       clear HC HKF
       clear k0
       clear k1
       clear k2
       clear k3
       clear k4
       clear k5
       clear k6
       clear k7
       clear k8
       clear k9
       generalize hoc:cntT fm names ks[k]=oc at *
       have HEQ:Hid (r=q+oc+cntK fm names (binderB op) nm (k+1) (ks.drop (k+1))∧r≤700000):=Ld ⟨by rw[hq.out.2.1,HD2.out,if_neg (by rw[HBI.out];exact Bool.false_ne_true),Nat.add_assoc],hq.out.2.2⟩
       clear hoc hq HD2 kW hh hw9
       show wpList Tryz.prog _ _ [_] _ W
       simp only[Act.put,List.setIfInBounds_toArray,List.set_cons_succ,List.set_cons_zero]
       go_wp2_with fail
       go_roundw
       case rel=>exact⟨k+1,q+oc,by omega,by go_num,by rw[Int.natCast_add],Ld ⟨B5.out,HEQ.out.1,HEQ.out.2⟩⟩
       case measure=>simp[intOf];omega
     ·have HK1:Hid ((binderB op&&k==1)=true):=Ld (by
       have:(k==1)=true:=by simp at hk1;simp;omega
       rw[this,hbi];rfl)
      clear hbi
      go_wp2_with fail
      refine (HIN.out wr hq.out.1.kp).mono ?_
      rintro e w5 ⟨rfl,rfl⟩
      cases hmb:mb nm names
      ·have HBI:Hid ((binderB op&&k==1&&mb nm names)=false):=Ld (by rw[hmb];simp)
       clear hmb
       obtain⟨g,off,ta,tn,tc,qa,qn,qc,rfl,_,lg,⟨c0,c1,c2,c3,c4,c5,c6⟩,hty,htm⟩:=HAT.out wr hq.out.1.kp k hlt
       have HKF:=Ld (fun W (kW:Kept (fun _=>False) wr W)=>HIH.out _ (List.getElem_mem hlt) _ _ _ W (hq.out.1.kp.trans kW) (hty.frame (sK kW)) (htm.frame (sK kW)))
       have HC:=Ld (fun W (kW:Kept (fun _=>False) wr W)=>C7.kept ⟨c0,c1,c2,c3,c4,c5,c6⟩ kW (fun h=>h))
       clear hty htm c0 c1 c2 c3 c4 c5 c6 lg gA
       go_upto_region 8 with (fail)
       have KD:Kept (fun _=>False) wr wr.drew:=kR.drew
       have hw9:IntKind.i64.wrap ((q:Int)+(cntT fm names ks[k]:Nat))=(q:Int)+(cntT fm names ks[k]:Nat):=by
        rw[IntKind.wrap_i64];have h1:=hq.out.2;rw[HD2.out,if_neg (by rw[HBI.out];exact Bool.false_ne_true)] at h1;omega
       refine wp_region_mono (L:=Kept (fun _=>False)) (fun i v W=>match i with
        | 0=>v=.int .i64 q
        | 1=>v=.pointer (some ⟨w.heap.size,6,none⟩)
        | 2=>v=.slice (some ⟨g,off,none⟩) ks.length mc
        | 3=>v=.int .i64 k
        | 4=>v=.pointer (some ⟨g,off+k*7,none⟩)
        | 5=>v=.agg #[.int .i64 ks[k].op,.string ks[k].name,.int .i64 ks[k].n,.int .i64 ks[k].ty.kind,.string ks[k].ty.name,.slice ta tn tc,.slice qa qn qc]
        | 6=>v=.agg #[.int .i64 fm.op,.string fm.name,.int .i64 fm.n,.int .i64 fm.ty.kind,.string fm.ty.name,.slice p n c,.slice pa pn pc]
        | 7=>v=.slice va names.length vc
        | 8=>v=.int .i64 (cntT fm names ks[k])
        | 9=>v=.int .i64 ((q:Int)+(cntT fm names ks[k]:Nat))
        | _=>True) [10] [] 43 (by kernel_rfl) rfl (by kernel_rfl) (by kernel_rfl) (fun w=>Kept.refl _ w) (fun _ _ _ h1 h2=>h1.trans h2) (fun c d v a w h=>by cases d <;> exact h) ?_ ?_
       ·refine allM_cons rfl (stepM_of [] rfl fun W k'=>allV_nil ?_) ?_
        ·refine opW_go rfl fun K hK=>?_
         go_simp
         exact hK _ _ (KT.mk kR rfl 32 rfl rfl)
        refine allM_cons rfl (stepM_of [] rfl fun W k'=>allV_nil ?_) ?_
        ·refine opW_go rfl fun K hK=>?_
         go_simp
         exact hK _ _ (KT.mk kR rfl 33 rfl rfl)
        refine allM_cons rfl (stepM_of [1] rfl fun W k'=>allV_some 33 rfl fun v0 h0=>allV_nil ?_) ?_
        ·obtain⟨w1,k1,rfl⟩:=h0
         have q:=KD.trans k'
         have gA:=(hq.out.1.a.kept q (fun h=>h)).cell
         refine opW_go rfl fun K hK=>?_
         go_simp
         exact hK _ _ (KT.mk kR rfl 34 rfl rfl)
        refine allM_cons rfl (stepM_of [] rfl fun W k'=>allV_nil ?_) ?_
        ·refine opW_go rfl fun K hK=>?_
         go_simp
         exact hK _ _ (KT.mk kR rfl 35 rfl rfl)
        refine allM_cons rfl (stepM_of [2,3] rfl fun W k'=>allV_some 34 rfl fun v0 h0=>allV_some 35 rfl fun v1 h1=>allV_nil ?_) ?_
        ·obtain⟨w1,k1,rfl⟩:=h0
         obtain⟨w2,k2,rfl⟩:=h1
         refine opW_go rfl fun K hK=>?_
         go_simp
         exact hK _ _ (KT.mk kR rfl 36 rfl rfl)
        refine allM_cons rfl (stepM_of [4] rfl fun W k'=>allV_some 36 rfl fun v0 h0=>allV_nil ?_) ?_
        ·obtain⟨w1,k1,rfl⟩:=h0
         have q:=KD.trans k'
         obtain⟨c0,c1,c2,c3,c4,c5,c6⟩:=HC.out W q
         refine opW_go rfl fun K hK=>?_
         go_simp
         exact hK _ _ (KT.mk kR rfl 37 rfl rfl)
        refine allM_cons rfl (stepM_of [] rfl fun W k'=>allV_nil ?_) ?_
        ·have q:=KD.trans k'
         have gF:∀ i,W.cell? ⟨w.heap.size+1,i,none⟩=[Value.int .i64 fm.op,.string fm.name,.int .i64 fm.n,.int .i64 fm.ty.kind,.string fm.ty.name,.slice p n c,.slice pa pn pc][i]?:=(hq.out.1.f.kept q (fun h=>h)).cell
         refine opW_go rfl fun K hK=>?_
         go_simp
         exact hK _ _ (KT.mk kR rfl 38 rfl rfl)
        refine allM_cons rfl (stepM_of [] rfl fun W k'=>allV_nil ?_) ?_
        ·refine opW_go rfl fun K hK=>?_
         go_simp
         exact hK _ _ (KT.mk kR rfl 39 rfl rfl)
        refine allM_cons rfl (stepM_of [5,6,7] rfl fun W k'=>allV_some 37 rfl fun v0 h0=>allV_some 38 rfl fun v1 h1=>allV_some 39 rfl fun v2 h2=>allV_nil ?_) ?_
        ·obtain⟨w1,k1,rfl⟩:=h0
         obtain⟨w2,k2,rfl⟩:=h1
         obtain⟨w3,k3,rfl⟩:=h2
         refine opW_go rfl fun K hK=>?_
         go_simp
         go_at_call 89
         refine (HKF.out W (KD.trans k')).mono ?_
         rintro e w' ⟨rfl,k4⟩
         exact hK _ _ (KT.mk k4 rfl 40 rfl rfl)
        refine allM_cons rfl (stepM_of [0,8] rfl fun W k'=>allV_some 32 rfl fun v0 h0=>allV_some 40 rfl fun v1 h1=>allV_nil ?_) ?_
        ·obtain⟨w1,k1,rfl⟩:=h0
         obtain⟨w2,k2,rfl⟩:=h1
         refine opW_go rfl fun K hK=>?_
         go_simp
         exact hK _ _ (KT.mk kR rfl 41 rfl rfl)
        refine allM_tail rfl ?_
        exact allM_nil
       ·intro W kW
        have hh:(List.range 11).filter (fun i=>!([10]:List Nat).contains i)=[0,1,2,3,4,5,6,7,8,9]:=by decide
        change allV _ _ _ _ _ ((List.range 11).filter (fun i=>!([10]:List Nat).contains i)) _
        rw[hh]
        refine allV_some 32 rfl fun v0 h0=>allV_some 33 rfl fun v1 h1=>allV_some 34 rfl fun v2 h2=>allV_some 35 rfl fun v3 h3=>allV_some 36 rfl fun v4 h4=>allV_some 37 rfl fun v5 h5=>allV_some 38 rfl fun v6 h6=>allV_some 39 rfl fun v7 h7=>allV_some 40 rfl fun v8 h8=>allV_some 41 rfl fun v9 h9=>allV_nil ?_
        obtain⟨w0,k0,rfl⟩:=h0
        obtain⟨w1,k1,rfl⟩:=h1
        obtain⟨w2,k2,rfl⟩:=h2
        obtain⟨w3,k3,rfl⟩:=h3
        obtain⟨w4,k4,rfl⟩:=h4
        obtain⟨w5,k5,rfl⟩:=h5
        obtain⟨w6,k6,rfl⟩:=h6
        obtain⟨w7,k7,rfl⟩:=h7
        obtain⟨w8,k8,rfl⟩:=h8
        obtain⟨w9,k9,rfl⟩:=h9
        have B5:=Ld (hq.out.1.kept (KD.trans kW))
        clear HC HKF
        clear k0
        clear k1
        clear k2
        clear k3
        clear k4
        clear k5
        clear k6
        clear k7
        clear k8
        clear k9
        generalize hoc:cntT fm names ks[k]=oc at *
        have HEQ:Hid (r=q+oc+cntK fm names (binderB op) nm (k+1) (ks.drop (k+1))∧r≤700000):=Ld ⟨by rw[hq.out.2.1,HD2.out,if_neg (by rw[HBI.out];exact Bool.false_ne_true),Nat.add_assoc],hq.out.2.2⟩
        clear hoc hq HD2 kW hh hw9
        show wpList Tryz.prog _ _ [_] _ W
        simp only[Act.put,List.setIfInBounds_toArray,List.set_cons_succ,List.set_cons_zero]
        go_wp2_with fail
        go_roundw
        case rel=>exact⟨k+1,q+oc,by omega,by go_num,by rw[Int.natCast_add],Ld ⟨B5.out,HEQ.out.1,HEQ.out.2⟩⟩
        case measure=>simp[intOf];omega
      ·have HEQ:Hid (r=q+cntK fm names (binderB op) nm (k+1) (ks.drop (k+1))∧r≤700000):=Ld ⟨by rw[hq.out.2.1,HD2.out,HK1.out,hmb];simp,hq.out.2.2⟩
       clear hmb
       go_wp2_with fail
       go_roundw
       case rel=>exact⟨k+1,q,by omega,by go_num,rfl,Ld ⟨hq.out.1,HEQ.out.1,HEQ.out.2⟩⟩
       case measure=>simp[intOf];omega
   ·have hkk:k=ks.length:=by omega
    subst hkk
    have HE:Hid (r=q):=Ld (by rw[hq.out.2.1,List.drop_length,cntK,Nat.add_zero])
    have HKQ:=Ld hq.out.1.kp
    clear hq
    go_wp2_with fail
    go_ret
    exact⟨by rw[HE.out];rfl,HKQ.out⟩
 ·have HE:Hid (r=1):=Ld (by rw[HR.out];rfl)
  go_wp2_with fail
  go_ret
  exact⟨by rw[HE.out];rfl,B2.out.kp⟩
theorem rcn_any {t:Tm} (h:BdTm t):CnC t:=by
 induction h with
 | mk hn ht hl ih=>
  exact rcn_one (.mk hn ht hl) ih hn
inductive Kz:Ty→Prop
 | mk {k:Int} {nm:ByteArray} {l:List Ty} (h:∀ t,t∈l→t.kind≠0) (h':∀ t,t∈l→Kz t):Kz (.mk k nm l)
theorem Kz.kids {t:Ty} (h:Kz t):∀ u,u∈t.kids→u.kind≠0∧Kz u:=by
 cases h with
 | mk h h'=>exact fun u hu=>⟨h u hu,h' u hu⟩
theorem head_kz {k:Int} {nm:ByteArray} {n:Nat} {wi:Bool} (h:tyHead k nm n wi=true):k≠0:=by
 intro e
 subst e
 unfold tyHead at h
 simp at h
theorem tf_kz (most deep:Nat):∀ (t:Ty) (d:Nat) (wi:Bool) (c:Nat),(tfS most deep t d wi c).1=true→t.kind≠0∧Kz t:=by
 intro t
 induction t using Ty.rec (motive_2:=fun l=>∀ (d c:Nat),(tfsS most deep l d c).1=true→∀ t,t∈l→t.kind≠0∧Kz t) with
 | mk k nm l ih=>
  intro d wi c h
  rw[tf_eq] at h
  split at h
  ·rename_i hb
   have hh:tyHead k nm l.length wi=true:=by simp at hb;exact hb.2
   have h2:=ih _ _ h
   exact⟨head_kz hh,.mk (fun t ht=>(h2 t ht).1) (fun t ht=>(h2 t ht).2)⟩
  ·cases h
 | nil=>rename_i d c h t ht;cases ht
 | cons t l iht ihl=>
  rename_i d c h t' h'
  rw[tfsS] at h
  cases hr:tfS most deep t d true c with
  | mk b c'=>
   cases b
   ·rw[hr] at h;cases h
   ·rw[hr] at h
    rcases List.mem_cons.1 h' with rfl | h'
    ·exact iht d true c (by rw[hr])
    ·exact ihl d c' h t' h'
theorem formed_kz {op:Int} {nm:ByteArray} {N:Int} {ty:Ty} {n:Nat} (h:formedB op nm N ty n=true):Kz ty:=by
 obtain⟨_,h2,_,h4⟩:=formed_parts h
 unfold tyOk at h4
 split at h4
 ·rw[Bool.and_eq_true] at h4
  exact (tf_kz 16 6 ty 1 false 0 h4.2).2
 ·rw[zero_ty h4];exact .mk (fun t h=>by cases h) (fun t h=>by cases h)
theorem z_cell {W:World} {g i:Nat} (hb:Blk W g 28 z27) {v:Value} (h:W.cell? ⟨g,i,none⟩=some v):i≤6∧z27[i]?=some v:=by
 have h2:=hb.cell i
 rw[h] at h2
 refine⟨?_,h2.symm⟩
 have h3:=(List.getElem?_eq_some_iff.1 h2.symm).1
 have h4:z27.length=7:=rfl
 omega
theorem TyL.nz {ok:Nat→Prop} {W:World} {g:Nat} (hb:Blk W g 28 z27) {l:List Ty} {v:Value} (h:TyL ok W l v):(∀ t,t∈l→t.kind≠0∧Kz t)→TyL (fun q=>ok q∧q≠g) W l v:=by
 induction h with
 | nil h=>intro _;exact .nil h
 | mk K hne hok hc hcell hk ih=>
  rename_i l b off cap
  intro hz
  have h0:0<l.length:=List.length_pos_iff.2 hne
  refine .mk K hne ⟨hok,fun e=>?_⟩ hc hcell (fun i h=>ih i h (hz _ (List.getElem_mem h)).2.kids)
  subst e
  obtain⟨c0,c1,c2⟩:=hcell 0 h0
  obtain⟨a,n,c,hs⟩:=(hk 0 h0).slice
  rw[hs] at c2
  obtain⟨e0,d0⟩:=z_cell hb c0
  obtain⟨e1,d1⟩:=z_cell hb c1
  obtain⟨e2,d2⟩:=z_cell hb c2
  have hkd:=(hz _ (List.getElem_mem h0)).1
  have ho:off=0∨off=1∨off=2∨off=3∨off=4:=by omega
  rcases ho with rfl | rfl | rfl | rfl | rfl
  ·cases d2
  ·cases d0
  ·cases d1
  ·have:l[0].kind=0:=by
    have:=Option.some.inj d0
    injection this with h1 h2
    exact h2.symm
   exact hkd this
  ·cases d0
def OkZ (t:Tm):Prop:=OkTm t∨t=tm0
section
variable (fm tu:Tm) (F U:List ByteArray) (f:Nat) (bi:Bool) (nm:ByteArray)
def rrT (i:Nat) (t:Tm):Tm:=if bi&&i==1 then (if mb nm F then t else repF fm tu F U f (repB fm F U nm t)) else repF fm tu F U f t
def rrK:Nat→List Tm→List Tm
 | _,[]=>[]
 | i,t::r=>rrT fm tu F U f bi nm i t::rrK (i+1) r
def rrZ1 (i:Nat) (z:ByteArray) (t:Tm):ByteArray:=if bi&&i==1 then (if mb nm F then z else repZ fm F U nm t) else z
def rrZ:Nat→ByteArray→List Tm→ByteArray
 | _,z,[]=>z
 | i,z,t::r=>rrZ (i+1) (rrZ1 fm F U bi nm i z t) r
end
section
variable {fm tu:Tm} {F U:List ByteArray} {f:Nat} {op:Int} {nm:ByteArray} {N:Int} {ty:Ty} {ks:List Tm}
theorem rrK_flat:∀ (i:Nat) (ks:List Tm),rrK fm tu F U f false nm i ks=repK (repF fm tu F U f) false i ks
 | _,[]=>rfl
 | i,t::r=>by rw[rrK,repK,rrK_flat (i+1) r];rfl
theorem rrZ_flat:∀ (i:Nat) (z:ByteArray) (ks:List Tm),rrZ fm F U false nm i z ks=z
 | _,_,[]=>rfl
 | i,z,t::r=>by rw[rrZ,rrZ_flat (i+1) _ r];rfl
theorem rr_eq (h:alikeT (.mk op nm N ty ks) fm [] []=false) (hk:binderB op=true→ks.length=2):repF fm tu F U (f+1) (.mk op nm N ty ks)=.mk op (rrZ fm F U (binderB op) nm 0 nm ks) N ty (rrK fm tu F U f (binderB op) nm 0 ks):=by
 rw[repF,if_neg (by rw[h];exact Bool.false_ne_true)]
 cases hb:binderB op with
 | false=>rw[if_neg Bool.false_ne_true,rrK_flat,rrZ_flat]
 | true=>
  have h2:=hk hb
  match ks,h2 with
  | [d,y],_=>
   rw[if_pos rfl]
   cases hm:mb nm F with
   | false=>simp[rrZ,rrZ1,rrK,rrT,repK,hm]
   | true=>simp[rrZ,rrZ1,rrK,rrT,repK,hm]
theorem rrK_drop {bi:Bool} {k:Nat} (h:k<ks.length):rrK fm tu F U f bi nm k (ks.drop k)=rrT fm tu F U f bi nm k ks[k]::rrK fm tu F U f bi nm (k+1) (ks.drop (k+1)):=by
 rw[List.drop_eq_getElem_cons h,rrK]
theorem rrZ_drop {bi:Bool} {k:Nat} {z:ByteArray} (h:k<ks.length):rrZ fm F U bi nm k z (ks.drop k)=rrZ fm F U bi nm (k+1) (rrZ1 fm F U bi nm k z ks[k]) (ks.drop (k+1)):=by
 rw[List.drop_eq_getElem_cons h,rrZ]
end
theorem rr_new {fm tu y:Tm} {nm:ByteArray} (hto:OkTm tu) (hTN:tmN tu≤100000) (hbo:OkTm y) (hN:tmN y≤100000) (hid:identB nm=true) (hu:mb nm (fr tu)=true) (ho:occT fm (fr fm) y=true):
  ∃ z y',z=freshS nm (fr y++fr tu)∧y'=subT freshS y [(nm,nameT z)]∧repZ fm (fr fm) (fr tu) nm y=z∧repB fm (fr fm) (fr tu) nm y=y'∧OkTm y'∧tmN y'=tmN y∧tmD y'=tmD y:=by
 have hul:(fr y++fr tu).length≤800000:=by
  rw[List.length_append]
  have:=frs_len y
  have:=frs_len tu
  omega
 have hz1:=freshS_ident hid hul
 have hz2:=freshS_good nm _ hul
 have ez:repZ fm (fr fm) (fr tu) nm y=freshS nm (fr y++fr tu):=by unfold repZ;rw[hu,ho];rfl
 have eb:repB fm (fr fm) (fr tu) nm y=subT freshS y [(nm,nameT (freshS nm (fr y++fr tu)))]:=by unfold repB;rw[hu,ho,ez];rfl
 refine⟨_,_,rfl,rfl,ez,eb,?_⟩
 generalize freshS nm (fr y++fr tu)=z at *
 rw[mb_app,Bool.or_eq_false_iff] at hz2
 have hzb:∀ s,s∈fr y→s≠nm→s≠z:=fun s hs _ e=>by rw[e] at hs;rw[(mb_iff _ _).2 hs] at hz2;cases hz2.1
 have hsz:=sub1_size hbo (ident_named hz1) hzb (by omega)
 have hso:=sub1_ok (nm:=nm) hbo (ident_named hz1) (by omega)
 exact⟨hso,by omega,by omega⟩
theorem rr_keep {fm y:Tm} {F U:List ByteArray} {nm:ByteArray} (h:(mb nm U&&occT fm F y)=false):repZ fm F U nm y=nm∧repB fm F U nm y=y:=by
 unfold repZ repB;rw[h];exact⟨rfl,rfl⟩
theorem bnl_1 {W:World} {g:Nat} {nm z:ByteArray} (hb:Blk W g 53 (bCells ((nm,nameT z),.slice none 0 0,.slice none 0 0))):BnL (fun _=>True) W [(nm,nameT z)] (.slice (some ⟨g,0,none⟩) 1 1):=by
 have h:W.ownsRow 0 53 8 (.slice (some ⟨g,0,none⟩) 1 1) 1 (flatB [((nm,nameT z),.slice none 0 0,.slice none 0 0)]):=⟨rfl,.inr ⟨g,1,_,rfl,Nat.zero_le _,hb,by omega,by unfold maxLen;omega,rfl,rfl⟩⟩
 exact bnl_of_row (E:=[((nm,nameT z),.slice none 0 0,.slice none 0 0)]) h (fun e he=>by rw[List.mem_singleton.1 he];exact⟨.nil (Or.inl rfl),.nil (Or.inl rfl)⟩) (fun _ _=>trivial)
theorem rsub_1 {y:Tm} {nm z:ByteArray} (hy:OkTm y) (hN:tmN y≤100000) (hD:tmD y≤90000) {W:World} {ok:Nat→Prop} {tk kk:Value} {g:Nat} (h1:TyL ok W y.ty.kids tk) (h2:TmL ok W y.kids kk) (hb:Blk W g 53 (bCells ((nm,nameT z),.slice none 0 0,.slice none 0 0))):
  Calls Tryz.prog 78 #[tmVal y tk kk,.slice (some ⟨g,0,none⟩) 1 1] W (PutP (subT freshS y [(nm,nameT z)]) W):=by
 refine rsub_any hy [(nm,nameT z)] 400000 W ok _ _ _ _ h1 h2 (bnl_1 hb) (fun b hb=>?_) (by simp only[List.length_singleton];omega) (fun x F _=>?_) (by omega)
 ·rw[List.mem_singleton.1 hb]
  refine⟨.mk (by decide) (.mk (by decide) (fun t h=>by cases h)) (fun t h=>by cases h),?_,?_⟩
  ·show tmD (nameT z)≤900000;unfold nameT;simp[tmD,tmDs]
  ·show tmN (nameT z)≤700000;unfold nameT;simp[tmN,tmNs]
 ·have h3:=remL_frB [(nm,nameT z)] x F
  have h4:=frs_len (nameT z)
  have h5:tmN (nameT z)=1:=by unfold nameT;simp[tmN,tmNs]
  have h6:(frB [(nm,nameT z)]).length≤1:=by rw[frB,frB,List.append_nil];show (fr (nameT z)).length≤1;omega
  omega
structure RrE (fm tu:Tm) (okf oku okn okd:Nat→Prop) (fk fkk uk ukk vn vd:Value) (w:World):Prop where
 okm:OkTm fm
 okt:OkTm tu
 un:tmN tu≤100000∧tmN fm≤100000
 f1:TyL okf w fm.ty.kids fk
 f2:TmL okf w fm.kids fkk
 u1:TyL oku w tu.ty.kids uk
 u2:TmL oku w tu.kids ukk
 n1:NmL okn w (fr fm) vn
 n2:NmL okd w (fr tu) vd
theorem RrE.kept {fm tu:Tm} {okf oku okn okd:Nat→Prop} {fk fkk uk ukk vn vd:Value} {w W:World} (h:RrE fm tu okf oku okn okd fk fkk uk ukk vn vd w) (k:Kept (fun _=>False) w W):RrE fm tu okf oku okn okd fk fkk uk ukk vn vd W:=
 ⟨h.okm,h.okt,h.un,h.f1.frame (sK k),h.f2.frame (sK k),h.u1.frame (sK k),h.u2.frame (sK k),h.n1.frame (sK k),h.n2.frame (sK k)⟩
structure RpS (w:World) (ca cf cu:List Value) (op:Int) (z:ByteArray) (N:Int) (ty:Ty) (v:Value) (O base:Nat) (E:List E3) (W:World) (u:Value):Prop where
 row:RowT w base W E u
 a:Blk W w.heap.size 28 ca
 f:Blk W (w.heap.size+1) 28 cf
 t:Blk W (w.heap.size+2) 28 cu
 r:Blk W (w.heap.size+3) 28 z27
 o:Blk W O 28 [.int .i64 op,.string z,.int .i64 N,.int .i64 ty.kind,.string ty.name,v,u]
 ho:w.heap.size+4≤O∧O<base∧base≤W.heap.size
 ty:TyL (fun q=>w.heap.size+4≤q∧q≠O∧q<base) W ty.kids v
section
variable {w W W8:World} {ca cf cu:List Value} {op:Int} {z:ByteArray} {N:Int} {ty:Ty} {v u u8:Value} {O base Y:Nat} {E E8:List E3}
theorem RpS.start (k:Kept (fun _=>False) w W) (hA:Blk W w.heap.size 28 ca) (hF:Blk W (w.heap.size+1) 28 cf) (hT:Blk W (w.heap.size+2) 28 cu) (hR:Blk W (w.heap.size+3) 28 z27) (hO:Blk W O 28 [.int .i64 op,.string z,.int .i64 N,.int .i64 ty.kind,.string ty.name,v,.slice none 0 0]) (ho:w.heap.size+4≤O) (h:TyL (fun q=>w.heap.size+4≤q∧q≠O) W ty.kids v):RpS w ca cf cu op z N ty v O W.heap.size [] W (.slice none 0 0):=
 ⟨RowT.nil k,hA,hF,hT,hR,hO,⟨ho,hO.lt,Nat.le_refl _⟩,h.mono (fun q hq h=>⟨h.1,h.2,hq⟩)⟩
theorem RpS.kept (h:RpS w ca cf cu op z N ty v O base E W u) (k:Kept (fun _=>False) W W8):RpS w ca cf cu op z N ty v O base E W8 u:=
 ⟨h.row.kept k,h.a.kept k (fun h=>h),h.f.kept k (fun h=>h),h.t.kept k (fun h=>h),h.r.kept k (fun h=>h),h.o.kept k (fun h=>h),⟨h.ho.1,h.ho.2.1,Nat.le_trans h.ho.2.2 k.size⟩,h.ty.frame (sK k)⟩
theorem RpS.step (h:RpS w ca cf cu op z N ty v O base E W u) (hg:W.grownBy W8 u.ownBlock) (hr:RowT w base W8 E8 u8):
  Blk W8 O 28 [.int .i64 op,.string z,.int .i64 N,.int .i64 ty.kind,.string ty.name,v,u]∧RpS w ca cf cu op z N ty v O base E8 (W8.setCell ⟨O,6,none⟩ u8) u8:=by
 have kG:=kept_grown1 hg
 have hub:∀ x,u.ownBlock=some x→base≤x:=fun x e=>(h.row.own.lt x e).1
 have hub8:∀ x,u8.ownBlock=some x→base≤x:=fun x e=>(hr.own.lt x e).1
 obtain⟨h1,h2,h3⟩:=h.ho
 have bO:=h.o.kept kG (fun e=>by have:=hub O e;omega)
 have kS:Kept (fun q=>q=O) W8 (W8.setCell ⟨O,6,none⟩ u8):=(Kept.refl (fun q=>q=O) W8).setCell (p:=⟨O,6,none⟩) (Or.inl rfl) _
 refine⟨bO,⟨⟨hr.kp.via1 kS (fun x hx e=>by omega),own_keptT hr.own kS (fun g hg e=>by have:=hub8 g hg;omega),hr.el.frame (Same.of_kept kS (fun q hq e=>by have:=hq.1;omega))⟩,?_,?_,?_,?_,bO.set 6 _,⟨h1,h2,Nat.le_trans h3 (Nat.le_trans kG.size kS.size)⟩,?_⟩⟩
 ·exact (h.a.kept kG (fun e=>by have:=hub _ e;omega)).kept kS (fun e=>by omega)
 ·exact (h.f.kept kG (fun e=>by have:=hub _ e;omega)).kept kS (fun e=>by omega)
 ·exact (h.t.kept kG (fun e=>by have:=hub _ e;omega)).kept kS (fun e=>by omega)
 ·exact (h.r.kept kG (fun e=>by have:=hub _ e;omega)).kept kS (fun e=>by omega)
 ·exact (h.ty.frame (Same.of_kept kG (fun q hq e=>by have:=hub q e;omega))).frame (Same.of_kept kS (fun q hq e=>hq.2.1 e))
theorem RpS.name (h:RpS w ca cf cu op z N ty v O base E W u) (s:ByteArray):RpS w ca cf cu op s N ty v O base E (W.setCell ⟨O,1,none⟩ (.string s)) u:=by
 have kS:Kept (fun q=>q=O) W (W.setCell ⟨O,1,none⟩ (.string s)):=(Kept.refl (fun q=>q=O) W).setCell (p:=⟨O,1,none⟩) (Or.inl rfl) _
 have hub:∀ x,u.ownBlock=some x→base≤x:=fun x e=>(h.row.own.lt x e).1
 obtain⟨h1,h2,h3⟩:=h.ho
 exact⟨⟨h.row.kp.via1 kS (fun x hx e=>by omega),own_keptT h.row.own kS (fun g hg e=>by have:=hub g hg;omega),h.row.el.frame (Same.of_kept kS (fun q hq e=>by have:=hq.1;omega))⟩,h.a.kept kS (fun e=>by omega),h.f.kept kS (fun e=>by omega),h.t.kept kS (fun e=>by omega),h.r.kept kS (fun e=>by omega),h.o.set 1 (.string s),⟨h1,h2,Nat.le_trans h3 kS.size⟩,h.ty.frame (Same.of_kept kS (fun q hq e=>hq.2.1 e))⟩
structure RpY (w:World) (ca cf cu:List Value) (op:Int) (z:ByteArray) (N:Int) (ty:Ty) (v:Value) (O base:Nat) (E:List E3) (Y:Nat) (cy:List Value) (W:World) (u:Value):Prop where
 s:RpS w ca cf cu op z N ty v O base E W u
 el:EL (fun q=>okb base u q∧q≠Y) W E
 own:u.ownBlock≠some Y
 y:Blk W Y 28 cy
 hy:base≤Y
theorem RpY.start (h:RpS w ca cf cu op z N ty v O base E W u) (cy:List Value):RpY w ca cf cu op z N ty v O base E W.heap.size cy (W.alloc (.cells cy.toArray 28)) u:=by
 have k:Kept (fun _=>False) W (W.alloc (.cells cy.toArray 28)):=kR.alloc _
 exact⟨h.kept k,(h.row.el.mono (ok':=fun q=>okb base u q∧q≠W.heap.size) (fun q hq hh=>⟨hh,by omega⟩)).frame (sK k),fun e=>by have:=(h.row.own.lt _ e).2;omega,Blk.new W 28 cy,h.ho.2.2⟩
theorem RpY.kept {cy:List Value} (h:RpY w ca cf cu op z N ty v O base E Y cy W u) (k:Kept (fun _=>False) W W8):RpY w ca cf cu op z N ty v O base E Y cy W8 u:=
 ⟨h.s.kept k,h.el.frame (sK k),h.own,h.y.kept k (fun e=>e),h.hy⟩
theorem RpY.name {cy:List Value} (h:RpY w ca cf cu op z N ty v O base E Y cy W u) (s:ByteArray):RpY w ca cf cu op s N ty v O base E Y cy (W.setCell ⟨O,1,none⟩ (.string s)) u:=by
 have kS:Kept (fun q=>q=O) W (W.setCell ⟨O,1,none⟩ (.string s)):=(Kept.refl (fun q=>q=O) W).setCell (p:=⟨O,1,none⟩) (Or.inl rfl) _
 obtain⟨h1,h2,h3⟩:=h.s.ho
 exact⟨h.s.name s,h.el.frame (Same.of_kept kS (fun q hq e=>by have:=hq.1.1;omega)),h.own,h.y.kept kS (fun e=>by have:=h.hy;omega),h.hy⟩
theorem RpY.put {cy cy':List Value} (h:RpY w ca cf cu op z N ty v O base E Y cy W u) (k:Kept (fun q=>q=Y) W W8) (hb:Blk W8 Y 28 cy'):RpY w ca cf cu op z N ty v O base E Y cy' W8 u:=by
 obtain⟨h1,h2,h3⟩:=h.s.ho
 have h4:=h.hy
 have el:=h.el.frame (Same.of_kept k (fun q hq e=>hq.2 e))
 exact⟨⟨⟨h.s.row.kp.via1 k (fun x hx e=>by omega),own_keptT h.s.row.own k (fun g hg e=>h.own (by rw[hg,e])),el.mono (fun q _ hq=>hq.1)⟩,h.s.a.kept k (fun e=>by omega),h.s.f.kept k (fun e=>by omega),h.s.t.kept k (fun e=>by omega),h.s.r.kept k (fun e=>by omega),h.s.o.kept k (fun e=>by omega),⟨h1,h2,Nat.le_trans h3 k.size⟩,h.s.ty.frame (Same.of_kept k (fun q hq e=>by omega))⟩,el,h.own,hb,h4⟩
end
end Go.Proofs.YtfhedienjnfdcaaGreatDoor
