/- A part. -/
import Derived.Test.YtfhedienjnfdcaaGreatDoorM23
import Derived.Carry
import Derived.Deep.Slices
set_option linter.unusedVariables false
set_option linter.unusedSimpArgs false
set_option maxRecDepth 100000
set_option maxHeartbeats 32000000
namespace Go.Proofs.YtfhedienjnfdcaaGreatDoor
open Go.RowKit
theorem rrd_any {t fm tu:Tm} {ok okf oku:Nat→Prop} {w:World} {tk kk fk fkk uk ukk:Value} (h1:TyL ok w t.ty.kids tk) (h2:TmL ok w t.kids kk) (hs:SmTm big t) (h3:TyL okf w fm.ty.kids fk) (h4:TmL okf w fm.kids fkk) (hs':SmTm big fm) (h5:TyL oku w tu.ty.kids uk) (h6:TmL oku w tu.kids ukk) (hs2:SmTm big tu):
  Calls Tryz.prog 45 #[tmVal t tk kk,tmVal fm fk fkk,tmVal tu uk ukk] w (TmB3 w.heap.size (rplR t fm tu) w):=by
 obtain⟨p0,n0,c0,rfl⟩:=h1.slice
 obtain⟨ma0,mn0,mc0,rfl⟩:=h2.slice
 obtain⟨p1,n1,c1,rfl⟩:=h3.slice
 obtain⟨ma1,mn1,mc1,rfl⟩:=h4.slice
 obtain⟨p2,n2,c2,rfl⟩:=h5.slice
 obtain⟨ma2,mn2,mc2,rfl⟩:=h6.slice
 have HM:=Ld (fun W (k:Kept (fun _=>False) w W)=>(⟨h1.frame (sK k),h2.frame (sK k),h3.frame (sK k),h4.frame (sK k),h5.frame (sK k),h6.frame (sK k)⟩:_∧_∧_∧_∧_∧_))
 have HSM:Hid (SmTm big t∧SmTm big fm∧SmTm big tu):=Ld ⟨hs,hs',hs2⟩
 have S1:Hid (St4 w [Value.int .i64 t.op,.string t.name,.int .i64 t.n,.int .i64 t.ty.kind,.string t.ty.name,.slice p0 n0 c0,.slice ma0 mn0 mc0] [Value.int .i64 fm.op,.string fm.name,.int .i64 fm.n,.int .i64 fm.ty.kind,.string fm.ty.name,.slice p1 n1 c1,.slice ma1 mn1 mc1] [Value.int .i64 tu.op,.string tu.name,.int .i64 tu.n,.int .i64 tu.ty.kind,.string tu.ty.name,.slice p2 n2 c2,.slice ma2 mn2 mc2] ((((w.alloc (.cells #[.int .i64 t.op,.string t.name,.int .i64 t.n,.int .i64 t.ty.kind,.string t.ty.name,.slice p0 n0 c0,.slice ma0 mn0 mc0] 28)).alloc (.cells #[.int .i64 fm.op,.string fm.name,.int .i64 fm.n,.int .i64 fm.ty.kind,.string fm.ty.name,.slice p1 n1 c1,.slice ma1 mn1 mc1] 28)).alloc (.cells #[.int .i64 tu.op,.string tu.name,.int .i64 tu.n,.int .i64 tu.ty.kind,.string tu.ty.name,.slice p2 n2 c2,.slice ma2 mn2 mc2] 28)).alloc Z7)):=Ld ⟨(((kR.alloc _).alloc _).alloc _).alloc _,by simp,(((Blk.new w 28 [Value.int .i64 t.op,.string t.name,.int .i64 t.n,.int .i64 t.ty.kind,.string t.ty.name,.slice p0 n0 c0,.slice ma0 mn0 mc0]).alloc _).alloc _).alloc _,((Blk.new' 28 [Value.int .i64 fm.op,.string fm.name,.int .i64 fm.n,.int .i64 fm.ty.kind,.string fm.ty.name,.slice p1 n1 c1,.slice ma1 mn1 mc1] (by simp)).alloc _).alloc _,(Blk.new' 28 [Value.int .i64 tu.op,.string tu.name,.int .i64 tu.n,.int .i64 tu.ty.kind,.string tu.ty.name,.slice p2 n2 c2,.slice ma2 mn2 mc2] (by simp)).alloc _,Blk.new' 28 _ (by simp)⟩
 clear h1 h2 h3 h4 h5 h6 hs hs' hs2
 change Calls Tryz.prog 45 #[.agg #[.int .i64 t.op,.string t.name,.int .i64 t.n,.int .i64 t.ty.kind,.string t.ty.name,.slice p0 n0 c0,.slice ma0 mn0 mc0],.agg #[.int .i64 fm.op,.string fm.name,.int .i64 fm.n,.int .i64 fm.ty.kind,.string fm.ty.name,.slice p1 n1 c1,.slice ma1 mn1 mc1],.agg #[.int .i64 tu.op,.string tu.name,.int .i64 tu.n,.int .i64 tu.ty.kind,.string tu.ty.name,.slice p2 n2 c2,.slice ma2 mn2 mc2]] w _
 go_enter Tryz.func45,Tryz.ntmps45
 go_upto_region 1 with (fail)
 generalize ((((w.alloc (.cells #[.int .i64 t.op,.string t.name,.int .i64 t.n,.int .i64 t.ty.kind,.string t.ty.name,.slice p0 n0 c0,.slice ma0 mn0 mc0] 28)).alloc (.cells #[.int .i64 fm.op,.string fm.name,.int .i64 fm.n,.int .i64 fm.ty.kind,.string fm.ty.name,.slice p1 n1 c1,.slice ma1 mn1 mc1] 28)).alloc (.cells #[.int .i64 tu.op,.string tu.name,.int .i64 tu.n,.int .i64 tu.ty.kind,.string tu.ty.name,.slice p2 n2 c2,.slice ma2 mn2 mc2] 28)).alloc Z7)=w1 at *
 go_cut [31] (fun v wc=>v=.bool (!(validB t&&validB fm&&validB tu))∧St4 w [Value.int .i64 t.op,.string t.name,.int .i64 t.n,.int .i64 t.ty.kind,.string t.ty.name,.slice p0 n0 c0,.slice ma0 mn0 mc0] [Value.int .i64 fm.op,.string fm.name,.int .i64 fm.n,.int .i64 fm.ty.kind,.string fm.ty.name,.slice p1 n1 c1,.slice ma1 mn1 mc1] [Value.int .i64 tu.op,.string tu.name,.int .i64 tu.n,.int .i64 tu.ty.kind,.string tu.ty.name,.slice p2 n2 c2,.slice ma2 mn2 mc2] wc)
 case first=>
  have gT:=S1.out.2.2.1.cell
  go_wp2_with fail
  clear gT
  refine (rvalid_any (HM.out w1 S1.out.1).1 (HM.out w1 S1.out.1).2.1 HSM.out.1).mono ?_
  rintro e w2 ⟨rfl,k2⟩
  have S2:=Ld (S1.out.kept k2)
  clear k2 S1
  cases hvt:validB t
  ·go_wp2_with fail
   go_meet
   case rel=>exact⟨by rw[hvt];rfl,S2.out⟩
  ·have gF:=S2.out.2.2.2.1.cell
   go_wp2_with fail
   clear gF
   refine (rvalid_any (HM.out w2 S2.out.1).2.2.1 (HM.out w2 S2.out.1).2.2.2.1 HSM.out.2.1).mono ?_
   rintro e w3 ⟨rfl,k3⟩
   have S3:=Ld (S2.out.kept k3)
   clear k3 S2
   cases hvf:validB fm
   ·go_wp2_with fail
    go_meet
    case rel=>exact⟨by rw[hvt,hvf];rfl,S3.out⟩
   ·have gU:=S3.out.2.2.2.2.1.cell
    go_wp2_with fail
    clear gU
    refine (rvalid_any (HM.out w3 S3.out.1).2.2.2.2.1 (HM.out w3 S3.out.1).2.2.2.2.2 HSM.out.2.2).mono ?_
    rintro e w4 ⟨rfl,k4⟩
    have S4:=Ld (S3.out.kept k4)
    clear k4 S3
    go_wp2_with fail
    go_meet
    case rel=>exact⟨by rw[hvt,hvf];simp,S4.out⟩
 case rest=>
  obtain⟨rfl,hS⟩:=hcut
  have S2:=Ld hS
  clear hS S1
  generalize wc=w2 at *
  cases hv:(validB t&&validB fm&&validB tu)
  case false=>
   have HQ:=Ld (rplR_bad hv)
   have lR:=S2.out.2.2.2.2.2.lt
   have gR:∀ i,w2.cell? ⟨w.heap.size+3,i,none⟩=[Value.int .i64 0,.string ⟨#[]⟩,.int .i64 0,.int .i64 0,.string ⟨#[]⟩,.slice none 0 0,.slice none 0 0][i]?:=S2.out.2.2.2.2.2.cell
   have fR:=S2.out.2.2.2.2.2.frozen
   clear HM hv
   go_wp2_with fail
   exact bodyPost_ret (results_ctt Tryz.results45 rfl (load_tm (t:=tm0) (r7 S2.out.2.2.2.2.2 rfl))) rfl ⟨_,_,by rw[HQ.out];rfl,by rw[HQ.out];exact .nil (Or.inl rfl),by rw[HQ.out];exact .nil (Or.inl rfl),k7w S2.out.1 (Or.inr (by omega))⟩
  case true=>
   have HV3:Hid (validB t=true∧validB fm=true∧validB tu=true):=Ld (by rw[Bool.and_eq_true,Bool.and_eq_true] at hv;exact⟨hv.1.1,hv.1.2,hv.2⟩)
   have HQ:=Ld (rplR_of HV3.out.1 HV3.out.2.1 HV3.out.2.2)
   have HQB:=Ld (rpO_big HV3.out.1 HV3.out.2.1 HV3.out.2.2)
   have HO3:Hid (OkTm t∧OkTm fm∧OkTm tu∧(tmN t≤2000∧tmN fm≤2000∧tmN tu≤2000)∧(tmD t≤64∧tmD fm≤64∧tmD tu≤64)):=Ld (by have e1:=(valid_iff t).1 HV3.out.1;have e2:=(valid_iff fm).1 HV3.out.2.1;have e3:=(valid_iff tu).1 HV3.out.2.2;exact⟨e1.1,e2.1,e3.1,⟨e1.2.1,e2.2.1,e3.2.1⟩,e1.2.2,e2.2.2,e3.2.2⟩)
   have HOUT:=Ld (rpO_db HV3.out.1 HV3.out.2.1 HV3.out.2.2).1
   have HSZ:Hid (szA t=(tmN t:Int)∧szA fm=(tmN fm:Int)∧szA tu=(tmN tu:Int)):=Ld (by unfold szA;rw[HV3.out.1,HV3.out.2.1,HV3.out.2.2];exact⟨rfl,rfl,rfl⟩)
   have HCN:Hid (cntT fm (fr fm) t≤2000):=Ld (by have:=cnt_le fm (fr fm) t;have:=HO3.out;omega)
   have HAR:Hid ((cntT fm (fr fm) t:Int)*((tmN tu:Int)-(tmN fm:Int))=(tmN (rpO t fm tu):Int)-(tmN t:Int)∧tmN (rpO t fm tu)≤4002000):=Ld ⟨by have:=rpO_int HV3.out.1 HV3.out.2.1 HV3.out.2.2;omega,by
    have h:=rpO_size HV3.out.1 HV3.out.2.1 HV3.out.2.2
    have h2:cntT fm (fr fm) t*tmN tu≤2000*2000:=Nat.mul_le_mul HCN.out HO3.out.2.2.2.1.2.2
    have h3:=HO3.out
    omega⟩
   have HLN:Hid ((fr fm).length≤2000∧(fr tu).length≤2000):=Ld (by have e1:=frs_len fm;have e2:=frs_len tu;have:=HO3.out;omega)
   clear hv HV3
   go_upto_region 3 with (fail)
   have KD:Kept (fun _=>False) w2 (World.drew w2):=kR.drew
   refine wp_region_mono (L:=Kept (fun _=>False)) (fun i v W=>match i with
           | 0=>v=.agg #[.int .i64 fm.op,.string fm.name,.int .i64 fm.n,.int .i64 fm.ty.kind,.string fm.ty.name,.slice p1 n1 c1,.slice ma1 mn1 mc1]
           | 1=>NmL (fun _=>True) W (fr fm) v
           | 2=>v=.agg #[.int .i64 tu.op,.string tu.name,.int .i64 tu.n,.int .i64 tu.ty.kind,.string tu.ty.name,.slice p2 n2 c2,.slice ma2 mn2 mc2]
           | 3=>NmL (fun _=>True) W (fr tu) v
           | _=>True) [4,5] [] 77 (by kernel_rfl) rfl (by kernel_rfl) (by kernel_rfl) (fun w=>Kept.refl _ w) (fun _ _ _ h1 h2=>h1.trans h2) (fun c d v a w h=>by cases d <;> exact h) ?_ ?_
   ·refine allM_cons rfl (stepM_of [] rfl fun W k'=>allV_nil ?_) ?_
    ·have q:=KD.trans k'
     have gF:=(S2.out.2.2.2.1.kept q (fun e=>e)).cell
     refine opW_go rfl fun K hK=>?_
     go_simp
     exact hK _ _ (KT.mk kR rfl 33 rfl rfl)
    refine allM_cons rfl (stepM_of [0] rfl fun W k'=>allV_some 33 rfl fun v0 h0=>allV_nil ?_) ?_
    ·obtain⟨w1,k1,rfl⟩:=h0
     refine opW_go rfl fun K hK=>?_
     go_simp
     go_at_call 88
     have q:=KD.trans k'
     have kW:=S2.out.1.trans q
     refine (rfree_any (ok_bd HO3.out.2.1) [] W _ (fun _=>True) _ _ _ (HM.out W kW).2.2.1 (HM.out W kW).2.2.2.1 .nil (by have:=HO3.out;simp;omega) (by have:=HO3.out;omega)).mono ?_
     rw[frL_nil]
     rintro e w' ⟨v',rfl,h7⟩
     exact hK _ _ (KT.mk h7.kp rfl 34 rfl (h7.nml.mono (fun _ _ _=>trivial)))
    refine allM_cons rfl (stepM_of [] rfl fun W k'=>allV_nil ?_) ?_
    ·have q:=KD.trans k'
     have gU:=(S2.out.2.2.2.2.1.kept q (fun e=>e)).cell
     refine opW_go rfl fun K hK=>?_
     go_simp
     exact hK _ _ (KT.mk kR rfl 35 rfl rfl)
    refine allM_cons rfl (stepM_of [2,1] rfl fun W k'=>allV_some 35 rfl fun v0 h0=>allV_some 34 rfl fun v1 h1=>allV_nil ?_) ?_
    ·obtain⟨w1,k1,rfl⟩:=h0
     clear h1
     refine opW_go rfl fun K hK=>?_
     go_simp
     go_at_call 88
     have q:=KD.trans k'
     have kW:=S2.out.1.trans q
     refine (rfree_any (ok_bd HO3.out.2.2.1) [] W _ (fun _=>True) _ _ _ (HM.out W kW).2.2.2.2.1 (HM.out W kW).2.2.2.2.2 .nil (by have:=HO3.out;simp;omega) (by have:=HO3.out;omega)).mono ?_
     rw[frL_nil]
     rintro e w' ⟨v',rfl,h7⟩
     exact hK _ _ (KT.mk h7.kp rfl 36 rfl (h7.nml.mono (fun _ _ _=>trivial)))
    refine allM_tail rfl ?_
    refine allM_tail rfl ?_
    exact allM_nil
   ·intro W kW
    have hh:(List.range 6).filter (fun i=>!([4,5]:List Nat).contains i)=[0,1,2,3]:=by decide
    change allV _ _ _ _ _ ((List.range 6).filter (fun i=>!([4,5]:List Nat).contains i)) _
    rw[hh]
    generalize hKK:(fun a1=>wpList Tryz.prog _ _ (pickT [4,5] 0 _) a1 W)=KK
    refine allV_some 33 (by kernel_rfl) ?_
    intro v0 h0
    refine allV_some 34 (by kernel_rfl) ?_
    intro v1 h1
    refine allV_some 35 (by kernel_rfl) ?_
    intro v2 h2
    refine allV_some 36 (by kernel_rfl) ?_
    intro v3 h3
    refine allV_nil ?_
    clear h0
    obtain⟨w1,k1,m1⟩:=h1
    clear h2
    obtain⟨w3,k3,m2⟩:=h3
    subst hKK
    have S3:=Ld (S2.out.kept (KD.trans kW))
    have HN1:=Ld (m1.frame (sK k1))
    have HN2:=Ld (m2.frame (sK k3))
    obtain⟨la,lc,hv1⟩:=m1.slice
    obtain⟨da,dc,hv2⟩:=m2.slice
    subst hv1
    subst hv2
    clear m1 m2 KD kW k1 k3 hh S2
    show wpList Tryz.prog _ _ [_,_] _ W
    simp only[Act.put,List.setIfInBounds_toArray,List.set_cons_succ,List.set_cons_zero]
    go_upto_region 4 with (fail)
    have gT:=S3.out.2.2.1.cell
    have gF:∀ i,W.cell? ⟨w.heap.size+1,i,none⟩=[Value.int .i64 fm.op,.string fm.name,.int .i64 fm.n,.int .i64 fm.ty.kind,.string fm.ty.name,.slice p1 n1 c1,.slice ma1 mn1 mc1][i]?:=S3.out.2.2.2.1.cell
    have HC:=Ld (rcn_any (ok_bd HO3.out.1) fm (fr fm) W _ _ _ _ _ _ _ _ (HM.out W S3.out.1).1 (HM.out W S3.out.1).2.1 (HM.out W S3.out.1).2.2.1 (HM.out W S3.out.1).2.2.2.1 HN1.out (by have:=HLN.out;omega) (by have:=HO3.out;omega) (by have:=HO3.out;omega))
    unfold tmVal at HC
    go_wp2_with fail
    clear gT gF
    refine HC.out.mono ?_
    rintro e w4 ⟨rfl,k4⟩
    have S4:=Ld (S3.out.kept k4)
    have N41:=Ld (HN1.out.frame (sK k4))
    have N42:=Ld (HN2.out.frame (sK k4))
    clear k4 S3 HN1 HN2 HC
    have gT:=S4.out.2.2.1.cell
    go_wp2_with fail
    clear gT
    refine (rsize_of (HM.out w4 S4.out.1).1 (HM.out w4 S4.out.1).2.1 HSM.out.1).mono ?_
    rw[HSZ.out.1]
    rintro e w5 ⟨rfl,k5⟩
    have S5:=Ld (S4.out.kept k5)
    have N51:=Ld (N41.out.frame (sK k5))
    have N52:=Ld (N42.out.frame (sK k5))
    clear k5 S4 N41 N42
    have gF:∀ i,w5.cell? ⟨w.heap.size+1,i,none⟩=[Value.int .i64 fm.op,.string fm.name,.int .i64 fm.n,.int .i64 fm.ty.kind,.string fm.ty.name,.slice p1 n1 c1,.slice ma1 mn1 mc1][i]?:=S5.out.2.2.2.1.cell
    go_wp2_with fail
    clear gF
    refine (rsize_of (HM.out w5 S5.out.1).2.2.1 (HM.out w5 S5.out.1).2.2.2.1 HSM.out.2.1).mono ?_
    rw[HSZ.out.2.1]
    rintro e w6 ⟨rfl,k6⟩
    have S6:=Ld (S5.out.kept k6)
    have N61:=Ld (N51.out.frame (sK k6))
    have N62:=Ld (N52.out.frame (sK k6))
    clear k6 S5 N51 N52
    have gU:∀ i,w6.cell? ⟨w.heap.size+2,i,none⟩=[Value.int .i64 tu.op,.string tu.name,.int .i64 tu.n,.int .i64 tu.ty.kind,.string tu.ty.name,.slice p2 n2 c2,.slice ma2 mn2 mc2][i]?:=S6.out.2.2.2.2.1.cell
    go_wp2_with fail
    clear gU
    refine (rsize_of (HM.out w6 S6.out.1).2.2.2.2.1 (HM.out w6 S6.out.1).2.2.2.2.2 HSM.out.2.2).mono ?_
    rw[HSZ.out.2.2]
    rintro e w7 ⟨rfl,k7⟩
    have S7:=Ld (S6.out.kept k7)
    have N71:=Ld (N61.out.frame (sK k7))
    have N72:=Ld (N62.out.frame (sK k7))
    clear k7 S6 N61 N62
    have hw1:wrap64 ((tmN tu:Int)-(tmN fm:Int))=(tmN tu:Int)-(tmN fm:Int):=by have:=HO3.out;unfold wrap64;omega
    have hw2:wrap64 ((cntT fm (fr fm) t:Int)*((tmN tu:Int)-(tmN fm:Int)))=(tmN (rpO t fm tu):Int)-(tmN t:Int):=by rw[HAR.out.1];have:=HAR.out.2;have:=HO3.out;unfold wrap64;omega
    have hw3:wrap64 ((tmN t:Int)+((tmN (rpO t fm tu):Int)-(tmN t:Int)))=(tmN (rpO t fm tu):Int):=by have:=HAR.out.2;unfold wrap64;omega
    by_cases hbig:2000<tmN (rpO t fm tu)
    ·have t3:decide ((2000:Int)<(tmN (rpO t fm tu):Int))=true:=decide_eq_true (by omega)
     have HQ2:=Ld (HQB.out hbig)
     have lR:=S7.out.2.2.2.2.2.lt
     have gR:∀ i,w7.cell? ⟨w.heap.size+3,i,none⟩=[Value.int .i64 0,.string ⟨#[]⟩,.int .i64 0,.int .i64 0,.string ⟨#[]⟩,.slice none 0 0,.slice none 0 0][i]?:=S7.out.2.2.2.2.2.cell
     have fR:=S7.out.2.2.2.2.2.frozen
     clear HQB HQ HAR hbig HOUT HM
     go_upto_if 63 with (fail)
     try rw[hw1]
     try rw[hw2]
     try rw[hw3]
     go_wp2_with fail
     exact bodyPost_ret (results_ctt Tryz.results45 rfl (load_tm (t:=tm0) (r7 S7.out.2.2.2.2.2 rfl))) rfl ⟨_,_,by rw[HQ2.out];rfl,by rw[HQ2.out];exact .nil (Or.inl rfl),by rw[HQ2.out];exact .nil (Or.inl rfl),k7w S7.out.1 (Or.inr (by omega))⟩
    ·have t3:decide ((2000:Int)<(tmN (rpO t fm tu):Int))=false:=decide_eq_false (by omega)
     have gT:=S7.out.2.2.1.cell
     have gF:∀ i,w7.cell? ⟨w.heap.size+1,i,none⟩=[Value.int .i64 fm.op,.string fm.name,.int .i64 fm.n,.int .i64 fm.ty.kind,.string fm.ty.name,.slice p1 n1 c1,.slice ma1 mn1 mc1][i]?:=S7.out.2.2.2.1.cell
     have gU:∀ i,w7.cell? ⟨w.heap.size+2,i,none⟩=[Value.int .i64 tu.op,.string tu.name,.int .i64 tu.n,.int .i64 tu.ty.kind,.string tu.ty.name,.slice p2 n2 c2,.slice ma2 mn2 mc2][i]?:=S7.out.2.2.2.2.1.cell
     have HR:=Ld (rr_any (tmD t) t fm tu w7 _ _ _ _ _ _ _ _ _ _ _ _ _ HO3.out.1 (Nat.le_refl _) (by have:=HO3.out;omega) (by have:=HO3.out;omega) (HM.out w7 S7.out.1).1 (HM.out w7 S7.out.1).2.1 ⟨HO3.out.2.1,HO3.out.2.2.1,by have:=HO3.out;omega,(HM.out w7 S7.out.1).2.2.1,(HM.out w7 S7.out.1).2.2.2.1,(HM.out w7 S7.out.1).2.2.2.2.1,(HM.out w7 S7.out.1).2.2.2.2.2,N71.out,N72.out⟩)
     change Hid (Calls _ _ _ _ (PutP (rpO t fm tu) w7)) at HR
     unfold PutP tmVal at HR
     clear HQB HAR HM N71 N72
     go_upto_if 63 with (fail)
     try rw[hw1]
     try rw[hw2]
     try rw[hw3]
     clear hw1 hw2 hw3
     generalize rpO t fm tu=r at *
     generalize cntT fm (fr fm) t=d at *
     go_wp2_with fail
     clear gT gF gU
     refine HR.out.mono ?_
     rintro e w8 ⟨tk,kk,rfl,hty,htm,k8⟩
     obtain⟨x1,x2,x3,rfl⟩:=hty.slice
     obtain⟨y1,y2,y3,rfl⟩:=htm.slice
     have S8:=Ld (S7.out.kept k8)
     have LQ:=Ld S7.out.2.1
     have T8:=Ld hty
     have M8:=Ld htm
     clear hty htm k8 HR S7
     go_upto_region 11 with (fail)
     have K9:Kept (fun _=>False) w8 (w8.alloc (.cells #[.int .i64 r.op,.string r.name,.int .i64 r.n,.int .i64 r.ty.kind,.string r.ty.name,.slice x1 x2 x3,.slice y1 y2 y3] 28)):=kR.alloc _
     have S9:=Ld (S8.out.kept K9)
     have T9:=Ld (T8.out.frame (sK K9))
     have M9:=Ld (M8.out.frame (sK K9))
     have BP:=Ld (Blk.new w8 28 [Value.int .i64 r.op,.string r.name,.int .i64 r.n,.int .i64 r.ty.kind,.string r.ty.name,.slice x1 x2 x3,.slice y1 y2 y3])
     change Hid (Blk (w8.alloc (.cells #[.int .i64 r.op,.string r.name,.int .i64 r.n,.int .i64 r.ty.kind,.string r.ty.name,.slice x1 x2 x3,.slice y1 y2 y3] 28)) _ _ _) at BP
     have LP:Hid (w.heap.size+4≤w8.heap.size):=Ld S8.out.2.1
     clear S8 T8 M8 K9
     generalize w8.alloc (.cells #[.int .i64 r.op,.string r.name,.int .i64 r.n,.int .i64 r.ty.kind,.string r.ty.name,.slice x1 x2 x3,.slice y1 y2 y3] 28)=w9 at *
     generalize w8.heap.size=P at *
     have gP:=BP.out.cell
     have HV:=Ld (rvalid_any T9.out M9.out (ok_smt HOUT.out))
     go_wp2_with fail
     clear gP
     refine HV.out.mono ?_
     rintro e w10 ⟨rfl,k10⟩
     have S10:=Ld (S9.out.kept k10)
     have T10:=Ld (T9.out.frame (sK k10))
     have M10:=Ld (M9.out.frame (sK k10))
     have BP10:=Ld (BP.out.kept k10 (fun e=>e))
     clear k10 HV BP S9 T9 M9
     have lR:=S10.out.2.2.2.2.2.lt
     have gR:∀ i,w10.cell? ⟨w.heap.size+3,i,none⟩=[Value.int .i64 0,.string ⟨#[]⟩,.int .i64 0,.int .i64 0,.string ⟨#[]⟩,.slice none 0 0,.slice none 0 0][i]?:=S10.out.2.2.2.2.2.cell
     have fR:=S10.out.2.2.2.2.2.frozen
     cases hv:validB r
     ·have HQ2:Hid (rplR t fm tu=(tm0,0,5)):=Ld (by rw[HQ.out,hv];rfl)
      clear HQ hv
      go_wp2_with fail
      exact bodyPost_ret (results_ctt Tryz.results45 rfl (load_tm (t:=tm0) (r7 S10.out.2.2.2.2.2 rfl))) rfl ⟨_,_,by rw[HQ2.out];rfl,by rw[HQ2.out];exact .nil (Or.inl rfl),by rw[HQ2.out];exact .nil (Or.inl rfl),k7w S10.out.1 (Or.inr (by omega))⟩
     ·have HQ2:Hid (rplR t fm tu=(r,d,0)):=Ld (by rw[HQ.out,hv];rfl)
      have gP:=BP10.out.cell
      clear HQ hv
      go_wp2_with fail
      exact bodyPost_ret (results_ctt Tryz.results45 rfl (load_tm (t:=r) (r7 S10.out.2.2.2.2.2 rfl))) rfl ⟨_,_,by rw[HQ2.out];rfl,by rw[HQ2.out];exact (T10.out.frame (set7 (fun q hq=>by have:=LQ.out;have h5:w7.heap.size≤q:=hq;omega))).mono (fun q _ hq=>by have:=LQ.out;have h5:w7.heap.size≤q:=hq;omega),by rw[HQ2.out];exact (M10.out.frame (set7 (fun q hq=>by have:=LQ.out;have h5:w7.heap.size≤q:=hq;omega))).mono (fun q _ hq=>by have:=LQ.out;have h5:w7.heap.size≤q:=hq;omega),k7w S10.out.1 (Or.inr (by omega))⟩
theorem tmEq_self (t:Tm):tmEq t t=true:=(tmEq_iff t t).2 rfl
theorem okz_bd {t:Tm} (h:OkZ t):BdTm t:=by
 rcases h with h | rfl
 ·exact ok_bd h
 ·exact .mk (by decide) (.mk (by decide) (fun t h=>by cases h)) (fun t h=>by cases h)
theorem rl_any {a b c:Tm} {w:World} {tk kk tk' kk' tk2 kk2:Value} (hgl:Gl w) (hp:P10 w) (h1:TyL (fun _=>True) w a.ty.kids tk) (h2:TmL (fun _=>True) w a.kids kk) (ha:SmTm big a) (h3:TyL (fun _=>True) w b.ty.kids tk') (h4:TmL (fun _=>True) w b.kids kk') (hb:SmTm big b) (h5:TyL (fun _=>True) w c.ty.kids tk2) (h6:TmL (fun _=>True) w c.kids kk2) (hc:SmTm big c):
  Calls Tryz.prog 13 #[tmVal a tk kk,tmVal b tk' kk',tmVal c tk2 kk2] w (EsOk w):=by
 obtain⟨p0,n0,c0,rfl⟩:=h1.slice
 obtain⟨ma0,mn0,mc0,rfl⟩:=h2.slice
 obtain⟨p1,n1,c1,rfl⟩:=h3.slice
 obtain⟨ma1,mn1,mc1,rfl⟩:=h4.slice
 obtain⟨p2,n2,c2,rfl⟩:=h5.slice
 obtain⟨ma2,mn2,mc2,rfl⟩:=h6.slice
 have H15:=Ld (fun W (k:Kept (fun _=>False) w W)=>awake_any W (hgl.kept k (fun h=>h) (fun h=>h)))
 have HX:=Ld (fun W (k:Kept (fun _=>False) w W)=>prd_any (h1.frame (sK k)) (h2.frame (sK k)) ha (h3.frame (sK k)) (h4.frame (sK k)) hb (h5.frame (sK k)) (h6.frame (sK k)) hc (hp.kept k))
 have HY:=Ld (fun W (k:Kept (fun _=>False) w W)=>rrd_any (h1.frame (sK k)) (h2.frame (sK k)) ha (h3.frame (sK k)) (h4.frame (sK k)) hb (h5.frame (sK k)) (h6.frame (sK k)) hc)
 have HOK:=Ld (rplR_ok a b c)
 clear h1 h2 ha hgl hp h3 h4 hb h5 h6 hc
 unfold tmVal at HX HY ⊢
 have B0:Hid (Blk (((w.alloc (.cells #[.int .i64 a.op,.string a.name,.int .i64 a.n,.int .i64 a.ty.kind,.string a.ty.name,.slice p0 n0 c0,.slice ma0 mn0 mc0] 28)).alloc (.cells #[.int .i64 b.op,.string b.name,.int .i64 b.n,.int .i64 b.ty.kind,.string b.ty.name,.slice p1 n1 c1,.slice ma1 mn1 mc1] 28)).alloc (.cells #[.int .i64 c.op,.string c.name,.int .i64 c.n,.int .i64 c.ty.kind,.string c.ty.name,.slice p2 n2 c2,.slice ma2 mn2 mc2] 28)) w.heap.size 28 [Value.int .i64 a.op,.string a.name,.int .i64 a.n,.int .i64 a.ty.kind,.string a.ty.name,.slice p0 n0 c0,.slice ma0 mn0 mc0]∧Blk (((w.alloc (.cells #[.int .i64 a.op,.string a.name,.int .i64 a.n,.int .i64 a.ty.kind,.string a.ty.name,.slice p0 n0 c0,.slice ma0 mn0 mc0] 28)).alloc (.cells #[.int .i64 b.op,.string b.name,.int .i64 b.n,.int .i64 b.ty.kind,.string b.ty.name,.slice p1 n1 c1,.slice ma1 mn1 mc1] 28)).alloc (.cells #[.int .i64 c.op,.string c.name,.int .i64 c.n,.int .i64 c.ty.kind,.string c.ty.name,.slice p2 n2 c2,.slice ma2 mn2 mc2] 28)) (w.heap.size+1) 28 [Value.int .i64 b.op,.string b.name,.int .i64 b.n,.int .i64 b.ty.kind,.string b.ty.name,.slice p1 n1 c1,.slice ma1 mn1 mc1]∧Blk (((w.alloc (.cells #[.int .i64 a.op,.string a.name,.int .i64 a.n,.int .i64 a.ty.kind,.string a.ty.name,.slice p0 n0 c0,.slice ma0 mn0 mc0] 28)).alloc (.cells #[.int .i64 b.op,.string b.name,.int .i64 b.n,.int .i64 b.ty.kind,.string b.ty.name,.slice p1 n1 c1,.slice ma1 mn1 mc1] 28)).alloc (.cells #[.int .i64 c.op,.string c.name,.int .i64 c.n,.int .i64 c.ty.kind,.string c.ty.name,.slice p2 n2 c2,.slice ma2 mn2 mc2] 28)) (w.heap.size+2) 28 [Value.int .i64 c.op,.string c.name,.int .i64 c.n,.int .i64 c.ty.kind,.string c.ty.name,.slice p2 n2 c2,.slice ma2 mn2 mc2]∧Kept (fun _=>False) w (((w.alloc (.cells #[.int .i64 a.op,.string a.name,.int .i64 a.n,.int .i64 a.ty.kind,.string a.ty.name,.slice p0 n0 c0,.slice ma0 mn0 mc0] 28)).alloc (.cells #[.int .i64 b.op,.string b.name,.int .i64 b.n,.int .i64 b.ty.kind,.string b.ty.name,.slice p1 n1 c1,.slice ma1 mn1 mc1] 28)).alloc (.cells #[.int .i64 c.op,.string c.name,.int .i64 c.n,.int .i64 c.ty.kind,.string c.ty.name,.slice p2 n2 c2,.slice ma2 mn2 mc2] 28))):=Ld ⟨((Blk.new w 28 _).alloc _).alloc _,(Blk.new' 28 _ (by simp)).alloc _,Blk.new' 28 _ (by simp),((kR.alloc _).alloc _).alloc _⟩
 go_enter Tryz.func13,Tryz.ntmps13
 go_upto_region 1 with (fail)
 generalize (((w.alloc (.cells #[.int .i64 a.op,.string a.name,.int .i64 a.n,.int .i64 a.ty.kind,.string a.ty.name,.slice p0 n0 c0,.slice ma0 mn0 mc0] 28)).alloc (.cells #[.int .i64 b.op,.string b.name,.int .i64 b.n,.int .i64 b.ty.kind,.string b.ty.name,.slice p1 n1 c1,.slice ma1 mn1 mc1] 28)).alloc (.cells #[.int .i64 c.op,.string c.name,.int .i64 c.n,.int .i64 c.ty.kind,.string c.ty.name,.slice p2 n2 c2,.slice ma2 mn2 mc2] 28))=w1 at *
 have HX3:=Ld (HX.out w1 B0.out.2.2.2)
 generalize rplR a b c=r1 at *
 obtain⟨s1,m1,e1⟩:=r1
 have HBD3:Hid (BdTm s1∧m1≤2000):=Ld ⟨okz_bd HOK.out.1,HOK.out.2.2.2⟩
 clear HX HOK
 have gA:=(B0.out.1).cell
 have gB:∀ i,w1.cell? ⟨(w.heap.size+1),i,none⟩=[Value.int .i64 b.op,.string b.name,.int .i64 b.n,.int .i64 b.ty.kind,.string b.ty.name,.slice p1 n1 c1,.slice ma1 mn1 mc1][i]?:=(B0.out.2.1).cell
 have gC:∀ i,w1.cell? ⟨(w.heap.size+2),i,none⟩=[Value.int .i64 c.op,.string c.name,.int .i64 c.n,.int .i64 c.ty.kind,.string c.ty.name,.slice p2 n2 c2,.slice ma2 mn2 mc2][i]?:=(B0.out.2.2.1).cell
 go_wp2_with fail
 refine HX3.out.mono ?_
 rintro e w3 ⟨tc,kc,rfl,hty,htm,k3⟩
 have hty:TyL _ w3 s1.ty.kids tc:=hty
 have htm:TmL _ w3 s1.kids kc:=htm
 obtain⟨p3,n3,c3,rfl⟩:=hty.slice
 obtain⟨ma3,mn3,mc3,rfl⟩:=htm.slice
 have B1:Hid (Blk w3 w.heap.size 28 [Value.int .i64 a.op,.string a.name,.int .i64 a.n,.int .i64 a.ty.kind,.string a.ty.name,.slice p0 n0 c0,.slice ma0 mn0 mc0]∧Blk w3 (w.heap.size+1) 28 [Value.int .i64 b.op,.string b.name,.int .i64 b.n,.int .i64 b.ty.kind,.string b.ty.name,.slice p1 n1 c1,.slice ma1 mn1 mc1]∧Blk w3 (w.heap.size+2) 28 [Value.int .i64 c.op,.string c.name,.int .i64 c.n,.int .i64 c.ty.kind,.string c.ty.name,.slice p2 n2 c2,.slice ma2 mn2 mc2]∧Kept (fun _=>False) w w3∧TyL (fun _=>True) w3 s1.ty.kids (.slice p3 n3 c3)∧TmL (fun _=>True) w3 s1.kids (.slice ma3 mn3 mc3)):=Ld ⟨(B0.out.1).kept k3 (fun h=>h),(B0.out.2.1).kept k3 (fun h=>h),(B0.out.2.2.1).kept k3 (fun h=>h),(B0.out.2.2.2).trans k3,hty.mono (fun _ _ _=>trivial),htm.mono (fun _ _ _=>trivial)⟩
 clear hty htm k3 HX3 gA gB gC B0
 unfold tmVal
 go_upto_region 2 with (fail)
 have k4:Kept (fun _=>False) w3 (w3.alloc (.cells #[.int .i64 s1.op,.string s1.name,.int .i64 s1.n,.int .i64 s1.ty.kind,.string s1.ty.name,.slice p3 n3 c3,.slice ma3 mn3 mc3] 28)):=kR.alloc _
 have B2:Hid (Blk (w3.alloc (.cells #[.int .i64 s1.op,.string s1.name,.int .i64 s1.n,.int .i64 s1.ty.kind,.string s1.ty.name,.slice p3 n3 c3,.slice ma3 mn3 mc3] 28)) w.heap.size 28 [Value.int .i64 a.op,.string a.name,.int .i64 a.n,.int .i64 a.ty.kind,.string a.ty.name,.slice p0 n0 c0,.slice ma0 mn0 mc0]∧Blk (w3.alloc (.cells #[.int .i64 s1.op,.string s1.name,.int .i64 s1.n,.int .i64 s1.ty.kind,.string s1.ty.name,.slice p3 n3 c3,.slice ma3 mn3 mc3] 28)) (w.heap.size+1) 28 [Value.int .i64 b.op,.string b.name,.int .i64 b.n,.int .i64 b.ty.kind,.string b.ty.name,.slice p1 n1 c1,.slice ma1 mn1 mc1]∧Blk (w3.alloc (.cells #[.int .i64 s1.op,.string s1.name,.int .i64 s1.n,.int .i64 s1.ty.kind,.string s1.ty.name,.slice p3 n3 c3,.slice ma3 mn3 mc3] 28)) (w.heap.size+2) 28 [Value.int .i64 c.op,.string c.name,.int .i64 c.n,.int .i64 c.ty.kind,.string c.ty.name,.slice p2 n2 c2,.slice ma2 mn2 mc2]∧Kept (fun _=>False) w (w3.alloc (.cells #[.int .i64 s1.op,.string s1.name,.int .i64 s1.n,.int .i64 s1.ty.kind,.string s1.ty.name,.slice p3 n3 c3,.slice ma3 mn3 mc3] 28))∧TyL (fun _=>True) (w3.alloc (.cells #[.int .i64 s1.op,.string s1.name,.int .i64 s1.n,.int .i64 s1.ty.kind,.string s1.ty.name,.slice p3 n3 c3,.slice ma3 mn3 mc3] 28)) s1.ty.kids (.slice p3 n3 c3)∧TmL (fun _=>True) (w3.alloc (.cells #[.int .i64 s1.op,.string s1.name,.int .i64 s1.n,.int .i64 s1.ty.kind,.string s1.ty.name,.slice p3 n3 c3,.slice ma3 mn3 mc3] 28)) s1.kids (.slice ma3 mn3 mc3)∧Blk (w3.alloc (.cells #[.int .i64 s1.op,.string s1.name,.int .i64 s1.n,.int .i64 s1.ty.kind,.string s1.ty.name,.slice p3 n3 c3,.slice ma3 mn3 mc3] 28)) w3.heap.size 28 [Value.int .i64 s1.op,.string s1.name,.int .i64 s1.n,.int .i64 s1.ty.kind,.string s1.ty.name,.slice p3 n3 c3,.slice ma3 mn3 mc3]):=Ld ⟨(B1.out.1).kept k4 (fun h=>h),(B1.out.2.1).kept k4 (fun h=>h),(B1.out.2.2.1).kept k4 (fun h=>h),(B1.out.2.2.2.1).trans k4,(B1.out.2.2.2.2.1).frame (sK k4),(B1.out.2.2.2.2.2).frame (sK k4),Blk.new w3 28 _⟩
 clear k4 B1
 generalize w3.alloc (.cells #[.int .i64 s1.op,.string s1.name,.int .i64 s1.n,.int .i64 s1.ty.kind,.string s1.ty.name,.slice p3 n3 c3,.slice ma3 mn3 mc3] 28)=w4 at *
 generalize w3.heap.size=P at *
 have gA:∀ i,w4.cell? ⟨w.heap.size,i,none⟩=[Value.int .i64 a.op,.string a.name,.int .i64 a.n,.int .i64 a.ty.kind,.string a.ty.name,.slice p0 n0 c0,.slice ma0 mn0 mc0][i]?:=(B2.out.1).cell
 have gB:∀ i,w4.cell? ⟨(w.heap.size+1),i,none⟩=[Value.int .i64 b.op,.string b.name,.int .i64 b.n,.int .i64 b.ty.kind,.string b.ty.name,.slice p1 n1 c1,.slice ma1 mn1 mc1][i]?:=(B2.out.2.1).cell
 have gC:∀ i,w4.cell? ⟨(w.heap.size+2),i,none⟩=[Value.int .i64 c.op,.string c.name,.int .i64 c.n,.int .i64 c.ty.kind,.string c.ty.name,.slice p2 n2 c2,.slice ma2 mn2 mc2][i]?:=(B2.out.2.2.1).cell
 have HY3:=Ld (HY.out w4 B2.out.2.2.2.1)
 clear HY
 go_wp2_with fail
 refine HY3.out.mono ?_
 rintro e w5 ⟨tc,kc,rfl,hty,htm,k5⟩
 have hty:TyL _ w5 s1.ty.kids tc:=hty
 have htm:TmL _ w5 s1.kids kc:=htm
 obtain⟨p4,n4,c4,rfl⟩:=hty.slice
 obtain⟨ma4,mn4,mc4,rfl⟩:=htm.slice
 have B3:Hid (Blk w5 w.heap.size 28 [Value.int .i64 a.op,.string a.name,.int .i64 a.n,.int .i64 a.ty.kind,.string a.ty.name,.slice p0 n0 c0,.slice ma0 mn0 mc0]∧Blk w5 (w.heap.size+1) 28 [Value.int .i64 b.op,.string b.name,.int .i64 b.n,.int .i64 b.ty.kind,.string b.ty.name,.slice p1 n1 c1,.slice ma1 mn1 mc1]∧Blk w5 (w.heap.size+2) 28 [Value.int .i64 c.op,.string c.name,.int .i64 c.n,.int .i64 c.ty.kind,.string c.ty.name,.slice p2 n2 c2,.slice ma2 mn2 mc2]∧Kept (fun _=>False) w w5∧TyL (fun _=>True) w5 s1.ty.kids (.slice p3 n3 c3)∧TmL (fun _=>True) w5 s1.kids (.slice ma3 mn3 mc3)∧Blk w5 P 28 [Value.int .i64 s1.op,.string s1.name,.int .i64 s1.n,.int .i64 s1.ty.kind,.string s1.ty.name,.slice p3 n3 c3,.slice ma3 mn3 mc3]∧TyL (fun _=>True) w5 s1.ty.kids (.slice p4 n4 c4)∧TmL (fun _=>True) w5 s1.kids (.slice ma4 mn4 mc4)):=Ld ⟨(B2.out.1).kept k5 (fun h=>h),(B2.out.2.1).kept k5 (fun h=>h),(B2.out.2.2.1).kept k5 (fun h=>h),(B2.out.2.2.2.1).trans k5,(B2.out.2.2.2.2.1).frame (sK k5),(B2.out.2.2.2.2.2.1).frame (sK k5),(B2.out.2.2.2.2.2.2).kept k5 (fun h=>h),hty.mono (fun _ _ _=>trivial),htm.mono (fun _ _ _=>trivial)⟩
 clear hty htm k5 HY3 gA gB gC B2
 unfold tmVal
 go_upto_region 3 with (fail)
 have k6:Kept (fun _=>False) w5 (w5.alloc (.cells #[.int .i64 s1.op,.string s1.name,.int .i64 s1.n,.int .i64 s1.ty.kind,.string s1.ty.name,.slice p4 n4 c4,.slice ma4 mn4 mc4] 28)):=kR.alloc _
 have B4:Hid (Blk (w5.alloc (.cells #[.int .i64 s1.op,.string s1.name,.int .i64 s1.n,.int .i64 s1.ty.kind,.string s1.ty.name,.slice p4 n4 c4,.slice ma4 mn4 mc4] 28)) w.heap.size 28 [Value.int .i64 a.op,.string a.name,.int .i64 a.n,.int .i64 a.ty.kind,.string a.ty.name,.slice p0 n0 c0,.slice ma0 mn0 mc0]∧Blk (w5.alloc (.cells #[.int .i64 s1.op,.string s1.name,.int .i64 s1.n,.int .i64 s1.ty.kind,.string s1.ty.name,.slice p4 n4 c4,.slice ma4 mn4 mc4] 28)) (w.heap.size+1) 28 [Value.int .i64 b.op,.string b.name,.int .i64 b.n,.int .i64 b.ty.kind,.string b.ty.name,.slice p1 n1 c1,.slice ma1 mn1 mc1]∧Blk (w5.alloc (.cells #[.int .i64 s1.op,.string s1.name,.int .i64 s1.n,.int .i64 s1.ty.kind,.string s1.ty.name,.slice p4 n4 c4,.slice ma4 mn4 mc4] 28)) (w.heap.size+2) 28 [Value.int .i64 c.op,.string c.name,.int .i64 c.n,.int .i64 c.ty.kind,.string c.ty.name,.slice p2 n2 c2,.slice ma2 mn2 mc2]∧Kept (fun _=>False) w (w5.alloc (.cells #[.int .i64 s1.op,.string s1.name,.int .i64 s1.n,.int .i64 s1.ty.kind,.string s1.ty.name,.slice p4 n4 c4,.slice ma4 mn4 mc4] 28))∧TyL (fun _=>True) (w5.alloc (.cells #[.int .i64 s1.op,.string s1.name,.int .i64 s1.n,.int .i64 s1.ty.kind,.string s1.ty.name,.slice p4 n4 c4,.slice ma4 mn4 mc4] 28)) s1.ty.kids (.slice p3 n3 c3)∧TmL (fun _=>True) (w5.alloc (.cells #[.int .i64 s1.op,.string s1.name,.int .i64 s1.n,.int .i64 s1.ty.kind,.string s1.ty.name,.slice p4 n4 c4,.slice ma4 mn4 mc4] 28)) s1.kids (.slice ma3 mn3 mc3)∧Blk (w5.alloc (.cells #[.int .i64 s1.op,.string s1.name,.int .i64 s1.n,.int .i64 s1.ty.kind,.string s1.ty.name,.slice p4 n4 c4,.slice ma4 mn4 mc4] 28)) P 28 [Value.int .i64 s1.op,.string s1.name,.int .i64 s1.n,.int .i64 s1.ty.kind,.string s1.ty.name,.slice p3 n3 c3,.slice ma3 mn3 mc3]∧TyL (fun _=>True) (w5.alloc (.cells #[.int .i64 s1.op,.string s1.name,.int .i64 s1.n,.int .i64 s1.ty.kind,.string s1.ty.name,.slice p4 n4 c4,.slice ma4 mn4 mc4] 28)) s1.ty.kids (.slice p4 n4 c4)∧TmL (fun _=>True) (w5.alloc (.cells #[.int .i64 s1.op,.string s1.name,.int .i64 s1.n,.int .i64 s1.ty.kind,.string s1.ty.name,.slice p4 n4 c4,.slice ma4 mn4 mc4] 28)) s1.kids (.slice ma4 mn4 mc4)∧Blk (w5.alloc (.cells #[.int .i64 s1.op,.string s1.name,.int .i64 s1.n,.int .i64 s1.ty.kind,.string s1.ty.name,.slice p4 n4 c4,.slice ma4 mn4 mc4] 28)) w5.heap.size 28 [Value.int .i64 s1.op,.string s1.name,.int .i64 s1.n,.int .i64 s1.ty.kind,.string s1.ty.name,.slice p4 n4 c4,.slice ma4 mn4 mc4]):=Ld ⟨(B3.out.1).kept k6 (fun h=>h),(B3.out.2.1).kept k6 (fun h=>h),(B3.out.2.2.1).kept k6 (fun h=>h),(B3.out.2.2.2.1).trans k6,(B3.out.2.2.2.2.1).frame (sK k6),(B3.out.2.2.2.2.2.1).frame (sK k6),(B3.out.2.2.2.2.2.2.1).kept k6 (fun h=>h),(B3.out.2.2.2.2.2.2.2.1).frame (sK k6),(B3.out.2.2.2.2.2.2.2.2).frame (sK k6),Blk.new w5 28 _⟩
 clear k6 B3
 generalize w5.alloc (.cells #[.int .i64 s1.op,.string s1.name,.int .i64 s1.n,.int .i64 s1.ty.kind,.string s1.ty.name,.slice p4 n4 c4,.slice ma4 mn4 mc4] 28)=w6 at *
 generalize w5.heap.size=Q at *
 have gS:∀ i,w6.cell? ⟨P,i,none⟩=[Value.int .i64 s1.op,.string s1.name,.int .i64 s1.n,.int .i64 s1.ty.kind,.string s1.ty.name,.slice p3 n3 c3,.slice ma3 mn3 mc3][i]?:=(B4.out.2.2.2.2.2.2.1).cell
 have gT:∀ i,w6.cell? ⟨Q,i,none⟩=[Value.int .i64 s1.op,.string s1.name,.int .i64 s1.n,.int .i64 s1.ty.kind,.string s1.ty.name,.slice p4 n4 c4,.slice ma4 mn4 mc4][i]?:=(B4.out.2.2.2.2.2.2.2.2.2).cell
 have HSM:=Ld (rsameTm_any HBD3.out.1 s1 w6 _ _ _ _ _ _ B4.out.2.2.2.2.1 B4.out.2.2.2.2.2.1 B4.out.2.2.2.2.2.2.2.1 B4.out.2.2.2.2.2.2.2.2.1)
 rw[tmEq_self] at HSM
 unfold tmVal at HSM
 have HK6:=Ld B4.out.2.2.2.1
 clear HBD3 B4
 go_wp2_with fail
 refine HSM.out.mono ?_
 rintro e w7 ⟨rfl,k7⟩
 have HK7:=Ld (HK6.out.trans k7)
 clear k7 gS gT HSM HK6
 go_wp2_with fail
 refine (H15.out w7 HK7.out).mono ?_
 rintro e w8 ⟨rfl,k8⟩
 have HK8:=Ld (HK7.out.trans k8)
 clear k8 HK7
 go_wp2_with fail
 go_ret
 exact⟨rfl,HK8.out⟩
end Go.Proofs.YtfhedienjnfdcaaGreatDoor
namespace Go.Proofs.YtfhedienjnfdcaaGreatDoor
open Go.ChangeShapes Go.WideShapes Go.ChangeAt Go.RowKit
theorem gPow : Tryz.prog.globalNamed "internal/strconv.uint64pow10" = some 1 := by kernel_rfl
theorem gPowT:(Tryz.prog.globals[1]?).map (·.type)=some 227:=by kernel_rfl
theorem p10_of_laid {W:World} (h:laidMetH Tryz.prog Rows.termSubstAlikeRow.laid W):P10 W:=by
 have h0:laidMet Tryz.prog Rows.termSubstAlikeRow.laid W:=h
 exact Lib.tabIs_of_head gPow gPowT Tryz.underlying227 Tryz.underlying212 (by kernel_rfl) (by kernel_rfl) h0.tail.tail
end Go.Proofs.YtfhedienjnfdcaaGreatDoor
namespace Go.Proofs.YtfhedienjnfdcaaGreatDoor
open Go.RowKit
section
variable {H:Type} {enc:TypeId×Value→H} {w:World} {spare:Nat→Bool} {held:Bool}
theorem cells_3:Tryz.prog.cellsOf 3=1:=by kernel_rfl
theorem at_some {α:Type} {x:Option α} {l:List α} {i:Nat} (h:x=l[i]?) (hi:i<l.length):∃ y,x=some y:=⟨l[i],by rw[h,List.getElem?_eq_getElem hi]⟩
theorem cell_plain {a:Addr} {v:Value} (h:w.cell? a=some v):a=⟨a.block,a.off,none⟩:=by
 obtain⟨b,o,sp⟩:=a
 cases sp with
 | none=>rfl
 | some k=>
  unfold World.cell? at h
  cases hb:w.heap[b]? with
  | none=>simp[hb] at h
  | some ob=>cases ob <;> simp[hb] at h
theorem add_plain (b o n:Nat):(⟨b,o,none⟩:Addr).add n=⟨b,o+n,none⟩:=by unfold Addr.add;split <;> simp_all
theorem add_zero (a:Addr):a.add 0=a:=rfl
theorem elems_at {α:Type} {a:Addr} {len k:Nat} {f:List Value→Option α} {elems:List α} (hl:elems.length=len) (hk:0<k) (h:∀ i,i<len→(w.cells? 0 (a.add (i*k)) k).bind f=elems[i]?) (h0:0<len):
  ∃ b o,a=⟨b,o,none⟩∧∀ i,i<len→∃ cs y,cs.length=k∧(∀ j,j<k→w.cell? ⟨b,o+i*k+j,none⟩=cs[j]?)∧f cs=some y:=by
 have hc:∀ i,i<len→∃ cs y,w.cells? 0 (a.add (i*k)) k=some cs∧f cs=some y:=by
  intro i hi
  obtain⟨y,hy⟩:=at_some (h i hi) (by omega)
  obtain⟨cs,h1,h2⟩:=Option.bind_eq_some_iff.1 hy
  exact⟨cs,y,h1,h2⟩
 obtain⟨cs,y,h1,h2⟩:=hc 0 h0
 obtain⟨_,hl',hcell⟩:=World.cells?_some h1
 have h3:=hcell 0 hk
 rw[Nat.zero_mul,add_zero,add_zero,List.getElem?_eq_getElem (by omega)] at h3
 have ha:=cell_plain h3
 refine⟨a.block,a.off,ha,fun i hi=>?_⟩
 obtain⟨cs,y,h1,h2⟩:=hc i hi
 obtain⟨_,hl',hcell⟩:=World.cells?_some h1
 refine⟨cs,y,hl',fun j hj=>?_,h2⟩
 rw[← hcell j hj]
 rw[ha,add_plain,add_plain]
end
end Go.Proofs.YtfhedienjnfdcaaGreatDoor
namespace Go.Proofs.YtfhedienjnfdcaaGreatDoor
open Go.ChangeShapes Go.WideShapes Go.ChangeAt Go.RowKit
theorem below_of_kept {w w':World} (k:Kept (fun _=>False) w w'):Below w.heap.size w w':=⟨k.os,k.tape,k.output,k.size,fun q hq=>k.block q hq (fun e=>e)⟩
theorem laidOut0:laidOutB Tryz.prog=true:=by kernel_rfl
theorem back_of {H:Type} {enc:TypeId×Value→H} {W W':World} {T:TypeId} {v:Value} {d:DataW H} {p:List MemPlace} (h1:Tryz.prog.readableRec T=true) (h2:T<Tryz.prog.types.size) (h:DataW.Trod enc Tryz.prog W 0 (fun _=>true) true T v d p) (k:Kept (fun _=>False) W W') (hlt:∀ x∈p,x.block<W.heap.size):
  DataW.Trod enc Tryz.prog W' 0 (fun b=>decide (b<W.heap.size)) true T v d p:=Below.trod laidOut0 h1 h2 h (below_of_kept k) hlt
theorem size_ok {n:Nat} (h:n<248):n<Tryz.prog.types.size:=Nat.lt_of_lt_of_le h (of_decide_eq_true (by kernel_rfl))
end Go.Proofs.YtfhedienjnfdcaaGreatDoor
