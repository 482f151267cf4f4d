/- A part. -/
import Derived.Test.YtdmebjbkccjhbaaGreatDoorV20
set_option linter.unusedVariables false
set_option linter.unusedSimpArgs false
set_option maxRecDepth 100000
set_option maxHeartbeats 32000000
namespace Go.Proofs.YtdmebjbkccjhbaaGreatDoor
open Go.RowKit
variable {bz:Nat}
theorem rsub_any {t:Tm} (h:OkTm t):RSuC bz t:=by
 induction h with
 | mk hf hn hl ih=>
  rename_i op nm N ty ks
  have hb:BdTm (.mk op nm N ty ks):=.mk (by omega) (formed_bd hf) (fun u hu=>ok_bd (hl u hu))
  by_cases h:op=20
  ·subst h;exact rsub_name hb
  ·exact rsub_one h (formed_bd hf) ih (by omega) (fun u hu=>ok_bd (hl u hu)) (fun hbi=>binder_kids hbi (formed_parts hf).1) (by have:=(formed_sm hf).1;omega)
theorem all_take {l:List (ByteArray×Tm)} {k:Nat} (h:k<l.length):(l.take (k+1)).all vB=((l.take k).all vB&&vB l[k]):=by
 rw[List.take_add_one,List.getElem?_eq_getElem h,List.all_append];simp
theorem all_no {l:List (ByteArray×Tm)} {k:Nat} (h:k<l.length) (hv:vB l[k]=false):l.all vB=false:=by
 rw[← Bool.not_eq_true]
 intro e
 have:=List.all_eq_true.1 e _ (List.getElem_mem h)
 rw[hv] at this;cases this
structure RS2 (w:World) (ce:List Value) (W:World):Prop where
 kp:Kept (fun _=>False) w W
 a:Blk W w.heap.size 27 ce
 r:Blk W (w.heap.size+1) 27 z27
theorem RS2.kept {w W W':World} {ce:List Value} (h:RS2 w ce W) (q:Kept (fun _=>False) W W'):RS2 w ce W':=⟨h.kp.trans q,h.a.kept q (fun e=>e),h.r.kept q (fun e=>e)⟩
theorem rsubst_any {t:Tm} {l:List (ByteArray×Tm)} {ok okb:Nat→Prop} {w:World} {tk kk vl:Value} (h1:TyL bz ok w t.ty.kids tk) (h2:TmL bz ok w t.kids kk) (hs:SmTm big t) (hB:BnL bz okb w l vl) (hsb:∀ b,b∈l→SmTm big b.2) (hn:l.length≤200):
  Calls Tryz.prog 63 #[tmVal t tk kk,vl] w (TmB bz w.heap.size (sbstR t l) w):=by
 obtain⟨p,n,c,rfl⟩:=h1.slice
 obtain⟨ma,mn,mc,rfl⟩:=h2.slice
 obtain⟨aa,ac,rfl⟩:=hB.slice
 have HV:=Ld (fun W (k:Kept (fun _=>False) w W)=>rvalid_any (h1.frame (sK k)) (h2.frame (sK k)) hs)
 have HAT:=Ld (fun W (k:Kept (fun _=>False) w W)=>(hB.frame (sK k)).at)
 have HVB:=Ld (fun (k:Nat) (h:k<l.length) W (ok':Nat→Prop) {a:Option Addr} {n c:Nat} {ma:Option Addr} {mn mc:Nat} (h3:TyL bz ok' W l[k].2.ty.kids (.slice a n c)) (h4:TmL bz ok' W l[k].2.kids (.slice ma mn mc))=>rvalid_any h3 h4 (hsb _ (List.getElem_mem h)))
 have HWG:=Ld (fun (hv:validB t=true) (ha:l.all vB=true) W (k:Kept (fun _=>False) w W)=>rwg_any (valid_ok hv) l [] 0 1 W ok okb (fun _=>False) _ _ _ (.slice none 0 0) (h1.frame (sK k)) (h2.frame (sK k)) (hB.frame (sK k)) (fun b hb=>⟨hsb b hb,List.all_eq_true.1 ha b hb⟩) (by omega) NmL.nil (by have:=(valid_iff t).1 hv;simp only[List.length_nil];omega) (by omega) (by have:=(valid_iff t).1 hv;omega))
 have HSU:=Ld (fun (hv:validB t=true) (ha:l.all vB=true) W (k:Kept (fun _=>False) w W)=>rsub_any (valid_ok hv) l 400000 W ok okb _ _ _ (h1.frame (sK k)) (h2.frame (sK k)) (hB.frame (sK k)) (fun b hb=>by
  have h:=(valid_iff b.2).1 (all_vb ha hb)
  exact⟨ok_bd h.1,by omega,by omega⟩) (by have:=(valid_iff t).1 hv;omega) (fun x F _=>by
  have h3:=remL_frB l x F
  have h4:=frB_le ha
  omega) (by have:=(valid_iff t).1 hv;omega))
 have HWV:=Ld (fun (hv:validB t=true) (ha:l.all vB=true)=>wg_valid (valid_ok hv) (vb_okB ha) (by have h3:=(valid_iff t).1 hv;have h4:=frB_le ha;omega))
 have HN:=Ld hn
 have HR:Hid (sbstR t l=if validB t&&l.all vB then (if validB (subT freshS t l) then (subT freshS t l,0) else (tm0,5)) else (tm0,1)):=Ld rfl
 generalize sbstR t l=rr at *
 clear h1 h2 hs hB hsb hn
 unfold tmVal at HWG HSU ⊢
 have S0:Hid (RS2 w [Value.int .i64 t.op,.string t.name,.int .i64 t.n,.int .i64 t.ty.kind,.string t.ty.name,.slice p n c,.slice ma mn mc] ((w.alloc (.cells #[.int .i64 t.op,.string t.name,.int .i64 t.n,.int .i64 t.ty.kind,.string t.ty.name,.slice p n c,.slice ma mn mc] 27)).alloc Z7)):=Ld
  ⟨(kR.alloc _).alloc _,(Blk.new w 27 [Value.int .i64 t.op,.string t.name,.int .i64 t.n,.int .i64 t.ty.kind,.string t.ty.name,.slice p n c,.slice ma mn mc]).alloc _,Blk.new' 27 _ (by simp)⟩
 go_enter Tryz.func63,Tryz.ntmps63
 go_upto_region 1 with (fail)
 generalize ((w.alloc (.cells #[.int .i64 t.op,.string t.name,.int .i64 t.n,.int .i64 t.ty.kind,.string t.ty.name,.slice p n c,.slice ma mn mc] 27)).alloc Z7)=w1 at *
 have gA:∀ i,w1.cell? ⟨w.heap.size,i,none⟩=[Value.int .i64 t.op,.string t.name,.int .i64 t.n,.int .i64 t.ty.kind,.string t.ty.name,.slice p n c,.slice ma mn mc][i]?:=S0.out.a.cell
 have HV1:=Ld (HV.out w1 S0.out.kp)
 clear HV
 cases hv:validB t
 ·rw[hv] at HV1
  have hq:Hid (rr=(tm0,1)):=Ld (by rw[HR.out,hv];rfl)
  clear HR HWG HSU HWV HVB HAT hv
  go_wp2_with fail
  refine HV1.out.mono ?_
  rintro e w2 ⟨rfl,k2⟩
  have S2:=Ld (S0.out.kept k2)
  clear k2 S0 gA HV1
  have gR:∀ i,w2.cell? ⟨w.heap.size+1,i,none⟩=[Value.int .i64 0,.string ⟨#[]⟩,.int .i64 0,.int .i64 0,.string ⟨#[]⟩,.slice none 0 0,.slice none 0 0][i]?:=S2.out.r.cell
  have fR:∀ i,w2.frozen? ⟨w.heap.size+1,i,none⟩=false:=S2.out.r.frozen
  go_wp2_with fail
  exact bodyPost_ret (results_ct Tryz.results63 rfl (load_tm (t:=tm0) (r7 S2.out.r rfl))) rfl ⟨_,_,by rw[hq.out];rfl,by rw[hq.out];exact .nil (Or.inl rfl),by rw[hq.out];exact .nil (Or.inl rfl),k7w S2.out.kp (Or.inr (Nat.le_succ _))⟩
 ·rw[hv] at HV1
  have HWG2:=Ld (HWG.out hv)
  have HSU2:=Ld (HSU.out hv)
  have HWV2:=Ld (HWV.out hv)
  have HR2:Hid (rr=if l.all vB then (if validB (subT freshS t l) then (subT freshS t l,0) else (tm0,5)) else (tm0,1)):=Ld (by rw[HR.out,hv];rfl)
  clear HR HWG HSU HWV hv
  go_wp2_with fail
  refine HV1.out.mono ?_
  rintro e w2 ⟨rfl,k2⟩
  have S2:=Ld (S0.out.kept k2)
  clear k2 S0 gA HV1
  go_wp2_with fail
  go_loopw [6] (fun i wr=>∃ k:Nat,k≤l.length∧i=.int .i64 k∧Hid (RS2 w [Value.int .i64 t.op,.string t.name,.int .i64 t.n,.int .i64 t.ty.kind,.string t.ty.name,.slice p n c,.slice ma mn mc] wr∧(l.take k).all vB=true)) (fun i _=>l.length-(intOf i).toNat)
  case atStart=>exact⟨0,Nat.zero_le _,rfl,Ld ⟨S2.out,rfl⟩⟩
  case round=>
   obtain⟨k,hk,rfl,hq⟩:=hrel
   clear S2
   by_cases hlt:k<l.length
   ·have i1:(k:Int)<(l.length:Int):=by omega
    have i2:(k:Int)<1000000:=by have:=HN.out;omega
    obtain⟨g,off,ta,tn,tc,qa,qn,qc,rfl,hg,lg,c0,⟨d0,d1,d2,d3,d4,d5,d6⟩,hty,htm⟩:=HAT.out wr hq.out.1.kp k hlt
    have HV2:=Ld (HVB.out k hlt wr _ hty htm)
    have HNO:=Ld (all_no hlt)
    have HTK:=Ld (all_take hlt)
    clear hty htm hg lg
    change Hid (Calls _ _ _ _ fun e w'=>e=.returned (.bool (vB l[k]))∧_) at HV2
    cases hvk:vB l[k]
    ·rw[hvk] at HV2
     have hqq:Hid (rr=(tm0,1)):=Ld (by rw[HR2.out,HNO.out hvk];rfl)
     clear HR2 HWG2 HSU2 HWV2 HVB HAT hvk HNO HTK
     go_wp2_with fail
     refine HV2.out.mono ?_
     rintro e w3 ⟨rfl,k3⟩
     have S3:=Ld (hq.out.1.kept k3)
     clear k3 hq HV2 c0 d0 d1 d2 d3 d4 d5 d6
     have gR:∀ i,w3.cell? ⟨w.heap.size+1,i,none⟩=[Value.int .i64 0,.string ⟨#[]⟩,.int .i64 0,.int .i64 0,.string ⟨#[]⟩,.slice none 0 0,.slice none 0 0][i]?:=S3.out.r.cell
     have fR:∀ i,w3.frozen? ⟨w.heap.size+1,i,none⟩=false:=S3.out.r.frozen
     go_wp2_with fail
     exact bodyPost_ret (results_ct Tryz.results63 rfl (load_tm (t:=tm0) (r7 S3.out.r rfl))) rfl ⟨_,_,by rw[hqq.out];rfl,by rw[hqq.out];exact .nil (Or.inl rfl),by rw[hqq.out];exact .nil (Or.inl rfl),k7w S3.out.kp (Or.inr (Nat.le_succ _))⟩
    ·rw[hvk] at HV2
     go_wp2_with fail
     refine HV2.out.mono ?_
     rintro e w3 ⟨rfl,k3⟩
     have S3:=Ld (hq.out.1.kept k3)
     have HA3:Hid ((l.take (k+1)).all vB=true):=Ld (by rw[HTK.out,hq.out.2,hvk];rfl)
     clear k3 hq HV2 c0 d0 d1 d2 d3 d4 d5 d6 hvk HTK HNO
     go_wp2_with fail
     go_roundw
     case rel=>exact⟨k+1,by omega,by go_num,Ld ⟨S3.out,HA3.out⟩⟩
     case measure=>simp[intOf];omega
   ·have hkk:k=l.length:=by omega
    subst hkk
    have HALL:Hid (l.all vB=true):=Ld (by have:=hq.out.2;rwa [List.take_length] at this)
    have S4:=Ld hq.out.1
    have HW4:=Ld (HWG2.out HALL.out wr S4.out.kp)
    have HSU4:=Ld (HSU2.out HALL.out)
    have HWV4:=Ld (HWV2.out HALL.out)
    have HR4:Hid (rr=if validB (subT freshS t l) then (subT freshS t l,0) else (tm0,5)):=Ld (by rw[HR2.out,HALL.out];rfl)
    have gA:∀ i,wr.cell? ⟨w.heap.size,i,none⟩=[Value.int .i64 t.op,.string t.name,.int .i64 t.n,.int .i64 t.ty.kind,.string t.ty.name,.slice p n c,.slice ma mn mc][i]?:=S4.out.a.cell
    clear hq HR2 HWG2 HSU2 HWV2 HALL HVB HAT
    generalize wgT l [] 0 1 t=q at *
    go_wp2_with fail
    refine HW4.out.mono ?_
    rintro e w5 ⟨rfl,k5⟩
    have S5:=Ld (S4.out.kept k5)
    clear k5 S4 HW4 gA
    cases q with
    | none=>
     have hq:Hid (rr=(tm0,5)):=Ld (by rw[HR4.out,← HWV4.out];rfl)
     clear HR4 HWV4 HSU4
     unfold wgI
     have gR:∀ i,w5.cell? ⟨w.heap.size+1,i,none⟩=[Value.int .i64 0,.string ⟨#[]⟩,.int .i64 0,.int .i64 0,.string ⟨#[]⟩,.slice none 0 0,.slice none 0 0][i]?:=S5.out.r.cell
     have fR:∀ i,w5.frozen? ⟨w.heap.size+1,i,none⟩=false:=S5.out.r.frozen
     go_wp2_with fail
     exact bodyPost_ret (results_ct Tryz.results63 rfl (load_tm (t:=tm0) (r7 S5.out.r rfl))) rfl ⟨_,_,by rw[hq.out];rfl,by rw[hq.out];exact .nil (Or.inl rfl),by rw[hq.out];exact .nil (Or.inl rfl),k7w S5.out.kp (Or.inr (Nat.le_succ _))⟩
    | some m=>
     have hq:Hid (rr=(subT freshS t l,0)):=Ld (by rw[HR4.out,← HWV4.out];rfl)
     have t3:decide ((m:Int)<0)=false:=decide_eq_false (by omega)
     have HS6:=Ld (HSU4.out w5 S5.out.kp)
     have gA:∀ i,w5.cell? ⟨w.heap.size,i,none⟩=[Value.int .i64 t.op,.string t.name,.int .i64 t.n,.int .i64 t.ty.kind,.string t.ty.name,.slice p n c,.slice ma mn mc][i]?:=S5.out.a.cell
     clear HR4 HWV4 HSU4
     unfold wgI
     generalize subT freshS t l=z at *
     go_wp2_with fail
     refine HS6.out.mono ?_
     rintro e w6 ⟨tk,kk,rfl,hty,htm,k6⟩
     obtain⟨pa,pn,pc,rfl⟩:=hty.slice
     obtain⟨qa,qn,qc,rfl⟩:=htm.slice
     have S6:=Ld (S5.out.kept k6)
     have HLW:=Ld S5.out.r.lt
     have HTY:=Ld hty
     have HTM:=Ld htm
     clear hty htm k6 S5 HS6 gA
     have gR:∀ i,w6.cell? ⟨w.heap.size+1,i,none⟩=[Value.int .i64 0,.string ⟨#[]⟩,.int .i64 0,.int .i64 0,.string ⟨#[]⟩,.slice none 0 0,.slice none 0 0][i]?:=S6.out.r.cell
     have fR:∀ i,w6.frozen? ⟨w.heap.size+1,i,none⟩=false:=S6.out.r.frozen
     unfold tmVal
     go_wp2_with fail
     exact bodyPost_ret (results_ct Tryz.results63 rfl (load_tm (t:=z) (r7 S6.out.r rfl))) rfl ⟨_,_,by rw[hq.out];rfl,by rw[hq.out];exact (HTY.out.frame (set7 (fun q hq=>by have:=HLW.out;omega))).mono (fun q _ hq=>by have:=HLW.out;omega),by rw[hq.out];exact (HTM.out.frame (set7 (fun q hq=>by have:=HLW.out;omega))).mono (fun q _ hq=>by have:=HLW.out;omega),k7w S6.out.kp (Or.inr (by omega))⟩
theorem sm_rnY {N:Nat} {x y:ByteArray} (hy:y.size≤N) {t:Ty} (h:SmTy N t):SmTy N (rnY x y t):=by
 induction h with
 | mk hn hl ih=>
  rw[rnY]
  refine .mk (by split;exact hy;exact hn) (fun t ht=>?_)
  rw[rnYs_map] at ht
  obtain⟨u,hu,rfl⟩:=List.mem_map.1 ht
  exact ih u hu
theorem sm_rnT {N:Nat} {x y:ByteArray} (hy:y.size≤N) {t:Tm} (h:SmTm N t):SmTm N (rnT x y t):=by
 induction h with
 | mk hn ht hl ih=>
  rw[rnT]
  refine .mk hn (sm_rnY hy ht) (fun t ht=>?_)
  rw[rnTs_map] at ht
  obtain⟨u,hu,rfl⟩:=List.mem_map.1 ht
  exact ih u hu
theorem cm_done {x y:ByteArray} {ok:Nat→Prop} {s:Tm} (hb:BdTm s) {W:World} {tk kk:Value} (ho:∀ q,ok q→bz≤q∧q<W.heap.size) (h1:TyL bz ok W s.ty.kids tk) (h2:TmL bz ok W s.kids kk):
  Calls Tryz.prog 61 #[tmVal s tk kk,.string x,.string y] W fun e w'=>e=.returned (tmVal (rnT x y s) tk kk)∧Rw x y ok W w'∧TyL bz ok w' (rnT x y s).ty.kids tk∧TmL bz ok w' (rnT x y s).kids kk:=by
 refine (cm_any hb W tk kk _ (fun q hq=>(ho q hq).2) (Or.inl rfl) (h1.part (fun q hq=>(ho q hq).1)) (h2.part (fun q hq=>(ho q hq).1))).mono ?_
 rintro e w' ⟨rfl,h3,h4,h5⟩
 obtain⟨e1,e2,e3,e4,e5⟩:=rnT_parts x y s
 obtain⟨f1,f2,f3⟩:=rnY_parts x y s.ty
 refine⟨?_,h3,?_,?_⟩
 ·unfold tmVal;rw[e1,e2,e3,e4,f1,f2]
 ·rw[e4,f3];exact h4.whole
 ·rw[e5];exact h5.whole
theorem bnl_one' {W:World} {g:Nat} {nm:ByteArray} {u:Tm} {tk kk:Value} {ok:Nat→Prop} (hb:Blk W g 38 (bCells ((nm,u),tk,kk))) (h1:TyL bz ok W u.ty.kids tk) (h2:TmL bz ok W u.kids kk):BnL bz (fun _=>True) W [(nm,u)] (.slice (some ⟨g,0,none⟩) 1 1):=by
 have h:W.ownsRow 0 38 8 (.slice (some ⟨g,0,none⟩) 1 1) 1 (flatB [((nm,u),tk,kk)]):=⟨rfl,.inr ⟨g,1,_,rfl,Nat.zero_le _,hb,by omega,by unfold maxLen;omega,rfl,rfl⟩⟩
 exact bnl_of_row (E:=[((nm,u),tk,kk)]) h (fun e he=>by rw[List.mem_singleton.1 he];exact⟨h1.mono (fun _ _ _=>trivial),h2.mono (fun _ _ _=>trivial)⟩) (fun _ _=>trivial)
theorem nameT_sm {y:ByteArray} (h:y.size≤big):SmTm big (nameT y):=.mk h (.mk (by decide) (fun t h=>by cases h)) (fun t h=>by cases h)
theorem sbst_nm {t:Tm} {x y:ByteArray} {tk kk:Value} {ok:Nat→Prop} {W:World} {g:Nat} (hx:x.size≤maxLen) (hy:y.size≤maxLen) (h1:TyL bz ok W t.ty.kids tk) (h2:TmL bz ok W t.kids kk) (ht:SmTm big t) (hb:Blk W g 38 [.string x,.int .i64 20,.string y,.int .i64 0,.int .i64 0,.string ⟨#[]⟩,.slice none 0 0,.slice none 0 0]) (hp:P10 W):
  Calls Tryz.prog 18 #[tmVal t tk kk,.slice (some ⟨g,0,none⟩) 1 1] W (TmB bz W.heap.size (sbstR t [(x,nameT y)]) W):=
 subst_any h1 h2 ht (bnl_one' (ok:=fun _=>True) (tk:=.slice none 0 0) (kk:=.slice none 0 0) (u:=nameT y) hb (.nil (Or.inl rfl)) (.nil (Or.inl rfl))) (fun b hb=>by rw[List.mem_singleton.1 hb];exact nameT_sm (Nat.le_trans hy (by decide))) (fun b hb=>by rw[List.mem_singleton.1 hb];exact hx) (by show 1≤200;decide) hp
theorem ren_any {t:Tm} {x y:ByteArray} {ok:Nat→Prop} {w:World} {tk kk:Value} (hbz:bz≤w.heap.size) (h1:TyL bz ok w t.ty.kids tk) (h2:TmL bz ok w t.kids kk) (hs:SmTm big t) (hx:x.size≤maxLen) (hy:y.size≤maxLen) (hp:P10 w):
  Calls Tryz.prog 24 #[tmVal t tk kk,.string x,.string y] w (TmB bz w.heap.size (rnmR t x y) w):=by
 obtain⟨p,n,c,rfl⟩:=h1.slice
 obtain⟨ma,mn,mc,rfl⟩:=h2.slice
 have HV:=Ld (fun W (k:Kept (fun _=>False) w W)=>valid_any (h1.frame (sK k)) (h2.frame (sK k)) hs)
 have HNM:=Ld (fun W=>named_any y W (by unfold maxLen at hy;omega))
 have HSB:=Ld (fun W (g:Nat) (k:Kept (fun _=>False) w W) hb=>sbst_nm (g:=g) hx hy (h1.frame (sK k)) (h2.frame (sK k)) hs hb (hp.kept k))
 have HPL:=Ld (fun (hv:validB t=true) (hn:namedB y=true)=>(rnm_plain (x:=x) hv hn).1)
 have HOK:=Ld (fun (hv:validB t=true) (hn:namedB y=true)=>(nm_sub (x:=x) hv hn).1)
 have HBZ:=Ld hbz
 have HY:Hid (y.size≤big):=Ld (Nat.le_trans hy (by decide))
 have HR:Hid (rnmR t x y=if validB t&&namedB y then (if validB (rnT x y (subT freshS t [(x,nameT y)])) then (rnT x y (subT freshS t [(x,nameT y)]),0) else (tm0,1)) else (tm0,1)):=Ld rfl
 generalize rnmR t x y=rr at *
 clear h1 h2 hs hx hy hp hbz
 unfold tmVal at HSB ⊢
 have S0:Hid (RS2 w [Value.int .i64 t.op,.string t.name,.int .i64 t.n,.int .i64 t.ty.kind,.string t.ty.name,.slice p n c,.slice ma mn mc] ((w.alloc (.cells #[.int .i64 t.op,.string t.name,.int .i64 t.n,.int .i64 t.ty.kind,.string t.ty.name,.slice p n c,.slice ma mn mc] 27)).alloc Z7)):=Ld
  ⟨(kR.alloc _).alloc _,(Blk.new w 27 [Value.int .i64 t.op,.string t.name,.int .i64 t.n,.int .i64 t.ty.kind,.string t.ty.name,.slice p n c,.slice ma mn mc]).alloc _,Blk.new' 27 _ (by simp)⟩
 go_enter Tryz.func24,Tryz.ntmps24
 go_upto_region 1 with (fail)
 generalize ((w.alloc (.cells #[.int .i64 t.op,.string t.name,.int .i64 t.n,.int .i64 t.ty.kind,.string t.ty.name,.slice p n c,.slice ma mn mc] 27)).alloc Z7)=w1 at *
 have gA:∀ i,w1.cell? ⟨w.heap.size,i,none⟩=[Value.int .i64 t.op,.string t.name,.int .i64 t.n,.int .i64 t.ty.kind,.string t.ty.name,.slice p n c,.slice ma mn mc][i]?:=S0.out.a.cell
 have HV1:=Ld (HV.out w1 S0.out.kp)
 clear HV
 cases hv:validB t
 ·rw[hv] at HV1
  have hq:Hid (rr=(tm0,1)):=Ld (by rw[HR.out,hv];rfl)
  clear HR HNM HSB HPL HOK hv HBZ HY
  go_wp2_with fail
  refine HV1.out.mono ?_
  rintro e w2 ⟨rfl,k2⟩
  have S2:=Ld (S0.out.kept k2)
  clear k2 S0 gA HV1
  have gR:∀ i,w2.cell? ⟨w.heap.size+1,i,none⟩=[Value.int .i64 0,.string ⟨#[]⟩,.int .i64 0,.int .i64 0,.string ⟨#[]⟩,.slice none 0 0,.slice none 0 0][i]?:=S2.out.r.cell
  have fR:∀ i,w2.frozen? ⟨w.heap.size+1,i,none⟩=false:=S2.out.r.frozen
  go_wp2_with fail
  exact bodyPost_ret (results_ct Tryz.results24 rfl (load_tm (t:=tm0) (r7 S2.out.r rfl))) rfl ⟨_,_,by rw[hq.out];rfl,by rw[hq.out];exact .nil (Or.inl rfl),by rw[hq.out];exact .nil (Or.inl rfl),k7w S2.out.kp (Or.inr (Nat.le_succ _))⟩
 ·rw[hv] at HV1
  have HN1:=Ld HNM.out
  clear HNM
  go_wp2_with fail
  refine HV1.out.mono ?_
  rintro e w2 ⟨rfl,k2⟩
  have S2:=Ld (S0.out.kept k2)
  clear k2 S0 gA HV1
  cases hn:namedB y
  ·have HN2:=HN1.out w2
   rw[hn] at HN2
   have HN3:=Ld HN2
   have hq:Hid (rr=(tm0,1)):=Ld (by rw[HR.out,hv,hn];rfl)
   clear HR HSB HPL HOK hv hn HN1 HN2 HBZ HY
   go_wp2_with fail
   refine HN3.out.mono ?_
   rintro e w3 ⟨rfl,rfl⟩
   clear HN3
   have gR:∀ i,w2.cell? ⟨w.heap.size+1,i,none⟩=[Value.int .i64 0,.string ⟨#[]⟩,.int .i64 0,.int .i64 0,.string ⟨#[]⟩,.slice none 0 0,.slice none 0 0][i]?:=S2.out.r.cell
   have fR:∀ i,w2.frozen? ⟨w.heap.size+1,i,none⟩=false:=S2.out.r.frozen
   go_wp2_with fail
   exact bodyPost_ret (results_ct Tryz.results24 rfl (load_tm (t:=tm0) (r7 S2.out.r rfl))) rfl ⟨_,_,by rw[hq.out];rfl,by rw[hq.out];exact .nil (Or.inl rfl),by rw[hq.out];exact .nil (Or.inl rfl),k7w S2.out.kp (Or.inr (Nat.le_succ _))⟩
  ·have HN2:=HN1.out w2
   rw[hn] at HN2
   have HN3:=Ld HN2
   have HR2:Hid (rr=if validB (rnT x y (subT freshS t [(x,nameT y)])) then (rnT x y (subT freshS t [(x,nameT y)]),0) else (tm0,1)):=Ld (by rw[HR.out,hv,hn];rfl)
   have HP2:=Ld (HPL.out hv hn)
   have HO2:=Ld (HOK.out hv hn)
   clear HR HPL HOK hv hn HN1 HN2
   go_wp2_with fail
   refine HN3.out.mono ?_
   rintro e w3 ⟨rfl,rfl⟩
   clear HN3
   have gA:∀ i,w2.cell? ⟨w.heap.size,i,none⟩=[Value.int .i64 t.op,.string t.name,.int .i64 t.n,.int .i64 t.ty.kind,.string t.ty.name,.slice p n c,.slice ma mn mc][i]?:=S2.out.a.cell
   have HB:=Ld (Blk.new w2 38 [.string x,.int .i64 20,.string y,.int .i64 0,.int .i64 0,.string ⟨#[]⟩,.slice none 0 0,.slice none 0 0])
   have K3:Kept (fun _=>False) w2 (w2.alloc (.cells #[.string x,.int .i64 20,.string y,.int .i64 0,.int .i64 0,.string ⟨#[]⟩,.slice none 0 0,.slice none 0 0] 38)):=kR.alloc _
   have S3:=Ld (S2.out.kept K3)
   have HS3:=Ld (HSB.out (w2.alloc (.cells #[.string x,.int .i64 20,.string y,.int .i64 0,.int .i64 0,.string ⟨#[]⟩,.slice none 0 0,.slice none 0 0] 38)) w2.heap.size S3.out.kp HB.out)
   rw[HP2.out] at HS3
   clear HB HSB HP2 K3 S2
   go_wp2_with fail
   clear gA
   refine HS3.out.mono ?_
   generalize w2.alloc (.cells #[.string x,.int .i64 20,.string y,.int .i64 0,.int .i64 0,.string ⟨#[]⟩,.slice none 0 0,.slice none 0 0] 38)=w3 at *
   generalize subT freshS t [(x,nameT y)]=s at *
   rintro e w4 ⟨tk,kk,rfl,hty,htm,k4⟩
   have hty:TyL bz _ w4 s.ty.kids tk:=hty
   have htm:TmL bz _ w4 s.kids kk:=htm
   obtain⟨pa,pn,pc,rfl⟩:=hty.slice
   obtain⟨qa,qn,qc,rfl⟩:=htm.slice
   have LB:Hid (bz≤w3.heap.size∧w.heap.size+1<w3.heap.size∧w3.heap.size≤w4.heap.size):=Ld ⟨by have h1:=HBZ.out;have h2:=S3.out.kp.size;omega,S3.out.r.lt,k4.size⟩
   have S4:=Ld (S3.out.kept k4)
   have HTY:=Ld (hty.mono (ok':=fun q=>w3.heap.size≤q∧q<w4.heap.size) (fun q h1 h2=>⟨h2,h1⟩))
   have HTM:=Ld (htm.mono (ok':=fun q=>w3.heap.size≤q∧q<w4.heap.size) (fun q h1 h2=>⟨h2,h1⟩))
   clear hty htm k4 S3 HS3 HBZ
   unfold tmVal
   go_upto_region 4 with (fail)
   have K5:Kept (fun _=>False) w4 (w4.alloc (.cells #[.int .i64 s.op,.string s.name,.int .i64 s.n,.int .i64 s.ty.kind,.string s.ty.name,.slice pa pn pc,.slice qa qn qc] 27)):=kR.alloc _
   have BX:Hid (Blk (w4.alloc (.cells #[.int .i64 s.op,.string s.name,.int .i64 s.n,.int .i64 s.ty.kind,.string s.ty.name,.slice pa pn pc,.slice qa qn qc] 27)) w4.heap.size 27 [Value.int .i64 s.op,.string s.name,.int .i64 s.n,.int .i64 s.ty.kind,.string s.ty.name,.slice pa pn pc,.slice qa qn qc]):=Ld (Blk.new w4 27 _)
   have S5:=Ld (S4.out.kept K5)
   have HTY5:=Ld (HTY.out.frame (sK K5))
   have HTM5:=Ld (HTM.out.frame (sK K5))
   have HCM:=Ld (cm_done (x:=x) (y:=y) (ok_bd HO2.out) (fun q hq=>⟨by have:=LB.out;omega,by have:=BX.out.lt;omega⟩) HTY5.out HTM5.out)
   clear K5 S4 HTY HTM HTY5 HTM5
   generalize w4.alloc (.cells #[.int .i64 s.op,.string s.name,.int .i64 s.n,.int .i64 s.ty.kind,.string s.ty.name,.slice pa pn pc,.slice qa qn qc] 27)=w5 at *
   generalize w3.heap.size=B at *
   generalize w4.heap.size=P at *
   have gX:∀ i,w5.cell? ⟨P,i,none⟩=[Value.int .i64 s.op,.string s.name,.int .i64 s.n,.int .i64 s.ty.kind,.string s.ty.name,.slice pa pn pc,.slice qa qn qc][i]?:=BX.out.cell
   unfold tmVal at HCM
   go_wp2_with fail
   clear gX
   refine HCM.out.mono ?_
   have HSM:=Ld (sm_rnT (x:=x) (y:=y) HY.out (ok_smt HO2.out))
   clear HCM HO2 HY
   generalize rnT x y s=r at *
   rintro e w6 ⟨rfl,k6,hty,htm⟩
   have BX6:=Ld (k6.out BX.out (fun q=>by omega))
   have S6:Hid (RS2 w [Value.int .i64 t.op,.string t.name,.int .i64 t.n,.int .i64 t.ty.kind,.string t.ty.name,.slice p n c,.slice ma mn mc] w6):=Ld ⟨S5.out.kp.via1 k6.kp (fun q h1 h2=>by have:=LB.out;omega),k6.out S5.out.a (fun q=>by have:=LB.out;omega),k6.out S5.out.r (fun q=>by have:=LB.out;omega)⟩
   have HTY:=Ld hty
   have HTM:=Ld htm
   clear hty htm k6 BX S5
   have fX:∀ i,w6.frozen? ⟨P,i,none⟩=false:=BX6.out.frozen
   have gX:∀ i,w6.cell? ⟨P,i,none⟩=[Value.int .i64 s.op,.string s.name,.int .i64 s.n,.int .i64 s.ty.kind,.string s.ty.name,.slice pa pn pc,.slice qa qn qc][i]?:=BX6.out.cell
   go_upto_region 7 with (fail)
   clear fX gX
   have k7:Kept (·=P) w6 (((((((w6.setCell ⟨P,0,none⟩ (.int .i64 r.op)).setCell ⟨P,1,none⟩ (.string r.name)).setCell ⟨P,2,none⟩ (.int .i64 r.n)).setCell ⟨P,3,none⟩ (.int .i64 r.ty.kind)).setCell ⟨P,4,none⟩ (.string r.ty.name)).setCell ⟨P,5,none⟩ (.slice pa pn pc)).setCell ⟨P,6,none⟩ (.slice qa qn qc)):=k7w (Kept.refl (fun x=>x=P) _) (Or.inl rfl)
   have BX7:Hid (Blk (((((((w6.setCell ⟨P,0,none⟩ (.int .i64 r.op)).setCell ⟨P,1,none⟩ (.string r.name)).setCell ⟨P,2,none⟩ (.int .i64 r.n)).setCell ⟨P,3,none⟩ (.int .i64 r.ty.kind)).setCell ⟨P,4,none⟩ (.string r.ty.name)).setCell ⟨P,5,none⟩ (.slice pa pn pc)).setCell ⟨P,6,none⟩ (.slice qa qn qc)) P 27 [Value.int .i64 r.op,.string r.name,.int .i64 r.n,.int .i64 r.ty.kind,.string r.ty.name,.slice pa pn pc,.slice qa qn qc]):=Ld (r7 BX6.out rfl)
   have S7:Hid (RS2 w [Value.int .i64 t.op,.string t.name,.int .i64 t.n,.int .i64 t.ty.kind,.string t.ty.name,.slice p n c,.slice ma mn mc] (((((((w6.setCell ⟨P,0,none⟩ (.int .i64 r.op)).setCell ⟨P,1,none⟩ (.string r.name)).setCell ⟨P,2,none⟩ (.int .i64 r.n)).setCell ⟨P,3,none⟩ (.int .i64 r.ty.kind)).setCell ⟨P,4,none⟩ (.string r.ty.name)).setCell ⟨P,5,none⟩ (.slice pa pn pc)).setCell ⟨P,6,none⟩ (.slice qa qn qc))):=Ld ⟨S6.out.kp.via1 k7 (fun q h1 h2=>by have:=LB.out;omega),S6.out.a.kept k7 (fun q=>by have:=LB.out;omega),S6.out.r.kept k7 (fun q=>by have:=LB.out;omega)⟩
   have HTY7:=Ld (HTY.out.frame (Same.of_kept k7 (fun q hq e=>by omega)))
   have HTM7:=Ld (HTM.out.frame (Same.of_kept k7 (fun q hq e=>by omega)))
   clear k7 HTY HTM BX6 S6
   generalize (((((((w6.setCell ⟨P,0,none⟩ (.int .i64 r.op)).setCell ⟨P,1,none⟩ (.string r.name)).setCell ⟨P,2,none⟩ (.int .i64 r.n)).setCell ⟨P,3,none⟩ (.int .i64 r.ty.kind)).setCell ⟨P,4,none⟩ (.string r.ty.name)).setCell ⟨P,5,none⟩ (.slice pa pn pc)).setCell ⟨P,6,none⟩ (.slice qa qn qc))=w7 at *
   have gX:∀ i,w7.cell? ⟨P,i,none⟩=[Value.int .i64 r.op,.string r.name,.int .i64 r.n,.int .i64 r.ty.kind,.string r.ty.name,.slice pa pn pc,.slice qa qn qc][i]?:=BX7.out.cell
   have HV7:=Ld (valid_any HTY7.out HTM7.out HSM.out)
   cases hv:validB r
   ·rw[hv] at HV7
    have hq:Hid (rr=(tm0,1)):=Ld (by rw[HR2.out,hv];rfl)
    clear HR2 hv HTY7 HTM7 HSM
    go_wp2_with fail
    clear gX
    refine HV7.out.mono ?_
    rintro e w8 ⟨rfl,k8⟩
    have S8:=Ld (S7.out.kept k8)
    clear k8 S7 HV7 BX7
    have gR:∀ i,w8.cell? ⟨w.heap.size+1,i,none⟩=[Value.int .i64 0,.string ⟨#[]⟩,.int .i64 0,.int .i64 0,.string ⟨#[]⟩,.slice none 0 0,.slice none 0 0][i]?:=S8.out.r.cell
    have fR:∀ i,w8.frozen? ⟨w.heap.size+1,i,none⟩=false:=S8.out.r.frozen
    go_wp2_with fail
    exact bodyPost_ret (results_ct Tryz.results24 rfl (load_tm (t:=tm0) (r7 S8.out.r rfl))) rfl ⟨_,_,by rw[hq.out];rfl,by rw[hq.out];exact .nil (Or.inl rfl),by rw[hq.out];exact .nil (Or.inl rfl),k7w S8.out.kp (Or.inr (Nat.le_succ _))⟩
   ·rw[hv] at HV7
    have hq:Hid (rr=(r,0)):=Ld (by rw[HR2.out,hv];rfl)
    clear HR2 hv HSM
    go_wp2_with fail
    clear gX
    refine HV7.out.mono ?_
    rintro e w8 ⟨rfl,k8⟩
    have S8:=Ld (S7.out.kept k8)
    have BX8:=Ld (BX7.out.kept k8 (fun e=>e))
    have HTY8:=Ld (HTY7.out.frame (sK k8))
    have HTM8:=Ld (HTM7.out.frame (sK k8))
    clear k8 S7 HV7 BX7 HTY7 HTM7
    have gR:∀ i,w8.cell? ⟨w.heap.size+1,i,none⟩=[Value.int .i64 0,.string ⟨#[]⟩,.int .i64 0,.int .i64 0,.string ⟨#[]⟩,.slice none 0 0,.slice none 0 0][i]?:=S8.out.r.cell
    have fR:∀ i,w8.frozen? ⟨w.heap.size+1,i,none⟩=false:=S8.out.r.frozen
    have gX:∀ i,w8.cell? ⟨P,i,none⟩=[Value.int .i64 r.op,.string r.name,.int .i64 r.n,.int .i64 r.ty.kind,.string r.ty.name,.slice pa pn pc,.slice qa qn qc][i]?:=BX8.out.cell
    go_wp2_with fail
    exact bodyPost_ret (results_ct Tryz.results24 rfl (load_tm (t:=r) (r7 S8.out.r rfl))) rfl ⟨_,_,by rw[hq.out];rfl,by rw[hq.out];exact (HTY8.out.frame (set7 (fun q hq=>by have:=LB.out;omega))).mono (fun q _ hq=>by have:=LB.out;omega),by rw[hq.out];exact (HTM8.out.frame (set7 (fun q hq=>by have:=LB.out;omega))).mono (fun q _ hq=>by have:=LB.out;omega),k7w S8.out.kp (Or.inr (Nat.le_succ _))⟩
theorem bd_rnY {x y:ByteArray} {t:Ty} (h:BdTy t):BdTy (rnY x y t):=by
 induction h with
 | mk hn hl ih=>
  rw[rnY]
  refine .mk (by rw[rnYs_len];exact hn) (fun t ht=>?_)
  rw[rnYs_map] at ht
  obtain⟨u,hu,rfl⟩:=List.mem_map.1 ht
  exact ih u hu
theorem bd_rnT {x y:ByteArray} {t:Tm} (h:BdTm t):BdTm (rnT x y t):=by
 induction h with
 | mk hn ht hl ih=>
  rw[rnT]
  refine .mk (by rw[rnTs_len];exact hn) (bd_rnY ht) (fun t ht=>?_)
  rw[rnTs_map] at ht
  obtain⟨u,hu,rfl⟩:=List.mem_map.1 ht
  exact ih u hu
theorem rnm_done {x y:ByteArray} {t:Tm} (h:OkTm t) {w:World} {ok:Nat→Prop} {tk kk:Value} (h1:TyL bz ok w t.ty.kids tk) (h2:TmL bz ok w t.kids kk):
  Calls Tryz.prog 62 #[tmVal t tk kk,.string x,.string y] w fun e w'=>∃ v u,e=.returned (tmVal (rnT x y t) v u)∧TyL bz (fun q=>w.heap.size≤q) w' (rnT x y t).ty.kids v∧TmL bz (fun q=>w.heap.size≤q) w' (rnT x y t).kids u∧Kept (fun _=>False) w w':=by
 refine (rnm_any (ok_bd h) w ok tk kk h1 h2).mono ?_
 rintro e w' ⟨v,u,rfl,h3,h4,k⟩
 have e1:rdTs x y t.kids=(rdT x y t).kids:=by cases t;rfl
 rw[e1] at h4
 rw[rd_rn h] at h3 h4 ⊢
 exact⟨v,u,rfl,h3,h4,k⟩
theorem rsbst_nm {t:Tm} {x y:ByteArray} {tk kk:Value} {ok:Nat→Prop} {W:World} {g:Nat} (hy:y.size≤maxLen) (h1:TyL bz ok W t.ty.kids tk) (h2:TmL bz ok W t.kids kk) (ht:SmTm big t) (hb:Blk W g 38 [.string x,.int .i64 20,.string y,.int .i64 0,.int .i64 0,.string ⟨#[]⟩,.slice none 0 0,.slice none 0 0]):
  Calls Tryz.prog 63 #[tmVal t tk kk,.slice (some ⟨g,0,none⟩) 1 1] W (TmB bz W.heap.size (sbstR t [(x,nameT y)]) W):=
 rsubst_any h1 h2 ht (bnl_one' (ok:=fun _=>True) (tk:=.slice none 0 0) (kk:=.slice none 0 0) (u:=nameT y) hb (.nil (Or.inl rfl)) (.nil (Or.inl rfl))) (fun b hb=>by rw[List.mem_singleton.1 hb];exact nameT_sm (Nat.le_trans hy (by decide))) (by show 1≤200;decide)
theorem rren_any {t:Tm} {x y:ByteArray} {ok:Nat→Prop} {w:World} {tk kk:Value} (h1:TyL bz ok w t.ty.kids tk) (h2:TmL bz ok w t.kids kk) (hs:SmTm big t) (hy:y.size≤maxLen):
  Calls Tryz.prog 25 #[tmVal t tk kk,.string x,.string y] w (TmB bz w.heap.size (rnmR t x y) w):=by
 obtain⟨p,n,c,rfl⟩:=h1.slice
 obtain⟨ma,mn,mc,rfl⟩:=h2.slice
 have HT:=Ld (fun W (k:Kept (fun _=>False) w W)=>(⟨h1.frame (sK k),h2.frame (sK k)⟩:TyL bz ok W t.ty.kids (.slice p n c)∧TmL bz ok W t.kids (.slice ma mn mc)))
 have HSM:=Ld hs
 have HY:=Ld hy
 have HPL:Hid (validB t=true→namedB y=true→OkTm t∧sbstR t [(x,nameT y)]=(subT freshS t [(x,nameT y)],0)∧OkTm (subT freshS t [(x,nameT y)])∧(primB y&&!tmEq (rnT x y t) t)=!validB (rnT x y (subT freshS t [(x,nameT y)]))):=Ld (fun hv hn=>by
  obtain⟨q1,q2,q3,q4⟩:=rnm_plain (x:=x) hv hn
  rw[rd_rn (valid_ok hv)] at q3
  exact⟨valid_ok hv,q1,(nm_sub hv hn).1,q3⟩)
 have HR:Hid (rnmR t x y=if validB t&&namedB y then (if validB (rnT x y (subT freshS t [(x,nameT y)])) then (rnT x y (subT freshS t [(x,nameT y)]),0) else (tm0,1)) else (tm0,1)):=Ld rfl
 generalize rnmR t x y=rr at *
 clear h1 h2 hs hy
 unfold tmVal
 have S0:Hid (RS2 w [Value.int .i64 t.op,.string t.name,.int .i64 t.n,.int .i64 t.ty.kind,.string t.ty.name,.slice p n c,.slice ma mn mc] ((w.alloc (.cells #[.int .i64 t.op,.string t.name,.int .i64 t.n,.int .i64 t.ty.kind,.string t.ty.name,.slice p n c,.slice ma mn mc] 27)).alloc Z7)):=Ld
  ⟨(kR.alloc _).alloc _,(Blk.new w 27 [Value.int .i64 t.op,.string t.name,.int .i64 t.n,.int .i64 t.ty.kind,.string t.ty.name,.slice p n c,.slice ma mn mc]).alloc _,Blk.new' 27 _ (by simp)⟩
 go_enter Tryz.func25,Tryz.ntmps25
 go_upto_region 1 with (fail)
 generalize ((w.alloc (.cells #[.int .i64 t.op,.string t.name,.int .i64 t.n,.int .i64 t.ty.kind,.string t.ty.name,.slice p n c,.slice ma mn mc] 27)).alloc Z7)=w1 at *
 have gA:∀ i,w1.cell? ⟨w.heap.size,i,none⟩=[Value.int .i64 t.op,.string t.name,.int .i64 t.n,.int .i64 t.ty.kind,.string t.ty.name,.slice p n c,.slice ma mn mc][i]?:=S0.out.a.cell
 have HV1:=Ld (rvalid_any (HT.out w1 S0.out.kp).1 (HT.out w1 S0.out.kp).2 HSM.out)
 cases hv:validB t
 ·rw[hv] at HV1
  have hq:Hid (rr=(tm0,1)):=Ld (by rw[HR.out,hv];rfl)
  clear HR HPL hv HT HSM HY
  go_wp2_with fail
  refine HV1.out.mono ?_
  rintro e w2 ⟨rfl,k2⟩
  have S2:=Ld (S0.out.kept k2)
  clear k2 S0 gA HV1
  have gR:∀ i,w2.cell? ⟨w.heap.size+1,i,none⟩=[Value.int .i64 0,.string ⟨#[]⟩,.int .i64 0,.int .i64 0,.string ⟨#[]⟩,.slice none 0 0,.slice none 0 0][i]?:=S2.out.r.cell
  have fR:∀ i,w2.frozen? ⟨w.heap.size+1,i,none⟩=false:=S2.out.r.frozen
  go_wp2_with fail
  exact bodyPost_ret (results_ct Tryz.results25 rfl (load_tm (t:=tm0) (r7 S2.out.r rfl))) rfl ⟨_,_,by rw[hq.out];rfl,by rw[hq.out];exact .nil (Or.inl rfl),by rw[hq.out];exact .nil (Or.inl rfl),k7w S2.out.kp (Or.inr (Nat.le_succ _))⟩
 ·rw[hv] at HV1
  go_wp2_with fail
  refine HV1.out.mono ?_
  rintro e w2 ⟨rfl,k2⟩
  have S2:=Ld (S0.out.kept k2)
  clear k2 S0 gA HV1
  cases hn:namedB y
  ·have HN3:=Ld (rnamed_t hn (Nat.le_trans HY.out (by decide)) w2)
   have hq:Hid (rr=(tm0,1)):=Ld (by rw[HR.out,hv,hn];rfl)
   clear HR HPL hv hn HT HSM HY
   go_wp2_with fail
   refine HN3.out.mono ?_
   rintro e w3 ⟨rfl,k3⟩
   have S3:=Ld (S2.out.kept k3)
   clear HN3 k3 S2
   have gR:∀ i,w3.cell? ⟨w.heap.size+1,i,none⟩=[Value.int .i64 0,.string ⟨#[]⟩,.int .i64 0,.int .i64 0,.string ⟨#[]⟩,.slice none 0 0,.slice none 0 0][i]?:=S3.out.r.cell
   have fR:∀ i,w3.frozen? ⟨w.heap.size+1,i,none⟩=false:=S3.out.r.frozen
   go_wp2_with fail
   exact bodyPost_ret (results_ct Tryz.results25 rfl (load_tm (t:=tm0) (r7 S3.out.r rfl))) rfl ⟨_,_,by rw[hq.out];rfl,by rw[hq.out];exact .nil (Or.inl rfl),by rw[hq.out];exact .nil (Or.inl rfl),k7w S3.out.kp (Or.inr (Nat.le_succ _))⟩
  ·have HN3:=Ld (rnamed_t hn (Nat.le_trans HY.out (by decide)) w2)
   have HR2:Hid (rr=if validB (rnT x y (subT freshS t [(x,nameT y)])) then (rnT x y (subT freshS t [(x,nameT y)]),0) else (tm0,1)):=Ld (by rw[HR.out,hv,hn];rfl)
   have HP2:=Ld (HPL.out hv hn)
   clear HR HPL hv hn
   go_wp2_with fail
   refine HN3.out.mono ?_
   rintro e w3 ⟨rfl,k3⟩
   have S3:=Ld (S2.out.kept k3)
   clear HN3 k3 S2
   have HSB:Hid (∀ W (g:Nat),Kept (fun _=>False) w W→Blk W g 38 [.string x,.int .i64 20,.string y,.int .i64 0,.int .i64 0,.string ⟨#[]⟩,.slice none 0 0,.slice none 0 0]→Calls Tryz.prog 63 #[tmVal t (.slice p n c) (.slice ma mn mc),.slice (some ⟨g,0,none⟩) 1 1] W (TmB bz W.heap.size (subT freshS t [(x,nameT y)],0) W)):=Ld (fun W g k hb=>by
    have h:=rsbst_nm HY.out (HT.out W k).1 (HT.out W k).2 HSM.out hb
    rw[HP2.out.2.1] at h
    exact h)
   have HTR:Hid (∀ W,Kept (fun _=>False) w W→Calls Tryz.prog 62 #[tmVal t (.slice p n c) (.slice ma mn mc),.string x,.string y] W fun e w'=>∃ v u,e=.returned (tmVal (rnT x y t) v u)∧TyL bz (fun q=>W.heap.size≤q) w' (rnT x y t).ty.kids v∧TmL bz (fun q=>W.heap.size≤q) w' (rnT x y t).kids u∧Kept (fun _=>False) W w'):=Ld (fun W k=>rnm_done HP2.out.1 (HT.out W k).1 (HT.out W k).2)
   have HBD:Hid (BdTm (rnT x y t)):=Ld (bd_rnT (ok_bd HP2.out.1))
   have HO2:=Ld HP2.out.2.2.1
   have HQ:=Ld HP2.out.2.2.2
   have HPR:Hid (∀ W,Calls Tryz.prog 46 #[.string y] W fun e w'=>e=.returned (.bool (primB y))∧Kept (fun _=>False) W w'):=Ld (fun W=>primed_big y W (Nat.le_trans HY.out (by decide)) rfl)
   clear HP2 HY HSM
   unfold tmVal at HSB HTR
   generalize subT freshS t [(x,nameT y)]=s at *
   generalize rnT x y t=D at *
   go_upto_region 3 with (fail)
   have KD:Kept (fun _=>False) w3 w3.drew:=kR.drew
   cases hp:primB y
   ·rw[hp] at HPR
    have HVR:Hid (validB (rnT x y s)=true):=Ld (by have:=HQ.out;rw[hp] at this;simpa using this.symm)
    clear HQ hp
    refine wp_region_mono (L:=Kept (fun _=>False)) (fun i v W=>match i with
     | 0=>v=.string y
     | 1=>v=.bool false
     | 2=>v=.bool false
     | _=>True) [10] [] 49 (by kernel_rfl) rfl (by kernel_rfl) (by kernel_rfl) (fun w=>Kept.refl _ w) (fun _ _ _ h1 h2=>h1.trans h2) (fun c d v a w h=>by cases d <;> exact h) ?_ ?_
    ·refine allM_cons rfl (stepM_of [] rfl fun W k=>allV_nil ?_) ?_
     ·refine opW_go rfl fun K hK=>?_
      go_simp
      exact hK _ _ (KT.mk kR rfl 19 rfl rfl)
     refine allM_cons rfl (stepM_of [0] rfl fun W k=>allV_some 19 rfl fun v0 h0=>allV_nil ?_) ?_
     ·obtain⟨w1,k1,rfl⟩:=h0
      refine opW_go rfl fun K hK=>?_
      go_simp
      go_at_call 46
      refine (HPR.out W).mono ?_
      rintro e w' ⟨rfl,k'⟩
      exact hK _ _ (KT.mk k' rfl 20 rfl rfl)
     refine allM_cons rfl (stepM_of [1,1] rfl fun W k=>allV_some 20 rfl fun v0 h0=>allV_some 20 rfl fun v1 h1=>allV_nil ?_) ?_
     ·clear h0
      obtain⟨w2,k2,rfl⟩:=h1
      refine opW_go rfl fun K hK=>?_
      go_simp
      exact hK _ _ (KT.mk kR rfl 21 rfl rfl)
     refine allM_cons rfl (stepM_of [2] rfl fun W k=>allV_some 21 rfl fun v0 h0=>allV_nil ?_) ?_
     ·obtain⟨w1,k1,rfl⟩:=h0
      exact opW_skip (by kernel_rfl) (KT.mk kR rfl 22 rfl trivial)
     refine allM_cons rfl (stepM_of [2] rfl fun W k=>allV_some 21 rfl fun v0 h0=>allV_nil ?_) ?_
     ·obtain⟨w1,k1,rfl⟩:=h0
      exact opW_skip (by kernel_rfl) (KT.mk kR rfl 23 rfl trivial)
     refine allM_cons rfl (stepM_of [2] rfl fun W k=>allV_some 21 rfl fun v0 h0=>allV_nil ?_) ?_
     ·obtain⟨w1,k1,rfl⟩:=h0
      exact opW_skip (by kernel_rfl) (KT.mk kR rfl 24 rfl trivial)
     refine allM_cons rfl (stepM_of [3,4,5,2,2] rfl fun W k=>allV_some 22 rfl fun v0 h0=>allV_some 23 rfl fun v1 h1=>allV_some 24 rfl fun v2 h2=>allV_some 21 rfl fun v3 h3=>allV_some 21 rfl fun v4 h4=>allV_nil ?_) ?_
     ·clear h0
      clear h1
      clear h2
      clear h3
      obtain⟨w5,k5,rfl⟩:=h4
      exact opW_skip (by kernel_rfl) (KT.mk kR rfl 25 rfl trivial)
     refine allM_cons rfl (stepM_of [2] rfl fun W k=>allV_some 21 rfl fun v0 h0=>allV_nil ?_) ?_
     ·obtain⟨w1,k1,rfl⟩:=h0
      exact opW_skip (by kernel_rfl) (KT.mk kR rfl 26 rfl trivial)
     refine allM_cons rfl (stepM_of [6,7,6,2] rfl fun W k=>allV_some 25 rfl fun v0 h0=>allV_some 26 rfl fun v1 h1=>allV_some 25 rfl fun v2 h2=>allV_some 21 rfl fun v3 h3=>allV_nil ?_) ?_
     ·clear h0
      clear h1
      clear h2
      obtain⟨w4,k4,rfl⟩:=h3
      exact opW_skip (by kernel_rfl) (KT.mk kR rfl 27 rfl trivial)
     refine allM_cons rfl (stepM_of [8,2] rfl fun W k=>allV_some 27 rfl fun v0 h0=>allV_some 21 rfl fun v1 h1=>allV_nil ?_) ?_
     ·clear h0
      obtain⟨w2,k2,rfl⟩:=h1
      exact opW_skip (by kernel_rfl) (KT.mk kR rfl 28 rfl trivial)
     refine allM_tail rfl ?_
     exact allM_nil
    ·intro W kW
     have hh:(List.range 11).filter (fun i=>!([10]:List Nat).contains i)=[0,1,2,3,4,5,6,7,8,9]:=by decide
     change allV _ _ _ _ _ ((List.range 11).filter (fun i=>!([10]:List Nat).contains i)) _
     rw[hh]
     generalize hKK:(fun a1=>wpList Tryz.prog _ _ (pickT [10] 0 _) a1 W)=KK
     refine allV_some 19 (by kernel_rfl) ?_
     intro v0 h0
     refine allV_some 20 (by kernel_rfl) ?_
     intro v1 h1
     refine allV_some 21 (by kernel_rfl) ?_
     intro v2 h2
     refine allV_some 22 (by kernel_rfl) ?_
     intro v3 h3
     refine allV_some 23 (by kernel_rfl) ?_
     intro v4 h4
     refine allV_some 24 (by kernel_rfl) ?_
     intro v5 h5
     refine allV_some 25 (by kernel_rfl) ?_
     intro v6 h6
     refine allV_some 26 (by kernel_rfl) ?_
     intro v7 h7
     refine allV_some 27 (by kernel_rfl) ?_
     intro v8 h8
     refine allV_some 28 (by kernel_rfl) ?_
     intro v9 h9
     refine allV_nil ?_
     obtain⟨w0,k0,rfl⟩:=h0
     obtain⟨w1,k1,rfl⟩:=h1
     obtain⟨w2,k2,rfl⟩:=h2
     clear h3
     clear h4
     clear h5
     clear h6
     clear h7
     clear h8
     clear h9
     subst hKK
     have S5:=Ld (S3.out.kept (KD.trans kW))
     clear k0 k1 k2 hh kW KD S3 HPR HTR HBD
     show wpList Tryz.prog _ _ [_] _ W
     simp only[Act.put,List.setIfInBounds_toArray,List.set_cons_succ,List.set_cons_zero]
     have gA:∀ i,W.cell? ⟨w.heap.size,i,none⟩=[Value.int .i64 t.op,.string t.name,.int .i64 t.n,.int .i64 t.ty.kind,.string t.ty.name,.slice p n c,.slice ma mn mc][i]?:=S5.out.a.cell
     have HB:=Ld (Blk.new W 38 [.string x,.int .i64 20,.string y,.int .i64 0,.int .i64 0,.string ⟨#[]⟩,.slice none 0 0,.slice none 0 0])
     have K6:Kept (fun _=>False) W (W.alloc (.cells #[.string x,.int .i64 20,.string y,.int .i64 0,.int .i64 0,.string ⟨#[]⟩,.slice none 0 0,.slice none 0 0] 38)):=kR.alloc _
     have S6:=Ld (S5.out.kept K6)
     have HS6:=Ld (HSB.out (W.alloc (.cells #[.string x,.int .i64 20,.string y,.int .i64 0,.int .i64 0,.string ⟨#[]⟩,.slice none 0 0,.slice none 0 0] 38)) W.heap.size S6.out.kp HB.out)
     clear HB HSB K6 S5 HT
     go_wp2_with fail
     clear gA
     refine HS6.out.mono ?_
     generalize W.alloc (.cells #[.string x,.int .i64 20,.string y,.int .i64 0,.int .i64 0,.string ⟨#[]⟩,.slice none 0 0,.slice none 0 0] 38)=w6 at *
     rintro e w7 ⟨tk,kk,rfl,hty,htm,k7⟩
     have hty:TyL bz _ w7 s.ty.kids tk:=hty
     have htm:TmL bz _ w7 s.kids kk:=htm
     obtain⟨pa,pn,pc,rfl⟩:=hty.slice
     obtain⟨qa,qn,qc,rfl⟩:=htm.slice
     have S7:=Ld (S6.out.kept k7)
     have HTY:=Ld hty
     have HTM:=Ld htm
     clear hty htm k7 S6 HS6
     unfold tmVal
     go_upto_region 6 with (fail)
     have K8:Kept (fun _=>False) w7 (w7.alloc (.cells #[.int .i64 s.op,.string s.name,.int .i64 s.n,.int .i64 s.ty.kind,.string s.ty.name,.slice pa pn pc,.slice qa qn qc] 27)):=kR.alloc _
     have BX:Hid (Blk (w7.alloc (.cells #[.int .i64 s.op,.string s.name,.int .i64 s.n,.int .i64 s.ty.kind,.string s.ty.name,.slice pa pn pc,.slice qa qn qc] 27)) w7.heap.size 27 [Value.int .i64 s.op,.string s.name,.int .i64 s.n,.int .i64 s.ty.kind,.string s.ty.name,.slice pa pn pc,.slice qa qn qc]):=Ld (Blk.new w7 27 _)
     have S8:=Ld (S7.out.kept K8)
     have HCM:=Ld (rnm_done (x:=x) (y:=y) HO2.out (HTY.out.frame (sK K8)) (HTM.out.frame (sK K8)))
     have LW:=Ld S8.out.r.lt
     clear K8 S7 HTY HTM
     generalize w7.alloc (.cells #[.int .i64 s.op,.string s.name,.int .i64 s.n,.int .i64 s.ty.kind,.string s.ty.name,.slice pa pn pc,.slice qa qn qc] 27)=w8 at *
     generalize w7.heap.size=P at *
     have gX:∀ i,w8.cell? ⟨P,i,none⟩=[Value.int .i64 s.op,.string s.name,.int .i64 s.n,.int .i64 s.ty.kind,.string s.ty.name,.slice pa pn pc,.slice qa qn qc][i]?:=BX.out.cell
     have hq:Hid (rr=(rnT x y s,0)):=Ld (by rw[HR2.out,HVR.out];rfl)
     clear HR2 HVR HO2
     generalize rnT x y s=r at *
     unfold tmVal at HCM
     go_wp2_with fail
     refine HCM.out.mono ?_
     clear HCM
     rintro e w9 ⟨tk,kk,rfl,hty,htm,k9⟩
     obtain⟨ra,rn,rc,rfl⟩:=hty.slice
     obtain⟨ta,tn,tc,rfl⟩:=htm.slice
     have S9:=Ld (S8.out.kept k9)
     have HTY:=Ld hty
     have HTM:=Ld htm
     clear hty htm k9 S8 BX gX
     have gR:∀ i,w9.cell? ⟨w.heap.size+1,i,none⟩=[Value.int .i64 0,.string ⟨#[]⟩,.int .i64 0,.int .i64 0,.string ⟨#[]⟩,.slice none 0 0,.slice none 0 0][i]?:=S9.out.r.cell
     have fR:∀ i,w9.frozen? ⟨w.heap.size+1,i,none⟩=false:=S9.out.r.frozen
     go_wp2_with fail
     exact bodyPost_ret (results_ct Tryz.results25 rfl (load_tm (t:=r) (r7 S9.out.r rfl))) rfl ⟨_,_,by rw[hq.out];rfl,by rw[hq.out];exact (HTY.out.frame (set7 (fun q hq=>by have:=LW.out;omega))).mono (fun q _ hq=>by have:=LW.out;omega),by rw[hq.out];exact (HTM.out.frame (set7 (fun q hq=>by have:=LW.out;omega))).mono (fun q _ hq=>by have:=LW.out;omega),k7w S9.out.kp (Or.inr (Nat.le_succ _))⟩
   ·rw[hp] at HPR
    have HQ2:Hid ((!tmEq D t)=!validB (rnT x y s)):=Ld (by have:=HQ.out;rw[hp] at this;exact this)
    clear HQ hp
    refine wp_region_mono (L:=Kept (fun _=>False)) (fun i v W=>match i with
     | 0=>v=.string y
     | 1=>v=.bool true
     | 2=>v=.bool true
     | 3=>v=.agg #[.int .i64 t.op,.string t.name,.int .i64 t.n,.int .i64 t.ty.kind,.string t.ty.name,.slice p n c,.slice ma mn mc]
     | 4=>v=.string x
     | 5=>v=.string y
     | 6=>∃ x1 x2 x3 y1 y2 y3,v=.agg #[.int .i64 D.op,.string D.name,.int .i64 D.n,.int .i64 D.ty.kind,.string D.ty.name,.slice x1 x2 x3,.slice y1 y2 y3]∧TyL bz (fun _=>True) W D.ty.kids (.slice x1 x2 x3)∧TmL bz (fun _=>True) W D.kids (.slice y1 y2 y3)
     | 7=>v=.agg #[.int .i64 t.op,.string t.name,.int .i64 t.n,.int .i64 t.ty.kind,.string t.ty.name,.slice p n c,.slice ma mn mc]
     | 8=>v=.bool (tmEq D t)
     | 9=>v=.bool (!tmEq D t)
     | _=>True) [10] [] 49 (by kernel_rfl) rfl (by kernel_rfl) (by kernel_rfl) (fun w=>Kept.refl _ w) (fun _ _ _ h1 h2=>h1.trans h2) (fun c d v a w h=>by cases d <;> exact h) ?_ ?_
    ·refine allM_cons rfl (stepM_of [] rfl fun W k=>allV_nil ?_) ?_
     ·refine opW_go rfl fun K hK=>?_
      go_simp
      exact hK _ _ (KT.mk kR rfl 19 rfl rfl)
     refine allM_cons rfl (stepM_of [0] rfl fun W k=>allV_some 19 rfl fun v0 h0=>allV_nil ?_) ?_
     ·obtain⟨w1,k1,rfl⟩:=h0
      refine opW_go rfl fun K hK=>?_
      go_simp
      go_at_call 46
      refine (HPR.out W).mono ?_
      rintro e w' ⟨rfl,k'⟩
      exact hK _ _ (KT.mk k' rfl 20 rfl rfl)
     refine allM_cons rfl (stepM_of [1,1] rfl fun W k=>allV_some 20 rfl fun v0 h0=>allV_some 20 rfl fun v1 h1=>allV_nil ?_) ?_
     ·clear h0
      obtain⟨w2,k2,rfl⟩:=h1
      refine opW_go rfl fun K hK=>?_
      go_simp
      exact hK _ _ (KT.mk kR rfl 21 rfl rfl)
     refine allM_cons rfl (stepM_of [2] rfl fun W k=>allV_some 21 rfl fun v0 h0=>allV_nil ?_) ?_
     ·obtain⟨w1,k1,rfl⟩:=h0
      have q:=KD.trans k
      have gX:∀ i,W.cell? ⟨w.heap.size,i,none⟩=[Value.int .i64 t.op,.string t.name,.int .i64 t.n,.int .i64 t.ty.kind,.string t.ty.name,.slice p n c,.slice ma mn mc][i]?:=(S3.out.a.kept q (fun h=>h)).cell
      refine opW_go rfl fun K hK=>?_
      go_simp
      exact hK _ _ (KT.mk kR rfl 22 rfl rfl)
     refine allM_cons rfl (stepM_of [2] rfl fun W k=>allV_some 21 rfl fun v0 h0=>allV_nil ?_) ?_
     ·obtain⟨w1,k1,rfl⟩:=h0
      refine opW_go rfl fun K hK=>?_
      go_simp
      exact hK _ _ (KT.mk kR rfl 23 rfl rfl)
     refine allM_cons rfl (stepM_of [2] rfl fun W k=>allV_some 21 rfl fun v0 h0=>allV_nil ?_) ?_
     ·obtain⟨w1,k1,rfl⟩:=h0
      refine opW_go rfl fun K hK=>?_
      go_simp
      exact hK _ _ (KT.mk kR rfl 24 rfl rfl)
     refine allM_cons rfl (stepM_of [3,4,5,2,2] rfl fun W k=>allV_some 22 rfl fun v0 h0=>allV_some 23 rfl fun v1 h1=>allV_some 24 rfl fun v2 h2=>allV_some 21 rfl fun v3 h3=>allV_some 21 rfl fun v4 h4=>allV_nil ?_) ?_
     ·obtain⟨w1,k1,rfl⟩:=h0
      obtain⟨w2,k2,rfl⟩:=h1
      obtain⟨w3,k3,rfl⟩:=h2
      clear h3
      obtain⟨w5,k5,rfl⟩:=h4
      refine opW_go rfl fun K hK=>?_
      go_simp
      go_at_call 62
      refine (HTR.out W (S3.out.kp.trans (KD.trans k))).mono ?_
      rintro e w' ⟨v,u,rfl,q1,q2,k'⟩
      obtain⟨x1,x2,x3,rfl⟩:=q1.slice
      obtain⟨y1,y2,y3,rfl⟩:=q2.slice
      exact hK _ _ (KT.mk k' rfl 25 rfl ⟨x1,x2,x3,y1,y2,y3,rfl,q1.mono (fun _ _ _=>trivial),q2.mono (fun _ _ _=>trivial)⟩)
     refine allM_cons rfl (stepM_of [2] rfl fun W k=>allV_some 21 rfl fun v0 h0=>allV_nil ?_) ?_
     ·obtain⟨w1,k1,rfl⟩:=h0
      have q:=KD.trans k
      have gX:∀ i,W.cell? ⟨w.heap.size,i,none⟩=[Value.int .i64 t.op,.string t.name,.int .i64 t.n,.int .i64 t.ty.kind,.string t.ty.name,.slice p n c,.slice ma mn mc][i]?:=(S3.out.a.kept q (fun h=>h)).cell
      refine opW_go rfl fun K hK=>?_
      go_simp
      exact hK _ _ (KT.mk kR rfl 26 rfl rfl)
     refine allM_cons rfl (stepM_of [6,7,6,2] rfl fun W k=>allV_some 25 rfl fun v0 h0=>allV_some 26 rfl fun v1 h1=>allV_some 25 rfl fun v2 h2=>allV_some 21 rfl fun v3 h3=>allV_nil ?_) ?_
     ·clear h0
      obtain⟨w2,k2,rfl⟩:=h1
      obtain⟨w3,k3,x1,x2,x3,y1,y2,y3,rfl,q1,q2⟩:=h2
      obtain⟨w4,k4,rfl⟩:=h3
      have h:=rsameTm_any HBD.out t W _ _ _ _ _ _ (q1.frame (sK k3)) (q2.frame (sK k3)) (HT.out W (S3.out.kp.trans (KD.trans k))).1 (HT.out W (S3.out.kp.trans (KD.trans k))).2
      unfold tmVal at h
      refine opW_go rfl fun K hK=>?_
      go_simp
      go_at_call 20
      refine h.mono ?_
      rintro e w' ⟨rfl,k'⟩
      exact hK _ _ (KT.mk k' rfl 27 rfl rfl)
     refine allM_cons rfl (stepM_of [8,2] rfl fun W k=>allV_some 27 rfl fun v0 h0=>allV_some 21 rfl fun v1 h1=>allV_nil ?_) ?_
     ·obtain⟨w1,k1,rfl⟩:=h0
      obtain⟨w2,k2,rfl⟩:=h1
      refine opW_go rfl fun K hK=>?_
      go_simp
      exact hK _ _ (KT.mk kR rfl 28 rfl rfl)
     refine allM_tail rfl ?_
     exact allM_nil
    ·intro W kW
     have hh:(List.range 11).filter (fun i=>!([10]:List Nat).contains i)=[0,1,2,3,4,5,6,7,8,9]:=by decide
     change allV _ _ _ _ _ ((List.range 11).filter (fun i=>!([10]:List Nat).contains i)) _
     rw[hh]
     generalize hKK:(fun a1=>wpList Tryz.prog _ _ (pickT [10] 0 _) a1 W)=KK
     refine allV_some 19 (by kernel_rfl) ?_
     intro v0 h0
     refine allV_some 20 (by kernel_rfl) ?_
     intro v1 h1
     refine allV_some 21 (by kernel_rfl) ?_
     intro v2 h2
     refine allV_some 22 (by kernel_rfl) ?_
     intro v3 h3
     refine allV_some 23 (by kernel_rfl) ?_
     intro v4 h4
     refine allV_some 24 (by kernel_rfl) ?_
     intro v5 h5
     refine allV_some 25 (by kernel_rfl) ?_
     intro v6 h6
     refine allV_some 26 (by kernel_rfl) ?_
     intro v7 h7
     refine allV_some 27 (by kernel_rfl) ?_
     intro v8 h8
     refine allV_some 28 (by kernel_rfl) ?_
     intro v9 h9
     refine allV_nil ?_
     obtain⟨w0,k0,rfl⟩:=h0
     obtain⟨w1,k1,rfl⟩:=h1
     obtain⟨w2,k2,rfl⟩:=h2
     obtain⟨w3,k3,rfl⟩:=h3
     obtain⟨w4,k4,rfl⟩:=h4
     obtain⟨w5,k5,rfl⟩:=h5
     obtain⟨w6,k6,x1,x2,x3,y1,y2,y3,rfl,hz1,hz2⟩:=h6
     obtain⟨w7,k7,rfl⟩:=h7
     obtain⟨w8,k8,rfl⟩:=h8
     obtain⟨w9,k9,rfl⟩:=h9
     subst hKK
     have S5:=Ld (S3.out.kept (KD.trans kW))
     clear hz1 hz2 k0 k1 k2 k3 k4 k5 k6 k7 k8 k9 hh kW KD S3 HPR HTR HBD
     show wpList Tryz.prog _ _ [_] _ W
     simp only[Act.put,List.setIfInBounds_toArray,List.set_cons_succ,List.set_cons_zero]
     cases hqq:tmEq D t
     ·have hq:Hid (rr=(tm0,1)):=Ld (by
       have h:=HQ2.out
       rw[hqq] at h
       have h2:validB (rnT x y s)=false:=by simpa using h.symm
       rw[HR2.out,h2];rfl)
      clear HQ2 hqq HR2 HO2 HSB HT
      have gR:∀ i,W.cell? ⟨w.heap.size+1,i,none⟩=[Value.int .i64 0,.string ⟨#[]⟩,.int .i64 0,.int .i64 0,.string ⟨#[]⟩,.slice none 0 0,.slice none 0 0][i]?:=S5.out.r.cell
      have fR:∀ i,W.frozen? ⟨w.heap.size+1,i,none⟩=false:=S5.out.r.frozen
      go_wp2_with fail
      exact bodyPost_ret (results_ct Tryz.results25 rfl (load_tm (t:=tm0) (r7 S5.out.r rfl))) rfl ⟨_,_,by rw[hq.out];rfl,by rw[hq.out];exact .nil (Or.inl rfl),by rw[hq.out];exact .nil (Or.inl rfl),k7w S5.out.kp (Or.inr (Nat.le_succ _))⟩
     ·have HVR:Hid (validB (rnT x y s)=true):=Ld (by have h:=HQ2.out;rw[hqq] at h;simpa using h.symm)
      clear HQ2 hqq
      have gA:∀ i,W.cell? ⟨w.heap.size,i,none⟩=[Value.int .i64 t.op,.string t.name,.int .i64 t.n,.int .i64 t.ty.kind,.string t.ty.name,.slice p n c,.slice ma mn mc][i]?:=S5.out.a.cell
      have HB:=Ld (Blk.new W 38 [.string x,.int .i64 20,.string y,.int .i64 0,.int .i64 0,.string ⟨#[]⟩,.slice none 0 0,.slice none 0 0])
      have K6:Kept (fun _=>False) W (W.alloc (.cells #[.string x,.int .i64 20,.string y,.int .i64 0,.int .i64 0,.string ⟨#[]⟩,.slice none 0 0,.slice none 0 0] 38)):=kR.alloc _
      have S6:=Ld (S5.out.kept K6)
      have HS6:=Ld (HSB.out (W.alloc (.cells #[.string x,.int .i64 20,.string y,.int .i64 0,.int .i64 0,.string ⟨#[]⟩,.slice none 0 0,.slice none 0 0] 38)) W.heap.size S6.out.kp HB.out)
      clear HB HSB K6 S5 HT
      go_wp2_with fail
      clear gA
      refine HS6.out.mono ?_
      generalize W.alloc (.cells #[.string x,.int .i64 20,.string y,.int .i64 0,.int .i64 0,.string ⟨#[]⟩,.slice none 0 0,.slice none 0 0] 38)=w6 at *
      rintro e w7 ⟨tk,kk,rfl,hty,htm,k7⟩
      have hty:TyL bz _ w7 s.ty.kids tk:=hty
      have htm:TmL bz _ w7 s.kids kk:=htm
      obtain⟨pa,pn,pc,rfl⟩:=hty.slice
      obtain⟨qa,qn,qc,rfl⟩:=htm.slice
      have S7:=Ld (S6.out.kept k7)
      have HTY:=Ld hty
      have HTM:=Ld htm
      clear hty htm k7 S6 HS6
      unfold tmVal
      go_upto_region 6 with (fail)
      have K8:Kept (fun _=>False) w7 (w7.alloc (.cells #[.int .i64 s.op,.string s.name,.int .i64 s.n,.int .i64 s.ty.kind,.string s.ty.name,.slice pa pn pc,.slice qa qn qc] 27)):=kR.alloc _
      have BX:Hid (Blk (w7.alloc (.cells #[.int .i64 s.op,.string s.name,.int .i64 s.n,.int .i64 s.ty.kind,.string s.ty.name,.slice pa pn pc,.slice qa qn qc] 27)) w7.heap.size 27 [Value.int .i64 s.op,.string s.name,.int .i64 s.n,.int .i64 s.ty.kind,.string s.ty.name,.slice pa pn pc,.slice qa qn qc]):=Ld (Blk.new w7 27 _)
      have S8:=Ld (S7.out.kept K8)
      have HCM:=Ld (rnm_done (x:=x) (y:=y) HO2.out (HTY.out.frame (sK K8)) (HTM.out.frame (sK K8)))
      have LW:=Ld S8.out.r.lt
      clear K8 S7 HTY HTM
      generalize w7.alloc (.cells #[.int .i64 s.op,.string s.name,.int .i64 s.n,.int .i64 s.ty.kind,.string s.ty.name,.slice pa pn pc,.slice qa qn qc] 27)=w8 at *
      generalize w7.heap.size=P at *
      have gX:∀ i,w8.cell? ⟨P,i,none⟩=[Value.int .i64 s.op,.string s.name,.int .i64 s.n,.int .i64 s.ty.kind,.string s.ty.name,.slice pa pn pc,.slice qa qn qc][i]?:=BX.out.cell
      have hq:Hid (rr=(rnT x y s,0)):=Ld (by rw[HR2.out,HVR.out];rfl)
      clear HR2 HVR HO2
      generalize rnT x y s=r at *
      unfold tmVal at HCM
      go_wp2_with fail
      refine HCM.out.mono ?_
      clear HCM
      rintro e w9 ⟨tk,kk,rfl,hty,htm,k9⟩
      obtain⟨ra,rn,rc,rfl⟩:=hty.slice
      obtain⟨ta,tn,tc,rfl⟩:=htm.slice
      have S9:=Ld (S8.out.kept k9)
      have HTY:=Ld hty
      have HTM:=Ld htm
      clear hty htm k9 S8 BX gX
      have gR:∀ i,w9.cell? ⟨w.heap.size+1,i,none⟩=[Value.int .i64 0,.string ⟨#[]⟩,.int .i64 0,.int .i64 0,.string ⟨#[]⟩,.slice none 0 0,.slice none 0 0][i]?:=S9.out.r.cell
      have fR:∀ i,w9.frozen? ⟨w.heap.size+1,i,none⟩=false:=S9.out.r.frozen
      go_wp2_with fail
      exact bodyPost_ret (results_ct Tryz.results25 rfl (load_tm (t:=r) (r7 S9.out.r rfl))) rfl ⟨_,_,by rw[hq.out];rfl,by rw[hq.out];exact (HTY.out.frame (set7 (fun q hq=>by have:=LW.out;omega))).mono (fun q _ hq=>by have:=LW.out;omega),by rw[hq.out];exact (HTM.out.frame (set7 (fun q hq=>by have:=LW.out;omega))).mono (fun q _ hq=>by have:=LW.out;omega),k7w S9.out.kp (Or.inr (Nat.le_succ _))⟩
def TO (bz:Nat) (s:ByteArray) (n:Nat) (σ:PS) (t:Tm) (σ':PS):Prop:=∀ (b:Nat) (w:World),PW w b s σ→Calls Tryz.prog 76 #[.pointer (some ⟨b,0,none⟩),.int .i64 n] w (RPost b s (VTm bz w.heap.size) (.ok (t,σ')) w)
def AO (bz:Nat) (s:ByteArray) (σ:PS) (t:Tm) (σ':PS):Prop:=∀ (b:Nat) (w:World),PW w b s σ→Calls Tryz.prog 121 #[.pointer (some ⟨b,0,none⟩)] w (RPost b s (VTm bz w.heap.size) (.ok (t,σ')) w)
def WO (bz:Nat) (s:ByteArray) (σ:PS) (t:Tm) (σ':PS):Prop:=∀ (b:Nat) (w:World),PW w b s σ→Calls Tryz.prog 166 #[.pointer (some ⟨b,0,none⟩),.string σ.tx] w (RPost b s (VTm bz w.heap.size) (.ok (t,σ')) w)
def IO (bz:Nat) (s:ByteArray) (σ:PS) (t:Tm) (σ':PS):Prop:=∀ (b:Nat) (w:World),PW w b s σ→Calls Tryz.prog 165 #[.pointer (some ⟨b,0,none⟩),.string kLpar,.string kRpar] w (RPost b s (VTm bz w.heap.size) (.ok (t,σ')) w)
def FO (bz:Nat) (s:ByteArray) (t:Tm) (σ:PS) (t':Tm) (σ':PS):Prop:=∀ (b:Nat) (w:World) (ta:Option Addr) (tn tc:Nat) (ma:Option Addr) (mn mc n0:Nat),PW w b s σ→b<n0→n0≤w.heap.size→TyL bz (fun k=>n0≤k) w t.ty.kids (.slice ta tn tc)→TmL bz (fun k=>n0≤k) w t.kids (.slice ma mn mc) →
 Calls Tryz.prog 120 #[.pointer (some ⟨b,0,none⟩),tmVal t (.slice ta tn tc) (.slice ma mn mc)] w (RPost b s (VTm bz n0) (.ok (t',σ')) w)
def RO (bz:Nat) (s:ByteArray) (n:Nat) (t:Tm) (σ:PS) (t':Tm) (σ':PS):Prop:=∀ (b:Nat) (w:World) (ta:Option Addr) (tn tc:Nat) (ma:Option Addr) (mn mc n0:Nat),PW w b s σ→b<n0→n0≤w.heap.size→TyL bz (fun k=>n0≤k) w t.ty.kids (.slice ta tn tc)→TmL bz (fun k=>n0≤k) w t.kids (.slice ma mn mc) →
 Calls Tryz.prog 122 #[.pointer (some ⟨b,0,none⟩),tmVal t (.slice ta tn tc) (.slice ma mn mc),.int .i64 n] w (RPost b s (VTm bz n0) (.ok (t',σ')) w)
theorem set7' {W:World} {ok:Nat→Prop} {g:Nat} {x0 x1 x2 x3 x4 x5 x6:Value} (h:∀ k,ok k→k≠g):Same ok W (((((((W.setCell ⟨g,0,none⟩ x0).setCell ⟨g,1,none⟩ x1).setCell ⟨g,2,none⟩ x2).setCell ⟨g,3,none⟩ x3).setCell ⟨g,4,none⟩ x4).setCell ⟨g,5,none⟩ x5).setCell ⟨g,6,none⟩ x6):=
 Same.of_kept (S:=(·=g)) (k7w kR (Or.inl rfl)) h
structure PQ (w:World) (b:Nat) (s:ByteArray) (σ:PS) (W:World):Prop where
 p:PW W b s σ
 r:Blk W w.heap.size 27 z27
 k:Kept (·=b) w W
 lo:b<w.heap.size
theorem PQ.start {w:World} {b:Nat} {s:ByteArray} {σ:PS} (h:PW w b s σ):PQ w b s σ (w.alloc Z7):=⟨h.alloc _,Blk.new w 27 z27,kR.alloc _,h.lt⟩
theorem PQ.call {w W W':World} {b:Nat} {s:ByteArray} {σ σ':PS} (h:PQ w b s σ W) (p:PW W' b s σ') (k:Kept (·=b) W W'):PQ w b s σ' W':=⟨p,h.r.kept k (by have:=h.lo;show ¬ w.heap.size=b;omega),h.k.trans k,h.lo⟩
theorem PQ.al {w W:World} {b:Nat} {s:ByteArray} {σ:PS} (h:PQ w b s σ W) (o:Obj):PQ w b s σ (W.alloc o):=⟨h.p.alloc _,h.r.alloc _,h.k.alloc _,h.lo⟩
theorem PQ.sz {w W:World} {b:Nat} {s:ByteArray} {σ:PS} (h:PQ w b s σ W):w.heap.size<W.heap.size:=h.r.lt
theorem PQ.fin {fn:Func} {p:Tmp} (hf:fn.results=#[.cell p 27]) {w W:World} {b:Nat} {s:ByteArray} {σ:PS} (h:PQ w b s σ W) {a:Act} {t:Tm} {tk kk:Value} (hR:a.tmps.getD p undef=.pointer (some ⟨w.heap.size,0,none⟩)) (hd:a.defers=[]) (hk:TyL bz (fun q=>w.heap.size<q) W t.ty.kids tk) (hm:TmL bz (fun q=>w.heap.size<q) W t.kids kk):
  bodyPost Tryz.prog fn (RPost b s (VTm bz w.heap.size) (.ok (t,σ)) w) Exit.ret a (((((((W.setCell ⟨w.heap.size,0,none⟩ (.int .i64 t.op)).setCell ⟨w.heap.size,1,none⟩ (.string t.name)).setCell ⟨w.heap.size,2,none⟩ (.int .i64 t.n)).setCell ⟨w.heap.size,3,none⟩ (.int .i64 t.ty.kind)).setCell ⟨w.heap.size,4,none⟩ (.string t.ty.name)).setCell ⟨w.heap.size,5,none⟩ tk).setCell ⟨w.heap.size,6,none⟩ kk):=by
 have hl:=h.lo
 refine ret_tm hf rfl hR hd (r7 h.r rfl) ?_ ?_ (p7w h.p (by omega) (by have:=h.p.two;omega)) (k7w h.k (Or.inr (Nat.le_refl _)))
 ·exact (hk.frame (set7' (fun q hq=>by omega))).mono (fun q _ h=>by omega)
 ·exact (hm.frame (set7' (fun q hq=>by omega))).mono (fun q _ h=>by omega)
theorem PQ.fin1 {fn:Func} {p:Tmp} (hf:fn.results=#[.cell p 27]) {w W:World} {b:Nat} {s:ByteArray} {σ:PS} (h:PQ w b s σ W) {a:Act} {op:Int} {t:Tm} {tk kk:Value} (hR:a.tmps.getD p undef=.pointer (some ⟨w.heap.size,0,none⟩)) (hd:a.defers=[]) (hk:TyL bz (fun q=>w.heap.size<q) W t.ty.kids tk) (hm:TmL bz (fun q=>w.heap.size<q) W t.kids kk):
  bodyPost Tryz.prog fn (RPost b s (VTm bz w.heap.size) (.ok (nd op [t],σ)) w) Exit.ret a ((((((((W.setCell ⟨w.heap.size,0,none⟩ (.int .i64 op)).setCell ⟨w.heap.size,1,none⟩ (.string ⟨#[]⟩)).setCell ⟨w.heap.size,2,none⟩ (.int .i64 0)).setCell ⟨w.heap.size,3,none⟩ (.int .i64 0)).setCell ⟨w.heap.size,4,none⟩ (.string ⟨#[]⟩)).setCell ⟨w.heap.size,5,none⟩ (.slice none 0 0)).setCell ⟨w.heap.size,6,none⟩ (.slice (some ⟨W.heap.size,0,none⟩) 1 1)).alloc (.cells #[.int .i64 t.op,.string t.name,.int .i64 t.n,.int .i64 t.ty.kind,.string t.ty.name,tk,kk] 27)):=by
 have hl:=h.lo
 have hz:=h.sz
 refine ret_tm hf rfl hR hd ((r7 h.r rfl).alloc _) .nil0 ?_ ((p7w h.p (by omega) (by have:=h.p.two;omega)).alloc _) ((k7w h.k (Or.inr (Nat.le_refl _))).alloc _)
 exact TmL.one (by omega) (Nat.le_refl _) (Blk.new' 27 _ (by simp)) (((hk.frame (set7' (fun q hq=>by omega))).frame (Same.alloc _ _)).mono (fun q _ h=>by omega)) (((hm.frame (set7' (fun q hq=>by omega))).frame (Same.alloc _ _)).mono (fun q _ h=>by omega))
theorem to_13 {s:ByteArray} {σ σ1:PS} {t:Tm} (hm:isS σ kMinus=false) (hA:AO bz s σ t σ1) (hF:FO bz s t σ1 t σ1):TO bz s 13 σ t σ1:=by
 intro b w h
 have q0:=PQ.start h
 go_enter Tryz.func76,Tryz.ntmps76
 go_wp2_with fail
 refine (eat_no q0.p kMinus hm).mono ?_
 rintro e w' ⟨rfl,rfl⟩
 go_wp2_with fail
 refine (hA b _ q0.p).mono ?_
 rintro e w1 hr
 obtain⟨v,rfl,⟨tk,kk,rfl,a1,c1⟩,p1,k1⟩:=hr.getOk rfl
 obtain⟨ta1,tn1,tc1,rfl⟩:=a1.slice
 obtain⟨ma1,mn1,mc1,rfl⟩:=c1.slice
 have q1:=q0.call p1 k1
 clear hr
 unfold tmVal
 go_wp2_with fail
 have z1:=q0.sz
 refine (hF b w1 ta1 tn1 tc1 ma1 mn1 mc1 _ p1 q0.p.lt k1.size a1 c1).mono ?_
 rintro e w2 hr
 obtain⟨v,rfl,⟨tk,kk,rfl,a2,c2⟩,p2,k2⟩:=hr.getOk rfl
 obtain⟨ta2,tn2,tc2,rfl⟩:=a2.slice
 obtain⟨ma2,mn2,mc2,rfl⟩:=c2.slice
 have q2:=q1.call p2 k2
 clear hr
 unfold tmVal
 have gR:∀ i,w2.cell? ⟨w.heap.size,i,none⟩=[Value.int .i64 0,.string ⟨#[]⟩,.int .i64 0,.int .i64 0,.string ⟨#[]⟩,.slice none 0 0,.slice none 0 0][i]?:=q2.r.cell
 have fR:∀ i,w2.frozen? ⟨w.heap.size,i,none⟩=false:=q2.r.frozen
 go_wp2_with fail
 exact q2.fin Tryz.results76 rfl rfl (a2.mono (fun q _ h=>by omega)) (c2.mono (fun q _ h=>by omega))
theorem to_5 {s:ByteArray} {σ σ1:PS} {t:Tm} (hm:isS σ kNot=false) (hT:TO bz s 6 σ t σ1):TO bz s 5 σ t σ1:=by
 intro b w h
 have q0:=PQ.start h
 go_enter Tryz.func76,Tryz.ntmps76
 go_wp2_with fail
 refine (eat_no q0.p kNot hm).mono ?_
 rintro e w' ⟨rfl,rfl⟩
 go_wp2_with fail
 have z1:=q0.sz
 refine (hT b _ q0.p).mono ?_
 rintro e w2 hr
 obtain⟨v,rfl,⟨tk,kk,rfl,a2,c2⟩,p2,k2⟩:=hr.getOk rfl
 obtain⟨ta2,tn2,tc2,rfl⟩:=a2.slice
 obtain⟨ma2,mn2,mc2,rfl⟩:=c2.slice
 have q2:=q0.call p2 k2
 clear hr
 unfold tmVal
 have gR:∀ i,w2.cell? ⟨w.heap.size,i,none⟩=[Value.int .i64 0,.string ⟨#[]⟩,.int .i64 0,.int .i64 0,.string ⟨#[]⟩,.slice none 0 0,.slice none 0 0][i]?:=q2.r.cell
 have fR:∀ i,w2.frozen? ⟨w.heap.size,i,none⟩=false:=q2.r.frozen
 go_wp2_with fail
 exact q2.fin Tryz.results76 rfl rfl (a2.mono (fun q _ h=>by omega)) (c2.mono (fun q _ h=>by omega))
theorem to_n {n:Nat} (hv:lvOK n) {s:ByteArray} {σ σ1 σ2:PS} {t u:Tm} (hT:TO bz s (n+1) σ t σ1) (hR:RO bz s n t σ1 u σ2):TO bz s n σ u σ2:=by
 have i5:((n:Int)==5)=false:=by rw[beq_eq_false_iff_ne];unfold lvOK at hv;omega
 have i13:((n:Int)==13)=false:=by rw[beq_eq_false_iff_ne];unfold lvOK at hv;omega
 have iw:IntKind.i64.wrap ((n:Int)+1)=((n+1:Nat):Int):=by rw[IntKind.wrap_i64];unfold lvOK at hv;omega
 clear hv
 intro b w h
 have q0:=PQ.start h
 go_enter Tryz.func76,Tryz.ntmps76
 go_wp2_with fail
 have z1:=q0.sz
 refine (hT b _ q0.p).mono ?_
 rintro e w1 hr
 obtain⟨v,rfl,⟨tk,kk,rfl,a1,c1⟩,p1,k1⟩:=hr.getOk rfl
 obtain⟨ta1,tn1,tc1,rfl⟩:=a1.slice
 obtain⟨ma1,mn1,mc1,rfl⟩:=c1.slice
 have q1:=q0.call p1 k1
 clear hr
 unfold tmVal
 have lt:Blk (w1.alloc (.cells #[.int .i64 t.op,.string t.name,.int .i64 t.n,.int .i64 t.ty.kind,.string t.ty.name,.slice ta1 tn1 tc1,.slice ma1 mn1 mc1] 27)) w1.heap.size 27 (tmCells t (.slice ta1 tn1 tc1) (.slice ma1 mn1 mc1)):=Blk.new w1 27 _
 have q3:=q1.al (.cells #[.int .i64 t.op,.string t.name,.int .i64 t.n,.int .i64 t.ty.kind,.string t.ty.name,.slice ta1 tn1 tc1,.slice ma1 mn1 mc1] 27)
 have a3:=a1.frame (Same.alloc _ (.cells #[.int .i64 t.op,.string t.name,.int .i64 t.n,.int .i64 t.ty.kind,.string t.ty.name,.slice ta1 tn1 tc1,.slice ma1 mn1 mc1] 27))
 have c3:=c1.frame (Same.alloc _ (.cells #[.int .i64 t.op,.string t.name,.int .i64 t.n,.int .i64 t.ty.kind,.string t.ty.name,.slice ta1 tn1 tc1,.slice ma1 mn1 mc1] 27))
 have z3:(w1.alloc (.cells #[.int .i64 t.op,.string t.name,.int .i64 t.n,.int .i64 t.ty.kind,.string t.ty.name,.slice ta1 tn1 tc1,.slice ma1 mn1 mc1] 27)).heap.size=w1.heap.size+1:=by simp
 have yt:∀ i,(w1.alloc (.cells #[.int .i64 t.op,.string t.name,.int .i64 t.n,.int .i64 t.ty.kind,.string t.ty.name,.slice ta1 tn1 tc1,.slice ma1 mn1 mc1] 27)).cell? ⟨w1.heap.size,i,none⟩=[Value.int .i64 t.op,.string t.name,.int .i64 t.n,.int .i64 t.ty.kind,.string t.ty.name,.slice ta1 tn1 tc1,.slice ma1 mn1 mc1][i]?:=lt.cell
 have hb0:=q0.p.lt
 have k1z:=k1.size
 clear iw
 go_upto_region 10 with (fail)
 generalize w1.alloc (.cells #[.int .i64 t.op,.string t.name,.int .i64 t.n,.int .i64 t.ty.kind,.string t.ty.name,.slice ta1 tn1 tc1,.slice ma1 mn1 mc1] 27)=w3 at *
 go_wp2_with fail
 refine (hR b w3 ta1 tn1 tc1 ma1 mn1 mc1 _ q3.p hb0 (by omega) a3 c3).mono ?_
 rintro e w2 hr
 obtain⟨v,rfl,⟨tk,kk,rfl,a2,c2⟩,p2,k2⟩:=hr.getOk rfl
 obtain⟨ta2,tn2,tc2,rfl⟩:=a2.slice
 obtain⟨ma2,mn2,mc2,rfl⟩:=c2.slice
 have q2:=q3.call p2 k2
 clear hr
 unfold tmVal
 have gR:∀ i,w2.cell? ⟨w.heap.size,i,none⟩=[Value.int .i64 0,.string ⟨#[]⟩,.int .i64 0,.int .i64 0,.string ⟨#[]⟩,.slice none 0 0,.slice none 0 0][i]?:=q2.r.cell
 have fR:∀ i,w2.frozen? ⟨w.heap.size,i,none⟩=false:=q2.r.frozen
 clear yt lt
 go_wp2_with fail
 exact q2.fin Tryz.results76 rfl rfl (a2.mono (fun q _ h=>by omega)) (c2.mono (fun q _ h=>by omega))
theorem io_any {s:ByteArray} {σ σ1 σ2 σ3:PS} {t:Tm} (h1:openS s σ kLpar=.ok σ1) (hT:TO bz s 1 σ1 t σ2) (h3:1≤σ2.nest) (h4:shutS s σ2 kRpar=.ok σ3):IO bz s σ t σ3:=by
 intro b w h
 have q0:=PQ.start h
 go_enter Tryz.func165,Tryz.ntmps165
 go_wp2_with fail
 refine (open_ok q0.p kLpar h1).mono ?_
 rintro e w1 ⟨rfl,p1,k1⟩
 have q1:=q0.call p1 k1
 have z1:=q1.sz
 go_wp2_with fail
 refine (hT b w1 p1).mono ?_
 rintro e w2 hr
 obtain⟨v,rfl,⟨tk,kk,rfl,a2,c2⟩,p2,k2⟩:=hr.getOk rfl
 obtain⟨ta2,tn2,tc2,rfl⟩:=a2.slice
 obtain⟨ma2,mn2,mc2,rfl⟩:=c2.slice
 have q2:=q1.call p2 k2
 clear hr
 unfold tmVal
 have lt:Blk (w2.alloc (.cells #[.int .i64 t.op,.string t.name,.int .i64 t.n,.int .i64 t.ty.kind,.string t.ty.name,.slice ta2 tn2 tc2,.slice ma2 mn2 mc2] 27)) w2.heap.size 27 (tmCells t (.slice ta2 tn2 tc2) (.slice ma2 mn2 mc2)):=Blk.new w2 27 _
 have q3:=q2.al (.cells #[.int .i64 t.op,.string t.name,.int .i64 t.n,.int .i64 t.ty.kind,.string t.ty.name,.slice ta2 tn2 tc2,.slice ma2 mn2 mc2] 27)
 have a3:=a2.frame (Same.alloc _ (.cells #[.int .i64 t.op,.string t.name,.int .i64 t.n,.int .i64 t.ty.kind,.string t.ty.name,.slice ta2 tn2 tc2,.slice ma2 mn2 mc2] 27))
 have c3:=c2.frame (Same.alloc _ (.cells #[.int .i64 t.op,.string t.name,.int .i64 t.n,.int .i64 t.ty.kind,.string t.ty.name,.slice ta2 tn2 tc2,.slice ma2 mn2 mc2] 27))
 have z2:=k2.size
 go_upto_region 3 with (fail)
 generalize w2.alloc (.cells #[.int .i64 t.op,.string t.name,.int .i64 t.n,.int .i64 t.ty.kind,.string t.ty.name,.slice ta2 tn2 tc2,.slice ma2 mn2 mc2] 27)=w3 at *
 generalize w2.heap.size=L at *
 have lb:=q3.p.lt
 have l0:=q0.lo
 go_wp2_with fail
 refine (shut_ok q3.p h3 kRpar h4).mono ?_
 rintro e w4 ⟨rfl,p4,k4⟩
 have q4:=q3.call p4 k4
 have yt:∀ i,w4.cell? ⟨L,i,none⟩=[Value.int .i64 t.op,.string t.name,.int .i64 t.n,.int .i64 t.ty.kind,.string t.ty.name,.slice ta2 tn2 tc2,.slice ma2 mn2 mc2][i]?:=(lt.kept k4 (by show ¬ L=b;omega)).cell
 have a4:=a3.frame (Same.of_kept k4 (fun q hq e=>by omega))
 have c4:=c3.frame (Same.of_kept k4 (fun q hq e=>by omega))
 have gR:∀ i,w4.cell? ⟨w.heap.size,i,none⟩=[Value.int .i64 0,.string ⟨#[]⟩,.int .i64 0,.int .i64 0,.string ⟨#[]⟩,.slice none 0 0,.slice none 0 0][i]?:=q4.r.cell
 have fR:∀ i,w4.frozen? ⟨w.heap.size,i,none⟩=false:=q4.r.frozen
 go_wp2_with fail
 exact q4.fin Tryz.results165 rfl rfl (a4.mono (fun q _ h=>by omega)) (c4.mono (fun q _ h=>by omega))
theorem wo_name {s:ByteArray} {σ σ1:PS} (hk:keywordB σ.tx=false) (ha:advS s σ=.ok σ1):WO bz s σ (.mk 20 σ.tx 0 ty0 []) σ1:=by
 intro b w h
 have q0:=PQ.start h
 go_enter Tryz.func166,Tryz.ntmps166
 go_wp2_with (first | (go_at_call 39;refine cR (keyword_t hk _) ?_) | (go_at_call 202;refine (function_any _ _).mono ?_;rintro e w' ⟨rfl,rfl⟩))
 refine (adv_ok q0.p ha).mono ?_
 rintro e w1 ⟨rfl,p1,k1⟩
 have q1:=q0.call p1 k1
 have gR:∀ i,w1.cell? ⟨w.heap.size,i,none⟩=[Value.int .i64 0,.string ⟨#[]⟩,.int .i64 0,.int .i64 0,.string ⟨#[]⟩,.slice none 0 0,.slice none 0 0][i]?:=q1.r.cell
 have fR:∀ i,w1.frozen? ⟨w.heap.size,i,none⟩=false:=q1.r.frozen
 go_wp2_with fail
 exact q1.fin (t:=.mk 20 σ.tx 0 ty0 []) Tryz.results166 rfl rfl .nil0 .nil0
theorem wo_fun {s:ByteArray} {σ σ1 σ2:PS} {t:Tm} (hk:keywordB σ.tx=true) (hf:(functionN σ.tx != 0)=true) (ha:advS s σ=.ok σ1) (hI:IO bz s σ1 t σ2):WO bz s σ (nd (functionN σ.tx) [t]) σ2:=by
 intro b w h
 have q0:=PQ.start h
 go_enter Tryz.func166,Tryz.ntmps166
 go_wp2_with (first | (go_at_call 39;refine cR (keyword_t hk _) ?_) | (go_at_call 202;refine (function_any _ _).mono ?_;rintro e w' ⟨rfl,rfl⟩))
 refine (adv_ok q0.p ha).mono ?_
 rintro e w1 ⟨rfl,p1,k1⟩
 have q1:=q0.call p1 k1
 have z1:=q1.sz
 go_wp2_with fail
 refine (hI b w1 p1).mono ?_
 rintro e w2 hr
 obtain⟨v,rfl,⟨tk,kk,rfl,a2,c2⟩,p2,k2⟩:=hr.getOk rfl
 obtain⟨ta2,tn2,tc2,rfl⟩:=a2.slice
 obtain⟨ma2,mn2,mc2,rfl⟩:=c2.slice
 have q2:=q1.call p2 k2
 clear hr
 unfold tmVal
 have gR:∀ i,w2.cell? ⟨w.heap.size,i,none⟩=[Value.int .i64 0,.string ⟨#[]⟩,.int .i64 0,.int .i64 0,.string ⟨#[]⟩,.slice none 0 0,.slice none 0 0][i]?:=q2.r.cell
 have fR:∀ i,w2.frozen? ⟨w.heap.size,i,none⟩=false:=q2.r.frozen
 have l9:=q2.sz
 go_wp2_with fail
 exact q2.fin1 Tryz.results166 rfl rfl (a2.mono (fun q _ h=>by omega)) (c2.mono (fun q _ h=>by omega))
theorem ao_num {s:ByteArray} {σ σ1:PS} (hk:(σ.k==2)=true) (ha:advS s σ=.ok σ1):AO bz s σ (.mk 19 nil0 σ.n ty0 []) σ1:=by
 intro b w h
 have q0:=PQ.start h
 have c2:=q0.p.kd
 have c3:=q0.p.txt
 have c4:=q0.p.num
 have c5:=q0.p.tat
 have lx:Blk ((w.alloc Z7).alloc (.cells #[.int .i64 σ.k,.string σ.tx,.int .i64 σ.n,.int .i64 σ.ta] 140)) (w.heap.size+1) 140 [.int .i64 σ.k,.string σ.tx,.int .i64 σ.n,.int .i64 σ.ta]:=Blk.new' 140 _ (by simp)
 have q1:=q0.al (.cells #[.int .i64 σ.k,.string σ.tx,.int .i64 σ.n,.int .i64 σ.ta] 140)
 have zt:((w.alloc Z7).alloc (.cells #[.int .i64 σ.k,.string σ.tx,.int .i64 σ.n,.int .i64 σ.ta] 140)).heap.size=w.heap.size+2:=by simp
 go_enter Tryz.func121,Tryz.ntmps121
 go_upto_region 2 with (fail)
 generalize (w.alloc Z7).alloc (.cells #[.int .i64 σ.k,.string σ.tx,.int .i64 σ.n,.int .i64 σ.ta] 140)=wt at *
 clear c2 c3 c4 c5 q0
 have yx:=lx.cell
 go_wp2_with fail
 refine (adv_ok q1.p ha).mono ?_
 rintro e w1 ⟨rfl,p1,k1⟩
 have q2:=q1.call p1 k1
 have lb:=q1.lo
 clear yx
 have yx:=(lx.kept k1 (by show ¬ w.heap.size+1=b;omega)).cell
 have gR:∀ i,w1.cell? ⟨w.heap.size,i,none⟩=[Value.int .i64 0,.string ⟨#[]⟩,.int .i64 0,.int .i64 0,.string ⟨#[]⟩,.slice none 0 0,.slice none 0 0][i]?:=q2.r.cell
 have fR:∀ i,w1.frozen? ⟨w.heap.size,i,none⟩=false:=q2.r.frozen
 go_wp2_with fail
 exact q2.fin (t:=.mk 19 nil0 σ.n ty0 []) Tryz.results121 rfl rfl .nil0 .nil0
theorem ao_word {s:ByteArray} {σ σ1:PS} {t:Tm} (hk:(σ.k==2)=false) (hk1:(σ.k==1)=true) (hW:WO bz s σ t σ1):AO bz s σ t σ1:=by
 intro b w h
 have q0:=PQ.start h
 have c2:=q0.p.kd
 have c3:=q0.p.txt
 have c4:=q0.p.num
 have c5:=q0.p.tat
 have lx:Blk ((w.alloc Z7).alloc (.cells #[.int .i64 σ.k,.string σ.tx,.int .i64 σ.n,.int .i64 σ.ta] 140)) (w.heap.size+1) 140 [.int .i64 σ.k,.string σ.tx,.int .i64 σ.n,.int .i64 σ.ta]:=Blk.new' 140 _ (by simp)
 have q1:=q0.al (.cells #[.int .i64 σ.k,.string σ.tx,.int .i64 σ.n,.int .i64 σ.ta] 140)
 have zt:((w.alloc Z7).alloc (.cells #[.int .i64 σ.k,.string σ.tx,.int .i64 σ.n,.int .i64 σ.ta] 140)).heap.size=w.heap.size+2:=by simp
 go_enter Tryz.func121,Tryz.ntmps121
 go_upto_region 2 with (fail)
 generalize (w.alloc Z7).alloc (.cells #[.int .i64 σ.k,.string σ.tx,.int .i64 σ.n,.int .i64 σ.ta] 140)=wt at *
 clear c2 c3 c4 c5 q0
 have yx:=lx.cell
 go_wp2_with fail
 refine (hW b wt q1.p).mono ?_
 have z1:=q1.sz
 rintro e w2 hr
 obtain⟨v,rfl,⟨tk,kk,rfl,a2,c2⟩,p2,k2⟩:=hr.getOk rfl
 obtain⟨ta2,tn2,tc2,rfl⟩:=a2.slice
 obtain⟨ma2,mn2,mc2,rfl⟩:=c2.slice
 have q2:=q1.call p2 k2
 clear hr
 unfold tmVal
 clear yx
 have gR:∀ i,w2.cell? ⟨w.heap.size,i,none⟩=[Value.int .i64 0,.string ⟨#[]⟩,.int .i64 0,.int .i64 0,.string ⟨#[]⟩,.slice none 0 0,.slice none 0 0][i]?:=q2.r.cell
 have fR:∀ i,w2.frozen? ⟨w.heap.size,i,none⟩=false:=q2.r.frozen
 go_wp2_with fail
 exact q2.fin Tryz.results121 rfl rfl (a2.mono (fun q _ h=>by omega)) (c2.mono (fun q _ h=>by omega))
inductive Rst (bz:Nat) (s:ByteArray) (n:Nat):Nat→Tm→PS→Tm→PS→Prop
 | stop {t:Tm} {σ:PS} (h:opOf n σ=0):Rst bz s n 0 t σ t σ
 | never {t u:Tm} {σ σ1 σ2:PS} {o:Int} (ho:opOf n σ=o) (hne:(o==0)=false) (ha:advS s σ=.ok σ1) (hg:lvGroup n=0) (hT:TO bz s (n+1) σ1 u σ2):Rst bz s n 0 t σ (nd o [t,u]) σ2
 | left {k:Nat} {t u t':Tm} {σ σ1 σ2 σ':PS} {o:Int} (ho:opOf n σ=o) (hne:(o==0)=false) (ha:advS s σ=.ok σ1) (hg:lvGroup n=1) (hT:TO bz s (n+1) σ1 u σ2) (hr:Rst bz s n k (nd o [t,u]) σ2 t' σ'):Rst bz s n (k+1) t σ t' σ'
structure RQ (bz:Nat) (w:World) (b n0:Nat) (s:ByteArray) (t:Tm) (tk kk:Value) (σ:PS) (W:World):Prop where
 p:PW W b s σ
 bx:Blk W w.heap.size 27 (tmCells t tk kk)
 r:Blk W (w.heap.size+1) 27 z27
 y:TyL bz (okk n0 w.heap.size (w.heap.size+1)) W t.ty.kids tk
 m:TmL bz (okk n0 w.heap.size (w.heap.size+1)) W t.kids kk
 k:Kept (·=b) w W
 lo:b<n0∧n0≤w.heap.size
section
variable {w W W':World} {b n0:Nat} {s:ByteArray} {t:Tm} {tk kk:Value} {σ σ':PS}
theorem RQ.start {ta ma:Option Addr} {tn tc mn mc:Nat} (h:PW w b s σ) (h1:b<n0) (h2:n0≤w.heap.size) (a:TyL bz (fun k=>n0≤k) w t.ty.kids (.slice ta tn tc)) (c:TmL bz (fun k=>n0≤k) w t.kids (.slice ma mn mc)):RQ bz w b n0 s t (.slice ta tn tc) (.slice ma mn mc) σ ((w.alloc (.cells #[.int .i64 t.op,.string t.name,.int .i64 t.n,.int .i64 t.ty.kind,.string t.ty.name,.slice ta tn tc,.slice ma mn mc] 27)).alloc Z7):=
 ⟨(h.alloc _).alloc _,(Blk.new w 27 (tmCells t (.slice ta tn tc) (.slice ma mn mc))).alloc _,Blk.new' 27 z27 (by simp),((a.mono (fun k hk h=>⟨h,by omega,by omega⟩)).frame (Same.alloc _ _)).frame (Same.alloc _ _),((c.mono (fun k hk h=>⟨h,by omega,by omega⟩)).frame (Same.alloc _ _)).frame (Same.alloc _ _),(kR.alloc _).alloc _,h1,h2⟩
theorem RQ.still (h:RQ bz w b n0 s t tk kk σ W) (k:Kept (fun _=>False) W W'):RQ bz w b n0 s t tk kk σ W':=⟨h.p.grow k id id id,h.bx.kept k id,h.r.kept k id,h.y.frame (Same.of_kept k (fun _ _=>id)),h.m.frame (Same.of_kept k (fun _ _=>id)),h.k.trans (k.mono (fun _ _ e=>e.elim)),h.lo⟩
theorem RQ.call (h:RQ bz w b n0 s t tk kk σ W) (p:PW W' b s σ') (k:Kept (·=b) W W'):RQ bz w b n0 s t tk kk σ' W':=by
 have hl:=h.lo
 exact⟨p,h.bx.kept k (by show ¬ w.heap.size=b;omega),h.r.kept k (by show ¬ w.heap.size+1=b;omega),h.y.frame (Same.of_kept k (fun q hq e=>by have:=hq.1;omega)),h.m.frame (Same.of_kept k (fun q hq e=>by have:=hq.1;omega)),h.k.trans k,h.lo⟩
theorem RQ.fin {fn:Func} {p:Tmp} (hf:fn.results=#[.cell p 27]) (h:RQ bz w b n0 s t tk kk σ W) {a:Act} (hR:a.tmps.getD p undef=.pointer (some ⟨w.heap.size+1,0,none⟩)) (hd:a.defers=[]):
  bodyPost Tryz.prog fn (RPost b s (VTm bz n0) (.ok (t,σ)) w) Exit.ret a (((((((W.setCell ⟨w.heap.size+1,0,none⟩ (.int .i64 t.op)).setCell ⟨w.heap.size+1,1,none⟩ (.string t.name)).setCell ⟨w.heap.size+1,2,none⟩ (.int .i64 t.n)).setCell ⟨w.heap.size+1,3,none⟩ (.int .i64 t.ty.kind)).setCell ⟨w.heap.size+1,4,none⟩ (.string t.ty.name)).setCell ⟨w.heap.size+1,5,none⟩ tk).setCell ⟨w.heap.size+1,6,none⟩ kk):=by
 have hl:=h.lo
 refine ret_tm hf rfl hR hd (r7 h.r rfl) ?_ ?_ (p7w h.p (by omega) (by have:=h.p.two;omega)) (k7w h.k (Or.inr (by omega)))
 ·exact (h.y.frame (same7k (Or.inr rfl))).mono (fun k _ h=>h.1)
 ·exact (h.m.frame (same7k (Or.inr rfl))).mono (fun k _ h=>h.1)
theorem RQ.two {o:Int} {u:Tm} {uk uu:Value} (h:RQ bz w b n0 s t tk kk σ W) (a:TyL bz (fun q=>w.heap.size+2≤q) W u.ty.kids uk) (c:TmL bz (fun q=>w.heap.size+2≤q) W u.kids uu):
  RQ bz w b n0 s (nd o [t,u]) (.slice none 0 0) (.slice (some ⟨W.heap.size+1,0,none⟩) 2 2) σ ((((((((((W.setCell ⟨w.heap.size,0,none⟩ (.int .i64 o)).setCell ⟨w.heap.size,1,none⟩ (.string ⟨#[]⟩)).setCell ⟨w.heap.size,2,none⟩ (.int .i64 0)).setCell ⟨w.heap.size,3,none⟩ (.int .i64 0)).setCell ⟨w.heap.size,4,none⟩ (.string ⟨#[]⟩)).setCell ⟨w.heap.size,5,none⟩ (.slice none 0 0)).setCell ⟨w.heap.size,6,none⟩ (.slice (some ⟨W.heap.size+1,0,none⟩) 2 2)).alloc (.cells #[.int .i64 u.op,.string u.name,.int .i64 u.n,.int .i64 u.ty.kind,.string u.ty.name,uk,uu] 27)).alloc (.cells #[.int .i64 t.op,.string t.name,.int .i64 t.n,.int .i64 t.ty.kind,.string t.ty.name,tk,kk,.int .i64 u.op,.string u.name,.int .i64 u.n,.int .i64 u.ty.kind,.string u.ty.name,uk,uu] 27))):=by
 have hl:=h.lo
 have hz:=h.r.lt
 refine⟨((p7w h.p (by omega) (by have:=h.p.two;omega)).alloc _).alloc _,((r7 h.bx rfl).alloc _).alloc _,((b7w h.r (by omega)).alloc _).alloc _,.nil0,?_,((k7w h.k (Or.inr (Nat.le_refl _))).alloc _).alloc _,h.lo⟩
 exact TmL.two ⟨by omega,by omega,by omega⟩ (Nat.le_refl _) (Blk.new' 27 _ (by simp)) (((h.y.frame (same7k (Or.inl rfl))).frame (Same.alloc _ _)).frame (Same.alloc _ _)) (((h.m.frame (same7k (Or.inl rfl))).frame (Same.alloc _ _)).frame (Same.alloc _ _)) ((((a.mono (ok':=okk n0 w.heap.size (w.heap.size+1)) (fun k _ h=>⟨by omega,by omega,by omega⟩)).frame (same7k (Or.inl rfl))).frame (Same.alloc _ _)).frame (Same.alloc _ _)) ((((c.mono (ok':=okk n0 w.heap.size (w.heap.size+1)) (fun k _ h=>⟨by omega,by omega,by omega⟩)).frame (same7k (Or.inl rfl))).frame (Same.alloc _ _)).frame (Same.alloc _ _))
end
theorem fo_stop {s:ByteArray} {σ:PS} {t:Tm} (h1:isS σ kLpar=false) (h2:isS σ kLbr=false) (h3:isS σ kTilde=false):FO bz s t σ t σ:=by
 intro b w ta tn tc ma mn mc n0 h hb hn a c
 unfold tmVal
 have q0:=RQ.start h hb hn a c
 clear a c
 go_enter Tryz.func120,Tryz.ntmps120
 go_wp2_with fail
 generalize ((w.alloc (.cells #[.int .i64 t.op,.string t.name,.int .i64 t.n,.int .i64 t.ty.kind,.string t.ty.name,.slice ta tn tc,.slice ma mn mc] 27)).alloc Z7)=w2 at *
 go_loopw [5] (fun _ wr=>wr=w2) (fun _ _=>0)
 case atStart=>rfl
 case round=>
  obtain rfl:=hrel
  have yt:∀ i,wr.cell? ⟨w.heap.size,i,none⟩=[Value.int .i64 t.op,.string t.name,.int .i64 t.n,.int .i64 t.ty.kind,.string t.ty.name,.slice ta tn tc,.slice ma mn mc][i]?:=q0.bx.cell
  have l0:=q0.bx.lt
  have q1:=q0.still (kR.alloc (.cells #[.int .i64 t.op,.string t.name,.int .i64 t.n,.int .i64 t.ty.kind,.string t.ty.name,.slice ta tn tc,.slice ma mn mc] 27))
  go_upto_region 3 with (fail)
  generalize wr.alloc (.cells #[.int .i64 t.op,.string t.name,.int .i64 t.n,.int .i64 t.ty.kind,.string t.ty.name,.slice ta tn tc,.slice ma mn mc] 27)=w3 at *
  clear yt l0 q0
  go_wp2_with fail
  refine (is_any q1.p kLpar h1).mono ?_
  rintro e w' ⟨rfl,rfl⟩
  go_wp2_with fail
  refine (is_any q1.p kLbr h2).mono ?_
  rintro e w' ⟨rfl,rfl⟩
  go_wp2_with fail
  refine (eat_no q1.p kTilde h3).mono ?_
  rintro e w' ⟨rfl,rfl⟩
  have yt:∀ i,w3.cell? ⟨w.heap.size,i,none⟩=[Value.int .i64 t.op,.string t.name,.int .i64 t.n,.int .i64 t.ty.kind,.string t.ty.name,.slice ta tn tc,.slice ma mn mc][i]?:=q1.bx.cell
  have gR:∀ i,w3.cell? ⟨w.heap.size+1,i,none⟩=[Value.int .i64 0,.string ⟨#[]⟩,.int .i64 0,.int .i64 0,.string ⟨#[]⟩,.slice none 0 0,.slice none 0 0][i]?:=q1.r.cell
  have fR:∀ i,w3.frozen? ⟨w.heap.size+1,i,none⟩=false:=q1.r.frozen
  go_wp2_with fail
  exact q1.fin Tryz.results120 rfl rfl
theorem ro_any {n:Nat} (hn:lvOK n) {s:ByteArray} {k0:Nat} {t t':Tm} {σ σ':PS} (hr:Rst bz s n k0 t σ t' σ'):RO bz s n t σ t' σ':=by
 intro b w ta tn tc ma mn mc n0 h hb hn0 a c
 unfold tmVal
 have HLEN:=Ld (lv_lens hn)
 have iw:IntKind.i64.wrap ((n:Int)+1)=((n+1:Nat):Int):=by rw[IntKind.wrap_i64];unfold lvOK at hn;omega
 have HIW:=Ld iw
 have q0:=RQ.start h hb hn0 a c
 clear a c iw
 go_enter Tryz.func122,Tryz.ntmps122
 go_wp2_with fail
 have zW:((w.alloc (.cells #[.int .i64 t.op,.string t.name,.int .i64 t.n,.int .i64 t.ty.kind,.string t.ty.name,.slice ta tn tc,.slice ma mn mc] 27)).alloc Z7).heap.size=w.heap.size+2:=by simp
 refine (levels_at hn _).mono ?_
 rintro e w1 ⟨A,rfl,⟨g,g',hgg,hgg',hix,hx,ho⟩,hbw⟩
 have q1:=q0.still (Kept.of_below hbw)
 rw[zW] at hgg hgg'
 clear q0 hbw zW
 go_wp2_with fail
 have hL:Blk (w1.alloc (.cells #[.int .i64 (lvGroup n),.slice (some ⟨g,0,none⟩) (lvSigns n).length (lvSigns n).length,.slice (some ⟨g',0,none⟩) (lvOps n).length (lvOps n).length] 181)) w1.heap.size 181 [.int .i64 (lvGroup n),.slice (some ⟨g,0,none⟩) (lvSigns n).length (lvSigns n).length,.slice (some ⟨g',0,none⟩) (lvOps n).length (lvOps n).length]:=Blk.new w1 181 _
 have q2:=q1.still (kR.alloc (.cells #[.int .i64 (lvGroup n),.slice (some ⟨g,0,none⟩) (lvSigns n).length (lvSigns n).length,.slice (some ⟨g',0,none⟩) (lvOps n).length (lvOps n).length] 181))
 have hx2:=hx.alloc (.cells #[.int .i64 (lvGroup n),.slice (some ⟨g,0,none⟩) (lvSigns n).length (lvSigns n).length,.slice (some ⟨g',0,none⟩) (lvOps n).length (lvOps n).length] 181)
 have ho2:=ho.alloc (.cells #[.int .i64 (lvGroup n),.slice (some ⟨g,0,none⟩) (lvSigns n).length (lvSigns n).length,.slice (some ⟨g',0,none⟩) (lvOps n).length (lvOps n).length] 181)
 have hl1:=q1.r.lt
 generalize hW:w1.alloc (.cells #[.int .i64 (lvGroup n),.slice (some ⟨g,0,none⟩) (lvSigns n).length (lvSigns n).length,.slice (some ⟨g',0,none⟩) (lvOps n).length (lvOps n).length] 181)=w2 at *
 generalize w1.heap.size=L at *
 clear hW hix q1 hx ho
 go_loopg [8] (k0+1) (fun m _ wr=>∃ (k:Nat) (tc':Tm) (σc:PS) (ua:Option Addr) (un uc:Nat) (va:Option Addr) (vn vc:Nat),m=k+1∧Rst bz s n k tc' σc t' σ'∧RQ bz w b n0 s tc' (.slice ua un uc) (.slice va vn vc) σc wr∧Blk wr L 181 [.int .i64 (lvGroup n),.slice (some ⟨g,0,none⟩) (lvSigns n).length (lvSigns n).length,.slice (some ⟨g',0,none⟩) (lvOps n).length (lvOps n).length]∧Blk wr g 9 ((lvSigns n).map Value.string)∧Blk wr g' 3 ((lvOps n).map (Value.int .i64)))
 case atStart=>exact⟨k0,t,σ,ta,tn,tc,ma,mn,mc,rfl,hr,q2,hL,hx2,ho2⟩
 case round=>
  clear q2 hL hx2 ho2 hr
  obtain⟨k,tx,σc,ua,un,uc,va,vn,vc,rfl,hr,q,hL,hX,hO⟩:=hrel
  have l0:∀ i,wr.cell? ⟨L,i,none⟩=[.int .i64 (lvGroup n),.slice (some ⟨g,0,none⟩) (lvSigns n).length (lvSigns n).length,.slice (some ⟨g',0,none⟩) (lvOps n).length (lvOps n).length][i]?:=hL.cell
  go_wp2_with fail
  refine (operator_any q.p (lvGroup n) (lvSigns n) (lvOps n) g g' HLEN.out.1 HLEN.out.2 hX hO).mono ?_
  rintro e w3 ⟨rfl,hb3⟩
  have kF:Kept (fun _=>False) wr w3:=Kept.of_below hb3
  have q3:=q.still kF
  have hL3:=hL.kept kF id
  have hX3:=hX.kept kF id
  have hO3:=hO.kept kF id
  clear kF q hL hX hO hb3 l0
  have HO:Hid (opOf n σc=opGo σc (lvSigns n) (lvOps n)):=Ld rfl
  generalize opGo σc (lvSigns n) (lvOps n)=o at *
  have gR:∀ i,w3.cell? ⟨w.heap.size+1,i,none⟩=[Value.int .i64 0,.string ⟨#[]⟩,.int .i64 0,.int .i64 0,.string ⟨#[]⟩,.slice none 0 0,.slice none 0 0][i]?:=q3.r.cell
  have fR:∀ i,w3.frozen? ⟨w.heap.size+1,i,none⟩=false:=q3.r.frozen
  have yt:∀ i,w3.cell? ⟨w.heap.size,i,none⟩=[Value.int .i64 tx.op,.string tx.name,.int .i64 tx.n,.int .i64 tx.ty.kind,.string tx.ty.name,.slice ua un uc,.slice va vn vc][i]?:=q3.bx.cell
  cases hr with
  | stop h0=>
   have hz:(o==0)=true:=by rw[← HO.out,h0];rfl
   go_wp2_with fail
   exact q3.fin Tryz.results122 rfl rfl
  | @never _ u _ σ1 _ o' h0 hne ha hg hT=>
   obtain rfl:o'=o:=h0.symm.trans HO.out
   have HG:=Ld hg
   clear gR fR yt h0 hg
   go_wp2_with fail
   refine (adv_ok q3.p ha).mono ?_
   rintro e w4 ⟨rfl,p4,k4⟩
   have hl:=q3.lo
   have q4:=q3.call p4 k4
   have hL4:=hL3.kept k4 (by show ¬ L=b;omega)
   have hX4:=hX3.kept k4 (by show ¬ g=b;omega)
   have hO4:=hO3.kept k4 (by show ¬ g'=b;omega)
   have l0:∀ i,w4.cell? ⟨L,i,none⟩=[.int .i64 (lvGroup n),.slice (some ⟨g,0,none⟩) (lvSigns n).length (lvSigns n).length,.slice (some ⟨g',0,none⟩) (lvOps n).length (lvOps n).length][i]?:=hL4.cell
   have hg2:(lvGroup n==2)=false:=by rw[HG.out];rfl
   have iw:=HIW.out
   have lz:=q4.r.lt
   clear k4 p4 q3 hL3 hX3 hO3
   go_wp2_with fail
   refine (hT b w4 q4.p).mono ?_
   rintro e w5 hrr
   obtain⟨v,rfl,⟨tk5,kk5,rfl,au,cu⟩,p5,k5⟩:=hrr.getOk rfl
   obtain⟨ta5,tn5,tc5,rfl⟩:=au.slice
   obtain⟨ma5,mn5,mc5,rfl⟩:=cu.slice
   clear hrr l0
   unfold tmVal
   have q5:=q4.call p5 k5
   have hL5:=hL4.kept k5 (by show ¬ L=b;omega)
   have hX5:=hX4.kept k5 (by show ¬ g=b;omega)
   have hO5:=hO4.kept k5 (by show ¬ g'=b;omega)
   have lB5:=q5.bx.lt
   have lR5:=q5.r.lt
   have yt:∀ i,w5.cell? ⟨w.heap.size,i,none⟩=[Value.int .i64 tx.op,.string tx.name,.int .i64 tx.n,.int .i64 tx.ty.kind,.string tx.ty.name,.slice ua un uc,.slice va vn vc][i]?:=q5.bx.cell
   have fB:∀ i,w5.frozen? ⟨w.heap.size,i,none⟩=false:=q5.bx.frozen
   clear q4 hL4 hX4 hO4 k5 p5
   go_upto_region 11 with (fail)
   have q6:=q5.two (o:=o') (u:=u) (au.mono (fun q _ h=>by omega)) (cu.mono (fun q _ h=>by omega))
   have hL6:=((b7w (x0:=.int .i64 o') (x1:=.string ⟨#[]⟩) (x2:=.int .i64 0) (x3:=.int .i64 0) (x4:=.string ⟨#[]⟩) (x5:=.slice none 0 0) (x6:=.slice (some ⟨w5.heap.size+1,0,none⟩) 2 2) (R:=w.heap.size) hL5 (by omega)).alloc (.cells #[.int .i64 u.op,.string u.name,.int .i64 u.n,.int .i64 u.ty.kind,.string u.ty.name,.slice ta5 tn5 tc5,.slice ma5 mn5 mc5] 27)).alloc (.cells #[.int .i64 tx.op,.string tx.name,.int .i64 tx.n,.int .i64 tx.ty.kind,.string tx.ty.name,.slice ua un uc,.slice va vn vc,.int .i64 u.op,.string u.name,.int .i64 u.n,.int .i64 u.ty.kind,.string u.ty.name,.slice ta5 tn5 tc5,.slice ma5 mn5 mc5] 27)
   have hX6:=((b7w (x0:=.int .i64 o') (x1:=.string ⟨#[]⟩) (x2:=.int .i64 0) (x3:=.int .i64 0) (x4:=.string ⟨#[]⟩) (x5:=.slice none 0 0) (x6:=.slice (some ⟨w5.heap.size+1,0,none⟩) 2 2) (R:=w.heap.size) hX5 (by omega)).alloc (.cells #[.int .i64 u.op,.string u.name,.int .i64 u.n,.int .i64 u.ty.kind,.string u.ty.name,.slice ta5 tn5 tc5,.slice ma5 mn5 mc5] 27)).alloc (.cells #[.int .i64 tx.op,.string tx.name,.int .i64 tx.n,.int .i64 tx.ty.kind,.string tx.ty.name,.slice ua un uc,.slice va vn vc,.int .i64 u.op,.string u.name,.int .i64 u.n,.int .i64 u.ty.kind,.string u.ty.name,.slice ta5 tn5 tc5,.slice ma5 mn5 mc5] 27)
   have hO6:=((b7w (x0:=.int .i64 o') (x1:=.string ⟨#[]⟩) (x2:=.int .i64 0) (x3:=.int .i64 0) (x4:=.string ⟨#[]⟩) (x5:=.slice none 0 0) (x6:=.slice (some ⟨w5.heap.size+1,0,none⟩) 2 2) (R:=w.heap.size) hO5 (by omega)).alloc (.cells #[.int .i64 u.op,.string u.name,.int .i64 u.n,.int .i64 u.ty.kind,.string u.ty.name,.slice ta5 tn5 tc5,.slice ma5 mn5 mc5] 27)).alloc (.cells #[.int .i64 tx.op,.string tx.name,.int .i64 tx.n,.int .i64 tx.ty.kind,.string tx.ty.name,.slice ua un uc,.slice va vn vc,.int .i64 u.op,.string u.name,.int .i64 u.n,.int .i64 u.ty.kind,.string u.ty.name,.slice ta5 tn5 tc5,.slice ma5 mn5 mc5] 27)
   clear yt fB hL5 hX5 hO5 au cu
   refine wp_gen (fun w6=>RQ bz w b n0 s (nd o' [tx,u]) (.slice none 0 0) (.slice (some ⟨w5.heap.size+1,0,none⟩) 2 2) σ' w6∧Blk w6 L 181 [.int .i64 (lvGroup n),.slice (some ⟨g,0,none⟩) (lvSigns n).length (lvSigns n).length,.slice (some ⟨g',0,none⟩) (lvOps n).length (lvOps n).length]∧Blk w6 g 9 ((lvSigns n).map Value.string)∧Blk w6 g' 3 ((lvOps n).map (Value.int .i64))) ⟨q6,hL6,hX6,hO6⟩ ?_
   clear q6 hL6 hX6 hO6
   rintro w6 ⟨q6,hL6,hX6,hO6⟩
   have l0:∀ i,w6.cell? ⟨L,i,none⟩=[.int .i64 (lvGroup n),.slice (some ⟨g,0,none⟩) (lvSigns n).length (lvSigns n).length,.slice (some ⟨g',0,none⟩) (lvOps n).length (lvOps n).length][i]?:=hL6.cell
   have hg1:(lvGroup n != 1)=true:=by rw[HG.out];rfl
   have gR:∀ i,w6.cell? ⟨w.heap.size+1,i,none⟩=[Value.int .i64 0,.string ⟨#[]⟩,.int .i64 0,.int .i64 0,.string ⟨#[]⟩,.slice none 0 0,.slice none 0 0][i]?:=q6.r.cell
   have fR:∀ i,w6.frozen? ⟨w.heap.size+1,i,none⟩=false:=q6.r.frozen
   have yt:∀ i,w6.cell? ⟨w.heap.size,i,none⟩=[Value.int .i64 o',.string ⟨#[]⟩,.int .i64 0,.int .i64 0,.string ⟨#[]⟩,.slice none 0 0,.slice (some ⟨w5.heap.size+1,0,none⟩) 2 2][i]?:=q6.bx.cell
   go_wp2_with fail
   exact q6.fin (t:=nd o' [tx,u]) Tryz.results122 rfl rfl
  | @left k _ u _ _ σ1 σ2 _ o' h0 hne ha hg hT hr=>
   obtain rfl:o'=o:=h0.symm.trans HO.out
   have HG:=Ld hg
   clear gR fR yt h0 hg
   go_wp2_with fail
   refine (adv_ok q3.p ha).mono ?_
   rintro e w4 ⟨rfl,p4,k4⟩
   have hl:=q3.lo
   have q4:=q3.call p4 k4
   have hL4:=hL3.kept k4 (by show ¬ L=b;omega)
   have hX4:=hX3.kept k4 (by show ¬ g=b;omega)
   have hO4:=hO3.kept k4 (by show ¬ g'=b;omega)
   have l0:∀ i,w4.cell? ⟨L,i,none⟩=[.int .i64 (lvGroup n),.slice (some ⟨g,0,none⟩) (lvSigns n).length (lvSigns n).length,.slice (some ⟨g',0,none⟩) (lvOps n).length (lvOps n).length][i]?:=hL4.cell
   have hg2:(lvGroup n==2)=false:=by rw[HG.out];rfl
   have iw:=HIW.out
   have lz:=q4.r.lt
   clear k4 p4 q3 hL3 hX3 hO3
   go_wp2_with fail
   refine (hT b w4 q4.p).mono ?_
   rintro e w5 hrr
   obtain⟨v,rfl,⟨tk5,kk5,rfl,au,cu⟩,p5,k5⟩:=hrr.getOk rfl
   obtain⟨ta5,tn5,tc5,rfl⟩:=au.slice
   obtain⟨ma5,mn5,mc5,rfl⟩:=cu.slice
   clear hrr l0
   unfold tmVal
   have q5:=q4.call p5 k5
   have hL5:=hL4.kept k5 (by show ¬ L=b;omega)
   have hX5:=hX4.kept k5 (by show ¬ g=b;omega)
   have hO5:=hO4.kept k5 (by show ¬ g'=b;omega)
   have lB5:=q5.bx.lt
   have lR5:=q5.r.lt
   have yt:∀ i,w5.cell? ⟨w.heap.size,i,none⟩=[Value.int .i64 tx.op,.string tx.name,.int .i64 tx.n,.int .i64 tx.ty.kind,.string tx.ty.name,.slice ua un uc,.slice va vn vc][i]?:=q5.bx.cell
   have fB:∀ i,w5.frozen? ⟨w.heap.size,i,none⟩=false:=q5.bx.frozen
   clear q4 hL4 hX4 hO4 k5 p5
   go_upto_region 11 with (fail)
   have q6:=q5.two (o:=o') (u:=u) (au.mono (fun q _ h=>by omega)) (cu.mono (fun q _ h=>by omega))
   have hL6:=((b7w (x0:=.int .i64 o') (x1:=.string ⟨#[]⟩) (x2:=.int .i64 0) (x3:=.int .i64 0) (x4:=.string ⟨#[]⟩) (x5:=.slice none 0 0) (x6:=.slice (some ⟨w5.heap.size+1,0,none⟩) 2 2) (R:=w.heap.size) hL5 (by omega)).alloc (.cells #[.int .i64 u.op,.string u.name,.int .i64 u.n,.int .i64 u.ty.kind,.string u.ty.name,.slice ta5 tn5 tc5,.slice ma5 mn5 mc5] 27)).alloc (.cells #[.int .i64 tx.op,.string tx.name,.int .i64 tx.n,.int .i64 tx.ty.kind,.string tx.ty.name,.slice ua un uc,.slice va vn vc,.int .i64 u.op,.string u.name,.int .i64 u.n,.int .i64 u.ty.kind,.string u.ty.name,.slice ta5 tn5 tc5,.slice ma5 mn5 mc5] 27)
   have hX6:=((b7w (x0:=.int .i64 o') (x1:=.string ⟨#[]⟩) (x2:=.int .i64 0) (x3:=.int .i64 0) (x4:=.string ⟨#[]⟩) (x5:=.slice none 0 0) (x6:=.slice (some ⟨w5.heap.size+1,0,none⟩) 2 2) (R:=w.heap.size) hX5 (by omega)).alloc (.cells #[.int .i64 u.op,.string u.name,.int .i64 u.n,.int .i64 u.ty.kind,.string u.ty.name,.slice ta5 tn5 tc5,.slice ma5 mn5 mc5] 27)).alloc (.cells #[.int .i64 tx.op,.string tx.name,.int .i64 tx.n,.int .i64 tx.ty.kind,.string tx.ty.name,.slice ua un uc,.slice va vn vc,.int .i64 u.op,.string u.name,.int .i64 u.n,.int .i64 u.ty.kind,.string u.ty.name,.slice ta5 tn5 tc5,.slice ma5 mn5 mc5] 27)
   have hO6:=((b7w (x0:=.int .i64 o') (x1:=.string ⟨#[]⟩) (x2:=.int .i64 0) (x3:=.int .i64 0) (x4:=.string ⟨#[]⟩) (x5:=.slice none 0 0) (x6:=.slice (some ⟨w5.heap.size+1,0,none⟩) 2 2) (R:=w.heap.size) hO5 (by omega)).alloc (.cells #[.int .i64 u.op,.string u.name,.int .i64 u.n,.int .i64 u.ty.kind,.string u.ty.name,.slice ta5 tn5 tc5,.slice ma5 mn5 mc5] 27)).alloc (.cells #[.int .i64 tx.op,.string tx.name,.int .i64 tx.n,.int .i64 tx.ty.kind,.string tx.ty.name,.slice ua un uc,.slice va vn vc,.int .i64 u.op,.string u.name,.int .i64 u.n,.int .i64 u.ty.kind,.string u.ty.name,.slice ta5 tn5 tc5,.slice ma5 mn5 mc5] 27)
   clear yt fB hL5 hX5 hO5 au cu
   refine wp_gen (fun w6=>RQ bz w b n0 s (nd o' [tx,u]) (.slice none 0 0) (.slice (some ⟨w5.heap.size+1,0,none⟩) 2 2) σ2 w6∧Blk w6 L 181 [.int .i64 (lvGroup n),.slice (some ⟨g,0,none⟩) (lvSigns n).length (lvSigns n).length,.slice (some ⟨g',0,none⟩) (lvOps n).length (lvOps n).length]∧Blk w6 g 9 ((lvSigns n).map Value.string)∧Blk w6 g' 3 ((lvOps n).map (Value.int .i64))) ⟨q6,hL6,hX6,hO6⟩ ?_
   clear q6 hL6 hX6 hO6
   rintro w6 ⟨q6,hL6,hX6,hO6⟩
   have l0:∀ i,w6.cell? ⟨L,i,none⟩=[.int .i64 (lvGroup n),.slice (some ⟨g,0,none⟩) (lvSigns n).length (lvSigns n).length,.slice (some ⟨g',0,none⟩) (lvOps n).length (lvOps n).length][i]?:=hL6.cell
   have hg1:(lvGroup n != 1)=false:=by rw[HG.out];rfl
   go_wp2_with fail
   go_roundg (k+1)
   case measure=>omega
   case rel=>exact⟨k,nd o' [tx,u],σ2,none,0,0,_,2,2,rfl,hr,q6,hL6,hX6,hO6⟩
end Go.Proofs.YtdmebjbkccjhbaaGreatDoor
