/- A part. -/
import Derived.Test.YtfhedienjnfdcaaGreatDoorM16
import Derived.RangeFuncBox
import Derived.RangeFuncLeaves
import Derived.Shelf.Abstract
import Derived.OwnWalkIn
import Derived.TacticsInMore
import Derived.LoopNIn
import Derived.LoopIn
set_option linter.unusedVariables false
set_option linter.unusedSimpArgs false
set_option maxRecDepth 100000
set_option maxHeartbeats 32000000
namespace Go.Proofs.YtfhedienjnfdcaaGreatDoor
open Go.RowKit
def RrC (f:Nat):Prop:=∀ (t fm tu:Tm) (w:World) (ok okf oku okn okd:Nat→Prop) (tk kk fk fkk uk ukk vn vd:Value),OkTm t→tmD t≤f→tmN t≤100000→tmD t≤90000→TyL ok w t.ty.kids tk→TmL ok w t.kids kk→RrE fm tu okf oku okn okd fk fkk uk ukk vn vd w →
 Calls Tryz.prog 91 #[tmVal t tk kk,tmVal fm fk fkk,tmVal tu uk ukk,vn,vd] w (PutP (repF fm tu (fr fm) (fr tu) f t) w)
theorem rr_one {f:Nat} (IH:RrC f):RrC (f+1):=by
 intro t fm tu w ok okf oku okn okd tk kk fk fkk uk ukk vn vd hokt hD hN hD2 h1 h2 hE
 obtain⟨op,nm,N,ty,ks⟩:=t
 have h1:TyL ok w ty.kids tk:=h1
 have h2:TmL ok w ks kk:=h2
 obtain⟨a,an,ac,rfl⟩:=h1.slice
 obtain⟨ma,mn,mc,rfl⟩:=h2.slice
 obtain⟨fp,fn,fc,rfl⟩:=hE.f1.slice
 obtain⟨fa,fq,fr0,rfl⟩:=hE.f2.slice
 obtain⟨up,un,uc,rfl⟩:=hE.u1.slice
 obtain⟨ua,uq,uv,rfl⟩:=hE.u2.slice
 obtain⟨na,nc,rfl⟩:=hE.n1.slice
 obtain⟨da,dc,rfl⟩:=hE.n2.slice
 change Calls Tryz.prog 91 #[.agg #[.int .i64 op,.string nm,.int .i64 N,.int .i64 ty.kind,.string ty.name,.slice a an ac,.slice ma mn mc],.agg #[.int .i64 fm.op,.string fm.name,.int .i64 fm.n,.int .i64 fm.ty.kind,.string fm.ty.name,.slice fp fn fc,.slice fa fq fr0],.agg #[.int .i64 tu.op,.string tu.name,.int .i64 tu.n,.int .i64 tu.ty.kind,.string tu.ty.name,.slice up un uc,.slice ua uq uv],.slice na (fr fm).length nc,.slice da (fr tu).length dc] w _
 obtain rfl:mn=ks.length:=h2.len
 have hbd:=ok_bd hokt
 have HEK:=Ld (fun W (k:Kept (fun _=>False) w W)=>hE.kept k)
 have HAL:=Ld (fun W (k:Kept (fun _=>False) w W)=>ralike_any hbd fm [] [] W ok okf (fun _=>False) (fun _=>False) _ _ _ _ (.slice none 0 0) (.slice none 0 0) (h1.frame (sK k)) (h2.frame (sK k)) (hE.kept k).f1 (hE.kept k).f2 NmL.nil NmL.nil (by simp only[List.length_nil];omega) (by simp only[List.length_nil];omega))
 have HCU:=Ld (fun W (k:Kept (fun _=>False) w W)=>rcopy_put (ok_bd hE.okt) (hE.kept k).u1 (hE.kept k).u2)
 have HLEN:Hid ((fr fm).length≤100000∧(fr tu).length≤100000):=Ld (by have h3:=frs_len fm;have h4:=frs_len tu;have:=hE.un;omega)
 have HIN1:=Ld (fun W (k:Kept (fun _=>False) w W)=>rinN_any nm (hE.kept k).n1 (by have:=HLEN.out;omega))
 have HIN2:=Ld (fun W (k:Kept (fun _=>False) w W)=>rinN_any nm (hE.kept k).n2 (by have:=HLEN.out;omega))
 have hbty:BdTy ty:=by cases hbd;assumption
 have HT:=Ld (fun W (k:Kept (fun _=>False) w W)=>rcopyTy_any hbty W ok _ (h1.frame (sK k)))
 unfold tyVal at HT
 have HAT:=Ld (fun W (k:Kept (fun _=>False) w W)=>((h2.mono (ok':=fun q=>q<w.heap.size) (fun q hq _=>hq)).frame (sK k)).at)
 have HKD:Hid (∀ u,u∈ks→OkTm u∧tmD u≤f∧tmN u≤100000∧tmD u≤90000):=Ld (fun u hu=>by
  have h5:=tmDs_mem hu
  have h6:=(tmD_kid hu).2
  rw[tmD] at hD hD2
  rw[tmN] at hN
  exact⟨hokt.kid hu,by omega,by omega,by omega⟩)
 have HKN:Hid (ks.length≤1000000∧(binderB op=true→ks.length=2)∧(binderB op=true→identB nm=true)∧nm.size≤9223372036854775807∧(∀ t,t∈ty.kids→t.kind≠0∧Kz t)):=Ld (by
  cases hokt with
  | mk hf hn hl=>exact⟨by cases hbd;assumption,fun hb=>binder_kids hb (formed_parts hf).1,fun hb=>formed_ident hf hb,by have:=(formed_sm hf).1;omega,(formed_kz hf).kids⟩)
 have HIH:=Ld (fun (u:Tm) (tk' kk':Value) (ok3:Nat→Prop) W (k:Kept (fun _=>False) w W) (hu:OkTm u∧tmD u≤f∧tmN u≤100000∧tmD u≤90000) (h5:TyL ok3 W u.ty.kids tk') (h6:TmL ok3 W u.kids kk')=>IH u fm tu W ok3 okf oku okn okd tk' kk' _ _ _ _ _ _ hu.1 hu.2.1 hu.2.2.1 hu.2.2.2 h5 h6 (hE.kept k))
 unfold PutP tmVal at HCU HIH
 unfold tmVal at HAL
 obtain⟨res,hres⟩:∃ res,res=repF fm tu (fr fm) (fr tu) (f+1) (.mk op nm N ty ks):=⟨_,rfl⟩
 rw[← hres]
 have HRS:=Ld hres
 obtain⟨al,hal⟩:∃ al,al=alikeT (.mk op nm N ty ks) fm [] []:=⟨_,rfl⟩
 have HLL:=Ld hal
 rw[← hal] at HAL
 have K0:Kept (fun _=>False) w ((((w.alloc (.cells #[.int .i64 op,.string nm,.int .i64 N,.int .i64 ty.kind,.string ty.name,.slice a an ac,.slice ma ks.length mc] 28)).alloc (.cells #[.int .i64 fm.op,.string fm.name,.int .i64 fm.n,.int .i64 fm.ty.kind,.string fm.ty.name,.slice fp fn fc,.slice fa fq fr0] 28)).alloc (.cells #[.int .i64 tu.op,.string tu.name,.int .i64 tu.n,.int .i64 tu.ty.kind,.string tu.ty.name,.slice up un uc,.slice ua uq uv] 28)).alloc Z7):=(((kR.alloc _).alloc _).alloc _).alloc _
 have bA:Blk ((((w.alloc (.cells #[.int .i64 op,.string nm,.int .i64 N,.int .i64 ty.kind,.string ty.name,.slice a an ac,.slice ma ks.length mc] 28)).alloc (.cells #[.int .i64 fm.op,.string fm.name,.int .i64 fm.n,.int .i64 fm.ty.kind,.string fm.ty.name,.slice fp fn fc,.slice fa fq fr0] 28)).alloc (.cells #[.int .i64 tu.op,.string tu.name,.int .i64 tu.n,.int .i64 tu.ty.kind,.string tu.ty.name,.slice up un uc,.slice ua uq uv] 28)).alloc Z7) w.heap.size 28 [Value.int .i64 op,.string nm,.int .i64 N,.int .i64 ty.kind,.string ty.name,.slice a an ac,.slice ma ks.length mc]:=(((Blk.new w 28 [Value.int .i64 op,.string nm,.int .i64 N,.int .i64 ty.kind,.string ty.name,.slice a an ac,.slice ma ks.length mc]).alloc _).alloc _).alloc _
 have bF:Blk ((((w.alloc (.cells #[.int .i64 op,.string nm,.int .i64 N,.int .i64 ty.kind,.string ty.name,.slice a an ac,.slice ma ks.length mc] 28)).alloc (.cells #[.int .i64 fm.op,.string fm.name,.int .i64 fm.n,.int .i64 fm.ty.kind,.string fm.ty.name,.slice fp fn fc,.slice fa fq fr0] 28)).alloc (.cells #[.int .i64 tu.op,.string tu.name,.int .i64 tu.n,.int .i64 tu.ty.kind,.string tu.ty.name,.slice up un uc,.slice ua uq uv] 28)).alloc Z7) (w.heap.size+1) 28 [Value.int .i64 fm.op,.string fm.name,.int .i64 fm.n,.int .i64 fm.ty.kind,.string fm.ty.name,.slice fp fn fc,.slice fa fq fr0]:=((Blk.new' 28 [Value.int .i64 fm.op,.string fm.name,.int .i64 fm.n,.int .i64 fm.ty.kind,.string fm.ty.name,.slice fp fn fc,.slice fa fq fr0] (by simp)).alloc _).alloc _
 have bU:Blk ((((w.alloc (.cells #[.int .i64 op,.string nm,.int .i64 N,.int .i64 ty.kind,.string ty.name,.slice a an ac,.slice ma ks.length mc] 28)).alloc (.cells #[.int .i64 fm.op,.string fm.name,.int .i64 fm.n,.int .i64 fm.ty.kind,.string fm.ty.name,.slice fp fn fc,.slice fa fq fr0] 28)).alloc (.cells #[.int .i64 tu.op,.string tu.name,.int .i64 tu.n,.int .i64 tu.ty.kind,.string tu.ty.name,.slice up un uc,.slice ua uq uv] 28)).alloc Z7) (w.heap.size+2) 28 [Value.int .i64 tu.op,.string tu.name,.int .i64 tu.n,.int .i64 tu.ty.kind,.string tu.ty.name,.slice up un uc,.slice ua uq uv]:=(Blk.new' 28 [Value.int .i64 tu.op,.string tu.name,.int .i64 tu.n,.int .i64 tu.ty.kind,.string tu.ty.name,.slice up un uc,.slice ua uq uv] (by simp)).alloc _
 have bR:Blk ((((w.alloc (.cells #[.int .i64 op,.string nm,.int .i64 N,.int .i64 ty.kind,.string ty.name,.slice a an ac,.slice ma ks.length mc] 28)).alloc (.cells #[.int .i64 fm.op,.string fm.name,.int .i64 fm.n,.int .i64 fm.ty.kind,.string fm.ty.name,.slice fp fn fc,.slice fa fq fr0] 28)).alloc (.cells #[.int .i64 tu.op,.string tu.name,.int .i64 tu.n,.int .i64 tu.ty.kind,.string tu.ty.name,.slice up un uc,.slice ua uq uv] 28)).alloc Z7) (w.heap.size+3) 28 z27:=Blk.new' 28 _ (by simp)
 clear h1 h2 hE hokt hD hN hD2 hbd hbty IH hres hal
 go_enter Tryz.func91,Tryz.ntmps91
 go_upto_region 1 with (fail)
 refine wp_gen (F:=fun W3=>Kept (fun _=>False) w W3∧W3.heap.size=w.heap.size+4∧Blk W3 w.heap.size 28 [Value.int .i64 op,.string nm,.int .i64 N,.int .i64 ty.kind,.string ty.name,.slice a an ac,.slice ma ks.length mc]∧Blk W3 (w.heap.size+1) 28 [Value.int .i64 fm.op,.string fm.name,.int .i64 fm.n,.int .i64 fm.ty.kind,.string fm.ty.name,.slice fp fn fc,.slice fa fq fr0]∧Blk W3 (w.heap.size+2) 28 [Value.int .i64 tu.op,.string tu.name,.int .i64 tu.n,.int .i64 tu.ty.kind,.string tu.ty.name,.slice up un uc,.slice ua uq uv]∧Blk W3 (w.heap.size+3) 28 z27) ⟨K0,by simp,bA,bF,bU,bR⟩ ?_
 clear K0 bA bF bU bR
 rintro w1 ⟨K1,z1,bA,bF,bU,bR⟩
 have gA:=bA.cell
 have gF:=bF.cell
 have HC:=Ld (HAL.out w1 K1)
 have HB1:Hid (Kept (fun _=>False) w w1∧w1.heap.size=w.heap.size+4∧Blk w1 w.heap.size 28 [Value.int .i64 op,.string nm,.int .i64 N,.int .i64 ty.kind,.string ty.name,.slice a an ac,.slice ma ks.length mc]∧Blk w1 (w.heap.size+1) 28 [Value.int .i64 fm.op,.string fm.name,.int .i64 fm.n,.int .i64 fm.ty.kind,.string fm.ty.name,.slice fp fn fc,.slice fa fq fr0]∧Blk w1 (w.heap.size+2) 28 [Value.int .i64 tu.op,.string tu.name,.int .i64 tu.n,.int .i64 tu.ty.kind,.string tu.ty.name,.slice up un uc,.slice ua uq uv]∧Blk w1 (w.heap.size+3) 28 z27):=Ld ⟨K1,z1,bA,bF,bU,bR⟩
 clear HAL K1 z1 bA bF bU bR
 go_wp2_with fail
 refine HC.out.mono ?_
 rintro e w2 ⟨rfl,k2⟩
 have HB2:Hid (Kept (fun _=>False) w w2∧w.heap.size+4≤w2.heap.size∧Blk w2 w.heap.size 28 [Value.int .i64 op,.string nm,.int .i64 N,.int .i64 ty.kind,.string ty.name,.slice a an ac,.slice ma ks.length mc]∧Blk w2 (w.heap.size+1) 28 [Value.int .i64 fm.op,.string fm.name,.int .i64 fm.n,.int .i64 fm.ty.kind,.string fm.ty.name,.slice fp fn fc,.slice fa fq fr0]∧Blk w2 (w.heap.size+2) 28 [Value.int .i64 tu.op,.string tu.name,.int .i64 tu.n,.int .i64 tu.ty.kind,.string tu.ty.name,.slice up un uc,.slice ua uq uv]∧Blk w2 (w.heap.size+3) 28 z27):=Ld (by
  obtain⟨q1,q2,q3,q4,q5,q6⟩:=HB1.out
  exact⟨q1.trans k2,by have:=k2.size;omega,q3.kept k2 (fun e=>e),q4.kept k2 (fun e=>e),q5.kept k2 (fun e=>e),q6.kept k2 (fun e=>e)⟩)
 clear k2 HC gA gF HB1
 cases al
 case true=>
  have HHT:Hid (res=tu):=Ld (by rw[HRS.out,repF,if_pos HLL.out.symm])
  have gU:=HB2.out.2.2.2.2.1.cell
  have HCL:=Ld (HCU.out w2 HB2.out.1)
  clear HRS HLL HCU HIH HT HAT HIN1 HIN2 HKD HKN
  go_wp2_with fail
  clear gU
  refine HCL.out.mono ?_
  rintro e w4 ⟨tk2,kk2,rfl,hty2,htm2,k4⟩
  obtain⟨pa,pn,pc,rfl⟩:=hty2.slice
  obtain⟨qa,qn,qc,rfl⟩:=htm2.slice
  have BR4:=Ld (HB2.out.2.2.2.2.2.kept k4 (fun h=>h))
  have KW4:=Ld (HB2.out.1.trans k4)
  have T4:=Ld hty2
  have M4:=Ld htm2
  have LZ:=Ld HB2.out.2.1
  have lR:=BR4.out.lt
  have gR:∀ i,w4.cell? ⟨w.heap.size+3,i,none⟩=[Value.int .i64 0,.string ⟨#[]⟩,.int .i64 0,.int .i64 0,.string ⟨#[]⟩,.slice none 0 0,.slice none 0 0][i]?:=BR4.out.cell
  have fR:=BR4.out.frozen
  clear hty2 htm2 k4 HCL HB2
  go_wp2_with fail
  exact bodyPost_ret (results_one Tryz.results91 rfl (load_tm (t:=tu) (r7 BR4.out rfl))) rfl ⟨_,_,by rw[HHT.out],by rw[HHT.out];exact (T4.out.frame (set7 (fun q hq=>by have:=LZ.out;omega))).mono (fun q _ hq=>by have:=LZ.out;omega),by rw[HHT.out];exact (M4.out.frame (set7 (fun q hq=>by have:=LZ.out;omega))).mono (fun q _ hq=>by have:=LZ.out;omega),k7w KW4.out (Or.inr (by omega))⟩
 case false=>
  have HR0:Hid (res=.mk op (rrZ fm (fr fm) (fr tu) (binderB op) nm 0 nm ks) N ty (rrK fm tu (fr fm) (fr tu) f (binderB op) nm 0 ks)):=Ld (by rw[HRS.out];exact rr_eq HLL.out.symm HKN.out.2.1)
  clear HRS HLL HCU
  go_upto_region 3 with (fail)
  go_cut [11] (fun v wc=>∃ O va vn vc,v=.pointer (some ⟨O,0,none⟩)∧RpS w [Value.int .i64 op,.string nm,.int .i64 N,.int .i64 ty.kind,.string ty.name,.slice a an ac,.slice ma ks.length mc] [Value.int .i64 fm.op,.string fm.name,.int .i64 fm.n,.int .i64 fm.ty.kind,.string fm.ty.name,.slice fp fn fc,.slice fa fq fr0] [Value.int .i64 tu.op,.string tu.name,.int .i64 tu.n,.int .i64 tu.ty.kind,.string tu.ty.name,.slice up un uc,.slice ua uq uv] op nm N ty (.slice va vn vc) O wc.heap.size [] wc (.slice none 0 0))
  case first=>
   have KD:Kept (fun _=>False) w2 (World.drew w2):=kR.drew
   refine wp_region_mono (L:=Kept (fun _=>False)) (fun i v W=>match i with
           | 0=>v=.pointer (some ⟨w.heap.size,0,none⟩)
           | 1=>v=.int .i64 op
           | 2=>v=.pointer (some ⟨w.heap.size,1,none⟩)
           | 3=>v=.string nm
           | 4=>v=.pointer (some ⟨w.heap.size,2,none⟩)
           | 5=>v=.int .i64 N
           | 6=>v=.pointer (some ⟨w.heap.size,3,none⟩)
           | 7=>v=.agg #[.int .i64 ty.kind,.string ty.name,.slice a an ac]
           | 8=>∃ x1 x2 x3,v=.agg #[.int .i64 ty.kind,.string ty.name,.slice x1 x2 x3]∧TyL (fun q=>w2.heap.size≤q) W ty.kids (.slice x1 x2 x3)
           | 9=>∃ x1 x2 x3,v=.agg #[.int .i64 op,.string nm,.int .i64 N,.int .i64 ty.kind,.string ty.name,.slice x1 x2 x3,.slice none 0 0]∧TyL (fun q=>w2.heap.size≤q) W ty.kids (.slice x1 x2 x3)
           | 10=>∃ g,v=.pointer (some ⟨g,0,none⟩)∧Blk W g 28 z27∧w2.heap.size≤g
           | _=>True) [11] [] 98 (by kernel_rfl) rfl (by kernel_rfl) (by kernel_rfl) (fun w=>Kept.refl _ w) (fun _ _ _ h1 h2=>h1.trans h2) (fun c d v a w h=>by cases d <;> exact h) ?_ ?_
   ·refine allM_cons rfl (stepM_of [] rfl fun W k'=>allV_nil ?_) ?_
    ·refine opW_go rfl fun K hK=>?_
     go_simp
     exact hK _ _ (KT.mk kR rfl 19 rfl rfl)
    refine allM_cons rfl (stepM_of [0] rfl fun W k'=>allV_some 19 rfl fun v0 h0=>allV_nil ?_) ?_
    ·obtain⟨w1,k1,rfl⟩:=h0
     have q:=KD.trans k'
     have gA:=(HB2.out.2.2.1.kept q (fun e=>e)).cell
     refine opW_go rfl fun K hK=>?_
     go_simp
     exact hK _ _ (KT.mk kR rfl 20 rfl rfl)
    refine allM_cons rfl (stepM_of [] rfl fun W k'=>allV_nil ?_) ?_
    ·refine opW_go rfl fun K hK=>?_
     go_simp
     exact hK _ _ (KT.mk kR rfl 21 rfl rfl)
    refine allM_cons rfl (stepM_of [2] rfl fun W k'=>allV_some 21 rfl fun v0 h0=>allV_nil ?_) ?_
    ·obtain⟨w1,k1,rfl⟩:=h0
     have q:=KD.trans k'
     have gA:∀ i,W.cell? ⟨w.heap.size,i,none⟩=[Value.int .i64 op,.string nm,.int .i64 N,.int .i64 ty.kind,.string ty.name,.slice a an ac,.slice ma ks.length mc][i]?:=(HB2.out.2.2.1.kept q (fun e=>e)).cell
     refine opW_go rfl fun K hK=>?_
     go_simp
     exact hK _ _ (KT.mk kR rfl 22 rfl rfl)
    refine allM_cons rfl (stepM_of [] rfl fun W k'=>allV_nil ?_) ?_
    ·refine opW_go rfl fun K hK=>?_
     go_simp
     exact hK _ _ (KT.mk kR rfl 23 rfl rfl)
    refine allM_cons rfl (stepM_of [4] rfl fun W k'=>allV_some 23 rfl fun v0 h0=>allV_nil ?_) ?_
    ·obtain⟨w1,k1,rfl⟩:=h0
     have q:=KD.trans k'
     have gA:∀ i,W.cell? ⟨w.heap.size,i,none⟩=[Value.int .i64 op,.string nm,.int .i64 N,.int .i64 ty.kind,.string ty.name,.slice a an ac,.slice ma ks.length mc][i]?:=(HB2.out.2.2.1.kept q (fun e=>e)).cell
     refine opW_go rfl fun K hK=>?_
     go_simp
     exact hK _ _ (KT.mk kR rfl 24 rfl rfl)
    refine allM_cons rfl (stepM_of [] rfl fun W k'=>allV_nil ?_) ?_
    ·refine opW_go rfl fun K hK=>?_
     go_simp
     exact hK _ _ (KT.mk kR rfl 25 rfl rfl)
    refine allM_cons rfl (stepM_of [6] rfl fun W k'=>allV_some 25 rfl fun v0 h0=>allV_nil ?_) ?_
    ·obtain⟨w1,k1,rfl⟩:=h0
     have q:=KD.trans k'
     have gA:∀ i,W.cell? ⟨w.heap.size,i,none⟩=[Value.int .i64 op,.string nm,.int .i64 N,.int .i64 ty.kind,.string ty.name,.slice a an ac,.slice ma ks.length mc][i]?:=(HB2.out.2.2.1.kept q (fun e=>e)).cell
     refine opW_go rfl fun K hK=>?_
     go_simp
     exact hK _ _ (KT.mk kR rfl 26 rfl rfl)
    refine allM_cons rfl (stepM_of [7] rfl fun W k'=>allV_some 26 rfl fun v0 h0=>allV_nil ?_) ?_
    ·obtain⟨w1,k1,rfl⟩:=h0
     refine opW_go rfl fun K hK=>?_
     go_simp
     go_at_call 84
     refine (HT.out W (HB2.out.1.trans (KD.trans k'))).mono ?_
     rintro e w' ⟨v,rfl,hv,k4⟩
     obtain⟨x1,x2,x3,rfl⟩:=hv.slice
     exact hK _ _ (KT.mk k4 rfl 27 rfl ⟨x1,x2,x3,rfl,hv.mono (fun q _ hq=>Nat.le_trans (KD.trans k').size hq)⟩)
    refine allM_cons rfl (stepM_of [1,3,5,8] rfl fun W k'=>allV_some 20 rfl fun v0 h0=>allV_some 22 rfl fun v1 h1=>allV_some 24 rfl fun v2 h2=>allV_some 27 rfl fun v3 h3=>allV_nil ?_) ?_
    ·obtain⟨w1,k1,rfl⟩:=h0
     obtain⟨w2,k2,rfl⟩:=h1
     obtain⟨w3,k3,rfl⟩:=h2
     obtain⟨w4,k4,x1,x2,x3,rfl,q1⟩:=h3
     refine opW_go rfl fun K hK=>?_
     go_simp
     exact hK _ _ (KT.mk kR rfl 28 rfl ⟨x1,x2,x3,rfl,q1.frame (sK k4)⟩)
    refine allM_cons rfl (stepM_of [] rfl fun W k'=>allV_nil ?_) ?_
    ·refine opW_go rfl fun K hK=>?_
     go_simp
     exact hK _ _ (KT.mk (kR.alloc _) rfl 11 rfl ⟨_,rfl,Blk.new W 28 z27,(KD.trans k').size⟩)
    refine allM_tail rfl ?_
    exact allM_nil
   ·intro W kW
    have hh:(List.range 12).filter (fun i=>!([11]:List Nat).contains i)=[0,1,2,3,4,5,6,7,8,9,10]:=by decide
    change allV _ _ _ _ _ ((List.range 12).filter (fun i=>!([11]:List Nat).contains i)) _
    rw[hh]
    generalize hKK:(fun a1=>wpList Tryz.prog _ _ (pickT [11] 0 _) a1 W)=KK
    refine allV_some 19 (by kernel_rfl) ?_
    intro v0 h0
    refine allV_some 20 (by kernel_rfl) ?_
    intro v1 h1
    refine allV_some 21 (by kernel_rfl) ?_
    intro v2 h2
    refine allV_some 22 (by kernel_rfl) ?_
    intro v3 h3
    refine allV_some 23 (by kernel_rfl) ?_
    intro v4 h4
    refine allV_some 24 (by kernel_rfl) ?_
    intro v5 h5
    refine allV_some 25 (by kernel_rfl) ?_
    intro v6 h6
    refine allV_some 26 (by kernel_rfl) ?_
    intro v7 h7
    refine allV_some 27 (by kernel_rfl) ?_
    intro v8 h8
    refine allV_some 28 (by kernel_rfl) ?_
    intro v9 h9
    refine allV_some 11 (by kernel_rfl) ?_
    intro v10 h10
    refine allV_nil ?_
    clear h0
    clear h1
    clear h2
    clear h3
    clear h4
    clear h5
    clear h6
    clear h7
    clear h8
    obtain⟨w9,k9,x1,x2,x3,rfl,q1⟩:=h9
    obtain⟨w10,k10,O,rfl,hb,hge⟩:=h10
    subst hKK
    have KW:Kept (fun _=>False) w2 W:=KD.trans kW
    have HO:=Ld (hb.kept k10 (fun h=>h))
    have HTY:=Ld ((q1.frame (sK k9)).nz HO.out HKN.out.2.2.2.2)
    have HGE:=Ld hge
    have HBW:Hid (Kept (fun _=>False) w W∧w.heap.size+4≤w2.heap.size∧Blk W w.heap.size 28 [Value.int .i64 op,.string nm,.int .i64 N,.int .i64 ty.kind,.string ty.name,.slice a an ac,.slice ma ks.length mc]∧Blk W (w.heap.size+1) 28 [Value.int .i64 fm.op,.string fm.name,.int .i64 fm.n,.int .i64 fm.ty.kind,.string fm.ty.name,.slice fp fn fc,.slice fa fq fr0]∧Blk W (w.heap.size+2) 28 [Value.int .i64 tu.op,.string tu.name,.int .i64 tu.n,.int .i64 tu.ty.kind,.string tu.ty.name,.slice up un uc,.slice ua uq uv]∧Blk W (w.heap.size+3) 28 z27):=Ld (by
     obtain⟨e1,e2,e3,e4,e5,e6⟩:=HB2.out
     exact⟨e1.trans KW,e2,e3.kept KW (fun e=>e),e4.kept KW (fun e=>e),e5.kept KW (fun e=>e),e6.kept KW (fun e=>e)⟩)
    have gO:∀ i,W.cell? ⟨O,i,none⟩=[Value.int .i64 0,.string ⟨#[]⟩,.int .i64 0,.int .i64 0,.string ⟨#[]⟩,.slice none 0 0,.slice none 0 0][i]?:=HO.out.cell
    have fO:=HO.out.frozen
    have lO:=HO.out.lt
    clear hb hge q1 KW KD kW k9 k10 hh HB2
    show wpList Tryz.prog _ _ [_] _ W
    simp only[Act.put,List.setIfInBounds_toArray,List.set_cons_succ,List.set_cons_zero]
    go_wp2_with fail
    have HX:Hid (RpS w [Value.int .i64 op,.string nm,.int .i64 N,.int .i64 ty.kind,.string ty.name,.slice a an ac,.slice ma ks.length mc] [Value.int .i64 fm.op,.string fm.name,.int .i64 fm.n,.int .i64 fm.ty.kind,.string fm.ty.name,.slice fp fn fc,.slice fa fq fr0] [Value.int .i64 tu.op,.string tu.name,.int .i64 tu.n,.int .i64 tu.ty.kind,.string tu.ty.name,.slice up un uc,.slice ua uq uv] op nm N ty (.slice x1 x2 x3) O (((((((W.setCell ⟨O,0,none⟩ (.int .i64 op)).setCell ⟨O,1,none⟩ (.string nm)).setCell ⟨O,2,none⟩ (.int .i64 N)).setCell ⟨O,3,none⟩ (.int .i64 ty.kind)).setCell ⟨O,4,none⟩ (.string ty.name)).setCell ⟨O,5,none⟩ (.slice x1 x2 x3)).setCell ⟨O,6,none⟩ (.slice none 0 0)).heap.size [] (((((((W.setCell ⟨O,0,none⟩ (.int .i64 op)).setCell ⟨O,1,none⟩ (.string nm)).setCell ⟨O,2,none⟩ (.int .i64 N)).setCell ⟨O,3,none⟩ (.int .i64 ty.kind)).setCell ⟨O,4,none⟩ (.string ty.name)).setCell ⟨O,5,none⟩ (.slice x1 x2 x3)).setCell ⟨O,6,none⟩ (.slice none 0 0)) (.slice none 0 0)):=Ld (by
     obtain⟨e1,e2,e3,e4,e5,e6⟩:=HBW.out
     have h5:=HGE.out
     have k7:Kept (fun q=>q=O) W (((((((W.setCell ⟨O,0,none⟩ (.int .i64 op)).setCell ⟨O,1,none⟩ (.string nm)).setCell ⟨O,2,none⟩ (.int .i64 N)).setCell ⟨O,3,none⟩ (.int .i64 ty.kind)).setCell ⟨O,4,none⟩ (.string ty.name)).setCell ⟨O,5,none⟩ (.slice x1 x2 x3)).setCell ⟨O,6,none⟩ (.slice none 0 0)):=k7w kR (Or.inl rfl)
     exact RpS.start (k7w e1 (Or.inr (by omega))) (e3.kept k7 (fun e=>by omega)) (e4.kept k7 (fun e=>by omega)) (e5.kept k7 (fun e=>by omega)) (e6.kept k7 (fun e=>by omega)) (r7 HO.out rfl) (by omega) ((HTY.out.frame (Same.of_kept k7 (fun q hq e=>hq.2 e))).mono (fun q _ hq=>⟨by omega,hq.2⟩)))
    clear HO HTY HGE HBW gO fO lO
    go_meet
    case rel=>exact⟨_,_,_,_,rfl,HX.out⟩
  case rest=>
   obtain⟨O,va,vn,vc,rfl,hS⟩:=hcut
   have S0:=Ld hS
   clear hS HB2 HT
   generalize wc=w5 at *
   obtain⟨base,hbase⟩:∃ base,base=w5.heap.size:=⟨_,rfl⟩
   rw[← hbase] at S0
   clear hbase
   go_wp2_with fail
   go_loopw [12] (fun i wr=>∃ (k:Nat) (E:List E3) (u:Value) (z:ByteArray),k≤ks.length∧i=.int .i64 k∧RpS w [Value.int .i64 op,.string nm,.int .i64 N,.int .i64 ty.kind,.string ty.name,.slice a an ac,.slice ma ks.length mc] [Value.int .i64 fm.op,.string fm.name,.int .i64 fm.n,.int .i64 fm.ty.kind,.string fm.ty.name,.slice fp fn fc,.slice fa fq fr0] [Value.int .i64 tu.op,.string tu.name,.int .i64 tu.n,.int .i64 tu.ty.kind,.string tu.ty.name,.slice up un uc,.slice ua uq uv] op z N ty (.slice va vn vc) O base E wr u∧E.length=k∧Hid (res=.mk op (rrZ fm (fr fm) (fr tu) (binderB op) nm k z (ks.drop k)) N ty (E.map (·.1)++rrK fm tu (fr fm) (fr tu) f (binderB op) nm k (ks.drop k))∧(k≤1→z=nm))) (fun i _=>ks.length-(intOf i).toNat)
   case atStart=>exact⟨0,[],_,nm,Nat.zero_le _,rfl,S0.out,rfl,Ld ⟨by rw[HR0.out];rfl,fun _=>rfl⟩⟩
   case round=>
    obtain⟨k,E,u,z,hkl,rfl,hS,hEk,hq⟩:=hrel
    obtain⟨xa,xn,xc,hu⟩:=hS.row.tml.slice
    subst hu
    obtain rfl:xn=E.length:=by have:=hS.row.tml.len;rw[List.length_map] at this;exact this
    have S:=Ld hS
    have HEL:=Ld hEk
    clear hS S0 hEk HR0
    by_cases hlt:k<ks.length
    ·have i1:(k:Int)<(ks.length:Int):=by omega
     have i2:(k:Int)<1000000:=by have:=HKN.out.1;omega
     obtain⟨q1,o1,ta,tn,tc,pa,pn,pc,rfl,_,lq,⟨c0,c1,c2,c3,c4,c5,c6⟩,hkt,hkm⟩:=HAT.out wr S.out.row.kp k hlt
     have HQ:=Ld (HKD.out _ (List.getElem_mem hlt))
     have HDK:=Ld (rrK_drop (fm:=fm) (tu:=tu) (F:=fr fm) (U:=fr tu) (f:=f) (nm:=nm) (bi:=binderB op) hlt)
     have HDZ:=Ld (rrZ_drop (fm:=fm) (F:=fr fm) (U:=fr tu) (nm:=nm) (bi:=binderB op) (z:=z) hlt)
     have HN0:Hid (res=.mk op (rrZ fm (fr fm) (fr tu) (binderB op) nm (k+1) (rrZ1 fm (fr fm) (fr tu) (binderB op) nm k z ks[k]) (ks.drop (k+1))) N ty (E.map (·.1)++rrT fm tu (fr fm) (fr tu) f (binderB op) nm k ks[k]::rrK fm tu (fr fm) (fr tu) f (binderB op) nm (k+1) (ks.drop (k+1)))∧(k≤1→z=nm)):=Ld ⟨by rw[← HDK.out,← HDZ.out];exact hq.out.1,hq.out.2⟩
     have HT0:=Ld hkt
     have HM0:=Ld hkm
     clear HDK HDZ hq hkt hkm
     generalize ks[k]=y at *
     have gA:=S.out.a.cell
     go_upto_region 8 with (fail)
     have SY:=Ld (RpY.start S.out [Value.int .i64 y.op,.string y.name,.int .i64 y.n,.int .i64 y.ty.kind,.string y.ty.name,.slice ta tn tc,.slice pa pn pc])
     have K8:Kept (fun _=>False) wr (wr.alloc (.cells #[.int .i64 y.op,.string y.name,.int .i64 y.n,.int .i64 y.ty.kind,.string y.ty.name,.slice ta tn tc,.slice pa pn pc] 28)):=kR.alloc _
     have HYT:=Ld (HT0.out.frame (sK K8))
     have HYM:=Ld (HM0.out.frame (sK K8))
     change Hid (RpY _ _ _ _ _ _ _ _ _ _ _ _ _ _ (wr.alloc (.cells #[.int .i64 y.op,.string y.name,.int .i64 y.n,.int .i64 y.ty.kind,.string y.ty.name,.slice ta tn tc,.slice pa pn pc] 28)) _) at SY
     clear gA c0 c1 c2 c3 c4 c5 c6 lq K8 HT0 HM0 S
     generalize wr.alloc (.cells #[.int .i64 y.op,.string y.name,.int .i64 y.n,.int .i64 y.ty.kind,.string y.ty.name,.slice ta tn tc,.slice pa pn pc] 28)=wY at *
     generalize wr.heap.size=Y at *
     go_cut [47] (fun v wc=>v=.bool (binderB op&&k==1)∧wc=wY)
     case first=>
      have gA:∀ i,wY.cell? ⟨w.heap.size,i,none⟩=[Value.int .i64 op,.string nm,.int .i64 N,.int .i64 ty.kind,.string ty.name,.slice a an ac,.slice (some ⟨q1,o1,none⟩) ks.length mc][i]?:=SY.out.s.a.cell
      go_wp2_with fail
      refine (rbinder_t (op:=op) rfl _).mono ?_
      rintro e w4 ⟨rfl,rfl⟩
      cases hbi:binderB op
      ·go_wp2_with fail
       go_meet
       case rel=>exact⟨by rw[hbi];rfl,rfl⟩
      ·have hk1:((k:Int)==1)=(k==1):=by
        rw[Bool.eq_iff_iff,beq_iff_eq,beq_iff_eq];omega
       go_wp2_with fail
       go_meet
       case rel=>exact⟨by rw[hbi];simp,rfl⟩
     case rest=>
      obtain⟨rfl,rfl⟩:=hcut
      generalize wc=wY at *
      cases hcb:(binderB op&&k==1)
      ·have HNX:Hid (res=.mk op (rrZ fm (fr fm) (fr tu) (binderB op) nm (k+1) z (ks.drop (k+1))) N ty (E.map (·.1)++(repF fm tu (fr fm) (fr tu) f y::rrK fm tu (fr fm) (fr tu) f (binderB op) nm (k+1) (ks.drop (k+1))))∧(k+1≤1→z=nm)):=Ld (by
        have h:=HN0.out
        have e1:rrT fm tu (fr fm) (fr tu) f (binderB op) nm k y=repF fm tu (fr fm) (fr tu) f y:=by unfold rrT;rw[hcb];rfl
        have e2:rrZ1 fm (fr fm) (fr tu) (binderB op) nm k z y=z:=by unfold rrZ1;rw[hcb];rfl
        rw[e1,e2] at h
        exact⟨h.1,fun e=>h.2 (by omega)⟩)
       clear hcb HN0
       go_upto_region 14 with (fail)
       have KD:Kept (fun _=>False) wY (World.drew wY):=kR.drew
       have HCA:=Ld (fun W (k:Kept (fun _=>False) wY W)=>HIH.out y _ _ _ W (SY.out.s.row.kp.trans k) HQ.out (HYT.out.frame (sK k)) (HYM.out.frame (sK k)))
       obtain⟨r,hr⟩:∃ r,r=repF fm tu (fr fm) (fr tu) f y:=⟨_,rfl⟩
       rw[← hr] at HCA HNX
       clear hr
       refine wp_region_mono (L:=Kept (fun _=>False)) (fun i v W=>match i with
               | 0=>v=.pointer (some ⟨O,6,none⟩)
               | 1=>v=.slice xa E.length xc
               | 2=>v=.agg #[.int .i64 y.op,.string y.name,.int .i64 y.n,.int .i64 y.ty.kind,.string y.ty.name,.slice ta tn tc,.slice pa pn pc]
               | 3=>v=.agg #[.int .i64 fm.op,.string fm.name,.int .i64 fm.n,.int .i64 fm.ty.kind,.string fm.ty.name,.slice fp fn fc,.slice fa fq fr0]
               | 4=>v=.agg #[.int .i64 tu.op,.string tu.name,.int .i64 tu.n,.int .i64 tu.ty.kind,.string tu.ty.name,.slice up un uc,.slice ua uq uv]
               | 5=>v=.slice na (fr fm).length nc
               | 6=>v=.slice da (fr tu).length dc
               | 7=>∃ x1 x2 x3 y1 y2 y3,v=.agg #[.int .i64 r.op,.string r.name,.int .i64 r.n,.int .i64 r.ty.kind,.string r.ty.name,.slice x1 x2 x3,.slice y1 y2 y3]∧TyL (fun q=>wY.heap.size≤q) W r.ty.kids (.slice x1 x2 x3)∧TmL (fun q=>wY.heap.size≤q) W r.kids (.slice y1 y2 y3)
               | 8=>∃ g x1 x2 x3 y1 y2 y3,v=.slice (some ⟨g,0,none⟩) 1 1∧Blk W g 28 (tmCells r (.slice x1 x2 x3) (.slice y1 y2 y3))∧TyL (fun q=>wY.heap.size≤q) W r.ty.kids (.slice x1 x2 x3)∧TmL (fun q=>wY.heap.size≤q) W r.kids (.slice y1 y2 y3)
               | _=>True) [9,10,11] [] 98 (by kernel_rfl) rfl (by kernel_rfl) (by kernel_rfl) (fun w=>Kept.refl _ w) (fun _ _ _ h1 h2=>h1.trans h2) (fun c d v a w h=>by cases d <;> exact h) ?_ ?_
       ·refine allM_cons rfl (stepM_of [] rfl fun W k'=>allV_nil ?_) ?_
        ·refine opW_go rfl fun K hK=>?_
         go_simp
         exact hK _ _ (KT.mk kR rfl 86 rfl rfl)
        refine allM_cons rfl (stepM_of [0] rfl fun W k'=>allV_some 86 rfl fun v0 h0=>allV_nil ?_) ?_
        ·obtain⟨w1,k1,rfl⟩:=h0
         have q:=KD.trans k'
         have gO:=((SY.out.s.kept q).o).cell
         refine opW_go rfl fun K hK=>?_
         go_simp
         exact hK _ _ (KT.mk kR rfl 87 rfl rfl)
        refine allM_cons rfl (stepM_of [] rfl fun W k'=>allV_nil ?_) ?_
        ·have q:=KD.trans k'
         have gY:∀ i,W.cell? ⟨Y,i,none⟩=[Value.int .i64 y.op,.string y.name,.int .i64 y.n,.int .i64 y.ty.kind,.string y.ty.name,.slice ta tn tc,.slice pa pn pc][i]?:=((SY.out.kept q).y).cell
         refine opW_go rfl fun K hK=>?_
         go_simp
         exact hK _ _ (KT.mk kR rfl 88 rfl rfl)
        refine allM_cons rfl (stepM_of [] rfl fun W k'=>allV_nil ?_) ?_
        ·have q:=KD.trans k'
         have gF:∀ i,W.cell? ⟨w.heap.size+1,i,none⟩=[Value.int .i64 fm.op,.string fm.name,.int .i64 fm.n,.int .i64 fm.ty.kind,.string fm.ty.name,.slice fp fn fc,.slice fa fq fr0][i]?:=((SY.out.s.kept q).f).cell
         refine opW_go rfl fun K hK=>?_
         go_simp
         exact hK _ _ (KT.mk kR rfl 89 rfl rfl)
        refine allM_cons rfl (stepM_of [] rfl fun W k'=>allV_nil ?_) ?_
        ·have q:=KD.trans k'
         have gU:∀ i,W.cell? ⟨w.heap.size+2,i,none⟩=[Value.int .i64 tu.op,.string tu.name,.int .i64 tu.n,.int .i64 tu.ty.kind,.string tu.ty.name,.slice up un uc,.slice ua uq uv][i]?:=((SY.out.s.kept q).t).cell
         refine opW_go rfl fun K hK=>?_
         go_simp
         exact hK _ _ (KT.mk kR rfl 90 rfl rfl)
        refine allM_cons rfl (stepM_of [] rfl fun W k'=>allV_nil ?_) ?_
        ·refine opW_go rfl fun K hK=>?_
         go_simp
         exact hK _ _ (KT.mk kR rfl 91 rfl rfl)
        refine allM_cons rfl (stepM_of [] rfl fun W k'=>allV_nil ?_) ?_
        ·refine opW_go rfl fun K hK=>?_
         go_simp
         exact hK _ _ (KT.mk kR rfl 92 rfl rfl)
        refine allM_cons rfl (stepM_of [2,3,4,5,6] rfl fun W k'=>allV_some 88 rfl fun v0 h0=>allV_some 89 rfl fun v1 h1=>allV_some 90 rfl fun v2 h2=>allV_some 91 rfl fun v3 h3=>allV_some 92 rfl fun v4 h4=>allV_nil ?_) ?_
        ·obtain⟨w1,k1,rfl⟩:=h0
         obtain⟨w2,k2,rfl⟩:=h1
         obtain⟨w3,k3,rfl⟩:=h2
         obtain⟨w4,k4,rfl⟩:=h3
         obtain⟨w5,k5,rfl⟩:=h4
         refine opW_go rfl fun K hK=>?_
         go_simp
         go_at_call 91
         have q:=KD.trans k'
         refine (HCA.out W q).mono ?_
         rintro e w' ⟨tk,kk,rfl,q1,q2,k7⟩
         obtain⟨x1,x2,x3,rfl⟩:=q1.slice
         obtain⟨y1,y2,y3,rfl⟩:=q2.slice
         exact hK _ _ (KT.mk k7 rfl 93 rfl ⟨x1,x2,x3,y1,y2,y3,rfl,q1.mono (fun _ _ hq=>Nat.le_trans q.size hq),q2.mono (fun _ _ hq=>Nat.le_trans q.size hq)⟩)
        refine allM_cons rfl (stepM_of [7] rfl fun W k'=>allV_some 93 rfl fun v0 h0=>allV_nil ?_) ?_
        ·obtain⟨w1,k1,x1,x2,x3,y1,y2,y3,rfl,q1,q2⟩:=h0
         refine opW_go rfl fun K hK=>?_
         go_simp
         exact hK _ _ (KT.mk (kR.alloc _) rfl 94 rfl ⟨_,x1,x2,x3,y1,y2,y3,rfl,Blk.new W 28 (tmCells r (.slice x1 x2 x3) (.slice y1 y2 y3)),(q1.frame (sK k1)).frame (Same.alloc _ _),(q2.frame (sK k1)).frame (Same.alloc _ _)⟩)
        refine allM_tail rfl ?_
        refine allM_tail rfl ?_
        refine allM_tail rfl ?_
        exact allM_nil
       ·intro W kW
        have hh:(List.range 12).filter (fun i=>!([9,10,11]:List Nat).contains i)=[0,1,2,3,4,5,6,7,8]:=by decide
        change allV _ _ _ _ _ ((List.range 12).filter (fun i=>!([9,10,11]:List Nat).contains i)) _
        rw[hh]
        generalize hKK:(fun a1=>wpList Tryz.prog _ _ (pickT [9,10,11] 0 _) a1 W)=KK
        refine allV_some 86 (by kernel_rfl) ?_
        intro v0 h0
        refine allV_some 87 (by kernel_rfl) ?_
        intro v1 h1
        refine allV_some 88 (by kernel_rfl) ?_
        intro v2 h2
        refine allV_some 89 (by kernel_rfl) ?_
        intro v3 h3
        refine allV_some 90 (by kernel_rfl) ?_
        intro v4 h4
        refine allV_some 91 (by kernel_rfl) ?_
        intro v5 h5
        refine allV_some 92 (by kernel_rfl) ?_
        intro v6 h6
        refine allV_some 93 (by kernel_rfl) ?_
        intro v7 h7
        refine allV_some 94 (by kernel_rfl) ?_
        intro v8 h8
        refine allV_nil ?_
        obtain⟨w0,k0,rfl⟩:=h0
        obtain⟨w1,k1,rfl⟩:=h1
        clear h2
        clear h3
        clear h4
        clear h5
        clear h6
        clear h7
        obtain⟨w8,k8,g,x1,x2,x3,y1,y2,y3,rfl,hb,q1,q2⟩:=h8
        subst hKK
        have KW:Kept (fun _=>False) wY W:=KD.trans kW
        have S6:=Ld (SY.out.s.kept KW)
        have HBK:=Ld (hb.kept k8 (fun h=>h))
        have HEL6:Hid (EL (okb base (.slice xa E.length xc)) W [(r,.slice x1 x2 x3,.slice y1 y2 y3)]):=Ld (fun e he=>by
         rw[List.mem_singleton.1 he]
         have hz:=SY.out.s.ho.2.2
         exact⟨(q1.frame (sK k8)).mono (fun q _ hq=>⟨Nat.le_trans hz hq,fun e=>by have h7:=(SY.out.s.row.own.lt q e).2;have h8:wY.heap.size≤q:=hq;omega⟩),(q2.frame (sK k8)).mono (fun q _ hq=>⟨Nat.le_trans hz hq,fun e=>by have h7:=(SY.out.s.row.own.lt q e).2;have h8:wY.heap.size≤q:=hq;omega⟩)⟩)
        obtain⟨i28,hi28,hz28,hs28,hb28⟩:=info_tm
        have HI:=Ld hi28
        have HZ:=Ld hz28
        have HS:=Ld hs28
        have HB:=Ld hb28
        clear hb q1 q2 KW KD kW hh hi28 hz28 hs28 hb28 SY
        show wpList Tryz.prog _ _ [_,_,_] _ W
        simp only[Act.put,List.setIfInBounds_toArray,List.set_cons_succ,List.set_cons_zero]
        go_wp2_with (at_builtin;refine wpList_app_src rfl (.tmp 87) (.tmp 94) _ rfl base 28 i28 _ 7 104 Tryz.underlying22 HI.out HZ.out HS.out HB.out rfl (by decide) (.slice xa E.length xc) E.length (flat E) rfl S6.out.row.own (.slice (some ⟨g,0,none⟩) 1 1) 1 (tmCells r (.slice x1 x2 x3) (.slice y1 y2 y3)) rfl (.inr ⟨_,_,rfl,newsT HBK.out⟩) rfl oneT ?_ ?_ ?_ ?_)
        ·have:=HEL.out;unfold maxLen;omega
        ·have:=HEL.out;omega
        ·exact S6.out.ho.2.2
        intro v8 w8 own8 hg8 hat8
        have R8:=Ld (RowT.app2 (F:=[(r,.slice x1 x2 x3,.slice y1 y2 y3)]) (by have:=S6.out.ho;omega) S6.out.row HEL6.out (by show w8.ownsRow base 28 7 v8 (E.length+1) (flat E++(tmCells r (.slice x1 x2 x3) (.slice y1 y2 y3)++[]));rw[List.append_nil];exact own8) hg8 hat8)
        have S8:=Ld (RpS.step S6.out hg8 R8.out)
        obtain⟨xa8,xn8,xc8,hv8⟩:=R8.out.tml.slice
        subst hv8
        have gO8:=S8.out.1.cell
        have fO8:=S8.out.1.frozen
        clear own8 hg8 hat8 S6 HBK HEL6 R8 HI HZ HS HB
        go_wp2_with fail
        go_roundw
        case rel=>exact⟨k+1,_,_,_,by omega,by go_num,S8.out.2,by have:=HEL.out;simp;omega,Ld (by rw[List.map_append,List.append_assoc];exact HNX.out)⟩
        case measure=>simp[intOf];omega
      ·have HBK:Hid (binderB op=true∧k=1):=Ld (by rw[Bool.and_eq_true,beq_iff_eq] at hcb;exact hcb)
       have HZN:Hid (z=nm):=Ld (HN0.out.2 (by have:=HBK.out.2;omega))
       have HRT:Hid (rrT fm tu (fr fm) (fr tu) f (binderB op) nm k y=(if mb nm (fr fm) then y else repF fm tu (fr fm) (fr tu) f (repB fm (fr fm) (fr tu) nm y))∧rrZ1 fm (fr fm) (fr tu) (binderB op) nm k z y=(if mb nm (fr fm) then z else repZ fm (fr fm) (fr tu) nm y)):=Ld (by unfold rrT rrZ1;rw[hcb];exact⟨rfl,rfl⟩)
       have gA:=SY.out.s.a.cell
       clear hcb
       go_wp2_with fail
       clear gA
       refine (HIN1.out wY SY.out.s.row.kp).mono ?_
       rintro e w5' ⟨rfl,rfl⟩
       cases hm1:mb nm (fr fm)
       ·have HRQ:Hid (rrT fm tu (fr fm) (fr tu) f (binderB op) nm k y=repF fm tu (fr fm) (fr tu) f (repB fm (fr fm) (fr tu) nm y)∧rrZ1 fm (fr fm) (fr tu) (binderB op) nm k z y=repZ fm (fr fm) (fr tu) nm y):=Ld (by have h:=HRT.out;rw[hm1] at h;exact h)
        clear hm1 HRT
        go_upto_region 11 with (fail)
        obtain⟨gv,hgv⟩:∃ gv,gv=(mb nm (fr tu)&&occT fm (fr fm) y):=⟨_,rfl⟩
        have HGV:=Ld hgv
        clear hgv
        go_cut [68] (fun v wd=>v=.bool gv∧Kept (fun _=>False) wY wd)
        case first=>
         have gA:=SY.out.s.a.cell
         have HOC:=Ld (roc_any (ok_bd HQ.out.1) fm (fr fm) wY (fun q=>q<w.heap.size) okf okn _ _ _ _ _ HYT.out HYM.out (HEK.out wY SY.out.s.row.kp).f1 (HEK.out wY SY.out.s.row.kp).f2 (HEK.out wY SY.out.s.row.kp).n1 (by have:=HLEN.out;omega) (by have:=HQ.out;omega) (by have:=HQ.out;omega))
         unfold tmVal at HOC
         go_wp2_with fail
         refine (HIN2.out wY SY.out.s.row.kp).mono ?_
         rintro e w6' ⟨rfl,rfl⟩
         cases hm2:mb nm (fr tu)
         ·have HE:Hid (gv=false):=Ld (by rw[HGV.out,hm2];rfl)
          go_wp2_with fail
          go_meet
          case rel=>exact⟨by rw[HE.out],Kept.refl _ _⟩
         ·have HE:Hid (gv=occT fm (fr fm) y):=Ld (by rw[HGV.out,hm2];rfl)
          rw[← HE.out] at HOC
          have gY:=SY.out.y.cell
          have gF:∀ i,wY.cell? ⟨w.heap.size+1,i,none⟩=[Value.int .i64 fm.op,.string fm.name,.int .i64 fm.n,.int .i64 fm.ty.kind,.string fm.ty.name,.slice fp fn fc,.slice fa fq fr0][i]?:=SY.out.s.f.cell
          clear gA
          go_wp2_with fail
          refine HOC.out.mono ?_
          rintro e w6 ⟨rfl,k6⟩
          have K6:=Ld k6
          clear gY gF k6
          go_wp2_with fail
          go_meet
          case rel=>exact⟨rfl,K6.out⟩
        case rest=>
         obtain⟨rfl,k6⟩:=hcut
         generalize wc=w6 at *
         have S6:=Ld (SY.out.kept k6)
         have HT6:=Ld (HYT.out.frame (sK k6))
         have HM6:=Ld (HYM.out.frame (sK k6))
         clear k6 SY HYT HYM
         go_upto_if 68 with (fail)
         go_cut [] (fun wd=>∃ z' y' b1 b2 b3 b4 b5 b6,RpY w [Value.int .i64 op,.string nm,.int .i64 N,.int .i64 ty.kind,.string ty.name,.slice a an ac,.slice (some ⟨q1,o1,none⟩) ks.length mc] [Value.int .i64 fm.op,.string fm.name,.int .i64 fm.n,.int .i64 fm.ty.kind,.string fm.ty.name,.slice fp fn fc,.slice fa fq fr0] [Value.int .i64 tu.op,.string tu.name,.int .i64 tu.n,.int .i64 tu.ty.kind,.string tu.ty.name,.slice up un uc,.slice ua uq uv] op z' N ty (.slice va vn vc) O base E Y [Value.int .i64 y'.op,.string y'.name,.int .i64 y'.n,.int .i64 y'.ty.kind,.string y'.ty.name,.slice b1 b2 b3,.slice b4 b5 b6] wd (.slice xa E.length xc)∧TyL (fun _=>True) wd y'.ty.kids (.slice b1 b2 b3)∧TmL (fun _=>True) wd y'.kids (.slice b4 b5 b6)∧Hid ((OkTm y'∧tmD y'≤f∧tmN y'≤100000∧tmD y'≤90000)∧repB fm (fr fm) (fr tu) nm y=y'∧repZ fm (fr fm) (fr tu) nm y=z'))
         case first=>
          cases gv
          case false=>
           have HKE:=Ld (rr_keep HGV.out.symm)
           go_wp2_with fail
           go_meet
           case rel=>exact⟨z,y,_,_,_,_,_,_,S6.out,HT6.out.mono (fun _ _ _=>trivial),HM6.out.mono (fun _ _ _=>trivial),Ld ⟨HQ.out,HKE.out.2,by rw[HKE.out.1,HZN.out]⟩⟩
          case true=>
           have HNEW:=Ld (rr_new (fm:=fm) (HEK.out w kR).okt (HEK.out w kR).un.1 HQ.out.1 HQ.out.2.2.1 (HKN.out.2.2.1 HBK.out.1) (Bool.and_eq_true _ _ |>.mp HGV.out.symm).1 (Bool.and_eq_true _ _ |>.mp HGV.out.symm).2)
           obtain⟨zn,y',hzn,hy',hez,heb,hoy,hny,hdy⟩:=HNEW.out
           have HF2:=Ld (⟨⟨hoy,by have:=HQ.out;omega,by have:=HQ.out;omega,by have:=HQ.out;omega⟩,heb,hez⟩:(OkTm y'∧tmD y'≤f∧tmN y'≤100000∧tmD y'≤90000)∧repB fm (fr fm) (fr tu) nm y=y'∧repZ fm (fr fm) (fr tu) nm y=zn)
           have HYE:=Ld hy'
           have HLN:Hid ((fr y).length≤100000∧(fr y).length+(fr tu).length≤200000):=Ld (by have h3:=frs_len y;have:=HQ.out;have:=HLEN.out;omega)
           have HFR:=Ld (fun W (vN:Value) (okN:Nat→Prop) (hN:NmL okN W (fr y++fr tu) vN)=>rfresh_any nm hN (by rw[List.length_append];have:=HLN.out;omega) HKN.out.2.2.2.1)
           rw[← hzn] at HFR
           have HRF:=Ld (fun W (k:Kept (fun _=>False) w6 W)=>rfree_any (ok_bd HQ.out.1) [] W (fun q=>q<w.heap.size) (fun _=>True) _ _ _ (HT6.out.frame (sK k)) (HM6.out.frame (sK k)) .nil (by have:=HQ.out;simp;omega) (by have:=HQ.out;omega))
           rw[frL_nil] at HRF
           unfold tmVal at HRF
           have HSR:=Ld (fun W (k:Kept (fun _=>False) w6 W)=>((HEK.out W (S6.out.s.row.kp.trans k)).n2).src)
           have HRS1:=Ld (fun W (g:Nat) (tk kk:Value) (ok3:Nat→Prop) (h1:TyL ok3 W y.ty.kids tk) (h2:TmL ok3 W y.kids kk) (hb:Blk W g 53 (bCells ((nm,nameT zn),.slice none 0 0,.slice none 0 0)))=>rsub_1 HQ.out.1 HQ.out.2.2.1 HQ.out.2.2.2 h1 h2 hb)
           rw[← HYE.out] at HRS1
           unfold PutP tmVal at HRS1
           clear HNEW hzn hy' hez heb hoy hny hdy HYE
           generalize fr y=FY at *
           obtain⟨i9,hi9,hz9,hs9,hb9⟩:=info_str
           have HI9:=Ld hi9
           have HZ9:=Ld hz9
           have HS9:=Ld hs9
           have HB9:=Ld hb9
           clear hi9 hz9 hs9 hb9
           have a1:w6.cell? ⟨w.heap.size,1,none⟩=some (.string nm):=S6.out.s.a.cell 1
           have gY:=S6.out.y.cell
           go_upto_region 12 with (fail)
           have KD:Kept (fun _=>False) w6 (World.drew w6):=kR.drew
           go_region_law (first
            | (refine step_app_src rfl (.tmp 72) (.tmp 73) _ rfl w6.heap.size 9 i9 _ 1 16 Tryz.underlying41 HI9.out HZ9.out HS9.out HB9.out rfl (by decide) (.slice za FY.length zc) FY.length (FY.map Value.string) rfl H3.out.own (.slice da (fr tu).length dc) (fr tu).length ((fr tu).map Value.string) rfl N3.out (by simp) (strs_one _) (by have:=HLN.out;unfold maxLen;omega) (by have:=HLN.out;omega) H3.out.kp.size ?_;intro v8 w8 own8 hg8 hat8;have R8:=Ld (NRow.app H3.out (Nat.le_refl _) own8 hg8);have HN8:=Ld R8.out.nml;have a8:w8.cell? ⟨w.heap.size,1,none⟩=some (.string nm):=(S6.out.s.a.kept (KD.trans R8.out.kp) (fun h=>h)).cell 1;clear own8 hg8 hat8)
            | (go_simp;go_at_call 88;refine (HRF.out _ KD).mono ?_;rintro e w3 ⟨v3,rfl,h3⟩;obtain⟨za,zc,hv3⟩:=h3.nml.slice;subst hv3;have H3:=Ld h3;have a3:w3.cell? ⟨w.heap.size,1,none⟩=some (.string nm):=(S6.out.s.a.kept (KD.trans h3.kp) (fun h=>h)).cell 1;have N3:=Ld (HSR.out w3 (KD.trans h3.kp));clear h3)
            | (go_simp;go_at_call 123;refine (HFR.out _ _ _ HN8.out).mono ?_;rintro e w9 ⟨rfl,k9⟩;have K9:=Ld ((KD.trans R8.out.kp).trans k9);have S9:=Ld (S6.out.kept K9.out);have gO9:∀ i,w9.cell? ⟨O,i,none⟩=[Value.int .i64 op,.string z,.int .i64 N,.int .i64 ty.kind,.string ty.name,.slice va vn vc,.slice xa E.length xc][i]?:=S9.out.s.o.cell;have fO9:∀ i,w9.frozen? ⟨O,i,none⟩=false:=S9.out.s.o.frozen;have lO9:=S9.out.s.o.lt))
           all_goals
            have T9:=Ld (S9.out.name zn)
            have KO:Kept (fun q=>q=O) w9 (w9.setCell ⟨O,1,none⟩ (.string zn)):=(Kept.refl (fun q=>q=O) w9).setCell (p:=⟨O,1,none⟩) (Or.inl rfl) _
            have HT9:=Ld ((HT6.out.frame (sK K9.out)).frame (Same.of_kept KO (fun q hq e=>by have:=S9.out.s.ho;omega)))
            have HM9:=Ld ((HM6.out.frame (sK K9.out)).frame (Same.of_kept KO (fun q hq e=>by have:=S9.out.s.ho;omega)))
            clear gO9 fO9 a1 a3 a8 gY S9 K9 N3 H3 R8 HN8 HSR HFR HRF k9 KD KO S6 HT6 HM6
            generalize w9.setCell ⟨O,1,none⟩ (.string zn)=w10 at *
            have gA:=T9.out.s.a.cell
            have gO:∀ i,w10.cell? ⟨O,i,none⟩=[Value.int .i64 op,.string zn,.int .i64 N,.int .i64 ty.kind,.string ty.name,.slice va vn vc,.slice xa E.length xc][i]?:=T9.out.s.o.cell
            have gY:∀ i,w10.cell? ⟨Y,i,none⟩=[Value.int .i64 y.op,.string y.name,.int .i64 y.n,.int .i64 y.ty.kind,.string y.ty.name,.slice ta tn tc,.slice pa pn pc][i]?:=T9.out.y.cell
            have HS2:=Ld (HRS1.out (w10.alloc (.cells (bCells ((nm,nameT zn),.slice none 0 0,.slice none 0 0)).toArray 53)) w10.heap.size _ _ _ (HT9.out.frame (Same.alloc _ _)) (HM9.out.frame (Same.alloc _ _)) (Blk.new w10 53 (bCells ((nm,nameT zn),.slice none 0 0,.slice none 0 0))))
            have LY10:=Ld T9.out.y.lt
            clear HT9 HM9 HRS1
            go_wp2_with fail
            clear gA gO gY
            refine HS2.out.mono ?_
            rintro e w12 ⟨tk,kk,rfl,hty,htm,k12⟩
            obtain⟨x1,x2,x3,rfl⟩:=hty.slice
            obtain⟨y1,y2,y3,rfl⟩:=htm.slice
            have T12:=Ld ((T9.out.kept (kR.alloc _)).kept k12)
            have HTN:=Ld hty
            have HMN:=Ld htm
            have gY:∀ i,w12.cell? ⟨Y,i,none⟩=[Value.int .i64 y.op,.string y.name,.int .i64 y.n,.int .i64 y.ty.kind,.string y.ty.name,.slice ta tn tc,.slice pa pn pc][i]?:=T12.out.y.cell
            have fY:=T12.out.y.frozen
            have lY:=T12.out.y.lt
            clear hty htm k12 HS2 T9
            go_wp2_with fail
            go_meet
            case rel=>exact⟨zn,y',_,_,_,_,_,_,T12.out.put (k7w kR (Or.inl rfl)) (r7 T12.out.y rfl),(HTN.out.frame (set7 (fun q hq=>by have h5:=LY10.out;have h6:(w10.alloc (.cells (bCells ((nm,nameT zn),.slice none 0 0,.slice none 0 0)).toArray 53)).heap.size≤q:=hq;rw[World.size_alloc] at h6;omega))).mono (fun _ _ _=>trivial),(HMN.out.frame (set7 (fun q hq=>by have h5:=LY10.out;have h6:(w10.alloc (.cells (bCells ((nm,nameT zn),.slice none 0 0,.slice none 0 0)).toArray 53)).heap.size≤q:=hq;rw[World.size_alloc] at h6;omega))).mono (fun _ _ _=>trivial),HF2⟩
         case rest=>
          obtain⟨z',y',b1,b2,b3,b4,b5,b6,hSY,hYT,hYM,hFF⟩:=hcut
          generalize wc=wZ at *
          have SY:=Ld hSY
          have HYT:=Ld hYT
          have HYM:=Ld hYM
          have HQ:=Ld hFF.out.1
          have HNX:Hid (res=.mk op (rrZ fm (fr fm) (fr tu) (binderB op) nm (k+1) z' (ks.drop (k+1))) N ty (E.map (·.1)++(repF fm tu (fr fm) (fr tu) f y'::rrK fm tu (fr fm) (fr tu) f (binderB op) nm (k+1) (ks.drop (k+1))))∧(k+1≤1→z'=nm)):=Ld (by
           have h:=HN0.out
           rw[HRQ.out.1,HRQ.out.2,hFF.out.2.1,hFF.out.2.2] at h
           exact⟨h.1,fun e=>by have:=HBK.out.2;omega⟩)
          clear hSY hYT hYM hFF S6 HT6 HM6 HN0 HRQ HGV HZN HBK
          go_upto_region 14 with (fail)
          have KD:Kept (fun _=>False) wZ (World.drew wZ):=kR.drew
          have HCA:=Ld (fun W (k:Kept (fun _=>False) wZ W)=>HIH.out y' _ _ _ W (SY.out.s.row.kp.trans k) HQ.out (HYT.out.frame (sK k)) (HYM.out.frame (sK k)))
          obtain⟨r,hr⟩:∃ r,r=repF fm tu (fr fm) (fr tu) f y':=⟨_,rfl⟩
          rw[← hr] at HCA HNX
          clear hr
          refine wp_region_mono (L:=Kept (fun _=>False)) (fun i v W=>match i with
                  | 0=>v=.pointer (some ⟨O,6,none⟩)
                  | 1=>v=.slice xa E.length xc
                  | 2=>v=.agg #[.int .i64 y'.op,.string y'.name,.int .i64 y'.n,.int .i64 y'.ty.kind,.string y'.ty.name,.slice b1 b2 b3,.slice b4 b5 b6]
                  | 3=>v=.agg #[.int .i64 fm.op,.string fm.name,.int .i64 fm.n,.int .i64 fm.ty.kind,.string fm.ty.name,.slice fp fn fc,.slice fa fq fr0]
                  | 4=>v=.agg #[.int .i64 tu.op,.string tu.name,.int .i64 tu.n,.int .i64 tu.ty.kind,.string tu.ty.name,.slice up un uc,.slice ua uq uv]
                  | 5=>v=.slice na (fr fm).length nc
                  | 6=>v=.slice da (fr tu).length dc
                  | 7=>∃ x1 x2 x3 y1 y2 y3,v=.agg #[.int .i64 r.op,.string r.name,.int .i64 r.n,.int .i64 r.ty.kind,.string r.ty.name,.slice x1 x2 x3,.slice y1 y2 y3]∧TyL (fun q=>wZ.heap.size≤q) W r.ty.kids (.slice x1 x2 x3)∧TmL (fun q=>wZ.heap.size≤q) W r.kids (.slice y1 y2 y3)
                  | 8=>∃ g x1 x2 x3 y1 y2 y3,v=.slice (some ⟨g,0,none⟩) 1 1∧Blk W g 28 (tmCells r (.slice x1 x2 x3) (.slice y1 y2 y3))∧TyL (fun q=>wZ.heap.size≤q) W r.ty.kids (.slice x1 x2 x3)∧TmL (fun q=>wZ.heap.size≤q) W r.kids (.slice y1 y2 y3)
                  | _=>True) [9,10,11] [] 98 (by kernel_rfl) rfl (by kernel_rfl) (by kernel_rfl) (fun w=>Kept.refl _ w) (fun _ _ _ h1 h2=>h1.trans h2) (fun c d v a w h=>by cases d <;> exact h) ?_ ?_
          ·refine allM_cons rfl (stepM_of [] rfl fun W k'=>allV_nil ?_) ?_
           ·refine opW_go rfl fun K hK=>?_
            go_simp
            exact hK _ _ (KT.mk kR rfl 86 rfl rfl)
           refine allM_cons rfl (stepM_of [0] rfl fun W k'=>allV_some 86 rfl fun v0 h0=>allV_nil ?_) ?_
           ·obtain⟨w1,k1,rfl⟩:=h0
            have q:=KD.trans k'
            have gO:=((SY.out.s.kept q).o).cell
            refine opW_go rfl fun K hK=>?_
            go_simp
            exact hK _ _ (KT.mk kR rfl 87 rfl rfl)
           refine allM_cons rfl (stepM_of [] rfl fun W k'=>allV_nil ?_) ?_
           ·have q:=KD.trans k'
            have gY:∀ i,W.cell? ⟨Y,i,none⟩=[Value.int .i64 y'.op,.string y'.name,.int .i64 y'.n,.int .i64 y'.ty.kind,.string y'.ty.name,.slice b1 b2 b3,.slice b4 b5 b6][i]?:=((SY.out.kept q).y).cell
            refine opW_go rfl fun K hK=>?_
            go_simp
            exact hK _ _ (KT.mk kR rfl 88 rfl rfl)
           refine allM_cons rfl (stepM_of [] rfl fun W k'=>allV_nil ?_) ?_
           ·have q:=KD.trans k'
            have gF:∀ i,W.cell? ⟨w.heap.size+1,i,none⟩=[Value.int .i64 fm.op,.string fm.name,.int .i64 fm.n,.int .i64 fm.ty.kind,.string fm.ty.name,.slice fp fn fc,.slice fa fq fr0][i]?:=((SY.out.s.kept q).f).cell
            refine opW_go rfl fun K hK=>?_
            go_simp
            exact hK _ _ (KT.mk kR rfl 89 rfl rfl)
           refine allM_cons rfl (stepM_of [] rfl fun W k'=>allV_nil ?_) ?_
           ·have q:=KD.trans k'
            have gU:∀ i,W.cell? ⟨w.heap.size+2,i,none⟩=[Value.int .i64 tu.op,.string tu.name,.int .i64 tu.n,.int .i64 tu.ty.kind,.string tu.ty.name,.slice up un uc,.slice ua uq uv][i]?:=((SY.out.s.kept q).t).cell
            refine opW_go rfl fun K hK=>?_
            go_simp
            exact hK _ _ (KT.mk kR rfl 90 rfl rfl)
           refine allM_cons rfl (stepM_of [] rfl fun W k'=>allV_nil ?_) ?_
           ·refine opW_go rfl fun K hK=>?_
            go_simp
            exact hK _ _ (KT.mk kR rfl 91 rfl rfl)
           refine allM_cons rfl (stepM_of [] rfl fun W k'=>allV_nil ?_) ?_
           ·refine opW_go rfl fun K hK=>?_
            go_simp
            exact hK _ _ (KT.mk kR rfl 92 rfl rfl)
           refine allM_cons rfl (stepM_of [2,3,4,5,6] rfl fun W k'=>allV_some 88 rfl fun v0 h0=>allV_some 89 rfl fun v1 h1=>allV_some 90 rfl fun v2 h2=>allV_some 91 rfl fun v3 h3=>allV_some 92 rfl fun v4 h4=>allV_nil ?_) ?_
           ·obtain⟨w1,k1,rfl⟩:=h0
            obtain⟨w2,k2,rfl⟩:=h1
            obtain⟨w3,k3,rfl⟩:=h2
            obtain⟨w4,k4,rfl⟩:=h3
            obtain⟨w5,k5,rfl⟩:=h4
            refine opW_go rfl fun K hK=>?_
            go_simp
            go_at_call 91
            have q:=KD.trans k'
            refine (HCA.out W q).mono ?_
            rintro e w' ⟨tk,kk,rfl,q1,q2,k7⟩
            obtain⟨x1,x2,x3,rfl⟩:=q1.slice
            obtain⟨y1,y2,y3,rfl⟩:=q2.slice
            exact hK _ _ (KT.mk k7 rfl 93 rfl ⟨x1,x2,x3,y1,y2,y3,rfl,q1.mono (fun _ _ hq=>Nat.le_trans q.size hq),q2.mono (fun _ _ hq=>Nat.le_trans q.size hq)⟩)
           refine allM_cons rfl (stepM_of [7] rfl fun W k'=>allV_some 93 rfl fun v0 h0=>allV_nil ?_) ?_
           ·obtain⟨w1,k1,x1,x2,x3,y1,y2,y3,rfl,q1,q2⟩:=h0
            refine opW_go rfl fun K hK=>?_
            go_simp
            exact hK _ _ (KT.mk (kR.alloc _) rfl 94 rfl ⟨_,x1,x2,x3,y1,y2,y3,rfl,Blk.new W 28 (tmCells r (.slice x1 x2 x3) (.slice y1 y2 y3)),(q1.frame (sK k1)).frame (Same.alloc _ _),(q2.frame (sK k1)).frame (Same.alloc _ _)⟩)
           refine allM_tail rfl ?_
           refine allM_tail rfl ?_
           refine allM_tail rfl ?_
           exact allM_nil
          ·intro W kW
           have hh:(List.range 12).filter (fun i=>!([9,10,11]:List Nat).contains i)=[0,1,2,3,4,5,6,7,8]:=by decide
           change allV _ _ _ _ _ ((List.range 12).filter (fun i=>!([9,10,11]:List Nat).contains i)) _
           rw[hh]
           generalize hKK:(fun a1=>wpList Tryz.prog _ _ (pickT [9,10,11] 0 _) a1 W)=KK
           refine allV_some 86 (by kernel_rfl) ?_
           intro v0 h0
           refine allV_some 87 (by kernel_rfl) ?_
           intro v1 h1
           refine allV_some 88 (by kernel_rfl) ?_
           intro v2 h2
           refine allV_some 89 (by kernel_rfl) ?_
           intro v3 h3
           refine allV_some 90 (by kernel_rfl) ?_
           intro v4 h4
           refine allV_some 91 (by kernel_rfl) ?_
           intro v5 h5
           refine allV_some 92 (by kernel_rfl) ?_
           intro v6 h6
           refine allV_some 93 (by kernel_rfl) ?_
           intro v7 h7
           refine allV_some 94 (by kernel_rfl) ?_
           intro v8 h8
           refine allV_nil ?_
           obtain⟨w0,k0,rfl⟩:=h0
           obtain⟨w1,k1,rfl⟩:=h1
           clear h2
           clear h3
           clear h4
           clear h5
           clear h6
           clear h7
           obtain⟨w8,k8,g,x1,x2,x3,y1,y2,y3,rfl,hb,q1,q2⟩:=h8
           subst hKK
           have KW:Kept (fun _=>False) wZ W:=KD.trans kW
           have S6:=Ld (SY.out.s.kept KW)
           have HBK:=Ld (hb.kept k8 (fun h=>h))
           have HEL6:Hid (EL (okb base (.slice xa E.length xc)) W [(r,.slice x1 x2 x3,.slice y1 y2 y3)]):=Ld (fun e he=>by
            rw[List.mem_singleton.1 he]
            have hz:=SY.out.s.ho.2.2
            exact⟨(q1.frame (sK k8)).mono (fun q _ hq=>⟨Nat.le_trans hz hq,fun e=>by have h7:=(SY.out.s.row.own.lt q e).2;have h8:wZ.heap.size≤q:=hq;omega⟩),(q2.frame (sK k8)).mono (fun q _ hq=>⟨Nat.le_trans hz hq,fun e=>by have h7:=(SY.out.s.row.own.lt q e).2;have h8:wZ.heap.size≤q:=hq;omega⟩)⟩)
           obtain⟨i28,hi28,hz28,hs28,hb28⟩:=info_tm
           have HI:=Ld hi28
           have HZ:=Ld hz28
           have HS:=Ld hs28
           have HB:=Ld hb28
           clear hb q1 q2 KW KD kW hh hi28 hz28 hs28 hb28 SY
           show wpList Tryz.prog _ _ [_,_,_] _ W
           simp only[Act.put,List.setIfInBounds_toArray,List.set_cons_succ,List.set_cons_zero]
           go_wp2_with (at_builtin;refine wpList_app_src rfl (.tmp 87) (.tmp 94) _ rfl base 28 i28 _ 7 104 Tryz.underlying22 HI.out HZ.out HS.out HB.out rfl (by decide) (.slice xa E.length xc) E.length (flat E) rfl S6.out.row.own (.slice (some ⟨g,0,none⟩) 1 1) 1 (tmCells r (.slice x1 x2 x3) (.slice y1 y2 y3)) rfl (.inr ⟨_,_,rfl,newsT HBK.out⟩) rfl oneT ?_ ?_ ?_ ?_)
           ·have:=HEL.out;unfold maxLen;omega
           ·have:=HEL.out;omega
           ·exact S6.out.ho.2.2
           intro v8 w8 own8 hg8 hat8
           have R8:=Ld (RowT.app2 (F:=[(r,.slice x1 x2 x3,.slice y1 y2 y3)]) (by have:=S6.out.ho;omega) S6.out.row HEL6.out (by show w8.ownsRow base 28 7 v8 (E.length+1) (flat E++(tmCells r (.slice x1 x2 x3) (.slice y1 y2 y3)++[]));rw[List.append_nil];exact own8) hg8 hat8)
           have S8:=Ld (RpS.step S6.out hg8 R8.out)
           obtain⟨xa8,xn8,xc8,hv8⟩:=R8.out.tml.slice
           subst hv8
           have gO8:=S8.out.1.cell
           have fO8:=S8.out.1.frozen
           clear own8 hg8 hat8 S6 HBK HEL6 R8 HI HZ HS HB
           go_wp2_with fail
           go_roundw
           case rel=>exact⟨k+1,_,_,_,by omega,by go_num,S8.out.2,by have:=HEL.out;simp;omega,Ld (by rw[List.map_append,List.append_assoc];exact HNX.out)⟩
           case measure=>simp[intOf];omega
       ·have HNX:Hid (res=.mk op (rrZ fm (fr fm) (fr tu) (binderB op) nm (k+1) z (ks.drop (k+1))) N ty (E.map (·.1)++(y::rrK fm tu (fr fm) (fr tu) f (binderB op) nm (k+1) (ks.drop (k+1))))∧(k+1≤1→z=nm)):=Ld (by
         have h:=HN0.out
         have e1:=HRT.out.1
         have e2:=HRT.out.2
         rw[hm1] at e1 e2
         simp only[if_true] at e1 e2
         rw[e1,e2] at h
         exact⟨h.1,fun e=>h.2 (by omega)⟩)
        clear hm1 HN0 HRT HBK HZN
        go_upto_region 10 with (fail)
        have KD:Kept (fun _=>False) wY (World.drew wY):=kR.drew
        have HCA:=Ld (fun W (k:Kept (fun _=>False) wY W)=>rcopy_put (ok_bd HQ.out.1) (HYT.out.frame (sK k)) (HYM.out.frame (sK k)))
        unfold PutP tmVal at HCA
        refine wp_region_mono (L:=Kept (fun _=>False)) (fun i v W=>match i with
                | 0=>v=.pointer (some ⟨O,6,none⟩)
                | 1=>v=.slice xa E.length xc
                | 2=>v=.agg #[.int .i64 y.op,.string y.name,.int .i64 y.n,.int .i64 y.ty.kind,.string y.ty.name,.slice ta tn tc,.slice pa pn pc]
                | 3=>∃ x1 x2 x3 y1 y2 y3,v=.agg #[.int .i64 y.op,.string y.name,.int .i64 y.n,.int .i64 y.ty.kind,.string y.ty.name,.slice x1 x2 x3,.slice y1 y2 y3]∧TyL (fun q=>wY.heap.size≤q) W y.ty.kids (.slice x1 x2 x3)∧TmL (fun q=>wY.heap.size≤q) W y.kids (.slice y1 y2 y3)
                | 4=>∃ g x1 x2 x3 y1 y2 y3,v=.slice (some ⟨g,0,none⟩) 1 1∧Blk W g 28 (tmCells y (.slice x1 x2 x3) (.slice y1 y2 y3))∧TyL (fun q=>wY.heap.size≤q) W y.ty.kids (.slice x1 x2 x3)∧TmL (fun q=>wY.heap.size≤q) W y.kids (.slice y1 y2 y3)
                | _=>True) [5,6,7] [] 98 (by kernel_rfl) rfl (by kernel_rfl) (by kernel_rfl) (fun w=>Kept.refl _ w) (fun _ _ _ h1 h2=>h1.trans h2) (fun c d v a w h=>by cases d <;> exact h) ?_ ?_
        ·refine allM_cons rfl (stepM_of [] rfl fun W k'=>allV_nil ?_) ?_
         ·refine opW_go rfl fun K hK=>?_
          go_simp
          exact hK _ _ (KT.mk kR rfl 52 rfl rfl)
         refine allM_cons rfl (stepM_of [0] rfl fun W k'=>allV_some 52 rfl fun v0 h0=>allV_nil ?_) ?_
         ·obtain⟨w1,k1,rfl⟩:=h0
          have q:=KD.trans k'
          have gO:=((SY.out.s.kept q).o).cell
          refine opW_go rfl fun K hK=>?_
          go_simp
          exact hK _ _ (KT.mk kR rfl 53 rfl rfl)
         refine allM_cons rfl (stepM_of [] rfl fun W k'=>allV_nil ?_) ?_
         ·have q:=KD.trans k'
          have gY:∀ i,W.cell? ⟨Y,i,none⟩=[Value.int .i64 y.op,.string y.name,.int .i64 y.n,.int .i64 y.ty.kind,.string y.ty.name,.slice ta tn tc,.slice pa pn pc][i]?:=((SY.out.kept q).y).cell
          refine opW_go rfl fun K hK=>?_
          go_simp
          exact hK _ _ (KT.mk kR rfl 54 rfl rfl)
         refine allM_cons rfl (stepM_of [2] rfl fun W k'=>allV_some 54 rfl fun v0 h0=>allV_nil ?_) ?_
         ·obtain⟨w1,k1,rfl⟩:=h0
          refine opW_go rfl fun K hK=>?_
          go_simp
          go_at_call 42
          have q:=KD.trans k'
          refine (HCA.out W q).mono ?_
          rintro e w' ⟨tk,kk,rfl,q1,q2,k7⟩
          obtain⟨x1,x2,x3,rfl⟩:=q1.slice
          obtain⟨y1,y2,y3,rfl⟩:=q2.slice
          exact hK _ _ (KT.mk k7 rfl 55 rfl ⟨x1,x2,x3,y1,y2,y3,rfl,q1.mono (fun _ _ hq=>Nat.le_trans q.size hq),q2.mono (fun _ _ hq=>Nat.le_trans q.size hq)⟩)
         refine allM_cons rfl (stepM_of [3] rfl fun W k'=>allV_some 55 rfl fun v0 h0=>allV_nil ?_) ?_
         ·obtain⟨w1,k1,x1,x2,x3,y1,y2,y3,rfl,q1,q2⟩:=h0
          refine opW_go rfl fun K hK=>?_
          go_simp
          exact hK _ _ (KT.mk (kR.alloc _) rfl 56 rfl ⟨_,x1,x2,x3,y1,y2,y3,rfl,Blk.new W 28 (tmCells y (.slice x1 x2 x3) (.slice y1 y2 y3)),(q1.frame (sK k1)).frame (Same.alloc _ _),(q2.frame (sK k1)).frame (Same.alloc _ _)⟩)
         refine allM_tail rfl ?_
         refine allM_tail rfl ?_
         refine allM_tail rfl ?_
         exact allM_nil
        ·intro W kW
         have hh:(List.range 8).filter (fun i=>!([5,6,7]:List Nat).contains i)=[0,1,2,3,4]:=by decide
         change allV _ _ _ _ _ ((List.range 8).filter (fun i=>!([5,6,7]:List Nat).contains i)) _
         rw[hh]
         generalize hKK:(fun a1=>wpList Tryz.prog _ _ (pickT [5,6,7] 0 _) a1 W)=KK
         refine allV_some 52 (by kernel_rfl) ?_
         intro v0 h0
         refine allV_some 53 (by kernel_rfl) ?_
         intro v1 h1
         refine allV_some 54 (by kernel_rfl) ?_
         intro v2 h2
         refine allV_some 55 (by kernel_rfl) ?_
         intro v3 h3
         refine allV_some 56 (by kernel_rfl) ?_
         intro v4 h4
         refine allV_nil ?_
         obtain⟨w0,k0,rfl⟩:=h0
         obtain⟨w1,k1,rfl⟩:=h1
         clear h2
         clear h3
         obtain⟨w4,k4,g,x1,x2,x3,y1,y2,y3,rfl,hb,q1,q2⟩:=h4
         subst hKK
         have KW:Kept (fun _=>False) wY W:=KD.trans kW
         have S6:=Ld (SY.out.s.kept KW)
         have HBK:=Ld (hb.kept k4 (fun h=>h))
         have HEL6:Hid (EL (okb base (.slice xa E.length xc)) W [(y,.slice x1 x2 x3,.slice y1 y2 y3)]):=Ld (fun e he=>by
          rw[List.mem_singleton.1 he]
          have hz:=SY.out.s.ho.2.2
          exact⟨(q1.frame (sK k4)).mono (fun q _ hq=>⟨Nat.le_trans hz hq,fun e=>by have h7:=(SY.out.s.row.own.lt q e).2;have h8:wY.heap.size≤q:=hq;omega⟩),(q2.frame (sK k4)).mono (fun q _ hq=>⟨Nat.le_trans hz hq,fun e=>by have h7:=(SY.out.s.row.own.lt q e).2;have h8:wY.heap.size≤q:=hq;omega⟩)⟩)
         obtain⟨i28,hi28,hz28,hs28,hb28⟩:=info_tm
         have HI:=Ld hi28
         have HZ:=Ld hz28
         have HS:=Ld hs28
         have HB:=Ld hb28
         clear hb q1 q2 KW KD kW hh hi28 hz28 hs28 hb28 SY
         show wpList Tryz.prog _ _ [_,_,_] _ W
         simp only[Act.put,List.setIfInBounds_toArray,List.set_cons_succ,List.set_cons_zero]
         go_wp2_with (at_builtin;refine wpList_app_src rfl (.tmp 53) (.tmp 56) _ rfl base 28 i28 _ 7 104 Tryz.underlying22 HI.out HZ.out HS.out HB.out rfl (by decide) (.slice xa E.length xc) E.length (flat E) rfl S6.out.row.own (.slice (some ⟨g,0,none⟩) 1 1) 1 (tmCells y (.slice x1 x2 x3) (.slice y1 y2 y3)) rfl (.inr ⟨_,_,rfl,newsT HBK.out⟩) rfl oneT ?_ ?_ ?_ ?_)
         ·have:=HEL.out;unfold maxLen;omega
         ·have:=HEL.out;omega
         ·exact S6.out.ho.2.2
         intro v8 w8 own8 hg8 hat8
         have R8:=Ld (RowT.app2 (F:=[(y,.slice x1 x2 x3,.slice y1 y2 y3)]) (by have:=S6.out.ho;omega) S6.out.row HEL6.out (by show w8.ownsRow base 28 7 v8 (E.length+1) (flat E++(tmCells y (.slice x1 x2 x3) (.slice y1 y2 y3)++[]));rw[List.append_nil];exact own8) hg8 hat8)
         have S8:=Ld (RpS.step S6.out hg8 R8.out)
         obtain⟨xa8,xn8,xc8,hv8⟩:=R8.out.tml.slice
         subst hv8
         have gO8:=S8.out.1.cell
         have fO8:=S8.out.1.frozen
         clear own8 hg8 hat8 S6 HBK HEL6 R8 HI HZ HS HB
         go_wp2_with fail
         go_roundw
         case rel=>exact⟨k+1,_,_,_,by omega,by go_num,S8.out.2,by have:=HEL.out;simp;omega,Ld (by rw[List.map_append,List.append_assoc];exact HNX.out)⟩
         case measure=>simp[intOf];omega
    ·have hkk:k=ks.length:=by omega
     subst hkk
     have HE:Hid (res=.mk op z N ty (E.map (·.1))):=Ld (by rw[hq.out.1,List.drop_length];simp[rrK,rrZ])
     have gA:=S.out.a.cell
     have gO:∀ i,wr.cell? ⟨O,i,none⟩=[Value.int .i64 op,.string z,.int .i64 N,.int .i64 ty.kind,.string ty.name,.slice va vn vc,.slice xa E.length xc][i]?:=S.out.o.cell
     have gR:∀ i,wr.cell? ⟨w.heap.size+3,i,none⟩=[Value.int .i64 0,.string ⟨#[]⟩,.int .i64 0,.int .i64 0,.string ⟨#[]⟩,.slice none 0 0,.slice none 0 0][i]?:=S.out.r.cell
     have fR:∀ i,wr.frozen? ⟨w.heap.size+3,i,none⟩=false:=S.out.r.frozen
     have HTM:=S.out.row.tml
     have hoo:=S.out.ho
     have hbw:=S.out.row.kp.size
     clear HIH HAT HIN1 HIN2 HKD HKN HEK hq
     go_wp2_with fail
     exact bodyPost_ret (results_one Tryz.results91 rfl (load_tm (t:=.mk op z N ty (E.map (·.1))) (r7 S.out.r rfl))) rfl ⟨_,_,by rw[HE.out],by rw[HE.out];exact (S.out.ty.frame (set7 (fun q hq=>by omega))).mono (fun q _ hq=>by omega),by rw[HE.out];exact (HTM.frame (set7 (fun q hq=>by omega))).mono (fun q _ hq=>by omega),k7w S.out.row.kp (Or.inr (by omega))⟩
theorem rr_any:∀ f,RrC f:=by
 intro f
 induction f with
 | zero=>
  intro t fm tu w ok okf oku okn okd tk kk fk fkk uk ukk vn vd hokt hD
  obtain⟨op,nm,N,ty,ks⟩:=t
  rw[tmD] at hD
  omega
 | succ f ih=>exact rr_one ih
end Go.Proofs.YtfhedienjnfdcaaGreatDoor
namespace Go.Proofs.YtfhedienjnfdcaaGreatDoor
open Go.RowKit Go.Shelf
attribute [local go_sem] Oper.semAt_some
theorem lastI_at {s:ByteArray} {l:List ByteArray} {m:Nat} (hm:m<l.length) (h:l[m]=s) (hn:∀ j (hj:j<l.length),m<j→l[j]≠s):lastI s l=m:=by
 have key:∀ d,m+1+d≤l.length→lastI s (l.take (m+1+d))=m:=by
  intro d
  induction d with
  | zero=>intro _;rw[Nat.add_zero,last_take hm,if_pos h]
  | succ d ih=>
   intro hd
   rw[show m+1+(d+1)=(m+1+d)+1 by omega,last_take (by omega),if_neg (hn _ (by omega) (by omega))]
   exact ih (by omega)
 have:=key (l.length-(m+1)) (by omega)
 rw[show m+1+(l.length-(m+1))=l.length by omega,List.take_length] at this
 exact this
theorem lastI_no {s:ByteArray} {l:List ByteArray} (hn:∀ j (hj:j<l.length),l[j]≠s):lastI s l=-1:=by
 have key:∀ d,d≤l.length→lastI s (l.take d)=-1:=by
  intro d
  induction d with
  | zero=>intro _;rfl
  | succ d ih=>
   intro hd
   rw[last_take (by omega),if_neg (hn _ (by omega))]
   exact ih (by omega)
 have:=key l.length (Nat.le_refl _)
 rwa [List.take_length] at this
def upto {α:Type} (f:Nat→α) (k:Nat):List α:=(List.range k).map f
theorem upto_succ {α:Type} (f:Nat→α) (k:Nat):upto f (k+1)=upto f k++[f k]:=by simp[upto,List.range_succ]
theorem upto_len {α:Type} (f:Nat→α) (k:Nat):(upto f k).length=k:=by simp[upto]
theorem upto_mem {α:Type} {f:Nat→α} {k j:Nat} (h:j<k):f j∈upto f k:=by simp only[upto,List.mem_map,List.mem_range];exact⟨j,h,rfl⟩
def bwF (l:List ByteArray) (j:Nat):Nat×ByteArray:=(l.length-1-j,l[l.length-1-j]?.getD ⟨#[]⟩)
theorem bwF_at {l:List ByteArray} {m:Nat} (h:m<l.length):bwF l (l.length-(m+1))=(m,l[m]):=by
 unfold bwF
 rw[show l.length-1-(l.length-(m+1))=m by omega,List.getElem?_eq_getElem h];rfl
theorem back1_in (F:Fence) (n:Nat) (h7:F.fn 213) (hro:F.round=none) (hn:1≤n) (L Bs n₀:Nat) (l:List ByteArray) (a:Option Addr) (cap:Nat) (hl:l.length≤1000000) (hBn:Bs<n₀) (J Jx:List (Nat×ByteArray)→World→Prop)
  (hY:∀ pre x W,J pre W→pre.length<l.length→YieldAt F (n-1) Tryz.prog L #[.int .i64 (x.1:Int),.string x.2] W fun e W'=>
   (e=.returned (.bool true)∧J (pre++[x]) W'∧Below n₀ W W')∨(e=.returned (.bool false)∧Jx (pre++[x]) W'))
  (W:World) (hBs:W.cell? ⟨Bs,0,none⟩=some (.slice a l.length cap)) (hc:NmL (fun q=>q<n₀) W l (.slice a l.length cap)) (h0:J [] W):
  CallsIn F n Tryz.prog 213 #[.func (.yield L) #[] #[],.pointer (some ⟨Bs,0,none⟩)] W fun e W'=>(∃ v,e=.returned v) ∧
   ((∃ ys,ys=upto (bwF l) l.length∧J ys W')∨(∃ pre,(∃ k,k≤l.length∧pre=upto (bwF l) k)∧Jx pre W')):=by
 have HAT:=Ld hc.at
 have HL:=Ld hl
 have hBS:=Ld hBs
 have hln:(l.length:Int)≤1000000:=by omega
 clear hc hl
 refine callsIn_of_wp Tryz.func213 rfl h7 ?_ hro
 simp only[Tryz.ntmps213,List.size_toArray,List.length_cons,List.length_nil,Nat.reduceAdd,Nat.reduceSub,Array.replicate_succ,Array.replicate_zero,List.push_toArray,List.append_toArray,List.nil_append,List.cons_append]
 gi_wp2
 gi_loopw [3] (fun i wr=>∃ m:Nat,m≤l.length∧i=.int .i64 ((m:Int)-1)∧J (upto (bwF l) (l.length-m)) wr∧Below n₀ W wr)
  (fun i _=>(intOf i+1).toNat)
 case atStart=>
  exact⟨l.length,Nat.le_refl _,rfl,by rw[Nat.sub_self];exact h0,Below.refl _ _⟩
 case round=>
  obtain⟨m,hm,rfl,hJs,hnx⟩:=hrel
  have hb2:wr.cell? ⟨Bs,0,none⟩=some (.slice a l.length cap):=(hnx.cell (p:=⟨Bs,0,none⟩) hBn).trans hBS.out
  clear hBs
  cases m with
  | zero=>
   have i0:((0:Nat):Int)-1=-1:=rfl
   rw[i0]
   have HJ:=Ld hJs
   clear hJs hY
   gi_wp2
   go_end0
   exact⟨⟨_,rfl⟩,.inl ⟨_,rfl,HJ.out⟩⟩
  | succ m=>
   have hml:m<l.length:=by omega
   obtain⟨g,off,rfl,hg,c0⟩:=HAT.out m hml
   have c1:wr.cell? ⟨g,off+m,none⟩=some (.string l[m]):=(hnx.cell (p:=⟨g,off+m,none⟩) hg).trans c0
   have i0:((m+1:Nat):Int)-1=m:=by omega
   have i1:(m:Int)<(l.length:Int):=by omega
   have i2:(m:Int)<1000000:=by have:=HL.out;omega
   have HX:=Ld (bwF_at hml)
   have HU:Hid (upto (bwF l) (l.length-m)=upto (bwF l) (l.length-(m+1))++[(m,l[m])]):=Ld (by
    rw[show l.length-m=(l.length-(m+1))+1 by omega,upto_succ,HX.out])
   obtain⟨fn,tmps,assign,body,hy,hR⟩:=hY _ (m,l[m]) wr hJs (by rw[upto_len];omega)
   dsimp only at hy
   rw[i0]
   have HN:=Ld hnx
   clear i0 hm hY c0 hnx hJs
   gi_wp2
   refine hR.mono ?_
   rintro e W3 (⟨rfl,hJ3,hk3⟩ | ⟨rfl,hJx3⟩)
   ·gi_wp2
    go_roundw
    case rel=>exact⟨m,by omega,rfl,by rw[HU.out];exact hJ3,HN.out.trans hk3⟩
    case measure=>simp[intOf]
   ·gi_wp2
    refine bodyPost_ret (results_none rfl _ _ _) rfl ?_
    exact⟨⟨_,rfl⟩,.inr ⟨_,⟨l.length-m,by omega,HU.out.symm⟩,hJx3⟩⟩
theorem back_in (F:Fence) (n:Nat) (h5:F.fn 177) (hro:F.round=none) (a:Option Addr) (len cap:Nat) (w:World):
  CallsIn F n Tryz.prog 177 #[.slice a len cap] w fun e w'=>e=.returned (.func (.func 213) #[] #[.pointer (some ⟨w.heap.size,0,none⟩)])∧w'=w.alloc (.cells #[.slice a len cap] 41):=by
 refine callsIn_of_wp Tryz.func177 rfl h5 ?_ hro
 simp only[Tryz.ntmps177,List.size_toArray,List.length_cons,List.length_nil,Nat.reduceAdd,Nat.reduceSub,Array.replicate_succ,Array.replicate_zero,List.push_toArray,List.append_toArray,List.nil_append,List.cons_append]
 gi_wp2
 go_ret
 exact⟨rfl,rfl⟩
theorem NmL.belowF {n₀:Nat} {l:List ByteArray} {v:Value} {A B:World} (h:NmL (fun q=>q<n₀) A l v) (hb:Below n₀ A B):NmL (fun q=>q<n₀) B l v:=by
 refine h.frame (fun k hk _=>hb.block k hk)
theorem back_stops (F:Fence) (n:Nat) (h7:F.fn 213) (hro:F.round=none) (hn:1≤n) (Bs n₀:Nat) (l:List ByteArray) (a:Option Addr) (cap:Nat) (hl:l.length≤1000000) (hBn:Bs<n₀) (w:World) (hn₀:n₀≤w.heap.size)
  (hc:w.cell? ⟨Bs,0,none⟩=some (.slice a l.length cap)) (hI:NmL (fun q=>q<n₀) w l (.slice a l.length cap)):
  SeqStopsK F n Tryz.prog 213 #[.pointer (some ⟨Bs,0,none⟩)] (fun x:Nat×ByteArray=>#[Value.int .i64 (x.1:Int),Value.string x.2]) (Below n₀) (fun ys=>ys=upto (bwF l) l.length) (fun pre=>∃ k,k≤l.length∧pre=upto (bwF l) k) l.length w:=fun L J Jx W hW _ _ hY h0=>
 back1_in F n h7 hro hn L Bs n₀ l a cap hl hBn J Jx hY W ((hW.cell (p:=⟨Bs,0,none⟩) (by show Bs<_;omega)).trans hc) (hI.belowF (hW.mono hn₀)) h0
theorem last_in (F:Fence) (n:Nat) (h4:F.fn 111) (h6:F.fn 177) (h8:F.fn 213) (hro:F.round=none) (hn:3≤n) (a:Option Addr) (cap:Nat) (l:List ByteArray) (s:ByteArray) (hl:l.length≤1000000) (w:World) (hI:NmL (fun q=>q<w.heap.size) w l (.slice a l.length cap)):
  CallsIn F n Tryz.prog 111 #[.slice a l.length cap,.string s] w fun e W'=>e=.returned (.int .i64 (lastI s l))∧Below w.heap.size w W':=by
 have h1:1≤n:=by omega
 refine callsIn_of_wp_marks Tryz.func111 rfl h4 ?_ hro
 simp only[Tryz.ntmps111,List.size_toArray,List.length_cons,List.length_nil,Nat.reduceAdd,Nat.reduceSub,Array.replicate_succ,Array.replicate_zero,List.push_toArray,List.append_toArray,List.nil_append,List.cons_append]
 gi_wp2_with (gi_at_call 177;refine (back_in F (n-1) h6 hro _ _ _ _).mono ?_;rintro e w' ⟨rfl,rfl⟩)
 have bS:=Boxed.new w 9 (.string s)
 have bR:=Boxed.new (w.alloc (.cells #[.string s] 9)) 3 (.int .i64 0)
 have bN:=Boxed.new ((w.alloc (.cells #[.string s] 9)).alloc (.cells #[.int .i64 0] 3)) 41 (.slice a l.length cap)
 rw[World.size_alloc] at bR
 rw[World.size_alloc,World.size_alloc] at bN
 have hB0:Below w.heap.size w (((w.alloc (.cells #[.string s] 9)).alloc (.cells #[.int .i64 0] 3)).alloc (.cells #[.slice a l.length cap] 41)):=(((Below.refl _ w).alloc (Nat.le_refl _) _).alloc (by simp) _).alloc (by simp;omega) _
 have hI2:NmL (fun q=>q<w.heap.size+3) (((w.alloc (.cells #[.string s] 9)).alloc (.cells #[.int .i64 0] 3)).alloc (.cells #[.slice a l.length cap] 41)) l (.slice a l.length cap):=(hI.belowF hB0).mono (fun q _ h=>by omega)
 refine wpIn_rangeFunc_ownG hro h1 (gf:=213) (lb:=#[.pointer (some ⟨w.heap.size+2,0,none⟩)]) rfl h8 (enters_of Tryz.func213 (by kernel_rfl) rfl)
  (back_stops F (n-1) h8 hro (by omega) (w.heap.size+2) (w.heap.size+3) l a cap hl (by omega) _ (by simp) bN.cell hI2) belowK_t (belowK_b (by simp)) (Below.refl _ _) (fun _=>rfl)
  (fun pre W=>((∀ p∈pre,p.2≠s)∧W.cell? ⟨w.heap.size,0,none⟩=some (.string s)∧W.cell? ⟨w.heap.size+1,0,none⟩=some (.int .i64 0)∧W.frozen? ⟨w.heap.size+1,0,none⟩=false)∧Below w.heap.size w W)
  (fun c pre W=>(c=.ret∧∃ ini last,pre=ini++[last]∧(∀ p∈ini,p.2≠s)∧last.2=s∧W.cell? ⟨w.heap.size+1,0,none⟩=some (.int .i64 (last.1:Int)))∧Below w.heap.size w W)
  (OwnFrom.and (Own.from (fun s A B row hs hg hr=>⟨hs.1,cell_kept hs.2.1 hg hr,cell_kept hs.2.2.1 hg hr,(frozen_kept hs.2.2.1 hg hr).trans hs.2.2.2⟩) _) (ownFrom_below (Nat.le_refl _) (by simp;omega)))
  (fun c=>OwnFrom.and (Own.from (fun s A B row hs hg hr=>by obtain⟨hc,ini,last,e1,e2,e3,e4⟩:=hs;exact⟨hc,ini,last,e1,e2,e3,cell_kept e4 hg hr⟩) _) (ownFrom_below (Nat.le_refl _) (by simp;omega)))
  ⟨⟨by simp,((bS.alloc _).alloc _).cell,(bR.alloc _).cell,(bR.alloc _).frozen⟩,hB0⟩
  (fun x=>{ tmps:=#[.slice a l.length cap,.string s,undef,.pointer (some ⟨w.heap.size,0,none⟩),.pointer (some ⟨w.heap.size+1,0,none⟩),.int .i64 (x.1:Int),.string x.2,.slice a l.length cap,.func (.func 213) #[] #[.pointer (some ⟨w.heap.size+2,0,none⟩)],.int .i64 (x.1:Int),.string x.2,undef,undef,undef,undef],defers:=[] }) ?assign ?body ?done ?stop
 case assign=>
  intro l x W K hK
  gi_wp2
  exact hK
 case body=>
  rintro L pre x W ⟨⟨hp,hcs,hcr,hfr⟩,hB⟩ _
  have HP:=Ld hp
  clear hp
  cases hx:(x.2.toList==s.toList)
  ·have hne:Hid (x.2≠s):=Ld (by intro e;rw[e] at hx;simp at hx)
   gi_wp2
   exact⟨KeepsFrom.refl _ _,Below.refl _ _,⟨fun p hp'=>(List.mem_append.1 hp').elim (HP.out p) (fun e=>by simp at e;subst e;exact hne.out),hcs,hcr,hfr⟩,hB⟩
  ·have hye:Hid (x.2=s):=Ld (by rw[nm_eq] at hx;exact of_decide_eq_true hx)
   gi_wp2
   exact⟨(KeepsOthers.setCell _ _ _).from _,⟨rfl,pre,x,rfl,HP.out,hye.out,World.cell?_setCell_same' _ _ _ (by rw[hcr];rfl)⟩,hB.setCell (p:=⟨w.heap.size+1,0,none⟩) (by show w.heap.size≤w.heap.size+1;omega) _⟩
 case done=>
  rintro D ys W hD rfl ⟨⟨hne,hcs,hcr,hfr⟩,hB⟩ hK
  have HNE:=Ld hne
  clear hne
  gi_wp2
  have hK':=(KeepsOthers.setCell W ⟨w.heap.size+1,0,none⟩ (.int .i64 (-1))).same D _ hK rfl
  refine⟨by simp,.inl ⟨_,_,rfl,run_takeDeferred hK',?_⟩⟩
  have hc5:=cell_kept (World.cell?_setCell_same' W ⟨w.heap.size+1,0,none⟩ (.int .i64 (-1)) (by rw[hcr];rfl)) (grownBy_putObj' _ D (.deferred none)) (fun r e=>by cases e;exact⟨_,hK',rfl⟩)
  have hno:lastI s l=-1:=lastI_no (fun j hj=>by
   have:=HNE.out _ (upto_mem (f:=bwF l) (k:=l.length) (j:=l.length-(j+1)) (by omega))
   rw[bwF_at hj] at this;exact this)
  refine⟨.int .i64 (-1),?_,by rw[hno],(hB.setCell (p:=⟨w.heap.size+1,0,none⟩) (by show w.heap.size≤w.heap.size+1;omega) _).trans (belowK_b (w:=w) (Nat.le_refl _) _ D _ _ (by simp at hD;omega) hK' rfl rfl)⟩
  simp[results,Tryz.f111,go_sem,hc5]
 case stop=>
  rintro D c pre W hD ⟨k,hk,rfl⟩ ⟨⟨rfl,ini,last,e1,e2,e3,hcr⟩,hB⟩ hK
  have E1:=Ld e1
  have E2:=Ld e2
  have E3:=Ld e3
  clear e1 e2 e3
  gi_wp2
  refine⟨by simp,.inl ⟨_,_,rfl,run_takeDeferred hK,?_⟩⟩
  have hc5:=cell_kept hcr (grownBy_putObj' _ D (.deferred none)) (fun r e=>by cases e;exact⟨_,hK,rfl⟩)
  have e1:=E1.out
  obtain⟨k',rfl⟩:∃ k',k=k'+1:=by
   cases k with
   | zero=>simp[upto] at e1
   | succ k'=>exact⟨k',rfl⟩
  rw[upto_succ] at e1
  obtain⟨e6,e5⟩:=List.append_inj' e1 rfl
  have e5:bwF l k'=last:=by simpa using e5
  have hm:bwF l k'=(l.length-(k'+1),l[l.length-(k'+1)]'(by omega)):=by
   have:=bwF_at (l:=l) (m:=l.length-(k'+1)) (by omega)
   rw[show l.length-(l.length-(k'+1)+1)=k' by omega] at this;exact this
  have hla:lastI s l=(last.1:Int):=by
   have e7:=E3.out
   rw[← e5,hm] at e7 ⊢
   refine lastI_at (by omega) e7 (fun j hj hjm=>?_)
   have:=E2.out (bwF l (l.length-(j+1))) (by rw[← e6];exact upto_mem (by omega))
   rw[bwF_at hj] at this;exact this
  refine⟨.int .i64 (last.1:Int),?_,by rw[hla],hB.trans (belowK_b (w:=w) (Nat.le_refl _) W D _ _ (by simp at hD;omega) hK rfl rfl)⟩
  simp[results,Tryz.f111,go_sem,hc5]
theorem last_any {ok:Nat→Prop} {w:World} {l:List ByteArray} {v:Value} (s:ByteArray) (h:NmL ok w l v) (hn:l.length≤1000000):
  Calls Tryz.prog 111 #[v,.string s] w fun e w'=>e=.returned (.int .i64 (lastI s l))∧Kept (fun _=>False) w w':=by
 obtain⟨a,c,rfl⟩:=h.slice
 have h2:NmL (fun q=>q<w.heap.size) w l (.slice a l.length c):=by
  obtain⟨a',n',c',h1,h2,h3,h5,h4⟩:=h
  refine⟨a',n',c',h1,h2,h3,h5,fun i hi=>?_⟩
  obtain⟨g,off,e,_,hc⟩:=h4 i hi
  exact⟨g,off,e,cell_lt hc,hc⟩
 exact ((callsIn_wide (n:=3)).1 (last_in Fence.wide 3 trivial trivial trivial rfl (by omega) a c l s hn w h2)).mono fun e w' ⟨h1,h2⟩=>⟨h1,.of_below h2⟩
end Go.Proofs.YtfhedienjnfdcaaGreatDoor
