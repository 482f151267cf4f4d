/- A part. -/
import Derived.Test.YtfhedienjnfdcaaGreatDoorQ20
import Derived.Test.YtfhedienjnfdcaaGreatDoorQ22
import Derived.Carry
import Derived.Deep.Slices
set_option linter.unusedVariables false
set_option linter.unusedSimpArgs false
set_option maxRecDepth 100000
set_option maxHeartbeats 32000000
namespace Go.Proofs.YtfhedienjnfdcaaGreatDoor
open Go.RowKit
theorem rvary_any {a:Tm} {l:List Int} {ok okL:Nat→Prop} {w:World} {tk kk vl:Value} (hv:validB a=true) (h1:TyL ok w a.ty.kids tk) (h2:TmL ok w a.kids kk) (hL:InL okL w l vl) (hl:l.length≤9223372036854775807):
  Calls Tryz.prog 35 #[tmVal a tk kk,vl] w (PutP (varyT l a) w):=by
 obtain⟨p0,n0,c0,rfl⟩:=h1.slice
 obtain⟨ma0,mn0,mc0,rfl⟩:=h2.slice
 obtain⟨la,lc,rfl⟩:=hL.slice
 have hK:VrK (tmD a) a:=by
  have h3:=(valid_iff a).1 hv
  exact⟨valid_ok hv,h3.2.1,h3.2.2,Nat.le_refl _⟩
 have B0:Hid (Blk ((w.alloc (.cells #[.int .i64 a.op,.string a.name,.int .i64 a.n,.int .i64 a.ty.kind,.string a.ty.name,.slice p0 n0 c0,.slice ma0 mn0 mc0] 28)).alloc Z7) (w.heap.size+1) 28 z27∧Kept (fun _=>False) w ((w.alloc (.cells #[.int .i64 a.op,.string a.name,.int .i64 a.n,.int .i64 a.ty.kind,.string a.ty.name,.slice p0 n0 c0,.slice ma0 mn0 mc0] 28)).alloc Z7)∧∀ i,((w.alloc (.cells #[.int .i64 a.op,.string a.name,.int .i64 a.n,.int .i64 a.ty.kind,.string a.ty.name,.slice p0 n0 c0,.slice ma0 mn0 mc0] 28)).alloc Z7).cell? ⟨w.heap.size,i,none⟩=[Value.int .i64 a.op,.string a.name,.int .i64 a.n,.int .i64 a.ty.kind,.string a.ty.name,.slice p0 n0 c0,.slice ma0 mn0 mc0][i]?):=Ld
  ⟨Blk.new' 28 _ (by simp),(kR.alloc _).alloc _,((Blk.new w 28 _).alloc _).cell⟩
 have HV:=Ld (vary_any (tmD a) a hK l 0 _ ok okL _ _ _ (h1.frame (sK B0.out.2.1)) (h2.frame (sK B0.out.2.1)) (hL.frame (sK B0.out.2.1)) hl (by have:=hK.2.1;omega))
 clear h1 h2 hL hl hK hv
 unfold VrP tmVal at HV
 unfold PutP tmVal
 have HR:Hid (varyT l a=(varF l (tmD a) a 0).1):=Ld rfl
 rw[← HR.out] at HV
 generalize varyT l a=r at *
 generalize (varF l (tmD a) a 0).2=rn at *
 clear HR
 have gA:=B0.out.2.2
 go_enter Tryz.func35,Tryz.ntmps35
 go_upto_region 1 with (fail)
 generalize ((w.alloc (.cells #[.int .i64 a.op,.string a.name,.int .i64 a.n,.int .i64 a.ty.kind,.string a.ty.name,.slice p0 n0 c0,.slice ma0 mn0 mc0] 28)).alloc Z7)=w1 at *
 go_wp2_with fail
 refine HV.out.mono ?_
 rintro e w2 ⟨tk,kk,rfl,hty,htm,k2⟩
 obtain⟨p1,n1,c1,rfl⟩:=hty.slice
 obtain⟨ma1,mn1,mc1,rfl⟩:=htm.slice
 have BR:=Ld (B0.out.1.kept k2 (fun h=>h))
 have KK:=Ld (B0.out.2.1.trans k2)
 have HTY:=Ld hty
 have HTM:=Ld htm
 have hw1:Hid (w.heap.size+2≤w1.heap.size):=Ld B0.out.1.lt
 have lR:=BR.out.lt
 clear hty htm k2 B0 HV gA
 have fR:=BR.out.frozen
 have gR:∀ i,w2.cell? ⟨w.heap.size+1,i,none⟩=[Value.int .i64 0,.string ⟨#[]⟩,.int .i64 0,.int .i64 0,.string ⟨#[]⟩,.slice none 0 0,.slice none 0 0][i]?:=BR.out.cell
 go_upto_region 2 with (fail)
 have BN:Hid (∀ i,(w2.alloc (.cells #[.int .i64 r.op,.string r.name,.int .i64 r.n,.int .i64 r.ty.kind,.string r.ty.name,.slice p1 n1 c1,.slice ma1 mn1 mc1] 28)).cell? ⟨w2.heap.size,i,none⟩=[Value.int .i64 r.op,.string r.name,.int .i64 r.n,.int .i64 r.ty.kind,.string r.ty.name,.slice p1 n1 c1,.slice ma1 mn1 mc1][i]?):=Ld (Blk.new w2 28 _).cell
 have B3:=Ld (BR.out.alloc (.cells #[.int .i64 r.op,.string r.name,.int .i64 r.n,.int .i64 r.ty.kind,.string r.ty.name,.slice p1 n1 c1,.slice ma1 mn1 mc1] 28))
 have K3:=Ld (KK.out.alloc (.cells #[.int .i64 r.op,.string r.name,.int .i64 r.n,.int .i64 r.ty.kind,.string r.ty.name,.slice p1 n1 c1,.slice ma1 mn1 mc1] 28))
 have T3:=Ld (HTY.out.frame (Same.alloc _ (.cells #[.int .i64 r.op,.string r.name,.int .i64 r.n,.int .i64 r.ty.kind,.string r.ty.name,.slice p1 n1 c1,.slice ma1 mn1 mc1] 28)))
 have M3:=Ld (HTM.out.frame (Same.alloc _ (.cells #[.int .i64 r.op,.string r.name,.int .i64 r.n,.int .i64 r.ty.kind,.string r.ty.name,.slice p1 n1 c1,.slice ma1 mn1 mc1] 28)))
 clear BR KK HTY HTM fR gR lR
 generalize w2.alloc (.cells #[.int .i64 r.op,.string r.name,.int .i64 r.n,.int .i64 r.ty.kind,.string r.ty.name,.slice p1 n1 c1,.slice ma1 mn1 mc1] 28)=w3 at *
 have fR:=B3.out.frozen
 have lR:=B3.out.lt
 have gR:∀ i,w3.cell? ⟨w.heap.size+1,i,none⟩=[Value.int .i64 0,.string ⟨#[]⟩,.int .i64 0,.int .i64 0,.string ⟨#[]⟩,.slice none 0 0,.slice none 0 0][i]?:=B3.out.cell
 have gN:=BN.out
 go_wp2_with fail
 exact bodyPost_ret (results_one Tryz.results35 rfl (load_tm (t:=r) (r7 B3.out rfl))) rfl ⟨_,_,rfl,(T3.out.frame (set7 (fun q hq=>by have:=hw1.out;omega))).mono (fun q _ hq=>by have:=hw1.out;omega),(M3.out.frame (set7 (fun q hq=>by have:=hw1.out;omega))).mono (fun q _ hq=>by have:=hw1.out;omega),k7w K3.out (Or.inr (Nat.le_succ _))⟩
def rpO (t fm tu:Tm):Tm:=repF fm tu (fr fm) (fr tu) (tmD t) t
def rplR (t fm tu:Tm):Tm×Nat×Int:=if validB t&&validB fm&&validB tu then (if validB (rpO t fm tu) then (rpO t fm tu,cntT fm (fr fm) t,0) else (tm0,0,5)) else (tm0,0,1)
section
variable {t fm tu:Tm} (ht:validB t=true) (hf:validB fm=true) (hu:validB tu=true)
include ht hf hu
theorem rpO_db:OkTm (rpO t fm tu)∧dbT (rpO t fm tu)=rpD (dbT fm) (dbT tu) (dbT t)∧cntT fm (fr fm) t=ctD (dbT fm) (dbT t):=
 rep_db (valid_ok hf).nw (valid_ok hu) (by have:=(valid_iff tu).1 hu;omega) (valid_ok ht) (by have:=(valid_iff t).1 ht;omega)
theorem rplR_of:rplR t fm tu=if validB (rpO t fm tu) then (rpO t fm tu,cntT fm (fr fm) t,0) else (tm0,0,5):=by
 unfold rplR;rw[ht,hf,hu];rfl
end
theorem rplR_bad {t fm tu:Tm} (h:(validB t&&validB fm&&validB tu)=false):rplR t fm tu=(tm0,0,1):=by
 unfold rplR;rw[h];rfl
theorem rplR_ok (t fm tu:Tm):OkZ (rplR t fm tu).1∧SmTm big (rplR t fm tu).1∧((rplR t fm tu).2.2=0→validB (rplR t fm tu).1=true)∧(rplR t fm tu).2.1≤2000:=by
 have h0:SmTm big tm0:=.mk (by decide) (.mk (by decide) (fun t h=>by cases h)) (fun t h=>by cases h)
 unfold rplR
 split
 ·rename_i h
  rw[Bool.and_eq_true,Bool.and_eq_true] at h
  have h1:=rpO_db h.1.1 h.1.2 h.2
  split
  ·rename_i h2
   exact⟨Or.inl h1.1,ok_smt h1.1,fun _=>h2,by have:=cnt_le fm (fr fm) t;have:=(valid_iff t).1 h.1.1;show cntT fm (fr fm) t≤2000;omega⟩
  ·exact⟨Or.inr rfl,h0,fun e=>by have e:((5:Int)=0):=e;omega,Nat.zero_le _⟩
 ·exact⟨Or.inr rfl,h0,fun e=>by have e:((1:Int)=0):=e;omega,Nat.zero_le _⟩
theorem rpl_alike {t fm tu t' fm' tu':Tm} (ht:validB t=true) (hf:validB fm=true) (hu:validB tu=true) (ht':validB t'=true) (hf':validB fm'=true) (hu':validB tu'=true) (e1:dbT t'=dbT t) (e2:dbT fm'=dbT fm) (e3:dbT tu'=dbT tu):
  (rplR t' fm' tu').2=(rplR t fm tu).2∧((rplR t fm tu).2.2=0→alB (rplR t fm tu).1 (rplR t' fm' tu').1=true):=by
 obtain⟨a1,a2,a3⟩:=rpO_db ht hf hu
 obtain⟨b1,b2,b3⟩:=rpO_db ht' hf' hu'
 rw[e1,e2,e3] at b2
 rw[e1,e2] at b3
 have hd:dbT (rpO t' fm' tu')=dbT (rpO t fm tu):=b2.trans a2.symm
 have hv:=valid_db b1 a1 hd
 have g1:=rplR_of ht hf hu
 have g2:=rplR_of ht' hf' hu'
 cases h:validB (rpO t fm tu) with
 | false=>
  rw[h] at hv
  rw[h,if_neg Bool.false_ne_true] at g1
  rw[hv,if_neg Bool.false_ne_true] at g2
  rw[g1,g2]
  exact⟨rfl,fun e=>by have e:((5:Int)=0):=e;omega⟩
 | true=>
  rw[h] at hv
  rw[h,if_pos rfl] at g1
  rw[hv,if_pos rfl] at g2
  rw[g1,g2]
  refine⟨?_,fun _=>(alB_iff h hv).2 hd.symm⟩
  show (cntT fm' (fr fm') t',(0:Int))=(cntT fm (fr fm) t,0)
  rw[a3,b3]
theorem ra_plain {t fm tu:Tm} (l l1 l2:List Int) (ht:validB t=true) (hf:validB fm=true) (hu:validB tu=true):
  (validB (varyT l t)=true∧validB (varyT l1 fm)=true∧validB (varyT l2 tu)=true)∧(rplR (varyT l t) (varyT l1 fm) (varyT l2 tu)).2=(rplR t fm tu).2∧((rplR t fm tu).2.2=0→alB (rplR t fm tu).1 (rplR (varyT l t) (varyT l1 fm) (varyT l2 tu)).1=true):=by
 have h1:=(valid_iff t).1 ht
 have h2:=(valid_iff fm).1 hf
 have h3:=(valid_iff tu).1 hu
 have d1:=vary_db (l:=l) h1.1 (by omega)
 have d2:=vary_db (l:=l1) h2.1 (by omega)
 have d3:=vary_db (l:=l2) h3.1 (by omega)
 have v1:=(valid_db (vary_ok (l:=l) h1.1 (by omega)) h1.1 d1).trans ht
 have v2:=(valid_db (vary_ok (l:=l1) h2.1 (by omega)) h2.1 d2).trans hf
 have v3:=(valid_db (vary_ok (l:=l2) h3.1 (by omega)) h3.1 d3).trans hu
 exact⟨⟨v1,v2,v3⟩,rpl_alike ht hf hu v1 v2 v3 d1 d2 d3⟩
theorem MapF.ne {W:World} {p n q T:Nat} {f:ByteArray→Option Value} {l:List Value} (h:MapF W p n f) (hb:Blk W q T l):p≠q:=by
 rintro rfl
 obtain⟨D,⟨es,clock,h1,h2⟩,h3⟩:=h
 have h4:W.heap[p]?=some _:=hb
 rw[h1] at h4
 cases h4
theorem tml_three {ok:Nat→Prop} {W:World} {g:Nat} {t u v:Tm} {tk kk tk' kk' tk2 kk2:Value} {ok' ok2:Nat→Prop} (hb:Blk W g 28 (tmCells t tk kk++(tmCells u tk' kk'++(tmCells v tk2 kk2++[])))) (h1:TyL ok W t.ty.kids tk) (h2:TmL ok W t.kids kk) (h3:TyL ok' W u.ty.kids tk') (h4:TmL ok' W u.kids kk') (h5:TyL ok2 W v.ty.kids tk2) (h6:TmL ok2 W v.kids kk2):TmL (fun _=>True) W [t,u,v] (.slice (some ⟨g,0,none⟩) 3 3):=by
 refine tml_of_row' (base:=0) (E:=[(t,tk,kk),(u,tk',kk'),(v,tk2,kk2)]) ⟨rfl,.inr ⟨g,3,_,rfl,Nat.zero_le g,hb,Nat.le_refl 3,(by unfold maxLen;decide),rfl,rfl⟩⟩ (fun e he=>?_) (fun _ _=>trivial)
 rcases List.mem_cons.1 he with rfl | he
 ·exact⟨h1.mono (fun _ _ _=>trivial),h2.mono (fun _ _ _=>trivial)⟩
 ·rcases List.mem_cons.1 he with rfl | he
  ·exact⟨h3.mono (fun _ _ _=>trivial),h4.mono (fun _ _ _=>trivial)⟩
  ·rw[List.mem_singleton.1 he];exact⟨h5.mono (fun _ _ _=>trivial),h6.mono (fun _ _ _=>trivial)⟩
theorem cgB_zero (l:List ByteArray):cgB l (fun _=>0)=false:=by
 unfold cgB
 induction l with
 | nil=>rfl
 | cons s r ih=>rw[List.any_cons,ih];rfl
def TmB3 (B:Nat) (r:Tm×Nat×Int) (w:World) (e:Ending) (w':World):Prop:=∃ tk kk,e=.returned (.tuple #[tmVal r.1 tk kk,.int .i64 (r.2.1:Nat),.int .i64 r.2.2])∧TyL (fun k=>B≤k) w' r.1.ty.kids tk∧TmL (fun k=>B≤k) w' r.1.kids kk∧Kept (fun _=>False) w w'
def St4 (w:World) (c0 c1 c2:List Value) (W:World):Prop:=Kept (fun _=>False) w W∧w.heap.size+4≤W.heap.size∧Blk W w.heap.size 28 c0∧Blk W (w.heap.size+1) 28 c1∧Blk W (w.heap.size+2) 28 c2∧Blk W (w.heap.size+3) 28 z27
theorem St4.kept {w W W':World} {c0 c1 c2:List Value} (h:St4 w c0 c1 c2 W) (k:Kept (fun _=>False) W W'):St4 w c0 c1 c2 W':=
 ⟨h.1.trans k,Nat.le_trans h.2.1 k.size,h.2.2.1.kept k (fun e=>e),h.2.2.2.1.kept k (fun e=>e),h.2.2.2.2.1.kept k (fun e=>e),h.2.2.2.2.2.kept k (fun e=>e)⟩
theorem St4.via {w W W':World} {c0 c1 c2:List Value} {S:Nat→Prop} (h:St4 w c0 c1 c2 W) (k:Kept S W W') (hS:∀ q,S q→w.heap.size+4≤q):St4 w c0 c1 c2 W':=
 ⟨h.1.via1 k (fun x hx e=>by have:=hS x e;omega),Nat.le_trans h.2.1 k.size,h.2.2.1.kept k (fun e=>by have:=hS _ e;omega),h.2.2.2.1.kept k (fun e=>by have:=hS _ e;omega),h.2.2.2.2.1.kept k (fun e=>by have:=hS _ e;omega),h.2.2.2.2.2.kept k (fun e=>by have:=hS _ e;omega)⟩
theorem St4.fin {w W:World} {c0 c1 c2:List Value} (h:St4 w c0 c1 c2 W) {R:Nat} (hR:R=w.heap.size+3) {x0 x1 x2 x3 x4 x5 x6:Value}:Kept (fun _=>False) w (World.drew (((((((W.setCell ⟨R,0,none⟩ x0).setCell ⟨R,1,none⟩ x1).setCell ⟨R,2,none⟩ x2).setCell ⟨R,3,none⟩ x3).setCell ⟨R,4,none⟩ x4).setCell ⟨R,5,none⟩ x5).setCell ⟨R,6,none⟩ x6))∧Blk (World.drew (((((((W.setCell ⟨R,0,none⟩ x0).setCell ⟨R,1,none⟩ x1).setCell ⟨R,2,none⟩ x2).setCell ⟨R,3,none⟩ x3).setCell ⟨R,4,none⟩ x4).setCell ⟨R,5,none⟩ x5).setCell ⟨R,6,none⟩ x6)) (w.heap.size+3) 28 [x0,x1,x2,x3,x4,x5,x6]∧(∀ l v,TyL (fun k=>w.heap.size+4≤k) W l v→TyL (fun k=>w.heap.size+4≤k) (World.drew (((((((W.setCell ⟨R,0,none⟩ x0).setCell ⟨R,1,none⟩ x1).setCell ⟨R,2,none⟩ x2).setCell ⟨R,3,none⟩ x3).setCell ⟨R,4,none⟩ x4).setCell ⟨R,5,none⟩ x5).setCell ⟨R,6,none⟩ x6)) l v)∧(∀ l v,TmL (fun k=>w.heap.size+4≤k) W l v→TmL (fun k=>w.heap.size+4≤k) (World.drew (((((((W.setCell ⟨R,0,none⟩ x0).setCell ⟨R,1,none⟩ x1).setCell ⟨R,2,none⟩ x2).setCell ⟨R,3,none⟩ x3).setCell ⟨R,4,none⟩ x4).setCell ⟨R,5,none⟩ x5).setCell ⟨R,6,none⟩ x6)) l v):=by
 subst hR
 have KD:Kept (fun _=>False) (((((((W.setCell ⟨w.heap.size+3,0,none⟩ x0).setCell ⟨w.heap.size+3,1,none⟩ x1).setCell ⟨w.heap.size+3,2,none⟩ x2).setCell ⟨w.heap.size+3,3,none⟩ x3).setCell ⟨w.heap.size+3,4,none⟩ x4).setCell ⟨w.heap.size+3,5,none⟩ x5).setCell ⟨w.heap.size+3,6,none⟩ x6) (World.drew (((((((W.setCell ⟨w.heap.size+3,0,none⟩ x0).setCell ⟨w.heap.size+3,1,none⟩ x1).setCell ⟨w.heap.size+3,2,none⟩ x2).setCell ⟨w.heap.size+3,3,none⟩ x3).setCell ⟨w.heap.size+3,4,none⟩ x4).setCell ⟨w.heap.size+3,5,none⟩ x5).setCell ⟨w.heap.size+3,6,none⟩ x6)):=kR.drew
 exact⟨(k7w h.1 (Or.inr (by omega))).trans KD,(r7 h.2.2.2.2.2 rfl).kept KD (fun e=>e),fun l v hT=>(hT.frame (set7 (fun q hq=>by omega))).frame (sK KD),fun l v hT=>(hT.frame (set7 (fun q hq=>by omega))).frame (sK KD)⟩
def z93:List Value:=[Value.int .i64 0,.string ⟨#[]⟩,.int .i64 0,.int .i64 0,.string ⟨#[]⟩,.slice none 0 0,.slice none 0 0,.int .i64 0,.string ⟨#[]⟩,.int .i64 0,.int .i64 0,.string ⟨#[]⟩,.slice none 0 0,.slice none 0 0,.map none,.map none,.int .i64 0]
theorem r17 {W:World} {R:Nat} {l:List Value} {x0 x1 x2 x3 x4 x5 x6 x7 x8 x9 x10 x11 x12 x13 x14 x15 x16:Value} (h:Blk W R 93 l) (hl:l.length=17):
  Blk (((((((((((((((((W.setCell ⟨R,0,none⟩ x0).setCell ⟨R,1,none⟩ x1).setCell ⟨R,2,none⟩ x2).setCell ⟨R,3,none⟩ x3).setCell ⟨R,4,none⟩ x4).setCell ⟨R,5,none⟩ x5).setCell ⟨R,6,none⟩ x6).setCell ⟨R,7,none⟩ x7).setCell ⟨R,8,none⟩ x8).setCell ⟨R,9,none⟩ x9).setCell ⟨R,10,none⟩ x10).setCell ⟨R,11,none⟩ x11).setCell ⟨R,12,none⟩ x12).setCell ⟨R,13,none⟩ x13).setCell ⟨R,14,none⟩ x14).setCell ⟨R,15,none⟩ x15).setCell ⟨R,16,none⟩ x16) R 93 [x0,x1,x2,x3,x4,x5,x6,x7,x8,x9,x10,x11,x12,x13,x14,x15,x16]:=by
 match l,hl with
 | [a0,a1,a2,a3,a4,a5,a6,a7,a8,a9,a10,a11,a12,a13,a14,a15,a16],_=>
  have q:=((((((((((((((((h.set 0 x0).set 1 x1).set 2 x2).set 3 x3).set 4 x4).set 5 x5).set 6 x6).set 7 x7).set 8 x8).set 9 x9).set 10 x10).set 11 x11).set 12 x12).set 13 x13).set 14 x14).set 15 x15).set 16 x16
  simp only[List.set_cons_succ,List.set_cons_zero] at q
  exact q
theorem k17 {W:World} {R:Nat} {x0 x1 x2 x3 x4 x5 x6 x7 x8 x9 x10 x11 x12 x13 x14 x15 x16:Value}:
  Kept (fun q=>q=R) W (((((((((((((((((W.setCell ⟨R,0,none⟩ x0).setCell ⟨R,1,none⟩ x1).setCell ⟨R,2,none⟩ x2).setCell ⟨R,3,none⟩ x3).setCell ⟨R,4,none⟩ x4).setCell ⟨R,5,none⟩ x5).setCell ⟨R,6,none⟩ x6).setCell ⟨R,7,none⟩ x7).setCell ⟨R,8,none⟩ x8).setCell ⟨R,9,none⟩ x9).setCell ⟨R,10,none⟩ x10).setCell ⟨R,11,none⟩ x11).setCell ⟨R,12,none⟩ x12).setCell ⟨R,13,none⟩ x13).setCell ⟨R,14,none⟩ x14).setCell ⟨R,15,none⟩ x15).setCell ⟨R,16,none⟩ x16):=by
 have h1:Kept (fun q=>q=R) W (((((((W.setCell ⟨R,0,none⟩ x0).setCell ⟨R,1,none⟩ x1).setCell ⟨R,2,none⟩ x2).setCell ⟨R,3,none⟩ x3).setCell ⟨R,4,none⟩ x4).setCell ⟨R,5,none⟩ x5).setCell ⟨R,6,none⟩ x6):=k7g
 generalize (((((((W.setCell ⟨R,0,none⟩ x0).setCell ⟨R,1,none⟩ x1).setCell ⟨R,2,none⟩ x2).setCell ⟨R,3,none⟩ x3).setCell ⟨R,4,none⟩ x4).setCell ⟨R,5,none⟩ x5).setCell ⟨R,6,none⟩ x6)=W1 at *
 have h2:Kept (fun q=>q=R) W1 (((((((W1.setCell ⟨R,7,none⟩ x7).setCell ⟨R,8,none⟩ x8).setCell ⟨R,9,none⟩ x9).setCell ⟨R,10,none⟩ x10).setCell ⟨R,11,none⟩ x11).setCell ⟨R,12,none⟩ x12).setCell ⟨R,13,none⟩ x13):=k7g
 generalize (((((((W1.setCell ⟨R,7,none⟩ x7).setCell ⟨R,8,none⟩ x8).setCell ⟨R,9,none⟩ x9).setCell ⟨R,10,none⟩ x10).setCell ⟨R,11,none⟩ x11).setCell ⟨R,12,none⟩ x12).setCell ⟨R,13,none⟩ x13)=W2 at *
 exact (((h1.trans h2).setCell (p:=⟨R,14,none⟩) (Or.inl rfl) _).setCell (p:=⟨R,15,none⟩) (Or.inl rfl) _).setCell (p:=⟨R,16,none⟩) (Or.inl rfl) _
theorem prd_any {t fm tu:Tm} {ok okf oku:Nat→Prop} {w:World} {tk kk fk fkk uk ukk:Value} (h1:TyL ok w t.ty.kids tk) (h2:TmL ok w t.kids kk) (hs:SmTm big t) (h3:TyL okf w fm.ty.kids fk) (h4:TmL okf w fm.kids fkk) (hs':SmTm big fm) (h5:TyL oku w tu.ty.kids uk) (h6:TmL oku w tu.kids ukk) (hs2:SmTm big tu) (hp:P10 w):
  Calls Tryz.prog 44 #[tmVal t tk kk,tmVal fm fk fkk,tmVal tu uk ukk] w (TmB3 w.heap.size (rplR t fm tu) w):=by
 obtain⟨p0,n0,c0,rfl⟩:=h1.slice
 obtain⟨ma0,mn0,mc0,rfl⟩:=h2.slice
 obtain⟨p1,n1,c1,rfl⟩:=h3.slice
 obtain⟨ma1,mn1,mc1,rfl⟩:=h4.slice
 obtain⟨p2,n2,c2,rfl⟩:=h5.slice
 obtain⟨ma2,mn2,mc2,rfl⟩:=h6.slice
 have h1:=h1.mono (ok':=fun q=>q<w.heap.size) (fun q hq _=>hq)
 have h2:=h2.mono (ok':=fun q=>q<w.heap.size) (fun q hq _=>hq)
 have h3:=h3.mono (ok':=fun q=>q<w.heap.size) (fun q hq _=>hq)
 have h4:=h4.mono (ok':=fun q=>q<w.heap.size) (fun q hq _=>hq)
 have h5:=h5.mono (ok':=fun q=>q<w.heap.size) (fun q hq _=>hq)
 have h6:=h6.mono (ok':=fun q=>q<w.heap.size) (fun q hq _=>hq)
 have HM:=Ld (fun W (k:Kept (fun _=>False) w W)=>(⟨h1.frame (sK k),h2.frame (sK k),h3.frame (sK k),h4.frame (sK k),h5.frame (sK k),h6.frame (sK k)⟩:_∧_∧_∧_∧_∧_))
 have HP:=Ld (fun W (k:Kept (fun _=>False) w W)=>hp.kept k)
 have HSM:Hid (∀ x,x∈[t,fm,tu]→SmTm big x):=Ld (fun x hx=>by
  rcases List.mem_cons.1 hx with rfl | hx
  ·exact hs
  ·rcases List.mem_cons.1 hx with rfl | hx
   ·exact hs'
   ·rw[List.mem_singleton.1 hx];exact hs2)
 have S1:Hid (St4 w [Value.int .i64 t.op,.string t.name,.int .i64 t.n,.int .i64 t.ty.kind,.string t.ty.name,.slice p0 n0 c0,.slice ma0 mn0 mc0] [Value.int .i64 fm.op,.string fm.name,.int .i64 fm.n,.int .i64 fm.ty.kind,.string fm.ty.name,.slice p1 n1 c1,.slice ma1 mn1 mc1] [Value.int .i64 tu.op,.string tu.name,.int .i64 tu.n,.int .i64 tu.ty.kind,.string tu.ty.name,.slice p2 n2 c2,.slice ma2 mn2 mc2] ((((w.alloc (.cells #[.int .i64 t.op,.string t.name,.int .i64 t.n,.int .i64 t.ty.kind,.string t.ty.name,.slice p0 n0 c0,.slice ma0 mn0 mc0] 28)).alloc (.cells #[.int .i64 fm.op,.string fm.name,.int .i64 fm.n,.int .i64 fm.ty.kind,.string fm.ty.name,.slice p1 n1 c1,.slice ma1 mn1 mc1] 28)).alloc (.cells #[.int .i64 tu.op,.string tu.name,.int .i64 tu.n,.int .i64 tu.ty.kind,.string tu.ty.name,.slice p2 n2 c2,.slice ma2 mn2 mc2] 28)).alloc Z7)):=Ld ⟨(((kR.alloc _).alloc _).alloc _).alloc _,by simp,(((Blk.new w 28 [Value.int .i64 t.op,.string t.name,.int .i64 t.n,.int .i64 t.ty.kind,.string t.ty.name,.slice p0 n0 c0,.slice ma0 mn0 mc0]).alloc _).alloc _).alloc _,((Blk.new' 28 [Value.int .i64 fm.op,.string fm.name,.int .i64 fm.n,.int .i64 fm.ty.kind,.string fm.ty.name,.slice p1 n1 c1,.slice ma1 mn1 mc1] (by simp)).alloc _).alloc _,(Blk.new' 28 [Value.int .i64 tu.op,.string tu.name,.int .i64 tu.n,.int .i64 tu.ty.kind,.string tu.ty.name,.slice p2 n2 c2,.slice ma2 mn2 mc2] (by simp)).alloc _,Blk.new' 28 _ (by simp)⟩
 clear h1 h2 h3 h4 h5 h6 hs hs' hs2 hp
 change Calls Tryz.prog 44 #[.agg #[.int .i64 t.op,.string t.name,.int .i64 t.n,.int .i64 t.ty.kind,.string t.ty.name,.slice p0 n0 c0,.slice ma0 mn0 mc0],.agg #[.int .i64 fm.op,.string fm.name,.int .i64 fm.n,.int .i64 fm.ty.kind,.string fm.ty.name,.slice p1 n1 c1,.slice ma1 mn1 mc1],.agg #[.int .i64 tu.op,.string tu.name,.int .i64 tu.n,.int .i64 tu.ty.kind,.string tu.ty.name,.slice p2 n2 c2,.slice ma2 mn2 mc2]] w _
 go_enter Tryz.func44,Tryz.ntmps44
 go_upto_region 1 with (fail)
 generalize ((((w.alloc (.cells #[.int .i64 t.op,.string t.name,.int .i64 t.n,.int .i64 t.ty.kind,.string t.ty.name,.slice p0 n0 c0,.slice ma0 mn0 mc0] 28)).alloc (.cells #[.int .i64 fm.op,.string fm.name,.int .i64 fm.n,.int .i64 fm.ty.kind,.string fm.ty.name,.slice p1 n1 c1,.slice ma1 mn1 mc1] 28)).alloc (.cells #[.int .i64 tu.op,.string tu.name,.int .i64 tu.n,.int .i64 tu.ty.kind,.string tu.ty.name,.slice p2 n2 c2,.slice ma2 mn2 mc2] 28)).alloc Z7)=w1 at *
 have HV:=Ld (valids_any (l:=[t,fm,tu]) (w:=w1.alloc (.cells #[.int .i64 t.op,.string t.name,.int .i64 t.n,.int .i64 t.ty.kind,.string t.ty.name,.slice p0 n0 c0,.slice ma0 mn0 mc0,.int .i64 fm.op,.string fm.name,.int .i64 fm.n,.int .i64 fm.ty.kind,.string fm.ty.name,.slice p1 n1 c1,.slice ma1 mn1 mc1,.int .i64 tu.op,.string tu.name,.int .i64 tu.n,.int .i64 tu.ty.kind,.string tu.ty.name,.slice p2 n2 c2,.slice ma2 mn2 mc2] 28)) (by simp) HSM.out (tml_three (Blk.new w1 28 [Value.int .i64 t.op,.string t.name,.int .i64 t.n,.int .i64 t.ty.kind,.string t.ty.name,.slice p0 n0 c0,.slice ma0 mn0 mc0,.int .i64 fm.op,.string fm.name,.int .i64 fm.n,.int .i64 fm.ty.kind,.string fm.ty.name,.slice p1 n1 c1,.slice ma1 mn1 mc1,.int .i64 tu.op,.string tu.name,.int .i64 tu.n,.int .i64 tu.ty.kind,.string tu.ty.name,.slice p2 n2 c2,.slice ma2 mn2 mc2]) (HM.out _ (S1.out.1.alloc _)).1 (HM.out _ (S1.out.1.alloc _)).2.1 (HM.out _ (S1.out.1.alloc _)).2.2.1 (HM.out _ (S1.out.1.alloc _)).2.2.2.1 (HM.out _ (S1.out.1.alloc _)).2.2.2.2.1 (HM.out _ (S1.out.1.alloc _)).2.2.2.2.2))
 have gT:=S1.out.2.2.1.cell
 have gF:∀ i,w1.cell? ⟨w.heap.size+1,i,none⟩=[Value.int .i64 fm.op,.string fm.name,.int .i64 fm.n,.int .i64 fm.ty.kind,.string fm.ty.name,.slice p1 n1 c1,.slice ma1 mn1 mc1][i]?:=S1.out.2.2.2.1.cell
 have gU:∀ i,w1.cell? ⟨w.heap.size+2,i,none⟩=[Value.int .i64 tu.op,.string tu.name,.int .i64 tu.n,.int .i64 tu.ty.kind,.string tu.ty.name,.slice p2 n2 c2,.slice ma2 mn2 mc2][i]?:=S1.out.2.2.2.2.1.cell
 go_wp2_with fail
 refine HV.out.mono ?_
 rintro e w2 ⟨rfl,k2⟩
 have S2:=Ld ((S1.out.kept (kR.alloc _)).kept k2)
 have HVE:Hid ([t,fm,tu].all validB=(validB t&&validB fm&&validB tu)):=Ld (by simp[Bool.and_assoc])
 clear HV gT gF gU k2 S1 HSM
 rw[HVE.out]
 cases hv:(validB t&&validB fm&&validB tu)
 case false=>
  have HQ:=Ld (rplR_bad hv)
  have lR:=S2.out.2.2.2.2.2.lt
  have gR:∀ i,w2.cell? ⟨w.heap.size+3,i,none⟩=[Value.int .i64 0,.string ⟨#[]⟩,.int .i64 0,.int .i64 0,.string ⟨#[]⟩,.slice none 0 0,.slice none 0 0][i]?:=S2.out.2.2.2.2.2.cell
  have fR:=S2.out.2.2.2.2.2.frozen
  clear HM HP HVE hv
  go_wp2_with fail
  exact bodyPost_ret (results_ctt Tryz.results44 rfl (load_tm (t:=tm0) (r7 S2.out.2.2.2.2.2 rfl))) rfl ⟨_,_,by rw[HQ.out];rfl,by rw[HQ.out];exact .nil (Or.inl rfl),by rw[HQ.out];exact .nil (Or.inl rfl),k7w S2.out.1 (Or.inr (by omega))⟩
 case true=>
  have HV3:Hid (validB t=true∧validB fm=true∧validB tu=true):=Ld (by rw[Bool.and_eq_true,Bool.and_eq_true] at hv;exact⟨hv.1.1,hv.1.2,hv.2⟩)
  have HQ:=Ld (rplR_of HV3.out.1 HV3.out.2.1 HV3.out.2.2)
  have HO3:Hid (OkTm t∧OkTm fm∧OkTm tu∧(tmN t≤2000∧tmN fm≤2000∧tmN tu≤2000)∧(tmD t≤64∧tmD fm≤64∧tmD tu≤64)):=Ld (by have e1:=(valid_iff t).1 HV3.out.1;have e2:=(valid_iff fm).1 HV3.out.2.1;have e3:=(valid_iff tu).1 HV3.out.2.2;exact⟨e1.1,e2.1,e3.1,⟨e1.2.1,e2.2.1,e3.2.1⟩,e1.2.2,e2.2.2,e3.2.2⟩)
  have HOUT:=Ld (rpO_db HV3.out.1 HV3.out.2.1 HV3.out.2.2).1
  clear hv HVE
  go_upto_region 3 with (fail)
  have KD:Kept (fun _=>False) w2 (World.drew w2):=kR.drew
  refine wp_region_mono (L:=Kept (fun _=>False)) (fun i v W=>match i with
          | 0=>v=.agg #[.int .i64 fm.op,.string fm.name,.int .i64 fm.n,.int .i64 fm.ty.kind,.string fm.ty.name,.slice p1 n1 c1,.slice ma1 mn1 mc1]
          | 1=>v=.agg #[.int .i64 tu.op,.string tu.name,.int .i64 tu.n,.int .i64 tu.ty.kind,.string tu.ty.name,.slice p2 n2 c2,.slice ma2 mn2 mc2]
          | 2=>v=.agg #[.int .i64 fm.op,.string fm.name,.int .i64 fm.n,.int .i64 fm.ty.kind,.string fm.ty.name,.slice p1 n1 c1,.slice ma1 mn1 mc1]
          | 3=>∃ g,v=.slice (some ⟨g,0,none⟩) 1 1∧Blk W g 28 (tmCells fm (.slice p1 n1 c1) (.slice ma1 mn1 mc1))
          | 4=>∃ p,v=.map (some p)∧MapF W p (tmN fm) (bagF (fun s=>mb s (fr fm)))∧w2.heap.size≤p
          | 5=>v=.agg #[.int .i64 tu.op,.string tu.name,.int .i64 tu.n,.int .i64 tu.ty.kind,.string tu.ty.name,.slice p2 n2 c2,.slice ma2 mn2 mc2]
          | 6=>∃ g,v=.slice (some ⟨g,0,none⟩) 1 1∧Blk W g 28 (tmCells tu (.slice p2 n2 c2) (.slice ma2 mn2 mc2))
          | 7=>∃ p,v=.map (some p)∧MapF W p (tmN tu) (bagF (fun s=>mb s (fr tu)))∧w2.heap.size≤p
          | 8=>∃ q1 q2,v=.agg #[.int .i64 fm.op,.string fm.name,.int .i64 fm.n,.int .i64 fm.ty.kind,.string fm.ty.name,.slice p1 n1 c1,.slice ma1 mn1 mc1,.int .i64 tu.op,.string tu.name,.int .i64 tu.n,.int .i64 tu.ty.kind,.string tu.ty.name,.slice p2 n2 c2,.slice ma2 mn2 mc2,.map (some q1),.map (some q2),.int .i64 0]∧MapF W q1 (tmN fm) (bagF (fun s=>mb s (fr fm)))∧MapF W q2 (tmN tu) (bagF (fun s=>mb s (fr tu)))∧w2.heap.size≤q1∧w2.heap.size≤q2
          | 9=>∃ g,v=.pointer (some ⟨g,0,none⟩)∧Blk W g 93 z93∧w2.heap.size≤g
          | _=>True) [10] [] 42 (by kernel_rfl) rfl (by kernel_rfl) (by kernel_rfl) (fun w=>Kept.refl _ w) (fun _ _ _ h1 h2=>h1.trans h2) (fun c d v a w h=>by cases d <;> exact h) ?_ ?_
  ·refine allM_cons rfl (stepM_of [] rfl fun W k'=>allV_nil ?_) ?_
   ·have q:=KD.trans k'
    have gF:=(S2.out.2.2.2.1.kept q (fun e=>e)).cell
    refine opW_go rfl fun K hK=>?_
    go_simp
    exact hK _ _ (KT.mk kR rfl 19 rfl rfl)
   refine allM_cons rfl (stepM_of [] rfl fun W k'=>allV_nil ?_) ?_
   ·have q:=KD.trans k'
    have gU:∀ i,W.cell? ⟨w.heap.size+2,i,none⟩=[Value.int .i64 tu.op,.string tu.name,.int .i64 tu.n,.int .i64 tu.ty.kind,.string tu.ty.name,.slice p2 n2 c2,.slice ma2 mn2 mc2][i]?:=(S2.out.2.2.2.2.1.kept q (fun e=>e)).cell
    refine opW_go rfl fun K hK=>?_
    go_simp
    exact hK _ _ (KT.mk kR rfl 20 rfl rfl)
   refine allM_cons rfl (stepM_of [] rfl fun W k'=>allV_nil ?_) ?_
   ·have q:=KD.trans k'
    have gF:∀ i,W.cell? ⟨w.heap.size+1,i,none⟩=[Value.int .i64 fm.op,.string fm.name,.int .i64 fm.n,.int .i64 fm.ty.kind,.string fm.ty.name,.slice p1 n1 c1,.slice ma1 mn1 mc1][i]?:=(S2.out.2.2.2.1.kept q (fun e=>e)).cell
    refine opW_go rfl fun K hK=>?_
    go_simp
    exact hK _ _ (KT.mk kR rfl 21 rfl rfl)
   refine allM_cons rfl (stepM_of [2] rfl fun W k'=>allV_some 21 rfl fun v0 h0=>allV_nil ?_) ?_
   ·obtain⟨w1,k1,rfl⟩:=h0
    refine opW_go rfl fun K hK=>?_
    go_simp
    exact hK _ _ (KT.mk (kR.alloc _) rfl 22 rfl ⟨_,rfl,Blk.new W 28 (tmCells fm (.slice p1 n1 c1) (.slice ma1 mn1 mc1))⟩)
   refine allM_cons rfl (stepM_of [3] rfl fun W k'=>allV_some 22 rfl fun v0 h0=>allV_nil ?_) ?_
   ·obtain⟨w1,k1,g,rfl,hb⟩:=h0
    refine opW_go rfl fun K hK=>?_
    go_simp
    go_at_call 86
    have q:=KD.trans k'
    have kW:=S2.out.1.trans q
    refine (free_any HO3.out.2.1 (by have:=HO3.out;omega) (by have:=HO3.out;omega) (tml_one (hb.kept k1 (fun e=>e)) (HM.out W kW).2.2.1 (HM.out W kW).2.2.2.1)).mono ?_
    rintro e w' ⟨p,rfl,hp,hm,k7⟩
    exact hK _ _ (KT.mk k7 rfl 23 rfl ⟨p,rfl,hm,Nat.le_trans q.size hp⟩)
   refine allM_cons rfl (stepM_of [] rfl fun W k'=>allV_nil ?_) ?_
   ·have q:=KD.trans k'
    have gU:=(S2.out.2.2.2.2.1.kept q (fun e=>e)).cell
    refine opW_go rfl fun K hK=>?_
    go_simp
    exact hK _ _ (KT.mk kR rfl 24 rfl rfl)
   refine allM_cons rfl (stepM_of [5] rfl fun W k'=>allV_some 24 rfl fun v0 h0=>allV_nil ?_) ?_
   ·obtain⟨w1,k1,rfl⟩:=h0
    refine opW_go rfl fun K hK=>?_
    go_simp
    exact hK _ _ (KT.mk (kR.alloc _) rfl 25 rfl ⟨_,rfl,Blk.new W 28 (tmCells tu (.slice p2 n2 c2) (.slice ma2 mn2 mc2))⟩)
   refine allM_cons rfl (stepM_of [6,4] rfl fun W k'=>allV_some 25 rfl fun v0 h0=>allV_some 23 rfl fun v1 h1=>allV_nil ?_) ?_
   ·obtain⟨w1,k1,g,rfl,hb⟩:=h0
    clear h1
    refine opW_go rfl fun K hK=>?_
    go_simp
    go_at_call 86
    have q:=KD.trans k'
    have kW:=S2.out.1.trans q
    refine (free_any HO3.out.2.2.1 (by have:=HO3.out;omega) (by have:=HO3.out;omega) (tml_one (hb.kept k1 (fun e=>e)) (HM.out W kW).2.2.2.2.1 (HM.out W kW).2.2.2.2.2)).mono ?_
    rintro e w' ⟨p,rfl,hp,hm,k7⟩
    exact hK _ _ (KT.mk k7 rfl 26 rfl ⟨p,rfl,hm,Nat.le_trans q.size hp⟩)
   refine allM_cons rfl (stepM_of [0,1,4,7] rfl fun W k'=>allV_some 19 rfl fun v0 h0=>allV_some 20 rfl fun v1 h1=>allV_some 23 rfl fun v2 h2=>allV_some 26 rfl fun v3 h3=>allV_nil ?_) ?_
   ·obtain⟨w1,k1,rfl⟩:=h0
    obtain⟨w2,k2,rfl⟩:=h1
    obtain⟨w3,k3,q1,rfl,m1,g1⟩:=h2
    obtain⟨w4,k4,q2,rfl,m2,g2⟩:=h3
    refine opW_go rfl fun K hK=>?_
    go_simp
    exact hK _ _ (KT.mk kR rfl 27 rfl ⟨q1,q2,rfl,m1.kept k3 (fun e=>e),m2.kept k4 (fun e=>e),g1,g2⟩)
   refine allM_cons rfl (stepM_of [] rfl fun W k'=>allV_nil ?_) ?_
   ·refine opW_go rfl fun K hK=>?_
    go_simp
    exact hK _ _ (KT.mk (kR.alloc _) rfl 9 rfl ⟨_,rfl,Blk.new W 93 z93,(KD.trans k').size⟩)
   refine allM_tail rfl ?_
   exact allM_nil
  ·intro W kW
   have hh:(List.range 11).filter (fun i=>!([10]:List Nat).contains i)=[0,1,2,3,4,5,6,7,8,9]:=by decide
   change allV _ _ _ _ _ ((List.range 11).filter (fun i=>!([10]:List Nat).contains i)) _
   rw[hh]
   generalize hKK:(fun a1=>wpList Tryz.prog _ _ (pickT [10] 0 _) a1 W)=KK
   refine allV_some 19 (by kernel_rfl) ?_
   intro v0 h0
   refine allV_some 20 (by kernel_rfl) ?_
   intro v1 h1
   refine allV_some 21 (by kernel_rfl) ?_
   intro v2 h2
   refine allV_some 22 (by kernel_rfl) ?_
   intro v3 h3
   refine allV_some 23 (by kernel_rfl) ?_
   intro v4 h4
   refine allV_some 24 (by kernel_rfl) ?_
   intro v5 h5
   refine allV_some 25 (by kernel_rfl) ?_
   intro v6 h6
   refine allV_some 26 (by kernel_rfl) ?_
   intro v7 h7
   refine allV_some 27 (by kernel_rfl) ?_
   intro v8 h8
   refine allV_some 9 (by kernel_rfl) ?_
   intro v9 h9
   refine allV_nil ?_
   clear h0
   clear h1
   clear h2
   clear h3
   clear h4
   clear h5
   clear h6
   clear h7
   obtain⟨w8,k8,fB,tB,rfl,m1,m2,g1,g2⟩:=h8
   obtain⟨w9,k9,R,rfl,hb,hge⟩:=h9
   subst hKK
   have S3:=Ld (S2.out.kept (KD.trans kW))
   have HR:=Ld (hb.kept k9 (fun h=>h))
   have HMF:=Ld (m1.kept k8 (fun e=>e))
   have HMT:=Ld (m2.kept k8 (fun e=>e))
   have LZ:Hid (w2.heap.size≤R∧w2.heap.size≤fB∧w2.heap.size≤tB∧fB≠R∧tB≠R):=Ld ⟨hge,g1,g2,HMF.out.ne HR.out,HMT.out.ne HR.out⟩
   have LS:=Ld S2.out.2.1
   have gZ:∀ i,W.cell? ⟨R,i,none⟩=[Value.int .i64 0,.string ⟨#[]⟩,.int .i64 0,.int .i64 0,.string ⟨#[]⟩,.slice none 0 0,.slice none 0 0,.int .i64 0,.string ⟨#[]⟩,.int .i64 0,.int .i64 0,.string ⟨#[]⟩,.slice none 0 0,.slice none 0 0,.map none,.map none,.int .i64 0][i]?:=HR.out.cell
   have fZ:=HR.out.frozen
   have lZ:=HR.out.lt
   clear hb hge m1 m2 g1 g2 KD kW k8 k9 hh S2
   show wpList Tryz.prog _ _ [_] _ W
   simp only[Act.put,List.setIfInBounds_toArray,List.set_cons_succ,List.set_cons_zero]
   go_upto_region 4 with (fail)
   have K4:Kept (fun q=>q=R) W (((((((((((((((((W.setCell ⟨R,0,none⟩ (.int .i64 fm.op)).setCell ⟨R,1,none⟩ (.string fm.name)).setCell ⟨R,2,none⟩ (.int .i64 fm.n)).setCell ⟨R,3,none⟩ (.int .i64 fm.ty.kind)).setCell ⟨R,4,none⟩ (.string fm.ty.name)).setCell ⟨R,5,none⟩ (.slice p1 n1 c1)).setCell ⟨R,6,none⟩ (.slice ma1 mn1 mc1)).setCell ⟨R,7,none⟩ (.int .i64 tu.op)).setCell ⟨R,8,none⟩ (.string tu.name)).setCell ⟨R,9,none⟩ (.int .i64 tu.n)).setCell ⟨R,10,none⟩ (.int .i64 tu.ty.kind)).setCell ⟨R,11,none⟩ (.string tu.ty.name)).setCell ⟨R,12,none⟩ (.slice p2 n2 c2)).setCell ⟨R,13,none⟩ (.slice ma2 mn2 mc2)).setCell ⟨R,14,none⟩ (.map (some fB))).setCell ⟨R,15,none⟩ (.map (some tB))).setCell ⟨R,16,none⟩ (.int .i64 0)):=k17
   have B4:=Ld (r17 HR.out rfl:Blk (((((((((((((((((W.setCell ⟨R,0,none⟩ (.int .i64 fm.op)).setCell ⟨R,1,none⟩ (.string fm.name)).setCell ⟨R,2,none⟩ (.int .i64 fm.n)).setCell ⟨R,3,none⟩ (.int .i64 fm.ty.kind)).setCell ⟨R,4,none⟩ (.string fm.ty.name)).setCell ⟨R,5,none⟩ (.slice p1 n1 c1)).setCell ⟨R,6,none⟩ (.slice ma1 mn1 mc1)).setCell ⟨R,7,none⟩ (.int .i64 tu.op)).setCell ⟨R,8,none⟩ (.string tu.name)).setCell ⟨R,9,none⟩ (.int .i64 tu.n)).setCell ⟨R,10,none⟩ (.int .i64 tu.ty.kind)).setCell ⟨R,11,none⟩ (.string tu.ty.name)).setCell ⟨R,12,none⟩ (.slice p2 n2 c2)).setCell ⟨R,13,none⟩ (.slice ma2 mn2 mc2)).setCell ⟨R,14,none⟩ (.map (some fB))).setCell ⟨R,15,none⟩ (.map (some tB))).setCell ⟨R,16,none⟩ (.int .i64 0)) R 93 (rpCells fm tu (.slice p1 n1 c1) (.slice ma1 mn1 mc1) (.slice p2 n2 c2) (.slice ma2 mn2 mc2) fB tB ((0:Nat):Int)))
   have S4:=Ld (S3.out.via K4 (fun q e=>by have:=LZ.out;have:=LS.out;omega))
   have HMF4:=Ld (HMF.out.kept K4 (fun e=>LZ.out.2.2.2.1 e))
   have HMT4:=Ld (HMT.out.kept K4 (fun e=>LZ.out.2.2.2.2 e))
   clear gZ fZ lZ HMF HMT HR S3 K4
   generalize (((((((((((((((((W.setCell ⟨R,0,none⟩ (.int .i64 fm.op)).setCell ⟨R,1,none⟩ (.string fm.name)).setCell ⟨R,2,none⟩ (.int .i64 fm.n)).setCell ⟨R,3,none⟩ (.int .i64 fm.ty.kind)).setCell ⟨R,4,none⟩ (.string fm.ty.name)).setCell ⟨R,5,none⟩ (.slice p1 n1 c1)).setCell ⟨R,6,none⟩ (.slice ma1 mn1 mc1)).setCell ⟨R,7,none⟩ (.int .i64 tu.op)).setCell ⟨R,8,none⟩ (.string tu.name)).setCell ⟨R,9,none⟩ (.int .i64 tu.n)).setCell ⟨R,10,none⟩ (.int .i64 tu.ty.kind)).setCell ⟨R,11,none⟩ (.string tu.ty.name)).setCell ⟨R,12,none⟩ (.slice p2 n2 c2)).setCell ⟨R,13,none⟩ (.slice ma2 mn2 mc2)).setCell ⟨R,14,none⟩ (.map (some fB))).setCell ⟨R,15,none⟩ (.map (some tB))).setCell ⟨R,16,none⟩ (.int .i64 0))=w4 at *
   obtain⟨b,hb⟩:∃ b,b=w4.heap.size:=⟨_,rfl⟩
   have M5:=Ld (MapF.made w4)
   have K5:Hid (Kept (fun _=>False) w4 (w4.alloc (.map #[] 0))):=Ld (kR.alloc _)
   rw[← hb] at M5
   have S5:=Ld (S4.out.kept K5.out)
   have LB:Hid (R<b∧fB<b∧tB<b):=Ld ⟨by rw[hb];exact B4.out.lt,by rw[hb];exact HMF4.out.lt,by rw[hb];exact HMT4.out.lt⟩
   have HE:Hid (WkE fm tu (fun q=>q<w.heap.size) (fun q=>q<w.heap.size) (.slice p1 n1 c1) (.slice ma1 mn1 mc1) (.slice p2 n2 c2) (.slice ma2 mn2 mc2) R fB tB b (tmN fm) (tmN tu) (w4.alloc (.map #[] 0))):=Ld (by
    have q:=HM.out _ S5.out.1
    have lb:=LB.out
    have lz:=LZ.out
    have ls:=LS.out
    exact⟨HO3.out.2.1.nw,HO3.out.2.2.1,by have:=HO3.out;omega,q.2.2.1,q.2.2.2.1,q.2.2.2.2.1,q.2.2.2.2.2,HMF4.out.kept K5.out (fun e=>e),HMT4.out.kept K5.out (fun e=>e),⟨by omega,by omega,lz.2.2.2.1,by omega,lz.2.2.2.2⟩,fun q hq=>by omega,fun q hq=>by omega,fun W' k'=>HP.out W' (S5.out.1.via1 k' (fun x hx e=>by rcases e with e | e <;> omega))⟩)
   have HW:=Ld (wk_any (tmD t) t fm tu (fun _=>0) (w4.alloc (.map #[] 0)) (fun q=>q<w.heap.size) _ _ _ _ _ _ _ _ R fB tB b _ _ 0 0 HO3.out.1 (Nat.le_refl _) (by have:=HO3.out;omega) (by have:=HO3.out;omega) (HM.out _ S5.out.1).1 (HM.out _ S5.out.1).2.1 (fun q hq=>by have:=LB.out;have:=LZ.out;have:=LS.out;omega) HE.out (B4.out.kept K5.out (fun e=>e)) ⟨_,M5.out,cnt_none⟩ (by have:=HO3.out;omega) (fun s=>by have:=HO3.out;omega) (by have:=HO3.out;omega))
   have HEQ:Hid (wkT fm tu (tmD t) (fun _=>0) t=rpO t fm tu∧wkN fm (fun _=>0) t=cntT fm (fr fm) t):=Ld (by unfold wkT wkN;rw[cgB_zero];exact⟨rfl,rfl⟩)
   rw[HEQ.out.1,HEQ.out.2] at HW
   generalize rpO t fm tu=r at *
   generalize cntT fm (fr fm) t=d at *
   unfold WkP tmVal at HW
   clear M5 HE HEQ HMF4 HMT4 B4 HM HP
   have hmm:=@run_makeMap Tryz.prog
   have gT:=S4.out.2.2.1.cell
   rw[hb] at HW
   go_wp2_with fail
   clear gT
   refine HW.out.mono ?_
   rw[← hb]
   rintro e w6 ⟨tk,kk,rfl,hty,htm,k6,_,b6⟩
   obtain⟨pa,pn,pc,rfl⟩:=hty.slice
   obtain⟨qa,qn,qc,rfl⟩:=htm.slice
   have LZ5:Hid (w.heap.size+4≤(w4.alloc (.map #[] 0)).heap.size∧w.heap.size+4≤R∧w.heap.size+4≤b):=Ld (by have h1:=S5.out.2.1;have h2:=LB.out;have h3:=LZ.out;have h4:=LS.out;omega)
   have S6:=Ld (S5.out.via k6 (fun q e=>by have:=LZ5.out;rcases e with e | e <;> omega))
   have B6:=Ld b6
   obtain⟨⟨s1,e1⟩,hrr⟩:∃ x:Tm×Int,x=if validB r then (r,0) else (tm0,5):=⟨_,rfl⟩
   have HCK:=Ld (checked_any (t:=r) (rr:=(s1,e1)) (Ld hrr) (B:=w.heap.size+4) S6.out.2.1 (hty.mono (fun q hq h=>⟨Nat.le_trans LZ5.out.1 h,hq⟩)) (htm.mono (fun q hq h=>⟨Nat.le_trans LZ5.out.1 h,hq⟩)) (ok_smt HOUT.out))
   have HC:Hid ((e1=0∧s1=r∧validB r=true)∨(e1=5∧s1=tm0∧validB r=false)):=Ld (by
    cases hv:validB r
    ·rw[hv] at hrr;cases hrr;exact Or.inr ⟨rfl,rfl,rfl⟩
    ·rw[hv] at hrr;simp only[if_true] at hrr;cases hrr;exact Or.inl ⟨rfl,rfl,rfl⟩)
   have LQ:Hid (w.heap.size+4≤w6.heap.size∧w.heap.size+4≤R):=Ld ⟨S6.out.2.1,LZ5.out.2.1⟩
   unfold TmB tmVal at HCK
   clear hty htm k6 b6 HW S4 S5 hmm hb LB LZ LS hrr LZ5 HOUT HO3 HV3 K5
   go_wp2_with fail
   refine HCK.out.mono ?_
   rintro e w7 ⟨tk,kk,rfl,hty,htm,k7⟩
   have hty:TyL (fun k=>w.heap.size+4≤k) w7 s1.ty.kids tk:=hty
   have htm:TmL (fun k=>w.heap.size+4≤k) w7 s1.kids kk:=htm
   obtain⟨x1,x2,x3,rfl⟩:=hty.slice
   obtain⟨y1,y2,y3,rfl⟩:=htm.slice
   have S7:=Ld (S6.out.kept k7)
   have B7:=Ld (B6.out.kept k7 (fun e=>e))
   have T7:=Ld hty
   have M7:=Ld htm
   have LP:Hid (w.heap.size+4≤w7.heap.size):=Ld S7.out.2.1
   clear hty htm k7 HCK S6 B6
   go_upto_region 5 with (fail)
   have K8:Kept (fun _=>False) w7 (w7.alloc (.cells #[.int .i64 s1.op,.string s1.name,.int .i64 s1.n,.int .i64 s1.ty.kind,.string s1.ty.name,.slice x1 x2 x3,.slice y1 y2 y3] 28)):=kR.alloc _
   have S8:=Ld (S7.out.kept K8)
   have B8:=Ld (B7.out.kept K8 (fun e=>e))
   have T8:=Ld (T7.out.frame (sK K8))
   have M8:=Ld (M7.out.frame (sK K8))
   have BP:=Ld (Blk.new w7 28 [Value.int .i64 s1.op,.string s1.name,.int .i64 s1.n,.int .i64 s1.ty.kind,.string s1.ty.name,.slice x1 x2 x3,.slice y1 y2 y3])
   change Hid (Blk (w7.alloc (.cells #[.int .i64 s1.op,.string s1.name,.int .i64 s1.n,.int .i64 s1.ty.kind,.string s1.ty.name,.slice x1 x2 x3,.slice y1 y2 y3] 28)) _ _ _) at BP
   clear S7 B7 T7 M7 K8
   generalize w7.alloc (.cells #[.int .i64 s1.op,.string s1.name,.int .i64 s1.n,.int .i64 s1.ty.kind,.string s1.ty.name,.slice x1 x2 x3,.slice y1 y2 y3] 28)=w8 at *
   generalize w7.heap.size=P at *
   have lR:=S8.out.2.2.2.2.2.lt
   have gR:∀ i,w8.cell? ⟨w.heap.size+3,i,none⟩=[Value.int .i64 0,.string ⟨#[]⟩,.int .i64 0,.int .i64 0,.string ⟨#[]⟩,.slice none 0 0,.slice none 0 0][i]?:=S8.out.2.2.2.2.2.cell
   have fR:=S8.out.2.2.2.2.2.frozen
   rcases HC.out with ⟨rfl,rfl,hv⟩ | ⟨rfl,rfl,hv⟩
   ·have HQ2:Hid (rplR t fm tu=(s1,d,0)):=Ld (by rw[HQ.out,hv];rfl)
    have b0:w8.cell? ⟨P,0,none⟩=some (.int .i64 s1.op):=BP.out.cell 0
    have b1:w8.cell? ⟨P,1,none⟩=some (.string s1.name):=BP.out.cell 1
    have b2:w8.cell? ⟨P,2,none⟩=some (.int .i64 s1.n):=BP.out.cell 2
    have b3:w8.cell? ⟨P,3,none⟩=some (.int .i64 s1.ty.kind):=BP.out.cell 3
    have b4:w8.cell? ⟨P,4,none⟩=some (.string s1.ty.name):=BP.out.cell 4
    have b5:w8.cell? ⟨P,5,none⟩=some (.slice x1 x2 x3):=BP.out.cell 5
    have b6:w8.cell? ⟨P,6,none⟩=some (.slice y1 y2 y3):=BP.out.cell 6
    have bc:w8.cell? ⟨R,16,none⟩=some (.int .i64 (d:Int)):=by have h:=B8.out.cell 16;rw[Nat.zero_add] at h;exact h
    have nR:R≠w.heap.size+3:=by have:=LQ.out;omega
    have nR2:w.heap.size+3≠R:=by have:=LQ.out;omega
    have nP:P≠w.heap.size+3:=by have:=LP.out;omega
    have nP2:w.heap.size+3≠P:=by have:=LP.out;omega
    clear HC hv HQ
    go_upto_region 7 with (fail)
    go_cut [7,8] (fun v7 v8 wd=>v7=.int .i64 (d:Int)∧v8=.int .i64 0∧Kept (fun _=>False) w wd∧Blk wd (w.heap.size+3) 28 [Value.int .i64 s1.op,.string s1.name,.int .i64 s1.n,.int .i64 s1.ty.kind,.string s1.ty.name,.slice x1 x2 x3,.slice y1 y2 y3]∧TyL (fun k=>w.heap.size+4≤k) wd s1.ty.kids (.slice x1 x2 x3)∧TmL (fun k=>w.heap.size+4≤k) wd s1.kids (.slice y1 y2 y3))
    case first=>
     go_region_law (fail)
     all_goals
      clear b0 b1 b2 b3 b4 b5 b6 bc gR
      go_wp2_with fail
      go_meet
      case rel=>exact⟨rfl,rfl,(St4.fin S8.out rfl).1,(St4.fin S8.out rfl).2.1,(St4.fin S8.out rfl).2.2.1 _ _ T8.out,(St4.fin S8.out rfl).2.2.2 _ _ M8.out⟩
    case rest=>
     obtain⟨rfl,rfl,hK,hB,hT,hM⟩:=hcut
     clear b0 b1 b2 b3 b4 b5 b6 bc gR
     have HW:Hid (Kept (fun _=>False) w wc∧Blk wc (w.heap.size+3) 28 [Value.int .i64 s1.op,.string s1.name,.int .i64 s1.n,.int .i64 s1.ty.kind,.string s1.ty.name,.slice x1 x2 x3,.slice y1 y2 y3]∧TyL (fun k=>w.heap.size+4≤k) wc s1.ty.kids (.slice x1 x2 x3)∧TmL (fun k=>w.heap.size+4≤k) wc s1.kids (.slice y1 y2 y3)):=Ld ⟨hK,hB,hT,hM⟩
     clear hK hB hT hM
     go_wp2_with fail
     exact bodyPost_ret (results_ctt Tryz.results44 rfl (load_tm (t:=s1) HW.out.2.1)) rfl ⟨_,_,by rw[HQ2.out];rfl,by rw[HQ2.out];exact HW.out.2.2.1.mono (fun q _ hq=>by omega),by rw[HQ2.out];exact HW.out.2.2.2.mono (fun q _ hq=>by omega),HW.out.1⟩
   ·have HQ2:Hid (rplR t fm tu=(tm0,0,5)):=Ld (by rw[HQ.out,hv];rfl)
    clear HC hv HQ
    go_wp2_with fail
    exact bodyPost_ret (results_ctt Tryz.results44 rfl (load_tm (t:=tm0) (r7 S8.out.2.2.2.2.2 rfl))) rfl ⟨_,_,by rw[HQ2.out];rfl,by rw[HQ2.out];exact .nil (Or.inl rfl),by rw[HQ2.out];exact .nil (Or.inl rfl),k7w S8.out.1 (Or.inr (by omega))⟩
theorem inl_at {W:World} {g T:Nat} {l:List Int} (k:Nat) (hb:Blk W g T (l.map fun x=>Value.int .i64 x)) {n c:Nat} (hn:n=(l.drop k).length) (hc:n≤c):InL (fun _=>True) W (l.drop k) (.slice (some ⟨g,k,none⟩) n c):=by
 refine⟨_,_,_,rfl,hn,hc,fun i hi=>⟨g,k,rfl,trivial,?_⟩⟩
 rw[hb.cell,List.getElem?_map]
 have h2:k+i<l.length:=by rw[List.length_drop] at hi;omega
 rw[List.getElem?_eq_getElem h2,List.getElem_drop]
 rfl
structure S3 (w:World) (ca cb cc:List Value) (W:World):Prop where
 k:Kept (fun _=>False) w W
 a:Blk W w.heap.size 28 ca
 b:Blk W (w.heap.size+1) 28 cb
 c:Blk W (w.heap.size+2) 28 cc
theorem S3.kept {w W W':World} {ca cb cc:List Value} (h:S3 w ca cb cc W) (q:Kept (fun _=>False) W W'):S3 w ca cb cc W':=⟨h.k.trans q,h.a.kept q (fun e=>e),h.b.kept q (fun e=>e),h.c.kept q (fun e=>e)⟩
theorem ra_any {a b c:Tm} {w:World} {tk kk tk' kk' tk2 kk2:Value} (hgl:Gl w) (hp:P10 w) (h1:TyL (fun _=>True) w a.ty.kids tk) (h2:TmL (fun _=>True) w a.kids kk) (ha:SmTm big a) (h3:TyL (fun _=>True) w b.ty.kids tk') (h4:TmL (fun _=>True) w b.kids kk') (hb:SmTm big b) (h5:TyL (fun _=>True) w c.ty.kids tk2) (h6:TmL (fun _=>True) w c.kids kk2) (hc:SmTm big c):
  Calls Tryz.prog 14 #[tmVal a tk kk,tmVal b tk' kk',tmVal c tk2 kk2] w (EsOk w):=by
 obtain⟨p0,n0,c0,rfl⟩:=h1.slice
 obtain⟨ma0,mn0,mc0,rfl⟩:=h2.slice
 obtain⟨p1,n1,c1,rfl⟩:=h3.slice
 obtain⟨ma1,mn1,mc1,rfl⟩:=h4.slice
 obtain⟨p2,n2,c2,rfl⟩:=h5.slice
 obtain⟨ma2,mn2,mc2,rfl⟩:=h6.slice
 have H15:=Ld (fun W (k:Kept (fun _=>False) w W)=>awake_any W (hgl.kept k (fun h=>h) (fun h=>h)))
 have HVA:=Ld (fun W (k:Kept (fun _=>False) w W)=>rvalid_any (h1.frame (sK k)) (h2.frame (sK k)) ha)
 have HVB:=Ld (fun W (k:Kept (fun _=>False) w W)=>rvalid_any (h3.frame (sK k)) (h4.frame (sK k)) hb)
 have HVC:=Ld (fun W (k:Kept (fun _=>False) w W)=>rvalid_any (h5.frame (sK k)) (h6.frame (sK k)) hc)
 have HYA:=Ld (fun (hv:validB a=true) W (k:Kept (fun _=>False) w W) (l:List Int) (vl:Value) (hL:InL (fun _=>True) W l vl) (hl:l.length≤9223372036854775807)=>rvary_any hv (h1.frame (sK k)) (h2.frame (sK k)) hL hl)
 have HYB:=Ld (fun (hv:validB b=true) W (k:Kept (fun _=>False) w W) (l:List Int) (vl:Value) (hL:InL (fun _=>True) W l vl) (hl:l.length≤9223372036854775807)=>rvary_any hv (h3.frame (sK k)) (h4.frame (sK k)) hL hl)
 have HYC:=Ld (fun (hv:validB c=true) W (k:Kept (fun _=>False) w W) (l:List Int) (vl:Value) (hL:InL (fun _=>True) W l vl) (hl:l.length≤9223372036854775807)=>rvary_any hv (h5.frame (sK k)) (h6.frame (sK k)) hL hl)
 have HX:=Ld (fun W (k:Kept (fun _=>False) w W)=>prd_any (h1.frame (sK k)) (h2.frame (sK k)) ha (h3.frame (sK k)) (h4.frame (sK k)) hb (h5.frame (sK k)) (h6.frame (sK k)) hc (hp.kept k))
 have HPP:=Ld (fun W (k:Kept (fun _=>False) w W)=>hp.kept k)
 clear h1 h2 h3 h4 h5 h6 ha hb hc hgl hp
 unfold tmVal at HYA HYB HYC HX ⊢
 have B0:Hid (S3 w [Value.int .i64 a.op,.string a.name,.int .i64 a.n,.int .i64 a.ty.kind,.string a.ty.name,.slice p0 n0 c0,.slice ma0 mn0 mc0] [Value.int .i64 b.op,.string b.name,.int .i64 b.n,.int .i64 b.ty.kind,.string b.ty.name,.slice p1 n1 c1,.slice ma1 mn1 mc1] [Value.int .i64 c.op,.string c.name,.int .i64 c.n,.int .i64 c.ty.kind,.string c.ty.name,.slice p2 n2 c2,.slice ma2 mn2 mc2] (((w.alloc (.cells #[.int .i64 a.op,.string a.name,.int .i64 a.n,.int .i64 a.ty.kind,.string a.ty.name,.slice p0 n0 c0,.slice ma0 mn0 mc0] 28)).alloc (.cells #[.int .i64 b.op,.string b.name,.int .i64 b.n,.int .i64 b.ty.kind,.string b.ty.name,.slice p1 n1 c1,.slice ma1 mn1 mc1] 28)).alloc (.cells #[.int .i64 c.op,.string c.name,.int .i64 c.n,.int .i64 c.ty.kind,.string c.ty.name,.slice p2 n2 c2,.slice ma2 mn2 mc2] 28))):=Ld
  ⟨((kR.alloc _).alloc _).alloc _,((Blk.new w 28 _).alloc _).alloc _,(Blk.new' 28 _ (by simp)).alloc _,Blk.new' 28 _ (by simp)⟩
 go_enter Tryz.func14,Tryz.ntmps14
 go_upto_region 1 with (fail)
 generalize ((w.alloc (.cells #[.int .i64 a.op,.string a.name,.int .i64 a.n,.int .i64 a.ty.kind,.string a.ty.name,.slice p0 n0 c0,.slice ma0 mn0 mc0] 28)).alloc (.cells #[.int .i64 b.op,.string b.name,.int .i64 b.n,.int .i64 b.ty.kind,.string b.ty.name,.slice p1 n1 c1,.slice ma1 mn1 mc1] 28)).alloc (.cells #[.int .i64 c.op,.string c.name,.int .i64 c.n,.int .i64 c.ty.kind,.string c.ty.name,.slice p2 n2 c2,.slice ma2 mn2 mc2] 28)=w1 at *
 go_cut [26] (fun v wc=>v=.bool (!(validB a&&validB b&&validB c))∧S3 w [Value.int .i64 a.op,.string a.name,.int .i64 a.n,.int .i64 a.ty.kind,.string a.ty.name,.slice p0 n0 c0,.slice ma0 mn0 mc0] [Value.int .i64 b.op,.string b.name,.int .i64 b.n,.int .i64 b.ty.kind,.string b.ty.name,.slice p1 n1 c1,.slice ma1 mn1 mc1] [Value.int .i64 c.op,.string c.name,.int .i64 c.n,.int .i64 c.ty.kind,.string c.ty.name,.slice p2 n2 c2,.slice ma2 mn2 mc2] wc)
 case first=>
  have gT:∀ i,w1.cell? ⟨w.heap.size,i,none⟩=[Value.int .i64 a.op,.string a.name,.int .i64 a.n,.int .i64 a.ty.kind,.string a.ty.name,.slice p0 n0 c0,.slice ma0 mn0 mc0][i]?:=B0.out.a.cell
  go_wp2_with fail
  clear gT
  refine (HVA.out w1 B0.out.k).mono ?_
  rintro e w2 ⟨rfl,k2⟩
  have S2:=Ld (B0.out.kept k2)
  clear k2 B0
  cases hvt:validB a
  ·go_wp2_with fail
   go_meet
   case rel=>exact⟨by rw[hvt];rfl,S2.out⟩
  ·have gF:∀ i,w2.cell? ⟨w.heap.size+1,i,none⟩=[Value.int .i64 b.op,.string b.name,.int .i64 b.n,.int .i64 b.ty.kind,.string b.ty.name,.slice p1 n1 c1,.slice ma1 mn1 mc1][i]?:=S2.out.b.cell
   go_wp2_with fail
   clear gF
   refine (HVB.out w2 S2.out.k).mono ?_
   rintro e w3 ⟨rfl,k3⟩
   have S3:=Ld (S2.out.kept k3)
   clear k3 S2
   cases hvf:validB b
   ·go_wp2_with fail
    go_meet
    case rel=>exact⟨by rw[hvt,hvf];rfl,S3.out⟩
   ·have gU:∀ i,w3.cell? ⟨w.heap.size+2,i,none⟩=[Value.int .i64 c.op,.string c.name,.int .i64 c.n,.int .i64 c.ty.kind,.string c.ty.name,.slice p2 n2 c2,.slice ma2 mn2 mc2][i]?:=S3.out.c.cell
    go_wp2_with fail
    clear gU
    refine (HVC.out w3 S3.out.k).mono ?_
    rintro e w4 ⟨rfl,k4⟩
    have S4:=Ld (S3.out.kept k4)
    clear k4 S3
    go_wp2_with fail
    go_meet
    case rel=>exact⟨by rw[hvt,hvf];simp,S4.out⟩
 case rest=>
  obtain⟨rfl,hS⟩:=hcut
  have S2:=Ld hS
  clear hS B0 HVA HVB HVC
  generalize wc=w2 at *
  cases hv:(validB a&&validB b&&validB c)
  case false=>
   clear HYA HYB HYC HX HPP hv
   go_wp2_with fail
   refine (H15.out w2 S2.out.k).mono ?_
   rintro e w9 ⟨rfl,k9⟩
   have K9:=Ld (S2.out.k.trans k9)
   clear k9
   go_wp2_with fail
   go_ret
   exact⟨rfl,K9.out⟩
  case true=>
   have HV3:Hid (validB a=true∧validB b=true∧validB c=true):=Ld (by rw[Bool.and_eq_true,Bool.and_eq_true] at hv;exact⟨hv.1.1,hv.1.2,hv.2⟩)
   have HPL:=Ld (ra_plain [((mn0:Nat):Int),a.op,b.op,3,c.op,5,1] ([((mn0:Nat):Int),a.op,b.op,3,c.op,5,1].drop 1) ([((mn0:Nat):Int),a.op,b.op,3,c.op,5,1].drop 2) HV3.out.1 HV3.out.2.1 HV3.out.2.2)
   have HOA:=Ld (rplR_ok a b c)
   have HOB:=Ld (rplR_ok (varyT [((mn0:Nat):Int),a.op,b.op,3,c.op,5,1] a) (varyT ([((mn0:Nat):Int),a.op,b.op,3,c.op,5,1].drop 1) b) (varyT ([((mn0:Nat):Int),a.op,b.op,3,c.op,5,1].drop 2) c))
   have HR5:Hid ((rplR a b c).2.2=0∨(rplR a b c).2.2=5):=Ld (by rw[rplR_of HV3.out.1 HV3.out.2.1 HV3.out.2.2];split;exact Or.inl rfl;exact Or.inr rfl)
   have HVV:Hid (SmTm big (varyT [((mn0:Nat):Int),a.op,b.op,3,c.op,5,1] a)∧SmTm big (varyT ([((mn0:Nat):Int),a.op,b.op,3,c.op,5,1].drop 1) b)∧SmTm big (varyT ([((mn0:Nat):Int),a.op,b.op,3,c.op,5,1].drop 2) c)):=Ld ⟨ok_smt (valid_ok HPL.out.1.1),ok_smt (valid_ok HPL.out.1.2.1),ok_smt (valid_ok HPL.out.1.2.2)⟩
   have HY1:=Ld (fun W (k:Kept (fun _=>False) w W) (vl:Value) (hL:InL (fun _=>True) W [((mn0:Nat):Int),a.op,b.op,3,c.op,5,1] vl)=>HYA.out HV3.out.1 W k [((mn0:Nat):Int),a.op,b.op,3,c.op,5,1] vl hL (by simp))
   have HY2:=Ld (fun W (k:Kept (fun _=>False) w W) (vl:Value) (hL:InL (fun _=>True) W ([((mn0:Nat):Int),a.op,b.op,3,c.op,5,1].drop 1) vl)=>HYB.out HV3.out.2.1 W k ([((mn0:Nat):Int),a.op,b.op,3,c.op,5,1].drop 1) vl hL (by simp))
   have HY3:=Ld (fun W (k:Kept (fun _=>False) w W) (vl:Value) (hL:InL (fun _=>True) W ([((mn0:Nat):Int),a.op,b.op,3,c.op,5,1].drop 2) vl)=>HYC.out HV3.out.2.2 W k ([((mn0:Nat):Int),a.op,b.op,3,c.op,5,1].drop 2) vl hL (by simp))
   clear hv HYA HYB HYC
   generalize hva:varyT [((mn0:Nat):Int),a.op,b.op,3,c.op,5,1] a=va at *
   generalize hvb:varyT ([((mn0:Nat):Int),a.op,b.op,3,c.op,5,1].drop 1) b=vb at *
   generalize hvc:varyT ([((mn0:Nat):Int),a.op,b.op,3,c.op,5,1].drop 2) c=vc at *
   clear hva hvb hvc
   have gA:∀ i,w2.cell? ⟨w.heap.size,i,none⟩=[Value.int .i64 a.op,.string a.name,.int .i64 a.n,.int .i64 a.ty.kind,.string a.ty.name,.slice p0 n0 c0,.slice ma0 mn0 mc0][i]?:=S2.out.a.cell
   have gB:∀ i,w2.cell? ⟨w.heap.size+1,i,none⟩=[Value.int .i64 b.op,.string b.name,.int .i64 b.n,.int .i64 b.ty.kind,.string b.ty.name,.slice p1 n1 c1,.slice ma1 mn1 mc1][i]?:=S2.out.b.cell
   have gC:∀ i,w2.cell? ⟨w.heap.size+2,i,none⟩=[Value.int .i64 c.op,.string c.name,.int .i64 c.n,.int .i64 c.ty.kind,.string c.ty.name,.slice p2 n2 c2,.slice ma2 mn2 mc2][i]?:=S2.out.c.cell
   go_upto_region 4 with (fail)
   have KL:Kept (fun _=>False) w2 (w2.alloc (.cells #[.int .i64 ((mn0:Nat):Int),.int .i64 a.op,.int .i64 b.op,.int .i64 3,.int .i64 c.op,.int .i64 5,.int .i64 1] 3)):=kR.alloc _
   have BL:=Ld (Blk.new w2 3 ([((mn0:Nat):Int),a.op,b.op,3,c.op,5,1].map fun x=>Value.int .i64 x))
   change Hid (Blk (w2.alloc (.cells #[.int .i64 ((mn0:Nat):Int),.int .i64 a.op,.int .i64 b.op,.int .i64 3,.int .i64 c.op,.int .i64 5,.int .i64 1] 3)) _ _ _) at BL
   have SL:=Ld (S2.out.kept KL)
   clear gA gB gC KL S2
   generalize w2.alloc (.cells #[.int .i64 ((mn0:Nat):Int),.int .i64 a.op,.int .i64 b.op,.int .i64 3,.int .i64 c.op,.int .i64 5,.int .i64 1] 3)=w3 at *
   generalize w2.heap.size=G at *
   have HX3:=Ld (HX.out w3 SL.out.k)
   obtain⟨r1,hr1⟩:∃ r1,r1=rplR a b c:=⟨_,rfl⟩
   obtain⟨r2,hr2⟩:∃ r2,r2=rplR va vb vc:=⟨_,rfl⟩
   rw[← hr1] at HX3 HPL HOA HR5
   rw[← hr2] at HPL HOB
   clear hr1 HX
   obtain⟨s1,m1,e1⟩:=r1
   obtain⟨s2,m2,e2⟩:=r2
   obtain⟨rfl,rfl⟩:m2=m1∧e2=e1:=by have h:=HPL.out.2.1;cases h;exact⟨rfl,rfl⟩
   have gA:∀ i,w3.cell? ⟨w.heap.size,i,none⟩=[Value.int .i64 a.op,.string a.name,.int .i64 a.n,.int .i64 a.ty.kind,.string a.ty.name,.slice p0 n0 c0,.slice ma0 mn0 mc0][i]?:=SL.out.a.cell
   have gB:∀ i,w3.cell? ⟨w.heap.size+1,i,none⟩=[Value.int .i64 b.op,.string b.name,.int .i64 b.n,.int .i64 b.ty.kind,.string b.ty.name,.slice p1 n1 c1,.slice ma1 mn1 mc1][i]?:=SL.out.b.cell
   have gC:∀ i,w3.cell? ⟨w.heap.size+2,i,none⟩=[Value.int .i64 c.op,.string c.name,.int .i64 c.n,.int .i64 c.ty.kind,.string c.ty.name,.slice p2 n2 c2,.slice ma2 mn2 mc2][i]?:=SL.out.c.cell
   unfold TmB3 tmVal at HX3
   go_wp2_with fail
   clear gA gB gC
   refine HX3.out.mono ?_
   rintro e w5 ⟨tk,kk,rfl,hty,htm,k5⟩
   have hty:TyL _ w5 s1.ty.kids tk:=hty
   have htm:TmL _ w5 s1.kids kk:=htm
   obtain⟨p3,n3,c3,rfl⟩:=hty.slice
   obtain⟨ma3,mn3,mc3,rfl⟩:=htm.slice
   have S5:=Ld (SL.out.kept k5)
   have L5:=Ld (BL.out.kept k5 (fun e=>e))
   have T5:=Ld (hty.mono (ok':=fun _=>True) (fun _ _ _=>trivial))
   have M5:=Ld (htm.mono (ok':=fun _=>True) (fun _ _ _=>trivial))
   clear hty htm k5 HX3 SL BL
   go_upto_region 5 with (fail)
   have KS:Kept (fun _=>False) w5 (w5.alloc (.cells #[.int .i64 s1.op,.string s1.name,.int .i64 s1.n,.int .i64 s1.ty.kind,.string s1.ty.name,.slice p3 n3 c3,.slice ma3 mn3 mc3] 28)):=kR.alloc _
   have S6:=Ld (S5.out.kept KS)
   have L6:=Ld (L5.out.kept KS (fun e=>e))
   have T6:=Ld (T5.out.frame (sK KS))
   have M6:=Ld (M5.out.frame (sK KS))
   have BP:=Ld (Blk.new w5 28 [Value.int .i64 s1.op,.string s1.name,.int .i64 s1.n,.int .i64 s1.ty.kind,.string s1.ty.name,.slice p3 n3 c3,.slice ma3 mn3 mc3])
   change Hid (Blk (w5.alloc (.cells #[.int .i64 s1.op,.string s1.name,.int .i64 s1.n,.int .i64 s1.ty.kind,.string s1.ty.name,.slice p3 n3 c3,.slice ma3 mn3 mc3] 28)) _ _ _) at BP
   clear KS S5 L5 T5 M5
   generalize w5.alloc (.cells #[.int .i64 s1.op,.string s1.name,.int .i64 s1.n,.int .i64 s1.ty.kind,.string s1.ty.name,.slice p3 n3 c3,.slice ma3 mn3 mc3] 28)=w6 at *
   generalize w5.heap.size=P at *
   have KD:Kept (fun _=>False) w6 w6.drew:=kR.drew
   refine wp_region_mono (L:=Kept (fun _=>False)) (fun i v W=>match i with
    | 0=>v=.agg #[.int .i64 a.op,.string a.name,.int .i64 a.n,.int .i64 a.ty.kind,.string a.ty.name,.slice p0 n0 c0,.slice ma0 mn0 mc0]
    | 1=>v=.slice (some ⟨G,0,none⟩) 7 7
    | 2=>∃ x1 x2 x3 y1 y2 y3,v=.agg #[.int .i64 va.op,.string va.name,.int .i64 va.n,.int .i64 va.ty.kind,.string va.ty.name,.slice x1 x2 x3,.slice y1 y2 y3]∧TyL (fun _=>True) W va.ty.kids (.slice x1 x2 x3)∧TmL (fun _=>True) W va.kids (.slice y1 y2 y3)
    | 3=>v=.agg #[.int .i64 b.op,.string b.name,.int .i64 b.n,.int .i64 b.ty.kind,.string b.ty.name,.slice p1 n1 c1,.slice ma1 mn1 mc1]
    | 4=>v=.slice (some ⟨G,0,none⟩) 7 7
    | 5=>v=.slice (some ⟨G,1,none⟩) 6 6
    | 6=>∃ x1 x2 x3 y1 y2 y3,v=.agg #[.int .i64 vb.op,.string vb.name,.int .i64 vb.n,.int .i64 vb.ty.kind,.string vb.ty.name,.slice x1 x2 x3,.slice y1 y2 y3]∧TyL (fun _=>True) W vb.ty.kids (.slice x1 x2 x3)∧TmL (fun _=>True) W vb.kids (.slice y1 y2 y3)
    | 7=>v=.agg #[.int .i64 c.op,.string c.name,.int .i64 c.n,.int .i64 c.ty.kind,.string c.ty.name,.slice p2 n2 c2,.slice ma2 mn2 mc2]
    | 8=>v=.slice (some ⟨G,0,none⟩) 7 7
    | 9=>v=.slice (some ⟨G,2,none⟩) 5 5
    | 10=>∃ x1 x2 x3 y1 y2 y3,v=.agg #[.int .i64 vc.op,.string vc.name,.int .i64 vc.n,.int .i64 vc.ty.kind,.string vc.ty.name,.slice x1 x2 x3,.slice y1 y2 y3]∧TyL (fun _=>True) W vc.ty.kids (.slice x1 x2 x3)∧TmL (fun _=>True) W vc.kids (.slice y1 y2 y3)
    | 11=>∃ x1 x2 x3 y1 y2 y3,v=.tuple #[.agg #[.int .i64 s2.op,.string s2.name,.int .i64 s2.n,.int .i64 s2.ty.kind,.string s2.ty.name,.slice x1 x2 x3,.slice y1 y2 y3],.int .i64 ((m2:Nat):Int),.int .i64 e2]∧TyL (fun _=>True) W s2.ty.kids (.slice x1 x2 x3)∧TmL (fun _=>True) W s2.kids (.slice y1 y2 y3)
    | 12=>∃ x1 x2 x3 y1 y2 y3,v=.tuple #[.agg #[.int .i64 s2.op,.string s2.name,.int .i64 s2.n,.int .i64 s2.ty.kind,.string s2.ty.name,.slice x1 x2 x3,.slice y1 y2 y3],.int .i64 ((m2:Nat):Int),.int .i64 e2]∧TyL (fun _=>True) W s2.ty.kids (.slice x1 x2 x3)∧TmL (fun _=>True) W s2.kids (.slice y1 y2 y3)
    | 13=>∃ x1 x2 x3 y1 y2 y3,v=.agg #[.int .i64 s2.op,.string s2.name,.int .i64 s2.n,.int .i64 s2.ty.kind,.string s2.ty.name,.slice x1 x2 x3,.slice y1 y2 y3]∧TyL (fun _=>True) W s2.ty.kids (.slice x1 x2 x3)∧TmL (fun _=>True) W s2.kids (.slice y1 y2 y3)
    | 14=>v=.int .i64 ((m2:Nat):Int)
    | 15=>v=.int .i64 e2
    | 16=>∃ g,v=.pointer (some ⟨g,0,none⟩)∧Blk W g 28 z27∧w6.heap.size≤g
    | _=>True) [17,18,19] [14,15] 80 (by kernel_rfl) rfl (by kernel_rfl) (by kernel_rfl) (fun w=>Kept.refl _ w) (fun _ _ _ h1 h2=>h1.trans h2) (fun c d v a w h=>by cases d <;> exact h) ?_ ?_
   ·refine allM_cons rfl (stepM_of [] rfl fun W k=>allV_nil ?_) ?_
    ·have q:=KD.trans k
     have gX:∀ i,W.cell? ⟨w.heap.size,i,none⟩=[Value.int .i64 a.op,.string a.name,.int .i64 a.n,.int .i64 a.ty.kind,.string a.ty.name,.slice p0 n0 c0,.slice ma0 mn0 mc0][i]?:=((S6.out.kept q).a).cell
     refine opW_go rfl fun K hK=>?_
     go_simp
     exact hK _ _ (KT.mk kR rfl 47 rfl rfl)
    refine allM_cons rfl (stepM_of [] rfl fun W k=>allV_nil ?_) ?_
    ·refine opW_go rfl fun K hK=>?_
     go_simp
     exact hK _ _ (KT.mk kR rfl 48 rfl rfl)
    refine allM_cons rfl (stepM_of [0,1] rfl fun W k=>allV_some 47 rfl fun v0 h0=>allV_some 48 rfl fun v1 h1=>allV_nil ?_) ?_
    ·obtain⟨w1,k1,rfl⟩:=h0
     obtain⟨w2,k2,rfl⟩:=h1
     refine opW_go rfl fun K hK=>?_
     go_simp
     go_at_call 35
     have q:=KD.trans k
     refine (HY1.out W (S6.out.k.trans q) _ (inl_at 0 (L6.out.kept q (fun e=>e)) rfl (Nat.le_refl _))).mono ?_
     rintro e w' ⟨tk,kk,rfl,q1,q2,k'⟩
     obtain⟨x1,x2,x3,rfl⟩:=q1.slice
     obtain⟨y1,y2,y3,rfl⟩:=q2.slice
     exact hK _ _ (KT.mk k' rfl 49 rfl ⟨x1,x2,x3,y1,y2,y3,rfl,q1.mono (fun _ _ _=>trivial),q2.mono (fun _ _ _=>trivial)⟩)
    refine allM_cons rfl (stepM_of [] rfl fun W k=>allV_nil ?_) ?_
    ·have q:=KD.trans k
     have gX:∀ i,W.cell? ⟨w.heap.size+1,i,none⟩=[Value.int .i64 b.op,.string b.name,.int .i64 b.n,.int .i64 b.ty.kind,.string b.ty.name,.slice p1 n1 c1,.slice ma1 mn1 mc1][i]?:=((S6.out.kept q).b).cell
     refine opW_go rfl fun K hK=>?_
     go_simp
     exact hK _ _ (KT.mk kR rfl 50 rfl rfl)
    refine allM_cons rfl (stepM_of [] rfl fun W k=>allV_nil ?_) ?_
    ·refine opW_go rfl fun K hK=>?_
     go_simp
     exact hK _ _ (KT.mk kR rfl 51 rfl rfl)
    refine allM_cons rfl (stepM_of [4] rfl fun W k=>allV_some 51 rfl fun v0 h0=>allV_nil ?_) ?_
    ·obtain⟨w1,k1,rfl⟩:=h0
     refine opW_go rfl fun K hK=>?_
     go_simp
     exact hK _ _ (KT.mk kR rfl 52 rfl rfl)
    refine allM_cons rfl (stepM_of [3,5,2] rfl fun W k=>allV_some 50 rfl fun v0 h0=>allV_some 52 rfl fun v1 h1=>allV_some 49 rfl fun v2 h2=>allV_nil ?_) ?_
    ·obtain⟨w1,k1,rfl⟩:=h0
     obtain⟨w2,k2,rfl⟩:=h1
     clear h2
     refine opW_go rfl fun K hK=>?_
     go_simp
     go_at_call 35
     have q:=KD.trans k
     refine (HY2.out W (S6.out.k.trans q) _ (inl_at 1 (L6.out.kept q (fun e=>e)) rfl (Nat.le_refl _))).mono ?_
     rintro e w' ⟨tk,kk,rfl,q1,q2,k'⟩
     obtain⟨x1,x2,x3,rfl⟩:=q1.slice
     obtain⟨y1,y2,y3,rfl⟩:=q2.slice
     exact hK _ _ (KT.mk k' rfl 53 rfl ⟨x1,x2,x3,y1,y2,y3,rfl,q1.mono (fun _ _ _=>trivial),q2.mono (fun _ _ _=>trivial)⟩)
    refine allM_cons rfl (stepM_of [] rfl fun W k=>allV_nil ?_) ?_
    ·have q:=KD.trans k
     have gX:∀ i,W.cell? ⟨w.heap.size+2,i,none⟩=[Value.int .i64 c.op,.string c.name,.int .i64 c.n,.int .i64 c.ty.kind,.string c.ty.name,.slice p2 n2 c2,.slice ma2 mn2 mc2][i]?:=((S6.out.kept q).c).cell
     refine opW_go rfl fun K hK=>?_
     go_simp
     exact hK _ _ (KT.mk kR rfl 54 rfl rfl)
    refine allM_cons rfl (stepM_of [] rfl fun W k=>allV_nil ?_) ?_
    ·refine opW_go rfl fun K hK=>?_
     go_simp
     exact hK _ _ (KT.mk kR rfl 55 rfl rfl)
    refine allM_cons rfl (stepM_of [8] rfl fun W k=>allV_some 55 rfl fun v0 h0=>allV_nil ?_) ?_
    ·obtain⟨w1,k1,rfl⟩:=h0
     refine opW_go rfl fun K hK=>?_
     go_simp
     exact hK _ _ (KT.mk kR rfl 56 rfl rfl)
    refine allM_cons rfl (stepM_of [7,9,6] rfl fun W k=>allV_some 54 rfl fun v0 h0=>allV_some 56 rfl fun v1 h1=>allV_some 53 rfl fun v2 h2=>allV_nil ?_) ?_
    ·obtain⟨w1,k1,rfl⟩:=h0
     obtain⟨w2,k2,rfl⟩:=h1
     clear h2
     refine opW_go rfl fun K hK=>?_
     go_simp
     go_at_call 35
     have q:=KD.trans k
     refine (HY3.out W (S6.out.k.trans q) _ (inl_at 2 (L6.out.kept q (fun e=>e)) rfl (Nat.le_refl _))).mono ?_
     rintro e w' ⟨tk,kk,rfl,q1,q2,k'⟩
     obtain⟨x1,x2,x3,rfl⟩:=q1.slice
     obtain⟨y1,y2,y3,rfl⟩:=q2.slice
     exact hK _ _ (KT.mk k' rfl 57 rfl ⟨x1,x2,x3,y1,y2,y3,rfl,q1.mono (fun _ _ _=>trivial),q2.mono (fun _ _ _=>trivial)⟩)
    refine allM_cons rfl (stepM_of [2,6,10,10] rfl fun W k=>allV_some 49 rfl fun v0 h0=>allV_some 53 rfl fun v1 h1=>allV_some 57 rfl fun v2 h2=>allV_some 57 rfl fun v3 h3=>allV_nil ?_) ?_
    ·obtain⟨w1,k1,x1,x2,x3,y1,y2,y3,rfl,q1,q2⟩:=h0
     obtain⟨w2,k2,a1,a2,a3,b1,b2,b3,rfl,q3,q4⟩:=h1
     clear h2
     obtain⟨w4,k4,d1,d2,d3,f1,f2,f3,rfl,q5,q6⟩:=h3
     refine opW_go rfl fun K hK=>?_
     go_simp
     go_at_call 44
     have hs:=prd_any (t:=va) (fm:=vb) (tu:=vc) (q1.frame (sK k1)) (q2.frame (sK k1)) HVV.out.1 (q3.frame (sK k2)) (q4.frame (sK k2)) HVV.out.2.1 (q5.frame (sK k4)) (q6.frame (sK k4)) HVV.out.2.2 (HPP.out W (S6.out.k.trans (KD.trans k)))
     rw[← hr2] at hs
     unfold TmB3 tmVal at hs
     refine hs.mono ?_
     rintro e w' ⟨tk,kk,rfl,h5,h6,k'⟩
     have h5:TyL _ w' s2.ty.kids tk:=h5
     have h6:TmL _ w' s2.kids kk:=h6
     obtain⟨x1,x2,x3,rfl⟩:=h5.slice
     obtain⟨y1,y2,y3,rfl⟩:=h6.slice
     exact hK _ _ (KT.mk k' rfl 58 rfl ⟨x1,x2,x3,y1,y2,y3,rfl,h5.mono (fun _ _ _=>trivial),h6.mono (fun _ _ _=>trivial)⟩)
    refine allM_cons rfl (stepM_of [11] rfl fun W k=>allV_some 58 rfl fun v0 h0=>allV_nil ?_) ?_
    ·obtain⟨w1,k1,x1,x2,x3,y1,y2,y3,rfl,q1,q2⟩:=h0
     refine opW_go rfl fun K hK=>?_
     go_simp
     exact hK _ _ (KT.mk kR rfl 46 rfl ⟨x1,x2,x3,y1,y2,y3,rfl,(q1.frame (sK k1)),(q2.frame (sK k1))⟩)
    refine allM_cons rfl (stepM_of [12] rfl fun W k=>allV_some 46 rfl fun v0 h0=>allV_nil ?_) ?_
    ·obtain⟨w1,k1,x1,x2,x3,y1,y2,y3,rfl,q1,q2⟩:=h0
     refine opW_go rfl fun K hK=>?_
     go_simp
     exact hK _ _ (KT.mk kR rfl 59 rfl ⟨x1,x2,x3,y1,y2,y3,rfl,(q1.frame (sK k1)),(q2.frame (sK k1))⟩)
    refine allM_pure (stepE_of [12] rfl fun W k=>allV_some 46 rfl fun v0 h0=>allV_nil ?_) ?_
    ·obtain⟨w1,k1,x1,x2,x3,y1,y2,y3,rfl,q1,q2⟩:=h0
     exact opY_mk (.int .i64 ((m2:Nat):Int)) rfl (fun W'=>by go_simp) rfl
    refine allM_pure (stepE_of [12] rfl fun W k=>allV_some 46 rfl fun v0 h0=>allV_nil ?_) ?_
    ·obtain⟨w1,k1,x1,x2,x3,y1,y2,y3,rfl,q1,q2⟩:=h0
     exact opY_mk (.int .i64 e2) rfl (fun W'=>by go_simp) rfl
    refine allM_cons rfl (stepM_of [] rfl fun W k=>allV_nil ?_) ?_
    ·refine opW_go rfl fun K hK=>?_
     go_simp
     exact hK _ _ (KT.mk (kR.alloc _) rfl 11 rfl ⟨_,rfl,Blk.new W 28 z27,(KD.trans k).size⟩)
    refine allM_tail rfl ?_
    refine allM_tail rfl ?_
    refine allM_tail rfl ?_
    exact allM_nil
   ·intro W kW
    have hh:(List.range 20).filter (fun i=>!([17,18,19]:List Nat).contains i)=[0,1,2,3,4,5,6,7,8,9,10,11,12,13,14,15,16]:=by decide
    change allV _ _ _ _ _ ((List.range 20).filter (fun i=>!([17,18,19]:List Nat).contains i)) _
    rw[hh]
    generalize hKK:(fun a1=>wpList Tryz.prog _ _ (pickT [17,18,19] 0 _) a1 W)=KK
    refine allV_some 47 (by kernel_rfl) ?_
    intro v0 h0
    refine allV_some 48 (by kernel_rfl) ?_
    intro v1 h1
    refine allV_some 49 (by kernel_rfl) ?_
    intro v2 h2
    refine allV_some 50 (by kernel_rfl) ?_
    intro v3 h3
    refine allV_some 51 (by kernel_rfl) ?_
    intro v4 h4
    refine allV_some 52 (by kernel_rfl) ?_
    intro v5 h5
    refine allV_some 53 (by kernel_rfl) ?_
    intro v6 h6
    refine allV_some 54 (by kernel_rfl) ?_
    intro v7 h7
    refine allV_some 55 (by kernel_rfl) ?_
    intro v8 h8
    refine allV_some 56 (by kernel_rfl) ?_
    intro v9 h9
    refine allV_some 57 (by kernel_rfl) ?_
    intro v10 h10
    refine allV_some 58 (by kernel_rfl) ?_
    intro v11 h11
    refine allV_some 46 (by kernel_rfl) ?_
    intro v12 h12
    refine allV_some 59 (by kernel_rfl) ?_
    intro v13 h13
    refine allV_some 60 (by kernel_rfl) ?_
    intro v14 h14
    refine allV_some 61 (by kernel_rfl) ?_
    intro v15 h15
    refine allV_some 11 (by kernel_rfl) ?_
    intro v16 h16
    refine allV_nil ?_
    clear h0
    clear h1
    clear h2
    clear h3
    clear h4
    clear h5
    clear h6
    clear h7
    clear h8
    clear h9
    clear h10
    clear h11
    clear h12
    obtain⟨w13,k13,x1,x2,x3,y1,y2,y3,rfl,q1,q2⟩:=h13
    obtain⟨w14,k14,rfl⟩:=h14
    obtain⟨w15,k15,rfl⟩:=h15
    obtain⟨w16,k16,G2,rfl,hbx,hge⟩:=h16
    subst hKK
    have KW:Kept (fun _=>False) w6 W:=KD.trans kW
    have HB2:=Ld (hbx.kept k16 (fun h=>h))
    have HQ:=Ld (HOB.out.1.nz HB2.out (q1.frame (sK k13)) (q2.frame (sK k13)))
    have HZ:Hid (P<w6.heap.size∧w.heap.size≤w6.heap.size∧w6.heap.size≤G2):=Ld ⟨BP.out.lt,S6.out.k.size,hge⟩
    have BW:Hid (Blk (((((((W.setCell ⟨G2,0,none⟩ (.int .i64 s2.op)).setCell ⟨G2,1,none⟩ (.string s2.name)).setCell ⟨G2,2,none⟩ (.int .i64 s2.n)).setCell ⟨G2,3,none⟩ (.int .i64 s2.ty.kind)).setCell ⟨G2,4,none⟩ (.string s2.ty.name)).setCell ⟨G2,5,none⟩ (.slice x1 x2 x3)).setCell ⟨G2,6,none⟩ (.slice y1 y2 y3)) P 28 [Value.int .i64 s1.op,.string s1.name,.int .i64 s1.n,.int .i64 s1.ty.kind,.string s1.ty.name,.slice p3 n3 c3,.slice ma3 mn3 mc3]∧Blk (((((((W.setCell ⟨G2,0,none⟩ (.int .i64 s2.op)).setCell ⟨G2,1,none⟩ (.string s2.name)).setCell ⟨G2,2,none⟩ (.int .i64 s2.n)).setCell ⟨G2,3,none⟩ (.int .i64 s2.ty.kind)).setCell ⟨G2,4,none⟩ (.string s2.ty.name)).setCell ⟨G2,5,none⟩ (.slice x1 x2 x3)).setCell ⟨G2,6,none⟩ (.slice y1 y2 y3)) G2 28 [Value.int .i64 s2.op,.string s2.name,.int .i64 s2.n,.int .i64 s2.ty.kind,.string s2.ty.name,.slice x1 x2 x3,.slice y1 y2 y3]∧Kept (fun _=>False) w (((((((W.setCell ⟨G2,0,none⟩ (.int .i64 s2.op)).setCell ⟨G2,1,none⟩ (.string s2.name)).setCell ⟨G2,2,none⟩ (.int .i64 s2.n)).setCell ⟨G2,3,none⟩ (.int .i64 s2.ty.kind)).setCell ⟨G2,4,none⟩ (.string s2.ty.name)).setCell ⟨G2,5,none⟩ (.slice x1 x2 x3)).setCell ⟨G2,6,none⟩ (.slice y1 y2 y3))∧TyL (fun _=>True) (((((((W.setCell ⟨G2,0,none⟩ (.int .i64 s2.op)).setCell ⟨G2,1,none⟩ (.string s2.name)).setCell ⟨G2,2,none⟩ (.int .i64 s2.n)).setCell ⟨G2,3,none⟩ (.int .i64 s2.ty.kind)).setCell ⟨G2,4,none⟩ (.string s2.ty.name)).setCell ⟨G2,5,none⟩ (.slice x1 x2 x3)).setCell ⟨G2,6,none⟩ (.slice y1 y2 y3)) s1.ty.kids (.slice p3 n3 c3)∧TmL (fun _=>True) (((((((W.setCell ⟨G2,0,none⟩ (.int .i64 s2.op)).setCell ⟨G2,1,none⟩ (.string s2.name)).setCell ⟨G2,2,none⟩ (.int .i64 s2.n)).setCell ⟨G2,3,none⟩ (.int .i64 s2.ty.kind)).setCell ⟨G2,4,none⟩ (.string s2.ty.name)).setCell ⟨G2,5,none⟩ (.slice x1 x2 x3)).setCell ⟨G2,6,none⟩ (.slice y1 y2 y3)) s1.kids (.slice ma3 mn3 mc3)∧TyL (fun _=>True) (((((((W.setCell ⟨G2,0,none⟩ (.int .i64 s2.op)).setCell ⟨G2,1,none⟩ (.string s2.name)).setCell ⟨G2,2,none⟩ (.int .i64 s2.n)).setCell ⟨G2,3,none⟩ (.int .i64 s2.ty.kind)).setCell ⟨G2,4,none⟩ (.string s2.ty.name)).setCell ⟨G2,5,none⟩ (.slice x1 x2 x3)).setCell ⟨G2,6,none⟩ (.slice y1 y2 y3)) s2.ty.kids (.slice x1 x2 x3)∧TmL (fun _=>True) (((((((W.setCell ⟨G2,0,none⟩ (.int .i64 s2.op)).setCell ⟨G2,1,none⟩ (.string s2.name)).setCell ⟨G2,2,none⟩ (.int .i64 s2.n)).setCell ⟨G2,3,none⟩ (.int .i64 s2.ty.kind)).setCell ⟨G2,4,none⟩ (.string s2.ty.name)).setCell ⟨G2,5,none⟩ (.slice x1 x2 x3)).setCell ⟨G2,6,none⟩ (.slice y1 y2 y3)) s2.kids (.slice y1 y2 y3)):=Ld (by
     have hz:=HZ.out
     refine⟨b7w (BP.out.kept KW (fun h=>h)) (by omega),r7 HB2.out rfl,k7w (S6.out.k.trans KW) (Or.inr (by omega)),?_,?_,?_,?_⟩
     ·exact ((((T6.out.mono (ok':=fun q=>q<w6.heap.size) (fun q hq _=>hq)).frame (sK KW)).frame (set7 (fun q hq=>by omega)))).mono (fun _ _ _=>trivial)
     ·exact ((((M6.out.mono (ok':=fun q=>q<w6.heap.size) (fun q hq _=>hq)).frame (sK KW)).frame (set7 (fun q hq=>by omega)))).mono (fun _ _ _=>trivial)
     ·exact (HQ.out.1.frame (set7 (fun q hq=>hq.2))).mono (fun _ _ _=>trivial)
     ·exact (HQ.out.2.frame (set7 (fun q hq=>hq.2))).mono (fun _ _ _=>trivial))
    have gG:∀ i,W.cell? ⟨G2,i,none⟩=[Value.int .i64 0,.string ⟨#[]⟩,.int .i64 0,.int .i64 0,.string ⟨#[]⟩,.slice none 0 0,.slice none 0 0][i]?:=HB2.out.cell
    have fG:∀ i,W.frozen? ⟨G2,i,none⟩=false:=HB2.out.frozen
    have HSS:Hid (SmTm big s1∧SmTm big s2∧(e2=0→alB s1 s2=true)∧(e2=0∨e2=5)):=Ld ⟨HOA.out.2.1,HOB.out.2.1,HPL.out.2.2,HR5.out⟩
    clear hbx hge q1 q2 k13 k14 k15 k16 KW kW HQ HZ HB2 hh HY1 HY2 HY3 HPP HVV hr2 HPL HOA HOB HR5 KD L6 T6 M6 BP S6
    show wpList Tryz.prog _ _ [_,_,_] _ W
    simp only[Act.put,List.setIfInBounds_toArray,List.set_cons_succ,List.set_cons_zero]
    go_upto_region 6 with (fail)
    generalize (((((((W.setCell ⟨G2,0,none⟩ (.int .i64 s2.op)).setCell ⟨G2,1,none⟩ (.string s2.name)).setCell ⟨G2,2,none⟩ (.int .i64 s2.n)).setCell ⟨G2,3,none⟩ (.int .i64 s2.ty.kind)).setCell ⟨G2,4,none⟩ (.string s2.ty.name)).setCell ⟨G2,5,none⟩ (.slice x1 x2 x3)).setCell ⟨G2,6,none⟩ (.slice y1 y2 y3))=w7 at *
    clear gG fG
    rcases HSS.out.2.2.2 with rfl | rfl
    ·have HA:=Ld (ralikes_any BW.out.2.2.2.1 BW.out.2.2.2.2.1 BW.out.2.2.2.2.2.1 BW.out.2.2.2.2.2.2 HSS.out.1 HSS.out.2.1)
     rw[HSS.out.2.2.1 rfl] at HA
     unfold tmVal at HA
     have gP:∀ i,w7.cell? ⟨P,i,none⟩=[Value.int .i64 s1.op,.string s1.name,.int .i64 s1.n,.int .i64 s1.ty.kind,.string s1.ty.name,.slice p3 n3 c3,.slice ma3 mn3 mc3][i]?:=BW.out.1.cell
     have gG:∀ i,w7.cell? ⟨G2,i,none⟩=[Value.int .i64 s2.op,.string s2.name,.int .i64 s2.n,.int .i64 s2.ty.kind,.string s2.ty.name,.slice x1 x2 x3,.slice y1 y2 y3][i]?:=BW.out.2.1.cell
     clear HSS
     go_wp2_with fail
     refine HA.out.mono ?_
     rintro e w8 ⟨rfl,k8⟩
     have K8:=Ld (BW.out.2.2.1.trans k8)
     clear k8 HA BW gP gG
     go_wp2_with fail
     refine (H15.out w8 K8.out).mono ?_
     rintro e w9 ⟨rfl,k9⟩
     have K9:=Ld (K8.out.trans k9)
     clear k9
     go_wp2_with fail
     go_ret
     exact⟨rfl,K9.out⟩
    ·have K7:=Ld BW.out.2.2.1
     clear HSS BW
     go_wp2_with fail
     refine (H15.out w7 K7.out).mono ?_
     rintro e w9 ⟨rfl,k9⟩
     have K9:=Ld (K7.out.trans k9)
     clear k9
     go_wp2_with fail
     go_ret
     exact⟨rfl,K9.out⟩
end Go.Proofs.YtfhedienjnfdcaaGreatDoor
namespace Go.Proofs.YtfhedienjnfdcaaGreatDoor
open Go.ChangeShapes Go.WideShapes Go.ChangeAt Go.RowKit
theorem gPow : Tryz.prog.globalNamed "internal/strconv.uint64pow10" = some 1 := by kernel_rfl
theorem gPowT:(Tryz.prog.globals[1]?).map (·.type)=some 227:=by kernel_rfl
theorem p10_of_laid {W:World} (h:laidMetH Tryz.prog Rows.termSubstAlikeRow.laid W):P10 W:=by
 have h0:laidMet Tryz.prog Rows.termSubstAlikeRow.laid W:=h
 exact Lib.tabIs_of_head gPow gPowT Tryz.underlying227 Tryz.underlying212 (by kernel_rfl) (by kernel_rfl) h0.tail.tail
end Go.Proofs.YtfhedienjnfdcaaGreatDoor
namespace Go.Proofs.YtfhedienjnfdcaaGreatDoor
open Go.RowKit
section
variable {H:Type} {enc:TypeId×Value→H} {w:World} {spare:Nat→Bool} {held:Bool}
theorem cells_3:Tryz.prog.cellsOf 3=1:=by kernel_rfl
theorem at_some {α:Type} {x:Option α} {l:List α} {i:Nat} (h:x=l[i]?) (hi:i<l.length):∃ y,x=some y:=⟨l[i],by rw[h,List.getElem?_eq_getElem hi]⟩
theorem cell_plain {a:Addr} {v:Value} (h:w.cell? a=some v):a=⟨a.block,a.off,none⟩:=by
 obtain⟨b,o,sp⟩:=a
 cases sp with
 | none=>rfl
 | some k=>
  unfold World.cell? at h
  cases hb:w.heap[b]? with
  | none=>simp[hb] at h
  | some ob=>cases ob <;> simp[hb] at h
theorem add_plain (b o n:Nat):(⟨b,o,none⟩:Addr).add n=⟨b,o+n,none⟩:=by unfold Addr.add;split <;> simp_all
theorem add_zero (a:Addr):a.add 0=a:=rfl
theorem elems_at {α:Type} {a:Addr} {len k:Nat} {f:List Value→Option α} {elems:List α} (hl:elems.length=len) (hk:0<k) (h:∀ i,i<len→(w.cells? 0 (a.add (i*k)) k).bind f=elems[i]?) (h0:0<len):
  ∃ b o,a=⟨b,o,none⟩∧∀ i,i<len→∃ cs y,cs.length=k∧(∀ j,j<k→w.cell? ⟨b,o+i*k+j,none⟩=cs[j]?)∧f cs=some y:=by
 have hc:∀ i,i<len→∃ cs y,w.cells? 0 (a.add (i*k)) k=some cs∧f cs=some y:=by
  intro i hi
  obtain⟨y,hy⟩:=at_some (h i hi) (by omega)
  obtain⟨cs,h1,h2⟩:=Option.bind_eq_some_iff.1 hy
  exact⟨cs,y,h1,h2⟩
 obtain⟨cs,y,h1,h2⟩:=hc 0 h0
 obtain⟨_,hl',hcell⟩:=World.cells?_some h1
 have h3:=hcell 0 hk
 rw[Nat.zero_mul,add_zero,add_zero,List.getElem?_eq_getElem (by omega)] at h3
 have ha:=cell_plain h3
 refine⟨a.block,a.off,ha,fun i hi=>?_⟩
 obtain⟨cs,y,h1,h2⟩:=hc i hi
 obtain⟨_,hl',hcell⟩:=World.cells?_some h1
 refine⟨cs,y,hl',fun j hj=>?_,h2⟩
 rw[← hcell j hj]
 rw[ha,add_plain,add_plain]
end
end Go.Proofs.YtfhedienjnfdcaaGreatDoor
namespace Go.Proofs.YtfhedienjnfdcaaGreatDoor
open Go.ChangeShapes Go.WideShapes Go.ChangeAt Go.RowKit
theorem below_of_kept {w w':World} (k:Kept (fun _=>False) w w'):Below w.heap.size w w':=⟨k.os,k.tape,k.output,k.size,fun q hq=>k.block q hq (fun e=>e)⟩
theorem laidOut0:laidOutB Tryz.prog=true:=by kernel_rfl
theorem back_of {H:Type} {enc:TypeId×Value→H} {W W':World} {T:TypeId} {v:Value} {d:DataW H} {p:List MemPlace} (h1:Tryz.prog.readableRec T=true) (h2:T<Tryz.prog.types.size) (h:DataW.Trod enc Tryz.prog W 0 (fun _=>true) true T v d p) (k:Kept (fun _=>False) W W') (hlt:∀ x∈p,x.block<W.heap.size):
  DataW.Trod enc Tryz.prog W' 0 (fun b=>decide (b<W.heap.size)) true T v d p:=Below.trod laidOut0 h1 h2 h (below_of_kept k) hlt
theorem size_ok {n:Nat} (h:n<248):n<Tryz.prog.types.size:=Nat.lt_of_lt_of_le h (of_decide_eq_true (by kernel_rfl))
end Go.Proofs.YtfhedienjnfdcaaGreatDoor
