/- A part. -/
import Derived.Test.YtdmebjbkccjhbaaGreatDoorK16
import Derived.Test.YtdmebjbkccjhbaaGreatDoorK20
set_option linter.unusedVariables false
set_option linter.unusedSimpArgs false
set_option maxRecDepth 100000
set_option maxHeartbeats 32000000
namespace Go.Proofs.YtdmebjbkccjhbaaGreatDoor
open Go.RowKit
def want1 (l:List (ByteArray×Tm)) (s:ByteArray):List ByteArray:=match look l s with | none=>[s] | some u=>freS u
def wantL (l:List (ByteArray×Tm)) (q:List ByteArray):List ByteArray:=q.flatMap (want1 l)
def noneP (l:List (ByteArray×Tm)) (q:List ByteArray):Bool:=l.all (fun b=>!mb b.1 q)
theorem freS_le {u:Tm}:(freS u).length≤2000:=by
 unfold freS
 split
 ·rename_i h
  have h1:=srtS_len (fr u) []
  have h2:=frs_len u
  have h3:=((valid_iff u).1 h).2.1
  simp at h1
  omega
 ·simp
theorem freS_asc (t:Tm):Asc (freS t):=by
 unfold freS
 split
 ·exact srtS_asc _ _ List.Pairwise.nil
 ·exact List.Pairwise.nil
def costL (l:List (ByteArray×Tm)) (s:ByteArray):Nat:=if (look l s).isSome then 2000 else 1
theorem want1_le (l:List (ByteArray×Tm)) (s:ByteArray):(want1 l s).length≤costL l s:=by
 unfold want1 costL
 cases look l s with
 | none=>simp
 | some u=>simp;exact freS_le
def sumC (f:ByteArray→Nat):List ByteArray→Nat
 | []=>0
 | s::q=>f s+sumC f q
theorem wantL_le (l:List (ByteArray×Tm)):∀ q:List ByteArray,(wantL l q).length≤sumC (costL l) q
 | []=>Nat.le_refl _
 | s::q=>by
  have:=want1_le l s
  have:=wantL_le l q
  unfold wantL at *
  rw[List.flatMap_cons,List.length_append,sumC]
  omega
theorem sumC_add (f g h:ByteArray→Nat) (e:∀ s,f s≤g s+h s):∀ q,sumC f q≤sumC g q+sumC h q
 | []=>Nat.le_refl _
 | s::q=>by
  have:=e s
  have:=sumC_add f g h e q
  rw[sumC,sumC,sumC];omega
theorem sumC_no (x:ByteArray):∀ q:List ByteArray,x ∉ q→sumC (fun s=>if s=x then 2000 else 0) q=0
 | [],_=>rfl
 | s::q,h=>by
  rw[sumC,if_neg (fun e=>h (by rw[e];simp)),sumC_no x q (fun e=>h (List.mem_cons_of_mem _ e))]
theorem sumC_one (x:ByteArray):∀ q:List ByteArray,q.Nodup→sumC (fun s=>if s=x then 2000 else 0) q≤2000
 | [],_=>Nat.zero_le _
 | s::q,h=>by
  have h':=List.nodup_cons.1 h
  rw[sumC]
  by_cases e:s=x
  ·rw[if_pos e,sumC_no x q (by rw[← e];exact h'.1)];exact Nat.le_refl _
  ·rw[if_neg e];have:=sumC_one x q h'.2;omega
theorem sumC_nil:∀ q:List ByteArray,sumC (costL []) q=q.length
 | []=>rfl
 | s::q=>by rw[sumC,sumC_nil q,List.length_cons];unfold costL;simp[look];omega
theorem cost_le:∀ (l:List (ByteArray×Tm)) (q:List ByteArray),q.Nodup→sumC (costL l) q≤q.length+2000*l.length
 | [],q,_=>by rw[sumC_nil];simp
 | b::l,q,h=>by
  have h1:=sumC_add (costL (b::l)) (costL l) (fun s=>if s=b.1 then 2000 else 0) (fun s=>by
   unfold costL
   rw[look]
   by_cases e:b.1=s
   ·rw[if_pos e,if_pos e.symm];simp
   ·rw[if_neg e,if_neg (Ne.symm e)];exact Nat.le_refl _) q
  have h2:=sumC_one b.1 q h
  have h3:=cost_le l q h
  rw[List.length_cons]
  omega
theorem asc_nodup {q:List ByteArray} (h:Asc q):q.Nodup:=h.imp (fun h=>lessS_ne h)
theorem want_len {t:Tm} {l:List (ByteArray×Tm)} (hn:l.length≤40):(wantL l (freS t)).length≤90000:=by
 have h1:=wantL_le l (freS t)
 have h2:=cost_le l (freS t) (asc_nodup (freS_asc t))
 have h3:=freS_le (u:=t)
 omega
theorem wantL_take {l:List (ByteArray×Tm)} {q:List ByteArray} {j:Nat} (h:j<q.length):wantL l (q.take (j+1))=wantL l (q.take j)++want1 l q[j]:=by
 unfold wantL
 rw[List.take_succ_eq_append_getElem h,List.flatMap_append]
 simp
theorem wantL_split (l:List (ByteArray×Tm)) (q:List ByteArray) (j:Nat):wantL l q=wantL l (q.take j)++wantL l (q.drop j):=by
 unfold wantL
 rw[← List.flatMap_append,List.take_append_drop]
theorem wantL_pre {l:List (ByteArray×Tm)} {q:List ByteArray} (j:Nat):(wantL l (q.take j)).length≤(wantL l q).length:=by
 rw[wantL_split l q j,List.length_append];omega
theorem noneP_take {l:List (ByteArray×Tm)} {q:List ByteArray} {i:Nat} (h:i<l.length):noneP (l.take (i+1)) q=(noneP (l.take i) q&&!mb l[i].1 q):=by
 unfold noneP
 rw[List.take_succ_eq_append_getElem h,List.all_append]
 simp
theorem vB_take {l:List (ByteArray×Tm)} {i:Nat} (h:i<l.length):(l.take (i+1)).all vB=((l.take i).all vB&&vB l[i]):=by
 rw[List.take_succ_eq_append_getElem h,List.all_append]
 simp
theorem look_hit {s:ByteArray}:∀ {l:List (ByteArray×Tm)} {k:Nat} (h:k<l.length),(∀ j (hj:j<l.length),j<k→l[j].1≠s)→l[k].1=s→look l s=some l[k].2
 | b::l,0,h,_,e=>by
  have e2:b.1=s:=e
  rw[look,if_pos e2];rfl
 | b::l,k+1,h,hn,e=>by
  have h0:b.1≠s:=hn 0 (by simp) (by omega)
  rw[look,if_neg h0]
  have:=look_hit (l:=l) (k:=k) (by simpa using h) (fun j hj hjk=>hn (j+1) (by simpa using hj) (by omega)) e
  exact this
theorem look_miss {s:ByteArray}:∀ {l:List (ByteArray×Tm)},(∀ j (hj:j<l.length),l[j].1≠s)→look l s=none
 | [],_=>rfl
 | b::l,hn=>by
  have h0:b.1≠s:=hn 0 (by simp)
  rw[look,if_neg h0]
  exact look_miss (fun j hj=>hn (j+1) (by simpa using hj))
theorem look_fst {s:ByteArray} {u:Tm}:∀ {l:List (ByteArray×Tm)},look l s=some u→∃ b∈l,b.1=s
 | b::l,h=>by
  rw[look] at h
  by_cases e:b.1=s
  ·exact⟨b,by simp,e⟩
  ·rw[if_neg e] at h
   obtain⟨c,hc,e2⟩:=look_fst h
   exact⟨c,List.mem_cons_of_mem _ hc,e2⟩
theorem none_id {t:Tm} {l:List (ByteArray×Tm)} (ht:validB t=true) (h:noneP l (freS t)=true):subT freshS t l=t:=by
 refine sub_none ((valid_iff t).1 ht).1 l (fun s hs=>?_)
 cases hk:look l s with
 | none=>rfl
 | some u=>
  obtain⟨b,hb,e⟩:=look_fst hk
  unfold noneP at h
  have h1:=List.all_eq_true.1 h b hb
  rw[freS_mb ht,e,(mb_iff _ _).2 hs] at h1
  cases h1
theorem want_mem {t:Tm} {l:List (ByteArray×Tm)} (ht:validB t=true) (hl:l.all vB=true) (hn:l.length≤40) (x:ByteArray):x∈wantL l (freS t)↔x∈fr (subT freshS t l):=by
 rw[fr_sub ht hl (by omega)]
 unfold wantL
 rw[List.mem_flatMap]
 have hin:∀ s,s∈freS t↔s∈fr t:=fun s=>by rw[← mb_iff,freS_mb ht,mb_iff]
 constructor
 ·rintro⟨s,hs,hx⟩
  refine⟨s,(hin s).1 hs,?_⟩
  unfold want1 at hx
  cases hk:look l s with
  | none=>rw[hk] at hx;simpa using hx
  | some u=>
   rw[hk] at hx
   obtain⟨b,hb,e⟩:=look_mem hk
   have hv:validB u=true:=by rw[← e];exact List.all_eq_true.1 hl b hb
   simp only at hx ⊢
   rw[← mb_iff,freS_mb hv,mb_iff] at hx
   exact hx
 ·rintro⟨s,hs,hx⟩
  refine⟨s,(hin s).2 hs,?_⟩
  unfold want1
  cases hk:look l s with
  | none=>rw[hk] at hx;simpa using hx
  | some u=>
   rw[hk] at hx
   obtain⟨b,hb,e⟩:=look_mem hk
   have hv:validB u=true:=by rw[← e];exact List.all_eq_true.1 hl b hb
   simp only at hx ⊢
   rw[← mb_iff,freS_mb hv,mb_iff]
   exact hx
theorem sn_plain {t u:Tm} {l:List (ByteArray×Tm)} {e:Int} (ht:validB t=true) (hl:l.all vB=true) (hn:l.length≤40) (hr:sbstR t l=(u,e)):
  SmTm big u∧(e=0∨(e=5∧noneP l (freS t)=false))∧(e=0→freS u=srtS [] (wantL l (freS t))∧(noneP l (freS t)=true→u=t)):=by
 unfold sbstR ltdR at hr
 rw[ht,hl] at hr
 simp only[Bool.and_self,if_true] at hr
 cases hv:validB (subT freshS t l) with
 | false=>
  rw[hv] at hr
  simp only[Bool.false_eq_true,if_false] at hr
  cases hr
  refine⟨tm0_sm,Or.inr ⟨rfl,?_⟩,fun e=>absurd e (by decide)⟩
  rw[← Bool.not_eq_true]
  intro h
  rw[none_id ht h,ht] at hv
  cases hv
 | true=>
  rw[hv] at hr
  simp only[if_true] at hr
  cases hr
  refine⟨ok_smt (valid_ok hv),Or.inl rfl,fun _=>⟨?_,fun h=>none_id ht h⟩⟩
  refine (srtS_is (freS_asc _) (fun s=>?_)).symm
  rw[← mb_iff,freS_mb hv,mb_iff,want_mem ht hl hn]
theorem few_any {l:List (ByteArray×Tm)} {a:Option Addr} {c:Nat} (w:World):Calls Tryz.prog 15 #[.slice a l.length c] w fun e w'=>e=.returned (.bool (decide (l.length≤40)))∧w=w':=by
 by_cases h:l.length≤40
 ·have t:decide ((l.length:Int)≤40)=true:=decide_eq_true (by omega)
  have hd:Hid (decide (l.length≤40)=true):=Ld (decide_eq_true h)
  clear h
  go_enter Tryz.func15,Tryz.ntmps15
  go_wp2_with fail
  go_ret
  exact⟨by rw[hd.out];rfl,rfl⟩
 ·have t:decide ((l.length:Int)≤40)=false:=decide_eq_false (by omega)
  have hd:Hid (decide (l.length≤40)=false):=Ld (decide_eq_false h)
  clear h
  go_enter Tryz.func15,Tryz.ntmps15
  go_wp2_with fail
  go_ret
  exact⟨by rw[hd.out];rfl,rfl⟩
theorem nrow_kept {w w1 w2:World} {base:Nat} {l:List ByteArray} {v:Value} (h:NRow w base w1 l v) (k:Kept (fun _=>False) w1 w2):NRow w base w2 l v:=⟨h.kp.trans k,own_keptT h.own k (fun _ _ h=>h)⟩
theorem sn_any {a:Tm} {l:List (ByteArray×Tm)} {w:World} {tk kk vl:Value} (hgl:Gl w) (hp:P10 w) (h1:TyL (fun _=>True) w a.ty.kids tk) (h2:TmL (fun _=>True) w a.kids kk) (ha:SmTm big a) (hB:BnL (fun _=>True) w l vl) (hsb:∀ b,b∈l→SmTm big b.2) (hnb:∀ b,b∈l→b.1.size≤maxLen):
  Calls Tryz.prog 4 #[tmVal a tk kk,vl] w (EsOk w):=by
 obtain⟨p0,n0,c0,rfl⟩:=h1.slice
 obtain⟨ma0,mn0,mc0,rfl⟩:=h2.slice
 obtain⟨la,lc,rfl⟩:=hB.slice
 have H15:=Ld (fun W (k:Kept (fun _=>False) w W)=>awake_any W (hgl.kept k (fun h=>h) (fun h=>h)))
 have HSU:=Ld (fun (hl:l.length≤40) W (k:Kept (fun _=>False) w W)=>subst_any (h1.frame (sK k)) (h2.frame (sK k)) ha (hB.frame (sK k)) hsb hnb (by omega) (hp.kept k))
 have HPA:=Ld (fun W (k:Kept (fun _=>False) w W)=>pfree_any (h1.frame (sK k)) (h2.frame (sK k)) ha)
 have HVA:=Ld (fun W (k:Kept (fun _=>False) w W)=>rvalid_any (h1.frame (sK k)) (h2.frame (sK k)) ha)
 have HTA:=Ld (fun W (k:Kept (fun _=>False) w W)=>(⟨h1.frame (sK k),h2.frame (sK k)⟩:_∧_))
 have HB:=Ld (fun W (k:Kept (fun _=>False) w W)=>(hB.frame (sK k)).at)
 have HSB:=Ld hsb
 have B0:Hid (Blk (w.alloc (.cells #[.int .i64 a.op,.string a.name,.int .i64 a.n,.int .i64 a.ty.kind,.string a.ty.name,.slice p0 n0 c0,.slice ma0 mn0 mc0] 27)) w.heap.size 27 [Value.int .i64 a.op,.string a.name,.int .i64 a.n,.int .i64 a.ty.kind,.string a.ty.name,.slice p0 n0 c0,.slice ma0 mn0 mc0]∧Kept (fun _=>False) w (w.alloc (.cells #[.int .i64 a.op,.string a.name,.int .i64 a.n,.int .i64 a.ty.kind,.string a.ty.name,.slice p0 n0 c0,.slice ma0 mn0 mc0] 27))):=Ld ⟨Blk.new w 27 _,kR.alloc _⟩
 have HPL:=Ld (fun (ht:validB a=true) (hl:l.all vB=true) (hn:l.length≤40) (u:Tm) (e:Int) (hr:sbstR a l=(u,e))=>sn_plain ht hl hn hr)
 have HWL:=Ld (fun (hn:l.length≤40)=>want_len (t:=a) hn)
 have HFL:Hid ((freS a).length≤2000):=Ld freS_le
 clear h1 h2 ha hB hsb hnb hgl hp
 unfold PFr tmVal at HPA
 unfold tmVal at HSU ⊢
 go_enter Tryz.func4,Tryz.ntmps4
 go_upto_region 1 with (fail)
 generalize w.alloc (.cells #[.int .i64 a.op,.string a.name,.int .i64 a.n,.int .i64 a.ty.kind,.string a.ty.name,.slice p0 n0 c0,.slice ma0 mn0 mc0] 27)=w1 at *
 go_cut [23] (fun v wc=>v=.bool (!(decide (l.length≤40)&&validB a))∧Blk wc w.heap.size 27 [Value.int .i64 a.op,.string a.name,.int .i64 a.n,.int .i64 a.ty.kind,.string a.ty.name,.slice p0 n0 c0,.slice ma0 mn0 mc0]∧Kept (fun _=>False) w wc)
 case first=>
  go_wp2_with fail
  refine (few_any w1).mono ?_
  rintro e w2 ⟨rfl,rfl⟩
  by_cases hf:l.length≤40
  ·have HD:Hid (decide (l.length≤40)=true):=Ld (decide_eq_true hf)
   rw[HD.out]
   clear hf
   have gA:∀ i,w1.cell? ⟨w.heap.size,i,none⟩=[Value.int .i64 a.op,.string a.name,.int .i64 a.n,.int .i64 a.ty.kind,.string a.ty.name,.slice p0 n0 c0,.slice ma0 mn0 mc0][i]?:=B0.out.1.cell
   go_wp2_with fail
   clear gA
   refine (HVA.out w1 B0.out.2).mono ?_
   rintro e w3 ⟨rfl,k3⟩
   have B3:Hid (Blk w3 w.heap.size 27 [Value.int .i64 a.op,.string a.name,.int .i64 a.n,.int .i64 a.ty.kind,.string a.ty.name,.slice p0 n0 c0,.slice ma0 mn0 mc0]∧Kept (fun _=>False) w w3):=Ld ⟨B0.out.1.kept k3 (fun h=>h),B0.out.2.trans k3⟩
   clear k3 B0
   go_wp2_with fail
   go_meet
   case rel=>exact⟨by rw[HD.out,Bool.true_and],B3.out⟩
  ·have HD:Hid (decide (l.length≤40)=false):=Ld (decide_eq_false hf)
   rw[HD.out]
   clear hf
   go_wp2_with fail
   go_meet
   case rel=>exact⟨by rw[HD.out];rfl,B0.out⟩
 case rest=>
  obtain⟨rfl,hbc⟩:=hcut
  have B2:=Ld hbc
  clear hbc B0
  generalize wc=w2 at *
  cases hv:(decide (l.length≤40)&&validB a)
  case false=>
   have K2:=Ld B2.out.2
   clear hv HSU HPA HVA HTA HB HSB HPL HWL HFL B2
   go_wp2_with fail
   refine (H15.out w2 K2.out).mono ?_
   rintro e w99 ⟨rfl,k99⟩
   have HK99:=Ld (K2.out.trans k99)
   clear k99
   go_wp2_with fail
   go_ret
   exact⟨rfl,HK99.out⟩
  case true=>
   have HV:Hid (l.length≤40∧validB a=true):=Ld (by
    rw[Bool.and_eq_true,decide_eq_true_iff] at hv;exact hv)
   have HSU2:=Ld (HSU.out HV.out.1)
   have HPL2:=Ld (fun hl u e hr=>HPL.out HV.out.2 hl HV.out.1 u e hr)
   have HWL2:=Ld (HWL.out HV.out.1)
   clear hv HSU HPL HWL HVA
   have gA:∀ i,w2.cell? ⟨w.heap.size,i,none⟩=[Value.int .i64 a.op,.string a.name,.int .i64 a.n,.int .i64 a.ty.kind,.string a.ty.name,.slice p0 n0 c0,.slice ma0 mn0 mc0][i]?:=B2.out.1.cell
   go_wp2_with fail
   clear gA
   refine (HPA.out w2 B2.out.2).mono ?_
   rintro e w4 ⟨xa,xc,rfl,hN,k4⟩
   have B4:Hid (Blk w4 w.heap.size 27 [Value.int .i64 a.op,.string a.name,.int .i64 a.n,.int .i64 a.ty.kind,.string a.ty.name,.slice p0 n0 c0,.slice ma0 mn0 mc0]∧Kept (fun _=>False) w w4):=Ld ⟨B2.out.1.kept k4 (fun h=>h),B2.out.2.trans k4⟩
   clear k4 B2 HPA
   generalize hq:freS a=q at *
   have HQN:=Ld (fun W (k:Kept (fun _=>False) w4 W)=>hN.frame (sK k))
   clear hN hq
   go_wp2_with fail
   go_loopw [7,8] (fun b i wr=>∃ j:Nat,j≤l.length∧i=.int .i64 j∧b=.bool (noneP (l.take j) q)∧Kept (fun _=>False) w4 wr∧Hid ((l.take j).all vB=true)) (fun b i _=>l.length-(intOf i).toNat)
   case atStart=>exact⟨0,Nat.zero_le _,rfl,rfl,Kept.refl _ _,Ld rfl⟩
   case round=>
    obtain⟨j,hj,rfl,rfl,kr,hvb⟩:=hrel
    have KR:=Ld kr
    clear kr
    by_cases hlt:j<l.length
    ·have hj2:(j:Int)<(l.length:Int):=by omega
     have hj3:(j:Int)<1000000:=by have:=HV.out.1;omega
     obtain⟨g,off,ta,tn,tc,ma,mn,mc,rfl,_,lg,d0,⟨d1,d2,d3,d4,d5,d6,d7⟩,hty,htm⟩:=HB.out wr (B4.out.2.trans KR.out) j hlt
     have hcon:=Ld (rvalid_any hty htm (HSB.out _ (List.getElem_mem hlt)))
     unfold tmVal at hcon
     have HNT:=Ld (noneP_take (q:=q) hlt)
     have HVT:=Ld (vB_take hlt)
     have D0:=Ld (fun W (k:Kept (fun _=>False) wr W)=>(by rw[k.cell (p:=⟨g,off+j*8,none⟩) (cell_lt d0) (fun h=>h)];exact d0:W.cell? ⟨g,off+j*8,none⟩=some (.string l[j].1)))
     clear hty htm
     go_wp2_with fail
     clear d0 d1 d2 d3 d4 d5 d6 d7
     refine hcon.out.mono ?_
     rintro e w5 ⟨rfl,k5⟩
     have K5:=Ld (KR.out.trans k5)
     have d0:=D0.out w5 k5
     clear k5 hcon D0
     cases hvj:validB l[j].2
     ·have K6:=Ld (B4.out.2.trans K5.out)
      clear hvj HNT HVT d0 HSU2 HPL2 HWL2 HTA HB HSB HFL HQN hvb
      go_wp2_with fail
      refine (H15.out w5 K6.out).mono ?_
      rintro e w99 ⟨rfl,k99⟩
      have HK99:=Ld (K6.out.trans k99)
      clear k99
      go_wp2_with fail
      go_ret
      exact⟨rfl,HK99.out⟩
     ·have HV6:Hid ((l.take (j+1)).all vB=true):=Ld (by
       rw[HVT.out,hvb.out];exact hvj)
      clear hvj HVT
      cases hnn:noneP (l.take j) q
      ·have HN6:Hid (noneP (l.take (j+1)) q=false):=Ld (by rw[HNT.out,hnn];rfl)
       clear hnn HNT
       go_wp2_with fail
       go_roundw
       case rel=>exact⟨j+1,by omega,by go_num,by rw[HN6.out],K5.out,HV6⟩
       case measure=>simp[intOf];omega
      ·have HIN:=Ld (rinN_any l[j].1 (HQN.out w5 K5.out) (by have:=HFL.out;omega))
       have HN6:Hid (noneP (l.take (j+1)) q=!mb l[j].1 q):=Ld (by rw[HNT.out,hnn];rfl)
       clear hnn HNT
       generalize hmb:mb l[j].1 q=m at *
       generalize l[j].1=lj at *
       clear hmb
       go_wp2_with fail
       refine HIN.out.mono ?_
       rintro e w6 ⟨rfl,rfl⟩
       clear HIN d0
       go_wp2_with fail
       go_roundw
       case rel=>exact⟨j+1,by omega,by go_num,by rw[HN6.out],K5.out,HV6⟩
       case measure=>simp[intOf];omega
    ·obtain rfl:j=l.length:=by omega
     rw[List.take_length] at hvb ⊢
     have HP3:=Ld (fun u e hr=>HPL2.out hvb.out u e hr)
     clear HPL2 hvb hj hlt
     have hj2:¬ (l.length:Int)<(l.length:Int):=by omega
     generalize hnone:noneP l q=nn at *
     clear hnone
     go_wp2_with fail
     clear hj2
     obtain⟨i9,hi9,hz9,hs9,hb9⟩:=info_str
     have HI9:=Ld hi9
     have HZ9:=Ld hz9
     have HS9:=Ld hs9
     have HB9:=Ld hb9
     clear hi9 hz9 hs9 hb9
     have KR0:=Ld KR.out
     clear KR
     generalize hw7:wr=w7 at *
     clear hw7
     go_loopw [5,9,10] (fun v i kx wr=>∃ j:Nat,j≤q.length∧i=.int .i64 j∧NRow w4 w4.heap.size wr (wantL l (q.take j)) v) (fun v i kx _=>q.length-(intOf i).toNat)
     case atStart=>exact⟨0,Nat.zero_le _,rfl,KR0.out,World.ownsRow_nil _ _ _ _⟩
     case round=>
      obtain⟨j,hj,rfl,hR⟩:=hrel
      obtain⟨va,vc,hv⟩:=hR.nml.slice
      subst hv
      have R:=Ld hR
      clear hR
      by_cases hlt:j<q.length
      ·have hj2:(j:Int)<(q.length:Int):=by omega
       have hj3:(j:Int)<1000000:=by have:=HFL.out;omega
       have HWT:=Ld (wantL_take (l:=l) hlt)
       have HLN:Hid ((wantL l (q.take (j+1))).length≤90000):=Ld (Nat.le_trans (wantL_pre (j+1)) HWL2.out)
       have HC0:=Ld (fun W (k:Kept (fun _=>False) w4 W)=>(HQN.out W k).at j hlt)
       obtain⟨g0,off0,hxa,_,_⟩:=HC0.out wr R.out.kp
       subst hxa
       have HC:=Ld (fun W (k:Kept (fun _=>False) w4 W)=>(by
        obtain⟨g',off',e,_,hc⟩:=HC0.out W k
        cases e;exact hc:W.cell? ⟨g0,off0+j,none⟩=some (.string q[j])))
       clear HC0
       generalize hqj:q[j]=s at *
       clear hqj
       generalize wantL l (q.take j)=out at *
       go_wp2_with fail
       go_loopw [10] (fun i wr=>∃ k:Nat,k≤l.length∧i=.int .i64 k∧NRow w4 w4.heap.size wr out (.slice va out.length vc)∧Hid (∀ jj (hjj:jj<l.length),jj<k→l[jj].1≠s)) (fun i _=>l.length-(intOf i).toNat)
       case atStart=>exact⟨0,Nat.zero_le _,rfl,R.out,Ld (fun jj _ h=>absurd h (Nat.not_lt_zero _))⟩
       case round=>
        clear R
        obtain⟨k,hk,rfl,hR,hno⟩:=hrel
        have R:=Ld hR
        clear hR
        by_cases hlk:k<l.length
        ·have k2:(k:Int)<(l.length:Int):=by omega
         have k3:(k:Int)<1000000:=by have:=HV.out.1;omega
         have t1:decide ((k:Int)<(l.length:Int))=true:=decide_eq_true k2
         obtain⟨g,off,ta,tn,tc,ma,mn,mc,rfl,_,lg,d0,_,hty,htm⟩:=HB.out wr (B4.out.2.trans R.out.kp) k hlk
         have e0:=HC.out wr R.out.kp
         clear hty htm
         have HSE:Hid (∀ (b:Bool),(l[k].1.toList==s.toList)=b→(b=true↔l[k].1=s)):=Ld (fun b h=>by rw[← h,nm_eq,decide_eq_true_iff])
         obtain⟨lk,hlkk⟩:∃ lk,lk=l[k].1:=⟨_,rfl⟩
         rw[← hlkk] at d0 HSE
         have HLK:=Ld hlkk
         clear hlkk
         go_upto_region 16 with (fail)
         cases hsame:(lk.toList==s.toList)
         ·have HNE:Hid (lk≠s):=Ld (fun e=>by have:=(HSE.out false hsame).2 e;cases this)
          go_quiet (fail)
          have kd:Kept (fun _=>False) wr (World.drewN wr nq):=kR.drewN nq
          have R2:=Ld (nrow_kept R.out kd)
          generalize World.drewN wr nq=wd at *
          clear kd d0 e0 t1 hsame
          go_wp2_with fail
          go_roundw
          case rel=>exact⟨k+1,by omega,by go_num,R2.out,Ld (fun jj hjj hjk=>by
           by_cases e:jj<k
           ·exact hno.out jj hjj e
           ·obtain rfl:jj=k:=by omega
            rw[← HLK.out];exact HNE.out)⟩
          case measure=>simp[intOf];omega
         ·have HEQ:Hid (want1 l s=freS l[k].2):=Ld (by
           have e:lk=s:=(HSE.out true hsame).1 rfl
           unfold want1
           rw[look_hit hlk hno.out (by rw[← HLK.out];exact e)])
          go_quiet (fail)
          have kd:Kept (fun _=>False) wr (World.drewN wr nq):=kR.drewN nq
          have R2:=Ld (nrow_kept R.out kd)
          generalize World.drewN wr nq=wd at *
          clear kd d0 e0 t1 hsame HSE HLK hno
          have e0:=HC.out wd R2.out.kp
          obtain⟨g',off',ta',tn',tc',ma',mn',mc',e1,_,lg',_,⟨d1,d2,d3,d4,d5,d6,d7⟩,hty,htm⟩:=HB.out wd (B4.out.2.trans R2.out.kp) k hlk
          cases e1
          have hcon:=Ld (pfree_any hty htm (HSB.out _ (List.getElem_mem hlk)))
          unfold PFr tmVal at hcon
          have HFE:Hid ((freS l[k].2).length≤2000):=Ld freS_le
          generalize freS l[k].2=f at *
          have hke:((k:Int)==(l.length:Int))=false:=by simp;omega
          clear hty htm R
          go_wp2_with fail
          clear d1 d2 d3 d4 d5 d6 d7 e0
          refine hcon.out.mono ?_
          rintro e w8 ⟨ya,yc,rfl,hN8,k8⟩
          have S8:=Ld hN8.src
          have R8:=Ld (nrow_kept R2.out k8)
          have zw8:=R8.out.kp.size
          have HLL:Hid (out.length+f.length≤90000):=Ld (by
           have h:=HLN.out
           rw[HWT.out,List.length_append,HEQ.out] at h
           exact h)
          clear k8 hN8 hcon R2
          go_wp2_with (at_builtin;refine wpList_app_src rfl (.tmp 87) (.tmp 93) _ rfl w4.heap.size 9 i9 _ 1 16 Tryz.underlying28 HI9.out HZ9.out HS9.out HB9.out rfl (by decide) (.slice va out.length vc) out.length (out.map Value.string) rfl R8.out.own (.slice ya f.length yc) f.length (f.map Value.string) rfl S8.out (by simp) (strs_one _) ?_ ?_ zw8 ?_)
          ·have:=HLL.out;unfold maxLen;omega
          ·have:=HLL.out;omega
          intro v9 w9 own9 hg9 hat9
          have R9:=Ld (NRow.app R8.out (Nat.le_refl _) own9 hg9)
          clear own9 hg9 hat9 zw8
          go_wp2_with fail
          go_roundw
          case rel=>exact⟨j+1,by omega,by go_num,by rw[HWT.out,HEQ.out];exact R9.out⟩
          case measure=>simp[intOf];omega
        ·obtain rfl:k=l.length:=by omega
         have t1:decide ((l.length:Int)<(l.length:Int))=false:=by simp
         have HEQ:Hid (want1 l s=[s]):=Ld (by
          unfold want1
          rw[look_miss (fun jj hjj=>hno.out jj hjj hjj)])
         go_upto_region 16 with (fail)
         go_quiet (fail)
         have kd:Kept (fun _=>False) wr (World.drewN wr nq):=kR.drewN nq
         have R2:=Ld (nrow_kept R.out kd)
         generalize World.drewN wr nq=wd at *
         clear kd t1 hno hk hlk
         have e0:=HC.out wd R2.out.kp
         have S8:Hid (Src (wd.alloc (.cells #[.string s] 9)) (.slice (some ⟨wd.heap.size,0,none⟩) 1 1) 1 [.string s]):=Ld ((NmL.of_own (own_name (Blk.new wd 9 [.string s]) (Nat.le_refl _)) (ok:=fun _=>True) (fun _ _=>trivial)).src)
         have R8:=Ld (nrow_kept R2.out ((Kept.refl (fun _=>False) wd).alloc (.cells #[.string s] 9)))
         have zw8:=R8.out.kp.size
         have HLL:Hid (out.length+1≤90000):=Ld (by
          have h:=HLN.out
          rw[HWT.out,List.length_append,HEQ.out] at h
          exact h)
         clear R R2
         go_wp2_with (at_builtin;refine wpList_app_src rfl (.tmp 80) (.tmp 85) _ rfl w4.heap.size 9 i9 _ 1 16 Tryz.underlying28 HI9.out HZ9.out HS9.out HB9.out rfl (by decide) (.slice va out.length vc) out.length (out.map Value.string) rfl R8.out.own (.slice (some ⟨wd.heap.size,0,none⟩) 1 1) 1 [.string s] rfl S8.out (by simp) (strs_one [s]) ?_ ?_ zw8 ?_)
         ·have:=HLL.out;unfold maxLen;omega
         ·have:=HLL.out;omega
         intro v9 w9 own9 hg9 hat9
         have R9:=Ld (NRow.app (r:=[s]) R8.out (Nat.le_refl _) own9 hg9)
         clear own9 hg9 hat9 zw8
         go_wp2_with fail
         go_roundw
         case rel=>exact⟨j+1,by omega,by go_num,by rw[HWT.out,HEQ.out];exact R9.out⟩
         case measure=>simp[intOf];omega
      ·obtain rfl:j=q.length:=by omega
       rw[List.take_length] at R ⊢
       clear hj hlt
       have hj2:¬ (q.length:Int)<(q.length:Int):=by omega
       generalize wantL l q=wt at *
       go_upto_region 21 with (fail)
       clear hj2
       have gA:∀ i,wr.cell? ⟨w.heap.size,i,none⟩=[Value.int .i64 a.op,.string a.name,.int .i64 a.n,.int .i64 a.ty.kind,.string a.ty.name,.slice p0 n0 c0,.slice ma0 mn0 mc0][i]?:=(B4.out.1.kept R.out.kp (fun h=>h)).cell
       have HS3:=Ld (HSU2.out wr (B4.out.2.trans R.out.kp))
       obtain⟨r,hr⟩:∃ r,r=sbstR a l:=⟨_,rfl⟩
       rw[← hr] at HS3
       obtain⟨s,e⟩:=r
       have HPQ:=Ld (HP3.out s e hr.symm)
       clear hr HP3 HSU2
       go_wp2_with fail
       clear gA
       refine HS3.out.mono ?_
       rintro ee w8 ⟨tc,kc,rfl,hty,htm,k8⟩
       have hty:TyL _ w8 s.ty.kids tc:=hty
       have htm:TmL _ w8 s.kids kc:=htm
       obtain⟨p5,n5,c5,rfl⟩:=hty.slice
       obtain⟨ma5,mn5,mc5,rfl⟩:=htm.slice
       have R8:=Ld (nrow_kept R.out k8)
       have T8:=Ld (hty.mono (ok':=fun _=>True) (fun _ _ _=>trivial))
       have M8:=Ld (htm.mono (ok':=fun _=>True) (fun _ _ _=>trivial))
       clear hty htm k8 HS3 R
       unfold tmVal
       go_upto_region 22 with (fail)
       have k9:Kept (fun _=>False) w8 (w8.alloc (.cells #[.int .i64 s.op,.string s.name,.int .i64 s.n,.int .i64 s.ty.kind,.string s.ty.name,.slice p5 n5 c5,.slice ma5 mn5 mc5] 27)):=kR.alloc _
       have R9:=Ld (nrow_kept R8.out k9)
       have T9:=Ld (T8.out.frame (sK k9))
       have M9:=Ld (M8.out.frame (sK k9))
       have BP:=Ld (Blk.new w8 27 [Value.int .i64 s.op,.string s.name,.int .i64 s.n,.int .i64 s.ty.kind,.string s.ty.name,.slice p5 n5 c5,.slice ma5 mn5 mc5])
       change Hid (Blk (w8.alloc (.cells #[.int .i64 s.op,.string s.name,.int .i64 s.n,.int .i64 s.ty.kind,.string s.ty.name,.slice p5 n5 c5,.slice ma5 mn5 mc5] 27)) _ _ _) at BP
       clear k9 R8 T8 M8
       generalize w8.alloc (.cells #[.int .i64 s.op,.string s.name,.int .i64 s.n,.int .i64 s.ty.kind,.string s.ty.name,.slice p5 n5 c5,.slice ma5 mn5 mc5] 27)=w9 at *
       generalize w8.heap.size=P at *
       rcases HPQ.out.2.1 with rfl | ⟨rfl,hnf⟩
       case inr=>
        have hnf:nn=false:=hnf
        subst hnf
        have K9:=Ld (B4.out.2.trans R9.out.kp)
        clear HPQ HB HSB HTA HFL HQN HWL2 R9 T9 M9 BP
        go_wp2_with fail
        refine (H15.out w9 K9.out).mono ?_
        rintro e w99 ⟨rfl,k99⟩
        have HK99:=Ld (K9.out.trans k99)
        clear k99
        go_wp2_with fail
        go_ret
        exact⟨rfl,HK99.out⟩
       case inl=>
        have HPF:=Ld (HPQ.out.2.2 rfl)
        have HSS:=Ld HPQ.out.1
        clear HPQ
        have HF:=Ld (pfree_any T9.out M9.out HSS.out)
        unfold PFr tmVal at HF
        rw[HPF.out.1] at HF
        have gP:∀ i,w9.cell? ⟨P,i,none⟩=[Value.int .i64 s.op,.string s.name,.int .i64 s.n,.int .i64 s.ty.kind,.string s.ty.name,.slice p5 n5 c5,.slice ma5 mn5 mc5][i]?:=BP.out.cell
        have HLS:Hid ((srtS [] wt).length≤90000):=Ld (by
         have h1:=srtS_len wt []
         have h2:=HWL2.out
         simp at h1
         omega)
        go_wp2_with fail
        clear gP
        refine HF.out.mono ?_
        rintro e w10 ⟨xa2,xc2,rfl,hN10,k10⟩
        have R10:=Ld (nrow_kept R9.out k10)
        have T10:=Ld (T9.out.frame (sK k10))
        have M10:=Ld (M9.out.frame (sK k10))
        have BP10:=Ld (BP.out.kept k10 (fun h=>h))
        have N10:=Ld (hN10.mono (ok':=fun _=>True) (fun _ _ _=>trivial))
        clear hN10 k10 HF R9 T9 M9 BP
        have HSR:=Ld (rsort_any R10.out.nml (by have:=HWL2.out;omega))
        go_wp2_with fail
        refine HSR.out.mono ?_
        rintro e w11 ⟨v11,rfl,h11⟩
        obtain⟨ya,yc,hv11⟩:=h11.nml.slice
        subst hv11
        have R11:=Ld (R10.out.kp.trans h11.kp)
        have T11:=Ld (T10.out.frame (sK h11.kp))
        have M11:=Ld (M10.out.frame (sK h11.kp))
        have BP11:=Ld (BP10.out.kept h11.kp (fun h=>h))
        have N11:=Ld (N10.out.frame (sK h11.kp))
        have Y11:=Ld (h11.nml.mono (ok':=fun _=>True) (fun _ _ _=>trivial))
        clear h11 HSR R10 T10 M10 BP10 N10
        generalize srtS [] wt=st at *
        go_upto_region 26 with (fail)
        go_cut [7,129] (fun nv v wc=>v=.bool false∧Kept (fun _=>False) w11 wc)
        case first=>
         have h2:((st.length:Int) != (st.length:Int))=false:=by simp
         cases hn2:nn
         ·go_wp2_with fail
          go_meet
          case rel=>exact⟨rfl,Kept.refl _ _⟩
         ·obtain⟨t1,t2⟩:=HTA.out w11 (B4.out.2.trans R11.out)
          have hsa:s=a:=HPF.out.2 hn2
          subst hsa
          have HSM:=Ld (rsameTm_any (valid_bd HV.out.2) s w11 _ _ _ _ _ _ t1 t2 T11.out M11.out)
          rw[(tmEq_iff s s).2 rfl] at HSM
          unfold tmVal at HSM
          have gA:∀ i,w11.cell? ⟨w.heap.size,i,none⟩=[Value.int .i64 s.op,.string s.name,.int .i64 s.n,.int .i64 s.ty.kind,.string s.ty.name,.slice p0 n0 c0,.slice ma0 mn0 mc0][i]?:=(B4.out.1.kept R11.out (fun h=>h)).cell
          have gP:∀ i,w11.cell? ⟨P,i,none⟩=[Value.int .i64 s.op,.string s.name,.int .i64 s.n,.int .i64 s.ty.kind,.string s.ty.name,.slice p5 n5 c5,.slice ma5 mn5 mc5][i]?:=BP11.out.cell
          clear t1 t2
          go_wp2_with fail
          clear gA gP
          refine HSM.out.mono ?_
          rintro e w12 ⟨rfl,k12⟩
          go_wp2_with fail
          go_meet
          case rel=>exact⟨rfl,k12⟩
        case rest=>
         obtain⟨rfl,hk12⟩:=hcut
         have K12:=Ld hk12
         clear hk12 T11 M11 BP11 HPF HTA HB HSB
         have HX:=Ld (fun W (k:Kept (fun _=>False) wc W)=>(N11.out.frame (sK (K12.out.trans k))).at)
         have HY:=Ld (fun W (k:Kept (fun _=>False) wc W)=>(Y11.out.frame (sK (K12.out.trans k))).at)
         clear N11 Y11
         go_wp2_with fail
         go_loopw [15] (fun i wr=>∃ j:Nat,j≤st.length∧i=.int .i64 j∧Kept (fun _=>False) wc wr) (fun i _=>st.length-(intOf i).toNat)
         case atStart=>exact⟨0,Nat.zero_le _,rfl,Kept.refl _ _⟩
         case round=>
          obtain⟨j,hj,rfl,kr⟩:=hrel
          by_cases hlt:j<st.length
          ·obtain⟨g,off,rfl,_,hc1⟩:=HX.out _ kr j hlt
           obtain⟨g',off',rfl,_,hc2⟩:=HY.out _ kr j hlt
           have hj2:(j:Int)<(st.length:Int):=by omega
           have hj3:(j:Int)<1000000:=by have:=HLS.out;omega
           have hbe:(st[j].toList==st[j].toList)=true:=by simp
           generalize st[j]=x at *
           have KR:=Ld kr
           clear kr HX HY
           go_upto_region 31 with (fail)
           go_quiet (fail)
           have k6:Kept (fun _=>False) wr (World.drewN wr nq):=kR.drewN nq
           generalize World.drewN wr nq=w6 at *
           go_wp2_with fail
           go_roundw
           case rel=>exact⟨j+1,by omega,by go_num,KR.out.trans k6⟩
           case measure=>simp[intOf];omega
          ·have hj2:¬ (j:Int)<(st.length:Int):=by omega
           have K7:=Ld (((B4.out.2.trans R11.out).trans K12.out).trans kr)
           clear HX HY kr hlt
           go_wp2_with fail
           refine (H15.out wr K7.out).mono ?_
           rintro e w99 ⟨rfl,k99⟩
           have HK99:=Ld (K7.out.trans k99)
           clear k99
           go_wp2_with fail
           go_ret
           exact⟨rfl,HK99.out⟩
end Go.Proofs.YtdmebjbkccjhbaaGreatDoor
