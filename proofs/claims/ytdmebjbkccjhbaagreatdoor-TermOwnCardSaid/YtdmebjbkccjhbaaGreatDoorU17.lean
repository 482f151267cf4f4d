/- A part. -/
import Derived.Test.YtdmebjbkccjhbaaGreatDoorU16
set_option linter.unusedVariables false
set_option linter.unusedSimpArgs false
set_option maxRecDepth 100000
set_option maxHeartbeats 32000000
namespace Go.Proofs.YtdmebjbkccjhbaaGreatDoor
open Go.RowKit
variable {bz:Nat}
def sbstR (t:Tm) (l:List (ByteArray×Tm)):Tm×Int:=if validB t&&l.all vB then ltdR t l else (tm0,1)
theorem look_take {l:List (ByteArray×Tm)} {k:Nat} (h:k<l.length) (s:ByteArray):look (l.take (k+1)) s=(match look (l.take k) s with | some u=>some u | none=>if l[k].1=s then some l[k].2 else none):=by
 have e:l.take (k+1)=l.take k++[l[k]]:=by rw[List.take_add_one,List.getElem?_eq_getElem h];rfl
 rw[e,look_app]
 cases look (l.take k) s <;> rfl
theorem all_vb {l:List (ByteArray×Tm)} (h:l.all vB=true) {b:ByteArray×Tm} (hb:b∈l):validB b.2=true:=List.all_eq_true.1 h b hb
theorem vb_okB {l:List (ByteArray×Tm)} (h:l.all vB=true):OkB l:=fun b hb=>valid_ok (all_vb h hb)
theorem frB_le:∀ {l:List (ByteArray×Tm)},l.all vB=true→(frB l).length≤2000*l.length
 | [],_=>Nat.zero_le _
 | b::l,h=>by
  have h1:=(valid_iff _).1 (all_vb h (List.mem_cons_self ..))
  have h2:=frs_len b.2
  have h3:=frB_le (l:=l) (by rw[List.all_cons,Bool.and_eq_true] at h;exact h.2)
  rw[frB,List.length_append,List.length_cons]
  omega
theorem vb_sg {l:List (ByteArray×Tm)} (h:l.all vB=true):SgOk (look l):=by
 intro s u hu
 obtain⟨b,hb,rfl⟩:=look_mem hu
 have h1:=(valid_iff _).1 (all_vb h hb)
 exact⟨h1.1,h1.2.1,by omega⟩
theorem prv_new {ok:Nat→Prop} {w:World} {l:List (ByteArray×Tm)} {k:Nat} {f:ByteArray→Option Value} {ta pa:Option Addr} {tn tc pn pc:Nat} (h:k<l.length) (hv:PrV bz ok w (look (l.take k)) f) (hu:look (l.take k) l[k].1=none) (h1:TyL bz ok w l[k].2.ty.kids (.slice ta tn tc)) (h2:TmL bz ok w l[k].2.kids (.slice pa pn pc)):
  PrV bz ok w (look (l.take (k+1))) (updF f l[k].1 (tmVal l[k].2 (.slice ta tn tc) (.slice pa pn pc))):=by
 intro s
 have h3:=hv s
 rw[look_take h s]
 unfold updF
 by_cases hs:s=l[k].1
 ·subst hs
  rw[hu]
  simp only[if_true]
  exact⟨ta,tn,tc,pa,pn,pc,rfl,h1,h2⟩
 ·rw[if_neg hs]
  cases hq:look (l.take k) s with
  | none=>rw[hq] at h3;rw[if_neg (fun e=>hs e.symm)];exact h3
  | some u=>rw[hq] at h3;exact h3
theorem look_old {l:List (ByteArray×Tm)} {k:Nat} (h:k<l.length) {u:Tm} (hu:look (l.take k) l[k].1=some u):look (l.take (k+1))=look (l.take k):=by
 funext s
 rw[look_take h s]
 cases hq:look (l.take k) s with
 | some _=>rfl
 | none=>
  rw[if_neg]
  intro e
  rw[e,hq] at hu
  cases hu
structure SS (bz:Nat) (w:World) (ce:List Value) (M:Nat) (okb:Nat→Prop) (l:List (ByteArray×Tm)) (k:Nat) (W:World):Prop where
 kp:Kept (fun _=>False) w W
 a:Blk W w.heap.size 27 ce
 r:Blk W (w.heap.size+1) 27 z27
 m:PrM bz (fun q=>okb q∧q<w.heap.size) W M k (look (l.take k))
 lm:w.heap.size+2≤M
theorem SS.kept {w W W':World} {ce:List Value} {M k:Nat} {okb:Nat→Prop} {l:List (ByteArray×Tm)} (h:SS bz w ce M okb l k W) (q:Kept (fun _=>False) W W'):SS bz w ce M okb l k W':=
 ⟨h.kp.trans q,h.a.kept q (fun e=>e),h.r.kept q (fun e=>e),h.m.kept q (fun e=>e) (fun _ _ e=>e),h.lm⟩
theorem subst_any {t:Tm} {l:List (ByteArray×Tm)} {ok okb:Nat→Prop} {w:World} {tk kk vl:Value} (h1:TyL bz ok w t.ty.kids tk) (h2:TmL bz ok w t.kids kk) (hs:SmTm big t) (hB:BnL bz okb w l vl) (hsb:∀ b,b∈l→SmTm big b.2) (hnb:∀ b,b∈l→b.1.size≤maxLen) (hn:l.length≤200) (hp:P10 w):
  Calls Tryz.prog 18 #[tmVal t tk kk,vl] w (TmB bz w.heap.size (sbstR t l) w):=by
 obtain⟨p,n,c,rfl⟩:=h1.slice
 obtain⟨ma,mn,mc,rfl⟩:=h2.slice
 obtain⟨aa,ac,rfl⟩:=hB.slice
 have HV:=Ld (fun W (k:Kept (fun _=>False) w W)=>valid_any (h1.frame (sK k)) (h2.frame (sK k)) hs)
 have HC:=Ld (fun W (k:Kept (fun _=>False) w W)=>bcont_any (by omega:l.length≤1000000) hsb (hB.frame (sK k)))
 have HAT:=Ld (fun W (k:Kept (fun _=>False) w W)=>((hB.mono (ok':=fun q=>okb q∧q<w.heap.size) (fun q h1 h2=>⟨h2,h1⟩)).frame (sK k)).at)
 have HLT:=Ld (fun (hv:validB t=true) (hall:l.all vB=true) W (m:Nat) (k:Kept (fun _=>False) w W) (hm:PrM bz (fun q=>okb q∧q<w.heap.size) W m l.length (look (l.take l.length)))=>
  limited_any hv (fun _=>rfl) (vb_sg hall) ⟨vb_okB hall,by have:=frB_le hall;omega⟩ (h1.frame (sK k)) (h2.frame (sK k)) (by rw[List.take_length] at hm;exact hm) (hp.kept k) hn)
 have HSZ:=Ld (fun (k:Nat) (h:k<l.length)=>hnb _ (List.getElem_mem h))
 have HN:=Ld hn
 have HR:Hid (sbstR t l=if validB t&&l.all vB then ltdR t l else (tm0,1)):=Ld rfl
 generalize sbstR t l=rr at *
 clear h1 h2 hs hB hsb hnb hn hp
 have hmm:=@run_makeMap Tryz.prog
 unfold tmVal
 have B0:Hid (Blk ((w.alloc (.cells #[.int .i64 t.op,.string t.name,.int .i64 t.n,.int .i64 t.ty.kind,.string t.ty.name,.slice p n c,.slice ma mn mc] 27)).alloc Z7) w.heap.size 27 [Value.int .i64 t.op,.string t.name,.int .i64 t.n,.int .i64 t.ty.kind,.string t.ty.name,.slice p n c,.slice ma mn mc]∧Blk ((w.alloc (.cells #[.int .i64 t.op,.string t.name,.int .i64 t.n,.int .i64 t.ty.kind,.string t.ty.name,.slice p n c,.slice ma mn mc] 27)).alloc Z7) (w.heap.size+1) 27 z27∧Kept (fun _=>False) w ((w.alloc (.cells #[.int .i64 t.op,.string t.name,.int .i64 t.n,.int .i64 t.ty.kind,.string t.ty.name,.slice p n c,.slice ma mn mc] 27)).alloc Z7)):=Ld
  ⟨(Blk.new w 27 [Value.int .i64 t.op,.string t.name,.int .i64 t.n,.int .i64 t.ty.kind,.string t.ty.name,.slice p n c,.slice ma mn mc]).alloc _,Blk.new' 27 _ (by simp),(kR.alloc _).alloc _⟩
 go_enter Tryz.func18,Tryz.ntmps18
 go_upto_region 1 with (fail)
 generalize ((w.alloc (.cells #[.int .i64 t.op,.string t.name,.int .i64 t.n,.int .i64 t.ty.kind,.string t.ty.name,.slice p n c,.slice ma mn mc] 27)).alloc Z7)=w1 at *
 have gA:∀ i,w1.cell? ⟨w.heap.size,i,none⟩=[Value.int .i64 t.op,.string t.name,.int .i64 t.n,.int .i64 t.ty.kind,.string t.ty.name,.slice p n c,.slice ma mn mc][i]?:=B0.out.1.cell
 have HV1:=Ld (HV.out w1 B0.out.2.2)
 cases hv:validB t
 ·rw[hv] at HV1
  have hq:Hid (rr=(tm0,1)):=Ld (by rw[HR.out,hv];rfl)
  clear HR HLT HC HAT hv HV
  go_wp2_with fail
  refine HV1.out.mono ?_
  rintro e w2 ⟨rfl,k2⟩
  have BR:=Ld (B0.out.2.1.kept k2 (fun h=>h))
  have KK:=Ld (B0.out.2.2.trans k2)
  clear k2 B0 gA HV1
  have gR:∀ i,w2.cell? ⟨w.heap.size+1,i,none⟩=[Value.int .i64 0,.string ⟨#[]⟩,.int .i64 0,.int .i64 0,.string ⟨#[]⟩,.slice none 0 0,.slice none 0 0][i]?:=BR.out.cell
  have fR:∀ i,w2.frozen? ⟨w.heap.size+1,i,none⟩=false:=BR.out.frozen
  go_wp2_with fail
  exact bodyPost_ret (results_ct Tryz.results18 rfl (load_tm (t:=tm0) (r7 BR.out rfl))) rfl ⟨_,_,by rw[hq.out];rfl,by rw[hq.out];exact .nil (Or.inl rfl),by rw[hq.out];exact .nil (Or.inl rfl),k7w KK.out (Or.inr (Nat.le_succ _))⟩
 ·rw[hv] at HV1
  have HLT2:=Ld (HLT.out hv)
  have HR2:Hid (rr=if l.all vB then ltdR t l else (tm0,1)):=Ld (by rw[HR.out,hv];rfl)
  clear HR HLT hv HV
  go_wp2_with fail
  refine HV1.out.mono ?_
  rintro e w2 ⟨rfl,k2⟩
  have BA:=Ld (B0.out.1.kept k2 (fun h=>h))
  have BR:=Ld (B0.out.2.1.kept k2 (fun h=>h))
  have KK:=Ld (B0.out.2.2.trans k2)
  clear k2 B0 gA HV1
  have HC2:=Ld (HC.out w2 KK.out)
  clear HC
  go_wp2_with fail
  refine HC2.out.mono ?_
  rintro e w3 ⟨rfl,k3⟩
  have BA3:=Ld (BA.out.kept k3 (fun h=>h))
  have BR3:=Ld (BR.out.kept k3 (fun h=>h))
  have K3:=Ld (KK.out.trans k3)
  clear k3 KK BA BR HC2
  cases ha:l.all vB
  ·have hq:Hid (rr=(tm0,1)):=Ld (by rw[HR2.out,ha];rfl)
   have gR:∀ i,w3.cell? ⟨w.heap.size+1,i,none⟩=[Value.int .i64 0,.string ⟨#[]⟩,.int .i64 0,.int .i64 0,.string ⟨#[]⟩,.slice none 0 0,.slice none 0 0][i]?:=BR3.out.cell
   have fR:∀ i,w3.frozen? ⟨w.heap.size+1,i,none⟩=false:=BR3.out.frozen
   clear HR2 HLT2 HAT ha
   go_wp2_with fail
   exact bodyPost_ret (results_ct Tryz.results18 rfl (load_tm (t:=tm0) (r7 BR3.out rfl))) rfl ⟨_,_,by rw[hq.out];rfl,by rw[hq.out];exact .nil (Or.inl rfl),by rw[hq.out];exact .nil (Or.inl rfl),k7w K3.out (Or.inr (Nat.le_succ _))⟩
  ·have hq:Hid (rr=ltdR t l):=Ld (by rw[HR2.out,ha];rfl)
   have HL:=Ld (HLT2.out ha)
   clear HR2 HLT2 ha
   go_upto_region 4 with (fail)
   have S4:Hid (SS bz w [Value.int .i64 t.op,.string t.name,.int .i64 t.n,.int .i64 t.ty.kind,.string t.ty.name,.slice p n c,.slice ma mn mc] w3.heap.size okb l 0 (w3.alloc (.map #[] 0))):=Ld (by
    have k:Kept (fun _=>False) w3 (w3.alloc (.map #[] 0)):=kR.alloc _
    exact⟨K3.out.trans k,BA3.out.kept k (fun e=>e),BR3.out.kept k (fun e=>e),⟨_,MapF.made w3,fun s=>rfl⟩,by have:=BR3.out.lt;omega⟩)
   generalize w3.alloc (.map #[] 0)=w4 at *
   generalize w3.heap.size=M at *
   clear BA3 BR3 K3 hmm
   go_wp2_with fail
   go_loopw [22] (fun i wr=>∃ k:Nat,k≤l.length∧i=.int .i64 k∧SS bz w [Value.int .i64 t.op,.string t.name,.int .i64 t.n,.int .i64 t.ty.kind,.string t.ty.name,.slice p n c,.slice ma mn mc] M okb l k wr) (fun i _=>l.length-(intOf i).toNat)
   case atStart=>exact⟨0,Nat.zero_le _,rfl,S4.out⟩
   case round=>
    obtain⟨k,hk,rfl,hS⟩:=hrel
    have S:=Ld hS
    clear hS S4
    by_cases hlt:k<l.length
    ·have i1:(k:Int)<(l.length:Int):=by omega
     have i2:(k:Int)<1000000:=by have:=HN.out;omega
     obtain⟨g,off,ta,tn,tc,qa,qn,qc,rfl,hg,lg,c0,⟨d0,d1,d2,d3,d4,d5,d6⟩,hty,htm⟩:=HAT.out wr S.out.kp k hlt
     have HTY:=Ld hty
     have HTM:=Ld htm
     clear hty htm hg lg
     go_upto_region 7 with (fail)
     clear c0 d0 d1 d2 d3 d4 d5 d6
     have K5:Hid (Kept (fun _=>False) wr (wr.alloc (.cells #[.string l[k].1,.int .i64 l[k].2.op,.string l[k].2.name,.int .i64 l[k].2.n,.int .i64 l[k].2.ty.kind,.string l[k].2.ty.name,.slice ta tn tc,.slice qa qn qc] 38))):=Ld (kR.alloc _)
     have bK:=Ld (Blk.new wr 38 [Value.string l[k].1,.int .i64 l[k].2.op,.string l[k].2.name,.int .i64 l[k].2.n,.int .i64 l[k].2.ty.kind,.string l[k].2.ty.name,.slice ta tn tc,.slice qa qn qc])
     change Hid (Blk (wr.alloc (.cells #[.string l[k].1,.int .i64 l[k].2.op,.string l[k].2.name,.int .i64 l[k].2.n,.int .i64 l[k].2.ty.kind,.string l[k].2.ty.name,.slice ta tn tc,.slice qa qn qc] 38)) wr.heap.size _ _) at bK
     have S5:=Ld (S.out.kept K5.out)
     have HTY5:=Ld (HTY.out.frame (sK K5.out))
     have HTM5:=Ld (HTM.out.frame (sK K5.out))
     generalize wr.alloc (.cells #[.string l[k].1,.int .i64 l[k].2.op,.string l[k].2.name,.int .i64 l[k].2.n,.int .i64 l[k].2.ty.kind,.string l[k].2.ty.name,.slice ta tn tc,.slice qa qn qc] 38)=w5 at *
     generalize wr.heap.size=Q at *
     clear K5 S HTY HTM
     obtain⟨f,hM,hPV⟩:=S5.out.m
     have HM:=Ld hM
     have HPV:=Ld hPV
     have hlk:=hM.look_ok Tryz.underlying77 (z28 w5) (HSZ.out k hlt)
     have gK:∀ i,w5.cell? ⟨Q,i,none⟩=[Value.string l[k].1,.int .i64 l[k].2.op,.string l[k].2.name,.int .i64 l[k].2.n,.int .i64 l[k].2.ty.kind,.string l[k].2.ty.name,.slice ta tn tc,.slice qa qn qc][i]?:=bK.out.cell
     have hf:=hPV l[k].1
     clear hM hPV
     cases hu:look (l.take k) l[k].1 with
     | some u=>
      rw[hu] at hf
      obtain⟨ua,un,uc,va,vn,vc,hf,_,_⟩:=hf
      rw[hf] at hlk
      unfold tmVal at hlk
      simp only[Option.getD_some,Option.isSome_some] at hlk
      have HO:=Ld (look_old hlt hu)
      clear hf hu
      go_wp2_with fail
      go_roundw
      case rel=>exact⟨k+1,by omega,by go_num,by
       have S6:=S5.out.kept ((Kept.refl (fun _=>False) w5).alloc (.cells #[.int .i64 u.op,.string u.name,.int .i64 u.n,.int .i64 u.ty.kind,.string u.ty.name,.slice ua un uc,.slice va vn vc] 27))
       exact⟨S6.kp,S6.a,S6.r,by obtain⟨f,h1,h2⟩:=S6.m;rw[HO.out];exact⟨f,h1.mono (Nat.le_succ _),h2⟩,S6.lm⟩⟩
      case measure=>simp[intOf];omega
     | none=>
      rw[hu] at hf
      have hf:f l[k].1=none:=hf
      rw[hf] at hlk
      simp only[Option.getD_none,Option.isSome_none] at hlk
      have HNEW:=Ld (prv_new hlt HPV.out hu HTY5.out HTM5.out)
      clear hf hu
      go_upto_region 8 with (fail)
      have K6:Hid (Kept (fun _=>False) w5 (w5.alloc Z7)):=Ld (kR.alloc _)
      have S6:=Ld (S5.out.kept K6.out)
      have M6:=Ld (HM.out.kept K6.out (fun e=>e))
      have bK6:=Ld (bK.out.kept K6.out (fun e=>e))
      have HNEW6:=Ld (HNEW.out.frame (sK K6.out))
      generalize w5.alloc Z7=w6 at *
      clear gK hlk HM bK HNEW S5 K6 HTY5 HTM5
      have gK:∀ i,w6.cell? ⟨Q,i,none⟩=[Value.string l[k].1,.int .i64 l[k].2.op,.string l[k].2.name,.int .i64 l[k].2.n,.int .i64 l[k].2.ty.kind,.string l[k].2.ty.name,.slice ta tn tc,.slice qa qn qc][i]?:=bK6.out.cell
      have HKL:Hid (k<maxLen):=Ld (by have:=HN.out;unfold maxLen;omega)
      go_wp2_with (at_mapUpdate;refine wpList_storeF rfl _ _ _ _ 27 rfl Tryz.underlying77 rfl M6.out l[k].1 rfl (HSZ.out k hlt) HKL.out (.agg #[.int .i64 l[k].2.op,.string l[k].2.name,.int .i64 l[k].2.n,.int .i64 l[k].2.ty.kind,.string l[k].2.ty.name,.slice ta tn tc,.slice qa qn qc]) rfl ?_;intro w7 hm7 k7;clear gK)
      go_roundw
      case rel=>exact⟨k+1,by omega,by go_num,by
       have hl:=S6.out.lm
       exact⟨S6.out.kp.via1 k7 (fun x hx e=>by omega),S6.out.a.kept k7 (fun e=>by omega),S6.out.r.kept k7 (fun e=>by omega),⟨_,hm7,HNEW6.out.frame (Same.of_kept k7 (fun q hq e=>by have:=hq.2;omega))⟩,hl⟩⟩
      case measure=>simp[intOf];omega
    ·have hkk:k=l.length:=by omega
     subst hkk
     have HL8:=Ld (HL.out wr M S.out.kp S.out.m)
     unfold tmVal at HL8
     have gA:∀ i,wr.cell? ⟨w.heap.size,i,none⟩=[Value.int .i64 t.op,.string t.name,.int .i64 t.n,.int .i64 t.ty.kind,.string t.ty.name,.slice p n c,.slice ma mn mc][i]?:=S.out.a.cell
     generalize ltdR t l=ss at *
     obtain rfl:rr=ss:=hq.out
     clear hq HL HAT
     go_wp2_with fail
     refine HL8.out.mono ?_
     rintro e w9 ⟨tk,kk,rfl,hty,htm,k9⟩
     obtain⟨pa,pn,pc,rfl⟩:=hty.slice
     obtain⟨qa,qn,qc,rfl⟩:=htm.slice
     have S9:=Ld (S.out.kept k9)
     have HLW:=Ld S.out.r.lt
     have HTY:=Ld hty
     have HTM:=Ld htm
     clear hty htm k9 S HL8 gA
     have gR:∀ i,w9.cell? ⟨w.heap.size+1,i,none⟩=[Value.int .i64 0,.string ⟨#[]⟩,.int .i64 0,.int .i64 0,.string ⟨#[]⟩,.slice none 0 0,.slice none 0 0][i]?:=S9.out.r.cell
     have fR:∀ i,w9.frozen? ⟨w.heap.size+1,i,none⟩=false:=S9.out.r.frozen
     unfold tmVal
     go_wp2_with fail
     exact bodyPost_ret (results_ct Tryz.results18 rfl (load_tm (t:=rr.1) (r7 S9.out.r rfl))) rfl ⟨_,_,rfl,(HTY.out.frame (set7 (fun q hq=>by have:=HLW.out;omega))).mono (fun q _ hq=>by have:=HLW.out;omega),(HTM.out.frame (set7 (fun q hq=>by have:=HLW.out;omega))).mono (fun q _ hq=>by have:=HLW.out;omega),k7w S9.out.kp (Or.inr (by omega))⟩
theorem bd_tm0:BdTm tm0:=.mk (by decide) (.mk (by decide) (fun t h=>by cases h)) (fun t h=>by cases h)
theorem sb_bd (t:Tm) (l:List (ByteArray×Tm)):BdTm (sbstR t l).1:=by
 unfold sbstR
 split
 ·unfold ltdR
  split
  ·rename_i h;exact valid_bd h
  ·exact bd_tm0
 ·exact bd_tm0
theorem at_bd (t:Tm) (p:List Int):BdTm (atPS t p).1:=by
 unfold atPS
 split
 ·rename_i hv
  split
  ·rename_i u h;exact valid_bd (at_valid p t u hv h)
  ·exact bd_tm0
 ·exact bd_tm0
theorem rep_bd (t:Tm) (p:List Int) (u:Tm):BdTm (repPS t p u).1:=by
 unfold repPS
 split
 ·split
  ·split
   ·rename_i h;exact valid_bd h
   ·exact bd_tm0
  ·exact bd_tm0
 ·exact bd_tm0
theorem jn_bd (t u:Tm):BdTm (joinS 4 1 [t,u]).1:=by
 unfold joinS
 split
 ·rename_i h
  simp only[List.all_cons,List.all_nil,Bool.and_true,Bool.and_eq_true] at h
  show BdTm (loopJ 4 t [u]).1
  rw[loopJ]
  split
  ·exact bd_tm0
  ·rw[loopJ]
   refine .mk (by show 2≤1000000;decide) (.mk (by decide) (fun t h=>by cases h)) (fun k hk=>?_)
   rcases List.mem_cons.1 hk with rfl | hk
   ·exact valid_bd h.1
   ·rw[List.mem_singleton.1 hk];exact valid_bd h.2
 ·exact bd_tm0
theorem conjs_mem {k:Tm}:∀ {l:List Tm},k∈conjsT l→∃ t,t∈l∧k∈conjT t
 | [],h=>by rw[conjsT] at h;cases h
 | t::l,h=>by
  rw[conjsT,List.mem_append] at h
  rcases h with h | h
  ·exact⟨t,List.mem_cons_self ..,h⟩
  ·obtain⟨u,h1,h2⟩:=conjs_mem h
   exact⟨u,List.mem_cons_of_mem _ h1,h2⟩
theorem conj_bd {t:Tm} (h:BdTm t):∀ k,k∈conjT t→BdTm k:=by
 induction h with
 | mk hn ht hl ih=>
  intro k hk
  rw[conjT] at hk
  split at hk
  ·obtain⟨u,h1,h2⟩:=conjs_mem hk
   exact ih u h1 k h2
  ·rw[List.mem_singleton.1 hk];exact .mk hn ht hl
theorem cj_bd (t:Tm):(∀ k,k∈cjT t→BdTm k)∧(cjT t).length≤1000000:=by
 unfold cjT
 split
 ·rename_i h
  refine⟨conj_bd (valid_bd h),?_⟩
  have h1:=conj_len t
  have h2:=(valid_parts h).2.2
  omega
 ·exact⟨fun k h=>(by cases h),Nat.zero_le _⟩
theorem TyL.both {ok ok':Nat→Prop} {w:World} {l:List Ty} {v:Value} (h:TyL bz ok w l v) (h':TyL bz ok' w l v):TyL bz (fun q=>ok q∧ok' q) w l v:=by
 induction h with
 | nil h=>exact .nil h
 | @mk l b off cap K hne hb hc hcell hk hs ih=>
  generalize hv:Value.slice (some ⟨b,off,none⟩) l.length cap=v at h'
  cases h' with
  | nil=>exact absurd rfl hne
  | mk K' hne' hb' hc' hcell' hk' hs'=>
   injection hv with h1 _ h3
   have h1:=Option.some.inj h1
   injection h1 with h1 h2
   subst h1 h2 h3
   refine .mk K hne ⟨hb,hb'⟩ hc hcell (fun i hi=>ih i hi ?_) hs
   have e:K i=_:=Option.some.inj ((hcell i hi).2.2.symm.trans (hcell' i hi).2.2)
   rw[e];exact hk' i hi
theorem TmL.both {ok ok':Nat→Prop} {w:World} {l:List Tm} {v:Value} (h:TmL bz ok w l v) (h':TmL bz ok' w l v):TmL bz (fun q=>ok q∧ok' q) w l v:=by
 induction h with
 | nil h=>exact .nil h
 | @mk l b off cap K M hne hb hc hcell hk hm hs ih=>
  generalize hv:Value.slice (some ⟨b,off,none⟩) l.length cap=v at h'
  cases h' with
  | nil=>exact absurd rfl hne
  | mk K' M' hne' hb' hc' hcell' hk' hm' hs'=>
   injection hv with h1 _ h3
   have h1:=Option.some.inj h1
   injection h1 with h1 h2
   subst h1 h2 h3
   refine .mk K M hne ⟨hb,hb'⟩ hc hcell (fun i hi=>(hk i hi).both ?_) (fun i hi=>ih i hi ?_) hs
   ·have e:K i=_:=Option.some.inj ((hcell i hi).2.2.2.2.2.1.symm.trans (hcell' i hi).2.2.2.2.2.1)
    rw[e];exact hk' i hi
   ·have e:M i=_:=Option.some.inj ((hcell i hi).2.2.2.2.2.2.symm.trans (hcell' i hi).2.2.2.2.2.2)
    rw[e];exact hm' i hi
structure KRowY (bz:Nat) (W:World) (base g:Nat) (l:List Ty):Prop where
 row:∃ (L:List Value) (K:Nat→Value),Blk W g 24 L∧l.length*3≤L.length∧∀ i (h:i<l.length),L[i*3]?=some (.int .i64 l[i].kind)∧L[i*3+1]?=some (.string l[i].name)∧L[i*3+2]?=some (K i)∧TyL bz (fun q=>base≤q∧q≠g) W l[i].kids (K i)
theorem KRowY.kept {W W':World} {base g:Nat} {l:List Ty} (h:KRowY bz W base g l) {S:Nat→Prop} (k:Kept S W W') (h1:¬ S g) (h2:∀ q,base≤q→q≠g→¬ S q):KRowY bz W' base g l:=by
 obtain⟨L,K,bG,hL,hR⟩:=h.row
 refine⟨⟨L,K,bG.kept k h1,hL,fun i hi=>?_⟩⟩
 obtain⟨e0,e1,e2,e3⟩:=hR i hi
 exact⟨e0,e1,e2,e3.frame (Same.of_kept k (fun q hq=>h2 q hq.1 hq.2))⟩
theorem KRowY.put {W:World} {base g j:Nat} {l:List Ty} {u:Ty} {v:Value} (h:KRowY bz W base g l) (hj:j<l.length) (hv:TyL bz (fun q=>base≤q∧q≠g) W u.kids v):
  KRowY bz (((W.setCell ⟨g,j*3,none⟩ (.int .i64 u.kind)).setCell ⟨g,j*3+1,none⟩ (.string u.name)).setCell ⟨g,j*3+2,none⟩ v) base g (l.set j u):=by
 obtain⟨L,K,bG,hL,hR⟩:=h.row
 refine⟨⟨((L.set (j*3) (.int .i64 u.kind)).set (j*3+1) (.string u.name)).set (j*3+2) v,fun i=>if i=j then v else K i,(((bG.set _ _).set _ _).set _ _),by simpa using hL,fun i hi=>?_⟩⟩
 have hi':i<l.length:=by simpa using hi
 by_cases hij:i=j
 ·subst hij
  simp only[List.getElem_set_self,if_pos]
  refine⟨?_,?_,?_,?_⟩
  ·rw[List.getElem?_set_ne (by omega),List.getElem?_set_ne (by omega),List.getElem?_set_self (by omega)]
  ·rw[List.getElem?_set_ne (by omega),List.getElem?_set_self (by simp;omega)]
  ·rw[List.getElem?_set_self (by simp;omega)]
  ·exact hv.frame (set3 (fun q h=>h.2))
 ·obtain⟨e0,e1,e2,e3⟩:=hR i hi'
  have eg:(l.set j u)[i]=l[i]:=List.getElem_set_ne (Ne.symm hij) _
  rw[eg]
  simp only[if_neg hij]
  refine⟨?_,?_,?_,e3.frame (set3 (fun q h=>h.2))⟩
  all_goals (rw[List.getElem?_set_ne (by omega),List.getElem?_set_ne (by omega),List.getElem?_set_ne (by omega)];assumption)
mutual
def rnY (x y:ByteArray):Ty→Ty
 | .mk k nm l=>.mk k (if k=3∧nm=x then y else nm) (rnYs x y l)
def rnYs (x y:ByteArray):List Ty→List Ty
 | []=>[]
 | t::l=>rnY x y t::rnYs x y l
end
mutual
def rnT (x y:ByteArray):Tm→Tm
 | .mk op nm N ty l=>.mk op nm N (rnY x y ty) (rnTs x y l)
def rnTs (x y:ByteArray):List Tm→List Tm
 | []=>[]
 | t::l=>rnT x y t::rnTs x y l
end
mutual
def rdT (x y:ByteArray):Tm→Tm
 | .mk op nm N ty l=>.mk op nm N (if op=29 then rnY x y ty else ty) (rdTs x y l)
def rdTs (x y:ByteArray):List Tm→List Tm
 | []=>[]
 | t::l=>rdT x y t::rdTs x y l
end
theorem rnYs_len (x y:ByteArray):∀ l:List Ty,(rnYs x y l).length=l.length
 | []=>rfl
 | t::l=>by rw[rnYs,List.length_cons,rnYs_len x y l,List.length_cons]
theorem rnTs_len (x y:ByteArray):∀ l:List Tm,(rnTs x y l).length=l.length
 | []=>rfl
 | t::l=>by rw[rnTs,List.length_cons,rnTs_len x y l,List.length_cons]
theorem rnYs_map (x y:ByteArray):∀ l:List Ty,rnYs x y l=l.map (rnY x y)
 | []=>rfl
 | t::l=>by rw[rnYs,rnYs_map x y l];rfl
theorem rnTs_map (x y:ByteArray):∀ l:List Tm,rnTs x y l=l.map (rnT x y)
 | []=>rfl
 | t::l=>by rw[rnTs,rnTs_map x y l];rfl
theorem rnY_kind (x y:ByteArray) (t:Ty):(rnY x y t).kind=t.kind:=by cases t;rfl
theorem rnY_ty0 (x y:ByteArray):rnY x y ty0=ty0:=by
 unfold ty0;rw[rnY,rnYs,if_neg (fun h=>by have:=h.1;revert this;decide)]
theorem head_rn {x y:ByteArray} (hy:identB y=true) {k:Int} {nm:ByteArray} {n:Nat} {wi:Bool} (h:tyHead k nm n wi=true):tyHead k (if k=3∧nm=x then y else nm) n wi=true:=by
 by_cases e:k=3∧nm=x
 ·obtain⟨rfl,rfl⟩:=e
  rw[if_pos ⟨rfl,rfl⟩]
  unfold tyHead at h ⊢
  simp only[show ((3:Int)=1)=False by simp,show ((3:Int)=2)=False by simp,if_true,if_false] at h ⊢
  rw[Bool.and_eq_true] at h
  rw[hy,h.2];rfl
 ·rw[if_neg e];exact h
theorem tf_rn {x y:ByteArray} (hy:identB y=true) (most deep:Nat):∀ (t:Ty) (d:Nat) (wi:Bool) (c:Nat),(tfS most deep t d wi c).1=true→tfS most deep (rnY x y t) d wi c=tfS most deep t d wi c:=by
 intro t
 induction t using Ty.rec (motive_2:=fun l=>∀ (d c:Nat),(tfsS most deep l d c).1=true→tfsS most deep (rnYs x y l) d c=tfsS most deep l d c) with
 | mk k nm l ih=>
  intro d wi c h
  rw[tf_eq] at h
  split at h
  ·rename_i hb
   rw[Bool.and_eq_true] at hb
   rw[rnY,tf_eq,tf_eq,rnYs_len,hb.1,hb.2,head_rn hy hb.2]
   exact ih _ _ h
  ·cases h
 | nil=>rename_i d c h;rfl
 | cons t l iht ihl=>
  rename_i d c h
  rw[tfsS] at h
  rw[rnYs,tfsS,tfsS]
  cases hr:tfS most deep t d true c with
  | mk b c'=>
   cases b
   ·rw[hr] at h;cases h
   ·rw[hr] at h
    rw[iht d true c (by rw[hr]),hr]
    exact ihl d c' h
theorem tyOk_rn {x y:ByteArray} (hy:identB y=true) {op:Int} {ty:Ty} (h:tyOk op ty=true):tyOk op (rnY x y ty)=true:=by
 unfold tyOk at h ⊢
 by_cases e:op=29
 ·rw[if_pos e,Bool.and_eq_true] at h
  rw[if_pos e,rnY_kind,h.1]
  unfold validTyB at h ⊢
  rw[tf_rn hy _ _ _ _ _ _ h.2,h.2];rfl
 ·rw[if_neg e] at h
  rw[if_neg e,zero_ty h,rnY_ty0]
  rw[zero_ty h] at h;exact h
theorem formed_with {op:Int} {nm:ByteArray} {N:Int} {ty ty':Ty} {n:Nat} (h:formedB op nm N ty n=true) (h2:tyOk op ty'=true):formedB op nm N ty' n=true:=by
 obtain⟨a,b,c,d⟩:=formed_parts h
 unfold formedB
 rw[a,b,c,h2];rfl
theorem OkTm.rn {x y:ByteArray} (hy:identB y=true) {t:Tm} (h:OkTm t):OkTm (rnT x y t):=by
 induction h with
 | mk hf hn hl ih=>
  rw[rnT]
  refine .mk ?_ (by rw[rnTs_len];exact hn) (fun u hu=>?_)
  ·rw[rnTs_len];exact formed_with hf (tyOk_rn hy (formed_parts hf).2.2.2)
  ·rw[rnTs_map,List.mem_map] at hu
   obtain⟨v,hv,rfl⟩:=hu
   exact ih v hv
end Go.Proofs.YtdmebjbkccjhbaaGreatDoor
namespace Go.Proofs.YtdmebjbkccjhbaaGreatDoor
open Go
section
variable {P:Program} {ops:Array Oper} {L:World→World→Prop} {T:Nat→Value→World→Prop}
def Up (L:World→World→Prop) (T:Value→World→Prop) (v:Value) (w:World):Prop:=∃ w1,L w1 w∧T v w1
def dstOf (ops:Array Oper) (j:Nat):Option Tmp:=(ops[j]?).bind (·.dst)
def depsOf (o:Oper):List Nat:=(o.after.toList.filter (Region.binds .any)).map (·.on)
def allV (ops:Array Oper) (L:World→World→Prop) (T:Nat→Value→World→Prop) (K:Act→Prop) (W:World):List Nat→Act→Prop
 | [],b=>K b
 | j::js,b=>match dstOf ops j with
  | some d=>∀ v,Up L (T j) v W→allV ops L T K W js (b.put (some d) v)
  | none=>allV ops L T K W js b
def KT (L:World→World→Prop) (T:Value→World→Prop) (o:Oper) (b:Act) (W:World) (a':Act) (w':World):Prop:=
 L W w'∧a'.defers=b.defers∧(match o.dst with | some d=>T (a'.eval (.tmp d)) w' | none=>True)
def pickT (tl:List Nat):Nat→List Oper→List Oper
 | _,[]=>[]
 | i,o::os=>if tl.contains i then o::pickT tl (i+1) os else pickT tl (i+1) os
def putD (ops:Array Oper) (c:Act):List Nat→Act→Act
 | [],b=>b
 | j::js,b=>match dstOf ops j with
  | some d=>putD ops c js (b.put (some d) (c.eval (.tmp d)))
  | none=>putD ops c js b
theorem allV_at {K:Act→Prop} {W:World} {c:Act}:∀ {js:List Nat} {b:Act},allV ops L T K W js b→(∀ j,j∈js→∀ d,dstOf ops j=some d→Up L (T j) (c.eval (.tmp d)) W)→K (putD ops c js b)
 | [],_,h,_=>h
 | j::js,b,h,hU=>by
  unfold allV at h
  unfold putD
  cases hd:dstOf ops j with
  | none=>rw[hd] at h;exact allV_at h fun k hk=>hU k (List.mem_cons_of_mem _ hk)
  | some d=>rw[hd] at h;exact allV_at (h _ (hU j (List.mem_cons_self ..) d hd)) fun k hk=>hU k (List.mem_cons_of_mem _ hk)
theorem putD_defers {c:Act}:∀ {js:List Nat} {b:Act},(putD ops c js b).defers=b.defers
 | [],_=>rfl
 | j::js,b=>by
  unfold putD
  cases dstOf ops j with
  | none=>exact putD_defers
  | some d=>rw[putD_defers];rfl
theorem putD_size {c:Act}:∀ {js:List Nat} {b:Act},(putD ops c js b).tmps.size=b.tmps.size
 | [],_=>rfl
 | j::js,b=>by
  unfold putD
  cases dstOf ops j with
  | none=>exact putD_size
  | some d=>rw[putD_size];simp[Act.put]
theorem eval_get {a:Act} {t:Tmp}:a.eval (.tmp t)=a.tmps.getD t undef:=by
 simp[Act.eval,Array.getD_eq_getD_getElem?]
theorem put_get {b:Act} {d t:Tmp} {v:Value}:(b.put (some d) v).tmps[t]?=if d=t then (if d<b.tmps.size then some v else none) else b.tmps[t]?:=by
 simp only[Act.put]
 rw[Array.getElem?_setIfInBounds]
theorem get_eval {c:Act} {d:Tmp}:(if d<c.tmps.size then some (c.eval (.tmp d)) else none)=c.tmps[d]?:=by
 by_cases h:d<c.tmps.size
 ·rw[if_pos h,eval_get];simp[h]
 ·rw[if_neg h];simp[Nat.le_of_not_lt h]
theorem putD_get {c:Act} {t:Tmp}:∀ {js:List Nat} {b:Act},b.tmps.size=c.tmps.size→(b.tmps[t]?=c.tmps[t]?∨∃ j,j∈js∧dstOf ops j=some t)→(putD ops c js b).tmps[t]?=c.tmps[t]?
 | [],b,_,h=>by
  rcases h with h | ⟨j,hj,_⟩
  ·exact h
  ·cases hj
 | j::js,b,hz,h=>by
  unfold putD
  cases hd:dstOf ops j with
  | none=>
   refine putD_get hz (h.imp id ?_)
   rintro⟨k,hk,hkd⟩
   rcases List.mem_cons.1 hk with rfl | hk
   ·rw[hd] at hkd;cases hkd
   ·exact⟨k,hk,hkd⟩
  | some d=>
   have hz':(b.put (some d) (c.eval (.tmp d))).tmps.size=c.tmps.size:=by simp[Act.put,hz]
   refine putD_get hz' ?_
   rw[put_get]
   by_cases e:d=t
   ·subst e
    refine Or.inl ?_
    rw[if_pos rfl,hz,get_eval]
   ·rw[if_neg e]
    refine h.imp id ?_
    rintro⟨k,hk,hkd⟩
    rcases List.mem_cons.1 hk with rfl | hk
    ·rw[hd] at hkd;cases hkd;exact absurd rfl e
    ·exact⟨k,hk,hkd⟩
def unl (tl:List Nat) (s:Array Bool):Nat→Nat
 | 0=>0
 | n+1=>unl tl s n+(if s.getD n false=true∨tl.contains n=true then 0 else 1)
theorem unl_set {tl:List Nat} {s:Array Bool} {i:Nat} (hi:i<s.size) (h:s.getD i false=false) (ht:tl.contains i=false):∀ n,unl tl (s.setIfInBounds i true) n+(if i<n then 1 else 0)=unl tl s n
 | 0=>by simp[unl]
 | n+1=>by
  have ih:=unl_set hi h ht n
  unfold unl
  by_cases e:i=n
  ·subst e
   have h1:(s.setIfInBounds i true).getD i false=true:=by simp[hi]
   rw[h1,h,ht]
   simp only[if_true,true_or,Nat.lt_irrefl,if_false,Nat.lt_succ_self,Bool.false_eq_true,or_self] at ih ⊢
   omega
  ·rw[getD_set_ne false e]
   have e3:(if i<n+1 then 1 else 0)=(if i<n then 1 else 0):=by split <;> split <;> omega
   rw[e3]
   omega
theorem unl_zero {tl:List Nat} {s:Array Bool}:∀ {n},unl tl s n=0→∀ j,j<n→tl.contains j=false→s.getD j false=true
 | 0,_,j,hj,_=>by omega
 | n+1,h,j,hj,ht=>by
  unfold unl at h
  by_cases e:s.getD n false=true∨tl.contains n=true
  ·rcases Nat.lt_succ_iff_lt_or_eq.1 hj with h1 | h1
   ·exact unl_zero (by omega) j h1 ht
   ·rw[h1] at ht ⊢
    rcases e with e | e
    ·exact e
    ·rw[ht] at e;cases e
  ·rw[if_neg e] at h;omega
theorem unl_pos {tl:List Nat} {s:Array Bool}:∀ {n},0<unl tl s n→∃ i,i<n∧tl.contains i=false∧s.getD i false=false∧∀ j,j<i→tl.contains j=false→s.getD j false=true
 | 0,h=>by simp[unl] at h
 | n+1,h=>by
  by_cases e:unl tl s n=0
  ·have h0:=unl_zero e
   unfold unl at h
   by_cases e2:s.getD n false=true∨tl.contains n=true
   ·rw[if_pos e2] at h;omega
   ·exact⟨n,Nat.lt_succ_self _,by cases hc:tl.contains n with
     | false=>rfl
     | true=>exact absurd (Or.inr hc) e2,by cases hc:s.getD n false with
     | false=>rfl
     | true=>exact absurd (Or.inl hc) e2,h0⟩
  ·obtain⟨i,h1,h2,h3,h4⟩:=unl_pos (tl:=tl) (s:=s) (n:=n) (by omega)
   exact⟨i,by omega,h2,h3,h4⟩
def sT (ops:Array Oper) (tl:List Nat):Array Bool:=((List.range ops.size).map fun j=>!tl.contains j).toArray
def sinkL (ops:Array Oper) (tl late:List Nat):Bool:=
 match tl with
 | []=>true
 | t0::_=>(List.range ops.size).all fun i=>tl.contains i||late.contains i||Region.waitsFor .any ops t0 i||(List.range ops.size).any fun j=>decide (i<j)&&Region.waitsFor .any ops j i&&!tl.contains j&&!late.contains j
def chainL (ops:Array Oper):List Nat→Bool
 | []=>true
 | t::ts=>(match ts with | []=>true | t'::_=>Region.waitsFor .any ops t' t)&&chainL ops ts
def seqL (ops:Array Oper):List Nat→Array Bool→Bool
 | [],s=>(Region.ready .any ops s).isEmpty
 | t::ts,s=>decide (Region.ready .any ops s=[t])&&seqL ops ts (s.setIfInBounds t true)
def freeS (ops:Array Oper) (i:Nat):Bool:=
 match ops[i]? with
 | none=>false
 | some oi=>(List.range ops.size).all fun j=>decide (j=i)||Region.waitsFor .any ops j i||(depsOf oi).contains j||(match ops[j]? with
   | some oj=>oi.apart ops oj
   | none=>true)
def monoB (ops:Array Oper) (m:Nat) (tl late:List Nat):Bool:=
 Region.noSelect ops&&(sinkL ops tl late&&chainL ops tl&&late.all (fun i=>freeS ops i))&&seqL ops tl (sT ops tl) &&
 (List.range ops.size).all fun i=>tl.contains i||match ops[i]? with
  | none=>false
  | some o=>(depsOf o).all (fun j=>decide (j<i)&&!tl.contains j) &&
   (match o.dst with
    | none=>true
    | some d=>decide (d<m)&&(List.range ops.size).all fun j=>decide (j=i)||tl.contains j||decide (dstOf ops j≠some d)) &&
   (o.looksAt ops).all fun t=>(List.range ops.size).all fun j=>tl.contains j||decide (dstOf ops j≠some t)||(depsOf o).contains j
structure MInv (ops:Array Oper) (L:World→World→Prop) (T:Nat→Value→World→Prop) (tl:List Nat) (a0:Act) (w0:World) (s:Array Bool) (a:Act) (w:World):Prop where
 size:s.size=ops.size
 closed:∀ j oj,ops[j]?=some oj→s.getD j false=true→∀ e∈oj.after,Region.binds .any e=true→s.getD e.on false=true
 tail:∀ t,tl.contains t=true→s.getD t false=false
 kp:L w0 w
 df:a.defers=a0.defers
 tz:a.tmps.size=a0.tmps.size
 dn:∀ j d,s.getD j false=true→dstOf ops j=some d→Up L (T j) (a.eval (.tmp d)) w
 un:∀ t,(∀ j,j<ops.size→tl.contains j=false→dstOf ops j≠some t)→a.tmps[t]?=a0.tmps[t]?
theorem wpAny_more {md:Region.Mode} {Q:Exit→Act→World→Prop}:∀ (f:Nat) (s:Array Bool) (a:Act) (w:World),wpAny P md ops Q f s a w→wpAny P md ops Q (f+1) s a w
 | 0,s,a,w,h=>⟨fun _=>h.2,fun i hi=>by rw[h.1] at hi;cases hi⟩
 | f+1,s,a,w,h=>⟨h.1,fun i hi=>wpOp_mono (fun a' w' h'=>wpAny_more f _ a' w' h') (h.2 i hi)⟩
theorem wpAny_seqL {Q:Exit→Act→World→Prop}:∀ (ts:List Nat) (l:List Oper) (s:Array Bool) (a:Act) (w:World),(∀ j:Nat,(ts[j]?).bind (fun t:Nat=>ops[t]?)=l[j]?) →
  seqL ops ts s=true→wpList P ops Q l a w→wpAny P .any ops Q l.length s a w
 | [],[],s,a,w,_,hB,h=>⟨by simpa [seqL] using hB,h⟩
 | [],_::_,_,_,_,hl,_,_=>by have:=hl 0;simp at this
 | t::ts,[],s,a,w,hl,hB,h=>by
  simp only[seqL,Bool.and_eq_true,decide_eq_true_eq] at hB
  have h1:t∈Region.ready .any ops s:=by rw[hB.1];exact List.mem_singleton.2 rfl
  obtain⟨_,o,ho,_⟩:=mem_ready.1 h1
  have:=hl 0
  simp[ho] at this
 | t::ts,o::l,s,a,w,hl,hB,h=>by
  have h0:ops[t]?=some o:=by simpa using hl 0
  simp only[seqL,Bool.and_eq_true,decide_eq_true_eq] at hB
  refine⟨fun h1=>(by rw[hB.1] at h1;cases h1),fun i hi=>?_⟩
  rw[hB.1] at hi
  obtain rfl:i=t:=by simpa using hi
  have hw:wpOp P ops Q i (wpList P ops Q l) a w:=by unfold wpOp;simp only[h0];exact h
  exact wpOp_mono (fun a' w' h'=>wpAny_seqL ts l _ a' w' (fun j=>by have:=hl (j+1);simpa using this) hB.2 h') hw
theorem monoB_op {m i:Nat} {tl late:List Nat} {o:Oper} (hB:monoB ops m tl late=true) (hit:tl.contains i=false) (hi:ops[i]?=some o):
  (∀ j,j∈depsOf o→j<i∧tl.contains j=false)∧(∀ d,o.dst=some d→d<m∧∀ j,j<ops.size→tl.contains j=false→j≠i→dstOf ops j≠some d)∧(∀ t,t∈o.looksAt ops→∀ j,j<ops.size→tl.contains j=false→dstOf ops j=some t→j∈depsOf o):=by
 have hin:i<ops.size:=(Array.getElem?_eq_some_iff.1 hi).1
 unfold monoB at hB
 rw[Bool.and_eq_true] at hB
 have h:=List.all_eq_true.1 hB.2 i (List.mem_range.2 hin)
 rw[hi,hit,Bool.false_or] at h
 simp only[Bool.and_eq_true,List.all_eq_true,decide_eq_true_eq,List.mem_range,Bool.or_eq_true,Bool.not_eq_true'] at h
 refine⟨h.1.1,fun d hd=>?_,fun t ht j hj hjt e=>?_⟩
 ·have h2:=h.1.2
  rw[hd] at h2
  simp only[Bool.and_eq_true,List.all_eq_true,decide_eq_true_eq,List.mem_range,Bool.or_eq_true] at h2
  exact⟨h2.1,fun j hj hjt hne=>by
   rcases h2.2 j hj with (h3 | h3) | h3
   ·exact absurd h3 hne
   ·rw[hjt] at h3;cases h3
   ·exact h3⟩
 ·rcases h.2 t ht j hj with (h3 | h3) | h3
  ·rw[hjt] at h3;cases h3
  ·exact absurd e h3
  ·simpa using h3
theorem MInv.set {tl:List Nat} {a0:Act} {w0 w:World} {s:Array Bool} {a:Act} {i:Nat} (inv:MInv ops L T tl a0 w0 s a w) (hi:i∈Region.ready .any ops s) (hit:tl.contains i=false):
  (s.setIfInBounds i true).size=ops.size∧(∀ j oj,ops[j]?=some oj→(s.setIfInBounds i true).getD j false=true→∀ e∈oj.after,Region.binds .any e=true→(s.setIfInBounds i true).getD e.on false=true)∧(∀ t,tl.contains t=true→(s.setIfInBounds i true).getD t false=false):=by
 obtain⟨_,oi,hoi,hall⟩:=mem_ready.1 hi
 refine⟨by simp[inv.size],fun j oj hj hl e he hb=>?_,fun t ht=>?_⟩
 ·by_cases hij:i=j
  ·subst hij
   have:oj=oi:=Option.some.inj (hj.symm.trans hoi)
   subst this
   exact getD_set_true (hall e he hb)
  ·rw[getD_set_ne false hij] at hl
   exact getD_set_true (inv.closed j oj hj hl e he hb)
 ·have hne:i≠t:=fun e=>by rw[e,ht] at hit;cases hit
  rw[getD_set_ne false hne];exact inv.tail t ht
theorem chain_waits {tl:List Nat} {s:Array Bool}:∀ {l:List Nat} {t:Nat},chainL ops l=true→(∀ t,t∈l→s.getD t false=false)→t∈l→t∈Region.ready .any ops s→l.head?=some t
 | [],t,_,_,ht,_=>by cases ht
 | x::l,t,hc,hn,ht,hr=>by
  rcases List.mem_cons.1 ht with rfl | ht
  ·rfl
  ·exfalso
   unfold chainL at hc
   rw[Bool.and_eq_true] at hc
   have h1:=chain_waits (tl:=tl) hc.2 (fun t h=>hn t (List.mem_cons_of_mem _ h)) ht hr
   match l,h1,hc with
   | y::l,h1,hc=>
    obtain rfl:y=t:=Option.some.inj h1
    obtain⟨o',ho',e,he,hb,hon⟩:=Region.waitsFor_spec hc.1
    obtain⟨_,o,ho,hall⟩:=mem_ready.1 hr
    rw[ho'] at ho;cases ho
    have h2:=hall e he hb
    rw[hon,hn x (List.mem_cons_self ..)] at h2
    cases h2
theorem sT_get (tl:List Nat) (j:Nat):(sT ops tl)[j]?=if j<ops.size then some (!tl.contains j) else none:=by
 unfold sT
 rw[List.getElem?_toArray,List.getElem?_map]
 by_cases h:j<ops.size
 ·rw[if_pos h,List.getElem?_range h];rfl
 ·rw[if_neg h,List.getElem?_eq_none (by simpa using h)];rfl
theorem fm_congr {α β:Type} {f g:α→Option β}:∀ {l:List α},(∀ x,x∈l→f x=g x)→l.filterMap f=l.filterMap g
 | [],_=>rfl
 | a::l,h=>by rw[List.filterMap_cons,List.filterMap_cons,h a (List.mem_cons_self ..),fm_congr (fun x hx=>h x (List.mem_cons_of_mem _ hx))]
theorem unl_count (tl:List Nat) (s:Array Bool):∀ n,unl tl s n+((List.range n).filter (tl.contains ·)).length≤n
 | 0=>by simp[unl]
 | n+1=>by
  have ih:=unl_count tl s n
  rw[List.range_succ,List.filter_append,List.length_append]
  unfold unl
  cases hc:tl.contains n with
  | true=>
   have:([n].filter (tl.contains ·)).length=1:=by rw[List.filter_cons,if_pos hc];rfl
   rw[this,if_pos (Or.inr rfl)];omega
  | false=>
   have:([n].filter (tl.contains ·)).length=0:=by rw[List.filter_cons,if_neg (by rw[hc];exact Bool.false_ne_true)];rfl
   rw[this];split <;> omega
theorem pick_get {tl:List Nat}:∀ (l:List Oper) (k:Nat),pickT tl k l=((List.range' k l.length).filter (tl.contains ·)).filterMap (fun i=>l[i-k]?)
 | [],k=>by simp[pickT]
 | o::l,k=>by
  have ih:=pick_get (tl:=tl) l (k+1)
  have e:((List.range' (k+1) l.length).filter (tl.contains ·)).filterMap (fun i=>(o::l)[i-k]?)=((List.range' (k+1) l.length).filter (tl.contains ·)).filterMap (fun i=>l[i-(k+1)]?):=by
   apply fm_congr
   intro i hi
   have:=List.mem_range'_1.1 (List.mem_filter.1 hi).1
   obtain⟨q,rfl⟩:∃ q,i=k+1+q:=⟨i-(k+1),by omega⟩
   rw[show k+1+q-k=q+1 by omega,List.getElem?_cons_succ,show k+1+q-(k+1)=q by omega]
  rw[pickT,ih,List.length_cons,List.range'_succ,List.filter_cons]
  split
  ·rw[List.filterMap_cons,Nat.sub_self];simp only[List.getElem?_cons_zero];rw[e]
  ·rw[e]
theorem allV_nil {K:Act→Prop} {W:World} {b:Act} (h:K b):allV ops L T K W [] b:=h
theorem allV_some {K:Act→Prop} {W:World} {b:Act} {j:Nat} {js:List Nat} (d:Tmp) (hd:dstOf ops j=some d) (h:∀ v,Up L (T j) v W→allV ops L T K W js (b.put (some d) v)):allV ops L T K W (j::js) b:=by
 unfold allV;rw[hd];exact h
theorem KT.mk {L:World→World→Prop} {T:Value→World→Prop} {o:Oper} {b a':Act} {W w':World} (h:L W w') (hd:a'.defers=b.defers) (d:Tmp) (ho:o.dst=some d) (ht:T (a'.eval (.tmp d)) w'):KT L T o b W a' w':=by
 refine⟨h,hd,?_⟩
 rw[ho];exact ht
end
end Go.Proofs.YtdmebjbkccjhbaaGreatDoor
namespace Go.Proofs.YtdmebjbkccjhbaaGreatDoor
open Go.RowKit
variable {bz:Nat}
theorem KRowY.at {W:World} {base g:Nat} {l:List Ty} (h:KRowY bz W base g l) (i:Nat) (hi:i<l.length):∃ ta tn tc,W.cell? ⟨g,i*3,none⟩=some (.int .i64 l[i].kind)∧W.cell? ⟨g,i*3+1,none⟩=some (.string l[i].name)∧W.cell? ⟨g,i*3+2,none⟩=some (.slice ta tn tc)∧TyL bz (fun q=>base≤q∧q≠g) W l[i].kids (.slice ta tn tc)∧W.frozen? ⟨g,i*3,none⟩=false∧W.frozen? ⟨g,i*3+1,none⟩=false∧W.frozen? ⟨g,i*3+2,none⟩=false∧g<W.heap.size:=by
 obtain⟨L,K,bG,hL,hR⟩:=h.row
 obtain⟨e0,e1,e2,e3⟩:=hR i hi
 obtain⟨ta,tn,tc,hK⟩:=e3.slice
 rw[hK] at e2 e3
 exact⟨ta,tn,tc,by rw[bG.cell];exact e0,by rw[bG.cell];exact e1,by rw[bG.cell];exact e2,e3,bG.frozen _,bG.frozen _,bG.frozen _,bG.lt⟩
def rlY (x y:ByteArray) (l:List Ty) (j:Nat):List Ty:=(l.take j).map (rnY x y)++l.drop j
theorem rlY_len {x y:ByteArray} {l:List Ty} {j:Nat}:(rlY x y l j).length=l.length:=by unfold rlY;simp;omega
theorem rlY_set {x y:ByteArray} {l:List Ty} {j:Nat} (h:j<l.length):(rlY x y l j).set j (rnY x y l[j])=rlY x y l (j+1):=by
 unfold rlY
 rw[List.take_succ_eq_append_getElem h,List.map_append,List.drop_eq_getElem_cons h,List.set_append_right _ _ (by simp;omega)]
 have e:j-((l.take j).map (rnY x y)).length=0:=by simp;omega
 rw[e,List.set_cons_zero,List.append_assoc]
 rfl
structure RnI (bz:Nat) (w:World) (kd:Int) (nm x y:ByteArray) (l:List Ty) (a:Option Addr) (c g O j:Nat) (wr:World):Prop where
 kp:Kept (fun _=>False) w wr
 r:Blk wr (w.heap.size+1) 24 [Value.int .i64 0,.string ⟨#[]⟩,.slice none 0 0]
 o:Blk wr O 24 [.int .i64 kd,.string nm,.slice a l.length c]
 ob:w.heap.size+2≤O
 ol:l=[]→empty0 (.slice a l.length c)
 row:l≠[]→a=some ⟨g,0,none⟩∧w.heap.size+2≤g∧g≠O∧l.length≤c∧KRowY bz wr (w.heap.size+2) g (rlY x y l j)
theorem RnI.kept {w wr W:World} {kd:Int} {nm x y:ByteArray} {l:List Ty} {a:Option Addr} {c g O j:Nat} (h:RnI bz w kd nm x y l a c g O j wr) (k:Kept (fun _=>False) wr W):RnI bz w kd nm x y l a c g O j W:=
 ⟨h.kp.trans k,h.r.kept k (fun e=>e),h.o.kept k (fun e=>e),h.ob,h.ol,fun hne=>by
  obtain⟨h1,h2,h3,h4,h5⟩:=h.row hne
  exact⟨h1,h2,h3,h4,h5.kept k (fun e=>e) (fun _ _ _ e=>e)⟩⟩
theorem RnI.step {w wr W:World} {kd:Int} {nm x y:ByteArray} {l:List Ty} {a:Option Addr} {c g O j:Nat} {v:Value} (h:RnI bz w kd nm x y l a c g O j wr) (hj:j<l.length) (k:Kept (fun _=>False) wr W) (hv:TyL bz (fun q=>wr.heap.size≤q) W (rnY x y l[j]).kids v):
  RnI bz w kd nm x y l a c g O (j+1) (((W.setCell ⟨g,j*3,none⟩ (.int .i64 (rnY x y l[j]).kind)).setCell ⟨g,j*3+1,none⟩ (.string (rnY x y l[j]).name)).setCell ⟨g,j*3+2,none⟩ v):=by
 have hne:l≠[]:=fun e=>by subst e;simp at hj
 have h0:=h.kept k
 obtain⟨h1,h2,h3,h4,h5⟩:=h0.row hne
 have hgl:g<wr.heap.size:=by
  obtain⟨_,_,_,_,h6⟩:=h.row hne
  obtain⟨L,K,bG,_⟩:=h6.row
  exact bG.lt
 have kS:Kept (·=g) W (((W.setCell ⟨g,j*3,none⟩ (.int .i64 (rnY x y l[j]).kind)).setCell ⟨g,j*3+1,none⟩ (.string (rnY x y l[j]).name)).setCell ⟨g,j*3+2,none⟩ v):=(((Kept.refl (fun x=>x=g) _).setCell (p:=⟨g,j*3,none⟩) (Or.inl rfl) _).setCell (p:=⟨g,j*3+1,none⟩) (Or.inl rfl) _).setCell (p:=⟨g,j*3+2,none⟩) (Or.inl rfl) _
 refine⟨h0.kp.via1 kS (fun q hq e=>by have e':q=g:=e;omega),h0.r.kept kS (by show ¬ w.heap.size+1=g;omega),h0.o.kept kS (by show ¬ O=g;omega),h.ob,fun e=>absurd e hne,fun _=>⟨h1,h2,h3,h4,?_⟩⟩
 have hp:=h5.put (j:=j) (u:=rnY x y l[j]) (v:=v) (by rw[rlY_len];exact hj) (hv.mono (fun q _ hq=>⟨by have:=h.kp.size;have:=h.ob;have:=h.r.lt;omega,by omega⟩))
 rw[rlY_set hj] at hp
 exact hp
theorem KRow.lt {W:World} {base g:Nat} {l:List Tm} (h:KRow bz W base g l):g<W.heap.size:=by
 obtain⟨L,K,M,bG,_⟩:=h.row;exact bG.lt
theorem KRow.at {W:World} {base g:Nat} {l:List Tm} (h:KRow bz W base g l) (i:Nat) (hi:i<l.length):∃ ta tn tc ma mn mc,C7 W g (i*7) l[i] (.slice ta tn tc) (.slice ma mn mc)∧TyL bz (fun q=>base≤q∧q≠g) W l[i].ty.kids (.slice ta tn tc)∧TmL bz (fun q=>base≤q∧q≠g) W l[i].kids (.slice ma mn mc):=by
 obtain⟨L,K,M,bG,hL,hR⟩:=h.row
 obtain⟨e0,e1,e2,e3,e4,e5,e6,e7,e8⟩:=hR i hi
 obtain⟨ta,tn,tc,hK⟩:=e7.slice
 obtain⟨ma,mn,mc,hM⟩:=e8.slice
 rw[hK] at e5 e7
 rw[hM] at e6 e8
 exact⟨ta,tn,tc,ma,mn,mc,⟨by rw[bG.cell];exact e0,by rw[bG.cell];exact e1,by rw[bG.cell];exact e2,by rw[bG.cell];exact e3,by rw[bG.cell];exact e4,by rw[bG.cell];exact e5,by rw[bG.cell];exact e6⟩,e7,e8⟩
def rlM (x y:ByteArray) (l:List Tm) (j:Nat):List Tm:=(l.take j).map (rdT x y)++l.drop j
theorem rlM_len {x y:ByteArray} {l:List Tm} {j:Nat}:(rlM x y l j).length=l.length:=by unfold rlM;simp;omega
theorem rlM_set {x y:ByteArray} {l:List Tm} {j:Nat} (h:j<l.length):(rlM x y l j).set j (rdT x y l[j])=rlM x y l (j+1):=by
 unfold rlM
 rw[List.take_succ_eq_append_getElem h,List.map_append,List.drop_eq_getElem_cons h,List.set_append_right _ _ (by simp;omega)]
 have e:j-((l.take j).map (rdT x y)).length=0:=by simp;omega
 rw[e,List.set_cons_zero,List.append_assoc]
 rfl
structure RnJ (bz:Nat) (w:World) (op:Int) (nm:ByteArray) (N:Int) (ty:Ty) (tv:Value) (x y:ByteArray) (l:List Tm) (a:Option Addr) (c g O j:Nat) (wr:World):Prop where
 kp:Kept (fun _=>False) w wr
 r:Blk wr (w.heap.size+1) 27 z27
 o:Blk wr O 27 [Value.int .i64 op,.string nm,.int .i64 N,.int .i64 ty.kind,.string ty.name,tv,.slice a l.length c]
 ob:w.heap.size+2≤O
 ol:l=[]→empty0 (.slice a l.length c)
 ty:TyL bz (fun q=>w.heap.size+2≤q∧(l≠[]→q≠g)) wr ty.kids tv
 row:l≠[]→a=some ⟨g,0,none⟩∧w.heap.size+2≤g∧g≠O∧l.length≤c∧KRow bz wr (w.heap.size+2) g (rlM x y l j)
theorem RnJ.kept {w wr W:World} {op:Int} {nm:ByteArray} {N:Int} {ty:Ty} {tv:Value} {x y:ByteArray} {l:List Tm} {a:Option Addr} {c g O j:Nat} (h:RnJ bz w op nm N ty tv x y l a c g O j wr) (k:Kept (fun _=>False) wr W):RnJ bz w op nm N ty tv x y l a c g O j W:=
 ⟨h.kp.trans k,h.r.kept k (fun e=>e),h.o.kept k (fun e=>e),h.ob,h.ol,h.ty.frame (sK k),fun hne=>by
  obtain⟨h1,h2,h3,h4,h5⟩:=h.row hne
  exact⟨h1,h2,h3,h4,h5.kept k (fun e=>e) (fun _ _ _ e=>e)⟩⟩
theorem RnJ.step {w wr W:World} {op:Int} {nm:ByteArray} {N:Int} {ty:Ty} {tv:Value} {x y:ByteArray} {l:List Tm} {a:Option Addr} {c g O j:Nat} {v u:Value} (h:RnJ bz w op nm N ty tv x y l a c g O j wr) (hj:j<l.length) (k:Kept (fun _=>False) wr W) (hv:TyL bz (fun q=>wr.heap.size≤q) W (rdT x y l[j]).ty.kids v) (hu:TmL bz (fun q=>wr.heap.size≤q) W (rdT x y l[j]).kids u):
  RnJ bz w op nm N ty tv x y l a c g O (j+1) (((((((W.setCell ⟨g,j*7,none⟩ (.int .i64 (rdT x y l[j]).op)).setCell ⟨g,j*7+1,none⟩ (.string (rdT x y l[j]).name)).setCell ⟨g,j*7+2,none⟩ (.int .i64 (rdT x y l[j]).n)).setCell ⟨g,j*7+3,none⟩ (.int .i64 (rdT x y l[j]).ty.kind)).setCell ⟨g,j*7+4,none⟩ (.string (rdT x y l[j]).ty.name)).setCell ⟨g,j*7+5,none⟩ v).setCell ⟨g,j*7+6,none⟩ u):=by
 have hne:l≠[]:=fun e=>by subst e;simp at hj
 have h0:=h.kept k
 obtain⟨h1,h2,h3,h4,h5⟩:=h0.row hne
 have hgl:g<wr.heap.size:=(h.row hne).2.2.2.2.lt
 have kS:Kept (·=g) W (((((((W.setCell ⟨g,j*7,none⟩ (.int .i64 (rdT x y l[j]).op)).setCell ⟨g,j*7+1,none⟩ (.string (rdT x y l[j]).name)).setCell ⟨g,j*7+2,none⟩ (.int .i64 (rdT x y l[j]).n)).setCell ⟨g,j*7+3,none⟩ (.int .i64 (rdT x y l[j]).ty.kind)).setCell ⟨g,j*7+4,none⟩ (.string (rdT x y l[j]).ty.name)).setCell ⟨g,j*7+5,none⟩ v).setCell ⟨g,j*7+6,none⟩ u):=(((((((Kept.refl (fun x=>x=g) _).setCell (p:=⟨g,j*7,none⟩) (Or.inl rfl) _).setCell (p:=⟨g,j*7+1,none⟩) (Or.inl rfl) _).setCell (p:=⟨g,j*7+2,none⟩) (Or.inl rfl) _).setCell (p:=⟨g,j*7+3,none⟩) (Or.inl rfl) _).setCell (p:=⟨g,j*7+4,none⟩) (Or.inl rfl) _).setCell (p:=⟨g,j*7+5,none⟩) (Or.inl rfl) _).setCell (p:=⟨g,j*7+6,none⟩) (Or.inl rfl) _
 have hz:w.heap.size+2≤wr.heap.size:=by have:=h.o.lt;have:=h.ob;omega
 refine⟨h0.kp.via1 kS (fun q hq e=>by have e':q=g:=e;omega),h0.r.kept kS (by show ¬ w.heap.size+1=g;omega),h0.o.kept kS (by show ¬ O=g;omega),h.ob,fun e=>absurd e hne,h0.ty.frame (Same.of_kept kS (fun q hq e=>hq.2 hne e)),fun _=>⟨h1,h2,h3,h4,?_⟩⟩
 have hp:=h5.put (j:=j) (u:=rdT x y l[j]) (v:=v) (x:=u) (by rw[rlM_len];exact hj) (hv.mono (fun q _ hq=>⟨by omega,by omega⟩)) (hu.mono (fun q _ hq=>⟨by omega,by omega⟩))
 rw[rlM_set hj] at hp
 exact hp
def rnN (x y:ByteArray) (k:Int) (nm:ByteArray):ByteArray:=if k=3∧nm=x then y else nm
def Part (x y:ByteArray) (k:Int) (n m:ByteArray):Prop:=m=n∨m=rnN x y k n
def Full (x y:ByteArray) (k:Int) (n m:ByteArray):Prop:=m=rnN x y k n
theorem full_stay {x y n:ByteArray} (h:Full x y 3 n x):Full x y 3 n y:=by
 unfold Full rnN at *
 by_cases e:n=x
 ·rw[if_pos ⟨rfl,e⟩]
 ·rw[if_neg (fun q=>e q.2)] at h
  exact absurd h.symm e
theorem part_stay {x y n:ByteArray} (h:Part x y 3 n x):Part x y 3 n y:=by
 rcases h with h | h
 ·right;unfold rnN;rw[if_pos ⟨rfl,h.symm⟩]
 ·exact Or.inr (full_stay h)
theorem part_turn {x y n m:ByteArray} {k:Int} (h:Part x y k n m):rnN x y k n=m∨(k=3∧m=x∧rnN x y k n=y):=by
 rcases h with rfl | h
 ·unfold rnN
  by_cases e:k=3∧m=x
  ·rw[if_pos e];exact Or.inr ⟨e.1,e.2,rfl⟩
  ·rw[if_neg e];exact Or.inl rfl
 ·exact Or.inl h.symm
def posY (T c:Nat):Prop:=(T=24∧c % 3=1)∨(T=27∧c % 7=4)
def RL (x y:ByteArray) (T:Nat) (L L':List Value):Prop:=L'.length=L.length∧∀ c,L'[c]?=L[c]?∨(posY T c∧L[c]?=some (.string x)∧L'[c]?=some (.string y)∧L[c-1]?=some (.int .i64 3))
theorem RL.refl {x y:ByteArray} {T:Nat} {L:List Value}:RL x y T L L:=⟨rfl,fun _=>Or.inl rfl⟩
theorem RL.trans {x y:ByteArray} {T:Nat} {L L' L2:List Value} (h:RL x y T L L') (h2:RL x y T L' L2):RL x y T L L2:=by
 refine⟨h2.1.trans h.1,fun c=>?_⟩
 rcases h2.2 c with e | ⟨p,e1,e2,e3⟩
 ·rw[e];exact h.2 c
 ·right
  have e4:L[c-1]?=some (.int .i64 3):=by
   rcases h.2 (c-1) with q | ⟨_,_,q,_⟩
   ·rw[← q];exact e3
   ·rw[q] at e3;cases e3
  rcases h.2 c with q | ⟨_,q,_,_⟩
  ·rw[q] at e1;exact⟨p,e1,e2,e4⟩
  ·exact⟨p,q,e2,e4⟩
def RwB (x y:ByteArray) (ok:Nat→Prop) (W W':World):Prop:=∀ b T L,ok b→Blk W b T L→∃ L',Blk W' b T L'∧RL x y T L L'
theorem RwB.of_kept {x y:ByteArray} {ok S:Nat→Prop} {W W':World} (k:Kept S W W') (h:∀ q,ok q→¬ S q):RwB x y ok W W':=fun b T L hb hL=>⟨L,hL.kept k (h b hb),RL.refl⟩
structure Rw (x y:ByteArray) (ok:Nat→Prop) (W W':World):Prop where
 kp:Kept ok W W'
 bl:RwB x y ok W W'
theorem Rw.refl {x y:ByteArray} {ok:Nat→Prop} {W:World}:Rw x y ok W W:=⟨Kept.refl _ _,fun b T L _ h=>⟨L,h,RL.refl⟩⟩
theorem Rw.trans {x y:ByteArray} {ok:Nat→Prop} {W W' W2:World} (h:Rw x y ok W W') (h2:Rw x y ok W' W2):Rw x y ok W W2:=
 ⟨h.kp.trans h2.kp,fun b T L hb hL=>by
  obtain⟨L',h3,h4⟩:=h.bl b T L hb hL
  obtain⟨L2,h5,h6⟩:=h2.bl b T L' hb h3
  exact⟨L2,h5,h4.trans h6⟩⟩
theorem Rw.via {x y:ByteArray} {ok S:Nat→Prop} {W W' W2:World} (h:Rw x y ok W W') (k:Kept S W' W2) (hS:∀ q,q<W.heap.size→¬ S q):Rw x y ok W W2:=
 ⟨h.kp.via1 k (fun q hq e=>absurd e (hS q hq)),fun b T L hb hL=>by
  obtain⟨L',h3,h4⟩:=h.bl b T L hb hL
  exact⟨L',h3.kept k (hS b hL.lt),h4⟩⟩
theorem Rw.of_kept {x y:ByteArray} {ok:Nat→Prop} {W W':World} (k:Kept (fun _=>False) W W'):Rw x y ok W W':=Rw.refl.via k (fun _ _ e=>e)
theorem Rw.out {x y:ByteArray} {ok:Nat→Prop} {W W':World} (h:Rw x y ok W W') {b T:Nat} {L:List Value} (hb:Blk W b T L) (hn:¬ ok b):Blk W' b T L:=hb.kept h.kp hn
inductive PyL (P:Int→ByteArray→ByteArray→Prop) (ok:Nat→Prop) (w:World):List Ty→Value→Prop
 | nil {v:Value} (h:empty0 v):PyL P ok w [] v
 | mk {l:List Ty} {b cap:Nat} (K:Nat→Value) (L:List Value) (hne:l≠[]) (hb:ok b) (hc:l.length≤cap) (hL:Blk w b 24 L) (hl:l.length*3≤L.length)
   (hcell:∀ i (h:i<l.length),L[i*3]?=some (.int .i64 l[i].kind)∧(∃ m,L[i*3+1]?=some (.string m)∧P l[i].kind l[i].name m)∧L[i*3+2]?=some (K i))
   (hk:∀ i (h:i<l.length),PyL P ok w l[i].kids (K i)):PyL P ok w l (.slice (some ⟨b,0,none⟩) l.length cap)
inductive PmL (P:Int→ByteArray→ByteArray→Prop) (ok:Nat→Prop) (w:World):List Tm→Value→Prop
 | nil {v:Value} (h:empty0 v):PmL P ok w [] v
 | mk {l:List Tm} {b cap:Nat} (K M:Nat→Value) (L:List Value) (hne:l≠[]) (hb:ok b) (hc:l.length≤cap) (hL:Blk w b 27 L) (hl:l.length*7≤L.length)
   (hcell:∀ i (h:i<l.length),L[i*7]?=some (.int .i64 l[i].op)∧L[i*7+1]?=some (.string l[i].name)∧L[i*7+2]?=some (.int .i64 l[i].n)∧L[i*7+3]?=some (.int .i64 l[i].ty.kind)∧(∃ m,L[i*7+4]?=some (.string m)∧P l[i].ty.kind l[i].ty.name m)∧L[i*7+5]?=some (K i)∧L[i*7+6]?=some (M i))
   (hk:∀ i (h:i<l.length),PyL P ok w l[i].ty.kids (K i)) (hm:∀ i (h:i<l.length),PmL P ok w l[i].kids (M i)):PmL P ok w l (.slice (some ⟨b,0,none⟩) l.length cap)
theorem RL.keep {x y:ByteArray} {T:Nat} {L L':List Value} (h:RL x y T L L') {c:Nat} {v:Value} (hc:L[c]?=some v) (hp:¬ posY T c):L'[c]?=some v:=by
 rcases h.2 c with e | ⟨p,_⟩
 ·rw[e];exact hc
 ·exact absurd p hp
theorem RL.name {x y:ByteArray} {T:Nat} {L L':List Value} (h:RL x y T L L') {P:Int→ByteArray→ByteArray→Prop} (hP:∀ n,P 3 n x→P 3 n y) {c:Nat} {k:Int} {n:ByteArray} (hk:L[c]?=some (.int .i64 k)) (hc:∃ m,L[c+1]?=some (.string m)∧P k n m):∃ m,L'[c+1]?=some (.string m)∧P k n m:=by
 obtain⟨m,e,p⟩:=hc
 rcases h.2 (c+1) with q | ⟨_,q1,q2,q3⟩
 ·exact⟨m,by rw[q];exact e,p⟩
 ·rw[Nat.add_sub_cancel,hk] at q3
  have e1:k=3:=by injection q3 with q3;injection q3
  rw[e] at q1
  have e2:m=x:=by injection q1 with q1;injection q1
  subst e1 e2
  exact⟨y,q2,hP n p⟩
theorem PyL.frame {x y:ByteArray} {P:Int→ByteArray→ByteArray→Prop} {ok:Nat→Prop} {W W':World} (hP:∀ n,P 3 n x→P 3 n y) (h:RwB x y ok W W') {l:List Ty} {v:Value} (p:PyL P ok W l v):PyL P ok W' l v:=by
 induction p with
 | nil h=>exact .nil h
 | mk K L hne hb hc hL hl hcell hk ih=>
  obtain⟨L',hL',hr⟩:=h _ _ _ hb hL
  refine .mk K L' hne hb hc hL' (by rw[hr.1];exact hl) (fun i hi=>?_) ih
  obtain⟨c0,c1,c2⟩:=hcell i hi
  exact⟨hr.keep c0 (by unfold posY;omega),hr.name hP c0 c1,hr.keep c2 (by unfold posY;omega)⟩
theorem PmL.frame {x y:ByteArray} {P:Int→ByteArray→ByteArray→Prop} {ok:Nat→Prop} {W W':World} (hP:∀ n,P 3 n x→P 3 n y) (h:RwB x y ok W W') {l:List Tm} {v:Value} (p:PmL P ok W l v):PmL P ok W' l v:=by
 induction p with
 | nil h=>exact .nil h
 | mk K M L hne hb hc hL hl hcell hk hm ih=>
  obtain⟨L',hL',hr⟩:=h _ _ _ hb hL
  refine .mk K M L' hne hb hc hL' (by rw[hr.1];exact hl) (fun i hi=>?_) (fun i hi=>(hk i hi).frame hP h) ih
  obtain⟨c0,c1,c2,c3,c4,c5,c6⟩:=hcell i hi
  exact⟨hr.keep c0 (by unfold posY;omega),hr.keep c1 (by unfold posY;omega),hr.keep c2 (by unfold posY;omega),hr.keep c3 (by unfold posY;omega),hr.name hP c3 c4,hr.keep c5 (by unfold posY;omega),hr.keep c6 (by unfold posY;omega)⟩
theorem TyL.part {x y:ByteArray} {ok:Nat→Prop} {w:World} (ho:∀ q,ok q→bz≤q) {l:List Ty} {v:Value} (h:TyL bz ok w l v):PyL (Part x y) ok w l v:=by
 induction h with
 | nil h=>exact .nil h
 | mk K hne hb hc hcell hk hs ih=>
  obtain⟨rfl,L,hL,hl⟩:=hs (ho _ hb)
  refine .mk K L hne hb hc hL hl (fun i hi=>?_) ih
  obtain⟨c0,c1,c2⟩:=hcell i hi
  rw[Nat.zero_add,hL.cell] at c0 c1 c2
  exact⟨c0,⟨_,c1,Or.inl rfl⟩,c2⟩
theorem TmL.part {x y:ByteArray} {ok:Nat→Prop} {w:World} (ho:∀ q,ok q→bz≤q) {l:List Tm} {v:Value} (h:TmL bz ok w l v):PmL (Part x y) ok w l v:=by
 induction h with
 | nil h=>exact .nil h
 | mk K M hne hb hc hcell hk hm hs ih=>
  obtain⟨rfl,L,hL,hl⟩:=hs (ho _ hb)
  refine .mk K M L hne hb hc hL hl (fun i hi=>?_) (fun i hi=>(hk i hi).part ho) ih
  obtain⟨c0,c1,c2,c3,c4,c5,c6⟩:=hcell i hi
  rw[Nat.zero_add,hL.cell] at c0 c1 c2 c3 c4 c5 c6
  exact⟨c0,c1,c2,c3,⟨_,c4,Or.inl rfl⟩,c5,c6⟩
theorem rnY_parts (x y:ByteArray) (t:Ty):(rnY x y t).kind=t.kind∧(rnY x y t).name=rnN x y t.kind t.name∧(rnY x y t).kids=rnYs x y t.kids:=by cases t;exact⟨rfl,rfl,rfl⟩
theorem rnT_parts (x y:ByteArray) (t:Tm):(rnT x y t).op=t.op∧(rnT x y t).name=t.name∧(rnT x y t).n=t.n∧(rnT x y t).ty=rnY x y t.ty∧(rnT x y t).kids=rnTs x y t.kids:=by cases t;exact⟨rfl,rfl,rfl,rfl,rfl⟩
theorem PyL.whole {x y:ByteArray} {ok:Nat→Prop} {w:World} {l:List Ty} {v:Value} (h:PyL (Full x y) ok w l v):TyL bz ok w (rnYs x y l) v:=by
 induction h with
 | nil h=>exact .nil h
 | mk K L hne hb hc hL hl hcell hk ih=>
  rename_i l b cap
  have hlen:=rnYs_len x y l
  have hat:∀ i (h:i<(rnYs x y l).length) (h':i<l.length),(rnYs x y l)[i]=rnY x y l[i]:=fun i h h'=>by simp only[rnYs_map,List.getElem_map]
  have key:TyL bz ok w (rnYs x y l) (.slice (some ⟨b,0,none⟩) (rnYs x y l).length cap):=by
   refine TyL.mk K (fun e=>hne (by rw[e] at hlen;exact List.length_eq_zero_iff.1 hlen.symm)) hb (by rw[hlen];exact hc) (fun i hi=>?_) (fun i hi=>?_) (fun _=>⟨rfl,L,hL,by rw[hlen];exact hl⟩)
   ·have hi':i<l.length:=by rw[hlen] at hi;exact hi
    obtain⟨c0,⟨m,c1,p⟩,c2⟩:=hcell i hi'
    rw[hat i hi hi',(rnY_parts x y l[i]).1,(rnY_parts x y l[i]).2.1,Nat.zero_add,hL.cell,hL.cell,hL.cell]
    have p:m=rnN x y l[i].kind l[i].name:=p
    rw[← p]
    exact⟨c0,c1,c2⟩
   ·have hi':i<l.length:=by rw[hlen] at hi;exact hi
    rw[hat i hi hi',(rnY_parts x y l[i]).2.2]
    exact ih i hi'
  rw[hlen] at key
  exact key
theorem PmL.whole {x y:ByteArray} {ok:Nat→Prop} {w:World} {l:List Tm} {v:Value} (h:PmL (Full x y) ok w l v):TmL bz ok w (rnTs x y l) v:=by
 induction h with
 | nil h=>exact .nil h
 | mk K M L hne hb hc hL hl hcell hk hm ih=>
  rename_i l b cap
  have hlen:=rnTs_len x y l
  have hat:∀ i (h:i<(rnTs x y l).length) (h':i<l.length),(rnTs x y l)[i]=rnT x y l[i]:=fun i h h'=>by simp only[rnTs_map,List.getElem_map]
  have key:TmL bz ok w (rnTs x y l) (.slice (some ⟨b,0,none⟩) (rnTs x y l).length cap):=by
   refine TmL.mk K M (fun e=>hne (by rw[e] at hlen;exact List.length_eq_zero_iff.1 hlen.symm)) hb (by rw[hlen];exact hc) (fun i hi=>?_) (fun i hi=>?_) (fun i hi=>?_) (fun _=>⟨rfl,L,hL,by rw[hlen];exact hl⟩)
   ·have hi':i<l.length:=by rw[hlen] at hi;exact hi
    obtain⟨c0,c1,c2,c3,⟨m,c4,p⟩,c5,c6⟩:=hcell i hi'
    obtain⟨q0,q1,q2,q3,_⟩:=rnT_parts x y l[i]
    rw[hat i hi hi',q0,q1,q2,q3,(rnY_parts x y l[i].ty).1,(rnY_parts x y l[i].ty).2.1,Nat.zero_add]
    simp only[hL.cell]
    have p:m=rnN x y l[i].ty.kind l[i].ty.name:=p
    rw[← p]
    exact⟨c0,c1,c2,c3,c4,c5,c6⟩
   ·have hi':i<l.length:=by rw[hlen] at hi;exact hi
    rw[hat i hi hi',(rnT_parts x y l[i]).2.2.2.1,(rnY_parts x y l[i].ty).2.2]
    exact (hk i hi').whole
   ·have hi':i<l.length:=by rw[hlen] at hi;exact hi
    rw[hat i hi hi',(rnT_parts x y l[i]).2.2.2.2]
    exact ih i hi'
  rw[hlen] at key
  exact key
theorem PyL.slice {P:Int→ByteArray→ByteArray→Prop} {ok:Nat→Prop} {w:World} {l:List Ty} {v:Value} (h:PyL P ok w l v):∃ a c,v=.slice a l.length c:=by
 cases h with
 | nil h=>rcases h with rfl | ⟨a,c,rfl⟩ <;> exact⟨_,_,rfl⟩
 | mk K L=>exact⟨_,_,rfl⟩
theorem PmL.slice {P:Int→ByteArray→ByteArray→Prop} {ok:Nat→Prop} {w:World} {l:List Tm} {v:Value} (h:PmL P ok w l v):∃ a c,v=.slice a l.length c:=by
 cases h with
 | nil h=>rcases h with rfl | ⟨a,c,rfl⟩ <;> exact⟨_,_,rfl⟩
 | mk K M L=>exact⟨_,_,rfl⟩
abbrev spN:ByteArray:=⟨#[115,112,111,105,108,116]⟩
def SR (L L':List Value):Prop:=L'.length=L.length∧∀ i,L'[i*7+6]?=L[i*7+6]?∨L'[i*7+6]?=some (.slice none 0 0)
theorem SR.refl {L:List Value}:SR L L:=⟨rfl,fun _=>Or.inl rfl⟩
theorem SR.trans {L L' L2:List Value} (h:SR L L') (h2:SR L' L2):SR L L2:=
 ⟨h2.1.trans h.1,fun i=>by
  rcases h2.2 i with e | e
  ·rcases h.2 i with e' | e'
   ·exact Or.inl (e.trans e')
   ·exact Or.inr (e.trans e')
  ·exact Or.inr e⟩
def SwB (ok:Nat→Prop) (W W':World):Prop:=∀ b L,ok b→Blk W b 27 L→∃ L',Blk W' b 27 L'∧SR L L'
structure Sw (ok:Nat→Prop) (W W':World):Prop where
 kp:Kept ok W W'
 bl:SwB ok W W'
theorem Sw.refl {ok:Nat→Prop} {W:World}:Sw ok W W:=⟨Kept.refl _ _,fun b L _ h=>⟨L,h,SR.refl⟩⟩
theorem Sw.trans {ok:Nat→Prop} {W W' W2:World} (h:Sw ok W W') (h2:Sw ok W' W2):Sw ok W W2:=
 ⟨h.kp.trans h2.kp,fun b L hb hL=>by
  obtain⟨L',h3,h4⟩:=h.bl b L hb hL
  obtain⟨L2,h5,h6⟩:=h2.bl b L' hb h3
  exact⟨L2,h5,h4.trans h6⟩⟩
theorem Sw.mono {ok ok':Nat→Prop} {W W':World} (h:Sw ok W W') (hm:∀ q,ok q→ok' q):Kept ok' W W':=
 ⟨h.kp.os,h.kp.tape,h.kp.output,h.kp.size,fun i hi hs=>h.kp.block i hi (fun q=>hs (hm i q))⟩
inductive SpL (ok:Nat→Prop) (w:World):List Tm→Value→Prop
 | nil {l:List Tm}:SpL ok w l (.slice none 0 0)
 | nil' {v:Value} (h:empty0 v):SpL ok w [] v
 | mk {l:List Tm} {b cap:Nat} (M:Nat→Value) (L:List Value) (hne:l≠[]) (hb:ok b) (hc:l.length≤cap) (hL:Blk w b 27 L) (hl:l.length*7≤L.length)
   (hcell:∀ i (h:i<l.length),L[i*7+6]?=some (M i)) (hm:∀ i (h:i<l.length),SpL ok w l[i].kids (M i)):SpL ok w l (.slice (some ⟨b,0,none⟩) l.length cap)
theorem TmL.sp {ok:Nat→Prop} {w:World} (ho:∀ q,ok q→bz≤q) {l:List Tm} {v:Value} (h:TmL bz ok w l v):SpL ok w l v:=by
 induction h with
 | nil h=>exact .nil' h
 | mk K M hne hb hc hcell hk hm hs ih=>
  obtain⟨rfl,L,hL,hl⟩:=hs (ho _ hb)
  refine .mk M L hne hb hc hL hl (fun i hi=>?_) ih
  obtain⟨c0,c1,c2,c3,c4,c5,c6⟩:=hcell i hi
  rw[Nat.zero_add,hL.cell] at c6
  exact c6
theorem SpL.frame {ok:Nat→Prop} {W W':World} (hr:SwB ok W W') {l:List Tm} {v:Value} (h:SpL ok W l v):SpL ok W' l v:=by
 induction h with
 | nil=>exact .nil
 | nil' h=>exact .nil' h
 | @mk l b cap M L hne hb hc hL hl hcell hm ih=>
  obtain⟨L',hL',h1,h2⟩:=hr _ _ hb hL
  refine .mk (fun i=>(L'[i*7+6]?).getD (.slice none 0 0)) L' hne hb hc hL' (by rw[h1];exact hl) (fun i hi=>?_) (fun i hi=>?_)
  ·rcases h2 i with e | e
   ·rw[e,hcell i hi];rfl
   ·rw[e];rfl
  ·rcases h2 i with e | e
   ·rw[e,hcell i hi];exact ih i hi
   ·rw[e];exact .nil
theorem SpL.slice {ok:Nat→Prop} {w:World} {l:List Tm} {v:Value} (h:SpL ok w l v):(∃ a c,v=.slice a 0 c)∨∃ b c,v=.slice (some ⟨b,0,none⟩) l.length c:=by
 cases h with
 | nil=>exact Or.inl ⟨none,0,rfl⟩
 | nil' h=>rcases h with rfl | ⟨a,c,rfl⟩;exact Or.inl ⟨none,0,rfl⟩;exact Or.inl ⟨some a,c,rfl⟩
 | mk M L hne hb hc hL hl=>exact Or.inr ⟨_,_,rfl⟩
theorem SpL.at {ok:Nat→Prop} {w:World} {l:List Tm} {b c:Nat} (h:SpL ok w l (.slice (some ⟨b,0,none⟩) l.length c)) (j:Nat) (hj:j<l.length):ok b∧∃ L ka kn kc,Blk w b 27 L∧l.length*7≤L.length∧L[j*7+6]?=some (.slice ka kn kc)∧SpL ok w l[j].kids (.slice ka kn kc):=by
 generalize hv:Value.slice (some ⟨b,0,none⟩) l.length c=v at h
 cases h with
 | nil=>cases hv
 | nil' h=>simp at hj
 | mk M L hne hb hc hL hl hcell hm=>
  injection hv with h1 h2 h3
  have h1:=Option.some.inj h1
  injection h1 with h1
  subst h1
  have hs:=hm j hj
  have hcl:=hcell j hj
  rcases hs.slice with ⟨a,c,e⟩ | ⟨b',c',e⟩
  ·rw[e] at hs hcl;exact⟨hb,L,_,_,_,hL,hl,hcl,hs⟩
  ·rw[e] at hs hcl;exact⟨hb,L,_,_,_,hL,hl,hcl,hs⟩
theorem sw_store {ok:Nat→Prop} {W:World} {b j:Nat} {L:List Value} (hb:ok b) (bL:Blk W b 27 L) (hl:j*7+7≤L.length):Sw ok W (((((((W.setCell ⟨b,j*7,none⟩ (.int .i64 (-1))).setCell ⟨b,j*7+1,none⟩ (.string spN)).setCell ⟨b,j*7+2,none⟩ (.int .i64 0)).setCell ⟨b,j*7+3,none⟩ (.int .i64 0)).setCell ⟨b,j*7+4,none⟩ (.string ⟨#[]⟩)).setCell ⟨b,j*7+5,none⟩ (.slice none 0 0)).setCell ⟨b,j*7+6,none⟩ (.slice none 0 0)):=by
 have bG7:Blk (((((((W.setCell ⟨b,j*7,none⟩ (.int .i64 (-1))).setCell ⟨b,j*7+1,none⟩ (.string spN)).setCell ⟨b,j*7+2,none⟩ (.int .i64 0)).setCell ⟨b,j*7+3,none⟩ (.int .i64 0)).setCell ⟨b,j*7+4,none⟩ (.string ⟨#[]⟩)).setCell ⟨b,j*7+5,none⟩ (.slice none 0 0)).setCell ⟨b,j*7+6,none⟩ (.slice none 0 0)) b 27 (((((((L.set (j*7) (.int .i64 (-1))).set (j*7+1) (.string spN)).set (j*7+2) (.int .i64 0)).set (j*7+3) (.int .i64 0)).set (j*7+4) (.string ⟨#[]⟩)).set (j*7+5) (.slice none 0 0)).set (j*7+6) (.slice none 0 0)):=((((((bL.set _ _).set _ _).set _ _).set _ _).set _ _).set _ _).set _ _
 refine⟨((((((((Kept.refl ok W).setCell (p:=⟨b,j*7,none⟩) (Or.inl hb) _).setCell (p:=⟨b,j*7+1,none⟩) (Or.inl hb) _).setCell (p:=⟨b,j*7+2,none⟩) (Or.inl hb) _).setCell (p:=⟨b,j*7+3,none⟩) (Or.inl hb) _).setCell (p:=⟨b,j*7+4,none⟩) (Or.inl hb) _).setCell (p:=⟨b,j*7+5,none⟩) (Or.inl hb) _).setCell (p:=⟨b,j*7+6,none⟩) (Or.inl hb) _),fun b' L0 hb' hL0=>?_⟩
 by_cases e:b'=b
 ·subst e
  have e1:(some (Obj.cells L0.toArray 27 (0,0)):Option Obj)=some (Obj.cells L.toArray 27 (0,0)):=hL0.symm.trans bL
  injection e1 with e1
  injection e1 with e1 e2
  have e3:L0=L:=by simpa using congrArg Array.toList e1
  subst e3
  refine⟨_,bG7,by simp,fun i=>?_⟩
  by_cases h6:i=j
  ·subst h6;right;rw[List.getElem?_set_self (by simp;omega)]
  ·left
   rw[List.getElem?_set_ne (by omega),List.getElem?_set_ne (by omega),List.getElem?_set_ne (by omega),List.getElem?_set_ne (by omega),List.getElem?_set_ne (by omega),List.getElem?_set_ne (by omega),List.getElem?_set_ne (by omega)]
 ·exact⟨L0,(((((((hL0.set_other _ _ e).set_other _ _ e).set_other _ _ e).set_other _ _ e).set_other _ _ e).set_other _ _ e).set_other _ _ e),SR.refl⟩
def SpC (ok:Nat→Prop) (l:List Tm):Prop:=∀ (W:World) (v:Value),SpL ok W l v→Calls Tryz.prog 31 #[v] W fun e w'=>e=.returned (.tuple #[])∧Sw ok W w'
theorem sp_none {a:Option Addr} {c:Nat} {W:World}:Calls Tryz.prog 31 #[.slice a 0 c] W fun e w'=>e=.returned (.tuple #[])∧W=w':=by
 go_enter Tryz.func31,Tryz.ntmps31
 go_wp2_with fail
 go_loopw [2] (fun i wr=>i=.int .i64 0∧wr=W) (fun i _=>0)
 case atStart=>exact⟨rfl,rfl⟩
 case round=>
  obtain⟨rfl,rfl⟩:=hrel
  go_wp2_with fail
  go_end0
  exact⟨rfl,rfl⟩
theorem sp_one {ok:Nat→Prop} {l:List Tm} (hn1:l.length≤1000000) (IH:∀ t,t∈l→SpC ok t.kids):SpC ok l:=by
 intro w v h
 rcases h.slice with ⟨a,c,rfl⟩ | ⟨b,c,rfl⟩
 ·refine sp_none.mono ?_
  rintro e w' ⟨rfl,rfl⟩
  exact⟨rfl,Sw.refl⟩
 have HIH:=Ld IH
 have HN1:=Ld hn1
 have HS:=Ld h
 clear IH hn1 h
 go_enter Tryz.func31,Tryz.ntmps31
 go_wp2_with fail
 go_loopw [2] (fun i wr=>∃ j:Nat,j≤l.length∧i=.int .i64 j∧Hid (Sw ok w wr)) (fun i _=>l.length-(intOf i).toNat)
 case atStart=>exact⟨0,Nat.zero_le _,rfl,Ld Sw.refl⟩
 case round=>
  obtain⟨j,hj,rfl,HI⟩:=hrel
  by_cases hlt:j<l.length
  ·have i1:(j:Int)<(l.length:Int):=by omega
   have i2:(j:Int)<1000000:=by have:=HN1.out;omega
   obtain⟨hb,L,ka,kn,kc,hL,hl,h6,hk⟩:=(HS.out.frame HI.out.bl).at j hlt
   have c6:wr.cell? ⟨b,j*7+6,none⟩=some (.slice ka kn kc):=by rw[hL.cell];exact h6
   have HC:=Ld ((HIH.out _ (List.getElem_mem hlt)) wr _ hk)
   have HB:=Ld hb
   have HL:=Ld hL
   have HLL:=Ld hl
   clear hb hL hl h6 hk
   go_wp2_with fail
   clear c6
   refine HC.out.mono ?_
   rintro e w2 ⟨rfl,s2⟩
   obtain⟨L2,hL2,h1,_⟩:=s2.bl _ _ HB.out HL.out
   have hl2:j*7+7≤L2.length:=by rw[h1];have:=HLL.out;omega
   have HX:=Ld ((HI.out.trans s2).trans (sw_store HB.out hL2 hl2))
   obtain⟨u0,e0⟩:∃ u,w2.cell? ⟨b,j*7,none⟩=some u:=⟨L2[j*7]'(by omega),by rw[hL2.cell];exact List.getElem?_eq_getElem _⟩
   obtain⟨v1,e1⟩:∃ u,w2.cell? ⟨b,j*7+1,none⟩=some u:=⟨L2[j*7+1]'(by omega),by rw[hL2.cell];exact List.getElem?_eq_getElem _⟩
   obtain⟨v2,e2⟩:∃ u,w2.cell? ⟨b,j*7+2,none⟩=some u:=⟨L2[j*7+2]'(by omega),by rw[hL2.cell];exact List.getElem?_eq_getElem _⟩
   obtain⟨v3,e3⟩:∃ u,w2.cell? ⟨b,j*7+3,none⟩=some u:=⟨L2[j*7+3]'(by omega),by rw[hL2.cell];exact List.getElem?_eq_getElem _⟩
   obtain⟨v4,e4⟩:∃ u,w2.cell? ⟨b,j*7+4,none⟩=some u:=⟨L2[j*7+4]'(by omega),by rw[hL2.cell];exact List.getElem?_eq_getElem _⟩
   obtain⟨v5,e5⟩:∃ u,w2.cell? ⟨b,j*7+5,none⟩=some u:=⟨L2[j*7+5]'(by omega),by rw[hL2.cell];exact List.getElem?_eq_getElem _⟩
   obtain⟨v6,e6⟩:∃ u,w2.cell? ⟨b,j*7+6,none⟩=some u:=⟨L2[j*7+6]'(by omega),by rw[hL2.cell];exact List.getElem?_eq_getElem _⟩
   have f0:=hL2.frozen (j*7)
   have f1:=hL2.frozen (j*7+1)
   have f2:=hL2.frozen (j*7+2)
   have f3:=hL2.frozen (j*7+3)
   have f4:=hL2.frozen (j*7+4)
   have f5:=hL2.frozen (j*7+5)
   have f6:=hL2.frozen (j*7+6)
   clear hL2 h1 hl2 s2 HI HC HL HLL HB
   go_wp2_with fail
   go_roundw
   case rel=>exact⟨j+1,by omega,by go_num,HX⟩
   case measure=>simp[intOf];omega
  ·obtain rfl:j=l.length:=by omega
   have i1:¬ (l.length:Int)<(l.length:Int):=by omega
   clear hlt
   go_wp2_with fail
   go_end0
   exact⟨rfl,HI.out⟩
theorem sp_kids {ok:Nat→Prop} {t:Tm} (hb:BdTm t):SpC ok t.kids:=by
 induction hb with
 | mk hn ht hl ih=>exact sp_one hn ih
theorem spoil_any {ok:Nat→Prop} {l:List Tm} {W:World} {v:Value} (hn:l.length≤1000000) (hb:∀ t,t∈l→BdTm t) (ho:∀ q,ok q→bz≤q) (h:TmL bz ok W l v):
  Calls Tryz.prog 31 #[v] W fun e w'=>e=.returned (.tuple #[])∧Sw ok W w':=
 sp_one hn (fun t ht=>sp_kids (hb t ht)) W v (h.sp ho)
end Go.Proofs.YtdmebjbkccjhbaaGreatDoor
