/- A part. -/
import Derived.Test.YtfhedienjnfdcaaGreatDoorQ18
import Derived.Laws.MakeOwn
set_option linter.unusedVariables false
set_option linter.unusedSimpArgs false
set_option maxRecDepth 100000
set_option maxHeartbeats 32000000
namespace Go.Proofs.YtfhedienjnfdcaaGreatDoor
open Go.RowKit
def SgOk (σ:ByteArray→Option Tm):Prop:=∀ s u,σ s=some u→OkTm u∧tmN u≤2000∧tmD u≤2000
def PsC (t:Tm):Prop:=∀ (l:List (ByteArray×Tm)) (σ:ByteArray→Option Tm) (w:World) (ok okm:Nat→Prop) (tk kk:Value) (b n:Nat),(∀ s,look l s=σ s)→SgOk σ→TyL ok w t.ty.kids tk→TmL ok w t.kids kk→PrM okm w b n σ→P10 w→n+tmD t≤300→tmN t≤100000 →
 Calls Tryz.prog 128 #[.map (some b),tmVal t tk kk] w (PutP (subT freshS t l) w)
theorem z28 (w:World):(zeroValue 28).run Tryz.prog w=.ok (.agg #[.int .i64 0,.string ⟨#[]⟩,.int .i64 0,.int .i64 0,.string ⟨#[]⟩,.slice none 0 0,.slice none 0 0]) w:=Tryz.zeroValue28 w
theorem keys_box (p:Nat) (W:World):Calls Tryz.prog 142 #[.map (some p)] W fun e w'=>∃ X,e=.returned (.func (.func 188) #[] #[.pointer (some ⟨X,0,none⟩)])∧X<w'.heap.size∧w'.cell? ⟨X,0,none⟩=some (.map (some p))∧Kept (fun _=>False) W w':=by
 refine (keys_any (some p) W).mono ?_
 rintro e w' ⟨rfl,rfl⟩
 have h:=Blk.new W 90 [Value.map (some p)]
 exact⟨_,rfl,h.lt,h.cell 0,kR.alloc _⟩
theorem tml_one {ok:Nat→Prop} {W:World} {g:Nat} {t:Tm} {tk kk:Value} (hb:Blk W g 28 (tmCells t tk kk)) (h1:TyL ok W t.ty.kids tk) (h2:TmL ok W t.kids kk):TmL (fun _=>True) W [t] (.slice (some ⟨g,0,none⟩) 1 1):=
 tml_of_row' (E:=[(t,tk,kk)]) (own_one hb (Nat.zero_le g)) (fun e he=>by rw[List.mem_singleton.1 he];exact⟨h1.mono (fun _ _ _=>trivial),h2.mono (fun _ _ _=>trivial)⟩) (fun _ _=>trivial)
structure SK (w:World) (ca:List Value) (op:Int) (nm:ByteArray) (N:Int) (ty:Ty) (tv:Value) (g n:Nat) (R:Nat→Option Tm) (W:World):Prop where
 kp:Kept (fun _=>False) w W
 a:Blk W w.heap.size 28 ca
 r:Blk W (w.heap.size+1) 28 z27
 o:Blk W (w.heap.size+2) 28 [.int .i64 op,.string nm,.int .i64 N,.int .i64 ty.kind,.string ty.name,tv,.slice (some ⟨g,0,none⟩) n n]
 ho:w.heap.size+3≤g
 ty:TyL (fun q=>w.heap.size+3≤q∧q≠g) W ty.kids tv
 row:KP W (w.heap.size+3) g n R
section
variable {w W W':World} {ca:List Value} {op:Int} {nm:ByteArray} {N:Int} {ty:Ty} {tv:Value} {g n:Nat} {R:Nat→Option Tm}
theorem SK.kept (h:SK w ca op nm N ty tv g n R W) (k:Kept (fun _=>False) W W'):SK w ca op nm N ty tv g n R W':=
 ⟨h.kp.trans k,h.a.kept k (fun e=>e),h.r.kept k (fun e=>e),h.o.kept k (fun e=>e),h.ho,h.ty.frame (sK k),h.row.kept k (fun e=>e) (fun _ _ _ e=>e)⟩
theorem SK.keptG (h:SK w ca op nm N ty tv g n R W) (k:Kept (fun q=>q=g) W W') {R':Nat→Option Tm} (hr:KP W' (w.heap.size+3) g n R'):SK w ca op nm N ty tv g n R' W':=
 ⟨h.kp.via1 k (fun x hx e=>by have:=h.ho;omega),h.a.kept k (fun e=>by have:=h.ho;omega),h.r.kept k (fun e=>by have:=h.ho;omega),h.o.kept k (fun e=>by have:=h.ho;omega),h.ho,h.ty.frame (Same.of_kept k (fun q hq e=>hq.2 e)),hr⟩
theorem k7g {i0 i1 i2 i3 i4 i5 i6:Nat} {x0 x1 x2 x3 x4 x5 x6:Value}:Kept (fun q=>q=g) W (((((((W.setCell ⟨g,i0,none⟩ x0).setCell ⟨g,i1,none⟩ x1).setCell ⟨g,i2,none⟩ x2).setCell ⟨g,i3,none⟩ x3).setCell ⟨g,i4,none⟩ x4).setCell ⟨g,i5,none⟩ x5).setCell ⟨g,i6,none⟩ x6):=
 (((((((Kept.refl (fun q=>q=g) W).setCell (p:=⟨g,i0,none⟩) (Or.inl rfl) _).setCell (p:=⟨g,i1,none⟩) (Or.inl rfl) _).setCell (p:=⟨g,i2,none⟩) (Or.inl rfl) _).setCell (p:=⟨g,i3,none⟩) (Or.inl rfl) _).setCell (p:=⟨g,i4,none⟩) (Or.inl rfl) _).setCell (p:=⟨g,i5,none⟩) (Or.inl rfl) _).setCell (p:=⟨g,i6,none⟩) (Or.inl rfl) _
theorem SK.lay {j:Nat} (h:SK w ca op nm N ty tv g n (fun _=>none) W) (hj:j<n) (x0 x1 x2 x3 x4 x5 x6:Value) (W3:World)
  (hW:W3=((((((W.setCell ⟨g,j*7,none⟩ x0).setCell ⟨g,j*7+1,none⟩ x1).setCell ⟨g,j*7+2,none⟩ x2).setCell ⟨g,j*7+3,none⟩ x3).setCell ⟨g,j*7+4,none⟩ x4).setCell ⟨g,j*7+5,none⟩ x5).setCell ⟨g,j*7+6,none⟩ x6):SK w ca op nm N ty tv g n (fun _=>none) W3:=by
 have h1:=h.row.lay hj x0 x1 x2 x3 x4 x5 x6 W3 hW
 subst hW
 exact h.keptG k7g h1
theorem SK.put {j:Nat} {u:Tm} {v x:Value} (h:SK w ca op nm N ty tv g n R W) (hj:j<n) (hv:TyL (fun q=>w.heap.size+3≤q∧q≠g) W u.ty.kids v) (hx:TmL (fun q=>w.heap.size+3≤q∧q≠g) W u.kids x) (W3:World)
  (hW:W3=((((((W.setCell ⟨g,j*7,none⟩ (.int .i64 u.op)).setCell ⟨g,j*7+1,none⟩ (.string u.name)).setCell ⟨g,j*7+2,none⟩ (.int .i64 u.n)).setCell ⟨g,j*7+3,none⟩ (.int .i64 u.ty.kind)).setCell ⟨g,j*7+4,none⟩ (.string u.ty.name)).setCell ⟨g,j*7+5,none⟩ v).setCell ⟨g,j*7+6,none⟩ x):SK w ca op nm N ty tv g n (fun i=>if i=j then some u else R i) W3:=by
 have h1:=h.row.put hj hv hx W3 hW
 subst hW
 exact h.keptG k7g h1
theorem SK.name (h:SK w ca op nm N ty tv g n R W) (s:ByteArray):SK w ca op s N ty tv g n R (W.setCell ⟨w.heap.size+2,1,none⟩ (.string s)):=by
 have kS:Kept (fun q=>q=w.heap.size+2) W (W.setCell ⟨w.heap.size+2,1,none⟩ (.string s)):=(Kept.refl (fun q=>q=w.heap.size+2) W).setCell (p:=⟨w.heap.size+2,1,none⟩) (Or.inl rfl) _
 have:=h.ho
 exact⟨h.kp.via1 kS (fun x hx e=>by omega),h.a.kept kS (fun e=>by omega),h.r.kept kS (fun e=>by omega),h.o.set 1 (.string s),h.ho,h.ty.frame (Same.of_kept kS (fun q hq e=>by omega)),h.row.kept kS (fun e=>by omega) (fun q hq _ e=>by omega)⟩
theorem SK.done {va:Option Addr} {vn vc:Nat} {rs:List Tm} (h:SK w ca op nm N ty (.slice va vn vc) g n R W) (hn:rs.length=n) (hR:∀ i (hi:i<rs.length),R i=some rs[i]) {x0 x1 x2 x3 x4 x5 x6:Value} {i0 i1 i2 i3 i4 i5 i6:Nat}:
  TyL (fun q=>w.heap.size≤q) (((((((W.setCell ⟨w.heap.size+1,i0,none⟩ x0).setCell ⟨w.heap.size+1,i1,none⟩ x1).setCell ⟨w.heap.size+1,i2,none⟩ x2).setCell ⟨w.heap.size+1,i3,none⟩ x3).setCell ⟨w.heap.size+1,i4,none⟩ x4).setCell ⟨w.heap.size+1,i5,none⟩ x5).setCell ⟨w.heap.size+1,i6,none⟩ x6) ty.kids (.slice va vn vc) ∧
  TmL (fun q=>w.heap.size≤q) (((((((W.setCell ⟨w.heap.size+1,i0,none⟩ x0).setCell ⟨w.heap.size+1,i1,none⟩ x1).setCell ⟨w.heap.size+1,i2,none⟩ x2).setCell ⟨w.heap.size+1,i3,none⟩ x3).setCell ⟨w.heap.size+1,i4,none⟩ x4).setCell ⟨w.heap.size+1,i5,none⟩ x5).setCell ⟨w.heap.size+1,i6,none⟩ x6) rs (.slice (some ⟨g,0,none⟩) n n) ∧
  Kept (fun _=>False) w (((((((W.setCell ⟨w.heap.size+1,i0,none⟩ x0).setCell ⟨w.heap.size+1,i1,none⟩ x1).setCell ⟨w.heap.size+1,i2,none⟩ x2).setCell ⟨w.heap.size+1,i3,none⟩ x3).setCell ⟨w.heap.size+1,i4,none⟩ x4).setCell ⟨w.heap.size+1,i5,none⟩ x5).setCell ⟨w.heap.size+1,i6,none⟩ x6):=by
 subst hn
 have h1:=(h.row.krow hR).tml h.ho (Nat.le_refl _)
 refine⟨(h.ty.frame (set7 (fun q hq=>by omega))).mono (fun q _ hq=>by omega),(h1.frame (set7 (fun q hq=>by omega))).mono (fun q _ hq=>by omega),?_⟩
 exact ((((((h.kp.setCell (p:=⟨w.heap.size+1,i0,none⟩) (Or.inr (Nat.le_succ _)) _).setCell (p:=⟨w.heap.size+1,i1,none⟩) (Or.inr (Nat.le_succ _)) _).setCell (p:=⟨w.heap.size+1,i2,none⟩) (Or.inr (Nat.le_succ _)) _).setCell (p:=⟨w.heap.size+1,i3,none⟩) (Or.inr (Nat.le_succ _)) _).setCell (p:=⟨w.heap.size+1,i4,none⟩) (Or.inr (Nat.le_succ _)) _).setCell (p:=⟨w.heap.size+1,i5,none⟩) (Or.inr (Nat.le_succ _)) _).setCell (p:=⟨w.heap.size+1,i6,none⟩) (Or.inr (Nat.le_succ _)) _
end
theorem subK_get {l inn:List (ByteArray×Tm)}:∀ {ks:List Tm} (i j:Nat) (hi:i<ks.length),(subK freshS false l inn j ks)[i]?=some (subT freshS ks[i] l)
 | t::ks,0,j,_=>by rw[subK];rfl
 | t::ks,i+1,j,h=>by
  rw[subK,List.getElem?_cons_succ,List.getElem_cons_succ]
  exact subK_get i (j+1) (by simpa using h)
theorem psub_one {op:Int} {nm:ByteArray} {N:Int} {ty:Ty} {ks:List Tm} (hok:OkTm (.mk op nm N ty ks)) (IH:∀ u,u∈ks→PsC u):PsC (.mk op nm N ty ks):=by
 intro l σ w ok okm tk kk b n hl hσ h1 h2 hm hp hn hN
 have h1:TyL ok w ty.kids tk:=h1
 have h2:TmL ok w ks kk:=h2
 obtain⟨a,an,ac,rfl⟩:=h1.slice
 obtain⟨ma,mn,mc,rfl⟩:=h2.slice
 have hlen:mn=ks.length:=h2.len
 change Calls Tryz.prog 128 #[.map (some b),.agg #[.int .i64 op,.string nm,.int .i64 N,.int .i64 ty.kind,.string ty.name,.slice a an ac,.slice ma mn mc]] w _
 have HMN:=Ld hlen
 have HCL:=Ld (fun W (k:Kept (fun _=>False) w W)=>clone_any (ok_bd hok) W ok (.slice a an ac) (.slice ma mn mc) (show TyL ok W ty.kids _ from h1.frame (sK k)) (show TmL ok W ks _ from h2.frame (sK k)))
 unfold ClP tmVal at HCL
 have bA:Blk ((w.alloc (.cells #[.int .i64 op,.string nm,.int .i64 N,.int .i64 ty.kind,.string ty.name,.slice a an ac,.slice ma mn mc] 28)).alloc Z7) w.heap.size 28 [Value.int .i64 op,.string nm,.int .i64 N,.int .i64 ty.kind,.string ty.name,.slice a an ac,.slice ma mn mc]:=(Blk.new w 28 _).alloc _
 have bR:Blk ((w.alloc (.cells #[.int .i64 op,.string nm,.int .i64 N,.int .i64 ty.kind,.string ty.name,.slice a an ac,.slice ma mn mc] 28)).alloc Z7) (w.heap.size+1) 28 z27:=Blk.new' 28 _ (by simp)
 have K0:Kept (fun _=>False) w ((w.alloc (.cells #[.int .i64 op,.string nm,.int .i64 N,.int .i64 ty.kind,.string ty.name,.slice a an ac,.slice ma mn mc] 28)).alloc Z7):=(kR.alloc _).alloc _
 have HOK:=Ld hok
 have HIH:=Ld IH
 have HTY:=Ld (fun W (k:Kept (fun _=>False) w W)=>h1.frame (sK k))
 have HTM:=Ld (fun W (k:Kept (fun _=>False) w W)=>h2.frame (sK k))
 have HLK:=Ld hl
 have HSG:=Ld hσ
 have HPM:Hid (PrM (fun q=>q<w.heap.size) w b n σ):=Ld (by obtain⟨f,hf,hv⟩:=hm;exact⟨f,hf,hv.mono (fun q hq _=>hq)⟩)
 have HP:=Ld hp
 have HND:Hid (n+tmD (.mk op nm N ty ks)≤300∧tmN (.mk op nm N ty ks)≤100000):=Ld ⟨hn,hN⟩
 have HNZ:Hid (nm.size≤maxLen):=Ld (by have:=ok_name hok;unfold maxLen;omega)
 have HBL:Hid (b<w.heap.size):=Ld (by obtain⟨f,hf,_⟩:=hm;exact hf.lt)
 clear h1 h2 hl hσ hm hp hn hN hlen hok IH
 obtain⟨res,hres⟩:∃ res,res=subT freshS (.mk op nm N ty ks) l:=⟨_,rfl⟩
 rw[← hres]
 have HRE:=Ld hres
 clear hres
 go_enter Tryz.func128,Tryz.ntmps128
 go_upto_region 1 with (fail)
 refine wp_gen (F:=fun W3=>Kept (fun _=>False) w W3∧W3.heap.size=w.heap.size+2∧Blk W3 w.heap.size 28 [Value.int .i64 op,.string nm,.int .i64 N,.int .i64 ty.kind,.string ty.name,.slice a an ac,.slice ma mn mc]∧Blk W3 (w.heap.size+1) 28 z27) ⟨K0,by simp,bA,bR⟩ ?_
 clear K0 bA bR
 rintro w1 ⟨K1,z1,bA,bR⟩
 have HK1:=Ld K1
 have HA:=Ld bA
 have HR:=Ld bR
 have HZ1:=Ld z1
 have HPM1:Hid (PrM (fun q=>q<w.heap.size) w1 b n σ):=Ld (HPM.out.kept K1 (fun e=>e) (fun _ _ e=>e))
 obtain⟨f,hf,hv⟩:=HPM1.out
 obtain⟨m0,hm0,hm1,hm2⟩:=hf.isEmpty Tryz.underlying85 3
 have HM2:=Ld hm2
 have HV:=Ld hv
 have HF:=Ld hf
 clear K1 bA bR z1 hm2 hv hf
 have gA:=HA.out.cell
 by_cases h0:m0=0
 ·have HEM:Hid (res=.mk op nm N ty ks):=Ld (by
   have hl0:l=[]:=look_none (fun s=>by
    rw[HLK.out]
    have h1:=PrM.some_iff HV.out s
    cases hs:σ s with
    | none=>rfl
    | some u=>
     rw[hs] at h1
     rw[HM2.out.1 h0 s (HF.out.small h1)] at h1
     cases h1)
   rw[HRE.out,hl0,sub_nil])
  have hm3:((m0:Int)==0)=true:=by simp[h0]
  have HC:=Ld (HCL.out w1 HK1.out)
  clear h0 HRE HCL
  go_wp2_with fail
  clear gA
  refine HC.out.mono ?_
  rintro e w2 ⟨tk2,kk2,rfl,hty2,htm2,k2⟩
  obtain⟨pa,pn,pc,rfl⟩:=hty2.slice
  obtain⟨qa,qn,qc,rfl⟩:=htm2.slice
  have BR2:=Ld (HR.out.kept k2 (fun h=>h))
  have KK2:=Ld (HK1.out.trans k2)
  have T2:=Ld hty2
  have M2:=Ld htm2
  have LZ:Hid (w.heap.size+2≤w1.heap.size):=Ld (by have:=HZ1.out;omega)
  have lR:=BR2.out.lt
  have gR:∀ i,w2.cell? ⟨w.heap.size+1,i,none⟩=[Value.int .i64 0,.string ⟨#[]⟩,.int .i64 0,.int .i64 0,.string ⟨#[]⟩,.slice none 0 0,.slice none 0 0][i]?:=BR2.out.cell
  have fR:=BR2.out.frozen
  clear hty2 htm2 k2 HC
  go_wp2_with fail
  exact bodyPost_ret (results_one Tryz.results128 rfl (load_tm (t:=.mk op nm N ty ks) (r7 BR2.out rfl))) rfl ⟨_,_,by rw[HEM.out],by rw[HEM.out];exact (T2.out.frame (set7 (fun q hq=>by have:=LZ.out;omega))).mono (fun q _ hq=>by have:=LZ.out;omega),by rw[HEM.out];exact (M2.out.frame (set7 (fun q hq=>by have:=LZ.out;omega))).mono (fun q _ hq=>by have:=LZ.out;omega),k7w KK2.out (Or.inr (Nat.le_succ _))⟩
 ·have hm3:((m0:Int)==0)=false:=by simp;exact h0
  clear h0 HM2
  by_cases ho:op=20
  ·subst ho
   have hlk:=HF.out.look_ok Tryz.underlying85 (z28 _) HNZ.out
   go_upto_region 4 with (fail)
   clear hm3
   cases hs:f nm with
   | none=>
    have HEM:Hid (res=.mk 20 nm N ty ks):=Ld (by
     have h1:=PrM.some_iff HV.out nm
     rw[hs] at h1
     have h2:σ nm=none:=by cases h:σ nm with
      | none=>rfl
      | some u=>rw[h] at h1;cases h1
     rw[HRE.out,subT,if_pos rfl,HLK.out,h2])
    rw[hs] at hlk
    change _=Result.ok (Value.tuple #[.agg #[.int .i64 0,.string ⟨#[]⟩,.int .i64 0,.int .i64 0,.string ⟨#[]⟩,.slice none 0 0,.slice none 0 0],.bool false]) w1 at hlk
    clear HRE hs
    go_upto_region 7 with (fail)
    clear hlk
    have KZ:Hid (Kept (fun _=>False) w1 (w1.alloc Z7)):=Ld (kR.alloc _)
    have ZZ:Hid ((w1.alloc Z7).heap.size=w1.heap.size+1):=Ld (World.size_alloc _ _)
    generalize w1.alloc Z7=w1' at *
    have HC:=Ld (HCL.out w1' (HK1.out.trans KZ.out))
    have HA2:=Ld (HA.out.kept KZ.out (fun e=>e))
    have HR2:=Ld (HR.out.kept KZ.out (fun e=>e))
    clear gA HCL
    have gA:=HA2.out.cell
    go_wp2_with fail
    clear gA
    refine HC.out.mono ?_
    rintro e w2 ⟨tk2,kk2,rfl,hty2,htm2,k2⟩
    obtain⟨pa,pn,pc,rfl⟩:=hty2.slice
    obtain⟨qa,qn,qc,rfl⟩:=htm2.slice
    have BR2:=Ld (HR2.out.kept k2 (fun h=>h))
    have KK2:=Ld ((HK1.out.trans KZ.out).trans k2)
    have T2:=Ld hty2
    have M2:=Ld htm2
    have LZ:Hid (w.heap.size+2≤w1'.heap.size):=Ld (by have:=HZ1.out;have:=ZZ.out;omega)
    have lR:=BR2.out.lt
    have gR:∀ i,w2.cell? ⟨w.heap.size+1,i,none⟩=[Value.int .i64 0,.string ⟨#[]⟩,.int .i64 0,.int .i64 0,.string ⟨#[]⟩,.slice none 0 0,.slice none 0 0][i]?:=BR2.out.cell
    have fR:=BR2.out.frozen
    clear hty2 htm2 k2 HC
    go_wp2_with fail
    exact bodyPost_ret (results_one Tryz.results128 rfl (load_tm (t:=.mk 20 nm N ty ks) (r7 BR2.out rfl))) rfl ⟨_,_,by rw[HEM.out],by rw[HEM.out];exact (T2.out.frame (set7 (fun q hq=>by have:=LZ.out;omega))).mono (fun q _ hq=>by have:=LZ.out;omega),by rw[HEM.out];exact (M2.out.frame (set7 (fun q hq=>by have:=LZ.out;omega))).mono (fun q _ hq=>by have:=LZ.out;omega),k7w KK2.out (Or.inr (Nat.le_succ _))⟩
   | some v=>
    obtain⟨u,ta,tn,tc,pa0,pn0,pc0,hu,rfl,hty,htm⟩:=HV.out.at hs
    have HEM:Hid (res=u):=Ld (by rw[HRE.out,subT,if_pos rfl,HLK.out,hu])
    rw[hs] at hlk
    change _=Result.ok (Value.tuple #[.agg #[.int .i64 u.op,.string u.name,.int .i64 u.n,.int .i64 u.ty.kind,.string u.ty.name,.slice ta tn tc,.slice pa0 pn0 pc0],.bool true]) w1 at hlk
    have HU:=Ld (HSG.out nm u hu)
    have HUT:=Ld hty
    have HUM:=Ld htm
    clear HRE hs hu hty htm
    go_upto_region 6 with (fail)
    clear hlk
    have KZ:Hid (Kept (fun _=>False) w1 (w1.alloc (.cells #[.int .i64 u.op,.string u.name,.int .i64 u.n,.int .i64 u.ty.kind,.string u.ty.name,.slice ta tn tc,.slice pa0 pn0 pc0] 28))):=Ld (kR.alloc _)
    have ZZ:Hid ((w1.alloc (.cells #[.int .i64 u.op,.string u.name,.int .i64 u.n,.int .i64 u.ty.kind,.string u.ty.name,.slice ta tn tc,.slice pa0 pn0 pc0] 28)).heap.size=w1.heap.size+1):=Ld (World.size_alloc _ _)
    have bU:Hid (Blk (w1.alloc (.cells #[.int .i64 u.op,.string u.name,.int .i64 u.n,.int .i64 u.ty.kind,.string u.ty.name,.slice ta tn tc,.slice pa0 pn0 pc0] 28)) w1.heap.size 28 [.int .i64 u.op,.string u.name,.int .i64 u.n,.int .i64 u.ty.kind,.string u.ty.name,.slice ta tn tc,.slice pa0 pn0 pc0]):=Ld (Blk.new w1 28 _)
    generalize w1.alloc (.cells #[.int .i64 u.op,.string u.name,.int .i64 u.n,.int .i64 u.ty.kind,.string u.ty.name,.slice ta tn tc,.slice pa0 pn0 pc0] 28)=w1' at *
    have HC:=Ld (clone_any (ok_bd HU.out.1) w1' _ _ _ (HUT.out.frame (sK KZ.out)) (HUM.out.frame (sK KZ.out)))
    unfold ClP tmVal at HC
    have HR2:=Ld (HR.out.kept KZ.out (fun e=>e))
    clear gA HCL
    have gU:=bU.out.cell
    go_wp2_with fail
    clear gU
    refine HC.out.mono ?_
    rintro e w2 ⟨tk2,kk2,rfl,hty2,htm2,k2⟩
    obtain⟨pa,pn,pc,rfl⟩:=hty2.slice
    obtain⟨qa,qn,qc,rfl⟩:=htm2.slice
    have BR2:=Ld (HR2.out.kept k2 (fun h=>h))
    have KK2:=Ld ((HK1.out.trans KZ.out).trans k2)
    have T2:=Ld hty2
    have M2:=Ld htm2
    have LZ:Hid (w.heap.size+2≤w1'.heap.size):=Ld (by have:=HZ1.out;have:=ZZ.out;omega)
    have lR:=BR2.out.lt
    have gR:∀ i,w2.cell? ⟨w.heap.size+1,i,none⟩=[Value.int .i64 0,.string ⟨#[]⟩,.int .i64 0,.int .i64 0,.string ⟨#[]⟩,.slice none 0 0,.slice none 0 0][i]?:=BR2.out.cell
    have fR:=BR2.out.frozen
    clear hty2 htm2 k2 HC
    go_wp2_with fail
    exact bodyPost_ret (results_one Tryz.results128 rfl (load_tm (t:=u) (r7 BR2.out rfl))) rfl ⟨_,_,by rw[HEM.out],by rw[HEM.out];exact (T2.out.frame (set7 (fun q hq=>by have:=LZ.out;omega))).mono (fun q _ hq=>by have:=LZ.out;omega),by rw[HEM.out];exact (M2.out.frame (set7 (fun q hq=>by have:=LZ.out;omega))).mono (fun q _ hq=>by have:=LZ.out;omega),k7w KK2.out (Or.inr (Nat.le_succ _))⟩
  ·have ho1:(op==20)=false:=by simp[ho]
   have HOP:=Ld ho
   have HBT:Hid (BdTy ty):=Ld (by have h:=ok_bd HOK.out;cases h with | mk _ ht _=>exact ht)
   have HKN:Hid (ks.length≤1000000):=Ld (by have h:=ok_bd HOK.out;cases h with | mk hn _ _=>exact hn)
   clear ho HCL
   go_upto_region 9 with (fail)
   clear hm3 ho1
   have KO:Hid (Kept (fun _=>False) w (w1.alloc (.cells #[.int .i64 op,.string nm,.int .i64 N,.int .i64 ty.kind,.string ty.name,.slice a an ac,.slice ma mn mc] 28))):=Ld (HK1.out.alloc _)
   have bO:Hid (Blk (w1.alloc (.cells #[.int .i64 op,.string nm,.int .i64 N,.int .i64 ty.kind,.string ty.name,.slice a an ac,.slice ma mn mc] 28)) w1.heap.size 28 [Value.int .i64 op,.string nm,.int .i64 N,.int .i64 ty.kind,.string ty.name,.slice a an ac,.slice ma mn mc]):=Ld (Blk.new w1 28 _)
   have bA1:Hid (Blk (w1.alloc (.cells #[.int .i64 op,.string nm,.int .i64 N,.int .i64 ty.kind,.string ty.name,.slice a an ac,.slice ma mn mc] 28)) w.heap.size 28 [Value.int .i64 op,.string nm,.int .i64 N,.int .i64 ty.kind,.string ty.name,.slice a an ac,.slice ma mn mc]):=Ld (HA.out.alloc _)
   have bR1:Hid (Blk (w1.alloc (.cells #[.int .i64 op,.string nm,.int .i64 N,.int .i64 ty.kind,.string ty.name,.slice a an ac,.slice ma mn mc] 28)) (w.heap.size+1) 28 z27):=Ld (HR.out.alloc _)
   have ZO:Hid (w1.heap.size=w.heap.size+2):=Ld HZ1.out
   rw[HZ1.out] at bO ⊢
   clear HA HR HK1 HZ1 HPM1 HV HF gA
   generalize w1.alloc (.cells #[.int .i64 op,.string nm,.int .i64 N,.int .i64 ty.kind,.string ty.name,.slice a an ac,.slice ma mn mc] 28)=w2 at *
   have gA:=bA1.out.cell
   have HCT:=Ld (copyTy_any HBT.out w2 ok _ (HTY.out w2 KO.out))
   unfold tyVal at HCT
   go_wp2_with fail
   refine HCT.out.mono ?_
   rintro e w3 ⟨tv,rfl,htv,k3⟩
   obtain⟨va,vn,vc,rfl⟩:=htv.slice
   have bA3:=Ld (bA1.out.kept k3 (fun e=>e))
   have bR3:=Ld (bR1.out.kept k3 (fun e=>e))
   have bO3:=Ld (bO.out.kept k3 (fun e=>e))
   have KK3:=Ld (KO.out.trans k3)
   have HTV:=Ld htv
   have LW2:Hid (w.heap.size+3≤w2.heap.size):=Ld bO.out.lt
   clear htv k3 HCT gA bA1 bR1 bO KO
   have gO:=bO3.out.cell
   have fO:=bO3.out.frozen
   have lO:=bO3.out.lt
   go_upto_region 10 with (fail)
   clear gO fO lO
   have K4:Hid (Kept (fun q=>q=w.heap.size+2) w3 (((w3.setCell ⟨w.heap.size+2,3,none⟩ (.int .i64 ty.kind)).setCell ⟨w.heap.size+2,4,none⟩ (.string ty.name)).setCell ⟨w.heap.size+2,5,none⟩ (.slice va vn vc))):=Ld ((((Kept.refl (fun q=>q=w.heap.size+2) w3).setCell (p:=⟨w.heap.size+2,3,none⟩) (Or.inl rfl) _).setCell (p:=⟨w.heap.size+2,4,none⟩) (Or.inl rfl) _).setCell (p:=⟨w.heap.size+2,5,none⟩) (Or.inl rfl) _)
   have bO4:Hid (Blk (((w3.setCell ⟨w.heap.size+2,3,none⟩ (.int .i64 ty.kind)).setCell ⟨w.heap.size+2,4,none⟩ (.string ty.name)).setCell ⟨w.heap.size+2,5,none⟩ (.slice va vn vc)) (w.heap.size+2) 28 [Value.int .i64 op,.string nm,.int .i64 N,.int .i64 ty.kind,.string ty.name,.slice va vn vc,.slice ma mn mc]):=Ld (((bO3.out.set 3 (.int .i64 ty.kind)).set 4 (.string ty.name)).set 5 (.slice va vn vc))
   generalize ((w3.setCell ⟨w.heap.size+2,3,none⟩ (.int .i64 ty.kind)).setCell ⟨w.heap.size+2,4,none⟩ (.string ty.name)).setCell ⟨w.heap.size+2,5,none⟩ (.slice va vn vc)=w4 at *
   have bA4:=Ld (bA3.out.kept K4.out (fun e=>by omega))
   have bR4:=Ld (bR3.out.kept K4.out (fun e=>by omega))
   have KK4:=Ld (KK3.out.via1 K4.out (fun x hx e=>by omega))
   have HTV4:Hid (TyL (fun q=>w.heap.size+3≤q) w4 ty.kids (.slice va vn vc)):=Ld ((HTV.out.mono (ok':=fun q=>w.heap.size+3≤q) (fun q _ hq=>by have:=LW2.out;omega)).frame (Same.of_kept K4.out (fun q hq e=>by omega)))
   have LW4:Hid (w.heap.size+3≤w4.heap.size):=Ld bO4.out.lt
   clear K4 bA3 bR3 KK3 HTV bO3 LW2
   obtain⟨i28,hi28,hz28,hs28,hb28⟩:=info_tm
   have hmk:(Instr.makeSlice 22 (.int .i64 (mn:Int)) (.int .i64 (mn:Int))).run Tryz.prog w4=.ok (.slice (some ⟨w4.heap.size,0,none⟩) mn mn) (w4.alloc (.cells (madeCells #[.int .i64 0,.string ⟨#[]⟩,.int .i64 0,.int .i64 0,.string ⟨#[]⟩,.slice none 0 0,.slice none 0 0] (mn*7)) 28)):=by
    have h1:=HMN.out
    have h2:=HKN.out
    have h3:=run_make w4 22 28 i28 _ Tryz.underlying22 hi28 hz28 .i64 .i64 (mn:Int) (mn:Int) (by omega) (Int.le_refl _) (by rw[hb28];omega) (by omega)
    rw[hs28,Int.toNat_natCast] at h3
    exact h3
   have K5:Hid (Kept (fun _=>False) w4 (w4.alloc (.cells (madeCells #[.int .i64 0,.string ⟨#[]⟩,.int .i64 0,.int .i64 0,.string ⟨#[]⟩,.slice none 0 0,.slice none 0 0] (mn*7)) 28))):=Ld (kR.alloc _)
   have bG:Hid (Blk (w4.alloc (.cells (madeCells #[.int .i64 0,.string ⟨#[]⟩,.int .i64 0,.int .i64 0,.string ⟨#[]⟩,.slice none 0 0,.slice none 0 0] (mn*7)) 28)) w4.heap.size 28 (madeCells #[Value.int .i64 0,.string ⟨#[]⟩,.int .i64 0,.int .i64 0,.string ⟨#[]⟩,.slice none 0 0,.slice none 0 0] (mn*7)).toList):=Ld (by have h:=Blk.new w4 28 (madeCells #[Value.int .i64 0,.string ⟨#[]⟩,.int .i64 0,.int .i64 0,.string ⟨#[]⟩,.slice none 0 0,.slice none 0 0] (mn*7)).toList;rwa [Array.toArray_toList] at h)
   have HG5:Hid (KP (w4.alloc (.cells (madeCells #[.int .i64 0,.string ⟨#[]⟩,.int .i64 0,.int .i64 0,.string ⟨#[]⟩,.slice none 0 0,.slice none 0 0] (mn*7)) 28)) (w.heap.size+3) w4.heap.size mn (fun _=>none)):=Ld ⟨⟨_,fun _=>.slice none 0 0,fun _=>.slice none 0 0,bG.out,by rw[Array.length_toList,size_madeCells],fun i hi u hu=>by cases hu⟩⟩
   have bA5:=Ld (bA4.out.kept K5.out (fun e=>e))
   have bR5:=Ld (bR4.out.kept K5.out (fun e=>e))
   have bO5:=Ld (bO4.out.kept K5.out (fun e=>e))
   have T5:=Ld ((HTV4.out.mono (ok':=fun q=>w.heap.size+3≤q∧q<w4.heap.size) (fun q h1 h2=>⟨h2,h1⟩)).frame (sK K5.out))
   have KK5:=Ld (KK4.out.trans K5.out)
   have gA:=bA4.out.cell
   have gO:=bO5.out.cell
   have fO:=bO5.out.frozen
   clear hi28 hz28 hs28 hb28
   go_upto_region 11 with (fail)
   have S6:Hid (SK w [Value.int .i64 op,.string nm,.int .i64 N,.int .i64 ty.kind,.string ty.name,.slice a an ac,.slice ma mn mc] op nm N ty (.slice va vn vc) w4.heap.size mn (fun _=>none) ((w4.alloc (.cells (madeCells #[.int .i64 0,.string ⟨#[]⟩,.int .i64 0,.int .i64 0,.string ⟨#[]⟩,.slice none 0 0,.slice none 0 0] (mn*7)) 28)).setCell ⟨w.heap.size+2,6,none⟩ (.slice (some ⟨w4.heap.size,0,none⟩) mn mn))):=Ld (by
    have kS:Kept (fun q=>q=w.heap.size+2) (w4.alloc (.cells (madeCells #[.int .i64 0,.string ⟨#[]⟩,.int .i64 0,.int .i64 0,.string ⟨#[]⟩,.slice none 0 0,.slice none 0 0] (mn*7)) 28)) ((w4.alloc (.cells (madeCells #[.int .i64 0,.string ⟨#[]⟩,.int .i64 0,.int .i64 0,.string ⟨#[]⟩,.slice none 0 0,.slice none 0 0] (mn*7)) 28)).setCell ⟨w.heap.size+2,6,none⟩ (.slice (some ⟨w4.heap.size,0,none⟩) mn mn)):=(Kept.refl (fun q=>q=w.heap.size+2) _).setCell (p:=⟨w.heap.size+2,6,none⟩) (Or.inl rfl) _
    have hL:=LW4.out
    exact⟨KK5.out.via1 kS (fun x hx e=>by omega),bA5.out.kept kS (fun e=>by omega),bR5.out.kept kS (fun e=>by omega),bO5.out.set 6 _,hL,(T5.out.mono (fun q _ h=>⟨h.1,by omega⟩)).frame (Same.of_kept kS (fun q hq e=>by omega)),HG5.out.kept kS (fun e=>by omega) (fun q hq _ e=>by omega)⟩)
   clear hmk gA gO fO bA4 bR4 bO4 KK4 HTV4 K5 bG HG5 bA5 bR5 bO5 T5 KK5 LW4
   generalize ((w4.alloc (.cells (madeCells #[.int .i64 0,.string ⟨#[]⟩,.int .i64 0,.int .i64 0,.string ⟨#[]⟩,.slice none 0 0,.slice none 0 0] (mn*7)) 28)).setCell ⟨w.heap.size+2,6,none⟩ (.slice (some ⟨w4.heap.size,0,none⟩) mn mn))=w6 at *
   generalize w4.heap.size=g at *
   have gA:=S6.out.a.cell
   go_wp2_with fail
   go_loopw [52] (fun i wr=>∃ k:Nat,k≤mn∧i=.int .i64 k∧SK w [Value.int .i64 op,.string nm,.int .i64 N,.int .i64 ty.kind,.string ty.name,.slice a an ac,.slice ma mn mc] op nm N ty (.slice va vn vc) g mn (fun _=>none) wr) (fun i _=>mn-(intOf i).toNat)
   case atStart=>exact⟨0,Nat.zero_le _,rfl,S6.out⟩
   case round=>
    obtain⟨k,hkl,rfl,hS⟩:=hrel
    have S:=Ld hS
    clear hS S6 gA
    by_cases hlt:k<mn
    ·have i1:(k:Int)<(mn:Int):=by omega
     have i2:(k:Int)<1000000:=by have:=HKN.out;have:=HMN.out;omega
     have hltk:k<ks.length:=by have:=HMN.out;omega
     obtain⟨q1,o1,ta,tn,tc,pa,pn,pc,hqa,hq1,lq,hC,hkt,hkm⟩:=(HTM.out wr S.out.kp).at k hltk
     obtain⟨c0,c1,c2,c3,c4,c5,c6⟩:=hC
     cases hqa
     clear hkt hkm hq1
     generalize ks[k]=u at *
     clear hltk
     go_upto_region 14 with (fail)
     clear c0 c1 c2 c3 c4 c5 c6
     have KR:Hid (Kept (fun _=>False) wr (wr.alloc (.cells #[.int .i64 u.op,.string u.name,.int .i64 u.n,.int .i64 u.ty.kind,.string u.ty.name,.slice ta tn tc,.slice pa pn pc] 28))):=Ld (kR.alloc _)
     have bK:Hid (Blk (wr.alloc (.cells #[.int .i64 u.op,.string u.name,.int .i64 u.n,.int .i64 u.ty.kind,.string u.ty.name,.slice ta tn tc,.slice pa pn pc] 28)) wr.heap.size 28 [.int .i64 u.op,.string u.name,.int .i64 u.n,.int .i64 u.ty.kind,.string u.ty.name,.slice ta tn tc,.slice pa pn pc]):=Ld (Blk.new wr 28 _)
     generalize wr.alloc (.cells #[.int .i64 u.op,.string u.name,.int .i64 u.n,.int .i64 u.ty.kind,.string u.ty.name,.slice ta tn tc,.slice pa pn pc] 28)=w7 at *
     have S7:=Ld (S.out.kept KR.out)
     have gK:=bK.out.cell
     have gO:=S7.out.o.cell
     have fg:=S7.out.row.frozen
     obtain⟨t0,th0⟩:=S7.out.row.there (i:=k*7) (by omega)
     obtain⟨t1,th1⟩:=S7.out.row.there (i:=k*7+1) (by omega)
     obtain⟨t2,th2⟩:=S7.out.row.there (i:=k*7+2) (by omega)
     obtain⟨t3,th3⟩:=S7.out.row.there (i:=k*7+3) (by omega)
     obtain⟨t4,th4⟩:=S7.out.row.there (i:=k*7+4) (by omega)
     obtain⟨t5,th5⟩:=S7.out.row.there (i:=k*7+5) (by omega)
     obtain⟨t6,th6⟩:=S7.out.row.there (i:=k*7+6) (by omega)
     have S8:=Ld (S7.out.lay hlt (.int .i64 u.op) (.string u.name) (.int .i64 u.n) (.int .i64 u.ty.kind) (.string u.ty.name) (.slice ta tn tc) (.slice pa pn pc) _ rfl)
     clear S KR bK
     go_wp2_with fail
     go_roundw
     case rel=>exact⟨k+1,by omega,by go_num,S8.out⟩
     case measure=>simp[intOf];omega
    ·have hexit:¬ (k:Int)<(mn:Int):=by omega
     clear hlt hkl
     have gA:=S.out.a.cell
     have HIHK:=Ld (fun (u:Tm) (hu:u∈ks) W (kW:Kept (fun _=>False) w W) (oku:Nat→Prop) (tu ku:Value) (h1:TyL oku W u.ty.kids tu) (h2:TmL oku W u.kids ku)=>HIH.out u hu l σ W oku (fun q=>q<w.heap.size) tu ku b n HLK.out HSG.out h1 h2 (HPM.out.kept kW (fun e=>e) (fun _ _ e=>e)) (HP.out.kept kW) (by have h5:=kid_dn hu;have h6:=HND.out.1;rw[tmD] at h6;omega) (by have h5:=(tmD_kid hu).2;have h6:=HND.out.2;rw[tmN] at h6;omega))
     unfold PutP tmVal at HIHK
     go_wp2_with fail
     clear hexit
     cases hbi:binderB op
     ·refine (binder_t hbi _).mono ?_
      rintro e w' ⟨rfl,rfl⟩
      have hres:Hid (res=.mk op nm N ty (subK freshS false l l 0 ks)):=Ld (by rw[HRE.out,subT,if_neg HOP.out,hbi];rfl)
      have HRS:Hid (∀ i,(hi:i<ks.length)→(subK freshS false l l 0 ks)[i]?=some (subT freshS ks[i] l)):=Ld (fun i hi=>subK_get i 0 hi)
      have HRL:Hid ((subK freshS false l l 0 ks).length=mn):=Ld (by rw[subK_len,HMN.out])
      clear hbi HRE
      generalize subK freshS false l l 0 ks=rs at *
      go_wp2_with fail
      clear gA
      go_loopw [70] (fun i wr=>∃ k:Nat,k≤mn∧i=.int .i64 k∧SK w [Value.int .i64 op,.string nm,.int .i64 N,.int .i64 ty.kind,.string ty.name,.slice a an ac,.slice ma mn mc] op nm N ty (.slice va vn vc) g mn (fun i=>if i<k then rs[i]? else none) wr) (fun i _=>mn-(intOf i).toNat)
      case atStart=>exact⟨0,Nat.zero_le _,rfl,by simpa using S.out⟩
      case round=>
       obtain⟨k,hkl,rfl,hS⟩:=hrel
       have S1:=Ld hS
       clear hS S
       by_cases hlt:k<mn
       ·have i1:(k:Int)<(mn:Int):=by omega
        have i2:(k:Int)<1000000:=by have:=HKN.out;have:=HMN.out;omega
        have hltk:k<ks.length:=by have:=HMN.out;omega
        obtain⟨q1,o1,ta,tn,tc,pa,pn,pc,hqa,hq1,lq,hC,hkt,hkm⟩:=(HTM.out wr S1.out.kp).at k hltk
        obtain⟨c0,c1,c2,c3,c4,c5,c6⟩:=hC
        cases hqa
        have HKC:=Ld (fun W (kW:Kept (fun _=>False) wr W)=>HIHK.out ks[k] (List.getElem_mem hltk) W (S1.out.kp.trans kW) _ _ _ (hkt.frame (sK kW)) (hkm.frame (sK kW)))
        have HRK:=Ld (HRS.out k hltk)
        clear hkt hkm hq1
        generalize subT freshS ks[k] l=r at *
        generalize ks[k]=u at *
        clear hltk
        go_upto_region 20 with (fail)
        clear c0 c1 c2 c3 c4 c5 c6
        have KR:Hid (Kept (fun _=>False) wr (wr.alloc (.cells #[.int .i64 u.op,.string u.name,.int .i64 u.n,.int .i64 u.ty.kind,.string u.ty.name,.slice ta tn tc,.slice pa pn pc] 28))):=Ld (kR.alloc _)
        have bK:Hid (Blk (wr.alloc (.cells #[.int .i64 u.op,.string u.name,.int .i64 u.n,.int .i64 u.ty.kind,.string u.ty.name,.slice ta tn tc,.slice pa pn pc] 28)) wr.heap.size 28 [.int .i64 u.op,.string u.name,.int .i64 u.n,.int .i64 u.ty.kind,.string u.ty.name,.slice ta tn tc,.slice pa pn pc]):=Ld (Blk.new wr 28 _)
        generalize wr.alloc (.cells #[.int .i64 u.op,.string u.name,.int .i64 u.n,.int .i64 u.ty.kind,.string u.ty.name,.slice ta tn tc,.slice pa pn pc] 28)=w7 at *
        have S7:=Ld (S1.out.kept KR.out)
        have x0:w7.cell? ⟨w.heap.size+2,6,none⟩=some (.slice (some ⟨g,0,none⟩) mn mn):=S7.out.o.cell 6
        have x1:w7.cell? ⟨wr.heap.size,0,none⟩=some (.int .i64 u.op):=bK.out.cell 0
        have x2:w7.cell? ⟨wr.heap.size,1,none⟩=some (.string u.name):=bK.out.cell 1
        have x3:w7.cell? ⟨wr.heap.size,2,none⟩=some (.int .i64 u.n):=bK.out.cell 2
        have x4:w7.cell? ⟨wr.heap.size,3,none⟩=some (.int .i64 u.ty.kind):=bK.out.cell 3
        have x5:w7.cell? ⟨wr.heap.size,4,none⟩=some (.string u.ty.name):=bK.out.cell 4
        have x6:w7.cell? ⟨wr.heap.size,5,none⟩=some (.slice ta tn tc):=bK.out.cell 5
        have x7:w7.cell? ⟨wr.heap.size,6,none⟩=some (.slice pa pn pc):=bK.out.cell 6
        have KD:Kept (fun _=>False) w7 (World.drew w7):=kR.drew
        have HLW:Hid (g<w7.heap.size):=Ld S7.out.row.lt
        go_region_law (first
         | (go_simp;go_at_call 128;refine (HKC.out _ (KR.out.trans KD)).mono ?_;rintro e w8 ⟨zk,zm,rfl,hzk,hzm,k8⟩;obtain⟨zka,zkn,zkc,rfl⟩:=hzk.slice;obtain⟨zma,zmn,zmc,rfl⟩:=hzm.slice;have S8:=Ld (S7.out.kept (KD.trans k8));have y0:w8.cell? ⟨w.heap.size+2,6,none⟩=some (.slice (some ⟨g,0,none⟩) mn mn):=S8.out.o.cell 6;have fg8:=S8.out.row.frozen;obtain⟨t0,th0⟩:=S8.out.row.there (i:=k*7) (by omega);obtain⟨t1,th1⟩:=S8.out.row.there (i:=k*7+1) (by omega);obtain⟨t2,th2⟩:=S8.out.row.there (i:=k*7+2) (by omega);obtain⟨t3,th3⟩:=S8.out.row.there (i:=k*7+3) (by omega);obtain⟨t4,th4⟩:=S8.out.row.there (i:=k*7+4) (by omega);obtain⟨t5,th5⟩:=S8.out.row.there (i:=k*7+5) (by omega);obtain⟨t6,th6⟩:=S8.out.row.there (i:=k*7+6) (by omega);have S9:=Ld (SK.put S8.out hlt (hzk.mono (fun q _ hq=>⟨by have h5:w7.heap.size≤q:=hq;have:=HLW.out;have:=S7.out.ho;omega,by have h5:w7.heap.size≤q:=hq;have:=HLW.out;omega⟩)) (hzm.mono (fun q _ hq=>⟨by have h5:w7.heap.size≤q:=hq;have:=HLW.out;have:=S7.out.ho;omega,by have h5:w7.heap.size≤q:=hq;have:=HLW.out;omega⟩)) _ rfl);clear hzk hzm k8))
        all_goals
         clear x0 x1 x2 x3 x4 x5 x6 x7 y0 fg8 th0 th1 th2 th3 th4 th5 th6 S8 S7 S1 bK KR KD HLW
         generalize ((((((w8.setCell ⟨g,k*7,none⟩ (.int .i64 r.op)).setCell ⟨g,k*7+1,none⟩ (.string r.name)).setCell ⟨g,k*7+2,none⟩ (.int .i64 r.n)).setCell ⟨g,k*7+3,none⟩ (.int .i64 r.ty.kind)).setCell ⟨g,k*7+4,none⟩ (.string r.ty.name)).setCell ⟨g,k*7+5,none⟩ (.slice zka zkn zkc)).setCell ⟨g,k*7+6,none⟩ (.slice zma zmn zmc)=w9 at *
         have S10:Hid (SK w _ op nm N ty (.slice va vn vc) g mn (fun i=>if i<k+1 then rs[i]? else none) w9):=Ld (by
          have e:(fun i=>if i=k then some r else if i<k then rs[i]? else none)=fun i=>if i<k+1 then rs[i]? else none:=by
           funext i
           by_cases hik:i=k
           ·subst hik;rw[if_pos rfl,if_pos (by omega)];exact HRK.out.symm
           ·rw[if_neg hik]
            by_cases hlk:i<k
            ·rw[if_pos hlk,if_pos (by omega)]
            ·rw[if_neg hlk,if_neg (by omega)]
          rw[← e];exact S9.out)
         clear S9
         go_wp2_with fail
         go_roundw
         case rel=>exact⟨k+1,by omega,by go_num,S10.out⟩
         case measure=>simp[intOf];omega
       ·have hkk:k=mn:=by omega
        subst hkk
        have hexit:¬ (k:Int)<(k:Int):=by omega
        have HDN:Hid (∀ i (hi:i<rs.length),(fun i=>if i<k then rs[i]? else none) i=some rs[i]):=Ld (fun i hi=>by show (if i<k then rs[i]? else none)=_;rw[if_pos (by rw[← HRL.out];exact hi)];exact List.getElem?_eq_getElem hi)
        have gO:=S1.out.o.cell
        have gR:∀ i,wr.cell? ⟨w.heap.size+1,i,none⟩=[Value.int .i64 0,.string ⟨#[]⟩,.int .i64 0,.int .i64 0,.string ⟨#[]⟩,.slice none 0 0,.slice none 0 0][i]?:=S1.out.r.cell
        have fR:=S1.out.r.frozen
        have lR:=S1.out.r.lt
        clear hlt hkl hexit
        go_wp2_with fail
        exact bodyPost_ret (results_one Tryz.results128 rfl (load_tm (t:=.mk op nm N ty rs) (r7 S1.out.r rfl))) rfl ⟨_,_,by rw[hres.out],by rw[hres.out];exact (S1.out.done HRL.out HDN.out).1,by rw[hres.out];exact (S1.out.done HRL.out HDN.out).2.1,(S1.out.done HRL.out HDN.out).2.2⟩
     ·refine (binder_t hbi _).mono ?_
      rintro e w' ⟨rfl,rfl⟩
      obtain⟨d,y,rfl⟩:∃ d y,ks=[d,y]:=by
       have h2:=binder_kids hbi (formed_parts HOK.out.formed).1
       match ks,h2 with
       | [d,y],_=>exact⟨d,y,rfl⟩
      obtain rfl:mn=2:=HMN.out
      have hres:Hid (res=.mk op (newN freshS nm y l) N ty [subT freshS d l,subT freshS y (inner freshS nm y l)]):=Ld (by rw[HRE.out,subT,if_neg HOP.out,hbi];simp only[if_true,subK];rfl)
      have HYK:Hid (OkTm y∧tmN y≤100000∧tmD y+1+n≤300):=Ld (by
       have h1:=HND.out
       rw[tmD,tmN] at h1
       simp only[tmDs,tmNs] at h1
       exact⟨HOK.out.kid (by simp[Tm.kids]),by omega,by omega⟩)
      obtain⟨q1,o1,ta,tn,tc,pa,pn,pc,hqa,hq1,lq,hC,hkt,hkm⟩:=(HTM.out w kR).at 0 (by simp)
      obtain⟨q1',o1',ta',tn',tc',pa',pn',pc',hqa',hq1',lq',hC',hkt',hkm'⟩:=(HTM.out w kR).at 1 (by simp)
      cases hqa
      cases hqa'
      change TyL ok w d.ty.kids _ at hkt
      change TmL ok w d.kids _ at hkm
      change TyL ok w y.ty.kids _ at hkt'
      change TmL ok w y.kids _ at hkm'
      have HKC:Hid (∀ W,Kept (fun _=>False) w W→Calls Tryz.prog 128 #[.map (some b),tmVal d (.slice ta tn tc) (.slice pa pn pc)] W (PutP (subT freshS d l) W)):=Ld (fun W kW=>HIHK.out d (by simp) W kW _ _ _ (hkt.frame (sK kW)) (hkm.frame (sK kW)))
      unfold PutP tmVal at HKC
      have HYT:=Ld (fun W (kW:Kept (fun _=>False) w W)=>hkt'.frame (sK kW))
      have HYM:=Ld (fun W (kW:Kept (fun _=>False) w W)=>hkm'.frame (sK kW))
      have HCY:=Ld (fun W (kW:Kept (fun _=>False) w W)=>hC'.kept kW (fun e=>e))
      obtain⟨c0,c1,c2,c3,c4,c5,c6⟩:=hC.kept S.out.kp (fun e=>e)
      rw[show o1+0*7=o1 by omega] at c0 c1 c2 c3 c4 c5 c6
      change wr.cell? _=some (.int .i64 d.op) at c0
      change wr.cell? _=some (.string d.name) at c1
      change wr.cell? _=some (.int .i64 d.n) at c2
      change wr.cell? _=some (.int .i64 d.ty.kind) at c3
      change wr.cell? _=some (.string d.ty.name) at c4
      change Hid (∀ W,Kept (fun _=>False) w W→C7 W q1 (o1+1*7) y (.slice ta' tn' tc') (.slice pa' pn' pc')) at HCY
      rw[show o1+1*7=o1+7 by omega] at HCY
      clear hkt hkm hkt' hkm' hC' hq1 hq1' lq' HRE hbi HIHK gA
      generalize subT freshS d l=r at *
      go_upto_region 23 with (fail)
      go_cut [] (fun wd=>SK w [Value.int .i64 op,.string nm,.int .i64 N,.int .i64 ty.kind,.string ty.name,.slice a an ac,.slice (some ⟨q1,o1,none⟩) 2 mc] op nm N ty (.slice va vn vc) g 2 (fun i=>if i=0 then some r else none) wd∧Kept (fun q=>q=g) wr wd)
      case first=>
       have x0:wr.cell? ⟨w.heap.size+2,6,none⟩=some (.slice (some ⟨g,0,none⟩) 2 2):=S.out.o.cell 6
       have x1:wr.cell? ⟨w.heap.size,6,none⟩=some (.slice (some ⟨q1,o1,none⟩) 2 mc):=S.out.a.cell 6
       have KD:Kept (fun _=>False) wr (World.drew wr):=kR.drew
       have S7:=S
       have HLW:Hid (g<wr.heap.size):=Ld S7.out.row.lt
       go_region_law (first
        | (go_simp;go_at_call 128;refine (HKC.out _ (S7.out.kp.trans KD)).mono ?_;rintro e w8 ⟨zk,zm,rfl,hzk,hzm,k8⟩;obtain⟨zka,zkn,zkc,rfl⟩:=hzk.slice;obtain⟨zma,zmn,zmc,rfl⟩:=hzm.slice;have K8:=Ld (KD.trans k8);have S8:=Ld (S7.out.kept K8.out);have y0:w8.cell? ⟨w.heap.size+2,6,none⟩=some (.slice (some ⟨g,0,none⟩) 2 2):=S8.out.o.cell 6;have fg8:=S8.out.row.frozen;obtain⟨t0,th0⟩:=S8.out.row.there (i:=0) (by omega);obtain⟨t1,th1⟩:=S8.out.row.there (i:=1) (by omega);obtain⟨t2,th2⟩:=S8.out.row.there (i:=2) (by omega);obtain⟨t3,th3⟩:=S8.out.row.there (i:=3) (by omega);obtain⟨t4,th4⟩:=S8.out.row.there (i:=4) (by omega);obtain⟨t5,th5⟩:=S8.out.row.there (i:=5) (by omega);obtain⟨t6,th6⟩:=S8.out.row.there (i:=6) (by omega);have S9:=Ld (SK.put (j:=0) S8.out (by omega) (hzk.mono (fun q _ hq=>⟨by have h5:wr.heap.size≤q:=hq;have:=HLW.out;have:=S7.out.ho;omega,by have h5:wr.heap.size≤q:=hq;have:=HLW.out;omega⟩)) (hzm.mono (fun q _ hq=>⟨by have h5:wr.heap.size≤q:=hq;have:=HLW.out;have:=S7.out.ho;omega,by have h5:wr.heap.size≤q:=hq;have:=HLW.out;omega⟩)) (((((((w8.setCell ⟨g,0,none⟩ (.int .i64 r.op)).setCell ⟨g,1,none⟩ (.string r.name)).setCell ⟨g,2,none⟩ (.int .i64 r.n)).setCell ⟨g,3,none⟩ (.int .i64 r.ty.kind)).setCell ⟨g,4,none⟩ (.string r.ty.name)).setCell ⟨g,5,none⟩ (.slice zka zkn zkc)).setCell ⟨g,6,none⟩ (.slice zma zmn zmc)) rfl);have K9:Hid (Kept (fun q=>q=g) wr (((((((w8.setCell ⟨g,0,none⟩ (.int .i64 r.op)).setCell ⟨g,1,none⟩ (.string r.name)).setCell ⟨g,2,none⟩ (.int .i64 r.n)).setCell ⟨g,3,none⟩ (.int .i64 r.ty.kind)).setCell ⟨g,4,none⟩ (.string r.ty.name)).setCell ⟨g,5,none⟩ (.slice zka zkn zkc)).setCell ⟨g,6,none⟩ (.slice zma zmn zmc))):=Ld ((K8.out.mono (fun _ _ e=>e.elim)).trans k7g);clear hzk hzm k8))
       all_goals
        clear x0 x1 y0 fg8 th0 th1 th2 th3 th4 th5 th6 S8 S7 S KD HLW K8
        go_wp2_with fail
        go_meet
        case rel=>exact⟨S9.out,K9.out⟩
      case rest=>
       obtain⟨hS0,hK0⟩:=hcut
       have S0:=Ld hS0
       clear hS0 hK0 S c0 c1 c2 c3 c4 c5 c6 HKC lq
       generalize wc=w0 at *
       obtain⟨e0,e1,e2,e3,e4,e5,e6⟩:=HCY.out w0 S0.out.kp
       have gA:=S0.out.a.cell
       have K5:Hid (Kept (fun _=>False) w0 (w0.alloc (.cells #[.int .i64 y.op,.string y.name,.int .i64 y.n,.int .i64 y.ty.kind,.string y.ty.name,.slice ta' tn' tc',.slice pa' pn' pc'] 28))):=Ld (kR.alloc _)
       have HF86:=Ld (free_any HYK.out.1 (by have:=HYK.out.2.1;omega) (by have:=HYK.out.2.2;omega) (tml_one (Blk.new w0 28 [Value.int .i64 y.op,.string y.name,.int .i64 y.n,.int .i64 y.ty.kind,.string y.ty.name,.slice ta' tn' tc',.slice pa' pn' pc']) (HYT.out _ (S0.out.kp.trans K5.out)) (HYM.out _ (S0.out.kp.trans K5.out))))
       go_wp2_with fail
       clear e0 e1 e2 e3 e4 e5 e6 gA
       refine HF86.out.mono ?_
       rintro e w5 ⟨p1,rfl,hp1,hm1,k5⟩
       have K05:=Ld (K5.out.trans k5)
       have M1:=Ld hm1
       have HP1:Hid (w0.heap.size<p1):=Ld (by have h:=hp1;rw[World.size_alloc] at h;omega)
       have S5:=Ld (S0.out.kept K05.out)
       have HPM5:=Ld (HPM.out.kept S5.out.kp (fun e=>e) (fun _ _ e=>e))
       have HUN:=Ld (under_any (x:=nm) HPM5.out M1.out (by have:=HND.out.1;omega))
       have gA:=S5.out.a.cell
       clear hp1 hm1 k5 K5 HF86 HPM5
       go_wp2_with fail
       clear gA
       refine HUN.out.mono ?_
       rintro e w6 ⟨p2,rfl,hp2,hm2,k6⟩
       have K06:=Ld (K05.out.trans k6)
       have M16:=Ld (M1.out.kept k6 (fun e=>e))
       have HP2:Hid (p1<p2):=Ld (by have h1:=M1.out.lt;omega)
       have HM2:Hid (PrM (fun q=>q<w.heap.size) w6 p2 n (undF nm (fun s=>mb s (fr y)) σ)):=Ld (by obtain⟨f,h1,h2⟩:=hm2;exact⟨f,h1,h2.mono (fun q _ hq=>hq.1)⟩)
       clear hp2 hm2 k6 HUN M1 K05 S5
       obtain⟨f2,hf2,hv2⟩:=HM2.out
       have HF2:=Ld hf2
       have HV2:=Ld (hv2.frame (w:=w6) (W:=w0) (fun k hk hl=>(K06.out.block k (by have:=S0.out.kp.size;omega) (fun e=>e)).symm))
       have HSG2:Hid (SgOk (undF nm (fun s=>mb s (fr y)) σ)):=Ld (fun s u hs=>by unfold undF at hs;split at hs;exact HSG.out s u hs;cases hs)
       have HRC:=Ld (rem_caught HLK.out nm y)
       have HRU:=Ld (rem_und HLK.out nm y)
       clear hf2 hv2
       generalize undF nm (fun s=>mb s (fr y)) σ=σ2 at *
       go_wp2_with (at_range;refine wpList_rangeF rfl _ _ 28 rfl Tryz.underlying85 rfl HF2.out ?_;intro w7 cnt hR7 k7 z7 hcn)
       have HR7:=Ld hR7
       have K07:=Ld (K06.out.trans k7)
       have M17:=Ld (M16.out.kept k7 (fun e=>e))
       have HCN:Hid (cnt≤n):=Ld hcn
       have HRR:Hid (p2<w6.heap.size):=Ld HF2.out.lt
       clear hR7 k7 z7 hcn M16 K06
       generalize w6.heap.size=rg at *
       go_frame
       go_loopw [15] (fun v15 wr=>∃ (cnt' m1:Nat) (g2:ByteArray→Bool) (Bu:ByteArray→Bool) (cg:Bool),v15=.bool cg∧Kept (fun _=>False) w0 wr∧MapR wr p2 rg n f2 g2 cnt'∧cnt'≤cnt∧MapF wr p1 m1 (bagF Bu)∧m1+2000*cnt'≤100000+2000*cnt∧(∀ s,g2 s=true→(f2 s).isSome=true)∧(∀ s,Bu s=true↔mb s (fr y)=true∨∃ t u,σ2 t=some u∧g2 t=false∧mb s (fr u)=true)∧(cg=true↔∃ t u,σ2 t=some u∧g2 t=false∧mb nm (fr u)=true)) (fun v15 wr=>wr.rangeLeft p2 rg)
       case atStart=>
        refine⟨cnt,tmN y,fun s=>(f2 s).isSome,fun s=>mb s (fr y),false,rfl,K07.out,HR7.out,Nat.le_refl _,M17.out,by have:=HYK.out.2.1;omega,fun _ h=>h,fun s=>?_,?_⟩
        ·constructor
         ·exact fun h=>Or.inl h
         ·rintro (h | ⟨t,u,h1,h2,_⟩)
          ·exact h
          ·have h3:=PrM.some_iff HV2.out t
           rw[h1] at h3
           have h2:(f2 t).isSome=false:=h2
           rw[h3] at h2;cases h2
        ·constructor
         ·intro h;cases h
         ·rintro⟨t,u,h1,h2,_⟩
          have h3:=PrM.some_iff HV2.out t
          rw[h1] at h3
          have h2:(f2 t).isSome=false:=h2
          rw[h3] at h2;cases h2
       case round=>
        obtain⟨cnt',m1,g2,Bu,cg,rfl,hk,hR',hle,hM,hmb,hgs,hBu,hcg⟩:=hrel
        have HK:=Ld hk
        have HRR2:=Ld hR'
        have HM1:=Ld hM
        have HLE:Hid (cnt'≤cnt∧m1+2000*cnt'≤100000+2000*cnt):=Ld ⟨hle,hmb⟩
        have HGS:=Ld hgs
        have HBU:=Ld hBu
        have HCG:=Ld hcg
        clear hk hR' hle hM hmb hgs hBu hcg HR7 M17 K07
        go_wp2_with (at_next;refine wpList_nextF rfl _ rfl rfl HRR2.out ?_ ?_)
        ·intro h0
         have HALL:Hid (∀ s,g2 s=false):=Ld (fun s=>by
          cases hg:g2 s with
          | false=>rfl
          | true=>rw[h0 s (HRR2.out.map.small (HGS.out s hg))] at hg;cases hg)
         have HCGQ:Hid (cg=mb nm (frB (remL l nm (fr y)))):=Ld (by
          rw[Bool.eq_iff_iff,HCG.out,HRC.out nm]
          constructor
          ·rintro⟨t,u,h1,_,h3⟩;exact⟨t,u,h1,h3⟩
          ·rintro⟨t,u,h1,h3⟩;exact⟨t,u,h1,HALL.out t,h3⟩)
         have HBUQ:Hid (∀ s,Bu s=mb s (fr y++frB (remL l nm (fr y)))):=Ld (fun s=>by
          rw[Bool.eq_iff_iff,HBU.out s,mb_app,Bool.or_eq_true,HRC.out s]
          constructor
          ·rintro (h | ⟨t,u,h1,_,h3⟩)
           ·exact Or.inl h
           ·exact Or.inr ⟨t,u,h1,h3⟩
          ·rintro (h | ⟨t,u,h1,h3⟩)
           ·exact Or.inl h
           ·exact Or.inr ⟨t,u,h1,HALL.out t,h3⟩)
         have M2:=Ld HRR2.out.map
         have HV3:=Ld (HV2.out.frame (sK HK.out))
         have S1:=Ld (S0.out.kept HK.out)
         have HPW:=Ld (HP.out.kept S1.out.kp)
         have HMB:Hid (m1≤800000):=Ld (by have:=HLE.out;have:=HCN.out;have:=HYK.out.2.2;omega)
         have LL:Hid (p1≠p2∧w0.heap.size<p1∧w0.heap.size<p2∧w.heap.size+3≤w0.heap.size):=Ld ⟨by have:=HP2.out;omega,HP1.out,by have:=HP2.out;have:=HP1.out;omega,by have:=S0.out.o.lt;omega⟩
         have K0R:=HK
         clear h0 HALL HCG HBU HRR2 HGS HLE HK
         go_upto_if 124 with (fail)
         go_cut [] (fun wd=>∃ (zn:ByteArray) (σ3:ByteArray→Option Tm),SK w [Value.int .i64 op,.string nm,.int .i64 N,.int .i64 ty.kind,.string ty.name,.slice a an ac,.slice (some ⟨q1,o1,none⟩) 2 mc] op zn N ty (.slice va vn vc) g 2 (fun i=>if i=0 then some r else none) wd∧PrM (fun q=>q<w.heap.size) wd p2 (n+1) σ3∧Hid (newN freshS nm y l=zn)∧Hid (∀ s,look (inner freshS nm y l) s=σ3 s)∧Hid (SgOk σ3))
         case first=>
          cases cg
          ·have e1:Hid (newN freshS nm y l=nm∧inner freshS nm y l=remL l nm (fr y)):=Ld (by unfold inner newN;rw[← HCGQ.out];exact⟨rfl,rfl⟩)
           have HLI:Hid (∀ s,look (inner freshS nm y l) s=σ2 s):=Ld (fun s=>by rw[e1.out.2];exact HRU.out s)
           go_wp2_with fail
           go_meet
           case rel=>exact⟨nm,σ2,S1.out,⟨f2,M2.out.mono (Nat.le_succ _),HV3.out⟩,Ld e1.out.1,HLI,HSG2⟩
          ·have e1:Hid (newN freshS nm y l=freshS nm (fr y++frB (remL l nm (fr y)))∧inner freshS nm y l=remL l nm (fr y)++[(nm,nameT (newN freshS nm y l))]):=Ld (by unfold inner newN;rw[← HCGQ.out];exact⟨rfl,rfl⟩)
           have HZN:Hid (∀ L,(∀ s,mb s L=Bu s)→freshS nm L=newN freshS nm y l):=Ld (fun L hL=>by rw[e1.out.1];exact freshS_ext (fun s=>by rw[hL,HBUQ.out]) nm)
           have HZO:Hid (∀ L:List ByteArray,L.length≤800000→(∀ s,mb s L=Bu s)→OkTm (nameT (newN freshS nm y l))∧tmN (nameT (newN freshS nm y l))≤2000∧tmD (nameT (newN freshS nm y l))≤2000):=Ld (fun L hL1 hL2=>by
            rw[← HZN.out L hL2]
            refine⟨nameT_ok (freshS_named hL1),?_,?_⟩
            ·unfold nameT;rw[tmN];simp[tmNs]
            ·unfold nameT;rw[tmD];simp[tmDs])
           have HLI:Hid (∀ s,look (inner freshS nm y l) s=(fun t=>if t=nm then some (nameT (newN freshS nm y l)) else σ2 t) s):=Ld (fun s=>by
            rw[e1.out.2,look_app,HRU.out s]
            by_cases hs:s=nm
            ·subst hs
             have h1:σ2 s=none:=by rw[← HRU.out s,remL_look,if_pos (Or.inl rfl)]
             rw[h1];simp[look]
            ·have h1:look [(nm,nameT (newN freshS nm y l))] s=none:=by rw[look,if_neg (fun e=>hs e.symm)];rfl
             rw[h1]
             simp only[if_neg hs]
             cases σ2 s <;> rfl)
           have HSG3:Hid ((OkTm (nameT (newN freshS nm y l))∧tmN (nameT (newN freshS nm y l))≤2000∧tmD (nameT (newN freshS nm y l))≤2000)→SgOk (fun t=>if t=nm then some (nameT (newN freshS nm y l)) else σ2 t)):=Ld (fun hZ s u hs=>by
            by_cases hsn:s=nm
            ·simp only[if_pos hsn,Option.some.injEq] at hs
             rw[← hs];exact hZ
            ·simp only[if_neg hsn] at hs
             exact HSG2.out s u hs)
           clear HBUQ HCGQ
           have HNW:Hid (newN freshS nm y l=newN freshS nm y l):=Ld rfl
           clear e1
           obtain⟨zn,hzn⟩:∃ zn,zn=newN freshS nm y l:=⟨_,rfl⟩
           rw[← hzn] at HZN HZO HLI HSG3
           have HNZN:=Ld hzn.symm
           clear hzn HNW
           go_upto_region 35 with (fail)
           have xn:wr.cell? ⟨w.heap.size,1,none⟩=some (.string nm):=S1.out.a.cell 1
           have KD:Kept (fun _=>False) wr (World.drew wr):=kR.drew
           go_region_law (first
            | (go_simp;go_at_call 142;refine (keys_box p1 _).mono ?_;rintro e w10 ⟨X,rfl,hX1,hX2,k10⟩;have K10:=Ld (KD.trans k10);have HX1:=Ld hX1;have HX2:=Ld hX2;have M10:=Ld (HM1.out.kept K10.out (fun e=>e));have xn10:w10.cell? ⟨w.heap.size,1,none⟩=some (.string nm):=(S1.out.kept K10.out).a.cell 1;clear k10 hX1 hX2)
            | (go_simp;go_at_call 141;refine (collect_any M10.out HMB.out HX1.out HX2.out).mono ?_;rintro e w11 ⟨L,vL,rfl,hL,hLn,hR11⟩;obtain⟨La,Lc,hvL⟩:=hR11.nml.slice;subst hvL;have K11:=Ld (K10.out.trans hR11.kp);have HL:=Ld hL;have HLL:=Ld (show L.length≤800000 by have:=HMB.out;omega);have N11:=Ld hR11.nml;have xn11:w11.cell? ⟨w.heap.size,1,none⟩=some (.string nm):=(S1.out.kept K11.out).a.cell 1;clear hR11 hL hLn)
            | (go_simp;go_at_call 48;refine (fresh_any nm N11.out HLL.out (by have:=HNZ.out;unfold maxLen at this;exact this) (HPW.out.kept K11.out)).mono ?_;rw[HZN.out L HL.out];rintro e w12 ⟨rfl,k12⟩;have K12:=Ld (K11.out.trans k12);have S12:=Ld (S1.out.kept K12.out);have gO12:∀ i,w12.cell? ⟨w.heap.size+2,i,none⟩=[Value.int .i64 op,.string nm,.int .i64 N,.int .i64 ty.kind,.string ty.name,.slice va vn vc,.slice (some ⟨g,0,none⟩) 2 2][i]?:=S12.out.o.cell;have fO12:=S12.out.o.frozen;have HNO:=Ld (HSG3.out (HZO.out L HLL.out HL.out))))
           all_goals
            have S13:=Ld (S12.out.name zn)
            have KS13:Hid (Kept (fun q=>q=w.heap.size+2) wr (w12.setCell ⟨w.heap.size+2,1,none⟩ (.string zn))):=Ld (Kept.setCell (S:=fun q=>q=w.heap.size+2) (K12.out.mono (fun _ _ e=>e.elim)) (p:=⟨w.heap.size+2,1,none⟩) (Or.inl rfl) _)
            clear gO12 fO12 xn xn10 xn11 S12 K12 K11 K10 KD N11 HL HLL HX1 HX2 M10 k12 HZN HZO HSG3 HM1
            generalize w12.setCell ⟨w.heap.size+2,1,none⟩ (.string zn)=w13 at *
            have M213:=Ld (M2.out.kept KS13.out (fun e=>by have:=LL.out;omega))
            have HV13:=Ld (HV3.out.frame (Same.of_kept KS13.out (fun q hq e=>by omega)))
            have gA:=S13.out.a.cell
            have gO:∀ i,w13.cell? ⟨w.heap.size+2,i,none⟩=[Value.int .i64 op,.string zn,.int .i64 N,.int .i64 ty.kind,.string ty.name,.slice va vn vc,.slice (some ⟨g,0,none⟩) 2 2][i]?:=S13.out.o.cell
            have HNL:Hid (n<maxLen):=Ld (by have:=HYK.out.2.2;unfold maxLen;omega)
            go_wp2_with (at_mapUpdate;refine wpList_storeF rfl _ _ _ _ 28 rfl Tryz.underlying85 rfl M213.out nm rfl HNZ.out HNL.out (.agg #[.int .i64 20,.string zn,.int .i64 0,.int .i64 0,.string ⟨#[]⟩,.slice none 0 0,.slice none 0 0]) rfl ?_;intro w14 hm14 k14;clear gA gO)
            have S14:Hid (SK w [Value.int .i64 op,.string nm,.int .i64 N,.int .i64 ty.kind,.string ty.name,.slice a an ac,.slice (some ⟨q1,o1,none⟩) 2 mc] op zn N ty (.slice va vn vc) g 2 (fun i=>if i=0 then some r else none) w14):=Ld (by
             have hL:=LL.out
             have K014:Kept (fun q=>q=w.heap.size+2) w0 w14:=((K0R.out.mono (fun _ _ e=>e.elim)).trans KS13.out).via1 k14 (fun x hx e=>by omega)
             exact⟨S13.out.kp.via1 k14 (fun x hx e=>by omega),S13.out.a.kept k14 (fun e=>by omega),S13.out.r.kept k14 (fun e=>by omega),S13.out.o.kept k14 (fun e=>by omega),S13.out.ho,S0.out.ty.frame (Same.of_kept K014 (fun q hq e=>by omega)),S0.out.row.kept K014 (fun e=>by have:=S0.out.ho;omega) (fun q hq _ e=>by omega)⟩)
            have PM14:Hid (PrM (fun q=>q<w.heap.size) w14 p2 (n+1) (fun t=>if t=nm then some (nameT zn) else σ2 t)):=Ld (by
             refine⟨_,hm14,fun s=>?_⟩
             by_cases hs:s=nm
             ·simp only[if_pos hs]
              exact⟨none,0,0,none,0,0,by unfold updF;rw[if_pos hs];rfl,.nil (Or.inl rfl),.nil (Or.inl rfl)⟩
             ·simp only[if_neg hs]
              have h1:=HV13.out.frame (W:=w14) (Same.of_kept k14 (fun q hq e=>by have:=LL.out;omega)) s
              cases hu:σ2 s with
              | none=>rw[hu] at h1;simp only at h1 ⊢;unfold updF;rw[if_neg hs];exact h1
              | some u=>rw[hu] at h1;simp only at h1 ⊢;unfold updF;rw[if_neg hs];exact h1)
            clear hm14 k14
            go_wp2_with fail
            go_meet
            case rel=>exact⟨zn,_,S14.out,PM14.out,HNZN,HLI,HNO⟩
         case rest=>
          obtain⟨zn,σ3,hS7,hPM7,HN7,HL7,HG7⟩:=hcut
          have S7:=Ld hS7
          have PM7:=Ld hPM7
          clear hS7 hPM7 S1 HBUQ HCGQ M2 HV3 HM1 HPW HRU HRC
          generalize wc=w7b at *
          have HK2:Hid (∀ W,Kept (fun _=>False) w7b W→Calls Tryz.prog 128 #[.map (some p2),tmVal y (.slice ta' tn' tc') (.slice pa' pn' pc')] W (PutP (subT freshS y (inner freshS nm y l)) W)):=Ld (fun W kW=>HIH.out y (by simp) (inner freshS nm y l) σ3 W ok (fun q=>q<w.heap.size) _ _ p2 (n+1) HL7.out HG7.out (HYT.out W (S7.out.kp.trans kW)) (HYM.out W (S7.out.kp.trans kW)) (PM7.out.kept kW (fun e=>e) (fun _ _ e=>e)) (HP.out.kept (S7.out.kp.trans kW)) (by have:=HYK.out.2.2;omega) HYK.out.2.1)
          have hres2:Hid (res=.mk op zn N ty [r,subT freshS y (inner freshS nm y l)]):=Ld (by rw[hres.out,HN7.out])
          unfold PutP tmVal at HK2
          generalize subT freshS y (inner freshS nm y l)=r2 at *
          obtain⟨e0,e1,e2,e3,e4,e5,e6⟩:=HCY.out w7b S7.out.kp
          go_upto_region 37 with (fail)
          have x0:w7b.cell? ⟨w.heap.size+2,6,none⟩=some (.slice (some ⟨g,0,none⟩) 2 2):=S7.out.o.cell 6
          have x1:w7b.cell? ⟨w.heap.size,6,none⟩=some (.slice (some ⟨q1,o1,none⟩) 2 mc):=S7.out.a.cell 6
          have KD:Kept (fun _=>False) w7b (World.drew w7b):=kR.drew
          have HLW:Hid (g<w7b.heap.size):=Ld S7.out.row.lt
          go_region_law (first
           | (go_simp;go_at_call 128;refine (HK2.out _ KD).mono ?_;rintro e w8 ⟨zk,zm,rfl,hzk,hzm,k8⟩;obtain⟨zka,zkn,zkc,rfl⟩:=hzk.slice;obtain⟨zma,zmn,zmc,rfl⟩:=hzm.slice;have S8:=Ld (S7.out.kept (KD.trans k8));have y0:w8.cell? ⟨w.heap.size+2,6,none⟩=some (.slice (some ⟨g,0,none⟩) 2 2):=S8.out.o.cell 6;have fg8:=S8.out.row.frozen;obtain⟨t0,th0⟩:=S8.out.row.there (i:=7) (by omega);obtain⟨t1,th1⟩:=S8.out.row.there (i:=8) (by omega);obtain⟨t2,th2⟩:=S8.out.row.there (i:=9) (by omega);obtain⟨t3,th3⟩:=S8.out.row.there (i:=10) (by omega);obtain⟨t4,th4⟩:=S8.out.row.there (i:=11) (by omega);obtain⟨t5,th5⟩:=S8.out.row.there (i:=12) (by omega);obtain⟨t6,th6⟩:=S8.out.row.there (i:=13) (by omega);have S9:=Ld (SK.put (j:=1) S8.out (by omega) (hzk.mono (fun q _ hq=>⟨by have h5:w7b.heap.size≤q:=hq;have:=HLW.out;have:=S7.out.ho;omega,by have h5:w7b.heap.size≤q:=hq;have:=HLW.out;omega⟩)) (hzm.mono (fun q _ hq=>⟨by have h5:w7b.heap.size≤q:=hq;have:=HLW.out;have:=S7.out.ho;omega,by have h5:w7b.heap.size≤q:=hq;have:=HLW.out;omega⟩)) (((((((w8.setCell ⟨g,7,none⟩ (.int .i64 r2.op)).setCell ⟨g,8,none⟩ (.string r2.name)).setCell ⟨g,9,none⟩ (.int .i64 r2.n)).setCell ⟨g,10,none⟩ (.int .i64 r2.ty.kind)).setCell ⟨g,11,none⟩ (.string r2.ty.name)).setCell ⟨g,12,none⟩ (.slice zka zkn zkc)).setCell ⟨g,13,none⟩ (.slice zma zmn zmc)) rfl);clear hzk hzm k8))
          all_goals
           clear x0 x1 y0 fg8 th0 th1 th2 th3 th4 th5 th6 S8 S7 KD HLW e0 e1 e2 e3 e4 e5 e6
           generalize ((((((w8.setCell ⟨g,7,none⟩ (.int .i64 r2.op)).setCell ⟨g,8,none⟩ (.string r2.name)).setCell ⟨g,9,none⟩ (.int .i64 r2.n)).setCell ⟨g,10,none⟩ (.int .i64 r2.ty.kind)).setCell ⟨g,11,none⟩ (.string r2.ty.name)).setCell ⟨g,12,none⟩ (.slice zka zkn zkc)).setCell ⟨g,13,none⟩ (.slice zma zmn zmc)=w9 at *
           have HDN:Hid (∀ i (hi:i<[r,r2].length),(fun i=>if i=1 then some r2 else if i=0 then some r else none) i=some [r,r2][i]):=Ld (fun i hi=>by
            have h1:i=0∨i=1:=by simp at hi;omega
            rcases h1 with rfl | rfl <;> rfl)
           have gO:=S9.out.o.cell
           have gR:∀ i,w9.cell? ⟨w.heap.size+1,i,none⟩=[Value.int .i64 0,.string ⟨#[]⟩,.int .i64 0,.int .i64 0,.string ⟨#[]⟩,.slice none 0 0,.slice none 0 0][i]?:=S9.out.r.cell
           have fR:=S9.out.r.frozen
           have lR:=S9.out.r.lt
           go_wp2_with fail
           exact bodyPost_ret (results_one Tryz.results128 rfl (load_tm (t:=.mk op zn N ty [r,r2]) (r7 S9.out.r rfl))) rfl ⟨_,_,by rw[hres2.out],by rw[hres2.out];exact (S9.out.done (rs:=[r,r2]) rfl HDN.out).1,by rw[hres2.out];exact (S9.out.done (rs:=[r,r2]) rfl HDN.out).2.1,(S9.out.done (rs:=[r,r2]) rfl HDN.out).2.2⟩
        ·intro s v w9 cnt3 hs hg hfs hR3 hlt k3 z3 hen
         obtain⟨u,xa,xn,xc,za,zn,zc,hu,rfl,hty,htm⟩:=HV2.out.at hfs
         unfold tmVal at hen hfs ⊢
         have HLO:=Ld HRR2.out.left
         have LR:Hid (rg<wr.heap.size∧p1<p2∧p2<rg∧w0.heap.size<p1):=Ld ⟨HRR2.out.lt,HP2.out,HRR.out,HP1.out⟩
         have KW3:=Ld (HK.out.via1 k3 (fun q hq e=>by have:=LR.out;omega))
         have M3:=Ld (HM1.out.kept k3 (fun e=>by have:=LR.out;omega))
         have HR3:=Ld hR3
         have HLT:=Ld hlt
         have HU:=Ld (HSG2.out s u hu)
         have HUS:=Ld hu
         have HG:=Ld hg
         have TU:=Ld (fun W (k:Kept (fun _=>False) w0 W)=>hty.frame (sK k))
         have MU:=Ld (fun W (k:Kept (fun _=>False) w0 W)=>htm.frame (sK k))
         clear hu k3 hR3 hlt hg hfs hs HRR2 HM1
         go_upto_region 31 with (fail)
         clear hen
         have bK:=Ld (Blk.new w9 28 [Value.int .i64 u.op,.string u.name,.int .i64 u.n,.int .i64 u.ty.kind,.string u.ty.name,.slice xa xn xc,.slice za zn zc])
         change Hid (Blk (w9.alloc (.cells #[.int .i64 u.op,.string u.name,.int .i64 u.n,.int .i64 u.ty.kind,.string u.ty.name,.slice xa xn xc,.slice za zn zc] 28)) w9.heap.size _ _) at bK
         rw[z3] at bK
         have K4:Hid (Kept (fun _=>False) w9 (w9.alloc (.cells #[.int .i64 u.op,.string u.name,.int .i64 u.n,.int .i64 u.ty.kind,.string u.ty.name,.slice xa xn xc,.slice za zn zc] 28))):=Ld (kR.alloc _)
         have Z4:Hid ((w9.alloc (.cells #[.int .i64 u.op,.string u.name,.int .i64 u.n,.int .i64 u.ty.kind,.string u.ty.name,.slice xa xn xc,.slice za zn zc] 28)).heap.size=wr.heap.size+1):=Ld (by rw[World.size_alloc,z3])
         generalize w9.alloc (.cells #[.int .i64 u.op,.string u.name,.int .i64 u.n,.int .i64 u.ty.kind,.string u.ty.name,.slice xa xn xc,.slice za zn zc] 28)=w10 at *
         clear z3
         have K5:Hid (Kept (fun _=>False) w10 (w10.alloc (.cells #[.int .i64 u.op,.string u.name,.int .i64 u.n,.int .i64 u.ty.kind,.string u.ty.name,.slice xa xn xc,.slice za zn zc] 28))):=Ld (kR.alloc _)
         have KW5:=Ld ((KW3.out.trans K4.out).trans K5.out)
         have HF86:=Ld (free_any HU.out.1 (by have:=HU.out.2.1;omega) (by have:=HU.out.2.2;omega) (tml_one (Blk.new w10 28 [Value.int .i64 u.op,.string u.name,.int .i64 u.n,.int .i64 u.ty.kind,.string u.ty.name,.slice xa xn xc,.slice za zn zc]) (TU.out _ KW5.out) (MU.out _ KW5.out)))
         have gK:=bK.out.cell
         go_wp2_with fail
         clear gK bK
         refine HF86.out.mono ?_
         rintro e w12 ⟨p3,rfl,hp3,hm3,k12⟩
         have KW12:=Ld (KW5.out.trans k12)
         have M12:=Ld (M3.out.kept ((K4.out.trans K5.out).trans k12) (fun e=>e))
         have HR12:=Ld (HR3.out.kept ((K4.out.trans K5.out).trans k12) (fun e=>e) (fun e=>e))
         have HP3:Hid (wr.heap.size<p3):=Ld (by have h:=hp3;rw[World.size_alloc] at h;have:=Z4.out;omega)
         have M3':=Ld hm3
         have hlk:=hm3.look Tryz.underlying90 (z4 _) HNZ.out
         rw[bagF_get] at hlk
         have S12:=Ld (S0.out.kept KW12.out)
         have gA:=S12.out.a.cell
         have HCP:=Ld (copyM_any M12.out M3'.out (by have:=HP3.out;have:=LR.out;omega) (by have:=HLE.out.2;have:=HLE.out.1;have:=HCN.out;have:=HU.out.2.1;have:=HYK.out.2.2;omega))
         clear hp3 hm3 k12 HF86 K4 K5 KW5 M3 HR3 KW3
         go_upto_region 32 with (fail)
         go_cut [15] (fun v wd=>v=.bool (cg||mb nm (fr u))∧wd=w12)
         case first=>
          cases cg
          ·go_wp2_with fail
           go_meet
           case rel=>exact⟨by simp,rfl⟩
          ·go_wp2_with fail
           go_meet
           case rel=>exact⟨by simp,rfl⟩
         case rest=>
          obtain⟨rfl,hwc⟩:=hcut
          subst hwc
          clear hlk gA
          go_wp2_with fail
          refine HCP.out.mono ?_
          rintro e w13 ⟨rfl,hm13,k13⟩
          have KW13:=Ld (KW12.out.via1 k13 (fun q hq e=>by have:=LR.out;omega))
          have HR13:=Ld (HR12.out.kept k13 (fun e=>by have:=LR.out;omega) (fun e=>by have:=LR.out;omega))
          have M13:=Ld hm13
          have HGN:Hid (∀ t,(g2 t&&!decide (t=s))=true→(f2 t).isSome=true):=Ld (fun t ht=>HGS.out t (by rw[Bool.and_eq_true] at ht;exact ht.1))
          have HVIS:Hid (∀ (P:Tm→Prop),(∃ t u',σ2 t=some u'∧(g2 t&&!decide (t=s))=false∧P u')↔((∃ t u',σ2 t=some u'∧g2 t=false∧P u')∨P u)):=Ld (fun P=>by
           constructor
           ·rintro⟨t,u',h1,h2,h3⟩
            by_cases ht:t=s
            ·subst ht
             rw[HUS.out] at h1
             cases h1
             exact Or.inr h3
            ·rw[decide_eq_false ht] at h2
             exact Or.inl ⟨t,u',h1,by simpa using h2,h3⟩
           ·rintro (⟨t,u',h1,h2,h3⟩ | h)
            ·exact⟨t,u',h1,by rw[h2];rfl,h3⟩
            ·exact⟨s,u,HUS.out,by simp,h⟩)
          have HBN:Hid (∀ t,(Bu t||mb t (fr u))=true↔mb t (fr y)=true∨∃ x v,σ2 x=some v∧(g2 x&&!decide (x=s))=false∧mb t (fr v)=true):=Ld (fun t=>by
           rw[HVIS.out (fun v=>mb t (fr v)=true),Bool.or_eq_true,HBU.out t,or_assoc])
          have HCN2:Hid ((cg||mb nm (fr u))=true↔∃ x v,σ2 x=some v∧(g2 x&&!decide (x=s))=false∧mb nm (fr v)=true):=Ld (by
           rw[HVIS.out (fun v=>mb nm (fr v)=true),Bool.or_eq_true,HCG.out])
          have HLE3:Hid (cnt3≤cnt∧m1+tmN u+2000*cnt3≤100000+2000*cnt):=Ld (by have:=HLE.out;have:=HLT.out;have:=HU.out.2.1;omega)
          clear hm13 k13 HCP KW12 M12 HR12 M3' S12 HBU HCG HGS HVIS
          go_wp2_with fail
          go_roundw
          case rel=>exact⟨cnt3,_,_,_,_,rfl,KW13.out,HR13.out,HLE3.out.1,M13.out,HLE3.out.2,HGN.out,HBN.out,HCN2.out⟩
          case measure=>rw[HR13.out.left,HLO.out];exact HLT.out
theorem psub_any {t:Tm} (h:OkTm t):PsC t:=by
 induction h with
 | mk hf hn hl ih=>exact psub_one (.mk hf hn hl) ih
def fvAny (ts:List Tm) (s:ByteArray):Bool:=ts.any fun t=>mb s (fr t)
def FreQ (ts:List Tm) (w:World) (e:Ending) (w':World):Prop:=∃ p,e=.returned (.map (some p))∧w.heap.size≤p∧MapF w' p (tmNs ts) (bagF (fvAny ts))∧Kept (fun _=>False) w w'
theorem freeL_any {ts:List Tm} (ht:∀ t,t∈ts→OkTm t) (hn:ts.length≤1000000) (hN:tmNs ts≤400000) (hD:tmDs ts≤400000) {ok:Nat→Prop} {w:World} {a:Option Addr} {n c:Nat} (h2:TmL ok w ts (.slice a n c)):Calls Tryz.prog 86 #[.slice a n c] w (FreQ ts w):=by
 have hlen:n=ts.length:=h2.len
 have HCL:=Ld (fun t (h:t∈ts)=>clc_any (ht t h))
 have HKN:=Ld hn
 have HND:Hid (tmNs ts≤400000∧tmDs ts≤400000):=Ld ⟨hN,hD⟩
 have HAT:=Ld (fun W (k:Kept (fun _=>False) w W)=>((h2.mono (ok':=fun q=>q<w.heap.size) (fun q hq _=>hq)).frame (sK k)).at)
 clear hN hD h2 ht hn
 subst hlen
 have hmm:=@run_makeMap Tryz.prog
 go_enter Tryz.func86,Tryz.ntmps86
 go_upto_region 2 with (fail)
 have M1:=Ld (MapF.made w)
 have K1:Hid (Kept (fun _=>False) w (w.alloc (.map #[] 0))):=Ld (kR.alloc _)
 generalize w.alloc (.map #[] 0)=w1 at *
 go_wp2_with fail
 obtain⟨q0,hq0⟩:∃ p,p=w.heap.size:=⟨_,rfl⟩
 go_loopw [9] (fun i wr=>Kept (fun _=>False) w wr∧∃ (k m:Nat) (G:ByteArray→Bool),k≤ts.length∧i=.int .i64 k∧MapF wr w.heap.size m (bagF G)∧Hid (m+tmNs (ts.drop k)≤tmNs ts∧∀ s,fvAny ts s=(G s||fvAny (ts.drop k) s))) (fun i _=>ts.length-(intOf i).toNat)
 case atStart=>exact⟨K1.out,0,0,fun _=>false,Nat.zero_le _,rfl,(by rw[bagF_none];exact M1.out),Ld ⟨by simp,fun s=>by simp⟩⟩
 case round=>
  obtain⟨hk,k,m,G,hkl,rfl,hm,hq⟩:=hrel
  by_cases hlt:k<ts.length
  ·have i1:(k:Int)<(ts.length:Int):=by omega
   have i2:(k:Int)<1000000:=by have:=HKN.out;omega
   obtain⟨q1,o1,ta,tn,tc,pa,pn,pc,rfl,hq1,lq,hC,hkt,hkm⟩:=HAT.out wr hk k hlt
   have HCT:=Ld (HCL.out _ (List.getElem_mem hlt))
   have HDM:Hid (tmD ts[k]≤tmDs ts∧tmNs (ts.drop k)=tmN ts[k]+tmNs (ts.drop (k+1))∧∀ s,fvAny (ts.drop k) s=(mb s (fr ts[k])||fvAny (ts.drop (k+1)) s)):=Ld ⟨kid_dn (List.getElem_mem hlt),by rw[List.drop_eq_getElem_cons hlt,tmNs],fun s=>by rw[List.drop_eq_getElem_cons hlt];unfold fvAny;rw[List.any_cons]⟩
   obtain⟨c0,c1,c2,c3,c4,c5,c6⟩:=hC
   generalize ts[k]=t at *
   have KR:Kept (fun _=>False) wr (wr.alloc (.cells #[.int .i64 t.op,.string t.name,.int .i64 t.n,.int .i64 t.ty.kind,.string t.ty.name,.slice ta tn tc,.slice pa pn pc] 28)):=kR.alloc _
   have bK:=Ld (Blk.new wr 28 [.int .i64 t.op,.string t.name,.int .i64 t.n,.int .i64 t.ty.kind,.string t.ty.name,.slice ta tn tc,.slice pa pn pc])
   change Hid (Blk (wr.alloc (.cells #[.int .i64 t.op,.string t.name,.int .i64 t.n,.int .i64 t.ty.kind,.string t.ty.name,.slice ta tn tc,.slice pa pn pc] 28)) _ _ _) at bK
   have HK:=Ld hk
   have HM:=Ld hm
   have HKT:=Ld hkt
   have HKM:=Ld hkm
   have KR1:=Ld KR
   clear hk hm hkt hkm KR M1 K1
   go_upto_region 5 with (fail)
   clear c0 c1 c2 c3 c4 c5 c6
   have hw3:Hid ((wr.alloc (.cells #[.int .i64 t.op,.string t.name,.int .i64 t.n,.int .i64 t.ty.kind,.string t.ty.name,.slice ta tn tc,.slice pa pn pc] 28)).heap.size=wr.heap.size+1):=Ld (World.size_alloc _ _)
   generalize wr.alloc (.cells #[.int .i64 t.op,.string t.name,.int .i64 t.n,.int .i64 t.ty.kind,.string t.ty.name,.slice ta tn tc,.slice pa pn pc] 28)=w3 at *
   have gK:=bK.out.cell
   have M3:=Ld (MapF.made w3)
   have K3:Hid (Kept (fun _=>False) w3 (w3.alloc (.map #[] 0))):=Ld (kR.alloc _)
   have HC:=Ld (HCT.out G (fun _=>0) (w3.alloc (.map #[] 0)) (fun q=>q<w.heap.size) _ _ w3.heap.size 0 w.heap.size m (HKT.out.frame (sK (KR1.out.trans K3.out))) (HKM.out.frame (sK (KR1.out.trans K3.out))) ⟨_,M3.out,cnt_none⟩ (HM.out.kept (KR1.out.trans K3.out) (fun e=>e)) (by have:=HM.out.lt;have:=hw3.out;omega) (fun q hq=>⟨by have:=HK.out.size;have:=hw3.out;omega,by omega⟩) (by have:=HND.out.1;have:=HDM.out.2.1;have:=hq.out.1;omega) (by have:=HND.out.1;have:=HDM.out.2.1;have:=hq.out.1;omega) (fun s=>by have:=HND.out.2;have:=HDM.out.1;omega))
   unfold tmVal at HC
   go_wp2_with fail
   clear gK
   refine HC.out.mono ?_
   rintro e w5 ⟨rfl,hR⟩
   have K5:Hid (Kept (fun _=>False) w w5):=Ld (((HK.out.trans KR1.out).trans K3.out).via1 hR.kp (fun x hx e=>by have:=HK.out.size;have:=hw3.out;rcases e with e | e <;> omega))
   have M5:=Ld hR.into
   clear hR HC M3 K3 HK HM HKT HKM KR1 bK
   go_wp2_with fail
   go_roundw
   case rel=>exact⟨K5.out,k+1,_,_,by omega,by go_num,M5.out,Ld ⟨by have:=HDM.out.2.1;have:=hq.out.1;omega,fun s=>by rw[hq.out.2 s,HDM.out.2.2 s];simp[Bool.or_assoc]⟩⟩
   case measure=>simp[intOf];omega
  ·have hkk:k=ts.length:=by omega
   subst hkk
   have HK:=Ld hk
   have HM:=Ld hm
   clear hk hm M1 K1
   have HG:Hid (G=fvAny ts):=Ld (by funext s;rw[hq.out.2 s,List.drop_length];simp[fvAny])
   go_wp2_with fail
   go_ret
   exact⟨_,rfl,Nat.le_refl _,by rw[← HG.out];exact HM.out.mono (by have:=hq.out.1;omega),HK.out⟩
structure KQ (P:Nat→Prop) (W:World) (g:Nat) (l:List Tm):Prop where
 row:∃ (L:List Value) (K M:Nat→Value),Blk W g 28 L∧l.length*7≤L.length∧∀ i (h:i<l.length),L[i*7]?=some (.int .i64 l[i].op)∧L[i*7+1]?=some (.string l[i].name)∧L[i*7+2]?=some (.int .i64 l[i].n)∧L[i*7+3]?=some (.int .i64 l[i].ty.kind)∧L[i*7+4]?=some (.string l[i].ty.name)∧L[i*7+5]?=some (K i)∧L[i*7+6]?=some (M i)∧TyL P W l[i].ty.kids (K i)∧TmL P W l[i].kids (M i)
theorem KRow.toQ {W:World} {base0 base g X:Nat} {l:List Tm} (h:KRow W base0 g l) (hb:base≤base0) (hX:W.heap.size=X):KQ (fun q=>base≤q∧q≠g∧q≠X) W g l:=by
 obtain⟨L,K,M,bG,hL,hR⟩:=h.row
 refine⟨⟨L,K,M,bG,hL,fun i hi=>?_⟩⟩
 obtain⟨e0,e1,e2,e3,e4,e5,e6,e7,e8⟩:=hR i hi
 exact⟨e0,e1,e2,e3,e4,e5,e6,e7.mono (fun q hq h=>⟨by omega,h.2,by omega⟩),e8.mono (fun q hq h=>⟨by omega,h.2,by omega⟩)⟩
theorem KQ.kept {P:Nat→Prop} {W W':World} {g:Nat} {l:List Tm} (h:KQ P W g l) {S:Nat→Prop} (k:Kept S W W') (h1:¬ S g) (h2:∀ q,P q→¬ S q):KQ P W' g l:=by
 obtain⟨L,K,M,bG,hL,hR⟩:=h.row
 refine⟨⟨L,K,M,bG.kept k h1,hL,fun i hi=>?_⟩⟩
 obtain⟨e0,e1,e2,e3,e4,e5,e6,e7,e8⟩:=hR i hi
 exact⟨e0,e1,e2,e3,e4,e5,e6,e7.frame (Same.of_kept k (fun q hq=>h2 q hq)),e8.frame (Same.of_kept k (fun q hq=>h2 q hq))⟩
theorem KQ.frozen {P:Nat→Prop} {W:World} {g:Nat} {l:List Tm} (h:KQ P W g l):∀ i,W.frozen? ⟨g,i,none⟩=false:=by obtain⟨L,K,M,bG,_⟩:=h.row;exact bG.frozen
theorem KQ.lt {P:Nat→Prop} {W:World} {g:Nat} {l:List Tm} (h:KQ P W g l):g<W.heap.size:=by obtain⟨L,K,M,bG,_⟩:=h.row;exact bG.lt
theorem KQ.there {P:Nat→Prop} {W:World} {g i:Nat} {l:List Tm} (h:KQ P W g l) (hi:i<l.length*7):∃ v,W.cell? ⟨g,i,none⟩=some v:=by
 obtain⟨L,K,M,bG,hL,_⟩:=h.row
 have hl:i<L.length:=by omega
 exact⟨L[i],by rw[bG.cell,List.getElem?_eq_getElem hl]⟩
theorem KQ.put {P:Nat→Prop} {W:World} {g j:Nat} {l:List Tm} {u:Tm} {v x:Value} (h:KQ P W g l) (hP:∀ q,P q→q≠g) (hj:j<l.length) (hv:TyL P W u.ty.kids v) (hx:TmL P W u.kids x) (W3:World)
  (hW:W3=((((((W.setCell ⟨g,j*7,none⟩ (.int .i64 u.op)).setCell ⟨g,j*7+1,none⟩ (.string u.name)).setCell ⟨g,j*7+2,none⟩ (.int .i64 u.n)).setCell ⟨g,j*7+3,none⟩ (.int .i64 u.ty.kind)).setCell ⟨g,j*7+4,none⟩ (.string u.ty.name)).setCell ⟨g,j*7+5,none⟩ v).setCell ⟨g,j*7+6,none⟩ x):KQ P W3 g (l.set j u):=by
 subst hW
 obtain⟨L,K,M,bG,hL,hR⟩:=h.row
 refine⟨⟨((((((L.set (j*7) (.int .i64 u.op)).set (j*7+1) (.string u.name)).set (j*7+2) (.int .i64 u.n)).set (j*7+3) (.int .i64 u.ty.kind)).set (j*7+4) (.string u.ty.name)).set (j*7+5) v).set (j*7+6) x,fun i=>if i=j then v else K i,fun i=>if i=j then x else M i,
  (((((((bG.set _ _).set _ _).set _ _).set _ _).set _ _).set _ _).set _ _),by simpa using hL,fun i hi=>?_⟩⟩
 have hi':i<l.length:=by simpa using hi
 by_cases hij:i=j
 ·subst hij
  simp only[List.getElem_set_self,if_pos]
  refine⟨?_,?_,?_,?_,?_,?_,?_,?_,?_⟩
  ·rw[List.getElem?_set_ne (by omega),List.getElem?_set_ne (by omega),List.getElem?_set_ne (by omega),List.getElem?_set_ne (by omega),List.getElem?_set_ne (by omega),List.getElem?_set_ne (by omega),List.getElem?_set_self (by omega)]
  ·rw[List.getElem?_set_ne (by omega),List.getElem?_set_ne (by omega),List.getElem?_set_ne (by omega),List.getElem?_set_ne (by omega),List.getElem?_set_ne (by omega),List.getElem?_set_self (by simp;omega)]
  ·rw[List.getElem?_set_ne (by omega),List.getElem?_set_ne (by omega),List.getElem?_set_ne (by omega),List.getElem?_set_ne (by omega),List.getElem?_set_self (by simp;omega)]
  ·rw[List.getElem?_set_ne (by omega),List.getElem?_set_ne (by omega),List.getElem?_set_ne (by omega),List.getElem?_set_self (by simp;omega)]
  ·rw[List.getElem?_set_ne (by omega),List.getElem?_set_ne (by omega),List.getElem?_set_self (by simp;omega)]
  ·rw[List.getElem?_set_ne (by omega),List.getElem?_set_self (by simp;omega)]
  ·rw[List.getElem?_set_self (by simp;omega)]
  ·exact hv.frame (set7 (fun q h=>hP q h))
  ·exact hx.frame (set7 (fun q h=>hP q h))
 ·obtain⟨e0,e1,e2,e3,e4,e5,e6,e7,e8⟩:=hR i hi'
  have eg:(l.set j u)[i]=l[i]:=List.getElem_set_ne (Ne.symm hij) _
  rw[eg]
  simp only[if_neg hij]
  refine⟨?_,?_,?_,?_,?_,?_,?_,e7.frame (set7 (fun q h=>hP q h)),e8.frame (set7 (fun q h=>hP q h))⟩
  all_goals (rw[List.getElem?_set_ne (by omega),List.getElem?_set_ne (by omega),List.getElem?_set_ne (by omega),List.getElem?_set_ne (by omega),List.getElem?_set_ne (by omega),List.getElem?_set_ne (by omega),List.getElem?_set_ne (by omega)];assumption)
theorem KQ.tml {P ok:Nat→Prop} {W:World} {g c:Nat} {l:List Tm} (h:KQ P W g l) (hP:∀ q,P q→ok q) (hg:ok g) (hc:l.length≤c):TmL ok W l (.slice (some ⟨g,0,none⟩) l.length c):=by
 by_cases hne:l=[]
 ·subst hne;exact .nil (Or.inr ⟨_,_,rfl⟩)
 ·obtain⟨L,K,M,bG,hL,hR⟩:=h.row
  refine TmL.mk K M hne hg hc (fun i hi=>?_) (fun i hi=>?_) (fun i hi=>?_)
  ·obtain⟨e0,e1,e2,e3,e4,e5,e6,e7,e8⟩:=hR i hi
   rw[Nat.zero_add]
   exact⟨by rw[bG.cell];exact e0,by rw[bG.cell];exact e1,by rw[bG.cell];exact e2,by rw[bG.cell];exact e3,by rw[bG.cell];exact e4,by rw[bG.cell];exact e5,by rw[bG.cell];exact e6⟩
  ·exact (hR i hi).2.2.2.2.2.2.2.1.mono (fun q _ h=>hP q h)
  ·exact (hR i hi).2.2.2.2.2.2.2.2.mono (fun q _ h=>hP q h)
theorem set_step {l rs ks:List Tm} {k:Nat} {r:Tm} (h:l.length=ks.length∧∀ i,l[i]?=if i<k then rs[i]? else ks[i]?) (hk:k<l.length) (hr:rs[k]?=some r):(l.set k r).length=ks.length∧∀ i,(l.set k r)[i]?=if i<k+1 then rs[i]? else ks[i]?:=by
 refine⟨by rw[List.length_set];exact h.1,fun i=>?_⟩
 rw[List.getElem?_set]
 by_cases e:k=i
 ·subst e;rw[if_pos rfl,if_pos hk,if_pos (by omega),hr]
 ·rw[if_neg e,h.2 i]
  by_cases e2:i<k
  ·rw[if_pos e2,if_pos (by omega)]
  ·rw[if_neg e2,if_neg (by omega)]
structure WK (w:World) (b R X g:Nat) (rc:Nat→List Value) (ca:List Value) (oc:ByteArray→List Value) (ty:Ty) (tv:Value) (n:Nat) (c:ByteArray→Nat) (cnt:Nat) (z:ByteArray) (l:List Tm) (W:World):Prop where
 kp:Kept (fun q=>q=b∨q=R) w W
 bo:∃ f,MapF W b n f∧CntF f c
 rp:Blk W R 93 (rc cnt)
 a:Blk W w.heap.size 28 ca
 r:Blk W (w.heap.size+1) 28 z27
 o:Blk W X 28 (oc z)
 ne:b<w.heap.size∧R<w.heap.size∧w.heap.size+2≤g∧w.heap.size+2≤X∧g≠X
 ty:TyL (fun q=>w.heap.size+2≤q∧q≠g∧q≠X) W ty.kids tv
 row:KQ (fun q=>w.heap.size+2≤q∧q≠g∧q≠X) W g l
section
variable {w W W':World} {b R X g:Nat} {rc:Nat→List Value} {ca:List Value} {oc:ByteArray→List Value} {ty:Ty} {tv:Value} {n:Nat} {c:ByteArray→Nat} {cnt:Nat} {z:ByteArray} {l:List Tm}
theorem WK.kept (h:WK w b R X g rc ca oc ty tv n c cnt z l W) (k:Kept (fun _=>False) W W'):WK w b R X g rc ca oc ty tv n c cnt z l W':=by
 obtain⟨f,h2,h3⟩:=h.bo
 exact⟨h.kp.trans (k.mono (fun _ _ e=>e.elim)),⟨f,h2.kept k (fun e=>e),h3⟩,h.rp.kept k (fun e=>e),h.a.kept k (fun e=>e),h.r.kept k (fun e=>e),h.o.kept k (fun e=>e),h.ne,h.ty.frame (sK k),h.row.kept k (fun e=>e) (fun _ _ e=>e)⟩
theorem WK.step {n' cnt':Nat} {c':ByteArray→Nat} (h:WK w b R X g rc ca oc ty tv n c cnt z l W) (k:Kept (fun q=>q=b∨q=R) W W') (hm:∃ f,MapF W' b n' f∧CntF f c') (hr:Blk W' R 93 (rc cnt')):WK w b R X g rc ca oc ty tv n' c' cnt' z l W':=by
 obtain⟨h1,h2,h3,h4,h5⟩:=h.ne
 exact⟨h.kp.trans k,hm,hr,h.a.kept k (fun e=>by omega),h.r.kept k (fun e=>by omega),h.o.kept k (fun e=>by omega),h.ne,h.ty.frame (Same.of_kept k (fun _ _ e=>by omega)),h.row.kept k (fun e=>by omega) (fun _ _ e=>by omega)⟩
theorem WK.stepB {n':Nat} {c':ByteArray→Nat} (hbR:b≠R) (h:WK w b R X g rc ca oc ty tv n c cnt z l W) (k:Kept (fun q=>q=b) W W') (hm:∃ f,MapF W' b n' f∧CntF f c'):WK w b R X g rc ca oc ty tv n' c' cnt z l W':=
 h.step (k.mono (fun _ _ e=>Or.inl e)) hm (h.rp.kept k (fun e=>hbR e.symm))
theorem WK.put {j:Nat} {u:Tm} {v x:Value} (h:WK w b R X g rc ca oc ty tv n c cnt z l W) (hj:j<l.length) (hv:TyL (fun q=>w.heap.size+2≤q∧q≠g∧q≠X) W u.ty.kids v) (hx:TmL (fun q=>w.heap.size+2≤q∧q≠g∧q≠X) W u.kids x) (W3:World)
  (hW:W3=((((((W.setCell ⟨g,j*7,none⟩ (.int .i64 u.op)).setCell ⟨g,j*7+1,none⟩ (.string u.name)).setCell ⟨g,j*7+2,none⟩ (.int .i64 u.n)).setCell ⟨g,j*7+3,none⟩ (.int .i64 u.ty.kind)).setCell ⟨g,j*7+4,none⟩ (.string u.ty.name)).setCell ⟨g,j*7+5,none⟩ v).setCell ⟨g,j*7+6,none⟩ x):WK w b R X g rc ca oc ty tv n c cnt z (l.set j u) W3:=by
 have h1:=h.row.put (fun q hq=>hq.2.1) hj hv hx W3 hW
 obtain⟨n1,n2,n3,n4,n5⟩:=h.ne
 have k:Kept (fun q=>q=g) W W3:=by rw[hW];exact k7g
 obtain⟨f,h2,h3⟩:=h.bo
 exact⟨h.kp.via1 k (fun x hx e=>by omega),⟨f,h2.kept k (fun e=>by omega),h3⟩,h.rp.kept k (fun e=>by omega),h.a.kept k (fun e=>by omega),h.r.kept k (fun e=>by omega),h.o.kept k (fun e=>by omega),h.ne,h.ty.frame (Same.of_kept k (fun q hq e=>hq.2.1 e)),h1⟩
theorem WK.name (h:WK w b R X g rc ca oc ty tv n c cnt z l W) (s:ByteArray) (ho:(oc z).set 1 (.string s)=oc s):WK w b R X g rc ca oc ty tv n c cnt s l (W.setCell ⟨X,1,none⟩ (.string s)):=by
 have k:Kept (fun q=>q=X) W (W.setCell ⟨X,1,none⟩ (.string s)):=(Kept.refl (fun q=>q=X) W).setCell (p:=⟨X,1,none⟩) (Or.inl rfl) _
 obtain⟨n1,n2,n3,n4,n5⟩:=h.ne
 obtain⟨f,h2,h3⟩:=h.bo
 exact⟨h.kp.via1 k (fun x hx e=>by omega),⟨f,h2.kept k (fun e=>by omega),h3⟩,h.rp.kept k (fun e=>by omega),h.a.kept k (fun e=>by omega),h.r.kept k (fun e=>by omega),by rw[← ho];exact h.o.set 1 (.string s),h.ne,h.ty.frame (Same.of_kept k (fun q hq e=>hq.2.2 e)),h.row.kept k (fun e=>by omega) (fun q hq e=>hq.2.2 e)⟩
theorem WK.done (h:WK w b R X g rc ca oc ty tv n c cnt z l W) {m cg:Nat} (hm:l.length=m) (hc:m≤cg) {x0 x1 x2 x3 x4 x5 x6:Value} {i0 i1 i2 i3 i4 i5 i6:Nat}:
  let W3:=(((((((W.setCell ⟨w.heap.size+1,i0,none⟩ x0).setCell ⟨w.heap.size+1,i1,none⟩ x1).setCell ⟨w.heap.size+1,i2,none⟩ x2).setCell ⟨w.heap.size+1,i3,none⟩ x3).setCell ⟨w.heap.size+1,i4,none⟩ x4).setCell ⟨w.heap.size+1,i5,none⟩ x5).setCell ⟨w.heap.size+1,i6,none⟩ x6)
  TyL (fun q=>w.heap.size≤q) W3 ty.kids tv∧TmL (fun q=>w.heap.size≤q) W3 l (.slice (some ⟨g,0,none⟩) m cg)∧Kept (fun q=>q=b∨q=R) w W3∧(∃ f,MapF W3 b n f∧CntF f c)∧Blk W3 R 93 (rc cnt):=by
 intro W3
 subst hm
 obtain⟨n1,n2,n3,n4,n5⟩:=h.ne
 have k:Kept (fun q=>q=w.heap.size+1) W W3:=k7g
 obtain⟨f,h2,h3⟩:=h.bo
 have h1:=h.row.kept k (fun e=>by omega) (fun q hq e=>by omega)
 exact⟨(h.ty.frame (Same.of_kept k (fun q hq e=>by omega))).mono (fun q _ hq=>by omega),h1.tml (fun q hq=>by omega) (by omega) hc,h.kp.via1 k (fun x hx e=>by omega),⟨f,h2.kept k (fun e=>by omega),h3⟩,h.rp.kept k (fun e=>by omega)⟩
end
section
variable {ops:Array Oper} {rest:List Oper} {o:Oper} {a:Act} {Q:Exit→Act→World→Prop} {w:World} {b n:Nat} {f:ByteArray→Option Value}
theorem wpList_insertF (hg:o.guard=none) (m x v:Operand) (t e:TypeId) (hop:o.op=Op.insert t m x v) (ht:Tryz.prog.underlying t=some (.map 9 e)) (hm:a.eval m=.map (some b)) (hM:MapF w b n f) (s:ByteArray) (hx:a.eval x=.string s) (hs:s.size≤maxLen) (hn:n<maxLen) (u:Value) (hv:a.eval v=u)
  (h:∀ w',MapF w' b (n+1) (updF f s u)→Kept (fun q=>q=b) w w'→wpList Tryz.prog ops Q rest (a.put o.dst undef) w'):wpList Tryz.prog ops Q (o::rest) a w:=by
 refine wpList_plain hg fun K' hK'=>?_
 obtain⟨w',hrun,r1,r2⟩:=hM.store ht hs hn u
 unfold Oper.wp
 simp[execOp,hop,hm,hx,hv,hrun,Result.andThen]
 exact hK' _ _ (h w' r1 r2)
end
theorem sg_one {nm z:ByteArray} (hz:identB z=true):SgOk (look [(nm,nameT z)]):=by
 intro s u hs
 have e:u=nameT z:=by
  rw[look] at hs
  split at hs
  ·exact (Option.some.inj hs).symm
  ·rw[look] at hs;cases hs
 subst e
 exact⟨nameT_ok (ident_named hz),by unfold nameT;simp[tmN,tmNs],by unfold nameT;simp[tmD,tmDs]⟩
theorem prm_one {W:World} {b n:Nat} {nm z:ByteArray} (hM:MapF W b n (updF (fun _=>none) nm (.agg #[.int .i64 20,.string z,.int .i64 0,.int .i64 0,.string ⟨#[]⟩,.slice none 0 0,.slice none 0 0]))):PrM (fun _=>False) W b n (look [(nm,nameT z)]):=by
 refine⟨_,hM,fun s=>?_⟩
 rw[look]
 by_cases hs:s=nm
 ·subst hs
  simp only[if_true]
  exact⟨none,0,0,none,0,0,by unfold updF;rw[if_pos rfl];rfl,.nil (Or.inl rfl),.nil (Or.inl rfl)⟩
 ·have hs2:¬ nm=s:=fun e=>hs e.symm
  simp only[hs,hs2,if_false,look]
  show updF (fun _=>none) nm _ s=none
  unfold updF;rw[if_neg hs]
theorem tml_two {ok:Nat→Prop} {W:World} {g:Nat} {t u:Tm} {tk kk tk' kk':Value} {ok':Nat→Prop} (hb:Blk W g 28 (tmCells t tk kk++(tmCells u tk' kk'++[]))) (h1:TyL ok W t.ty.kids tk) (h2:TmL ok W t.kids kk) (h3:TyL ok' W u.ty.kids tk') (h4:TmL ok' W u.kids kk'):TmL (fun _=>True) W [t,u] (.slice (some ⟨g,0,none⟩) 2 2):=by
 refine tml_of_row' (base:=0) (E:=[(t,tk,kk),(u,tk',kk')]) ⟨rfl,.inr ⟨g,2,_,rfl,Nat.zero_le g,hb,Nat.le_refl 2,(by unfold maxLen;decide),rfl,rfl⟩⟩ (fun e he=>?_) (fun _ _=>trivial)
 rcases List.mem_cons.1 he with rfl | he
 ·exact⟨h1.mono (fun _ _ _=>trivial),h2.mono (fun _ _ _=>trivial)⟩
 ·rw[List.mem_singleton.1 he];exact⟨h3.mono (fun _ _ _=>trivial),h4.mono (fun _ _ _=>trivial)⟩
theorem fvAny_two (y tu:Tm) (s:ByteArray):fvAny [y,tu] s=mb s (fr y++fr tu):=by
 rw[mb_app];unfold fvAny;simp
theorem KQ.mono' {P P':Nat→Prop} {W:World} {g:Nat} {l:List Tm} (h:KQ P W g l) (hm:∀ q,q<W.heap.size→P q→P' q):KQ P' W g l:=by
 obtain⟨L,K,M,bG,hL,hR⟩:=h.row
 refine⟨⟨L,K,M,bG,hL,fun i hi=>?_⟩⟩
 obtain⟨e0,e1,e2,e3,e4,e5,e6,e7,e8⟩:=hR i hi
 exact⟨e0,e1,e2,e3,e4,e5,e6,e7.mono hm,e8.mono hm⟩
structure WKY (Y:Nat) (w:World) (b R X g:Nat) (rc:Nat→List Value) (ca:List Value) (oc:ByteArray→List Value) (tt:Ty) (tv:Value) (n:Nat) (c:ByteArray→Nat) (cnt:Nat) (z:ByteArray) (l:List Tm) (W:World):Prop extends WK w b R X g rc ca oc tt tv n c cnt z l W where
 tyY:TyL (fun q=>(w.heap.size+2≤q∧q≠g∧q≠X)∧q≠Y) W tt.kids tv
 rowY:KQ (fun q=>(w.heap.size+2≤q∧q≠g∧q≠X)∧q≠Y) W g l
section
variable {Y:Nat} {w W W':World} {b R X g:Nat} {rc:Nat→List Value} {ca:List Value} {oc:ByteArray→List Value} {ty:Ty} {tv:Value} {n:Nat} {c:ByteArray→Nat} {cnt:Nat} {z:ByteArray} {l:List Tm}
theorem WKY.start (h:WK w b R X g rc ca oc ty tv n c cnt z l W) (hY:W.heap.size=Y) (k:Kept (fun _=>False) W W'):WKY Y w b R X g rc ca oc ty tv n c cnt z l W':=
 ⟨h.kept k,(h.ty.mono (ok':=fun q=>(w.heap.size+2≤q∧q≠g∧q≠X)∧q≠Y) (fun q hq hh=>⟨hh,by omega⟩)).frame (sK k),(h.row.mono' (P':=fun q=>(w.heap.size+2≤q∧q≠g∧q≠X)∧q≠Y) (fun q hq hh=>⟨hh,by omega⟩)).kept k (fun e=>e) (fun _ _ e=>e)⟩
theorem WKY.kept (h:WKY Y w b R X g rc ca oc ty tv n c cnt z l W) (k:Kept (fun _=>False) W W'):WKY Y w b R X g rc ca oc ty tv n c cnt z l W':=
 ⟨h.toWK.kept k,h.tyY.frame (sK k),h.rowY.kept k (fun e=>e) (fun _ _ e=>e)⟩
theorem WKY.step {n' cnt':Nat} {c':ByteArray→Nat} (h:WKY Y w b R X g rc ca oc ty tv n c cnt z l W) (k:Kept (fun q=>q=b∨q=R) W W') (hm:∃ f,MapF W' b n' f∧CntF f c') (hr:Blk W' R 93 (rc cnt')):WKY Y w b R X g rc ca oc ty tv n' c' cnt' z l W':=by
 obtain⟨h1,h2,h3,h4,h5⟩:=h.ne
 exact⟨h.toWK.step k hm hr,h.tyY.frame (Same.of_kept k (fun _ _ e=>by omega)),h.rowY.kept k (fun e=>by omega) (fun _ _ e=>by omega)⟩
theorem WKY.stepB {n':Nat} {c':ByteArray→Nat} (hbR:b≠R) (h:WKY Y w b R X g rc ca oc ty tv n c cnt z l W) (k:Kept (fun q=>q=b) W W') (hm:∃ f,MapF W' b n' f∧CntF f c'):WKY Y w b R X g rc ca oc ty tv n' c' cnt z l W':=
 h.step (k.mono (fun _ _ e=>Or.inl e)) hm (h.rp.kept k (fun e=>hbR e.symm))
theorem WKY.name (h:WKY Y w b R X g rc ca oc ty tv n c cnt z l W) (s:ByteArray) (ho:(oc z).set 1 (.string s)=oc s):WKY Y w b R X g rc ca oc ty tv n c cnt s l (W.setCell ⟨X,1,none⟩ (.string s)):=by
 have k:Kept (fun q=>q=X) W (W.setCell ⟨X,1,none⟩ (.string s)):=(Kept.refl (fun q=>q=X) W).setCell (p:=⟨X,1,none⟩) (Or.inl rfl) _
 obtain⟨n1,n2,n3,n4,n5⟩:=h.ne
 exact⟨h.toWK.name s ho,h.tyY.frame (Same.of_kept k (fun q hq e=>hq.1.2.2 e)),h.rowY.kept k (fun e=>by omega) (fun q hq e=>hq.1.2.2 e)⟩
theorem WKY.box (h:WKY Y w b R X g rc ca oc ty tv n c cnt z l W) (k:Kept (fun q=>q=Y) W W') (hY:w.heap.size+2≤Y∧X<Y∧g<Y):WK w b R X g rc ca oc ty tv n c cnt z l W':=by
 obtain⟨n1,n2,n3,n4,n5⟩:=h.ne
 obtain⟨f,h2,h3⟩:=h.bo
 exact⟨h.kp.via1 k (fun x hx e=>by omega),⟨f,h2.kept k (fun e=>by omega),h3⟩,h.rp.kept k (fun e=>by omega),h.a.kept k (fun e=>by omega),h.r.kept k (fun e=>by omega),h.o.kept k (fun e=>by omega),h.ne,(h.tyY.frame (Same.of_kept k (fun q hq e=>hq.2 e))).mono (fun q _ hq=>hq.1),(h.rowY.kept k (fun e=>by omega) (fun q hq e=>hq.2 e)).mono' (fun q _ hq=>hq.1)⟩
end
end Go.Proofs.YtfhedienjnfdcaaGreatDoor
