/- A part. -/
import Derived.Test.YtdmebjbkccjhbaaGreatDoorU14
import Derived.Laws.MakeOwn
set_option linter.unusedVariables false
set_option linter.unusedSimpArgs false
set_option maxRecDepth 100000
set_option maxHeartbeats 32000000
namespace Go.Proofs.YtdmebjbkccjhbaaGreatDoor
open Go.RowKit
variable {bz:Nat}
def SgOk (σ:ByteArray→Option Tm):Prop:=∀ s u,σ s=some u→OkTm u∧tmN u≤2000∧tmD u≤2000
def PsC (bz:Nat) (t:Tm):Prop:=∀ (l:List (ByteArray×Tm)) (σ:ByteArray→Option Tm) (w:World) (ok okm:Nat→Prop) (tk kk:Value) (b n:Nat),(∀ s,look l s=σ s)→SgOk σ→TyL bz ok w t.ty.kids tk→TmL bz ok w t.kids kk→PrM bz okm w b n σ→P10 w→n+tmD t≤300→tmN t≤100000 →
 Calls Tryz.prog 101 #[.map (some b),tmVal t tk kk] w (PutP bz (subT freshS t l) w)
theorem z28 (w:World):(zeroValue 27).run Tryz.prog w=.ok (.agg #[.int .i64 0,.string ⟨#[]⟩,.int .i64 0,.int .i64 0,.string ⟨#[]⟩,.slice none 0 0,.slice none 0 0]) w:=Tryz.zeroValue27 w
theorem keys_box (p:Nat) (W:World):Calls Tryz.prog 43 #[.map (some p)] W fun e w'=>∃ X,e=.returned (.func (.func 90) #[] #[.pointer (some ⟨X,0,none⟩)])∧X<w'.heap.size∧w'.cell? ⟨X,0,none⟩=some (.map (some p))∧Kept (fun _=>False) W w':=by
 refine (keys_any (some p) W).mono ?_
 rintro e w' ⟨rfl,rfl⟩
 have h:=Blk.new W 69 [Value.map (some p)]
 exact⟨_,rfl,h.lt,h.cell 0,kR.alloc _⟩
theorem tml_one {ok:Nat→Prop} {W:World} {g:Nat} {t:Tm} {tk kk:Value} (hb:Blk W g 27 (tmCells t tk kk)) (h1:TyL bz ok W t.ty.kids tk) (h2:TmL bz ok W t.kids kk):TmL bz (fun _=>True) W [t] (.slice (some ⟨g,0,none⟩) 1 1):=
 tml_of_row' (E:=[(t,tk,kk)]) (own_one hb (Nat.zero_le g)) (fun e he=>by rw[List.mem_singleton.1 he];exact⟨h1.mono (fun _ _ _=>trivial),h2.mono (fun _ _ _=>trivial)⟩) (fun _ _=>trivial)
structure SK (bz:Nat) (w:World) (ca:List Value) (op:Int) (nm:ByteArray) (N:Int) (ty:Ty) (tv:Value) (g n:Nat) (R:Nat→Option Tm) (W:World):Prop where
 kp:Kept (fun _=>False) w W
 a:Blk W w.heap.size 27 ca
 r:Blk W (w.heap.size+1) 27 z27
 o:Blk W (w.heap.size+2) 27 [.int .i64 op,.string nm,.int .i64 N,.int .i64 ty.kind,.string ty.name,tv,.slice (some ⟨g,0,none⟩) n n]
 ho:w.heap.size+3≤g
 ty:TyL bz (fun q=>w.heap.size+3≤q∧q≠g) W ty.kids tv
 row:KP bz W (w.heap.size+3) g n R
section
variable {w W W':World} {ca:List Value} {op:Int} {nm:ByteArray} {N:Int} {ty:Ty} {tv:Value} {g n:Nat} {R:Nat→Option Tm}
theorem SK.kept (h:SK bz w ca op nm N ty tv g n R W) (k:Kept (fun _=>False) W W'):SK bz w ca op nm N ty tv g n R W':=
 ⟨h.kp.trans k,h.a.kept k (fun e=>e),h.r.kept k (fun e=>e),h.o.kept k (fun e=>e),h.ho,h.ty.frame (sK k),h.row.kept k (fun e=>e) (fun _ _ _ e=>e)⟩
theorem SK.keptG (h:SK bz w ca op nm N ty tv g n R W) (k:Kept (fun q=>q=g) W W') {R':Nat→Option Tm} (hr:KP bz W' (w.heap.size+3) g n R'):SK bz w ca op nm N ty tv g n R' W':=
 ⟨h.kp.via1 k (fun x hx e=>by have:=h.ho;omega),h.a.kept k (fun e=>by have:=h.ho;omega),h.r.kept k (fun e=>by have:=h.ho;omega),h.o.kept k (fun e=>by have:=h.ho;omega),h.ho,h.ty.frame (Same.of_kept k (fun q hq e=>hq.2 e)),hr⟩
theorem k7g {i0 i1 i2 i3 i4 i5 i6:Nat} {x0 x1 x2 x3 x4 x5 x6:Value}:Kept (fun q=>q=g) W (((((((W.setCell ⟨g,i0,none⟩ x0).setCell ⟨g,i1,none⟩ x1).setCell ⟨g,i2,none⟩ x2).setCell ⟨g,i3,none⟩ x3).setCell ⟨g,i4,none⟩ x4).setCell ⟨g,i5,none⟩ x5).setCell ⟨g,i6,none⟩ x6):=
 (((((((Kept.refl (fun q=>q=g) W).setCell (p:=⟨g,i0,none⟩) (Or.inl rfl) _).setCell (p:=⟨g,i1,none⟩) (Or.inl rfl) _).setCell (p:=⟨g,i2,none⟩) (Or.inl rfl) _).setCell (p:=⟨g,i3,none⟩) (Or.inl rfl) _).setCell (p:=⟨g,i4,none⟩) (Or.inl rfl) _).setCell (p:=⟨g,i5,none⟩) (Or.inl rfl) _).setCell (p:=⟨g,i6,none⟩) (Or.inl rfl) _
theorem SK.lay {j:Nat} (h:SK bz w ca op nm N ty tv g n (fun _=>none) W) (hj:j<n) (x0 x1 x2 x3 x4 x5 x6:Value) (W3:World)
  (hW:W3=((((((W.setCell ⟨g,j*7,none⟩ x0).setCell ⟨g,j*7+1,none⟩ x1).setCell ⟨g,j*7+2,none⟩ x2).setCell ⟨g,j*7+3,none⟩ x3).setCell ⟨g,j*7+4,none⟩ x4).setCell ⟨g,j*7+5,none⟩ x5).setCell ⟨g,j*7+6,none⟩ x6):SK bz w ca op nm N ty tv g n (fun _=>none) W3:=by
 have h1:=h.row.lay hj x0 x1 x2 x3 x4 x5 x6 W3 hW
 subst hW
 exact h.keptG k7g h1
theorem SK.put {j:Nat} {u:Tm} {v x:Value} (h:SK bz w ca op nm N ty tv g n R W) (hj:j<n) (hv:TyL bz (fun q=>w.heap.size+3≤q∧q≠g) W u.ty.kids v) (hx:TmL bz (fun q=>w.heap.size+3≤q∧q≠g) W u.kids x) (W3:World)
  (hW:W3=((((((W.setCell ⟨g,j*7,none⟩ (.int .i64 u.op)).setCell ⟨g,j*7+1,none⟩ (.string u.name)).setCell ⟨g,j*7+2,none⟩ (.int .i64 u.n)).setCell ⟨g,j*7+3,none⟩ (.int .i64 u.ty.kind)).setCell ⟨g,j*7+4,none⟩ (.string u.ty.name)).setCell ⟨g,j*7+5,none⟩ v).setCell ⟨g,j*7+6,none⟩ x):SK bz w ca op nm N ty tv g n (fun i=>if i=j then some u else R i) W3:=by
 have h1:=h.row.put hj hv hx W3 hW
 subst hW
 exact h.keptG k7g h1
theorem SK.name (h:SK bz w ca op nm N ty tv g n R W) (s:ByteArray):SK bz w ca op s N ty tv g n R (W.setCell ⟨w.heap.size+2,1,none⟩ (.string s)):=by
 have kS:Kept (fun q=>q=w.heap.size+2) W (W.setCell ⟨w.heap.size+2,1,none⟩ (.string s)):=(Kept.refl (fun q=>q=w.heap.size+2) W).setCell (p:=⟨w.heap.size+2,1,none⟩) (Or.inl rfl) _
 have:=h.ho
 exact⟨h.kp.via1 kS (fun x hx e=>by omega),h.a.kept kS (fun e=>by omega),h.r.kept kS (fun e=>by omega),h.o.set 1 (.string s),h.ho,h.ty.frame (Same.of_kept kS (fun q hq e=>by omega)),h.row.kept kS (fun e=>by omega) (fun q hq _ e=>by omega)⟩
theorem SK.done {va:Option Addr} {vn vc:Nat} {rs:List Tm} (h:SK bz w ca op nm N ty (.slice va vn vc) g n R W) (hn:rs.length=n) (hR:∀ i (hi:i<rs.length),R i=some rs[i]) {x0 x1 x2 x3 x4 x5 x6:Value} {i0 i1 i2 i3 i4 i5 i6:Nat}:
  TyL bz (fun q=>w.heap.size≤q) (((((((W.setCell ⟨w.heap.size+1,i0,none⟩ x0).setCell ⟨w.heap.size+1,i1,none⟩ x1).setCell ⟨w.heap.size+1,i2,none⟩ x2).setCell ⟨w.heap.size+1,i3,none⟩ x3).setCell ⟨w.heap.size+1,i4,none⟩ x4).setCell ⟨w.heap.size+1,i5,none⟩ x5).setCell ⟨w.heap.size+1,i6,none⟩ x6) ty.kids (.slice va vn vc) ∧
  TmL bz (fun q=>w.heap.size≤q) (((((((W.setCell ⟨w.heap.size+1,i0,none⟩ x0).setCell ⟨w.heap.size+1,i1,none⟩ x1).setCell ⟨w.heap.size+1,i2,none⟩ x2).setCell ⟨w.heap.size+1,i3,none⟩ x3).setCell ⟨w.heap.size+1,i4,none⟩ x4).setCell ⟨w.heap.size+1,i5,none⟩ x5).setCell ⟨w.heap.size+1,i6,none⟩ x6) rs (.slice (some ⟨g,0,none⟩) n n) ∧
  Kept (fun _=>False) w (((((((W.setCell ⟨w.heap.size+1,i0,none⟩ x0).setCell ⟨w.heap.size+1,i1,none⟩ x1).setCell ⟨w.heap.size+1,i2,none⟩ x2).setCell ⟨w.heap.size+1,i3,none⟩ x3).setCell ⟨w.heap.size+1,i4,none⟩ x4).setCell ⟨w.heap.size+1,i5,none⟩ x5).setCell ⟨w.heap.size+1,i6,none⟩ x6):=by
 subst hn
 have h1:=(h.row.krow hR).tml h.ho (Nat.le_refl _)
 refine⟨(h.ty.frame (set7 (fun q hq=>by omega))).mono (fun q _ hq=>by omega),(h1.frame (set7 (fun q hq=>by omega))).mono (fun q _ hq=>by omega),?_⟩
 exact ((((((h.kp.setCell (p:=⟨w.heap.size+1,i0,none⟩) (Or.inr (Nat.le_succ _)) _).setCell (p:=⟨w.heap.size+1,i1,none⟩) (Or.inr (Nat.le_succ _)) _).setCell (p:=⟨w.heap.size+1,i2,none⟩) (Or.inr (Nat.le_succ _)) _).setCell (p:=⟨w.heap.size+1,i3,none⟩) (Or.inr (Nat.le_succ _)) _).setCell (p:=⟨w.heap.size+1,i4,none⟩) (Or.inr (Nat.le_succ _)) _).setCell (p:=⟨w.heap.size+1,i5,none⟩) (Or.inr (Nat.le_succ _)) _).setCell (p:=⟨w.heap.size+1,i6,none⟩) (Or.inr (Nat.le_succ _)) _
end
theorem subK_get {l inn:List (ByteArray×Tm)}:∀ {ks:List Tm} (i j:Nat) (hi:i<ks.length),(subK freshS false l inn j ks)[i]?=some (subT freshS ks[i] l)
 | t::ks,0,j,_=>by rw[subK];rfl
 | t::ks,i+1,j,h=>by
  rw[subK,List.getElem?_cons_succ,List.getElem_cons_succ]
  exact subK_get i (j+1) (by simpa using h)
theorem psub_one {op:Int} {nm:ByteArray} {N:Int} {ty:Ty} {ks:List Tm} (hok:OkTm (.mk op nm N ty ks)) (IH:∀ u,u∈ks→PsC bz u):PsC bz (.mk op nm N ty ks):=by
 intro l σ w ok okm tk kk b n hl hσ h1 h2 hm hp hn hN
 have h1:TyL bz ok w ty.kids tk:=h1
 have h2:TmL bz ok w ks kk:=h2
 obtain⟨a,an,ac,rfl⟩:=h1.slice
 obtain⟨ma,mn,mc,rfl⟩:=h2.slice
 have hlen:mn=ks.length:=h2.len
 change Calls Tryz.prog 101 #[.map (some b),.agg #[.int .i64 op,.string nm,.int .i64 N,.int .i64 ty.kind,.string ty.name,.slice a an ac,.slice ma mn mc]] w _
 have HMN:=Ld hlen
 have HCL:=Ld (fun W (k:Kept (fun _=>False) w W)=>clone_any (ok_bd hok) W ok (.slice a an ac) (.slice ma mn mc) (show TyL bz ok W ty.kids _ from h1.frame (sK k)) (show TmL bz ok W ks _ from h2.frame (sK k)))
 unfold ClP tmVal at HCL
 have bA:Blk ((w.alloc (.cells #[.int .i64 op,.string nm,.int .i64 N,.int .i64 ty.kind,.string ty.name,.slice a an ac,.slice ma mn mc] 27)).alloc Z7) w.heap.size 27 [Value.int .i64 op,.string nm,.int .i64 N,.int .i64 ty.kind,.string ty.name,.slice a an ac,.slice ma mn mc]:=(Blk.new w 27 _).alloc _
 have bR:Blk ((w.alloc (.cells #[.int .i64 op,.string nm,.int .i64 N,.int .i64 ty.kind,.string ty.name,.slice a an ac,.slice ma mn mc] 27)).alloc Z7) (w.heap.size+1) 27 z27:=Blk.new' 27 _ (by simp)
 have K0:Kept (fun _=>False) w ((w.alloc (.cells #[.int .i64 op,.string nm,.int .i64 N,.int .i64 ty.kind,.string ty.name,.slice a an ac,.slice ma mn mc] 27)).alloc Z7):=(kR.alloc _).alloc _
 have HOK:=Ld hok
 have HIH:=Ld IH
 have HTY:=Ld (fun W (k:Kept (fun _=>False) w W)=>h1.frame (sK k))
 have HTM:=Ld (fun W (k:Kept (fun _=>False) w W)=>h2.frame (sK k))
 have HLK:=Ld hl
 have HSG:=Ld hσ
 have HPM:Hid (PrM bz (fun q=>q<w.heap.size) w b n σ):=Ld (by obtain⟨f,hf,hv⟩:=hm;exact⟨f,hf,hv.mono (fun q hq _=>hq)⟩)
 have HP:=Ld hp
 have HND:Hid (n+tmD (.mk op nm N ty ks)≤300∧tmN (.mk op nm N ty ks)≤100000):=Ld ⟨hn,hN⟩
 have HNZ:Hid (nm.size≤maxLen):=Ld (by have:=ok_name hok;unfold maxLen;omega)
 have HBL:Hid (b<w.heap.size):=Ld (by obtain⟨f,hf,_⟩:=hm;exact hf.lt)
 clear h1 h2 hl hσ hm hp hn hN hlen hok IH
 obtain⟨res,hres⟩:∃ res,res=subT freshS (.mk op nm N ty ks) l:=⟨_,rfl⟩
 rw[← hres]
 have HRE:=Ld hres
 clear hres
 go_enter Tryz.func101,Tryz.ntmps101
 go_upto_region 1 with (fail)
 refine wp_gen (F:=fun W3=>Kept (fun _=>False) w W3∧W3.heap.size=w.heap.size+2∧Blk W3 w.heap.size 27 [Value.int .i64 op,.string nm,.int .i64 N,.int .i64 ty.kind,.string ty.name,.slice a an ac,.slice ma mn mc]∧Blk W3 (w.heap.size+1) 27 z27) ⟨K0,by simp,bA,bR⟩ ?_
 clear K0 bA bR
 rintro w1 ⟨K1,z1,bA,bR⟩
 have HK1:=Ld K1
 have HA:=Ld bA
 have HR:=Ld bR
 have HZ1:=Ld z1
 have HPM1:Hid (PrM bz (fun q=>q<w.heap.size) w1 b n σ):=Ld (HPM.out.kept K1 (fun e=>e) (fun _ _ e=>e))
 obtain⟨f,hf,hv⟩:=HPM1.out
 obtain⟨m0,hm0,hm1,hm2⟩:=hf.isEmpty Tryz.underlying77 3
 have HM2:=Ld hm2
 have HV:=Ld hv
 have HF:=Ld hf
 clear K1 bA bR z1 hm2 hv hf
 have gA:=HA.out.cell
 by_cases h0:m0=0
 ·have HEM:Hid (res=.mk op nm N ty ks):=Ld (by
   have hl0:l=[]:=look_none (fun s=>by
    rw[HLK.out]
    have h1:=PrM.some_iff HV.out s
    cases hs:σ s with
    | none=>rfl
    | some u=>
     rw[hs] at h1
     rw[HM2.out.1 h0 s (HF.out.small h1)] at h1
     cases h1)
   rw[HRE.out,hl0,sub_nil])
  have hm3:((m0:Int)==0)=true:=by simp[h0]
  have HC:=Ld (HCL.out w1 HK1.out)
  clear h0 HRE HCL
  go_wp2_with fail
  clear gA
  refine HC.out.mono ?_
  rintro e w2 ⟨tk2,kk2,rfl,hty2,htm2,k2⟩
  obtain⟨pa,pn,pc,rfl⟩:=hty2.slice
  obtain⟨qa,qn,qc,rfl⟩:=htm2.slice
  have BR2:=Ld (HR.out.kept k2 (fun h=>h))
  have KK2:=Ld (HK1.out.trans k2)
  have T2:=Ld hty2
  have M2:=Ld htm2
  have LZ:Hid (w.heap.size+2≤w1.heap.size):=Ld (by have:=HZ1.out;omega)
  have lR:=BR2.out.lt
  have gR:∀ i,w2.cell? ⟨w.heap.size+1,i,none⟩=[Value.int .i64 0,.string ⟨#[]⟩,.int .i64 0,.int .i64 0,.string ⟨#[]⟩,.slice none 0 0,.slice none 0 0][i]?:=BR2.out.cell
  have fR:=BR2.out.frozen
  clear hty2 htm2 k2 HC
  go_wp2_with fail
  exact bodyPost_ret (results_one Tryz.results101 rfl (load_tm (t:=.mk op nm N ty ks) (r7 BR2.out rfl))) rfl ⟨_,_,by rw[HEM.out],by rw[HEM.out];exact (T2.out.frame (set7 (fun q hq=>by have:=LZ.out;omega))).mono (fun q _ hq=>by have:=LZ.out;omega),by rw[HEM.out];exact (M2.out.frame (set7 (fun q hq=>by have:=LZ.out;omega))).mono (fun q _ hq=>by have:=LZ.out;omega),k7w KK2.out (Or.inr (Nat.le_succ _))⟩
 ·have hm3:((m0:Int)==0)=false:=by simp;exact h0
  clear h0 HM2
  by_cases ho:op=20
  ·subst ho
   have hlk:=HF.out.look_ok Tryz.underlying77 (z28 _) HNZ.out
   go_upto_region 4 with (fail)
   clear hm3
   cases hs:f nm with
   | none=>
    have HEM:Hid (res=.mk 20 nm N ty ks):=Ld (by
     have h1:=PrM.some_iff HV.out nm
     rw[hs] at h1
     have h2:σ nm=none:=by cases h:σ nm with
      | none=>rfl
      | some u=>rw[h] at h1;cases h1
     rw[HRE.out,subT,if_pos rfl,HLK.out,h2])
    rw[hs] at hlk
    change _=Result.ok (Value.tuple #[.agg #[.int .i64 0,.string ⟨#[]⟩,.int .i64 0,.int .i64 0,.string ⟨#[]⟩,.slice none 0 0,.slice none 0 0],.bool false]) w1 at hlk
    clear HRE hs
    go_upto_region 7 with (fail)
    clear hlk
    have KZ:Hid (Kept (fun _=>False) w1 (w1.alloc Z7)):=Ld (kR.alloc _)
    have ZZ:Hid ((w1.alloc Z7).heap.size=w1.heap.size+1):=Ld (World.size_alloc _ _)
    generalize w1.alloc Z7=w1' at *
    have HC:=Ld (HCL.out w1' (HK1.out.trans KZ.out))
    have HA2:=Ld (HA.out.kept KZ.out (fun e=>e))
    have HR2:=Ld (HR.out.kept KZ.out (fun e=>e))
    clear gA HCL
    have gA:=HA2.out.cell
    go_wp2_with fail
    clear gA
    refine HC.out.mono ?_
    rintro e w2 ⟨tk2,kk2,rfl,hty2,htm2,k2⟩
    obtain⟨pa,pn,pc,rfl⟩:=hty2.slice
    obtain⟨qa,qn,qc,rfl⟩:=htm2.slice
    have BR2:=Ld (HR2.out.kept k2 (fun h=>h))
    have KK2:=Ld ((HK1.out.trans KZ.out).trans k2)
    have T2:=Ld hty2
    have M2:=Ld htm2
    have LZ:Hid (w.heap.size+2≤w1'.heap.size):=Ld (by have:=HZ1.out;have:=ZZ.out;omega)
    have lR:=BR2.out.lt
    have gR:∀ i,w2.cell? ⟨w.heap.size+1,i,none⟩=[Value.int .i64 0,.string ⟨#[]⟩,.int .i64 0,.int .i64 0,.string ⟨#[]⟩,.slice none 0 0,.slice none 0 0][i]?:=BR2.out.cell
    have fR:=BR2.out.frozen
    clear hty2 htm2 k2 HC
    go_wp2_with fail
    exact bodyPost_ret (results_one Tryz.results101 rfl (load_tm (t:=.mk 20 nm N ty ks) (r7 BR2.out rfl))) rfl ⟨_,_,by rw[HEM.out],by rw[HEM.out];exact (T2.out.frame (set7 (fun q hq=>by have:=LZ.out;omega))).mono (fun q _ hq=>by have:=LZ.out;omega),by rw[HEM.out];exact (M2.out.frame (set7 (fun q hq=>by have:=LZ.out;omega))).mono (fun q _ hq=>by have:=LZ.out;omega),k7w KK2.out (Or.inr (Nat.le_succ _))⟩
   | some v=>
    obtain⟨u,ta,tn,tc,pa0,pn0,pc0,hu,rfl,hty,htm⟩:=HV.out.at hs
    have HEM:Hid (res=u):=Ld (by rw[HRE.out,subT,if_pos rfl,HLK.out,hu])
    rw[hs] at hlk
    change _=Result.ok (Value.tuple #[.agg #[.int .i64 u.op,.string u.name,.int .i64 u.n,.int .i64 u.ty.kind,.string u.ty.name,.slice ta tn tc,.slice pa0 pn0 pc0],.bool true]) w1 at hlk
    have HU:=Ld (HSG.out nm u hu)
    have HUT:=Ld hty
    have HUM:=Ld htm
    clear HRE hs hu hty htm
    go_upto_region 6 with (fail)
    clear hlk
    have KZ:Hid (Kept (fun _=>False) w1 (w1.alloc (.cells #[.int .i64 u.op,.string u.name,.int .i64 u.n,.int .i64 u.ty.kind,.string u.ty.name,.slice ta tn tc,.slice pa0 pn0 pc0] 27))):=Ld (kR.alloc _)
    have ZZ:Hid ((w1.alloc (.cells #[.int .i64 u.op,.string u.name,.int .i64 u.n,.int .i64 u.ty.kind,.string u.ty.name,.slice ta tn tc,.slice pa0 pn0 pc0] 27)).heap.size=w1.heap.size+1):=Ld (World.size_alloc _ _)
    have bU:Hid (Blk (w1.alloc (.cells #[.int .i64 u.op,.string u.name,.int .i64 u.n,.int .i64 u.ty.kind,.string u.ty.name,.slice ta tn tc,.slice pa0 pn0 pc0] 27)) w1.heap.size 27 [.int .i64 u.op,.string u.name,.int .i64 u.n,.int .i64 u.ty.kind,.string u.ty.name,.slice ta tn tc,.slice pa0 pn0 pc0]):=Ld (Blk.new w1 27 _)
    generalize w1.alloc (.cells #[.int .i64 u.op,.string u.name,.int .i64 u.n,.int .i64 u.ty.kind,.string u.ty.name,.slice ta tn tc,.slice pa0 pn0 pc0] 27)=w1' at *
    have HC:=Ld (clone_any (ok_bd HU.out.1) w1' _ _ _ (HUT.out.frame (sK KZ.out)) (HUM.out.frame (sK KZ.out)))
    unfold ClP tmVal at HC
    have HR2:=Ld (HR.out.kept KZ.out (fun e=>e))
    clear gA HCL
    have gU:=bU.out.cell
    go_wp2_with fail
    clear gU
    refine HC.out.mono ?_
    rintro e w2 ⟨tk2,kk2,rfl,hty2,htm2,k2⟩
    obtain⟨pa,pn,pc,rfl⟩:=hty2.slice
    obtain⟨qa,qn,qc,rfl⟩:=htm2.slice
    have BR2:=Ld (HR2.out.kept k2 (fun h=>h))
    have KK2:=Ld ((HK1.out.trans KZ.out).trans k2)
    have T2:=Ld hty2
    have M2:=Ld htm2
    have LZ:Hid (w.heap.size+2≤w1'.heap.size):=Ld (by have:=HZ1.out;have:=ZZ.out;omega)
    have lR:=BR2.out.lt
    have gR:∀ i,w2.cell? ⟨w.heap.size+1,i,none⟩=[Value.int .i64 0,.string ⟨#[]⟩,.int .i64 0,.int .i64 0,.string ⟨#[]⟩,.slice none 0 0,.slice none 0 0][i]?:=BR2.out.cell
    have fR:=BR2.out.frozen
    clear hty2 htm2 k2 HC
    go_wp2_with fail
    exact bodyPost_ret (results_one Tryz.results101 rfl (load_tm (t:=u) (r7 BR2.out rfl))) rfl ⟨_,_,by rw[HEM.out],by rw[HEM.out];exact (T2.out.frame (set7 (fun q hq=>by have:=LZ.out;omega))).mono (fun q _ hq=>by have:=LZ.out;omega),by rw[HEM.out];exact (M2.out.frame (set7 (fun q hq=>by have:=LZ.out;omega))).mono (fun q _ hq=>by have:=LZ.out;omega),k7w KK2.out (Or.inr (Nat.le_succ _))⟩
  ·have ho1:(op==20)=false:=by simp[ho]
   have HOP:=Ld ho
   have HBT:Hid (BdTy ty):=Ld (by have h:=ok_bd HOK.out;cases h with | mk _ ht _=>exact ht)
   have HKN:Hid (ks.length≤1000000):=Ld (by have h:=ok_bd HOK.out;cases h with | mk hn _ _=>exact hn)
   clear ho HCL
   go_upto_region 9 with (fail)
   clear hm3 ho1
   have KO:Hid (Kept (fun _=>False) w (w1.alloc (.cells #[.int .i64 op,.string nm,.int .i64 N,.int .i64 ty.kind,.string ty.name,.slice a an ac,.slice ma mn mc] 27))):=Ld (HK1.out.alloc _)
   have bO:Hid (Blk (w1.alloc (.cells #[.int .i64 op,.string nm,.int .i64 N,.int .i64 ty.kind,.string ty.name,.slice a an ac,.slice ma mn mc] 27)) w1.heap.size 27 [Value.int .i64 op,.string nm,.int .i64 N,.int .i64 ty.kind,.string ty.name,.slice a an ac,.slice ma mn mc]):=Ld (Blk.new w1 27 _)
   have bA1:Hid (Blk (w1.alloc (.cells #[.int .i64 op,.string nm,.int .i64 N,.int .i64 ty.kind,.string ty.name,.slice a an ac,.slice ma mn mc] 27)) w.heap.size 27 [Value.int .i64 op,.string nm,.int .i64 N,.int .i64 ty.kind,.string ty.name,.slice a an ac,.slice ma mn mc]):=Ld (HA.out.alloc _)
   have bR1:Hid (Blk (w1.alloc (.cells #[.int .i64 op,.string nm,.int .i64 N,.int .i64 ty.kind,.string ty.name,.slice a an ac,.slice ma mn mc] 27)) (w.heap.size+1) 27 z27):=Ld (HR.out.alloc _)
   have ZO:Hid (w1.heap.size=w.heap.size+2):=Ld HZ1.out
   rw[HZ1.out] at bO ⊢
   clear HA HR HK1 HZ1 HPM1 HV HF gA
   generalize w1.alloc (.cells #[.int .i64 op,.string nm,.int .i64 N,.int .i64 ty.kind,.string ty.name,.slice a an ac,.slice ma mn mc] 27)=w2 at *
   have gA:=bA1.out.cell
   have HCT:=Ld (copyTy_any HBT.out w2 ok _ (HTY.out w2 KO.out))
   unfold tyVal at HCT
   go_wp2_with fail
   refine HCT.out.mono ?_
   rintro e w3 ⟨tv,rfl,htv,k3⟩
   obtain⟨va,vn,vc,rfl⟩:=htv.slice
   have bA3:=Ld (bA1.out.kept k3 (fun e=>e))
   have bR3:=Ld (bR1.out.kept k3 (fun e=>e))
   have bO3:=Ld (bO.out.kept k3 (fun e=>e))
   have KK3:=Ld (KO.out.trans k3)
   have HTV:=Ld htv
   have LW2:Hid (w.heap.size+3≤w2.heap.size):=Ld bO.out.lt
   clear htv k3 HCT gA bA1 bR1 bO KO
   have gO:=bO3.out.cell
   have fO:=bO3.out.frozen
   have lO:=bO3.out.lt
   go_upto_region 10 with (fail)
   clear gO fO lO
   have K4:Hid (Kept (fun q=>q=w.heap.size+2) w3 (((w3.setCell ⟨w.heap.size+2,3,none⟩ (.int .i64 ty.kind)).setCell ⟨w.heap.size+2,4,none⟩ (.string ty.name)).setCell ⟨w.heap.size+2,5,none⟩ (.slice va vn vc))):=Ld ((((Kept.refl (fun q=>q=w.heap.size+2) w3).setCell (p:=⟨w.heap.size+2,3,none⟩) (Or.inl rfl) _).setCell (p:=⟨w.heap.size+2,4,none⟩) (Or.inl rfl) _).setCell (p:=⟨w.heap.size+2,5,none⟩) (Or.inl rfl) _)
   have bO4:Hid (Blk (((w3.setCell ⟨w.heap.size+2,3,none⟩ (.int .i64 ty.kind)).setCell ⟨w.heap.size+2,4,none⟩ (.string ty.name)).setCell ⟨w.heap.size+2,5,none⟩ (.slice va vn vc)) (w.heap.size+2) 27 [Value.int .i64 op,.string nm,.int .i64 N,.int .i64 ty.kind,.string ty.name,.slice va vn vc,.slice ma mn mc]):=Ld (((bO3.out.set 3 (.int .i64 ty.kind)).set 4 (.string ty.name)).set 5 (.slice va vn vc))
   generalize ((w3.setCell ⟨w.heap.size+2,3,none⟩ (.int .i64 ty.kind)).setCell ⟨w.heap.size+2,4,none⟩ (.string ty.name)).setCell ⟨w.heap.size+2,5,none⟩ (.slice va vn vc)=w4 at *
   have bA4:=Ld (bA3.out.kept K4.out (fun e=>by omega))
   have bR4:=Ld (bR3.out.kept K4.out (fun e=>by omega))
   have KK4:=Ld (KK3.out.via1 K4.out (fun x hx e=>by omega))
   have HTV4:Hid (TyL bz (fun q=>w.heap.size+3≤q) w4 ty.kids (.slice va vn vc)):=Ld ((HTV.out.mono (ok':=fun q=>w.heap.size+3≤q) (fun q _ hq=>by have:=LW2.out;omega)).frame (Same.of_kept K4.out (fun q hq e=>by omega)))
   have LW4:Hid (w.heap.size+3≤w4.heap.size):=Ld bO4.out.lt
   clear K4 bA3 bR3 KK3 HTV bO3 LW2
   obtain⟨i28,hi28,hz28,hs28,hb28⟩:=info_tm
   have hmk:(Instr.makeSlice 25 (.int .i64 (mn:Int)) (.int .i64 (mn:Int))).run Tryz.prog w4=.ok (.slice (some ⟨w4.heap.size,0,none⟩) mn mn) (w4.alloc (.cells (madeCells #[.int .i64 0,.string ⟨#[]⟩,.int .i64 0,.int .i64 0,.string ⟨#[]⟩,.slice none 0 0,.slice none 0 0] (mn*7)) 27)):=by
    have h1:=HMN.out
    have h2:=HKN.out
    have h3:=run_make w4 25 27 i28 _ Tryz.underlying25 hi28 hz28 .i64 .i64 (mn:Int) (mn:Int) (by omega) (Int.le_refl _) (by rw[hb28];omega) (by omega)
    rw[hs28,Int.toNat_natCast] at h3
    exact h3
   have K5:Hid (Kept (fun _=>False) w4 (w4.alloc (.cells (madeCells #[.int .i64 0,.string ⟨#[]⟩,.int .i64 0,.int .i64 0,.string ⟨#[]⟩,.slice none 0 0,.slice none 0 0] (mn*7)) 27))):=Ld (kR.alloc _)
   have bG:Hid (Blk (w4.alloc (.cells (madeCells #[.int .i64 0,.string ⟨#[]⟩,.int .i64 0,.int .i64 0,.string ⟨#[]⟩,.slice none 0 0,.slice none 0 0] (mn*7)) 27)) w4.heap.size 27 (madeCells #[Value.int .i64 0,.string ⟨#[]⟩,.int .i64 0,.int .i64 0,.string ⟨#[]⟩,.slice none 0 0,.slice none 0 0] (mn*7)).toList):=Ld (by have h:=Blk.new w4 27 (madeCells #[Value.int .i64 0,.string ⟨#[]⟩,.int .i64 0,.int .i64 0,.string ⟨#[]⟩,.slice none 0 0,.slice none 0 0] (mn*7)).toList;rwa [Array.toArray_toList] at h)
   have HG5:Hid (KP bz (w4.alloc (.cells (madeCells #[.int .i64 0,.string ⟨#[]⟩,.int .i64 0,.int .i64 0,.string ⟨#[]⟩,.slice none 0 0,.slice none 0 0] (mn*7)) 27)) (w.heap.size+3) w4.heap.size mn (fun _=>none)):=Ld ⟨⟨_,fun _=>.slice none 0 0,fun _=>.slice none 0 0,bG.out,by rw[Array.length_toList,size_madeCells],fun i hi u hu=>by cases hu⟩⟩
   have bA5:=Ld (bA4.out.kept K5.out (fun e=>e))
   have bR5:=Ld (bR4.out.kept K5.out (fun e=>e))
   have bO5:=Ld (bO4.out.kept K5.out (fun e=>e))
   have T5:=Ld ((HTV4.out.mono (ok':=fun q=>w.heap.size+3≤q∧q<w4.heap.size) (fun q h1 h2=>⟨h2,h1⟩)).frame (sK K5.out))
   have KK5:=Ld (KK4.out.trans K5.out)
   have gA:=bA4.out.cell
   have gO:=bO5.out.cell
   have fO:=bO5.out.frozen
   clear hi28 hz28 hs28 hb28
   go_upto_region 11 with (fail)
   have S6:Hid (SK bz w [Value.int .i64 op,.string nm,.int .i64 N,.int .i64 ty.kind,.string ty.name,.slice a an ac,.slice ma mn mc] op nm N ty (.slice va vn vc) w4.heap.size mn (fun _=>none) ((w4.alloc (.cells (madeCells #[.int .i64 0,.string ⟨#[]⟩,.int .i64 0,.int .i64 0,.string ⟨#[]⟩,.slice none 0 0,.slice none 0 0] (mn*7)) 27)).setCell ⟨w.heap.size+2,6,none⟩ (.slice (some ⟨w4.heap.size,0,none⟩) mn mn))):=Ld (by
    have kS:Kept (fun q=>q=w.heap.size+2) (w4.alloc (.cells (madeCells #[.int .i64 0,.string ⟨#[]⟩,.int .i64 0,.int .i64 0,.string ⟨#[]⟩,.slice none 0 0,.slice none 0 0] (mn*7)) 27)) ((w4.alloc (.cells (madeCells #[.int .i64 0,.string ⟨#[]⟩,.int .i64 0,.int .i64 0,.string ⟨#[]⟩,.slice none 0 0,.slice none 0 0] (mn*7)) 27)).setCell ⟨w.heap.size+2,6,none⟩ (.slice (some ⟨w4.heap.size,0,none⟩) mn mn)):=(Kept.refl (fun q=>q=w.heap.size+2) _).setCell (p:=⟨w.heap.size+2,6,none⟩) (Or.inl rfl) _
    have hL:=LW4.out
    exact⟨KK5.out.via1 kS (fun x hx e=>by omega),bA5.out.kept kS (fun e=>by omega),bR5.out.kept kS (fun e=>by omega),bO5.out.set 6 _,hL,(T5.out.mono (fun q _ h=>⟨h.1,by omega⟩)).frame (Same.of_kept kS (fun q hq e=>by omega)),HG5.out.kept kS (fun e=>by omega) (fun q hq _ e=>by omega)⟩)
   clear hmk gA gO fO bA4 bR4 bO4 KK4 HTV4 K5 bG HG5 bA5 bR5 bO5 T5 KK5 LW4
   generalize ((w4.alloc (.cells (madeCells #[.int .i64 0,.string ⟨#[]⟩,.int .i64 0,.int .i64 0,.string ⟨#[]⟩,.slice none 0 0,.slice none 0 0] (mn*7)) 27)).setCell ⟨w.heap.size+2,6,none⟩ (.slice (some ⟨w4.heap.size,0,none⟩) mn mn))=w6 at *
   generalize w4.heap.size=g at *
   have gA:=S6.out.a.cell
   go_wp2_with fail
   go_loopw [52] (fun i wr=>∃ k:Nat,k≤mn∧i=.int .i64 k∧SK bz w [Value.int .i64 op,.string nm,.int .i64 N,.int .i64 ty.kind,.string ty.name,.slice a an ac,.slice ma mn mc] op nm N ty (.slice va vn vc) g mn (fun _=>none) wr) (fun i _=>mn-(intOf i).toNat)
   case atStart=>exact⟨0,Nat.zero_le _,rfl,S6.out⟩
   case round=>
    obtain⟨k,hkl,rfl,hS⟩:=hrel
    have S:=Ld hS
    clear hS S6 gA
    by_cases hlt:k<mn
    ·have i1:(k:Int)<(mn:Int):=by omega
     have i2:(k:Int)<1000000:=by have:=HKN.out;have:=HMN.out;omega
     have hltk:k<ks.length:=by have:=HMN.out;omega
     obtain⟨q1,o1,ta,tn,tc,pa,pn,pc,hqa,hq1,lq,hC,hkt,hkm⟩:=(HTM.out wr S.out.kp).at k hltk
     obtain⟨c0,c1,c2,c3,c4,c5,c6⟩:=hC
     cases hqa
     clear hkt hkm hq1
     generalize ks[k]=u at *
     clear hltk
     go_upto_region 14 with (fail)
     clear c0 c1 c2 c3 c4 c5 c6
     have KR:Hid (Kept (fun _=>False) wr (wr.alloc (.cells #[.int .i64 u.op,.string u.name,.int .i64 u.n,.int .i64 u.ty.kind,.string u.ty.name,.slice ta tn tc,.slice pa pn pc] 27))):=Ld (kR.alloc _)
     have bK:Hid (Blk (wr.alloc (.cells #[.int .i64 u.op,.string u.name,.int .i64 u.n,.int .i64 u.ty.kind,.string u.ty.name,.slice ta tn tc,.slice pa pn pc] 27)) wr.heap.size 27 [.int .i64 u.op,.string u.name,.int .i64 u.n,.int .i64 u.ty.kind,.string u.ty.name,.slice ta tn tc,.slice pa pn pc]):=Ld (Blk.new wr 27 _)
     generalize wr.alloc (.cells #[.int .i64 u.op,.string u.name,.int .i64 u.n,.int .i64 u.ty.kind,.string u.ty.name,.slice ta tn tc,.slice pa pn pc] 27)=w7 at *
     have S7:=Ld (S.out.kept KR.out)
     have gK:=bK.out.cell
     have gO:=S7.out.o.cell
     have fg:=S7.out.row.frozen
     obtain⟨t0,th0⟩:=S7.out.row.there (i:=k*7) (by omega)
     obtain⟨t1,th1⟩:=S7.out.row.there (i:=k*7+1) (by omega)
     obtain⟨t2,th2⟩:=S7.out.row.there (i:=k*7+2) (by omega)
     obtain⟨t3,th3⟩:=S7.out.row.there (i:=k*7+3) (by omega)
     obtain⟨t4,th4⟩:=S7.out.row.there (i:=k*7+4) (by omega)
     obtain⟨t5,th5⟩:=S7.out.row.there (i:=k*7+5) (by omega)
     obtain⟨t6,th6⟩:=S7.out.row.there (i:=k*7+6) (by omega)
     have S8:=Ld (S7.out.lay hlt (.int .i64 u.op) (.string u.name) (.int .i64 u.n) (.int .i64 u.ty.kind) (.string u.ty.name) (.slice ta tn tc) (.slice pa pn pc) _ rfl)
     clear S KR bK
     go_wp2_with fail
     go_roundw
     case rel=>exact⟨k+1,by omega,by go_num,S8.out⟩
     case measure=>simp[intOf];omega
    ·have hexit:¬ (k:Int)<(mn:Int):=by omega
     clear hlt hkl
     have gA:=S.out.a.cell
     have HIHK:=Ld (fun (u:Tm) (hu:u∈ks) W (kW:Kept (fun _=>False) w W) (oku:Nat→Prop) (tu ku:Value) (h1:TyL bz oku W u.ty.kids tu) (h2:TmL bz oku W u.kids ku)=>HIH.out u hu l σ W oku (fun q=>q<w.heap.size) tu ku b n HLK.out HSG.out h1 h2 (HPM.out.kept kW (fun e=>e) (fun _ _ e=>e)) (HP.out.kept kW) (by have h5:=kid_dn hu;have h6:=HND.out.1;rw[tmD] at h6;omega) (by have h5:=(tmD_kid hu).2;have h6:=HND.out.2;rw[tmN] at h6;omega))
     unfold PutP tmVal at HIHK
     go_wp2_with fail
     clear hexit
     cases hbi:binderB op
     ·refine (binder_t hbi _).mono ?_
      rintro e w' ⟨rfl,rfl⟩
      have hres:Hid (res=.mk op nm N ty (subK freshS false l l 0 ks)):=Ld (by rw[HRE.out,subT,if_neg HOP.out,hbi];rfl)
      have HRS:Hid (∀ i,(hi:i<ks.length)→(subK freshS false l l 0 ks)[i]?=some (subT freshS ks[i] l)):=Ld (fun i hi=>subK_get i 0 hi)
      have HRL:Hid ((subK freshS false l l 0 ks).length=mn):=Ld (by rw[subK_len,HMN.out])
      clear hbi HRE
      generalize subK freshS false l l 0 ks=rs at *
      go_wp2_with fail
      clear gA
      go_loopw [70] (fun i wr=>∃ k:Nat,k≤mn∧i=.int .i64 k∧SK bz w [Value.int .i64 op,.string nm,.int .i64 N,.int .i64 ty.kind,.string ty.name,.slice a an ac,.slice ma mn mc] op nm N ty (.slice va vn vc) g mn (fun i=>if i<k then rs[i]? else none) wr) (fun i _=>mn-(intOf i).toNat)
      case atStart=>exact⟨0,Nat.zero_le _,rfl,by simpa using S.out⟩
      case round=>
       obtain⟨k,hkl,rfl,hS⟩:=hrel
       have S1:=Ld hS
       clear hS S
       by_cases hlt:k<mn
       ·have i1:(k:Int)<(mn:Int):=by omega
        have i2:(k:Int)<1000000:=by have:=HKN.out;have:=HMN.out;omega
        have hltk:k<ks.length:=by have:=HMN.out;omega
        obtain⟨q1,o1,ta,tn,tc,pa,pn,pc,hqa,hq1,lq,hC,hkt,hkm⟩:=(HTM.out wr S1.out.kp).at k hltk
        obtain⟨c0,c1,c2,c3,c4,c5,c6⟩:=hC
        cases hqa
        have HKC:=Ld (fun W (kW:Kept (fun _=>False) wr W)=>HIHK.out ks[k] (List.getElem_mem hltk) W (S1.out.kp.trans kW) _ _ _ (hkt.frame (sK kW)) (hkm.frame (sK kW)))
        have HRK:=Ld (HRS.out k hltk)
        clear hkt hkm hq1
        generalize subT freshS ks[k] l=r at *
        generalize ks[k]=u at *
        clear hltk
        go_upto_region 20 with (fail)
        clear c0 c1 c2 c3 c4 c5 c6
        have KR:Hid (Kept (fun _=>False) wr (wr.alloc (.cells #[.int .i64 u.op,.string u.name,.int .i64 u.n,.int .i64 u.ty.kind,.string u.ty.name,.slice ta tn tc,.slice pa pn pc] 27))):=Ld (kR.alloc _)
        have bK:Hid (Blk (wr.alloc (.cells #[.int .i64 u.op,.string u.name,.int .i64 u.n,.int .i64 u.ty.kind,.string u.ty.name,.slice ta tn tc,.slice pa pn pc] 27)) wr.heap.size 27 [.int .i64 u.op,.string u.name,.int .i64 u.n,.int .i64 u.ty.kind,.string u.ty.name,.slice ta tn tc,.slice pa pn pc]):=Ld (Blk.new wr 27 _)
        generalize wr.alloc (.cells #[.int .i64 u.op,.string u.name,.int .i64 u.n,.int .i64 u.ty.kind,.string u.ty.name,.slice ta tn tc,.slice pa pn pc] 27)=w7 at *
        have S7:=Ld (S1.out.kept KR.out)
        have x0:w7.cell? ⟨w.heap.size+2,6,none⟩=some (.slice (some ⟨g,0,none⟩) mn mn):=S7.out.o.cell 6
        have x1:w7.cell? ⟨wr.heap.size,0,none⟩=some (.int .i64 u.op):=bK.out.cell 0
        have x2:w7.cell? ⟨wr.heap.size,1,none⟩=some (.string u.name):=bK.out.cell 1
        have x3:w7.cell? ⟨wr.heap.size,2,none⟩=some (.int .i64 u.n):=bK.out.cell 2
        have x4:w7.cell? ⟨wr.heap.size,3,none⟩=some (.int .i64 u.ty.kind):=bK.out.cell 3
        have x5:w7.cell? ⟨wr.heap.size,4,none⟩=some (.string u.ty.name):=bK.out.cell 4
        have x6:w7.cell? ⟨wr.heap.size,5,none⟩=some (.slice ta tn tc):=bK.out.cell 5
        have x7:w7.cell? ⟨wr.heap.size,6,none⟩=some (.slice pa pn pc):=bK.out.cell 6
        have KD:Kept (fun _=>False) w7 (World.drew w7):=kR.drew
        have HLW:Hid (g<w7.heap.size):=Ld S7.out.row.lt
        go_region_law (first
         | (go_simp;go_at_call 101;refine (HKC.out _ (KR.out.trans KD)).mono ?_;rintro e w8 ⟨zk,zm,rfl,hzk,hzm,k8⟩;obtain⟨zka,zkn,zkc,rfl⟩:=hzk.slice;obtain⟨zma,zmn,zmc,rfl⟩:=hzm.slice;have S8:=Ld (S7.out.kept (KD.trans k8));have y0:w8.cell? ⟨w.heap.size+2,6,none⟩=some (.slice (some ⟨g,0,none⟩) mn mn):=S8.out.o.cell 6;have fg8:=S8.out.row.frozen;obtain⟨t0,th0⟩:=S8.out.row.there (i:=k*7) (by omega);obtain⟨t1,th1⟩:=S8.out.row.there (i:=k*7+1) (by omega);obtain⟨t2,th2⟩:=S8.out.row.there (i:=k*7+2) (by omega);obtain⟨t3,th3⟩:=S8.out.row.there (i:=k*7+3) (by omega);obtain⟨t4,th4⟩:=S8.out.row.there (i:=k*7+4) (by omega);obtain⟨t5,th5⟩:=S8.out.row.there (i:=k*7+5) (by omega);obtain⟨t6,th6⟩:=S8.out.row.there (i:=k*7+6) (by omega);have S9:=Ld (SK.put S8.out hlt (hzk.mono (fun q _ hq=>⟨by have h5:w7.heap.size≤q:=hq;have:=HLW.out;have:=S7.out.ho;omega,by have h5:w7.heap.size≤q:=hq;have:=HLW.out;omega⟩)) (hzm.mono (fun q _ hq=>⟨by have h5:w7.heap.size≤q:=hq;have:=HLW.out;have:=S7.out.ho;omega,by have h5:w7.heap.size≤q:=hq;have:=HLW.out;omega⟩)) _ rfl);clear hzk hzm k8))
        all_goals
         clear x0 x1 x2 x3 x4 x5 x6 x7 y0 fg8 th0 th1 th2 th3 th4 th5 th6 S8 S7 S1 bK KR KD HLW
         generalize ((((((w8.setCell ⟨g,k*7,none⟩ (.int .i64 r.op)).setCell ⟨g,k*7+1,none⟩ (.string r.name)).setCell ⟨g,k*7+2,none⟩ (.int .i64 r.n)).setCell ⟨g,k*7+3,none⟩ (.int .i64 r.ty.kind)).setCell ⟨g,k*7+4,none⟩ (.string r.ty.name)).setCell ⟨g,k*7+5,none⟩ (.slice zka zkn zkc)).setCell ⟨g,k*7+6,none⟩ (.slice zma zmn zmc)=w9 at *
         have S10:Hid (SK bz w _ op nm N ty (.slice va vn vc) g mn (fun i=>if i<k+1 then rs[i]? else none) w9):=Ld (by
          have e:(fun i=>if i=k then some r else if i<k then rs[i]? else none)=fun i=>if i<k+1 then rs[i]? else none:=by
           funext i
           by_cases hik:i=k
           ·subst hik;rw[if_pos rfl,if_pos (by omega)];exact HRK.out.symm
           ·rw[if_neg hik]
            by_cases hlk:i<k
            ·rw[if_pos hlk,if_pos (by omega)]
            ·rw[if_neg hlk,if_neg (by omega)]
          rw[← e];exact S9.out)
         clear S9
         go_wp2_with fail
         go_roundw
         case rel=>exact⟨k+1,by omega,by go_num,S10.out⟩
         case measure=>simp[intOf];omega
       ·have hkk:k=mn:=by omega
        subst hkk
        have hexit:¬ (k:Int)<(k:Int):=by omega
        have HDN:Hid (∀ i (hi:i<rs.length),(fun i=>if i<k then rs[i]? else none) i=some rs[i]):=Ld (fun i hi=>by show (if i<k then rs[i]? else none)=_;rw[if_pos (by rw[← HRL.out];exact hi)];exact List.getElem?_eq_getElem hi)
        have gO:=S1.out.o.cell
        have gR:∀ i,wr.cell? ⟨w.heap.size+1,i,none⟩=[Value.int .i64 0,.string ⟨#[]⟩,.int .i64 0,.int .i64 0,.string ⟨#[]⟩,.slice none 0 0,.slice none 0 0][i]?:=S1.out.r.cell
        have fR:=S1.out.r.frozen
        have lR:=S1.out.r.lt
        clear hlt hkl hexit
        go_wp2_with fail
        exact bodyPost_ret (results_one Tryz.results101 rfl (load_tm (t:=.mk op nm N ty rs) (r7 S1.out.r rfl))) rfl ⟨_,_,by rw[hres.out],by rw[hres.out];exact (S1.out.done HRL.out HDN.out).1,by rw[hres.out];exact (S1.out.done HRL.out HDN.out).2.1,(S1.out.done HRL.out HDN.out).2.2⟩
     ·refine (binder_t hbi _).mono ?_
      rintro e w' ⟨rfl,rfl⟩
      obtain⟨d,y,rfl⟩:∃ d y,ks=[d,y]:=by
       have h2:=binder_kids hbi (formed_parts HOK.out.formed).1
       match ks,h2 with
       | [d,y],_=>exact⟨d,y,rfl⟩
      obtain rfl:mn=2:=HMN.out
      have hres:Hid (res=.mk op (newN freshS nm y l) N ty [subT freshS d l,subT freshS y (inner freshS nm y l)]):=Ld (by rw[HRE.out,subT,if_neg HOP.out,hbi];simp only[if_true,subK];rfl)
      have HYK:Hid (OkTm y∧tmN y≤100000∧tmD y+1+n≤300):=Ld (by
       have h1:=HND.out
       rw[tmD,tmN] at h1
       simp only[tmDs,tmNs] at h1
       exact⟨HOK.out.kid (by simp[Tm.kids]),by omega,by omega⟩)
      obtain⟨q1,o1,ta,tn,tc,pa,pn,pc,hqa,hq1,lq,hC,hkt,hkm⟩:=(HTM.out w kR).at 0 (by simp)
      obtain⟨q1',o1',ta',tn',tc',pa',pn',pc',hqa',hq1',lq',hC',hkt',hkm'⟩:=(HTM.out w kR).at 1 (by simp)
      cases hqa
      cases hqa'
      change TyL bz ok w d.ty.kids _ at hkt
      change TmL bz ok w d.kids _ at hkm
      change TyL bz ok w y.ty.kids _ at hkt'
      change TmL bz ok w y.kids _ at hkm'
      have HKC:Hid (∀ W,Kept (fun _=>False) w W→Calls Tryz.prog 101 #[.map (some b),tmVal d (.slice ta tn tc) (.slice pa pn pc)] W (PutP bz (subT freshS d l) W)):=Ld (fun W kW=>HIHK.out d (by simp) W kW _ _ _ (hkt.frame (sK kW)) (hkm.frame (sK kW)))
      unfold PutP tmVal at HKC
      have HYT:=Ld (fun W (kW:Kept (fun _=>False) w W)=>hkt'.frame (sK kW))
      have HYM:=Ld (fun W (kW:Kept (fun _=>False) w W)=>hkm'.frame (sK kW))
      have HCY:=Ld (fun W (kW:Kept (fun _=>False) w W)=>hC'.kept kW (fun e=>e))
      obtain⟨c0,c1,c2,c3,c4,c5,c6⟩:=hC.kept S.out.kp (fun e=>e)
      rw[show o1+0*7=o1 by omega] at c0 c1 c2 c3 c4 c5 c6
      change wr.cell? _=some (.int .i64 d.op) at c0
      change wr.cell? _=some (.string d.name) at c1
      change wr.cell? _=some (.int .i64 d.n) at c2
      change wr.cell? _=some (.int .i64 d.ty.kind) at c3
      change wr.cell? _=some (.string d.ty.name) at c4
      change Hid (∀ W,Kept (fun _=>False) w W→C7 W q1 (o1+1*7) y (.slice ta' tn' tc') (.slice pa' pn' pc')) at HCY
      rw[show o1+1*7=o1+7 by omega] at HCY
      clear hkt hkm hkt' hkm' hC' hq1 hq1' lq' HRE hbi HIHK gA
      generalize subT freshS d l=r at *
      go_upto_region 23 with (fail)
      go_cut [] (fun wd=>SK bz w [Value.int .i64 op,.string nm,.int .i64 N,.int .i64 ty.kind,.string ty.name,.slice a an ac,.slice (some ⟨q1,o1,none⟩) 2 mc] op nm N ty (.slice va vn vc) g 2 (fun i=>if i=0 then some r else none) wd∧Kept (fun q=>q=g) wr wd)
      case first=>
       have x0:wr.cell? ⟨w.heap.size+2,6,none⟩=some (.slice (some ⟨g,0,none⟩) 2 2):=S.out.o.cell 6
       have x1:wr.cell? ⟨w.heap.size,6,none⟩=some (.slice (some ⟨q1,o1,none⟩) 2 mc):=S.out.a.cell 6
       have KD:Kept (fun _=>False) wr (World.drew wr):=kR.drew
       have S7:=S
       have HLW:Hid (g<wr.heap.size):=Ld S7.out.row.lt
       go_region_law (first
        | (go_simp;go_at_call 101;refine (HKC.out _ (S7.out.kp.trans KD)).mono ?_;rintro e w8 ⟨zk,zm,rfl,hzk,hzm,k8⟩;obtain⟨zka,zkn,zkc,rfl⟩:=hzk.slice;obtain⟨zma,zmn,zmc,rfl⟩:=hzm.slice;have K8:=Ld (KD.trans k8);have S8:=Ld (S7.out.kept K8.out);have y0:w8.cell? ⟨w.heap.size+2,6,none⟩=some (.slice (some ⟨g,0,none⟩) 2 2):=S8.out.o.cell 6;have fg8:=S8.out.row.frozen;obtain⟨t0,th0⟩:=S8.out.row.there (i:=0) (by omega);obtain⟨t1,th1⟩:=S8.out.row.there (i:=1) (by omega);obtain⟨t2,th2⟩:=S8.out.row.there (i:=2) (by omega);obtain⟨t3,th3⟩:=S8.out.row.there (i:=3) (by omega);obtain⟨t4,th4⟩:=S8.out.row.there (i:=4) (by omega);obtain⟨t5,th5⟩:=S8.out.row.there (i:=5) (by omega);obtain⟨t6,th6⟩:=S8.out.row.there (i:=6) (by omega);have S9:=Ld (SK.put (j:=0) S8.out (by omega) (hzk.mono (fun q _ hq=>⟨by have h5:wr.heap.size≤q:=hq;have:=HLW.out;have:=S7.out.ho;omega,by have h5:wr.heap.size≤q:=hq;have:=HLW.out;omega⟩)) (hzm.mono (fun q _ hq=>⟨by have h5:wr.heap.size≤q:=hq;have:=HLW.out;have:=S7.out.ho;omega,by have h5:wr.heap.size≤q:=hq;have:=HLW.out;omega⟩)) (((((((w8.setCell ⟨g,0,none⟩ (.int .i64 r.op)).setCell ⟨g,1,none⟩ (.string r.name)).setCell ⟨g,2,none⟩ (.int .i64 r.n)).setCell ⟨g,3,none⟩ (.int .i64 r.ty.kind)).setCell ⟨g,4,none⟩ (.string r.ty.name)).setCell ⟨g,5,none⟩ (.slice zka zkn zkc)).setCell ⟨g,6,none⟩ (.slice zma zmn zmc)) rfl);have K9:Hid (Kept (fun q=>q=g) wr (((((((w8.setCell ⟨g,0,none⟩ (.int .i64 r.op)).setCell ⟨g,1,none⟩ (.string r.name)).setCell ⟨g,2,none⟩ (.int .i64 r.n)).setCell ⟨g,3,none⟩ (.int .i64 r.ty.kind)).setCell ⟨g,4,none⟩ (.string r.ty.name)).setCell ⟨g,5,none⟩ (.slice zka zkn zkc)).setCell ⟨g,6,none⟩ (.slice zma zmn zmc))):=Ld ((K8.out.mono (fun _ _ e=>e.elim)).trans k7g);clear hzk hzm k8))
       all_goals
        clear x0 x1 y0 fg8 th0 th1 th2 th3 th4 th5 th6 S8 S7 S KD HLW K8
        go_wp2_with fail
        go_meet
        case rel=>exact⟨S9.out,K9.out⟩
      case rest=>
       obtain⟨hS0,hK0⟩:=hcut
       have S0:=Ld hS0
       clear hS0 hK0 S c0 c1 c2 c3 c4 c5 c6 HKC lq
       generalize wc=w0 at *
       obtain⟨e0,e1,e2,e3,e4,e5,e6⟩:=HCY.out w0 S0.out.kp
       have gA:=S0.out.a.cell
       have K5:Hid (Kept (fun _=>False) w0 (w0.alloc (.cells #[.int .i64 y.op,.string y.name,.int .i64 y.n,.int .i64 y.ty.kind,.string y.ty.name,.slice ta' tn' tc',.slice pa' pn' pc'] 27))):=Ld (kR.alloc _)
       have HF86:=Ld (free_any HYK.out.1 (by have:=HYK.out.2.1;omega) (by have:=HYK.out.2.2;omega) (tml_one (Blk.new w0 27 [Value.int .i64 y.op,.string y.name,.int .i64 y.n,.int .i64 y.ty.kind,.string y.ty.name,.slice ta' tn' tc',.slice pa' pn' pc']) (HYT.out _ (S0.out.kp.trans K5.out)) (HYM.out _ (S0.out.kp.trans K5.out))))
       go_wp2_with fail
       clear e0 e1 e2 e3 e4 e5 e6 gA
       refine HF86.out.mono ?_
       rintro e w5 ⟨p1,rfl,hp1,hm1,k5⟩
       have K05:=Ld (K5.out.trans k5)
       have M1:=Ld hm1
       have HP1:Hid (w0.heap.size<p1):=Ld (by have h:=hp1;rw[World.size_alloc] at h;omega)
       have S5:=Ld (S0.out.kept K05.out)
       have HPM5:=Ld (HPM.out.kept S5.out.kp (fun e=>e) (fun _ _ e=>e))
       have HUN:=Ld (under_any (x:=nm) HPM5.out M1.out (by have:=HND.out.1;omega))
       have gA:=S5.out.a.cell
       clear hp1 hm1 k5 K5 HF86 HPM5
       go_wp2_with fail
       clear gA
       refine HUN.out.mono ?_
       rintro e w6 ⟨p2,rfl,hp2,hm2,k6⟩
       have K06:=Ld (K05.out.trans k6)
       have M16:=Ld (M1.out.kept k6 (fun e=>e))
       have HP2:Hid (p1<p2):=Ld (by have h1:=M1.out.lt;omega)
       have HM2:Hid (PrM bz (fun q=>q<w.heap.size) w6 p2 n (undF nm (fun s=>mb s (fr y)) σ)):=Ld (by obtain⟨f,h1,h2⟩:=hm2;exact⟨f,h1,h2.mono (fun q _ hq=>hq.1)⟩)
       clear hp2 hm2 k6 HUN M1 K05 S5
       obtain⟨f2,hf2,hv2⟩:=HM2.out
       have HF2:=Ld hf2
       have HV2:=Ld (hv2.frame (w:=w6) (W:=w0) (fun k hk hl=>(K06.out.block k (by have:=S0.out.kp.size;omega) (fun e=>e)).symm))
       have HSG2:Hid (SgOk (undF nm (fun s=>mb s (fr y)) σ)):=Ld (fun s u hs=>by unfold undF at hs;split at hs;exact HSG.out s u hs;cases hs)
       have HRC:=Ld (rem_caught HLK.out nm y)
       have HRU:=Ld (rem_und HLK.out nm y)
       clear hf2 hv2
       generalize undF nm (fun s=>mb s (fr y)) σ=σ2 at *
       go_wp2_with (at_range;refine wpList_rangeF rfl _ _ 27 rfl Tryz.underlying77 rfl HF2.out ?_;intro w7 cnt hR7 k7 z7 hcn)
       have HR7:=Ld hR7
       have K07:=Ld (K06.out.trans k7)
       have M17:=Ld (M16.out.kept k7 (fun e=>e))
       have HCN:Hid (cnt≤n):=Ld hcn
       have HRR:Hid (p2<w6.heap.size):=Ld HF2.out.lt
       clear hR7 k7 z7 hcn M16 K06
       generalize w6.heap.size=rg at *
       go_frame
       go_loopw [15] (fun v15 wr=>∃ (cnt' m1:Nat) (g2:ByteArray→Bool) (Bu:ByteArray→Bool) (cg:Bool),v15=.bool cg∧Kept (fun _=>False) w0 wr∧MapR wr p2 rg n f2 g2 cnt'∧cnt'≤cnt∧MapF wr p1 m1 (bagF Bu)∧m1+2000*cnt'≤100000+2000*cnt∧(∀ s,g2 s=true→(f2 s).isSome=true)∧(∀ s,Bu s=true↔mb s (fr y)=true∨∃ t u,σ2 t=some u∧g2 t=false∧mb s (fr u)=true)∧(cg=true↔∃ t u,σ2 t=some u∧g2 t=false∧mb nm (fr u)=true)) (fun v15 wr=>wr.rangeLeft p2 rg)
       case atStart=>
        refine⟨cnt,tmN y,fun s=>(f2 s).isSome,fun s=>mb s (fr y),false,rfl,K07.out,HR7.out,Nat.le_refl _,M17.out,by have:=HYK.out.2.1;omega,fun _ h=>h,fun s=>?_,?_⟩
        ·constructor
         ·exact fun h=>Or.inl h
         ·rintro (h | ⟨t,u,h1,h2,_⟩)
          ·exact h
          ·have h3:=PrM.some_iff HV2.out t
           rw[h1] at h3
           have h2:(f2 t).isSome=false:=h2
           rw[h3] at h2;cases h2
        ·constructor
         ·intro h;cases h
         ·rintro⟨t,u,h1,h2,_⟩
          have h3:=PrM.some_iff HV2.out t
          rw[h1] at h3
          have h2:(f2 t).isSome=false:=h2
          rw[h3] at h2;cases h2
       case round=>
        obtain⟨cnt',m1,g2,Bu,cg,rfl,hk,hR',hle,hM,hmb,hgs,hBu,hcg⟩:=hrel
        have HK:=Ld hk
        have HRR2:=Ld hR'
        have HM1:=Ld hM
        have HLE:Hid (cnt'≤cnt∧m1+2000*cnt'≤100000+2000*cnt):=Ld ⟨hle,hmb⟩
        have HGS:=Ld hgs
        have HBU:=Ld hBu
        have HCG:=Ld hcg
        clear hk hR' hle hM hmb hgs hBu hcg HR7 M17 K07
        go_wp2_with (at_next;refine wpList_nextF rfl _ rfl rfl HRR2.out ?_ ?_)
        ·intro h0
         have HALL:Hid (∀ s,g2 s=false):=Ld (fun s=>by
          cases hg:g2 s with
          | false=>rfl
          | true=>rw[h0 s (HRR2.out.map.small (HGS.out s hg))] at hg;cases hg)
         have HCGQ:Hid (cg=mb nm (frB (remL l nm (fr y)))):=Ld (by
          rw[Bool.eq_iff_iff,HCG.out,HRC.out nm]
          constructor
          ·rintro⟨t,u,h1,_,h3⟩;exact⟨t,u,h1,h3⟩
          ·rintro⟨t,u,h1,h3⟩;exact⟨t,u,h1,HALL.out t,h3⟩)
         have HBUQ:Hid (∀ s,Bu s=mb s (fr y++frB (remL l nm (fr y)))):=Ld (fun s=>by
          rw[Bool.eq_iff_iff,HBU.out s,mb_app,Bool.or_eq_true,HRC.out s]
          constructor
          ·rintro (h | ⟨t,u,h1,_,h3⟩)
           ·exact Or.inl h
           ·exact Or.inr ⟨t,u,h1,h3⟩
          ·rintro (h | ⟨t,u,h1,h3⟩)
           ·exact Or.inl h
           ·exact Or.inr ⟨t,u,h1,HALL.out t,h3⟩)
         have M2:=Ld HRR2.out.map
         have HV3:=Ld (HV2.out.frame (sK HK.out))
         have S1:=Ld (S0.out.kept HK.out)
         have HPW:=Ld (HP.out.kept S1.out.kp)
         have HMB:Hid (m1≤800000):=Ld (by have:=HLE.out;have:=HCN.out;have:=HYK.out.2.2;omega)
         have LL:Hid (p1≠p2∧w0.heap.size<p1∧w0.heap.size<p2∧w.heap.size+3≤w0.heap.size):=Ld ⟨by have:=HP2.out;omega,HP1.out,by have:=HP2.out;have:=HP1.out;omega,by have:=S0.out.o.lt;omega⟩
         have K0R:=HK
         clear h0 HALL HCG HBU HRR2 HGS HLE HK
         go_upto_if 124 with (fail)
         go_cut [] (fun wd=>∃ (zn:ByteArray) (σ3:ByteArray→Option Tm),SK bz w [Value.int .i64 op,.string nm,.int .i64 N,.int .i64 ty.kind,.string ty.name,.slice a an ac,.slice (some ⟨q1,o1,none⟩) 2 mc] op zn N ty (.slice va vn vc) g 2 (fun i=>if i=0 then some r else none) wd∧PrM bz (fun q=>q<w.heap.size) wd p2 (n+1) σ3∧Hid (newN freshS nm y l=zn)∧Hid (∀ s,look (inner freshS nm y l) s=σ3 s)∧Hid (SgOk σ3))
         case first=>
          cases cg
          ·have e1:Hid (newN freshS nm y l=nm∧inner freshS nm y l=remL l nm (fr y)):=Ld (by unfold inner newN;rw[← HCGQ.out];exact⟨rfl,rfl⟩)
           have HLI:Hid (∀ s,look (inner freshS nm y l) s=σ2 s):=Ld (fun s=>by rw[e1.out.2];exact HRU.out s)
           go_wp2_with fail
           go_meet
           case rel=>exact⟨nm,σ2,S1.out,⟨f2,M2.out.mono (Nat.le_succ _),HV3.out⟩,Ld e1.out.1,HLI,HSG2⟩
          ·have e1:Hid (newN freshS nm y l=freshS nm (fr y++frB (remL l nm (fr y)))∧inner freshS nm y l=remL l nm (fr y)++[(nm,nameT (newN freshS nm y l))]):=Ld (by unfold inner newN;rw[← HCGQ.out];exact⟨rfl,rfl⟩)
           have HZN:Hid (∀ L,(∀ s,mb s L=Bu s)→freshS nm L=newN freshS nm y l):=Ld (fun L hL=>by rw[e1.out.1];exact freshS_ext (fun s=>by rw[hL,HBUQ.out]) nm)
           have HZO:Hid (∀ L:List ByteArray,L.length≤800000→(∀ s,mb s L=Bu s)→OkTm (nameT (newN freshS nm y l))∧tmN (nameT (newN freshS nm y l))≤2000∧tmD (nameT (newN freshS nm y l))≤2000):=Ld (fun L hL1 hL2=>by
            rw[← HZN.out L hL2]
            refine⟨nameT_ok (freshS_named hL1),?_,?_⟩
            ·unfold nameT;rw[tmN];simp[tmNs]
            ·unfold nameT;rw[tmD];simp[tmDs])
           have HLI:Hid (∀ s,look (inner freshS nm y l) s=(fun t=>if t=nm then some (nameT (newN freshS nm y l)) else σ2 t) s):=Ld (fun s=>by
            rw[e1.out.2,look_app,HRU.out s]
            by_cases hs:s=nm
            ·subst hs
             have h1:σ2 s=none:=by rw[← HRU.out s,remL_look,if_pos (Or.inl rfl)]
             rw[h1];simp[look]
            ·have h1:look [(nm,nameT (newN freshS nm y l))] s=none:=by rw[look,if_neg (fun e=>hs e.symm)];rfl
             rw[h1]
             simp only[if_neg hs]
             cases σ2 s <;> rfl)
           have HSG3:Hid ((OkTm (nameT (newN freshS nm y l))∧tmN (nameT (newN freshS nm y l))≤2000∧tmD (nameT (newN freshS nm y l))≤2000)→SgOk (fun t=>if t=nm then some (nameT (newN freshS nm y l)) else σ2 t)):=Ld (fun hZ s u hs=>by
            by_cases hsn:s=nm
            ·simp only[if_pos hsn,Option.some.injEq] at hs
             rw[← hs];exact hZ
            ·simp only[if_neg hsn] at hs
             exact HSG2.out s u hs)
           clear HBUQ HCGQ
           have HNW:Hid (newN freshS nm y l=newN freshS nm y l):=Ld rfl
           clear e1
           obtain⟨zn,hzn⟩:∃ zn,zn=newN freshS nm y l:=⟨_,rfl⟩
           rw[← hzn] at HZN HZO HLI HSG3
           have HNZN:=Ld hzn.symm
           clear hzn HNW
           go_upto_region 35 with (fail)
           have xn:wr.cell? ⟨w.heap.size,1,none⟩=some (.string nm):=S1.out.a.cell 1
           have KD:Kept (fun _=>False) wr (World.drew wr):=kR.drew
           go_region_law (first
            | (go_simp;go_at_call 43;refine (keys_box p1 _).mono ?_;rintro e w10 ⟨X,rfl,hX1,hX2,k10⟩;have K10:=Ld (KD.trans k10);have HX1:=Ld hX1;have HX2:=Ld hX2;have M10:=Ld (HM1.out.kept K10.out (fun e=>e));have xn10:w10.cell? ⟨w.heap.size,1,none⟩=some (.string nm):=(S1.out.kept K10.out).a.cell 1;clear k10 hX1 hX2)
            | (go_simp;go_at_call 88;refine (collect_any M10.out HMB.out HX1.out HX2.out).mono ?_;rintro e w11 ⟨L,vL,rfl,hL,hLn,hR11⟩;obtain⟨La,Lc,hvL⟩:=hR11.nml.slice;subst hvL;have K11:=Ld (K10.out.trans hR11.kp);have HL:=Ld hL;have HLL:=Ld (show L.length≤800000 by have:=HMB.out;omega);have N11:=Ld hR11.nml;have xn11:w11.cell? ⟨w.heap.size,1,none⟩=some (.string nm):=(S1.out.kept K11.out).a.cell 1;clear hR11 hL hLn)
            | (go_simp;go_at_call 10;refine (fresh_any nm N11.out HLL.out (by have:=HNZ.out;unfold maxLen at this;exact this) (HPW.out.kept K11.out)).mono ?_;rw[HZN.out L HL.out];rintro e w12 ⟨rfl,k12⟩;have K12:=Ld (K11.out.trans k12);have S12:=Ld (S1.out.kept K12.out);have gO12:∀ i,w12.cell? ⟨w.heap.size+2,i,none⟩=[Value.int .i64 op,.string nm,.int .i64 N,.int .i64 ty.kind,.string ty.name,.slice va vn vc,.slice (some ⟨g,0,none⟩) 2 2][i]?:=S12.out.o.cell;have fO12:=S12.out.o.frozen;have HNO:=Ld (HSG3.out (HZO.out L HLL.out HL.out))))
           all_goals
            have S13:=Ld (S12.out.name zn)
            have KS13:Hid (Kept (fun q=>q=w.heap.size+2) wr (w12.setCell ⟨w.heap.size+2,1,none⟩ (.string zn))):=Ld (Kept.setCell (S:=fun q=>q=w.heap.size+2) (K12.out.mono (fun _ _ e=>e.elim)) (p:=⟨w.heap.size+2,1,none⟩) (Or.inl rfl) _)
            clear gO12 fO12 xn xn10 xn11 S12 K12 K11 K10 KD N11 HL HLL HX1 HX2 M10 k12 HZN HZO HSG3 HM1
            generalize w12.setCell ⟨w.heap.size+2,1,none⟩ (.string zn)=w13 at *
            have M213:=Ld (M2.out.kept KS13.out (fun e=>by have:=LL.out;omega))
            have HV13:=Ld (HV3.out.frame (Same.of_kept KS13.out (fun q hq e=>by omega)))
            have gA:=S13.out.a.cell
            have gO:∀ i,w13.cell? ⟨w.heap.size+2,i,none⟩=[Value.int .i64 op,.string zn,.int .i64 N,.int .i64 ty.kind,.string ty.name,.slice va vn vc,.slice (some ⟨g,0,none⟩) 2 2][i]?:=S13.out.o.cell
            have HNL:Hid (n<maxLen):=Ld (by have:=HYK.out.2.2;unfold maxLen;omega)
            go_wp2_with (at_mapUpdate;refine wpList_storeF rfl _ _ _ _ 27 rfl Tryz.underlying77 rfl M213.out nm rfl HNZ.out HNL.out (.agg #[.int .i64 20,.string zn,.int .i64 0,.int .i64 0,.string ⟨#[]⟩,.slice none 0 0,.slice none 0 0]) rfl ?_;intro w14 hm14 k14;clear gA gO)
            have S14:Hid (SK bz w [Value.int .i64 op,.string nm,.int .i64 N,.int .i64 ty.kind,.string ty.name,.slice a an ac,.slice (some ⟨q1,o1,none⟩) 2 mc] op zn N ty (.slice va vn vc) g 2 (fun i=>if i=0 then some r else none) w14):=Ld (by
             have hL:=LL.out
             have K014:Kept (fun q=>q=w.heap.size+2) w0 w14:=((K0R.out.mono (fun _ _ e=>e.elim)).trans KS13.out).via1 k14 (fun x hx e=>by omega)
             exact⟨S13.out.kp.via1 k14 (fun x hx e=>by omega),S13.out.a.kept k14 (fun e=>by omega),S13.out.r.kept k14 (fun e=>by omega),S13.out.o.kept k14 (fun e=>by omega),S13.out.ho,S0.out.ty.frame (Same.of_kept K014 (fun q hq e=>by omega)),S0.out.row.kept K014 (fun e=>by have:=S0.out.ho;omega) (fun q hq _ e=>by omega)⟩)
            have PM14:Hid (PrM bz (fun q=>q<w.heap.size) w14 p2 (n+1) (fun t=>if t=nm then some (nameT zn) else σ2 t)):=Ld (by
             refine⟨_,hm14,fun s=>?_⟩
             by_cases hs:s=nm
             ·simp only[if_pos hs]
              exact⟨none,0,0,none,0,0,by unfold updF;rw[if_pos hs];rfl,.nil (Or.inl rfl),.nil (Or.inl rfl)⟩
             ·simp only[if_neg hs]
              have h1:=HV13.out.frame (W:=w14) (Same.of_kept k14 (fun q hq e=>by have:=LL.out;omega)) s
              cases hu:σ2 s with
              | none=>rw[hu] at h1;simp only at h1 ⊢;unfold updF;rw[if_neg hs];exact h1
              | some u=>rw[hu] at h1;simp only at h1 ⊢;unfold updF;rw[if_neg hs];exact h1)
            clear hm14 k14
            go_wp2_with fail
            go_meet
            case rel=>exact⟨zn,_,S14.out,PM14.out,HNZN,HLI,HNO⟩
         case rest=>
          obtain⟨zn,σ3,hS7,hPM7,HN7,HL7,HG7⟩:=hcut
          have S7:=Ld hS7
          have PM7:=Ld hPM7
          clear hS7 hPM7 S1 HBUQ HCGQ M2 HV3 HM1 HPW HRU HRC
          generalize wc=w7b at *
          have HK2:Hid (∀ W,Kept (fun _=>False) w7b W→Calls Tryz.prog 101 #[.map (some p2),tmVal y (.slice ta' tn' tc') (.slice pa' pn' pc')] W (PutP bz (subT freshS y (inner freshS nm y l)) W)):=Ld (fun W kW=>HIH.out y (by simp) (inner freshS nm y l) σ3 W ok (fun q=>q<w.heap.size) _ _ p2 (n+1) HL7.out HG7.out (HYT.out W (S7.out.kp.trans kW)) (HYM.out W (S7.out.kp.trans kW)) (PM7.out.kept kW (fun e=>e) (fun _ _ e=>e)) (HP.out.kept (S7.out.kp.trans kW)) (by have:=HYK.out.2.2;omega) HYK.out.2.1)
          have hres2:Hid (res=.mk op zn N ty [r,subT freshS y (inner freshS nm y l)]):=Ld (by rw[hres.out,HN7.out])
          unfold PutP tmVal at HK2
          generalize subT freshS y (inner freshS nm y l)=r2 at *
          obtain⟨e0,e1,e2,e3,e4,e5,e6⟩:=HCY.out w7b S7.out.kp
          go_upto_region 37 with (fail)
          have x0:w7b.cell? ⟨w.heap.size+2,6,none⟩=some (.slice (some ⟨g,0,none⟩) 2 2):=S7.out.o.cell 6
          have x1:w7b.cell? ⟨w.heap.size,6,none⟩=some (.slice (some ⟨q1,o1,none⟩) 2 mc):=S7.out.a.cell 6
          have KD:Kept (fun _=>False) w7b (World.drew w7b):=kR.drew
          have HLW:Hid (g<w7b.heap.size):=Ld S7.out.row.lt
          go_region_law (first
           | (go_simp;go_at_call 101;refine (HK2.out _ KD).mono ?_;rintro e w8 ⟨zk,zm,rfl,hzk,hzm,k8⟩;obtain⟨zka,zkn,zkc,rfl⟩:=hzk.slice;obtain⟨zma,zmn,zmc,rfl⟩:=hzm.slice;have S8:=Ld (S7.out.kept (KD.trans k8));have y0:w8.cell? ⟨w.heap.size+2,6,none⟩=some (.slice (some ⟨g,0,none⟩) 2 2):=S8.out.o.cell 6;have fg8:=S8.out.row.frozen;obtain⟨t0,th0⟩:=S8.out.row.there (i:=7) (by omega);obtain⟨t1,th1⟩:=S8.out.row.there (i:=8) (by omega);obtain⟨t2,th2⟩:=S8.out.row.there (i:=9) (by omega);obtain⟨t3,th3⟩:=S8.out.row.there (i:=10) (by omega);obtain⟨t4,th4⟩:=S8.out.row.there (i:=11) (by omega);obtain⟨t5,th5⟩:=S8.out.row.there (i:=12) (by omega);obtain⟨t6,th6⟩:=S8.out.row.there (i:=13) (by omega);have S9:=Ld (SK.put (j:=1) S8.out (by omega) (hzk.mono (fun q _ hq=>⟨by have h5:w7b.heap.size≤q:=hq;have:=HLW.out;have:=S7.out.ho;omega,by have h5:w7b.heap.size≤q:=hq;have:=HLW.out;omega⟩)) (hzm.mono (fun q _ hq=>⟨by have h5:w7b.heap.size≤q:=hq;have:=HLW.out;have:=S7.out.ho;omega,by have h5:w7b.heap.size≤q:=hq;have:=HLW.out;omega⟩)) (((((((w8.setCell ⟨g,7,none⟩ (.int .i64 r2.op)).setCell ⟨g,8,none⟩ (.string r2.name)).setCell ⟨g,9,none⟩ (.int .i64 r2.n)).setCell ⟨g,10,none⟩ (.int .i64 r2.ty.kind)).setCell ⟨g,11,none⟩ (.string r2.ty.name)).setCell ⟨g,12,none⟩ (.slice zka zkn zkc)).setCell ⟨g,13,none⟩ (.slice zma zmn zmc)) rfl);clear hzk hzm k8))
          all_goals
           clear x0 x1 y0 fg8 th0 th1 th2 th3 th4 th5 th6 S8 S7 KD HLW e0 e1 e2 e3 e4 e5 e6
           generalize ((((((w8.setCell ⟨g,7,none⟩ (.int .i64 r2.op)).setCell ⟨g,8,none⟩ (.string r2.name)).setCell ⟨g,9,none⟩ (.int .i64 r2.n)).setCell ⟨g,10,none⟩ (.int .i64 r2.ty.kind)).setCell ⟨g,11,none⟩ (.string r2.ty.name)).setCell ⟨g,12,none⟩ (.slice zka zkn zkc)).setCell ⟨g,13,none⟩ (.slice zma zmn zmc)=w9 at *
           have HDN:Hid (∀ i (hi:i<[r,r2].length),(fun i=>if i=1 then some r2 else if i=0 then some r else none) i=some [r,r2][i]):=Ld (fun i hi=>by
            have h1:i=0∨i=1:=by simp at hi;omega
            rcases h1 with rfl | rfl <;> rfl)
           have gO:=S9.out.o.cell
           have gR:∀ i,w9.cell? ⟨w.heap.size+1,i,none⟩=[Value.int .i64 0,.string ⟨#[]⟩,.int .i64 0,.int .i64 0,.string ⟨#[]⟩,.slice none 0 0,.slice none 0 0][i]?:=S9.out.r.cell
           have fR:=S9.out.r.frozen
           have lR:=S9.out.r.lt
           go_wp2_with fail
           exact bodyPost_ret (results_one Tryz.results101 rfl (load_tm (t:=.mk op zn N ty [r,r2]) (r7 S9.out.r rfl))) rfl ⟨_,_,by rw[hres2.out],by rw[hres2.out];exact (S9.out.done (rs:=[r,r2]) rfl HDN.out).1,by rw[hres2.out];exact (S9.out.done (rs:=[r,r2]) rfl HDN.out).2.1,(S9.out.done (rs:=[r,r2]) rfl HDN.out).2.2⟩
        ·intro s v w9 cnt3 hs hg hfs hR3 hlt k3 z3 hen
         obtain⟨u,xa,xn,xc,za,zn,zc,hu,rfl,hty,htm⟩:=HV2.out.at hfs
         unfold tmVal at hen hfs ⊢
         have HLO:=Ld HRR2.out.left
         have LR:Hid (rg<wr.heap.size∧p1<p2∧p2<rg∧w0.heap.size<p1):=Ld ⟨HRR2.out.lt,HP2.out,HRR.out,HP1.out⟩
         have KW3:=Ld (HK.out.via1 k3 (fun q hq e=>by have:=LR.out;omega))
         have M3:=Ld (HM1.out.kept k3 (fun e=>by have:=LR.out;omega))
         have HR3:=Ld hR3
         have HLT:=Ld hlt
         have HU:=Ld (HSG2.out s u hu)
         have HUS:=Ld hu
         have HG:=Ld hg
         have TU:=Ld (fun W (k:Kept (fun _=>False) w0 W)=>hty.frame (sK k))
         have MU:=Ld (fun W (k:Kept (fun _=>False) w0 W)=>htm.frame (sK k))
         clear hu k3 hR3 hlt hg hfs hs HRR2 HM1
         go_upto_region 31 with (fail)
         clear hen
         have bK:=Ld (Blk.new w9 27 [Value.int .i64 u.op,.string u.name,.int .i64 u.n,.int .i64 u.ty.kind,.string u.ty.name,.slice xa xn xc,.slice za zn zc])
         change Hid (Blk (w9.alloc (.cells #[.int .i64 u.op,.string u.name,.int .i64 u.n,.int .i64 u.ty.kind,.string u.ty.name,.slice xa xn xc,.slice za zn zc] 27)) w9.heap.size _ _) at bK
         rw[z3] at bK
         have K4:Hid (Kept (fun _=>False) w9 (w9.alloc (.cells #[.int .i64 u.op,.string u.name,.int .i64 u.n,.int .i64 u.ty.kind,.string u.ty.name,.slice xa xn xc,.slice za zn zc] 27))):=Ld (kR.alloc _)
         have Z4:Hid ((w9.alloc (.cells #[.int .i64 u.op,.string u.name,.int .i64 u.n,.int .i64 u.ty.kind,.string u.ty.name,.slice xa xn xc,.slice za zn zc] 27)).heap.size=wr.heap.size+1):=Ld (by rw[World.size_alloc,z3])
         generalize w9.alloc (.cells #[.int .i64 u.op,.string u.name,.int .i64 u.n,.int .i64 u.ty.kind,.string u.ty.name,.slice xa xn xc,.slice za zn zc] 27)=w10 at *
         clear z3
         have K5:Hid (Kept (fun _=>False) w10 (w10.alloc (.cells #[.int .i64 u.op,.string u.name,.int .i64 u.n,.int .i64 u.ty.kind,.string u.ty.name,.slice xa xn xc,.slice za zn zc] 27))):=Ld (kR.alloc _)
         have KW5:=Ld ((KW3.out.trans K4.out).trans K5.out)
         have HF86:=Ld (free_any HU.out.1 (by have:=HU.out.2.1;omega) (by have:=HU.out.2.2;omega) (tml_one (Blk.new w10 27 [Value.int .i64 u.op,.string u.name,.int .i64 u.n,.int .i64 u.ty.kind,.string u.ty.name,.slice xa xn xc,.slice za zn zc]) (TU.out _ KW5.out) (MU.out _ KW5.out)))
         have gK:=bK.out.cell
         go_wp2_with fail
         clear gK bK
         refine HF86.out.mono ?_
         rintro e w12 ⟨p3,rfl,hp3,hm3,k12⟩
         have KW12:=Ld (KW5.out.trans k12)
         have M12:=Ld (M3.out.kept ((K4.out.trans K5.out).trans k12) (fun e=>e))
         have HR12:=Ld (HR3.out.kept ((K4.out.trans K5.out).trans k12) (fun e=>e) (fun e=>e))
         have HP3:Hid (wr.heap.size<p3):=Ld (by have h:=hp3;rw[World.size_alloc] at h;have:=Z4.out;omega)
         have M3':=Ld hm3
         have hlk:=hm3.look Tryz.underlying69 (z4 _) HNZ.out
         rw[bagF_get] at hlk
         have S12:=Ld (S0.out.kept KW12.out)
         have gA:=S12.out.a.cell
         have HCP:=Ld (copyM_any M12.out M3'.out (by have:=HP3.out;have:=LR.out;omega) (by have:=HLE.out.2;have:=HLE.out.1;have:=HCN.out;have:=HU.out.2.1;have:=HYK.out.2.2;omega))
         clear hp3 hm3 k12 HF86 K4 K5 KW5 M3 HR3 KW3
         go_upto_region 32 with (fail)
         go_cut [15] (fun v wd=>v=.bool (cg||mb nm (fr u))∧wd=w12)
         case first=>
          cases cg
          ·go_wp2_with fail
           go_meet
           case rel=>exact⟨by simp,rfl⟩
          ·go_wp2_with fail
           go_meet
           case rel=>exact⟨by simp,rfl⟩
         case rest=>
          obtain⟨rfl,hwc⟩:=hcut
          subst hwc
          clear hlk gA
          go_wp2_with fail
          refine HCP.out.mono ?_
          rintro e w13 ⟨rfl,hm13,k13⟩
          have KW13:=Ld (KW12.out.via1 k13 (fun q hq e=>by have:=LR.out;omega))
          have HR13:=Ld (HR12.out.kept k13 (fun e=>by have:=LR.out;omega) (fun e=>by have:=LR.out;omega))
          have M13:=Ld hm13
          have HGN:Hid (∀ t,(g2 t&&!decide (t=s))=true→(f2 t).isSome=true):=Ld (fun t ht=>HGS.out t (by rw[Bool.and_eq_true] at ht;exact ht.1))
          have HVIS:Hid (∀ (P:Tm→Prop),(∃ t u',σ2 t=some u'∧(g2 t&&!decide (t=s))=false∧P u')↔((∃ t u',σ2 t=some u'∧g2 t=false∧P u')∨P u)):=Ld (fun P=>by
           constructor
           ·rintro⟨t,u',h1,h2,h3⟩
            by_cases ht:t=s
            ·subst ht
             rw[HUS.out] at h1
             cases h1
             exact Or.inr h3
            ·rw[decide_eq_false ht] at h2
             exact Or.inl ⟨t,u',h1,by simpa using h2,h3⟩
           ·rintro (⟨t,u',h1,h2,h3⟩ | h)
            ·exact⟨t,u',h1,by rw[h2];rfl,h3⟩
            ·exact⟨s,u,HUS.out,by simp,h⟩)
          have HBN:Hid (∀ t,(Bu t||mb t (fr u))=true↔mb t (fr y)=true∨∃ x v,σ2 x=some v∧(g2 x&&!decide (x=s))=false∧mb t (fr v)=true):=Ld (fun t=>by
           rw[HVIS.out (fun v=>mb t (fr v)=true),Bool.or_eq_true,HBU.out t,or_assoc])
          have HCN2:Hid ((cg||mb nm (fr u))=true↔∃ x v,σ2 x=some v∧(g2 x&&!decide (x=s))=false∧mb nm (fr v)=true):=Ld (by
           rw[HVIS.out (fun v=>mb nm (fr v)=true),Bool.or_eq_true,HCG.out])
          have HLE3:Hid (cnt3≤cnt∧m1+tmN u+2000*cnt3≤100000+2000*cnt):=Ld (by have:=HLE.out;have:=HLT.out;have:=HU.out.2.1;omega)
          clear hm13 k13 HCP KW12 M12 HR12 M3' S12 HBU HCG HGS HVIS
          go_wp2_with fail
          go_roundw
          case rel=>exact⟨cnt3,_,_,_,_,rfl,KW13.out,HR13.out,HLE3.out.1,M13.out,HLE3.out.2,HGN.out,HBN.out,HCN2.out⟩
          case measure=>rw[HR13.out.left,HLO.out];exact HLT.out
theorem psub_any {t:Tm} (h:OkTm t):PsC bz t:=by
 induction h with
 | mk hf hn hl ih=>exact psub_one (.mk hf hn hl) ih
def upW (nm:ByteArray) (σ:ByteArray→Nat):ByteArray→Nat:=fun s=>if s=nm then 1 else σ s
mutual
def szR (σ:ByteArray→Nat):Tm→Nat
 | .mk op nm _ _ ks=>if op=20 then σ nm else szRs (binderB op) nm σ 0 ks+1
def szRs (bi:Bool) (nm:ByteArray) (σ:ByteArray→Nat):Nat→List Tm→Nat
 | _,[]=>0
 | i,t::l=>szR (if bi&&i==1 then upW nm σ else σ) t+szRs bi nm σ (i+1) l
end
mutual
def dpR (σ:ByteArray→Nat):Tm→Nat
 | .mk op nm _ _ ks=>if op=20 then σ nm else dpRs (binderB op) nm σ 0 ks+1
def dpRs (bi:Bool) (nm:ByteArray) (σ:ByteArray→Nat):Nat→List Tm→Nat
 | _,[]=>0
 | i,t::l=>max (dpR (if bi&&i==1 then upW nm σ else σ) t) (dpRs bi nm σ (i+1) l)
end
theorem szD_upE (nm:ByteArray) (ρ:ByteArray→Db):(fun s=>szD (upE nm ρ s))=upW nm (fun s=>szD (ρ s)):=by
 funext s
 unfold upE upW
 split
 ·rfl
 ·rw[szD_ren]
theorem dpD_upE (nm:ByteArray) (ρ:ByteArray→Db):(fun s=>dpD (upE nm ρ s))=upW nm (fun s=>dpD (ρ s)):=by
 funext s
 unfold upE upW
 split
 ·rfl
 ·rw[dpD_ren]
theorem szD_ev:∀ (t:Tm) (ρ:ByteArray→Db),szD (ev ρ t)=szR (fun s=>szD (ρ s)) t:=by
 intro t
 induction t using Tm.rec (motive_2:=fun l=>∀ (bi:Bool) (nm:ByteArray) (ρ:ByteArray→Db) (i:Nat),szDs (evs bi nm ρ i l)=szRs bi nm (fun s=>szD (ρ s)) i l) with
 | mk op nm N ty l ih=>
  intro ρ
  rw[ev,szR]
  split
  ·rfl
  ·rw[szD,ih]
 | nil=>rename_i bi nm ρ i;rfl
 | cons t l iht ihl=>
  rename_i bi nm ρ i
  rw[evs,szDs,szRs,iht,ihl]
  split
  ·rw[szD_upE]
  ·rfl
theorem dpD_ev:∀ (t:Tm) (ρ:ByteArray→Db),dpD (ev ρ t)=dpR (fun s=>dpD (ρ s)) t:=by
 intro t
 induction t using Tm.rec (motive_2:=fun l=>∀ (bi:Bool) (nm:ByteArray) (ρ:ByteArray→Db) (i:Nat),dpDs (evs bi nm ρ i l)=dpRs bi nm (fun s=>dpD (ρ s)) i l) with
 | mk op nm N ty l ih=>
  intro ρ
  rw[ev,dpR]
  split
  ·rfl
  ·rw[dpD,ih]
 | nil=>rename_i bi nm ρ i;rfl
 | cons t l iht ihl=>
  rename_i bi nm ρ i
  rw[evs,dpDs,dpRs,iht,ihl]
  split
  ·rw[dpD_upE]
  ·rfl
def wgN (l:List (ByteArray×Tm)) (s:ByteArray):Nat:=match look l s with | some u=>tmN u | none=>1
def wgD (l:List (ByteArray×Tm)) (s:ByteArray):Nat:=match look l s with | some u=>tmD u | none=>1
theorem sub_size {t:Tm} (h:OkTm t) {l:List (ByteArray×Tm)} (hl:OkB l) (hM:tmN t+(frB l).length≤800000):tmN (subT freshS t l)=szR (wgN l) t∧tmD (subT freshS t l)=dpR (wgD l) t:=by
 have ho:=sub_ok h l hl hM
 have e:=ev_sub freshS_FS t l .fv hM
 have hw:∀ s,szD (evB .fv l s)=wgN l s∧dpD (evB .fv l s)=wgD l s:=fun s=>by
  unfold evB wgN wgD
  cases hk:look l s with
  | none=>exact⟨rfl,rfl⟩
  | some u=>
   obtain⟨b,hb,rfl⟩:=look_mem hk
   exact⟨ev_size _ _ (hl b hb).nw (fun _=>rfl),ev_depth _ _ (hl b hb).nw (fun _=>rfl)⟩
 constructor
 ·rw[← ev_size _ .fv ho.nw (fun _=>rfl),e,szD_ev]
  congr 1;funext s;exact (hw s).1
 ·rw[← ev_depth _ .fv ho.nw (fun _=>rfl),e,dpD_ev]
  congr 1;funext s;exact (hw s).2
def wgS (σ:ByteArray→Option Tm) (s:ByteArray):Nat:=match σ s with | some u=>tmN u | none=>1
def wgC (σ:ByteArray→Option Tm) (c:ByteArray→Nat):ByteArray→Nat:=fun s=>if c s=0 then wgS σ s else 1
theorem wgC_up (σ:ByteArray→Option Tm) (c:ByteArray→Nat) (nm:ByteArray):wgC σ (fun t=>if t=nm then c nm+1 else c t)=upW nm (wgC σ c):=by
 funext s
 unfold wgC upW
 by_cases h:s=nm
 ·simp[h]
 ·simp[h]
def ndW (σ:ByteArray→Option Tm) (c:ByteArray→Nat) (op:Int) (nm:ByteArray):Nat:=if op=20 then wgC σ c nm else 1
theorem szR_nd {σ:ByteArray→Option Tm} {c:ByteArray→Nat} {op:Int} {nm:ByteArray} {N:Int} {ty:Ty} {ks:List Tm} (h20:op=20→ks=[]):szR (wgC σ c) (.mk op nm N ty ks)=ndW σ c op nm+szRs (binderB op) nm (wgC σ c) 0 (ks.drop 0):=by
 rw[szR]
 unfold ndW
 by_cases ho:op=20
 ·rw[if_pos ho,if_pos ho,h20 ho];rfl
 ·rw[if_neg ho,if_neg ho,List.drop_zero];omega
theorem szRs_drop {bi:Bool} {nm:ByteArray} {ρ:ByteArray→Nat} {ks:List Tm} {k:Nat} (h:k<ks.length):szRs bi nm ρ k (ks.drop k)=szR (if bi&&k==1 then upW nm ρ else ρ) ks[k]+szRs bi nm ρ (k+1) (ks.drop (k+1)):=by
 rw[List.drop_eq_getElem_cons h,szRs]
structure LmX (X Y Z pm:Nat) (G:Nat) (W:World):Prop where
 x:Blk W X 77 [.map (some pm)]
 y:Blk W Y 3 [.int .i64 G]
 z:Blk W Z 126 [.func (.func 98) #[] #[.pointer (some ⟨X,0,none⟩),.pointer (some ⟨Y,0,none⟩),.pointer (some ⟨Z,0,none⟩)]]
structure LmR (b X Y Z pm n:Nat) (c:ByteArray→Nat) (G:Nat) (w w':World):Prop where
 kp:Kept (fun q=>q=b∨q=Y) w w'
 bo:∃ f,MapF w' b n f∧CntF f c
 bx:LmX X Y Z pm G w'
def LmC (bz:Nat) (t:Tm):Prop:=∀ (σ:ByteArray→Option Tm) (c:ByteArray→Nat) (G:Nat) (w:World) (ok okm:Nat→Prop) (tk kk:Value) (b n pm np X Y Z:Nat),TyL bz ok w t.ty.kids tk→TmL bz ok w t.kids kk→PrM bz okm w pm np σ→SgOk σ→(∃ f,MapF w b n f∧CntF f c)→LmX X Y Z pm G w →
 (∀ q,ok q→q≠b∧q≠Y)→(∀ q,okm q→q≠b∧q≠Y)→(b≠Y∧b≠X∧b≠Z∧b≠pm∧Y≠X∧Y≠Z∧Y≠pm)→n+2*tmN t≤1000000→(∀ s,c s+tmD t≤1000000)→G+szR (wgC σ c) t≤1000000000 →
 Calls Tryz.prog 98 #[tmVal t tk kk,.map (some b),.pointer (some ⟨X,0,none⟩),.pointer (some ⟨Y,0,none⟩),.pointer (some ⟨Z,0,none⟩)] w fun e w'=>e=.returned (.tuple #[])∧LmR b X Y Z pm (n+2*tmN t) c (G+szR (wgC σ c) t) w w'
structure LmS (w:World) (ce:List Value) (b X Y Z pm n:Nat) (c:ByteArray→Nat) (G:Nat) (W:World):Prop where
 r:LmR b X Y Z pm n c G w W
 a:Blk W w.heap.size 27 ce
theorem LmX.kept {X Y Z pm G:Nat} {W W':World} (h:LmX X Y Z pm G W) {S:Nat→Prop} (k:Kept S W W') (h1:¬ S X) (h2:¬ S Y) (h3:¬ S Z):LmX X Y Z pm G W':=⟨h.x.kept k h1,h.y.kept k h2,h.z.kept k h3⟩
section
variable {w W W':World} {ce:List Value} {b X Y Z pm n n':Nat} {c c':ByteArray→Nat} {G G':Nat}
theorem LmS.kept (h:LmS w ce b X Y Z pm n c G W) (k:Kept (fun _=>False) W W'):LmS w ce b X Y Z pm n c G W':=by
 obtain⟨⟨h1,⟨f,h2,h3⟩,h4⟩,h5⟩:=h
 exact⟨⟨h1.trans (k.mono (fun _ _ e=>e.elim)),⟨f,h2.kept k (fun e=>e),h3⟩,h4.kept k (fun e=>e) (fun e=>e) (fun e=>e)⟩,h5.kept k (fun e=>e)⟩
theorem LmS.step (h:LmS w ce b X Y Z pm n c G W) (hl:b<w.heap.size∧Y<w.heap.size) (r:LmR b X Y Z pm n' c' G' W W'):LmS w ce b X Y Z pm n' c' G' W':=
 ⟨⟨h.r.kp.trans r.kp,r.bo,r.bx⟩,h.a.kept r.kp (fun e=>by rcases e with e | e <;> omega)⟩
theorem LmS.cnt (h:LmS w ce b X Y Z pm n c G W) (hl:b<w.heap.size) (hd:b≠Y∧b≠X∧b≠Z) {f':ByteArray→Option Value} (hm:MapF W' b n' f') (hf:CntF f' c') (k:Kept (fun q=>q=b) W W'):LmS w ce b X Y Z pm n' c' G W':=
 ⟨⟨h.r.kp.trans (k.mono (fun _ _ e=>Or.inl e)),⟨f',hm,hf⟩,h.r.bx.kept k (fun e=>hd.2.1 e.symm) (fun e=>hd.1 e.symm) (fun e=>hd.2.2 e.symm)⟩,h.a.kept k (fun e=>by omega)⟩
theorem LmS.grow (h:LmS w ce b X Y Z pm n c G W) (hl:Y<w.heap.size) (hd:b≠Y∧Y≠X∧Y≠Z) (G':Nat):LmS w ce b X Y Z pm n c G' (W.setCell ⟨Y,0,none⟩ (.int .i64 G')):=by
 have k:Kept (fun q=>q=Y) W (W.setCell ⟨Y,0,none⟩ (.int .i64 G')):=(Kept.refl (fun q=>q=Y) W).setCell (p:=⟨Y,0,none⟩) (Or.inl rfl) _
 obtain⟨f,h1,h2⟩:=h.r.bo
 exact⟨⟨h.r.kp.trans (k.mono (fun _ _ e=>Or.inr e)),⟨f,h1.kept k (fun e=>hd.1 e),h2⟩,⟨h.r.bx.x.kept k (fun e=>hd.2.1 e.symm),h.r.bx.y.set 0 _,h.r.bx.z.kept k (fun e=>hd.2.2 e.symm)⟩⟩,h.a.kept k (fun e=>by omega)⟩
end
theorem lim_one {op:Int} {nm:ByteArray} {N:Int} {ty:Ty} {ks:List Tm} (IH:∀ u,u∈ks→LmC bz u) (hkn:ks.length≤1000000) (h20:op=20→ks=[]) (hnz:nm.size≤maxLen):LmC bz (.mk op nm N ty ks):=by
 intro σ c G w ok okm tk kk b n pm np X Y Z h1 h2 hpm hσ hb hx hok hokm hne hn hc hG
 have h1:TyL bz ok w ty.kids tk:=h1
 have h2:TmL bz ok w ks kk:=h2
 obtain⟨a,an,ac,rfl⟩:=h1.slice
 obtain⟨ma,mn,mc,rfl⟩:=h2.slice
 change Calls Tryz.prog 98 #[.agg #[.int .i64 op,.string nm,.int .i64 N,.int .i64 ty.kind,.string ty.name,.slice a an ac,.slice ma mn mc],.map (some b),.pointer (some ⟨X,0,none⟩),.pointer (some ⟨Y,0,none⟩),.pointer (some ⟨Z,0,none⟩)] w _
 obtain rfl:mn=ks.length:=h2.len
 have K0:Kept (fun _=>False) w (w.alloc (.cells #[.int .i64 op,.string nm,.int .i64 N,.int .i64 ty.kind,.string ty.name,.slice a an ac,.slice ma ks.length mc] 27)):=kR.alloc _
 have S1:Hid (LmS w [Value.int .i64 op,.string nm,.int .i64 N,.int .i64 ty.kind,.string ty.name,.slice a an ac,.slice ma ks.length mc] b X Y Z pm n c G (w.alloc (.cells #[.int .i64 op,.string nm,.int .i64 N,.int .i64 ty.kind,.string ty.name,.slice a an ac,.slice ma ks.length mc] 27))):=Ld (by
  obtain⟨f,hb1,hb2⟩:=hb
  exact⟨⟨K0.mono (fun _ _ e=>e.elim),⟨f,hb1.kept K0 (fun e=>e),hb2⟩,hx.kept K0 (fun e=>e) (fun e=>e) (fun e=>e)⟩,Blk.new w 27 _⟩)
 have HAT:=Ld (fun W (k:Kept (fun q=>q=b∨q=Y) w W)=>(h2.frame (Same.of_kept k (fun q hq e=>by rcases e with e | e;exact (hok q hq).1 e;exact (hok q hq).2 e))).at)
 have HPM:=Ld (fun W (k:Kept (fun q=>q=b∨q=Y) w W)=>hpm.kept k (fun e=>by rcases e with e | e;exact hne.2.2.2.1 e.symm;exact hne.2.2.2.2.2.2 e.symm) (fun q hq e=>by rcases e with e | e;exact (hokm q hq).1 e;exact (hokm q hq).2 e))
 have LB:Hid (b<w.heap.size∧Y<w.heap.size):=Ld ⟨by obtain⟨f,hb1,_⟩:=hb;exact hb1.lt,hx.y.lt⟩
 have HNE:=Ld hne
 have HOK:=Ld hok
 have HOKM:=Ld hokm
 have HSG:=Ld hσ
 have HIH:=Ld IH
 have HKN:=Ld hkn
 have HN0:Hid (n+2*tmNs ks+2≤n+2*tmN (.mk op nm N ty ks)):=Ld (by rw[tmN];omega)
 have HNB:=Ld hn
 have HNZ:=Ld hnz
 have HCB:Hid (∀ s,c s+tmDs ks+1≤1000000):=Ld (fun s=>by have:=hc s;rw[tmD] at this;omega)
 have HSZ:=Ld (szR_nd (σ:=σ) (c:=c) (nm:=nm) (N:=N) (ty:=ty) h20)
 have HGB:=Ld hG
 clear h1 h2 hpm hσ hb hx hok hokm hne hn hc hG IH hkn h20 hnz K0
 obtain⟨GF,hGF⟩:∃ GF,GF=G+szR (wgC σ c) (.mk op nm N ty ks):=⟨_,rfl⟩
 rw[← hGF] at HGB
 rw[← hGF]
 have HGF:Hid (GF=(G+ndW σ c op nm)+szRs (binderB op) nm (wgC σ c) 0 (ks.drop 0)):=Ld (by rw[hGF,HSZ.out];omega)
 clear hGF HSZ
 go_enter Tryz.func98,Tryz.ntmps98
 go_upto_region 1 with (fail)
 generalize w.alloc (.cells #[.int .i64 op,.string nm,.int .i64 N,.int .i64 ty.kind,.string ty.name,.slice a an ac,.slice ma ks.length mc] 27)=w1 at *
 go_upto_region 2 with (fail)
 go_cut [8,9] (fun v8 v9 wd=>∃ B8,v8=.pointer (some ⟨B8,0,none⟩)∧v9=.bool (σ nm).isSome∧LmS w [Value.int .i64 op,.string nm,.int .i64 N,.int .i64 ty.kind,.string ty.name,.slice a an ac,.slice ma ks.length mc] b X Y Z pm n c G wd∧(∀ v,σ nm=some v→∃ xa xn xc za zn zc,Blk wd B8 27 [Value.int .i64 v.op,.string v.name,.int .i64 v.n,.int .i64 v.ty.kind,.string v.ty.name,.slice xa xn xc,.slice za zn zc]∧TyL bz okm wd v.ty.kids (.slice xa xn xc)∧TmL bz okm wd v.kids (.slice za zn zc)))
 case first=>
  obtain⟨fp,hfp,hvp⟩:=HPM.out w1 S1.out.r.kp
  have hlk:=hfp.look_ok Tryz.underlying77 (z28 _) HNZ.out
  have gA:=S1.out.a.cell
  have gX:∀ i,w1.cell? ⟨X,i,none⟩=[Value.map (some pm)][i]?:=S1.out.r.bx.x.cell
  have h3:=PrM.some_iff hvp nm
  cases hs:σ nm with
  | none=>
   have hfn:fp nm=none:=by cases h:fp nm with
    | none=>rfl
    | some u=>rw[h,hs] at h3;cases h3
   rw[hfn] at hlk
   change _=Result.ok (Value.tuple #[.agg #[.int .i64 0,.string ⟨#[]⟩,.int .i64 0,.int .i64 0,.string ⟨#[]⟩,.slice none 0 0,.slice none 0 0],.bool false]) w1 at hlk
   clear hvp h3 hfn hfp
   have KZ:Hid (Kept (fun _=>False) w1 (w1.alloc Z7)):=Ld (kR.alloc _)
   go_wp2_with fail
   go_meet
   case rel=>exact⟨_,rfl,by rw[hs];rfl,S1.out.kept KZ.out,fun v h=>by rw[hs] at h;cases h⟩
  | some v=>
   have h4:=hvp nm
   rw[hs] at h4
   obtain⟨xa,xn,xc,za,zn,zc,hfn,hty,htm⟩:=h4
   rw[hfn] at hlk
   change _=Result.ok (Value.tuple #[.agg #[.int .i64 v.op,.string v.name,.int .i64 v.n,.int .i64 v.ty.kind,.string v.ty.name,.slice xa xn xc,.slice za zn zc],.bool true]) w1 at hlk
   have HTY:=Ld hty
   have HTM:=Ld htm
   clear hvp h3 hfn hfp hty htm
   have KZ:Hid (Kept (fun _=>False) w1 (w1.alloc (.cells #[.int .i64 v.op,.string v.name,.int .i64 v.n,.int .i64 v.ty.kind,.string v.ty.name,.slice xa xn xc,.slice za zn zc] 27))):=Ld (kR.alloc _)
   have bU:Hid (Blk (w1.alloc (.cells #[.int .i64 v.op,.string v.name,.int .i64 v.n,.int .i64 v.ty.kind,.string v.ty.name,.slice xa xn xc,.slice za zn zc] 27)) w1.heap.size 27 [Value.int .i64 v.op,.string v.name,.int .i64 v.n,.int .i64 v.ty.kind,.string v.ty.name,.slice xa xn xc,.slice za zn zc]):=Ld (Blk.new w1 27 _)
   go_wp2_with fail
   go_meet
   case rel=>exact⟨_,rfl,by rw[hs];rfl,S1.out.kept KZ.out,fun v' h=>by rw[hs] at h;cases h;exact⟨xa,xn,xc,za,zn,zc,bU.out,HTY.out.frame (sK KZ.out),HTM.out.frame (sK KZ.out)⟩⟩
 case rest=>
  obtain⟨B8,rfl,rfl,hS2,hU⟩:=hcut
  have S2:=Ld hS2
  have HU:=Ld hU
  clear hS2 hU S1
  generalize wc=w2 at *
  obtain⟨f1,hb1,hf1⟩:=S2.out.r.bo
  have hlk:=hb1.look Tryz.underlying89 (z3 _) HNZ.out
  rw[hf1 nm] at hlk
  have gA:=S2.out.a.cell
  clear hf1 hb1
  generalize hsm:(σ nm).isSome=sm at *
  have HSM:=Ld hsm
  clear hsm
  go_upto_region 3 with (fail)
  go_cut [32] (fun v wd=>v=.bool (sm&&decide (op=20)&&decide (c nm=0))∧wd=w2)
  case first=>
   cases sm
   ·go_wp2_with fail
    go_meet
    case rel=>exact⟨by rfl,rfl⟩
   ·by_cases ho:op=20
    ·have ho1:(op==20)=true:=by simp[ho]
     by_cases hc0:c nm=0
     ·have hc1:((c nm:Int)==0)=true:=by simp[hc0]
      have HC0:=Ld hc0
      have HO:=Ld ho
      clear hc0 ho
      go_wp2_with fail
      go_meet
      case rel=>exact⟨by rw[decide_eq_true HO.out,decide_eq_true HC0.out];rfl,rfl⟩
     ·have hc1:((c nm:Int)==0)=false:=by simp;exact hc0
      have HC0:=Ld hc0
      have HO:=Ld ho
      clear hc0 ho
      go_wp2_with fail
      go_meet
      case rel=>exact⟨by rw[decide_eq_false HC0.out];simp,rfl⟩
    ·have ho1:(op==20)=false:=by simp[ho]
     have HO:=Ld ho
     clear ho
     go_wp2_with fail
     go_meet
     case rel=>exact⟨by rw[decide_eq_false HO.out];simp,rfl⟩
  case rest=>
   obtain⟨rfl,hwc⟩:=hcut
   subst hwc
   clear hlk gA
   generalize hq0:(sm&&decide (op=20)&&decide (c nm=0))=q0 at *
   have HQ0:=Ld hq0
   clear hq0
   go_upto_if 32 with (fail)
   go_cut [7] (fun v wd=>v=.int .i64 (ndW σ c op nm)∧LmS w [Value.int .i64 op,.string nm,.int .i64 N,.int .i64 ty.kind,.string ty.name,.slice a an ac,.slice ma ks.length mc] b X Y Z pm n c G wd)
   case first=>
    cases q0
    ·have HW1:Hid (ndW σ c op nm=1):=Ld (by
      have h:=HQ0.out
      unfold ndW wgC wgS
      by_cases ho:op=20
      ·rw[if_pos ho]
       by_cases hc0:c nm=0
       ·rw[if_pos hc0]
        cases hs:σ nm with
        | none=>rfl
        | some u=>rw[HSM.out.symm,hs] at h;simp[ho,hc0] at h
       ·rw[if_neg hc0]
      ·rw[if_neg ho])
     go_wp2_with fail
     go_meet
     case rel=>exact⟨by rw[HW1.out];rfl,S2.out⟩
    ·have HQ1:Hid (op=20∧c nm=0∧(σ nm).isSome=true):=Ld (by
      have h:=HQ0.out
      simp only[Bool.and_eq_true,decide_eq_true_eq] at h
      exact⟨h.1.2,h.2,by rw[HSM.out];exact h.1.1⟩)
     obtain⟨v,hv⟩:=Option.isSome_iff_exists.1 HQ1.out.2.2
     obtain⟨xa,xn,xc,za,zn,zc,hB8,hty,htm⟩:=HU.out v hv
     have HW1:Hid (ndW σ c op nm=tmN v):=Ld (by unfold ndW wgC wgS;rw[if_pos HQ1.out.1,if_pos HQ1.out.2.1,hv])
     have HC:=Ld (size_any (bz:=bz) v wc okm _ _ (by have:=(HSG.out nm v hv).2.1;omega) hty htm)
     unfold tmVal at HC
     have g8:=hB8.cell
     clear hty htm hB8 hv
     go_wp2_with fail
     refine HC.out.mono ?_
     rintro e w3 ⟨rfl,k3⟩
     have S3:=Ld (S2.out.kept k3)
     clear k3 HC g8
     go_wp2_with fail
     go_meet
     case rel=>exact⟨by rw[HW1.out],S3.out⟩
   case rest=>
    obtain⟨rfl,hS3⟩:=hcut
    have S3:=Ld hS3
    have HWB:Hid (G+ndW σ c op nm≤1000000000):=Ld (by have:=HGF.out;have:=HGB.out;omega)
    clear hS3 S2 HU HQ0
    generalize wc=w3 at *
    have gY:∀ i,w3.cell? ⟨Y,i,none⟩=[Value.int .i64 G][i]?:=S3.out.r.bx.y.cell
    have fY:=S3.out.r.bx.y.frozen
    have hgw:Hid (wrap64 ((G:Int)+(ndW σ c op nm:Int))=((G+ndW σ c op nm:Nat):Int)):=Ld (by have:=HWB.out;unfold wrap64;omega)
    have S4:=Ld (S3.out.grow LB.out.2 ⟨HNE.out.1,HNE.out.2.2.2.2.1,HNE.out.2.2.2.2.2.1⟩ (G+ndW σ c op nm))
    rw[← hgw.out] at S4
    go_upto_region 6 with (fail)
    generalize w3.setCell ⟨Y,0,none⟩ (.int .i64 (wrap64 ((G:Int)+(ndW σ c op nm:Int))))=w4 at *
    clear gY fY hgw S3
    have gA:=S4.out.a.cell
    go_wp2_with fail
    go_loopw [44] (fun i wr=>∃ (k n' Gk:Nat),k≤ks.length∧i=.int .i64 k∧LmS w [Value.int .i64 op,.string nm,.int .i64 N,.int .i64 ty.kind,.string ty.name,.slice a an ac,.slice ma ks.length mc] b X Y Z pm n' c Gk wr∧Hid (GF=Gk+szRs (binderB op) nm (wgC σ c) k (ks.drop k))∧Hid (n'+2*tmNs (ks.drop k)+(if k≤1 then 2 else 0)≤n+2*tmN (.mk op nm N ty ks))) (fun i _=>ks.length-(intOf i).toNat)
    case atStart=>exact⟨0,n,_,Nat.zero_le _,rfl,S4.out,HGF,Ld (by have:=HN0.out;simpa using this)⟩
    case round=>
     obtain⟨k,n',Gk,hkl,rfl,hS,hq,hn'⟩:=hrel
     have S:=Ld hS
     clear hS S4 gA
     by_cases hlt:k<ks.length
     ·have i1:(k:Int)<(ks.length:Int):=by omega
      have i2:(k:Int)<1000000:=by have:=HKN.out;omega
      obtain⟨q1,o1,ta,tn,tc,pa,pn,pc,rfl,hq1,lq,hC,hkt,hkm⟩:=HAT.out wr S.out.r.kp k hlt
      have HD:=Ld (szRs_drop (bi:=binderB op) (nm:=nm) (ρ:=wgC σ c) hlt)
      obtain⟨c0,c1,c2,c3,c4,c5,c6⟩:=hC
      have KR:Kept (fun _=>False) wr (wr.alloc (.cells #[.int .i64 ks[k].op,.string ks[k].name,.int .i64 ks[k].n,.int .i64 ks[k].ty.kind,.string ks[k].ty.name,.slice ta tn tc,.slice pa pn pc] 27)):=kR.alloc _
      have S3:=Ld (S.out.kept KR)
      have bK:=Ld (Blk.new wr 27 [.int .i64 ks[k].op,.string ks[k].name,.int .i64 ks[k].n,.int .i64 ks[k].ty.kind,.string ks[k].ty.name,.slice ta tn tc,.slice pa pn pc])
      change Hid (Blk (wr.alloc (.cells #[.int .i64 ks[k].op,.string ks[k].name,.int .i64 ks[k].n,.int .i64 ks[k].ty.kind,.string ks[k].ty.name,.slice ta tn tc,.slice pa pn pc] 27)) _ _ _) at bK
      have HKT:=Ld (fun W (kw:Kept (fun q=>q=b∨q=Y) wr W)=>hkt.frame (Same.of_kept kw (fun q hq e=>by rcases e with e | e;exact (HOK.out q hq).1 e;exact (HOK.out q hq).2 e)))
      have HKM:=Ld (fun W (kw:Kept (fun q=>q=b∨q=Y) wr W)=>hkm.frame (Same.of_kept kw (fun q hq e=>by rcases e with e | e;exact (HOK.out q hq).1 e;exact (HOK.out q hq).2 e)))
      have KR2:Hid (Kept (fun q=>q=b∨q=Y) wr (wr.alloc (.cells #[.int .i64 ks[k].op,.string ks[k].name,.int .i64 ks[k].n,.int .i64 ks[k].ty.kind,.string ks[k].ty.name,.slice ta tn tc,.slice pa pn pc] 27))):=Ld (KR.mono (fun _ _ e=>e.elim))
      have LBR:Hid (b<wr.heap.size):=Ld (by have:=LB.out.1;have:=S.out.r.kp.size;omega)
      have HPMR:=Ld (fun W (kw:Kept (fun q=>q=b∨q=Y) wr W)=>HPM.out W (S.out.r.kp.trans kw))
      have HK1:=Ld (fun W ck gk (kw:Kept (fun q=>q=b∨q=Y) wr W) nk hb hx hn hc hG=>HIH.out _ (List.getElem_mem hlt) σ ck gk W ok okm _ _ b nk pm np X Y Z (HKT.out W kw) (HKM.out W kw) (HPMR.out W kw) HSG.out hb hx HOK.out HOKM.out HNE.out hn hc hG)
      unfold tmVal at HK1
      have HDM:Hid (tmD ks[k]≤tmDs ks∧tmNs (ks.drop k)=tmN ks[k]+tmNs (ks.drop (k+1))∧1≤tmN ks[k]):=Ld ⟨kid_dn (List.getElem_mem hlt),by rw[List.drop_eq_getElem_cons hlt,tmNs],by cases ks[k] with | mk=>rw[tmN];omega⟩
      clear hkt hkm KR
      generalize ks[k]=u at *
      go_upto_region 9 with (fail)
      clear c0 c1 c2 c3 c4 c5 c6
      generalize wr.alloc (.cells #[.int .i64 u.op,.string u.name,.int .i64 u.n,.int .i64 u.ty.kind,.string u.ty.name,.slice ta tn tc,.slice pa pn pc] 27)=w3 at *
      have gA:=S3.out.a.cell
      have HI:Hid ((binderB op&&k==1)=true→GF=(Gk+szR (wgC σ (fun t=>if t=nm then c nm+1 else c t)) u)+szRs (binderB op) nm (wgC σ c) (k+1) (ks.drop (k+1))):=Ld (fun hin=>by
       rw[hq.out,HD.out,hin,wgC_up];simp only[if_true];omega)
      have HJ:Hid ((binderB op&&k==1)=false→GF=(Gk+szR (wgC σ c) u)+szRs (binderB op) nm (wgC σ c) (k+1) (ks.drop (k+1))):=Ld (fun hin=>by
       rw[hq.out,HD.out,hin];simp only[Bool.false_eq_true,if_false];omega)
      clear hq HD
      go_cut [12] (fun v wc=>v=.bool (binderB op&&k==1)∧wc=w3)
      case first=>
       by_cases hk1:k=1
       ·have hk2:((k:Int)==1)=true:=by simp;omega
        have hk3:(k==1)=true:=by simp[hk1]
        clear hk1
        go_wp2_with fail
        refine (binder_any op _).mono ?_
        rintro e w3' ⟨rfl,rfl⟩
        cases hbo:binderB op
        all_goals
         go_wp2_with fail
         go_meet
         case rel=>exact⟨by rw[hk3,hbo];rfl,rfl⟩
       ·have hk2:((k:Int)==1)=false:=by simp;omega
        have hk3:(k==1)=false:=by simp[hk1]
        clear hk1
        go_wp2_with fail
        refine (binder_any op _).mono ?_
        rintro e w3' ⟨rfl,rfl⟩
        cases hbo:binderB op
        all_goals
         go_wp2_with fail
         go_meet
         case rel=>exact⟨by rw[hk3,hbo];rfl,rfl⟩
      case rest=>
       obtain⟨rfl,rfl⟩:=hcut
       have HNM:Hid (n'+2*tmN u+(if k≤1 then 2 else 0)≤1000000∧(n'+2*tmN u+2*tmNs (ks.drop (k+1))+(if k≤1 then 2 else 0)≤n+2*tmN (.mk op nm N ty ks))):=Ld (by
        have h1:=hn'.out;have h3:=HDM.out.2.1;have h4:=HNB.out
        rw[h3] at h1
        omega)
       clear hn'
       have gZ:∀ i,wc.cell? ⟨Z,i,none⟩=[Value.func (.func 98) #[] #[.pointer (some ⟨X,0,none⟩),.pointer (some ⟨Y,0,none⟩),.pointer (some ⟨Z,0,none⟩)]][i]?:=S3.out.r.bx.z.cell
       cases hin:(binderB op&&k==1)
       ·have HJ2:=Ld (HJ.out hin)
        clear HI HJ hin
        have HC:=Ld (HK1.out wc c Gk KR2.out n' S3.out.r.bo S3.out.r.bx (by have:=HNM.out.1;omega) (fun s=>by have:=HCB.out s;have:=HDM.out.1;omega) (by have:=HJ2.out;have:=HGB.out;omega))
        have gK:=bK.out.cell
        clear gA
        go_wp2_with fail
        clear gK gZ
        refine HC.out.mono ?_
        rintro e w5 ⟨rfl,hR5⟩
        have S5:=Ld (S3.out.step LB.out hR5)
        clear hR5 HC S3 S bK HK1 KR2
        go_wp2_with fail
        go_roundw
        case rel=>exact⟨k+1,_,_,by omega,by go_num,S5.out,HJ2,Ld (by have:=HNM.out.2;split <;> split at this <;> omega)⟩
        case measure=>simp[intOf];omega
       ·have HI2:=Ld (HI.out hin)
        have hk1:k=1:=by
         rw[Bool.and_eq_true] at hin
         simpa using hin.2
        clear HI HJ hin
        obtain⟨f3,hb3,hf3⟩:=S3.out.r.bo
        have HF3:=Ld hf3
        have HNX:Hid (n'+2+2*tmN u+2*tmNs (ks.drop (k+1))≤n+2*tmN (.mk op nm N ty ks)∧n'+2+2*tmN u≤1000000):=Ld (by have h1:=HNM.out.2;have h2:=HNM.out.1;rw[if_pos (by omega)] at h1 h2;omega)
        have HK1E:=Ld hk1
        clear hk1
        have hlk:=hb3.look Tryz.underlying89 (z3 _) HNZ.out
        rw[hf3 nm] at hlk
        have HW1:Hid (wrap64 ((c nm:Int)+1)=((c nm+1:Nat):Int)):=Ld (by have:=HCB.out nm;unfold wrap64;omega)
        have HB3:=Ld hb3
        have HLX:Hid (n'<maxLen∧n'+1+2*tmN u<maxLen):=Ld (by have:=HNX.out.2;unfold maxLen;omega)
        clear hf3 hb3 gZ
        go_upto_region 12 with (at_mapUpdate;refine wpList_storeF rfl _ _ _ _ 3 rfl Tryz.underlying89 rfl HB3.out nm rfl HNZ.out HLX.out.1 (.int .i64 (wrap64 ((c nm:Int)+1))) rfl ?_;intro w4 hm4 k4)
        rw[HW1.out] at hm4
        have S4:=Ld (S3.out.cnt LB.out.1 ⟨HNE.out.1,HNE.out.2.1,HNE.out.2.2.1⟩ hm4 (HF3.out.upd nm (c nm+1)) k4)
        have bK4:=Ld (bK.out.kept k4 (fun e=>by have:=LBR.out;omega))
        have HC:=Ld (HK1.out w4 (fun t=>if t=nm then c nm+1 else c t) Gk (KR2.out.trans (k4.mono (fun _ _ e=>Or.inl e))) (n'+1) S4.out.r.bo S4.out.r.bx (by have:=HNX.out.2;omega) (fun s=>by have h1:=HCB.out s;have h2:=HCB.out nm;have:=HDM.out.1;show (if s=nm then c nm+1 else c s)+_≤_;split <;> omega) (by have:=HI2.out;have:=HGB.out;omega))
        have gK:=bK4.out.cell
        have gZ:∀ i,w4.cell? ⟨Z,i,none⟩=[Value.func (.func 98) #[] #[.pointer (some ⟨X,0,none⟩),.pointer (some ⟨Y,0,none⟩),.pointer (some ⟨Z,0,none⟩)]][i]?:=S4.out.r.bx.z.cell
        clear hm4 k4 hlk HW1 HB3 HF3 S3 gA bK
        go_wp2_with fail
        clear gK gZ
        refine HC.out.mono ?_
        rintro e w5 ⟨rfl,hR5⟩
        have S5:=Ld (S4.out.step LB.out hR5)
        clear hR5 HC S4 S bK4 HK1 KR2
        obtain⟨f5,hb5,hf5⟩:=S5.out.r.bo
        have HF5:=Ld hf5
        have hlk:=hb5.look Tryz.underlying89 (z3 _) HNZ.out
        rw[hf5 nm] at hlk
        simp only[if_true] at hlk
        have HW1:Hid (wrap64 (c nm:Int)=(c nm:Int)):=Ld (by have:=HCB.out nm;unfold wrap64;omega)
        have HB5:=Ld hb5
        have gA:=S5.out.a.cell
        clear hf5 hb5
        go_wp2_with (at_mapUpdate;refine wpList_storeF rfl _ _ _ _ 3 rfl Tryz.underlying89 rfl HB5.out nm rfl HNZ.out HLX.out.2 (.int .i64 (wrap64 (c nm:Int))) rfl ?_;intro w6 hm6 k6;clear gA hlk)
        rw[HW1.out] at hm6
        have S6:=Ld (S5.out.cnt LB.out.1 ⟨HNE.out.1,HNE.out.2.1,HNE.out.2.2.1⟩ hm6 (HF5.out.upd nm (c nm)) k6)
        have HCE:Hid ((fun t=>if t=nm then c nm else if t=nm then c nm+1 else c t)=c):=Ld (by funext t;by_cases ht:t=nm <;> simp[ht])
        rw[HCE.out] at S6
        clear hm6 k6 HW1 HB5 HF5 S5
        go_wp2_with fail
        go_roundw
        case rel=>exact⟨k+1,_,_,by omega,by go_num,S6.out,HI2,Ld (by have:=HNX.out.1;have:=HK1E.out;rw[if_neg (by omega)];omega)⟩
        case measure=>simp[intOf];omega
     ·have hkk:k=ks.length:=by omega
      subst hkk
      have HEQ:Hid (GF=Gk):=Ld (by rw[hq.out,List.drop_length];simp[szRs])
      have gA:=S.out.a.cell
      go_wp2_with fail
      go_end0
      refine⟨rfl,S.out.r.kp,?_,?_⟩
      ·obtain⟨f,hb1,hb2⟩:=S.out.r.bo
       exact⟨f,hb1.mono (by have:=hn'.out;omega),hb2⟩
      ·rw[HEQ.out];exact S.out.r.bx
theorem lim_any {t:Tm} (h:OkTm t):LmC bz t:=by
 induction h with
 | mk hf hn hl ih=>
  rename_i op nm N ty ks
  refine lim_one ih (by omega) (fun h=>?_) (by have:=(formed_sm hf).1;unfold maxLen;omega)
  subst h
  have h1:=(OkTm.mk hf hn hl).nw
  cases h1 with
  | mk h2 _=>exact (h2 rfl).2.2
end Go.Proofs.YtdmebjbkccjhbaaGreatDoor
