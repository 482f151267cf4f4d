/- A part. -/
import Derived.Test.YtdmebjbkccjhbaaGreatDoorK15
import Derived.Test.YtdmebjbkccjhbaaGreatDoorK16
set_option linter.unusedVariables false
set_option linter.unusedSimpArgs false
set_option maxRecDepth 100000
set_option maxHeartbeats 32000000
namespace Go.Proofs.YtdmebjbkccjhbaaGreatDoor
open Go.RowKit
theorem fs_any {a:Tm} {nm:ByteArray} {u:List ByteArray} {w:World} {tk kk vu:Value} (hgl:Gl w) (hp:P10 w) (h1:TyL (fun _=>True) w a.ty.kids tk) (h2:TmL (fun _=>True) w a.kids kk) (ha:SmTm big a) (hnm:nm.size≤maxLen) (hN:NmL (fun _=>True) w u vu) (hu:u.length≤9223372036854775807):
  Calls Tryz.prog 3 #[tmVal a tk kk,.string nm,vu] w (EsOk w):=by
 obtain⟨p0,n0,c0,rfl⟩:=h1.slice
 obtain⟨ma0,mn0,mc0,rfl⟩:=h2.slice
 obtain⟨ua,uc,rfl⟩:=hN.slice
 have hsz:nm.size≤9223372036854775807:=by unfold maxLen at hnm;omega
 have H15:=Ld (fun W (k:Kept (fun _=>False) w W)=>awake_any W (hgl.kept k (fun h=>h) (fun h=>h)))
 have HPF:=Ld (fun W (k:Kept (fun _=>False) w W)=>pfree_any (h1.frame (sK k)) (h2.frame (sK k)) ha)
 have HRF:=Ld (fun W (k:Kept (fun _=>False) w W)=>rFree_any (h1.frame (sK k)) (h2.frame (sK k)) ha)
 have HP1:=Ld (fun (hul:u.length≤800000) W (k:Kept (fun _=>False) w W)=>fresh_any nm (hN.frame (sK k)) hul hsz (hp.kept k))
 have HR1:=Ld (fun (hul:u.length≤800000) W (k:Kept (fun _=>False) w W)=>rfresh_any nm (hN.frame (sK k)) hul hsz)
 have HNM:=Ld (fun (hul:u.length≤800000) W=>rnamed_t (freshS_named (name:=nm) hul) (by have:=named_sz (freshS_named (name:=nm) hul);omega) W)
 have B0:Hid (Blk (w.alloc (.cells #[.int .i64 a.op,.string a.name,.int .i64 a.n,.int .i64 a.ty.kind,.string a.ty.name,.slice p0 n0 c0,.slice ma0 mn0 mc0] 27)) w.heap.size 27 [Value.int .i64 a.op,.string a.name,.int .i64 a.n,.int .i64 a.ty.kind,.string a.ty.name,.slice p0 n0 c0,.slice ma0 mn0 mc0]∧Kept (fun _=>False) w (w.alloc (.cells #[.int .i64 a.op,.string a.name,.int .i64 a.n,.int .i64 a.ty.kind,.string a.ty.name,.slice p0 n0 c0,.slice ma0 mn0 mc0] 27))):=Ld ⟨Blk.new w 27 _,kR.alloc _⟩
 have HFL:=Ld (freS_len a)
 clear h1 h2 ha hN hgl hp hnm hsz
 unfold PFr tmVal at HPF
 unfold tmVal at HRF
 unfold tmVal
 generalize hq:freS a=q at *
 clear hq
 generalize freshS nm u=f at *
 go_enter Tryz.func3,Tryz.ntmps3
 by_cases hul:300<u.length
 case pos=>
  have i1:(300:Int)<(u.length:Int):=by omega
  have K1:=Ld B0.out.2
  clear HPF HRF HP1 HR1 HNM HFL hul B0
  go_upto_region 2 with (fail)
  generalize w.alloc (.cells #[.int .i64 a.op,.string a.name,.int .i64 a.n,.int .i64 a.ty.kind,.string a.ty.name,.slice p0 n0 c0,.slice ma0 mn0 mc0] 27)=w1 at *
  go_wp2_with fail
  refine (H15.out w1 K1.out).mono ?_
  rintro e w9 ⟨rfl,k9⟩
  have K9:=Ld (K1.out.trans k9)
  clear k9
  go_wp2_with fail
  go_ret
  exact⟨rfl,K9.out⟩
 case neg=>
  have i1:¬ (300:Int)<(u.length:Int):=by omega
  have hul2:u.length≤800000:=by omega
  have HP2:=Ld (HP1.out hul2)
  have HR2:=Ld (HR1.out hul2)
  have HN2:=Ld (HNM.out hul2)
  clear HP1 HR1 HNM hul hul2
  go_upto_region 3 with (fail)
  clear i1
  generalize w.alloc (.cells #[.int .i64 a.op,.string a.name,.int .i64 a.n,.int .i64 a.ty.kind,.string a.ty.name,.slice p0 n0 c0,.slice ma0 mn0 mc0] 27)=w1 at *
  go_wp2_with fail
  refine (HP2.out w1 B0.out.2).mono ?_
  rintro e w2 ⟨rfl,k2⟩
  have B2:Hid (Blk w2 w.heap.size 27 [Value.int .i64 a.op,.string a.name,.int .i64 a.n,.int .i64 a.ty.kind,.string a.ty.name,.slice p0 n0 c0,.slice ma0 mn0 mc0]∧Kept (fun _=>False) w w2):=Ld ⟨B0.out.1.kept k2 (fun h=>h),B0.out.2.trans k2⟩
  clear B0 k2 HP2
  go_upto_region 4 with (fail)
  go_cut [8,9] (fun v v' wc=>Kept (fun _=>False) w wc∧∃ xa xc ya yc,v=.slice xa q.length xc∧v'=.slice ya q.length yc∧NmL (fun _=>True) wc q (.slice xa q.length xc)∧NmL (fun _=>True) wc q (.slice ya q.length yc))
  case first=>
   have KD:Kept (fun _=>False) w2 w2.drew:=kR.drew
   have gA:∀ i,w2.cell? ⟨w.heap.size,i,none⟩=[Value.int .i64 a.op,.string a.name,.int .i64 a.n,.int .i64 a.ty.kind,.string a.ty.name,.slice p0 n0 c0,.slice ma0 mn0 mc0][i]?:=B2.out.1.cell
   go_region_law (first
    | (go_simp;go_at_call 11;refine (HPF.out _ (B2.out.2.trans KD)).mono ?_;rintro e w3 ⟨xa,xc,rfl,hx,k3⟩;have K3:=Ld (KD.trans k3);have HX:=Ld (hx.mono (ok':=fun _=>True) (fun _ _ _=>trivial));clear hx k3;have gB:∀ i,w3.cell? ⟨w.heap.size,i,none⟩=[Value.int .i64 a.op,.string a.name,.int .i64 a.n,.int .i64 a.ty.kind,.string a.ty.name,.slice p0 n0 c0,.slice ma0 mn0 mc0][i]?:=(B2.out.1.kept K3.out (fun h=>h)).cell)
    | (go_simp;go_at_call 12;refine (HRF.out _ (B2.out.2.trans K3.out)).mono ?_;rintro e w4 ⟨v4,rfl,hr4⟩;have K4:=Ld (K3.out.trans hr4.kp);have HX4:=Ld (HX.out.frame (sK hr4.kp));obtain⟨ya,yc,hv4⟩:=hr4.nml.slice;subst hv4;have HY4:=Ld (hr4.nml.mono (ok':=fun _=>True) (fun _ _ _=>trivial));clear hr4))
   all_goals (try go_wp2_with fail)
   all_goals go_meet
   all_goals exact⟨B2.out.2.trans K4.out,xa,xc,ya,yc,rfl,rfl,HX4.out,HY4.out⟩
  case rest=>
   obtain⟨hk,xa,xc,ya,yc,rfl,rfl,hx,hy⟩:=hcut
   have K5:=Ld hk
   have HX:=Ld (fun W (k:Kept (fun _=>False) wc W)=>(hx.frame (sK k)).at)
   have HY:=Ld (fun W (k:Kept (fun _=>False) wc W)=>(hy.frame (sK k)).at)
   clear hk hx hy HPF HRF B2
   go_wp2_with fail
   go_loopw [10] (fun i wr=>∃ j:Nat,j≤q.length∧i=.int .i64 j∧Kept (fun _=>False) wc wr) (fun i _=>q.length-(intOf i).toNat)
   case atStart=>exact⟨0,Nat.zero_le _,rfl,Kept.refl _ _⟩
   case round=>
    obtain⟨j,hj,rfl,kr⟩:=hrel
    by_cases hlt:j<q.length
    ·obtain⟨g,off,rfl,_,hc1⟩:=HX.out wr kr j hlt
     obtain⟨g',off',rfl,_,hc2⟩:=HY.out wr kr j hlt
     have hj2:(j:Int)<(q.length:Int):=by omega
     have hj3:(j:Int)<1000000:=by have:=HFL.out;omega
     have hbe:(q[j].toList==q[j].toList)=true:=by simp
     generalize q[j]=x at *
     have KR:=Ld kr
     clear kr HX HY
     go_upto_region 10 with (fail)
     go_quiet (fail)
     have k6:Kept (fun _=>False) wr (World.drewN wr nq):=kR.drewN nq
     generalize World.drewN wr nq=w6 at *
     go_wp2_with fail
     go_roundw
     case rel=>exact⟨j+1,by omega,by go_num,KR.out.trans k6⟩
     case measure=>simp[intOf];omega
    ·have hj2:¬ (j:Int)<(q.length:Int):=by omega
     have K7:=Ld (K5.out.trans kr)
     clear HX HY kr hlt
     go_wp2_with fail
     refine (HR2.out wr K7.out).mono ?_
     rintro e w8 ⟨rfl,k8⟩
     have K8:=Ld (K7.out.trans k8)
     clear k8
     go_wp2_with fail
     refine (HN2.out w8).mono ?_
     rintro e w9 ⟨rfl,k9⟩
     have K9:=Ld (K8.out.trans k9)
     clear k9
     go_wp2_with fail
     refine (H15.out w9 K9.out).mono ?_
     rintro e w10 ⟨rfl,k10⟩
     have K10:=Ld (K9.out.trans k10)
     clear k10
     go_wp2_with fail
     go_ret
     exact⟨rfl,K10.out⟩
end Go.Proofs.YtdmebjbkccjhbaaGreatDoor
namespace Go.Proofs.YtdmebjbkccjhbaaGreatDoor
open Go.ChangeShapes Go.WideShapes Go.ChangeAt Go.RowKit
section
variable {H:Type} {enc:TypeId×Value→H} {w:World} {spare:Nat→Bool} {held:Bool}
theorem open_names {fuel:Nat} {a:Option Addr} {n c:Nat} {x:DataW H×List MemPlace} (h:DataW.trod enc Tryz.prog w 0 spare held fuel 28 [.slice a n c]=some x):
  ∃ (l:List ByteArray) (v:Value),v=.slice a n c∧NmL (fun _=>True) w l v∧l.length≤9223372036854775807:=by
 rcases DataW.trod_slice Tryz.underlying28 h with ⟨hc,-⟩ | ⟨a',len,cap,elems,rest,m,rfl,hc,-,-,hl,hm,hel,helt,-,-⟩
 ·cases hc
  exact⟨[],_,rfl,.nil,Nat.zero_le _⟩
 ·cases hc
  by_cases h0:n=0
  ·subst h0
   exact⟨[],_,rfl,⟨_,_,_,rfl,rfl,Nat.zero_le _,(fun e=>by cases e),fun i hi=>absurd hi (Nat.not_lt_zero _)⟩,Nat.zero_le _⟩
  ·rw[cells_9] at helt
   obtain⟨b,o,rfl,hat⟩:=elems_at hel (by decide) helt (by omega)
   have iB:Inhabited ByteArray:=⟨⟨#[]⟩⟩
   obtain⟨F,hF⟩:=Go.Deep.choose_lt (α:=ByteArray) (n:=n) (p:=fun i q=>w.cell? ⟨b,o+i,none⟩=some (.string q)) (fun i hi=>by
    obtain⟨cs,y,hcl,hcell,hy⟩:=hat i hi
    obtain⟨s,hs,-,-⟩:=DataW.trod_string Tryz.underlying9 hy
    have h1:=hcell 0 (by decide)
    rw[Nat.mul_one,Nat.add_zero] at h1
    refine⟨s,h1.trans ?_⟩
    have h2:cs=[.string s]:=by first | exact hs | (rw[hs])
    subst h2;rfl)
   refine⟨(List.range n).map F,_,rfl,⟨_,_,_,rfl,by simp,by omega,(fun e=>by cases e),fun i hi=>⟨b,o,rfl,trivial,?_⟩⟩,by unfold maxLen at hm;simp;omega⟩
   have hi':i<n:=by simpa using hi
   rw[hF i hi']
   simp
end
theorem arg_names {H:Type} {enc:TypeId×Value→H} {W:World} {v:Value} {d:DataW H} {p:List MemPlace} {r:Reach} {b0:Nat} (hval:Value.okWide Tryz.prog W r b0 28 v) (h:DataW.Trod enc Tryz.prog W 0 (fun _=>true) true 28 v d p):
  ∃ l:List ByteArray,NmL (fun _=>True) W l v∧l.length≤9223372036854775807:=by
 obtain⟨a,n,c,rfl⟩:=Go.WideShapes.okWide_slice Tryz.underlying28 hval
 obtain⟨fuel,h⟩:=h
 obtain⟨l,v,rfl,h1,h2⟩:=open_names (a:=a) (n:=n) (c:=c) h
 exact⟨l,h1,h2⟩
theorem back_names {H:Type} {enc:TypeId×Value→H} {W W':World} {v:Value} {d:DataW H} {p:List MemPlace} (h:DataW.Trod enc Tryz.prog W 0 (fun _=>true) true 28 v d p) (k:Kept (fun _=>False) W W') (hlt:∀ x∈p,x.block<W.heap.size):
  DataW.Trod enc Tryz.prog W' 0 (fun b=>decide (b<W.heap.size)) true 28 v d p:=back_of (by kernel_rfl) (size_ok (by decide)) h k hlt
end Go.Proofs.YtdmebjbkccjhbaaGreatDoor
