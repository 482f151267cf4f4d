/- A part. -/
import Derived.Test.YtdmebjbkccjhbaaGreatDoorV14
import Derived.StillTailTactics
import Derived.Lib.SliceRun
import Derived.Laws.EntriesVeiled
set_option linter.unusedVariables false
set_option linter.unusedSimpArgs false
set_option maxRecDepth 100000
set_option maxHeartbeats 32000000
namespace Go.Proofs.YtdmebjbkccjhbaaGreatDoor
open Go.RowKit
variable {bz:Nat}
def wgS (σ:ByteArray→Option Tm) (s:ByteArray):Nat:=match σ s with | some u=>tmN u | none=>1
def wgC (σ:ByteArray→Option Tm) (c:ByteArray→Nat):ByteArray→Nat:=fun s=>if c s=0 then wgS σ s else 1
theorem wgC_up (σ:ByteArray→Option Tm) (c:ByteArray→Nat) (nm:ByteArray):wgC σ (fun t=>if t=nm then c nm+1 else c t)=upW nm (wgC σ c):=by
 funext s
 unfold wgC upW
 by_cases h:s=nm
 ·simp[h]
 ·simp[h]
def ndW (σ:ByteArray→Option Tm) (c:ByteArray→Nat) (op:Int) (nm:ByteArray):Nat:=if op=20 then wgC σ c nm else 1
theorem szR_nd {σ:ByteArray→Option Tm} {c:ByteArray→Nat} {op:Int} {nm:ByteArray} {N:Int} {ty:Ty} {ks:List Tm} (h20:op=20→ks=[]):szR (wgC σ c) (.mk op nm N ty ks)=ndW σ c op nm+szRs (binderB op) nm (wgC σ c) 0 (ks.drop 0):=by
 rw[szR]
 unfold ndW
 by_cases ho:op=20
 ·rw[if_pos ho,if_pos ho,h20 ho];rfl
 ·rw[if_neg ho,if_neg ho,List.drop_zero];omega
theorem szRs_drop {bi:Bool} {nm:ByteArray} {ρ:ByteArray→Nat} {ks:List Tm} {k:Nat} (h:k<ks.length):szRs bi nm ρ k (ks.drop k)=szR (if bi&&k==1 then upW nm ρ else ρ) ks[k]+szRs bi nm ρ (k+1) (ks.drop (k+1)):=by
 rw[List.drop_eq_getElem_cons h,szRs]
structure LmX (X Y Z pm:Nat) (G:Nat) (W:World):Prop where
 x:Blk W X 77 [.map (some pm)]
 y:Blk W Y 3 [.int .i64 G]
 z:Blk W Z 126 [.func (.func 98) #[] #[.pointer (some ⟨X,0,none⟩),.pointer (some ⟨Y,0,none⟩),.pointer (some ⟨Z,0,none⟩)]]
structure LmR (b X Y Z pm n:Nat) (c:ByteArray→Nat) (G:Nat) (w w':World):Prop where
 kp:Kept (fun q=>q=b∨q=Y) w w'
 bo:∃ f,MapF w' b n f∧CntF f c
 bx:LmX X Y Z pm G w'
def LmC (bz:Nat) (t:Tm):Prop:=∀ (σ:ByteArray→Option Tm) (c:ByteArray→Nat) (G:Nat) (w:World) (ok okm:Nat→Prop) (tk kk:Value) (b n pm np X Y Z:Nat),TyL bz ok w t.ty.kids tk→TmL bz ok w t.kids kk→PrM bz okm w pm np σ→SgOk σ→(∃ f,MapF w b n f∧CntF f c)→LmX X Y Z pm G w →
 (∀ q,ok q→q≠b∧q≠Y)→(∀ q,okm q→q≠b∧q≠Y)→(b≠Y∧b≠X∧b≠Z∧b≠pm∧Y≠X∧Y≠Z∧Y≠pm)→n+2*tmN t≤1000000→(∀ s,c s+tmD t≤1000000)→G+szR (wgC σ c) t≤1000000000 →
 Calls Tryz.prog 98 #[tmVal t tk kk,.map (some b),.pointer (some ⟨X,0,none⟩),.pointer (some ⟨Y,0,none⟩),.pointer (some ⟨Z,0,none⟩)] w fun e w'=>e=.returned (.tuple #[])∧LmR b X Y Z pm (n+2*tmN t) c (G+szR (wgC σ c) t) w w'
structure LmS (w:World) (ce:List Value) (b X Y Z pm n:Nat) (c:ByteArray→Nat) (G:Nat) (W:World):Prop where
 r:LmR b X Y Z pm n c G w W
 a:Blk W w.heap.size 27 ce
theorem LmX.kept {X Y Z pm G:Nat} {W W':World} (h:LmX X Y Z pm G W) {S:Nat→Prop} (k:Kept S W W') (h1:¬ S X) (h2:¬ S Y) (h3:¬ S Z):LmX X Y Z pm G W':=⟨h.x.kept k h1,h.y.kept k h2,h.z.kept k h3⟩
section
variable {w W W':World} {ce:List Value} {b X Y Z pm n n':Nat} {c c':ByteArray→Nat} {G G':Nat}
theorem LmS.kept (h:LmS w ce b X Y Z pm n c G W) (k:Kept (fun _=>False) W W'):LmS w ce b X Y Z pm n c G W':=by
 obtain⟨⟨h1,⟨f,h2,h3⟩,h4⟩,h5⟩:=h
 exact⟨⟨h1.trans (k.mono (fun _ _ e=>e.elim)),⟨f,h2.kept k (fun e=>e),h3⟩,h4.kept k (fun e=>e) (fun e=>e) (fun e=>e)⟩,h5.kept k (fun e=>e)⟩
theorem LmS.step (h:LmS w ce b X Y Z pm n c G W) (hl:b<w.heap.size∧Y<w.heap.size) (r:LmR b X Y Z pm n' c' G' W W'):LmS w ce b X Y Z pm n' c' G' W':=
 ⟨⟨h.r.kp.trans r.kp,r.bo,r.bx⟩,h.a.kept r.kp (fun e=>by rcases e with e | e <;> omega)⟩
theorem LmS.cnt (h:LmS w ce b X Y Z pm n c G W) (hl:b<w.heap.size) (hd:b≠Y∧b≠X∧b≠Z) {f':ByteArray→Option Value} (hm:MapF W' b n' f') (hf:CntF f' c') (k:Kept (fun q=>q=b) W W'):LmS w ce b X Y Z pm n' c' G W':=
 ⟨⟨h.r.kp.trans (k.mono (fun _ _ e=>Or.inl e)),⟨f',hm,hf⟩,h.r.bx.kept k (fun e=>hd.2.1 e.symm) (fun e=>hd.1 e.symm) (fun e=>hd.2.2 e.symm)⟩,h.a.kept k (fun e=>by omega)⟩
theorem LmS.grow (h:LmS w ce b X Y Z pm n c G W) (hl:Y<w.heap.size) (hd:b≠Y∧Y≠X∧Y≠Z) (G':Nat):LmS w ce b X Y Z pm n c G' (W.setCell ⟨Y,0,none⟩ (.int .i64 G')):=by
 have k:Kept (fun q=>q=Y) W (W.setCell ⟨Y,0,none⟩ (.int .i64 G')):=(Kept.refl (fun q=>q=Y) W).setCell (p:=⟨Y,0,none⟩) (Or.inl rfl) _
 obtain⟨f,h1,h2⟩:=h.r.bo
 exact⟨⟨h.r.kp.trans (k.mono (fun _ _ e=>Or.inr e)),⟨f,h1.kept k (fun e=>hd.1 e),h2⟩,⟨h.r.bx.x.kept k (fun e=>hd.2.1 e.symm),h.r.bx.y.set 0 _,h.r.bx.z.kept k (fun e=>hd.2.2 e.symm)⟩⟩,h.a.kept k (fun e=>by omega)⟩
end
theorem lim_one {op:Int} {nm:ByteArray} {N:Int} {ty:Ty} {ks:List Tm} (IH:∀ u,u∈ks→LmC bz u) (hkn:ks.length≤1000000) (h20:op=20→ks=[]) (hnz:nm.size≤maxLen):LmC bz (.mk op nm N ty ks):=by
 intro σ c G w ok okm tk kk b n pm np X Y Z h1 h2 hpm hσ hb hx hok hokm hne hn hc hG
 have h1:TyL bz ok w ty.kids tk:=h1
 have h2:TmL bz ok w ks kk:=h2
 obtain⟨a,an,ac,rfl⟩:=h1.slice
 obtain⟨ma,mn,mc,rfl⟩:=h2.slice
 change Calls Tryz.prog 98 #[.agg #[.int .i64 op,.string nm,.int .i64 N,.int .i64 ty.kind,.string ty.name,.slice a an ac,.slice ma mn mc],.map (some b),.pointer (some ⟨X,0,none⟩),.pointer (some ⟨Y,0,none⟩),.pointer (some ⟨Z,0,none⟩)] w _
 obtain rfl:mn=ks.length:=h2.len
 have K0:Kept (fun _=>False) w (w.alloc (.cells #[.int .i64 op,.string nm,.int .i64 N,.int .i64 ty.kind,.string ty.name,.slice a an ac,.slice ma ks.length mc] 27)):=kR.alloc _
 have S1:Hid (LmS w [Value.int .i64 op,.string nm,.int .i64 N,.int .i64 ty.kind,.string ty.name,.slice a an ac,.slice ma ks.length mc] b X Y Z pm n c G (w.alloc (.cells #[.int .i64 op,.string nm,.int .i64 N,.int .i64 ty.kind,.string ty.name,.slice a an ac,.slice ma ks.length mc] 27))):=Ld (by
  obtain⟨f,hb1,hb2⟩:=hb
  exact⟨⟨K0.mono (fun _ _ e=>e.elim),⟨f,hb1.kept K0 (fun e=>e),hb2⟩,hx.kept K0 (fun e=>e) (fun e=>e) (fun e=>e)⟩,Blk.new w 27 _⟩)
 have HAT:=Ld (fun W (k:Kept (fun q=>q=b∨q=Y) w W)=>(h2.frame (Same.of_kept k (fun q hq e=>by rcases e with e | e;exact (hok q hq).1 e;exact (hok q hq).2 e))).at)
 have HPM:=Ld (fun W (k:Kept (fun q=>q=b∨q=Y) w W)=>hpm.kept k (fun e=>by rcases e with e | e;exact hne.2.2.2.1 e.symm;exact hne.2.2.2.2.2.2 e.symm) (fun q hq e=>by rcases e with e | e;exact (hokm q hq).1 e;exact (hokm q hq).2 e))
 have LB:Hid (b<w.heap.size∧Y<w.heap.size):=Ld ⟨by obtain⟨f,hb1,_⟩:=hb;exact hb1.lt,hx.y.lt⟩
 have HNE:=Ld hne
 have HOK:=Ld hok
 have HOKM:=Ld hokm
 have HSG:=Ld hσ
 have HIH:=Ld IH
 have HKN:=Ld hkn
 have HN0:Hid (n+2*tmNs ks+2≤n+2*tmN (.mk op nm N ty ks)):=Ld (by rw[tmN];omega)
 have HNB:=Ld hn
 have HNZ:=Ld hnz
 have HCB:Hid (∀ s,c s+tmDs ks+1≤1000000):=Ld (fun s=>by have:=hc s;rw[tmD] at this;omega)
 have HSZ:=Ld (szR_nd (σ:=σ) (c:=c) (nm:=nm) (N:=N) (ty:=ty) h20)
 have HGB:=Ld hG
 clear h1 h2 hpm hσ hb hx hok hokm hne hn hc hG IH hkn h20 hnz K0
 obtain⟨GF,hGF⟩:∃ GF,GF=G+szR (wgC σ c) (.mk op nm N ty ks):=⟨_,rfl⟩
 rw[← hGF] at HGB
 rw[← hGF]
 have HGF:Hid (GF=(G+ndW σ c op nm)+szRs (binderB op) nm (wgC σ c) 0 (ks.drop 0)):=Ld (by rw[hGF,HSZ.out];omega)
 clear hGF HSZ
 go_enter Tryz.func98,Tryz.ntmps98
 go_upto_region 1 with (fail)
 generalize w.alloc (.cells #[.int .i64 op,.string nm,.int .i64 N,.int .i64 ty.kind,.string ty.name,.slice a an ac,.slice ma ks.length mc] 27)=w1 at *
 go_upto_region 2 with (fail)
 go_cut [8,9] (fun v8 v9 wd=>∃ B8,v8=.pointer (some ⟨B8,0,none⟩)∧v9=.bool (σ nm).isSome∧LmS w [Value.int .i64 op,.string nm,.int .i64 N,.int .i64 ty.kind,.string ty.name,.slice a an ac,.slice ma ks.length mc] b X Y Z pm n c G wd∧(∀ v,σ nm=some v→∃ xa xn xc za zn zc,Blk wd B8 27 [Value.int .i64 v.op,.string v.name,.int .i64 v.n,.int .i64 v.ty.kind,.string v.ty.name,.slice xa xn xc,.slice za zn zc]∧TyL bz okm wd v.ty.kids (.slice xa xn xc)∧TmL bz okm wd v.kids (.slice za zn zc)))
 case first=>
  obtain⟨fp,hfp,hvp⟩:=HPM.out w1 S1.out.r.kp
  have hlk:=hfp.look_ok Tryz.underlying77 (z28 _) HNZ.out
  have gA:=S1.out.a.cell
  have gX:∀ i,w1.cell? ⟨X,i,none⟩=[Value.map (some pm)][i]?:=S1.out.r.bx.x.cell
  have h3:=PrM.some_iff hvp nm
  cases hs:σ nm with
  | none=>
   have hfn:fp nm=none:=by cases h:fp nm with
    | none=>rfl
    | some u=>rw[h,hs] at h3;cases h3
   rw[hfn] at hlk
   change _=Result.ok (Value.tuple #[.agg #[.int .i64 0,.string ⟨#[]⟩,.int .i64 0,.int .i64 0,.string ⟨#[]⟩,.slice none 0 0,.slice none 0 0],.bool false]) w1 at hlk
   clear hvp h3 hfn hfp
   have KZ:Hid (Kept (fun _=>False) w1 (w1.alloc Z7)):=Ld (kR.alloc _)
   go_wp2_with fail
   go_meet
   case rel=>exact⟨_,rfl,by rw[hs];rfl,S1.out.kept KZ.out,fun v h=>by rw[hs] at h;cases h⟩
  | some v=>
   have h4:=hvp nm
   rw[hs] at h4
   obtain⟨xa,xn,xc,za,zn,zc,hfn,hty,htm⟩:=h4
   rw[hfn] at hlk
   change _=Result.ok (Value.tuple #[.agg #[.int .i64 v.op,.string v.name,.int .i64 v.n,.int .i64 v.ty.kind,.string v.ty.name,.slice xa xn xc,.slice za zn zc],.bool true]) w1 at hlk
   have HTY:=Ld hty
   have HTM:=Ld htm
   clear hvp h3 hfn hfp hty htm
   have KZ:Hid (Kept (fun _=>False) w1 (w1.alloc (.cells #[.int .i64 v.op,.string v.name,.int .i64 v.n,.int .i64 v.ty.kind,.string v.ty.name,.slice xa xn xc,.slice za zn zc] 27))):=Ld (kR.alloc _)
   have bU:Hid (Blk (w1.alloc (.cells #[.int .i64 v.op,.string v.name,.int .i64 v.n,.int .i64 v.ty.kind,.string v.ty.name,.slice xa xn xc,.slice za zn zc] 27)) w1.heap.size 27 [Value.int .i64 v.op,.string v.name,.int .i64 v.n,.int .i64 v.ty.kind,.string v.ty.name,.slice xa xn xc,.slice za zn zc]):=Ld (Blk.new w1 27 _)
   go_wp2_with fail
   go_meet
   case rel=>exact⟨_,rfl,by rw[hs];rfl,S1.out.kept KZ.out,fun v' h=>by rw[hs] at h;cases h;exact⟨xa,xn,xc,za,zn,zc,bU.out,HTY.out.frame (sK KZ.out),HTM.out.frame (sK KZ.out)⟩⟩
 case rest=>
  obtain⟨B8,rfl,rfl,hS2,hU⟩:=hcut
  have S2:=Ld hS2
  have HU:=Ld hU
  clear hS2 hU S1
  generalize wc=w2 at *
  obtain⟨f1,hb1,hf1⟩:=S2.out.r.bo
  have hlk:=hb1.look Tryz.underlying89 (z3 _) HNZ.out
  rw[hf1 nm] at hlk
  have gA:=S2.out.a.cell
  clear hf1 hb1
  generalize hsm:(σ nm).isSome=sm at *
  have HSM:=Ld hsm
  clear hsm
  go_upto_region 3 with (fail)
  go_cut [32] (fun v wd=>v=.bool (sm&&decide (op=20)&&decide (c nm=0))∧wd=w2)
  case first=>
   cases sm
   ·go_wp2_with fail
    go_meet
    case rel=>exact⟨by rfl,rfl⟩
   ·by_cases ho:op=20
    ·have ho1:(op==20)=true:=by simp[ho]
     by_cases hc0:c nm=0
     ·have hc1:((c nm:Int)==0)=true:=by simp[hc0]
      have HC0:=Ld hc0
      have HO:=Ld ho
      clear hc0 ho
      go_wp2_with fail
      go_meet
      case rel=>exact⟨by rw[decide_eq_true HO.out,decide_eq_true HC0.out];rfl,rfl⟩
     ·have hc1:((c nm:Int)==0)=false:=by simp;exact hc0
      have HC0:=Ld hc0
      have HO:=Ld ho
      clear hc0 ho
      go_wp2_with fail
      go_meet
      case rel=>exact⟨by rw[decide_eq_false HC0.out];simp,rfl⟩
    ·have ho1:(op==20)=false:=by simp[ho]
     have HO:=Ld ho
     clear ho
     go_wp2_with fail
     go_meet
     case rel=>exact⟨by rw[decide_eq_false HO.out];simp,rfl⟩
  case rest=>
   obtain⟨rfl,hwc⟩:=hcut
   subst hwc
   clear hlk gA
   generalize hq0:(sm&&decide (op=20)&&decide (c nm=0))=q0 at *
   have HQ0:=Ld hq0
   clear hq0
   go_upto_if 32 with (fail)
   go_cut [7] (fun v wd=>v=.int .i64 (ndW σ c op nm)∧LmS w [Value.int .i64 op,.string nm,.int .i64 N,.int .i64 ty.kind,.string ty.name,.slice a an ac,.slice ma ks.length mc] b X Y Z pm n c G wd)
   case first=>
    cases q0
    ·have HW1:Hid (ndW σ c op nm=1):=Ld (by
      have h:=HQ0.out
      unfold ndW wgC wgS
      by_cases ho:op=20
      ·rw[if_pos ho]
       by_cases hc0:c nm=0
       ·rw[if_pos hc0]
        cases hs:σ nm with
        | none=>rfl
        | some u=>rw[HSM.out.symm,hs] at h;simp[ho,hc0] at h
       ·rw[if_neg hc0]
      ·rw[if_neg ho])
     go_wp2_with fail
     go_meet
     case rel=>exact⟨by rw[HW1.out];rfl,S2.out⟩
    ·have HQ1:Hid (op=20∧c nm=0∧(σ nm).isSome=true):=Ld (by
      have h:=HQ0.out
      simp only[Bool.and_eq_true,decide_eq_true_eq] at h
      exact⟨h.1.2,h.2,by rw[HSM.out];exact h.1.1⟩)
     obtain⟨v,hv⟩:=Option.isSome_iff_exists.1 HQ1.out.2.2
     obtain⟨xa,xn,xc,za,zn,zc,hB8,hty,htm⟩:=HU.out v hv
     have HW1:Hid (ndW σ c op nm=tmN v):=Ld (by unfold ndW wgC wgS;rw[if_pos HQ1.out.1,if_pos HQ1.out.2.1,hv])
     have HC:=Ld (size_any (bz:=bz) v wc okm _ _ (by have:=(HSG.out nm v hv).2.1;omega) hty htm)
     unfold tmVal at HC
     have g8:=hB8.cell
     clear hty htm hB8 hv
     go_wp2_with fail
     refine HC.out.mono ?_
     rintro e w3 ⟨rfl,k3⟩
     have S3:=Ld (S2.out.kept k3)
     clear k3 HC g8
     go_wp2_with fail
     go_meet
     case rel=>exact⟨by rw[HW1.out],S3.out⟩
   case rest=>
    obtain⟨rfl,hS3⟩:=hcut
    have S3:=Ld hS3
    have HWB:Hid (G+ndW σ c op nm≤1000000000):=Ld (by have:=HGF.out;have:=HGB.out;omega)
    clear hS3 S2 HU HQ0
    generalize wc=w3 at *
    have gY:∀ i,w3.cell? ⟨Y,i,none⟩=[Value.int .i64 G][i]?:=S3.out.r.bx.y.cell
    have fY:=S3.out.r.bx.y.frozen
    have hgw:Hid (wrap64 ((G:Int)+(ndW σ c op nm:Int))=((G+ndW σ c op nm:Nat):Int)):=Ld (by have:=HWB.out;unfold wrap64;omega)
    have S4:=Ld (S3.out.grow LB.out.2 ⟨HNE.out.1,HNE.out.2.2.2.2.1,HNE.out.2.2.2.2.2.1⟩ (G+ndW σ c op nm))
    rw[← hgw.out] at S4
    go_upto_region 6 with (fail)
    generalize w3.setCell ⟨Y,0,none⟩ (.int .i64 (wrap64 ((G:Int)+(ndW σ c op nm:Int))))=w4 at *
    clear gY fY hgw S3
    have gA:=S4.out.a.cell
    go_wp2_with fail
    go_loopw [44] (fun i wr=>∃ (k n' Gk:Nat),k≤ks.length∧i=.int .i64 k∧LmS w [Value.int .i64 op,.string nm,.int .i64 N,.int .i64 ty.kind,.string ty.name,.slice a an ac,.slice ma ks.length mc] b X Y Z pm n' c Gk wr∧Hid (GF=Gk+szRs (binderB op) nm (wgC σ c) k (ks.drop k))∧Hid (n'+2*tmNs (ks.drop k)+(if k≤1 then 2 else 0)≤n+2*tmN (.mk op nm N ty ks))) (fun i _=>ks.length-(intOf i).toNat)
    case atStart=>exact⟨0,n,_,Nat.zero_le _,rfl,S4.out,HGF,Ld (by have:=HN0.out;simpa using this)⟩
    case round=>
     obtain⟨k,n',Gk,hkl,rfl,hS,hq,hn'⟩:=hrel
     have S:=Ld hS
     clear hS S4 gA
     by_cases hlt:k<ks.length
     ·have i1:(k:Int)<(ks.length:Int):=by omega
      have i2:(k:Int)<1000000:=by have:=HKN.out;omega
      obtain⟨q1,o1,ta,tn,tc,pa,pn,pc,rfl,hq1,lq,hC,hkt,hkm⟩:=HAT.out wr S.out.r.kp k hlt
      have HD:=Ld (szRs_drop (bi:=binderB op) (nm:=nm) (ρ:=wgC σ c) hlt)
      obtain⟨c0,c1,c2,c3,c4,c5,c6⟩:=hC
      have KR:Kept (fun _=>False) wr (wr.alloc (.cells #[.int .i64 ks[k].op,.string ks[k].name,.int .i64 ks[k].n,.int .i64 ks[k].ty.kind,.string ks[k].ty.name,.slice ta tn tc,.slice pa pn pc] 27)):=kR.alloc _
      have S3:=Ld (S.out.kept KR)
      have bK:=Ld (Blk.new wr 27 [.int .i64 ks[k].op,.string ks[k].name,.int .i64 ks[k].n,.int .i64 ks[k].ty.kind,.string ks[k].ty.name,.slice ta tn tc,.slice pa pn pc])
      change Hid (Blk (wr.alloc (.cells #[.int .i64 ks[k].op,.string ks[k].name,.int .i64 ks[k].n,.int .i64 ks[k].ty.kind,.string ks[k].ty.name,.slice ta tn tc,.slice pa pn pc] 27)) _ _ _) at bK
      have HKT:=Ld (fun W (kw:Kept (fun q=>q=b∨q=Y) wr W)=>hkt.frame (Same.of_kept kw (fun q hq e=>by rcases e with e | e;exact (HOK.out q hq).1 e;exact (HOK.out q hq).2 e)))
      have HKM:=Ld (fun W (kw:Kept (fun q=>q=b∨q=Y) wr W)=>hkm.frame (Same.of_kept kw (fun q hq e=>by rcases e with e | e;exact (HOK.out q hq).1 e;exact (HOK.out q hq).2 e)))
      have KR2:Hid (Kept (fun q=>q=b∨q=Y) wr (wr.alloc (.cells #[.int .i64 ks[k].op,.string ks[k].name,.int .i64 ks[k].n,.int .i64 ks[k].ty.kind,.string ks[k].ty.name,.slice ta tn tc,.slice pa pn pc] 27))):=Ld (KR.mono (fun _ _ e=>e.elim))
      have LBR:Hid (b<wr.heap.size):=Ld (by have:=LB.out.1;have:=S.out.r.kp.size;omega)
      have HPMR:=Ld (fun W (kw:Kept (fun q=>q=b∨q=Y) wr W)=>HPM.out W (S.out.r.kp.trans kw))
      have HK1:=Ld (fun W ck gk (kw:Kept (fun q=>q=b∨q=Y) wr W) nk hb hx hn hc hG=>HIH.out _ (List.getElem_mem hlt) σ ck gk W ok okm _ _ b nk pm np X Y Z (HKT.out W kw) (HKM.out W kw) (HPMR.out W kw) HSG.out hb hx HOK.out HOKM.out HNE.out hn hc hG)
      unfold tmVal at HK1
      have HDM:Hid (tmD ks[k]≤tmDs ks∧tmNs (ks.drop k)=tmN ks[k]+tmNs (ks.drop (k+1))∧1≤tmN ks[k]):=Ld ⟨kid_dn (List.getElem_mem hlt),by rw[List.drop_eq_getElem_cons hlt,tmNs],by cases ks[k] with | mk=>rw[tmN];omega⟩
      clear hkt hkm KR
      generalize ks[k]=u at *
      go_upto_region 9 with (fail)
      clear c0 c1 c2 c3 c4 c5 c6
      generalize wr.alloc (.cells #[.int .i64 u.op,.string u.name,.int .i64 u.n,.int .i64 u.ty.kind,.string u.ty.name,.slice ta tn tc,.slice pa pn pc] 27)=w3 at *
      have gA:=S3.out.a.cell
      have HI:Hid ((binderB op&&k==1)=true→GF=(Gk+szR (wgC σ (fun t=>if t=nm then c nm+1 else c t)) u)+szRs (binderB op) nm (wgC σ c) (k+1) (ks.drop (k+1))):=Ld (fun hin=>by
       rw[hq.out,HD.out,hin,wgC_up];simp only[if_true];omega)
      have HJ:Hid ((binderB op&&k==1)=false→GF=(Gk+szR (wgC σ c) u)+szRs (binderB op) nm (wgC σ c) (k+1) (ks.drop (k+1))):=Ld (fun hin=>by
       rw[hq.out,HD.out,hin];simp only[Bool.false_eq_true,if_false];omega)
      clear hq HD
      go_cut [12] (fun v wc=>v=.bool (binderB op&&k==1)∧wc=w3)
      case first=>
       by_cases hk1:k=1
       ·have hk2:((k:Int)==1)=true:=by simp;omega
        have hk3:(k==1)=true:=by simp[hk1]
        clear hk1
        go_wp2_with fail
        refine (binder_any op _).mono ?_
        rintro e w3' ⟨rfl,rfl⟩
        cases hbo:binderB op
        all_goals
         go_wp2_with fail
         go_meet
         case rel=>exact⟨by rw[hk3,hbo];rfl,rfl⟩
       ·have hk2:((k:Int)==1)=false:=by simp;omega
        have hk3:(k==1)=false:=by simp[hk1]
        clear hk1
        go_wp2_with fail
        refine (binder_any op _).mono ?_
        rintro e w3' ⟨rfl,rfl⟩
        cases hbo:binderB op
        all_goals
         go_wp2_with fail
         go_meet
         case rel=>exact⟨by rw[hk3,hbo];rfl,rfl⟩
      case rest=>
       obtain⟨rfl,rfl⟩:=hcut
       have HNM:Hid (n'+2*tmN u+(if k≤1 then 2 else 0)≤1000000∧(n'+2*tmN u+2*tmNs (ks.drop (k+1))+(if k≤1 then 2 else 0)≤n+2*tmN (.mk op nm N ty ks))):=Ld (by
        have h1:=hn'.out;have h3:=HDM.out.2.1;have h4:=HNB.out
        rw[h3] at h1
        omega)
       clear hn'
       have gZ:∀ i,wc.cell? ⟨Z,i,none⟩=[Value.func (.func 98) #[] #[.pointer (some ⟨X,0,none⟩),.pointer (some ⟨Y,0,none⟩),.pointer (some ⟨Z,0,none⟩)]][i]?:=S3.out.r.bx.z.cell
       cases hin:(binderB op&&k==1)
       ·have HJ2:=Ld (HJ.out hin)
        clear HI HJ hin
        have HC:=Ld (HK1.out wc c Gk KR2.out n' S3.out.r.bo S3.out.r.bx (by have:=HNM.out.1;omega) (fun s=>by have:=HCB.out s;have:=HDM.out.1;omega) (by have:=HJ2.out;have:=HGB.out;omega))
        have gK:=bK.out.cell
        clear gA
        go_wp2_with fail
        clear gK gZ
        refine HC.out.mono ?_
        rintro e w5 ⟨rfl,hR5⟩
        have S5:=Ld (S3.out.step LB.out hR5)
        clear hR5 HC S3 S bK HK1 KR2
        go_wp2_with fail
        go_roundw
        case rel=>exact⟨k+1,_,_,by omega,by go_num,S5.out,HJ2,Ld (by have:=HNM.out.2;split <;> split at this <;> omega)⟩
        case measure=>simp[intOf];omega
       ·have HI2:=Ld (HI.out hin)
        have hk1:k=1:=by
         rw[Bool.and_eq_true] at hin
         simpa using hin.2
        clear HI HJ hin
        obtain⟨f3,hb3,hf3⟩:=S3.out.r.bo
        have HF3:=Ld hf3
        have HNX:Hid (n'+2+2*tmN u+2*tmNs (ks.drop (k+1))≤n+2*tmN (.mk op nm N ty ks)∧n'+2+2*tmN u≤1000000):=Ld (by have h1:=HNM.out.2;have h2:=HNM.out.1;rw[if_pos (by omega)] at h1 h2;omega)
        have HK1E:=Ld hk1
        clear hk1
        have hlk:=hb3.look Tryz.underlying89 (z3 _) HNZ.out
        rw[hf3 nm] at hlk
        have HW1:Hid (wrap64 ((c nm:Int)+1)=((c nm+1:Nat):Int)):=Ld (by have:=HCB.out nm;unfold wrap64;omega)
        have HB3:=Ld hb3
        have HLX:Hid (n'<maxLen∧n'+1+2*tmN u<maxLen):=Ld (by have:=HNX.out.2;unfold maxLen;omega)
        clear hf3 hb3 gZ
        go_upto_region 12 with (at_mapUpdate;refine wpList_storeF rfl _ _ _ _ 3 rfl Tryz.underlying89 rfl HB3.out nm rfl HNZ.out HLX.out.1 (.int .i64 (wrap64 ((c nm:Int)+1))) rfl ?_;intro w4 hm4 k4)
        rw[HW1.out] at hm4
        have S4:=Ld (S3.out.cnt LB.out.1 ⟨HNE.out.1,HNE.out.2.1,HNE.out.2.2.1⟩ hm4 (HF3.out.upd nm (c nm+1)) k4)
        have bK4:=Ld (bK.out.kept k4 (fun e=>by have:=LBR.out;omega))
        have HC:=Ld (HK1.out w4 (fun t=>if t=nm then c nm+1 else c t) Gk (KR2.out.trans (k4.mono (fun _ _ e=>Or.inl e))) (n'+1) S4.out.r.bo S4.out.r.bx (by have:=HNX.out.2;omega) (fun s=>by have h1:=HCB.out s;have h2:=HCB.out nm;have:=HDM.out.1;show (if s=nm then c nm+1 else c s)+_≤_;split <;> omega) (by have:=HI2.out;have:=HGB.out;omega))
        have gK:=bK4.out.cell
        have gZ:∀ i,w4.cell? ⟨Z,i,none⟩=[Value.func (.func 98) #[] #[.pointer (some ⟨X,0,none⟩),.pointer (some ⟨Y,0,none⟩),.pointer (some ⟨Z,0,none⟩)]][i]?:=S4.out.r.bx.z.cell
        clear hm4 k4 hlk HW1 HB3 HF3 S3 gA bK
        go_wp2_with fail
        clear gK gZ
        refine HC.out.mono ?_
        rintro e w5 ⟨rfl,hR5⟩
        have S5:=Ld (S4.out.step LB.out hR5)
        clear hR5 HC S4 S bK4 HK1 KR2
        obtain⟨f5,hb5,hf5⟩:=S5.out.r.bo
        have HF5:=Ld hf5
        have hlk:=hb5.look Tryz.underlying89 (z3 _) HNZ.out
        rw[hf5 nm] at hlk
        simp only[if_true] at hlk
        have HW1:Hid (wrap64 (c nm:Int)=(c nm:Int)):=Ld (by have:=HCB.out nm;unfold wrap64;omega)
        have HB5:=Ld hb5
        have gA:=S5.out.a.cell
        clear hf5 hb5
        go_wp2_with (at_mapUpdate;refine wpList_storeF rfl _ _ _ _ 3 rfl Tryz.underlying89 rfl HB5.out nm rfl HNZ.out HLX.out.2 (.int .i64 (wrap64 (c nm:Int))) rfl ?_;intro w6 hm6 k6;clear gA hlk)
        rw[HW1.out] at hm6
        have S6:=Ld (S5.out.cnt LB.out.1 ⟨HNE.out.1,HNE.out.2.1,HNE.out.2.2.1⟩ hm6 (HF5.out.upd nm (c nm)) k6)
        have HCE:Hid ((fun t=>if t=nm then c nm else if t=nm then c nm+1 else c t)=c):=Ld (by funext t;by_cases ht:t=nm <;> simp[ht])
        rw[HCE.out] at S6
        clear hm6 k6 HW1 HB5 HF5 S5
        go_wp2_with fail
        go_roundw
        case rel=>exact⟨k+1,_,_,by omega,by go_num,S6.out,HI2,Ld (by have:=HNX.out.1;have:=HK1E.out;rw[if_neg (by omega)];omega)⟩
        case measure=>simp[intOf];omega
     ·have hkk:k=ks.length:=by omega
      subst hkk
      have HEQ:Hid (GF=Gk):=Ld (by rw[hq.out,List.drop_length];simp[szRs])
      have gA:=S.out.a.cell
      go_wp2_with fail
      go_end0
      refine⟨rfl,S.out.r.kp,?_,?_⟩
      ·obtain⟨f,hb1,hb2⟩:=S.out.r.bo
       exact⟨f,hb1.mono (by have:=hn'.out;omega),hb2⟩
      ·rw[HEQ.out];exact S.out.r.bx
theorem lim_any {t:Tm} (h:OkTm t):LmC bz t:=by
 induction h with
 | mk hf hn hl ih=>
  rename_i op nm N ty ks
  refine lim_one ih (by omega) (fun h=>?_) (by have:=(formed_sm hf).1;unfold maxLen;omega)
  subst h
  have h1:=(OkTm.mk hf hn hl).nw
  cases h1 with
  | mk h2 _=>exact (h2 rfl).2.2
def EqyC (bz:Nat) (f:FuncId) (t:Ty):Prop:=∀ (t':Ty) (w:World) (ok ok':Nat→Prop) (tk tk':Value),TyL bz ok w t.kids tk→TyL bz ok' w t'.kids tk' →
 Calls Tryz.prog f #[tyVal t tk,tyVal t' tk'] w fun e w'=>e=.returned (.bool (tyEq t t'))∧Kept (fun _=>False) w w'
theorem tysEq_len:∀ (l l':List Ty),l.length≠l'.length→tysEq l l'=false
 | [],[],h=>absurd rfl h
 | [],_::_,_=>rfl
 | _::_,[],_=>rfl
 | a::l,b::l',h=>by rw[tysEq,tysEq_len l l' (by simpa using h),Bool.and_false]
theorem tysEq_drop {l l':List Ty} {k:Nat} (h:k<l.length) (h':k<l'.length):tysEq (l.drop k) (l'.drop k)=(tyEq l[k] l'[k]&&tysEq (l.drop (k+1)) (l'.drop (k+1))):=by
 rw[List.drop_eq_getElem_cons h,List.drop_eq_getElem_cons h',tysEq]
theorem tysEq_end {l l':List Ty} {k:Nat} (h:l.length≤k) (h':l'.length≤k):tysEq (l.drop k) (l'.drop k)=true:=by
 rw[List.drop_eq_nil_of_le h,List.drop_eq_nil_of_le h'];rfl
theorem rsame_one {kd:Int} {nm:ByteArray} {l:List Ty} (IH:∀ u,u∈l→EqyC bz 54 u) (hn:l.length≤1000000):EqyC bz 54 (.mk kd nm l):=by
 rintro⟨kd',nm',l'⟩ w ok ok' tk tk' h h'
 have h:TyL bz ok w l tk:=h
 have h':TyL bz ok' w l' tk':=h'
 obtain⟨a,n,c,rfl⟩:=h.slice
 obtain⟨a',n',c',rfl⟩:=h'.slice
 obtain rfl:n=l.length:=h.len
 obtain rfl:n'=l'.length:=h'.len
 have HIH:=Ld IH
 have HAT:=Ld (fun W (k:Kept (fun _=>False) w W)=>(h.frame (sK k)).at)
 have HAT':=Ld (fun W (k:Kept (fun _=>False) w W)=>(h'.frame (sK k)).at)
 clear h h' IH
 change Calls Tryz.prog 54 #[.agg #[.int .i64 kd,.string nm,.slice a l.length c],.agg #[.int .i64 kd',.string nm',.slice a' l'.length c']] w _
 have bA:Blk ((w.alloc (.cells #[.int .i64 kd,.string nm,.slice a l.length c] 24)).alloc (.cells #[.int .i64 kd',.string nm',.slice a' l'.length c'] 24)) w.heap.size 24 [.int .i64 kd,.string nm,.slice a l.length c]:=(Blk.new w 24 _).alloc _
 have bB:Blk ((w.alloc (.cells #[.int .i64 kd,.string nm,.slice a l.length c] 24)).alloc (.cells #[.int .i64 kd',.string nm',.slice a' l'.length c'] 24)) (w.heap.size+1) 24 [.int .i64 kd',.string nm',.slice a' l'.length c']:=Blk.new' 24 _ (by simp)
 have K1:Kept (fun _=>False) w ((w.alloc (.cells #[.int .i64 kd,.string nm,.slice a l.length c] 24)).alloc (.cells #[.int .i64 kd',.string nm',.slice a' l'.length c'] 24)):=(kR.alloc _).alloc _
 have HD:=Ld (show tyEq (.mk kd nm l) (.mk kd' nm' l')=(decide (kd=kd')&&decide (nm=nm')&&tysEq l l') from rfl)
 by_cases e1:kd=kd'
 case neg=>
  have t1:(kd==kd')=false:=by simpa using e1
  have t2:(kd != kd')=true:=by simpa using e1
  have HR:Hid (tyEq (.mk kd nm l) (.mk kd' nm' l')=false):=Ld (by rw[HD.out];simp[e1])
  clear e1
  go_enter Tryz.func54,Tryz.ntmps54
  go_wp2_with fail
  go_ret
  exact⟨by rw[HR.out];rfl,K1⟩
 subst e1
 cases e2:(nm.toList==nm'.toList)
 case false=>
  have t2:(nm.toList != nm'.toList)=true:=by rw[bne,e2];rfl
  have HR:Hid (tyEq (.mk kd nm l) (.mk kd nm' l')=false):=Ld (by rw[HD.out,← nm_eq,e2];simp)
  go_enter Tryz.func54,Tryz.ntmps54
  go_wp2_with fail
  go_ret
  exact⟨by rw[HR.out];rfl,K1⟩
 have t2:(nm.toList != nm'.toList)=false:=by rw[bne,e2];rfl
 have HD2:Hid (tyEq (.mk kd nm l) (.mk kd nm' l')=tysEq l l'):=Ld (by rw[HD.out,← nm_eq,e2];simp)
 clear HD
 by_cases e3:l.length=l'.length
 case neg=>
  have t3:((l.length:Int) != (l'.length:Int))=true:=by simp;omega
  have t4:((l.length:Int)==(l'.length:Int))=false:=by simp;omega
  have HR:Hid (tyEq (.mk kd nm l) (.mk kd nm' l')=false):=Ld (by rw[HD2.out,tysEq_len _ _ e3])
  clear e3
  go_enter Tryz.func54,Tryz.ntmps54
  go_wp2_with fail
  go_ret
  exact⟨by rw[HR.out];rfl,K1⟩
 have E3:=Ld e3
 rw[← e3] at bA bB K1 ⊢
 clear e3
 go_enter Tryz.func54,Tryz.ntmps54
 go_wp2_with fail
 generalize ((w.alloc (.cells #[.int .i64 kd,.string nm,.slice a l.length c] 24)).alloc (.cells #[.int .i64 kd,.string nm',.slice a' l.length c'] 24))=w1 at *
 go_loopw [5] (fun i wr=>∃ j:Nat,j≤l.length∧i=.int .i64 j∧Kept (fun _=>False) w1 wr∧Hid (tysEq l l'=tysEq (l.drop j) (l'.drop j))) (fun i _=>l.length-(intOf i).toNat)
 case atStart=>exact⟨0,Nat.zero_le _,rfl,Kept.refl _ _,Ld rfl⟩
 case round=>
  obtain⟨j,hj,rfl,kr,hq⟩:=hrel
  have g2:wr.cell? ⟨w.heap.size,2,none⟩=some (.slice a l.length c):=(bA.kept kr (fun h=>h)).cell 2
  have g2':wr.cell? ⟨w.heap.size+1,2,none⟩=some (.slice a' l.length c'):=(bB.kept kr (fun h=>h)).cell 2
  by_cases hlt:j<l.length
  ·have KR:=K1.trans kr
   have hlt':j<l'.length:=by rw[← E3.out];exact hlt
   obtain⟨g,off,ta,tn,tc,rfl,_,lg,⟨c0,c1,c2⟩,hty⟩:=HAT.out wr KR j hlt
   obtain⟨g',off',ta',tn',tc',rfl,_,lg',⟨d0,d1,d2⟩,hty'⟩:=HAT'.out wr KR j hlt'
   have hcon:=Ld (fun (W:World) (kW:Kept (fun _=>False) wr W)=>HIH.out _ (List.getElem_mem hlt) l'[j] W ok ok' _ _ (hty.frame (Same.of_kept kW (fun k h e=>e))) (hty'.frame (Same.of_kept kW (fun k h e=>e))))
   unfold tyVal at hcon
   have HS:=Ld (tysEq_drop hlt hlt')
   clear hty hty'
   have hj2:(j:Int)<(l.length:Int):=by omega
   have hj3:(j:Int)<1000000:=by omega
   go_wp2_with fail
   go_still_tail 10,(by kernel_rfl)
   change wpList _ _ _ _ _ wr.drew
   have kd:Kept (fun _=>False) wr wr.drew:=kR.drew
   generalize wr.drew=w2 at *
   cases hr:tyEq l[j] l'[j]
   ·rw[hr] at hcon
    go_wp2_with (go_at_call 54;refine (hcon.out _ kd).mono ?_;rintro e w' ⟨rfl,k2⟩)
    go_ret
    exact⟨by rw[HD2.out,hq.out,HS.out,hr];rfl,K1.trans (kr.trans (kd.trans k2))⟩
   ·rw[hr] at hcon
    go_wp2_with (go_at_call 54;refine (hcon.out _ kd).mono ?_;rintro e w' ⟨rfl,k2⟩)
    go_roundw
    case rel=>exact⟨j+1,by omega,by go_num,kr.trans (kd.trans k2),Ld (by rw[hq.out,HS.out,hr];rfl)⟩
    case measure=>simp[intOf];omega
  ·have HZ:Hid (tysEq l l'=true):=Ld (by rw[hq.out,tysEq_end (by omega) (by rw[← E3.out];omega)])
   go_wp2_with fail
   go_ret
   exact⟨by rw[HD2.out,HZ.out];rfl,K1.trans kr⟩
theorem rsameTy_any {t:Ty} (hb:BdTy t):EqyC bz 54 t:=by
 induction hb with
 | mk hn hl ih=>exact rsame_one ih hn
def EqmC (bz:Nat) (t:Tm):Prop:=∀ (t':Tm) (w:World) (ok ok':Nat→Prop) (tk kk tk' kk':Value),TyL bz ok w t.ty.kids tk→TmL bz ok w t.kids kk→TyL bz ok' w t'.ty.kids tk'→TmL bz ok' w t'.kids kk' →
 Calls Tryz.prog 20 #[tmVal t tk kk,tmVal t' tk' kk'] w fun e w'=>e=.returned (.bool (tmEq t t'))∧Kept (fun _=>False) w w'
theorem tmsEq_len:∀ (l l':List Tm),l.length≠l'.length→tmsEq l l'=false
 | [],[],h=>absurd rfl h
 | [],_::_,_=>rfl
 | _::_,[],_=>rfl
 | a::l,b::l',h=>by rw[tmsEq,tmsEq_len l l' (by simpa using h),Bool.and_false]
theorem tmsEq_drop {l l':List Tm} {k:Nat} (h:k<l.length) (h':k<l'.length):tmsEq (l.drop k) (l'.drop k)=(tmEq l[k] l'[k]&&tmsEq (l.drop (k+1)) (l'.drop (k+1))):=by
 rw[List.drop_eq_getElem_cons h,List.drop_eq_getElem_cons h',tmsEq]
theorem tmsEq_end {l l':List Tm} {k:Nat} (h:l.length≤k) (h':l'.length≤k):tmsEq (l.drop k) (l'.drop k)=true:=by
 rw[List.drop_eq_nil_of_le h,List.drop_eq_nil_of_le h'];rfl
theorem rsames_any {l l':List Tm} {w:World} {ok ok':Nat→Prop} {v v':Value} (IH:∀ u,u∈l→EqmC bz u) (hn:l.length≤1000000) (h:TmL bz ok w l v) (h':TmL bz ok' w l' v'):
  Calls Tryz.prog 55 #[v,v'] w fun e w'=>e=.returned (.bool (tmsEq l l'))∧Kept (fun _=>False) w w':=by
 obtain⟨a,n,c,rfl⟩:=h.slice
 obtain⟨a',n',c',rfl⟩:=h'.slice
 obtain rfl:n=l.length:=h.len
 obtain rfl:n'=l'.length:=h'.len
 have HIH:=Ld IH
 have HAT:=Ld (fun W (k:Kept (fun _=>False) w W)=>(h.frame (sK k)).at)
 have HAT':=Ld (fun W (k:Kept (fun _=>False) w W)=>(h'.frame (sK k)).at)
 clear h h' IH
 by_cases e3:l.length=l'.length
 case neg=>
  have t3:((l.length:Int) != (l'.length:Int))=true:=by simp;omega
  have t4:((l.length:Int)==(l'.length:Int))=false:=by simp;omega
  have HR:Hid (tmsEq l l'=false):=Ld (by rw[tmsEq_len _ _ e3])
  clear e3
  go_enter Tryz.func55,Tryz.ntmps55
  go_wp2_with fail
  go_ret
  exact⟨by rw[HR.out];rfl,Kept.refl _ _⟩
 have E3:=Ld e3
 rw[← e3]
 clear e3
 go_enter Tryz.func55,Tryz.ntmps55
 go_wp2_with fail
 go_loopw [5] (fun i wr=>∃ j:Nat,j≤l.length∧i=.int .i64 j∧Kept (fun _=>False) w wr∧Hid (tmsEq l l'=tmsEq (l.drop j) (l'.drop j))) (fun i _=>l.length-(intOf i).toNat)
 case atStart=>exact⟨0,Nat.zero_le _,rfl,Kept.refl _ _,Ld rfl⟩
 case round=>
  obtain⟨j,hj,rfl,kr,hq⟩:=hrel
  by_cases hlt:j<l.length
  ·have hlt':j<l'.length:=by rw[← E3.out];exact hlt
   obtain⟨g,off,ta,tn,tc,ma,mn,mc,rfl,_,lg,⟨c0,c1,c2,c3,c4,c5,c6⟩,hty,htm⟩:=HAT.out wr kr j hlt
   obtain⟨g',off',ta',tn',tc',ma',mn',mc',rfl,_,lg',⟨d0,d1,d2,d3,d4,d5,d6⟩,hty',htm'⟩:=HAT'.out wr kr j hlt'
   have hcon:=Ld (fun (W:World) (kW:Kept (fun _=>False) wr W)=>HIH.out _ (List.getElem_mem hlt) l'[j] W ok ok' _ _ _ _ (hty.frame (Same.of_kept kW (fun k h e=>e))) (htm.frame (Same.of_kept kW (fun k h e=>e))) (hty'.frame (Same.of_kept kW (fun k h e=>e))) (htm'.frame (Same.of_kept kW (fun k h e=>e))))
   unfold tmVal at hcon
   have HS:=Ld (tmsEq_drop hlt hlt')
   clear hty hty' htm htm'
   have hj2:(j:Int)<(l.length:Int):=by omega
   have hj3:(j:Int)<1000000:=by omega
   go_wp2_with fail
   go_still_tail 8,(by kernel_rfl)
   change wpList _ _ _ _ _ wr.drew
   have kd:Kept (fun _=>False) wr wr.drew:=kR.drew
   generalize wr.drew=w2 at *
   cases hr:tmEq l[j] l'[j]
   ·rw[hr] at hcon
    go_wp2_with (go_at_call 20;refine (hcon.out _ kd).mono ?_;rintro e w' ⟨rfl,k2⟩)
    go_ret
    exact⟨by rw[hq.out,HS.out,hr];rfl,kr.trans (kd.trans k2)⟩
   ·rw[hr] at hcon
    go_wp2_with (go_at_call 20;refine (hcon.out _ kd).mono ?_;rintro e w' ⟨rfl,k2⟩)
    go_roundw
    case rel=>exact⟨j+1,by omega,by go_num,kr.trans (kd.trans k2),Ld (by rw[hq.out,HS.out,hr];rfl)⟩
    case measure=>simp[intOf];omega
  ·have HZ:Hid (tmsEq l l'=true):=Ld (by rw[hq.out,tmsEq_end (by omega) (by rw[← E3.out];omega)])
   go_wp2_with fail
   go_ret
   exact⟨by rw[HZ.out];rfl,kr⟩
theorem rsameTm_one {op:Int} {nm:ByteArray} {N:Int} {ty:Ty} {l:List Tm} (hty:BdTy ty) (IH:∀ u,u∈l→EqmC bz u) (hn:l.length≤1000000):EqmC bz (.mk op nm N ty l):=by
 rintro⟨op',nm',N',ty',l'⟩ w ok ok' tk kk tk' kk' h1 h2 h3 h4
 have h1:TyL bz ok w ty.kids tk:=h1
 have h2:TmL bz ok w l kk:=h2
 have h3:TyL bz ok' w ty'.kids tk':=h3
 have h4:TmL bz ok' w l' kk':=h4
 obtain⟨a,n,c,rfl⟩:=h1.slice
 obtain⟨ma,mn,mc,rfl⟩:=h2.slice
 obtain⟨a',n',c',rfl⟩:=h3.slice
 obtain⟨ma',mn',mc',rfl⟩:=h4.slice
 change Calls Tryz.prog 20 #[.agg #[.int .i64 op,.string nm,.int .i64 N,.int .i64 ty.kind,.string ty.name,.slice a n c,.slice ma mn mc],.agg #[.int .i64 op',.string nm',.int .i64 N',.int .i64 ty'.kind,.string ty'.name,.slice a' n' c',.slice ma' mn' mc']] w _
 have bA:Blk ((w.alloc (.cells #[.int .i64 op,.string nm,.int .i64 N,.int .i64 ty.kind,.string ty.name,.slice a n c,.slice ma mn mc] 27)).alloc (.cells #[.int .i64 op',.string nm',.int .i64 N',.int .i64 ty'.kind,.string ty'.name,.slice a' n' c',.slice ma' mn' mc'] 27)) w.heap.size 27 [.int .i64 op,.string nm,.int .i64 N,.int .i64 ty.kind,.string ty.name,.slice a n c,.slice ma mn mc]:=(Blk.new w 27 _).alloc _
 have bB:Blk ((w.alloc (.cells #[.int .i64 op,.string nm,.int .i64 N,.int .i64 ty.kind,.string ty.name,.slice a n c,.slice ma mn mc] 27)).alloc (.cells #[.int .i64 op',.string nm',.int .i64 N',.int .i64 ty'.kind,.string ty'.name,.slice a' n' c',.slice ma' mn' mc'] 27)) (w.heap.size+1) 27 [.int .i64 op',.string nm',.int .i64 N',.int .i64 ty'.kind,.string ty'.name,.slice a' n' c',.slice ma' mn' mc']:=Blk.new' 27 _ (by simp)
 have K1:Kept (fun _=>False) w ((w.alloc (.cells #[.int .i64 op,.string nm,.int .i64 N,.int .i64 ty.kind,.string ty.name,.slice a n c,.slice ma mn mc] 27)).alloc (.cells #[.int .i64 op',.string nm',.int .i64 N',.int .i64 ty'.kind,.string ty'.name,.slice a' n' c',.slice ma' mn' mc'] 27)):=(kR.alloc _).alloc _
 have HT:=Ld (fun W (kW:Kept (fun _=>False) w W)=>rsameTy_any hty ty' W ok ok' _ _ (h1.frame (Same.of_kept kW (fun k h e=>e))) (h3.frame (Same.of_kept kW (fun k h e=>e))))
 have HS:=Ld (fun W (kW:Kept (fun _=>False) w W)=>rsames_any IH hn (h2.frame (Same.of_kept kW (fun k h e=>e))) (h4.frame (Same.of_kept kW (fun k h e=>e))))
 unfold tyVal at HT
 have HD:=Ld (show tmEq (.mk op nm N ty l) (.mk op' nm' N' ty' l')=(decide (op=op')&&decide (nm=nm')&&decide (N=N')&&tyEq ty ty'&&tmsEq l l') from rfl)
 clear h1 h2 h3 h4 IH
 generalize tmEq (.mk op nm N ty l) (.mk op' nm' N' ty' l')=rr at *
 by_cases e1:op=op'
 case neg=>
  have t1:(op==op')=false:=by simpa using e1
  have HR:Hid (rr=false):=Ld (by rw[HD.out];simp[e1])
  clear e1
  go_enter Tryz.func20,Tryz.ntmps20
  go_wp2_with fail
  go_ret
  exact⟨by rw[HR.out];rfl,K1⟩
 subst e1
 cases e2:(nm.toList==nm'.toList)
 case false=>
  have HR:Hid (rr=false):=Ld (by rw[HD.out,← nm_eq,e2];simp)
  go_enter Tryz.func20,Tryz.ntmps20
  go_wp2_with fail
  go_ret
  exact⟨by rw[HR.out];rfl,K1⟩
 by_cases e3:N=N'
 case neg=>
  have t1:(N==N')=false:=by simpa using e3
  have HR:Hid (rr=false):=Ld (by rw[HD.out];simp[e3])
  clear e3
  go_enter Tryz.func20,Tryz.ntmps20
  go_wp2_with fail
  go_ret
  exact⟨by rw[HR.out];rfl,K1⟩
 subst e3
 have HD2:Hid (rr=(tyEq ty ty'&&tmsEq l l')):=Ld (by rw[HD.out,← nm_eq,e2];simp)
 clear HD
 go_enter Tryz.func20,Tryz.ntmps20
 go_wp2_with fail
 generalize ((w.alloc (.cells #[.int .i64 op,.string nm,.int .i64 N,.int .i64 ty.kind,.string ty.name,.slice a n c,.slice ma mn mc] 27)).alloc (.cells #[.int .i64 op,.string nm',.int .i64 N,.int .i64 ty'.kind,.string ty'.name,.slice a' n' c',.slice ma' mn' mc'] 27))=w1 at *
 cases ht:tyEq ty ty'
 ·have HR:Hid (rr=false):=Ld (by rw[HD2.out,ht];rfl)
  refine (HT.out _ K1).mono ?_
  rintro e w2 ⟨rfl,k2⟩
  go_wp2_with fail
  go_ret
  exact⟨by rw[HR.out];rfl,K1.trans k2⟩
 ·have HR:Hid (rr=tmsEq l l'):=Ld (by rw[HD2.out,ht];rfl)
  refine (HT.out _ K1).mono ?_
  rintro e w2 ⟨rfl,k2⟩
  have gA2:∀ i,w2.cell? ⟨w.heap.size,i,none⟩=[Value.int .i64 op,.string nm,.int .i64 N,.int .i64 ty.kind,.string ty.name,.slice a n c,.slice ma mn mc][i]?:=(bA.kept k2 (fun h=>h)).cell
  have gB2:∀ i,w2.cell? ⟨w.heap.size+1,i,none⟩=[Value.int .i64 op,.string nm',.int .i64 N,.int .i64 ty'.kind,.string ty'.name,.slice a' n' c',.slice ma' mn' mc'][i]?:=(bB.kept k2 (fun h=>h)).cell
  go_wp2_with fail
  refine (HS.out _ (K1.trans k2)).mono ?_
  rintro e w3 ⟨rfl,k3⟩
  go_wp2_with fail
  go_ret
  exact⟨by rw[HR.out];rfl,(K1.trans k2).trans k3⟩
theorem rsameTm_any {t:Tm} (hb:BdTm t):EqmC bz t:=by
 induction hb with
 | mk hn ht hl ih=>exact rsameTm_one ht ih hn
theorem tmDs_mem {u:Tm}:∀ {l:List Tm},u∈l→tmD u≤tmDs l
 | a::l,h=>by
  rw[tmDs]
  rcases List.mem_cons.1 h with rfl | h
  ·exact Nat.le_max_left _ _
  ·exact Nat.le_trans (tmDs_mem h) (Nat.le_max_right _ _)
def TmB (bz:Nat) (B:Nat) (r:Tm×Int) (w:World) (e:Ending) (w':World):Prop:=∃ tk kk,e=.returned (.tuple #[tmVal r.1 tk kk,.int .i64 r.2])∧TyL bz (fun k=>B≤k) w' r.1.ty.kids tk∧TmL bz (fun k=>B≤k) w' r.1.kids kk∧Kept (fun _=>False) w w'
theorem checked_any {t:Tm} {rr:Tm×Int} (hr:Hid (rr=if validB t then (t,0) else (tm0,5))) {B:Nat} {w:World} {tk kk:Value} (hB:B≤w.heap.size) (h1:TyL bz (fun q=>B≤q∧q<w.heap.size) w t.ty.kids tk) (h2:TmL bz (fun q=>B≤q∧q<w.heap.size) w t.kids kk) (hs:SmTm big t):
  Calls Tryz.prog 59 #[tmVal t tk kk] w (TmB bz B rr w):=by
 obtain⟨p,n,c,rfl⟩:=h1.slice
 obtain⟨ma,mn,mc,rfl⟩:=h2.slice
 have B0:Hid (Blk ((w.alloc (.cells #[.int .i64 t.op,.string t.name,.int .i64 t.n,.int .i64 t.ty.kind,.string t.ty.name,.slice p n c,.slice ma mn mc] 27)).alloc Z7) w.heap.size 27 (tmCells t (.slice p n c) (.slice ma mn mc))∧Blk ((w.alloc (.cells #[.int .i64 t.op,.string t.name,.int .i64 t.n,.int .i64 t.ty.kind,.string t.ty.name,.slice p n c,.slice ma mn mc] 27)).alloc Z7) (w.heap.size+1) 27 z27∧Kept (fun _=>False) w ((w.alloc (.cells #[.int .i64 t.op,.string t.name,.int .i64 t.n,.int .i64 t.ty.kind,.string t.ty.name,.slice p n c,.slice ma mn mc] 27)).alloc Z7)):=Ld
  ⟨(Blk.new w 27 (tmCells t (.slice p n c) (.slice ma mn mc))).alloc _,Blk.new' 27 _ (by simp),(kR.alloc _).alloc _⟩
 have HV:=Ld (fun W (k:Kept (fun _=>False) w W)=>valid_any (h1.frame (sK k)) (h2.frame (sK k)) hs)
 have HTY:=Ld (fun W (k:Kept (fun _=>False) w W)=>h1.frame (sK k))
 have HTM:=Ld (fun W (k:Kept (fun _=>False) w W)=>h2.frame (sK k))
 clear h1 h2 hs
 unfold tmVal
 go_enter Tryz.func59,Tryz.ntmps59
 go_wp2_with fail
 generalize ((w.alloc (.cells #[.int .i64 t.op,.string t.name,.int .i64 t.n,.int .i64 t.ty.kind,.string t.ty.name,.slice p n c,.slice ma mn mc] 27)).alloc Z7)=w1 at *
 refine (HV.out _ B0.out.2.2).mono ?_
 rintro e w2 ⟨rfl,k2⟩
 have BA:=Ld (B0.out.1.kept k2 (fun h=>h))
 have BR:=Ld (B0.out.2.1.kept k2 (fun h=>h))
 have KK:=Ld (B0.out.2.2.trans k2)
 clear B0 k2 HV
 have gA:∀ i,w2.cell? ⟨w.heap.size,i,none⟩=[Value.int .i64 t.op,.string t.name,.int .i64 t.n,.int .i64 t.ty.kind,.string t.ty.name,.slice p n c,.slice ma mn mc][i]?:=BA.out.cell
 have gR:∀ i,w2.cell? ⟨w.heap.size+1,i,none⟩=[Value.int .i64 0,.string ⟨#[]⟩,.int .i64 0,.int .i64 0,.string ⟨#[]⟩,.slice none 0 0,.slice none 0 0][i]?:=BR.out.cell
 have fR:∀ i,w2.frozen? ⟨w.heap.size+1,i,none⟩=false:=BR.out.frozen
 cases hv:validB t
 ·have hq:Hid (rr=(tm0,5)):=Ld (by rw[hr.out,hv];rfl)
  clear hv hr
  go_wp2_with fail
  exact bodyPost_ret (results_ct Tryz.results59 rfl (load_tm (t:=tm0) (r7 BR.out rfl))) rfl ⟨_,_,by rw[hq.out];rfl,by rw[hq.out];exact .nil (Or.inl rfl),by rw[hq.out];exact .nil (Or.inl rfl),k7w KK.out (Or.inr (Nat.le_succ _))⟩
 ·have hq:Hid (rr=(t,0)):=Ld (by rw[hr.out,hv];rfl)
  clear hv hr
  go_wp2_with fail
  exact bodyPost_ret (results_ct Tryz.results59 rfl (load_tm (t:=t) (r7 BR.out rfl))) rfl ⟨_,_,by rw[hq.out];rfl,by rw[hq.out];exact ((HTY.out _ KK.out).frame (set7 (fun q hq=>by omega))).mono (fun q _ hq=>hq.1),by rw[hq.out];exact ((HTM.out _ KK.out).frame (set7 (fun q hq=>by omega))).mono (fun q _ hq=>hq.1),k7w KK.out (Or.inr (Nat.le_succ _))⟩
theorem szR_le (ρ:ByteArray→Nat) (hρ:∀ s,ρ s≤2000) (u:Tm):szR ρ u≤2000*tmN u:=by
 induction u using Tm.rec (motive_2:=fun ks=>∀ (bi:Bool) (nm:ByteArray) (i:Nat) (ρ:ByteArray→Nat),(∀ s,ρ s≤2000)→szRs bi nm ρ i ks≤2000*tmNs ks) generalizing ρ with
 | mk op nm N ty ks ih=>
  rw[szR,tmN]
  split
  ·have:=hρ nm;omega
  ·have:=ih (binderB op) nm 0 ρ hρ;omega
 | nil=>rename_i bi nm i ρ hρ;simp[szRs,tmNs]
 | cons t ks iht ihl=>
  rename_i bi nm i ρ hρ
  rw[szRs,tmNs]
  have h1:=ihl bi nm (i+1) ρ hρ
  have h2:=iht (if bi&&i==1 then upW nm ρ else ρ) (fun s=>by
   split
   ·unfold upW;split
    ·omega
    ·exact hρ s
   ·exact hρ s)
  omega
theorem ok_smt {t:Tm} (h:OkTm t):SmTm big t:=by
 induction h with
 | mk hf hn hl ih=>exact .mk (by have:=(formed_sm hf).1;unfold big;omega) (formed_sm hf).2 ih
def ltdR (t:Tm) (l:List (ByteArray×Tm)):Tm×Int:=if validB (subT freshS t l) then (subT freshS t l,0) else (tm0,5)
theorem limited_any {t:Tm} {l:List (ByteArray×Tm)} {σ:ByteArray→Option Tm} (ht:validB t=true) (hl:∀ s,look l s=σ s) (hσ:SgOk σ) (hlb:OkB l∧(frB l).length≤700000) {w:World} {ok okm:Nat→Prop} {tk kk:Value} {pm n:Nat} (h1:TyL bz ok w t.ty.kids tk) (h2:TmL bz ok w t.kids kk) (hpm:PrM bz okm w pm n σ) (hp:P10 w) (hn:n≤200):
  Calls Tryz.prog 53 #[.map (some pm),tmVal t tk kk] w (TmB bz w.heap.size (ltdR t l) w):=by
 obtain⟨a,an,ac,rfl⟩:=h1.slice
 obtain⟨ma,mn,mc,rfl⟩:=h2.slice
 have hv:=(valid_iff t).1 ht
 have hok:=valid_ok ht
 have HSZ:Hid (szR (wgC σ (fun _=>0)) t=tmN (subT freshS t l)):=Ld (by
  have h:=(sub_size hok (l:=l) hlb.1 (by have:=hlb.2;have:=hv.2.1;omega)).1
  rw[h]
  congr 1
  funext s
  unfold wgC wgS wgN
  rw[hl s];simp only[if_true];cases σ s <;> rfl)
 have HRO:Hid (OkTm (subT freshS t l)):=Ld (sub_ok hok l hlb.1 (by have:=hlb.2;have:=hv.2.1;omega))
 have HB:Hid (szR (wgC σ (fun _=>0)) t≤1000000000):=Ld (by
  have key:∀ (ρ:ByteArray→Nat),(∀ s,ρ s≤2000)→∀ (u:Tm),szR ρ u≤2000*tmN u:=szR_le
  have h:=key (wgC σ (fun _=>0)) (fun s=>by unfold wgC wgS;simp only[if_true];cases hs:σ s with
   | none=>show 1≤2000;omega
   | some u=>exact (hσ s u hs).2.1) t
  have:=hv.2.1
  omega)
 have HR:Hid (ltdR t l=if validB (subT freshS t l) then (subT freshS t l,0) else (tm0,5)):=Ld rfl
 have HVR:Hid (2000<tmN (subT freshS t l)→validB (subT freshS t l)=false):=Ld (fun h=>by
  rw[valid_of HRO.out,decide_eq_false (by omega)];rfl)
 have HTY:=Ld (fun W (k:Kept (fun _=>False) w W)=>(h1.mono (ok':=fun q=>q<w.heap.size) (fun q hq _=>hq)).frame (sK k))
 have HTM:=Ld (fun W (k:Kept (fun _=>False) w W)=>(h2.mono (ok':=fun q=>q<w.heap.size) (fun q hq _=>hq)).frame (sK k))
 have HPM:=Ld (fun W (k:Kept (fun _=>False) w W)=>(show PrM bz (fun q=>q<w.heap.size) W pm n σ from by obtain⟨f,hf,hv⟩:=hpm;exact⟨f,hf.kept k (fun e=>e),(hv.mono (fun q hq _=>hq)).frame (sK k)⟩))
 have HPL:Hid (pm<w.heap.size):=Ld (by obtain⟨f,hf,_⟩:=hpm;exact hf.lt)
 have HOK:=Ld hok
 have HV:=Ld hv
 have HLK:=Ld hl
 have HSG:=Ld hσ
 have HP:=Ld hp
 have HN:=Ld hn
 generalize ltdR t l=rr at *
 clear h1 h2 hpm hv hok hlb hl hσ hp hn ht
 have hmm:=@run_makeMap Tryz.prog
 unfold tmVal
 go_enter Tryz.func53,Tryz.ntmps53
 go_upto_region 3 with (fail)
 have B5:Hid (Blk ((((((w.alloc (.cells #[.map (some pm)] 77)).alloc (.cells #[.int .i64 t.op,.string t.name,.int .i64 t.n,.int .i64 t.ty.kind,.string t.ty.name,.slice a an ac,.slice ma mn mc] 27)).alloc Z7).alloc (.cells #[.int .i64 0] 3)).alloc (.cells #[.nilFunc] 126))) w.heap.size 77 [.map (some pm)]∧Blk ((((((w.alloc (.cells #[.map (some pm)] 77)).alloc (.cells #[.int .i64 t.op,.string t.name,.int .i64 t.n,.int .i64 t.ty.kind,.string t.ty.name,.slice a an ac,.slice ma mn mc] 27)).alloc Z7).alloc (.cells #[.int .i64 0] 3)).alloc (.cells #[.nilFunc] 126))) (w.heap.size+1) 27 [Value.int .i64 t.op,.string t.name,.int .i64 t.n,.int .i64 t.ty.kind,.string t.ty.name,.slice a an ac,.slice ma mn mc]∧Blk ((((((w.alloc (.cells #[.map (some pm)] 77)).alloc (.cells #[.int .i64 t.op,.string t.name,.int .i64 t.n,.int .i64 t.ty.kind,.string t.ty.name,.slice a an ac,.slice ma mn mc] 27)).alloc Z7).alloc (.cells #[.int .i64 0] 3)).alloc (.cells #[.nilFunc] 126))) (w.heap.size+1+1) 27 z27∧Blk ((((((w.alloc (.cells #[.map (some pm)] 77)).alloc (.cells #[.int .i64 t.op,.string t.name,.int .i64 t.n,.int .i64 t.ty.kind,.string t.ty.name,.slice a an ac,.slice ma mn mc] 27)).alloc Z7).alloc (.cells #[.int .i64 0] 3)).alloc (.cells #[.nilFunc] 126))) (w.heap.size+1+1+1) 3 [.int .i64 0]∧Blk ((((((w.alloc (.cells #[.map (some pm)] 77)).alloc (.cells #[.int .i64 t.op,.string t.name,.int .i64 t.n,.int .i64 t.ty.kind,.string t.ty.name,.slice a an ac,.slice ma mn mc] 27)).alloc Z7).alloc (.cells #[.int .i64 0] 3)).alloc (.cells #[.nilFunc] 126))) (w.heap.size+1+1+1+1) 126 [.nilFunc]∧Kept (fun _=>False) w ((((((w.alloc (.cells #[.map (some pm)] 77)).alloc (.cells #[.int .i64 t.op,.string t.name,.int .i64 t.n,.int .i64 t.ty.kind,.string t.ty.name,.slice a an ac,.slice ma mn mc] 27)).alloc Z7).alloc (.cells #[.int .i64 0] 3)).alloc (.cells #[.nilFunc] 126)))):=Ld
  ⟨((((Blk.new w 77 _).alloc _).alloc _).alloc _).alloc _,(((Blk.new' 27 _ (by simp)).alloc _).alloc _).alloc _,((Blk.new' 27 _ (by simp)).alloc _).alloc _,(Blk.new' 3 _ (by simp)).alloc _,Blk.new' 126 _ (by simp),((((kR.alloc _).alloc _).alloc _).alloc _).alloc _⟩
 generalize (((((w.alloc (.cells #[.map (some pm)] 77)).alloc (.cells #[.int .i64 t.op,.string t.name,.int .i64 t.n,.int .i64 t.ty.kind,.string t.ty.name,.slice a an ac,.slice ma mn mc] 27)).alloc Z7).alloc (.cells #[.int .i64 0] 3)).alloc (.cells #[.nilFunc] 126))=w5 at *
 obtain⟨X,hX⟩:∃ X,X=w.heap.size:=⟨_,rfl⟩
 obtain⟨P,hP⟩:∃ P,P=w.heap.size+1:=⟨_,rfl⟩
 obtain⟨R,hR⟩:∃ R,R=w.heap.size+1+1:=⟨_,rfl⟩
 obtain⟨Y,hY⟩:∃ Y,Y=w.heap.size+1+1+1:=⟨_,rfl⟩
 obtain⟨Z,hZ⟩:∃ Z,Z=w.heap.size+1+1+1+1:=⟨_,rfl⟩
 have HD:Hid (X=w.heap.size∧P=w.heap.size+1∧R=w.heap.size+2∧Y=w.heap.size+3∧Z=w.heap.size+4):=Ld ⟨hX,hP,by omega,by omega,by omega⟩
 rw[← hZ,← hY,← hR,← hP,← hX] at B5 ⊢
 obtain⟨b1,b2,b3,b4,b6,k5⟩:=B5.out
 have hres:Kept (fun q=>X≤q) w5 (w5.setCell ⟨Z,0,none⟩ (.func (.func 98) #[] #[.pointer (some ⟨X,0,none⟩),.pointer (some ⟨Y,0,none⟩),.pointer (some ⟨Z,0,none⟩)])):=(Kept.refl (fun q=>X≤q) w5).setCell (p:=⟨Z,0,none⟩) (Or.inl (by show X≤Z;omega)) _
 have kZ:Kept (fun q=>q=Z) w5 (w5.setCell ⟨Z,0,none⟩ (.func (.func 98) #[] #[.pointer (some ⟨X,0,none⟩),.pointer (some ⟨Y,0,none⟩),.pointer (some ⟨Z,0,none⟩)])):=(Kept.refl (fun q=>q=Z) w5).setCell (p:=⟨Z,0,none⟩) (Or.inl rfl) _
 have gZ:=b6.cell
 have fZ:=b6.frozen
 have K6:Hid (Kept (fun _=>False) w (w5.setCell ⟨Z,0,none⟩ (.func (.func 98) #[] #[.pointer (some ⟨X,0,none⟩),.pointer (some ⟨Y,0,none⟩),.pointer (some ⟨Z,0,none⟩)]))):=Ld (k5.via1 kZ (fun x hx e=>by omega))
 have HXZ:Hid (LmX X Y Z pm 0 (w5.setCell ⟨Z,0,none⟩ (.func (.func 98) #[] #[.pointer (some ⟨X,0,none⟩),.pointer (some ⟨Y,0,none⟩),.pointer (some ⟨Z,0,none⟩)]))):=Ld ⟨b1.kept kZ (fun e=>by omega),b4.kept kZ (fun e=>by omega),b6.set 0 _⟩
 have HP6:Hid (Blk (w5.setCell ⟨Z,0,none⟩ (.func (.func 98) #[] #[.pointer (some ⟨X,0,none⟩),.pointer (some ⟨Y,0,none⟩),.pointer (some ⟨Z,0,none⟩)])) P 27 [Value.int .i64 t.op,.string t.name,.int .i64 t.n,.int .i64 t.ty.kind,.string t.ty.name,.slice a an ac,.slice ma mn mc]):=Ld (b2.kept kZ (fun e=>by omega))
 have HR6:Hid (Blk (w5.setCell ⟨Z,0,none⟩ (.func (.func 98) #[] #[.pointer (some ⟨X,0,none⟩),.pointer (some ⟨Y,0,none⟩),.pointer (some ⟨Z,0,none⟩)])) R 27 z27):=Ld (b3.kept kZ (fun e=>by omega))
 clear hres kZ b1 b2 b3 b4 b6 k5 B5 hZ hY hR hP hX
 go_upto_region 4 with (fail)
 clear gZ fZ
 generalize w5.setCell ⟨Z,0,none⟩ (.func (.func 98) #[] #[.pointer (some ⟨X,0,none⟩),.pointer (some ⟨Y,0,none⟩),.pointer (some ⟨Z,0,none⟩)])=w6 at *
 have M7:=Ld (MapF.made w6)
 have K7:Hid (Kept (fun _=>False) w6 (w6.alloc (.map #[] 0))):=Ld (kR.alloc _)
 have HZL:=Ld HXZ.out.z.lt
 have HC:=Ld (lim_any (bz:=bz) HOK.out σ (fun _=>0) 0 (w6.alloc (.map #[] 0)) (fun q=>q<w.heap.size) (fun q=>q<w.heap.size) _ _ w6.heap.size 0 pm n X Y Z (HTY.out _ (K6.out.trans K7.out)) (HTM.out _ (K6.out.trans K7.out)) (HPM.out _ (K6.out.trans K7.out)) HSG.out ⟨_,M7.out,cnt_none⟩ (HXZ.out.kept K7.out (fun e=>e) (fun e=>e) (fun e=>e))
  (fun q hq=>by have:=HD.out;have:=HZL.out;constructor <;> omega) (fun q hq=>by have:=HD.out;have:=HZL.out;constructor <;> omega) (by have:=HD.out;have:=HZL.out;have:=HPL.out;omega) (by have:=HV.out.2.1;omega) (fun s=>by have:=HV.out.2.2;show 0+_≤_;omega) (by have:=HB.out;omega))
 unfold tmVal at HC
 have gP:∀ i,w6.cell? ⟨P,i,none⟩=[Value.int .i64 t.op,.string t.name,.int .i64 t.n,.int .i64 t.ty.kind,.string t.ty.name,.slice a an ac,.slice ma mn mc][i]?:=HP6.out.cell
 have gZ:∀ i,w6.cell? ⟨Z,i,none⟩=[Value.func (.func 98) #[] #[.pointer (some ⟨X,0,none⟩),.pointer (some ⟨Y,0,none⟩),.pointer (some ⟨Z,0,none⟩)]][i]?:=HXZ.out.z.cell
 go_wp2_with fail
 clear gP gZ
 refine HC.out.mono ?_
 rintro e w8 ⟨rfl,hR⟩
 have K8:Hid (Kept (fun _=>False) w w8):=Ld ((K6.out.trans K7.out).via1 hR.kp (fun x hx e=>by have:=HD.out;have:=K6.out.size;rcases e with e | e <;> omega))
 have HP8:Hid (Blk w8 P 27 [Value.int .i64 t.op,.string t.name,.int .i64 t.n,.int .i64 t.ty.kind,.string t.ty.name,.slice a an ac,.slice ma mn mc]):=Ld ((HP6.out.kept K7.out (fun e=>e)).kept hR.kp (fun e=>by have:=HD.out;have:=HZL.out;rcases e with e | e <;> omega))
 have HR8:Hid (Blk w8 R 27 z27):=Ld ((HR6.out.kept K7.out (fun e=>e)).kept hR.kp (fun e=>by have:=HD.out;have:=HZL.out;rcases e with e | e <;> omega))
 have HX8:=Ld hR.bx
 obtain⟨GN,hGN⟩:∃ GN,GN=0+szR (wgC σ (fun _=>0)) t:=⟨_,rfl⟩
 rw[← hGN] at HX8
 have HGN:Hid (GN=tmN (subT freshS t l)):=Ld (by rw[hGN,Nat.zero_add];exact HSZ.out)
 have HGB:Hid (GN≤1000000000):=Ld (by rw[hGN,Nat.zero_add];exact HB.out)
 clear hR hGN HC M7 K7 HXZ HP6 HR6 K6 HB HSZ
 have HSUB:=Ld (psub_any HOK.out l σ w8 (fun q=>q<w.heap.size) (fun q=>q<w.heap.size) _ _ pm n HLK.out HSG.out (HTY.out _ K8.out) (HTM.out _ K8.out) (HPM.out _ K8.out) (HP.out.kept K8.out) (by have:=HV.out.2.2;have:=HN.out;omega) (by have:=HV.out.2.1;omega))
 have HSMM:=Ld (ok_smt HRO.out)
 clear HRO HTY HTM HPM HLK HSG HP HN HV HOK HPL HZL
 generalize subT freshS t l=s at *
 have gY:∀ i,w8.cell? ⟨Y,i,none⟩=[Value.int .i64 GN][i]?:=HX8.out.y.cell
 by_cases hg:2000<GN
 ·have hg':(2000:Int)<(GN:Int):=by omega
  have hq:Hid (rr=(tm0,5)):=Ld (by rw[HR.out,HVR.out (by rw[← HGN.out];exact hg)];rfl)
  have gR:∀ i,w8.cell? ⟨R,i,none⟩=[Value.int .i64 0,.string ⟨#[]⟩,.int .i64 0,.int .i64 0,.string ⟨#[]⟩,.slice none 0 0,.slice none 0 0][i]?:=HR8.out.cell
  have fR:∀ i,w8.frozen? ⟨R,i,none⟩=false:=HR8.out.frozen
  clear hg
  go_wp2_with fail
  exact bodyPost_ret (results_ct Tryz.results53 rfl (load_tm (t:=tm0) (r7 HR8.out rfl))) rfl ⟨_,_,by rw[hq.out];rfl,by rw[hq.out];exact .nil (Or.inl rfl),by rw[hq.out];exact .nil (Or.inl rfl),k7w K8.out (Or.inr (by have:=HD.out;omega))⟩
 ·have hg':¬ (2000:Int)<(GN:Int):=by omega
  clear hg
  have gX:∀ i,w8.cell? ⟨X,i,none⟩=[Value.map (some pm)][i]?:=HX8.out.x.cell
  have gP:∀ i,w8.cell? ⟨P,i,none⟩=[Value.int .i64 t.op,.string t.name,.int .i64 t.n,.int .i64 t.ty.kind,.string t.ty.name,.slice a an ac,.slice ma mn mc][i]?:=HP8.out.cell
  unfold tmVal at HSUB
  go_wp2_with fail
  clear gX gP gY hg'
  refine HSUB.out.mono ?_
  rintro e w9 ⟨tk,kk,rfl,hty5,htm5,k9⟩
  have HC:=Ld (checked_any HR (B:=w8.heap.size) k9.size (hty5.mono (ok':=fun q=>w8.heap.size≤q∧q<w9.heap.size) (fun q hq h=>⟨h,hq⟩)) (htm5.mono (ok':=fun q=>w8.heap.size≤q∧q<w9.heap.size) (fun q hq h=>⟨h,hq⟩)) HSMM.out)
  obtain⟨pa,pn,pc,rfl⟩:=hty5.slice
  obtain⟨qa,qn,qc,rfl⟩:=htm5.slice
  have HR9:=Ld (HR8.out.kept k9 (fun e=>e))
  have HL8:=Ld HR8.out.lt
  have K9:=Ld (K8.out.trans k9)
  clear hty5 htm5 k9 HSUB HR8 HX8 HP8
  unfold TmB tmVal at HC
  unfold tmVal
  clear HR HVR
  go_wp2_with fail
  refine HC.out.mono ?_
  rintro e w6 ⟨tk,kk,rfl,hty6,htm6,k6⟩
  obtain⟨pa,pn,pc,rfl⟩:=hty6.slice
  obtain⟨qa,qn,qc,rfl⟩:=htm6.slice
  have HR10:=Ld (HR9.out.kept k6 (fun e=>e))
  have K10:=Ld (K9.out.trans k6)
  have HTY:=Ld hty6
  have HTM:=Ld htm6
  clear hty6 htm6 k6 HC HR9 K9
  have gR:∀ i,w6.cell? ⟨R,i,none⟩=[Value.int .i64 0,.string ⟨#[]⟩,.int .i64 0,.int .i64 0,.string ⟨#[]⟩,.slice none 0 0,.slice none 0 0][i]?:=HR10.out.cell
  have fR:∀ i,w6.frozen? ⟨R,i,none⟩=false:=HR10.out.frozen
  go_wp2_with fail
  exact bodyPost_ret (results_ct Tryz.results53 rfl (load_tm (t:=rr.1) (r7 HR10.out rfl))) rfl ⟨_,_,rfl,(HTY.out.frame (set7 (fun q hq=>by have:=HL8.out;omega))).mono (fun q _ hq=>by have:=HD.out;have:=K8.out.size;omega),(HTM.out.frame (set7 (fun q hq=>by have:=HL8.out;omega))).mono (fun q _ hq=>by have:=HD.out;have:=K8.out.size;omega),k7w K10.out (Or.inr (by have:=HD.out;omega))⟩
def BnL (bz:Nat) (ok:Nat→Prop) (w:World) (l:List (ByteArray×Tm)) (v:Value):Prop:=
 ∃ a n c,v=.slice a n c∧n=l.length∧n≤c∧(a=none→c=0)∧∀ i (h:i<l.length),∃ g off ta tn tc ma mn mc,a=some ⟨g,off,none⟩∧ok g∧g<w.heap.size∧w.cell? ⟨g,off+i*8,none⟩=some (.string l[i].1)∧C7 w g (off+i*8+1) l[i].2 (.slice ta tn tc) (.slice ma mn mc)∧TyL bz ok w l[i].2.ty.kids (.slice ta tn tc)∧TmL bz ok w l[i].2.kids (.slice ma mn mc)
theorem BnL.nil {ok:Nat→Prop} {w:World}:BnL bz ok w [] (.slice none 0 0):=⟨none,0,0,rfl,rfl,Nat.le_refl _,fun _=>rfl,fun i h=>absurd h (Nat.not_lt_zero _)⟩
theorem BnL.frame {ok:Nat→Prop} {w W:World} {l:List (ByteArray×Tm)} {v:Value} (h:BnL bz ok w l v) (hs:Same ok w W):BnL bz ok W l v:=by
 obtain⟨a,n,c,h1,h2,h3,h5,h4⟩:=h
 refine⟨a,n,c,h1,h2,h3,h5,fun i hi=>?_⟩
 obtain⟨g,off,ta,tn,tc,ma,mn,mc,e,hg,_,hc,h7,ht,hm⟩:=h4 i hi
 have hc':=hs.cell hg hc
 exact⟨g,off,ta,tn,tc,ma,mn,mc,e,hg,cell_lt hc',hc',h7.same hs hg,ht.frame hs,hm.frame hs⟩
theorem BnL.mono {ok ok':Nat→Prop} {w:World} {l:List (ByteArray×Tm)} {v:Value} (h:BnL bz ok w l v) (ho:∀ k,k<w.heap.size→ok k→ok' k):BnL bz ok' w l v:=by
 obtain⟨a,n,c,h1,h2,h3,h5,h4⟩:=h
 refine⟨a,n,c,h1,h2,h3,h5,fun i hi=>?_⟩
 obtain⟨g,off,ta,tn,tc,ma,mn,mc,e,hg,hl,hc,h7,ht,hm⟩:=h4 i hi
 exact⟨g,off,ta,tn,tc,ma,mn,mc,e,ho _ hl hg,hl,hc,h7,ht.mono ho,hm.mono ho⟩
theorem BnL.slice {ok:Nat→Prop} {w:World} {l:List (ByteArray×Tm)} {v:Value} (h:BnL bz ok w l v):∃ a c,v=.slice a l.length c:=by
 obtain⟨a,n,c,h1,h2,_⟩:=h
 exact⟨a,c,by rw[h1,h2]⟩
theorem BnL.at {ok:Nat→Prop} {w:World} {l:List (ByteArray×Tm)} {a:Option Addr} {n c:Nat} (h:BnL bz ok w l (.slice a n c)) (i:Nat) (hi:i<l.length):∃ g off ta tn tc ma mn mc,a=some ⟨g,off,none⟩∧ok g∧g<w.heap.size∧w.cell? ⟨g,off+i*8,none⟩=some (.string l[i].1)∧C7 w g (off+i*8+1) l[i].2 (.slice ta tn tc) (.slice ma mn mc)∧TyL bz ok w l[i].2.ty.kids (.slice ta tn tc)∧TmL bz ok w l[i].2.kids (.slice ma mn mc):=by
 obtain⟨a',n',c',h1,h2,h3,h5,h4⟩:=h
 cases h1
 exact h4 i hi
theorem look_drop {l:List (ByteArray×Tm)} {s:ByteArray} {k:Nat} (h:k<l.length):look (l.drop k) s=if l[k].1=s then some l[k].2 else look (l.drop (k+1)) s:=by
 rw[List.drop_eq_getElem_cons h,look]
def BofP (bz:Nat) (ok:Nat→Prop) (r:Option Tm) (w:World) (e:Ending) (w':World):Prop:=∃ tk kk,e=.returned (.tuple #[tmVal (r.getD tm0) tk kk,.bool r.isSome])∧TyL bz ok w' (r.getD tm0).ty.kids tk∧TmL bz ok w' (r.getD tm0).kids kk∧Kept (fun _=>False) w w'
theorem rbof_any {ok:Nat→Prop} {w:World} {l:List (ByteArray×Tm)} {v:Value} (s:ByteArray) (h:BnL bz ok w l v) (hn:l.length≤1000000):
  Calls Tryz.prog 153 #[v,.string s] w (BofP bz (fun q=>ok q∧q<w.heap.size) (look l s) w):=by
 obtain⟨a,c,rfl⟩:=h.slice
 have K0:Kept (fun _=>False) w (w.alloc Z7):=kR.alloc _
 have bR:Blk (w.alloc Z7) w.heap.size 27 z27:=Blk.new w 27 z27
 have HAT:=Ld (((h.mono (ok':=fun q=>ok q∧q<w.heap.size) (fun q h1 h2=>⟨h2,h1⟩)).frame (sK K0)).at)
 have HN:=Ld hn
 have HK:=Ld K0
 have BR:=Ld bR
 clear h hn K0 bR
 go_enter Tryz.func153,Tryz.ntmps153
 go_wp2_with fail
 generalize w.alloc Z7=w1 at *
 have gR:∀ i,w1.cell? ⟨w.heap.size,i,none⟩=[Value.int .i64 0,.string ⟨#[]⟩,.int .i64 0,.int .i64 0,.string ⟨#[]⟩,.slice none 0 0,.slice none 0 0][i]?:=BR.out.cell
 have fR:∀ i,w1.frozen? ⟨w.heap.size,i,none⟩=false:=BR.out.frozen
 go_loop [6] (fun i=>∃ k:Nat,k≤l.length∧i=.int .i64 k∧Hid (look l s=look (l.drop k) s)) (fun i=>l.length-(intOf i).toNat)
 case atStart=>exact⟨0,Nat.zero_le _,rfl,Ld rfl⟩
 case round=>
  obtain⟨k,hk,rfl,hq⟩:=hrel
  by_cases hlt:k<l.length
  ·have i1:(k:Int)<(l.length:Int):=by omega
   have i2:(k:Int)<1000000:=by have:=HN.out;omega
   obtain⟨g,off,ta,tn,tc,ma,mn,mc,rfl,hg,lg,c0,⟨d0,d1,d2,d3,d4,d5,d6⟩,hty,htm⟩:=HAT.out k hlt
   have HD:=Ld (look_drop (s:=s) hlt)
   have HTY:=Ld hty
   have HTM:=Ld htm
   clear hty htm
   cases hs:(l[k].1.toList==s.toList)
   ·have hne:Hid (l[k].1≠s):=Ld (by intro e;rw[e] at hs;simp at hs)
    go_wp2_with fail
    go_round
    case rel=>exact⟨k+1,by omega,by go_num,Ld (by rw[hq.out,HD.out,if_neg hne.out])⟩
    case measure=>simp[intOf];omega
   ·have hye:Hid (look l s=some l[k].2):=Ld (by
     have e:l[k].1=s:=by rw[nm_eq] at hs;exact of_decide_eq_true hs
     rw[hq.out,HD.out,if_pos e])
    go_wp2_with fail
    exact bodyPost_ret (results_ct Tryz.results153 rfl (load_tm (t:=l[k].2) (r7 BR.out rfl))) rfl ⟨_,_,by rw[hye.out];rfl,by rw[hye.out];exact HTY.out.frame (set7 (fun q hq=>by omega)),by rw[hye.out];exact HTM.out.frame (set7 (fun q hq=>by omega)),k7w HK.out (Or.inr (Nat.le_refl _))⟩
  ·have hkk:k=l.length:=by omega
   subst hkk
   have HE:Hid (look l s=none):=Ld (by rw[hq.out,List.drop_length];rfl)
   go_wp2_with fail
   exact bodyPost_ret (results_ct Tryz.results153 rfl (load_tm (t:=tm0) (r7 BR.out rfl))) rfl ⟨_,_,by rw[HE.out];rfl,by rw[HE.out];exact .nil (Or.inl rfl),by rw[HE.out];exact .nil (Or.inl rfl),k7w HK.out (Or.inr (Nat.le_refl _))⟩
def vB (b:ByteArray×Tm):Bool:=validB b.2
theorem bv1_any {ok:Nat→Prop} {w:World} {s:ByteArray} {t:Tm} {a:Option Addr} {n c:Nat} {ma:Option Addr} {mn mc:Nat} (hk:TyL bz ok w t.ty.kids (.slice a n c)) (hm:TmL bz ok w t.kids (.slice ma mn mc)) (hs:SmTm big t):
  Calls Tryz.prog 52 #[.agg #[.string s,.int .i64 t.op,.string t.name,.int .i64 t.n,.int .i64 t.ty.kind,.string t.ty.name,.slice a n c,.slice ma mn mc]] w fun e w'=>e=.returned (.bool (!validB t))∧Kept (fun _=>False) w w':=by
 have hcon:=Ld (valid_any (hk.frame (Same.alloc w (.cells #[.string s,.int .i64 t.op,.string t.name,.int .i64 t.n,.int .i64 t.ty.kind,.string t.ty.name,.slice a n c,.slice ma mn mc] 38))) (hm.frame (Same.alloc w (.cells #[.string s,.int .i64 t.op,.string t.name,.int .i64 t.n,.int .i64 t.ty.kind,.string t.ty.name,.slice a n c,.slice ma mn mc] 38))) hs)
 clear hk hm hs
 go_enter Tryz.func52,Tryz.ntmps52
 go_wp2_with fail
 refine hcon.out.mono ?_
 rintro e w' ⟨rfl,h⟩
 go_wp2_with fail
 go_ret
 exact⟨rfl,(kR.alloc _).trans h⟩
theorem vb_drop {l:List (ByteArray×Tm)} {k:Nat} (h:k<l.length):(l.drop k).all vB=(vB l[k]&&(l.drop (k+1)).all vB):=by
 rw[List.drop_eq_getElem_cons h,List.all_cons]
theorem bidx_any {ok:Nat→Prop} {l:List (ByteArray×Tm)} {a:Option Addr} {cp:Nat} {w:World} (hn1:l.length≤1000000) (hs:∀ b,b∈l→SmTm big b.2) (hk:BnL bz ok w l (.slice a l.length cp)):
  Calls Tryz.prog 97 #[.slice a l.length cp,.func (.func 52) #[] #[]] w fun e w'=>∃ i:Int,e=.returned (.int .i64 i)∧decide (0≤i)=!(l.all vB)∧Kept (fun _=>False) w w':=by
 have HS:=Ld hs
 have HN:=Ld hn1
 have HAT:=Ld (fun W (k:Kept (fun _=>False) w W)=>(hk.frame (sK k)).at)
 clear hs hn1 hk
 go_enter Tryz.func97,Tryz.ntmps97
 go_wp2_with fail
 go_loopw [8] (fun i wr=>∃ k:Nat,k≤l.length∧i=.int .i64 k∧Kept (fun _=>False) w wr∧Hid (l.all vB=(l.drop k).all vB)) (fun i _=>l.length-(intOf i).toNat)
 case atStart=>exact⟨0,Nat.zero_le _,rfl,Kept.refl _ _,Ld rfl⟩
 case round=>
  obtain⟨k,hkl,rfl,hkr,heq⟩:=hrel
  have HKR:=Ld hkr
  clear hkr
  by_cases hlt:k<l.length
  ·have i1:(k:Int)<(l.length:Int):=by omega
   have i2:(k:Int)<1000000:=by have:=HN.out;omega
   obtain⟨g,off,ta,tn,tc,ma,mn,mc,rfl,hg,lg,c0,⟨d0,d1,d2,d3,d4,d5,d6⟩,hty,htm⟩:=HAT.out wr HKR.out k hlt
   have hst:=Ld (vb_drop hlt)
   have hcon:=Ld (bv1_any (s:=l[k].1) hty htm (HS.out _ (List.getElem_mem hlt)))
   clear hty htm hg lg
   cases hr:validB l[k].2
   ·rw[hr] at hcon
    go_wp2_with (go_at_call 52;refine hcon.out.mono ?_;rintro e w' ⟨rfl,h1⟩)
    go_ret
    exact⟨k,rfl,by rw[heq.out,hst.out];unfold vB;rw[hr];simp,HKR.out.trans h1⟩
   ·rw[hr] at hcon
    go_wp2_with (go_at_call 52;refine hcon.out.mono ?_;rintro e w' ⟨rfl,h1⟩)
    go_roundw
    case rel=>exact⟨k+1,by omega,by go_num,HKR.out.trans h1,Ld (by rw[heq.out,hst.out];unfold vB;rw[hr];rfl)⟩
    case measure=>simp[intOf];omega
  ·have hz:Hid (l.all vB=true):=Ld (by rw[heq.out,List.drop_eq_nil_of_le (by omega)];rfl)
   go_wp2_with fail
   go_ret
   exact⟨-1,rfl,by rw[hz.out];rfl,HKR.out⟩
theorem bcont_any {ok:Nat→Prop} {l:List (ByteArray×Tm)} {a:Option Addr} {cp:Nat} {w:World} (hn1:l.length≤1000000) (hs:∀ b,b∈l→SmTm big b.2) (hk:BnL bz ok w l (.slice a l.length cp)):
  Calls Tryz.prog 51 #[.slice a l.length cp,.func (.func 52) #[] #[]] w fun e w'=>e=.returned (.bool (!(l.all vB)))∧Kept (fun _=>False) w w':=by
 have hcon:=Ld (bidx_any hn1 hs hk)
 clear hs hk hn1
 go_enter Tryz.func51,Tryz.ntmps51
 go_wp2_with fail
 refine hcon.out.mono ?_
 rintro e w' ⟨i,rfl,hi,h1⟩
 go_wp2_with fail
 go_ret
 exact⟨rfl,h1⟩
def sbstR (t:Tm) (l:List (ByteArray×Tm)):Tm×Int:=if validB t&&l.all vB then ltdR t l else (tm0,1)
theorem look_take {l:List (ByteArray×Tm)} {k:Nat} (h:k<l.length) (s:ByteArray):look (l.take (k+1)) s=(match look (l.take k) s with | some u=>some u | none=>if l[k].1=s then some l[k].2 else none):=by
 have e:l.take (k+1)=l.take k++[l[k]]:=by rw[List.take_add_one,List.getElem?_eq_getElem h];rfl
 rw[e,look_app]
 cases look (l.take k) s <;> rfl
theorem all_vb {l:List (ByteArray×Tm)} (h:l.all vB=true) {b:ByteArray×Tm} (hb:b∈l):validB b.2=true:=List.all_eq_true.1 h b hb
theorem vb_okB {l:List (ByteArray×Tm)} (h:l.all vB=true):OkB l:=fun b hb=>valid_ok (all_vb h hb)
theorem frB_le:∀ {l:List (ByteArray×Tm)},l.all vB=true→(frB l).length≤2000*l.length
 | [],_=>Nat.zero_le _
 | b::l,h=>by
  have h1:=(valid_iff _).1 (all_vb h (List.mem_cons_self ..))
  have h2:=frs_len b.2
  have h3:=frB_le (l:=l) (by rw[List.all_cons,Bool.and_eq_true] at h;exact h.2)
  rw[frB,List.length_append,List.length_cons]
  omega
theorem vb_sg {l:List (ByteArray×Tm)} (h:l.all vB=true):SgOk (look l):=by
 intro s u hu
 obtain⟨b,hb,rfl⟩:=look_mem hu
 have h1:=(valid_iff _).1 (all_vb h hb)
 exact⟨h1.1,h1.2.1,by omega⟩
theorem prv_new {ok:Nat→Prop} {w:World} {l:List (ByteArray×Tm)} {k:Nat} {f:ByteArray→Option Value} {ta pa:Option Addr} {tn tc pn pc:Nat} (h:k<l.length) (hv:PrV bz ok w (look (l.take k)) f) (hu:look (l.take k) l[k].1=none) (h1:TyL bz ok w l[k].2.ty.kids (.slice ta tn tc)) (h2:TmL bz ok w l[k].2.kids (.slice pa pn pc)):
  PrV bz ok w (look (l.take (k+1))) (updF f l[k].1 (tmVal l[k].2 (.slice ta tn tc) (.slice pa pn pc))):=by
 intro s
 have h3:=hv s
 rw[look_take h s]
 unfold updF
 by_cases hs:s=l[k].1
 ·subst hs
  rw[hu]
  simp only[if_true]
  exact⟨ta,tn,tc,pa,pn,pc,rfl,h1,h2⟩
 ·rw[if_neg hs]
  cases hq:look (l.take k) s with
  | none=>rw[hq] at h3;rw[if_neg (fun e=>hs e.symm)];exact h3
  | some u=>rw[hq] at h3;exact h3
theorem look_old {l:List (ByteArray×Tm)} {k:Nat} (h:k<l.length) {u:Tm} (hu:look (l.take k) l[k].1=some u):look (l.take (k+1))=look (l.take k):=by
 funext s
 rw[look_take h s]
 cases hq:look (l.take k) s with
 | some _=>rfl
 | none=>
  rw[if_neg]
  intro e
  rw[e,hq] at hu
  cases hu
structure SS (bz:Nat) (w:World) (ce:List Value) (M:Nat) (okb:Nat→Prop) (l:List (ByteArray×Tm)) (k:Nat) (W:World):Prop where
 kp:Kept (fun _=>False) w W
 a:Blk W w.heap.size 27 ce
 r:Blk W (w.heap.size+1) 27 z27
 m:PrM bz (fun q=>okb q∧q<w.heap.size) W M k (look (l.take k))
 lm:w.heap.size+2≤M
theorem SS.kept {w W W':World} {ce:List Value} {M k:Nat} {okb:Nat→Prop} {l:List (ByteArray×Tm)} (h:SS bz w ce M okb l k W) (q:Kept (fun _=>False) W W'):SS bz w ce M okb l k W':=
 ⟨h.kp.trans q,h.a.kept q (fun e=>e),h.r.kept q (fun e=>e),h.m.kept q (fun e=>e) (fun _ _ e=>e),h.lm⟩
theorem subst_any {t:Tm} {l:List (ByteArray×Tm)} {ok okb:Nat→Prop} {w:World} {tk kk vl:Value} (h1:TyL bz ok w t.ty.kids tk) (h2:TmL bz ok w t.kids kk) (hs:SmTm big t) (hB:BnL bz okb w l vl) (hsb:∀ b,b∈l→SmTm big b.2) (hnb:∀ b,b∈l→b.1.size≤maxLen) (hn:l.length≤200) (hp:P10 w):
  Calls Tryz.prog 18 #[tmVal t tk kk,vl] w (TmB bz w.heap.size (sbstR t l) w):=by
 obtain⟨p,n,c,rfl⟩:=h1.slice
 obtain⟨ma,mn,mc,rfl⟩:=h2.slice
 obtain⟨aa,ac,rfl⟩:=hB.slice
 have HV:=Ld (fun W (k:Kept (fun _=>False) w W)=>valid_any (h1.frame (sK k)) (h2.frame (sK k)) hs)
 have HC:=Ld (fun W (k:Kept (fun _=>False) w W)=>bcont_any (by omega:l.length≤1000000) hsb (hB.frame (sK k)))
 have HAT:=Ld (fun W (k:Kept (fun _=>False) w W)=>((hB.mono (ok':=fun q=>okb q∧q<w.heap.size) (fun q h1 h2=>⟨h2,h1⟩)).frame (sK k)).at)
 have HLT:=Ld (fun (hv:validB t=true) (hall:l.all vB=true) W (m:Nat) (k:Kept (fun _=>False) w W) (hm:PrM bz (fun q=>okb q∧q<w.heap.size) W m l.length (look (l.take l.length)))=>
  limited_any hv (fun _=>rfl) (vb_sg hall) ⟨vb_okB hall,by have:=frB_le hall;omega⟩ (h1.frame (sK k)) (h2.frame (sK k)) (by rw[List.take_length] at hm;exact hm) (hp.kept k) hn)
 have HSZ:=Ld (fun (k:Nat) (h:k<l.length)=>hnb _ (List.getElem_mem h))
 have HN:=Ld hn
 have HR:Hid (sbstR t l=if validB t&&l.all vB then ltdR t l else (tm0,1)):=Ld rfl
 generalize sbstR t l=rr at *
 clear h1 h2 hs hB hsb hnb hn hp
 have hmm:=@run_makeMap Tryz.prog
 unfold tmVal
 have B0:Hid (Blk ((w.alloc (.cells #[.int .i64 t.op,.string t.name,.int .i64 t.n,.int .i64 t.ty.kind,.string t.ty.name,.slice p n c,.slice ma mn mc] 27)).alloc Z7) w.heap.size 27 [Value.int .i64 t.op,.string t.name,.int .i64 t.n,.int .i64 t.ty.kind,.string t.ty.name,.slice p n c,.slice ma mn mc]∧Blk ((w.alloc (.cells #[.int .i64 t.op,.string t.name,.int .i64 t.n,.int .i64 t.ty.kind,.string t.ty.name,.slice p n c,.slice ma mn mc] 27)).alloc Z7) (w.heap.size+1) 27 z27∧Kept (fun _=>False) w ((w.alloc (.cells #[.int .i64 t.op,.string t.name,.int .i64 t.n,.int .i64 t.ty.kind,.string t.ty.name,.slice p n c,.slice ma mn mc] 27)).alloc Z7)):=Ld
  ⟨(Blk.new w 27 [Value.int .i64 t.op,.string t.name,.int .i64 t.n,.int .i64 t.ty.kind,.string t.ty.name,.slice p n c,.slice ma mn mc]).alloc _,Blk.new' 27 _ (by simp),(kR.alloc _).alloc _⟩
 go_enter Tryz.func18,Tryz.ntmps18
 go_upto_region 1 with (fail)
 generalize ((w.alloc (.cells #[.int .i64 t.op,.string t.name,.int .i64 t.n,.int .i64 t.ty.kind,.string t.ty.name,.slice p n c,.slice ma mn mc] 27)).alloc Z7)=w1 at *
 have gA:∀ i,w1.cell? ⟨w.heap.size,i,none⟩=[Value.int .i64 t.op,.string t.name,.int .i64 t.n,.int .i64 t.ty.kind,.string t.ty.name,.slice p n c,.slice ma mn mc][i]?:=B0.out.1.cell
 have HV1:=Ld (HV.out w1 B0.out.2.2)
 cases hv:validB t
 ·rw[hv] at HV1
  have hq:Hid (rr=(tm0,1)):=Ld (by rw[HR.out,hv];rfl)
  clear HR HLT HC HAT hv HV
  go_wp2_with fail
  refine HV1.out.mono ?_
  rintro e w2 ⟨rfl,k2⟩
  have BR:=Ld (B0.out.2.1.kept k2 (fun h=>h))
  have KK:=Ld (B0.out.2.2.trans k2)
  clear k2 B0 gA HV1
  have gR:∀ i,w2.cell? ⟨w.heap.size+1,i,none⟩=[Value.int .i64 0,.string ⟨#[]⟩,.int .i64 0,.int .i64 0,.string ⟨#[]⟩,.slice none 0 0,.slice none 0 0][i]?:=BR.out.cell
  have fR:∀ i,w2.frozen? ⟨w.heap.size+1,i,none⟩=false:=BR.out.frozen
  go_wp2_with fail
  exact bodyPost_ret (results_ct Tryz.results18 rfl (load_tm (t:=tm0) (r7 BR.out rfl))) rfl ⟨_,_,by rw[hq.out];rfl,by rw[hq.out];exact .nil (Or.inl rfl),by rw[hq.out];exact .nil (Or.inl rfl),k7w KK.out (Or.inr (Nat.le_succ _))⟩
 ·rw[hv] at HV1
  have HLT2:=Ld (HLT.out hv)
  have HR2:Hid (rr=if l.all vB then ltdR t l else (tm0,1)):=Ld (by rw[HR.out,hv];rfl)
  clear HR HLT hv HV
  go_wp2_with fail
  refine HV1.out.mono ?_
  rintro e w2 ⟨rfl,k2⟩
  have BA:=Ld (B0.out.1.kept k2 (fun h=>h))
  have BR:=Ld (B0.out.2.1.kept k2 (fun h=>h))
  have KK:=Ld (B0.out.2.2.trans k2)
  clear k2 B0 gA HV1
  have HC2:=Ld (HC.out w2 KK.out)
  clear HC
  go_wp2_with fail
  refine HC2.out.mono ?_
  rintro e w3 ⟨rfl,k3⟩
  have BA3:=Ld (BA.out.kept k3 (fun h=>h))
  have BR3:=Ld (BR.out.kept k3 (fun h=>h))
  have K3:=Ld (KK.out.trans k3)
  clear k3 KK BA BR HC2
  cases ha:l.all vB
  ·have hq:Hid (rr=(tm0,1)):=Ld (by rw[HR2.out,ha];rfl)
   have gR:∀ i,w3.cell? ⟨w.heap.size+1,i,none⟩=[Value.int .i64 0,.string ⟨#[]⟩,.int .i64 0,.int .i64 0,.string ⟨#[]⟩,.slice none 0 0,.slice none 0 0][i]?:=BR3.out.cell
   have fR:∀ i,w3.frozen? ⟨w.heap.size+1,i,none⟩=false:=BR3.out.frozen
   clear HR2 HLT2 HAT ha
   go_wp2_with fail
   exact bodyPost_ret (results_ct Tryz.results18 rfl (load_tm (t:=tm0) (r7 BR3.out rfl))) rfl ⟨_,_,by rw[hq.out];rfl,by rw[hq.out];exact .nil (Or.inl rfl),by rw[hq.out];exact .nil (Or.inl rfl),k7w K3.out (Or.inr (Nat.le_succ _))⟩
  ·have hq:Hid (rr=ltdR t l):=Ld (by rw[HR2.out,ha];rfl)
   have HL:=Ld (HLT2.out ha)
   clear HR2 HLT2 ha
   go_upto_region 4 with (fail)
   have S4:Hid (SS bz w [Value.int .i64 t.op,.string t.name,.int .i64 t.n,.int .i64 t.ty.kind,.string t.ty.name,.slice p n c,.slice ma mn mc] w3.heap.size okb l 0 (w3.alloc (.map #[] 0))):=Ld (by
    have k:Kept (fun _=>False) w3 (w3.alloc (.map #[] 0)):=kR.alloc _
    exact⟨K3.out.trans k,BA3.out.kept k (fun e=>e),BR3.out.kept k (fun e=>e),⟨_,MapF.made w3,fun s=>rfl⟩,by have:=BR3.out.lt;omega⟩)
   generalize w3.alloc (.map #[] 0)=w4 at *
   generalize w3.heap.size=M at *
   clear BA3 BR3 K3 hmm
   go_wp2_with fail
   go_loopw [22] (fun i wr=>∃ k:Nat,k≤l.length∧i=.int .i64 k∧SS bz w [Value.int .i64 t.op,.string t.name,.int .i64 t.n,.int .i64 t.ty.kind,.string t.ty.name,.slice p n c,.slice ma mn mc] M okb l k wr) (fun i _=>l.length-(intOf i).toNat)
   case atStart=>exact⟨0,Nat.zero_le _,rfl,S4.out⟩
   case round=>
    obtain⟨k,hk,rfl,hS⟩:=hrel
    have S:=Ld hS
    clear hS S4
    by_cases hlt:k<l.length
    ·have i1:(k:Int)<(l.length:Int):=by omega
     have i2:(k:Int)<1000000:=by have:=HN.out;omega
     obtain⟨g,off,ta,tn,tc,qa,qn,qc,rfl,hg,lg,c0,⟨d0,d1,d2,d3,d4,d5,d6⟩,hty,htm⟩:=HAT.out wr S.out.kp k hlt
     have HTY:=Ld hty
     have HTM:=Ld htm
     clear hty htm hg lg
     go_upto_region 7 with (fail)
     clear c0 d0 d1 d2 d3 d4 d5 d6
     have K5:Hid (Kept (fun _=>False) wr (wr.alloc (.cells #[.string l[k].1,.int .i64 l[k].2.op,.string l[k].2.name,.int .i64 l[k].2.n,.int .i64 l[k].2.ty.kind,.string l[k].2.ty.name,.slice ta tn tc,.slice qa qn qc] 38))):=Ld (kR.alloc _)
     have bK:=Ld (Blk.new wr 38 [Value.string l[k].1,.int .i64 l[k].2.op,.string l[k].2.name,.int .i64 l[k].2.n,.int .i64 l[k].2.ty.kind,.string l[k].2.ty.name,.slice ta tn tc,.slice qa qn qc])
     change Hid (Blk (wr.alloc (.cells #[.string l[k].1,.int .i64 l[k].2.op,.string l[k].2.name,.int .i64 l[k].2.n,.int .i64 l[k].2.ty.kind,.string l[k].2.ty.name,.slice ta tn tc,.slice qa qn qc] 38)) wr.heap.size _ _) at bK
     have S5:=Ld (S.out.kept K5.out)
     have HTY5:=Ld (HTY.out.frame (sK K5.out))
     have HTM5:=Ld (HTM.out.frame (sK K5.out))
     generalize wr.alloc (.cells #[.string l[k].1,.int .i64 l[k].2.op,.string l[k].2.name,.int .i64 l[k].2.n,.int .i64 l[k].2.ty.kind,.string l[k].2.ty.name,.slice ta tn tc,.slice qa qn qc] 38)=w5 at *
     generalize wr.heap.size=Q at *
     clear K5 S HTY HTM
     obtain⟨f,hM,hPV⟩:=S5.out.m
     have HM:=Ld hM
     have HPV:=Ld hPV
     have hlk:=hM.look_ok Tryz.underlying77 (z28 w5) (HSZ.out k hlt)
     have gK:∀ i,w5.cell? ⟨Q,i,none⟩=[Value.string l[k].1,.int .i64 l[k].2.op,.string l[k].2.name,.int .i64 l[k].2.n,.int .i64 l[k].2.ty.kind,.string l[k].2.ty.name,.slice ta tn tc,.slice qa qn qc][i]?:=bK.out.cell
     have hf:=hPV l[k].1
     clear hM hPV
     cases hu:look (l.take k) l[k].1 with
     | some u=>
      rw[hu] at hf
      obtain⟨ua,un,uc,va,vn,vc,hf,_,_⟩:=hf
      rw[hf] at hlk
      unfold tmVal at hlk
      simp only[Option.getD_some,Option.isSome_some] at hlk
      have HO:=Ld (look_old hlt hu)
      clear hf hu
      go_wp2_with fail
      go_roundw
      case rel=>exact⟨k+1,by omega,by go_num,by
       have S6:=S5.out.kept ((Kept.refl (fun _=>False) w5).alloc (.cells #[.int .i64 u.op,.string u.name,.int .i64 u.n,.int .i64 u.ty.kind,.string u.ty.name,.slice ua un uc,.slice va vn vc] 27))
       exact⟨S6.kp,S6.a,S6.r,by obtain⟨f,h1,h2⟩:=S6.m;rw[HO.out];exact⟨f,h1.mono (Nat.le_succ _),h2⟩,S6.lm⟩⟩
      case measure=>simp[intOf];omega
     | none=>
      rw[hu] at hf
      have hf:f l[k].1=none:=hf
      rw[hf] at hlk
      simp only[Option.getD_none,Option.isSome_none] at hlk
      have HNEW:=Ld (prv_new hlt HPV.out hu HTY5.out HTM5.out)
      clear hf hu
      go_upto_region 8 with (fail)
      have K6:Hid (Kept (fun _=>False) w5 (w5.alloc Z7)):=Ld (kR.alloc _)
      have S6:=Ld (S5.out.kept K6.out)
      have M6:=Ld (HM.out.kept K6.out (fun e=>e))
      have bK6:=Ld (bK.out.kept K6.out (fun e=>e))
      have HNEW6:=Ld (HNEW.out.frame (sK K6.out))
      generalize w5.alloc Z7=w6 at *
      clear gK hlk HM bK HNEW S5 K6 HTY5 HTM5
      have gK:∀ i,w6.cell? ⟨Q,i,none⟩=[Value.string l[k].1,.int .i64 l[k].2.op,.string l[k].2.name,.int .i64 l[k].2.n,.int .i64 l[k].2.ty.kind,.string l[k].2.ty.name,.slice ta tn tc,.slice qa qn qc][i]?:=bK6.out.cell
      have HKL:Hid (k<maxLen):=Ld (by have:=HN.out;unfold maxLen;omega)
      go_wp2_with (at_mapUpdate;refine wpList_storeF rfl _ _ _ _ 27 rfl Tryz.underlying77 rfl M6.out l[k].1 rfl (HSZ.out k hlt) HKL.out (.agg #[.int .i64 l[k].2.op,.string l[k].2.name,.int .i64 l[k].2.n,.int .i64 l[k].2.ty.kind,.string l[k].2.ty.name,.slice ta tn tc,.slice qa qn qc]) rfl ?_;intro w7 hm7 k7;clear gK)
      go_roundw
      case rel=>exact⟨k+1,by omega,by go_num,by
       have hl:=S6.out.lm
       exact⟨S6.out.kp.via1 k7 (fun x hx e=>by omega),S6.out.a.kept k7 (fun e=>by omega),S6.out.r.kept k7 (fun e=>by omega),⟨_,hm7,HNEW6.out.frame (Same.of_kept k7 (fun q hq e=>by have:=hq.2;omega))⟩,hl⟩⟩
      case measure=>simp[intOf];omega
    ·have hkk:k=l.length:=by omega
     subst hkk
     have HL8:=Ld (HL.out wr M S.out.kp S.out.m)
     unfold tmVal at HL8
     have gA:∀ i,wr.cell? ⟨w.heap.size,i,none⟩=[Value.int .i64 t.op,.string t.name,.int .i64 t.n,.int .i64 t.ty.kind,.string t.ty.name,.slice p n c,.slice ma mn mc][i]?:=S.out.a.cell
     generalize ltdR t l=ss at *
     obtain rfl:rr=ss:=hq.out
     clear hq HL HAT
     go_wp2_with fail
     refine HL8.out.mono ?_
     rintro e w9 ⟨tk,kk,rfl,hty,htm,k9⟩
     obtain⟨pa,pn,pc,rfl⟩:=hty.slice
     obtain⟨qa,qn,qc,rfl⟩:=htm.slice
     have S9:=Ld (S.out.kept k9)
     have HLW:=Ld S.out.r.lt
     have HTY:=Ld hty
     have HTM:=Ld htm
     clear hty htm k9 S HL8 gA
     have gR:∀ i,w9.cell? ⟨w.heap.size+1,i,none⟩=[Value.int .i64 0,.string ⟨#[]⟩,.int .i64 0,.int .i64 0,.string ⟨#[]⟩,.slice none 0 0,.slice none 0 0][i]?:=S9.out.r.cell
     have fR:∀ i,w9.frozen? ⟨w.heap.size+1,i,none⟩=false:=S9.out.r.frozen
     unfold tmVal
     go_wp2_with fail
     exact bodyPost_ret (results_ct Tryz.results18 rfl (load_tm (t:=rr.1) (r7 S9.out.r rfl))) rfl ⟨_,_,rfl,(HTY.out.frame (set7 (fun q hq=>by have:=HLW.out;omega))).mono (fun q _ hq=>by have:=HLW.out;omega),(HTM.out.frame (set7 (fun q hq=>by have:=HLW.out;omega))).mono (fun q _ hq=>by have:=HLW.out;omega),k7w S9.out.kp (Or.inr (by omega))⟩
theorem sbst_one {t u:Tm} {x:ByteArray} (ht:validB t=true) (hu:validB u=true):sbstR t [(x,u)]=if validB (subT freshS t [(x,u)]) then (subT freshS t [(x,u)],0) else (tm0,5):=by
 unfold sbstR ltdR
 have h:([(x,u)]:List (ByteArray×Tm)).all vB=true:=by
  rw[List.all_cons,List.all_nil,Bool.and_true];exact hu
 rw[ht,h]
 rfl
end Go.Proofs.YtdmebjbkccjhbaaGreatDoor
