/- A part. -/
import Derived.Test.YtdmebjbkccjhbaaGreatDoorK14
import Derived.RangeFuncBox
import Derived.RangeFuncLeaves
import Derived.Shelf.Abstract
import Derived.OwnWalkIn
import Derived.TacticsInMore
import Derived.LoopNIn
import Derived.LoopIn
set_option linter.unusedVariables false
set_option linter.unusedSimpArgs false
set_option maxRecDepth 100000
set_option maxHeartbeats 32000000
namespace Go.Proofs.YtdmebjbkccjhbaaGreatDoor
open Go.RowKit
def upW (nm:ByteArray) (σ:ByteArray→Nat):ByteArray→Nat:=fun s=>if s=nm then 1 else σ s
mutual
def szR (σ:ByteArray→Nat):Tm→Nat
 | .mk op nm _ _ ks=>if op=20 then σ nm else szRs (binderB op) nm σ 0 ks+1
def szRs (bi:Bool) (nm:ByteArray) (σ:ByteArray→Nat):Nat→List Tm→Nat
 | _,[]=>0
 | i,t::l=>szR (if bi&&i==1 then upW nm σ else σ) t+szRs bi nm σ (i+1) l
end
mutual
def dpR (σ:ByteArray→Nat):Tm→Nat
 | .mk op nm _ _ ks=>if op=20 then σ nm else dpRs (binderB op) nm σ 0 ks+1
def dpRs (bi:Bool) (nm:ByteArray) (σ:ByteArray→Nat):Nat→List Tm→Nat
 | _,[]=>0
 | i,t::l=>max (dpR (if bi&&i==1 then upW nm σ else σ) t) (dpRs bi nm σ (i+1) l)
end
theorem szD_upE (nm:ByteArray) (ρ:ByteArray→Db):(fun s=>szD (upE nm ρ s))=upW nm (fun s=>szD (ρ s)):=by
 funext s
 unfold upE upW
 split
 ·rfl
 ·rw[szD_ren]
theorem dpD_upE (nm:ByteArray) (ρ:ByteArray→Db):(fun s=>dpD (upE nm ρ s))=upW nm (fun s=>dpD (ρ s)):=by
 funext s
 unfold upE upW
 split
 ·rfl
 ·rw[dpD_ren]
theorem szD_ev:∀ (t:Tm) (ρ:ByteArray→Db),szD (ev ρ t)=szR (fun s=>szD (ρ s)) t:=by
 intro t
 induction t using Tm.rec (motive_2:=fun l=>∀ (bi:Bool) (nm:ByteArray) (ρ:ByteArray→Db) (i:Nat),szDs (evs bi nm ρ i l)=szRs bi nm (fun s=>szD (ρ s)) i l) with
 | mk op nm N ty l ih=>
  intro ρ
  rw[ev,szR]
  split
  ·rfl
  ·rw[szD,ih]
 | nil=>rename_i bi nm ρ i;rfl
 | cons t l iht ihl=>
  rename_i bi nm ρ i
  rw[evs,szDs,szRs,iht,ihl]
  split
  ·rw[szD_upE]
  ·rfl
theorem dpD_ev:∀ (t:Tm) (ρ:ByteArray→Db),dpD (ev ρ t)=dpR (fun s=>dpD (ρ s)) t:=by
 intro t
 induction t using Tm.rec (motive_2:=fun l=>∀ (bi:Bool) (nm:ByteArray) (ρ:ByteArray→Db) (i:Nat),dpDs (evs bi nm ρ i l)=dpRs bi nm (fun s=>dpD (ρ s)) i l) with
 | mk op nm N ty l ih=>
  intro ρ
  rw[ev,dpR]
  split
  ·rfl
  ·rw[dpD,ih]
 | nil=>rename_i bi nm ρ i;rfl
 | cons t l iht ihl=>
  rename_i bi nm ρ i
  rw[evs,dpDs,dpRs,iht,ihl]
  split
  ·rw[dpD_upE]
  ·rfl
def wgN (l:List (ByteArray×Tm)) (s:ByteArray):Nat:=match look l s with | some u=>tmN u | none=>1
def wgD (l:List (ByteArray×Tm)) (s:ByteArray):Nat:=match look l s with | some u=>tmD u | none=>1
theorem sub_size {t:Tm} (h:OkTm t) {l:List (ByteArray×Tm)} (hl:OkB l) (hM:tmN t+(frB l).length≤800000):tmN (subT freshS t l)=szR (wgN l) t∧tmD (subT freshS t l)=dpR (wgD l) t:=by
 have ho:=sub_ok h l hl hM
 have e:=ev_sub freshS_FS t l .fv hM
 have hw:∀ s,szD (evB .fv l s)=wgN l s∧dpD (evB .fv l s)=wgD l s:=fun s=>by
  unfold evB wgN wgD
  cases hk:look l s with
  | none=>exact⟨rfl,rfl⟩
  | some u=>
   obtain⟨b,hb,rfl⟩:=look_mem hk
   exact⟨ev_size _ _ (hl b hb).nw (fun _=>rfl),ev_depth _ _ (hl b hb).nw (fun _=>rfl)⟩
 constructor
 ·rw[← ev_size _ .fv ho.nw (fun _=>rfl),e,szD_ev]
  congr 1;funext s;exact (hw s).1
 ·rw[← ev_depth _ .fv ho.nw (fun _=>rfl),e,dpD_ev]
  congr 1;funext s;exact (hw s).2
def wgS (σ:ByteArray→Option Tm) (s:ByteArray):Nat:=match σ s with | some u=>tmN u | none=>1
def wgC (σ:ByteArray→Option Tm) (c:ByteArray→Nat):ByteArray→Nat:=fun s=>if c s=0 then wgS σ s else 1
theorem wgC_up (σ:ByteArray→Option Tm) (c:ByteArray→Nat) (nm:ByteArray):wgC σ (fun t=>if t=nm then c nm+1 else c t)=upW nm (wgC σ c):=by
 funext s
 unfold wgC upW
 by_cases h:s=nm
 ·simp[h]
 ·simp[h]
def ndW (σ:ByteArray→Option Tm) (c:ByteArray→Nat) (op:Int) (nm:ByteArray):Nat:=if op=20 then wgC σ c nm else 1
theorem szR_nd {σ:ByteArray→Option Tm} {c:ByteArray→Nat} {op:Int} {nm:ByteArray} {N:Int} {ty:Ty} {ks:List Tm} (h20:op=20→ks=[]):szR (wgC σ c) (.mk op nm N ty ks)=ndW σ c op nm+szRs (binderB op) nm (wgC σ c) 0 (ks.drop 0):=by
 rw[szR]
 unfold ndW
 by_cases ho:op=20
 ·rw[if_pos ho,if_pos ho,h20 ho];rfl
 ·rw[if_neg ho,if_neg ho,List.drop_zero];omega
theorem szRs_drop {bi:Bool} {nm:ByteArray} {ρ:ByteArray→Nat} {ks:List Tm} {k:Nat} (h:k<ks.length):szRs bi nm ρ k (ks.drop k)=szR (if bi&&k==1 then upW nm ρ else ρ) ks[k]+szRs bi nm ρ (k+1) (ks.drop (k+1)):=by
 rw[List.drop_eq_getElem_cons h,szRs]
structure LmX (X Y Z pm:Nat) (G:Nat) (W:World):Prop where
 x:Blk W X 77 [.map (some pm)]
 y:Blk W Y 3 [.int .i64 G]
 z:Blk W Z 126 [.func (.func 98) #[] #[.pointer (some ⟨X,0,none⟩),.pointer (some ⟨Y,0,none⟩),.pointer (some ⟨Z,0,none⟩)]]
structure LmR (b X Y Z pm n:Nat) (c:ByteArray→Nat) (G:Nat) (w w':World):Prop where
 kp:Kept (fun q=>q=b∨q=Y) w w'
 bo:∃ f,MapF w' b n f∧CntF f c
 bx:LmX X Y Z pm G w'
def LmC (t:Tm):Prop:=∀ (σ:ByteArray→Option Tm) (c:ByteArray→Nat) (G:Nat) (w:World) (ok okm:Nat→Prop) (tk kk:Value) (b n pm np X Y Z:Nat),TyL ok w t.ty.kids tk→TmL ok w t.kids kk→PrM okm w pm np σ→SgOk σ→(∃ f,MapF w b n f∧CntF f c)→LmX X Y Z pm G w →
 (∀ q,ok q→q≠b∧q≠Y)→(∀ q,okm q→q≠b∧q≠Y)→(b≠Y∧b≠X∧b≠Z∧b≠pm∧Y≠X∧Y≠Z∧Y≠pm)→n+2*tmN t≤1000000→(∀ s,c s+tmD t≤1000000)→G+szR (wgC σ c) t≤1000000000 →
 Calls Tryz.prog 98 #[tmVal t tk kk,.map (some b),.pointer (some ⟨X,0,none⟩),.pointer (some ⟨Y,0,none⟩),.pointer (some ⟨Z,0,none⟩)] w fun e w'=>e=.returned (.tuple #[])∧LmR b X Y Z pm (n+2*tmN t) c (G+szR (wgC σ c) t) w w'
structure LmS (w:World) (ce:List Value) (b X Y Z pm n:Nat) (c:ByteArray→Nat) (G:Nat) (W:World):Prop where
 r:LmR b X Y Z pm n c G w W
 a:Blk W w.heap.size 27 ce
theorem LmX.kept {X Y Z pm G:Nat} {W W':World} (h:LmX X Y Z pm G W) {S:Nat→Prop} (k:Kept S W W') (h1:¬ S X) (h2:¬ S Y) (h3:¬ S Z):LmX X Y Z pm G W':=⟨h.x.kept k h1,h.y.kept k h2,h.z.kept k h3⟩
section
variable {w W W':World} {ce:List Value} {b X Y Z pm n n':Nat} {c c':ByteArray→Nat} {G G':Nat}
theorem LmS.kept (h:LmS w ce b X Y Z pm n c G W) (k:Kept (fun _=>False) W W'):LmS w ce b X Y Z pm n c G W':=by
 obtain⟨⟨h1,⟨f,h2,h3⟩,h4⟩,h5⟩:=h
 exact⟨⟨h1.trans (k.mono (fun _ _ e=>e.elim)),⟨f,h2.kept k (fun e=>e),h3⟩,h4.kept k (fun e=>e) (fun e=>e) (fun e=>e)⟩,h5.kept k (fun e=>e)⟩
theorem LmS.step (h:LmS w ce b X Y Z pm n c G W) (hl:b<w.heap.size∧Y<w.heap.size) (r:LmR b X Y Z pm n' c' G' W W'):LmS w ce b X Y Z pm n' c' G' W':=
 ⟨⟨h.r.kp.trans r.kp,r.bo,r.bx⟩,h.a.kept r.kp (fun e=>by rcases e with e | e <;> omega)⟩
theorem LmS.cnt (h:LmS w ce b X Y Z pm n c G W) (hl:b<w.heap.size) (hd:b≠Y∧b≠X∧b≠Z) {f':ByteArray→Option Value} (hm:MapF W' b n' f') (hf:CntF f' c') (k:Kept (fun q=>q=b) W W'):LmS w ce b X Y Z pm n' c' G W':=
 ⟨⟨h.r.kp.trans (k.mono (fun _ _ e=>Or.inl e)),⟨f',hm,hf⟩,h.r.bx.kept k (fun e=>hd.2.1 e.symm) (fun e=>hd.1 e.symm) (fun e=>hd.2.2 e.symm)⟩,h.a.kept k (fun e=>by omega)⟩
theorem LmS.grow (h:LmS w ce b X Y Z pm n c G W) (hl:Y<w.heap.size) (hd:b≠Y∧Y≠X∧Y≠Z) (G':Nat):LmS w ce b X Y Z pm n c G' (W.setCell ⟨Y,0,none⟩ (.int .i64 G')):=by
 have k:Kept (fun q=>q=Y) W (W.setCell ⟨Y,0,none⟩ (.int .i64 G')):=(Kept.refl (fun q=>q=Y) W).setCell (p:=⟨Y,0,none⟩) (Or.inl rfl) _
 obtain⟨f,h1,h2⟩:=h.r.bo
 exact⟨⟨h.r.kp.trans (k.mono (fun _ _ e=>Or.inr e)),⟨f,h1.kept k (fun e=>hd.1 e),h2⟩,⟨h.r.bx.x.kept k (fun e=>hd.2.1 e.symm),h.r.bx.y.set 0 _,h.r.bx.z.kept k (fun e=>hd.2.2 e.symm)⟩⟩,h.a.kept k (fun e=>by omega)⟩
end
theorem lim_one {op:Int} {nm:ByteArray} {N:Int} {ty:Ty} {ks:List Tm} (IH:∀ u,u∈ks→LmC u) (hkn:ks.length≤1000000) (h20:op=20→ks=[]) (hnz:nm.size≤maxLen):LmC (.mk op nm N ty ks):=by
 intro σ c G w ok okm tk kk b n pm np X Y Z h1 h2 hpm hσ hb hx hok hokm hne hn hc hG
 have h1:TyL ok w ty.kids tk:=h1
 have h2:TmL ok w ks kk:=h2
 obtain⟨a,an,ac,rfl⟩:=h1.slice
 obtain⟨ma,mn,mc,rfl⟩:=h2.slice
 change Calls Tryz.prog 98 #[.agg #[.int .i64 op,.string nm,.int .i64 N,.int .i64 ty.kind,.string ty.name,.slice a an ac,.slice ma mn mc],.map (some b),.pointer (some ⟨X,0,none⟩),.pointer (some ⟨Y,0,none⟩),.pointer (some ⟨Z,0,none⟩)] w _
 obtain rfl:mn=ks.length:=h2.len
 have K0:Kept (fun _=>False) w (w.alloc (.cells #[.int .i64 op,.string nm,.int .i64 N,.int .i64 ty.kind,.string ty.name,.slice a an ac,.slice ma ks.length mc] 27)):=kR.alloc _
 have S1:Hid (LmS w [Value.int .i64 op,.string nm,.int .i64 N,.int .i64 ty.kind,.string ty.name,.slice a an ac,.slice ma ks.length mc] b X Y Z pm n c G (w.alloc (.cells #[.int .i64 op,.string nm,.int .i64 N,.int .i64 ty.kind,.string ty.name,.slice a an ac,.slice ma ks.length mc] 27))):=Ld (by
  obtain⟨f,hb1,hb2⟩:=hb
  exact⟨⟨K0.mono (fun _ _ e=>e.elim),⟨f,hb1.kept K0 (fun e=>e),hb2⟩,hx.kept K0 (fun e=>e) (fun e=>e) (fun e=>e)⟩,Blk.new w 27 _⟩)
 have HAT:=Ld (fun W (k:Kept (fun q=>q=b∨q=Y) w W)=>(h2.frame (Same.of_kept k (fun q hq e=>by rcases e with e | e;exact (hok q hq).1 e;exact (hok q hq).2 e))).at)
 have HPM:=Ld (fun W (k:Kept (fun q=>q=b∨q=Y) w W)=>hpm.kept k (fun e=>by rcases e with e | e;exact hne.2.2.2.1 e.symm;exact hne.2.2.2.2.2.2 e.symm) (fun q hq e=>by rcases e with e | e;exact (hokm q hq).1 e;exact (hokm q hq).2 e))
 have LB:Hid (b<w.heap.size∧Y<w.heap.size):=Ld ⟨by obtain⟨f,hb1,_⟩:=hb;exact hb1.lt,hx.y.lt⟩
 have HNE:=Ld hne
 have HOK:=Ld hok
 have HOKM:=Ld hokm
 have HSG:=Ld hσ
 have HIH:=Ld IH
 have HKN:=Ld hkn
 have HN0:Hid (n+2*tmNs ks+2≤n+2*tmN (.mk op nm N ty ks)):=Ld (by rw[tmN];omega)
 have HNB:=Ld hn
 have HNZ:=Ld hnz
 have HCB:Hid (∀ s,c s+tmDs ks+1≤1000000):=Ld (fun s=>by have:=hc s;rw[tmD] at this;omega)
 have HSZ:=Ld (szR_nd (σ:=σ) (c:=c) (nm:=nm) (N:=N) (ty:=ty) h20)
 have HGB:=Ld hG
 clear h1 h2 hpm hσ hb hx hok hokm hne hn hc hG IH hkn h20 hnz K0
 obtain⟨GF,hGF⟩:∃ GF,GF=G+szR (wgC σ c) (.mk op nm N ty ks):=⟨_,rfl⟩
 rw[← hGF] at HGB
 rw[← hGF]
 have HGF:Hid (GF=(G+ndW σ c op nm)+szRs (binderB op) nm (wgC σ c) 0 (ks.drop 0)):=Ld (by rw[hGF,HSZ.out];omega)
 clear hGF HSZ
 go_enter Tryz.func98,Tryz.ntmps98
 go_upto_region 1 with (fail)
 generalize w.alloc (.cells #[.int .i64 op,.string nm,.int .i64 N,.int .i64 ty.kind,.string ty.name,.slice a an ac,.slice ma ks.length mc] 27)=w1 at *
 go_upto_region 2 with (fail)
 go_cut [8,9] (fun v8 v9 wd=>∃ B8,v8=.pointer (some ⟨B8,0,none⟩)∧v9=.bool (σ nm).isSome∧LmS w [Value.int .i64 op,.string nm,.int .i64 N,.int .i64 ty.kind,.string ty.name,.slice a an ac,.slice ma ks.length mc] b X Y Z pm n c G wd∧(∀ v,σ nm=some v→∃ xa xn xc za zn zc,Blk wd B8 27 [Value.int .i64 v.op,.string v.name,.int .i64 v.n,.int .i64 v.ty.kind,.string v.ty.name,.slice xa xn xc,.slice za zn zc]∧TyL okm wd v.ty.kids (.slice xa xn xc)∧TmL okm wd v.kids (.slice za zn zc)))
 case first=>
  obtain⟨fp,hfp,hvp⟩:=HPM.out w1 S1.out.r.kp
  have hlk:=hfp.look_ok Tryz.underlying77 (z28 _) HNZ.out
  have gA:=S1.out.a.cell
  have gX:∀ i,w1.cell? ⟨X,i,none⟩=[Value.map (some pm)][i]?:=S1.out.r.bx.x.cell
  have h3:=PrM.some_iff hvp nm
  cases hs:σ nm with
  | none=>
   have hfn:fp nm=none:=by cases h:fp nm with
    | none=>rfl
    | some u=>rw[h,hs] at h3;cases h3
   rw[hfn] at hlk
   change _=Result.ok (Value.tuple #[.agg #[.int .i64 0,.string ⟨#[]⟩,.int .i64 0,.int .i64 0,.string ⟨#[]⟩,.slice none 0 0,.slice none 0 0],.bool false]) w1 at hlk
   clear hvp h3 hfn hfp
   have KZ:Hid (Kept (fun _=>False) w1 (w1.alloc Z7)):=Ld (kR.alloc _)
   go_wp2_with fail
   go_meet
   case rel=>exact⟨_,rfl,by rw[hs];rfl,S1.out.kept KZ.out,fun v h=>by rw[hs] at h;cases h⟩
  | some v=>
   have h4:=hvp nm
   rw[hs] at h4
   obtain⟨xa,xn,xc,za,zn,zc,hfn,hty,htm⟩:=h4
   rw[hfn] at hlk
   change _=Result.ok (Value.tuple #[.agg #[.int .i64 v.op,.string v.name,.int .i64 v.n,.int .i64 v.ty.kind,.string v.ty.name,.slice xa xn xc,.slice za zn zc],.bool true]) w1 at hlk
   have HTY:=Ld hty
   have HTM:=Ld htm
   clear hvp h3 hfn hfp hty htm
   have KZ:Hid (Kept (fun _=>False) w1 (w1.alloc (.cells #[.int .i64 v.op,.string v.name,.int .i64 v.n,.int .i64 v.ty.kind,.string v.ty.name,.slice xa xn xc,.slice za zn zc] 27))):=Ld (kR.alloc _)
   have bU:Hid (Blk (w1.alloc (.cells #[.int .i64 v.op,.string v.name,.int .i64 v.n,.int .i64 v.ty.kind,.string v.ty.name,.slice xa xn xc,.slice za zn zc] 27)) w1.heap.size 27 [Value.int .i64 v.op,.string v.name,.int .i64 v.n,.int .i64 v.ty.kind,.string v.ty.name,.slice xa xn xc,.slice za zn zc]):=Ld (Blk.new w1 27 _)
   go_wp2_with fail
   go_meet
   case rel=>exact⟨_,rfl,by rw[hs];rfl,S1.out.kept KZ.out,fun v' h=>by rw[hs] at h;cases h;exact⟨xa,xn,xc,za,zn,zc,bU.out,HTY.out.frame (sK KZ.out),HTM.out.frame (sK KZ.out)⟩⟩
 case rest=>
  obtain⟨B8,rfl,rfl,hS2,hU⟩:=hcut
  have S2:=Ld hS2
  have HU:=Ld hU
  clear hS2 hU S1
  generalize wc=w2 at *
  obtain⟨f1,hb1,hf1⟩:=S2.out.r.bo
  have hlk:=hb1.look Tryz.underlying89 (z3 _) HNZ.out
  rw[hf1 nm] at hlk
  have gA:=S2.out.a.cell
  clear hf1 hb1
  generalize hsm:(σ nm).isSome=sm at *
  have HSM:=Ld hsm
  clear hsm
  go_upto_region 3 with (fail)
  go_cut [32] (fun v wd=>v=.bool (sm&&decide (op=20)&&decide (c nm=0))∧wd=w2)
  case first=>
   cases sm
   ·go_wp2_with fail
    go_meet
    case rel=>exact⟨by rfl,rfl⟩
   ·by_cases ho:op=20
    ·have ho1:(op==20)=true:=by simp[ho]
     by_cases hc0:c nm=0
     ·have hc1:((c nm:Int)==0)=true:=by simp[hc0]
      have HC0:=Ld hc0
      have HO:=Ld ho
      clear hc0 ho
      go_wp2_with fail
      go_meet
      case rel=>exact⟨by rw[decide_eq_true HO.out,decide_eq_true HC0.out];rfl,rfl⟩
     ·have hc1:((c nm:Int)==0)=false:=by simp;exact hc0
      have HC0:=Ld hc0
      have HO:=Ld ho
      clear hc0 ho
      go_wp2_with fail
      go_meet
      case rel=>exact⟨by rw[decide_eq_false HC0.out];simp,rfl⟩
    ·have ho1:(op==20)=false:=by simp[ho]
     have HO:=Ld ho
     clear ho
     go_wp2_with fail
     go_meet
     case rel=>exact⟨by rw[decide_eq_false HO.out];simp,rfl⟩
  case rest=>
   obtain⟨rfl,hwc⟩:=hcut
   subst hwc
   clear hlk gA
   generalize hq0:(sm&&decide (op=20)&&decide (c nm=0))=q0 at *
   have HQ0:=Ld hq0
   clear hq0
   go_upto_if 32 with (fail)
   go_cut [7] (fun v wd=>v=.int .i64 (ndW σ c op nm)∧LmS w [Value.int .i64 op,.string nm,.int .i64 N,.int .i64 ty.kind,.string ty.name,.slice a an ac,.slice ma ks.length mc] b X Y Z pm n c G wd)
   case first=>
    cases q0
    ·have HW1:Hid (ndW σ c op nm=1):=Ld (by
      have h:=HQ0.out
      unfold ndW wgC wgS
      by_cases ho:op=20
      ·rw[if_pos ho]
       by_cases hc0:c nm=0
       ·rw[if_pos hc0]
        cases hs:σ nm with
        | none=>rfl
        | some u=>rw[HSM.out.symm,hs] at h;simp[ho,hc0] at h
       ·rw[if_neg hc0]
      ·rw[if_neg ho])
     go_wp2_with fail
     go_meet
     case rel=>exact⟨by rw[HW1.out];rfl,S2.out⟩
    ·have HQ1:Hid (op=20∧c nm=0∧(σ nm).isSome=true):=Ld (by
      have h:=HQ0.out
      simp only[Bool.and_eq_true,decide_eq_true_eq] at h
      exact⟨h.1.2,h.2,by rw[HSM.out];exact h.1.1⟩)
     obtain⟨v,hv⟩:=Option.isSome_iff_exists.1 HQ1.out.2.2
     obtain⟨xa,xn,xc,za,zn,zc,hB8,hty,htm⟩:=HU.out v hv
     have HW1:Hid (ndW σ c op nm=tmN v):=Ld (by unfold ndW wgC wgS;rw[if_pos HQ1.out.1,if_pos HQ1.out.2.1,hv])
     have HC:=Ld (size_any v wc okm _ _ (by have:=(HSG.out nm v hv).2.1;omega) hty htm)
     unfold tmVal at HC
     have g8:=hB8.cell
     clear hty htm hB8 hv
     go_wp2_with fail
     refine HC.out.mono ?_
     rintro e w3 ⟨rfl,k3⟩
     have S3:=Ld (S2.out.kept k3)
     clear k3 HC g8
     go_wp2_with fail
     go_meet
     case rel=>exact⟨by rw[HW1.out],S3.out⟩
   case rest=>
    obtain⟨rfl,hS3⟩:=hcut
    have S3:=Ld hS3
    have HWB:Hid (G+ndW σ c op nm≤1000000000):=Ld (by have:=HGF.out;have:=HGB.out;omega)
    clear hS3 S2 HU HQ0
    generalize wc=w3 at *
    have gY:∀ i,w3.cell? ⟨Y,i,none⟩=[Value.int .i64 G][i]?:=S3.out.r.bx.y.cell
    have fY:=S3.out.r.bx.y.frozen
    have hgw:Hid (wrap64 ((G:Int)+(ndW σ c op nm:Int))=((G+ndW σ c op nm:Nat):Int)):=Ld (by have:=HWB.out;unfold wrap64;omega)
    have S4:=Ld (S3.out.grow LB.out.2 ⟨HNE.out.1,HNE.out.2.2.2.2.1,HNE.out.2.2.2.2.2.1⟩ (G+ndW σ c op nm))
    rw[← hgw.out] at S4
    go_upto_region 6 with (fail)
    generalize w3.setCell ⟨Y,0,none⟩ (.int .i64 (wrap64 ((G:Int)+(ndW σ c op nm:Int))))=w4 at *
    clear gY fY hgw S3
    have gA:=S4.out.a.cell
    go_wp2_with fail
    go_loopw [44] (fun i wr=>∃ (k n' Gk:Nat),k≤ks.length∧i=.int .i64 k∧LmS w [Value.int .i64 op,.string nm,.int .i64 N,.int .i64 ty.kind,.string ty.name,.slice a an ac,.slice ma ks.length mc] b X Y Z pm n' c Gk wr∧Hid (GF=Gk+szRs (binderB op) nm (wgC σ c) k (ks.drop k))∧Hid (n'+2*tmNs (ks.drop k)+(if k≤1 then 2 else 0)≤n+2*tmN (.mk op nm N ty ks))) (fun i _=>ks.length-(intOf i).toNat)
    case atStart=>exact⟨0,n,_,Nat.zero_le _,rfl,S4.out,HGF,Ld (by have:=HN0.out;simpa using this)⟩
    case round=>
     obtain⟨k,n',Gk,hkl,rfl,hS,hq,hn'⟩:=hrel
     have S:=Ld hS
     clear hS S4 gA
     by_cases hlt:k<ks.length
     ·have i1:(k:Int)<(ks.length:Int):=by omega
      have i2:(k:Int)<1000000:=by have:=HKN.out;omega
      obtain⟨q1,o1,ta,tn,tc,pa,pn,pc,rfl,hq1,lq,hC,hkt,hkm⟩:=HAT.out wr S.out.r.kp k hlt
      have HD:=Ld (szRs_drop (bi:=binderB op) (nm:=nm) (ρ:=wgC σ c) hlt)
      obtain⟨c0,c1,c2,c3,c4,c5,c6⟩:=hC
      have KR:Kept (fun _=>False) wr (wr.alloc (.cells #[.int .i64 ks[k].op,.string ks[k].name,.int .i64 ks[k].n,.int .i64 ks[k].ty.kind,.string ks[k].ty.name,.slice ta tn tc,.slice pa pn pc] 27)):=kR.alloc _
      have S3:=Ld (S.out.kept KR)
      have bK:=Ld (Blk.new wr 27 [.int .i64 ks[k].op,.string ks[k].name,.int .i64 ks[k].n,.int .i64 ks[k].ty.kind,.string ks[k].ty.name,.slice ta tn tc,.slice pa pn pc])
      change Hid (Blk (wr.alloc (.cells #[.int .i64 ks[k].op,.string ks[k].name,.int .i64 ks[k].n,.int .i64 ks[k].ty.kind,.string ks[k].ty.name,.slice ta tn tc,.slice pa pn pc] 27)) _ _ _) at bK
      have HKT:=Ld (fun W (kw:Kept (fun q=>q=b∨q=Y) wr W)=>hkt.frame (Same.of_kept kw (fun q hq e=>by rcases e with e | e;exact (HOK.out q hq).1 e;exact (HOK.out q hq).2 e)))
      have HKM:=Ld (fun W (kw:Kept (fun q=>q=b∨q=Y) wr W)=>hkm.frame (Same.of_kept kw (fun q hq e=>by rcases e with e | e;exact (HOK.out q hq).1 e;exact (HOK.out q hq).2 e)))
      have KR2:Hid (Kept (fun q=>q=b∨q=Y) wr (wr.alloc (.cells #[.int .i64 ks[k].op,.string ks[k].name,.int .i64 ks[k].n,.int .i64 ks[k].ty.kind,.string ks[k].ty.name,.slice ta tn tc,.slice pa pn pc] 27))):=Ld (KR.mono (fun _ _ e=>e.elim))
      have LBR:Hid (b<wr.heap.size):=Ld (by have:=LB.out.1;have:=S.out.r.kp.size;omega)
      have HPMR:=Ld (fun W (kw:Kept (fun q=>q=b∨q=Y) wr W)=>HPM.out W (S.out.r.kp.trans kw))
      have HK1:=Ld (fun W ck gk (kw:Kept (fun q=>q=b∨q=Y) wr W) nk hb hx hn hc hG=>HIH.out _ (List.getElem_mem hlt) σ ck gk W ok okm _ _ b nk pm np X Y Z (HKT.out W kw) (HKM.out W kw) (HPMR.out W kw) HSG.out hb hx HOK.out HOKM.out HNE.out hn hc hG)
      unfold tmVal at HK1
      have HDM:Hid (tmD ks[k]≤tmDs ks∧tmNs (ks.drop k)=tmN ks[k]+tmNs (ks.drop (k+1))∧1≤tmN ks[k]):=Ld ⟨kid_dn (List.getElem_mem hlt),by rw[List.drop_eq_getElem_cons hlt,tmNs],by cases ks[k] with | mk=>rw[tmN];omega⟩
      clear hkt hkm KR
      generalize ks[k]=u at *
      go_upto_region 9 with (fail)
      clear c0 c1 c2 c3 c4 c5 c6
      generalize wr.alloc (.cells #[.int .i64 u.op,.string u.name,.int .i64 u.n,.int .i64 u.ty.kind,.string u.ty.name,.slice ta tn tc,.slice pa pn pc] 27)=w3 at *
      have gA:=S3.out.a.cell
      have HI:Hid ((binderB op&&k==1)=true→GF=(Gk+szR (wgC σ (fun t=>if t=nm then c nm+1 else c t)) u)+szRs (binderB op) nm (wgC σ c) (k+1) (ks.drop (k+1))):=Ld (fun hin=>by
       rw[hq.out,HD.out,hin,wgC_up];simp only[if_true];omega)
      have HJ:Hid ((binderB op&&k==1)=false→GF=(Gk+szR (wgC σ c) u)+szRs (binderB op) nm (wgC σ c) (k+1) (ks.drop (k+1))):=Ld (fun hin=>by
       rw[hq.out,HD.out,hin];simp only[Bool.false_eq_true,if_false];omega)
      clear hq HD
      go_cut [12] (fun v wc=>v=.bool (binderB op&&k==1)∧wc=w3)
      case first=>
       by_cases hk1:k=1
       ·have hk2:((k:Int)==1)=true:=by simp;omega
        have hk3:(k==1)=true:=by simp[hk1]
        clear hk1
        go_wp2_with fail
        refine (binder_any op _).mono ?_
        rintro e w3' ⟨rfl,rfl⟩
        cases hbo:binderB op
        all_goals
         go_wp2_with fail
         go_meet
         case rel=>exact⟨by rw[hk3,hbo];rfl,rfl⟩
       ·have hk2:((k:Int)==1)=false:=by simp;omega
        have hk3:(k==1)=false:=by simp[hk1]
        clear hk1
        go_wp2_with fail
        refine (binder_any op _).mono ?_
        rintro e w3' ⟨rfl,rfl⟩
        cases hbo:binderB op
        all_goals
         go_wp2_with fail
         go_meet
         case rel=>exact⟨by rw[hk3,hbo];rfl,rfl⟩
      case rest=>
       obtain⟨rfl,rfl⟩:=hcut
       have HNM:Hid (n'+2*tmN u+(if k≤1 then 2 else 0)≤1000000∧(n'+2*tmN u+2*tmNs (ks.drop (k+1))+(if k≤1 then 2 else 0)≤n+2*tmN (.mk op nm N ty ks))):=Ld (by
        have h1:=hn'.out;have h3:=HDM.out.2.1;have h4:=HNB.out
        rw[h3] at h1
        omega)
       clear hn'
       have gZ:∀ i,wc.cell? ⟨Z,i,none⟩=[Value.func (.func 98) #[] #[.pointer (some ⟨X,0,none⟩),.pointer (some ⟨Y,0,none⟩),.pointer (some ⟨Z,0,none⟩)]][i]?:=S3.out.r.bx.z.cell
       cases hin:(binderB op&&k==1)
       ·have HJ2:=Ld (HJ.out hin)
        clear HI HJ hin
        have HC:=Ld (HK1.out wc c Gk KR2.out n' S3.out.r.bo S3.out.r.bx (by have:=HNM.out.1;omega) (fun s=>by have:=HCB.out s;have:=HDM.out.1;omega) (by have:=HJ2.out;have:=HGB.out;omega))
        have gK:=bK.out.cell
        clear gA
        go_wp2_with fail
        clear gK gZ
        refine HC.out.mono ?_
        rintro e w5 ⟨rfl,hR5⟩
        have S5:=Ld (S3.out.step LB.out hR5)
        clear hR5 HC S3 S bK HK1 KR2
        go_wp2_with fail
        go_roundw
        case rel=>exact⟨k+1,_,_,by omega,by go_num,S5.out,HJ2,Ld (by have:=HNM.out.2;split <;> split at this <;> omega)⟩
        case measure=>simp[intOf];omega
       ·have HI2:=Ld (HI.out hin)
        have hk1:k=1:=by
         rw[Bool.and_eq_true] at hin
         simpa using hin.2
        clear HI HJ hin
        obtain⟨f3,hb3,hf3⟩:=S3.out.r.bo
        have HF3:=Ld hf3
        have HNX:Hid (n'+2+2*tmN u+2*tmNs (ks.drop (k+1))≤n+2*tmN (.mk op nm N ty ks)∧n'+2+2*tmN u≤1000000):=Ld (by have h1:=HNM.out.2;have h2:=HNM.out.1;rw[if_pos (by omega)] at h1 h2;omega)
        have HK1E:=Ld hk1
        clear hk1
        have hlk:=hb3.look Tryz.underlying89 (z3 _) HNZ.out
        rw[hf3 nm] at hlk
        have HW1:Hid (wrap64 ((c nm:Int)+1)=((c nm+1:Nat):Int)):=Ld (by have:=HCB.out nm;unfold wrap64;omega)
        have HB3:=Ld hb3
        have HLX:Hid (n'<maxLen∧n'+1+2*tmN u<maxLen):=Ld (by have:=HNX.out.2;unfold maxLen;omega)
        clear hf3 hb3 gZ
        go_upto_region 12 with (at_mapUpdate;refine wpList_storeF rfl _ _ _ _ 3 rfl Tryz.underlying89 rfl HB3.out nm rfl HNZ.out HLX.out.1 (.int .i64 (wrap64 ((c nm:Int)+1))) rfl ?_;intro w4 hm4 k4)
        rw[HW1.out] at hm4
        have S4:=Ld (S3.out.cnt LB.out.1 ⟨HNE.out.1,HNE.out.2.1,HNE.out.2.2.1⟩ hm4 (HF3.out.upd nm (c nm+1)) k4)
        have bK4:=Ld (bK.out.kept k4 (fun e=>by have:=LBR.out;omega))
        have HC:=Ld (HK1.out w4 (fun t=>if t=nm then c nm+1 else c t) Gk (KR2.out.trans (k4.mono (fun _ _ e=>Or.inl e))) (n'+1) S4.out.r.bo S4.out.r.bx (by have:=HNX.out.2;omega) (fun s=>by have h1:=HCB.out s;have h2:=HCB.out nm;have:=HDM.out.1;show (if s=nm then c nm+1 else c s)+_≤_;split <;> omega) (by have:=HI2.out;have:=HGB.out;omega))
        have gK:=bK4.out.cell
        have gZ:∀ i,w4.cell? ⟨Z,i,none⟩=[Value.func (.func 98) #[] #[.pointer (some ⟨X,0,none⟩),.pointer (some ⟨Y,0,none⟩),.pointer (some ⟨Z,0,none⟩)]][i]?:=S4.out.r.bx.z.cell
        clear hm4 k4 hlk HW1 HB3 HF3 S3 gA bK
        go_wp2_with fail
        clear gK gZ
        refine HC.out.mono ?_
        rintro e w5 ⟨rfl,hR5⟩
        have S5:=Ld (S4.out.step LB.out hR5)
        clear hR5 HC S4 S bK4 HK1 KR2
        obtain⟨f5,hb5,hf5⟩:=S5.out.r.bo
        have HF5:=Ld hf5
        have hlk:=hb5.look Tryz.underlying89 (z3 _) HNZ.out
        rw[hf5 nm] at hlk
        simp only[if_true] at hlk
        have HW1:Hid (wrap64 (c nm:Int)=(c nm:Int)):=Ld (by have:=HCB.out nm;unfold wrap64;omega)
        have HB5:=Ld hb5
        have gA:=S5.out.a.cell
        clear hf5 hb5
        go_wp2_with (at_mapUpdate;refine wpList_storeF rfl _ _ _ _ 3 rfl Tryz.underlying89 rfl HB5.out nm rfl HNZ.out HLX.out.2 (.int .i64 (wrap64 (c nm:Int))) rfl ?_;intro w6 hm6 k6;clear gA hlk)
        rw[HW1.out] at hm6
        have S6:=Ld (S5.out.cnt LB.out.1 ⟨HNE.out.1,HNE.out.2.1,HNE.out.2.2.1⟩ hm6 (HF5.out.upd nm (c nm)) k6)
        have HCE:Hid ((fun t=>if t=nm then c nm else if t=nm then c nm+1 else c t)=c):=Ld (by funext t;by_cases ht:t=nm <;> simp[ht])
        rw[HCE.out] at S6
        clear hm6 k6 HW1 HB5 HF5 S5
        go_wp2_with fail
        go_roundw
        case rel=>exact⟨k+1,_,_,by omega,by go_num,S6.out,HI2,Ld (by have:=HNX.out.1;have:=HK1E.out;rw[if_neg (by omega)];omega)⟩
        case measure=>simp[intOf];omega
     ·have hkk:k=ks.length:=by omega
      subst hkk
      have HEQ:Hid (GF=Gk):=Ld (by rw[hq.out,List.drop_length];simp[szRs])
      have gA:=S.out.a.cell
      go_wp2_with fail
      go_end0
      refine⟨rfl,S.out.r.kp,?_,?_⟩
      ·obtain⟨f,hb1,hb2⟩:=S.out.r.bo
       exact⟨f,hb1.mono (by have:=hn'.out;omega),hb2⟩
      ·rw[HEQ.out];exact S.out.r.bx
theorem lim_any {t:Tm} (h:OkTm t):LmC t:=by
 induction h with
 | mk hf hn hl ih=>
  rename_i op nm N ty ks
  refine lim_one ih (by omega) (fun h=>?_) (by have:=(formed_sm hf).1;unfold maxLen;omega)
  subst h
  have h1:=(OkTm.mk hf hn hl).nw
  cases h1 with
  | mk h2 _=>exact (h2 rfl).2.2
end Go.Proofs.YtdmebjbkccjhbaaGreatDoor
namespace Go.Proofs.YtdmebjbkccjhbaaGreatDoor
open Go.RowKit Go.Shelf
attribute [local go_sem] Oper.semAt_some
theorem lastI_at {s:ByteArray} {l:List ByteArray} {m:Nat} (hm:m<l.length) (h:l[m]=s) (hn:∀ j (hj:j<l.length),m<j→l[j]≠s):lastI s l=m:=by
 have key:∀ d,m+1+d≤l.length→lastI s (l.take (m+1+d))=m:=by
  intro d
  induction d with
  | zero=>intro _;rw[Nat.add_zero,last_take hm,if_pos h]
  | succ d ih=>
   intro hd
   rw[show m+1+(d+1)=(m+1+d)+1 by omega,last_take (by omega),if_neg (hn _ (by omega) (by omega))]
   exact ih (by omega)
 have:=key (l.length-(m+1)) (by omega)
 rw[show m+1+(l.length-(m+1))=l.length by omega,List.take_length] at this
 exact this
theorem lastI_no {s:ByteArray} {l:List ByteArray} (hn:∀ j (hj:j<l.length),l[j]≠s):lastI s l=-1:=by
 have key:∀ d,d≤l.length→lastI s (l.take d)=-1:=by
  intro d
  induction d with
  | zero=>intro _;rfl
  | succ d ih=>
   intro hd
   rw[last_take (by omega),if_neg (hn _ (by omega))]
   exact ih (by omega)
 have:=key l.length (Nat.le_refl _)
 rwa [List.take_length] at this
def upto {α:Type} (f:Nat→α) (k:Nat):List α:=(List.range k).map f
theorem upto_succ {α:Type} (f:Nat→α) (k:Nat):upto f (k+1)=upto f k++[f k]:=by simp[upto,List.range_succ]
theorem upto_len {α:Type} (f:Nat→α) (k:Nat):(upto f k).length=k:=by simp[upto]
theorem upto_mem {α:Type} {f:Nat→α} {k j:Nat} (h:j<k):f j∈upto f k:=by simp only[upto,List.mem_map,List.mem_range];exact⟨j,h,rfl⟩
def bwF (l:List ByteArray) (j:Nat):Nat×ByteArray:=(l.length-1-j,l[l.length-1-j]?.getD ⟨#[]⟩)
theorem bwF_at {l:List ByteArray} {m:Nat} (h:m<l.length):bwF l (l.length-(m+1))=(m,l[m]):=by
 unfold bwF
 rw[show l.length-1-(l.length-(m+1))=m by omega,List.getElem?_eq_getElem h];rfl
theorem back1_in (F:Fence) (n:Nat) (h7:F.fn 195) (hro:F.round=none) (hn:1≤n) (L Bs n₀:Nat) (l:List ByteArray) (a:Option Addr) (cap:Nat) (hl:l.length≤1000000) (hBn:Bs<n₀) (J Jx:List (Nat×ByteArray)→World→Prop)
  (hY:∀ pre x W,J pre W→pre.length<l.length→YieldAt F (n-1) Tryz.prog L #[.int .i64 (x.1:Int),.string x.2] W fun e W'=>
   (e=.returned (.bool true)∧J (pre++[x]) W'∧Below n₀ W W')∨(e=.returned (.bool false)∧Jx (pre++[x]) W'))
  (W:World) (hBs:W.cell? ⟨Bs,0,none⟩=some (.slice a l.length cap)) (hc:NmL (fun q=>q<n₀) W l (.slice a l.length cap)) (h0:J [] W):
  CallsIn F n Tryz.prog 195 #[.func (.yield L) #[] #[],.pointer (some ⟨Bs,0,none⟩)] W fun e W'=>(∃ v,e=.returned v) ∧
   ((∃ ys,ys=upto (bwF l) l.length∧J ys W')∨(∃ pre,(∃ k,k≤l.length∧pre=upto (bwF l) k)∧Jx pre W')):=by
 have HAT:=Ld hc.at
 have HL:=Ld hl
 have hBS:=Ld hBs
 have hln:(l.length:Int)≤1000000:=by omega
 clear hc hl
 refine callsIn_of_wp Tryz.func195 rfl h7 ?_ hro
 simp only[Tryz.ntmps195,List.size_toArray,List.length_cons,List.length_nil,Nat.reduceAdd,Nat.reduceSub,Array.replicate_succ,Array.replicate_zero,List.push_toArray,List.append_toArray,List.nil_append,List.cons_append]
 gi_wp2
 gi_loopw [3] (fun i wr=>∃ m:Nat,m≤l.length∧i=.int .i64 ((m:Int)-1)∧J (upto (bwF l) (l.length-m)) wr∧Below n₀ W wr)
  (fun i _=>(intOf i+1).toNat)
 case atStart=>
  exact⟨l.length,Nat.le_refl _,rfl,by rw[Nat.sub_self];exact h0,Below.refl _ _⟩
 case round=>
  obtain⟨m,hm,rfl,hJs,hnx⟩:=hrel
  have hb2:wr.cell? ⟨Bs,0,none⟩=some (.slice a l.length cap):=(hnx.cell (p:=⟨Bs,0,none⟩) hBn).trans hBS.out
  clear hBs
  cases m with
  | zero=>
   have i0:((0:Nat):Int)-1=-1:=rfl
   rw[i0]
   have HJ:=Ld hJs
   clear hJs hY
   gi_wp2
   go_end0
   exact⟨⟨_,rfl⟩,.inl ⟨_,rfl,HJ.out⟩⟩
  | succ m=>
   have hml:m<l.length:=by omega
   obtain⟨g,off,rfl,hg,c0⟩:=HAT.out m hml
   have c1:wr.cell? ⟨g,off+m,none⟩=some (.string l[m]):=(hnx.cell (p:=⟨g,off+m,none⟩) hg).trans c0
   have i0:((m+1:Nat):Int)-1=m:=by omega
   have i1:(m:Int)<(l.length:Int):=by omega
   have i2:(m:Int)<1000000:=by have:=HL.out;omega
   have HX:=Ld (bwF_at hml)
   have HU:Hid (upto (bwF l) (l.length-m)=upto (bwF l) (l.length-(m+1))++[(m,l[m])]):=Ld (by
    rw[show l.length-m=(l.length-(m+1))+1 by omega,upto_succ,HX.out])
   obtain⟨fn,tmps,assign,body,hy,hR⟩:=hY _ (m,l[m]) wr hJs (by rw[upto_len];omega)
   dsimp only at hy
   rw[i0]
   have HN:=Ld hnx
   clear i0 hm hY c0 hnx hJs
   gi_wp2
   refine hR.mono ?_
   rintro e W3 (⟨rfl,hJ3,hk3⟩ | ⟨rfl,hJx3⟩)
   ·gi_wp2
    go_roundw
    case rel=>exact⟨m,by omega,rfl,by rw[HU.out];exact hJ3,HN.out.trans hk3⟩
    case measure=>simp[intOf]
   ·gi_wp2
    refine bodyPost_ret (results_none rfl _ _ _) rfl ?_
    exact⟨⟨_,rfl⟩,.inr ⟨_,⟨l.length-m,by omega,HU.out.symm⟩,hJx3⟩⟩
theorem back_in (F:Fence) (n:Nat) (h5:F.fn 152) (hro:F.round=none) (a:Option Addr) (len cap:Nat) (w:World):
  CallsIn F n Tryz.prog 152 #[.slice a len cap] w fun e w'=>e=.returned (.func (.func 195) #[] #[.pointer (some ⟨w.heap.size,0,none⟩)])∧w'=w.alloc (.cells #[.slice a len cap] 28):=by
 refine callsIn_of_wp Tryz.func152 rfl h5 ?_ hro
 simp only[Tryz.ntmps152,List.size_toArray,List.length_cons,List.length_nil,Nat.reduceAdd,Nat.reduceSub,Array.replicate_succ,Array.replicate_zero,List.push_toArray,List.append_toArray,List.nil_append,List.cons_append]
 gi_wp2
 go_ret
 exact⟨rfl,rfl⟩
theorem NmL.belowF {n₀:Nat} {l:List ByteArray} {v:Value} {A B:World} (h:NmL (fun q=>q<n₀) A l v) (hb:Below n₀ A B):NmL (fun q=>q<n₀) B l v:=by
 refine h.frame (fun k hk _=>hb.block k hk)
theorem back_stops (F:Fence) (n:Nat) (h7:F.fn 195) (hro:F.round=none) (hn:1≤n) (Bs n₀:Nat) (l:List ByteArray) (a:Option Addr) (cap:Nat) (hl:l.length≤1000000) (hBn:Bs<n₀) (w:World) (hn₀:n₀≤w.heap.size)
  (hc:w.cell? ⟨Bs,0,none⟩=some (.slice a l.length cap)) (hI:NmL (fun q=>q<n₀) w l (.slice a l.length cap)):
  SeqStopsK F n Tryz.prog 195 #[.pointer (some ⟨Bs,0,none⟩)] (fun x:Nat×ByteArray=>#[Value.int .i64 (x.1:Int),Value.string x.2]) (Below n₀) (fun ys=>ys=upto (bwF l) l.length) (fun pre=>∃ k,k≤l.length∧pre=upto (bwF l) k) l.length w:=fun L J Jx W hW _ _ hY h0=>
 back1_in F n h7 hro hn L Bs n₀ l a cap hl hBn J Jx hY W ((hW.cell (p:=⟨Bs,0,none⟩) (by show Bs<_;omega)).trans hc) (hI.belowF (hW.mono hn₀)) h0
theorem last_in (F:Fence) (n:Nat) (h4:F.fn 105) (h6:F.fn 152) (h8:F.fn 195) (hro:F.round=none) (hn:3≤n) (a:Option Addr) (cap:Nat) (l:List ByteArray) (s:ByteArray) (hl:l.length≤1000000) (w:World) (hI:NmL (fun q=>q<w.heap.size) w l (.slice a l.length cap)):
  CallsIn F n Tryz.prog 105 #[.slice a l.length cap,.string s] w fun e W'=>e=.returned (.int .i64 (lastI s l))∧Below w.heap.size w W':=by
 have h1:1≤n:=by omega
 refine callsIn_of_wp_marks Tryz.func105 rfl h4 ?_ hro
 simp only[Tryz.ntmps105,List.size_toArray,List.length_cons,List.length_nil,Nat.reduceAdd,Nat.reduceSub,Array.replicate_succ,Array.replicate_zero,List.push_toArray,List.append_toArray,List.nil_append,List.cons_append]
 gi_wp2_with (gi_at_call 152;refine (back_in F (n-1) h6 hro _ _ _ _).mono ?_;rintro e w' ⟨rfl,rfl⟩)
 have bS:=Boxed.new w 9 (.string s)
 have bR:=Boxed.new (w.alloc (.cells #[.string s] 9)) 3 (.int .i64 0)
 have bN:=Boxed.new ((w.alloc (.cells #[.string s] 9)).alloc (.cells #[.int .i64 0] 3)) 28 (.slice a l.length cap)
 rw[World.size_alloc] at bR
 rw[World.size_alloc,World.size_alloc] at bN
 have hB0:Below w.heap.size w (((w.alloc (.cells #[.string s] 9)).alloc (.cells #[.int .i64 0] 3)).alloc (.cells #[.slice a l.length cap] 28)):=(((Below.refl _ w).alloc (Nat.le_refl _) _).alloc (by simp) _).alloc (by simp;omega) _
 have hI2:NmL (fun q=>q<w.heap.size+3) (((w.alloc (.cells #[.string s] 9)).alloc (.cells #[.int .i64 0] 3)).alloc (.cells #[.slice a l.length cap] 28)) l (.slice a l.length cap):=(hI.belowF hB0).mono (fun q _ h=>by omega)
 refine wpIn_rangeFunc_ownG hro h1 (gf:=195) (lb:=#[.pointer (some ⟨w.heap.size+2,0,none⟩)]) rfl h8 (enters_of Tryz.func195 (by kernel_rfl) rfl)
  (back_stops F (n-1) h8 hro (by omega) (w.heap.size+2) (w.heap.size+3) l a cap hl (by omega) _ (by simp) bN.cell hI2) belowK_t (belowK_b (by simp)) (Below.refl _ _) (fun _=>rfl)
  (fun pre W=>((∀ p∈pre,p.2≠s)∧W.cell? ⟨w.heap.size,0,none⟩=some (.string s)∧W.cell? ⟨w.heap.size+1,0,none⟩=some (.int .i64 0)∧W.frozen? ⟨w.heap.size+1,0,none⟩=false)∧Below w.heap.size w W)
  (fun c pre W=>(c=.ret∧∃ ini last,pre=ini++[last]∧(∀ p∈ini,p.2≠s)∧last.2=s∧W.cell? ⟨w.heap.size+1,0,none⟩=some (.int .i64 (last.1:Int)))∧Below w.heap.size w W)
  (OwnFrom.and (Own.from (fun s A B row hs hg hr=>⟨hs.1,cell_kept hs.2.1 hg hr,cell_kept hs.2.2.1 hg hr,(frozen_kept hs.2.2.1 hg hr).trans hs.2.2.2⟩) _) (ownFrom_below (Nat.le_refl _) (by simp;omega)))
  (fun c=>OwnFrom.and (Own.from (fun s A B row hs hg hr=>by obtain⟨hc,ini,last,e1,e2,e3,e4⟩:=hs;exact⟨hc,ini,last,e1,e2,e3,cell_kept e4 hg hr⟩) _) (ownFrom_below (Nat.le_refl _) (by simp;omega)))
  ⟨⟨by simp,((bS.alloc _).alloc _).cell,(bR.alloc _).cell,(bR.alloc _).frozen⟩,hB0⟩
  (fun x=>{ tmps:=#[.slice a l.length cap,.string s,undef,.pointer (some ⟨w.heap.size,0,none⟩),.pointer (some ⟨w.heap.size+1,0,none⟩),.int .i64 (x.1:Int),.string x.2,.slice a l.length cap,.func (.func 195) #[] #[.pointer (some ⟨w.heap.size+2,0,none⟩)],.int .i64 (x.1:Int),.string x.2,undef,undef,undef,undef],defers:=[] }) ?assign ?body ?done ?stop
 case assign=>
  intro l x W K hK
  gi_wp2
  exact hK
 case body=>
  rintro L pre x W ⟨⟨hp,hcs,hcr,hfr⟩,hB⟩ _
  have HP:=Ld hp
  clear hp
  cases hx:(x.2.toList==s.toList)
  ·have hne:Hid (x.2≠s):=Ld (by intro e;rw[e] at hx;simp at hx)
   gi_wp2
   exact⟨KeepsFrom.refl _ _,Below.refl _ _,⟨fun p hp'=>(List.mem_append.1 hp').elim (HP.out p) (fun e=>by simp at e;subst e;exact hne.out),hcs,hcr,hfr⟩,hB⟩
  ·have hye:Hid (x.2=s):=Ld (by rw[nm_eq] at hx;exact of_decide_eq_true hx)
   gi_wp2
   exact⟨(KeepsOthers.setCell _ _ _).from _,⟨rfl,pre,x,rfl,HP.out,hye.out,World.cell?_setCell_same' _ _ _ (by rw[hcr];rfl)⟩,hB.setCell (p:=⟨w.heap.size+1,0,none⟩) (by show w.heap.size≤w.heap.size+1;omega) _⟩
 case done=>
  rintro D ys W hD rfl ⟨⟨hne,hcs,hcr,hfr⟩,hB⟩ hK
  have HNE:=Ld hne
  clear hne
  gi_wp2
  have hK':=(KeepsOthers.setCell W ⟨w.heap.size+1,0,none⟩ (.int .i64 (-1))).same D _ hK rfl
  refine⟨by simp,.inl ⟨_,_,rfl,run_takeDeferred hK',?_⟩⟩
  have hc5:=cell_kept (World.cell?_setCell_same' W ⟨w.heap.size+1,0,none⟩ (.int .i64 (-1)) (by rw[hcr];rfl)) (grownBy_putObj' _ D (.deferred none)) (fun r e=>by cases e;exact⟨_,hK',rfl⟩)
  have hno:lastI s l=-1:=lastI_no (fun j hj=>by
   have:=HNE.out _ (upto_mem (f:=bwF l) (k:=l.length) (j:=l.length-(j+1)) (by omega))
   rw[bwF_at hj] at this;exact this)
  refine⟨.int .i64 (-1),?_,by rw[hno],(hB.setCell (p:=⟨w.heap.size+1,0,none⟩) (by show w.heap.size≤w.heap.size+1;omega) _).trans (belowK_b (w:=w) (Nat.le_refl _) _ D _ _ (by simp at hD;omega) hK' rfl rfl)⟩
  simp[results,Tryz.f105,go_sem,hc5]
 case stop=>
  rintro D c pre W hD ⟨k,hk,rfl⟩ ⟨⟨rfl,ini,last,e1,e2,e3,hcr⟩,hB⟩ hK
  have E1:=Ld e1
  have E2:=Ld e2
  have E3:=Ld e3
  clear e1 e2 e3
  gi_wp2
  refine⟨by simp,.inl ⟨_,_,rfl,run_takeDeferred hK,?_⟩⟩
  have hc5:=cell_kept hcr (grownBy_putObj' _ D (.deferred none)) (fun r e=>by cases e;exact⟨_,hK,rfl⟩)
  have e1:=E1.out
  obtain⟨k',rfl⟩:∃ k',k=k'+1:=by
   cases k with
   | zero=>simp[upto] at e1
   | succ k'=>exact⟨k',rfl⟩
  rw[upto_succ] at e1
  obtain⟨e6,e5⟩:=List.append_inj' e1 rfl
  have e5:bwF l k'=last:=by simpa using e5
  have hm:bwF l k'=(l.length-(k'+1),l[l.length-(k'+1)]'(by omega)):=by
   have:=bwF_at (l:=l) (m:=l.length-(k'+1)) (by omega)
   rw[show l.length-(l.length-(k'+1)+1)=k' by omega] at this;exact this
  have hla:lastI s l=(last.1:Int):=by
   have e7:=E3.out
   rw[← e5,hm] at e7 ⊢
   refine lastI_at (by omega) e7 (fun j hj hjm=>?_)
   have:=E2.out (bwF l (l.length-(j+1))) (by rw[← e6];exact upto_mem (by omega))
   rw[bwF_at hj] at this;exact this
  refine⟨.int .i64 (last.1:Int),?_,by rw[hla],hB.trans (belowK_b (w:=w) (Nat.le_refl _) W D _ _ (by simp at hD;omega) hK rfl rfl)⟩
  simp[results,Tryz.f105,go_sem,hc5]
theorem last_any {ok:Nat→Prop} {w:World} {l:List ByteArray} {v:Value} (s:ByteArray) (h:NmL ok w l v) (hn:l.length≤1000000):
  Calls Tryz.prog 105 #[v,.string s] w fun e w'=>e=.returned (.int .i64 (lastI s l))∧Kept (fun _=>False) w w':=by
 obtain⟨a,c,rfl⟩:=h.slice
 have h2:NmL (fun q=>q<w.heap.size) w l (.slice a l.length c):=by
  obtain⟨a',n',c',h1,h2,h3,h5,h4⟩:=h
  refine⟨a',n',c',h1,h2,h3,h5,fun i hi=>?_⟩
  obtain⟨g,off,e,_,hc⟩:=h4 i hi
  exact⟨g,off,e,cell_lt hc,hc⟩
 exact ((callsIn_wide (n:=3)).1 (last_in Fence.wide 3 trivial trivial trivial rfl (by omega) a c l s hn w h2)).mono fun e w' ⟨h1,h2⟩=>⟨h1,.of_below h2⟩
end Go.Proofs.YtdmebjbkccjhbaaGreatDoor
