/- A part. -/
import Derived.Test.YtdmebjbkccjhbaaGreatDoorK18
import Derived.Laws.EntriesVeiled
set_option linter.unusedVariables false
set_option linter.unusedSimpArgs false
set_option maxRecDepth 100000
set_option maxHeartbeats 32000000
namespace Go.Proofs.YtdmebjbkccjhbaaGreatDoor
open Go.RowKit
def alB (a b:Tm):Bool:=(validB a&&validB b)&&alikeT a b [] []
theorem alB_iff {a b:Tm} (ha:validB a=true) (hb:validB b=true):alB a b=true↔dbT a=dbT b:=by
 unfold alB
 rw[ha,hb]
 exact alike_db ((valid_iff a).1 ha).1.nw ((valid_iff b).1 hb).1.nw
theorem pair_valid {a b:Tm} {ok ok':Nat→Prop} {w:World} {tk kk tk' kk':Value} (h1:TyL ok w a.ty.kids tk) (h2:TmL ok w a.kids kk) (h3:TyL ok' w b.ty.kids tk') (h4:TmL ok' w b.kids kk') (ha:SmTm big a) (hb:SmTm big b):
  ∀ (W9:World) (g9:Nat),W9=w.alloc (.cells (tmCells a tk kk++tmCells b tk' kk').toArray 27)→g9=w.heap.size→Calls Tryz.prog 56 #[.slice (some ⟨g9,0,none⟩) 2 2] W9 fun e w'=>e=.returned (.bool (validB a&&validB b))∧Kept (fun _=>False) W9 w':=by
 rintro W9 g9 rfl rfl
 have hL:TmL (fun _=>True) (w.alloc (.cells (tmCells a tk kk++tmCells b tk' kk').toArray 27)) [a,b] (.slice (some ⟨w.heap.size,0,none⟩) 2 2):=
  TmL.two trivial (Nat.le_refl _) (Blk.new w 27 (tmCells a tk kk++tmCells b tk' kk')) ((h1.frame (Same.alloc _ _)).mono (fun _ _ _=>trivial)) ((h2.frame (Same.alloc _ _)).mono (fun _ _ _=>trivial)) ((h3.frame (Same.alloc _ _)).mono (fun _ _ _=>trivial)) ((h4.frame (Same.alloc _ _)).mono (fun _ _ _=>trivial))
 refine (valids_any (by simp) (fun t ht=>?_) hL).mono fun e w' ⟨h,k⟩=>⟨?_,k⟩
 ·rcases List.mem_cons.1 ht with rfl | ht
  ·exact ha
  ·rw[List.mem_singleton.1 ht];exact hb
 ·rw[h];simp
theorem alike_any {a b:Tm} {ok ok':Nat→Prop} {w:World} {tk kk tk' kk':Value} (h1:TyL ok w a.ty.kids tk) (h2:TmL ok w a.kids kk) (h3:TyL ok' w b.ty.kids tk') (h4:TmL ok' w b.kids kk') (ha:SmTm big a) (hb:SmTm big b):
  Calls Tryz.prog 21 #[tmVal a tk kk,tmVal b tk' kk'] w fun e w'=>e=.returned (.bool (alB a b))∧Kept (fun _=>False) w w':=by
 obtain⟨p,n,c,rfl⟩:=h1.slice
 obtain⟨ma,mn,mc,rfl⟩:=h2.slice
 obtain⟨p',n',c',rfl⟩:=h3.slice
 obtain⟨ma',mn',mc',rfl⟩:=h4.slice
 have K1:Kept (fun _=>False) w ((w.alloc (.cells #[.int .i64 a.op,.string a.name,.int .i64 a.n,.int .i64 a.ty.kind,.string a.ty.name,.slice p n c,.slice ma mn mc] 27)).alloc (.cells #[.int .i64 b.op,.string b.name,.int .i64 b.n,.int .i64 b.ty.kind,.string b.ty.name,.slice p' n' c',.slice ma' mn' mc'] 27)):=(kR.alloc _).alloc _
 have bA:Blk ((w.alloc (.cells #[.int .i64 a.op,.string a.name,.int .i64 a.n,.int .i64 a.ty.kind,.string a.ty.name,.slice p n c,.slice ma mn mc] 27)).alloc (.cells #[.int .i64 b.op,.string b.name,.int .i64 b.n,.int .i64 b.ty.kind,.string b.ty.name,.slice p' n' c',.slice ma' mn' mc'] 27)) w.heap.size 27 (tmCells a (.slice p n c) (.slice ma mn mc)):=(Blk.new w 27 _).alloc _
 have bB:Blk ((w.alloc (.cells #[.int .i64 a.op,.string a.name,.int .i64 a.n,.int .i64 a.ty.kind,.string a.ty.name,.slice p n c,.slice ma mn mc] 27)).alloc (.cells #[.int .i64 b.op,.string b.name,.int .i64 b.n,.int .i64 b.ty.kind,.string b.ty.name,.slice p' n' c',.slice ma' mn' mc'] 27)) (w.heap.size+1) 27 (tmCells b (.slice p' n' c') (.slice ma' mn' mc')):=Blk.new' 27 _ (by simp)
 have HP:=Ld (pair_valid (h1.frame (sK K1)) (h2.frame (sK K1)) (h3.frame (sK K1)) (h4.frame (sK K1)) ha hb)
 have HS:=Ld (fun (hv:validB a=true) W (k:Kept (fun _=>False) w W)=>salike_any (valid_bd hv) b [] [] W ok ok' (fun _=>True) (fun _=>True) _ _ _ _ _ _ (h1.frame (sK k)) (h2.frame (sK k)) (h3.frame (sK k)) (h4.frame (sK k)) .nil .nil (by have:=((valid_iff a).1 hv).2.2;simp only[List.length_nil];omega) (by have:=((valid_iff a).1 hv).2.2;simp only[List.length_nil];omega))
 clear h1 h2 h3 h4 ha hb
 unfold tmVal at HS ⊢
 have HR:Hid (alB a b=((validB a&&validB b)&&alikeT a b [] [])):=Ld rfl
 generalize alikeT a b [] []=z at *
 have HZ:Hid (((w.alloc (.cells #[.int .i64 a.op,.string a.name,.int .i64 a.n,.int .i64 a.ty.kind,.string a.ty.name,.slice p n c,.slice ma mn mc] 27)).alloc (.cells #[.int .i64 b.op,.string b.name,.int .i64 b.n,.int .i64 b.ty.kind,.string b.ty.name,.slice p' n' c',.slice ma' mn' mc'] 27)).heap.size=w.heap.size+1+1):=Ld (by simp)
 go_enter Tryz.func21,Tryz.ntmps21
 go_wp2_with fail
 generalize ((w.alloc (.cells #[.int .i64 a.op,.string a.name,.int .i64 a.n,.int .i64 a.ty.kind,.string a.ty.name,.slice p n c,.slice ma mn mc] 27)).alloc (.cells #[.int .i64 b.op,.string b.name,.int .i64 b.n,.int .i64 b.ty.kind,.string b.ty.name,.slice p' n' c',.slice ma' mn' mc'] 27))=w1 at *
 have K2:Kept (fun _=>False) w (w1.alloc (.cells (tmCells a (.slice p n c) (.slice ma mn mc)++tmCells b (.slice p' n' c') (.slice ma' mn' mc')).toArray 27)):=K1.alloc _
 have bA2:=bA.alloc (.cells (tmCells a (.slice p n c) (.slice ma mn mc)++tmCells b (.slice p' n' c') (.slice ma' mn' mc')).toArray 27)
 have bB2:=bB.alloc (.cells (tmCells a (.slice p n c) (.slice ma mn mc)++tmCells b (.slice p' n' c') (.slice ma' mn' mc')).toArray 27)
 refine (HP.out _ _ rfl HZ.out.symm).mono ?_
 rintro e w2 ⟨rfl,k2⟩
 have gA:∀ i,w2.cell? ⟨w.heap.size,i,none⟩=[Value.int .i64 a.op,.string a.name,.int .i64 a.n,.int .i64 a.ty.kind,.string a.ty.name,.slice p n c,.slice ma mn mc][i]?:=(bA2.kept k2 (fun h=>h)).cell
 have gB:∀ i,w2.cell? ⟨w.heap.size+1,i,none⟩=[Value.int .i64 b.op,.string b.name,.int .i64 b.n,.int .i64 b.ty.kind,.string b.ty.name,.slice p' n' c',.slice ma' mn' mc'][i]?:=(bB2.kept k2 (fun h=>h)).cell
 have KK:=Ld (K2.trans k2)
 clear K1 K2 bA bB bA2 bB2 k2 HP
 cases hv:validB a&&validB b
 ·have HR2:Hid (alB a b=false):=Ld (by rw[HR.out,hv];rfl)
  clear hv HS HR
  go_wp2_with fail
  go_ret
  exact⟨by rw[HR2.out];rfl,KK.out⟩
 ·have HR2:Hid (alB a b=z):=Ld (by rw[HR.out,hv];rfl)
  have HS2:=Ld (HS.out (by simp only[Bool.and_eq_true] at hv;exact hv.1) w2 KK.out)
  clear hv HS HR
  go_wp2_with fail
  refine HS2.out.mono ?_
  rintro e w3 ⟨rfl,k3⟩
  go_wp2_with fail
  go_ret
  exact⟨by rw[HR2.out];rfl,KK.out.trans k3⟩
def TmB (B:Nat) (r:Tm×Int) (w:World) (e:Ending) (w':World):Prop:=∃ tk kk,e=.returned (.tuple #[tmVal r.1 tk kk,.int .i64 r.2])∧TyL (fun k=>B≤k) w' r.1.ty.kids tk∧TmL (fun k=>B≤k) w' r.1.kids kk∧Kept (fun _=>False) w w'
theorem checked_any {t:Tm} {rr:Tm×Int} (hr:Hid (rr=if validB t then (t,0) else (tm0,5))) {B:Nat} {w:World} {tk kk:Value} (hB:B≤w.heap.size) (h1:TyL (fun q=>B≤q∧q<w.heap.size) w t.ty.kids tk) (h2:TmL (fun q=>B≤q∧q<w.heap.size) w t.kids kk) (hs:SmTm big t):
  Calls Tryz.prog 59 #[tmVal t tk kk] w (TmB B rr w):=by
 obtain⟨p,n,c,rfl⟩:=h1.slice
 obtain⟨ma,mn,mc,rfl⟩:=h2.slice
 have B0:Hid (Blk ((w.alloc (.cells #[.int .i64 t.op,.string t.name,.int .i64 t.n,.int .i64 t.ty.kind,.string t.ty.name,.slice p n c,.slice ma mn mc] 27)).alloc Z7) w.heap.size 27 (tmCells t (.slice p n c) (.slice ma mn mc))∧Blk ((w.alloc (.cells #[.int .i64 t.op,.string t.name,.int .i64 t.n,.int .i64 t.ty.kind,.string t.ty.name,.slice p n c,.slice ma mn mc] 27)).alloc Z7) (w.heap.size+1) 27 z27∧Kept (fun _=>False) w ((w.alloc (.cells #[.int .i64 t.op,.string t.name,.int .i64 t.n,.int .i64 t.ty.kind,.string t.ty.name,.slice p n c,.slice ma mn mc] 27)).alloc Z7)):=Ld
  ⟨(Blk.new w 27 (tmCells t (.slice p n c) (.slice ma mn mc))).alloc _,Blk.new' 27 _ (by simp),(kR.alloc _).alloc _⟩
 have HV:=Ld (fun W (k:Kept (fun _=>False) w W)=>valid_any (h1.frame (sK k)) (h2.frame (sK k)) hs)
 have HTY:=Ld (fun W (k:Kept (fun _=>False) w W)=>h1.frame (sK k))
 have HTM:=Ld (fun W (k:Kept (fun _=>False) w W)=>h2.frame (sK k))
 clear h1 h2 hs
 unfold tmVal
 go_enter Tryz.func59,Tryz.ntmps59
 go_wp2_with fail
 generalize ((w.alloc (.cells #[.int .i64 t.op,.string t.name,.int .i64 t.n,.int .i64 t.ty.kind,.string t.ty.name,.slice p n c,.slice ma mn mc] 27)).alloc Z7)=w1 at *
 refine (HV.out _ B0.out.2.2).mono ?_
 rintro e w2 ⟨rfl,k2⟩
 have BA:=Ld (B0.out.1.kept k2 (fun h=>h))
 have BR:=Ld (B0.out.2.1.kept k2 (fun h=>h))
 have KK:=Ld (B0.out.2.2.trans k2)
 clear B0 k2 HV
 have gA:∀ i,w2.cell? ⟨w.heap.size,i,none⟩=[Value.int .i64 t.op,.string t.name,.int .i64 t.n,.int .i64 t.ty.kind,.string t.ty.name,.slice p n c,.slice ma mn mc][i]?:=BA.out.cell
 have gR:∀ i,w2.cell? ⟨w.heap.size+1,i,none⟩=[Value.int .i64 0,.string ⟨#[]⟩,.int .i64 0,.int .i64 0,.string ⟨#[]⟩,.slice none 0 0,.slice none 0 0][i]?:=BR.out.cell
 have fR:∀ i,w2.frozen? ⟨w.heap.size+1,i,none⟩=false:=BR.out.frozen
 cases hv:validB t
 ·have hq:Hid (rr=(tm0,5)):=Ld (by rw[hr.out,hv];rfl)
  clear hv hr
  go_wp2_with fail
  exact bodyPost_ret (results_ct Tryz.results59 rfl (load_tm (t:=tm0) (r7 BR.out rfl))) rfl ⟨_,_,by rw[hq.out];rfl,by rw[hq.out];exact .nil (Or.inl rfl),by rw[hq.out];exact .nil (Or.inl rfl),k7w KK.out (Or.inr (Nat.le_succ _))⟩
 ·have hq:Hid (rr=(t,0)):=Ld (by rw[hr.out,hv];rfl)
  clear hv hr
  go_wp2_with fail
  exact bodyPost_ret (results_ct Tryz.results59 rfl (load_tm (t:=t) (r7 BR.out rfl))) rfl ⟨_,_,by rw[hq.out];rfl,by rw[hq.out];exact ((HTY.out _ KK.out).frame (set7 (fun q hq=>by omega))).mono (fun q _ hq=>hq.1),by rw[hq.out];exact ((HTM.out _ KK.out).frame (set7 (fun q hq=>by omega))).mono (fun q _ hq=>hq.1),k7w KK.out (Or.inr (Nat.le_succ _))⟩
theorem szR_le (ρ:ByteArray→Nat) (hρ:∀ s,ρ s≤2000) (u:Tm):szR ρ u≤2000*tmN u:=by
 induction u using Tm.rec (motive_2:=fun ks=>∀ (bi:Bool) (nm:ByteArray) (i:Nat) (ρ:ByteArray→Nat),(∀ s,ρ s≤2000)→szRs bi nm ρ i ks≤2000*tmNs ks) generalizing ρ with
 | mk op nm N ty ks ih=>
  rw[szR,tmN]
  split
  ·have:=hρ nm;omega
  ·have:=ih (binderB op) nm 0 ρ hρ;omega
 | nil=>rename_i bi nm i ρ hρ;simp[szRs,tmNs]
 | cons t ks iht ihl=>
  rename_i bi nm i ρ hρ
  rw[szRs,tmNs]
  have h1:=ihl bi nm (i+1) ρ hρ
  have h2:=iht (if bi&&i==1 then upW nm ρ else ρ) (fun s=>by
   split
   ·unfold upW;split
    ·omega
    ·exact hρ s
   ·exact hρ s)
  omega
theorem ok_smt {t:Tm} (h:OkTm t):SmTm big t:=by
 induction h with
 | mk hf hn hl ih=>exact .mk (by have:=(formed_sm hf).1;unfold big;omega) (formed_sm hf).2 ih
def ltdR (t:Tm) (l:List (ByteArray×Tm)):Tm×Int:=if validB (subT freshS t l) then (subT freshS t l,0) else (tm0,5)
theorem limited_any {t:Tm} {l:List (ByteArray×Tm)} {σ:ByteArray→Option Tm} (ht:validB t=true) (hl:∀ s,look l s=σ s) (hσ:SgOk σ) (hlb:OkB l∧(frB l).length≤700000) {w:World} {ok okm:Nat→Prop} {tk kk:Value} {pm n:Nat} (h1:TyL ok w t.ty.kids tk) (h2:TmL ok w t.kids kk) (hpm:PrM okm w pm n σ) (hp:P10 w) (hn:n≤200):
  Calls Tryz.prog 53 #[.map (some pm),tmVal t tk kk] w (TmB w.heap.size (ltdR t l) w):=by
 obtain⟨a,an,ac,rfl⟩:=h1.slice
 obtain⟨ma,mn,mc,rfl⟩:=h2.slice
 have hv:=(valid_iff t).1 ht
 have hok:=valid_ok ht
 have HSZ:Hid (szR (wgC σ (fun _=>0)) t=tmN (subT freshS t l)):=Ld (by
  have h:=(sub_size hok (l:=l) hlb.1 (by have:=hlb.2;have:=hv.2.1;omega)).1
  rw[h]
  congr 1
  funext s
  unfold wgC wgS wgN
  rw[hl s];simp only[if_true];all_goals(cases σ s <;> rfl))
 have HRO:Hid (OkTm (subT freshS t l)):=Ld (sub_ok hok l hlb.1 (by have:=hlb.2;have:=hv.2.1;omega))
 have HB:Hid (szR (wgC σ (fun _=>0)) t≤1000000000):=Ld (by
  have key:∀ (ρ:ByteArray→Nat),(∀ s,ρ s≤2000)→∀ (u:Tm),szR ρ u≤2000*tmN u:=szR_le
  have h:=key (wgC σ (fun _=>0)) (fun s=>by unfold wgC wgS;simp only[if_true];cases hs:σ s with
   | none=>show 1≤2000;omega
   | some u=>exact (hσ s u hs).2.1) t
  have:=hv.2.1
  omega)
 have HR:Hid (ltdR t l=if validB (subT freshS t l) then (subT freshS t l,0) else (tm0,5)):=Ld rfl
 have HVR:Hid (2000<tmN (subT freshS t l)→validB (subT freshS t l)=false):=Ld (fun h=>by
  rw[valid_of HRO.out,decide_eq_false (by omega)];rfl)
 have HTY:=Ld (fun W (k:Kept (fun _=>False) w W)=>(h1.mono (ok':=fun q=>q<w.heap.size) (fun q hq _=>hq)).frame (sK k))
 have HTM:=Ld (fun W (k:Kept (fun _=>False) w W)=>(h2.mono (ok':=fun q=>q<w.heap.size) (fun q hq _=>hq)).frame (sK k))
 have HPM:=Ld (fun W (k:Kept (fun _=>False) w W)=>(show PrM (fun q=>q<w.heap.size) W pm n σ from by obtain⟨f,hf,hv⟩:=hpm;exact⟨f,hf.kept k (fun e=>e),(hv.mono (fun q hq _=>hq)).frame (sK k)⟩))
 have HPL:Hid (pm<w.heap.size):=Ld (by obtain⟨f,hf,_⟩:=hpm;exact hf.lt)
 have HOK:=Ld hok
 have HV:=Ld hv
 have HLK:=Ld hl
 have HSG:=Ld hσ
 have HP:=Ld hp
 have HN:=Ld hn
 generalize ltdR t l=rr at *
 clear h1 h2 hpm hv hok hlb hl hσ hp hn ht
 have hmm:=@run_makeMap Tryz.prog
 unfold tmVal
 go_enter Tryz.func53,Tryz.ntmps53
 go_upto_region 3 with (fail)
 have B5:Hid (Blk ((((((w.alloc (.cells #[.map (some pm)] 77)).alloc (.cells #[.int .i64 t.op,.string t.name,.int .i64 t.n,.int .i64 t.ty.kind,.string t.ty.name,.slice a an ac,.slice ma mn mc] 27)).alloc Z7).alloc (.cells #[.int .i64 0] 3)).alloc (.cells #[.nilFunc] 126))) w.heap.size 77 [.map (some pm)]∧Blk ((((((w.alloc (.cells #[.map (some pm)] 77)).alloc (.cells #[.int .i64 t.op,.string t.name,.int .i64 t.n,.int .i64 t.ty.kind,.string t.ty.name,.slice a an ac,.slice ma mn mc] 27)).alloc Z7).alloc (.cells #[.int .i64 0] 3)).alloc (.cells #[.nilFunc] 126))) (w.heap.size+1) 27 [Value.int .i64 t.op,.string t.name,.int .i64 t.n,.int .i64 t.ty.kind,.string t.ty.name,.slice a an ac,.slice ma mn mc]∧Blk ((((((w.alloc (.cells #[.map (some pm)] 77)).alloc (.cells #[.int .i64 t.op,.string t.name,.int .i64 t.n,.int .i64 t.ty.kind,.string t.ty.name,.slice a an ac,.slice ma mn mc] 27)).alloc Z7).alloc (.cells #[.int .i64 0] 3)).alloc (.cells #[.nilFunc] 126))) (w.heap.size+1+1) 27 z27∧Blk ((((((w.alloc (.cells #[.map (some pm)] 77)).alloc (.cells #[.int .i64 t.op,.string t.name,.int .i64 t.n,.int .i64 t.ty.kind,.string t.ty.name,.slice a an ac,.slice ma mn mc] 27)).alloc Z7).alloc (.cells #[.int .i64 0] 3)).alloc (.cells #[.nilFunc] 126))) (w.heap.size+1+1+1) 3 [.int .i64 0]∧Blk ((((((w.alloc (.cells #[.map (some pm)] 77)).alloc (.cells #[.int .i64 t.op,.string t.name,.int .i64 t.n,.int .i64 t.ty.kind,.string t.ty.name,.slice a an ac,.slice ma mn mc] 27)).alloc Z7).alloc (.cells #[.int .i64 0] 3)).alloc (.cells #[.nilFunc] 126))) (w.heap.size+1+1+1+1) 126 [.nilFunc]∧Kept (fun _=>False) w ((((((w.alloc (.cells #[.map (some pm)] 77)).alloc (.cells #[.int .i64 t.op,.string t.name,.int .i64 t.n,.int .i64 t.ty.kind,.string t.ty.name,.slice a an ac,.slice ma mn mc] 27)).alloc Z7).alloc (.cells #[.int .i64 0] 3)).alloc (.cells #[.nilFunc] 126)))):=Ld
  ⟨((((Blk.new w 77 _).alloc _).alloc _).alloc _).alloc _,(((Blk.new' 27 _ (by simp)).alloc _).alloc _).alloc _,((Blk.new' 27 _ (by simp)).alloc _).alloc _,(Blk.new' 3 _ (by simp)).alloc _,Blk.new' 126 _ (by simp),((((kR.alloc _).alloc _).alloc _).alloc _).alloc _⟩
 generalize (((((w.alloc (.cells #[.map (some pm)] 77)).alloc (.cells #[.int .i64 t.op,.string t.name,.int .i64 t.n,.int .i64 t.ty.kind,.string t.ty.name,.slice a an ac,.slice ma mn mc] 27)).alloc Z7).alloc (.cells #[.int .i64 0] 3)).alloc (.cells #[.nilFunc] 126))=w5 at *
 obtain⟨X,hX⟩:∃ X,X=w.heap.size:=⟨_,rfl⟩
 obtain⟨P,hP⟩:∃ P,P=w.heap.size+1:=⟨_,rfl⟩
 obtain⟨R,hR⟩:∃ R,R=w.heap.size+1+1:=⟨_,rfl⟩
 obtain⟨Y,hY⟩:∃ Y,Y=w.heap.size+1+1+1:=⟨_,rfl⟩
 obtain⟨Z,hZ⟩:∃ Z,Z=w.heap.size+1+1+1+1:=⟨_,rfl⟩
 have HD:Hid (X=w.heap.size∧P=w.heap.size+1∧R=w.heap.size+2∧Y=w.heap.size+3∧Z=w.heap.size+4):=Ld ⟨hX,hP,by omega,by omega,by omega⟩
 rw[← hZ,← hY,← hR,← hP,← hX] at B5 ⊢
 obtain⟨b1,b2,b3,b4,b6,k5⟩:=B5.out
 have hres:Kept (fun q=>X≤q) w5 (w5.setCell ⟨Z,0,none⟩ (.func (.func 98) #[] #[.pointer (some ⟨X,0,none⟩),.pointer (some ⟨Y,0,none⟩),.pointer (some ⟨Z,0,none⟩)])):=(Kept.refl (fun q=>X≤q) w5).setCell (p:=⟨Z,0,none⟩) (Or.inl (by show X≤Z;omega)) _
 have kZ:Kept (fun q=>q=Z) w5 (w5.setCell ⟨Z,0,none⟩ (.func (.func 98) #[] #[.pointer (some ⟨X,0,none⟩),.pointer (some ⟨Y,0,none⟩),.pointer (some ⟨Z,0,none⟩)])):=(Kept.refl (fun q=>q=Z) w5).setCell (p:=⟨Z,0,none⟩) (Or.inl rfl) _
 have gZ:=b6.cell
 have fZ:=b6.frozen
 have K6:Hid (Kept (fun _=>False) w (w5.setCell ⟨Z,0,none⟩ (.func (.func 98) #[] #[.pointer (some ⟨X,0,none⟩),.pointer (some ⟨Y,0,none⟩),.pointer (some ⟨Z,0,none⟩)]))):=Ld (k5.via1 kZ (fun x hx e=>by omega))
 have HXZ:Hid (LmX X Y Z pm 0 (w5.setCell ⟨Z,0,none⟩ (.func (.func 98) #[] #[.pointer (some ⟨X,0,none⟩),.pointer (some ⟨Y,0,none⟩),.pointer (some ⟨Z,0,none⟩)]))):=Ld ⟨b1.kept kZ (fun e=>by omega),b4.kept kZ (fun e=>by omega),b6.set 0 _⟩
 have HP6:Hid (Blk (w5.setCell ⟨Z,0,none⟩ (.func (.func 98) #[] #[.pointer (some ⟨X,0,none⟩),.pointer (some ⟨Y,0,none⟩),.pointer (some ⟨Z,0,none⟩)])) P 27 [Value.int .i64 t.op,.string t.name,.int .i64 t.n,.int .i64 t.ty.kind,.string t.ty.name,.slice a an ac,.slice ma mn mc]):=Ld (b2.kept kZ (fun e=>by omega))
 have HR6:Hid (Blk (w5.setCell ⟨Z,0,none⟩ (.func (.func 98) #[] #[.pointer (some ⟨X,0,none⟩),.pointer (some ⟨Y,0,none⟩),.pointer (some ⟨Z,0,none⟩)])) R 27 z27):=Ld (b3.kept kZ (fun e=>by omega))
 clear hres kZ b1 b2 b3 b4 b6 k5 B5 hZ hY hR hP hX
 go_upto_region 4 with (fail)
 clear gZ fZ
 generalize w5.setCell ⟨Z,0,none⟩ (.func (.func 98) #[] #[.pointer (some ⟨X,0,none⟩),.pointer (some ⟨Y,0,none⟩),.pointer (some ⟨Z,0,none⟩)])=w6 at *
 have M7:=Ld (MapF.made w6)
 have K7:Hid (Kept (fun _=>False) w6 (w6.alloc (.map #[] 0))):=Ld (kR.alloc _)
 have HZL:=Ld HXZ.out.z.lt
 have HC:=Ld (lim_any HOK.out σ (fun _=>0) 0 (w6.alloc (.map #[] 0)) (fun q=>q<w.heap.size) (fun q=>q<w.heap.size) _ _ w6.heap.size 0 pm n X Y Z (HTY.out _ (K6.out.trans K7.out)) (HTM.out _ (K6.out.trans K7.out)) (HPM.out _ (K6.out.trans K7.out)) HSG.out ⟨_,M7.out,cnt_none⟩ (HXZ.out.kept K7.out (fun e=>e) (fun e=>e) (fun e=>e))
  (fun q hq=>by have:=HD.out;have:=HZL.out;constructor <;> omega) (fun q hq=>by have:=HD.out;have:=HZL.out;constructor <;> omega) (by have:=HD.out;have:=HZL.out;have:=HPL.out;omega) (by have:=HV.out.2.1;omega) (fun s=>by have:=HV.out.2.2;show 0+_≤_;omega) (by have:=HB.out;omega))
 unfold tmVal at HC
 have gP:∀ i,w6.cell? ⟨P,i,none⟩=[Value.int .i64 t.op,.string t.name,.int .i64 t.n,.int .i64 t.ty.kind,.string t.ty.name,.slice a an ac,.slice ma mn mc][i]?:=HP6.out.cell
 have gZ:∀ i,w6.cell? ⟨Z,i,none⟩=[Value.func (.func 98) #[] #[.pointer (some ⟨X,0,none⟩),.pointer (some ⟨Y,0,none⟩),.pointer (some ⟨Z,0,none⟩)]][i]?:=HXZ.out.z.cell
 go_wp2_with fail
 clear gP gZ
 refine HC.out.mono ?_
 rintro e w8 ⟨rfl,hR⟩
 have K8:Hid (Kept (fun _=>False) w w8):=Ld ((K6.out.trans K7.out).via1 hR.kp (fun x hx e=>by have:=HD.out;have:=K6.out.size;rcases e with e | e <;> omega))
 have HP8:Hid (Blk w8 P 27 [Value.int .i64 t.op,.string t.name,.int .i64 t.n,.int .i64 t.ty.kind,.string t.ty.name,.slice a an ac,.slice ma mn mc]):=Ld ((HP6.out.kept K7.out (fun e=>e)).kept hR.kp (fun e=>by have:=HD.out;have:=HZL.out;rcases e with e | e <;> omega))
 have HR8:Hid (Blk w8 R 27 z27):=Ld ((HR6.out.kept K7.out (fun e=>e)).kept hR.kp (fun e=>by have:=HD.out;have:=HZL.out;rcases e with e | e <;> omega))
 have HX8:=Ld hR.bx
 obtain⟨GN,hGN⟩:∃ GN,GN=0+szR (wgC σ (fun _=>0)) t:=⟨_,rfl⟩
 rw[← hGN] at HX8
 have HGN:Hid (GN=tmN (subT freshS t l)):=Ld (by rw[hGN,Nat.zero_add];exact HSZ.out)
 have HGB:Hid (GN≤1000000000):=Ld (by rw[hGN,Nat.zero_add];exact HB.out)
 clear hR hGN HC M7 K7 HXZ HP6 HR6 K6 HB HSZ
 have HSUB:=Ld (psub_any HOK.out l σ w8 (fun q=>q<w.heap.size) (fun q=>q<w.heap.size) _ _ pm n HLK.out HSG.out (HTY.out _ K8.out) (HTM.out _ K8.out) (HPM.out _ K8.out) (HP.out.kept K8.out) (by have:=HV.out.2.2;have:=HN.out;omega) (by have:=HV.out.2.1;omega))
 have HSMM:=Ld (ok_smt HRO.out)
 clear HRO HTY HTM HPM HLK HSG HP HN HV HOK HPL HZL
 generalize subT freshS t l=s at *
 have gY:∀ i,w8.cell? ⟨Y,i,none⟩=[Value.int .i64 GN][i]?:=HX8.out.y.cell
 by_cases hg:2000<GN
 ·have hg':(2000:Int)<(GN:Int):=by omega
  have hq:Hid (rr=(tm0,5)):=Ld (by rw[HR.out,HVR.out (by rw[← HGN.out];exact hg)];rfl)
  have gR:∀ i,w8.cell? ⟨R,i,none⟩=[Value.int .i64 0,.string ⟨#[]⟩,.int .i64 0,.int .i64 0,.string ⟨#[]⟩,.slice none 0 0,.slice none 0 0][i]?:=HR8.out.cell
  have fR:∀ i,w8.frozen? ⟨R,i,none⟩=false:=HR8.out.frozen
  clear hg
  go_wp2_with fail
  exact bodyPost_ret (results_ct Tryz.results53 rfl (load_tm (t:=tm0) (r7 HR8.out rfl))) rfl ⟨_,_,by rw[hq.out];rfl,by rw[hq.out];exact .nil (Or.inl rfl),by rw[hq.out];exact .nil (Or.inl rfl),k7w K8.out (Or.inr (by have:=HD.out;omega))⟩
 ·have hg':¬ (2000:Int)<(GN:Int):=by omega
  clear hg
  have gX:∀ i,w8.cell? ⟨X,i,none⟩=[Value.map (some pm)][i]?:=HX8.out.x.cell
  have gP:∀ i,w8.cell? ⟨P,i,none⟩=[Value.int .i64 t.op,.string t.name,.int .i64 t.n,.int .i64 t.ty.kind,.string t.ty.name,.slice a an ac,.slice ma mn mc][i]?:=HP8.out.cell
  unfold tmVal at HSUB
  go_wp2_with fail
  clear gX gP gY hg'
  refine HSUB.out.mono ?_
  rintro e w9 ⟨tk,kk,rfl,hty5,htm5,k9⟩
  have HC:=Ld (checked_any HR (B:=w8.heap.size) k9.size (hty5.mono (ok':=fun q=>w8.heap.size≤q∧q<w9.heap.size) (fun q hq h=>⟨h,hq⟩)) (htm5.mono (ok':=fun q=>w8.heap.size≤q∧q<w9.heap.size) (fun q hq h=>⟨h,hq⟩)) HSMM.out)
  obtain⟨pa,pn,pc,rfl⟩:=hty5.slice
  obtain⟨qa,qn,qc,rfl⟩:=htm5.slice
  have HR9:=Ld (HR8.out.kept k9 (fun e=>e))
  have HL8:=Ld HR8.out.lt
  have K9:=Ld (K8.out.trans k9)
  clear hty5 htm5 k9 HSUB HR8 HX8 HP8
  unfold TmB tmVal at HC
  unfold tmVal
  clear HR HVR
  go_wp2_with fail
  refine HC.out.mono ?_
  rintro e w6 ⟨tk,kk,rfl,hty6,htm6,k6⟩
  obtain⟨pa,pn,pc,rfl⟩:=hty6.slice
  obtain⟨qa,qn,qc,rfl⟩:=htm6.slice
  have HR10:=Ld (HR9.out.kept k6 (fun e=>e))
  have K10:=Ld (K9.out.trans k6)
  have HTY:=Ld hty6
  have HTM:=Ld htm6
  clear hty6 htm6 k6 HC HR9 K9
  have gR:∀ i,w6.cell? ⟨R,i,none⟩=[Value.int .i64 0,.string ⟨#[]⟩,.int .i64 0,.int .i64 0,.string ⟨#[]⟩,.slice none 0 0,.slice none 0 0][i]?:=HR10.out.cell
  have fR:∀ i,w6.frozen? ⟨R,i,none⟩=false:=HR10.out.frozen
  go_wp2_with fail
  exact bodyPost_ret (results_ct Tryz.results53 rfl (load_tm (t:=rr.1) (r7 HR10.out rfl))) rfl ⟨_,_,rfl,(HTY.out.frame (set7 (fun q hq=>by have:=HL8.out;omega))).mono (fun q _ hq=>by have:=HD.out;have:=K8.out.size;omega),(HTM.out.frame (set7 (fun q hq=>by have:=HL8.out;omega))).mono (fun q _ hq=>by have:=HD.out;have:=K8.out.size;omega),k7w K10.out (Or.inr (by have:=HD.out;omega))⟩
def vB (b:ByteArray×Tm):Bool:=validB b.2
theorem bv1_any {ok:Nat→Prop} {w:World} {s:ByteArray} {t:Tm} {a:Option Addr} {n c:Nat} {ma:Option Addr} {mn mc:Nat} (hk:TyL ok w t.ty.kids (.slice a n c)) (hm:TmL ok w t.kids (.slice ma mn mc)) (hs:SmTm big t):
  Calls Tryz.prog 52 #[.agg #[.string s,.int .i64 t.op,.string t.name,.int .i64 t.n,.int .i64 t.ty.kind,.string t.ty.name,.slice a n c,.slice ma mn mc]] w fun e w'=>e=.returned (.bool (!validB t))∧Kept (fun _=>False) w w':=by
 have hcon:=Ld (valid_any (hk.frame (Same.alloc w (.cells #[.string s,.int .i64 t.op,.string t.name,.int .i64 t.n,.int .i64 t.ty.kind,.string t.ty.name,.slice a n c,.slice ma mn mc] 38))) (hm.frame (Same.alloc w (.cells #[.string s,.int .i64 t.op,.string t.name,.int .i64 t.n,.int .i64 t.ty.kind,.string t.ty.name,.slice a n c,.slice ma mn mc] 38))) hs)
 clear hk hm hs
 go_enter Tryz.func52,Tryz.ntmps52
 go_wp2_with fail
 refine hcon.out.mono ?_
 rintro e w' ⟨rfl,h⟩
 go_wp2_with fail
 go_ret
 exact⟨rfl,(kR.alloc _).trans h⟩
theorem vb_drop {l:List (ByteArray×Tm)} {k:Nat} (h:k<l.length):(l.drop k).all vB=(vB l[k]&&(l.drop (k+1)).all vB):=by
 rw[List.drop_eq_getElem_cons h,List.all_cons]
theorem bidx_any {ok:Nat→Prop} {l:List (ByteArray×Tm)} {a:Option Addr} {cp:Nat} {w:World} (hn1:l.length≤1000000) (hs:∀ b,b∈l→SmTm big b.2) (hk:BnL ok w l (.slice a l.length cp)):
  Calls Tryz.prog 97 #[.slice a l.length cp,.func (.func 52) #[] #[]] w fun e w'=>∃ i:Int,e=.returned (.int .i64 i)∧decide (0≤i)=!(l.all vB)∧Kept (fun _=>False) w w':=by
 have HS:=Ld hs
 have HN:=Ld hn1
 have HAT:=Ld (fun W (k:Kept (fun _=>False) w W)=>(hk.frame (sK k)).at)
 clear hs hn1 hk
 go_enter Tryz.func97,Tryz.ntmps97
 go_wp2_with fail
 go_loopw [8] (fun i wr=>∃ k:Nat,k≤l.length∧i=.int .i64 k∧Kept (fun _=>False) w wr∧Hid (l.all vB=(l.drop k).all vB)) (fun i _=>l.length-(intOf i).toNat)
 case atStart=>exact⟨0,Nat.zero_le _,rfl,Kept.refl _ _,Ld rfl⟩
 case round=>
  obtain⟨k,hkl,rfl,hkr,heq⟩:=hrel
  have HKR:=Ld hkr
  clear hkr
  by_cases hlt:k<l.length
  ·have i1:(k:Int)<(l.length:Int):=by omega
   have i2:(k:Int)<1000000:=by have:=HN.out;omega
   obtain⟨g,off,ta,tn,tc,ma,mn,mc,rfl,hg,lg,c0,⟨d0,d1,d2,d3,d4,d5,d6⟩,hty,htm⟩:=HAT.out wr HKR.out k hlt
   have hst:=Ld (vb_drop hlt)
   have hcon:=Ld (bv1_any (s:=l[k].1) hty htm (HS.out _ (List.getElem_mem hlt)))
   clear hty htm hg lg
   cases hr:validB l[k].2
   ·rw[hr] at hcon
    go_wp2_with (go_at_call 52;refine hcon.out.mono ?_;rintro e w' ⟨rfl,h1⟩)
    go_ret
    exact⟨k,rfl,by rw[heq.out,hst.out];unfold vB;rw[hr];simp,HKR.out.trans h1⟩
   ·rw[hr] at hcon
    go_wp2_with (go_at_call 52;refine hcon.out.mono ?_;rintro e w' ⟨rfl,h1⟩)
    go_roundw
    case rel=>exact⟨k+1,by omega,by go_num,HKR.out.trans h1,Ld (by rw[heq.out,hst.out];unfold vB;rw[hr];rfl)⟩
    case measure=>simp[intOf];omega
  ·have hz:Hid (l.all vB=true):=Ld (by rw[heq.out,List.drop_eq_nil_of_le (by omega)];rfl)
   go_wp2_with fail
   go_ret
   exact⟨-1,rfl,by rw[hz.out];rfl,HKR.out⟩
theorem bcont_any {ok:Nat→Prop} {l:List (ByteArray×Tm)} {a:Option Addr} {cp:Nat} {w:World} (hn1:l.length≤1000000) (hs:∀ b,b∈l→SmTm big b.2) (hk:BnL ok w l (.slice a l.length cp)):
  Calls Tryz.prog 51 #[.slice a l.length cp,.func (.func 52) #[] #[]] w fun e w'=>e=.returned (.bool (!(l.all vB)))∧Kept (fun _=>False) w w':=by
 have hcon:=Ld (bidx_any hn1 hs hk)
 clear hs hk hn1
 go_enter Tryz.func51,Tryz.ntmps51
 go_wp2_with fail
 refine hcon.out.mono ?_
 rintro e w' ⟨i,rfl,hi,h1⟩
 go_wp2_with fail
 go_ret
 exact⟨rfl,h1⟩
def sbstR (t:Tm) (l:List (ByteArray×Tm)):Tm×Int:=if validB t&&l.all vB then ltdR t l else (tm0,1)
theorem look_take {l:List (ByteArray×Tm)} {k:Nat} (h:k<l.length) (s:ByteArray):look (l.take (k+1)) s=(match look (l.take k) s with | some u=>some u | none=>if l[k].1=s then some l[k].2 else none):=by
 have e:l.take (k+1)=l.take k++[l[k]]:=by rw[List.take_add_one,List.getElem?_eq_getElem h];rfl
 rw[e,look_app]
 cases look (l.take k) s <;> rfl
theorem all_vb {l:List (ByteArray×Tm)} (h:l.all vB=true) {b:ByteArray×Tm} (hb:b∈l):validB b.2=true:=List.all_eq_true.1 h b hb
theorem vb_okB {l:List (ByteArray×Tm)} (h:l.all vB=true):OkB l:=fun b hb=>valid_ok (all_vb h hb)
theorem frB_le:∀ {l:List (ByteArray×Tm)},l.all vB=true→(frB l).length≤2000*l.length
 | [],_=>Nat.zero_le _
 | b::l,h=>by
  have h1:=(valid_iff _).1 (all_vb h (List.mem_cons_self ..))
  have h2:=frs_len b.2
  have h3:=frB_le (l:=l) (by rw[List.all_cons,Bool.and_eq_true] at h;exact h.2)
  rw[frB,List.length_append,List.length_cons]
  omega
theorem vb_sg {l:List (ByteArray×Tm)} (h:l.all vB=true):SgOk (look l):=by
 intro s u hu
 obtain⟨b,hb,rfl⟩:=look_mem hu
 have h1:=(valid_iff _).1 (all_vb h hb)
 exact⟨h1.1,h1.2.1,by omega⟩
theorem prv_new {ok:Nat→Prop} {w:World} {l:List (ByteArray×Tm)} {k:Nat} {f:ByteArray→Option Value} {ta pa:Option Addr} {tn tc pn pc:Nat} (h:k<l.length) (hv:PrV ok w (look (l.take k)) f) (hu:look (l.take k) l[k].1=none) (h1:TyL ok w l[k].2.ty.kids (.slice ta tn tc)) (h2:TmL ok w l[k].2.kids (.slice pa pn pc)):
  PrV ok w (look (l.take (k+1))) (updF f l[k].1 (tmVal l[k].2 (.slice ta tn tc) (.slice pa pn pc))):=by
 intro s
 have h3:=hv s
 rw[look_take h s]
 unfold updF
 by_cases hs:s=l[k].1
 ·subst hs
  rw[hu]
  simp only[if_true]
  exact⟨ta,tn,tc,pa,pn,pc,rfl,h1,h2⟩
 ·rw[if_neg hs]
  cases hq:look (l.take k) s with
  | none=>rw[hq] at h3;rw[if_neg (fun e=>hs e.symm)];exact h3
  | some u=>rw[hq] at h3;exact h3
theorem look_old {l:List (ByteArray×Tm)} {k:Nat} (h:k<l.length) {u:Tm} (hu:look (l.take k) l[k].1=some u):look (l.take (k+1))=look (l.take k):=by
 funext s
 rw[look_take h s]
 cases hq:look (l.take k) s with
 | some _=>rfl
 | none=>
  rw[if_neg]
  intro e
  rw[e,hq] at hu
  cases hu
structure SS (w:World) (ce:List Value) (M:Nat) (okb:Nat→Prop) (l:List (ByteArray×Tm)) (k:Nat) (W:World):Prop where
 kp:Kept (fun _=>False) w W
 a:Blk W w.heap.size 27 ce
 r:Blk W (w.heap.size+1) 27 z27
 m:PrM (fun q=>okb q∧q<w.heap.size) W M k (look (l.take k))
 lm:w.heap.size+2≤M
theorem SS.kept {w W W':World} {ce:List Value} {M k:Nat} {okb:Nat→Prop} {l:List (ByteArray×Tm)} (h:SS w ce M okb l k W) (q:Kept (fun _=>False) W W'):SS w ce M okb l k W':=
 ⟨h.kp.trans q,h.a.kept q (fun e=>e),h.r.kept q (fun e=>e),h.m.kept q (fun e=>e) (fun _ _ e=>e),h.lm⟩
theorem subst_any {t:Tm} {l:List (ByteArray×Tm)} {ok okb:Nat→Prop} {w:World} {tk kk vl:Value} (h1:TyL ok w t.ty.kids tk) (h2:TmL ok w t.kids kk) (hs:SmTm big t) (hB:BnL okb w l vl) (hsb:∀ b,b∈l→SmTm big b.2) (hnb:∀ b,b∈l→b.1.size≤maxLen) (hn:l.length≤200) (hp:P10 w):
  Calls Tryz.prog 18 #[tmVal t tk kk,vl] w (TmB w.heap.size (sbstR t l) w):=by
 obtain⟨p,n,c,rfl⟩:=h1.slice
 obtain⟨ma,mn,mc,rfl⟩:=h2.slice
 obtain⟨aa,ac,rfl⟩:=hB.slice
 have HV:=Ld (fun W (k:Kept (fun _=>False) w W)=>valid_any (h1.frame (sK k)) (h2.frame (sK k)) hs)
 have HC:=Ld (fun W (k:Kept (fun _=>False) w W)=>bcont_any (by omega:l.length≤1000000) hsb (hB.frame (sK k)))
 have HAT:=Ld (fun W (k:Kept (fun _=>False) w W)=>((hB.mono (ok':=fun q=>okb q∧q<w.heap.size) (fun q h1 h2=>⟨h2,h1⟩)).frame (sK k)).at)
 have HLT:=Ld (fun (hv:validB t=true) (hall:l.all vB=true) W (m:Nat) (k:Kept (fun _=>False) w W) (hm:PrM (fun q=>okb q∧q<w.heap.size) W m l.length (look (l.take l.length)))=>
  limited_any hv (fun _=>rfl) (vb_sg hall) ⟨vb_okB hall,by have:=frB_le hall;omega⟩ (h1.frame (sK k)) (h2.frame (sK k)) (by rw[List.take_length] at hm;exact hm) (hp.kept k) hn)
 have HSZ:=Ld (fun (k:Nat) (h:k<l.length)=>hnb _ (List.getElem_mem h))
 have HN:=Ld hn
 have HR:Hid (sbstR t l=if validB t&&l.all vB then ltdR t l else (tm0,1)):=Ld rfl
 generalize sbstR t l=rr at *
 clear h1 h2 hs hB hsb hnb hn hp
 have hmm:=@run_makeMap Tryz.prog
 unfold tmVal
 have B0:Hid (Blk ((w.alloc (.cells #[.int .i64 t.op,.string t.name,.int .i64 t.n,.int .i64 t.ty.kind,.string t.ty.name,.slice p n c,.slice ma mn mc] 27)).alloc Z7) w.heap.size 27 [Value.int .i64 t.op,.string t.name,.int .i64 t.n,.int .i64 t.ty.kind,.string t.ty.name,.slice p n c,.slice ma mn mc]∧Blk ((w.alloc (.cells #[.int .i64 t.op,.string t.name,.int .i64 t.n,.int .i64 t.ty.kind,.string t.ty.name,.slice p n c,.slice ma mn mc] 27)).alloc Z7) (w.heap.size+1) 27 z27∧Kept (fun _=>False) w ((w.alloc (.cells #[.int .i64 t.op,.string t.name,.int .i64 t.n,.int .i64 t.ty.kind,.string t.ty.name,.slice p n c,.slice ma mn mc] 27)).alloc Z7)):=Ld
  ⟨(Blk.new w 27 [Value.int .i64 t.op,.string t.name,.int .i64 t.n,.int .i64 t.ty.kind,.string t.ty.name,.slice p n c,.slice ma mn mc]).alloc _,Blk.new' 27 _ (by simp),(kR.alloc _).alloc _⟩
 go_enter Tryz.func18,Tryz.ntmps18
 go_upto_region 1 with (fail)
 generalize ((w.alloc (.cells #[.int .i64 t.op,.string t.name,.int .i64 t.n,.int .i64 t.ty.kind,.string t.ty.name,.slice p n c,.slice ma mn mc] 27)).alloc Z7)=w1 at *
 have gA:∀ i,w1.cell? ⟨w.heap.size,i,none⟩=[Value.int .i64 t.op,.string t.name,.int .i64 t.n,.int .i64 t.ty.kind,.string t.ty.name,.slice p n c,.slice ma mn mc][i]?:=B0.out.1.cell
 have HV1:=Ld (HV.out w1 B0.out.2.2)
 cases hv:validB t
 ·rw[hv] at HV1
  have hq:Hid (rr=(tm0,1)):=Ld (by rw[HR.out,hv];rfl)
  clear HR HLT HC HAT hv HV
  go_wp2_with fail
  refine HV1.out.mono ?_
  rintro e w2 ⟨rfl,k2⟩
  have BR:=Ld (B0.out.2.1.kept k2 (fun h=>h))
  have KK:=Ld (B0.out.2.2.trans k2)
  clear k2 B0 gA HV1
  have gR:∀ i,w2.cell? ⟨w.heap.size+1,i,none⟩=[Value.int .i64 0,.string ⟨#[]⟩,.int .i64 0,.int .i64 0,.string ⟨#[]⟩,.slice none 0 0,.slice none 0 0][i]?:=BR.out.cell
  have fR:∀ i,w2.frozen? ⟨w.heap.size+1,i,none⟩=false:=BR.out.frozen
  go_wp2_with fail
  exact bodyPost_ret (results_ct Tryz.results18 rfl (load_tm (t:=tm0) (r7 BR.out rfl))) rfl ⟨_,_,by rw[hq.out];rfl,by rw[hq.out];exact .nil (Or.inl rfl),by rw[hq.out];exact .nil (Or.inl rfl),k7w KK.out (Or.inr (Nat.le_succ _))⟩
 ·rw[hv] at HV1
  have HLT2:=Ld (HLT.out hv)
  have HR2:Hid (rr=if l.all vB then ltdR t l else (tm0,1)):=Ld (by rw[HR.out,hv];rfl)
  clear HR HLT hv HV
  go_wp2_with fail
  refine HV1.out.mono ?_
  rintro e w2 ⟨rfl,k2⟩
  have BA:=Ld (B0.out.1.kept k2 (fun h=>h))
  have BR:=Ld (B0.out.2.1.kept k2 (fun h=>h))
  have KK:=Ld (B0.out.2.2.trans k2)
  clear k2 B0 gA HV1
  have HC2:=Ld (HC.out w2 KK.out)
  clear HC
  go_wp2_with fail
  refine HC2.out.mono ?_
  rintro e w3 ⟨rfl,k3⟩
  have BA3:=Ld (BA.out.kept k3 (fun h=>h))
  have BR3:=Ld (BR.out.kept k3 (fun h=>h))
  have K3:=Ld (KK.out.trans k3)
  clear k3 KK BA BR HC2
  cases ha:l.all vB
  ·have hq:Hid (rr=(tm0,1)):=Ld (by rw[HR2.out,ha];rfl)
   have gR:∀ i,w3.cell? ⟨w.heap.size+1,i,none⟩=[Value.int .i64 0,.string ⟨#[]⟩,.int .i64 0,.int .i64 0,.string ⟨#[]⟩,.slice none 0 0,.slice none 0 0][i]?:=BR3.out.cell
   have fR:∀ i,w3.frozen? ⟨w.heap.size+1,i,none⟩=false:=BR3.out.frozen
   clear HR2 HLT2 HAT ha
   go_wp2_with fail
   exact bodyPost_ret (results_ct Tryz.results18 rfl (load_tm (t:=tm0) (r7 BR3.out rfl))) rfl ⟨_,_,by rw[hq.out];rfl,by rw[hq.out];exact .nil (Or.inl rfl),by rw[hq.out];exact .nil (Or.inl rfl),k7w K3.out (Or.inr (Nat.le_succ _))⟩
  ·have hq:Hid (rr=ltdR t l):=Ld (by rw[HR2.out,ha];rfl)
   have HL:=Ld (HLT2.out ha)
   clear HR2 HLT2 ha
   go_upto_region 4 with (fail)
   have S4:Hid (SS w [Value.int .i64 t.op,.string t.name,.int .i64 t.n,.int .i64 t.ty.kind,.string t.ty.name,.slice p n c,.slice ma mn mc] w3.heap.size okb l 0 (w3.alloc (.map #[] 0))):=Ld (by
    have k:Kept (fun _=>False) w3 (w3.alloc (.map #[] 0)):=kR.alloc _
    exact⟨K3.out.trans k,BA3.out.kept k (fun e=>e),BR3.out.kept k (fun e=>e),⟨_,MapF.made w3,fun s=>rfl⟩,by have:=BR3.out.lt;omega⟩)
   generalize w3.alloc (.map #[] 0)=w4 at *
   generalize w3.heap.size=M at *
   clear BA3 BR3 K3 hmm
   go_wp2_with fail
   go_loopw [22] (fun i wr=>∃ k:Nat,k≤l.length∧i=.int .i64 k∧SS w [Value.int .i64 t.op,.string t.name,.int .i64 t.n,.int .i64 t.ty.kind,.string t.ty.name,.slice p n c,.slice ma mn mc] M okb l k wr) (fun i _=>l.length-(intOf i).toNat)
   case atStart=>exact⟨0,Nat.zero_le _,rfl,S4.out⟩
   case round=>
    obtain⟨k,hk,rfl,hS⟩:=hrel
    have S:=Ld hS
    clear hS S4
    by_cases hlt:k<l.length
    ·have i1:(k:Int)<(l.length:Int):=by omega
     have i2:(k:Int)<1000000:=by have:=HN.out;omega
     obtain⟨g,off,ta,tn,tc,qa,qn,qc,rfl,hg,lg,c0,⟨d0,d1,d2,d3,d4,d5,d6⟩,hty,htm⟩:=HAT.out wr S.out.kp k hlt
     have HTY:=Ld hty
     have HTM:=Ld htm
     clear hty htm hg lg
     go_upto_region 7 with (fail)
     clear c0 d0 d1 d2 d3 d4 d5 d6
     have K5:Hid (Kept (fun _=>False) wr (wr.alloc (.cells #[.string l[k].1,.int .i64 l[k].2.op,.string l[k].2.name,.int .i64 l[k].2.n,.int .i64 l[k].2.ty.kind,.string l[k].2.ty.name,.slice ta tn tc,.slice qa qn qc] 38))):=Ld (kR.alloc _)
     have bK:=Ld (Blk.new wr 38 [Value.string l[k].1,.int .i64 l[k].2.op,.string l[k].2.name,.int .i64 l[k].2.n,.int .i64 l[k].2.ty.kind,.string l[k].2.ty.name,.slice ta tn tc,.slice qa qn qc])
     change Hid (Blk (wr.alloc (.cells #[.string l[k].1,.int .i64 l[k].2.op,.string l[k].2.name,.int .i64 l[k].2.n,.int .i64 l[k].2.ty.kind,.string l[k].2.ty.name,.slice ta tn tc,.slice qa qn qc] 38)) wr.heap.size _ _) at bK
     have S5:=Ld (S.out.kept K5.out)
     have HTY5:=Ld (HTY.out.frame (sK K5.out))
     have HTM5:=Ld (HTM.out.frame (sK K5.out))
     generalize wr.alloc (.cells #[.string l[k].1,.int .i64 l[k].2.op,.string l[k].2.name,.int .i64 l[k].2.n,.int .i64 l[k].2.ty.kind,.string l[k].2.ty.name,.slice ta tn tc,.slice qa qn qc] 38)=w5 at *
     generalize wr.heap.size=Q at *
     clear K5 S HTY HTM
     obtain⟨f,hM,hPV⟩:=S5.out.m
     have HM:=Ld hM
     have HPV:=Ld hPV
     have hlk:=hM.look_ok Tryz.underlying77 (z28 w5) (HSZ.out k hlt)
     have gK:∀ i,w5.cell? ⟨Q,i,none⟩=[Value.string l[k].1,.int .i64 l[k].2.op,.string l[k].2.name,.int .i64 l[k].2.n,.int .i64 l[k].2.ty.kind,.string l[k].2.ty.name,.slice ta tn tc,.slice qa qn qc][i]?:=bK.out.cell
     have hf:=hPV l[k].1
     clear hM hPV
     cases hu:look (l.take k) l[k].1 with
     | some u=>
      rw[hu] at hf
      obtain⟨ua,un,uc,va,vn,vc,hf,_,_⟩:=hf
      rw[hf] at hlk
      unfold tmVal at hlk
      simp only[Option.getD_some,Option.isSome_some] at hlk
      have HO:=Ld (look_old hlt hu)
      clear hf hu
      go_wp2_with fail
      go_roundw
      case rel=>exact⟨k+1,by omega,by go_num,by
       have S6:=S5.out.kept ((Kept.refl (fun _=>False) w5).alloc (.cells #[.int .i64 u.op,.string u.name,.int .i64 u.n,.int .i64 u.ty.kind,.string u.ty.name,.slice ua un uc,.slice va vn vc] 27))
       exact⟨S6.kp,S6.a,S6.r,by obtain⟨f,h1,h2⟩:=S6.m;rw[HO.out];exact⟨f,h1.mono (Nat.le_succ _),h2⟩,S6.lm⟩⟩
      case measure=>simp[intOf];omega
     | none=>
      rw[hu] at hf
      have hf:f l[k].1=none:=hf
      rw[hf] at hlk
      simp only[Option.getD_none,Option.isSome_none] at hlk
      have HNEW:=Ld (prv_new hlt HPV.out hu HTY5.out HTM5.out)
      clear hf hu
      go_upto_region 8 with (fail)
      have K6:Hid (Kept (fun _=>False) w5 (w5.alloc Z7)):=Ld (kR.alloc _)
      have S6:=Ld (S5.out.kept K6.out)
      have M6:=Ld (HM.out.kept K6.out (fun e=>e))
      have bK6:=Ld (bK.out.kept K6.out (fun e=>e))
      have HNEW6:=Ld (HNEW.out.frame (sK K6.out))
      generalize w5.alloc Z7=w6 at *
      clear gK hlk HM bK HNEW S5 K6 HTY5 HTM5
      have gK:∀ i,w6.cell? ⟨Q,i,none⟩=[Value.string l[k].1,.int .i64 l[k].2.op,.string l[k].2.name,.int .i64 l[k].2.n,.int .i64 l[k].2.ty.kind,.string l[k].2.ty.name,.slice ta tn tc,.slice qa qn qc][i]?:=bK6.out.cell
      have HKL:Hid (k<maxLen):=Ld (by have:=HN.out;unfold maxLen;omega)
      go_wp2_with (at_mapUpdate;refine wpList_storeF rfl _ _ _ _ 27 rfl Tryz.underlying77 rfl M6.out l[k].1 rfl (HSZ.out k hlt) HKL.out (.agg #[.int .i64 l[k].2.op,.string l[k].2.name,.int .i64 l[k].2.n,.int .i64 l[k].2.ty.kind,.string l[k].2.ty.name,.slice ta tn tc,.slice qa qn qc]) rfl ?_;intro w7 hm7 k7;clear gK)
      go_roundw
      case rel=>exact⟨k+1,by omega,by go_num,by
       have hl:=S6.out.lm
       exact⟨S6.out.kp.via1 k7 (fun x hx e=>by omega),S6.out.a.kept k7 (fun e=>by omega),S6.out.r.kept k7 (fun e=>by omega),⟨_,hm7,HNEW6.out.frame (Same.of_kept k7 (fun q hq e=>by have:=hq.2;omega))⟩,hl⟩⟩
      case measure=>simp[intOf];omega
    ·have hkk:k=l.length:=by omega
     subst hkk
     have HL8:=Ld (HL.out wr M S.out.kp S.out.m)
     unfold tmVal at HL8
     have gA:∀ i,wr.cell? ⟨w.heap.size,i,none⟩=[Value.int .i64 t.op,.string t.name,.int .i64 t.n,.int .i64 t.ty.kind,.string t.ty.name,.slice p n c,.slice ma mn mc][i]?:=S.out.a.cell
     generalize ltdR t l=ss at *
     obtain rfl:rr=ss:=hq.out
     clear hq HL HAT
     go_wp2_with fail
     refine HL8.out.mono ?_
     rintro e w9 ⟨tk,kk,rfl,hty,htm,k9⟩
     obtain⟨pa,pn,pc,rfl⟩:=hty.slice
     obtain⟨qa,qn,qc,rfl⟩:=htm.slice
     have S9:=Ld (S.out.kept k9)
     have HLW:=Ld S.out.r.lt
     have HTY:=Ld hty
     have HTM:=Ld htm
     clear hty htm k9 S HL8 gA
     have gR:∀ i,w9.cell? ⟨w.heap.size+1,i,none⟩=[Value.int .i64 0,.string ⟨#[]⟩,.int .i64 0,.int .i64 0,.string ⟨#[]⟩,.slice none 0 0,.slice none 0 0][i]?:=S9.out.r.cell
     have fR:∀ i,w9.frozen? ⟨w.heap.size+1,i,none⟩=false:=S9.out.r.frozen
     unfold tmVal
     go_wp2_with fail
     exact bodyPost_ret (results_ct Tryz.results18 rfl (load_tm (t:=rr.1) (r7 S9.out.r rfl))) rfl ⟨_,_,rfl,(HTY.out.frame (set7 (fun q hq=>by have:=HLW.out;omega))).mono (fun q _ hq=>by have:=HLW.out;omega),(HTM.out.frame (set7 (fun q hq=>by have:=HLW.out;omega))).mono (fun q _ hq=>by have:=HLW.out;omega),k7w S9.out.kp (Or.inr (by omega))⟩
theorem sub_db {t v:Tm} {l:List (ByteArray×Tm)} (h:tmN t+(frB l).length≤800000):dbT (subT freshS t l)=bd (evB .fv l) (dbT t):=by
 unfold dbT
 rw[ev_sub freshS_FS t l _ h,ev_dbT]
 rfl
theorem sbst_one {t u:Tm} {x:ByteArray} (ht:validB t=true) (hu:validB u=true):sbstR t [(x,u)]=if validB (subT freshS t [(x,u)]) then (subT freshS t [(x,u)],0) else (tm0,5):=by
 unfold sbstR ltdR
 have h:([(x,u)]:List (ByteArray×Tm)).all vB=true:=by
  rw[List.all_cons,List.all_nil,Bool.and_true];exact hu
 rw[ht,h]
 rfl
theorem bd_fix:∀ (d:Db) (σ:ByteArray→Db),(∀ s,s∈frD d→σ s=.fv s)→bd σ d=d:=by
 intro d
 induction d using Db.rec (motive_2:=fun l=>∀ (bi:Bool) (σ:ByteArray→Db) (i:Nat),(∀ s,s∈frDs l→σ s=.fv s)→bds bi σ i l=l) with
 | fv s=>intro σ h;rw[bd];exact h s (by rw[frD];simp)
 | bv i=>intro σ h;rfl
 | nd op N ty l ih=>intro σ h;rw[bd,ih _ _ _ (fun s hs=>h s (by rw[frD];exact hs))]
 | nil=>rename_i bi σ i h;rfl
 | cons d l ihd ihl=>
  rename_i bi σ i h
  rw[bds,ihl _ _ _ (fun s hs=>h s (by rw[frDs];exact List.mem_append_right _ hs))]
  congr 1
  cases hb:(bi&&i==1)
  ·simp only[Bool.false_eq_true,if_false];exact ihd _ (fun s hs=>h s (by rw[frDs];exact List.mem_append_left _ hs))
  ·simp only[if_true];exact ihd _ (fun s hs=>by rw[h s (by rw[frDs];exact List.mem_append_left _ hs)];rfl)
theorem evB_one (x:ByteArray) (u:Tm) (s:ByteArray):evB .fv [(x,u)] s=if x=s then dbT u else .fv s:=by
 unfold evB
 have e1:look [(x,u)] s=if x=s then some u else look [] s:=rfl
 rw[e1]
 by_cases h:x=s
 ·rw[if_pos h,if_pos h];rfl
 ·rw[if_neg h,if_neg h];rfl
theorem sub_one {t u:Tm} {x:ByteArray} (ht:validB t=true) (hu:validB u=true):OkTm (subT freshS t [(x,u)])∧dbT (subT freshS t [(x,u)])=bd (evB .fv [(x,u)]) (dbT t):=by
 have h1:=(valid_iff t).1 ht
 have h2:=(valid_iff u).1 hu
 have f1:(frB [(x,u)]).length≤2000:=by
  have:=frs_len u
  rw[frB,frB,List.append_nil];show (fr u).length≤2000;omega
 have o1:OkB [(x,u)]:=fun b hb=>by rw[List.mem_singleton.1 hb];exact h2.1
 exact⟨sub_ok h1.1 _ o1 (by omega),sub_db (v:=t) (by omega)⟩
theorem tw_plain {t u v:Tm} {x y:ByteArray} (hxy:x≠y) (ht:validB t=true) (hu:validB u=true) (hv:validB v=true) (hx:mb x (fr v)=false)
  (ha:validB (subT freshS t [(x,u)])=true) (hb:validB (subT freshS t [(y,v)])=true) (hw:validB (subT freshS u [(y,v)])=true):
  validB (subT freshS (subT freshS t [(y,v)]) [(x,subT freshS u [(y,v)])])=validB (subT freshS (subT freshS t [(x,u)]) [(y,v)]) ∧
  (validB (subT freshS (subT freshS t [(x,u)]) [(y,v)])=true→alB (subT freshS (subT freshS t [(x,u)]) [(y,v)]) (subT freshS (subT freshS t [(y,v)]) [(x,subT freshS u [(y,v)])])=true):=by
 obtain⟨_,a2⟩:=sub_one (x:=x) ht hu
 obtain⟨_,b2⟩:=sub_one (x:=y) ht hv
 obtain⟨_,w2⟩:=sub_one (x:=y) hu hv
 obtain⟨c1,c2⟩:=sub_one (x:=y) ha hv
 obtain⟨d1,d2⟩:=sub_one (x:=x) hb hw
 have e:dbT (subT freshS (subT freshS t [(x,u)]) [(y,v)])=dbT (subT freshS (subT freshS t [(y,v)]) [(x,subT freshS u [(y,v)])]):=by
  rw[c2,d2,a2,b2]
  unfold dbT
  rw[bd_ev,bd_ev,bd_ev,bd_ev]
  congr 1
  funext s
  show bd (evB .fv [(y,v)]) (bd (evB .fv [(x,u)]) (.fv s))=bd (evB .fv [(x,subT freshS u [(y,v)])]) (bd (evB .fv [(y,v)]) (.fv s))
  rw[bd,bd,evB_one x u s,evB_one y v s]
  by_cases h1:x=s
  ·subst h1
   rw[if_pos rfl,if_neg (fun e=>hxy e.symm),bd,evB_one,if_pos rfl,w2]
  ·rw[if_neg h1]
   by_cases h2:y=s
   ·subst h2
    rw[if_pos rfl,bd,evB_one,if_pos rfl]
    refine (bd_fix _ _ (fun s hs=>?_)).symm
    rw[evB_one,if_neg (fun e=>?_)]
    subst e
    have h3:x∈fr v:=by
     unfold dbT at hs
     obtain⟨q,q1,q2⟩:=(mem_fr_db v .fv x (valid_ok hv).nw).1 hs
     rw[frD,List.mem_singleton] at q2
     rw[q2];exact q1
    rw[(mb_iff _ _).2 h3] at hx
    cases hx
   ·rw[if_neg h2,bd,bd,evB_one,evB_one,if_neg h2,if_neg h1]
 have vv:=valid_db d1 c1 e.symm
 exact⟨vv,fun h=>(alB_iff h (vv.trans h)).2 e⟩
end Go.Proofs.YtdmebjbkccjhbaaGreatDoor
namespace Go.Proofs.YtdmebjbkccjhbaaGreatDoor
open Go.RowKit
/-! Replacing a term: the document's way, and what it does to nameless terms. -/
mutual
def occT (fm:Tm) (names:List ByteArray):Tm→Bool
 | .mk op nm N ty ks=>alikeT (.mk op nm N ty ks) fm [] []||occK fm names (binderB op) nm 0 ks
def occK (fm:Tm) (names:List ByteArray) (bi:Bool) (nm:ByteArray):Nat→List Tm→Bool
 | _,[]=>false
 | i,t::r=>(if bi&&i==1&&mb nm names then false else occT fm names t)||occK fm names bi nm (i+1) r
end
mutual
def cntT (fm:Tm) (names:List ByteArray):Tm→Nat
 | .mk op nm N ty ks=>if alikeT (.mk op nm N ty ks) fm [] [] then 1 else cntK fm names (binderB op) nm 0 ks
def cntK (fm:Tm) (names:List ByteArray) (bi:Bool) (nm:ByteArray):Nat→List Tm→Nat
 | _,[]=>0
 | i,t::r=>(if bi&&i==1&&mb nm names then 0 else cntT fm names t)+cntK fm names bi nm (i+1) r
end
def repK (g:Tm→Tm) (skip:Bool):Nat→List Tm→List Tm
 | _,[]=>[]
 | i,t::r=>(if skip&&i==1 then t else g t)::repK g skip (i+1) r
def repZ (fm:Tm) (names used:List ByteArray) (nm:ByteArray) (body:Tm):ByteArray:=if mb nm used&&occT fm names body then freshS nm (fr body++used) else nm
def repB (fm:Tm) (names used:List ByteArray) (nm:ByteArray) (body:Tm):Tm:=if mb nm used&&occT fm names body then subT freshS body [(nm,nameT (repZ fm names used nm body))] else body
def repF (fm tu:Tm) (names used:List ByteArray):Nat→Tm→Tm
 | 0,t=>t
 | f+1,.mk op nm N ty ks=>
  if alikeT (.mk op nm N ty ks) fm [] [] then tu
  else if binderB op then
   (if mb nm names then .mk op nm N ty (repK (repF fm tu names used f) true 0 ks)
   else .mk op (repZ fm names used nm (ks.getD 1 (nameT nm))) N ty (repK (repF fm tu names used f) false 0 (ks.set 1 (repB fm names used nm (ks.getD 1 (nameT nm))))))
  else .mk op nm N ty (repK (repF fm tu names used f) false 0 ks)
open Classical in
mutual
noncomputable def rpD (F T:Db):Db→Db
 | .fv s=>if Db.fv s=F then T else .fv s
 | .bv i=>if Db.bv i=F then T else .bv i
 | .nd op N ty l=>if Db.nd op N ty l=F then T else .nd op N ty (rpDs (binderB op) F T 0 l)
noncomputable def rpDs (bi:Bool) (F T:Db):Nat→List Db→List Db
 | _,[]=>[]
 | i,d::l=>rpD (if bi&&i==1 then ren Nat.succ F else F) (if bi&&i==1 then ren Nat.succ T else T) d::rpDs bi F T (i+1) l
end
open Classical in
mutual
noncomputable def ctD (F:Db):Db→Nat
 | .fv s=>if Db.fv s=F then 1 else 0
 | .bv i=>if Db.bv i=F then 1 else 0
 | .nd op N ty l=>if Db.nd op N ty l=F then 1 else ctDs (binderB op) F 0 l
noncomputable def ctDs (bi:Bool) (F:Db):Nat→List Db→Nat
 | _,[]=>0
 | i,d::l=>ctD (if bi&&i==1 then ren Nat.succ F else F) d+ctDs bi F (i+1) l
end
/-! The names that are bound around a place, taken back. -/
def upS (τ:Nat→Db):Nat→Db
 | 0=>.bv 0
 | i+1=>ren Nat.succ (τ i)
mutual
def sb (τ:Nat→Db):Db→Db
 | .fv s=>.fv s
 | .bv i=>τ i
 | .nd op N ty l=>.nd op N ty (sbs (binderB op) τ 0 l)
def sbs (bi:Bool) (τ:Nat→Db):Nat→List Db→List Db
 | _,[]=>[]
 | i,d::l=>sb (if bi&&i==1 then upS τ else τ) d::sbs bi τ (i+1) l
end
theorem sb_ren2:∀ (d:Db) (τ τ':Nat→Db) (r q:Nat→Nat),(∀ i,τ' (r i)=ren q (τ i))→sb τ' (ren r d)=ren q (sb τ d):=by
 intro d
 induction d using Db.rec (motive_2:=fun l=>∀ (bi:Bool) (τ τ':Nat→Db) (r q:Nat→Nat) (i:Nat),(∀ i,τ' (r i)=ren q (τ i))→sbs bi τ' i (rens bi r i l)=rens bi q i (sbs bi τ i l)) with
 | fv s=>intro τ τ' r q h;rfl
 | bv i=>intro τ τ' r q h;rw[ren,sb,sb,h]
 | nd op N ty l ih=>intro τ τ' r q h;rw[ren,sb,sb,ren,ih _ _ _ _ _ _ h]
 | nil=>rfl
 | cons d l ihd ihl=>
  rename_i bi τ τ' r q i h
  rw[rens,sbs,sbs,rens,ihl _ _ _ _ _ _ h]
  congr 1
  cases hb:(bi&&i==1)
  ·simp only[Bool.false_eq_true,if_false];exact ihd _ _ _ _ h
  ·simp only[if_true]
   refine ihd _ _ _ _ (fun j=>?_)
   cases j with
   | zero=>rfl
   | succ j=>
    show ren Nat.succ (τ' (r j))=ren (upR q) (ren Nat.succ (τ j))
    rw[h,ren_ren,ren_ren];rfl
theorem sb_ev:∀ (t:Tm) (τ:Nat→Db) (ρ:ByteArray→Db),sb τ (ev ρ t)=ev (fun s=>sb τ (ρ s)) t:=by
 intro t
 induction t using Tm.rec (motive_2:=fun l=>∀ (bi:Bool) (nm:ByteArray) (τ:Nat→Db) (ρ:ByteArray→Db) (i:Nat),sbs bi τ i (evs bi nm ρ i l)=evs bi nm (fun s=>sb τ (ρ s)) i l) with
 | mk op nm N ty l ih=>
  intro τ ρ
  rw[ev,ev]
  by_cases h:op=20
  ·rw[if_pos h,if_pos h]
  ·rw[if_neg h,if_neg h,sb,ih]
 | nil=>rfl
 | cons t l iht ihl=>
  rename_i bi nm τ ρ i
  rw[evs,evs,sbs,ihl]
  congr 1
  cases hb:(bi&&i==1)
  ·simp only[Bool.false_eq_true,if_false];exact iht _ _
  ·simp only[if_true]
   rw[iht]
   congr 1
   funext s
   unfold upE
   by_cases h:s=nm
   ·rw[if_pos h,if_pos h];rfl
   ·rw[if_neg h,if_neg h]
    exact sb_ren2 _ _ _ _ _ (fun j=>rfl)
theorem idx_get {s:ByteArray}:∀ {X:List ByteArray} {i:Nat},idx s X=some i→X.getD i s=s
 | x::X,i,h=>by
  rw[idx] at h
  split at h
  ·rename_i hx;cases h;exact hx
  ·cases hx:idx s X with
   | none=>rw[hx] at h;cases h
   | some j=>
    rw[hx] at h
    have hj:=idx_get hx
    simp only[Option.map_some,Option.some.injEq] at h
    rw[← h,List.getD_cons_succ];exact hj
theorem idx_none {s:ByteArray}:∀ {X:List ByteArray},idx s X=none↔s ∉ X
 | []=>by simp[idx]
 | x::X=>by
  rw[idx]
  by_cases h:x=s
  ·rw[if_pos h];simp[h]
  ·rw[if_neg h,Option.map_eq_none_iff,idx_none]
   simp[Ne.symm h]
theorem env_back (X:List ByteArray) (t:Tm):sb (fun i=>.fv (X.reverse.getD i ⟨#[]⟩)) (ev (envL X) t)=dbT t:=by
 rw[sb_ev]
 unfold dbT
 congr 1
 funext s
 rw[envL_idx]
 cases h:idx s X.reverse with
 | none=>rfl
 | some i=>
  show Db.fv _=_
  have h1:=idx_get h
  have h2:=idxN_lt h
  rw[List.getD_eq_getElem?_getD,List.getElem?_eq_getElem h2] at h1
  rw[List.getD_eq_getElem?_getD,List.getElem?_eq_getElem h2]
  exact congrArg _ h1
theorem env_inj {X:List ByteArray} {t u:Tm}:ev (envL X) t=ev (envL X) u↔dbT t=dbT u:=
 ⟨fun h=>by rw[← env_back X t,h,env_back],fun h=>ev_alike h _⟩
theorem env_fr (X:List ByteArray) (s x:ByteArray):x∈frD (envL X s)↔x=s∧s ∉ X:=by
 rw[envL_idx]
 cases h:idx s X.reverse with
 | none=>
  have:=idx_none.1 h
  rw[List.mem_reverse] at this
  simp[frD,this]
 | some i=>
  have:¬ s ∉ X.reverse:=fun hn=>by rw[idx_none.2 hn] at h;cases h
  rw[List.mem_reverse,Classical.not_not] at this
  simp[frD,this]
def shN (k:Nat) (d:Db):Db:=ren (fun i=>i+k) d
theorem shN_succ (k:Nat) (d:Db):ren Nat.succ (shN k d)=shN (k+1) d:=by unfold shN;rw[ren_ren];rfl
theorem ren_id:∀ (d:Db) (r:Nat→Nat),(∀ i,r i=i)→ren r d=d:=by
 intro d
 induction d using Db.rec (motive_2:=fun l=>∀ (bi:Bool) (r:Nat→Nat) (i:Nat),(∀ i,r i=i)→rens bi r i l=l) with
 | fv s=>intro r h;rfl
 | bv i=>intro r h;rw[ren,h]
 | nd op N ty l ih=>intro r h;rw[ren,ih _ _ _ h]
 | nil=>rfl
 | cons d l ihd ihl=>
  rename_i bi r i h
  rw[rens,ihl _ _ _ h,ihd]
  intro j
  split
  ·cases j with
   | zero=>rfl
   | succ j=>show r j+1=j+1;rw[h]
  ·exact h j
theorem shN_zero (d:Db):shN 0 d=d:=ren_id d _ (fun _=>rfl)
theorem ev_clear {t:Tm}:∀ (X:List ByteArray),(∀ s,s∈fr t→s ∉ X)→ev (envL X) t=shN X.length (dbT t):=by
 intro X h
 unfold dbT shN
 rw[ren_ev]
 apply ev_cong
 intro s hs
 rw[envL_idx,idx_none.2 (by rw[List.mem_reverse];exact h s hs)]
 rfl
section
variable {fm tu:Tm} (hfm:NW fm)
include hfm
theorem caught_ne {t:Tm} {X:List ByteArray} (ht:NW t) (hX:∃ s,s∈fr fm∧s∈X):ev (envL X) t≠shN X.length (dbT fm):=by
 obtain⟨s,h1,h2⟩:=hX
 intro e
 have h3:s∈frD (shN X.length (dbT fm)):=by unfold shN;rw[frD_ren,fr_db hfm];exact h1
 rw[← e,mem_fr_db t _ _ ht] at h3
 obtain⟨q,_,h4⟩:=h3
 rw[env_fr] at h4
 rw[← h4.1] at h4
 exact h4.2 h2
theorem rp_caught:∀ (t:Tm) (X:List ByteArray) (T:Db),NW t→(∃ s,s∈fr fm∧s∈X)→rpD (shN X.length (dbT fm)) T (ev (envL X) t)=ev (envL X) t∧ctD (shN X.length (dbT fm)) (ev (envL X) t)=0:=by
 intro t
 induction t using Tm.rec (motive_2:=fun l=>∀ (bi:Bool) (nm:ByteArray) (X:List ByteArray) (T:Db) (i:Nat),(∀ t,t∈l→NW t)→(∃ s,s∈fr fm∧s∈X)→rpDs bi (shN X.length (dbT fm)) T i (evs bi nm (envL X) i l)=evs bi nm (envL X) i l∧ctDs bi (shN X.length (dbT fm)) i (evs bi nm (envL X) i l)=0) with
 | mk op nm N ty l ih=>
  intro X T ht hX
  have hne:=caught_ne hfm ht hX
  cases ht with
  | mk ht hl=>
   rw[ev] at hne ⊢
   by_cases h:op=20
   ·rw[if_pos h] at hne ⊢
    rw[envL_idx] at hne ⊢
    cases hx:idx nm X.reverse with
    | none=>rw[hx] at hne;simp only at hne ⊢;rw[rpD,ctD,if_neg hne,if_neg hne];exact⟨rfl,rfl⟩
    | some j=>rw[hx] at hne;simp only at hne ⊢;rw[rpD,ctD,if_neg hne,if_neg hne];exact⟨rfl,rfl⟩
   ·rw[if_neg h] at hne ⊢
    rw[rpD,ctD,if_neg hne,if_neg hne]
    obtain⟨h1,h2⟩:=ih (binderB op) nm X T 0 hl hX
    exact⟨by rw[h1],h2⟩
 | nil=>exact⟨rfl,rfl⟩
 | cons t l iht ihl=>
  rename_i bi nm X T i hl hX
  rw[evs,rpDs,ctDs]
  obtain⟨h1,h2⟩:=ihl bi nm X T (i+1) (fun t ht=>hl t (List.mem_cons_of_mem _ ht)) hX
  rw[h1,h2]
  cases hb:(bi&&i==1)
  ·simp only[Bool.false_eq_true,if_false]
   obtain⟨h3,h4⟩:=iht X T (hl t (by simp)) hX
   rw[h3,h4];exact⟨rfl,rfl⟩
  ·simp only[if_true]
   rw[shN_succ,← envL_snoc]
   obtain⟨s,q1,q2⟩:=hX
   obtain⟨h3,h4⟩:=iht (X++[nm]) (ren Nat.succ T) (hl t (by simp)) ⟨s,q1,List.mem_append_left _ q2⟩
   rw[List.length_append,List.length_singleton] at h3 h4
   rw[h3,h4];exact⟨rfl,rfl⟩
theorem alike_here {t:Tm} {X:List ByteArray} (ht:NW t) (hX:∀ s,s∈fr fm→s ∉ X):alikeT t fm [] []=true↔ev (envL X) t=shN X.length (dbT fm):=by
 rw[← ev_clear X hX,alike_db ht hfm,env_inj]
theorem cnt_db:∀ (t:Tm) (X:List ByteArray),NW t→(∀ s,s∈fr fm→s ∉ X)→cntT fm (fr fm) t=ctD (shN X.length (dbT fm)) (ev (envL X) t):=by
 intro t
 induction t using Tm.rec (motive_2:=fun l=>∀ (bi:Bool) (nm:ByteArray) (X:List ByteArray) (i:Nat),(∀ t,t∈l→NW t)→(∀ s,s∈fr fm→s ∉ X)→cntK fm (fr fm) bi nm i l=ctDs bi (shN X.length (dbT fm)) i (evs bi nm (envL X) i l)) with
 | mk op nm N ty l ih=>
  intro X ht hX
  have ha:=alike_here hfm ht hX
  have hl:∀ t,t∈l→NW t:=by cases ht;assumption
  have h20:op=20→l=[]:=by cases ht with | mk h _=>exact fun e=>(h e).2.2
  rw[cntT]
  rw[ev] at ha ⊢
  by_cases h:op=20
  ·rw[if_pos h] at ha ⊢
   rw[h20 h] at ha ⊢
   rw[envL_idx] at ha ⊢
   cases hx:idx nm X.reverse with
   | none=>
    rw[hx] at ha;simp only at ha ⊢;rw[ctD]
    by_cases hh:alikeT (.mk op nm N ty []) fm [] []=true
    ·rw[if_pos hh,if_pos (ha.1 hh)]
    ·rw[if_neg hh,if_neg (fun e=>hh (ha.2 e))];rfl
   | some j=>
    rw[hx] at ha;simp only at ha ⊢;rw[ctD]
    by_cases hh:alikeT (.mk op nm N ty []) fm [] []=true
    ·rw[if_pos hh,if_pos (ha.1 hh)]
    ·rw[if_neg hh,if_neg (fun e=>hh (ha.2 e))];rfl
  ·rw[if_neg h] at ha ⊢
   rw[ctD]
   by_cases hh:alikeT (.mk op nm N ty l) fm [] []=true
   ·rw[if_pos hh,if_pos (ha.1 hh)]
   ·rw[if_neg hh,if_neg (fun e=>hh (ha.2 e))]
    exact ih (binderB op) nm X 0 hl hX
 | nil=>rfl
 | cons t l iht ihl=>
  rename_i bi nm X i hl hX
  rw[cntK,evs,ctDs,ihl bi nm X (i+1) (fun t ht=>hl t (List.mem_cons_of_mem _ ht)) hX]
  congr 1
  cases hb:(bi&&i==1)
  ·simp only[Bool.false_eq_true,if_false,Bool.false_and]
   exact iht X (hl t (by simp)) hX
  ·simp only[if_true,Bool.true_and]
   rw[shN_succ,← envL_snoc]
   have hlen:(X++[nm]).length=X.length+1:=by simp
   rw[← hlen]
   cases hm:mb nm (fr fm)
   ·simp only[Bool.false_eq_true,if_false]
    refine iht (X++[nm]) (hl t (by simp)) (fun s hs hX2=>?_)
    rcases List.mem_append.1 hX2 with h | h
    ·exact hX s hs h
    ·rw[List.mem_singleton.1 h] at hs
     rw[(mb_iff _ _).2 hs] at hm;cases hm
   ·simp only[if_true]
    exact (rp_caught hfm t (X++[nm]) (.bv 0) (hl t (by simp)) ⟨nm,(mb_iff _ _).1 hm,by simp⟩).2.symm
theorem rp_none:∀ (t:Tm) (X:List ByteArray) (T:Db),NW t→(∀ s,s∈fr fm→s ∉ X)→occT fm (fr fm) t=false→rpD (shN X.length (dbT fm)) T (ev (envL X) t)=ev (envL X) t:=by
 intro t
 induction t using Tm.rec (motive_2:=fun l=>∀ (bi:Bool) (nm:ByteArray) (X:List ByteArray) (T:Db) (i:Nat),(∀ t,t∈l→NW t)→(∀ s,s∈fr fm→s ∉ X)→occK fm (fr fm) bi nm i l=false→rpDs bi (shN X.length (dbT fm)) T i (evs bi nm (envL X) i l)=evs bi nm (envL X) i l) with
 | mk op nm N ty l ih=>
  intro X T ht hX ho
  have ha:=alike_here hfm ht hX
  have hl:∀ t,t∈l→NW t:=by cases ht;assumption
  rw[occT,Bool.or_eq_false_iff] at ho
  have hh:¬ alikeT (.mk op nm N ty l) fm [] []=true:=by rw[ho.1];decide
  rw[ev] at ha ⊢
  by_cases h:op=20
  ·rw[if_pos h] at ha ⊢
   rw[envL_idx] at ha ⊢
   cases hx:idx nm X.reverse with
   | none=>rw[hx] at ha;simp only at ha ⊢;rw[rpD,if_neg (fun e=>hh (ha.2 e))]
   | some j=>rw[hx] at ha;simp only at ha ⊢;rw[rpD,if_neg (fun e=>hh (ha.2 e))]
  ·rw[if_neg h] at ha ⊢
   rw[rpD,if_neg (fun e=>hh (ha.2 e)),ih (binderB op) nm X T 0 hl hX ho.2]
 | nil=>rfl
 | cons t l iht ihl=>
  rename_i bi nm X T i hl hX ho
  rw[occK,Bool.or_eq_false_iff] at ho
  rw[evs,rpDs,ihl bi nm X T (i+1) (fun t ht=>hl t (List.mem_cons_of_mem _ ht)) hX ho.2]
  congr 1
  have ho1:=ho.1
  cases hb:(bi&&i==1)
  ·rw[hb] at ho1
   simp only[Bool.false_eq_true,if_false,Bool.false_and] at ho1 ⊢
   exact iht X T (hl t (by simp)) hX ho1
  ·rw[hb] at ho1
   simp only[if_true,Bool.true_and] at ho1 ⊢
   rw[shN_succ,← envL_snoc]
   have hlen:(X++[nm]).length=X.length+1:=by simp
   rw[← hlen]
   cases hm:mb nm (fr fm)
   ·rw[hm] at ho1
    simp only[Bool.false_eq_true,if_false] at ho1
    refine iht (X++[nm]) _ (hl t (by simp)) (fun s hs hX2=>?_) ho1
    rcases List.mem_append.1 hX2 with h | h
    ·exact hX s hs h
    ·rw[List.mem_singleton.1 h] at hs
     rw[(mb_iff _ _).2 hs] at hm;cases hm
   ·exact (rp_caught hfm t (X++[nm]) _ (hl t (by simp)) ⟨nm,(mb_iff _ _).1 hm,by simp⟩).1
theorem occ_fr:∀ (t:Tm),NW t→occT fm (fr fm) t=true→∀ s,s∈fr fm→s∈fr t:=by
 intro t
 induction t using Tm.rec (motive_2:=fun l=>∀ (bi:Bool) (nm:ByteArray) (i:Nat),(∀ t,t∈l→NW t)→occK fm (fr fm) bi nm i l=true→∀ s,s∈fr fm→s∈frs bi nm i l) with
 | mk op nm N ty l ih=>
  intro ht ho s hs
  rw[occT,Bool.or_eq_true] at ho
  rcases ho with ho | ho
  ·have:=(alike_db ht hfm).1 ho
   rw[← fr_db ht,this,fr_db hfm];exact hs
  ·have hl:∀ t,t∈l→NW t:=by cases ht;assumption
   have h20:op=20→l=[]:=by cases ht with | mk h _=>exact fun e=>(h e).2.2
   rw[fr]
   by_cases h:op=20
   ·rw[h20 h] at ho;cases ho
   ·rw[if_neg h];exact ih _ _ _ hl ho s hs
 | nil=>rename_i ho _ _;cases ho
 | cons t l iht ihl=>
  rename_i bi nm i hl ho s hs
  rw[occK,Bool.or_eq_true] at ho
  rw[frs]
  rcases ho with ho | ho
  ·apply List.mem_append_left
   cases hb:(bi&&i==1)
   ·rw[hb] at ho
    simp only[Bool.false_eq_true,if_false,Bool.false_and] at ho ⊢
    exact iht (hl t (by simp)) ho s hs
   ·rw[hb] at ho
    simp only[if_true,Bool.true_and] at ho ⊢
    cases hm:mb nm (fr fm)
    ·rw[hm] at ho
     simp only[Bool.false_eq_true,if_false] at ho
     refine List.mem_filter.2 ⟨iht (hl t (by simp)) ho s hs,?_⟩
     simp only[Bool.not_eq_true',decide_eq_false_iff_not]
     rintro rfl
     rw[(mb_iff _ _).2 hs] at hm;cases hm
    ·rw[hm] at ho;simp at ho
  ·exact List.mem_append_right _ (ihl bi nm (i+1) (fun t ht=>hl t (List.mem_cons_of_mem _ ht)) ho s hs)
omit hfm in
theorem repK_id {g:Tm→Tm} {skip:Bool}:∀ {ks:List Tm} {i:Nat},(∀ (j:Nat) (t:Tm),ks[j]?=some t→(skip&&(i+j)==1)=false→g t=t)→repK g skip i ks=ks
 | [],i,h=>rfl
 | t::r,i,h=>by
  rw[repK,repK_id (ks:=r) (i:=i+1) (fun j u hj e=>h (j+1) u (by simpa using hj) (by rw[show i+(j+1)=i+1+j by omega];exact e))]
  congr 1
  cases hb:(skip&&i==1)
  ·simp only[Bool.false_eq_true,if_false];exact h 0 t rfl (by rw[Nat.add_zero];exact hb)
  ·rfl
omit hfm in
theorem repK_len (g:Tm→Tm) (skip:Bool):∀ (ks:List Tm) (i:Nat),(repK g skip i ks).length=ks.length
 | [],i=>rfl
 | t::r,i=>by rw[repK,List.length_cons,repK_len g skip r,List.length_cons]
omit hfm in
theorem occK_get {names:List ByteArray} {bi:Bool} {nm:ByteArray}:∀ {ks:List Tm} {i:Nat},occK fm names bi nm i ks=false→∀ (j:Nat) (t:Tm),ks[j]?=some t→(bi&&(i+j)==1&&mb nm names)=false→occT fm names t=false
 | [],i,h,j,t,hj,e=>by simp at hj
 | u::r,i,h,j,t,hj,e=>by
  rw[occK,Bool.or_eq_false_iff] at h
  cases j with
  | zero=>
   simp at hj;subst hj
   have h1:=h.1
   rw[Nat.add_zero] at e
   rw[e] at h1
   simpa using h1
  | succ j=>exact occK_get h.2 j t (by simpa using hj) (by rw[show i+1+j=i+(j+1) by omega];exact e)
omit hfm in
theorem rep_none {used:List ByteArray}:∀ (f:Nat) (t:Tm),OkTm t→occT fm (fr fm) t=false→repF fm tu (fr fm) used f t=t:=by
 intro f
 induction f with
 | zero=>intro t _ _;rfl
 | succ f ih=>
  intro t ht ho
  cases ht with
  | mk hf hn hk=>
   rename_i op nm N ty ks
   rw[occT,Bool.or_eq_false_iff] at ho
   have hh:¬ alikeT (.mk op nm N ty ks) fm [] []=true:=by rw[ho.1];decide
   rw[repF,if_neg hh]
   have hg:=occK_get ho.2
   cases hb:binderB op
   ·simp only[Bool.false_eq_true,if_false]
    rw[repK_id (fun j t hj _=>ih t (hk t (List.mem_of_getElem? hj)) (hg j t hj (by rw[hb];rfl)))]
   ·simp only[if_true]
    have e2:=binder_kids hb (formed_parts hf).1
    match ks,e2 with
    | [d,body],_=>
     cases hm:mb nm (fr fm)
     ·simp only[Bool.false_eq_true,if_false]
      have eg:([d,body]:List Tm).getD 1 (nameT nm)=body:=rfl
      have hbo:occT fm (fr fm) body=false:=hg 1 body rfl (by rw[hm];simp)
      have ez:repZ fm (fr fm) used nm body=nm:=by unfold repZ;rw[hbo];simp
      have eb:repB fm (fr fm) used nm body=body:=by unfold repB;rw[hbo];simp
      rw[eg,ez,eb]
      show Tm.mk op nm N ty (repK _ false 0 [d,body])=_
      rw[repK_id (fun j t hj _=>ih t (hk t (List.mem_of_getElem? hj)) (hg j t hj (by rw[hm];simp)))]
     ·simp only[if_true]
      rw[repK_id (fun j t hj e=>ih t (hk t (List.mem_of_getElem? hj)) (hg j t hj (by rw[hb];rw[show (true&&0+j==1)=false from e];rfl)))]
omit hfm in
theorem rp_nd {op N:Int} {ty:Ty} {l:List Db} {F T:Db} (h:¬ Db.nd op N ty l=F):rpD F T (.nd op N ty l)=.nd op N ty (rpDs (binderB op) F T 0 l):=by rw[rpD,if_neg h]
theorem rep_main (hto:OkTm tu) (hTN:tmN tu≤100000):∀ (f:Nat) (t:Tm) (X:List ByteArray),OkTm t→tmN t≤700000→tmD t≤f→(∀ s,s∈fr fm→s ∉ X)→(∀ s,s∈fr tu→s ∉ X) →
  OkTm (repF fm tu (fr fm) (fr tu) f t)∧ev (envL X) (repF fm tu (fr fm) (fr tu) f t)=rpD (shN X.length (dbT fm)) (shN X.length (dbT tu)) (ev (envL X) t):=by
 intro f
 induction f with
 | zero=>intro t X ht _ hD _ _;cases t;rw[tmD] at hD;omega
 | succ f ih=>
  intro t X ht hM hD hX hX2
  have ha:=alike_here hfm ht.nw hX
  have hnw:=ht.nw
  cases ht with
  | mk hf hn hk=>
   rename_i op nm N ty ks
   rw[tmN] at hM
   rw[tmD] at hD
   rw[repF]
   by_cases hh:alikeT (.mk op nm N ty ks) fm [] []=true
   ·rw[if_pos hh]
    refine⟨hto,?_⟩
    rw[ha.1 hh,ev_clear X hX2]
    cases hF:shN X.length (dbT fm) with
    | fv s=>rw[rpD,if_pos rfl]
    | bv i=>rw[rpD,if_pos rfl]
    | nd a b c d=>rw[rpD,if_pos rfl]
   ·rw[if_neg hh]
    have hne:¬ ev (envL X) (.mk op nm N ty ks)=shN X.length (dbT fm):=fun e=>hh (ha.2 e)
    by_cases h20:op=20
    ·subst h20
     cases hnw with
     | mk h20 _=>
      obtain⟨rfl,rfl,rfl⟩:=h20 rfl
      have e':∀ (A:Tm),(if binderB 20=true then A else Tm.mk 20 nm 0 ty0 (repK (repF fm tu (fr fm) (fr tu) f) false 0 []))=Tm.mk 20 nm 0 ty0 []:=fun A=>rfl
      rw[e']
      refine⟨.mk hf hn hk,?_⟩
      rw[ev,if_pos rfl] at hne ⊢
      rw[envL_idx] at hne ⊢
      cases hx:idx nm X.reverse with
      | none=>rw[hx] at hne;simp only at hne ⊢;rw[rpD,if_neg hne]
      | some j=>rw[hx] at hne;simp only at hne ⊢;rw[rpD,if_neg hne]
    ·rw[ev,if_neg h20] at hne ⊢
     rw[rp_nd hne]
     have hkk:∀ t∈ks,OkTm (repF fm tu (fr fm) (fr tu) f t)∧ev (envL X) (repF fm tu (fr fm) (fr tu) f t)=rpD (shN X.length (dbT fm)) (shN X.length (dbT tu)) (ev (envL X) t):=fun t ht=>ih t X (hk t ht) (by have:=(tmD_kid ht).2;omega) (by have:=(tmD_kid ht).1;omega) hX hX2
     cases hb:binderB op
     ·simp only[Bool.false_eq_true,if_false]
      refine⟨.mk (by rw[repK_len];exact hf) (by rw[repK_len];exact hn) ?_,?_⟩
      ·have:∀ (ks:List Tm) (i:Nat),(∀ t∈ks,OkTm (repF fm tu (fr fm) (fr tu) f t))→∀ u∈repK (repF fm tu (fr fm) (fr tu) f) false i ks,OkTm u:=by
        intro ks
        induction ks with
        | nil=>intro i _ u hu;cases hu
        | cons t r ihr=>
         intro i h u hu
         rw[repK] at hu
         rcases List.mem_cons.1 hu with rfl | hu
         ·exact h t (by simp)
         ·exact ihr (i+1) (fun t ht=>h t (List.mem_cons_of_mem _ ht)) u hu
       exact this ks 0 (fun t ht=>(hkk t ht).1)
      ·rw[ev,if_neg h20,hb]
       congr 1
       have:∀ (ks:List Tm) (i:Nat),(∀ t∈ks,ev (envL X) (repF fm tu (fr fm) (fr tu) f t)=rpD (shN X.length (dbT fm)) (shN X.length (dbT tu)) (ev (envL X) t))→evs false nm (envL X) i (repK (repF fm tu (fr fm) (fr tu) f) false i ks)=rpDs false (shN X.length (dbT fm)) (shN X.length (dbT tu)) i (evs false nm (envL X) i ks):=by
        intro ks
        induction ks with
        | nil=>intro i _;rfl
        | cons t r ihr=>
         intro i h
         rw[repK,evs,evs,rpDs,ihr (i+1) (fun t ht=>h t (List.mem_cons_of_mem _ ht))]
         simp only[Bool.false_and,Bool.false_eq_true,if_false]
         rw[h t (by simp)]
       exact this ks 0 (fun t ht=>(hkk t ht).2)
     ·simp only[if_true]
      have hid:=formed_ident hf hb
      have e2:=binder_kids hb (formed_parts hf).1
      match ks,e2 with
      | [d,body],_=>
       obtain⟨hd1,hd2⟩:=hkk d (by simp)
       have hbo:=hk body (by simp)
       simp only[tmNs] at hM
       simp only[tmDs] at hD
       have eL:∀ (z:ByteArray) (a b:Tm),evs true z (envL X) 0 [a,b]=[ev (envL X) a,ev (envL (X++[z])) b]:=fun z a b=>by rw[envL_snoc];rfl
       have eR:∀ (F T a b:Db),rpDs true F T 0 [a,b]=[rpD F T a,rpD (ren Nat.succ F) (ren Nat.succ T) b]:=fun F T a b=>rfl
       have hlen:∀ z:ByteArray,(X++[z]).length=X.length+1:=fun z=>by simp
       cases hm:mb nm (fr fm)
       ·simp only[Bool.false_eq_true,if_false]
        have eg:([d,body]:List Tm).getD 1 (nameT nm)=body:=rfl
        rw[eg]
        have hnm:nm ∉ fr fm:=fun e=>by rw[(mb_iff _ _).2 e] at hm;cases hm
        have hXn:∀ s,s∈fr fm→s ∉ X++[nm]:=fun s hs e=>by
         rcases List.mem_append.1 e with e | e
         ·exact hX s hs e
         ·rw[List.mem_singleton.1 e] at hs;exact hnm hs
        show OkTm (Tm.mk op _ N ty (repK _ false 0 [d,repB fm (fr fm) (fr tu) nm body]))∧_
        have eK:∀ (g:Tm→Tm) (b:Tm),repK g false 0 [d,b]=[g d,g b]:=fun g b=>rfl
        rw[eK]
        -- three ways
        have main:∀ (z:ByteArray) (b:Tm),identB z=true→OkTm (repF fm tu (fr fm) (fr tu) f b)→ev (envL (X++[z])) (repF fm tu (fr fm) (fr tu) f b)=rpD (shN (X.length+1) (dbT fm)) (shN (X.length+1) (dbT tu)) (ev (envL (X++[nm])) body) →
          OkTm (Tm.mk op z N ty [repF fm tu (fr fm) (fr tu) f d,repF fm tu (fr fm) (fr tu) f b])∧ev (envL X) (Tm.mk op z N ty [repF fm tu (fr fm) (fr tu) f d,repF fm tu (fr fm) (fr tu) f b])=Db.nd op N ty (rpDs true (shN X.length (dbT fm)) (shN X.length (dbT tu)) 0 (evs true nm (envL X) 0 [d,body])):=by
         intro z b hz h1 h2
         refine⟨.mk (formed_name2 hf hb hz) hn (fun u hu=>?_),?_⟩
         ·rcases List.mem_cons.1 hu with rfl | hu
          ·exact hd1
          ·rw[List.mem_singleton.1 hu];exact h1
         ·rw[ev,if_neg h20,hb,eL,eL,eR,shN_succ,shN_succ,hd2,h2]
        cases hu:mb nm (fr tu) with
        | false=>
         have ez:repZ fm (fr fm) (fr tu) nm body=nm:=by unfold repZ;rw[hu];simp
         have eb:repB fm (fr fm) (fr tu) nm body=body:=by unfold repB;rw[hu];simp
         rw[ez,eb]
         have hnt:nm ∉ fr tu:=fun e=>by rw[(mb_iff _ _).2 e] at hu;cases hu
         obtain⟨h1,h2⟩:=ih body (X++[nm]) hbo (by omega) (by omega) hXn (fun s hs e=>by
          rcases List.mem_append.1 e with e | e
          ·exact hX2 s hs e
          ·rw[List.mem_singleton.1 e] at hs;exact hnt hs)
         rw[hlen] at h2
         exact main nm body hid h1 h2
        | true=>
         cases ho:occT fm (fr fm) body with
         | false=>
          have ez:repZ fm (fr fm) (fr tu) nm body=nm:=by unfold repZ;rw[ho];simp
          have eb:repB fm (fr fm) (fr tu) nm body=body:=by unfold repB;rw[ho];simp
          rw[ez,eb]
          have hrn:=rep_none (tu:=tu) (used:=fr tu) f body hbo ho
          have hrp:=rp_none hfm body (X++[nm]) (shN (X.length+1) (dbT tu)) hbo.nw hXn ho
          rw[hlen] at hrp
          refine main nm body hid (by rw[hrn];exact hbo) ?_
          rw[hrn,hrp]
         | true=>
          have ez:repZ fm (fr fm) (fr tu) nm body=freshS nm (fr body++fr tu):=by unfold repZ;rw[hu,ho];rfl
          have eb:repB fm (fr fm) (fr tu) nm body=subT freshS body [(nm,nameT (freshS nm (fr body++fr tu)))]:=by unfold repB;rw[hu,ho,ez];rfl
          rw[ez,eb]
          have hul:(fr body++fr tu).length≤800000:=by
           rw[List.length_append]
           have:=frs_len body
           have:=frs_len tu
           omega
          have hz1:=freshS_ident hid hul
          have hz2:=freshS_good nm _ hul
          generalize freshS nm (fr body++fr tu)=z at *
          rw[mb_app,Bool.or_eq_false_iff] at hz2
          have hzb:∀ s,s∈fr body→s≠nm→s≠z:=fun s hs _ e=>by rw[e] at hs;rw[(mb_iff _ _).2 hs] at hz2;cases hz2.1
          have hsz:=sub1_size hbo (ident_named hz1) hzb (by omega)
          have hso:=sub1_ok (nm:=nm) hbo (ident_named hz1) (by omega)
          have hre:=rename_body (nm:=nm) (z:=z) (body:=body) (by omega) hzb (envL X)
          rw[← envL_snoc,← envL_snoc] at hre
          obtain⟨h1,h2⟩:=ih (subT freshS body [(nm,nameT z)]) (X++[z]) hso (by omega) (by omega) (fun s hs e=>by
           rcases List.mem_append.1 e with e | e
           ·exact hX s hs e
           ·have:=occ_fr hfm body hbo.nw ho s hs
            rw[List.mem_singleton.1 e] at this
            rw[(mb_iff _ _).2 this] at hz2;cases hz2.1) (fun s hs e=>by
           rcases List.mem_append.1 e with e | e
           ·exact hX2 s hs e
           ·rw[List.mem_singleton.1 e] at hs
            rw[(mb_iff _ _).2 hs] at hz2;cases hz2.2)
          rw[hlen,hre] at h2
          exact main z _ hz1 h1 h2
       ·simp only[if_true]
        show OkTm (Tm.mk op nm N ty [repF fm tu (fr fm) (fr tu) f d,body])∧ev (envL X) (Tm.mk op nm N ty [repF fm tu (fr fm) (fr tu) f d,body])=_
        refine⟨.mk hf hn (fun u hu=>?_),?_⟩
        ·rcases List.mem_cons.1 hu with rfl | hu
         ·exact hd1
         ·rw[List.mem_singleton.1 hu];exact hbo
        ·rw[ev,if_neg h20,hb,eL,eL,eR,shN_succ,shN_succ,hd2]
         have:=(rp_caught hfm body (X++[nm]) (shN (X.length+1) (dbT tu)) hbo.nw ⟨nm,(mb_iff _ _).1 hm,by simp⟩).1
         rw[hlen] at this
         rw[this]
theorem rep_db (hto:OkTm tu) (hTN:tmN tu≤100000) {t:Tm} (ht:OkTm t) (hM:tmN t≤700000):
  OkTm (repF fm tu (fr fm) (fr tu) (tmD t) t)∧dbT (repF fm tu (fr fm) (fr tu) (tmD t) t)=rpD (dbT fm) (dbT tu) (dbT t)∧cntT fm (fr fm) t=ctD (dbT fm) (dbT t):=by
 obtain⟨h1,h2⟩:=rep_main hfm hto hTN (tmD t) t [] ht hM (Nat.le_refl _) (fun s _ e=>by cases e) (fun s _ e=>by cases e)
 have h3:=cnt_db hfm t [] ht.nw (fun s _ e=>by cases e)
 rw[show ([]:List ByteArray).length=0 from rfl,shN_zero] at h2 h3
 rw[shN_zero] at h2
 exact⟨h1,h2,h3⟩
end
end Go.Proofs.YtdmebjbkccjhbaaGreatDoor
