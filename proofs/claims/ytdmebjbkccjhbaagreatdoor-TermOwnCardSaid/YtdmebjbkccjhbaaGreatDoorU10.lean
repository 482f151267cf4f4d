/- A part. -/
import Derived.Test.YtdmebjbkccjhbaaGreatDoorU8
import Derived.Lib.Builder
import Derived.Shelf.RegionOpenPlain
import Derived.Deep.RegionHeld
set_option linter.unusedVariables false
set_option linter.unusedSimpArgs false
set_option maxRecDepth 100000
set_option maxHeartbeats 32000000
namespace Go.Proofs.YtdmebjbkccjhbaaGreatDoor
open Go.RowKit
variable {bz:Nat}
mutual
def fS (most deep:Nat):Tm→Nat→Nat→Bool×Nat
 | .mk op nm N ty l,d,c=>
  match (decide (c+1≤most)&&decide (d≤deep))&&formedB op nm N ty l.length with
  | false=>(false,c+1)
  | true=>fsS most deep l (d+1) (c+1)
def fsS (most deep:Nat):List Tm→Nat→Nat→Bool×Nat
 | [],_,c=>(true,c)
 | t::l,d,c=>
  match fS most deep t d c with
  | (true,c')=>fsS most deep l d c'
  | (false,c')=>(false,c')
end
def TmC (bz:Nat) (m most deep:Nat) (t:Tm):Prop:=∀ (w:World) (c d:Nat) (tk kk:Value),Blk w m 119 (mcells c most deep)→c≤most→d≤deep+1→TyL bz (fun k=>k≠m) w t.ty.kids tk→TmL bz (fun k=>k≠m) w t.kids kk →
 Calls Tryz.prog 87 #[.pointer (some ⟨m,0,none⟩),tmVal t tk kk,.int .i64 d] w (FPost m most deep (fS most deep t d c) w)
theorem f_eq (most deep:Nat) (op:Int) (nm:ByteArray) (N:Int) (ty:Ty) (l:List Tm) (d:Nat) (c:Nat):fS most deep (.mk op nm N ty l) d c=if ((decide (c+1≤most)&&decide (d≤deep))&&formedB op nm N ty l.length)=true then fsS most deep l (d+1) (c+1) else (false,c+1):=by
 rw[fS]
 cases (decide (c+1≤most)&&decide (d≤deep))&&formedB op nm N ty l.length <;> rfl
theorem f_le (most deep:Nat):∀ (t:Tm) (d:Nat) (c:Nat),c≤most→(fS most deep t d c).1=true→c+1≤(fS most deep t d c).2∧(fS most deep t d c).2≤most:=by
 intro t
 induction t using Tm.rec (motive_2:=fun l=>∀ (d c:Nat),c≤most→(fsS most deep l d c).1=true→c≤(fsS most deep l d c).2∧(fsS most deep l d c).2≤most) with
 | mk op nm N ty l ih=>
  intro d c hc h
  rw[f_eq] at h ⊢
  split at h
  ·rename_i hb
   rw[if_pos hb]
   have:c+1≤most:=by simp at hb;exact hb.1.1
   exact ih _ _ this h
  ·cases h
 | nil=>rename_i d c hc h;exact⟨Nat.le_refl _,hc⟩
 | cons t l iht ihl=>
  rename_i d c hc h
  rw[fsS] at h ⊢
  cases hr:fS most deep t d c with
  | mk b c'=>
   cases b
   ·rw[hr] at h;cases h
   ·rw[hr] at h
    have a:=iht d c hc (by rw[hr])
    rw[hr] at a
    have:=ihl d c' a.2 h
    exact⟨Nat.le_trans (Nat.le_trans (Nat.le_succ _) a.1) this.1,this.2⟩
theorem f1_any {m most deep d c M D:Nat} {t:Tm} {a:Option Addr} {n cp:Nat} {ma:Option Addr} {mn mc:Nat} {w:World} (hT:TmC bz m most deep t) (hb:Blk w m 119 (mcells c most deep)) (hc:c≤most) (hd:d≤deep) (hdp:deep≤1000)
  (hM:w.cell? ⟨M,0,none⟩=some (.pointer (some ⟨m,0,none⟩))) (hD:w.cell? ⟨D,0,none⟩=some (.int .i64 d)) (hk:TyL bz (fun k=>k≠m) w t.ty.kids (.slice a n cp)) (hm:TmL bz (fun k=>k≠m) w t.kids (.slice ma mn mc)):
  Calls Tryz.prog 141 #[tmVal t (.slice a n cp) (.slice ma mn mc),.pointer (some ⟨M,0,none⟩),.pointer (some ⟨D,0,none⟩)] w (FPost m most deep (!(fS most deep t (d+1) c).1,(fS most deep t (d+1) c).2) w):=by
 unfold tmVal
 have HT:=Ld hT
 clear hT
 have hb1:=hb.alloc (.cells #[.int .i64 t.op,.string t.name,.int .i64 t.n,.int .i64 t.ty.kind,.string t.ty.name,.slice a n cp,.slice ma mn mc] 27)
 have hk1:=hk.frame (Same.alloc w (.cells #[.int .i64 t.op,.string t.name,.int .i64 t.n,.int .i64 t.ty.kind,.string t.ty.name,.slice a n cp,.slice ma mn mc] 27))
 have hm1:=hm.frame (Same.alloc w (.cells #[.int .i64 t.op,.string t.name,.int .i64 t.n,.int .i64 t.ty.kind,.string t.ty.name,.slice a n cp,.slice ma mn mc] 27))
 have lM:=cell_lt hM
 have lD:=cell_lt hD
 have nM:M≠w.heap.size:=by omega
 have nD:D≠w.heap.size:=by omega
 go_enter Tryz.func141,Tryz.ntmps141
 go_wp2_with fail
 refine (HT.out _ c (d+1) _ _ hb1 hc (by omega) hk1 hm1).mono ?_
 rintro e w' ⟨rfl,h1,h2⟩
 go_wp2_with fail
 go_ret
 exact⟨rfl,h1,(kR.alloc _).trans h2⟩
theorem fs_step {most deep d c:Nat} {l:List Tm} {k:Nat} (h:k<l.length):fsS most deep (l.drop k) d c=(if (fS most deep l[k] d c).1=true then fsS most deep (l.drop (k+1)) d (fS most deep l[k] d c).2 else (false,(fS most deep l[k] d c).2)):=by
 rw[drop_cons l k h,fsS]
 cases fS most deep l[k] d c with
 | mk b c'=>cases b <;> rfl
theorem idxTm_any {m most deep d c M D:Nat} {l:List Tm} {a:Option Addr} {n cp:Nat} {w:World} (hT:∀ t,t∈l→TmC bz m most deep t) (hb:Blk w m 119 (mcells c most deep)) (hc:c≤most) (hmo:most≤100000) (hd:d≤deep) (hdp:deep≤1000) (hMm:M≠m) (hDm:D≠m)
  (hM:w.cell? ⟨M,0,none⟩=some (.pointer (some ⟨m,0,none⟩))) (hD:w.cell? ⟨D,0,none⟩=some (.int .i64 d)) (hk:TmL bz (fun k=>k≠m) w l (.slice a n cp)):
  Calls Tryz.prog 150 #[.slice a n cp,.func (.func 141) #[] #[.pointer (some ⟨M,0,none⟩),.pointer (some ⟨D,0,none⟩)]] w fun e w'=>∃ i:Int,e=.returned (.int .i64 i)∧decide (0≤i)=!(fsS most deep l (d+1) c).1∧Blk w' m 119 (mcells (fsS most deep l (d+1) c).2 most deep)∧Kept (·=m) w w':=by
 have HT:=Ld hT
 clear hT
 have hn:=hk.len
 subst hn
 cases hk with
 | nil he=>
  have hz:Hid (fsS most deep ([]:List Tm) (d+1) c=(true,c)):=Ld (by rw[fsS])
  go_enter Tryz.func150,Tryz.ntmps150
  go_wp2_with fail
  go_loop [8] (fun i=>i=.int .i64 0) (fun i=>0)
  case atStart=>rfl
  case round=>
   subst hrel
   go_wp2_with fail
   go_ret
   exact⟨-1,rfl,by rw[hz.out];rfl,by rw[hz.out];exact hb,Kept.refl _ _⟩
 | mk K MM hne hok hcap hcell hkk hmm hs2=>
  rename_i g off
  have HC:=Ld hcell
  have HK:=Ld hkk
  have HMM:=Ld hmm
  clear hcell hkk hmm
  have LM:=Ld (cell_lt hM)
  have LD:=Ld (cell_lt hD)
  go_enter Tryz.func150,Tryz.ntmps150
  go_wp2_with fail
  go_loopw [8] (fun i wr=>∃ k ck:Nat,k≤l.length∧i=.int .i64 k∧k≤ck∧ck≤most∧Blk wr m 119 (mcells ck most deep)∧Kept (·=m) w wr∧Hid (fsS most deep l (d+1) c=fsS most deep (l.drop k) (d+1) ck)) (fun i _=>l.length-(intOf i).toNat)
  case atStart=>exact⟨0,c,Nat.zero_le _,rfl,Nat.zero_le _,hc,hb,Kept.refl _ _,Ld rfl⟩
  case round=>
   obtain⟨k,ck,hkl,rfl,hkc,hcm,hbr,hkr,heq⟩:=hrel
   by_cases hlt:k<l.length
   ·have c0:=(Same.of_kept (ok:=fun k=>k≠m) hkr (fun k h e=>h e)).cell hok (HC.out k hlt).1
    have c1:=(Same.of_kept (ok:=fun k=>k≠m) hkr (fun k h e=>h e)).cell hok (HC.out k hlt).2.1
    have c2:=(Same.of_kept (ok:=fun k=>k≠m) hkr (fun k h e=>h e)).cell hok (HC.out k hlt).2.2.1
    have c3:=(Same.of_kept (ok:=fun k=>k≠m) hkr (fun k h e=>h e)).cell hok (HC.out k hlt).2.2.2.1
    have c4:=(Same.of_kept (ok:=fun k=>k≠m) hkr (fun k h e=>h e)).cell hok (HC.out k hlt).2.2.2.2.1
    have c5:=(Same.of_kept (ok:=fun k=>k≠m) hkr (fun k h e=>h e)).cell hok (HC.out k hlt).2.2.2.2.2.1
    have c6:=(Same.of_kept (ok:=fun k=>k≠m) hkr (fun k h e=>h e)).cell hok (HC.out k hlt).2.2.2.2.2.2
    have i1:(k:Int)<(l.length:Int):=by omega
    have i2:(k:Int)<1000000:=by omega
    obtain⟨ta,tn,tc,hK⟩:=(HK.out k hlt).slice
    have hkk:=(HK.out k hlt).frame (Same.of_kept (ok:=fun k=>k≠m) hkr (fun k h e=>h e))
    rw[hK] at c5 hkk
    obtain⟨ua,un,uc,hU⟩:=(HMM.out k hlt).slice
    have hmm:=(HMM.out k hlt).frame (Same.of_kept (ok:=fun k=>k≠m) hkr (fun k h e=>h e))
    rw[hU] at c6 hmm
    have hM':wr.cell? ⟨M,0,none⟩=some (.pointer (some ⟨m,0,none⟩)):=by rw[hkr.cell (p:=⟨M,0,none⟩) LM.out hMm];exact hM
    have hD':wr.cell? ⟨D,0,none⟩=some (.int .i64 d):=by rw[hkr.cell (p:=⟨D,0,none⟩) LD.out hDm];exact hD
    have hst:=Ld (fs_step (most:=most) (deep:=deep) (d:=d+1) (c:=ck) hlt)
    have hle:=Ld (f_le most deep l[k] (d+1) ck hcm)
    have hcon:=Ld (f1_any (HT.out _ (List.getElem_mem hlt)) hbr hcm hd hdp hM' hD' hkk hmm)
    clear hkk hmm hM' hD'
    cases hr:(fS most deep l[k] (d+1) ck).1
    ·go_wp2_with (go_at_call 141;refine hcon.out.mono ?_;rintro e w' ⟨rfl,h1,h2⟩)
     go_ret
     have q:=heq.out.trans hst.out
     rw[hr,if_neg (by simp)] at q
     exact⟨k,rfl,by rw[q];simp,by rw[q];exact h1,hkr.trans h2⟩
    ·go_wp2_with (go_at_call 141;refine hcon.out.mono ?_;rintro e w' ⟨rfl,h1,h2⟩)
     go_roundw
     case rel=>
      have q:=heq.out.trans hst.out
      rw[hr,if_pos rfl] at q
      have z:=hle.out hr
      exact⟨k+1,_,by omega,by go_num,by omega,z.2,h1,hkr.trans h2,Ld q⟩
     case measure=>simp[intOf];omega
   ·have hz:Hid (fsS most deep l (d+1) c=(true,ck)):=Ld (by rw[heq.out,List.drop_eq_nil_of_le (by omega),fsS])
    go_wp2_with fail
    go_ret
    exact⟨-1,rfl,by rw[hz.out];rfl,by rw[hz.out];exact hbr,hkr⟩
theorem contTm_any {m most deep d c M D:Nat} {l:List Tm} {a:Option Addr} {n cp:Nat} {w:World} (hT:∀ t,t∈l→TmC bz m most deep t) (hb:Blk w m 119 (mcells c most deep)) (hc:c≤most) (hmo:most≤100000) (hd:d≤deep) (hdp:deep≤1000) (hMm:M≠m) (hDm:D≠m)
  (hM:w.cell? ⟨M,0,none⟩=some (.pointer (some ⟨m,0,none⟩))) (hD:w.cell? ⟨D,0,none⟩=some (.int .i64 d)) (hk:TmL bz (fun k=>k≠m) w l (.slice a n cp)):
  Calls Tryz.prog 102 #[.slice a n cp,.func (.func 141) #[] #[.pointer (some ⟨M,0,none⟩),.pointer (some ⟨D,0,none⟩)]] w fun e w'=>e=.returned (.bool (!(fsS most deep l (d+1) c).1))∧Blk w' m 119 (mcells (fsS most deep l (d+1) c).2 most deep)∧Kept (·=m) w w':=by
 have hcon:=Ld (idxTm_any hT hb hc hmo hd hdp hMm hDm hM hD hk)
 clear hT hM hD hk
 go_enter Tryz.func102,Tryz.ntmps102
 go_wp2_with fail
 refine hcon.out.mono ?_
 rintro e w' ⟨i,rfl,hi,h1,h2⟩
 go_wp2_with fail
 go_ret
 exact⟨rfl,h1,h2⟩
theorem fits_one {m most deep:Nat} {op:Int} {nm:ByteArray} {N:Int} {ty:Ty} {l:List Tm} (hmo:most≤100000) (hdp:deep≤1000) (hsz:nm.size≤9223372036854775807) (hst:SmTy big ty) (IH:∀ t,t∈l→TmC bz m most deep t):TmC bz m most deep (.mk op nm N ty l):=by
 intro w c d tk kk hb hc hd hk hm
 obtain⟨a,n,cp,rfl⟩:=hk.slice
 obtain⟨ma,mn,mc,rfl⟩:=hm.slice
 have hn:=hm.len
 unfold tmVal
 have hk':TyL bz (fun k=>k≠m) w ty.kids (.slice a n cp):=hk
 have hm':TmL bz (fun k=>k≠m) w l (.slice ma mn mc):=hm
 clear hk hm
 simp only[Tm.op,Tm.name,Tm.n,Tm.ty,Tm.kids] at hn ⊢
 have hmf:∀ (fn:Fn) (first cap:Array Value) (w:World),(Instr.makeFunc fn first cap).run Tryz.prog w=.ok (.func fn first cap) w:=fun _ _ _ _=>rfl
 have HIH:=Ld IH
 clear IH
 have hml:=hb.lt
 have HQ:=Ld (f_eq most deep op nm N ty l d c)
 have HN:=Ld hn
 clear hn
 have hb3:=((hb.alloc (.cells #[.pointer (some ⟨m,0,none⟩)] 159)).alloc (.cells #[.int .i64 op,.string nm,.int .i64 N,.int .i64 ty.kind,.string ty.name,.slice a n cp,.slice ma mn mc] 27)).alloc (.cells #[.int .i64 d] 3)
 have K3:Kept (·=m) w (((w.alloc (.cells #[.pointer (some ⟨m,0,none⟩)] 159)).alloc (.cells #[.int .i64 op,.string nm,.int .i64 N,.int .i64 ty.kind,.string ty.name,.slice a n cp,.slice ma mn mc] 27)).alloc (.cells #[.int .i64 d] 3)):=((kR.alloc _).alloc _).alloc _
 have b0:Blk (((w.alloc (.cells #[.pointer (some ⟨m,0,none⟩)] 159)).alloc (.cells #[.int .i64 op,.string nm,.int .i64 N,.int .i64 ty.kind,.string ty.name,.slice a n cp,.slice ma mn mc] 27)).alloc (.cells #[.int .i64 d] 3)) w.heap.size 159 [.pointer (some ⟨m,0,none⟩)]:=((Blk.new w 159 _).alloc _).alloc _
 have b1:Blk (((w.alloc (.cells #[.pointer (some ⟨m,0,none⟩)] 159)).alloc (.cells #[.int .i64 op,.string nm,.int .i64 N,.int .i64 ty.kind,.string ty.name,.slice a n cp,.slice ma mn mc] 27)).alloc (.cells #[.int .i64 d] 3)) (w.heap.size+1) 27 [.int .i64 op,.string nm,.int .i64 N,.int .i64 ty.kind,.string ty.name,.slice a n cp,.slice ma mn mc]:=(Blk.new' 27 _ (by simp)).alloc _
 have b2:Blk (((w.alloc (.cells #[.pointer (some ⟨m,0,none⟩)] 159)).alloc (.cells #[.int .i64 op,.string nm,.int .i64 N,.int .i64 ty.kind,.string ty.name,.slice a n cp,.slice ma mn mc] 27)).alloc (.cells #[.int .i64 d] 3)) (w.heap.size+2) 3 [.int .i64 d]:=Blk.new' 3 _ (by simp)
 cases hv:(decide (c+1≤most)&&decide (d≤deep))
 ·have hq:Hid (fS most deep (.mk op nm N ty l) d c=(false,c+1)):=Ld (by rw[HQ.out,hv];rfl)
  go_enter Tryz.func87,Tryz.ntmps87
  go_wp2_with fail
  refine (enter_any hb3 (by omega) hv).mono ?_
  rintro e W ⟨rfl,hbW,hkW⟩
  go_wp2_with fail
  go_ret
  exact⟨by rw[hq.out];rfl,by rw[hq.out];exact hbW,K3.trans hkW⟩
 have hd1:d≤deep:=by simp at hv;exact hv.2
 have hc1:c+1≤most:=by simp at hv;exact hv.1
 have HD1:=Ld hd1
 have HC1:=Ld hc1
 clear hd1 hc1
 go_enter Tryz.func87,Tryz.ntmps87
 go_wp2_with fail
 refine (enter_any hb3 (by omega) hv).mono ?_
 rintro e W ⟨rfl,hbW,hkW⟩
 have B0:=b0.kept hkW (by show ¬ w.heap.size=m;omega)
 have B1:=b1.kept hkW (by show ¬ w.heap.size+1=m;omega)
 have B2:=b2.kept hkW (by show ¬ w.heap.size+2=m;omega)
 have g0:W.cell? ⟨w.heap.size+1,0,none⟩=some (.int .i64 op):=B1.cell 0
 have g1:W.cell? ⟨w.heap.size+1,1,none⟩=some (.string nm):=B1.cell 1
 have g2:W.cell? ⟨w.heap.size+1,2,none⟩=some (.int .i64 N):=B1.cell 2
 have g3:W.cell? ⟨w.heap.size+1,3,none⟩=some (.int .i64 ty.kind):=B1.cell 3
 have g4:W.cell? ⟨w.heap.size+1,4,none⟩=some (.string ty.name):=B1.cell 4
 have g5:W.cell? ⟨w.heap.size+1,5,none⟩=some (.slice a n cp):=B1.cell 5
 have g6:W.cell? ⟨w.heap.size+1,6,none⟩=some (.slice ma mn mc):=B1.cell 6
 have KW:=K3.trans hkW
 have hkl:TyL bz (fun k=>k≠m) W ty.kids (.slice a n cp):=hk'.frame (Same.of_kept KW (fun k h e=>h e))
 have hmlW:TmL bz (fun k=>k≠m) W l (.slice ma mn mc):=hm'.frame (Same.of_kept KW (fun k h e=>h e))
 have HF:=Ld (formed_any (ma:=ma) (mn:=mn) (mc:=mc) (N:=N) hkl hst hsz op)
 have lW:=hbW.lt
 have LB:=Ld B2.lt
 go_wp2_with fail
 refine HF.out.mono ?_
 rintro e W2 ⟨rfl,hk2⟩
 have hbW2:=hbW.kept hk2 (fun h=>h)
 have KW2:Kept (·=m) w W2:=KW.via hk2 (fun _ _ h=>h.elim)
 cases hB:formedB op nm N ty mn
 ·have hq:Hid (fS most deep (.mk op nm N ty l) d c=(false,c+1)):=Ld (by rw[HQ.out,hv,← HN.out,hB];rfl)
  go_wp2_with fail
  go_ret
  exact⟨by rw[hq.out];rfl,by rw[hq.out];exact hbW2,KW2⟩
 ·have hq:Hid (fS most deep (.mk op nm N ty l) d c=fsS most deep l (d+1) (c+1)):=Ld (by rw[HQ.out,hv,← HN.out,hB];rfl)
  have p0:W2.cell? ⟨w.heap.size,0,none⟩=some (.pointer (some ⟨m,0,none⟩)):=(B0.kept hk2 (fun h=>h)).cell 0
  have dd:W2.cell? ⟨w.heap.size+2,0,none⟩=some (.int .i64 d):=(B2.kept hk2 (fun h=>h)).cell 0
  have y6:W2.cell? ⟨w.heap.size+1,6,none⟩=some (.slice ma mn mc):=(B1.kept hk2 (fun h=>h)).cell 6
  have HCO:=Ld (contTm_any HIH.out hbW2 HC1.out hmo HD1.out hdp (by omega) (by omega) p0 dd (hmlW.frame (Same.of_kept hk2 (fun k h e=>e))))
  go_wp2_with fail
  refine HCO.out.mono ?_
  rintro e w' ⟨rfl,h1,h2⟩
  go_wp2_with fail
  go_ret
  exact⟨by rw[hq.out];simp,by rw[hq.out];exact h1,KW2.trans h2⟩
theorem fits_any {m most deep:Nat} {t:Tm} (hmo:most≤100000) (hdp:deep≤1000) (h:SmTm big t):TmC bz m most deep t:=by
 induction h with
 | mk hn ht hl ih=>exact fits_one hmo hdp hn ht ih
def validB (t:Tm):Bool:=(fS 2000 64 t 1 0).1
theorem valid_any {ok:Nat→Prop} {w:World} {t:Tm} {a:Option Addr} {n c:Nat} {ma:Option Addr} {mn mc:Nat} (hk:TyL bz ok w t.ty.kids (.slice a n c)) (hm:TmL bz ok w t.kids (.slice ma mn mc)) (hs:SmTm big t):
  Calls Tryz.prog 40 #[.agg #[.int .i64 t.op,.string t.name,.int .i64 t.n,.int .i64 t.ty.kind,.string t.ty.name,.slice a n c,.slice ma mn mc]] w fun e w'=>e=.returned (.bool (validB t))∧Kept (fun _=>False) w w':=by
 have hC:=Ld (fits_any (bz:=bz) (m:=w.heap.size+1) (most:=2000) (deep:=64) (t:=t) (by decide) (by decide) hs)
 have hb:Blk ((w.alloc (.cells #[.int .i64 t.op,.string t.name,.int .i64 t.n,.int .i64 t.ty.kind,.string t.ty.name,.slice a n c,.slice ma mn mc] 27)).alloc (.cells #[.int .i64 0,.int .i64 2000,.int .i64 64] 119)) (w.heap.size+1) 119 (mcells 0 2000 64):=Blk.new' 119 _ (by simp)
 have hk3:TyL bz (fun k=>k≠w.heap.size+1) ((w.alloc (.cells #[.int .i64 t.op,.string t.name,.int .i64 t.n,.int .i64 t.ty.kind,.string t.ty.name,.slice a n c,.slice ma mn mc] 27)).alloc (.cells #[.int .i64 0,.int .i64 2000,.int .i64 64] 119)) t.ty.kids (.slice a n c):=
  ((hk.mono (ok':=fun k=>k≠w.heap.size+1) (fun k h _=>by omega)).frame (Same.alloc w _)).frame (Same.alloc _ _)
 have hm3:TmL bz (fun k=>k≠w.heap.size+1) ((w.alloc (.cells #[.int .i64 t.op,.string t.name,.int .i64 t.n,.int .i64 t.ty.kind,.string t.ty.name,.slice a n c,.slice ma mn mc] 27)).alloc (.cells #[.int .i64 0,.int .i64 2000,.int .i64 64] 119)) t.kids (.slice ma mn mc):=
  ((hm.mono (ok':=fun k=>k≠w.heap.size+1) (fun k h _=>by omega)).frame (Same.alloc w _)).frame (Same.alloc _ _)
 have K2:Kept (fun _=>False) w ((w.alloc (.cells #[.int .i64 t.op,.string t.name,.int .i64 t.n,.int .i64 t.ty.kind,.string t.ty.name,.slice a n c,.slice ma mn mc] 27)).alloc (.cells #[.int .i64 0,.int .i64 2000,.int .i64 64] 119)):=(kR.alloc _).alloc _
 go_enter Tryz.func40,Tryz.ntmps40
 go_wp2_with fail
 refine (hC.out _ 0 1 _ _ hb (by decide) (by decide) hk3 hm3).mono ?_
 rintro e w' ⟨rfl,h1,h2⟩
 go_wp2_with fail
 go_ret
 exact⟨rfl,K2.via h2 (fun x hx e=>by have:=e;omega)⟩
theorem SmTy.mono {N N':Nat} (h:N≤N') {t:Ty} (ht:SmTy N t):SmTy N' t:=by
 induction ht with
 | mk hn hl ih=>exact .mk (Nat.le_trans hn h) ih
theorem SmTm.mono {N N':Nat} (h:N≤N') {t:Tm} (ht:SmTm N t):SmTm N' t:=by
 induction ht with
 | mk hn ht hl ih=>exact .mk (Nat.le_trans hn h) (ht.mono h) ih
theorem tf_bd (most deep:Nat) (hmo:most≤1000000):∀ (t:Ty) (d:Nat) (wi:Bool) (c:Nat),c≤most→(tfS most deep t d wi c).1=true→BdTy t:=by
 intro t
 induction t using Ty.rec (motive_2:=fun l=>∀ (d c:Nat),c≤most→(tfsS most deep l d c).1=true→c+l.length≤(tfsS most deep l d c).2∧(tfsS most deep l d c).2≤most∧∀ t,t∈l→BdTy t) with
 | mk k nm l ih=>
  intro d wi c hc h
  rw[tf_eq] at h
  split at h
  ·rename_i hb
   have:c+1≤most:=by simp at hb;exact hb.1.1
   have q:=ih _ _ this h
   exact .mk (by omega) q.2.2
  ·cases h
 | nil=>rename_i d c hc h;exact⟨Nat.le_refl _,hc,fun t h=>by cases h⟩
 | cons t l iht ihl=>
  rename_i d c hc h
  rw[tfsS] at h ⊢
  cases hr:tfS most deep t d true c with
  | mk b c'=>
   cases b
   ·rw[hr] at h;cases h
   ·rw[hr] at h
    have a:=tf_le most deep t d true c hc (by rw[hr])
    rw[hr] at a
    have q:=ihl d c' a.2 h
    have p:=iht d true c hc (by rw[hr])
    simp only at a q ⊢
    refine⟨by rw[List.length_cons];omega,q.2.1,fun t' h'=>?_⟩
    rcases List.mem_cons.1 h' with rfl | h'
    ·exact p
    ·exact q.2.2 t' h'
theorem validTy_bd {t:Ty} (h:validTyB t=true):BdTy t:=tf_bd 16 6 (by decide) t 1 false 0 (by decide) h
theorem zeroTy_bd {t:Ty} (h:zeroTyB t=true):BdTy t:=by
 unfold zeroTyB at h
 obtain⟨k,nm,l⟩:=t
 cases l with
 | nil=>exact .mk (Nat.zero_le _) (fun t h=>by cases h)
 | cons a l=>simp[Ty.kids] at h
theorem formed_bd {op:Int} {nm:ByteArray} {N:Int} {ty:Ty} {n:Nat} (h:formedB op nm N ty n=true):BdTy ty:=by
 unfold formedB at h
 simp only[Bool.and_eq_true] at h
 have:=h.2.2
 unfold tyOk at this
 split at this
 ·simp only[Bool.and_eq_true] at this;exact validTy_bd this.2
 ·exact zeroTy_bd this
theorem f_bd (most deep:Nat) (hmo:most≤1000000):∀ (t:Tm) (d:Nat) (c:Nat),c≤most→(fS most deep t d c).1=true→BdTm t:=by
 intro t
 induction t using Tm.rec (motive_2:=fun l=>∀ (d c:Nat),c≤most→(fsS most deep l d c).1=true→c+l.length≤(fsS most deep l d c).2∧(fsS most deep l d c).2≤most∧∀ t,t∈l→BdTm t) with
 | mk op nm N ty l ih=>
  intro d c hc h
  rw[f_eq] at h
  split at h
  ·rename_i hb
   have hb':=hb
   simp only[Bool.and_eq_true,decide_eq_true_eq] at hb'
   have q:=ih _ _ hb'.1.1 h
   exact .mk (by omega) (formed_bd hb'.2) q.2.2
  ·cases h
 | nil=>rename_i d c hc h;exact⟨Nat.le_refl _,hc,fun t h=>by cases h⟩
 | cons t l iht ihl=>
  rename_i d c hc h
  rw[fsS] at h ⊢
  cases hr:fS most deep t d c with
  | mk b c'=>
   cases b
   ·rw[hr] at h;cases h
   ·rw[hr] at h
    have a:=f_le most deep t d c hc (by rw[hr])
    rw[hr] at a
    have q:=ihl d c' a.2 h
    have p:=iht d c hc (by rw[hr])
    simp only at a q ⊢
    refine⟨by rw[List.length_cons];omega,q.2.1,fun t' h'=>?_⟩
    rcases List.mem_cons.1 h' with rfl | h'
    ·exact p
    ·exact q.2.2 t' h'
theorem valid_bd {t:Tm} (h:validB t=true):BdTm t:=f_bd 2000 64 (by decide) t 1 0 (by decide) h
def tm0:Tm:=.mk 0 nil0 0 ty0 []
theorem sz69:(Tryz.prog.info? 105).map (·.size)=some 2:=by kernel_rfl
theorem lies71:liesAt Tryz.prog Tryz.prog.depth 107 (2 / Tryz.prog.cellsOf 107) 0 105 1=true:=by kernel_rfl
theorem info5:(Tryz.prog.info? 5).map (fun i=>(i.zero,i.size,i.bytes))=some (some (.int .u8 0),1,1):=by kernel_rfl
theorem cells5:Tryz.prog.cellsOf 5=1:=by kernel_rfl
theorem cc_used (b:Nat) (w:World) (h0:w.cell? ⟨b,0,none⟩=some (.pointer (some ⟨b,0,none⟩))):
  Calls Tryz.prog 172 #[.pointer (some ⟨b,0,none⟩)] w fun e w'=>e=.returned (.tuple #[])∧w=w':=by
 obtain⟨j,hj,_⟩:=Option.map_eq_some_iff.1 sz69
 have hne:=fun W=>Lib.run_neq_ptr_same W ⟨b,0,none⟩ Tryz.underlying102 hj
 go_enter Tryz.func172,Tryz.ntmps172
 go_wp2_with fail
 go_end0
 exact⟨rfl,rfl⟩
theorem cc_fresh (b:Nat) (w:World) (h0:w.cell? ⟨b,0,none⟩=some (.pointer none)) (hsh:w.shape? b=some (107,2)) (hfz:w.frozen? ⟨b,0,none⟩=false):
  Calls Tryz.prog 172 #[.pointer (some ⟨b,0,none⟩)] w fun e w'=>e=.returned (.tuple #[])∧w'=w.setCell ⟨b,0,none⟩ (.pointer (some ⟨b,0,none⟩)):=by
 obtain⟨j,hj,hjs⟩:=Option.map_eq_some_iff.1 sz69
 go_enter Tryz.func172,Tryz.ntmps172
 go_wp2
 rw[Lib.run_to_unsafe w ⟨b,0,none⟩ Tryz.underlying102 Tryz.underlying213 hj (by rw[hjs];decide) hsh (Nat.zero_lt_succ 1)]
 simp only[Result.andThen]
 rw[Oper.upon_value]
 go_wp2
 rw[run_callFunc_extern Tryz.func206 (by kernel_rfl) (by kernel_rfl) (by kernel_rfl) (e:=Extern.AbiNoEscape.same) (by kernel_rfl)]
 rw[Lib.run_noEscape]
 simp only[Result.andThen]
 rw[Oper.upon_value]
 go_wp2
 rw[Lib.run_from_unsafe w ⟨b,0,none⟩ Tryz.underlying213 Tryz.underlying102 hj hsh lies71]
 simp only[Result.andThen]
 rw[Oper.upon_value]
 go_wp2
 go_end0
 exact⟨rfl,rfl⟩
def SB (b B:Nat) (w:World) (k:Nat):Prop:=k=b∨(B≤k∧∃ cur,w.heap[k]?=some (.cells cur 5 (0,0)))
def KB (b B:Nat) (w w':World):Prop:=Kept (SB b B w) w w'
theorem KB.refl (b B:Nat) (w:World):KB b B w w:=Kept.refl _ _
theorem KB.trans {b B:Nat} {w w' w'':World} (h:KB b B w w') (k:KB b B w' w''):KB b B w w'':=
 ⟨k.os.trans h.os,k.tape.trans h.tape,k.output.trans h.output,Nat.le_trans h.size k.size,fun i hi hs=>by
  have e:=h.block i hi hs
  rw[k.block i (Nat.lt_of_lt_of_le hi h.size) (fun hS=>hs (by
   rcases hS with rfl | ⟨hB,cur,hc⟩
   ·exact Or.inl rfl
   ·exact Or.inr ⟨hB,cur,by rw[← e];exact hc⟩)),e]⟩
theorem KB.of_kept {b B:Nat} {w w':World} (h:Kept (fun _=>False) w w'):KB b B w w':=h.mono (fun _ _ h=>h.elim)
theorem KB.alloc {b B:Nat} {w w':World} (h:KB b B w w') (o:Obj):KB b B w (w'.alloc o):=Kept.alloc h o
theorem KB.drew {b B:Nat} {w w':World} (h:KB b B w w'):KB b B w w'.drew:=Kept.drew h
theorem Blk.kb {b B x:Nat} {t:TypeId} {l:List Value} {w w':World} (h:Blk w x t l) (k:KB b B w w') (hx:x≠b) (ht:t≠5):Blk w' x t l:=h.kept k (by
 rintro (rfl | ⟨_,cur,hc⟩)
 ·exact hx rfl
 ·rw[show w.heap[x]?=_ from h] at hc
  cases hc
  exact ht rfl)
theorem Same.kb {b B:Nat} {w w':World} (k:KB b B w w') (hb:B≤b):Same (fun q=>q<B) w w':=Same.of_kept k (fun q h e=>by
 rcases e with rfl | ⟨hB,_⟩
 ·omega
 ·omega)
abbrev Bu (B b:Nat) (l:List UInt8) (w:World):Prop:=Lib.IsBuilder 107 5 B b (Lib.byteCells l) w
theorem Bu.lt {B b:Nat} {l:List UInt8} {w:World} (h:Bu B b l w):b<w.heap.size:=by rcases h with h | h <;> exact h.lt
theorem Bu.le {B b:Nat} {l:List UInt8} {w:World} (h:Bu B b l w):B≤b:=by rcases h with h | h <;> exact h.1
def BuP (B b:Nat) (l:List UInt8) (w w':World):Prop:=Bu B b l w'∧KB b B w w'
theorem cc_any {B b:Nat} {bs:List Value} {w:World} (h:Lib.IsBuilder 107 5 B b bs w):
  Calls Tryz.prog 172 #[.pointer (some ⟨b,0,none⟩)] w fun e w'=>e=.returned (.tuple #[])∧(Lib.BuilderAt 107 5 B b (.pointer (some ⟨b,0,none⟩)) bs w'∧KB b B w w'):=by
 rcases h with h | h
 ·refine (cc_fresh b w h.cell0 h.shape h.frozen0).mono ?_
  rintro e w' ⟨rfl,rfl⟩
  exact⟨rfl,h.used _,(Kept.refl (SB b B w) w).setCell (p:=⟨b,0,none⟩) (Or.inl (Or.inl rfl)) _⟩
 ·refine (cc_used b w h.cell0).mono ?_
  rintro e w' ⟨rfl,rfl⟩
  exact⟨rfl,h,KB.refl _ _ _⟩
theorem own_sb {B b:Nat} {v:Value} {n:Nat} {xs:List Value} {w:World} (h:w.ownsRow B 5 1 v n xs):∀ k,v.ownBlock=some k→SB b B w k:=by
 intro k hk
 rcases h.2 with ⟨rfl,_⟩ | ⟨g,cap,cur,rfl,hg,hh,_⟩
 ·cases hk
 ·cases hk;exact Or.inr ⟨hg,cur,hh⟩
theorem wb_any {B b:Nat} {l:List UInt8} {w:World} (c:UInt8) {ci:Int} (hc:ci=c.toNat) (h:Bu B b l w) (hlen:l.length≤1000000000) (hBw:B≤w.heap.size):
  Calls Tryz.prog 127 #[.pointer (some ⟨b,0,none⟩),.int .u8 ci] w fun e w'=>e=.returned .nilIface∧BuP B b (l++[c]) w w':=by
 have HCI:=Ld hc
 clear hc
 obtain⟨i0,hi,hz0,hz1,hz2⟩:∃ i,Tryz.prog.info? 5=some i∧i.zero=some (.int .u8 0)∧i.size=1∧i.bytes=1:=by
  have:=info5
  cases hh:Tryz.prog.info? 5 with
  | none=>rw[hh] at this;cases this
  | some i=>rw[hh] at this;simp only[Option.map_some,Option.some.injEq,Prod.mk.injEq] at this;exact⟨i,rfl,this.1,this.2.1,this.2.2⟩
 have HI:=Ld hi
 have HZ:=Ld hz0
 have HS:=Ld hz1
 have HY:=Ld hz2
 clear hi hz0 hz1 hz2
 go_enter Tryz.func127,Tryz.ntmps127
 go_wp2_with (go_at_call 172;refine (cc_any h).mono ?_)
 rintro e w1 ⟨rfl,h1,hb1⟩
 obtain⟨hB,v,hbk,hown,hne⟩:=h1
 have c0:w1.cell? ⟨b,0,none⟩=some (.pointer (some ⟨b,0,none⟩)):=by rw[Lib.cell_of_heap hbk];rfl
 have c1:w1.cell? ⟨b,1,none⟩=some v:=by rw[Lib.cell_of_heap hbk];rfl
 have hsz:=hb1.size
 rw[Lib.byteCells_length] at hown
 have HOWN:=Ld hown
 have HBK:=Ld hbk
 clear hown hbk
 go_wp2_with (at_builtin;refine wpList_append_own _ rfl _ _ 103 rfl B 5 i0 (.int .u8 0) 1 1 Tryz.underlying103 HI.out HZ.out HS.out HY.out rfl (by decide) _ _ _ rfl (HOWN.out.alloc _) ⟨w1.heap.size,0,none⟩ 1 1 [.int .u8 ci] rfl rfl ?c1 ?c2 ?c3 ?c4 ?c5 ?_)
 case c1=>
  intro j u hj
  match j,hj with
  | 0,hj=>simp at hj;subst hj;simp[Addr.add]
 case c2=>intro u hu;simp at hu;subst hu;rfl
 case c3=>unfold maxLen;omega
 case c4=>omega
 case c5=>simp;omega
 intro v' w2 hown' hgrow _
 have hbk:=HBK.out
 have hlt:b<w1.heap.size:=by
  rcases Nat.lt_or_ge b w1.heap.size with h' | h'
  ·exact h'
  ·simp[Array.getElem?_eq_none h'] at hbk
 have hb2:w2.heap[b]?=some (.cells #[.pointer (some ⟨b,0,none⟩),v] 107 (0,0)):=by
  rw[hgrow.block b (by simp;omega) (fun e=>hne e.symm),Lib.alloc_old w1 _ b hlt]
  exact hbk
 have d0:w2.cell? ⟨b,0,none⟩=some (.pointer (some ⟨b,0,none⟩)):=by rw[Lib.cell_of_heap hb2];rfl
 have d1:w2.cell? ⟨b,1,none⟩=some v:=by rw[Lib.cell_of_heap hb2];rfl
 have f1:w2.frozen? ⟨b,1,none⟩=false:=Lib.frozen_of_heap hb2 1
 obtain⟨g,cap,rfl⟩:∃ g cap,v'=.slice (some ⟨g,0,none⟩) (l.length+1) cap:=by
  rcases hown'.2 with ⟨_,h0⟩ | ⟨g,cap,cur,hv,_⟩
  ·omega
  ·exact⟨g,cap,hv⟩
 have HO':=Ld hown'
 have KG:KB b B w1 w2:=((Kept.refl (SB b B w1) w1).alloc _).via (kept_grown hgrow) (fun x hx hk=>own_sb HOWN.out x hk)
 have HG:=Ld KG
 have HB2:=Ld hb2
 have HB1:=Ld hb1
 clear hown' KG hb2 hgrow hbk hb1
 go_wp2_with fail
 go_ret
 refine⟨rfl,Or.inr ?_,?_⟩
 ·refine Lib.BuilderAt.put (T:=107) (e:=5) hB HB2.out (bs':=Lib.byteCells (l++[c])) ?_ (by decide)
  have:=HO'.out
  rw[HCI.out] at this
  simpa [Lib.byteCells] using this
 ·exact HB1.out.trans ((Kept.setCell HG.out (p:=⟨b,1,none⟩) (Or.inl (Or.inl rfl)) _))
theorem ws_any {B b:Nat} {l:List UInt8} {w:World} (s:ByteArray) (h:Bu B b l w) (hlen:l.length+s.size≤1000000000) (hBw:B≤w.heap.size):
  Calls Tryz.prog 125 #[.pointer (some ⟨b,0,none⟩),.string s] w fun e w'=>e=.returned (.tuple #[.int .i64 s.size,.nilIface])∧BuP B b (l++s.data.toList) w w':=by
 obtain⟨i0,hi,hz0,hz1,hz2⟩:∃ i,Tryz.prog.info? 5=some i∧i.zero=some (.int .u8 0)∧i.size=1∧i.bytes=1:=by
  have:=info5
  cases hh:Tryz.prog.info? 5 with
  | none=>rw[hh] at this;cases this
  | some i=>rw[hh] at this;simp only[Option.map_some,Option.some.injEq,Prod.mk.injEq] at this;exact⟨i,rfl,this.1,this.2.1,this.2.2⟩
 have HI:=Ld hi
 have HZ:=Ld hz0
 have HS:=Ld hz1
 have HY:=Ld hz2
 clear hi hz0 hz1 hz2
 go_enter Tryz.func125,Tryz.ntmps125
 go_wp2_with (go_at_call 172;refine (cc_any h).mono ?_)
 rintro e w1 ⟨rfl,h1,hb1⟩
 obtain⟨hB,v,hbk,hown,hne⟩:=h1
 have c0:w1.cell? ⟨b,0,none⟩=some (.pointer (some ⟨b,0,none⟩)):=by rw[Lib.cell_of_heap hbk];rfl
 have c1:w1.cell? ⟨b,1,none⟩=some v:=by rw[Lib.cell_of_heap hbk];rfl
 have hsz:=hb1.size
 rw[Lib.byteCells_length] at hown
 have HOWN:=Ld hown
 have HBK:=Ld hbk
 clear hown hbk
 go_wp2_with (at_builtin;refine Lib.wpList_append_own_string _ rfl _ _ 103 9 rfl B 5 i0 Tryz.underlying103 Tryz.underlying9 HI.out HZ.out HS.out HY.out _ _ _ rfl HOWN.out s rfl ?c3 ?c4 ?c5 ?_)
 case c3=>unfold maxLen;omega
 case c4=>omega
 case c5=>omega
 intro v' w2 hown' hgrow _
 have hbk:=HBK.out
 have hlt:b<w1.heap.size:=by
  rcases Nat.lt_or_ge b w1.heap.size with h' | h'
  ·exact h'
  ·simp[Array.getElem?_eq_none h'] at hbk
 have hb2:w2.heap[b]?=some (.cells #[.pointer (some ⟨b,0,none⟩),v] 107 (0,0)):=by
  rw[hgrow.block b hlt (fun e=>hne e.symm)]
  exact hbk
 have d0:w2.cell? ⟨b,0,none⟩=some (.pointer (some ⟨b,0,none⟩)):=by rw[Lib.cell_of_heap hb2];rfl
 have d1:w2.cell? ⟨b,1,none⟩=some v:=by rw[Lib.cell_of_heap hb2];rfl
 have f1:w2.frozen? ⟨b,1,none⟩=false:=Lib.frozen_of_heap hb2 1
 obtain⟨ao,n',cap,rfl⟩:∃ ao n' cap,v'=.slice ao n' cap:=by
  rcases hown'.2 with ⟨hv,_⟩ | ⟨g,cap,cur,hv,_⟩
  ·exact⟨_,_,_,hv⟩
  ·exact⟨_,_,_,hv⟩
 have HO':=Ld hown'
 have KG:KB b B w1 w2:=(Kept.refl (SB b B w1) w1).via (kept_grown hgrow) (fun x hx hk=>own_sb HOWN.out x hk)
 have HG:=Ld KG
 have HB2:=Ld hb2
 have HB1:=Ld hb1
 clear hown' KG hb2 hgrow hbk hb1
 go_wp2_with fail
 go_ret2
 refine⟨rfl,Or.inr ?_,?_⟩
 ·refine Lib.BuilderAt.put (T:=107) (e:=5) hB HB2.out (bs':=Lib.byteCells (l++s.data.toList)) ?_ (by decide)
  have e1:Lib.byteCells (l++s.data.toList)=Lib.byteCells l++Lib.strCells s:=by unfold Lib.byteCells Lib.strCells;rw[List.map_append]
  rw[e1,List.length_append,Lib.byteCells_length,Lib.strCells_length]
  exact HO'.out
 ·exact HB1.out.trans ((Kept.setCell HG.out (p:=⟨b,1,none⟩) (Or.inl (Or.inl rfl)) _))
theorem bstr_any {B b:Nat} {l:List UInt8} {w:World} (h:Bu B b l w) (h0:l≠[]):
  Calls Tryz.prog 78 #[.pointer (some ⟨b,0,none⟩)] w fun e w'=>e=.returned (.string ⟨l.toArray⟩)∧Below B w w':=by
 obtain⟨p,hB,v,hbk,hown,hne⟩:∃ p,Lib.BuilderAt 107 5 B b p (Lib.byteCells l) w:=by
  rcases h with h | h
  ·exact⟨_,h⟩
  ·exact⟨_,h⟩
 have hl0:l.length≠0:=by simpa using h0
 rw[Lib.byteCells_length] at hown
 obtain⟨g,cap,cur,rfl,hbg,hg,hnc,hcm,hcs,htake⟩:∃ g cap cur,v=.slice (some ⟨g,0,none⟩) l.length cap∧B≤g∧w.heap[g]?=some (.cells cur 5 (0,0))∧l.length≤cap∧cap≤maxLen∧cur.size=cap*1∧cur.toList.take (l.length*1)=Lib.byteCells l:=by
  rcases hown.2 with ⟨_,hz⟩ | ⟨g,cap,cur,hv,r⟩
  ·exact absurd hz hl0
  ·exact⟨g,cap,cur,hv,r⟩
 have c1:w.drew.cell? ⟨b,1,none⟩=some (.slice (some ⟨g,0,none⟩) l.length cap):=by
  have:w.drew.heap[b]?=some (.cells #[p,.slice (some ⟨g,0,none⟩) l.length cap] 107 (0,0)):=hbk
  rw[Lib.cell_of_heap this];rfl
 have hSD:(Builtin.unsafeSliceData_ #[103] 153 #[.slice (some ⟨g,0,none⟩) l.length cap]).run Tryz.prog w.drew=.ok (.pointer (some ⟨g,0,none⟩)) w.drew:=
  Lib.run_unsafeSliceData_row _ _ _ _ _ _ (by omega)
 have hUS:(Builtin.unsafeString_ #[153,3] 9 #[.pointer (some ⟨g,0,none⟩),.int .i64 l.length]).run Tryz.prog w.drew=.ok (.string ⟨l.toArray⟩) (w.drew.freeze ⟨g,0,none⟩ l.length):=by
  refine Lib.run_unsafeString_row w.drew 153 3 9 5 Tryz.underlying153 cells5 g cur.size (by have hg':w.drew.heap[g]?=some (.cells cur 5 (0,0)):=hg;simp[World.shape?,hg']) l h0 (by omega) (by unfold maxLen at hcm;omega) ?_
  intro j x hx
  have:=hown.cells (g:=g) rfl j (.int .u8 x.toNat) (by simp[Lib.byteCells,hx])
  exact this
 have mixed:Tryz.prog.follows .mixedOrders=true:=by kernel_rfl
 go_enter Tryz.func78,Tryz.ntmps78
 go_wp2
 go_region_o
 all_goals (go_wp2;go_ret;exact⟨rfl,Lib.below_freeze (Below.drew (Below.refl B w)) (p:=⟨g,0,none⟩) hbg _⟩)
def RowOk (w W:World) (A:Array Value) (n:Nat):Prop:=∃ vs vo,(∀ W',(Instr.index 182 (.agg A) (.int .i64 n)).run Tryz.prog W'=.ok (.agg #[.int .i64 (lvGroup n),vs,vo]) W') ∧
 ((lvOps n=[]∧vs=.slice none 0 0∧vo=.slice none 0 0)∨∃ g g',vs=.slice (some ⟨g,0,none⟩) (lvSigns n).length (lvSigns n).length∧vo=.slice (some ⟨g',0,none⟩) (lvOps n).length (lvOps n).length∧Blk W g 9 ((lvSigns n).map Value.string)∧Blk W g' 3 ((lvOps n).map (Value.int .i64)))
def lvW (w:World):World:=(lvObjs.foldl World.alloc w).setCells w.heap.size 0 (lvGo lvTab (w.heap.size+1))
def lvA (w:World):Array Value:=(lvGo lvTab (w.heap.size+1)).toArray
theorem lvrow_0 (w:World):RowOk w (lvW w) (lvA w) 0:=⟨_,_,fun _=>by kernel_rfl,Or.inl ⟨rfl,rfl,rfl⟩⟩
theorem lvrow_1 (w:World):RowOk w (lvW w) (lvA w) 1:=⟨.slice (some ⟨w.heap.size+(0+1),0,none⟩) (lvSigns 1).length (lvSigns 1).length,.slice (some ⟨w.heap.size+(1+1),0,none⟩) (lvOps 1).length (lvOps 1).length,fun _=>by kernel_rfl,Or.inr ⟨_,_,rfl,rfl,lv_new w 0 9 _ rfl,lv_new w 1 3 _ rfl⟩⟩
theorem lvrow_2 (w:World):RowOk w (lvW w) (lvA w) 2:=⟨.slice (some ⟨w.heap.size+(2+1),0,none⟩) (lvSigns 2).length (lvSigns 2).length,.slice (some ⟨w.heap.size+(3+1),0,none⟩) (lvOps 2).length (lvOps 2).length,fun _=>by kernel_rfl,Or.inr ⟨_,_,rfl,rfl,lv_new w 2 9 _ rfl,lv_new w 3 3 _ rfl⟩⟩
theorem lvrow_3 (w:World):RowOk w (lvW w) (lvA w) 3:=⟨.slice (some ⟨w.heap.size+(4+1),0,none⟩) (lvSigns 3).length (lvSigns 3).length,.slice (some ⟨w.heap.size+(5+1),0,none⟩) (lvOps 3).length (lvOps 3).length,fun _=>by kernel_rfl,Or.inr ⟨_,_,rfl,rfl,lv_new w 4 9 _ rfl,lv_new w 5 3 _ rfl⟩⟩
theorem lvrow_4 (w:World):RowOk w (lvW w) (lvA w) 4:=⟨.slice (some ⟨w.heap.size+(6+1),0,none⟩) (lvSigns 4).length (lvSigns 4).length,.slice (some ⟨w.heap.size+(7+1),0,none⟩) (lvOps 4).length (lvOps 4).length,fun _=>by kernel_rfl,Or.inr ⟨_,_,rfl,rfl,lv_new w 6 9 _ rfl,lv_new w 7 3 _ rfl⟩⟩
theorem lvrow_5 (w:World):RowOk w (lvW w) (lvA w) 5:=⟨_,_,fun _=>by kernel_rfl,Or.inl ⟨rfl,rfl,rfl⟩⟩
theorem lvrow_6 (w:World):RowOk w (lvW w) (lvA w) 6:=⟨.slice (some ⟨w.heap.size+(8+1),0,none⟩) (lvSigns 6).length (lvSigns 6).length,.slice (some ⟨w.heap.size+(9+1),0,none⟩) (lvOps 6).length (lvOps 6).length,fun _=>by kernel_rfl,Or.inr ⟨_,_,rfl,rfl,lv_new w 8 9 _ rfl,lv_new w 9 3 _ rfl⟩⟩
theorem lvrow_7 (w:World):RowOk w (lvW w) (lvA w) 7:=⟨.slice (some ⟨w.heap.size+(10+1),0,none⟩) (lvSigns 7).length (lvSigns 7).length,.slice (some ⟨w.heap.size+(11+1),0,none⟩) (lvOps 7).length (lvOps 7).length,fun _=>by kernel_rfl,Or.inr ⟨_,_,rfl,rfl,lv_new w 10 9 _ rfl,lv_new w 11 3 _ rfl⟩⟩
theorem lvrow_8 (w:World):RowOk w (lvW w) (lvA w) 8:=⟨.slice (some ⟨w.heap.size+(12+1),0,none⟩) (lvSigns 8).length (lvSigns 8).length,.slice (some ⟨w.heap.size+(13+1),0,none⟩) (lvOps 8).length (lvOps 8).length,fun _=>by kernel_rfl,Or.inr ⟨_,_,rfl,rfl,lv_new w 12 9 _ rfl,lv_new w 13 3 _ rfl⟩⟩
theorem lvrow_9 (w:World):RowOk w (lvW w) (lvA w) 9:=⟨.slice (some ⟨w.heap.size+(14+1),0,none⟩) (lvSigns 9).length (lvSigns 9).length,.slice (some ⟨w.heap.size+(15+1),0,none⟩) (lvOps 9).length (lvOps 9).length,fun _=>by kernel_rfl,Or.inr ⟨_,_,rfl,rfl,lv_new w 14 9 _ rfl,lv_new w 15 3 _ rfl⟩⟩
theorem lvrow_10 (w:World):RowOk w (lvW w) (lvA w) 10:=⟨.slice (some ⟨w.heap.size+(16+1),0,none⟩) (lvSigns 10).length (lvSigns 10).length,.slice (some ⟨w.heap.size+(17+1),0,none⟩) (lvOps 10).length (lvOps 10).length,fun _=>by kernel_rfl,Or.inr ⟨_,_,rfl,rfl,lv_new w 16 9 _ rfl,lv_new w 17 3 _ rfl⟩⟩
theorem lvrow_11 (w:World):RowOk w (lvW w) (lvA w) 11:=⟨.slice (some ⟨w.heap.size+(18+1),0,none⟩) (lvSigns 11).length (lvSigns 11).length,.slice (some ⟨w.heap.size+(19+1),0,none⟩) (lvOps 11).length (lvOps 11).length,fun _=>by kernel_rfl,Or.inr ⟨_,_,rfl,rfl,lv_new w 18 9 _ rfl,lv_new w 19 3 _ rfl⟩⟩
theorem lvrow_12 (w:World):RowOk w (lvW w) (lvA w) 12:=⟨.slice (some ⟨w.heap.size+(20+1),0,none⟩) (lvSigns 12).length (lvSigns 12).length,.slice (some ⟨w.heap.size+(21+1),0,none⟩) (lvOps 12).length (lvOps 12).length,fun _=>by kernel_rfl,Or.inr ⟨_,_,rfl,rfl,lv_new w 20 9 _ rfl,lv_new w 21 3 _ rfl⟩⟩
theorem lvrow_any (w:World) (n:Nat) (h:n<13):RowOk w (lvW w) (lvA w) n:=by
 rcases (show n=0∨n=1∨n=2∨n=3∨n=4∨n=5∨n=6∨n=7∨n=8∨n=9∨n=10∨n=11∨n=12 by omega) with rfl | rfl | rfl | rfl | rfl | rfl | rfl | rfl | rfl | rfl | rfl | rfl | rfl
 ·exact lvrow_0 w
 ·exact lvrow_1 w
 ·exact lvrow_2 w
 ·exact lvrow_3 w
 ·exact lvrow_4 w
 ·exact lvrow_5 w
 ·exact lvrow_6 w
 ·exact lvrow_7 w
 ·exact lvrow_8 w
 ·exact lvrow_9 w
 ·exact lvrow_10 w
 ·exact lvrow_11 w
 ·exact lvrow_12 w
theorem levels_w (w:World):Calls Tryz.prog 168 #[] w fun e w'=>e=.returned (.agg (lvA w))∧w'=lvW w:=levels_any w
theorem lvW_kept (w:World):Kept (fun _=>False) w (lvW w):=Kept.of_below (lv_below w)
theorem idx_from (x:Int):∀ (zs:List Int) (i:Nat),Lib.idxFrom zs x i=-1∨∃ m,m<zs.length∧Lib.idxFrom zs x i=((i+m:Nat):Int)
 | [],i=>Or.inl rfl
 | z::zs,i=>by
  by_cases h:z=x
  ·exact Or.inr ⟨0,by simp,by simp[Lib.idxFrom,h]⟩
  ·rcases idx_from x zs (i+1) with h' | ⟨m,hm,h'⟩
   ·left;simp[Lib.idxFrom,h,h']
   ·right;exact⟨m+1,by simp;omega,by simp only[Lib.idxFrom,h,if_false,h'];congr 1;omega⟩
theorem idx_lt (zs:List Int) (x:Int) (h:0≤Lib.idxOf zs x):∃ m,m<zs.length∧Lib.idxOf zs x=(m:Int):=by
 rcases idx_from x zs 0 with h' | ⟨m,hm,h'⟩
 ·unfold Lib.idxOf at h;rw[h'] at h;exact absurd h (by decide)
 ·exact⟨m,hm,by unfold Lib.idxOf;rw[h',Nat.zero_add]⟩
def binG (op:Int):List Nat→ByteArray
 | []=>⟨#[]⟩
 | n::r=>if 0≤Lib.idxOf (lvOps n) op then (lvSigns n).getD (Lib.idxOf (lvOps n) op).toNat ⟨#[]⟩ else binG op r
def binS (op:Int):ByteArray:=binG op (List.range 13)
theorem lv_lens' (n:Nat) (h:n<13):(lvSigns n).length=(lvOps n).length∧(lvOps n).length≤1000:=by
 rcases (show n=0∨n=1∨n=2∨n=3∨n=4∨n=5∨n=6∨n=7∨n=8∨n=9∨n=10∨n=11∨n=12 by omega) with rfl | rfl | rfl | rfl | rfl | rfl | rfl | rfl | rfl | rfl | rfl | rfl | rfl <;> decide
theorem binary_any (op:Int) (w:World):Calls Tryz.prog 123 #[.int .i64 op] w fun e w'=>e=.returned (.string (binS op))∧Kept (fun _=>False) w w':=by
 go_enter Tryz.func123,Tryz.ntmps123
 go_wp2_with (go_at_call 168;refine (levels_w w).mono ?_;rintro e w' ⟨rfl,rfl⟩)
 have HR:=Ld (lvrow_any w)
 have HKW:=Ld (lvW_kept w)
 generalize lvA w=A at *
 generalize lvW w=W at *
 go_loopw [7] (fun i wr=>∃ k:Nat,k≤13∧i=.int .i64 k∧Hid (binS op=binG op ((List.range 13).drop k))∧Hid (Kept (fun _=>False) W wr)) (fun i _=>13-(intOf i).toNat)
 case atStart=>exact⟨0,Nat.zero_le _,rfl,Ld rfl,Ld kR⟩
 case round=>
  obtain⟨k,hk,rfl,hq,hkr⟩:=hrel
  by_cases hlt:k<13
  ·have i1:(k:Int)<13:=by omega
   have hdrop:Hid ((List.range 13).drop k=k::(List.range 13).drop (k+1)):=Ld (by
    rw[drop_cons (List.range 13) k (by simpa using hlt)];simp)
   have hl:=lv_lens' k hlt
   obtain⟨vs,vo,hidx,hrow⟩:=HR.out k hlt
   rcases hrow with ⟨he,rfl,rfl⟩ | ⟨g,g',rfl,rfl,bg,bg'⟩
   ·have hq':Hid (binS op=binG op ((List.range 13).drop (k+1))):=Ld (by rw[hq.out,hdrop.out,binG,he,if_neg (by rw[Lib.idxOf_nonneg_iff];simp)])
    have hi:=Ld (Tryz.slices_Index_int_empty none 0 op)
    have HX:=Ld hidx
    clear he hl
    go_wp2_with (go_at_call 170;refine (hi.out _).mono ?_;rintro e w' ⟨rfl,rfl⟩)
    go_roundw
    case rel=>exact⟨k+1,by omega,by go_num,hq',Ld (hkr.out.alloc _)⟩
    case measure=>simp[intOf];omega
   ·have bgr:=bg.kept hkr.out (fun h=>h)
    have bgr':=bg'.kept hkr.out (fun h=>h)
    have HX:=Ld hidx
    have hl2:=hl.2
    have HL:=Ld hl
    have hcon:Hid (∀ o:Obj,Calls Tryz.prog 170 #[.slice (some ⟨g',0,none⟩) (lvOps k).length (lvOps k).length,.int .i64 op] (wr.alloc o) fun e w'=>e=.returned (.int .i64 (Lib.idxOf (lvOps k) op))∧wr.alloc o=w'):=Ld (by
     intro o
     refine (Tryz.slices_Index_int g' 0 _ _ (lvOps k) op _ (Nat.le_refl _) (by omega) (fun j hj=>?_)).mono fun e w' ⟨h1,h2⟩=>⟨by rw[h1,List.take_length],h2.symm⟩
     rw[Nat.zero_add,(bgr'.alloc o).cell j,List.getElem?_map,List.getElem?_eq_getElem hj,List.getD_eq_getElem?_getD,List.getElem?_eq_getElem hj];rfl)
    by_cases hge:0≤Lib.idxOf (lvOps k) op
    ·obtain⟨m,hm,hmi⟩:=idx_lt _ _ hge
     have hq':Hid (binS op=(lvSigns k).getD m ⟨#[]⟩):=Ld (by rw[hq.out,hdrop.out,binG,if_pos hge,hmi];rfl)
     have hms:m<(lvSigns k).length:=by have:=HL.out.1;omega
     have cg:wr.cell? ⟨g,m,none⟩=some (.string ((lvSigns k).getD m ⟨#[]⟩)):=by
      rw[bgr.cell m,List.getElem?_map,List.getElem?_eq_getElem hms,List.getD_eq_getElem?_getD,List.getElem?_eq_getElem hms];rfl
     have lg:=bgr.lt
     have ng:g≠wr.heap.size:=by omega
     have i2:(m:Int)<((lvSigns k).length:Int):=by omega
     clear hge
     go_wp2_with (go_at_call 170;refine (hcon.out _).mono ?_;rintro e w' ⟨rfl,rfl⟩)
     go_ret
     exact⟨by rw[hq'.out,List.getD_eq_getElem?_getD,List.getElem?_eq_getElem hms];rfl,HKW.out.trans (hkr.out.alloc _)⟩
    ·have hq':Hid (binS op=binG op ((List.range 13).drop (k+1))):=Ld (by rw[hq.out,hdrop.out,binG,if_neg hge])
     have hd:decide (0≤Lib.idxOf (lvOps k) op)=false:=by simp;omega
     clear hge
     go_wp2_with (go_at_call 170;refine (hcon.out _).mono ?_;rintro e w' ⟨rfl,rfl⟩)
     go_roundw
     case rel=>exact⟨k+1,by omega,by go_num,hq',Ld (hkr.out.alloc _)⟩
     case measure=>simp[intOf];omega
  ·have hz:Hid (binS op=⟨#[]⟩):=Ld (by rw[hq.out,List.drop_eq_nil_of_le (by simp;omega),binG])
   go_wp2_with fail
   go_ret
   exact⟨by rw[hz.out];rfl,HKW.out.trans hkr.out⟩
def keyT:List ByteArray:=[⟨#[]⟩,⟨#[116,114,117,101]⟩,⟨#[102,97,108,115,101]⟩,⟨#[]⟩,⟨#[]⟩,⟨#[]⟩,⟨#[]⟩,⟨#[]⟩,⟨#[102,111,114,97,108,108,32]⟩,⟨#[101,120,105,115,116,115,32]⟩,⟨#[]⟩,⟨#[]⟩,⟨#[]⟩,⟨#[]⟩,⟨#[]⟩,⟨#[]⟩,⟨#[]⟩,⟨#[]⟩,⟨#[]⟩,⟨#[]⟩,⟨#[]⟩,⟨#[]⟩,⟨#[]⟩,⟨#[]⟩,⟨#[]⟩,⟨#[]⟩,⟨#[]⟩,⟨#[]⟩,⟨#[]⟩,⟨#[]⟩,⟨#[]⟩,⟨#[]⟩,⟨#[]⟩,⟨#[]⟩,⟨#[]⟩,⟨#[]⟩,⟨#[]⟩,⟨#[]⟩,⟨#[]⟩,⟨#[]⟩,⟨#[]⟩,⟨#[]⟩,⟨#[]⟩,⟨#[]⟩,⟨#[]⟩,⟨#[]⟩,⟨#[80,79,87]⟩,⟨#[99,97,114,100]⟩,⟨#[109,105,110]⟩,⟨#[109,97,120]⟩,⟨#[100,111,109]⟩,⟨#[114,97,110]⟩,⟨#[]⟩,⟨#[]⟩,⟨#[]⟩,⟨#[]⟩,⟨#[102,117,110,32]⟩]
def keyS (op:Int):ByteArray:=if op<57 then keyT.getD op.toNat ⟨#[]⟩ else ⟨#[]⟩
def keyA:List Value:=keyT.map Value.string
theorem wpList_build {P:Program} {w:World} {ops:Array Oper} {rest:List Oper} {o:Oper} {a:Act} {Q:Exit→Act→World→Prop} (hgd:o.guard=none) (t:TypeId) (parts:Array (Nat×Operand)) (ho:o.op=.build t parts) {v:Value}
  (hr:(Instr.build t (parts.map fun (i,x)=>(i,a.eval x))).run P w=.ok v w) (h:wpList P ops Q rest (a.put o.dst v) w):wpList P ops Q (o::rest) a w:=by
 refine wpList_plain hgd fun K hK=>?_
 unfold Oper.wp execOp
 simp only[ho,Sem.run_bind,Sem.run_pure,Result.andThen_ok,hr]
 exact hK _ _ h
def keyZ:List Value:=List.replicate 57 (.string ⟨#[]⟩)
theorem wpList_alloc {P:Program} {w w':World} {ops:Array Oper} {rest:List Oper} {o:Oper} {a:Act} {Q:Exit→Act→World→Prop} (hgd:o.guard=none) (t:TypeId) (ho:o.op=.alloc t) {v:Value}
  (hr:(Instr.alloc t true (.tuple #[])).run P w=.ok v w') (h:wpList P ops Q rest (a.put o.dst v) w'):wpList P ops Q (o::rest) a w:=by
 refine wpList_plain hgd fun K hK=>?_
 unfold Oper.wp execOp
 simp only[ho,Sem.run_bind,Sem.run_pure,Result.andThen_ok,hr]
 exact hK _ _ h
theorem wpList_gen {P:Program} {ops:Array Oper} {l:List Oper} {Q:Exit→Act→World→Prop} {a:Act} {W:World} (F:World→Prop) (hF:F W) (h:∀ w6,F w6→wpList P ops Q l a w6):wpList P ops Q l a W:=h W hF
def KeyF (w w':World):Prop:=Blk w' w.heap.size 186 keyA∧Kept (fun _=>False) w w'
theorem keyF (w:World):KeyF w ((w.alloc (.cells keyZ.toArray 186)).setCells w.heap.size 0 keyA.toArray.toList):=
 ⟨(Blk.new w 186 keyZ).setCells rfl,((Kept.refl (fun _=>False) w).alloc _).setCells (Or.inr (Nat.le_refl _))⟩
theorem key_there (w:World):(w.alloc (.cells keyZ.toArray 186)).there w.heap.size 0 keyA.toArray.size:=(Blk.new w 186 keyZ).there
theorem key_len:keyT.length=57:=rfl
theorem key_at (op:Nat) (h:op<57):keyA[op]?=some (.string (keyS op)):=by
 unfold keyA keyS
 rw[List.getElem?_map,if_pos (by omega),Int.toNat_natCast,List.getD_eq_getElem?_getD]
 rw[List.getElem?_eq_getElem (by rw[key_len];exact h)]
 rfl
theorem keyed_any (op:Nat) (w:World):Calls Tryz.prog 126 #[.int .i64 op] w fun e w'=>e=.returned (.string (keyS op))∧Kept (fun _=>False) w w':=by
 by_cases h:op<57
 ·have i1:(op:Int)<57:=by omega
  have HA:=Ld (key_at op h)
  clear h
  go_enter Tryz.func126,Tryz.ntmps126
  go_wp2_with (first | (refine wpList_build rfl 132 _ rfl (v:=.agg keyA.toArray) (by kernel_rfl) ?_) | (refine wpList_alloc rfl 132 rfl (v:=.pointer (some ⟨w.heap.size,0,none⟩)) (w':=w.alloc (.cells keyZ.toArray 186)) (by kernel_rfl) ?_) | (refine wpList_store_mid rfl 186 _ _ rfl w.heap.size 0 keyA.toArray rfl rfl (key_there w) (by kernel_rfl) (by kernel_rfl) ?_;refine wpList_gen (KeyF w) (keyF w) ?_;rintro W ⟨bW,kW⟩;have cW:W.cell? ⟨w.heap.size,op,none⟩=some (.string (keyS op)):=(by rw[bW.cell];exact HA.out)))
  go_ret
  exact⟨rfl,kW⟩
 ·have i1:((57:Int)≤op):=by omega
  have HS:Hid (keyS op=⟨#[]⟩):=Ld (by unfold keyS;rw[if_neg (by omega)])
  clear h
  go_enter Tryz.func126,Tryz.ntmps126
  go_wp2_with (first | (refine wpList_build rfl 132 _ rfl (v:=.agg keyA.toArray) (by kernel_rfl) ?_) | (refine wpList_alloc rfl 132 rfl (v:=.pointer (some ⟨w.heap.size,0,none⟩)) (w':=w.alloc (.cells keyZ.toArray 186)) (by kernel_rfl) ?_) | (refine wpList_store_mid rfl 186 _ _ rfl w.heap.size 0 keyA.toArray rfl rfl (key_there w) (by kernel_rfl) (by kernel_rfl) ?_;refine wpList_gen (KeyF w) (keyF w) ?_;rintro W ⟨bW,kW⟩))
  go_ret
  exact⟨by rw[HS.out];rfl,kW⟩
def compB (op:Int):Bool:=op==3||op==21||op==8||op==9||op==56||!((binS op).toList==[])
theorem compound_any {op:Int} {nm:ByteArray} {N:Int} {tkd:Int} {tnm:ByteArray} {tk kk:Value} {ta:Option Addr} {tn tc:Nat} {ma:Option Addr} {mn mc:Nat} (h1:tk=.slice ta tn tc) (h2:kk=.slice ma mn mc) (w:World):
  Calls Tryz.prog 171 #[.agg #[.int .i64 op,.string nm,.int .i64 N,.int .i64 tkd,.string tnm,tk,kk]] w fun e w'=>e=.returned (.bool (compB op))∧Kept (fun _=>False) w w':=by
 subst h1 h2
 have K0:Kept (fun _=>False) w (w.alloc (.cells #[.int .i64 op,.string nm,.int .i64 N,.int .i64 tkd,.string tnm,.slice ta tn tc,.slice ma mn mc] 27)):=kR.alloc _
 by_cases h:op=3∨op=21∨op=8∨op=9∨op=56
 ·rcases h with rfl | rfl | rfl | rfl | rfl
  all_goals
   go_enter Tryz.func171,Tryz.ntmps171
   go_wp2_with fail
   go_ret
   exact⟨rfl,K0⟩
 ·have q3:(op==3)=false:=beq_false_of_ne (fun e=>h (by simp[e]))
  have q21:(op==21)=false:=beq_false_of_ne (fun e=>h (by simp[e]))
  have q8:(op==8)=false:=beq_false_of_ne (fun e=>h (by simp[e]))
  have q9:(op==9)=false:=beq_false_of_ne (fun e=>h (by simp[e]))
  have q56:(op==56)=false:=beq_false_of_ne (fun e=>h (by simp[e]))
  have HQ:Hid (compB op=!((binS op).toList==[])):=Ld (by unfold compB;rw[q3,q21,q8,q9,q56];rfl)
  clear h
  have HB:=Ld (binary_any op)
  go_enter Tryz.func171,Tryz.ntmps171
  go_wp2_with (go_at_call 123;refine (HB.out _).mono ?_;rintro e w1 ⟨rfl,k1⟩)
  go_ret
  exact⟨by rw[HQ.out];first | rfl | simp[bne],K0.trans k1⟩
def PP (B b:Nat) (l:List UInt8) (w:World) (e:Ending) (w':World):Prop:=e=.returned (.tuple #[])∧BuP B b l w w'
def PC (bz:Nat) (t:Tm) (out:List UInt8):Prop:=∀ (B b:Nat) (l:List UInt8) (w:World) (tk kk:Value),Bu B b l w→B≤w.heap.size→TyL bz (fun q=>q<B) w t.ty.kids tk→TmL bz (fun q=>q<B) w t.kids kk→l.length+out.length≤1000000000 →
 Calls Tryz.prog 77 #[.pointer (some ⟨b,0,none⟩),tmVal t tk kk] w (PP B b (l++out) w)
def OC (bz:Nat) (t:Tm) (out:List UInt8):Prop:=∀ (B b:Nat) (l:List UInt8) (w:World) (tk kk:Value),Bu B b l w→B≤w.heap.size→TyL bz (fun q=>q<B) w t.ty.kids tk→TmL bz (fun q=>q<B) w t.kids kk→l.length+out.length≤1000000000 →
 Calls Tryz.prog 124 #[.pointer (some ⟨b,0,none⟩),tmVal t tk kk] w (PP B b (l++out) w)
theorem Bu.kept {B b:Nat} {l:List UInt8} {w w':World} (h:Bu B b l w) (k:Kept (fun _=>False) w w'):Bu B b l w':=by
 have go:∀ p,Lib.BuilderAt 107 5 B b p (Lib.byteCells l) w→Lib.BuilderAt 107 5 B b p (Lib.byteCells l) w':=by
  rintro p ⟨hB,v,hb,hown,hne⟩
  have hlt:b<w.heap.size:=by
   rcases Nat.lt_or_ge b w.heap.size with h' | h'
   ·exact h'
   ·simp[Array.getElem?_eq_none h'] at hb
  refine⟨hB,v,by rw[k.block b hlt (fun h=>h)];exact hb,?_,hne⟩
  refine⟨hown.1,?_⟩
  rcases hown.2 with h | ⟨g,cap,cur,hv,hg,hh,r⟩
  ·exact Or.inl h
  ·have hl:g<w.heap.size:=by
    rcases Nat.lt_or_ge g w.heap.size with h' | h'
    ·exact h'
    ·simp[Array.getElem?_eq_none h'] at hh
   exact Or.inr ⟨g,cap,cur,hv,hg,by rw[k.block g hl (fun h=>h)];exact hh,r⟩
 rcases h with h | h
 ·exact Or.inl (go _ h)
 ·exact Or.inr (go _ h)
def parS (op:Int) (out:List UInt8):List UInt8:=if compB op then [40]++out++[41] else out
theorem operand_any {t:Tm} {out:List UInt8} (hp:PC bz t out):OC bz t (parS t.op out):=by
 intro B b l w tk kk hb hB hty htm hlen
 obtain⟨ta,tn,tc,rfl⟩:=hty.slice
 obtain⟨ma,mn,mc,rfl⟩:=htm.slice
 unfold tmVal
 have K0:Kept (fun _=>False) w (w.alloc (.cells #[.int .i64 t.op,.string t.name,.int .i64 t.n,.int .i64 t.ty.kind,.string t.ty.name,.slice ta tn tc,.slice ma mn mc] 27)):=kR.alloc _
 have bX:Blk (w.alloc (.cells #[.int .i64 t.op,.string t.name,.int .i64 t.n,.int .i64 t.ty.kind,.string t.ty.name,.slice ta tn tc,.slice ma mn mc] 27)) w.heap.size 27 (tmCells t (.slice ta tn tc) (.slice ma mn mc)):=Blk.new w 27 _
 have hbl:=hb.lt
 have hbB:=hb.le
 have HP:=Ld hp
 have HCO:=Ld (fun W=>compound_any (op:=t.op) (nm:=t.name) (N:=t.n) (tkd:=t.ty.kind) (tnm:=t.ty.name) (ta:=ta) (tn:=tn) (tc:=tc) (ma:=ma) (mn:=mn) (mc:=mc) rfl rfl W)
 clear hp
 cases hc:compB t.op
 ·have hps:parS t.op out=out:=by unfold parS;rw[hc];rfl
  rw[hps] at hlen ⊢
  have HL:=Ld hlen
  clear hlen hps
  go_enter Tryz.func124,Tryz.ntmps124
  go_wp2_with fail
  refine (HCO.out _).mono ?_
  rintro e w1 ⟨rfl,k1⟩
  rw[hc]
  have K1:=K0.trans k1
  have b1:=bX.kept k1 (fun h=>h)
  have g0:w1.cell? ⟨w.heap.size,0,none⟩=some (.int .i64 t.op):=b1.cell 0
  have g1:w1.cell? ⟨w.heap.size,1,none⟩=some (.string t.name):=b1.cell 1
  have g2:w1.cell? ⟨w.heap.size,2,none⟩=some (.int .i64 t.n):=b1.cell 2
  have g3:w1.cell? ⟨w.heap.size,3,none⟩=some (.int .i64 t.ty.kind):=b1.cell 3
  have g4:w1.cell? ⟨w.heap.size,4,none⟩=some (.string t.ty.name):=b1.cell 4
  have g5:w1.cell? ⟨w.heap.size,5,none⟩=some (.slice ta tn tc):=b1.cell 5
  have g6:w1.cell? ⟨w.heap.size,6,none⟩=some (.slice ma mn mc):=b1.cell 6
  have HC:=Ld (HP.out B b l w1 _ _ (hb.kept K1) (Nat.le_trans hB K1.size) (hty.frame (sK K1)) (htm.frame (sK K1)) HL.out)
  go_wp2_with fail
  refine HC.out.mono ?_
  rintro e w2 ⟨rfl,h1,h2⟩
  go_wp2_with fail
  first | go_end0 | refine bodyPost_ret (results_none rfl _ _ _) rfl ?_
  exact⟨rfl,h1,(KB.of_kept K1).trans h2⟩
 ·have hps:parS t.op out=[40]++out++[41]:=by unfold parS;rw[hc];rfl
  rw[hps] at hlen ⊢
  have HL:Hid (l.length+out.length+2≤1000000000):=Ld (by simp at hlen;omega)
  clear hlen hps
  go_enter Tryz.func124,Tryz.ntmps124
  go_wp2_with fail
  refine (HCO.out _).mono ?_
  rintro e w1 ⟨rfl,k1⟩
  rw[hc]
  have K1:=K0.trans k1
  have b1:=bX.kept k1 (fun h=>h)
  have HW1:=Ld (wb_any (40:UInt8) (ci:=40) rfl (hb.kept K1) (by have:=HL.out;omega) (Nat.le_trans hB K1.size))
  go_wp2_with fail
  refine HW1.out.mono ?_
  rintro e w2 ⟨rfl,u2,k2⟩
  have K2:KB b B w w2:=(KB.of_kept K1).trans k2
  have b2:=b1.kb k2 (by omega) (by decide)
  have g0:w2.cell? ⟨w.heap.size,0,none⟩=some (.int .i64 t.op):=b2.cell 0
  have g1:w2.cell? ⟨w.heap.size,1,none⟩=some (.string t.name):=b2.cell 1
  have g2:w2.cell? ⟨w.heap.size,2,none⟩=some (.int .i64 t.n):=b2.cell 2
  have g3:w2.cell? ⟨w.heap.size,3,none⟩=some (.int .i64 t.ty.kind):=b2.cell 3
  have g4:w2.cell? ⟨w.heap.size,4,none⟩=some (.string t.ty.name):=b2.cell 4
  have g5:w2.cell? ⟨w.heap.size,5,none⟩=some (.slice ta tn tc):=b2.cell 5
  have g6:w2.cell? ⟨w.heap.size,6,none⟩=some (.slice ma mn mc):=b2.cell 6
  have HC:=Ld (HP.out B b (l++[40]) w2 _ _ u2 (Nat.le_trans hB K2.size) (hty.frame (Same.kb K2 hbB)) (htm.frame (Same.kb K2 hbB)) (by have:=HL.out;simp;omega))
  go_wp2_with fail
  refine HC.out.mono ?_
  rintro e w3 ⟨rfl,u3,k3⟩
  have K3:=K2.trans k3
  have HW3:=Ld (wb_any (41:UInt8) (ci:=41) rfl u3 (by have:=HL.out;simp;omega) (Nat.le_trans hB K3.size))
  go_wp2_with fail
  refine HW3.out.mono ?_
  rintro e w4 ⟨rfl,u4,k4⟩
  go_wp2_with fail
  first | go_end0 | refine bodyPost_ret (results_none rfl _ _ _) rfl ?_
  exact⟨rfl,by simpa using u4,K3.trans k4⟩
theorem ba_len (s:ByteArray):s.data.toList.length=s.size:=Array.length_toList
theorem TmL.two' {B:Nat} {w:World} {x y:Tm} {v:Value} (h:TmL bz (fun q=>q<B) w [x,y] v):∃ g off cap k0 m0 k1 m1,v=.slice (some ⟨g,off,none⟩) 2 cap∧g<B∧(∀ j u,(tmCells x k0 m0++tmCells y k1 m1)[j]?=some u→w.cell? ⟨g,off+j,none⟩=some u)∧TyL bz (fun q=>q<B) w x.ty.kids k0∧TmL bz (fun q=>q<B) w x.kids m0∧TyL bz (fun q=>q<B) w y.ty.kids k1∧TmL bz (fun q=>q<B) w y.kids m1:=by
 generalize hl:[x,y]=l at h
 cases h with
 | nil h=>cases hl
 | mk K M hne hb hc hcell hk hm hs2=>
  rename_i g off cap
  subst hl
  have h0:=hcell 0 (by simp)
  have h1:=hcell 1 (by simp)
  simp only[Nat.zero_mul,Nat.add_zero,Nat.one_mul,List.getElem_cons_zero,List.getElem_cons_succ] at h0 h1
  refine⟨g,off,cap,K 0,M 0,K 1,M 1,rfl,hb,fun j u hj=>?_,hk 0 (by simp),hm 0 (by simp),hk 1 (by simp),hm 1 (by simp)⟩
  have hlt:j<14:=(List.getElem?_eq_some_iff.1 hj).1
  rcases (show j=0∨j=1∨j=2∨j=3∨j=4∨j=5∨j=6∨j=7∨j=8∨j=9∨j=10∨j=11∨j=12∨j=13 by omega) with rfl | rfl | rfl | rfl | rfl | rfl | rfl | rfl | rfl | rfl | rfl | rfl | rfl | rfl
  ·cases hj;exact h0.1
  ·cases hj;exact h0.2.1
  ·cases hj;exact h0.2.2.1
  ·cases hj;exact h0.2.2.2.1
  ·cases hj;exact h0.2.2.2.2.1
  ·cases hj;exact h0.2.2.2.2.2.1
  ·cases hj;exact h0.2.2.2.2.2.2
  ·cases hj;exact h1.1
  ·cases hj;exact h1.2.1
  ·cases hj;exact h1.2.2.1
  ·cases hj;exact h1.2.2.2.1
  ·cases hj;exact h1.2.2.2.2.1
  ·cases hj;exact h1.2.2.2.2.2.1
  ·cases hj;exact h1.2.2.2.2.2.2
theorem pt_bin {t x y:Tm} {ox oy:List UInt8} (hkids:t.kids=[x,y]) (hbin:((binS t.op).toList==[])=false) (hx:OC bz x ox) (hy:OC bz y oy):PC bz t (ox++([32]++(binS t.op).data.toList++[32])++oy):=by
 intro B b l w tk kk hb hB hty htm hlen
 obtain⟨ta,tn,tc,rfl⟩:=hty.slice
 rw[hkids] at htm
 obtain⟨g,off,cap,k0,m0,k1,m1,rfl,hgB,hcl,hx5,hx6,hy5,hy6⟩:=htm.two'
 obtain⟨xa,xn,xc,rfl⟩:=hx5.slice
 obtain⟨xb,xo,xd,rfl⟩:=hx6.slice
 obtain⟨ya,yn,yc,rfl⟩:=hy5.slice
 obtain⟨yb,yo,yd,rfl⟩:=hy6.slice
 unfold tmVal
 have K0:Kept (fun _=>False) w (w.alloc (.cells #[.int .i64 t.op,.string t.name,.int .i64 t.n,.int .i64 t.ty.kind,.string t.ty.name,.slice ta tn tc,.slice (some ⟨g,off,none⟩) 2 cap] 27)):=kR.alloc _
 have bX:Blk (w.alloc (.cells #[.int .i64 t.op,.string t.name,.int .i64 t.n,.int .i64 t.ty.kind,.string t.ty.name,.slice ta tn tc,.slice (some ⟨g,off,none⟩) 2 cap] 27)) w.heap.size 27 (tmCells t (.slice ta tn tc) (.slice (some ⟨g,off,none⟩) 2 cap)):=Blk.new w 27 _
 have hbl:=hb.lt
 have hbB:=hb.le
 have HBI:=Ld (binary_any t.op)
 have HL:Hid (l.length+ox.length+(binS t.op).size+oy.length+2≤1000000000):=Ld (by simp at hlen;have:(binS t.op).data.size=(binS t.op).size:=rfl;omega)
 have HX:=Ld hx
 have HY:=Ld hy
 have HCL:=Ld hcl
 have HGB:=Ld hgB
 clear hlen hx hy hcl hkids htm hgB
 go_enter Tryz.func77,Tryz.ntmps77
 go_wp2_with fail
 refine (HBI.out _).mono ?_
 rintro e w1 ⟨rfl,k1'⟩
 have K1:=K0.trans k1'
 have b1:=bX.kept k1' (fun h=>h)
 have g6:w1.cell? ⟨w.heap.size,6,none⟩=some (.slice (some ⟨g,off,none⟩) 2 cap):=b1.cell 6
 have S1:Same (fun q=>q<B) w w1:=sK K1
 have hc1:Hid (∀ j u,(tmCells x (.slice xa xn xc) (.slice xb xo xd)++tmCells y (.slice ya yn yc) (.slice yb yo yd))[j]?=some u→w1.cell? ⟨g,off+j,none⟩=some u):=Ld (fun j u h=>S1.cell HGB.out (HCL.out j u h))
 have c0:w1.cell? ⟨g,off,none⟩=some (.int .i64 x.op):=hc1.out 0 _ rfl
 have c1:w1.cell? ⟨g,off+1,none⟩=some (.string x.name):=hc1.out 1 _ rfl
 have c2:w1.cell? ⟨g,off+2,none⟩=some (.int .i64 x.n):=hc1.out 2 _ rfl
 have c3:w1.cell? ⟨g,off+3,none⟩=some (.int .i64 x.ty.kind):=hc1.out 3 _ rfl
 have c4:w1.cell? ⟨g,off+4,none⟩=some (.string x.ty.name):=hc1.out 4 _ rfl
 have c5:w1.cell? ⟨g,off+5,none⟩=some (.slice xa xn xc):=hc1.out 5 _ rfl
 have c6:w1.cell? ⟨g,off+6,none⟩=some (.slice xb xo xd):=hc1.out 6 _ rfl
 have HC1:=Ld (HX.out B b l w1 _ _ (hb.kept K1) (Nat.le_trans hB K1.size) (hx5.frame S1) (hx6.frame S1) (by have:=HL.out;omega))
 go_wp2_with fail
 refine HC1.out.mono ?_
 rintro e w2 ⟨rfl,u2,k2⟩
 have K2:KB b B w w2:=(KB.of_kept K1).trans k2
 have b2:=b1.kb k2 (by omega) (by decide)
 have y6:w2.cell? ⟨w.heap.size,6,none⟩=some (.slice (some ⟨g,off,none⟩) 2 cap):=b2.cell 6
 clear c0 c1 c2 c3 c4 c5 c6 g6
 have hsz:(⟨#[32]⟩++binS t.op++⟨#[32]⟩:ByteArray).size=(binS t.op).size+2:=by simp[ByteArray.size_append];show 1+(binS t.op).size+1=_;omega
 have HS:=Ld (ws_any (⟨#[32]⟩++binS t.op++⟨#[32]⟩) u2 (by have:=HL.out;rw[hsz,List.length_append];omega) (Nat.le_trans hB K2.size))
 clear hsz
 have hbz:(binS t.op).size≤1000000000:=by have:=HL.out;omega
 go_wp2_with fail
 refine HS.out.mono ?_
 rintro e w3 ⟨rfl,u3,k3⟩
 have K3:=K2.trans k3
 have b3:=b2.kb k3 (by omega) (by decide)
 have z6:w3.cell? ⟨w.heap.size,6,none⟩=some (.slice (some ⟨g,off,none⟩) 2 cap):=b3.cell 6
 have S3:Same (fun q=>q<B) w w3:=Same.kb K3 hbB
 have hc3:Hid (∀ j u,(tmCells x (.slice xa xn xc) (.slice xb xo xd)++tmCells y (.slice ya yn yc) (.slice yb yo yd))[j]?=some u→w3.cell? ⟨g,off+j,none⟩=some u):=Ld (fun j u h=>S3.cell HGB.out (HCL.out j u h))
 have c0:w3.cell? ⟨g,off+7,none⟩=some (.int .i64 y.op):=hc3.out 7 _ rfl
 have c1:w3.cell? ⟨g,off+8,none⟩=some (.string y.name):=hc3.out 8 _ rfl
 have c2:w3.cell? ⟨g,off+9,none⟩=some (.int .i64 y.n):=hc3.out 9 _ rfl
 have c3:w3.cell? ⟨g,off+10,none⟩=some (.int .i64 y.ty.kind):=hc3.out 10 _ rfl
 have c4:w3.cell? ⟨g,off+11,none⟩=some (.string y.ty.name):=hc3.out 11 _ rfl
 have c5:w3.cell? ⟨g,off+12,none⟩=some (.slice ya yn yc):=hc3.out 12 _ rfl
 have c6:w3.cell? ⟨g,off+13,none⟩=some (.slice yb yo yd):=hc3.out 13 _ rfl
 have hdl:(⟨#[32]⟩++binS t.op++⟨#[32]⟩:ByteArray).data.toList=[32]++(binS t.op).data.toList++[32]:=by simp[ByteArray.data_append]
 rw[hdl] at u3
 have HC3:=Ld (HY.out B b _ w3 _ _ u3 (Nat.le_trans hB K3.size) (hy5.frame S3) (hy6.frame S3) (by have:=HL.out;simp only[List.length_append,List.length_cons,List.length_nil,ba_len];omega))
 clear hdl y6
 go_wp2_with fail
 refine HC3.out.mono ?_
 rintro e w4 ⟨rfl,u4,k4⟩
 go_wp2_with fail
 first | go_end0 | refine bodyPost_ret (results_none rfl _ _ _) rfl ?_
 exact⟨rfl,by simpa using u4,K3.trans k4⟩
theorem pt_name {nm:ByteArray} {N:Int} {ty:Ty} {kl:List Tm} :PC bz (.mk 20 nm N ty kl) nm.data.toList:=by
 intro B b l w tk kk hb hB hty htm hlen
 have HB0:Hid (binS 20=⟨#[]⟩):=Ld (by decide)
 have HKY:Hid (∀ W,Calls Tryz.prog 126 #[.int .i64 20] W fun e w'=>e=.returned (.string ⟨#[]⟩)∧Kept (fun _=>False) W w'):=Ld (fun W=>keyed_any 20 W)
 obtain⟨ta,tn,tc,rfl⟩:=hty.slice
 obtain⟨ma,mn,mc,rfl⟩:=htm.slice
 unfold tmVal
 have hty':TyL bz (fun q=>q<B) w ty.kids (.slice ta tn tc):=hty
 have htm':TmL bz (fun q=>q<B) w kl (.slice ma mn mc):=htm
 clear hty htm
 simp only[Tm.op,Tm.name,Tm.n,Tm.ty,Tm.kids]
 have K0:Kept (fun _=>False) w (w.alloc (.cells #[.int .i64 20,.string nm,.int .i64 N,.int .i64 ty.kind,.string ty.name,.slice ta tn tc,.slice ma mn mc] 27)):=kR.alloc _
 have bX:Blk (w.alloc (.cells #[.int .i64 20,.string nm,.int .i64 N,.int .i64 ty.kind,.string ty.name,.slice ta tn tc,.slice ma mn mc] 27)) w.heap.size 27 [.int .i64 20,.string nm,.int .i64 N,.int .i64 ty.kind,.string ty.name,.slice ta tn tc,.slice ma mn mc]:=Blk.new w 27 _
 have hbl:=hb.lt
 have hbB:=hb.le
 have HBI:Hid (∀ W,Calls Tryz.prog 123 #[.int .i64 20] W fun e w'=>e=.returned (.string ⟨#[]⟩)∧Kept (fun _=>False) W w'):=Ld (fun W=>(binary_any 20 W).mono fun e w' ⟨h1,h2⟩=>⟨by rw[h1,HB0.out],h2⟩)
 have HL:=Ld hlen
 clear hlen
 go_enter Tryz.func77,Tryz.ntmps77
 go_wp2_with fail
 refine (HBI.out _).mono ?_
 rintro e w1 ⟨rfl,k1⟩
 have K1:=K0.trans k1
 have b1:=bX.kept k1 (fun h=>h)
 have g0:w1.cell? ⟨w.heap.size,0,none⟩=some (.int .i64 20):=b1.cell 0
 go_wp2_with fail
 go_region_held3 (fun w'=>w'.cell? ⟨w.heap.size,0,none⟩=some (.int .i64 20)) (go_keep)
  (first | (go_at_call 126;refine (HKY.out w1.drew).mono ?_;rintro e w2 ⟨rfl,k2'⟩;have k2:Kept (fun _=>False) w1 w2:=(kR.drew).trans k2';have b2:=b1.kept k2 (fun h=>h);have g2:w2.cell? ⟨w.heap.size,0,none⟩=some (.int .i64 20):=b2.cell 0;have K2:=K1.trans k2;have u2:=hb.kept K2) | (go_at_call 125;refine (ws_any _ u2 (by have:=HL.out;simp only[ByteArray.size];simp at this ⊢;omega) (Nat.le_trans hB K2.size)).mono ?_;rintro e w3 ⟨rfl,u3,k3⟩;have b3:=b2.kb k3 (by omega) (by decide);have g3:w3.cell? ⟨w.heap.size,0,none⟩=some (.int .i64 20):=b3.cell 0))
 have K3:KB b B w w3:=(KB.of_kept K2).trans k3
 have V3:=Ld u3
 have g1x:w3.cell? ⟨w.heap.size,1,none⟩=some (.string nm):=b3.cell 1
 clear g0 g2 g3
 go_wp2_with fail
 go_region_held3 (fun w'=>w'.cell? ⟨w.heap.size,1,none⟩=some (.string nm)) (go_keep)
  (first | (go_at_call 125;refine (ws_any nm (l:=l) (w:=w3.drew) (by have:=V3.out.kept (kR.drew);simpa using this) (by have:=HL.out;rw[ba_len] at this;exact this) (Nat.le_trans hB K3.size)).mono ?_;rintro e w4 ⟨rfl,u4,k4⟩;have b4:=b3.kb (((KB.refl b B w3).drew).trans k4) (by omega) (by decide);have g4x:w4.cell? ⟨w.heap.size,1,none⟩=some (.string nm):=b4.cell 1))
 go_wp2_with fail
 first | go_end0 | refine bodyPost_ret (results_none rfl _ _ _) rfl ?_
 exact⟨rfl,u4,K3.trans (((KB.refl b B w3).drew).trans k4)⟩
theorem pt_int {nm:ByteArray} {N:Int} {ty:Ty} {kl:List Tm} {ds:ByteArray} (hIT:∀ W:World,Calls Tryz.prog 38 #[.int .i64 N] W fun e w'=>e=.returned (.string ds)∧W=w'):PC bz (.mk 19 nm N ty kl) ds.data.toList:=by
 intro B b l w tk kk hb hB hty htm hlen
 have HB0:Hid (binS 19=⟨#[]⟩):=Ld (by decide)
 have HKY:Hid (∀ W,Calls Tryz.prog 126 #[.int .i64 19] W fun e w'=>e=.returned (.string ⟨#[]⟩)∧Kept (fun _=>False) W w'):=Ld (fun W=>keyed_any 19 W)
 have HIT:=Ld hIT
 clear hIT
 obtain⟨ta,tn,tc,rfl⟩:=hty.slice
 obtain⟨ma,mn,mc,rfl⟩:=htm.slice
 unfold tmVal
 have hty':TyL bz (fun q=>q<B) w ty.kids (.slice ta tn tc):=hty
 have htm':TmL bz (fun q=>q<B) w kl (.slice ma mn mc):=htm
 clear hty htm
 simp only[Tm.op,Tm.name,Tm.n,Tm.ty,Tm.kids]
 have K0:Kept (fun _=>False) w (w.alloc (.cells #[.int .i64 19,.string nm,.int .i64 N,.int .i64 ty.kind,.string ty.name,.slice ta tn tc,.slice ma mn mc] 27)):=kR.alloc _
 have bX:Blk (w.alloc (.cells #[.int .i64 19,.string nm,.int .i64 N,.int .i64 ty.kind,.string ty.name,.slice ta tn tc,.slice ma mn mc] 27)) w.heap.size 27 [.int .i64 19,.string nm,.int .i64 N,.int .i64 ty.kind,.string ty.name,.slice ta tn tc,.slice ma mn mc]:=Blk.new w 27 _
 have hbl:=hb.lt
 have hbB:=hb.le
 have HBI:Hid (∀ W,Calls Tryz.prog 123 #[.int .i64 19] W fun e w'=>e=.returned (.string ⟨#[]⟩)∧Kept (fun _=>False) W w'):=Ld (fun W=>(binary_any 19 W).mono fun e w' ⟨h1,h2⟩=>⟨by rw[h1,HB0.out],h2⟩)
 have HL:=Ld hlen
 clear hlen
 go_enter Tryz.func77,Tryz.ntmps77
 go_wp2_with fail
 refine (HBI.out _).mono ?_
 rintro e w1 ⟨rfl,k1⟩
 have K1:=K0.trans k1
 have b1:=bX.kept k1 (fun h=>h)
 have g0:w1.cell? ⟨w.heap.size,0,none⟩=some (.int .i64 19):=b1.cell 0
 go_wp2_with fail
 go_region_held3 (fun w'=>w'.cell? ⟨w.heap.size,0,none⟩=some (.int .i64 19)) (go_keep)
  (first | (go_at_call 126;refine (HKY.out w1.drew).mono ?_;rintro e w2 ⟨rfl,k2'⟩;have k2:Kept (fun _=>False) w1 w2:=(kR.drew).trans k2';have b2:=b1.kept k2 (fun h=>h);have g2:w2.cell? ⟨w.heap.size,0,none⟩=some (.int .i64 19):=b2.cell 0;have K2:=K1.trans k2;have u2:=hb.kept K2) | (go_at_call 125;refine (ws_any _ u2 (by have:=HL.out;simp only[ByteArray.size];simp at this ⊢;omega) (Nat.le_trans hB K2.size)).mono ?_;rintro e w3 ⟨rfl,u3,k3⟩;have b3:=b2.kb k3 (by omega) (by decide);have g3:w3.cell? ⟨w.heap.size,0,none⟩=some (.int .i64 19):=b3.cell 0))
 have K3:KB b B w w3:=(KB.of_kept K2).trans k3
 have V3:=Ld u3
 have g2x:w3.cell? ⟨w.heap.size,2,none⟩=some (.int .i64 N):=b3.cell 2
 clear g0 g2 g3
 go_wp2_with fail
 go_region_held3 (fun w'=>w'.cell? ⟨w.heap.size,2,none⟩=some (.int .i64 N)) (go_keep)
  (first | (go_at_call 38;refine (HIT.out _).mono ?_;rintro e w' ⟨rfl,rfl⟩) | (go_at_call 125;refine (ws_any ds (l:=l) (w:=w3.drew) (by have:=V3.out.kept (kR.drew);simpa using this) (by have:=HL.out;rw[ba_len] at this;exact this) (Nat.le_trans hB K3.size)).mono ?_;rintro e w4 ⟨rfl,u4,k4⟩;have b4:=b3.kb (((KB.refl b B w3).drew).trans k4) (by omega) (by decide);have g4x:w4.cell? ⟨w.heap.size,2,none⟩=some (.int .i64 N):=b4.cell 2))
 go_wp2_with fail
 first | go_end0 | refine bodyPost_ret (results_none rfl _ _ _) rfl ?_
 exact⟨rfl,u4,K3.trans (((KB.refl b B w3).drew).trans k4)⟩
def joinO (O:Nat→List UInt8):Nat→List UInt8
 | 0=>[]
 | k+1=>joinO O k++(if k=0 then [] else [44,32])++O k
theorem join_le (O:Nat→List UInt8) (n:Nat):∀ k,k≤n→(joinO O k).length≤(joinO O n).length:=by
 induction n with
 | zero => intro k h;have:k=0:=by omega
           subst this;exact Nat.le_refl _
 | succ n ih=>
  intro k h
  by_cases e:k=n+1
  ·subst e;exact Nat.le_refl _
  ·have:=ih k (by omega)
   rw[joinO];simp only[List.length_append];omega
def LC (bz:Nat) (kl:List Tm) (out:List UInt8):Prop:=∀ (B b:Nat) (l:List UInt8) (w:World) (kk:Value),Bu B b l w→B≤w.heap.size→TmL bz (fun q=>q<B) w kl kk→l.length+out.length≤1000000000 →
 Calls Tryz.prog 130 #[.pointer (some ⟨b,0,none⟩),kk] w (PP B b (l++out) w)
theorem list_one {kl:List Tm} {O:Nat→List UInt8} (hp:∀ i (h:i<kl.length),PC bz kl[i] (O i)) (hkl:kl.length≤1):LC bz kl (joinO O kl.length):=by
 intro B b l w kk hb hB htm hlen
 have HP:=Ld hp
 have HL:=Ld hlen
 clear hp hlen
 have hbl:=hb.lt
 have hbB:=hb.le
 cases htm with
 | nil he=>
  rcases he with rfl | ⟨ad,c,rfl⟩
  all_goals
   go_enter Tryz.func130,Tryz.ntmps130
   go_wp2_with fail
   go_loop [8] (fun i=>i=.int .i64 0) (fun i=>0)
   case atStart=>rfl
   case round=>
    subst hrel
    go_wp2_with fail
    first | go_end0 | refine bodyPost_ret (results_none rfl _ _ _) rfl ?_
    exact⟨rfl,by simpa [joinO] using hb,KB.refl _ _ _⟩
 | mk K M hne hgB hcap hcell hk hm hs2=>
  rename_i g off cap
  have HC:=Ld hcell
  have HK:=Ld hk
  have HM:=Ld hm
  have HGB:=Ld hgB
  clear hcell hk hm hgB
  go_enter Tryz.func130,Tryz.ntmps130
  go_wp2_with fail
  go_loopw [8] (fun i wr=>∃ k:Nat,k≤kl.length∧i=.int .i64 k∧Hid (Bu B b (l++joinO O k) wr)∧Hid (KB b B w wr)) (fun i _=>kl.length-(intOf i).toNat)
  case atStart=>exact⟨0,Nat.zero_le _,rfl,Ld (by simpa [joinO] using hb),Ld (KB.refl _ _ _)⟩
  case round=>
   obtain⟨k,hkl2,rfl,HU,HKB⟩:=hrel
   by_cases hlt:k<kl.length
   ·have Sr:Same (fun q=>q<B) w wr:=Same.kb HKB.out hbB
    obtain⟨xa,xn,xc,hKk⟩:=(HK.out k hlt).slice
    obtain⟨ya,yn,yc,hMk⟩:=(HM.out k hlt).slice
    have c0:wr.cell? ⟨g,off+k*7,none⟩=some (.int .i64 kl[k].op):=by have cc:=Sr.cell HGB.out (HC.out k hlt).1;exact cc
    have c1:wr.cell? ⟨g,off+k*7+1,none⟩=some (.string kl[k].name):=by have cc:=Sr.cell HGB.out (HC.out k hlt).2.1;exact cc
    have c2:wr.cell? ⟨g,off+k*7+2,none⟩=some (.int .i64 kl[k].n):=by have cc:=Sr.cell HGB.out (HC.out k hlt).2.2.1;exact cc
    have c3:wr.cell? ⟨g,off+k*7+3,none⟩=some (.int .i64 kl[k].ty.kind):=by have cc:=Sr.cell HGB.out (HC.out k hlt).2.2.2.1;exact cc
    have c4:wr.cell? ⟨g,off+k*7+4,none⟩=some (.string kl[k].ty.name):=by have cc:=Sr.cell HGB.out (HC.out k hlt).2.2.2.2.1;exact cc
    have c5:wr.cell? ⟨g,off+k*7+5,none⟩=some (.slice xa xn xc):=by have cc:=Sr.cell HGB.out (HC.out k hlt).2.2.2.2.2.1;rw[hKk] at cc;exact cc
    have c6:wr.cell? ⟨g,off+k*7+6,none⟩=some (.slice ya yn yc):=by have cc:=Sr.cell HGB.out (HC.out k hlt).2.2.2.2.2.2;rw[hMk] at cc;exact cc
    have hx5:TyL bz (fun q=>q<B) wr kl[k].ty.kids (.slice xa xn xc):=by rw[← hKk];exact (HK.out k hlt).frame Sr
    have hx6:TmL bz (fun q=>q<B) wr kl[k].kids (.slice ya yn yc):=by rw[← hMk];exact (HM.out k hlt).frame Sr
    clear hKk hMk
    have i1:(k:Int)<(kl.length:Int):=by omega
    have i2:(k:Int)<2000000:=by omega
    have hsz:=HKB.out.size
    have bL:Blk (wr.alloc (.cells #[.int .i64 kl[k].op,.string kl[k].name,.int .i64 kl[k].n,.int .i64 kl[k].ty.kind,.string kl[k].ty.name,.slice xa xn xc,.slice ya yn yc] 27)) wr.heap.size 27 (tmCells kl[k] (.slice xa xn xc) (.slice ya yn yc)):=Blk.new wr 27 _
    have KL:KB b B wr (wr.alloc (.cells #[.int .i64 kl[k].op,.string kl[k].name,.int .i64 kl[k].n,.int .i64 kl[k].ty.kind,.string kl[k].ty.name,.slice xa xn xc,.slice ya yn yc] 27)):=(KB.refl _ _ _).alloc _
    have uL:Bu B b (l++joinO O k) (wr.alloc (.cells #[.int .i64 kl[k].op,.string kl[k].name,.int .i64 kl[k].n,.int .i64 kl[k].ty.kind,.string kl[k].ty.name,.slice xa xn xc,.slice ya yn yc] 27)):=HU.out.kept (kR.alloc _)
    have lb:=HU.out.lt
    have zL:B≤(wr.alloc (.cells #[.int .i64 kl[k].op,.string kl[k].name,.int .i64 kl[k].n,.int .i64 kl[k].ty.kind,.string kl[k].ty.name,.slice xa xn xc,.slice ya yn yc] 27)).heap.size:=by simp;omega
    have jl:Hid (l.length+(joinO O k).length+(if k=0 then 0 else 2)+(O k).length≤1000000000):=Ld (by
     have h1:=HL.out
     have h2:=join_le O kl.length (k+1) (by omega)
     rw[joinO] at h2
     simp only[List.length_append] at h2
     split
     ·rename_i e;rw[if_pos e] at h2;simp at h2;omega
     ·rename_i e;rw[if_neg e] at h2;simp at h2;omega)
    have S5:=hx5.frame (Same.alloc wr (.cells #[.int .i64 kl[k].op,.string kl[k].name,.int .i64 kl[k].n,.int .i64 kl[k].ty.kind,.string kl[k].ty.name,.slice xa xn xc,.slice ya yn yc] 27))
    have S6:=hx6.frame (Same.alloc wr (.cells #[.int .i64 kl[k].op,.string kl[k].name,.int .i64 kl[k].n,.int .i64 kl[k].ty.kind,.string kl[k].ty.name,.slice xa xn xc,.slice ya yn yc] 27))
    have HPk:=Ld (HP.out k hlt)
    by_cases hk0:k=0
    ·subst hk0
     simp only[Nat.zero_mul,Nat.add_zero] at c0 c1 c2 c3 c4 c5 c6
     have HC0:=Ld (HPk.out B b _ _ _ _ uL zL S5 S6 (by have:=jl.out;simp[joinO] at this ⊢;omega))
     go_wp2_with fail
     refine HC0.out.mono ?_
     rintro e w2 ⟨rfl,u2,k2⟩
     have HU2:Hid (Bu B b (l++joinO O (0+1)) w2):=Ld (by simpa [joinO] using u2)
     have HK2:=Ld (HKB.out.trans (KL.trans k2))
     go_wp2_with fail
     go_roundw
     case rel=>exact⟨0+1,by omega,by go_num,HU2,HK2⟩
     case measure=>simp[intOf];omega
    ·exact absurd hlt (by omega)
   ·have hkk:k=kl.length:=by omega
    subst hkk
    go_wp2_with fail
    first | go_end0 | refine bodyPost_ret (results_none rfl _ _ _) rfl ?_
    exact⟨rfl,HU.out,HKB.out⟩
theorem pt_card {nm:ByteArray} {N:Int} {ty:Ty} {kl:List Tm} {out:List UInt8} (hl:LC bz kl out):PC bz (.mk 47 nm N ty kl) ([99,97,114,100]++([40]++out++[41])):=by
 intro B b l w tk kk hb hB hty htm hlen
 have HB0:Hid (binS 47=⟨#[]⟩):=Ld (by decide)
 have HKY:Hid (∀ W,Calls Tryz.prog 126 #[.int .i64 47] W fun e w'=>e=.returned (.string ⟨#[99,97,114,100]⟩)∧Kept (fun _=>False) W w'):=Ld (fun W=>keyed_any 47 W)
 have HLC:=Ld hl
 clear hl
 obtain⟨ta,tn,tc,rfl⟩:=hty.slice
 obtain⟨ma,mn,mc,rfl⟩:=htm.slice
 unfold tmVal
 have hty':TyL bz (fun q=>q<B) w ty.kids (.slice ta tn tc):=hty
 have htm':TmL bz (fun q=>q<B) w kl (.slice ma mn mc):=htm
 clear hty htm
 simp only[Tm.op,Tm.name,Tm.n,Tm.ty,Tm.kids]
 have K0:Kept (fun _=>False) w (w.alloc (.cells #[.int .i64 47,.string nm,.int .i64 N,.int .i64 ty.kind,.string ty.name,.slice ta tn tc,.slice ma mn mc] 27)):=kR.alloc _
 have bX:Blk (w.alloc (.cells #[.int .i64 47,.string nm,.int .i64 N,.int .i64 ty.kind,.string ty.name,.slice ta tn tc,.slice ma mn mc] 27)) w.heap.size 27 [.int .i64 47,.string nm,.int .i64 N,.int .i64 ty.kind,.string ty.name,.slice ta tn tc,.slice ma mn mc]:=Blk.new w 27 _
 have hbl:=hb.lt
 have hbB:=hb.le
 have HBI:Hid (∀ W,Calls Tryz.prog 123 #[.int .i64 47] W fun e w'=>e=.returned (.string ⟨#[]⟩)∧Kept (fun _=>False) W w'):=Ld (fun W=>(binary_any 47 W).mono fun e w' ⟨h1,h2⟩=>⟨by rw[h1,HB0.out],h2⟩)
 have HL:=Ld hlen
 clear hlen
 go_enter Tryz.func77,Tryz.ntmps77
 go_wp2_with fail
 refine (HBI.out _).mono ?_
 rintro e w1 ⟨rfl,k1⟩
 have K1:=K0.trans k1
 have b1:=bX.kept k1 (fun h=>h)
 have g0:w1.cell? ⟨w.heap.size,0,none⟩=some (.int .i64 47):=b1.cell 0
 go_wp2_with fail
 go_region_held3 (fun w'=>w'.cell? ⟨w.heap.size,0,none⟩=some (.int .i64 47)) (go_keep)
  (first | (go_at_call 126;refine (HKY.out w1.drew).mono ?_;rintro e w2 ⟨rfl,k2'⟩;have k2:Kept (fun _=>False) w1 w2:=(kR.drew).trans k2';have b2:=b1.kept k2 (fun h=>h);have g2:w2.cell? ⟨w.heap.size,0,none⟩=some (.int .i64 47):=b2.cell 0;have K2:=K1.trans k2;have u2:=hb.kept K2) | (go_at_call 125;refine (ws_any _ u2 (by have:=HL.out;simp only[ByteArray.size];simp at this ⊢;omega) (Nat.le_trans hB K2.size)).mono ?_;rintro e w3 ⟨rfl,u3,k3⟩;have b3:=b2.kb k3 (by omega) (by decide);have g3:w3.cell? ⟨w.heap.size,0,none⟩=some (.int .i64 47):=b3.cell 0))
 have K3:KB b B w w3:=(KB.of_kept K2).trans k3
 have hlen2:Hid (l.length+out.length+10≤1000000010):=Ld (by have:=HL.out;simp at this;omega)
 have HL2:Hid (l.length+4+out.length+2≤1000000000):=Ld (by have:=HL.out;simp at this;omega)
 have V3:=Ld u3
 have HW:=Ld (wb_any (40:UInt8) (ci:=40) rfl u3 (by have:=HL2.out;simp;omega) (Nat.le_trans hB K3.size))
 clear u3
 go_wp2_with fail
 refine HW.out.mono ?_
 rintro e w4 ⟨rfl,u4,k4⟩
 have K4:=K3.trans k4
 have b4:=b3.kb k4 (by omega) (by decide)
 have g46:w4.cell? ⟨w.heap.size,6,none⟩=some (.slice ma mn mc):=b4.cell 6
 have HC:=Ld (HLC.out B b _ w4 _ u4 (Nat.le_trans hB K4.size) (htm'.frame (Same.kb K4 hbB)) (by have:=HL2.out;simp;omega))
 clear g0 g2 g3
 go_wp2_with fail
 refine HC.out.mono ?_
 rintro e w5 ⟨rfl,u5,k5⟩
 have K5:=K4.trans k5
 have HW5:=Ld (wb_any (41:UInt8) (ci:=41) rfl u5 (by have:=HL2.out;simp;omega) (Nat.le_trans hB K5.size))
 go_wp2_with fail
 refine HW5.out.mono ?_
 rintro e w6 ⟨rfl,u6,k6⟩
 go_wp2_with fail
 first | go_end0 | refine bodyPost_ret (results_none rfl _ _ _) rfl ?_
 exact⟨rfl,by simpa using u6,K5.trans k6⟩
def str (l:List UInt8):ByteArray:=⟨l.toArray⟩
theorem str_size (a:List UInt8):(str a).size=a.length:=by simp[str,ByteArray.size]
theorem TyL.one' {ok:Nat→Prop} {w:World} {x:Ty} {v:Value} (h:TyL bz ok w [x] v):∃ g off cap k0,v=.slice (some ⟨g,off,none⟩) 1 cap∧ok g∧w.cell? ⟨g,off,none⟩=some (.int .i64 x.kind)∧w.cell? ⟨g,off+1,none⟩=some (.string x.name)∧w.cell? ⟨g,off+2,none⟩=some k0∧TyL bz ok w x.kids k0:=by
 generalize hl:[x]=l at h
 cases h with
 | nil h=>cases hl
 | mk K hne hb hc hcell hk hs2=>
  rename_i g off cap
  subst hl
  have h0:=hcell 0 (by simp)
  exact⟨g,off,cap,K 0,rfl,hb,by simpa using h0.1,by simpa using h0.2.1,by simpa using h0.2.2,hk 0 (by simp)⟩
theorem TyL.two' {ok:Nat→Prop} {w:World} {x y:Ty} {v:Value} (h:TyL bz ok w [x,y] v):∃ g off cap k0 k1,v=.slice (some ⟨g,off,none⟩) 2 cap∧ok g∧w.cell? ⟨g,off,none⟩=some (.int .i64 x.kind)∧w.cell? ⟨g,off+1,none⟩=some (.string x.name)∧w.cell? ⟨g,off+2,none⟩=some k0∧w.cell? ⟨g,off+3,none⟩=some (.int .i64 y.kind)∧w.cell? ⟨g,off+4,none⟩=some (.string y.name)∧w.cell? ⟨g,off+5,none⟩=some k1∧TyL bz ok w x.kids k0∧TyL bz ok w y.kids k1:=by
 generalize hl:[x,y]=l at h
 cases h with
 | nil h=>cases hl
 | mk K hne hb hc hcell hk hs2=>
  rename_i g off cap
  subst hl
  have h0:=hcell 0 (by simp)
  have h1:=hcell 1 (by simp)
  exact⟨g,off,cap,K 0,K 1,rfl,hb,by simpa using h0.1,by simpa using h0.2.1,by simpa using h0.2.2,by simpa using h1.1,by simpa using h1.2.1,by simpa using h1.2.2,hk 0 (by simp),hk 1 (by simp)⟩
end Go.Proofs.YtdmebjbkccjhbaaGreatDoor
