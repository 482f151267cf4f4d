/- A part. -/
import Derived.Test.YtdmebjbkccjhbaaGreatDoorK5
set_option linter.unusedVariables false
set_option linter.unusedSimpArgs false
set_option maxRecDepth 100000
set_option maxHeartbeats 32000000
namespace Go.Proofs.YtdmebjbkccjhbaaGreatDoor
open Go.RowKit
def tyHead (k:Int) (nm:ByteArray) (n:Nat) (within:Bool):Bool:=
 if k=1 then decide (n=0)&&(nm.toList==[])
 else if k=2 then !within&&decide (n=0)&&(nm.toList==[])
 else if k=3 then identB nm&&decide (n=0)
 else if k=4 then decide (n=2)&&(nm.toList==[])
 else if k=5 then decide (n=1)&&(nm.toList==[])
 else false
mutual
def tfS (most deep:Nat):Ty→Nat→Bool→Nat→Bool×Nat
 | .mk k nm l,d,wi,c=>
  match (decide (c+1≤most)&&decide (d≤deep))&&tyHead k nm l.length wi with
  | false=>(false,c+1)
  | true=>tfsS most deep l (d+1) (c+1)
def tfsS (most deep:Nat):List Ty→Nat→Nat→Bool×Nat
 | [],_,c=>(true,c)
 | t::l,d,c=>
  match tfS most deep t d true c with
  | (true,c')=>tfsS most deep l d c'
  | (false,c')=>(false,c')
end
def FPost (m most deep:Nat) (r:Bool×Nat) (w:World) (e:Ending) (w':World):Prop:=e=.returned (.bool r.1)∧Blk w' m 119 (mcells r.2 most deep)∧Kept (·=m) w w'
def TyC (m most deep:Nat) (t:Ty):Prop:=∀ (w:World) (c d:Nat) (wi:Bool) (tk:Value),Blk w m 119 (mcells c most deep)→c≤most→d≤deep+1→TyL (fun k=>k≠m) w t.kids tk →
 Calls Tryz.prog 216 #[.pointer (some ⟨m,0,none⟩),tyVal t tk,.int .i64 d,.bool wi] w (FPost m most deep (tfS most deep t d wi c) w)
theorem tf_le (most deep:Nat):∀ (t:Ty) (d:Nat) (wi:Bool) (c:Nat),c≤most→(tfS most deep t d wi c).1=true→c+1≤(tfS most deep t d wi c).2∧(tfS most deep t d wi c).2≤most:=by
 intro t
 induction t using Ty.rec (motive_2:=fun l=>∀ (d c:Nat),c≤most→(tfsS most deep l d c).1=true→c≤(tfsS most deep l d c).2∧(tfsS most deep l d c).2≤most) with
 | mk k nm l ih=>
  intro d wi c hc h
  rw[tfS] at h ⊢
  cases hb:(decide (c+1≤most)&&decide (d≤deep))&&tyHead k nm l.length wi
  ·rw[hb] at h;cases h
  ·rw[hb] at h
   have:c+1≤most:=by simp at hb;exact hb.1.1
   exact ih _ _ this h
 | nil=>rename_i d c hc h;exact⟨Nat.le_refl _,hc⟩
 | cons t l iht ihl=>
  rename_i d c hc h
  rw[tfsS] at h ⊢
  cases hr:tfS most deep t d true c with
  | mk b c'=>
   cases b
   ·rw[hr] at h;cases h
   ·rw[hr] at h
    have a:=iht d true c hc (by rw[hr])
    rw[hr] at a
    have:=ihl d c' a.2 h
    exact⟨Nat.le_trans (Nat.le_trans (Nat.le_succ _) a.1) this.1,this.2⟩
theorem tf1_any {m most deep d c M D:Nat} {t:Ty} {a:Option Addr} {n cp:Nat} {w:World} (hT:TyC m most deep t) (hb:Blk w m 119 (mcells c most deep)) (hc:c≤most) (hd:d≤deep) (hdp:deep≤1000)
  (hM:w.cell? ⟨M,0,none⟩=some (.pointer (some ⟨m,0,none⟩))) (hD:w.cell? ⟨D,0,none⟩=some (.int .i64 d)) (hk:TyL (fun k=>k≠m) w t.kids (.slice a n cp)):
  Calls Tryz.prog 234 #[tyVal t (.slice a n cp),.pointer (some ⟨M,0,none⟩),.pointer (some ⟨D,0,none⟩)] w (FPost m most deep (!(tfS most deep t (d+1) true c).1,(tfS most deep t (d+1) true c).2) w):=by
 unfold tyVal
 have HT:=Ld hT
 clear hT
 have hb1:=hb.alloc (.cells #[.int .i64 t.kind,.string t.name,.slice a n cp] 24)
 have hk1:=hk.frame (Same.alloc w (.cells #[.int .i64 t.kind,.string t.name,.slice a n cp] 24))
 have lM:=cell_lt hM
 have lD:=cell_lt hD
 have nM:M≠w.heap.size:=by omega
 have nD:D≠w.heap.size:=by omega
 go_enter Tryz.func234,Tryz.ntmps234
 go_wp2_with fail
 refine (HT.out _ c (d+1) true _ hb1 hc (by omega) hk1).mono ?_
 rintro e w' ⟨rfl,h1,h2⟩
 go_wp2_with fail
 go_ret
 exact⟨rfl,h1,(kR.alloc _).trans h2⟩
theorem drop_cons {α:Type} (l:List α) (k:Nat) (h:k<l.length):l.drop k=l[k]::l.drop (k+1):=(List.getElem_cons_drop h).symm
theorem tfs_step {most deep d c:Nat} {l:List Ty} {k:Nat} (h:k<l.length):tfsS most deep (l.drop k) d c=(if (tfS most deep l[k] d true c).1=true then tfsS most deep (l.drop (k+1)) d (tfS most deep l[k] d true c).2 else (false,(tfS most deep l[k] d true c).2)):=by
 rw[drop_cons l k h,tfsS]
 cases tfS most deep l[k] d true c with
 | mk b c'=>cases b <;> rfl
theorem idxTy_any {m most deep d c M D:Nat} {l:List Ty} {a:Option Addr} {n cp:Nat} {w:World} (hT:∀ t,t∈l→TyC m most deep t) (hb:Blk w m 119 (mcells c most deep)) (hc:c≤most) (hmo:most≤100000) (hd:d≤deep) (hdp:deep≤1000) (hMm:M≠m) (hDm:D≠m)
  (hM:w.cell? ⟨M,0,none⟩=some (.pointer (some ⟨m,0,none⟩))) (hD:w.cell? ⟨D,0,none⟩=some (.int .i64 d)) (hk:TyL (fun k=>k≠m) w l (.slice a n cp)):
  Calls Tryz.prog 240 #[.slice a n cp,.func (.func 234) #[] #[.pointer (some ⟨M,0,none⟩),.pointer (some ⟨D,0,none⟩)]] w fun e w'=>∃ i:Int,e=.returned (.int .i64 i)∧decide (0≤i)=!(tfsS most deep l (d+1) c).1∧Blk w' m 119 (mcells (tfsS most deep l (d+1) c).2 most deep)∧Kept (·=m) w w':=by
 have HT:=Ld hT
 clear hT
 have hn:=hk.len
 subst hn
 cases hk with
 | nil he=>
  have hz:Hid (tfsS most deep ([]:List Ty) (d+1) c=(true,c)):=Ld (by rw[tfsS])
  go_enter Tryz.func240,Tryz.ntmps240
  go_wp2_with fail
  go_loop [8] (fun i=>i=.int .i64 0) (fun i=>0)
  case atStart=>rfl
  case round=>
   subst hrel
   go_wp2_with fail
   go_ret
   exact⟨-1,rfl,by rw[hz.out];rfl,by rw[hz.out];exact hb,Kept.refl _ _⟩
 | mk K hne hok hcap hcell hkk=>
  rename_i g off
  have HC:=Ld hcell
  have HK:=Ld hkk
  clear hcell hkk
  have LM:=Ld (cell_lt hM)
  have LD:=Ld (cell_lt hD)
  go_enter Tryz.func240,Tryz.ntmps240
  go_wp2_with fail
  go_loopw [8] (fun i wr=>∃ k ck:Nat,k≤l.length∧i=.int .i64 k∧k≤ck∧ck≤most∧Blk wr m 119 (mcells ck most deep)∧Kept (·=m) w wr∧Hid (tfsS most deep l (d+1) c=tfsS most deep (l.drop k) (d+1) ck)) (fun i _=>l.length-(intOf i).toNat)
  case atStart=>exact⟨0,c,Nat.zero_le _,rfl,Nat.zero_le _,hc,hb,Kept.refl _ _,Ld rfl⟩
  case round=>
   obtain⟨k,ck,hkl,rfl,hkc,hcm,hbr,hkr,heq⟩:=hrel
   by_cases hlt:k<l.length
   ·have c0:=(Same.of_kept (ok:=fun k=>k≠m) hkr (fun k h e=>h e)).cell hok (HC.out k hlt).1
    have c1:=(Same.of_kept (ok:=fun k=>k≠m) hkr (fun k h e=>h e)).cell hok (HC.out k hlt).2.1
    have c2:=(Same.of_kept (ok:=fun k=>k≠m) hkr (fun k h e=>h e)).cell hok (HC.out k hlt).2.2
    have i1:(k:Int)<(l.length:Int):=by omega
    have i2:(k:Int)<1000000:=by omega
    obtain⟨ta,tn,tc,hK⟩:=(HK.out k hlt).slice
    have hkk:=(HK.out k hlt).frame (Same.of_kept (ok:=fun k=>k≠m) hkr (fun k h e=>h e))
    rw[hK] at c2 hkk
    have hM':wr.cell? ⟨M,0,none⟩=some (.pointer (some ⟨m,0,none⟩)):=by rw[hkr.cell (p:=⟨M,0,none⟩) LM.out hMm];exact hM
    have hD':wr.cell? ⟨D,0,none⟩=some (.int .i64 d):=by rw[hkr.cell (p:=⟨D,0,none⟩) LD.out hDm];exact hD
    have hst:=Ld (tfs_step (most:=most) (deep:=deep) (d:=d+1) (c:=ck) hlt)
    have hle:=Ld (tf_le most deep l[k] (d+1) true ck hcm)
    have hcon:=Ld (tf1_any (HT.out _ (List.getElem_mem hlt)) hbr hcm hd hdp hM' hD' hkk)
    clear hkk hM' hD'
    cases hr:(tfS most deep l[k] (d+1) true ck).1
    ·go_wp2_with (go_at_call 234;refine hcon.out.mono ?_;rintro e w' ⟨rfl,h1,h2⟩)
     go_ret
     have q:=heq.out.trans hst.out
     rw[hr,if_neg (by simp)] at q
     exact⟨k,rfl,by rw[q];simp,by rw[q];exact h1,hkr.trans h2⟩
    ·go_wp2_with (go_at_call 234;refine hcon.out.mono ?_;rintro e w' ⟨rfl,h1,h2⟩)
     go_roundw
     case rel=>
      have q:=heq.out.trans hst.out
      rw[hr,if_pos rfl] at q
      have z:=hle.out hr
      exact⟨k+1,_,by omega,by go_num,by omega,z.2,h1,hkr.trans h2,Ld q⟩
     case measure=>simp[intOf];omega
   ·have hz:Hid (tfsS most deep l (d+1) c=(true,ck)):=Ld (by rw[heq.out,List.drop_eq_nil_of_le (by omega),tfsS])
    go_wp2_with fail
    go_ret
    exact⟨-1,rfl,by rw[hz.out];rfl,by rw[hz.out];exact hbr,hkr⟩
theorem contTy_any {m most deep d c M D:Nat} {l:List Ty} {a:Option Addr} {n cp:Nat} {w:World} (hT:∀ t,t∈l→TyC m most deep t) (hb:Blk w m 119 (mcells c most deep)) (hc:c≤most) (hmo:most≤100000) (hd:d≤deep) (hdp:deep≤1000) (hMm:M≠m) (hDm:D≠m)
  (hM:w.cell? ⟨M,0,none⟩=some (.pointer (some ⟨m,0,none⟩))) (hD:w.cell? ⟨D,0,none⟩=some (.int .i64 d)) (hk:TyL (fun k=>k≠m) w l (.slice a n cp)):
  Calls Tryz.prog 233 #[.slice a n cp,.func (.func 234) #[] #[.pointer (some ⟨M,0,none⟩),.pointer (some ⟨D,0,none⟩)]] w fun e w'=>e=.returned (.bool (!(tfsS most deep l (d+1) c).1))∧Blk w' m 119 (mcells (tfsS most deep l (d+1) c).2 most deep)∧Kept (·=m) w w':=by
 have hcon:=Ld (idxTy_any hT hb hc hmo hd hdp hMm hDm hM hD hk)
 clear hT hM hD hk
 go_enter Tryz.func233,Tryz.ntmps233
 go_wp2_with fail
 refine hcon.out.mono ?_
 rintro e w' ⟨i,rfl,hi,h1,h2⟩
 go_wp2_with fail
 go_ret
 exact⟨rfl,h1,h2⟩
theorem tf_eq (most deep:Nat) (k:Int) (nm:ByteArray) (l:List Ty) (d:Nat) (wi:Bool) (c:Nat):tfS most deep (.mk k nm l) d wi c=if ((decide (c+1≤most)&&decide (d≤deep))&&tyHead k nm l.length wi)=true then tfsS most deep l (d+1) (c+1) else (false,c+1):=by
 rw[tfS]
 cases (decide (c+1≤most)&&decide (d≤deep))&&tyHead k nm l.length wi <;> rfl
theorem ident_t' {t:ByteArray} {v:Bool} (h:identB t=v) (ht:t.size≤9223372036854775807) (w:World):Calls Tryz.prog 79 #[.string t] w fun e w'=>e=.returned (.bool v)∧w=w':=(ident_any t w ht).mono fun _ _ q=>⟨by rw[← h];exact q.1,q.2⟩
theorem typeFits_one {m most deep:Nat} {k:Int} {nm:ByteArray} {l:List Ty} (hmo:most≤100000) (hdp:deep≤1000) (hsz:nm.size≤9223372036854775807) (IH:∀ t,t∈l→TyC m most deep t):TyC m most deep (.mk k nm l):=by
 intro w c d wi tk hb hc hd hk
 obtain⟨a,n,cp,rfl⟩:=hk.slice
 have hn:=hk.len
 unfold tyVal
 have hk':TyL (fun k=>k≠m) w l (.slice a n cp):=hk
 clear hk
 simp only[Ty.kind,Ty.name,Ty.kids] at hn ⊢
 have HIH:=Ld IH
 clear IH
 have hml:=hb.lt
 have HQ:=Ld (tf_eq most deep k nm l d wi c)
 have HN:=Ld hn
 clear hn
 have hb3:=((hb.alloc (.cells #[.pointer (some ⟨m,0,none⟩)] 159)).alloc (.cells #[.int .i64 k,.string nm,.slice a n cp] 24)).alloc (.cells #[.int .i64 d] 3)
 have K3:Kept (·=m) w (((w.alloc (.cells #[.pointer (some ⟨m,0,none⟩)] 159)).alloc (.cells #[.int .i64 k,.string nm,.slice a n cp] 24)).alloc (.cells #[.int .i64 d] 3)):=((kR.alloc _).alloc _).alloc _
 have b0:Blk (((w.alloc (.cells #[.pointer (some ⟨m,0,none⟩)] 159)).alloc (.cells #[.int .i64 k,.string nm,.slice a n cp] 24)).alloc (.cells #[.int .i64 d] 3)) w.heap.size 159 [.pointer (some ⟨m,0,none⟩)]:=((Blk.new w 159 _).alloc _).alloc _
 have b1:Blk (((w.alloc (.cells #[.pointer (some ⟨m,0,none⟩)] 159)).alloc (.cells #[.int .i64 k,.string nm,.slice a n cp] 24)).alloc (.cells #[.int .i64 d] 3)) (w.heap.size+1) 24 [.int .i64 k,.string nm,.slice a n cp]:=(Blk.new' 24 _ (by simp)).alloc _
 have b2:Blk (((w.alloc (.cells #[.pointer (some ⟨m,0,none⟩)] 159)).alloc (.cells #[.int .i64 k,.string nm,.slice a n cp] 24)).alloc (.cells #[.int .i64 d] 3)) (w.heap.size+2) 3 [.int .i64 d]:=Blk.new' 3 _ (by simp)
 cases hv:(decide (c+1≤most)&&decide (d≤deep))
 ·have hq:Hid (tfS most deep (.mk k nm l) d wi c=(false,c+1)):=Ld (by rw[HQ.out,hv];rfl)
  go_enter Tryz.func216,Tryz.ntmps216
  go_wp2_with fail
  refine (enter_any hb3 (by omega) hv).mono ?_
  rintro e W ⟨rfl,hbW,hkW⟩
  go_wp2_with fail
  go_ret
  exact⟨by rw[hq.out];rfl,by rw[hq.out];exact hbW,K3.trans hkW⟩
 have hd1:d≤deep:=by simp at hv;exact hv.2
 have hc1:c+1≤most:=by simp at hv;exact hv.1
 have HD1:=Ld hd1
 have HC1:=Ld hc1
 clear hd1 hc1
 go_enter Tryz.func216,Tryz.ntmps216
 go_wp2_with fail
 refine (enter_any hb3 (by omega) hv).mono ?_
 rintro e W ⟨rfl,hbW,hkW⟩
 have p0:W.cell? ⟨w.heap.size,0,none⟩=some (.pointer (some ⟨m,0,none⟩)):=(b0.kept hkW (by show ¬ w.heap.size=m;omega)).cell 0
 have g0:W.cell? ⟨w.heap.size+1,0,none⟩=some (.int .i64 k):=(b1.kept hkW (by show ¬ w.heap.size+1=m;omega)).cell 0
 have g1:W.cell? ⟨w.heap.size+1,1,none⟩=some (.string nm):=(b1.kept hkW (by show ¬ w.heap.size+1=m;omega)).cell 1
 have g2:W.cell? ⟨w.heap.size+1,2,none⟩=some (.slice a n cp):=(b1.kept hkW (by show ¬ w.heap.size+1=m;omega)).cell 2
 have dd:W.cell? ⟨w.heap.size+2,0,none⟩=some (.int .i64 d):=(b2.kept hkW (by show ¬ w.heap.size+2=m;omega)).cell 0
 have KW:=K3.trans hkW
 have hkl:TyL (fun k=>k≠m) W l (.slice a n cp):=hk'.frame (Same.of_kept KW (fun k h e=>h e))
 have HCON:Hid (tyHead k nm n wi=true→Calls Tryz.prog 233 #[.slice a n cp,.func (.func 234) #[] #[.pointer (some ⟨w.heap.size,0,none⟩),.pointer (some ⟨w.heap.size+2,0,none⟩)]] W fun e w'=>e=.returned (.bool (!(tfS most deep (.mk k nm l) d wi c).1))∧Blk w' m 119 (mcells (tfS most deep (.mk k nm l) d wi c).2 most deep)∧Kept (·=m) w w'):=Ld (by
  intro hB
  rw[HQ.out,hv,← HN.out,hB]
  exact (contTy_any HIH.out hbW HC1.out hmo HD1.out hdp (by omega) (by omega) p0 dd hkl).mono fun e w' ⟨q1,q2,q3⟩=>⟨q1,q2,KW.trans q3⟩)
 have HNO:Hid (tyHead k nm n wi=false→tfS most deep (.mk k nm l) d wi c=(false,c+1)):=Ld (by intro hB;rw[HQ.out,hv,← HN.out,hB];rfl)
 clear hkl hv
 by_cases k1:k=1
 ·subst k1
  by_cases hl:n=0
  ·subst hl
   cases he:(nm.toList==[])
   ·have hq:=HNO.out (by unfold tyHead;simp[*])
    have HQ2:=Ld hq
    clear hq
    go_wp2_with fail
    go_ret
    exact⟨by rw[HQ2.out];rfl,by rw[HQ2.out];exact hbW,KW⟩
   ·have hq:=HCON.out (by unfold tyHead;simp[*])
    have HQ2:=Ld hq
    clear hq
    go_wp2_with fail
    refine HQ2.out.mono ?_
    rintro e w' ⟨rfl,h1,h2⟩
    go_wp2_with fail
    go_ret
    exact⟨by simp,h1,h2⟩
  ·have hl':decide ((n:Int)=0)=false:=by simp;omega
   have hl2:((n:Int)==0)=false:=by simp;omega
   have hq:=HNO.out (by unfold tyHead;simp[hl])
   have HQ2:=Ld hq
   clear hq
   go_wp2_with fail
   go_ret
   exact⟨by rw[HQ2.out];rfl,by rw[HQ2.out];exact hbW,KW⟩
 by_cases k2:k=2
 ·subst k2
  cases wi
  case true=>
   have hq:=HNO.out (by unfold tyHead;simp)
   have HQ2:=Ld hq
   clear hq
   go_wp2_with fail
   go_ret
   exact⟨by rw[HQ2.out];rfl,by rw[HQ2.out];exact hbW,KW⟩
  by_cases hl:n=0
  ·subst hl
   cases he:(nm.toList==[])
   ·have hq:=HNO.out (by unfold tyHead;simp[*])
    have HQ2:=Ld hq
    clear hq
    go_wp2_with fail
    go_ret
    exact⟨by rw[HQ2.out];rfl,by rw[HQ2.out];exact hbW,KW⟩
   ·have hq:=HCON.out (by unfold tyHead;simp[*])
    have HQ2:=Ld hq
    clear hq
    go_wp2_with fail
    refine HQ2.out.mono ?_
    rintro e w' ⟨rfl,h1,h2⟩
    go_wp2_with fail
    go_ret
    exact⟨by simp,h1,h2⟩
  ·have hl':decide ((n:Int)=0)=false:=by simp;omega
   have hl2:((n:Int)==0)=false:=by simp;omega
   have hq:=HNO.out (by unfold tyHead;simp[hl])
   have HQ2:=Ld hq
   clear hq
   go_wp2_with fail
   go_ret
   exact⟨by rw[HQ2.out];rfl,by rw[HQ2.out];exact hbW,KW⟩
 by_cases k3:k=3
 ·subst k3
  cases hi:identB nm
  case false=>
   have hq:=HNO.out (by unfold tyHead;simp[hi])
   have HQ2:=Ld hq
   clear hq
   go_wp2_with (go_at_call 79;refine cR (ident_t' hi hsz _) ?_)
   go_ret
   exact⟨by rw[HQ2.out];rfl,by rw[HQ2.out];exact hbW,KW⟩
  by_cases hl:n=0
  ·subst hl
   have hq:=HCON.out (by unfold tyHead;simp[*])
   have HQ2:=Ld hq
   clear hq
   go_wp2_with (go_at_call 79;refine cR (ident_t' hi hsz _) ?_)
   refine HQ2.out.mono ?_
   rintro e w' ⟨rfl,h1,h2⟩
   go_wp2_with fail
   go_ret
   exact⟨by simp,h1,h2⟩
  ·have hl':decide ((n:Int)=0)=false:=by simp;omega
   have hl2:((n:Int)==0)=false:=by simp;omega
   have hq:=HNO.out (by unfold tyHead;simp[hl])
   have HQ2:=Ld hq
   clear hq
   go_wp2_with (go_at_call 79;refine cR (ident_t' hi hsz _) ?_)
   go_ret
   exact⟨by rw[HQ2.out];rfl,by rw[HQ2.out];exact hbW,KW⟩
 by_cases k4:k=4
 ·subst k4
  by_cases hl:n=2
  ·subst hl
   cases he:(nm.toList==[])
   ·have hq:=HNO.out (by unfold tyHead;simp[*])
    have HQ2:=Ld hq
    clear hq
    go_wp2_with fail
    go_ret
    exact⟨by rw[HQ2.out];rfl,by rw[HQ2.out];exact hbW,KW⟩
   ·have hq:=HCON.out (by unfold tyHead;simp[*])
    have HQ2:=Ld hq
    clear hq
    go_wp2_with fail
    refine HQ2.out.mono ?_
    rintro e w' ⟨rfl,h1,h2⟩
    go_wp2_with fail
    go_ret
    exact⟨by simp,h1,h2⟩
  ·have hl':decide ((n:Int)=2)=false:=by simp;omega
   have hl2:((n:Int)==2)=false:=by simp;omega
   have hq:=HNO.out (by unfold tyHead;simp[hl])
   have HQ2:=Ld hq
   clear hq
   go_wp2_with fail
   go_ret
   exact⟨by rw[HQ2.out];rfl,by rw[HQ2.out];exact hbW,KW⟩
 by_cases k5:k=5
 ·subst k5
  by_cases hl:n=1
  ·subst hl
   cases he:(nm.toList==[])
   ·have hq:=HNO.out (by unfold tyHead;simp[*])
    have HQ2:=Ld hq
    clear hq
    go_wp2_with fail
    go_ret
    exact⟨by rw[HQ2.out];rfl,by rw[HQ2.out];exact hbW,KW⟩
   ·have hq:=HCON.out (by unfold tyHead;simp[*])
    have HQ2:=Ld hq
    clear hq
    go_wp2_with fail
    refine HQ2.out.mono ?_
    rintro e w' ⟨rfl,h1,h2⟩
    go_wp2_with fail
    go_ret
    exact⟨by simp,h1,h2⟩
  ·have hl':decide ((n:Int)=1)=false:=by simp;omega
   have hl2:((n:Int)==1)=false:=by simp;omega
   have hq:=HNO.out (by unfold tyHead;simp[hl])
   have HQ2:=Ld hq
   clear hq
   go_wp2_with fail
   go_ret
   exact⟨by rw[HQ2.out];rfl,by rw[HQ2.out];exact hbW,KW⟩
 have q1:(k==1)=false:=beq_false_of_ne k1
 have q2:(k==2)=false:=beq_false_of_ne k2
 have q3:(k==3)=false:=beq_false_of_ne k3
 have q4:(k==4)=false:=beq_false_of_ne k4
 have q5:(k==5)=false:=beq_false_of_ne k5
 have hq:=HNO.out (by unfold tyHead;simp[k1,k2,k3,k4,k5])
 have HQ2:=Ld hq
 clear hq k1 k2 k3 k4 k5
 go_wp2_with fail
 go_ret
 exact⟨by rw[HQ2.out];rfl,by rw[HQ2.out];exact hbW,KW⟩
end Go.Proofs.YtdmebjbkccjhbaaGreatDoor
