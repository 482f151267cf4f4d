/- A part. -/
import Derived.Test.YtdmebjbkccjhbaaGreatDoorV11
import Derived.Lib.AppendIntMem
import Derived.Shelf.SlIter.Collect
set_option linter.unusedVariables false
set_option linter.unusedSimpArgs false
set_option maxRecDepth 100000
set_option maxHeartbeats 32000000
namespace Go.Proofs.YtdmebjbkccjhbaaGreatDoor
open Go.RowKit
variable {bz:Nat}
def NdC (bz:Nat) (t:Tm):Prop:=∀ (w:World) (ok:Nat→Prop) (c d:Nat) (tk kk:Value),c≤2000→1≤d→d≤65→TyL bz ok w t.ty.kids tk→TmL bz ok w t.kids kk →
 Calls Tryz.prog 50 #[tmVal t tk kk,.int .i64 d,.int .i64 c] w fun e w'=>e=.returned (.int .i64 (tdR (fS 2000 64 t d c)))∧Kept (fun _=>False) w w'
theorem nd_no {op:Int} {nm:ByteArray} {N:Int} {ty:Ty} {l:List Tm} {d c:Nat} (h:((decide (c+1≤2000)&&decide (d≤64))&&formedB op nm N ty l.length)=false):tdR (fS 2000 64 (.mk op nm N ty l) d c)=-1:=by
 rw[f_eq,h];rfl
theorem nd_yes {op:Int} {nm:ByteArray} {N:Int} {ty:Ty} {l:List Tm} {d c:Nat} (hc:c+1≤2000) (hd:d≤64) (h:formedB op nm N ty l.length=true):fS 2000 64 (.mk op nm N ty l) d c=fsS 2000 64 l (d+1) (c+1):=by
 rw[f_eq,decide_eq_true hc,decide_eq_true hd,h];rfl
theorem nd_drop {l:List Tm} {d c k:Nat} (h:k<l.length):tdR (fsS 2000 64 (l.drop k) d c)=if (fS 2000 64 l[k] d c).1=true then tdR (fsS 2000 64 (l.drop (k+1)) d (fS 2000 64 l[k] d c).2) else -1:=by
 rw[fs_step h];split <;> rfl
theorem rnode_t {ok:Nat→Prop} {w:World} {op:Int} {nm:ByteArray} {N:Int} {ty:Ty} {a:Option Addr} {n c:Nat} {ma:Option Addr} {mn mc:Nat} (hk:TyL bz ok w ty.kids (.slice a n c)) (hs:SmTy big ty) (hsz:nm.size≤9223372036854775807) {v:Bool} (hv:formedB op nm N ty mn=v):
  Calls Tryz.prog 96 #[.agg #[.int .i64 op,.string nm,.int .i64 N,.int .i64 ty.kind,.string ty.name,.slice a n c,.slice ma mn mc]] w fun e w'=>e=.returned (.bool v)∧Kept (fun _=>False) w w':=by rw[← hv];exact rnode_any hk hs hsz op
theorem rnodes_bad {ok:Nat→Prop} {op:Int} {nm:ByteArray} {N:Int} {ty:Ty} {a:Option Addr} {n c':Nat} {ma:Option Addr} {mn mc c d:Nat} {w:World} (hk:TyL bz ok w ty.kids (.slice a n c')) (hs:SmTy big ty) (hsz:nm.size≤9223372036854775807) (hc:c≤2000) (h1:1≤d) (hd:d≤65)
  (h:((decide (c+1≤2000)&&decide (d≤64))&&formedB op nm N ty mn)=false):
  Calls Tryz.prog 50 #[.agg #[.int .i64 op,.string nm,.int .i64 N,.int .i64 ty.kind,.string ty.name,.slice a n c',.slice ma mn mc],.int .i64 d,.int .i64 c] w fun e w'=>e=.returned (.int .i64 (-1))∧Kept (fun _=>False) w w':=by
 have K1:Kept (fun _=>False) w (w.alloc (.cells #[.int .i64 op,.string nm,.int .i64 N,.int .i64 ty.kind,.string ty.name,.slice a n c',.slice ma mn mc] 27)):=kR.alloc _
 by_cases d6:d≤64
 case neg=>
  have i1:decide ((64:Int)<(d:Int))=true:=decide_eq_true (by omega)
  clear h
  go_enter Tryz.func50,Tryz.ntmps50
  go_wp2_with fail
  go_ret
  exact⟨rfl,K1⟩
 have i1:decide ((64:Int)<(d:Int))=false:=decide_eq_false (by omega)
 by_cases c6:c+1≤2000
 case neg=>
  have i2:decide ((2000:Int)<(c:Int)+1)=true:=decide_eq_true (by omega)
  clear h
  go_enter Tryz.func50,Tryz.ntmps50
  go_wp2_with fail
  go_ret
  exact⟨rfl,K1⟩
 have i2:decide ((2000:Int)<(c:Int)+1)=false:=decide_eq_false (by omega)
 rw[decide_eq_true d6,decide_eq_true c6,Bool.true_and,Bool.true_and] at h
 have HN:=Ld (rnode_t (ma:=ma) (mc:=mc) (hk.frame (Same.alloc w (.cells #[.int .i64 op,.string nm,.int .i64 N,.int .i64 ty.kind,.string ty.name,.slice a n c',.slice ma mn mc] 27))) hs hsz h)
 clear h hk
 go_enter Tryz.func50,Tryz.ntmps50
 go_wp2_with fail
 refine HN.out.mono ?_
 rintro e w1 ⟨rfl,k1⟩
 go_wp2_with fail
 go_ret
 exact⟨rfl,K1.trans k1⟩
theorem rnodes_leaf {ok:Nat→Prop} {op:Int} {nm:ByteArray} {N:Int} {ty:Ty} {a:Option Addr} {n c':Nat} {ma:Option Addr} {mc c d:Nat} {w:World} (hk:TyL bz ok w ty.kids (.slice a n c')) (hs:SmTy big ty) (hsz:nm.size≤9223372036854775807) (hc:c+1≤2000) (h1:1≤d) (hd:d≤64)
  (h:formedB op nm N ty 0=true):
  Calls Tryz.prog 50 #[.agg #[.int .i64 op,.string nm,.int .i64 N,.int .i64 ty.kind,.string ty.name,.slice a n c',.slice ma 0 mc],.int .i64 d,.int .i64 c] w fun e w'=>e=.returned (.int .i64 ((c+1:Nat):Int))∧Kept (fun _=>False) w w':=by
 have K1:Kept (fun _=>False) w (w.alloc (.cells #[.int .i64 op,.string nm,.int .i64 N,.int .i64 ty.kind,.string ty.name,.slice a n c',.slice ma 0 mc] 27)):=kR.alloc _
 have bA:Blk (w.alloc (.cells #[.int .i64 op,.string nm,.int .i64 N,.int .i64 ty.kind,.string ty.name,.slice a n c',.slice ma 0 mc] 27)) w.heap.size 27 [.int .i64 op,.string nm,.int .i64 N,.int .i64 ty.kind,.string ty.name,.slice a n c',.slice ma 0 mc]:=Blk.new w 27 _
 have i1:decide ((64:Int)<(d:Int))=false:=decide_eq_false (by omega)
 have i2:decide ((2000:Int)<(c:Int)+1)=false:=decide_eq_false (by omega)
 have HN:=Ld (rnode_t (ma:=ma) (mc:=mc) (hk.frame (Same.alloc w (.cells #[.int .i64 op,.string nm,.int .i64 N,.int .i64 ty.kind,.string ty.name,.slice a n c',.slice ma 0 mc] 27))) hs hsz h)
 clear h hk
 go_enter Tryz.func50,Tryz.ntmps50
 go_wp2_with fail
 refine HN.out.mono ?_
 rintro e w1 ⟨rfl,k1⟩
 have g2:w1.cell? ⟨w.heap.size,6,none⟩=some (.slice ma 0 mc):=(bA.kept k1 (fun h=>h)).cell 6
 go_wp2_with fail
 go_loop [7,2] (fun i m=>i=.int .i64 0∧m=.int .i64 ((c:Int)+1)) (fun i _=>0)
 case atStart=>exact⟨rfl,rfl⟩
 case round=>
  obtain⟨rfl,rfl⟩:=hrel
  go_wp2_with fail
  go_ret
  exact⟨rfl,K1.trans k1⟩
theorem rnodes_mk {ok:Nat→Prop} {op:Int} {nm:ByteArray} {N:Int} {ty:Ty} {l:List Tm} {a:Option Addr} {n c':Nat} {b off mc c d:Nat} {w:World} (IH:∀ t,t∈l→NdC bz t) (hk:TyL bz ok w ty.kids (.slice a n c')) (hs:SmTy big ty) (hsz:nm.size≤9223372036854775807) (hc:c+1≤2000) (h1:1≤d) (hd:d≤64)
  (h:formedB op nm N ty l.length=true) (K M:Nat→Value) (hb:ok b)
  (hcell:∀ i (h:i<l.length),w.cell? ⟨b,off+i*7,none⟩=some (.int .i64 l[i].op)∧w.cell? ⟨b,off+i*7+1,none⟩=some (.string l[i].name)∧w.cell? ⟨b,off+i*7+2,none⟩=some (.int .i64 l[i].n)∧w.cell? ⟨b,off+i*7+3,none⟩=some (.int .i64 l[i].ty.kind)∧w.cell? ⟨b,off+i*7+4,none⟩=some (.string l[i].ty.name)∧w.cell? ⟨b,off+i*7+5,none⟩=some (K i)∧w.cell? ⟨b,off+i*7+6,none⟩=some (M i))
  (hkk:∀ i (h:i<l.length),TyL bz ok w l[i].ty.kids (K i)) (hm:∀ i (h:i<l.length),TmL bz ok w l[i].kids (M i)):
  Calls Tryz.prog 50 #[.agg #[.int .i64 op,.string nm,.int .i64 N,.int .i64 ty.kind,.string ty.name,.slice a n c',.slice (some ⟨b,off,none⟩) l.length mc],.int .i64 d,.int .i64 c] w fun e w'=>e=.returned (.int .i64 (tdR (fsS 2000 64 l (d+1) (c+1))))∧Kept (fun _=>False) w w':=by
 have K1:Kept (fun _=>False) w (w.alloc (.cells #[.int .i64 op,.string nm,.int .i64 N,.int .i64 ty.kind,.string ty.name,.slice a n c',.slice (some ⟨b,off,none⟩) l.length mc] 27)):=kR.alloc _
 have bA:Blk (w.alloc (.cells #[.int .i64 op,.string nm,.int .i64 N,.int .i64 ty.kind,.string ty.name,.slice a n c',.slice (some ⟨b,off,none⟩) l.length mc] 27)) w.heap.size 27 [.int .i64 op,.string nm,.int .i64 N,.int .i64 ty.kind,.string ty.name,.slice a n c',.slice (some ⟨b,off,none⟩) l.length mc]:=Blk.new w 27 _
 have i1:decide ((64:Int)<(d:Int))=false:=decide_eq_false (by omega)
 have i2:decide ((2000:Int)<(c:Int)+1)=false:=decide_eq_false (by omega)
 have HN:=Ld (rnode_t (ma:=some ⟨b,off,none⟩) (mc:=mc) (hk.frame (Same.alloc w (.cells #[.int .i64 op,.string nm,.int .i64 N,.int .i64 ty.kind,.string ty.name,.slice a n c',.slice (some ⟨b,off,none⟩) l.length mc] 27))) hs hsz h)
 have HIH:=Ld IH
 have HC:=Ld hcell
 have HK:=Ld hkk
 have HM:=Ld hm
 clear h hk IH hcell hkk hm
 go_enter Tryz.func50,Tryz.ntmps50
 go_wp2_with fail
 refine HN.out.mono ?_
 rintro e w1 ⟨rfl,k1⟩
 have bA1:=bA.kept k1 (fun h=>h)
 have K2:=K1.trans k1
 go_wp2_with fail
 go_loopw [7,2] (fun i m wr=>∃ j cj:Nat,j≤l.length∧j≤cj∧i=.int .i64 j∧m=.int .i64 cj∧cj≤2000∧Kept (fun _=>False) w1 wr∧Hid (tdR (fsS 2000 64 l (d+1) (c+1))=tdR (fsS 2000 64 (l.drop j) (d+1) cj))) (fun i _ _=>l.length-(intOf i).toNat)
 case atStart=>exact⟨0,c+1,Nat.zero_le _,Nat.zero_le _,rfl,by go_num,hc,Kept.refl _ _,Ld rfl⟩
 case round=>
  obtain⟨j,cj,hj,hjc,rfl,rfl,hcj,kr,hq⟩:=hrel
  have bR:=bA1.kept kr (fun h=>h)
  have g2:wr.cell? ⟨w.heap.size,6,none⟩=some (.slice (some ⟨b,off,none⟩) l.length mc):=bR.cell 6
  by_cases hlt:j<l.length
  ·have KR:=K2.trans kr
   have c0:=(Same.of_kept (ok:=ok) KR (fun k h e=>e)).cell hb (HC.out j hlt).1
   have c1:=(Same.of_kept (ok:=ok) KR (fun k h e=>e)).cell hb (HC.out j hlt).2.1
   have c2:=(Same.of_kept (ok:=ok) KR (fun k h e=>e)).cell hb (HC.out j hlt).2.2.1
   have c3:=(Same.of_kept (ok:=ok) KR (fun k h e=>e)).cell hb (HC.out j hlt).2.2.2.1
   have c4:=(Same.of_kept (ok:=ok) KR (fun k h e=>e)).cell hb (HC.out j hlt).2.2.2.2.1
   have c5:=(Same.of_kept (ok:=ok) KR (fun k h e=>e)).cell hb (HC.out j hlt).2.2.2.2.2.1
   have c6:=(Same.of_kept (ok:=ok) KR (fun k h e=>e)).cell hb (HC.out j hlt).2.2.2.2.2.2
   obtain⟨ta,tn,tc,hKj⟩:=(HK.out j hlt).slice
   obtain⟨ua,un,uc,hMj⟩:=(HM.out j hlt).slice
   have hkk:=(HK.out j hlt).frame (Same.of_kept (ok:=ok) KR (fun k h e=>e))
   have hmm:=(HM.out j hlt).frame (Same.of_kept (ok:=ok) KR (fun k h e=>e))
   rw[hKj] at c5 hkk
   rw[hMj] at c6 hmm
   have hcon:=Ld (HIH.out _ (List.getElem_mem hlt) wr ok cj (d+1) _ _ hcj (by omega) (by omega) hkk hmm)
   have hst:=Ld (nd_drop (d:=d+1) (c:=cj) hlt)
   have hle:=Ld (f_le 2000 64 l[j] (d+1) cj hcj)
   clear hkk hmm hKj hMj
   have hj2:(j:Int)<(l.length:Int):=by omega
   have hj3:(j:Int)<100000000:=by omega
   cases hr:(fS 2000 64 l[j] (d+1) cj).1
   ·have e1:tdR (fS 2000 64 l[j] (d+1) cj)=-1:=by unfold tdR;rw[hr];rfl
    rw[e1] at hcon
    have HR:=Ld hr
    clear hr e1
    unfold tmVal at hcon
    go_wp2_with (go_at_call 50;refine hcon.out.mono ?_;rintro e w' ⟨rfl,k2⟩)
    go_ret
    refine⟨?_,KR.trans k2⟩
    rw[hq.out,hst.out,HR.out];rfl
   ·have e1:tdR (fS 2000 64 l[j] (d+1) cj)=((fS 2000 64 l[j] (d+1) cj).2:Int):=by unfold tdR;rw[hr];rfl
    rw[e1] at hcon
    have hle2:=hle.out hr
    have HR:=Ld hr
    clear hr e1
    generalize hcc:(fS 2000 64 l[j] (d+1) cj).2=cc at *
    have HCC:=Ld hcc
    have HL2:=Ld hle2
    have i5:decide ((cc:Int)<0)=false:=decide_eq_false (by omega)
    clear hcc hle2
    unfold tmVal at hcon
    go_wp2_with (go_at_call 50;refine hcon.out.mono ?_;rintro e w' ⟨rfl,k2⟩)
    go_roundw
    case rel=>
     refine⟨j+1,cc,by omega,by have:=HL2.out.1;omega,by go_num,rfl,HL2.out.2,kr.trans k2,Ld ?_⟩
     rw[hq.out,hst.out,HR.out,if_pos rfl]
    case measure=>simp[intOf];omega
  ·have hq2:Hid (tdR (fsS 2000 64 l (d+1) (c+1))=(cj:Int)):=Ld (by rw[hq.out,List.drop_eq_nil_of_le (by omega),fsS];rfl)
   go_wp2_with fail
   go_ret
   exact⟨by rw[hq2.out];rfl,K2.trans kr⟩
theorem rnodes_one {op:Int} {nm:ByteArray} {N:Int} {ty:Ty} {l:List Tm} (hsz:nm.size≤9223372036854775807) (hs:SmTy big ty) (IH:∀ t,t∈l→NdC bz t):NdC bz (.mk op nm N ty l):=by
 intro w ok c d tk kk hc h1 hd hk hm
 obtain⟨a,n,cp,rfl⟩:=hk.slice
 obtain⟨ma,mn,mc,rfl⟩:=hm.slice
 have hn:mn=l.length:=hm.len
 cases hh:((decide (c+1≤2000)&&decide (d≤64))&&formedB op nm N ty l.length)
 ·rw[nd_no hh]
  exact rnodes_bad hk hs hsz hc h1 hd (by rw[hn];exact hh)
 ·rw[Bool.and_eq_true,Bool.and_eq_true] at hh
  obtain⟨⟨hc1,hd1⟩,hh⟩:=hh
  have hc1:=of_decide_eq_true hc1
  have hd1:=of_decide_eq_true hd1
  rw[nd_yes hc1 hd1 hh]
  subst hn
  have hm':TmL bz ok w l (.slice ma l.length mc):=hm
  cases l with
  | nil=>
   rw[fsS]
   exact rnodes_leaf hk hs hsz hc1 h1 hd1 hh
  | cons t l=>
   cases hm' with
   | mk K M hne hb hcap hcell hkk hmm hs2=>exact rnodes_mk IH hk hs hsz hc1 h1 hd1 hh K M hb hcell hkk hmm
theorem rnodes_any {t:Tm} (h:SmTm big t):NdC bz t:=by
 induction h with
 | mk hn ht hl ih=>exact rnodes_one hn ht ih
theorem rvalid_any {ok:Nat→Prop} {w:World} {t:Tm} {a:Option Addr} {n c:Nat} {ma:Option Addr} {mn mc:Nat} (hk:TyL bz ok w t.ty.kids (.slice a n c)) (hm:TmL bz ok w t.kids (.slice ma mn mc)) (hs:SmTm big t):
  Calls Tryz.prog 16 #[.agg #[.int .i64 t.op,.string t.name,.int .i64 t.n,.int .i64 t.ty.kind,.string t.ty.name,.slice a n c,.slice ma mn mc]] w fun e w'=>e=.returned (.bool (validB t))∧Kept (fun _=>False) w w':=by
 have hk2:=hk.frame (Same.alloc w (.cells #[.int .i64 t.op,.string t.name,.int .i64 t.n,.int .i64 t.ty.kind,.string t.ty.name,.slice a n c,.slice ma mn mc] 27))
 have hm2:=hm.frame (Same.alloc w (.cells #[.int .i64 t.op,.string t.name,.int .i64 t.n,.int .i64 t.ty.kind,.string t.ty.name,.slice a n c,.slice ma mn mc] 27))
 have hC:=Ld (rnodes_any (bz:=bz) hs _ ok 0 1 _ _ (by decide) (by decide) (by decide) hk2 hm2)
 have K1:Kept (fun _=>False) w (w.alloc (.cells #[.int .i64 t.op,.string t.name,.int .i64 t.n,.int .i64 t.ty.kind,.string t.ty.name,.slice a n c,.slice ma mn mc] 27)):=kR.alloc _
 have hle:=f_le 2000 64 t 1 0 (Nat.zero_le _)
 have HV:Hid (decide (0<tdR (fS 2000 64 t 1 0))=validB t):=Ld (by
  unfold tdR validB
  cases hr:(fS 2000 64 t 1 0).1
  ·rfl
  ·have:=(hle hr).1
   rw[if_pos rfl]
   exact decide_eq_true (by omega))
 clear hle hk2 hm2
 unfold tmVal at hC
 go_enter Tryz.func16,Tryz.ntmps16
 go_wp2_with fail
 refine hC.out.mono ?_
 rintro e w' ⟨rfl,k2⟩
 go_wp2_with fail
 go_ret
 exact⟨by rw[← HV.out];rfl,K1.trans k2⟩
inductive OkTm:Tm→Prop
 | mk {op:Int} {nm:ByteArray} {N:Int} {ty:Ty} {l:List Tm} (h:formedB op nm N ty l.length=true) (hn:l.length≤100000) (hl:∀ t,t∈l→OkTm t):OkTm (.mk op nm N ty l)
theorem OkTm.formed {t:Tm} (h:OkTm t):formedB t.op t.name t.n t.ty t.kids.length=true:=by cases h;assumption
theorem formed_parts {op:Int} {nm:ByteArray} {N:Int} {ty:Ty} {n:Nat} (h:formedB op nm N ty n=true):kidOk op n=true∧nmOk op nm=true∧nOk op N=true∧tyOk op ty=true:=by
 unfold formedB at h
 rw[Bool.and_eq_true,Bool.and_eq_true,Bool.and_eq_true] at h
 exact⟨h.1,h.2.1.1,h.2.1.2,h.2.2⟩
theorem f_ok (most deep:Nat) (hmo:most≤100000):∀ (t:Tm) (d:Nat) (c:Nat),c≤most→(fS most deep t d c).1=true→OkTm t:=by
 intro t
 induction t using Tm.rec (motive_2:=fun l=>∀ (d c:Nat),c≤most→(fsS most deep l d c).1=true→c+l.length≤(fsS most deep l d c).2∧(fsS most deep l d c).2≤most∧∀ t,t∈l→OkTm t) with
 | mk op nm N ty l ih=>
  intro d c hc h
  rw[f_eq] at h
  split at h
  ·rename_i hb
   have hb':=hb
   simp only[Bool.and_eq_true,decide_eq_true_eq] at hb'
   have q:=ih _ _ hb'.1.1 h
   exact .mk hb'.2 (by omega) q.2.2
  ·cases h
 | nil=>rename_i d c hc h;exact⟨Nat.le_refl _,hc,fun t h=>by cases h⟩
 | cons t l iht ihl=>
  rename_i d c hc h
  rw[fsS] at h ⊢
  cases hr:fS most deep t d c with
  | mk b c'=>
   cases b
   ·rw[hr] at h;cases h
   ·rw[hr] at h
    have a:=f_le most deep t d c hc (by rw[hr])
    rw[hr] at a
    have q:=ihl d c' a.2 h
    have p:=iht d c hc (by rw[hr])
    simp only at a q ⊢
    refine⟨by rw[List.length_cons];omega,q.2.1,fun t' h'=>?_⟩
    rcases List.mem_cons.1 h' with rfl | h'
    ·exact p
    ·exact q.2.2 t' h'
theorem valid_ok {t:Tm} (h:validB t=true):OkTm t:=f_ok 2000 64 (by decide) t 1 0 (Nat.zero_le _) h
theorem tmNs_app (a b:List Tm):tmNs (a++b)=tmNs a+tmNs b:=by
 induction a with
 | nil=>simp[tmNs]
 | cons t a ih=>simp only[List.cons_append,tmNs,ih];omega
theorem tmDs_app (a b:List Tm):tmDs (a++b)=max (tmDs a) (tmDs b):=by
 induction a with
 | nil=>simp[tmDs]
 | cons t a ih=>simp only[List.cons_append,tmDs,ih];omega
theorem tmNs_snoc (l:List Tm) (j:Nat) (h:j<l.length):tmNs (l.take (j+1))=tmNs (l.take j)+tmN l[j]:=by
 rw[List.take_succ_eq_append_getElem h,tmNs_app];simp[tmNs]
theorem tmDs_snoc (l:List Tm) (j:Nat) (h:j<l.length):tmDs (l.take (j+1))=max (tmDs (l.take j)) (tmD l[j]):=by
 rw[List.take_succ_eq_append_getElem h,tmDs_app];simp[tmDs]
theorem tmNs_take (l:List Tm) (j:Nat):tmNs (l.take j)≤tmNs l:=by
 have:=tmNs_app (l.take j) (l.drop j)
 rw[List.take_append_drop] at this;omega
theorem tmNs_len (l:List Tm):l.length≤tmNs l:=by
 induction l with
 | nil=>simp
 | cons t l ih=>cases t;simp only[tmNs,tmN,List.length_cons];omega
theorem tmD_le (t:Tm):tmD t≤tmN t:=by
 induction t using Tm.rec (motive_2:=fun l=>tmDs l≤tmNs l) with
 | mk op nm N ty l ih=>simp only[tmD,tmN];omega
 | nil=>simp[tmDs,tmNs]
 | cons t l iht ihl=>simp only[tmDs,tmNs];omega
theorem f_sz (most deep:Nat):∀ (t:Tm) (d c:Nat),(fS most deep t d c).1=true→(fS most deep t d c).2=c+tmN t:=by
 intro t
 induction t using Tm.rec (motive_2:=fun l=>∀ (d c:Nat),(fsS most deep l d c).1=true→(fsS most deep l d c).2=c+tmNs l) with
 | mk op nm N ty l ih=>
  intro d c h
  rw[f_eq] at h ⊢
  split at h
  ·rename_i hb
   rw[if_pos hb,ih _ _ h,tmN];omega
  ·cases h
 | nil=>rename_i d c h;rfl
 | cons t l iht ihl=>
  rename_i d c h
  rw[fsS] at h ⊢
  cases hr:fS most deep t d c with
  | mk b c'=>
   cases b
   ·rw[hr] at h;cases h
   ·rw[hr] at h
    have p:=iht d c (by rw[hr])
    rw[hr] at p
    have q:=ihl d c' h
    simp only at p q ⊢
    rw[q,p,tmNs];omega
theorem valid_sz {t:Tm} (h:validB t=true):(fS 2000 64 t 1 0).2=tmN t∧tmN t≤2000:=by
 have h1:=f_sz 2000 64 t 1 0 h
 have h2:=(f_le 2000 64 t 1 0 (Nat.zero_le _) h).2
 omega
def SzC (bz:Nat) (t:Tm):Prop:=∀ (w:World) (ok:Nat→Prop) (tk kk:Value),tmN t≤100000→TyL bz ok w t.ty.kids tk→TmL bz ok w t.kids kk →
 Calls Tryz.prog 99 #[tmVal t tk kk] w fun e w'=>e=.returned (.tuple #[.int .i64 (tmN t),.int .i64 (tmD t)])∧Kept (fun _=>False) w w'
theorem size_leaf {op:Int} {nm:ByteArray} {N:Int} {k:Int} {tnm:ByteArray} {a:Option Addr} {n c':Nat} {ma:Option Addr} {mc:Nat} {w:World}:
  Calls Tryz.prog 99 #[.agg #[.int .i64 op,.string nm,.int .i64 N,.int .i64 k,.string tnm,.slice a n c',.slice ma 0 mc]] w fun e w'=>e=.returned (.tuple #[.int .i64 1,.int .i64 1])∧Kept (fun _=>False) w w':=by
 have K1:Kept (fun _=>False) w (w.alloc (.cells #[.int .i64 op,.string nm,.int .i64 N,.int .i64 k,.string tnm,.slice a n c',.slice ma 0 mc] 27)):=kR.alloc _
 go_enter Tryz.func99,Tryz.ntmps99
 go_wp2_with fail
 go_loop [11,2,3] (fun i m d=>i=.int .i64 0∧m=.int .i64 0∧d=.int .i64 0) (fun i _ _=>0)
 case atStart=>exact⟨rfl,rfl,rfl⟩
 case round=>
  obtain⟨rfl,rfl,rfl⟩:=hrel
  go_wp2_with fail
  go_ret2
  exact⟨rfl,K1⟩
theorem size_mk {ok:Nat→Prop} {op:Int} {nm:ByteArray} {N:Int} {k:Int} {tnm:ByteArray} {l:List Tm} {a:Option Addr} {n c':Nat} {b off mc:Nat} {w:World} (IH:∀ t,t∈l→SzC bz t) (hN:tmNs l≤100000) (K M:Nat→Value) (hb:ok b)
  (hcell:∀ i (h:i<l.length),w.cell? ⟨b,off+i*7,none⟩=some (.int .i64 l[i].op)∧w.cell? ⟨b,off+i*7+1,none⟩=some (.string l[i].name)∧w.cell? ⟨b,off+i*7+2,none⟩=some (.int .i64 l[i].n)∧w.cell? ⟨b,off+i*7+3,none⟩=some (.int .i64 l[i].ty.kind)∧w.cell? ⟨b,off+i*7+4,none⟩=some (.string l[i].ty.name)∧w.cell? ⟨b,off+i*7+5,none⟩=some (K i)∧w.cell? ⟨b,off+i*7+6,none⟩=some (M i))
  (hkk:∀ i (h:i<l.length),TyL bz ok w l[i].ty.kids (K i)) (hm:∀ i (h:i<l.length),TmL bz ok w l[i].kids (M i)):
  Calls Tryz.prog 99 #[.agg #[.int .i64 op,.string nm,.int .i64 N,.int .i64 k,.string tnm,.slice a n c',.slice (some ⟨b,off,none⟩) l.length mc]] w fun e w'=>e=.returned (.tuple #[.int .i64 ((tmNs l+1:Nat):Int),.int .i64 ((tmDs l+1:Nat):Int)])∧Kept (fun _=>False) w w':=by
 have K1:Kept (fun _=>False) w (w.alloc (.cells #[.int .i64 op,.string nm,.int .i64 N,.int .i64 k,.string tnm,.slice a n c',.slice (some ⟨b,off,none⟩) l.length mc] 27)):=kR.alloc _
 have HIH:=Ld IH
 have HC:=Ld hcell
 have HK:=Ld hkk
 have HM:=Ld hm
 have hlen:=tmNs_len l
 have hl9:(l.length:Int)<100001:=by omega
 have HNN:=Ld hN
 have HD:Hid (∀ j,tmDs (l.take j)≤tmNs (l.take j)):=Ld (fun j=>by
  have:∀ m:List Tm,tmDs m≤tmNs m:=by
   intro m
   induction m with
   | nil=>simp[tmDs,tmNs]
   | cons t m ih=>have:=tmD_le t;simp only[tmDs,tmNs];omega
  exact this _)
 clear IH hcell hkk hm hN hlen
 go_enter Tryz.func99,Tryz.ntmps99
 go_wp2_with fail
 generalize w.alloc (.cells #[.int .i64 op,.string nm,.int .i64 N,.int .i64 k,.string tnm,.slice a n c',.slice (some ⟨b,off,none⟩) l.length mc] 27)=w1 at *
 go_loopw [11,2,3] (fun i m d wr=>∃ j:Nat,j≤l.length∧i=.int .i64 j∧m=.int .i64 (tmNs (l.take j))∧d=.int .i64 (tmDs (l.take j))∧Kept (fun _=>False) w1 wr) (fun i _ _ _=>l.length-(intOf i).toNat)
 case atStart=>exact⟨0,Nat.zero_le _,rfl,rfl,rfl,Kept.refl _ _⟩
 case round=>
  obtain⟨j,hj,rfl,rfl,rfl,kr⟩:=hrel
  by_cases hlt:j<l.length
  ·have KR:=K1.trans kr
   have c0:=(Same.of_kept (ok:=ok) KR (fun k h e=>e)).cell hb (HC.out j hlt).1
   have c1:=(Same.of_kept (ok:=ok) KR (fun k h e=>e)).cell hb (HC.out j hlt).2.1
   have c2:=(Same.of_kept (ok:=ok) KR (fun k h e=>e)).cell hb (HC.out j hlt).2.2.1
   have c3:=(Same.of_kept (ok:=ok) KR (fun k h e=>e)).cell hb (HC.out j hlt).2.2.2.1
   have c4:=(Same.of_kept (ok:=ok) KR (fun k h e=>e)).cell hb (HC.out j hlt).2.2.2.2.1
   have c5:=(Same.of_kept (ok:=ok) KR (fun k h e=>e)).cell hb (HC.out j hlt).2.2.2.2.2.1
   have c6:=(Same.of_kept (ok:=ok) KR (fun k h e=>e)).cell hb (HC.out j hlt).2.2.2.2.2.2
   obtain⟨ta,tn,tc,hKj⟩:=(HK.out j hlt).slice
   obtain⟨ua,un,uc,hMj⟩:=(HM.out j hlt).slice
   have hkk:=(HK.out j hlt).frame (Same.of_kept (ok:=ok) KR (fun k h e=>e))
   have hmm:=(HM.out j hlt).frame (Same.of_kept (ok:=ok) KR (fun k h e=>e))
   rw[hKj] at c5 hkk
   rw[hMj] at c6 hmm
   have hs1:=tmNs_snoc l j hlt
   have hs2:=tmDs_snoc l j hlt
   have hs3:=tmNs_take l (j+1)
   have hs4:=HD.out j
   have hs5:=tmD_le l[j]
   have hs6:=HNN.out
   have KA:Kept (fun _=>False) wr (wr.alloc (.cells #[.int .i64 l[j].op,.string l[j].name,.int .i64 l[j].n,.int .i64 l[j].ty.kind,.string l[j].ty.name,.slice ta tn tc,.slice ua un uc] 27)):=kR.alloc _
   have hcon:=Ld (HIH.out _ (List.getElem_mem hlt) _ ok _ _ (by omega) (hkk.frame (Same.of_kept (ok:=ok) KA (fun k h e=>e))) (hmm.frame (Same.of_kept (ok:=ok) KA (fun k h e=>e))))
   clear hkk hmm hKj hMj
   have hj2:(j:Int)<(l.length:Int):=by omega
   have HS1:=Ld hs1
   have HS2:=Ld hs2
   have b1:(tmNs (l.take j):Int)+(tmN l[j]:Int)<100001:=by omega
   have b2:(0:Int)≤(tmNs (l.take j):Int)+(tmN l[j]:Int):=by omega
   have b3:(tmDs (l.take j):Int)<100001:=by omega
   have b4:(tmD l[j]:Int)<100001:=by omega
   clear hs1 hs2 hs3 hs4 hs5 hs6
   unfold tmVal at hcon
   go_wp2_with (go_at_call 99;refine hcon.out.mono ?_;rintro e w' ⟨rfl,k2⟩)
   go_roundw
   case rel=>
    refine⟨j+1,by omega,by go_num,?_,?_,(kr.trans KA).trans k2⟩
    ·rw[HS1.out];congr 1
    ·rw[HS2.out];congr 1;omega
   case measure=>simp[intOf];omega
  ·have e1:l.take j=l:=List.take_of_length_le (by omega)
   have hs4:=HD.out l.length
   rw[List.take_length] at hs4
   have hs6:=HNN.out
   rw[e1] at *
   have b1:(tmNs l:Int)+1<100002:=by omega
   have b2:(tmDs l:Int)+1<100002:=by omega
   clear hs4 hs6
   go_wp2_with fail
   go_ret2
   exact⟨rfl,K1.trans kr⟩
theorem size_any (t:Tm):SzC bz t:=by
 induction t using Tm.rec (motive_2:=fun l=>∀ t,t∈l→SzC bz t) with
 | mk op nm N ty l ih=>
  intro w ok tk kk hN hk hm
  obtain⟨a,n,cp,rfl⟩:=hk.slice
  obtain⟨ma,mn,mc,rfl⟩:=hm.slice
  have hn:mn=l.length:=hm.len
  subst hn
  have hm':TmL bz ok w l (.slice ma l.length mc):=hm
  rw[tmN,tmD]
  rw[tmN] at hN
  cases l with
  | nil=>exact size_leaf
  | cons t l=>
   cases hm' with
   | mk K M hne hb hcap hcell hkk hmm hs2=>exact size_mk ih (by omega) K M hb hcell hkk hmm
 | nil=>rename_i t h;cases h
 | cons t l iht ihl => rename_i u hu;rcases List.mem_cons.1 hu with rfl | hu
                       ·exact iht
                       ·exact ihl u hu
def DpC (bz:Nat) (t:Tm):Prop:=∀ (w:World) (ok:Nat→Prop) (tk kk:Value),tmN t≤100000→TyL bz ok w t.ty.kids tk→TmL bz ok w t.kids kk →
 Calls Tryz.prog 196 #[tmVal t tk kk] w fun e w'=>e=.returned (.int .i64 (tmD t))∧Kept (fun _=>False) w w'
theorem depth_leaf {op:Int} {nm:ByteArray} {N:Int} {k:Int} {tnm:ByteArray} {a:Option Addr} {n c':Nat} {ma:Option Addr} {mc:Nat} {w:World}:
  Calls Tryz.prog 196 #[.agg #[.int .i64 op,.string nm,.int .i64 N,.int .i64 k,.string tnm,.slice a n c',.slice ma 0 mc]] w fun e w'=>e=.returned (.int .i64 1)∧Kept (fun _=>False) w w':=by
 have K1:Kept (fun _=>False) w (w.alloc (.cells #[.int .i64 op,.string nm,.int .i64 N,.int .i64 k,.string tnm,.slice a n c',.slice ma 0 mc] 27)):=kR.alloc _
 go_enter Tryz.func196,Tryz.ntmps196
 go_wp2_with fail
 go_loop [4,3] (fun i d=>i=.int .i64 0∧d=.int .i64 0) (fun i _=>0)
 case atStart=>exact⟨rfl,rfl⟩
 case round=>
  obtain⟨rfl,rfl⟩:=hrel
  go_wp2_with fail
  go_ret
  exact⟨rfl,K1⟩
theorem depth_mk {ok:Nat→Prop} {op:Int} {nm:ByteArray} {N:Int} {k:Int} {tnm:ByteArray} {l:List Tm} {a:Option Addr} {n c':Nat} {b off mc:Nat} {w:World} (IH:∀ t,t∈l→DpC bz t) (hN:tmNs l≤100000) (K M:Nat→Value) (hb:ok b)
  (hcell:∀ i (h:i<l.length),w.cell? ⟨b,off+i*7,none⟩=some (.int .i64 l[i].op)∧w.cell? ⟨b,off+i*7+1,none⟩=some (.string l[i].name)∧w.cell? ⟨b,off+i*7+2,none⟩=some (.int .i64 l[i].n)∧w.cell? ⟨b,off+i*7+3,none⟩=some (.int .i64 l[i].ty.kind)∧w.cell? ⟨b,off+i*7+4,none⟩=some (.string l[i].ty.name)∧w.cell? ⟨b,off+i*7+5,none⟩=some (K i)∧w.cell? ⟨b,off+i*7+6,none⟩=some (M i))
  (hkk:∀ i (h:i<l.length),TyL bz ok w l[i].ty.kids (K i)) (hm:∀ i (h:i<l.length),TmL bz ok w l[i].kids (M i)):
  Calls Tryz.prog 196 #[.agg #[.int .i64 op,.string nm,.int .i64 N,.int .i64 k,.string tnm,.slice a n c',.slice (some ⟨b,off,none⟩) l.length mc]] w fun e w'=>e=.returned (.int .i64 ((tmDs l+1:Nat):Int))∧Kept (fun _=>False) w w':=by
 have K1:Kept (fun _=>False) w (w.alloc (.cells #[.int .i64 op,.string nm,.int .i64 N,.int .i64 k,.string tnm,.slice a n c',.slice (some ⟨b,off,none⟩) l.length mc] 27)):=kR.alloc _
 have bA:Blk (w.alloc (.cells #[.int .i64 op,.string nm,.int .i64 N,.int .i64 k,.string tnm,.slice a n c',.slice (some ⟨b,off,none⟩) l.length mc] 27)) w.heap.size 27 [.int .i64 op,.string nm,.int .i64 N,.int .i64 k,.string tnm,.slice a n c',.slice (some ⟨b,off,none⟩) l.length mc]:=Blk.new w 27 _
 have HIH:=Ld IH
 have HC:=Ld hcell
 have HK:=Ld hkk
 have HM:=Ld hm
 have hlen:=tmNs_len l
 have hl9:(l.length:Int)<100001:=by omega
 have HNN:=Ld hN
 have HD:Hid (∀ j,tmDs (l.take j)≤tmNs (l.take j)):=Ld (fun j=>by
  have:∀ m:List Tm,tmDs m≤tmNs m:=by
   intro m
   induction m with
   | nil=>simp[tmDs,tmNs]
   | cons t m ih=>have:=tmD_le t;simp only[tmDs,tmNs];omega
  exact this _)
 clear IH hcell hkk hm hN hlen
 go_enter Tryz.func196,Tryz.ntmps196
 go_wp2_with fail
 generalize w.alloc (.cells #[.int .i64 op,.string nm,.int .i64 N,.int .i64 k,.string tnm,.slice a n c',.slice (some ⟨b,off,none⟩) l.length mc] 27)=w1 at *
 go_loopw [4,3] (fun i d wr=>∃ j:Nat,j≤l.length∧i=.int .i64 j∧d=.int .i64 (tmDs (l.take j))∧Kept (fun _=>False) w1 wr) (fun i _ _=>l.length-(intOf i).toNat)
 case atStart=>exact⟨0,Nat.zero_le _,rfl,rfl,Kept.refl _ _⟩
 case round=>
  obtain⟨j,hj,rfl,rfl,kr⟩:=hrel
  have bR:=bA.kept kr (fun h=>h)
  have g2:wr.cell? ⟨w.heap.size,6,none⟩=some (.slice (some ⟨b,off,none⟩) l.length mc):=bR.cell 6
  by_cases hlt:j<l.length
  ·have KR:=K1.trans kr
   have c0:=(Same.of_kept (ok:=ok) KR (fun k h e=>e)).cell hb (HC.out j hlt).1
   have c1:=(Same.of_kept (ok:=ok) KR (fun k h e=>e)).cell hb (HC.out j hlt).2.1
   have c2:=(Same.of_kept (ok:=ok) KR (fun k h e=>e)).cell hb (HC.out j hlt).2.2.1
   have c3:=(Same.of_kept (ok:=ok) KR (fun k h e=>e)).cell hb (HC.out j hlt).2.2.2.1
   have c4:=(Same.of_kept (ok:=ok) KR (fun k h e=>e)).cell hb (HC.out j hlt).2.2.2.2.1
   have c5:=(Same.of_kept (ok:=ok) KR (fun k h e=>e)).cell hb (HC.out j hlt).2.2.2.2.2.1
   have c6:=(Same.of_kept (ok:=ok) KR (fun k h e=>e)).cell hb (HC.out j hlt).2.2.2.2.2.2
   obtain⟨ta,tn,tc,hKj⟩:=(HK.out j hlt).slice
   obtain⟨ua,un,uc,hMj⟩:=(HM.out j hlt).slice
   have hkk:=(HK.out j hlt).frame (Same.of_kept (ok:=ok) KR (fun k h e=>e))
   have hmm:=(HM.out j hlt).frame (Same.of_kept (ok:=ok) KR (fun k h e=>e))
   rw[hKj] at c5 hkk
   rw[hMj] at c6 hmm
   have hs1:=tmNs_snoc l j hlt
   have hs2:=tmDs_snoc l j hlt
   have hs3:=tmNs_take l (j+1)
   have hs4:=HD.out j
   have hs5:=tmD_le l[j]
   have hs6:=HNN.out
   have hcon:=Ld (HIH.out _ (List.getElem_mem hlt) wr ok _ _ (by omega) hkk hmm)
   clear hkk hmm hKj hMj
   have hj2:(j:Int)<(l.length:Int):=by omega
   have HS2:=Ld hs2
   have b3:(tmDs (l.take j):Int)<100001:=by omega
   have b4:(tmD l[j]:Int)<100001:=by omega
   clear hs1 hs2 hs3 hs4 hs5 hs6
   unfold tmVal at hcon
   go_wp2_with (go_at_call 196;refine hcon.out.mono ?_;rintro e w' ⟨rfl,k2⟩)
   go_roundw
   case rel=>
    refine⟨j+1,by omega,by go_num,?_,kr.trans k2⟩
    rw[HS2.out];congr 1;omega
   case measure=>simp[intOf];omega
  ·have e1:l.take j=l:=List.take_of_length_le (by omega)
   have hs4:=HD.out l.length
   rw[List.take_length] at hs4
   have hs6:=HNN.out
   rw[e1] at *
   have b2:(tmDs l:Int)+1<100002:=by omega
   clear hs4 hs6
   go_wp2_with fail
   go_ret
   exact⟨rfl,K1.trans kr⟩
theorem depth_any (t:Tm):DpC bz t:=by
 induction t using Tm.rec (motive_2:=fun l=>∀ t,t∈l→DpC bz t) with
 | mk op nm N ty l ih=>
  intro w ok tk kk hN hk hm
  obtain⟨a,n,cp,rfl⟩:=hk.slice
  obtain⟨ma,mn,mc,rfl⟩:=hm.slice
  have hn:mn=l.length:=hm.len
  subst hn
  have hm':TmL bz ok w l (.slice ma l.length mc):=hm
  rw[tmD]
  rw[tmN] at hN
  cases l with
  | nil=>exact depth_leaf
  | cons t l=>
   cases hm' with
   | mk K M hne hb hcap hcell hkk hmm hs2=>exact depth_mk ih (by omega) K M hb hcell hkk hmm
 | nil=>rename_i t h;cases h
 | cons t l iht ihl => rename_i u hu;rcases List.mem_cons.1 hu with rfl | hu
                       ·exact iht
                       ·exact ihl u hu
def szA (t:Tm):Int:=if validB t then tmN t else 0
def szB (t:Tm):Int:=if validB t then tmD t else 0
theorem rsize_of {ok:Nat→Prop} {w:World} {t:Tm} {a:Option Addr} {n c:Nat} {ma:Option Addr} {mn mc:Nat} (hk:TyL bz ok w t.ty.kids (.slice a n c)) (hm:TmL bz ok w t.kids (.slice ma mn mc)) (hs:SmTm big t):
  Calls Tryz.prog 154 #[.agg #[.int .i64 t.op,.string t.name,.int .i64 t.n,.int .i64 t.ty.kind,.string t.ty.name,.slice a n c,.slice ma mn mc]] w fun e w'=>e=.returned (.tuple #[.int .i64 (szA t),.int .i64 (szB t)])∧Kept (fun _=>False) w w':=by
 have K1:Kept (fun _=>False) w (w.alloc (.cells #[.int .i64 t.op,.string t.name,.int .i64 t.n,.int .i64 t.ty.kind,.string t.ty.name,.slice a n c,.slice ma mn mc] 27)):=kR.alloc _
 have bA:Blk (w.alloc (.cells #[.int .i64 t.op,.string t.name,.int .i64 t.n,.int .i64 t.ty.kind,.string t.ty.name,.slice a n c,.slice ma mn mc] 27)) w.heap.size 27 (tmCells t (.slice a n c) (.slice ma mn mc)):=Blk.new w 27 _
 have hk2:=hk.frame (Same.of_kept (ok:=ok) K1 (fun k h e=>e))
 have hm2:=hm.frame (Same.of_kept (ok:=ok) K1 (fun k h e=>e))
 have HV:=Ld (rnodes_any (bz:=bz) hs _ ok 0 1 _ _ (by decide) (by decide) (by decide) hk2 hm2)
 have HW:=Ld (fun W (k:Kept (fun _=>False) (w.alloc (.cells #[.int .i64 t.op,.string t.name,.int .i64 t.n,.int .i64 t.ty.kind,.string t.ty.name,.slice a n c,.slice ma mn mc] 27)) W) (h:tmN t≤100000)=>depth_any t W ok _ _ h (hk2.frame (Same.of_kept (ok:=ok) k (fun k h e=>e))) (hm2.frame (Same.of_kept (ok:=ok) k (fun k h e=>e))))
 unfold tmVal at HW HV
 clear hk2 hm2
 cases hv:validB t
 ·have e1:Hid (szA t=0∧szB t=0):=Ld (by unfold szA szB;rw[hv];exact⟨rfl,rfl⟩)
  have e2:tdR (fS 2000 64 t 1 0)=-1:=by unfold tdR;rw[show (fS 2000 64 t 1 0).1=false from hv];rfl
  rw[e2] at HV
  clear e2
  go_enter Tryz.func154,Tryz.ntmps154
  go_wp2_with fail
  refine HV.out.mono ?_
  rintro e w1 ⟨rfl,k1⟩
  go_wp2_with fail
  go_ret2
  exact⟨by rw[e1.out.1,e1.out.2];rfl,K1.trans k1⟩
 ·have e1:Hid (szA t=tmN t∧szB t=tmD t):=Ld (by unfold szA szB;rw[hv];exact⟨rfl,rfl⟩)
  have hz:=(valid_sz hv).2
  have HZ:=Ld (show tmN t≤100000 by omega)
  have e2:tdR (fS 2000 64 t 1 0)=(tmN t:Int):=by unfold tdR;rw[show (fS 2000 64 t 1 0).1=true from hv,if_pos rfl,(valid_sz hv).1]
  rw[e2] at HV
  have i5:decide ((tmN t:Int)<0)=false:=decide_eq_false (by omega)
  clear hz e2
  go_enter Tryz.func154,Tryz.ntmps154
  go_wp2_with fail
  refine HV.out.mono ?_
  rintro e w1 ⟨rfl,k1⟩
  have gA:∀ i,w1.cell? ⟨w.heap.size,i,none⟩=(tmCells t (.slice a n c) (.slice ma mn mc))[i]?:=(bA.kept k1 (fun h=>h)).cell
  unfold tmCells at gA
  have HS:=Ld (HW.out w1 k1 HZ.out)
  go_wp2_with fail
  refine HS.out.mono ?_
  rintro e w2 ⟨rfl,k2⟩
  go_wp2_with fail
  go_ret2
  exact⟨by rw[e1.out.1,e1.out.2];rfl,(K1.trans k1).trans k2⟩
theorem f_iff (most deep:Nat) (hmo:most≤100000):∀ (t:Tm) (d c:Nat),c≤most→d≤deep+1→((fS most deep t d c).1=true↔OkTm t∧c+tmN t≤most∧d+tmD t≤deep+1):=by
 intro t
 induction t using Tm.rec (motive_2:=fun l=>∀ (d c:Nat),c≤most→d≤deep+1→((fsS most deep l d c).1=true↔(∀ t,t∈l→OkTm t)∧c+tmNs l≤most∧d+tmDs l≤deep+1)) with
 | mk op nm N ty l ih=>
  intro d c hc hd
  rw[f_eq,tmN,tmD]
  by_cases hb:((decide (c+1≤most)&&decide (d≤deep))&&formedB op nm N ty l.length)=true
  ·rw[if_pos hb]
   simp only[Bool.and_eq_true,decide_eq_true_eq] at hb
   rw[ih (d+1) (c+1) hb.1.1 (by omega)]
   have hl:=tmNs_len l
   constructor
   ·rintro⟨h1,h2,h3⟩
    exact⟨.mk hb.2 (by omega) h1,by omega,by omega⟩
   ·rintro⟨h1,h2,h3⟩
    cases h1 with
    | mk _ _ h1=>exact⟨h1,by omega,by omega⟩
  ·rw[if_neg hb]
   constructor
   ·intro h;cases h
   ·rintro⟨h1,h2,h3⟩
    exfalso
    apply hb
    simp only[Bool.and_eq_true,decide_eq_true_eq]
    exact⟨⟨by omega,by omega⟩,h1.formed⟩
 | nil=>
  rename_i d c hc hd
  constructor
  ·intro _
   refine⟨?_,?_,?_⟩
   ·intro t h;cases h
   ·show c+0≤most;omega
   ·show d+0≤deep+1;omega
  ·intro _;rfl
 | cons t l iht ihl=>
  rename_i d c hc hd
  rw[fsS,tmNs,tmDs]
  have ht:=iht d c hc hd
  cases hr:fS most deep t d c with
  | mk b c'=>
   rw[hr] at ht
   cases b
   ·simp only[Bool.false_eq_true,false_iff] at ht
    constructor
    ·intro h;cases h
    ·rintro⟨h1,h2,h3⟩
     exact (ht ⟨h1 t (by simp),by omega,by omega⟩).elim
   ·have hs:=f_sz most deep t d c (by rw[hr])
    rw[hr] at hs
    simp only[true_iff] at ht
    have hs:c'=c+tmN t:=hs
    show (fsS most deep l d c').1=true↔_
    rw[ihl d c' (by omega) hd,hs]
    constructor
    ·rintro⟨h1,h2,h3⟩
     refine⟨fun u hu=>?_,by omega,by omega⟩
     rcases List.mem_cons.1 hu with rfl | hu
     ·exact ht.1
     ·exact h1 u hu
    ·rintro⟨h1,h2,h3⟩
     exact⟨fun u hu=>h1 u (List.mem_cons_of_mem _ hu),by omega,by omega⟩
theorem valid_iff (t:Tm):validB t=true↔OkTm t∧tmN t≤2000∧tmD t≤64:=by
 unfold validB
 rw[f_iff 2000 64 (by decide) t 1 0 (by decide) (by decide)]
 constructor
 ·rintro⟨a,b,c⟩;exact⟨a,by omega,by omega⟩
 ·rintro⟨a,b,c⟩;exact⟨a,by omega,by omega⟩
theorem OkTm.kid {t u:Tm} (h:OkTm t) (hu:u∈t.kids):OkTm u:=by cases h with | mk _ _ hl=>exact hl u hu
theorem zero_ty {t:Ty} (h:zeroTyB t=true):t=ty0:=by
 obtain⟨k,nm,l⟩:=t
 unfold zeroTyB at h
 simp only[Bool.and_eq_true,Ty.kind,Ty.name,Ty.kids,beq_iff_eq] at h
 obtain⟨⟨h1,h2⟩,h3⟩:=h
 rw[Go.ByteArray.toList_eq] at h2
 have e:nm=⟨#[]⟩:=ByteArray.ext (Array.toList_inj.1 h2)
 rw[h1,e,List.isEmpty_iff.1 h3];rfl
theorem OkTm.nw:∀ {t:Tm},OkTm t→NW t:=by
 intro t h
 induction h with
 | mk h hn hl ih=>
  refine .mk (fun e=>?_) ih
  subst e
  obtain⟨h1,h2,h3,h4⟩:=formed_parts h
  refine⟨?_,?_,?_⟩
  ·unfold nOk at h3;simpa using h3
  ·unfold tyOk at h4
   rw[if_neg (by decide)] at h4
   exact zero_ty h4
  ·unfold kidOk at h1
   have e:kidsN 20=(0,true):=rfl
   rw[e] at h1
   simp at h1
   exact h1
theorem binder_ne {op:Int} (h:binderB op=true):op≠20∧op≠19∧op≠29∧op≠28:=by
 unfold binderB at h
 simp only[Bool.or_eq_true,beq_iff_eq] at h
 omega
theorem binder_kids {op:Int} (h:binderB op=true) {n:Nat} (hk:kidOk op n=true):n=2:=by
 unfold binderB at h
 simp only[Bool.or_eq_true,beq_iff_eq] at h
 have e:kidsN op=(2,true):=by
  rcases h with ((h | h) | h) | h <;> subst h <;> rfl
 unfold kidOk at hk
 rw[e] at hk
 simp at hk;omega
theorem formed_name2 {op:Int} {nm z:ByteArray} {N:Int} {ty:Ty} {n:Nat} (h:formedB op nm N ty n=true) (hb:binderB op=true) (hz:identB z=true):formedB op z N ty n=true:=by
 obtain⟨h1,h2,h3,h4⟩:=formed_parts h
 unfold formedB
 rw[h1,h3,h4]
 unfold nmOk
 rw[if_neg (binder_ne hb).1,if_pos hb,hz];rfl
theorem formed_ident {op:Int} {nm:ByteArray} {N:Int} {ty:Ty} {n:Nat} (h:formedB op nm N ty n=true) (hb:binderB op=true):identB nm=true:=by
 obtain⟨h1,h2,h3,h4⟩:=formed_parts h
 unfold nmOk at h2
 rw[if_neg (binder_ne hb).1,if_pos hb] at h2;exact h2
theorem nameT_ok {s:ByteArray} (h:namedB s=true):OkTm (nameT s):=by
 unfold nameT
 refine .mk ?_ (by simp) (fun t ht=>by cases ht)
 unfold formedB nmOk
 rw[if_pos rfl,h];kernel_rfl
theorem subK_len (FS:ByteArray→List ByteArray→ByteArray) (bi:Bool) (l inn:List (ByteArray×Tm)):∀ (ks:List Tm) (i:Nat),(subK FS bi l inn i ks).length=ks.length
 | [],i=>rfl
 | t::r,i=>by rw[subK,List.length_cons,subK_len FS bi l inn r,List.length_cons]
def OkB (l:List (ByteArray×Tm)):Prop:=∀ b∈l,OkTm b.2
theorem look_mem {l:List (ByteArray×Tm)} {s:ByteArray} {u:Tm} (h:look l s=some u):∃ b∈l,b.2=u:=by
 induction l with
 | nil=>cases h
 | cons b l ih=>
  rw[look] at h
  by_cases hb:b.1=s
  ·rw[if_pos hb] at h;cases h;exact⟨b,by simp,rfl⟩
  ·rw[if_neg hb] at h;obtain⟨c,hc,e⟩:=ih h;exact⟨c,List.mem_cons_of_mem _ hc,e⟩
theorem remG_mem (x:ByteArray) (F:List ByteArray):∀ (l out:List (ByteArray×Tm)) (b:ByteArray×Tm),b∈remG x F out l→b∈out∨b∈l
 | [],out,b,h=>Or.inl h
 | c::l,out,b,h=>by
  rw[remG] at h
  split at h
  ·rcases remG_mem x F l out b h with h | h
   ·exact Or.inl h
   ·exact Or.inr (List.mem_cons_of_mem _ h)
  ·rcases remG_mem x F l _ b h with h | h
   ·rcases List.mem_append.1 h with h | h
    ·exact Or.inl h
    ·rw[List.mem_singleton.1 h];exact Or.inr (by simp)
   ·exact Or.inr (List.mem_cons_of_mem _ h)
theorem remL_mem {x:ByteArray} {F:List ByteArray} {l:List (ByteArray×Tm)} {b:ByteArray×Tm} (h:b∈remL l x F):b∈l:=by
 rcases remG_mem x F l [] b h with h | h
 ·cases h
 ·exact h
theorem newN_ident {x:ByteArray} {body:Tm} {l:List (ByteArray×Tm)} (hx:identB x=true) (hM:tmN body+(frB l).length≤800000):identB (newN freshS x body l)=true:=by
 unfold newN
 split
 ·refine freshS_ident hx ?_
  rw[List.length_append]
  have:=frs_len body
  have:=remL_len x (fr body) l
  omega
 ·exact hx
theorem inner_okB {x:ByteArray} {body:Tm} {l:List (ByteArray×Tm)} (hx:identB x=true) (hM:tmN body+(frB l).length≤800000) (hl:OkB l):OkB (inner freshS x body l):=by
 have hr:OkB (remL l x (fr body)):=fun b hb=>hl b (remL_mem hb)
 unfold inner
 split
 ·intro b hb
  rcases List.mem_append.1 hb with hb | hb
  ·exact hr b hb
  ·rw[List.mem_singleton.1 hb];exact nameT_ok (ident_named (newN_ident hx hM))
 ·exact hr
theorem sub_ok:∀ {t:Tm},OkTm t→∀ (l:List (ByteArray×Tm)),OkB l→tmN t+(frB l).length≤800000→OkTm (subT freshS t l):=by
 intro t
 induction t using Tm.rec (motive_2:=fun ks=>∀ (bi:Bool) (l inn:List (ByteArray×Tm)) (i:Nat),(∀ t∈ks,OkTm t)→OkB l→tmNs ks+(frB l).length≤800000→(∀ (j:Nat) (t:Tm),ks[j]?=some t→(bi&&(i+j)==1)=true→OkB inn∧tmN t+(frB inn).length≤800000)→∀ u∈subK freshS bi l inn i ks,OkTm u) with
 | mk op nm N ty ks ih=>
  intro h l hl hM
  have h0:=h
  cases h with
  | mk hf hn hk=>
   rw[tmN] at hM
   rw[subT]
   by_cases h20:op=20
   ·rw[if_pos h20]
    cases hq:look l nm with
    | none=>exact h0
    | some u=>obtain⟨b,hb,e⟩:=look_mem hq;rw[← e];exact hl b hb
   ·rw[if_neg h20]
    cases hb:binderB op
    ·simp only[Bool.false_eq_true,if_false]
     refine .mk (by rw[subK_len];exact hf) (by rw[subK_len];exact hn) (ih false l l 0 hk hl (by omega) (fun j t _ e=>by cases e))
    ·simp only[if_true]
     have hid:=formed_ident hf hb
     have e2:=binder_kids hb (formed_parts hf).1
     match ks,e2 with
     | [d,body],_=>
      have eg:([d,body]:List Tm).getD 1 (nameT nm)=body:=rfl
      rw[eg]
      simp only[tmNs] at hM
      refine .mk (by rw[subK_len];exact formed_name2 hf hb (newN_ident hid (by omega))) (by rw[subK_len];exact hn) (ih true l _ 0 hk hl (by simp only[tmNs];omega) (fun j t hj e=>?_))
      have hj1:j=1:=by simpa using e
      subst hj1
      have hj2:body=t:=by simpa using hj
      subst hj2
      exact⟨inner_okB hid (by omega) hl,by have:=inner_len freshS nm body l;omega⟩
 | nil=>rename_i u hu;cases hu
 | cons t ks iht ihl=>
  rename_i bi l inn i hk hl hM hin u hu
  rw[tmNs] at hM
  rw[subK] at hu
  rcases List.mem_cons.1 hu with rfl | hu
  ·cases hb:(bi&&i==1)
   ·simp only[Bool.false_eq_true,if_false];exact iht (hk t (by simp)) l hl (by omega)
   ·simp only[if_true]
    obtain⟨h1,h2⟩:=hin 0 t rfl (by rw[Nat.add_zero];exact hb)
    exact iht (hk t (by simp)) inn h1 h2
  ·exact ihl bi l inn (i+1) (fun t ht=>hk t (List.mem_cons_of_mem _ ht)) hl (by omega) (fun j t hj e=>hin (j+1) t (by simpa using hj) (by rw[show i+(j+1)=i+1+j by omega];exact e)) u hu
theorem sub_nil (FS:ByteArray→List ByteArray→ByteArray):∀ (t:Tm),subT FS t []=t:=by
 have hr:∀ x F,remL [] x F=[]:=fun x F=>rfl
 have hi:∀ x body,inner FS x body []=[]:=fun x body=>by
  unfold inner;rw[hr];rfl
 have hn:∀ x body,newN FS x body []=x:=fun x body=>by
  unfold newN;rw[hr];rfl
 intro t
 induction t using Tm.rec (motive_2:=fun ks=>∀ (bi:Bool) (i:Nat),subK FS bi [] [] i ks=ks) with
 | mk op nm N ty ks ih=>
  rw[subT]
  split
  ·rfl
  ·split
   ·rw[hi,hn,ih]
   ·rw[ih]
 | nil=>rfl
 | cons t ks iht ihl=>
  rename_i bi i
  rw[subK,ihl]
  have e:(if (bi&&i==1)=true then ([]:List (ByteArray×Tm)) else [])=[]:=by split <;> rfl
  rw[e,iht]
theorem valid_of {t:Tm} (h:OkTm t):validB t=(decide (tmN t≤2000)&&decide (tmD t≤64)):=by
 rw[Bool.eq_iff_iff,valid_iff,Bool.and_eq_true,decide_eq_true_eq,decide_eq_true_eq]
 exact⟨fun ⟨_,a,b⟩=>⟨a,b⟩,fun ⟨a,b⟩=>⟨h,a,b⟩⟩
theorem ident_sz {s:ByteArray} (h:identB s=true):s.size≤16:=by
 unfold identB at h
 simp only[Bool.and_eq_true,decide_eq_true_eq] at h
 omega
theorem named_sz {s:ByteArray} (h:namedB s=true):s.size≤17:=by
 unfold namedB at h
 have h1:=ident_sz h
 rcases trim_parts s with ⟨_,h2,h3⟩ | ⟨_,h2⟩
 ·rw[h3] at h1
  have:s.size≤(s.extract 0 (s.size-1)).size+1:=by simp[ByteArray.size_extract];omega
  omega
 ·rw[h2] at h1;omega
theorem head_sz {k:Int} {nm:ByteArray} {n:Nat} {wi:Bool} (h:tyHead k nm n wi=true):nm.size≤17:=by
 have key:∀ {s:ByteArray},(s.toList==[])=true→s.size≤17:=by
  intro s h
  rw[beq_iff_eq,Go.ByteArray.toList_eq] at h
  cases s with | mk a=>simp at h;rw[h];decide
 unfold tyHead at h
 split at h
 ·rw[Bool.and_eq_true] at h;exact key h.2
 ·split at h
  ·rw[Bool.and_eq_true] at h;exact key h.2
  ·split at h
   ·rw[Bool.and_eq_true] at h;have:=ident_sz h.1;omega
   ·split at h
    ·rw[Bool.and_eq_true] at h;exact key h.2
    ·split at h
     ·rw[Bool.and_eq_true] at h;exact key h.2
     ·cases h
theorem tf_sm (most deep:Nat):∀ (t:Ty) (d:Nat) (wi:Bool) (c:Nat),(tfS most deep t d wi c).1=true→SmTy big t:=by
 intro t
 induction t using Ty.rec (motive_2:=fun l=>∀ (d c:Nat),(tfsS most deep l d c).1=true→∀ t,t∈l→SmTy big t) with
 | mk k nm l ih=>
  intro d wi c h
  rw[tf_eq] at h
  split at h
  ·rename_i hb
   have hh:tyHead k nm l.length wi=true:=by simp at hb;exact hb.2
   have:=head_sz hh
   exact .mk (by unfold big;omega) (ih _ _ h)
  ·cases h
 | nil=>rename_i d c h t ht;cases ht
 | cons t l iht ihl=>
  rename_i d c h t' h'
  rw[tfsS] at h
  cases hr:tfS most deep t d true c with
  | mk b c'=>
   cases b
   ·rw[hr] at h;cases h
   ·rw[hr] at h
    rcases List.mem_cons.1 h' with rfl | h'
    ·exact iht d true c (by rw[hr])
    ·exact ihl d c' h t' h'
theorem formed_sm {op:Int} {nm:ByteArray} {N:Int} {ty:Ty} {n:Nat} (h:formedB op nm N ty n=true):nm.size≤17∧SmTy big ty:=by
 obtain⟨_,h2,_,h4⟩:=formed_parts h
 constructor
 ·unfold nmOk at h2
  split at h2
  ·exact named_sz h2
  ·split at h2
   ·have:=ident_sz h2;omega
   ·have:nm=⟨#[]⟩:=by
     rw[beq_iff_eq] at h2
     rw[Go.ByteArray.toList_eq] at h2
     cases nm with | mk a=>simp at h2;rw[h2]
    rw[this];decide
 ·unfold tyOk at h4
  split at h4
  ·rw[Bool.and_eq_true] at h4
   exact tf_sm 16 6 ty 1 false 0 h4.2
  ·rw[zero_ty h4];exact .mk (by decide) (fun t h=>by cases h)
theorem ok_bd {t:Tm} (h:OkTm t):BdTm t:=by
 induction h with
 | mk h hn hl ih=>exact .mk (by omega) (formed_bd h) ih
theorem ok_name {op:Int} {nm:ByteArray} {N:Int} {ty:Ty} {ks:List Tm} (h:OkTm (.mk op nm N ty ks)):nm.size≤17:=(formed_sm h.formed).1
structure ClcR (b p n m:Nat) (c:ByteArray→Nat) (B:ByteArray→Bool) (w w':World):Prop where
 kp:Kept (fun q=>q=b∨q=p) w w'
 bo:∃ f,MapF w' b n f∧CntF f c
 into:MapF w' p m (bagF B)
def ClcC (bz:Nat) (t:Tm):Prop:=∀ (B:ByteArray→Bool) (c:ByteArray→Nat) (w:World) (ok:Nat→Prop) (tk kk:Value) (b n p m:Nat),TyL bz ok w t.ty.kids tk→TmL bz ok w t.kids kk→(∃ f,MapF w b n f∧CntF f c)→MapF w p m (bagF B)→b≠p→(∀ q,ok q→q≠b∧q≠p)→n+2*tmN t≤1000000→m+tmN t≤1000000→(∀ s,c s+tmD t≤1000000) →
 Calls Tryz.prog 91 #[tmVal t tk kk,.map (some b),.map (some p)] w fun e w'=>e=.returned (.tuple #[])∧ClcR b p (n+2*tmN t) (m+tmN t) c (fun s=>B s||(mb s (fr t)&&decide (c s=0))) w w'
theorem frs_drop {bi:Bool} {nm:ByteArray} {ks:List Tm} {k:Nat} (h:k<ks.length) (s:ByteArray):mb s (frs bi nm k (ks.drop k))=((mb s (fr ks[k])&&!(bi&&k==1&&decide (s=nm)))||mb s (frs bi nm (k+1) (ks.drop (k+1)))):=by
 rw[List.drop_eq_getElem_cons h,frs,mb_app]
 congr 1
 cases hb:(bi&&k==1)
 ·simp
 ·simp only[if_true,Bool.true_and]
  rw[Bool.eq_iff_iff,mb_iff,List.mem_filter,Bool.and_eq_true,mb_iff]
theorem kid_dn {ks:List Tm} {t:Tm} (h:t∈ks):tmD t≤tmDs ks:=by
 induction ks with
 | nil=>cases h
 | cons a ks ih=>
  rw[tmDs]
  rcases List.mem_cons.1 h with rfl | h
  ·omega
  ·have:=ih h;omega
structure ClcS (w:World) (ce:List Value) (b p n m:Nat) (c:ByteArray→Nat) (B:ByteArray→Bool) (W:World):Prop where
 r:ClcR b p n m c B w W
 a:Blk W w.heap.size 27 ce
theorem ClcS.kept {w:World} {ce:List Value} {b p n m:Nat} {c:ByteArray→Nat} {B:ByteArray→Bool} {W W':World} (h:ClcS w ce b p n m c B W) (k:Kept (fun _=>False) W W'):ClcS w ce b p n m c B W':=by
 obtain⟨⟨h1,⟨f,h2,h3⟩,h4⟩,h5⟩:=h
 exact⟨⟨h1.trans (k.mono (fun _ _ e=>e.elim)),⟨f,h2.kept k (fun e=>e),h3⟩,h4.kept k (fun e=>e)⟩,h5.kept k (fun e=>e)⟩
theorem ClcS.step {w:World} {ce:List Value} {b p n m n' m':Nat} {c c':ByteArray→Nat} {B B':ByteArray→Bool} {W W':World} (h:ClcS w ce b p n m c B W) (hl:b<w.heap.size∧p<w.heap.size∧b≠p) (r:ClcR b p n' m' c' B' W W'):ClcS w ce b p n' m' c' B' W':=
 ⟨⟨h.r.kp.trans r.kp,r.bo,r.into⟩,h.a.kept r.kp (fun e=>by rcases e with e | e <;> omega)⟩
theorem ClcS.cnt {w:World} {ce:List Value} {b p n m n':Nat} {c c':ByteArray→Nat} {B:ByteArray→Bool} {W W':World} {f':ByteArray→Option Value} (h:ClcS w ce b p n m c B W) (hl:b<w.heap.size∧p<w.heap.size∧b≠p) (hm:MapF W' b n' f') (hf:CntF f' c') (k:Kept (fun q=>q=b) W W'):ClcS w ce b p n' m c' B W':=
 ⟨⟨h.r.kp.trans (k.mono (fun _ _ e=>Or.inl e)),⟨f',hm,hf⟩,h.r.into.kept k (fun e=>hl.2.2 e.symm)⟩,h.a.kept k (fun e=>by omega)⟩
theorem clc_one {op:Int} {nm:ByteArray} {N:Int} {ty:Ty} {ks:List Tm} (IH:∀ u,u∈ks→ClcC bz u) (hkn:ks.length≤1000000) (h20:op=20→ks=[]) (hnz:nm.size≤maxLen):ClcC bz (.mk op nm N ty ks):=by
 intro B c w ok tk kk b n p m h1 h2 hb hp hbp hok hn hm hc
 have h1:TyL bz ok w ty.kids tk:=h1
 have h2:TmL bz ok w ks kk:=h2
 obtain⟨a,an,ac,rfl⟩:=h1.slice
 obtain⟨ma,mn,mc,rfl⟩:=h2.slice
 change Calls Tryz.prog 91 #[.agg #[.int .i64 op,.string nm,.int .i64 N,.int .i64 ty.kind,.string ty.name,.slice a an ac,.slice ma mn mc],.map (some b),.map (some p)] w _
 obtain rfl:mn=ks.length:=h2.len
 have K0:Kept (fun _=>False) w (w.alloc (.cells #[.int .i64 op,.string nm,.int .i64 N,.int .i64 ty.kind,.string ty.name,.slice a an ac,.slice ma ks.length mc] 27)):=kR.alloc _
 have S1:Hid (ClcS w [Value.int .i64 op,.string nm,.int .i64 N,.int .i64 ty.kind,.string ty.name,.slice a an ac,.slice ma ks.length mc] b p n m c B (w.alloc (.cells #[.int .i64 op,.string nm,.int .i64 N,.int .i64 ty.kind,.string ty.name,.slice a an ac,.slice ma ks.length mc] 27))):=Ld (by
  obtain⟨f,hb1,hb2⟩:=hb
  exact⟨⟨K0.mono (fun _ _ e=>e.elim),⟨f,hb1.kept K0 (fun e=>e),hb2⟩,hp.kept K0 (fun e=>e)⟩,Blk.new w 27 _⟩)
 have HAT:=Ld (fun W (k:Kept (fun q=>q=b∨q=p) w W)=>(h2.frame (Same.of_kept k (fun q hq e=>by rcases e with e | e;exact (hok q hq).1 e;exact (hok q hq).2 e))).at)
 have hpl:p<w.heap.size:=hp.lt
 have hbl:b<w.heap.size:=by obtain⟨f,hb1,_⟩:=hb;exact hb1.lt
 have LB:Hid (b<w.heap.size∧p<w.heap.size∧b≠p):=Ld ⟨hbl,hpl,hbp⟩
 have HOK:=Ld hok
 have HIH:=Ld IH
 have HKN:=Ld hkn
 have HN0:Hid (n+2*tmNs ks+2≤n+2*tmN (.mk op nm N ty ks)∧m+tmNs ks+1≤m+tmN (.mk op nm N ty ks)):=Ld (by rw[tmN];omega)
 have HNB:=Ld hn
 have HMB:=Ld hm
 have HNZ:=Ld hnz
 have HCB:Hid (∀ s,c s+tmDs ks+1≤1000000):=Ld (fun s=>by have:=hc s;rw[tmD] at this;omega)
 obtain⟨Bf0,hBf0⟩:∃ Bf:ByteArray→Bool,Bf=fun s=>B s||(mb s (fr (.mk op nm N ty ks))&&decide (c s=0)):=⟨_,rfl⟩
 rw[← hBf0]
 have HBF:Hid (∀ B1:ByteArray→Bool,(∀ s,B1 s=(B s||(decide (op=20)&&decide (c nm=0)&&decide (s=nm))))→∀ s,Bf0 s=(B1 s||(mb s (frs (binderB op) nm 0 (ks.drop 0))&&decide (c s=0)))):=Ld (fun B1 hB1 s=>by
  rw[hBf0]
  show (B s||(mb s (fr (.mk op nm N ty ks))&&decide (c s=0)))=_
  rw[hB1,fr]
  by_cases ho:op=20
  ·rw[if_pos ho,h20 ho]
   have e1:mb s [nm]=decide (s=nm):=by unfold mb;simp;exact⟨fun h=>h.symm,fun h=>h.symm⟩
   have e2:mb s (frs (binderB op) nm 0 (([]:List Tm).drop 0))=false:=by simp[frs,mb]
   rw[e1,e2]
   by_cases hs:s=nm
   ·subst hs;simp[ho]
   ·simp[hs]
  ·rw[if_neg ho];simp[ho])
 clear h1 h2 hb hp hok hn hm hc IH hkn h20 hnz hbp hpl hbl K0 hBf0
 go_enter Tryz.func91,Tryz.ntmps91
 go_upto_region 1 with (fail)
 generalize w.alloc (.cells #[.int .i64 op,.string nm,.int .i64 N,.int .i64 ty.kind,.string ty.name,.slice a an ac,.slice ma ks.length mc] 27)=w1 at *
 obtain⟨f1,hb1,hf1⟩:=S1.out.r.bo
 have hlk:=hb1.look u95 (z3 _) HNZ.out
 rw[hf1 nm] at hlk
 have gA:=S1.out.a.cell
 clear hf1 hb1
 go_cut [18] (fun v wc=>v=.bool (decide (op=20)&&decide (c nm=0))∧wc=w1)
 case first=>
  have hcn:((c nm:Int)=0)↔c nm=0:=by omega
  by_cases ho:op=20
  ·subst ho
   by_cases hc0:c nm=0
   ·have hc1:((c nm:Int)==0)=true:=by simp[hc0]
    have hc2:decide (c nm=0)=true:=by simp[hc0]
    go_wp2_with fail
    go_meet
    case rel=>exact⟨by simp[hc0],rfl⟩
   ·have hc1:((c nm:Int)==0)=false:=by simp;exact hc0
    go_wp2_with fail
    go_meet
    case rel=>exact⟨by simp[hc0],rfl⟩
  ·have ho1:(op==20)=false:=by simp[ho]
   go_wp2_with fail
   go_meet
   case rel=>exact⟨by simp[ho],rfl⟩
 case rest=>
  obtain⟨rfl,rfl⟩:=hcut
  clear hlk
  generalize (decide (op=20)&&decide (c nm=0))=q0 at *
  go_upto_if 18 with (fail)
  go_cut [] (fun wd=>∃ B1,ClcS w [Value.int .i64 op,.string nm,.int .i64 N,.int .i64 ty.kind,.string ty.name,.slice a an ac,.slice ma ks.length mc] b p n (m+1) c B1 wd∧∀ s,Bf0 s=(B1 s||(mb s (frs (binderB op) nm 0 (ks.drop 0))&&decide (c s=0))))
  case first=>
   cases q0
   ·have HB1:=Ld (HBF.out B (fun s=>by simp))
    go_wp2_with fail
    go_meet
    case rel=>exact⟨B,⟨⟨S1.out.r.kp,S1.out.r.bo,S1.out.r.into.mono (Nat.le_succ _)⟩,S1.out.a⟩,HB1.out⟩
   ·have HB1:=Ld (HBF.out (fun s=>B s||decide (s=nm)) (fun s=>by simp))
    have HMM:Hid (m<maxLen):=Ld (by have:=HMB.out;unfold maxLen;omega)
    go_wp2_with (at_mapUpdate;refine wpList_storeF rfl _ _ _ _ 4 rfl u90 rfl S1.out.r.into nm rfl HNZ.out HMM.out (.bool true) rfl ?_;intro w2 hm2 k2)
    rw[bagF_upd] at hm2
    have S2:Hid (ClcS w [Value.int .i64 op,.string nm,.int .i64 N,.int .i64 ty.kind,.string ty.name,.slice a an ac,.slice ma ks.length mc] b p n (m+1) c (fun s=>B s||decide (s=nm)) w2):=Ld (by
     obtain⟨f,hb1,hb2⟩:=S1.out.r.bo
     exact⟨⟨S1.out.r.kp.trans (k2.mono (fun x _ e=>Or.inr e)),⟨f,hb1.kept k2 (fun e=>LB.out.2.2 e),hb2⟩,hm2⟩,S1.out.a.kept k2 (fun e=>by have:=LB.out.2.1;omega)⟩)
    clear hm2 k2
    go_wp2_with fail
    go_meet
    case rel=>exact⟨_,S2.out,HB1.out⟩
  case rest=>
   obtain⟨B1,hS2,hB1⟩:=hcut
   have S2:=Ld hS2
   have HB1:=Ld hB1
   clear S1 hS2 hB1 HBF gA
   generalize wc=w2 at *
   have gA:=S2.out.a.cell
   go_wp2_with fail
   go_loopw [25] (fun i wr=>∃ (k n' m':Nat) (B':ByteArray→Bool),k≤ks.length∧i=.int .i64 k∧ClcS w [Value.int .i64 op,.string nm,.int .i64 N,.int .i64 ty.kind,.string ty.name,.slice a an ac,.slice ma ks.length mc] b p n' m' c B' wr∧Hid (∀ s,Bf0 s=(B' s||(mb s (frs (binderB op) nm k (ks.drop k))&&decide (c s=0))))∧Hid (n'+2*tmNs (ks.drop k)+(if k≤1 then 2 else 0)≤n+2*tmN (.mk op nm N ty ks))∧Hid (m'+tmNs (ks.drop k)≤m+tmN (.mk op nm N ty ks))) (fun i _=>ks.length-(intOf i).toNat)
   case atStart=>exact⟨0,n,m+1,B1,Nat.zero_le _,rfl,S2.out,Ld HB1.out,Ld (by have:=HN0.out.1;simpa using this),Ld (by have:=HN0.out.2;simp;omega)⟩
   case round=>
    obtain⟨k,n',m',B',hkl,rfl,hS,hq,hn',hm'⟩:=hrel
    have S:=Ld hS
    clear hS S2 gA
    by_cases hlt:k<ks.length
    ·have i1:(k:Int)<(ks.length:Int):=by omega
     have i2:(k:Int)<1000000:=by have:=HKN.out;omega
     obtain⟨q1,o1,ta,tn,tc,pa,pn,pc,rfl,hq1,lq,hC,hkt,hkm⟩:=HAT.out wr S.out.r.kp k hlt
     have HD:=Ld (fun s=>frs_drop (bi:=binderB op) (nm:=nm) hlt s)
     obtain⟨c0,c1,c2,c3,c4,c5,c6⟩:=hC
     have KR:Kept (fun _=>False) wr (wr.alloc (.cells #[.int .i64 ks[k].op,.string ks[k].name,.int .i64 ks[k].n,.int .i64 ks[k].ty.kind,.string ks[k].ty.name,.slice ta tn tc,.slice pa pn pc] 27)):=kR.alloc _
     have S3:=Ld (S.out.kept KR)
     have bK:=Ld (Blk.new wr 27 [.int .i64 ks[k].op,.string ks[k].name,.int .i64 ks[k].n,.int .i64 ks[k].ty.kind,.string ks[k].ty.name,.slice ta tn tc,.slice pa pn pc])
     change Hid (Blk (wr.alloc (.cells #[.int .i64 ks[k].op,.string ks[k].name,.int .i64 ks[k].n,.int .i64 ks[k].ty.kind,.string ks[k].ty.name,.slice ta tn tc,.slice pa pn pc] 27)) _ _ _) at bK
     have HKT:=Ld (fun W (kw:Kept (fun q=>q=b∨q=p) wr W)=>hkt.frame (Same.of_kept kw (fun q hq e=>by rcases e with e | e;exact (HOK.out q hq).1 e;exact (HOK.out q hq).2 e)))
     have HKM:=Ld (fun W (kw:Kept (fun q=>q=b∨q=p) wr W)=>hkm.frame (Same.of_kept kw (fun q hq e=>by rcases e with e | e;exact (HOK.out q hq).1 e;exact (HOK.out q hq).2 e)))
     have KR2:Hid (Kept (fun q=>q=b∨q=p) wr (wr.alloc (.cells #[.int .i64 ks[k].op,.string ks[k].name,.int .i64 ks[k].n,.int .i64 ks[k].ty.kind,.string ks[k].ty.name,.slice ta tn tc,.slice pa pn pc] 27))):=Ld (KR.mono (fun _ _ e=>e.elim))
     have LBR:Hid (b<wr.heap.size∧p<wr.heap.size):=Ld ⟨by have:=LB.out.1;have:=S.out.r.kp.size;omega,by have:=LB.out.2.1;have:=S.out.r.kp.size;omega⟩
     have HK1:=Ld (fun W Bk ck kw nk mk hb hp hn hm hc=>HIH.out _ (List.getElem_mem hlt) Bk ck W ok _ _ b nk p mk (HKT.out W kw) (HKM.out W kw) hb hp LB.out.2.2 HOK.out hn hm hc)
     unfold tmVal at HK1
     have HDM:Hid (tmD ks[k]≤tmDs ks∧tmNs (ks.drop k)=tmN ks[k]+tmNs (ks.drop (k+1))∧1≤tmN ks[k]):=Ld ⟨kid_dn (List.getElem_mem hlt),by rw[List.drop_eq_getElem_cons hlt,tmNs],by cases ks[k] with | mk=>rw[tmN];omega⟩
     clear hkt hkm KR
     generalize ks[k]=u at *
     go_upto_region 6 with (fail)
     clear c0 c1 c2 c3 c4 c5 c6
     have hwr:(wr.alloc (.cells #[.int .i64 u.op,.string u.name,.int .i64 u.n,.int .i64 u.ty.kind,.string u.ty.name,.slice ta tn tc,.slice pa pn pc] 27)).heap.size=wr.heap.size+1:=World.size_alloc _ _
     generalize wr.alloc (.cells #[.int .i64 u.op,.string u.name,.int .i64 u.n,.int .i64 u.ty.kind,.string u.ty.name,.slice ta tn tc,.slice pa pn pc] 27)=w3 at *
     have gA:=S3.out.a.cell
     have HI:Hid ((binderB op&&k==1)=true→∀ s,Bf0 s=((B' s||(mb s (fr u)&&decide ((if s=nm then c nm+1 else c s)=0)))||(mb s (frs (binderB op) nm (k+1) (ks.drop (k+1)))&&decide (c s=0)))):=Ld (fun hin s=>by
      rw[hq.out,HD.out,hin]
      by_cases hs:s=nm
      ·subst hs;simp
      ·simp[hs]
       cases B' s <;> cases mb s (fr u) <;> cases mb s (frs (binderB op) nm (k+1) (ks.drop (k+1))) <;> cases decide (c s=0) <;> rfl)
     have HJ:Hid ((binderB op&&k==1)=false→∀ s,Bf0 s=((B' s||(mb s (fr u)&&decide (c s=0)))||(mb s (frs (binderB op) nm (k+1) (ks.drop (k+1)))&&decide (c s=0)))):=Ld (fun hin s=>by
      rw[hq.out,HD.out,hin]
      simp
      cases B' s <;> cases mb s (fr u) <;> cases mb s (frs (binderB op) nm (k+1) (ks.drop (k+1))) <;> cases decide (c s=0) <;> rfl)
     clear hq HD
     go_cut [8] (fun v wc=>v=.bool (binderB op&&k==1)∧wc=w3)
     case first=>
      by_cases hk1:k=1
      ·have hk2:((k:Int)==1)=true:=by simp;omega
       have hk3:(k==1)=true:=by simp[hk1]
       clear hk1
       go_wp2_with fail
       refine (binder_any op _).mono ?_
       rintro e w3' ⟨rfl,rfl⟩
       cases hbo:binderB op
       all_goals
        go_wp2_with fail
        go_meet
        case rel=>exact⟨by rw[hk3,hbo];rfl,rfl⟩
      ·have hk2:((k:Int)==1)=false:=by simp;omega
       have hk3:(k==1)=false:=by simp[hk1]
       clear hk1
       go_wp2_with fail
       refine (binder_any op _).mono ?_
       rintro e w3' ⟨rfl,rfl⟩
       cases hbo:binderB op
       all_goals
        go_wp2_with fail
        go_meet
        case rel=>exact⟨by rw[hk3,hbo];rfl,rfl⟩
     case rest=>
      obtain⟨rfl,rfl⟩:=hcut
      have hq1':=HOK.out q1 hq1
      have HNM:Hid (n'+2*tmN u+(if k≤1 then 2 else 0)≤1000000∧m'+tmN u≤1000000∧(n'+2*tmN u+2*tmNs (ks.drop (k+1))+(if k≤1 then 2 else 0)≤n+2*tmN (.mk op nm N ty ks))∧(m'+tmN u+tmNs (ks.drop (k+1))≤m+tmN (.mk op nm N ty ks))):=Ld (by
       have h1:=hn'.out;have h2:=hm'.out;have h3:=HDM.out.2.1;have h4:=HNB.out;have h5:=HMB.out
       rw[h3] at h1 h2
       omega)
      clear hq1' hn' hm'
      cases hin:(binderB op&&k==1)
      ·have HJ2:=Ld (HJ.out hin)
       clear HI HJ hin
       have HC:=Ld (HK1.out wc B' c KR2.out n' m' S3.out.r.bo S3.out.r.into (by have:=HNM.out.1;omega) HNM.out.2.1 (fun s=>by have:=HCB.out s;have:=HDM.out.1;omega))
       have gK:=bK.out.cell
       clear gA
       go_wp2_with fail
       clear gK
       refine HC.out.mono ?_
       rintro e w5 ⟨rfl,hR5⟩
       have S5:=Ld (S3.out.step LB.out hR5)
       clear hR5 HC S3 S bK HK1 KR2
       go_wp2_with fail
       go_roundw
       case rel=>exact⟨k+1,_,_,_,by omega,by go_num,S5.out,HJ2,Ld (by have:=HNM.out.2.2.1;split <;> split at this <;> omega),Ld HNM.out.2.2.2⟩
       case measure=>simp[intOf];omega
      ·have HI2:=Ld (HI.out hin)
       have hk1:k=1:=by
        rw[Bool.and_eq_true] at hin
        simpa using hin.2
       clear HI HJ hin
       obtain⟨f3,hb3,hf3⟩:=S3.out.r.bo
       have HF3:=Ld hf3
       have HNX:Hid (n'+2+2*tmN u+2*tmNs (ks.drop (k+1))≤n+2*tmN (.mk op nm N ty ks)∧n'+2+2*tmN u≤1000000):=Ld (by have h1:=HNM.out.2.2.1;have h2:=HNM.out.1;rw[if_pos (by omega)] at h1 h2;omega)
       have HK1E:=Ld hk1
       clear hk1
       have hlk:=hb3.look u95 (z3 _) HNZ.out
       rw[hf3 nm] at hlk
       have HW1:Hid (wrap64 ((c nm:Int)+1)=((c nm+1:Nat):Int)):=Ld (by have:=HCB.out nm;unfold wrap64;omega)
       have HB3:=Ld hb3
       have HLX:Hid (n'<maxLen∧n'+1+2*tmN u<maxLen):=Ld (by have:=HNX.out.2;unfold maxLen;omega)
       clear hf3 hb3
       go_upto_region 9 with (at_mapUpdate;refine wpList_storeF rfl _ _ _ _ 3 rfl u95 rfl HB3.out nm rfl HNZ.out HLX.out.1 (.int .i64 (wrap64 ((c nm:Int)+1))) rfl ?_;intro w4 hm4 k4)
       rw[HW1.out] at hm4
       have S4:=Ld (S3.out.cnt LB.out hm4 (HF3.out.upd nm (c nm+1)) k4)
       have bK4:=Ld (bK.out.kept k4 (fun e=>by have:=LBR.out.1;omega))
       have HC:=Ld (HK1.out w4 B' (fun t=>if t=nm then c nm+1 else c t) (KR2.out.trans (k4.mono (fun _ _ e=>Or.inl e))) (n'+1) m' S4.out.r.bo S4.out.r.into (by have:=HNX.out.2;omega) HNM.out.2.1 (fun s=>by have h1:=HCB.out s;have h2:=HCB.out nm;have:=HDM.out.1;show (if s=nm then c nm+1 else c s)+_≤_;split <;> omega))
       have gK:=bK4.out.cell
       clear hm4 k4 hlk HW1 HB3 HF3 S3 gA bK
       go_wp2_with fail
       clear gK
       refine HC.out.mono ?_
       rintro e w5 ⟨rfl,hR5⟩
       have S5:=Ld (S4.out.step LB.out hR5)
       clear hR5 HC S4 S bK4 HK1 KR2
       obtain⟨f5,hb5,hf5⟩:=S5.out.r.bo
       have HF5:=Ld hf5
       have hlk:=hb5.look u95 (z3 _) HNZ.out
       rw[hf5 nm] at hlk
       simp only[if_true] at hlk
       have HW1:Hid (wrap64 (c nm:Int)=(c nm:Int)):=Ld (by have:=HCB.out nm;unfold wrap64;omega)
       have HB5:=Ld hb5
       have gA:=S5.out.a.cell
       clear hf5 hb5
       go_wp2_with (at_mapUpdate;refine wpList_storeF rfl _ _ _ _ 3 rfl u95 rfl HB5.out nm rfl HNZ.out HLX.out.2 (.int .i64 (wrap64 (c nm:Int))) rfl ?_;intro w6 hm6 k6;clear gA hlk)
       rw[HW1.out] at hm6
       have S6:=Ld (S5.out.cnt LB.out hm6 (HF5.out.upd nm (c nm)) k6)
       have HCE:Hid ((fun t=>if t=nm then c nm else if t=nm then c nm+1 else c t)=c):=Ld (by funext t;by_cases ht:t=nm <;> simp[ht])
       rw[HCE.out] at S6
       clear hm6 k6 HW1 HB5 HF5 S5
       go_wp2_with fail
       go_roundw
       case rel=>exact⟨k+1,_,_,_,by omega,by go_num,S6.out,HI2,Ld (by have:=HNX.out.1;have:=HK1E.out;rw[if_neg (by omega)];omega),Ld HNM.out.2.2.2⟩
       case measure=>simp[intOf];omega
    ·have hkk:k=ks.length:=by omega
     subst hkk
     have HEQ:Hid (Bf0=B'):=Ld (by funext s;rw[hq.out,List.drop_length];simp[frs,mb])
     have gA:=S.out.a.cell
     go_wp2_with fail
     go_end0
     refine⟨rfl,S.out.r.kp,?_,?_⟩
     ·obtain⟨f,hb1,hb2⟩:=S.out.r.bo
      exact⟨f,hb1.mono (by have:=hn'.out;omega),hb2⟩
     ·rw[HEQ.out];exact S.out.r.into.mono (by have:=hm'.out;omega)
theorem clc_any {t:Tm} (h:OkTm t):ClcC bz t:=by
 induction h with
 | mk hf hn hl ih=>
  rename_i op nm N ty ks
  refine clc_one ih (by omega) (fun h=>?_) (by have:=(formed_sm hf).1;unfold maxLen;omega)
  subst h
  have h1:=(OkTm.mk hf hn hl).nw
  cases h1 with
  | mk h2 _=>exact (h2 rfl).2.2
theorem bagF_none:bagF (fun _=>false)=fun _=>none:=by funext s;rfl
theorem cnt_none:CntF (fun _=>none) (fun _=>0):=fun _=>rfl
def FreP (t:Tm) (w:World) (e:Ending) (w':World):Prop:=∃ p,e=.returned (.map (some p))∧w.heap.size≤p∧MapF w' p (tmN t) (bagF (fun s=>mb s (fr t)))∧Kept (fun _=>False) w w'
theorem free_any {t:Tm} (ht:OkTm t) (hN:tmN t≤400000) (hD:tmD t≤400000) {ok:Nat→Prop} {w:World} {a:Option Addr} {c:Nat} (h2:TmL bz ok w [t] (.slice a 1 c)):Calls Tryz.prog 44 #[.slice a 1 c] w (FreP t w):=by
 have HCL:=Ld (clc_any (bz:=bz) ht)
 have HND:Hid (tmN t≤400000∧tmD t≤400000):=Ld ⟨hN,hD⟩
 have HAT:=Ld (fun W (k:Kept (fun _=>False) w W)=>((h2.mono (ok':=fun q=>q<w.heap.size) (fun q hq _=>hq)).frame (sK k)).at 0 (by simp))
 clear hN hD h2 ht
 have hmm:=@run_makeMap Tryz.prog
 go_enter Tryz.func44,Tryz.ntmps44
 go_upto_region 2 with (fail)
 have M1:=Ld (MapF.made w)
 have K1:Hid (Kept (fun _=>False) w (w.alloc (.map #[] 0))):=Ld (kR.alloc _)
 generalize w.alloc (.map #[] 0)=w1 at *
 go_wp2_with fail
 obtain⟨q0,hq0⟩:∃ p,p=w.heap.size:=⟨_,rfl⟩
 go_loopw [9] (fun i wr=>Kept (fun _=>False) w wr∧((i=.int .i64 0∧MapF wr w.heap.size 0 (fun _=>none))∨(i=.int .i64 1∧MapF wr w.heap.size (tmN t) (bagF (fun s=>mb s (fr t)))))) (fun i _=>1-(intOf i).toNat)
 case atStart=>exact⟨K1.out,Or.inl ⟨rfl,M1.out⟩⟩
 case round=>
  obtain⟨hk,⟨rfl,hm⟩ | ⟨rfl,hm⟩⟩:=hrel
  ·obtain⟨q1,o1,ta,tn,tc,pa,pn,pc,rfl,hq1,lq,hC,hkt,hkm⟩:=HAT.out wr hk
   simp only[List.getElem_cons_zero,Nat.zero_mul,Nat.add_zero] at hC hkt hkm
   obtain⟨c0,c1,c2,c3,c4,c5,c6⟩:=hC
   have KR:Kept (fun _=>False) wr (wr.alloc (.cells #[.int .i64 t.op,.string t.name,.int .i64 t.n,.int .i64 t.ty.kind,.string t.ty.name,.slice ta tn tc,.slice pa pn pc] 27)):=kR.alloc _
   have bK:=Ld (Blk.new wr 27 [.int .i64 t.op,.string t.name,.int .i64 t.n,.int .i64 t.ty.kind,.string t.ty.name,.slice ta tn tc,.slice pa pn pc])
   change Hid (Blk (wr.alloc (.cells #[.int .i64 t.op,.string t.name,.int .i64 t.n,.int .i64 t.ty.kind,.string t.ty.name,.slice ta tn tc,.slice pa pn pc] 27)) _ _ _) at bK
   have HK:=Ld hk
   have HM:=Ld hm
   have HKT:=Ld hkt
   have HKM:=Ld hkm
   have KR1:=Ld KR
   clear hk hm hkt hkm KR M1 K1
   go_upto_region 5 with (fail)
   clear c0 c1 c2 c3 c4 c5 c6
   have hw3:Hid ((wr.alloc (.cells #[.int .i64 t.op,.string t.name,.int .i64 t.n,.int .i64 t.ty.kind,.string t.ty.name,.slice ta tn tc,.slice pa pn pc] 27)).heap.size=wr.heap.size+1):=Ld (World.size_alloc _ _)
   generalize wr.alloc (.cells #[.int .i64 t.op,.string t.name,.int .i64 t.n,.int .i64 t.ty.kind,.string t.ty.name,.slice ta tn tc,.slice pa pn pc] 27)=w3 at *
   have gK:=bK.out.cell
   have M3:=Ld (MapF.made w3)
   have K3:Hid (Kept (fun _=>False) w3 (w3.alloc (.map #[] 0))):=Ld (kR.alloc _)
   have HC:=Ld (HCL.out (fun _=>false) (fun _=>0) (w3.alloc (.map #[] 0)) (fun q=>q<w.heap.size) _ _ w3.heap.size 0 w.heap.size 0 (HKT.out.frame (sK (KR1.out.trans K3.out))) (HKM.out.frame (sK (KR1.out.trans K3.out))) ⟨_,M3.out,cnt_none⟩ (by rw[bagF_none];exact HM.out.kept (KR1.out.trans K3.out) (fun e=>e)) (by have:=HM.out.lt;have:=hw3.out;omega) (fun q hq=>⟨by have:=HK.out.size;have:=hw3.out;omega,by omega⟩) (by have:=HND.out.1;omega) (by have:=HND.out.1;omega) (fun s=>by have:=HND.out.2;omega))
   unfold tmVal at HC
   go_wp2_with fail
   clear gK
   refine HC.out.mono ?_
   rintro e w5 ⟨rfl,hR⟩
   have K5:Hid (Kept (fun _=>False) w w5):=Ld (((HK.out.trans KR1.out).trans K3.out).via1 hR.kp (fun x hx e=>by have:=HK.out.size;have:=hw3.out;rcases e with e | e <;> omega))
   have M5:Hid (MapF w5 w.heap.size (tmN t) (bagF (fun s=>mb s (fr t)))):=Ld (by
    have h:=hR.into
    have e:∀ (g:ByteArray→Bool),(∀ s,g s=mb s (fr t))→MapF w5 w.heap.size (0+tmN t) (bagF g)→MapF w5 w.heap.size (tmN t) (bagF (fun s=>mb s (fr t))):=fun g hg hm=>by
     have:g=fun s=>mb s (fr t):=funext hg
     rw[← this];exact hm.mono (by omega)
    exact e _ (fun s=>by simp) h)
   clear hR HC M3 K3 HK HM HKT HKM KR1 bK
   go_wp2_with fail
   go_roundw
   case rel=>exact⟨K5.out,Or.inr ⟨rfl,M5.out⟩⟩
   case measure=>simp[intOf]
  ·have HK:=Ld hk
   have HM:=Ld hm
   clear hk hm M1 K1
   go_wp2_with fail
   go_ret
   exact⟨_,rfl,Nat.le_refl _,HM.out,HK.out⟩
def PrV (bz:Nat) (ok:Nat→Prop) (w:World) (σ:ByteArray→Option Tm) (f:ByteArray→Option Value):Prop:=∀ s,match σ s with
 | none=>f s=none
 | some u=>∃ ta tn tc pa pn pc,f s=some (tmVal u (.slice ta tn tc) (.slice pa pn pc))∧TyL bz ok w u.ty.kids (.slice ta tn tc)∧TmL bz ok w u.kids (.slice pa pn pc)
def PrM (bz:Nat) (ok:Nat→Prop) (w:World) (b n:Nat) (σ:ByteArray→Option Tm):Prop:=∃ f,MapF w b n f∧PrV bz ok w σ f
theorem PrV.frame {ok:Nat→Prop} {w W:World} {σ:ByteArray→Option Tm} {f:ByteArray→Option Value} (h:PrV bz ok w σ f) (hs:Same ok w W):PrV bz ok W σ f:=by
 intro s
 have h1:=h s
 cases hu:σ s with
 | none=>rw[hu] at h1;exact h1
 | some u=>
  rw[hu] at h1
  obtain⟨ta,tn,tc,pa,pn,pc,h1,h2,h3⟩:=h1
  exact⟨ta,tn,tc,pa,pn,pc,h1,h2.frame hs,h3.frame hs⟩
theorem PrV.mono {ok ok':Nat→Prop} {w:World} {σ:ByteArray→Option Tm} {f:ByteArray→Option Value} (h:PrV bz ok w σ f) (ho:∀ k,k<w.heap.size→ok k→ok' k):PrV bz ok' w σ f:=by
 intro s
 have h1:=h s
 cases hu:σ s with
 | none=>rw[hu] at h1;exact h1
 | some u=>
  rw[hu] at h1
  obtain⟨ta,tn,tc,pa,pn,pc,h1,h2,h3⟩:=h1
  exact⟨ta,tn,tc,pa,pn,pc,h1,h2.mono ho,h3.mono ho⟩
theorem PrV.at {ok:Nat→Prop} {w:World} {σ:ByteArray→Option Tm} {f:ByteArray→Option Value} (h:PrV bz ok w σ f) {s:ByteArray} {v:Value} (hv:f s=some v):∃ u ta tn tc pa pn pc,σ s=some u∧v=tmVal u (.slice ta tn tc) (.slice pa pn pc)∧TyL bz ok w u.ty.kids (.slice ta tn tc)∧TmL bz ok w u.kids (.slice pa pn pc):=by
 have h1:=h s
 cases hu:σ s with
 | none=>rw[hu] at h1;rw[h1] at hv;cases hv
 | some u=>
  rw[hu] at h1
  obtain⟨ta,tn,tc,pa,pn,pc,h1,h2,h3⟩:=h1
  rw[h1] at hv
  cases hv
  exact⟨u,ta,tn,tc,pa,pn,pc,rfl,rfl,h2,h3⟩
theorem PrM.kept {ok:Nat→Prop} {w W:World} {b n:Nat} {σ:ByteArray→Option Tm} {S:Nat→Prop} (h:PrM bz ok w b n σ) (k:Kept S w W) (hb:¬ S b) (ho:∀ q,ok q→¬ S q):PrM bz ok W b n σ:=by
 obtain⟨f,h1,h2⟩:=h
 exact⟨f,h1.kept k hb,h2.frame (Same.of_kept k ho)⟩
theorem PrM.some_iff {ok:Nat→Prop} {w:World} {σ:ByteArray→Option Tm} {f:ByteArray→Option Value} (h:PrV bz ok w σ f) (s:ByteArray):(f s).isSome=(σ s).isSome:=by
 have h1:=h s
 cases hu:σ s with
 | none=>rw[hu] at h1;rw[h1];rfl
 | some u=>rw[hu] at h1;obtain⟨_,_,_,_,_,_,h1,_⟩:=h1;rw[h1];rfl
theorem u85:Tryz.prog.underlying 77=some (.map 9 27):=Tryz.underlying77
def undF (x:ByteArray) (B:ByteArray→Bool) (σ:ByteArray→Option Tm):ByteArray→Option Tm:=fun s=>if !decide (s=x)&&B s then σ s else none
theorem under_any {x:ByteArray} {B:ByteArray→Bool} {σ:ByteArray→Option Tm} {ok:Nat→Prop} {w:World} {b n c m:Nat} (hm:PrM bz ok w b n σ) (hc:MapF w c m (bagF B)) (hn:n≤1000000):
  Calls Tryz.prog 148 #[.map (some b),.string x,.map (some c)] w fun e w'=>∃ p,e=.returned (.map (some p))∧w.heap.size≤p∧PrM bz (fun q=>ok q∧q<w.heap.size) w' p n (undF x B σ)∧Kept (fun _=>False) w w':=by
 obtain⟨f,hf,hv⟩:=hm
 have HV:=Ld hv
 have HNN:=Ld hn
 have hmm:=@run_makeMap Tryz.prog
 have HF:=Ld hf
 have HC:=Ld hc
 have HL:Hid (b<w.heap.size∧c<w.heap.size):=Ld ⟨hf.lt,hc.lt⟩
 clear hf hc hn hv
 go_enter Tryz.func148,Tryz.ntmps148
 go_upto_region 2 with (fail)
 have M1:=Ld (MapF.made w)
 have K1:Hid (Kept (fun _=>False) w (w.alloc (.map #[] 0))):=Ld (kR.alloc _)
 have Z1:Hid ((w.alloc (.map #[] 0)).heap.size=w.heap.size+1):=Ld (World.size_alloc _ _)
 generalize w.alloc (.map #[] 0)=w1 at *
 have F1:=Ld (HF.out.kept K1.out (fun e=>e))
 go_wp2_with (at_range;refine wpList_rangeF rfl _ _ 27 rfl u85 rfl F1.out ?_;intro w2 cnt hR k2 z2 hcn)
 have M2:=Ld (M1.out.kept k2 (fun e=>e))
 have KW2:=Ld (K1.out.trans k2)
 have HR:=Ld hR
 have HCN:Hid (cnt≤1000000∧cnt≤n):=Ld (by have:=HNN.out;omega)
 rw[Z1.out] at HR
 have Z2:Hid (w2.heap.size=w.heap.size+2):=Ld (by have:=Z1.out;omega)
 have e1:=Z1.out
 rw[e1]
 clear hR k2 z2 hcn M1 K1 F1 e1
 go_frame
 go_loopw [] (fun wr=>∃ (cnt' k:Nat) (g:ByteArray→Bool),Kept (fun _=>False) w wr∧MapR wr b (w.heap.size+1) n f g cnt'∧cnt'+k≤cnt∧(∀ s,g s=true→(f s).isSome=true)∧MapF wr w.heap.size k (fun s=>if g s then none else if !decide (s=x)&&B s then f s else none)) (fun wr=>wr.rangeLeft b (w.heap.size+1))
 case atStart=>
  refine⟨cnt,0,fun s=>(f s).isSome,KW2.out,HR.out,Nat.le_refl _,fun _ h=>h,?_⟩
  have e:(fun s=>if (f s).isSome then none else if !decide (s=x)&&B s then f s else none)=fun _=>none:=by
   funext s
   cases hs:f s <;> simp
  rw[e]
  exact M2.out
 case round=>
  obtain⟨cnt',k,g,hk,hR',hle,hgs,hM⟩:=hrel
  have HK:=Ld hk
  have HRR:=Ld hR'
  have HM:=Ld hM
  have HLE:=Ld hle
  have HGS:=Ld hgs
  clear hk hR' hle hM hgs HR M2 KW2 hmm
  go_wp2_with (at_next;refine wpList_nextF rfl _ rfl rfl HRR.out ?_ ?_)
  ·intro h0
   have HE:Hid (PrM bz (fun q=>ok q∧q<w.heap.size) wr w.heap.size n (undF x B σ)):=Ld (by
    refine⟨_,HM.out.mono (by have:=HLE.out;have:=HCN.out.2;omega),?_⟩
    have hv:=(HV.out.mono (ok':=fun q=>ok q∧q<w.heap.size) (fun q h1 h2=>⟨h2,h1⟩)).frame (sK HK.out)
    intro s
    have hg:g s=false:=by
     cases hg:g s with
     | false=>rfl
     | true=>rw[h0 s (HRR.out.map.small (HGS.out s hg))] at hg;cases hg
    unfold undF
    simp only[hg,Bool.false_eq_true,if_false]
    cases hq:(!decide (s=x)&&B s)
    ·simp
    ·simp only[if_true]
     exact hv s)
   go_wp2_with fail
   go_ret
   exact⟨_,rfl,Nat.le_refl _,HE.out,HK.out⟩
  ·intro s v w3 cnt3 hs hg hfs hR3 hlt k3 z3 hen
   obtain⟨u,ta,tn,tc,pa,pn,pc,hu,rfl,hty,htm⟩:=HV.out.at hfs
   unfold tmVal at hen hfs ⊢
   have KW3:=Ld (HK.out.via1 k3 (fun q hq e=>by omega))
   have M3:=Ld (HM.out.kept k3 (fun e=>by omega))
   have HR3:=Ld hR3
   have HLT:=Ld hlt
   have HS:=Ld hs
   have HG:=Ld hg
   have HFS:=Ld hfs
   have HLO:=Ld HRR.out.left
   clear hu hty htm k3 hR3 hlt hg hfs hs HRR HM
   go_upto_region 5 with (fail)
   clear hen
   have bK:=Ld (Blk.new w3 27 [.int .i64 u.op,.string u.name,.int .i64 u.n,.int .i64 u.ty.kind,.string u.ty.name,.slice ta tn tc,.slice pa pn pc])
   change Hid (Blk (w3.alloc (.cells #[.int .i64 u.op,.string u.name,.int .i64 u.n,.int .i64 u.ty.kind,.string u.ty.name,.slice ta tn tc,.slice pa pn pc] 27)) w3.heap.size _ _) at bK
   rw[z3] at bK
   have K4:Hid (Kept (fun _=>False) w3 (w3.alloc (.cells #[.int .i64 u.op,.string u.name,.int .i64 u.n,.int .i64 u.ty.kind,.string u.ty.name,.slice ta tn tc,.slice pa pn pc] 27))):=Ld (kR.alloc _)
   generalize w3.alloc (.cells #[.int .i64 u.op,.string u.name,.int .i64 u.n,.int .i64 u.ty.kind,.string u.ty.name,.slice ta tn tc,.slice pa pn pc] 27)=w4 at *
   have KW4:=Ld (KW3.out.trans K4.out)
   have M4:=Ld (M3.out.kept K4.out (fun e=>e))
   have HR4:=Ld (HR3.out.kept K4.out (fun e=>e) (fun e=>e))
   have hlk:=(HC.out.kept KW4.out (fun e=>e)).look u90 (z4 _) HS.out
   rw[bagF_get] at hlk
   have gB:=bK.out.cell
   have HGN:Hid (∀ t,(g t&&!decide (t=s))=true→(f t).isSome=true):=Ld (fun t ht=>HGS.out t (by rw[Bool.and_eq_true] at ht;exact ht.1))
   have HST:Hid (((!decide (s=x)&&B s)=true)→updF (fun t=>if g t then none else if !decide (t=x)&&B t then f t else none) s (.agg #[.int .i64 u.op,.string u.name,.int .i64 u.n,.int .i64 u.ty.kind,.string u.ty.name,.slice ta tn tc,.slice pa pn pc])=fun t=>if g t&&!decide (t=s) then none else if !decide (t=x)&&B t then f t else none):=Ld (fun hq=>by
    funext t
    unfold updF
    by_cases ht:t=s
    ·subst ht;simp only[if_true,decide_true,Bool.not_true,Bool.and_false,Bool.false_eq_true,if_false,hq];exact HFS.out.symm
    ·simp[ht])
   have HSF:Hid (((!decide (s=x)&&B s)=false)→(fun t=>if g t then none else if !decide (t=x)&&B t then f t else none)=fun t=>if g t&&!decide (t=s) then none else if !decide (t=x)&&B t then f t else none):=Ld (fun hq=>by
    funext t
    by_cases ht:t=s
    ·subst ht;simp only[decide_true,Bool.not_true,Bool.and_false,Bool.false_eq_true,if_false,hq,HG.out,if_true]
    ·simp[ht])
   have HX:Hid ((s.toList==x.toList)=decide (s=x)):=Ld nm_eq
   have HNK:Hid (k<maxLen):=Ld (by have:=HLE.out;have:=HCN.out.1;unfold maxLen;omega)
   clear M3 HR3 K4 KW3 HFS HGS
   cases hx:(s.toList==x.toList)
   ·have HX2:Hid (decide (s=x)=false):=Ld (by rw[← HX.out];exact hx)
    cases hB:B s
    ·have HSQ:=Ld (HSF.out (by rw[hB];simp))
     rw[hB] at hlk
     clear hB HSF HST
     go_wp2_with fail
     go_roundw
     case rel=>exact⟨cnt3,k,_,KW4.out,HR4.out,by have:=HLE.out;have:=HLT.out;omega,HGN.out,by rw[← HSQ.out];exact M4.out⟩
     case measure=>rw[HR4.out.left,HLO.out];exact HLT.out
    ·have HSQ:=Ld (HST.out (by rw[hB,HX2.out];rfl))
     rw[hB] at hlk
     clear hB HSF HST
     go_wp2_with (at_mapUpdate;refine wpList_storeF rfl _ _ _ _ 27 rfl u85 rfl M4.out s rfl HS.out HNK.out (.agg #[.int .i64 u.op,.string u.name,.int .i64 u.n,.int .i64 u.ty.kind,.string u.ty.name,.slice ta tn tc,.slice pa pn pc]) rfl ?_;intro w5 hm5 k5;clear gB hlk)
     rw[HSQ.out] at hm5
     have KW5:=Ld (KW4.out.via1 k5 (fun q hq e=>by omega))
     have HR5:=Ld (HR4.out.kept k5 (fun e=>by have:=HL.out.1;omega) (fun e=>by omega))
     have HM5:=Ld hm5
     clear hm5 k5
     go_wp2_with fail
     go_frame
     go_roundw
     case rel=>exact⟨cnt3,k+1,_,KW5.out,HR5.out,by have:=HLE.out;have:=HLT.out;omega,HGN.out,HM5.out⟩
     case measure=>rw[HR5.out.left,HLO.out];exact HLT.out
   ·have HX2:Hid (decide (s=x)=true):=Ld (by rw[← HX.out];exact hx)
    have HSQ:=Ld (HSF.out (by rw[HX2.out];rfl))
    clear HSF HST hlk
    go_wp2_with fail
    go_roundw
    case rel=>exact⟨cnt3,k,_,KW4.out,HR4.out,by have:=HLE.out;have:=HLT.out;omega,HGN.out,by rw[← HSQ.out];exact M4.out⟩
    case measure=>rw[HR4.out.left,HLO.out];exact HLT.out
theorem remG_once (x:ByteArray) (F:List ByteArray):∀ (l out:List (ByteArray×Tm)),(∀ b∈out,look out b.1=some b.2)→∀ b∈remG x F out l,look (remG x F out l) b.1=some b.2
 | [],out,h=>by rw[remG];exact h
 | b::l,out,h=>by
  rw[remG]
  split
  ·exact remG_once x F l out h
  ·rename_i hc
   refine remG_once x F l (out++[b]) (fun c hcm=>?_)
   simp only[Bool.or_eq_true,not_or,Bool.not_eq_true] at hc
   have hn:look out b.1=none:=by
    cases hl:look out b.1 with
    | none=>rfl
    | some u=>rw[hl] at hc;exact absurd hc.1.1 (by simp)
   rw[look_app]
   rcases List.mem_append.1 hcm with hcm | hcm
   ·rw[h c hcm]
   ·rw[List.mem_singleton.1 hcm,hn]
    simp[look]
theorem frB_look {l:List (ByteArray×Tm)} (h:∀ b∈l,look l b.1=some b.2) (x:ByteArray):mb x (frB l)=true↔∃ s u,look l s=some u∧mb x (fr u)=true:=by
 constructor
 ·intro hx
  have key:∀ (r:List (ByteArray×Tm)),mb x (frB r)=true→∃ b∈r,mb x (fr b.2)=true:=by
   intro r
   induction r with
   | nil=>intro h;cases h
   | cons b r ih=>
    intro h
    rw[frB,mb_app,Bool.or_eq_true] at h
    rcases h with h | h
    ·exact⟨b,by simp,h⟩
    ·obtain⟨c,hc,hx⟩:=ih h
     exact⟨c,List.mem_cons_of_mem _ hc,hx⟩
  obtain⟨b,hb,hx⟩:=key l hx
  exact⟨b.1,b.2,h b hb,hx⟩
 ·rintro⟨s,u,hs,hx⟩
  rw[mb_iff] at hx ⊢
  exact frB_mem hs hx
theorem rem_und {l:List (ByteArray×Tm)} {σ:ByteArray→Option Tm} (h:∀ s,look l s=σ s) (x:ByteArray) (y:Tm) (s:ByteArray):look (remL l x (fr y)) s=undF x (fun s=>mb s (fr y)) σ s:=by
 rw[remL_look,h]
 unfold undF
 by_cases hx:s=x
 ·simp[hx]
 ·cases hm:mb s (fr y) <;> simp[hx,hm]
theorem rem_caught {l:List (ByteArray×Tm)} {σ:ByteArray→Option Tm} (h:∀ s,look l s=σ s) (x:ByteArray) (y:Tm) (z:ByteArray):mb z (frB (remL l x (fr y)))=true↔∃ s u,undF x (fun s=>mb s (fr y)) σ s=some u∧mb z (fr u)=true:=by
 have h0:∀ b∈remL l x (fr y),look (remL l x (fr y)) b.1=some b.2:=remG_once x (fr y) l [] (fun b hb=>by cases hb)
 rw[frB_look h0]
 constructor
 ·rintro⟨s,u,hs,hz⟩;exact⟨s,u,by rw[← rem_und h];exact hs,hz⟩
 ·rintro⟨s,u,hs,hz⟩;exact⟨s,u,by have:=rem_und h x y s;rw[hs] at this;exact this,hz⟩
theorem look_none {l:List (ByteArray×Tm)} (h:∀ s,look l s=none):l=[]:=by
 cases l with
 | nil=>rfl
 | cons b l=>have:=h b.1;rw[look,if_pos rfl] at this;cases this
structure KP (bz:Nat) (W:World) (base g n:Nat) (R:Nat→Option Tm):Prop where
 row:∃ (L:List Value) (K M:Nat→Value),Blk W g 27 L∧L.length=n*7∧∀ i,i<n→∀ u,R i=some u→L[i*7]?=some (.int .i64 u.op)∧L[i*7+1]?=some (.string u.name)∧L[i*7+2]?=some (.int .i64 u.n)∧L[i*7+3]?=some (.int .i64 u.ty.kind)∧L[i*7+4]?=some (.string u.ty.name)∧L[i*7+5]?=some (K i)∧L[i*7+6]?=some (M i)∧TyL bz (fun q=>base≤q∧q≠g) W u.ty.kids (K i)∧TmL bz (fun q=>base≤q∧q≠g) W u.kids (M i)
theorem KP.kept {W W':World} {base g n:Nat} {R:Nat→Option Tm} (h:KP bz W base g n R) {S:Nat→Prop} (k:Kept S W W') (h1:¬ S g) (h2:∀ q,base≤q→q≠g→¬ S q):KP bz W' base g n R:=by
 obtain⟨L,K,M,bG,hL,hR⟩:=h.row
 refine⟨⟨L,K,M,bG.kept k h1,hL,fun i hi u hu=>?_⟩⟩
 obtain⟨e0,e1,e2,e3,e4,e5,e6,e7,e8⟩:=hR i hi u hu
 exact⟨e0,e1,e2,e3,e4,e5,e6,e7.frame (Same.of_kept k (fun q hq=>h2 q hq.1 hq.2)),e8.frame (Same.of_kept k (fun q hq=>h2 q hq.1 hq.2))⟩
theorem KP.lt {W:World} {base g n:Nat} {R:Nat→Option Tm} (h:KP bz W base g n R):g<W.heap.size:=by obtain⟨L,K,M,bG,_⟩:=h.row;exact bG.lt
theorem KP.frozen {W:World} {base g n:Nat} {R:Nat→Option Tm} (h:KP bz W base g n R):∀ i,W.frozen? ⟨g,i,none⟩=false:=by obtain⟨L,K,M,bG,_⟩:=h.row;exact bG.frozen
theorem KP.there {W:World} {base g n:Nat} {R:Nat→Option Tm} (h:KP bz W base g n R) {i:Nat} (hi:i<n*7):∃ v,W.cell? ⟨g,i,none⟩=some v:=by
 obtain⟨L,K,M,bG,hL,_⟩:=h.row
 exact⟨L[i],by rw[bG.cell,List.getElem?_eq_getElem]⟩
theorem KP.lay {W:World} {base g n j:Nat} (h:KP bz W base g n (fun _=>none)) (hj:j<n) (x0 x1 x2 x3 x4 x5 x6:Value) (W3:World)
  (hW:W3=((((((W.setCell ⟨g,j*7,none⟩ x0).setCell ⟨g,j*7+1,none⟩ x1).setCell ⟨g,j*7+2,none⟩ x2).setCell ⟨g,j*7+3,none⟩ x3).setCell ⟨g,j*7+4,none⟩ x4).setCell ⟨g,j*7+5,none⟩ x5).setCell ⟨g,j*7+6,none⟩ x6):KP bz W3 base g n (fun _=>none):=by
 obtain⟨L,K,M,bG,hL,hR⟩:=h.row
 subst hW
 exact⟨⟨_,K,M,(((((((bG.set _ _).set _ _).set _ _).set _ _).set _ _).set _ _).set _ _),by simpa using hL,fun i hi u hu=>by cases hu⟩⟩
theorem KP.put {W:World} {base g n j:Nat} {R:Nat→Option Tm} {u:Tm} {v x:Value} (h:KP bz W base g n R) (hj:j<n) (hv:TyL bz (fun q=>base≤q∧q≠g) W u.ty.kids v) (hx:TmL bz (fun q=>base≤q∧q≠g) W u.kids x) (W3:World)
  (hW:W3=((((((W.setCell ⟨g,j*7,none⟩ (.int .i64 u.op)).setCell ⟨g,j*7+1,none⟩ (.string u.name)).setCell ⟨g,j*7+2,none⟩ (.int .i64 u.n)).setCell ⟨g,j*7+3,none⟩ (.int .i64 u.ty.kind)).setCell ⟨g,j*7+4,none⟩ (.string u.ty.name)).setCell ⟨g,j*7+5,none⟩ v).setCell ⟨g,j*7+6,none⟩ x):KP bz W3 base g n (fun i=>if i=j then some u else R i):=by
 obtain⟨L,K,M,bG,hL,hR⟩:=h.row
 subst hW
 refine⟨⟨((((((L.set (j*7) (.int .i64 u.op)).set (j*7+1) (.string u.name)).set (j*7+2) (.int .i64 u.n)).set (j*7+3) (.int .i64 u.ty.kind)).set (j*7+4) (.string u.ty.name)).set (j*7+5) v).set (j*7+6) x,fun i=>if i=j then v else K i,fun i=>if i=j then x else M i,
  (((((((bG.set _ _).set _ _).set _ _).set _ _).set _ _).set _ _).set _ _),by simpa using hL,fun i hi t ht=>?_⟩⟩
 by_cases hij:i=j
 ·subst hij
  simp only[if_true,Option.some.injEq] at ht ⊢
  subst ht
  refine⟨?_,?_,?_,?_,?_,?_,?_,?_,?_⟩
  ·rw[List.getElem?_set_ne (by omega),List.getElem?_set_ne (by omega),List.getElem?_set_ne (by omega),List.getElem?_set_ne (by omega),List.getElem?_set_ne (by omega),List.getElem?_set_ne (by omega),List.getElem?_set_self (by omega)]
  ·rw[List.getElem?_set_ne (by omega),List.getElem?_set_ne (by omega),List.getElem?_set_ne (by omega),List.getElem?_set_ne (by omega),List.getElem?_set_ne (by omega),List.getElem?_set_self (by simp;omega)]
  ·rw[List.getElem?_set_ne (by omega),List.getElem?_set_ne (by omega),List.getElem?_set_ne (by omega),List.getElem?_set_ne (by omega),List.getElem?_set_self (by simp;omega)]
  ·rw[List.getElem?_set_ne (by omega),List.getElem?_set_ne (by omega),List.getElem?_set_ne (by omega),List.getElem?_set_self (by simp;omega)]
  ·rw[List.getElem?_set_ne (by omega),List.getElem?_set_ne (by omega),List.getElem?_set_self (by simp;omega)]
  ·rw[List.getElem?_set_ne (by omega),List.getElem?_set_self (by simp;omega)]
  ·rw[List.getElem?_set_self (by simp;omega)]
  ·exact hv.frame (set7 (fun q h=>h.2))
  ·exact hx.frame (set7 (fun q h=>h.2))
 ·simp only[if_neg hij] at ht ⊢
  obtain⟨e0,e1,e2,e3,e4,e5,e6,e7,e8⟩:=hR i hi t ht
  refine⟨?_,?_,?_,?_,?_,?_,?_,e7.frame (set7 (fun q h=>h.2)),e8.frame (set7 (fun q h=>h.2))⟩
  all_goals (rw[List.getElem?_set_ne (by omega),List.getElem?_set_ne (by omega),List.getElem?_set_ne (by omega),List.getElem?_set_ne (by omega),List.getElem?_set_ne (by omega),List.getElem?_set_ne (by omega),List.getElem?_set_ne (by omega)];assumption)
theorem KP.krow {W:World} {base g:Nat} {l:List Tm} {R:Nat→Option Tm} (h:KP bz W base g l.length R) (hR:∀ i (hi:i<l.length),R i=some l[i]):KRow bz W base g l:=by
 obtain⟨L,K,M,bG,hL,h1⟩:=h.row
 exact⟨⟨L,K,M,bG,by omega,fun i hi=>h1 i hi _ (hR i hi)⟩⟩
end Go.Proofs.YtdmebjbkccjhbaaGreatDoor
namespace Go.Proofs.YtdmebjbkccjhbaaGreatDoor
open Go.RowKit Go.Maps Go.Sort Go.Shelf
def keysA_ren:Go.Shelf.Ren:=⟨fun | 7=>43 | 10=>90 | n=>n,fun | 23=>69 | 26=>9 | 3=>4 | 28=>67 | 0=>0 | 27=>66 | 33=>32 | 4=>4 | n=>n,fun | n=>n⟩
def collA_ren:Go.Shelf.Ren:=⟨fun | 8=>88 | 11=>142 | n=>n,fun | 26=>9 | 28=>67 | 24=>28 | 0=>0 | 33=>32 | 4=>4 | n=>n,fun | n=>n⟩
theorem keysA:SlLaysZ.n7 Tryz.prog keysA_ren:={
 mixed:=by kernel_rfl
 f7 := ⟨"maps.Keys[map[string]bool,string,bool]", by decide, Tryz.func43.trans (congrArg some (by kernel_rfl))⟩
 f10 := ⟨"maps.Keys[map[string]bool,string,bool]$1", by decide, Tryz.func90.trans (congrArg some (by kernel_rfl))⟩
 t0:=Tryz.underlying0,a0:=Tryz.isAgg0,z0:=Tryz.sizeOf0,v0:=Tryz.zeroValue0
 t4:=Tryz.underlying4,a4:=Tryz.isAgg4,z4:=Tryz.sizeOf4,v4:=Tryz.zeroValue4
 t23:=Tryz.underlying69,a23:=Tryz.isAgg69,z23:=Tryz.sizeOf69,v23:=Tryz.zeroValue69
 t26:=Tryz.underlying9,a26:=Tryz.isAgg9,z26:=Tryz.sizeOf9,v26:=Tryz.zeroValue9
 t27:=Tryz.underlying66,a27:=Tryz.isAgg66,z27:=Tryz.sizeOf66,v27:=Tryz.zeroValue66
 t28:=Tryz.underlying67,a28:=Tryz.isAgg67,z28:=Tryz.sizeOf67,v28:=Tryz.zeroValue67
 t33:=Tryz.underlying32,a33:=Tryz.isAgg32,z33:=Tryz.sizeOf32,v33:=Tryz.zeroValue32 }
theorem collA:SlLaysZ.n8 Tryz.prog collA_ren:={
 mixed:=by kernel_rfl
 f8 := ⟨"slices.Collect[string]", by decide, Tryz.func88.trans (congrArg some (by kernel_rfl))⟩
 f11 := ⟨"slices.AppendSeq[[]string,string]", by decide, Tryz.func142.trans (congrArg some (by kernel_rfl))⟩
 t0:=Tryz.underlying0,a0:=Tryz.isAgg0,z0:=Tryz.sizeOf0,v0:=Tryz.zeroValue0
 t24:=Tryz.underlying28,a24:=Tryz.isAgg28,z24:=Tryz.sizeOf28,v24:=Tryz.zeroValue28
 t26:=Tryz.underlying9,a26:=Tryz.isAgg9,z26:=Tryz.sizeOf9,v26:=Tryz.zeroValue9
 t28:=Tryz.underlying67,a28:=Tryz.isAgg67,z28:=Tryz.sizeOf67,v28:=Tryz.zeroValue67
 i26:=by kernel_rfl }
theorem keys_any (mb:Option Nat) (W:World):Calls Tryz.prog 43 #[.map mb] W fun e w'=>e=.returned (.func (.func 90) #[] #[.pointer (some ⟨W.heap.size,0,none⟩)])∧w'=W.alloc (.cells #[.map mb] 69):=
 (callsIn_wide (n:=5)).1 (AnyZ.keys_in keysA Fence.wide 5 trivial rfl mb W)
theorem mem_strKeys {w:World} {p n:Nat} {R:Value→Option (DataW Value×List MemPlace)} {D:DataW Value} (h:w.ownsMap Tryz.prog 9 R p n D) (x:List UInt8):x∈strKeys D↔Maps.has D (.string x)=true:=by
 obtain⟨es,rfl,hko⟩:=h.keysOf
 rw[Maps.has_eq,List.any_eq_true]
 show x∈es.map (fun p=>Go.strOf p.1)↔_
 rw[List.mem_map]
 constructor
 ·rintro⟨q,hq,rfl⟩
  obtain⟨v,hv⟩:=hko q hq
  obtain⟨y,_,hy,_⟩:=Maps.keyOf_str Tryz.underlying9 hv
  exact⟨q,hq,by rw[hy];simp[Lit.sameKey,Go.strOf]⟩
 ·rintro⟨q,hq,hs⟩
  obtain⟨v,hv⟩:=hko q hq
  obtain⟨y,_,hy,_⟩:=Maps.keyOf_str Tryz.underlying9 hv
  rw[hy] at hs
  exact⟨q,hq,by rw[hy];simpa [Lit.sameKey,Go.strOf] using hs⟩
theorem strKeys_size {w:World} {p n:Nat} {R:Value→Option (DataW Value×List MemPlace)} {D:DataW Value} (h:w.ownsMap Tryz.prog 9 R p n D):(strKeys D).length≤n:=by
 have h1:=h.size_le
 obtain⟨es,rfl,hko⟩:=h.keysOf
 rw[Maps.size_eq] at h1
 simpa [strKeys] using h1
theorem collect_any {w:World} {p n Bm:Nat} {B:ByteArray→Bool} (hM:MapF w p n (bagF B)) (hn:n≤800000) (hBm:Bm<w.heap.size) (hbox:w.cell? ⟨Bm,0,none⟩=some (.map (some p))):
  Calls Tryz.prog 88 #[.func (.func 90) #[] #[.pointer (some ⟨Bm,0,none⟩)]] w fun e w'=>∃ (l:List ByteArray) (v:Value),e=.returned v∧(∀ s,mb s l=B s)∧l.length≤n∧NRow w w.heap.size w' l v:=by
 obtain⟨D,hD,hf⟩:=hM
 have hs:=hD.size_le
 have hseq:SeqGives Fence.wide 3 Tryz.prog 90 #[.pointer (some ⟨Bm,0,none⟩)] encStr (fun ss=>ss.Perm (strKeys D)) (Maps.size D) w:=
  AnyZ.keys_gives (ρ:=keysA_ren) { keysA with } Fence.wide 3 trivial rfl (by omega) Bm p n D w hBm hbox hD
 have h:=AnyZ.collect_in collA Fence.wide 5 trivial trivial rfl (by omega) 90 #[.pointer (some ⟨Bm,0,none⟩)] trivial (enters_of Tryz.func90 (by kernel_rfl) rfl) (fun ss=>ss.Perm (strKeys D)) (Maps.size D) (by unfold maxLen;omega) (by omega) w hseq
 refine ((callsIn_wide (n:=5)).1 h).mono ?_
 rintro e w' ⟨v,ss,rfl,hp,hrow,_,hb⟩
 refine⟨ss.map (fun x=>⟨x.toArray⟩),v,rfl,fun s=>?_,?_,Kept.of_below hb,?_⟩
 ·rw[Bool.eq_iff_iff,mb_iff,List.mem_map]
  have h1:(bagF B s).isSome=B s:=by unfold bagF;cases B s <;> rfl
  rw[← h1,← hf.has s]
  unfold kL
  rw[← mem_strKeys hD,← hp.mem_iff]
  constructor
  ·rintro⟨x,hx,rfl⟩;simpa using hx
  ·intro hx;exact⟨_,hx,by simp⟩
 ·rw[List.length_map,hp.length_eq];exact strKeys_size hD
 ·rw[List.length_map,List.map_map];exact hrow
end Go.Proofs.YtdmebjbkccjhbaaGreatDoor
