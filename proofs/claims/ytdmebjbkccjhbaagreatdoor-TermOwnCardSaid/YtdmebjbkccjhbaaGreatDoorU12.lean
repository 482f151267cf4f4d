/- A part. -/
import Derived.Test.YtdmebjbkccjhbaaGreatDoorU9
import Derived.Test.YtdmebjbkccjhbaaGreatDoorU11
import Derived.Maps.RangeWalk
import Derived.Maps.Own
set_option linter.unusedVariables false
set_option linter.unusedSimpArgs false
set_option maxRecDepth 100000
set_option maxHeartbeats 32000000
namespace Go.Proofs.YtdmebjbkccjhbaaGreatDoor
open Go.RowKit
variable {bz:Nat}
inductive OkTm:Tm→Prop
 | mk {op:Int} {nm:ByteArray} {N:Int} {ty:Ty} {l:List Tm} (h:formedB op nm N ty l.length=true) (hn:l.length≤100000) (hl:∀ t,t∈l→OkTm t):OkTm (.mk op nm N ty l)
theorem OkTm.formed {t:Tm} (h:OkTm t):formedB t.op t.name t.n t.ty t.kids.length=true:=by cases h;assumption
theorem kids_range (op:Int) (h:(kidsN op).2=true):1≤op∧op≤56:=by
 unfold kidsN at h
 split at h
 ·omega
 split at h
 ·omega
 split at h
 ·omega
 split at h
 ·assumption
 ·cases h
theorem formed_parts {op:Int} {nm:ByteArray} {N:Int} {ty:Ty} {n:Nat} (h:formedB op nm N ty n=true):kidOk op n=true∧nmOk op nm=true∧nOk op N=true∧tyOk op ty=true:=by
 unfold formedB at h
 rw[Bool.and_eq_true,Bool.and_eq_true,Bool.and_eq_true] at h
 exact⟨h.1,h.2.1.1,h.2.1.2,h.2.2⟩
theorem OkTm.range {t:Tm} (h:OkTm t):1≤t.op∧t.op≤56:=by
 have:=(formed_parts h.formed).1
 unfold kidOk at this
 rw[Bool.and_eq_true] at this
 exact kids_range _ this.1
theorem f_ok (most deep:Nat) (hmo:most≤100000):∀ (t:Tm) (d:Nat) (c:Nat),c≤most→(fS most deep t d c).1=true→OkTm t:=by
 intro t
 induction t using Tm.rec (motive_2:=fun l=>∀ (d c:Nat),c≤most→(fsS most deep l d c).1=true→c+l.length≤(fsS most deep l d c).2∧(fsS most deep l d c).2≤most∧∀ t,t∈l→OkTm t) with
 | mk op nm N ty l ih=>
  intro d c hc h
  rw[f_eq] at h
  split at h
  ·rename_i hb
   have hb':=hb
   simp only[Bool.and_eq_true,decide_eq_true_eq] at hb'
   have q:=ih _ _ hb'.1.1 h
   exact .mk hb'.2 (by omega) q.2.2
  ·cases h
 | nil=>rename_i d c hc h;exact⟨Nat.le_refl _,hc,fun t h=>by cases h⟩
 | cons t l iht ihl=>
  rename_i d c hc h
  rw[fsS] at h ⊢
  cases hr:fS most deep t d c with
  | mk b c'=>
   cases b
   ·rw[hr] at h;cases h
   ·rw[hr] at h
    have a:=f_le most deep t d c hc (by rw[hr])
    rw[hr] at a
    have q:=ihl d c' a.2 h
    have p:=iht d c hc (by rw[hr])
    simp only at a q ⊢
    refine⟨by rw[List.length_cons];omega,q.2.1,fun t' h'=>?_⟩
    rcases List.mem_cons.1 h' with rfl | h'
    ·exact p
    ·exact q.2.2 t' h'
theorem valid_ok {t:Tm} (h:validB t=true):OkTm t:=f_ok 2000 64 (by decide) t 1 0 (Nat.zero_le _) h
theorem tmNs_app (a b:List Tm):tmNs (a++b)=tmNs a+tmNs b:=by
 induction a with
 | nil=>simp[tmNs]
 | cons t a ih=>simp only[List.cons_append,tmNs,ih];omega
theorem tmDs_app (a b:List Tm):tmDs (a++b)=max (tmDs a) (tmDs b):=by
 induction a with
 | nil=>simp[tmDs]
 | cons t a ih=>simp only[List.cons_append,tmDs,ih];omega
theorem tmNs_snoc (l:List Tm) (j:Nat) (h:j<l.length):tmNs (l.take (j+1))=tmNs (l.take j)+tmN l[j]:=by
 rw[List.take_succ_eq_append_getElem h,tmNs_app];simp[tmNs]
theorem tmDs_snoc (l:List Tm) (j:Nat) (h:j<l.length):tmDs (l.take (j+1))=max (tmDs (l.take j)) (tmD l[j]):=by
 rw[List.take_succ_eq_append_getElem h,tmDs_app];simp[tmDs]
theorem tmNs_take (l:List Tm) (j:Nat):tmNs (l.take j)≤tmNs l:=by
 have:=tmNs_app (l.take j) (l.drop j)
 rw[List.take_append_drop] at this;omega
theorem tmNs_len (l:List Tm):l.length≤tmNs l:=by
 induction l with
 | nil=>simp
 | cons t l ih=>cases t;simp only[tmNs,tmN,List.length_cons];omega
theorem tmD_le (t:Tm):tmD t≤tmN t:=by
 induction t using Tm.rec (motive_2:=fun l=>tmDs l≤tmNs l) with
 | mk op nm N ty l ih=>simp only[tmD,tmN];omega
 | nil=>simp[tmDs,tmNs]
 | cons t l iht ihl=>simp only[tmDs,tmNs];omega
theorem f_sz (most deep:Nat):∀ (t:Tm) (d c:Nat),(fS most deep t d c).1=true→(fS most deep t d c).2=c+tmN t:=by
 intro t
 induction t using Tm.rec (motive_2:=fun l=>∀ (d c:Nat),(fsS most deep l d c).1=true→(fsS most deep l d c).2=c+tmNs l) with
 | mk op nm N ty l ih=>
  intro d c h
  rw[f_eq] at h ⊢
  split at h
  ·rename_i hb
   rw[if_pos hb,ih _ _ h,tmN];omega
  ·cases h
 | nil=>rename_i d c h;rfl
 | cons t l iht ihl=>
  rename_i d c h
  rw[fsS] at h ⊢
  cases hr:fS most deep t d c with
  | mk b c'=>
   cases b
   ·rw[hr] at h;cases h
   ·rw[hr] at h
    have p:=iht d c (by rw[hr])
    rw[hr] at p
    have q:=ihl d c' h
    simp only at p q ⊢
    rw[q,p,tmNs];omega
def SzC (bz:Nat) (t:Tm):Prop:=∀ (w:World) (ok:Nat→Prop) (tk kk:Value),tmN t≤100000→TyL bz ok w t.ty.kids tk→TmL bz ok w t.kids kk →
 Calls Tryz.prog 99 #[tmVal t tk kk] w fun e w'=>e=.returned (.tuple #[.int .i64 (tmN t),.int .i64 (tmD t)])∧Kept (fun _=>False) w w'
theorem size_leaf {op:Int} {nm:ByteArray} {N:Int} {k:Int} {tnm:ByteArray} {a:Option Addr} {n c':Nat} {ma:Option Addr} {mc:Nat} {w:World}:
  Calls Tryz.prog 99 #[.agg #[.int .i64 op,.string nm,.int .i64 N,.int .i64 k,.string tnm,.slice a n c',.slice ma 0 mc]] w fun e w'=>e=.returned (.tuple #[.int .i64 1,.int .i64 1])∧Kept (fun _=>False) w w':=by
 have K1:Kept (fun _=>False) w (w.alloc (.cells #[.int .i64 op,.string nm,.int .i64 N,.int .i64 k,.string tnm,.slice a n c',.slice ma 0 mc] 27)):=kR.alloc _
 go_enter Tryz.func99,Tryz.ntmps99
 go_wp2_with fail
 go_loop [11,2,3] (fun i m d=>i=.int .i64 0∧m=.int .i64 0∧d=.int .i64 0) (fun i _ _=>0)
 case atStart=>exact⟨rfl,rfl,rfl⟩
 case round=>
  obtain⟨rfl,rfl,rfl⟩:=hrel
  go_wp2_with fail
  go_ret2
  exact⟨rfl,K1⟩
theorem size_mk {ok:Nat→Prop} {op:Int} {nm:ByteArray} {N:Int} {k:Int} {tnm:ByteArray} {l:List Tm} {a:Option Addr} {n c':Nat} {b off mc:Nat} {w:World} (IH:∀ t,t∈l→SzC bz t) (hN:tmNs l≤100000) (K M:Nat→Value) (hb:ok b)
  (hcell:∀ i (h:i<l.length),w.cell? ⟨b,off+i*7,none⟩=some (.int .i64 l[i].op)∧w.cell? ⟨b,off+i*7+1,none⟩=some (.string l[i].name)∧w.cell? ⟨b,off+i*7+2,none⟩=some (.int .i64 l[i].n)∧w.cell? ⟨b,off+i*7+3,none⟩=some (.int .i64 l[i].ty.kind)∧w.cell? ⟨b,off+i*7+4,none⟩=some (.string l[i].ty.name)∧w.cell? ⟨b,off+i*7+5,none⟩=some (K i)∧w.cell? ⟨b,off+i*7+6,none⟩=some (M i))
  (hkk:∀ i (h:i<l.length),TyL bz ok w l[i].ty.kids (K i)) (hm:∀ i (h:i<l.length),TmL bz ok w l[i].kids (M i)):
  Calls Tryz.prog 99 #[.agg #[.int .i64 op,.string nm,.int .i64 N,.int .i64 k,.string tnm,.slice a n c',.slice (some ⟨b,off,none⟩) l.length mc]] w fun e w'=>e=.returned (.tuple #[.int .i64 ((tmNs l+1:Nat):Int),.int .i64 ((tmDs l+1:Nat):Int)])∧Kept (fun _=>False) w w':=by
 have K1:Kept (fun _=>False) w (w.alloc (.cells #[.int .i64 op,.string nm,.int .i64 N,.int .i64 k,.string tnm,.slice a n c',.slice (some ⟨b,off,none⟩) l.length mc] 27)):=kR.alloc _
 have HIH:=Ld IH
 have HC:=Ld hcell
 have HK:=Ld hkk
 have HM:=Ld hm
 have hlen:=tmNs_len l
 have hl9:(l.length:Int)<100001:=by omega
 have HNN:=Ld hN
 have HD:Hid (∀ j,tmDs (l.take j)≤tmNs (l.take j)):=Ld (fun j=>by
  have:∀ m:List Tm,tmDs m≤tmNs m:=by
   intro m
   induction m with
   | nil=>simp[tmDs,tmNs]
   | cons t m ih=>have:=tmD_le t;simp only[tmDs,tmNs];omega
  exact this _)
 clear IH hcell hkk hm hN hlen
 go_enter Tryz.func99,Tryz.ntmps99
 go_wp2_with fail
 generalize w.alloc (.cells #[.int .i64 op,.string nm,.int .i64 N,.int .i64 k,.string tnm,.slice a n c',.slice (some ⟨b,off,none⟩) l.length mc] 27)=w1 at *
 go_loopw [11,2,3] (fun i m d wr=>∃ j:Nat,j≤l.length∧i=.int .i64 j∧m=.int .i64 (tmNs (l.take j))∧d=.int .i64 (tmDs (l.take j))∧Kept (fun _=>False) w1 wr) (fun i _ _ _=>l.length-(intOf i).toNat)
 case atStart=>exact⟨0,Nat.zero_le _,rfl,rfl,rfl,Kept.refl _ _⟩
 case round=>
  obtain⟨j,hj,rfl,rfl,rfl,kr⟩:=hrel
  by_cases hlt:j<l.length
  ·have KR:=K1.trans kr
   have c0:=(Same.of_kept (ok:=ok) KR (fun k h e=>e)).cell hb (HC.out j hlt).1
   have c1:=(Same.of_kept (ok:=ok) KR (fun k h e=>e)).cell hb (HC.out j hlt).2.1
   have c2:=(Same.of_kept (ok:=ok) KR (fun k h e=>e)).cell hb (HC.out j hlt).2.2.1
   have c3:=(Same.of_kept (ok:=ok) KR (fun k h e=>e)).cell hb (HC.out j hlt).2.2.2.1
   have c4:=(Same.of_kept (ok:=ok) KR (fun k h e=>e)).cell hb (HC.out j hlt).2.2.2.2.1
   have c5:=(Same.of_kept (ok:=ok) KR (fun k h e=>e)).cell hb (HC.out j hlt).2.2.2.2.2.1
   have c6:=(Same.of_kept (ok:=ok) KR (fun k h e=>e)).cell hb (HC.out j hlt).2.2.2.2.2.2
   obtain⟨ta,tn,tc,hKj⟩:=(HK.out j hlt).slice
   obtain⟨ua,un,uc,hMj⟩:=(HM.out j hlt).slice
   have hkk:=(HK.out j hlt).frame (Same.of_kept (ok:=ok) KR (fun k h e=>e))
   have hmm:=(HM.out j hlt).frame (Same.of_kept (ok:=ok) KR (fun k h e=>e))
   rw[hKj] at c5 hkk
   rw[hMj] at c6 hmm
   have hs1:=tmNs_snoc l j hlt
   have hs2:=tmDs_snoc l j hlt
   have hs3:=tmNs_take l (j+1)
   have hs4:=HD.out j
   have hs5:=tmD_le l[j]
   have hs6:=HNN.out
   have KA:Kept (fun _=>False) wr (wr.alloc (.cells #[.int .i64 l[j].op,.string l[j].name,.int .i64 l[j].n,.int .i64 l[j].ty.kind,.string l[j].ty.name,.slice ta tn tc,.slice ua un uc] 27)):=kR.alloc _
   have hcon:=Ld (HIH.out _ (List.getElem_mem hlt) _ ok _ _ (by omega) (hkk.frame (Same.of_kept (ok:=ok) KA (fun k h e=>e))) (hmm.frame (Same.of_kept (ok:=ok) KA (fun k h e=>e))))
   clear hkk hmm hKj hMj
   have hj2:(j:Int)<(l.length:Int):=by omega
   have HS1:=Ld hs1
   have HS2:=Ld hs2
   have b1:(tmNs (l.take j):Int)+(tmN l[j]:Int)<100001:=by omega
   have b2:(0:Int)≤(tmNs (l.take j):Int)+(tmN l[j]:Int):=by omega
   have b3:(tmDs (l.take j):Int)<100001:=by omega
   have b4:(tmD l[j]:Int)<100001:=by omega
   clear hs1 hs2 hs3 hs4 hs5 hs6
   unfold tmVal at hcon
   go_wp2_with (go_at_call 99;refine hcon.out.mono ?_;rintro e w' ⟨rfl,k2⟩)
   go_roundw
   case rel=>
    refine⟨j+1,by omega,by go_num,?_,?_,(kr.trans KA).trans k2⟩
    ·rw[HS1.out];congr 1
    ·rw[HS2.out];congr 1;omega
   case measure=>simp[intOf];omega
  ·have e1:l.take j=l:=List.take_of_length_le (by omega)
   have hs4:=HD.out l.length
   rw[List.take_length] at hs4
   have hs6:=HNN.out
   rw[e1] at *
   have b1:(tmNs l:Int)+1<100002:=by omega
   have b2:(tmDs l:Int)+1<100002:=by omega
   clear hs4 hs6
   go_wp2_with fail
   go_ret2
   exact⟨rfl,K1.trans kr⟩
theorem size_any (t:Tm):SzC bz t:=by
 induction t using Tm.rec (motive_2:=fun l=>∀ t,t∈l→SzC bz t) with
 | mk op nm N ty l ih=>
  intro w ok tk kk hN hk hm
  obtain⟨a,n,cp,rfl⟩:=hk.slice
  obtain⟨ma,mn,mc,rfl⟩:=hm.slice
  have hn:mn=l.length:=hm.len
  subst hn
  have hm':TmL bz ok w l (.slice ma l.length mc):=hm
  rw[tmN,tmD]
  rw[tmN] at hN
  cases l with
  | nil=>exact size_leaf
  | cons t l=>
   cases hm' with
   | mk K M hne hb hcap hcell hkk hmm hs2=>exact size_mk ih (by omega) K M hb hcell hkk hmm
 | nil=>rename_i t h;cases h
 | cons t l iht ihl => rename_i u hu;rcases List.mem_cons.1 hu with rfl | hu
                       ·exact iht
                       ·exact ihl u hu
theorem f_iff (most deep:Nat) (hmo:most≤100000):∀ (t:Tm) (d c:Nat),c≤most→d≤deep+1→((fS most deep t d c).1=true↔OkTm t∧c+tmN t≤most∧d+tmD t≤deep+1):=by
 intro t
 induction t using Tm.rec (motive_2:=fun l=>∀ (d c:Nat),c≤most→d≤deep+1→((fsS most deep l d c).1=true↔(∀ t,t∈l→OkTm t)∧c+tmNs l≤most∧d+tmDs l≤deep+1)) with
 | mk op nm N ty l ih=>
  intro d c hc hd
  rw[f_eq,tmN,tmD]
  by_cases hb:((decide (c+1≤most)&&decide (d≤deep))&&formedB op nm N ty l.length)=true
  ·rw[if_pos hb]
   simp only[Bool.and_eq_true,decide_eq_true_eq] at hb
   rw[ih (d+1) (c+1) hb.1.1 (by omega)]
   have hl:=tmNs_len l
   constructor
   ·rintro⟨h1,h2,h3⟩
    exact⟨.mk hb.2 (by omega) h1,by omega,by omega⟩
   ·rintro⟨h1,h2,h3⟩
    cases h1 with
    | mk _ _ h1=>exact⟨h1,by omega,by omega⟩
  ·rw[if_neg hb]
   constructor
   ·intro h;cases h
   ·rintro⟨h1,h2,h3⟩
    exfalso
    apply hb
    simp only[Bool.and_eq_true,decide_eq_true_eq]
    exact⟨⟨by omega,by omega⟩,h1.formed⟩
 | nil=>
  rename_i d c hc hd
  constructor
  ·intro _
   refine⟨?_,?_,?_⟩
   ·intro t h;cases h
   ·show c+0≤most;omega
   ·show d+0≤deep+1;omega
  ·intro _;rfl
 | cons t l iht ihl=>
  rename_i d c hc hd
  rw[fsS,tmNs,tmDs]
  have ht:=iht d c hc hd
  cases hr:fS most deep t d c with
  | mk b c'=>
   rw[hr] at ht
   cases b
   ·simp only[Bool.false_eq_true,false_iff] at ht
    constructor
    ·intro h;cases h
    ·rintro⟨h1,h2,h3⟩
     exact (ht ⟨h1 t (by simp),by omega,by omega⟩).elim
   ·have hs:=f_sz most deep t d c (by rw[hr])
    rw[hr] at hs
    simp only[true_iff] at ht
    have hs:c'=c+tmN t:=hs
    show (fsS most deep l d c').1=true↔_
    rw[ihl d c' (by omega) hd,hs]
    constructor
    ·rintro⟨h1,h2,h3⟩
     refine⟨fun u hu=>?_,by omega,by omega⟩
     rcases List.mem_cons.1 hu with rfl | hu
     ·exact ht.1
     ·exact h1 u hu
    ·rintro⟨h1,h2,h3⟩
     exact⟨fun u hu=>h1 u (List.mem_cons_of_mem _ hu),by omega,by omega⟩
theorem valid_iff (t:Tm):validB t=true↔OkTm t∧tmN t≤2000∧tmD t≤64:=by
 unfold validB
 rw[f_iff 2000 64 (by decide) t 1 0 (by decide) (by decide)]
 constructor
 ·rintro⟨a,b,c⟩;exact⟨a,by omega,by omega⟩
 ·rintro⟨a,b,c⟩;exact⟨a,by omega,by omega⟩
def mkJ (op:Int) (a b:Tm):Tm:=.mk op nil0 0 ty0 [a,b]
def loopJ (op:Int):Tm→List Tm→Tm×Int
 | o,[]=>(o,0)
 | o,t::l=>if 2000<tmN (mkJ op o t)∨64<tmD (mkJ op o t) then (tm0,5) else loopJ op (mkJ op o t) l
def joinS (op em:Int) (l:List Tm):Tm×Int:=
 if l.all validB then (match l with
  | []=>(.mk em nil0 0 ty0 [],0)
  | a::r=>loopJ op a r) else (tm0,1)
theorem mkJ_N (op:Int) (a b:Tm):tmN (mkJ op a b)=tmN a+tmN b+1:=by
 unfold mkJ;simp only[tmN,tmNs];omega
mutual
def conjT:Tm→List Tm
 | .mk op nm N ty l=>if op=4 then conjsT l else [.mk op nm N ty l]
def conjsT:List Tm→List Tm
 | []=>[]
 | t::l=>conjT t++conjsT l
end
def ConjP (bz:Nat) (l:List Tm) (w:World) (e:Ending) (w':World):Prop:=∃ (E:List E3) (v:Value),e=.returned v∧RowT bz w w.heap.size w' E v∧E.map (·.1)=l
def ConjC (bz:Nat) (f:FuncId) (t:Tm):Prop:=∀ (w:World) (ok:Nat→Prop) (tk kk:Value),TyL bz ok w t.ty.kids tk→TmL bz ok w t.kids kk→Calls Tryz.prog f #[tmVal t tk kk] w (ConjP bz (conjT t) w)
theorem conjT_one {t:Tm} (h:t.op≠4):conjT t=[t]:=by
 cases t with
 | mk op nm N ty l=>rw[conjT];exact if_neg h
theorem conjT_two {t a b:Tm} (h:t.op=4) (hk:t.kids=[a,b]):conjT t=conjT a++conjT b:=by
 cases t with
 | mk op nm N ty l=>
  simp only[Tm.op,Tm.kids] at h hk
  subst h hk
  rw[conjT,if_pos rfl,conjsT,conjsT,conjsT,List.append_nil]
theorem and_kids {t:Tm} (h:OkTm t) (h4:t.op=4):∃ a b,t.kids=[a,b]:=by
 cases h with
 | mk hf hn hk=>
  rename_i op nm N ty l
  simp only[Tm.op] at h4
  subst h4
  have:=(formed_parts hf).1
  unfold kidOk at this
  have e:kidsN 4=(2,true):=rfl
  rw[e] at this
  simp at this
  match l,(show l.length=2 by omega) with
  | [a,b],_=>exact⟨a,b,rfl⟩
theorem conj_leaf {t:Tm} (hb:BdTm t) (h4:t.op≠4):ConjC bz 72 t:=by
 intro w ok tk kk hty htm
 obtain⟨a,n,c,rfl⟩:=hty.slice
 obtain⟨ma,mn,mc,rfl⟩:=htm.slice
 have hn:(t.op != 4)=true:=by simpa using h4
 have bA:Blk (w.alloc (.cells #[.int .i64 t.op,.string t.name,.int .i64 t.n,.int .i64 t.ty.kind,.string t.ty.name,.slice a n c,.slice ma mn mc] 27)) w.heap.size 27 [.int .i64 t.op,.string t.name,.int .i64 t.n,.int .i64 t.ty.kind,.string t.ty.name,.slice a n c,.slice ma mn mc]:=Blk.new w 27 _
 have K0:Kept (fun _=>False) w (w.alloc (.cells #[.int .i64 t.op,.string t.name,.int .i64 t.n,.int .i64 t.ty.kind,.string t.ty.name,.slice a n c,.slice ma mn mc] 27)):=kR.alloc _
 have HC:=Ld (clone_any hb _ ok _ _ (hty.frame (sK K0)) (htm.frame (sK K0)))
 have z0:(w.alloc (.cells #[.int .i64 t.op,.string t.name,.int .i64 t.n,.int .i64 t.ty.kind,.string t.ty.name,.slice a n c,.slice ma mn mc] 27)).heap.size=w.heap.size+1:=by simp
 unfold tmVal at HC ⊢
 have HE:=Ld (conjT_one h4)
 have HZ:=Ld z0
 clear hty htm h4 z0
 go_enter Tryz.func72,Tryz.ntmps72
 go_wp2_with fail
 refine HC.out.mono ?_
 rintro e w2 ⟨tk2,kk2,rfl,h1,h2,k2⟩
 obtain⟨ua,un,uc,rfl⟩:=h1.slice
 obtain⟨va,vn,vc,rfl⟩:=h2.slice
 unfold tmVal
 have H1:=Ld h1
 have H2:=Ld h2
 have K2:=Ld (K0.trans k2)
 have Z2:=Ld k2.size
 clear h1 h2 k2
 go_wp2_with fail
 go_ret
 have z2:=Z2.out
 rw[HZ.out] at z2
 have h1:=H1.out
 have h2:=H2.out
 rw[HZ.out] at h1 h2
 exact⟨[(t,_,_)],_,rfl,RowT.one (K2.out.alloc _) (Blk.new w2 27 _) (by omega) ((h1.mono (fun q hq h=>⟨by omega,by omega⟩)).frame (Same.alloc _ _)) ((h2.mono (fun q hq h=>⟨by omega,by omega⟩)).frame (Same.alloc _ _)),HE.out.symm⟩
theorem conj_node {t x y:Tm} (h4:t.op=4) (hk:t.kids=[x,y]) (hx:ConjC bz 72 x) (hy:ConjC bz 72 y) (hlen:(conjT x).length+(conjT y).length≤1000000):ConjC bz 72 t:=by
 intro w ok tk kk hty htm
 obtain⟨a,n,c,rfl⟩:=hty.slice
 obtain⟨ma,mn,mc,rfl⟩:=htm.slice
 have hn:(t.op != 4)=false:=by simpa using h4
 have bA:Blk (w.alloc (.cells #[.int .i64 t.op,.string t.name,.int .i64 t.n,.int .i64 t.ty.kind,.string t.ty.name,.slice a n c,.slice ma mn mc] 27)) w.heap.size 27 [.int .i64 t.op,.string t.name,.int .i64 t.n,.int .i64 t.ty.kind,.string t.ty.name,.slice a n c,.slice ma mn mc]:=Blk.new w 27 _
 have K0:Kept (fun _=>False) w (w.alloc (.cells #[.int .i64 t.op,.string t.name,.int .i64 t.n,.int .i64 t.ty.kind,.string t.ty.name,.slice a n c,.slice ma mn mc] 27)):=kR.alloc _
 obtain⟨i28,hi28,hz28,hs28,hb28⟩:=info_tm
 have HI:=Ld hi28
 have HZ:=Ld hz28
 have HS:=Ld hs28
 have HB:=Ld hb28
 have HE:=Ld (conjT_two h4 hk)
 have HLE:=Ld hlen
 have HM9:True:=trivial
 rw[hk] at htm
 have HAT:=Ld (fun W (k:Kept (fun _=>False) w W)=>(htm.frame (sK k)).at)
 obtain rfl:mn=2:=htm.len
 clear hty htm h4 hk hi28 hz28 hs28 hb28 hlen
 unfold tmVal
 obtain⟨g,off,ta,tn,tc,pa,pn,pc,rfl,_,lg,⟨c0,c1,c2,c3,c4,c5,c6⟩,hxt,hxm⟩:=HAT.out w kR 0 (by simp)
 obtain⟨g',off',ta',tn',tc',pa',pn',pc',e1,_,_,⟨d0,d1,d2,d3,d4,d5,d6⟩,hyt,hym⟩:=HAT.out w kR 1 (by simp)
 cases e1
 rw[show off+0*7=off by omega] at c0 c1 c2 c3 c4 c5 c6
 rw[show off+1*7=off+7 by omega] at d0 d1 d2 d3 d4 d5 d6
 change w.cell? ⟨g,off,none⟩=some (.int .i64 x.op) at c0
 change w.cell? ⟨g,off+1,none⟩=some (.string x.name) at c1
 change w.cell? ⟨g,off+2,none⟩=some (.int .i64 x.n) at c2
 change w.cell? ⟨g,off+3,none⟩=some (.int .i64 x.ty.kind) at c3
 change w.cell? ⟨g,off+4,none⟩=some (.string x.ty.name) at c4
 change w.cell? ⟨g,off+7,none⟩=some (.int .i64 y.op) at d0
 change w.cell? ⟨g,off+7+1,none⟩=some (.string y.name) at d1
 change w.cell? ⟨g,off+7+2,none⟩=some (.int .i64 y.n) at d2
 change w.cell? ⟨g,off+7+3,none⟩=some (.int .i64 y.ty.kind) at d3
 change w.cell? ⟨g,off+7+4,none⟩=some (.string y.ty.name) at d4
 have HX:=Ld (hx (w.alloc (.cells #[.int .i64 t.op,.string t.name,.int .i64 t.n,.int .i64 t.ty.kind,.string t.ty.name,.slice a n c,.slice (some ⟨g,off,none⟩) 2 mc] 27)) ok _ _ (hxt.frame (sK K0)) (hxm.frame (sK K0)))
 have HY:=Ld (fun W (k:Kept (fun _=>False) w W)=>hy W ok _ _ (hyt.frame (sK k)) (hym.frame (sK k)))
 unfold tmVal at HX HY
 have HC:=Ld (fun W (k:Kept (fun _=>False) w W)=>(⟨by rw[k.cell (p:=⟨g,off+7,none⟩) (by show g<_;omega) (fun h=>h)];exact d0,by rw[k.cell (p:=⟨g,off+7+1,none⟩) (by show g<_;omega) (fun h=>h)];exact d1,by rw[k.cell (p:=⟨g,off+7+2,none⟩) (by show g<_;omega) (fun h=>h)];exact d2,by rw[k.cell (p:=⟨g,off+7+3,none⟩) (by show g<_;omega) (fun h=>h)];exact d3,by rw[k.cell (p:=⟨g,off+7+4,none⟩) (by show g<_;omega) (fun h=>h)];exact d4,by rw[k.cell (p:=⟨g,off+7+5,none⟩) (by show g<_;omega) (fun h=>h)];exact d5,by rw[k.cell (p:=⟨g,off+7+6,none⟩) (by show g<_;omega) (fun h=>h)];exact d6⟩:C7 W g (off+7) y (.slice ta' tn' tc') (.slice pa' pn' pc')))
 clear hxt hxm hx hyt hym hy d0 d1 d2 d3 d4 d5 d6 HAT
 go_enter Tryz.func72,Tryz.ntmps72
 go_wp2_with fail
 refine HX.out.mono ?_
 rintro e w2 ⟨E,v2,rfl,R2,hm2⟩
 have gA2:∀ i,w2.cell? ⟨w.heap.size,i,none⟩=[Value.int .i64 t.op,.string t.name,.int .i64 t.n,.int .i64 t.ty.kind,.string t.ty.name,.slice a n c,.slice (some ⟨g,off,none⟩) 2 mc][i]?:=(bA.kept R2.kp (fun h=>h)).cell
 have K2:=Ld (K0.trans R2.kp)
 obtain⟨e0,e1,e2,e3,e4,e5,e6⟩:=HC.out w2 K2.out
 have HY2:=Ld (HY.out w2 K2.out)
 have HR2:=Ld R2
 have HM2:=Ld hm2
 clear R2 hm2 c0 c1 c2 c3 c4 c5 c6 HX HY
 go_wp2_with fail
 refine HY2.out.mono ?_
 rintro e w3 ⟨F,v3,rfl,R3,hm3⟩
 have HR3:=Ld R3
 have HM3:=Ld hm3
 have hlE:E.length=(conjT x).length:=by rw[← HM2.out,List.length_map]
 have hlF:F.length=(conjT y).length:=by rw[← HM3.out,List.length_map]
 have hmx:Hid (E.length+F.length≤maxLen):=Ld (by have:=HLE.out;unfold maxLen;omega)
 have hby:Hid ((E.length+F.length)*104≤140737488355328):=Ld (by have:=HLE.out;omega)
 clear hlE hlF
 clear R3 hm3 gA2 e0 e1 e2 e3 e4 e5 e6
 go_wp2_with (at_builtin;refine wpList_app_src rfl (.tmp 21) (.tmp 22) _ rfl (w.heap.size+1) 27 i28 _ 7 104 Tryz.underlying25 HI.out HZ.out HS.out HB.out rfl (by decide) v2 E.length (flat E) rfl ?_ v3 F.length (flat F) rfl ?_ ?_ ?_ ?_ ?_ ?_ ?_)
 ·have:=(HR2.out.kept HR3.out.kp).own
  simpa using this
 ·exact HR3.out.src
 ·exact flat_len F
 ·exact HR3.out.one'
 ·exact hmx.out
 ·exact hby.out
 ·have h1:=HR3.out.kp.size
  have h2:=K2.out.size
  have h3:=HR2.out.kp.size
  simp at h3
  omega
 intro v' w' own' hgrow hat
 go_wp2_with fail
 go_ret
 have z1:(w.alloc (.cells #[.int .i64 t.op,.string t.name,.int .i64 t.n,.int .i64 t.ty.kind,.string t.ty.name,.slice a n c,.slice (some ⟨g,off,none⟩) 2 mc] 27)).heap.size=w.heap.size+1:=by simp
 have r2:=HR2.out.kept HR3.out.kp
 rw[z1] at r2
 have h1:=K2.out.size
 have h2:=HR2.out.kp.size
 rw[z1] at h2
 have r3:RowT bz w (w.heap.size+1) w3 E v2:=⟨(K0.trans r2.kp),r2.own,r2.el⟩
 have hF:EL bz (okb (w.heap.size+1) v2) w3 F:=HR3.out.el.mono (fun q hq h=>⟨by have:=h.1;omega,fun e=>by have:=(HR2.out.own.lt q e).2;have:=h.1;omega⟩)
 have r4:=RowT.app2 (by omega) r3 hF own' hgrow hat
 exact⟨E++F,v',rfl,⟨r4.kp,own_base r4.own (fun g hg=>by have:=(r4.own.lt g hg).1;omega),r4.el.mono (fun q _ h=>⟨by have:=h.1;omega,h.2⟩)⟩,by rw[List.map_append,HM2.out,HM3.out,HE.out]⟩
theorem conj_len:∀ (t:Tm),(conjT t).length≤tmN t:=by
 intro t
 induction t using Tm.rec (motive_2:=fun l=>(conjsT l).length≤tmNs l) with
 | mk op nm N ty l ih=>
  rw[conjT,tmN]
  split
  ·omega
  ·simp
 | nil=>exact Nat.le_refl _
 | cons t l iht ihl=>rw[conjsT,tmNs,List.length_append];omega
theorem conj_main:∀ {t:Tm},OkTm t→BdTm t→tmN t≤100000→ConjC bz 72 t:=by
 intro t h
 induction h with
 | mk hf hn hk ih=>
  rename_i op nm N ty l
  intro hb hN
  by_cases h4:op=4
  ·obtain⟨x,y,hxy⟩:=and_kids (.mk hf hn hk) h4
   have hl:l=[x,y]:=hxy
   subst hl
   rw[tmN,tmNs,tmNs,tmNs] at hN
   have hbk:∀ u,u∈[x,y]→BdTm u:=by cases hb;assumption
   have l1:=conj_len x
   have l2:=conj_len y
   exact conj_node h4 rfl (ih x (by simp) (hbk x (by simp)) (by omega)) (ih y (by simp) (hbk y (by simp)) (by omega)) (by omega)
  ·exact conj_leaf hb h4
def heldE (v:Value):Option (DataW Value×List MemPlace):=some (.held v,[])
def kL (s:ByteArray):Lit:=.string s.data.toList
theorem kL_inj {s t:ByteArray} (h:kL s=kL t):s=t:=by
 unfold kL at h
 cases s with | mk s=>cases t with | mk t=>simp only[Lit.string.injEq] at h;rw[Array.toList_inj.1 h]
theorem kL_key (s:ByteArray):WideAt.IsKeyLit (kL s):=trivial
theorem k9:Maps.Keyed Tryz.prog 9:=Maps.string_keyed Tryz.underlying9
theorem k9_of {s:ByteArray} (h:s.size≤maxLen):keyOf Tryz.prog 9 (.string s)=some (kL s):=WideMaps.keyOf_string_mk Tryz.underlying9 h
theorem k9_inv {key:Value} {kl:Lit} (h:keyOf Tryz.prog 9 key=some kl):∃ s:ByteArray,key=.string s∧kl=kL s∧s.size≤maxLen:=by
 have e:=keyOf_string Tryz.underlying9 (v:=key)
 cases key with
 | string s=>
  rw[keyOf_string Tryz.underlying9] at h
  simp only[mapKey,Tryz.underlying9] at h
  split at h
  ·cases h;exact⟨s,rfl,rfl,by assumption⟩
  ·cases h
 | _=>
  rw[keyOf_string Tryz.underlying9] at h
  simp[mapKey,Tryz.underlying9] at h
structure Says (D:DataW Value) (f:ByteArray→Option Value):Prop where
 has:∀ s,Maps.has D (kL s)=(f s).isSome
 val:∀ s v,f s=some v→∀ z,D.atKey (kL s) z=.held v
def MapF (w:World) (b n:Nat) (f:ByteArray→Option Value):Prop:=∃ D:DataW Value,w.ownsMap Tryz.prog 9 heldE b n D∧Says D f
def updF (f:ByteArray→Option Value) (s:ByteArray) (v:Value):ByteArray→Option Value:=fun t=>if t=s then some v else f t
theorem Says.get {D:DataW Value} {f:ByteArray→Option Value} (h:Says D f) (s:ByteArray) (z:Value):D.atKey (kL s) (.held z)=.held ((f s).getD z):=by
 cases hf:f s with
 | none=>
  have:=h.has s
  rw[hf] at this
  exact Maps.atKey_of_not_has this _
 | some v=>exact h.val s v hf _
theorem Says.put {D:DataW Value} {f:ByteArray→Option Value} (h:Says D f) (hD:Maps.IsMap D) (s:ByteArray) (v:Value):Says (D.put (kL s) (.held v)) (updF f s v):=by
 refine⟨fun t=>?_,fun t u hu z=>?_⟩
 ·unfold updF
  by_cases e:t=s
  ·subst e;rw[if_pos rfl,Maps.has_put_same hD (kL_key t)];rfl
  ·rw[if_neg e,Maps.has_put_other (fun h=>e (kL_inj h)),h.has]
 ·unfold updF at hu
  by_cases e:t=s
  ·subst e;rw[if_pos rfl] at hu;cases hu;exact Maps.atKey_put_same hD (kL_key t) _ _
  ·rw[if_neg e] at hu;rw[Maps.atKey_put_other (fun h=>e (kL_inj h))];exact h.val t u hu z
theorem MapF.made (w:World):MapF (w.alloc (.map #[] 0)) w.heap.size 0 (fun _=>none):=
 ⟨.map [],World.ownsMap_made w Tryz.prog 9 heldE,fun _=>rfl,fun _ _ h=>by cases h⟩
theorem MapF.lt {w:World} {b n:Nat} {f:ByteArray→Option Value} (h:MapF w b n f):b<w.heap.size:=by obtain⟨D,h,_⟩:=h;exact h.lt
theorem MapF.mono {w:World} {b n n':Nat} {f:ByteArray→Option Value} (h:MapF w b n f) (hn:n≤n'):MapF w b n' f:=by obtain⟨D,h,h2⟩:=h;exact⟨D,h.mono hn,h2⟩
theorem MapF.kept {S:Nat→Prop} {w w':World} {b n:Nat} {f:ByteArray→Option Value} (h:MapF w b n f) (k:Kept S w w') (hb:¬ S b):MapF w' b n f:=by
 have hlt:=h.lt
 obtain⟨D,⟨es,clock,h1,h2⟩,h3⟩:=h
 exact⟨D,⟨es,clock,(k.block b hlt hb).trans h1,h2⟩,h3⟩
theorem MapF.look {w:World} {b n:Nat} {f:ByteArray→Option Value} (h:MapF w b n f) {t e:TypeId} (ht:Tryz.prog.underlying t=some (.map 9 e)) {z:Value} (hz:(zeroValue e).run Tryz.prog w=.ok z w) {s:ByteArray} (hs:s.size≤maxLen):
  (Instr.lookup t (.map (some b)) (.string s) false).run Tryz.prog w=.ok ((f s).getD z) w:=by
 obtain⟨D,hD,hf⟩:=h
 obtain⟨v,ps,h1,h2⟩:=hD.lookup (z:=z) k9 ht hz (zd:=.held z) (zp:=[]) rfl (k9_of hs)
 rw[hf.get s z] at h2
 cases h2
 exact h1
theorem MapF.look_ok {w:World} {b n:Nat} {f:ByteArray→Option Value} (h:MapF w b n f) {t e:TypeId} (ht:Tryz.prog.underlying t=some (.map 9 e)) {z:Value} (hz:(zeroValue e).run Tryz.prog w=.ok z w) {s:ByteArray} (hs:s.size≤maxLen):
  (Instr.lookup t (.map (some b)) (.string s) true).run Tryz.prog w=.ok (.tuple #[(f s).getD z,.bool (f s).isSome]) w:=by
 obtain⟨D,hD,hf⟩:=h
 obtain⟨v,ps,h1,h2⟩:=hD.look_ok (z:=z) k9 ht hz (zd:=.held z) (zp:=[]) rfl (k9_of hs)
 rw[hf.get s z] at h2
 rw[hf.has s] at h1
 cases h2
 exact h1
theorem MapF.store {w:World} {b n:Nat} {f:ByteArray→Option Value} (h:MapF w b n f) {t e:TypeId} (ht:Tryz.prog.underlying t=some (.map 9 e)) {s:ByteArray} (hs:s.size≤maxLen) (hn:n<maxLen) (v:Value):
  ∃ w',(Instr.mapUpdate t (.map (some b)) (.string s) v).run Tryz.prog w=.ok () w'∧MapF w' b (n+1) (updF f s v)∧Kept (fun q=>q=b) w w':=by
 obtain⟨D,hD,hf⟩:=h
 obtain⟨w',h1,h2,h3⟩:=hD.update k9 ht hn (k9_of hs) (val:=v) (d:=.held v) (ps:=[]) rfl
 exact⟨w',h1,⟨_,h2,hf.put hD.isMap s v⟩,⟨h3.os,h3.tape,h3.output,h3.size,fun k hk hn=>h3.block k hk (fun e=>hn (Option.some.inj e))⟩⟩
theorem MapF.isEmpty {w:World} {b n:Nat} {f:ByteArray→Option Value} (h:MapF w b n f) {t e:TypeId} (ht:Tryz.prog.underlying t=some (.map 9 e)) (ty:TypeId):
  ∃ m:Nat,(Builtin.len_ #[t] ty #[.map (some b)]).run Tryz.prog w=.ok (.int .i64 m) w∧m≤n∧(m=0↔∀ s:ByteArray,s.size≤maxLen→f s=none):=by
 obtain⟨D,hD,hf⟩:=h
 refine⟨_,hD.len ht ty,hD.size_le,?_⟩
 obtain⟨es,clock,h1,F,h2,rfl⟩:=hD
 constructor
 ·intro h s _
  have h3:=hf.has s
  have h4:((es.toList.map (WideElems.rg Tryz.prog 9 heldE)).foldr DataW.insert [])=[]:=List.length_eq_zero_iff.1 h
  rw[h4] at h3
  cases hs:f s with
  | none=>rfl
  | some v=>rw[hs] at h3;cases h3
 ·intro h
  rw[Maps.size_eq]
  apply List.length_eq_zero_iff.2
  apply List.eq_nil_iff_forall_not_mem.2
  intro p hp
  obtain⟨x,hx,rfl⟩:=List.mem_map.1 (mem_sorted.1 hp)
  obtain⟨y,hy⟩:=F.reads x hx
  obtain⟨s,_,e2,hs⟩:=k9_inv (WideElems.rd_key hy)
  have h3:=hf.has s
  rw[h s hs,Maps.has_eq] at h3
  have h5:((es.toList.map (WideElems.rg Tryz.prog 9 heldE)).foldr DataW.insert []).any (fun p=>p.1.sameKey (kL s))=true:=
   List.any_eq_true.2 ⟨_,hp,by rw[WideElems.rg_of hy,e2];exact WideAt.sameKey_self (kL_key s)⟩
  rw[h5] at h3;cases h3
theorem MapF.small {w:World} {b n:Nat} {f:ByteArray→Option Value} (h:MapF w b n f) {s:ByteArray} (hs:(f s).isSome=true):s.size≤maxLen:=by
 obtain⟨D,hD,hf⟩:=h
 obtain⟨es,clock,h1,F,h2,rfl⟩:=hD
 have h3:=hf.has s
 rw[hs,Maps.has_eq] at h3
 obtain⟨p,hp,hk⟩:=List.any_eq_true.1 h3
 obtain⟨x,hx,rfl⟩:=List.mem_map.1 (mem_sorted.1 hp)
 obtain⟨y,hy⟩:=F.reads x hx
 obtain⟨s',_,e2,hs'⟩:=k9_inv (WideElems.rd_key hy)
 rw[WideElems.rg_of hy,e2] at hk
 have e:=kL_inj ((WideAt.sameKey_iff (kL_key s)).1 hk)
 rw[← e];exact hs'
def MapR (w:World) (b r n:Nat) (f:ByteArray→Option Value) (g:ByteArray→Bool) (cnt:Nat):Prop:=∃ (D:DataW Value) (left:Lit→Bool),w.ranges Tryz.prog 9 heldE b r n D left cnt∧Says D f∧∀ s,left (kL s)=g s
theorem MapR.map {w:World} {b r n cnt:Nat} {f:ByteArray→Option Value} {g:ByteArray→Bool} (h:MapR w b r n f g cnt):MapF w b n f:=by obtain⟨D,l,h,hf,_⟩:=h;exact⟨D,h.owns,hf⟩
theorem MapR.left {w:World} {b r n cnt:Nat} {f:ByteArray→Option Value} {g:ByteArray→Bool} (h:MapR w b r n f g cnt):w.rangeLeft b r=cnt:=by obtain⟨D,l,h,_⟩:=h;exact h.left_eq
theorem MapR.lt {w:World} {b r n cnt:Nat} {f:ByteArray→Option Value} {g:ByteArray→Bool} (h:MapR w b r n f g cnt):r<w.heap.size:=by obtain⟨D,l,h,_⟩:=h;exact h.lt
theorem MapR.kept {S:Nat→Prop} {w w':World} {b r n cnt:Nat} {f:ByteArray→Option Value} {g:ByteArray→Bool} (h:MapR w b r n f g cnt) (k:Kept S w w') (hb:¬ S b) (hr:¬ S r):MapR w' b r n f g cnt:=by
 have h1:=h.map.lt
 have h2:=h.lt
 obtain⟨D,l,⟨es,clock,since,seen,c0,e1,F,hs,hD,e2,rest⟩,hf⟩:=h
 exact⟨D,l,⟨es,clock,since,seen,c0,(k.block b h1 hb).trans e1,F,hs,hD,(k.block r h2 hr).trans e2,rest⟩,hf⟩
theorem MapF.range {w:World} {b n:Nat} {f:ByteArray→Option Value} (h:MapF w b n f) {t e:TypeId} (ht:Tryz.prog.underlying t=some (.map 9 e)):
  ∃ w' cnt,(Instr.range t (.map (some b))).run Tryz.prog w=.ok (.pointer (some ⟨w.heap.size,0,none⟩)) w'∧MapR w' b w.heap.size n f (fun s=>(f s).isSome) cnt∧Kept (fun _=>False) w w'∧w'.heap.size=w.heap.size+1∧cnt≤n:=by
 obtain⟨D,hD,hf⟩:=h
 obtain⟨w',h1,h2,h3,h4⟩:=hD.range k9 ht
 exact⟨w',_,h1,⟨D,_,h2,hf,hf.has⟩,⟨h3.os,h3.tape,h3.output,h3.size,fun k hk _=>h3.block k hk (by simp)⟩,h4,hD.size_le⟩
theorem MapR.next {w:World} {b r n cnt:Nat} {f:ByteArray→Option Value} {g:ByteArray→Bool} (h:MapR w b r n f g cnt) (ty:TypeId):
  ((∀ s:ByteArray,s.size≤maxLen→g s=false)∧(Instr.next (.pointer (some ⟨r,0,none⟩)) false ty).run Tryz.prog w=.ok (.tuple #[.bool false]) w) ∨
  ∃ s v w' cnt',s.size≤maxLen∧g s=true∧f s=some v∧(Instr.next (.pointer (some ⟨r,0,none⟩)) false ty).run Tryz.prog w=.ok (.tuple #[.bool true,.string s,v]) w' ∧
   MapR w' b r n f (fun t=>g t&&!decide (t=s)) cnt'∧cnt'<cnt∧Kept (fun q=>q=r) w w'∧w'.heap.size=w.heap.size∧(Instr.entry (.pointer (some ⟨r,0,none⟩))).run Tryz.prog w'=.ok (.tuple #[.string s,v]) w':=by
 obtain⟨D,l,h1,hf,hl⟩:=h
 rcases h1.next k9 ty with ⟨h0,ha,hrun⟩ | ⟨key,v,kl,y,w',cnt',hkey,hlk,hv,hat,hrun,hrg,hlt,hgr,hsz,hen⟩
 ·exact Or.inl ⟨fun s _=>by rw[← hl,ha],hrun⟩
 ·obtain⟨s,rfl,rfl,hs⟩:=k9_inv hkey
  cases hv
  have hfs:f s=some v:=by
   cases hfs:f s with
   | none=>
    have:=hat .nil
    rw[Maps.atKey_of_not_has (by rw[hf.has,hfs];rfl)] at this
    cases this
   | some u=>
    have:=hf.val s u hfs .nil
    rw[hat] at this
    cases this
    rfl
  refine Or.inr ⟨s,v,w',cnt',hs,by rw[← hl,hlk],hfs,hrun,⟨D,_,hrg,hf,fun t=>?_⟩,hlt,⟨hgr.os,hgr.tape,hgr.output,hgr.size,fun k hk hn=>hgr.block k hk (fun e=>hn (Option.some.inj e))⟩,hsz,hen⟩
  show (l (kL t)&&!(kL t).sameKey (kL s))=_
  have e:(kL t).sameKey (kL s)=decide (t=s):=by
   rw[Bool.eq_iff_iff,WideAt.sameKey_iff (kL_key s),decide_eq_true_eq]
   exact⟨kL_inj,fun e=>by rw[e]⟩
  rw[hl,e]
section
variable {ops:Array Oper} {rest:List Oper} {o:Oper} {a:Act} {Q:Exit→Act→World→Prop} {w:World} {b n:Nat} {f:ByteArray→Option Value} {t e:TypeId}
theorem wpList_storeF (hg:o.guard=none) (m x v:Operand) (t e:TypeId) (hop:o.op=Op.mapUpdate t m x v) (ht:Tryz.prog.underlying t=some (.map 9 e)) (hm:a.eval m=.map (some b)) (hM:MapF w b n f) (s:ByteArray) (hx:a.eval x=.string s) (hs:s.size≤maxLen) (hn:n<maxLen) (u:Value) (hv:a.eval v=u)
  (h:∀ w',MapF w' b (n+1) (updF f s u)→Kept (fun q=>q=b) w w'→wpList Tryz.prog ops Q rest (a.put o.dst undef) w'):wpList Tryz.prog ops Q (o::rest) a w:=by
 refine wpList_plain hg fun K' hK'=>?_
 obtain⟨w',hrun,r1,r2⟩:=hM.store ht hs hn u
 unfold Oper.wp
 simp[execOp,hop,hm,hx,hv,hrun,Result.andThen]
 exact hK' _ _ (h w' r1 r2)
theorem wpList_rangeF (hg:o.guard=none) (m:Operand) (t e:TypeId) (hop:o.op=Op.range t m) (ht:Tryz.prog.underlying t=some (.map 9 e)) (hm:a.eval m=.map (some b)) (hM:MapF w b n f)
  (h:∀ w' cnt,MapR w' b w.heap.size n f (fun s=>(f s).isSome) cnt→Kept (fun _=>False) w w'→w'.heap.size=w.heap.size+1→cnt≤n→wpList Tryz.prog ops Q rest (a.put o.dst (.pointer (some ⟨w.heap.size,0,none⟩))) w'):wpList Tryz.prog ops Q (o::rest) a w:=by
 refine wpList_plain hg fun K' hK'=>?_
 obtain⟨w',cnt,hrun,r1,r2,r3,r4⟩:=hM.range ht
 unfold Oper.wp
 simp[execOp,hop,hm,hrun,Result.andThen]
 exact hK' _ _ (h w' cnt r1 r2 r3 r4)
theorem wpList_nextF {r cnt:Nat} {g:ByteArray→Bool} (hg:o.guard=none) (it:Operand) (hop:o.op=Op.next it false) (hit:a.eval it=.pointer (some ⟨r,0,none⟩)) (hR:MapR w b r n f g cnt)
  (hDone:(∀ s:ByteArray,s.size≤maxLen→g s=false)→wpList Tryz.prog ops Q rest (a.put o.dst (.tuple #[.bool false])) w)
  (hMore:∀ (s:ByteArray) (v:Value) (w':World) (cnt':Nat),s.size≤maxLen→g s=true→f s=some v→MapR w' b r n f (fun t=>g t&&!decide (t=s)) cnt'→cnt'<cnt→Kept (fun q=>q=r) w w'→w'.heap.size=w.heap.size →
   (Instr.entry (.pointer (some ⟨r,0,none⟩))).run Tryz.prog w'=.ok (.tuple #[.string s,v]) w'→wpList Tryz.prog ops Q rest (a.put o.dst (.tuple #[.bool true,.string s,v])) w'):wpList Tryz.prog ops Q (o::rest) a w:=by
 refine wpList_plain hg fun K' hK'=>?_
 unfold Oper.wp
 rcases hR.next o.type with ⟨h0,hrun⟩ | ⟨s,v,w',cnt',h1,h2,h3,hrun,h4,h5,h6,h7,h8⟩
 ·simp[execOp,hop,hit,hrun,Result.andThen]
  exact hK' _ _ (hDone h0)
 ·simp[execOp,hop,hit,hrun,Result.andThen]
  exact hK' _ _ (hMore s v w' cnt' h1 h2 h3 h4 h5 h6 h7 h8)
end
def bagF (B:ByteArray→Bool):ByteArray→Option Value:=fun s=>if B s then some (.bool true) else none
theorem bagF_upd (B:ByteArray→Bool) (s:ByteArray):updF (bagF B) s (.bool true)=bagF (fun t=>B t||decide (t=s)):=by
 funext t
 unfold updF bagF
 by_cases e:t=s
 ·subst e;simp
 ·simp[e]
theorem bagF_get (B:ByteArray→Bool) (s:ByteArray):(bagF B s).getD (.bool false)=.bool (B s):=by
 unfold bagF;cases B s <;> rfl
def CntF (f:ByteArray→Option Value) (c:ByteArray→Nat):Prop:=∀ s,(f s).getD (.int .i64 0)=.int .i64 (c s)
theorem CntF.upd {f:ByteArray→Option Value} {c:ByteArray→Nat} (h:CntF f c) (s:ByteArray) (k:Nat):CntF (updF f s (.int .i64 k)) (fun t=>if t=s then k else c t):=by
 intro t
 show _=Value.int .i64 ((if t=s then k else c t:Nat):Int)
 unfold updF
 by_cases e:t=s
 ·rw[if_pos e,if_pos e];rfl
 ·rw[if_neg e,if_neg e];exact h t
theorem u90:Tryz.prog.underlying 69=some (.map 9 4):=Tryz.underlying69
theorem u95:Tryz.prog.underlying 89=some (.map 9 3):=Tryz.underlying89
theorem z4 (w:World):(zeroValue 4).run Tryz.prog w=.ok (.bool false) w:=Tryz.zeroValue4 w
theorem z3 (w:World):(zeroValue 3).run Tryz.prog w=.ok (.int .i64 0) w:=Tryz.zeroValue3 w
def stripD (l:List UInt8):List UInt8:=(l.reverse.dropWhile fun c=>digitB c.toNat).reverse
theorem stripD_snoc (l:List UInt8) (c:UInt8):stripD (l++[c])=if digitB c.toNat then stripD l else l++[c]:=by
 unfold stripD
 rw[List.reverse_append,List.reverse_cons,List.reverse_nil,List.nil_append,List.singleton_append,List.dropWhile_cons]
 split
 ·rfl
 ·rw[List.reverse_cons,List.reverse_reverse]
theorem stripD_pre:∀ (l:List UInt8),∃ r,l=stripD l++r:=by
 intro l
 refine⟨(l.reverse.takeWhile fun c=>digitB c.toNat).reverse,?_⟩
 unfold stripD
 rw[← List.reverse_append,List.takeWhile_append_dropWhile,List.reverse_reverse]
theorem strip_dig:∀ (l:List UInt8),stripD l=[]→∀ c∈l,digitB c.toNat=true:=by
 intro l h c hc
 unfold stripD at h
 rw[List.reverse_eq_nil_iff] at h
 have:∀ (m:List UInt8),m.dropWhile (fun c=>digitB c.toNat)=[]→∀ c∈m,digitB c.toNat=true:=by
  intro m
  induction m with
  | nil=>intro _ c hc;cases hc
  | cons a m ih=>
   intro hh c hc
   rw[List.dropWhile_cons] at hh
   split at hh
   ·rename_i ha
    rcases List.mem_cons.1 hc with rfl | hc
    ·exact ha
    ·exact ih hh c hc
   ·cases hh
 exact this _ h c (List.mem_reverse.2 hc)
theorem letter_not_digit {c:Int} (h:letterB c=true):digitB c=false:=by
 unfold letterB at h;unfold digitB
 simp only[Bool.or_eq_true,Bool.and_eq_true,decide_eq_true_eq] at h
 rw[Bool.and_eq_false_iff]
 simp only[decide_eq_false_iff_not]
 omega
theorem strip_head {l:List UInt8} (hne:l≠[]) (hh:letterB (l.headD 0).toNat=true):stripD l≠[]∧(stripD l).headD 0=l.headD 0:=by
 have h1:stripD l≠[]:=by
  intro e
  have:=strip_dig l e (l.headD 0) (by cases l with | nil=>exact absurd rfl hne | cons a l=>simp)
  rw[letter_not_digit hh] at this;cases this
 refine⟨h1,?_⟩
 obtain⟨r,hr⟩:=stripD_pre l
 cases hs:stripD l with
 | nil=>exact absurd hs h1
 | cons a s=>rw[hs] at hr;rw[hr];rfl
def candL (b:List UInt8) (k:Nat):List UInt8:=b.take (16-(Lib.decDigits k).length)++Lib.decDigits k
def frGo (b:List UInt8) (used:List ByteArray):Nat→Nat→ByteArray
 | 0,k=>str (candL b k)
 | f+1,k=>if mb (str (candL b k)) used then frGo b used f (k+1) else str (candL b k)
def xS:ByteArray:=⟨#[120]⟩
def baseL (name:ByteArray):List UInt8:=stripD (trimQ name).data.toList
def frFrom (nm:ByteArray) (used:List ByteArray):ByteArray:=if mb nm used then frGo (baseL nm) used 1000000 1 else nm
def freshS (name:ByteArray) (used:List ByteArray):ByteArray:=frFrom (if namedB name then name else xS) used
theorem frGo_at (b:List UInt8) (used:List ByteArray):∀ (f k:Nat),(∃ j,k≤j∧j≤k+f∧mb (str (candL b j)) used=false)→∃ j,frGo b used f k=str (candL b j)∧mb (str (candL b j)) used=false∧k≤j∧j≤k+f∧∀ i,k≤i→i<j→mb (str (candL b i)) used=true
 | 0,k,⟨j,h1,h2,h3⟩=>by
  have:j=k:=by omega
  subst this
  exact⟨j,rfl,h3,by omega,by omega,fun i h4 h5=>by omega⟩
 | f+1,k,⟨j,h1,h2,h3⟩=>by
  rw[frGo]
  cases hm:mb (str (candL b k)) used
  ·simp only[Bool.false_eq_true,if_false]
   exact⟨k,rfl,hm,by omega,by omega,fun i h4 h5=>by omega⟩
  ·simp only[if_true]
   have hjk:j≠k:=by rintro rfl;rw[hm] at h3;cases h3
   obtain⟨i,e,h4,h5,h6,h7⟩:=frGo_at b used f (k+1) ⟨j,by omega,by omega,h3⟩
   refine⟨i,e,h4,by omega,by omega,fun q h8 h9=>?_⟩
   by_cases hq:q=k
   ·subst hq;exact hm
   ·exact h7 q (by omega) h9
theorem holes {α:Type} [DecidableEq α]:∀ (n:Nat) (f:Nat→α) (L:List α),(∀ i j,i<n→j<n→f i=f j→i=j)→(∀ i,i<n→f i∈L)→n≤L.length
 | 0,_,_,_,_=>Nat.zero_le _
 | n+1,f,L,hinj,hL=>by
  have h1:=hL n (by omega)
  have:=holes n f (L.erase (f n)) (fun i j hi hj e=>hinj i j (by omega) (by omega) e) (fun i hi=>(List.mem_erase_of_ne (fun e=>by have:=hinj i n (by omega) (by omega) e;omega)).2 (hL i (by omega)))
  rw[List.length_erase_of_mem h1] at this
  have:0<L.length:=List.length_pos_of_mem h1
  omega
theorem dec_val:∀ (n:Nat),(Lib.decDigits n).foldl (fun v c=>v*10+(c.toNat-48)) 0=n:=by
 intro n
 induction n using Nat.strongRecOn with
 | _ n ih=>
  rw[Lib.decDigits]
  split
  ·rename_i h
   rw[List.foldl_cons,List.foldl_nil,UInt8.toNat_ofNat',Nat.mod_eq_of_lt (by omega)];omega
  ·rename_i h
   rw[List.foldl_append,ih (n / 10) (by omega),List.foldl_cons,List.foldl_nil,UInt8.toNat_ofNat',Nat.mod_eq_of_lt (by omega)]
   omega
theorem dec_inj {a b:Nat} (h:Lib.decDigits a=Lib.decDigits b):a=b:=by rw[← dec_val a,← dec_val b,h]
theorem dec_dig2:∀ (n:Nat),∀ c,c∈Lib.decDigits n→digitB c.toNat=true:=by
 intro n
 induction n using Nat.strongRecOn with
 | _ n ih=>
  intro c hc
  rw[Lib.decDigits] at hc
  split at hc
  ·rename_i h
   rw[List.mem_singleton.1 hc,UInt8.toNat_ofNat',Nat.mod_eq_of_lt (by omega)]
   unfold digitB;rw[Bool.and_eq_true,decide_eq_true_eq,decide_eq_true_eq];omega
  ·rename_i h
   rcases List.mem_append.1 hc with hc | hc
   ·exact ih _ (by omega) c hc
   ·rw[List.mem_singleton.1 hc,UInt8.toNat_ofNat',Nat.mod_eq_of_lt (by omega)]
    unfold digitB;rw[Bool.and_eq_true,decide_eq_true_eq,decide_eq_true_eq];omega
theorem dec_ne2 (n:Nat):Lib.decDigits n≠[]:=by
 rw[Lib.decDigits];split <;> simp
theorem dec_len2:∀ (k n:Nat),n<10 ^ (k+1)→(Lib.decDigits n).length≤k+1:=by
 intro k
 induction k with
 | zero=>intro n h;rw[Lib.decDigits,dif_pos (by omega)];simp
 | succ k ih=>
  intro n h
  rw[Lib.decDigits]
  split
  ·simp
  ·rw[List.length_append,List.length_singleton]
   have:=ih (n / 10) (by rw[Nat.pow_succ] at h;omega)
   omega
theorem dec_six {n:Nat} (h1:100000≤n) (h2:n<1000000):(Lib.decDigits n).length=6:=by
 have:=dec_len2 5 n (by omega)
 have h:∀ (k n:Nat),10 ^ k≤n→k+1≤(Lib.decDigits n).length:=by
  intro k
  induction k with
  | zero=>intro n _;have:=dec_ne2 n;exact List.length_pos_iff.2 this
  | succ k ih=>
   intro n hn
   rw[Lib.decDigits]
   have hp:1≤10 ^ k:=Nat.one_le_pow _ _ (by decide)
   rw[Nat.pow_succ] at hn
   rw[dif_neg (by omega),List.length_append,List.length_singleton]
   have:=ih (n / 10) (by omega)
   omega
 have:=h 5 n (by omega)
 omega
theorem str_inj {a b:List UInt8} (h:str a=str b):a=b:=by
 have:(str a).data.toList=(str b).data.toList:=by rw[h]
 simpa [str] using this
theorem cand_free (b:List UInt8) (used:List ByteArray) (h:used.length≤800000):∃ j,1≤j∧j≤1+1000000∧mb (str (candL b j)) used=false:=by
 by_cases hh:∃ j,1≤j∧j≤1+1000000∧mb (str (candL b j)) used=false
 ·exact hh
 ·exfalso
  have:=holes 900000 (fun i=>str (candL b (100000+i))) used (fun i j hi hj e=>?_) (fun i hi=>?_)
  ·omega
  ·have e:=str_inj e
   unfold candL at e
   rw[dec_six (by omega) (by omega),dec_six (by omega) (by omega)] at e
   have:=dec_inj (List.append_cancel_left e)
   omega
  ·rw[← mb_iff]
   cases hm:mb (str (candL b (100000+i))) used
   ·exact absurd ⟨_,by omega,by omega,hm⟩ hh
   ·rfl
theorem freshS_good (name:ByteArray) (used:List ByteArray) (h:used.length≤800000):mb (freshS name used) used=false:=by
 unfold freshS
 generalize (if namedB name then name else xS)=nm
 unfold frFrom
 split
 ·obtain⟨j,e,h1,_⟩:=frGo_at (baseL nm) used 1000000 1 (cand_free _ used h)
  rw[e];exact h1
 ·rename_i h;exact Bool.eq_false_iff.2 h
theorem freshS_FS:GoodFS freshS 800000:=fun x U h=>freshS_good x U h
theorem kws_dig:∀ l∈kws,∀ c∈l,digitB c.toNat=false:=by decide
theorem ident_parts {s:ByteArray}:identB s=true↔s.data.toList≠[]∧s.data.toList.length≤16∧letterB (s.data.toList.headD 0).toNat=true∧keywordB s=false∧allW s.data.toList=true:=by
 unfold identB
 simp only[Bool.and_eq_true,decide_eq_true_eq,Bool.not_eq_true']
 have e:s.size=s.data.toList.length:=by rw[Array.length_toList];rfl
 rw[e,List.length_pos_iff]
 constructor
 ·rintro⟨⟨⟨⟨a,b⟩,c⟩,d⟩,e⟩;exact⟨a,b,c,d,e⟩
 ·rintro⟨a,b,c,d,e⟩;exact⟨⟨⟨⟨a,b⟩,c⟩,d⟩,e⟩
theorem str_list (l:List UInt8):(str l).data.toList=l:=by simp[str]
theorem keyword_iff (s:ByteArray):keywordB s=true↔s.data.toList∈kws:=by
 unfold keywordB;rw[Go.ByteArray.toList_eq];exact List.contains_iff_mem
theorem cand_ident {b:List UInt8} {k:Nat} (hb:b≠[]) (hl:letterB (b.headD 0).toNat=true) (hw:allW b=true) (hk:k<10000000):identB (str (candL b k))=true:=by
 have hd:=dec_len2 6 k (by omega)
 have hne:=dec_ne2 k
 rw[ident_parts,str_list]
 cases b with
 | nil=>exact absurd rfl hb
 | cons a b=>
  have e:candL (a::b) k=a::(b.take (15-(Lib.decDigits k).length)++Lib.decDigits k):=by
   unfold candL
   rw[show 16-(Lib.decDigits k).length=(15-(Lib.decDigits k).length)+1 by omega,List.take_succ_cons,List.cons_append]
  refine⟨by rw[e];simp,?_,by rw[e];exact hl,?_,?_⟩
  ·unfold candL
   rw[List.length_append,List.length_take];omega
  ·rw[← Bool.not_eq_true,keyword_iff,str_list]
   intro hm
   cases hq:Lib.decDigits k with
   | nil=>exact hne hq
   | cons c r=>
    have h1:=kws_dig _ hm c (by unfold candL;rw[hq];simp)
    rw[dec_dig2 k c (by rw[hq];simp)] at h1;cases h1
  ·unfold allW at hw ⊢
   rw[List.all_eq_true] at hw ⊢
   intro c hc
   unfold candL at hc
   rcases List.mem_append.1 hc with hc | hc
   ·exact hw c (List.mem_of_mem_take hc)
   ·have:=dec_dig2 k c hc
    unfold inWordB;rw[this];simp
theorem x_ident:identB xS=true:=by kernel_rfl
theorem base_ok {nm:ByteArray} (h:namedB nm=true):baseL nm≠[]∧letterB ((baseL nm).headD 0).toNat=true∧allW (baseL nm)=true:=by
 unfold namedB at h
 rw[ident_parts] at h
 obtain⟨h1,h2,h3,h4,h5⟩:=h
 obtain⟨h6,h7⟩:=strip_head h1 h3
 refine⟨h6,by unfold baseL;rw[h7];exact h3,?_⟩
 obtain⟨r,hr⟩:=stripD_pre (trimQ nm).data.toList
 unfold allW at h5 ⊢
 rw[hr,List.all_append,Bool.and_eq_true] at h5
 exact h5.1
theorem ident_end {s:ByteArray} (h:identB s=true):trimQ s=s:=by
 rw[ident_parts] at h
 unfold trimQ
 have:Lib.trimSuffix s.data.toList [39]=s.data.toList:=by
  unfold Lib.trimSuffix Lib.hasSuffix
  rw[if_neg]
  intro e
  have hm:(39:UInt8)∈s.data.toList:=by
   obtain⟨t,ht⟩:=(List.isSuffixOf_iff_suffix.1 e)
   rw[← ht];simp
  have h5:=h.2.2.2.2
  unfold allW at h5
  have:=List.all_eq_true.1 h5 _ hm
  revert this;decide
 rw[this]
theorem ident_named {s:ByteArray} (h:identB s=true):namedB s=true:=by unfold namedB;rw[ident_end h];exact h
theorem freshS_ident {name:ByteArray} {used:List ByteArray} (h:identB name=true) (hu:used.length≤800000):identB (freshS name used)=true:=by
 unfold freshS frFrom
 rw[if_pos (ident_named h)]
 split
 ·obtain⟨j,e,h1,h2,h3,_⟩:=frGo_at (baseL name) used 1000000 1 (cand_free _ used hu)
  rw[e]
  have hb:=base_ok (ident_named h)
  exact cand_ident hb.1 hb.2.1 hb.2.2 (by omega)
 ·exact h
theorem freshS_named {name:ByteArray} {used:List ByteArray} (hu:used.length≤800000):namedB (freshS name used)=true:=by
 unfold freshS
 have hn:namedB (if namedB name then name else xS)=true:=by
  split
  ·assumption
  ·exact ident_named x_ident
 generalize (if namedB name then name else xS)=nm at *
 unfold frFrom
 split
 ·obtain⟨j,e,h1,h2,h3,_⟩:=frGo_at (baseL nm) used 1000000 1 (cand_free _ used hu)
  rw[e]
  have hb:=base_ok hn
  exact ident_named (cand_ident hb.1 hb.2.1 hb.2.2 (by omega))
 ·exact hn
theorem OkTm.kid {t u:Tm} (h:OkTm t) (hu:u∈t.kids):OkTm u:=by cases h with | mk _ _ hl=>exact hl u hu
theorem zero_ty {t:Ty} (h:zeroTyB t=true):t=ty0:=by
 obtain⟨k,nm,l⟩:=t
 unfold zeroTyB at h
 simp only[Bool.and_eq_true,Ty.kind,Ty.name,Ty.kids,beq_iff_eq] at h
 obtain⟨⟨h1,h2⟩,h3⟩:=h
 rw[Go.ByteArray.toList_eq] at h2
 have e:nm=⟨#[]⟩:=ByteArray.ext (Array.toList_inj.1 h2)
 rw[h1,e,List.isEmpty_iff.1 h3];rfl
theorem OkTm.nw:∀ {t:Tm},OkTm t→NW t:=by
 intro t h
 induction h with
 | mk h hn hl ih=>
  refine .mk (fun e=>?_) ih
  subst e
  obtain⟨h1,h2,h3,h4⟩:=formed_parts h
  refine⟨?_,?_,?_⟩
  ·unfold nOk at h3;simpa using h3
  ·unfold tyOk at h4
   rw[if_neg (by decide)] at h4
   exact zero_ty h4
  ·unfold kidOk at h1
   have e:kidsN 20=(0,true):=rfl
   rw[e] at h1
   simp at h1
   exact h1
theorem binder_ne {op:Int} (h:binderB op=true):op≠20∧op≠19∧op≠29∧op≠28:=by
 unfold binderB at h
 simp only[Bool.or_eq_true,beq_iff_eq] at h
 omega
theorem binder_kids {op:Int} (h:binderB op=true) {n:Nat} (hk:kidOk op n=true):n=2:=by
 unfold binderB at h
 simp only[Bool.or_eq_true,beq_iff_eq] at h
 have e:kidsN op=(2,true):=by
  rcases h with ((h | h) | h) | h <;> subst h <;> rfl
 unfold kidOk at hk
 rw[e] at hk
 simp at hk;omega
theorem formed_name2 {op:Int} {nm z:ByteArray} {N:Int} {ty:Ty} {n:Nat} (h:formedB op nm N ty n=true) (hb:binderB op=true) (hz:identB z=true):formedB op z N ty n=true:=by
 obtain⟨h1,h2,h3,h4⟩:=formed_parts h
 unfold formedB
 rw[h1,h3,h4]
 unfold nmOk
 rw[if_neg (binder_ne hb).1,if_pos hb,hz];rfl
theorem formed_ident {op:Int} {nm:ByteArray} {N:Int} {ty:Ty} {n:Nat} (h:formedB op nm N ty n=true) (hb:binderB op=true):identB nm=true:=by
 obtain⟨h1,h2,h3,h4⟩:=formed_parts h
 unfold nmOk at h2
 rw[if_neg (binder_ne hb).1,if_pos hb] at h2;exact h2
theorem nameT_ok {s:ByteArray} (h:namedB s=true):OkTm (nameT s):=by
 unfold nameT
 refine .mk ?_ (by simp) (fun t ht=>by cases ht)
 unfold formedB nmOk
 rw[if_pos rfl,h];kernel_rfl
theorem subK_len (FS:ByteArray→List ByteArray→ByteArray) (bi:Bool) (l inn:List (ByteArray×Tm)):∀ (ks:List Tm) (i:Nat),(subK FS bi l inn i ks).length=ks.length
 | [],i=>rfl
 | t::r,i=>by rw[subK,List.length_cons,subK_len FS bi l inn r,List.length_cons]
def OkB (l:List (ByteArray×Tm)):Prop:=∀ b∈l,OkTm b.2
theorem look_mem {l:List (ByteArray×Tm)} {s:ByteArray} {u:Tm} (h:look l s=some u):∃ b∈l,b.2=u:=by
 induction l with
 | nil=>cases h
 | cons b l ih=>
  rw[look] at h
  by_cases hb:b.1=s
  ·rw[if_pos hb] at h;cases h;exact⟨b,by simp,rfl⟩
  ·rw[if_neg hb] at h;obtain⟨c,hc,e⟩:=ih h;exact⟨c,List.mem_cons_of_mem _ hc,e⟩
theorem remG_mem (x:ByteArray) (F:List ByteArray):∀ (l out:List (ByteArray×Tm)) (b:ByteArray×Tm),b∈remG x F out l→b∈out∨b∈l
 | [],out,b,h=>Or.inl h
 | c::l,out,b,h=>by
  rw[remG] at h
  split at h
  ·rcases remG_mem x F l out b h with h | h
   ·exact Or.inl h
   ·exact Or.inr (List.mem_cons_of_mem _ h)
  ·rcases remG_mem x F l _ b h with h | h
   ·rcases List.mem_append.1 h with h | h
    ·exact Or.inl h
    ·rw[List.mem_singleton.1 h];exact Or.inr (by simp)
   ·exact Or.inr (List.mem_cons_of_mem _ h)
theorem remL_mem {x:ByteArray} {F:List ByteArray} {l:List (ByteArray×Tm)} {b:ByteArray×Tm} (h:b∈remL l x F):b∈l:=by
 rcases remG_mem x F l [] b h with h | h
 ·cases h
 ·exact h
theorem newN_ident {x:ByteArray} {body:Tm} {l:List (ByteArray×Tm)} (hx:identB x=true) (hM:tmN body+(frB l).length≤800000):identB (newN freshS x body l)=true:=by
 unfold newN
 split
 ·refine freshS_ident hx ?_
  rw[List.length_append]
  have:=frs_len body
  have:=remL_len x (fr body) l
  omega
 ·exact hx
theorem inner_okB {x:ByteArray} {body:Tm} {l:List (ByteArray×Tm)} (hx:identB x=true) (hM:tmN body+(frB l).length≤800000) (hl:OkB l):OkB (inner freshS x body l):=by
 have hr:OkB (remL l x (fr body)):=fun b hb=>hl b (remL_mem hb)
 unfold inner
 split
 ·intro b hb
  rcases List.mem_append.1 hb with hb | hb
  ·exact hr b hb
  ·rw[List.mem_singleton.1 hb];exact nameT_ok (ident_named (newN_ident hx hM))
 ·exact hr
theorem sub_ok:∀ {t:Tm},OkTm t→∀ (l:List (ByteArray×Tm)),OkB l→tmN t+(frB l).length≤800000→OkTm (subT freshS t l):=by
 intro t
 induction t using Tm.rec (motive_2:=fun ks=>∀ (bi:Bool) (l inn:List (ByteArray×Tm)) (i:Nat),(∀ t∈ks,OkTm t)→OkB l→tmNs ks+(frB l).length≤800000→(∀ (j:Nat) (t:Tm),ks[j]?=some t→(bi&&(i+j)==1)=true→OkB inn∧tmN t+(frB inn).length≤800000)→∀ u∈subK freshS bi l inn i ks,OkTm u) with
 | mk op nm N ty ks ih=>
  intro h l hl hM
  have h0:=h
  cases h with
  | mk hf hn hk=>
   rw[tmN] at hM
   rw[subT]
   by_cases h20:op=20
   ·rw[if_pos h20]
    cases hq:look l nm with
    | none=>exact h0
    | some u=>obtain⟨b,hb,e⟩:=look_mem hq;rw[← e];exact hl b hb
   ·rw[if_neg h20]
    cases hb:binderB op
    ·simp only[Bool.false_eq_true,if_false]
     refine .mk (by rw[subK_len];exact hf) (by rw[subK_len];exact hn) (ih false l l 0 hk hl (by omega) (fun j t _ e=>by cases e))
    ·simp only[if_true]
     have hid:=formed_ident hf hb
     have e2:=binder_kids hb (formed_parts hf).1
     match ks,e2 with
     | [d,body],_=>
      have eg:([d,body]:List Tm).getD 1 (nameT nm)=body:=rfl
      rw[eg]
      simp only[tmNs] at hM
      refine .mk (by rw[subK_len];exact formed_name2 hf hb (newN_ident hid (by omega))) (by rw[subK_len];exact hn) (ih true l _ 0 hk hl (by simp only[tmNs];omega) (fun j t hj e=>?_))
      have hj1:j=1:=by simpa using e
      subst hj1
      have hj2:body=t:=by simpa using hj
      subst hj2
      exact⟨inner_okB hid (by omega) hl,by have:=inner_len freshS nm body l;omega⟩
 | nil=>rename_i u hu;cases hu
 | cons t ks iht ihl=>
  rename_i bi l inn i hk hl hM hin u hu
  rw[tmNs] at hM
  rw[subK] at hu
  rcases List.mem_cons.1 hu with rfl | hu
  ·cases hb:(bi&&i==1)
   ·simp only[Bool.false_eq_true,if_false];exact iht (hk t (by simp)) l hl (by omega)
   ·simp only[if_true]
    obtain⟨h1,h2⟩:=hin 0 t rfl (by rw[Nat.add_zero];exact hb)
    exact iht (hk t (by simp)) inn h1 h2
  ·exact ihl bi l inn (i+1) (fun t ht=>hk t (List.mem_cons_of_mem _ ht)) hl (by omega) (fun j t hj e=>hin (j+1) t (by simpa using hj) (by rw[show i+(j+1)=i+1+j by omega];exact e)) u hu
theorem sub_nil (FS:ByteArray→List ByteArray→ByteArray):∀ (t:Tm),subT FS t []=t:=by
 have hr:∀ x F,remL [] x F=[]:=fun x F=>rfl
 have hi:∀ x body,inner FS x body []=[]:=fun x body=>by
  unfold inner;rw[hr];rfl
 have hn:∀ x body,newN FS x body []=x:=fun x body=>by
  unfold newN;rw[hr];rfl
 intro t
 induction t using Tm.rec (motive_2:=fun ks=>∀ (bi:Bool) (i:Nat),subK FS bi [] [] i ks=ks) with
 | mk op nm N ty ks ih=>
  rw[subT]
  split
  ·rfl
  ·split
   ·rw[hi,hn,ih]
   ·rw[ih]
 | nil=>rfl
 | cons t ks iht ihl=>
  rename_i bi i
  rw[subK,ihl]
  have e:(if (bi&&i==1)=true then ([]:List (ByteArray×Tm)) else [])=[]:=by split <;> rfl
  rw[e,iht]
theorem valid_of {t:Tm} (h:OkTm t):validB t=(decide (tmN t≤2000)&&decide (tmD t≤64)):=by
 rw[Bool.eq_iff_iff,valid_iff,Bool.and_eq_true,decide_eq_true_eq,decide_eq_true_eq]
 exact⟨fun ⟨_,a,b⟩=>⟨a,b⟩,fun ⟨a,b⟩=>⟨h,a,b⟩⟩
theorem ident_sz {s:ByteArray} (h:identB s=true):s.size≤16:=by
 unfold identB at h
 simp only[Bool.and_eq_true,decide_eq_true_eq] at h
 omega
theorem named_sz {s:ByteArray} (h:namedB s=true):s.size≤17:=by
 unfold namedB at h
 have h1:=ident_sz h
 rcases trim_parts s with ⟨_,h2,h3⟩ | ⟨_,h2⟩
 ·rw[h3] at h1
  have:s.size≤(s.extract 0 (s.size-1)).size+1:=by simp[ByteArray.size_extract];omega
  omega
 ·rw[h2] at h1;omega
theorem head_sz {k:Int} {nm:ByteArray} {n:Nat} {wi:Bool} (h:tyHead k nm n wi=true):nm.size≤17:=by
 have key:∀ {s:ByteArray},(s.toList==[])=true→s.size≤17:=by
  intro s h
  rw[beq_iff_eq,Go.ByteArray.toList_eq] at h
  cases s with | mk a=>simp at h;rw[h];decide
 unfold tyHead at h
 split at h
 ·rw[Bool.and_eq_true] at h;exact key h.2
 ·split at h
  ·rw[Bool.and_eq_true] at h;exact key h.2
  ·split at h
   ·rw[Bool.and_eq_true] at h;have:=ident_sz h.1;omega
   ·split at h
    ·rw[Bool.and_eq_true] at h;exact key h.2
    ·split at h
     ·rw[Bool.and_eq_true] at h;exact key h.2
     ·cases h
theorem tf_sm (most deep:Nat):∀ (t:Ty) (d:Nat) (wi:Bool) (c:Nat),(tfS most deep t d wi c).1=true→SmTy big t:=by
 intro t
 induction t using Ty.rec (motive_2:=fun l=>∀ (d c:Nat),(tfsS most deep l d c).1=true→∀ t,t∈l→SmTy big t) with
 | mk k nm l ih=>
  intro d wi c h
  rw[tf_eq] at h
  split at h
  ·rename_i hb
   have hh:tyHead k nm l.length wi=true:=by simp at hb;exact hb.2
   have:=head_sz hh
   exact .mk (by unfold big;omega) (ih _ _ h)
  ·cases h
 | nil=>rename_i d c h t ht;cases ht
 | cons t l iht ihl=>
  rename_i d c h t' h'
  rw[tfsS] at h
  cases hr:tfS most deep t d true c with
  | mk b c'=>
   cases b
   ·rw[hr] at h;cases h
   ·rw[hr] at h
    rcases List.mem_cons.1 h' with rfl | h'
    ·exact iht d true c (by rw[hr])
    ·exact ihl d c' h t' h'
theorem formed_sm {op:Int} {nm:ByteArray} {N:Int} {ty:Ty} {n:Nat} (h:formedB op nm N ty n=true):nm.size≤17∧SmTy big ty:=by
 obtain⟨_,h2,_,h4⟩:=formed_parts h
 constructor
 ·unfold nmOk at h2
  split at h2
  ·exact named_sz h2
  ·split at h2
   ·have:=ident_sz h2;omega
   ·have:nm=⟨#[]⟩:=by
     rw[beq_iff_eq] at h2
     rw[Go.ByteArray.toList_eq] at h2
     cases nm with | mk a=>simp at h2;rw[h2]
    rw[this];decide
 ·unfold tyOk at h4
  split at h4
  ·rw[Bool.and_eq_true] at h4
   exact tf_sm 16 6 ty 1 false 0 h4.2
  ·rw[zero_ty h4];exact .mk (by decide) (fun t h=>by cases h)
theorem ok_bd {t:Tm} (h:OkTm t):BdTm t:=by
 induction h with
 | mk h hn hl ih=>exact .mk (by omega) (formed_bd h) ih
theorem ok_name {op:Int} {nm:ByteArray} {N:Int} {ty:Ty} {ks:List Tm} (h:OkTm (.mk op nm N ty ks)):nm.size≤17:=(formed_sm h.formed).1
structure ClcR (b p n m:Nat) (c:ByteArray→Nat) (B:ByteArray→Bool) (w w':World):Prop where
 kp:Kept (fun q=>q=b∨q=p) w w'
 bo:∃ f,MapF w' b n f∧CntF f c
 into:MapF w' p m (bagF B)
def ClcC (bz:Nat) (t:Tm):Prop:=∀ (B:ByteArray→Bool) (c:ByteArray→Nat) (w:World) (ok:Nat→Prop) (tk kk:Value) (b n p m:Nat),TyL bz ok w t.ty.kids tk→TmL bz ok w t.kids kk→(∃ f,MapF w b n f∧CntF f c)→MapF w p m (bagF B)→b≠p→(∀ q,ok q→q≠b∧q≠p)→n+2*tmN t≤1000000→m+tmN t≤1000000→(∀ s,c s+tmD t≤1000000) →
 Calls Tryz.prog 91 #[tmVal t tk kk,.map (some b),.map (some p)] w fun e w'=>e=.returned (.tuple #[])∧ClcR b p (n+2*tmN t) (m+tmN t) c (fun s=>B s||(mb s (fr t)&&decide (c s=0))) w w'
theorem frs_drop {bi:Bool} {nm:ByteArray} {ks:List Tm} {k:Nat} (h:k<ks.length) (s:ByteArray):mb s (frs bi nm k (ks.drop k))=((mb s (fr ks[k])&&!(bi&&k==1&&decide (s=nm)))||mb s (frs bi nm (k+1) (ks.drop (k+1)))):=by
 rw[List.drop_eq_getElem_cons h,frs,mb_app]
 congr 1
 cases hb:(bi&&k==1)
 ·simp
 ·simp only[if_true,Bool.true_and]
  rw[Bool.eq_iff_iff,mb_iff,List.mem_filter,Bool.and_eq_true,mb_iff]
theorem kid_dn {ks:List Tm} {t:Tm} (h:t∈ks):tmD t≤tmDs ks:=by
 induction ks with
 | nil=>cases h
 | cons a ks ih=>
  rw[tmDs]
  rcases List.mem_cons.1 h with rfl | h
  ·omega
  ·have:=ih h;omega
structure ClcS (w:World) (ce:List Value) (b p n m:Nat) (c:ByteArray→Nat) (B:ByteArray→Bool) (W:World):Prop where
 r:ClcR b p n m c B w W
 a:Blk W w.heap.size 27 ce
theorem ClcS.kept {w:World} {ce:List Value} {b p n m:Nat} {c:ByteArray→Nat} {B:ByteArray→Bool} {W W':World} (h:ClcS w ce b p n m c B W) (k:Kept (fun _=>False) W W'):ClcS w ce b p n m c B W':=by
 obtain⟨⟨h1,⟨f,h2,h3⟩,h4⟩,h5⟩:=h
 exact⟨⟨h1.trans (k.mono (fun _ _ e=>e.elim)),⟨f,h2.kept k (fun e=>e),h3⟩,h4.kept k (fun e=>e)⟩,h5.kept k (fun e=>e)⟩
theorem ClcS.step {w:World} {ce:List Value} {b p n m n' m':Nat} {c c':ByteArray→Nat} {B B':ByteArray→Bool} {W W':World} (h:ClcS w ce b p n m c B W) (hl:b<w.heap.size∧p<w.heap.size∧b≠p) (r:ClcR b p n' m' c' B' W W'):ClcS w ce b p n' m' c' B' W':=
 ⟨⟨h.r.kp.trans r.kp,r.bo,r.into⟩,h.a.kept r.kp (fun e=>by rcases e with e | e <;> omega)⟩
theorem ClcS.cnt {w:World} {ce:List Value} {b p n m n':Nat} {c c':ByteArray→Nat} {B:ByteArray→Bool} {W W':World} {f':ByteArray→Option Value} (h:ClcS w ce b p n m c B W) (hl:b<w.heap.size∧p<w.heap.size∧b≠p) (hm:MapF W' b n' f') (hf:CntF f' c') (k:Kept (fun q=>q=b) W W'):ClcS w ce b p n' m c' B W':=
 ⟨⟨h.r.kp.trans (k.mono (fun _ _ e=>Or.inl e)),⟨f',hm,hf⟩,h.r.into.kept k (fun e=>hl.2.2 e.symm)⟩,h.a.kept k (fun e=>by omega)⟩
theorem clc_one {op:Int} {nm:ByteArray} {N:Int} {ty:Ty} {ks:List Tm} (IH:∀ u,u∈ks→ClcC bz u) (hkn:ks.length≤1000000) (h20:op=20→ks=[]) (hnz:nm.size≤maxLen):ClcC bz (.mk op nm N ty ks):=by
 intro B c w ok tk kk b n p m h1 h2 hb hp hbp hok hn hm hc
 have h1:TyL bz ok w ty.kids tk:=h1
 have h2:TmL bz ok w ks kk:=h2
 obtain⟨a,an,ac,rfl⟩:=h1.slice
 obtain⟨ma,mn,mc,rfl⟩:=h2.slice
 change Calls Tryz.prog 91 #[.agg #[.int .i64 op,.string nm,.int .i64 N,.int .i64 ty.kind,.string ty.name,.slice a an ac,.slice ma mn mc],.map (some b),.map (some p)] w _
 obtain rfl:mn=ks.length:=h2.len
 have K0:Kept (fun _=>False) w (w.alloc (.cells #[.int .i64 op,.string nm,.int .i64 N,.int .i64 ty.kind,.string ty.name,.slice a an ac,.slice ma ks.length mc] 27)):=kR.alloc _
 have S1:Hid (ClcS w [Value.int .i64 op,.string nm,.int .i64 N,.int .i64 ty.kind,.string ty.name,.slice a an ac,.slice ma ks.length mc] b p n m c B (w.alloc (.cells #[.int .i64 op,.string nm,.int .i64 N,.int .i64 ty.kind,.string ty.name,.slice a an ac,.slice ma ks.length mc] 27))):=Ld (by
  obtain⟨f,hb1,hb2⟩:=hb
  exact⟨⟨K0.mono (fun _ _ e=>e.elim),⟨f,hb1.kept K0 (fun e=>e),hb2⟩,hp.kept K0 (fun e=>e)⟩,Blk.new w 27 _⟩)
 have HAT:=Ld (fun W (k:Kept (fun q=>q=b∨q=p) w W)=>(h2.frame (Same.of_kept k (fun q hq e=>by rcases e with e | e;exact (hok q hq).1 e;exact (hok q hq).2 e))).at)
 have hpl:p<w.heap.size:=hp.lt
 have hbl:b<w.heap.size:=by obtain⟨f,hb1,_⟩:=hb;exact hb1.lt
 have LB:Hid (b<w.heap.size∧p<w.heap.size∧b≠p):=Ld ⟨hbl,hpl,hbp⟩
 have HOK:=Ld hok
 have HIH:=Ld IH
 have HKN:=Ld hkn
 have HN0:Hid (n+2*tmNs ks+2≤n+2*tmN (.mk op nm N ty ks)∧m+tmNs ks+1≤m+tmN (.mk op nm N ty ks)):=Ld (by rw[tmN];omega)
 have HNB:=Ld hn
 have HMB:=Ld hm
 have HNZ:=Ld hnz
 have HCB:Hid (∀ s,c s+tmDs ks+1≤1000000):=Ld (fun s=>by have:=hc s;rw[tmD] at this;omega)
 obtain⟨Bf0,hBf0⟩:∃ Bf:ByteArray→Bool,Bf=fun s=>B s||(mb s (fr (.mk op nm N ty ks))&&decide (c s=0)):=⟨_,rfl⟩
 rw[← hBf0]
 have HBF:Hid (∀ B1:ByteArray→Bool,(∀ s,B1 s=(B s||(decide (op=20)&&decide (c nm=0)&&decide (s=nm))))→∀ s,Bf0 s=(B1 s||(mb s (frs (binderB op) nm 0 (ks.drop 0))&&decide (c s=0)))):=Ld (fun B1 hB1 s=>by
  rw[hBf0]
  show (B s||(mb s (fr (.mk op nm N ty ks))&&decide (c s=0)))=_
  rw[hB1,fr]
  by_cases ho:op=20
  ·rw[if_pos ho,h20 ho]
   have e1:mb s [nm]=decide (s=nm):=by unfold mb;simp;exact⟨fun h=>h.symm,fun h=>h.symm⟩
   have e2:mb s (frs (binderB op) nm 0 (([]:List Tm).drop 0))=false:=by simp[frs,mb]
   rw[e1,e2]
   by_cases hs:s=nm
   ·subst hs;simp[ho]
   ·simp[hs]
  ·rw[if_neg ho];simp[ho])
 clear h1 h2 hb hp hok hn hm hc IH hkn h20 hnz hbp hpl hbl K0 hBf0
 go_enter Tryz.func91,Tryz.ntmps91
 go_upto_region 1 with (fail)
 generalize w.alloc (.cells #[.int .i64 op,.string nm,.int .i64 N,.int .i64 ty.kind,.string ty.name,.slice a an ac,.slice ma ks.length mc] 27)=w1 at *
 obtain⟨f1,hb1,hf1⟩:=S1.out.r.bo
 have hlk:=hb1.look u95 (z3 _) HNZ.out
 rw[hf1 nm] at hlk
 have gA:=S1.out.a.cell
 clear hf1 hb1
 go_cut [18] (fun v wc=>v=.bool (decide (op=20)&&decide (c nm=0))∧wc=w1)
 case first=>
  have hcn:((c nm:Int)=0)↔c nm=0:=by omega
  by_cases ho:op=20
  ·subst ho
   by_cases hc0:c nm=0
   ·have hc1:((c nm:Int)==0)=true:=by simp[hc0]
    have hc2:decide (c nm=0)=true:=by simp[hc0]
    go_wp2_with fail
    go_meet
    case rel=>exact⟨by simp[hc0],rfl⟩
   ·have hc1:((c nm:Int)==0)=false:=by simp;exact hc0
    go_wp2_with fail
    go_meet
    case rel=>exact⟨by simp[hc0],rfl⟩
  ·have ho1:(op==20)=false:=by simp[ho]
   go_wp2_with fail
   go_meet
   case rel=>exact⟨by simp[ho],rfl⟩
 case rest=>
  obtain⟨rfl,rfl⟩:=hcut
  clear hlk
  generalize (decide (op=20)&&decide (c nm=0))=q0 at *
  go_upto_if 18 with (fail)
  go_cut [] (fun wd=>∃ B1,ClcS w [Value.int .i64 op,.string nm,.int .i64 N,.int .i64 ty.kind,.string ty.name,.slice a an ac,.slice ma ks.length mc] b p n (m+1) c B1 wd∧∀ s,Bf0 s=(B1 s||(mb s (frs (binderB op) nm 0 (ks.drop 0))&&decide (c s=0))))
  case first=>
   cases q0
   ·have HB1:=Ld (HBF.out B (fun s=>by simp))
    go_wp2_with fail
    go_meet
    case rel=>exact⟨B,⟨⟨S1.out.r.kp,S1.out.r.bo,S1.out.r.into.mono (Nat.le_succ _)⟩,S1.out.a⟩,HB1.out⟩
   ·have HB1:=Ld (HBF.out (fun s=>B s||decide (s=nm)) (fun s=>by simp))
    have HMM:Hid (m<maxLen):=Ld (by have:=HMB.out;unfold maxLen;omega)
    go_wp2_with (at_mapUpdate;refine wpList_storeF rfl _ _ _ _ 4 rfl u90 rfl S1.out.r.into nm rfl HNZ.out HMM.out (.bool true) rfl ?_;intro w2 hm2 k2)
    rw[bagF_upd] at hm2
    have S2:Hid (ClcS w [Value.int .i64 op,.string nm,.int .i64 N,.int .i64 ty.kind,.string ty.name,.slice a an ac,.slice ma ks.length mc] b p n (m+1) c (fun s=>B s||decide (s=nm)) w2):=Ld (by
     obtain⟨f,hb1,hb2⟩:=S1.out.r.bo
     exact⟨⟨S1.out.r.kp.trans (k2.mono (fun x _ e=>Or.inr e)),⟨f,hb1.kept k2 (fun e=>LB.out.2.2 e),hb2⟩,hm2⟩,S1.out.a.kept k2 (fun e=>by have:=LB.out.2.1;omega)⟩)
    clear hm2 k2
    go_wp2_with fail
    go_meet
    case rel=>exact⟨_,S2.out,HB1.out⟩
  case rest=>
   obtain⟨B1,hS2,hB1⟩:=hcut
   have S2:=Ld hS2
   have HB1:=Ld hB1
   clear S1 hS2 hB1 HBF gA
   generalize wc=w2 at *
   have gA:=S2.out.a.cell
   go_wp2_with fail
   go_loopw [25] (fun i wr=>∃ (k n' m':Nat) (B':ByteArray→Bool),k≤ks.length∧i=.int .i64 k∧ClcS w [Value.int .i64 op,.string nm,.int .i64 N,.int .i64 ty.kind,.string ty.name,.slice a an ac,.slice ma ks.length mc] b p n' m' c B' wr∧Hid (∀ s,Bf0 s=(B' s||(mb s (frs (binderB op) nm k (ks.drop k))&&decide (c s=0))))∧Hid (n'+2*tmNs (ks.drop k)+(if k≤1 then 2 else 0)≤n+2*tmN (.mk op nm N ty ks))∧Hid (m'+tmNs (ks.drop k)≤m+tmN (.mk op nm N ty ks))) (fun i _=>ks.length-(intOf i).toNat)
   case atStart=>exact⟨0,n,m+1,B1,Nat.zero_le _,rfl,S2.out,Ld HB1.out,Ld (by have:=HN0.out.1;simpa using this),Ld (by have:=HN0.out.2;simp;omega)⟩
   case round=>
    obtain⟨k,n',m',B',hkl,rfl,hS,hq,hn',hm'⟩:=hrel
    have S:=Ld hS
    clear hS S2 gA
    by_cases hlt:k<ks.length
    ·have i1:(k:Int)<(ks.length:Int):=by omega
     have i2:(k:Int)<1000000:=by have:=HKN.out;omega
     obtain⟨q1,o1,ta,tn,tc,pa,pn,pc,rfl,hq1,lq,hC,hkt,hkm⟩:=HAT.out wr S.out.r.kp k hlt
     have HD:=Ld (fun s=>frs_drop (bi:=binderB op) (nm:=nm) hlt s)
     obtain⟨c0,c1,c2,c3,c4,c5,c6⟩:=hC
     have KR:Kept (fun _=>False) wr (wr.alloc (.cells #[.int .i64 ks[k].op,.string ks[k].name,.int .i64 ks[k].n,.int .i64 ks[k].ty.kind,.string ks[k].ty.name,.slice ta tn tc,.slice pa pn pc] 27)):=kR.alloc _
     have S3:=Ld (S.out.kept KR)
     have bK:=Ld (Blk.new wr 27 [.int .i64 ks[k].op,.string ks[k].name,.int .i64 ks[k].n,.int .i64 ks[k].ty.kind,.string ks[k].ty.name,.slice ta tn tc,.slice pa pn pc])
     change Hid (Blk (wr.alloc (.cells #[.int .i64 ks[k].op,.string ks[k].name,.int .i64 ks[k].n,.int .i64 ks[k].ty.kind,.string ks[k].ty.name,.slice ta tn tc,.slice pa pn pc] 27)) _ _ _) at bK
     have HKT:=Ld (fun W (kw:Kept (fun q=>q=b∨q=p) wr W)=>hkt.frame (Same.of_kept kw (fun q hq e=>by rcases e with e | e;exact (HOK.out q hq).1 e;exact (HOK.out q hq).2 e)))
     have HKM:=Ld (fun W (kw:Kept (fun q=>q=b∨q=p) wr W)=>hkm.frame (Same.of_kept kw (fun q hq e=>by rcases e with e | e;exact (HOK.out q hq).1 e;exact (HOK.out q hq).2 e)))
     have KR2:Hid (Kept (fun q=>q=b∨q=p) wr (wr.alloc (.cells #[.int .i64 ks[k].op,.string ks[k].name,.int .i64 ks[k].n,.int .i64 ks[k].ty.kind,.string ks[k].ty.name,.slice ta tn tc,.slice pa pn pc] 27))):=Ld (KR.mono (fun _ _ e=>e.elim))
     have LBR:Hid (b<wr.heap.size∧p<wr.heap.size):=Ld ⟨by have:=LB.out.1;have:=S.out.r.kp.size;omega,by have:=LB.out.2.1;have:=S.out.r.kp.size;omega⟩
     have HK1:=Ld (fun W Bk ck kw nk mk hb hp hn hm hc=>HIH.out _ (List.getElem_mem hlt) Bk ck W ok _ _ b nk p mk (HKT.out W kw) (HKM.out W kw) hb hp LB.out.2.2 HOK.out hn hm hc)
     unfold tmVal at HK1
     have HDM:Hid (tmD ks[k]≤tmDs ks∧tmNs (ks.drop k)=tmN ks[k]+tmNs (ks.drop (k+1))∧1≤tmN ks[k]):=Ld ⟨kid_dn (List.getElem_mem hlt),by rw[List.drop_eq_getElem_cons hlt,tmNs],by cases ks[k] with | mk=>rw[tmN];omega⟩
     clear hkt hkm KR
     generalize ks[k]=u at *
     go_upto_region 6 with (fail)
     clear c0 c1 c2 c3 c4 c5 c6
     have hwr:(wr.alloc (.cells #[.int .i64 u.op,.string u.name,.int .i64 u.n,.int .i64 u.ty.kind,.string u.ty.name,.slice ta tn tc,.slice pa pn pc] 27)).heap.size=wr.heap.size+1:=World.size_alloc _ _
     generalize wr.alloc (.cells #[.int .i64 u.op,.string u.name,.int .i64 u.n,.int .i64 u.ty.kind,.string u.ty.name,.slice ta tn tc,.slice pa pn pc] 27)=w3 at *
     have gA:=S3.out.a.cell
     have HI:Hid ((binderB op&&k==1)=true→∀ s,Bf0 s=((B' s||(mb s (fr u)&&decide ((if s=nm then c nm+1 else c s)=0)))||(mb s (frs (binderB op) nm (k+1) (ks.drop (k+1)))&&decide (c s=0)))):=Ld (fun hin s=>by
      rw[hq.out,HD.out,hin]
      by_cases hs:s=nm
      ·subst hs;simp
      ·simp[hs]
       cases B' s <;> cases mb s (fr u) <;> cases mb s (frs (binderB op) nm (k+1) (ks.drop (k+1))) <;> cases decide (c s=0) <;> rfl)
     have HJ:Hid ((binderB op&&k==1)=false→∀ s,Bf0 s=((B' s||(mb s (fr u)&&decide (c s=0)))||(mb s (frs (binderB op) nm (k+1) (ks.drop (k+1)))&&decide (c s=0)))):=Ld (fun hin s=>by
      rw[hq.out,HD.out,hin]
      simp
      cases B' s <;> cases mb s (fr u) <;> cases mb s (frs (binderB op) nm (k+1) (ks.drop (k+1))) <;> cases decide (c s=0) <;> rfl)
     clear hq HD
     go_cut [8] (fun v wc=>v=.bool (binderB op&&k==1)∧wc=w3)
     case first=>
      by_cases hk1:k=1
      ·have hk2:((k:Int)==1)=true:=by simp;omega
       have hk3:(k==1)=true:=by simp[hk1]
       clear hk1
       go_wp2_with fail
       refine (binder_any op _).mono ?_
       rintro e w3' ⟨rfl,rfl⟩
       cases hbo:binderB op
       all_goals
        go_wp2_with fail
        go_meet
        case rel=>exact⟨by rw[hk3,hbo];rfl,rfl⟩
      ·have hk2:((k:Int)==1)=false:=by simp;omega
       have hk3:(k==1)=false:=by simp[hk1]
       clear hk1
       go_wp2_with fail
       refine (binder_any op _).mono ?_
       rintro e w3' ⟨rfl,rfl⟩
       cases hbo:binderB op
       all_goals
        go_wp2_with fail
        go_meet
        case rel=>exact⟨by rw[hk3,hbo];rfl,rfl⟩
     case rest=>
      obtain⟨rfl,rfl⟩:=hcut
      have hq1':=HOK.out q1 hq1
      have HNM:Hid (n'+2*tmN u+(if k≤1 then 2 else 0)≤1000000∧m'+tmN u≤1000000∧(n'+2*tmN u+2*tmNs (ks.drop (k+1))+(if k≤1 then 2 else 0)≤n+2*tmN (.mk op nm N ty ks))∧(m'+tmN u+tmNs (ks.drop (k+1))≤m+tmN (.mk op nm N ty ks))):=Ld (by
       have h1:=hn'.out;have h2:=hm'.out;have h3:=HDM.out.2.1;have h4:=HNB.out;have h5:=HMB.out
       rw[h3] at h1 h2
       omega)
      clear hq1' hn' hm'
      cases hin:(binderB op&&k==1)
      ·have HJ2:=Ld (HJ.out hin)
       clear HI HJ hin
       have HC:=Ld (HK1.out wc B' c KR2.out n' m' S3.out.r.bo S3.out.r.into (by have:=HNM.out.1;omega) HNM.out.2.1 (fun s=>by have:=HCB.out s;have:=HDM.out.1;omega))
       have gK:=bK.out.cell
       clear gA
       go_wp2_with fail
       clear gK
       refine HC.out.mono ?_
       rintro e w5 ⟨rfl,hR5⟩
       have S5:=Ld (S3.out.step LB.out hR5)
       clear hR5 HC S3 S bK HK1 KR2
       go_wp2_with fail
       go_roundw
       case rel=>exact⟨k+1,_,_,_,by omega,by go_num,S5.out,HJ2,Ld (by have:=HNM.out.2.2.1;split <;> split at this <;> omega),Ld HNM.out.2.2.2⟩
       case measure=>simp[intOf];omega
      ·have HI2:=Ld (HI.out hin)
       have hk1:k=1:=by
        rw[Bool.and_eq_true] at hin
        simpa using hin.2
       clear HI HJ hin
       obtain⟨f3,hb3,hf3⟩:=S3.out.r.bo
       have HF3:=Ld hf3
       have HNX:Hid (n'+2+2*tmN u+2*tmNs (ks.drop (k+1))≤n+2*tmN (.mk op nm N ty ks)∧n'+2+2*tmN u≤1000000):=Ld (by have h1:=HNM.out.2.2.1;have h2:=HNM.out.1;rw[if_pos (by omega)] at h1 h2;omega)
       have HK1E:=Ld hk1
       clear hk1
       have hlk:=hb3.look u95 (z3 _) HNZ.out
       rw[hf3 nm] at hlk
       have HW1:Hid (wrap64 ((c nm:Int)+1)=((c nm+1:Nat):Int)):=Ld (by have:=HCB.out nm;unfold wrap64;omega)
       have HB3:=Ld hb3
       have HLX:Hid (n'<maxLen∧n'+1+2*tmN u<maxLen):=Ld (by have:=HNX.out.2;unfold maxLen;omega)
       clear hf3 hb3
       go_upto_region 9 with (at_mapUpdate;refine wpList_storeF rfl _ _ _ _ 3 rfl u95 rfl HB3.out nm rfl HNZ.out HLX.out.1 (.int .i64 (wrap64 ((c nm:Int)+1))) rfl ?_;intro w4 hm4 k4)
       rw[HW1.out] at hm4
       have S4:=Ld (S3.out.cnt LB.out hm4 (HF3.out.upd nm (c nm+1)) k4)
       have bK4:=Ld (bK.out.kept k4 (fun e=>by have:=LBR.out.1;omega))
       have HC:=Ld (HK1.out w4 B' (fun t=>if t=nm then c nm+1 else c t) (KR2.out.trans (k4.mono (fun _ _ e=>Or.inl e))) (n'+1) m' S4.out.r.bo S4.out.r.into (by have:=HNX.out.2;omega) HNM.out.2.1 (fun s=>by have h1:=HCB.out s;have h2:=HCB.out nm;have:=HDM.out.1;show (if s=nm then c nm+1 else c s)+_≤_;split <;> omega))
       have gK:=bK4.out.cell
       clear hm4 k4 hlk HW1 HB3 HF3 S3 gA bK
       go_wp2_with fail
       clear gK
       refine HC.out.mono ?_
       rintro e w5 ⟨rfl,hR5⟩
       have S5:=Ld (S4.out.step LB.out hR5)
       clear hR5 HC S4 S bK4 HK1 KR2
       obtain⟨f5,hb5,hf5⟩:=S5.out.r.bo
       have HF5:=Ld hf5
       have hlk:=hb5.look u95 (z3 _) HNZ.out
       rw[hf5 nm] at hlk
       simp only[if_true] at hlk
       have HW1:Hid (wrap64 (c nm:Int)=(c nm:Int)):=Ld (by have:=HCB.out nm;unfold wrap64;omega)
       have HB5:=Ld hb5
       have gA:=S5.out.a.cell
       clear hf5 hb5
       go_wp2_with (at_mapUpdate;refine wpList_storeF rfl _ _ _ _ 3 rfl u95 rfl HB5.out nm rfl HNZ.out HLX.out.2 (.int .i64 (wrap64 (c nm:Int))) rfl ?_;intro w6 hm6 k6;clear gA hlk)
       rw[HW1.out] at hm6
       have S6:=Ld (S5.out.cnt LB.out hm6 (HF5.out.upd nm (c nm)) k6)
       have HCE:Hid ((fun t=>if t=nm then c nm else if t=nm then c nm+1 else c t)=c):=Ld (by funext t;by_cases ht:t=nm <;> simp[ht])
       rw[HCE.out] at S6
       clear hm6 k6 HW1 HB5 HF5 S5
       go_wp2_with fail
       go_roundw
       case rel=>exact⟨k+1,_,_,_,by omega,by go_num,S6.out,HI2,Ld (by have:=HNX.out.1;have:=HK1E.out;rw[if_neg (by omega)];omega),Ld HNM.out.2.2.2⟩
       case measure=>simp[intOf];omega
    ·have hkk:k=ks.length:=by omega
     subst hkk
     have HEQ:Hid (Bf0=B'):=Ld (by funext s;rw[hq.out,List.drop_length];simp[frs,mb])
     have gA:=S.out.a.cell
     go_wp2_with fail
     go_end0
     refine⟨rfl,S.out.r.kp,?_,?_⟩
     ·obtain⟨f,hb1,hb2⟩:=S.out.r.bo
      exact⟨f,hb1.mono (by have:=hn'.out;omega),hb2⟩
     ·rw[HEQ.out];exact S.out.r.into.mono (by have:=hm'.out;omega)
theorem clc_any {t:Tm} (h:OkTm t):ClcC bz t:=by
 induction h with
 | mk hf hn hl ih=>
  rename_i op nm N ty ks
  refine clc_one ih (by omega) (fun h=>?_) (by have:=(formed_sm hf).1;unfold maxLen;omega)
  subst h
  have h1:=(OkTm.mk hf hn hl).nw
  cases h1 with
  | mk h2 _=>exact (h2 rfl).2.2
theorem bagF_none:bagF (fun _=>false)=fun _=>none:=by funext s;rfl
theorem cnt_none:CntF (fun _=>none) (fun _=>0):=fun _=>rfl
def FreP (t:Tm) (w:World) (e:Ending) (w':World):Prop:=∃ p,e=.returned (.map (some p))∧w.heap.size≤p∧MapF w' p (tmN t) (bagF (fun s=>mb s (fr t)))∧Kept (fun _=>False) w w'
theorem free_any {t:Tm} (ht:OkTm t) (hN:tmN t≤400000) (hD:tmD t≤400000) {ok:Nat→Prop} {w:World} {a:Option Addr} {c:Nat} (h2:TmL bz ok w [t] (.slice a 1 c)):Calls Tryz.prog 44 #[.slice a 1 c] w (FreP t w):=by
 have HCL:=Ld (clc_any (bz:=bz) ht)
 have HND:Hid (tmN t≤400000∧tmD t≤400000):=Ld ⟨hN,hD⟩
 have HAT:=Ld (fun W (k:Kept (fun _=>False) w W)=>((h2.mono (ok':=fun q=>q<w.heap.size) (fun q hq _=>hq)).frame (sK k)).at 0 (by simp))
 clear hN hD h2 ht
 have hmm:=@run_makeMap Tryz.prog
 go_enter Tryz.func44,Tryz.ntmps44
 go_upto_region 2 with (fail)
 have M1:=Ld (MapF.made w)
 have K1:Hid (Kept (fun _=>False) w (w.alloc (.map #[] 0))):=Ld (kR.alloc _)
 generalize w.alloc (.map #[] 0)=w1 at *
 go_wp2_with fail
 obtain⟨q0,hq0⟩:∃ p,p=w.heap.size:=⟨_,rfl⟩
 go_loopw [9] (fun i wr=>Kept (fun _=>False) w wr∧((i=.int .i64 0∧MapF wr w.heap.size 0 (fun _=>none))∨(i=.int .i64 1∧MapF wr w.heap.size (tmN t) (bagF (fun s=>mb s (fr t)))))) (fun i _=>1-(intOf i).toNat)
 case atStart=>exact⟨K1.out,Or.inl ⟨rfl,M1.out⟩⟩
 case round=>
  obtain⟨hk,⟨rfl,hm⟩ | ⟨rfl,hm⟩⟩:=hrel
  ·obtain⟨q1,o1,ta,tn,tc,pa,pn,pc,rfl,hq1,lq,hC,hkt,hkm⟩:=HAT.out wr hk
   simp only[List.getElem_cons_zero,Nat.zero_mul,Nat.add_zero] at hC hkt hkm
   obtain⟨c0,c1,c2,c3,c4,c5,c6⟩:=hC
   have KR:Kept (fun _=>False) wr (wr.alloc (.cells #[.int .i64 t.op,.string t.name,.int .i64 t.n,.int .i64 t.ty.kind,.string t.ty.name,.slice ta tn tc,.slice pa pn pc] 27)):=kR.alloc _
   have bK:=Ld (Blk.new wr 27 [.int .i64 t.op,.string t.name,.int .i64 t.n,.int .i64 t.ty.kind,.string t.ty.name,.slice ta tn tc,.slice pa pn pc])
   change Hid (Blk (wr.alloc (.cells #[.int .i64 t.op,.string t.name,.int .i64 t.n,.int .i64 t.ty.kind,.string t.ty.name,.slice ta tn tc,.slice pa pn pc] 27)) _ _ _) at bK
   have HK:=Ld hk
   have HM:=Ld hm
   have HKT:=Ld hkt
   have HKM:=Ld hkm
   have KR1:=Ld KR
   clear hk hm hkt hkm KR M1 K1
   go_upto_region 5 with (fail)
   clear c0 c1 c2 c3 c4 c5 c6
   have hw3:Hid ((wr.alloc (.cells #[.int .i64 t.op,.string t.name,.int .i64 t.n,.int .i64 t.ty.kind,.string t.ty.name,.slice ta tn tc,.slice pa pn pc] 27)).heap.size=wr.heap.size+1):=Ld (World.size_alloc _ _)
   generalize wr.alloc (.cells #[.int .i64 t.op,.string t.name,.int .i64 t.n,.int .i64 t.ty.kind,.string t.ty.name,.slice ta tn tc,.slice pa pn pc] 27)=w3 at *
   have gK:=bK.out.cell
   have M3:=Ld (MapF.made w3)
   have K3:Hid (Kept (fun _=>False) w3 (w3.alloc (.map #[] 0))):=Ld (kR.alloc _)
   have HC:=Ld (HCL.out (fun _=>false) (fun _=>0) (w3.alloc (.map #[] 0)) (fun q=>q<w.heap.size) _ _ w3.heap.size 0 w.heap.size 0 (HKT.out.frame (sK (KR1.out.trans K3.out))) (HKM.out.frame (sK (KR1.out.trans K3.out))) ⟨_,M3.out,cnt_none⟩ (by rw[bagF_none];exact HM.out.kept (KR1.out.trans K3.out) (fun e=>e)) (by have:=HM.out.lt;have:=hw3.out;omega) (fun q hq=>⟨by have:=HK.out.size;have:=hw3.out;omega,by omega⟩) (by have:=HND.out.1;omega) (by have:=HND.out.1;omega) (fun s=>by have:=HND.out.2;omega))
   unfold tmVal at HC
   go_wp2_with fail
   clear gK
   refine HC.out.mono ?_
   rintro e w5 ⟨rfl,hR⟩
   have K5:Hid (Kept (fun _=>False) w w5):=Ld (((HK.out.trans KR1.out).trans K3.out).via1 hR.kp (fun x hx e=>by have:=HK.out.size;have:=hw3.out;rcases e with e | e <;> omega))
   have M5:Hid (MapF w5 w.heap.size (tmN t) (bagF (fun s=>mb s (fr t)))):=Ld (by
    have h:=hR.into
    have e:∀ (g:ByteArray→Bool),(∀ s,g s=mb s (fr t))→MapF w5 w.heap.size (0+tmN t) (bagF g)→MapF w5 w.heap.size (tmN t) (bagF (fun s=>mb s (fr t))):=fun g hg hm=>by
     have:g=fun s=>mb s (fr t):=funext hg
     rw[← this];exact hm.mono (by omega)
    exact e _ (fun s=>by simp) h)
   clear hR HC M3 K3 HK HM HKT HKM KR1 bK
   go_wp2_with fail
   go_roundw
   case rel=>exact⟨K5.out,Or.inr ⟨rfl,M5.out⟩⟩
   case measure=>simp[intOf]
  ·have HK:=Ld hk
   have HM:=Ld hm
   clear hk hm M1 K1
   go_wp2_with fail
   go_ret
   exact⟨_,rfl,Nat.le_refl _,HM.out,HK.out⟩
def PrV (bz:Nat) (ok:Nat→Prop) (w:World) (σ:ByteArray→Option Tm) (f:ByteArray→Option Value):Prop:=∀ s,match σ s with
 | none=>f s=none
 | some u=>∃ ta tn tc pa pn pc,f s=some (tmVal u (.slice ta tn tc) (.slice pa pn pc))∧TyL bz ok w u.ty.kids (.slice ta tn tc)∧TmL bz ok w u.kids (.slice pa pn pc)
def PrM (bz:Nat) (ok:Nat→Prop) (w:World) (b n:Nat) (σ:ByteArray→Option Tm):Prop:=∃ f,MapF w b n f∧PrV bz ok w σ f
theorem PrV.frame {ok:Nat→Prop} {w W:World} {σ:ByteArray→Option Tm} {f:ByteArray→Option Value} (h:PrV bz ok w σ f) (hs:Same ok w W):PrV bz ok W σ f:=by
 intro s
 have h1:=h s
 cases hu:σ s with
 | none=>rw[hu] at h1;exact h1
 | some u=>
  rw[hu] at h1
  obtain⟨ta,tn,tc,pa,pn,pc,h1,h2,h3⟩:=h1
  exact⟨ta,tn,tc,pa,pn,pc,h1,h2.frame hs,h3.frame hs⟩
theorem PrV.mono {ok ok':Nat→Prop} {w:World} {σ:ByteArray→Option Tm} {f:ByteArray→Option Value} (h:PrV bz ok w σ f) (ho:∀ k,k<w.heap.size→ok k→ok' k):PrV bz ok' w σ f:=by
 intro s
 have h1:=h s
 cases hu:σ s with
 | none=>rw[hu] at h1;exact h1
 | some u=>
  rw[hu] at h1
  obtain⟨ta,tn,tc,pa,pn,pc,h1,h2,h3⟩:=h1
  exact⟨ta,tn,tc,pa,pn,pc,h1,h2.mono ho,h3.mono ho⟩
theorem PrV.at {ok:Nat→Prop} {w:World} {σ:ByteArray→Option Tm} {f:ByteArray→Option Value} (h:PrV bz ok w σ f) {s:ByteArray} {v:Value} (hv:f s=some v):∃ u ta tn tc pa pn pc,σ s=some u∧v=tmVal u (.slice ta tn tc) (.slice pa pn pc)∧TyL bz ok w u.ty.kids (.slice ta tn tc)∧TmL bz ok w u.kids (.slice pa pn pc):=by
 have h1:=h s
 cases hu:σ s with
 | none=>rw[hu] at h1;rw[h1] at hv;cases hv
 | some u=>
  rw[hu] at h1
  obtain⟨ta,tn,tc,pa,pn,pc,h1,h2,h3⟩:=h1
  rw[h1] at hv
  cases hv
  exact⟨u,ta,tn,tc,pa,pn,pc,rfl,rfl,h2,h3⟩
theorem PrM.kept {ok:Nat→Prop} {w W:World} {b n:Nat} {σ:ByteArray→Option Tm} {S:Nat→Prop} (h:PrM bz ok w b n σ) (k:Kept S w W) (hb:¬ S b) (ho:∀ q,ok q→¬ S q):PrM bz ok W b n σ:=by
 obtain⟨f,h1,h2⟩:=h
 exact⟨f,h1.kept k hb,h2.frame (Same.of_kept k ho)⟩
theorem PrM.some_iff {ok:Nat→Prop} {w:World} {σ:ByteArray→Option Tm} {f:ByteArray→Option Value} (h:PrV bz ok w σ f) (s:ByteArray):(f s).isSome=(σ s).isSome:=by
 have h1:=h s
 cases hu:σ s with
 | none=>rw[hu] at h1;rw[h1];rfl
 | some u=>rw[hu] at h1;obtain⟨_,_,_,_,_,_,h1,_⟩:=h1;rw[h1];rfl
theorem u85:Tryz.prog.underlying 77=some (.map 9 27):=Tryz.underlying77
def undF (x:ByteArray) (B:ByteArray→Bool) (σ:ByteArray→Option Tm):ByteArray→Option Tm:=fun s=>if !decide (s=x)&&B s then σ s else none
theorem under_any {x:ByteArray} {B:ByteArray→Bool} {σ:ByteArray→Option Tm} {ok:Nat→Prop} {w:World} {b n c m:Nat} (hm:PrM bz ok w b n σ) (hc:MapF w c m (bagF B)) (hn:n≤1000000):
  Calls Tryz.prog 148 #[.map (some b),.string x,.map (some c)] w fun e w'=>∃ p,e=.returned (.map (some p))∧w.heap.size≤p∧PrM bz (fun q=>ok q∧q<w.heap.size) w' p n (undF x B σ)∧Kept (fun _=>False) w w':=by
 obtain⟨f,hf,hv⟩:=hm
 have HV:=Ld hv
 have HNN:=Ld hn
 have hmm:=@run_makeMap Tryz.prog
 have HF:=Ld hf
 have HC:=Ld hc
 have HL:Hid (b<w.heap.size∧c<w.heap.size):=Ld ⟨hf.lt,hc.lt⟩
 clear hf hc hn hv
 go_enter Tryz.func148,Tryz.ntmps148
 go_upto_region 2 with (fail)
 have M1:=Ld (MapF.made w)
 have K1:Hid (Kept (fun _=>False) w (w.alloc (.map #[] 0))):=Ld (kR.alloc _)
 have Z1:Hid ((w.alloc (.map #[] 0)).heap.size=w.heap.size+1):=Ld (World.size_alloc _ _)
 generalize w.alloc (.map #[] 0)=w1 at *
 have F1:=Ld (HF.out.kept K1.out (fun e=>e))
 go_wp2_with (at_range;refine wpList_rangeF rfl _ _ 27 rfl u85 rfl F1.out ?_;intro w2 cnt hR k2 z2 hcn)
 have M2:=Ld (M1.out.kept k2 (fun e=>e))
 have KW2:=Ld (K1.out.trans k2)
 have HR:=Ld hR
 have HCN:Hid (cnt≤1000000∧cnt≤n):=Ld (by have:=HNN.out;omega)
 rw[Z1.out] at HR
 have Z2:Hid (w2.heap.size=w.heap.size+2):=Ld (by have:=Z1.out;omega)
 have e1:=Z1.out
 rw[e1]
 clear hR k2 z2 hcn M1 K1 F1 e1
 go_frame
 go_loopw [] (fun wr=>∃ (cnt' k:Nat) (g:ByteArray→Bool),Kept (fun _=>False) w wr∧MapR wr b (w.heap.size+1) n f g cnt'∧cnt'+k≤cnt∧(∀ s,g s=true→(f s).isSome=true)∧MapF wr w.heap.size k (fun s=>if g s then none else if !decide (s=x)&&B s then f s else none)) (fun wr=>wr.rangeLeft b (w.heap.size+1))
 case atStart=>
  refine⟨cnt,0,fun s=>(f s).isSome,KW2.out,HR.out,Nat.le_refl _,fun _ h=>h,?_⟩
  have e:(fun s=>if (f s).isSome then none else if !decide (s=x)&&B s then f s else none)=fun _=>none:=by
   funext s
   cases hs:f s <;> simp
  rw[e]
  exact M2.out
 case round=>
  obtain⟨cnt',k,g,hk,hR',hle,hgs,hM⟩:=hrel
  have HK:=Ld hk
  have HRR:=Ld hR'
  have HM:=Ld hM
  have HLE:=Ld hle
  have HGS:=Ld hgs
  clear hk hR' hle hM hgs HR M2 KW2 hmm
  go_wp2_with (at_next;refine wpList_nextF rfl _ rfl rfl HRR.out ?_ ?_)
  ·intro h0
   have HE:Hid (PrM bz (fun q=>ok q∧q<w.heap.size) wr w.heap.size n (undF x B σ)):=Ld (by
    refine⟨_,HM.out.mono (by have:=HLE.out;have:=HCN.out.2;omega),?_⟩
    have hv:=(HV.out.mono (ok':=fun q=>ok q∧q<w.heap.size) (fun q h1 h2=>⟨h2,h1⟩)).frame (sK HK.out)
    intro s
    have hg:g s=false:=by
     cases hg:g s with
     | false=>rfl
     | true=>rw[h0 s (HRR.out.map.small (HGS.out s hg))] at hg;cases hg
    unfold undF
    simp only[hg,Bool.false_eq_true,if_false]
    cases hq:(!decide (s=x)&&B s)
    ·simp
    ·simp only[if_true]
     exact hv s)
   go_wp2_with fail
   go_ret
   exact⟨_,rfl,Nat.le_refl _,HE.out,HK.out⟩
  ·intro s v w3 cnt3 hs hg hfs hR3 hlt k3 z3 hen
   obtain⟨u,ta,tn,tc,pa,pn,pc,hu,rfl,hty,htm⟩:=HV.out.at hfs
   unfold tmVal at hen hfs ⊢
   have KW3:=Ld (HK.out.via1 k3 (fun q hq e=>by omega))
   have M3:=Ld (HM.out.kept k3 (fun e=>by omega))
   have HR3:=Ld hR3
   have HLT:=Ld hlt
   have HS:=Ld hs
   have HG:=Ld hg
   have HFS:=Ld hfs
   have HLO:=Ld HRR.out.left
   clear hu hty htm k3 hR3 hlt hg hfs hs HRR HM
   go_upto_region 5 with (fail)
   clear hen
   have bK:=Ld (Blk.new w3 27 [.int .i64 u.op,.string u.name,.int .i64 u.n,.int .i64 u.ty.kind,.string u.ty.name,.slice ta tn tc,.slice pa pn pc])
   change Hid (Blk (w3.alloc (.cells #[.int .i64 u.op,.string u.name,.int .i64 u.n,.int .i64 u.ty.kind,.string u.ty.name,.slice ta tn tc,.slice pa pn pc] 27)) w3.heap.size _ _) at bK
   rw[z3] at bK
   have K4:Hid (Kept (fun _=>False) w3 (w3.alloc (.cells #[.int .i64 u.op,.string u.name,.int .i64 u.n,.int .i64 u.ty.kind,.string u.ty.name,.slice ta tn tc,.slice pa pn pc] 27))):=Ld (kR.alloc _)
   generalize w3.alloc (.cells #[.int .i64 u.op,.string u.name,.int .i64 u.n,.int .i64 u.ty.kind,.string u.ty.name,.slice ta tn tc,.slice pa pn pc] 27)=w4 at *
   have KW4:=Ld (KW3.out.trans K4.out)
   have M4:=Ld (M3.out.kept K4.out (fun e=>e))
   have HR4:=Ld (HR3.out.kept K4.out (fun e=>e) (fun e=>e))
   have hlk:=(HC.out.kept KW4.out (fun e=>e)).look u90 (z4 _) HS.out
   rw[bagF_get] at hlk
   have gB:=bK.out.cell
   have HGN:Hid (∀ t,(g t&&!decide (t=s))=true→(f t).isSome=true):=Ld (fun t ht=>HGS.out t (by rw[Bool.and_eq_true] at ht;exact ht.1))
   have HST:Hid (((!decide (s=x)&&B s)=true)→updF (fun t=>if g t then none else if !decide (t=x)&&B t then f t else none) s (.agg #[.int .i64 u.op,.string u.name,.int .i64 u.n,.int .i64 u.ty.kind,.string u.ty.name,.slice ta tn tc,.slice pa pn pc])=fun t=>if g t&&!decide (t=s) then none else if !decide (t=x)&&B t then f t else none):=Ld (fun hq=>by
    funext t
    unfold updF
    by_cases ht:t=s
    ·subst ht;simp only[if_true,decide_true,Bool.not_true,Bool.and_false,Bool.false_eq_true,if_false,hq];exact HFS.out.symm
    ·simp[ht])
   have HSF:Hid (((!decide (s=x)&&B s)=false)→(fun t=>if g t then none else if !decide (t=x)&&B t then f t else none)=fun t=>if g t&&!decide (t=s) then none else if !decide (t=x)&&B t then f t else none):=Ld (fun hq=>by
    funext t
    by_cases ht:t=s
    ·subst ht;simp only[decide_true,Bool.not_true,Bool.and_false,Bool.false_eq_true,if_false,hq,HG.out,if_true]
    ·simp[ht])
   have HX:Hid ((s.toList==x.toList)=decide (s=x)):=Ld nm_eq
   have HNK:Hid (k<maxLen):=Ld (by have:=HLE.out;have:=HCN.out.1;unfold maxLen;omega)
   clear M3 HR3 K4 KW3 HFS HGS
   cases hx:(s.toList==x.toList)
   ·have HX2:Hid (decide (s=x)=false):=Ld (by rw[← HX.out];exact hx)
    cases hB:B s
    ·have HSQ:=Ld (HSF.out (by rw[hB];simp))
     rw[hB] at hlk
     clear hB HSF HST
     go_wp2_with fail
     go_roundw
     case rel=>exact⟨cnt3,k,_,KW4.out,HR4.out,by have:=HLE.out;have:=HLT.out;omega,HGN.out,by rw[← HSQ.out];exact M4.out⟩
     case measure=>rw[HR4.out.left,HLO.out];exact HLT.out
    ·have HSQ:=Ld (HST.out (by rw[hB,HX2.out];rfl))
     rw[hB] at hlk
     clear hB HSF HST
     go_wp2_with (at_mapUpdate;refine wpList_storeF rfl _ _ _ _ 27 rfl u85 rfl M4.out s rfl HS.out HNK.out (.agg #[.int .i64 u.op,.string u.name,.int .i64 u.n,.int .i64 u.ty.kind,.string u.ty.name,.slice ta tn tc,.slice pa pn pc]) rfl ?_;intro w5 hm5 k5;clear gB hlk)
     rw[HSQ.out] at hm5
     have KW5:=Ld (KW4.out.via1 k5 (fun q hq e=>by omega))
     have HR5:=Ld (HR4.out.kept k5 (fun e=>by have:=HL.out.1;omega) (fun e=>by omega))
     have HM5:=Ld hm5
     clear hm5 k5
     go_wp2_with fail
     go_frame
     go_roundw
     case rel=>exact⟨cnt3,k+1,_,KW5.out,HR5.out,by have:=HLE.out;have:=HLT.out;omega,HGN.out,HM5.out⟩
     case measure=>rw[HR5.out.left,HLO.out];exact HLT.out
   ·have HX2:Hid (decide (s=x)=true):=Ld (by rw[← HX.out];exact hx)
    have HSQ:=Ld (HSF.out (by rw[HX2.out];rfl))
    clear HSF HST hlk
    go_wp2_with fail
    go_roundw
    case rel=>exact⟨cnt3,k,_,KW4.out,HR4.out,by have:=HLE.out;have:=HLT.out;omega,HGN.out,by rw[← HSQ.out];exact M4.out⟩
    case measure=>rw[HR4.out.left,HLO.out];exact HLT.out
end Go.Proofs.YtdmebjbkccjhbaaGreatDoor
