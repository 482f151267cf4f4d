/- A part. -/
import Derived.Test.YtdmebjbkccjhbaaGreatDoorV10
set_option linter.unusedVariables false
set_option linter.unusedSimpArgs false
set_option maxRecDepth 100000
set_option maxHeartbeats 32000000
namespace Go.Proofs.YtdmebjbkccjhbaaGreatDoor
open Go.RowKit
variable {bz:Nat}
def kidR (op:Int):Int:=if (kidsN op).2=true then (kidsN op).1 else -2
theorem kidR_eq {op:Int} (h:¬ (op=1∨op=2∨op=19∨op=20∨op=29∨op=3∨op=21∨op=28)):kidR op=(if 46≤op∧op≤52 then 1 else if 4≤op∧op≤56 then 2 else -2):=by
 unfold kidR kidsN
 rw[if_neg (c:=op=1∨op=2∨op=19∨op=20∨op=29) (by omega)]
 by_cases m:46≤op∧op≤52
 ·rw[if_pos (c:=op=3∨op=21∨(46≤op∧op≤52)) (by omega),if_pos m];rfl
 ·rw[if_neg (c:=op=3∨op=21∨(46≤op∧op≤52)) (by omega),if_neg (c:=op=28) (by omega),if_neg m]
  by_cases m2:4≤op∧op≤56
  ·rw[if_pos (c:=1≤op∧op≤56) (by omega),if_pos m2];rfl
  ·rw[if_neg (c:=1≤op∧op≤56) (by omega),if_neg m2];rfl
theorem rkids_any (op:Int) (w:World):Calls Tryz.prog 145 #[.int .i64 op] w fun e w'=>e=.returned (.int .i64 (kidR op))∧w=w':=by
 by_cases h:op=1∨op=2∨op=19∨op=20∨op=29∨op=3∨op=21∨op=28
 ·rcases h with rfl | rfl | rfl | rfl | rfl | rfl | rfl | rfl
  all_goals
   go_enter Tryz.func145,Tryz.ntmps145
   go_wp2_with fail
   go_ret
   exact⟨rfl,rfl⟩
 ·have n1:(op==1)=false:=by simp;omega
  have n2:(op==2)=false:=by simp;omega
  have n19:(op==19)=false:=by simp;omega
  have n20:(op==20)=false:=by simp;omega
  have n29:(op==29)=false:=by simp;omega
  have n3:(op==3)=false:=by simp;omega
  have n21:(op==21)=false:=by simp;omega
  have n28:(op==28)=false:=by simp;omega
  cases a1:decide (46≤op) <;> cases a2:decide (op≤52) <;> cases a3:decide (4≤op) <;> cases a4:decide (op≤56)
  all_goals
   first
   | (exfalso;simp only[decide_eq_true_eq,decide_eq_false_iff_not] at a1 a2 a3 a4;omega)
   | (have hk:=Ld (kidR_eq h)
      clear h
      go_enter Tryz.func145,Tryz.ntmps145
      go_wp2_with fail
      go_ret
      refine⟨?_,rfl⟩
      rw[hk.out]
      simp only[decide_eq_true_eq,decide_eq_false_iff_not] at a1 a2 a3 a4
      first
      | (rw[if_pos (c:=46≤op∧op≤52) (by omega)];all_goals rfl)
      | (rw[if_neg (c:=46≤op∧op≤52) (by omega),if_pos (c:=4≤op∧op≤56) (by omega)];all_goals rfl)
      | (rw[if_neg (c:=46≤op∧op≤52) (by omega),if_neg (c:=4≤op∧op≤56) (by omega)];all_goals rfl))
theorem rbinderB_any (op:Int) (w:World):Calls Tryz.prog 92 #[.int .i64 op] w fun e w'=>e=.returned (.bool (binderB op))∧w=w':=by
 cases h1:(op==8) <;> cases h2:(op==9) <;> cases h3:(op==55) <;> cases h4:(op==56)
 all_goals
  have hk:=Ld (show binderB op=_ by unfold binderB;rw[h1,h2,h3,h4])
  go_enter Tryz.func92,Tryz.ntmps92
  go_wp2_with fail
  go_ret
  exact⟨by rw[hk.out];rfl,rfl⟩
theorem primed_big (x:ByteArray) (w:World) (hs:x.size≤9223372036854775807) {v:Bool} (hv:primB x=v):
  Calls Tryz.prog 46 #[.string x] w fun e w'=>e=.returned (.bool v)∧Kept (fun _=>False) w w':=by
 unfold primB at hv
 by_cases h1:1<x.size
 ·rw[dif_pos h1] at hv
  have i1:(1:Int)<(x.size:Int):=by omega
  have i2:x.size-1<x.size:=by omega
  have i3:(x.size:Int)-1=((x.size-1:Nat):Int):=by omega
  cases h39:((x[x.size-1].toNat:Int)==39)
  ·rw[h39] at hv
   have HV:=Ld hv
   clear hv
   go_enter Tryz.func46,Tryz.ntmps46
   go_wp2_with fail
   go_ret
   exact⟨by rw[← HV.out];rfl,Kept.refl _ _⟩
  ·rw[h39] at hv
   have HV:=Ld hv
   clear hv
   have hz:(x.extract 0 (x.size-1)).size≤9223372036854775807:=by rw[ByteArray.size_extract];omega
   go_enter Tryz.func46,Tryz.ntmps46
   go_wp2_with fail
   refine (rident_any _ _ hz).mono ?_
   rintro e w' ⟨rfl,k'⟩
   go_wp2_with fail
   go_ret
   exact⟨by rw[← HV.out];simp,k'⟩
 ·rw[dif_neg h1] at hv
  have i1:¬ (1:Int)<(x.size:Int):=by omega
  have HV:=Ld hv
  clear hv
  go_enter Tryz.func46,Tryz.ntmps46
  go_wp2_with fail
  go_ret
  exact⟨by rw[← HV.out];rfl,Kept.refl _ _⟩
theorem ident_last {s:ByteArray} (h:identB s=true) (hp:s.size-1<s.size):s[s.size-1]≠39:=by
 intro e
 unfold identB at h
 simp only[Bool.and_eq_true] at h
 have:=allW_false s _ hp (by rw[e];decide)
 rw[h.2] at this;cases this
theorem ext_take (s:ByteArray) (k:Nat):(s.extract 0 k).data.toList=s.data.toList.take k:=by
 rw[ByteArray.data_extract,Array.toList_extract,List.extract_eq_take_drop,List.drop_zero,Nat.sub_zero]
theorem trim_parts (s:ByteArray):(∃ h:s.size-1<s.size,s[s.size-1]=39∧trimQ s=s.extract 0 (s.size-1))∨((∀ hp:s.size-1<s.size,s[s.size-1]≠39)∧trimQ s=s):=by
 have at_:∀ (l:List UInt8),s.data.toList=l→∀ (p:Nat) (h:p<s.size) (h':p<l.length),s[p]=l[p]:=by
  intro l hl p h h'
  subst hl
  show s.data[p]=_
  rw[Array.getElem_toList]
 have hlen:=Lib.size_eq s
 by_cases hs:Lib.hasSuffix s.data.toList [39]=true
 ·left
  have hs':=hs
  unfold Lib.hasSuffix at hs
  obtain⟨t,ht⟩:=List.isSuffixOf_iff_suffix.1 hs
  have hl:s.size=t.length+1:=by rw[Lib.size_eq,← ht];simp
  refine⟨by omega,?_,?_⟩
  ·rw[at_ _ ht.symm (s.size-1) (by omega) (by simp;omega),List.getElem_append_right (by omega)]
   simp
  ·unfold trimQ Lib.trimSuffix
   rw[if_pos hs']
   apply ByteArray.ext
   apply Array.toList_inj.1
   rw[ext_take,hlen]
   rfl
 ·right
  refine⟨?_,?_⟩
  ·intro hp e
   apply hs
   unfold Lib.hasSuffix
   apply List.isSuffixOf_iff_suffix.2
   have h0:s.data.toList≠[]:=by
    intro q
    have:s.data.toList.length=0:=by rw[q];rfl
    omega
   refine⟨s.data.toList.dropLast,?_⟩
   have hlast:s.data.toList.getLast h0=39:=by
    rw[List.getLast_eq_getElem,← e,at_ _ rfl (s.size-1) hp (by omega)]
    congr 1
   rw[← hlast];exact List.dropLast_concat_getLast h0
  ·unfold trimQ Lib.trimSuffix
   rw[if_neg hs]
theorem ident_nil:identB ⟨#[]⟩=false:=by decide +kernel
theorem named_or (s:ByteArray):namedB s=(identB s||primB s):=by
 rcases trim_parts s with ⟨h,e,ht⟩ | ⟨hne,ht⟩
 ·have h1:identB s=false:=by
   cases hi:identB s
   ·rfl
   ·exact absurd e (ident_last hi h)
  unfold namedB
  rw[h1,ht,Bool.false_or]
  unfold primB
  by_cases h2:1<s.size
  ·rw[dif_pos h2,e];rfl
  ·rw[dif_neg h2]
   have h3:s.extract 0 (s.size-1)=⟨#[]⟩:=by
    apply ByteArray.ext
    apply Array.toList_inj.1
    rw[ext_take]
    have:s.size-1=0:=by omega
    rw[this];rfl
   rw[h3];exact ident_nil
 ·unfold namedB
  rw[ht]
  have h2:primB s=false:=by
   unfold primB
   by_cases h:1<s.size
   ·rw[dif_pos h]
    have:((s[s.size-1].toNat:Int)==39)=false:=by
     rw[beq_eq_false_iff_ne]
     intro q
     apply hne (by omega)
     apply UInt8.toNat_inj.1
     show _=39
     omega
    rw[this];rfl
   ·rw[dif_neg h]
  rw[h2,Bool.or_false]
theorem rnamed_t {s:ByteArray} {v:Bool} (hv:namedB s=v) (hs:s.size≤9223372036854775807) (w:World):Calls Tryz.prog 14 #[.string s] w fun e w'=>e=.returned (.bool v)∧Kept (fun _=>False) w w':=by
 rw[named_or] at hv
 cases hi:identB s
 ·have HI:=Ld hi
  rw[hi,Bool.false_or] at hv
  have HP:=Ld hv
  clear hi hv
  go_enter Tryz.func14,Tryz.ntmps14
  go_wp2_with fail
  refine (rident_t HI.out hs _).mono ?_
  rintro e w1 ⟨rfl,k1⟩
  go_wp2_with fail
  refine (primed_big s _ hs HP.out).mono ?_
  rintro e w2 ⟨rfl,k2⟩
  go_wp2_with fail
  go_ret
  exact⟨rfl,k1.trans k2⟩
 ·have HI:=Ld hi
  rw[hi,Bool.true_or] at hv
  subst hv
  clear hi
  go_enter Tryz.func14,Tryz.ntmps14
  go_wp2_with fail
  refine (rident_t HI.out hs _).mono ?_
  rintro e w1 ⟨rfl,k1⟩
  go_wp2_with fail
  go_ret
  exact⟨rfl,k1⟩
theorem rzeroTy_any (k:Int) (nm:ByteArray) (a:Option Addr) (n c:Nat) {w:World} {v:Bool} (hv:((k==0)&&(nm.toList==[])&&decide (n=0))=v):
  Calls Tryz.prog 147 #[.agg #[.int .i64 k,.string nm,.slice a n c]] w fun e w'=>e=.returned (.bool v)∧Kept (fun _=>False) w w':=by
 cases h1:(k==0) <;> cases h2:(nm.toList==[]) <;> by_cases h3:n=0
 all_goals
  (rw[h1,h2] at hv)
  (first | subst h3 | (have h4:decide ((n:Int)=0)=false:=by simp;omega))
  have HV:=Ld hv
  clear hv
  go_enter Tryz.func147,Tryz.ntmps147
  go_wp2_with fail
  go_ret
  exact⟨by rw[← HV.out];simp[*],kR.alloc _⟩
theorem rbinder_t {op:Int} {v:Bool} (h:binderB op=v) (w:World):Calls Tryz.prog 92 #[.int .i64 op] w fun e w'=>e=.returned (.bool v)∧w=w':=(rbinderB_any op w).mono fun _ _ q=>⟨by rw[← h];exact q.1,q.2⟩
theorem rkids_t {op a:Int} (h:kidR op=a) (w:World):Calls Tryz.prog 145 #[.int .i64 op] w fun e w'=>e=.returned (.int .i64 a)∧w=w':=(rkids_any op w).mono fun _ _ q=>⟨by rw[q.1,h],q.2⟩
theorem rzeroTy_t {ok:Nat→Prop} {w W:World} {t:Ty} {a:Option Addr} {n c:Nat} (hk:TyL bz ok W t.kids (.slice a n c)) {v:Bool} (hv:zeroTyB t=v):
  Calls Tryz.prog 147 #[.agg #[.int .i64 t.kind,.string t.name,.slice a n c]] w fun e w'=>e=.returned (.bool v)∧Kept (fun _=>False) w w':=by
 refine rzeroTy_any t.kind t.name a n c (v:=v) ?_
 rw[← hv,hk.len]
 unfold zeroTyB
 cases t.kids <;> simp
theorem rvalidTy_t {ok:Nat→Prop} {w:World} {t:Ty} {a:Option Addr} {n c:Nat} (hk:TyL bz ok w t.kids (.slice a n c)) (hs:SmTy big t) {v:Bool} (hv:validTyB t=v):
  Calls Tryz.prog 146 #[.agg #[.int .i64 t.kind,.string t.name,.slice a n c]] w fun e w'=>e=.returned (.bool v)∧Kept (fun _=>False) w w':=by rw[← hv];exact rvalidTy_any hk hs
theorem rnode_name {ok:Nat→Prop} {w:World} {nm:ByteArray} {N:Int} {ty:Ty} {a:Option Addr} {n c:Nat} {ma:Option Addr} {mn mc:Nat} (hk:TyL bz ok w ty.kids (.slice a n c)) (hs:SmTy big ty) (hsz:nm.size≤9223372036854775807) :Calls Tryz.prog 96 #[.agg #[.int .i64 20,.string nm,.int .i64 N,.int .i64 ty.kind,.string ty.name,.slice a n c,.slice ma mn mc]] w fun e w'=>e=.returned (.bool (formedB 20 nm N ty mn))∧Kept (fun _=>False) w w':=by
 have HKN:Hid (kidsN 20=(0,true)):=Ld rfl
 have HKI:Hid (kidR 20=0):=Ld rfl
 have HBI:Hid (binderB 20=false):=Ld rfl
 have KW:Kept (fun _=>False) w (w.alloc (.cells #[.int .i64 20,.string nm,.int .i64 N,.int .i64 ty.kind,.string ty.name,.slice a n c,.slice ma mn mc] 27)):=kR.alloc _
 have bW:Blk (w.alloc (.cells #[.int .i64 20,.string nm,.int .i64 N,.int .i64 ty.kind,.string ty.name,.slice a n c,.slice ma mn mc] 27)) w.heap.size 27 [.int .i64 20,.string nm,.int .i64 N,.int .i64 ty.kind,.string ty.name,.slice a n c,.slice ma mn mc]:=Blk.new w 27 _
 have HKW:=Ld (hk.frame (Same.alloc w (.cells #[.int .i64 20,.string nm,.int .i64 N,.int .i64 ty.kind,.string ty.name,.slice a n c,.slice ma mn mc] 27)))
 by_cases hl:(mn:Int)=0
 case neg=>
  have hl1:((mn:Int) != 0)=true:=by simp;omega
  have hl4:¬ mn=0:=by omega
  have HQ:Hid (formedB 20 nm N ty mn=false):=Ld (by unfold formedB kidOk nmOk nOk tyOk;rw[HKN.out];simp[*])
  go_enter Tryz.func96,Tryz.ntmps96
  go_wp2_with (first | (go_at_call 145;refine cR (rkids_t HKI.out _) ?_) | (go_at_call 92;refine cR (rbinder_t HBI.out _) ?_))
  go_ret
  exact⟨by rw[HQ.out];rfl,KW⟩
 have hl3:mn=0:=by omega
 subst hl3
 cases hnm:namedB nm
 case false=>
  have HQ:Hid (formedB 20 nm N ty 0=false):=Ld (by unfold formedB kidOk nmOk nOk tyOk;rw[HKN.out];simp[*,big])
  have HNM:=Ld hnm
  clear hnm
  go_enter Tryz.func96,Tryz.ntmps96
  go_wp2_with (first | (go_at_call 145;refine cR (rkids_t HKI.out _) ?_) | (go_at_call 92;refine cR (rbinder_t HBI.out _) ?_))
  refine (rnamed_t HNM.out hsz _).mono ?_
  rintro e wn ⟨rfl,kn⟩
  have bn:=bW.kept kn (fun h=>h)
  have gn:∀ i,wn.cell? ⟨w.heap.size,i,none⟩=[Value.int .i64 20,.string nm,.int .i64 N,.int .i64 ty.kind,.string ty.name,.slice a n c,.slice ma 0 mc][i]?:=bn.cell
  go_wp2_with (first | (go_at_call 145;refine cR (rkids_t HKI.out _) ?_) | (go_at_call 92;refine cR (rbinder_t HBI.out _) ?_))
  go_ret
  exact⟨by rw[HQ.out];rfl,(KW.trans kn)⟩
 cases hN:(N==0)
 case false=>
  have hN3:(N != 0)=true:=by rw[bne,hN];rfl
  have HQ:Hid (formedB 20 nm N ty 0=false):=Ld (by unfold formedB kidOk nmOk nOk tyOk;rw[HKN.out];simp[*])
  have HNM:=Ld hnm
  clear hnm
  go_enter Tryz.func96,Tryz.ntmps96
  go_wp2_with (first | (go_at_call 145;refine cR (rkids_t HKI.out _) ?_) | (go_at_call 92;refine cR (rbinder_t HBI.out _) ?_))
  refine (rnamed_t HNM.out hsz _).mono ?_
  rintro e wn ⟨rfl,kn⟩
  have bn:=bW.kept kn (fun h=>h)
  have gn:∀ i,wn.cell? ⟨w.heap.size,i,none⟩=[Value.int .i64 20,.string nm,.int .i64 N,.int .i64 ty.kind,.string ty.name,.slice a n c,.slice ma 0 mc][i]?:=bn.cell
  go_wp2_with (first | (go_at_call 145;refine cR (rkids_t HKI.out _) ?_) | (go_at_call 92;refine cR (rbinder_t HBI.out _) ?_))
  go_ret
  exact⟨by rw[HQ.out];rfl,(KW.trans kn)⟩
 have hN3:(N != 0)=false:=by rw[bne,hN];rfl
 cases hz:zeroTyB ty
 case false=>
  have HQ:Hid (formedB 20 nm N ty 0=false):=Ld (by unfold formedB kidOk nmOk nOk tyOk;rw[HKN.out];simp[*])
  have HZ:=Ld (fun W=>rzeroTy_t (w:=W) HKW.out hz)
  clear hz
  have HNM:=Ld hnm
  clear hnm
  go_enter Tryz.func96,Tryz.ntmps96
  go_wp2_with (first | (go_at_call 145;refine cR (rkids_t HKI.out _) ?_) | (go_at_call 92;refine cR (rbinder_t HBI.out _) ?_))
  refine (rnamed_t HNM.out hsz _).mono ?_
  rintro e wn ⟨rfl,kn⟩
  have bn:=bW.kept kn (fun h=>h)
  have gn:∀ i,wn.cell? ⟨w.heap.size,i,none⟩=[Value.int .i64 20,.string nm,.int .i64 N,.int .i64 ty.kind,.string ty.name,.slice a n c,.slice ma 0 mc][i]?:=bn.cell
  go_wp2_with (first | (go_at_call 145;refine cR (rkids_t HKI.out _) ?_) | (go_at_call 92;refine cR (rbinder_t HBI.out _) ?_))
  refine (HZ.out _).mono ?_
  rintro e w' ⟨rfl,h2⟩
  go_wp2_with fail
  go_ret
  exact⟨by rw[HQ.out];rfl,((KW.trans kn)).trans h2⟩
 case true=>
  have HQ:Hid (formedB 20 nm N ty 0=true):=Ld (by unfold formedB kidOk nmOk nOk tyOk;rw[HKN.out];simp[*])
  have HZ:=Ld (fun W=>rzeroTy_t (w:=W) HKW.out hz)
  clear hz
  have HNM:=Ld hnm
  clear hnm
  go_enter Tryz.func96,Tryz.ntmps96
  go_wp2_with (first | (go_at_call 145;refine cR (rkids_t HKI.out _) ?_) | (go_at_call 92;refine cR (rbinder_t HBI.out _) ?_))
  refine (rnamed_t HNM.out hsz _).mono ?_
  rintro e wn ⟨rfl,kn⟩
  have bn:=bW.kept kn (fun h=>h)
  have gn:∀ i,wn.cell? ⟨w.heap.size,i,none⟩=[Value.int .i64 20,.string nm,.int .i64 N,.int .i64 ty.kind,.string ty.name,.slice a n c,.slice ma 0 mc][i]?:=bn.cell
  go_wp2_with (first | (go_at_call 145;refine cR (rkids_t HKI.out _) ?_) | (go_at_call 92;refine cR (rbinder_t HBI.out _) ?_))
  refine (HZ.out _).mono ?_
  rintro e w' ⟨rfl,h2⟩
  go_wp2_with fail
  go_ret
  exact⟨by rw[HQ.out];rfl,((KW.trans kn)).trans h2⟩
theorem rnode_int {ok:Nat→Prop} {w:World} {nm:ByteArray} {N:Int} {ty:Ty} {a:Option Addr} {n c:Nat} {ma:Option Addr} {mn mc:Nat} (hk:TyL bz ok w ty.kids (.slice a n c)) (hs:SmTy big ty) (hsz:nm.size≤9223372036854775807) :Calls Tryz.prog 96 #[.agg #[.int .i64 19,.string nm,.int .i64 N,.int .i64 ty.kind,.string ty.name,.slice a n c,.slice ma mn mc]] w fun e w'=>e=.returned (.bool (formedB 19 nm N ty mn))∧Kept (fun _=>False) w w':=by
 have HKN:Hid (kidsN 19=(0,true)):=Ld rfl
 have HKI:Hid (kidR 19=0):=Ld rfl
 have HBI:Hid (binderB 19=false):=Ld rfl
 have hb0:binderB 19=false:=rfl
 have KW:Kept (fun _=>False) w (w.alloc (.cells #[.int .i64 19,.string nm,.int .i64 N,.int .i64 ty.kind,.string ty.name,.slice a n c,.slice ma mn mc] 27)):=kR.alloc _
 have bW:Blk (w.alloc (.cells #[.int .i64 19,.string nm,.int .i64 N,.int .i64 ty.kind,.string ty.name,.slice a n c,.slice ma mn mc] 27)) w.heap.size 27 [.int .i64 19,.string nm,.int .i64 N,.int .i64 ty.kind,.string ty.name,.slice a n c,.slice ma mn mc]:=Blk.new w 27 _
 have HKW:=Ld (hk.frame (Same.alloc w (.cells #[.int .i64 19,.string nm,.int .i64 N,.int .i64 ty.kind,.string ty.name,.slice a n c,.slice ma mn mc] 27)))
 by_cases hl:(mn:Int)=0
 case neg=>
  have hl1:((mn:Int) != 0)=true:=by simp;omega
  have hl4:¬ mn=0:=by omega
  have HQ:Hid (formedB 19 nm N ty mn=false):=Ld (by unfold formedB kidOk nmOk nOk tyOk;rw[HKN.out];simp[*])
  go_enter Tryz.func96,Tryz.ntmps96
  go_wp2_with (first | (go_at_call 145;refine cR (rkids_t HKI.out _) ?_) | (go_at_call 92;refine cR (rbinder_t HBI.out _) ?_))
  go_ret
  exact⟨by rw[HQ.out];rfl,KW⟩
 have hl3:mn=0:=by omega
 subst hl3
 cases hnm:(nm.toList==[])
 case false=>
  have he2:nm.toList.isEmpty=false:=by cases h:nm.toList <;> simp_all
  have he3:(nm.toList != [])=true:=by rw[bne,hnm];rfl
  have HQ:Hid (formedB 19 nm N ty 0=false):=Ld (by unfold formedB kidOk nmOk nOk tyOk;rw[HKN.out];simp[*,big])
  go_enter Tryz.func96,Tryz.ntmps96
  go_wp2_with (first | (go_at_call 145;refine cR (rkids_t HKI.out _) ?_) | (go_at_call 92;refine cR (rbinder_t HBI.out _) ?_))
  go_ret
  exact⟨by rw[HQ.out];rfl,KW⟩
 have he2:nm.toList.isEmpty=true:=by cases h:nm.toList <;> simp_all
 have he3:(nm.toList != [])=false:=by rw[bne,hnm];rfl
 by_cases hN:0≤N
 case neg=>
  have hN1:decide (0≤N)=false:=by simp;omega
  have hN2:decide (N<0)=true:=by simp;omega
  have HQ:Hid (formedB 19 nm N ty 0=false):=Ld (by unfold formedB kidOk nmOk nOk tyOk;rw[HKN.out];simp[*])
  go_enter Tryz.func96,Tryz.ntmps96
  go_wp2_with (first | (go_at_call 145;refine cR (rkids_t HKI.out _) ?_) | (go_at_call 92;refine cR (rbinder_t HBI.out _) ?_))
  go_ret
  exact⟨by rw[HQ.out];rfl,KW⟩
 have hN2:decide (N<0)=false:=by simp;omega
 by_cases hM:N≤1000000000
 case neg=>
  have hM1:decide (N≤1000000000)=false:=by simp;omega
  have hM2:decide (1000000000<N)=true:=by simp;omega
  have HQ:Hid (formedB 19 nm N ty 0=false):=Ld (by unfold formedB kidOk nmOk nOk tyOk;rw[HKN.out];simp[*])
  go_enter Tryz.func96,Tryz.ntmps96
  go_wp2_with (first | (go_at_call 145;refine cR (rkids_t HKI.out _) ?_) | (go_at_call 92;refine cR (rbinder_t HBI.out _) ?_))
  go_ret
  exact⟨by rw[HQ.out];rfl,KW⟩
 have hM2:decide (1000000000<N)=false:=by simp;omega
 cases hz:zeroTyB ty
 case false=>
  have HQ:Hid (formedB 19 nm N ty 0=false):=Ld (by unfold formedB kidOk nmOk nOk tyOk;rw[HKN.out];simp[*])
  have HZ:=Ld (fun W=>rzeroTy_t (w:=W) HKW.out hz)
  clear hz
  go_enter Tryz.func96,Tryz.ntmps96
  go_wp2_with (first | (go_at_call 145;refine cR (rkids_t HKI.out _) ?_) | (go_at_call 92;refine cR (rbinder_t HBI.out _) ?_))
  refine (HZ.out _).mono ?_
  rintro e w' ⟨rfl,h2⟩
  go_wp2_with fail
  go_ret
  exact⟨by rw[HQ.out];rfl,(KW).trans h2⟩
 case true=>
  have HQ:Hid (formedB 19 nm N ty 0=true):=Ld (by unfold formedB kidOk nmOk nOk tyOk;rw[HKN.out];simp[*])
  have HZ:=Ld (fun W=>rzeroTy_t (w:=W) HKW.out hz)
  clear hz
  go_enter Tryz.func96,Tryz.ntmps96
  go_wp2_with (first | (go_at_call 145;refine cR (rkids_t HKI.out _) ?_) | (go_at_call 92;refine cR (rbinder_t HBI.out _) ?_))
  refine (HZ.out _).mono ?_
  rintro e w' ⟨rfl,h2⟩
  go_wp2_with fail
  go_ret
  exact⟨by rw[HQ.out];rfl,(KW).trans h2⟩
theorem rnode_empty {ok:Nat→Prop} {w:World} {nm:ByteArray} {N:Int} {ty:Ty} {a:Option Addr} {n c:Nat} {ma:Option Addr} {mn mc:Nat} (hk:TyL bz ok w ty.kids (.slice a n c)) (hs:SmTy big ty) (hsz:nm.size≤9223372036854775807) :Calls Tryz.prog 96 #[.agg #[.int .i64 29,.string nm,.int .i64 N,.int .i64 ty.kind,.string ty.name,.slice a n c,.slice ma mn mc]] w fun e w'=>e=.returned (.bool (formedB 29 nm N ty mn))∧Kept (fun _=>False) w w':=by
 have HKN:Hid (kidsN 29=(0,true)):=Ld rfl
 have HKI:Hid (kidR 29=0):=Ld rfl
 have HBI:Hid (binderB 29=false):=Ld rfl
 have hb0:binderB 29=false:=rfl
 have KW:Kept (fun _=>False) w (w.alloc (.cells #[.int .i64 29,.string nm,.int .i64 N,.int .i64 ty.kind,.string ty.name,.slice a n c,.slice ma mn mc] 27)):=kR.alloc _
 have bW:Blk (w.alloc (.cells #[.int .i64 29,.string nm,.int .i64 N,.int .i64 ty.kind,.string ty.name,.slice a n c,.slice ma mn mc] 27)) w.heap.size 27 [.int .i64 29,.string nm,.int .i64 N,.int .i64 ty.kind,.string ty.name,.slice a n c,.slice ma mn mc]:=Blk.new w 27 _
 have HKW:=Ld (hk.frame (Same.alloc w (.cells #[.int .i64 29,.string nm,.int .i64 N,.int .i64 ty.kind,.string ty.name,.slice a n c,.slice ma mn mc] 27)))
 by_cases hl:(mn:Int)=0
 case neg=>
  have hl1:((mn:Int) != 0)=true:=by simp;omega
  have hl4:¬ mn=0:=by omega
  have HQ:Hid (formedB 29 nm N ty mn=false):=Ld (by unfold formedB kidOk nmOk nOk tyOk;rw[HKN.out];simp[*])
  go_enter Tryz.func96,Tryz.ntmps96
  go_wp2_with (first | (go_at_call 145;refine cR (rkids_t HKI.out _) ?_) | (go_at_call 92;refine cR (rbinder_t HBI.out _) ?_))
  go_ret
  exact⟨by rw[HQ.out];rfl,KW⟩
 have hl3:mn=0:=by omega
 subst hl3
 cases hnm:(nm.toList==[])
 case false=>
  have he2:nm.toList.isEmpty=false:=by cases h:nm.toList <;> simp_all
  have he3:(nm.toList != [])=true:=by rw[bne,hnm];rfl
  have HQ:Hid (formedB 29 nm N ty 0=false):=Ld (by unfold formedB kidOk nmOk nOk tyOk;rw[HKN.out];simp[*,big])
  go_enter Tryz.func96,Tryz.ntmps96
  go_wp2_with (first | (go_at_call 145;refine cR (rkids_t HKI.out _) ?_) | (go_at_call 92;refine cR (rbinder_t HBI.out _) ?_))
  go_ret
  exact⟨by rw[HQ.out];rfl,KW⟩
 have he2:nm.toList.isEmpty=true:=by cases h:nm.toList <;> simp_all
 have he3:(nm.toList != [])=false:=by rw[bne,hnm];rfl
 cases hN:(N==0)
 case false=>
  have hN3:(N != 0)=true:=by rw[bne,hN];rfl
  have HQ:Hid (formedB 29 nm N ty 0=false):=Ld (by unfold formedB kidOk nmOk nOk tyOk;rw[HKN.out];simp[*])
  go_enter Tryz.func96,Tryz.ntmps96
  go_wp2_with (first | (go_at_call 145;refine cR (rkids_t HKI.out _) ?_) | (go_at_call 92;refine cR (rbinder_t HBI.out _) ?_))
  go_ret
  exact⟨by rw[HQ.out];rfl,KW⟩
 have hN3:(N != 0)=false:=by rw[bne,hN];rfl
 cases hvt:validTyB ty
 case false=>
  have HQ:Hid (formedB 29 nm N ty 0=false):=Ld (by unfold formedB kidOk nmOk nOk tyOk;rw[HKN.out];simp[*])
  have HZ:=Ld (rvalidTy_t HKW.out hs hvt)
  clear hvt
  go_enter Tryz.func96,Tryz.ntmps96
  go_wp2_with (first | (go_at_call 145;refine cR (rkids_t HKI.out _) ?_) | (go_at_call 92;refine cR (rbinder_t HBI.out _) ?_))
  refine HZ.out.mono ?_
  rintro e w' ⟨rfl,h2⟩
  go_wp2_with fail
  go_ret
  exact⟨by rw[HQ.out];rfl,(KW).trans h2⟩
 case true=>
  cases hz:(ty.kind==2)
  case false=>
   have HQ:Hid (formedB 29 nm N ty 0=true):=Ld (by unfold formedB kidOk nmOk nOk tyOk;rw[HKN.out];simp[*])
   have hz2:(ty.kind != 2)=true:=by rw[bne,hz];rfl
   have HZ:=Ld (rvalidTy_t HKW.out hs hvt)
   clear hvt
   go_enter Tryz.func96,Tryz.ntmps96
   go_wp2_with (first | (go_at_call 145;refine cR (rkids_t HKI.out _) ?_) | (go_at_call 92;refine cR (rbinder_t HBI.out _) ?_))
   refine HZ.out.mono ?_
   rintro e w' ⟨rfl,h2⟩
   have gz:∀ i,w'.cell? ⟨w.heap.size,i,none⟩=[Value.int .i64 29,.string nm,.int .i64 N,.int .i64 ty.kind,.string ty.name,.slice a n c,.slice ma 0 mc][i]?:=(bW.kept h2 (fun h=>h)).cell
   go_wp2_with fail
   go_ret
   exact⟨by rw[HQ.out];rfl,(KW).trans h2⟩
  case true=>
   have HQ:Hid (formedB 29 nm N ty 0=false):=Ld (by unfold formedB kidOk nmOk nOk tyOk;rw[HKN.out];simp[*])
   have hz2:(ty.kind != 2)=false:=by rw[bne,hz];rfl
   have HZ:=Ld (rvalidTy_t HKW.out hs hvt)
   clear hvt
   go_enter Tryz.func96,Tryz.ntmps96
   go_wp2_with (first | (go_at_call 145;refine cR (rkids_t HKI.out _) ?_) | (go_at_call 92;refine cR (rbinder_t HBI.out _) ?_))
   refine HZ.out.mono ?_
   rintro e w' ⟨rfl,h2⟩
   have gz:∀ i,w'.cell? ⟨w.heap.size,i,none⟩=[Value.int .i64 29,.string nm,.int .i64 N,.int .i64 ty.kind,.string ty.name,.slice a n c,.slice ma 0 mc][i]?:=(bW.kept h2 (fun h=>h)).cell
   go_wp2_with fail
   go_ret
   exact⟨by rw[HQ.out];rfl,(KW).trans h2⟩
theorem rnode_bind {ok:Nat→Prop} {w:World} {nm:ByteArray} {N:Int} {ty:Ty} {a:Option Addr} {n c:Nat} {ma:Option Addr} {mn mc:Nat} (hk:TyL bz ok w ty.kids (.slice a n c)) (hs:SmTy big ty) (hsz:nm.size≤9223372036854775807) {op:Int} (n20:op≠20) (n19:op≠19) (n29:op≠29) (hbi:binderB op=true) (hki:kidsN op=(2,true)):Calls Tryz.prog 96 #[.agg #[.int .i64 op,.string nm,.int .i64 N,.int .i64 ty.kind,.string ty.name,.slice a n c,.slice ma mn mc]] w fun e w'=>e=.returned (.bool (formedB op nm N ty mn))∧Kept (fun _=>False) w w':=by
 have q20:(op==20)=false:=beq_false_of_ne n20
 have q19:(op==19)=false:=beq_false_of_ne n19
 have q29:(op==29)=false:=beq_false_of_ne n29
 have p19:(op != 19)=true:=by rw[bne,q19];rfl
 have HKN:=Ld hki
 have HKI:Hid (kidR op=2):=Ld (by unfold kidR;rw[hki];rfl)
 have HBI:=Ld hbi
 have KW:Kept (fun _=>False) w (w.alloc (.cells #[.int .i64 op,.string nm,.int .i64 N,.int .i64 ty.kind,.string ty.name,.slice a n c,.slice ma mn mc] 27)):=kR.alloc _
 have bW:Blk (w.alloc (.cells #[.int .i64 op,.string nm,.int .i64 N,.int .i64 ty.kind,.string ty.name,.slice a n c,.slice ma mn mc] 27)) w.heap.size 27 [.int .i64 op,.string nm,.int .i64 N,.int .i64 ty.kind,.string ty.name,.slice a n c,.slice ma mn mc]:=Blk.new w 27 _
 have HKW:=Ld (hk.frame (Same.alloc w (.cells #[.int .i64 op,.string nm,.int .i64 N,.int .i64 ty.kind,.string ty.name,.slice a n c,.slice ma mn mc] 27)))
 by_cases hl:(mn:Int)=2
 case neg=>
  have hl1:((mn:Int) != 2)=true:=by simp;omega
  have hl4:¬ mn=2:=by omega
  have HQ:Hid (formedB op nm N ty mn=false):=Ld (by unfold formedB kidOk nmOk nOk tyOk;rw[HKN.out];simp[*])
  go_enter Tryz.func96,Tryz.ntmps96
  go_wp2_with (first | (go_at_call 145;refine cR (rkids_t HKI.out _) ?_) | (go_at_call 92;refine cR (rbinder_t HBI.out _) ?_))
  go_ret
  exact⟨by rw[HQ.out];rfl,KW⟩
 have hl3:mn=2:=by omega
 subst hl3
 cases hnm:identB nm
 case false=>
  have HQ:Hid (formedB op nm N ty 2=false):=Ld (by unfold formedB kidOk nmOk nOk tyOk;rw[HKN.out];simp[*,big])
  have HNM:=Ld hnm
  clear hnm
  go_enter Tryz.func96,Tryz.ntmps96
  go_wp2_with (first | (go_at_call 145;refine cR (rkids_t HKI.out _) ?_) | (go_at_call 92;refine cR (rbinder_t HBI.out _) ?_))
  refine (rident_t HNM.out hsz _).mono ?_
  rintro e wn ⟨rfl,kn⟩
  have bn:=bW.kept kn (fun h=>h)
  have gn:∀ i,wn.cell? ⟨w.heap.size,i,none⟩=[Value.int .i64 op,.string nm,.int .i64 N,.int .i64 ty.kind,.string ty.name,.slice a n c,.slice ma 2 mc][i]?:=bn.cell
  go_wp2_with (first | (go_at_call 145;refine cR (rkids_t HKI.out _) ?_) | (go_at_call 92;refine cR (rbinder_t HBI.out _) ?_))
  go_ret
  exact⟨by rw[HQ.out];rfl,(KW.trans kn)⟩
 cases hN:(N==0)
 case false=>
  have hN3:(N != 0)=true:=by rw[bne,hN];rfl
  have HQ:Hid (formedB op nm N ty 2=false):=Ld (by unfold formedB kidOk nmOk nOk tyOk;rw[HKN.out];simp[*])
  have HNM:=Ld hnm
  clear hnm
  go_enter Tryz.func96,Tryz.ntmps96
  go_wp2_with (first | (go_at_call 145;refine cR (rkids_t HKI.out _) ?_) | (go_at_call 92;refine cR (rbinder_t HBI.out _) ?_))
  refine (rident_t HNM.out hsz _).mono ?_
  rintro e wn ⟨rfl,kn⟩
  have bn:=bW.kept kn (fun h=>h)
  have gn:∀ i,wn.cell? ⟨w.heap.size,i,none⟩=[Value.int .i64 op,.string nm,.int .i64 N,.int .i64 ty.kind,.string ty.name,.slice a n c,.slice ma 2 mc][i]?:=bn.cell
  go_wp2_with (first | (go_at_call 145;refine cR (rkids_t HKI.out _) ?_) | (go_at_call 92;refine cR (rbinder_t HBI.out _) ?_))
  go_ret
  exact⟨by rw[HQ.out];rfl,(KW.trans kn)⟩
 have hN3:(N != 0)=false:=by rw[bne,hN];rfl
 cases hz:zeroTyB ty
 case false=>
  have HQ:Hid (formedB op nm N ty 2=false):=Ld (by unfold formedB kidOk nmOk nOk tyOk;rw[HKN.out];simp[*])
  have HZ:=Ld (fun W=>rzeroTy_t (w:=W) HKW.out hz)
  clear hz
  have HNM:=Ld hnm
  clear hnm
  go_enter Tryz.func96,Tryz.ntmps96
  go_wp2_with (first | (go_at_call 145;refine cR (rkids_t HKI.out _) ?_) | (go_at_call 92;refine cR (rbinder_t HBI.out _) ?_))
  refine (rident_t HNM.out hsz _).mono ?_
  rintro e wn ⟨rfl,kn⟩
  have bn:=bW.kept kn (fun h=>h)
  have gn:∀ i,wn.cell? ⟨w.heap.size,i,none⟩=[Value.int .i64 op,.string nm,.int .i64 N,.int .i64 ty.kind,.string ty.name,.slice a n c,.slice ma 2 mc][i]?:=bn.cell
  go_wp2_with (first | (go_at_call 145;refine cR (rkids_t HKI.out _) ?_) | (go_at_call 92;refine cR (rbinder_t HBI.out _) ?_))
  refine (HZ.out _).mono ?_
  rintro e w' ⟨rfl,h2⟩
  go_wp2_with fail
  go_ret
  exact⟨by rw[HQ.out];rfl,((KW.trans kn)).trans h2⟩
 case true=>
  have HQ:Hid (formedB op nm N ty 2=true):=Ld (by unfold formedB kidOk nmOk nOk tyOk;rw[HKN.out];simp[*])
  have HZ:=Ld (fun W=>rzeroTy_t (w:=W) HKW.out hz)
  clear hz
  have HNM:=Ld hnm
  clear hnm
  go_enter Tryz.func96,Tryz.ntmps96
  go_wp2_with (first | (go_at_call 145;refine cR (rkids_t HKI.out _) ?_) | (go_at_call 92;refine cR (rbinder_t HBI.out _) ?_))
  refine (rident_t HNM.out hsz _).mono ?_
  rintro e wn ⟨rfl,kn⟩
  have bn:=bW.kept kn (fun h=>h)
  have gn:∀ i,wn.cell? ⟨w.heap.size,i,none⟩=[Value.int .i64 op,.string nm,.int .i64 N,.int .i64 ty.kind,.string ty.name,.slice a n c,.slice ma 2 mc][i]?:=bn.cell
  go_wp2_with (first | (go_at_call 145;refine cR (rkids_t HKI.out _) ?_) | (go_at_call 92;refine cR (rbinder_t HBI.out _) ?_))
  refine (HZ.out _).mono ?_
  rintro e w' ⟨rfl,h2⟩
  go_wp2_with fail
  go_ret
  exact⟨by rw[HQ.out];rfl,((KW.trans kn)).trans h2⟩
theorem rnode_one {ok:Nat→Prop} {w:World} {nm:ByteArray} {N:Int} {ty:Ty} {a:Option Addr} {n c:Nat} {ma:Option Addr} {mn mc:Nat} (hk:TyL bz ok w ty.kids (.slice a n c)) (hs:SmTy big ty) (hsz:nm.size≤9223372036854775807) {op:Int} (n20:op≠20) (n19:op≠19) (n29:op≠29) (hbi:binderB op=false) (hki:kidsN op=(1,true)):Calls Tryz.prog 96 #[.agg #[.int .i64 op,.string nm,.int .i64 N,.int .i64 ty.kind,.string ty.name,.slice a n c,.slice ma mn mc]] w fun e w'=>e=.returned (.bool (formedB op nm N ty mn))∧Kept (fun _=>False) w w':=by
 have q20:(op==20)=false:=beq_false_of_ne n20
 have q19:(op==19)=false:=beq_false_of_ne n19
 have q29:(op==29)=false:=beq_false_of_ne n29
 have p19:(op != 19)=true:=by rw[bne,q19];rfl
 have HKN:=Ld hki
 have HKI:Hid (kidR op=1):=Ld (by unfold kidR;rw[hki];rfl)
 have HBI:=Ld hbi
 have KW:Kept (fun _=>False) w (w.alloc (.cells #[.int .i64 op,.string nm,.int .i64 N,.int .i64 ty.kind,.string ty.name,.slice a n c,.slice ma mn mc] 27)):=kR.alloc _
 have bW:Blk (w.alloc (.cells #[.int .i64 op,.string nm,.int .i64 N,.int .i64 ty.kind,.string ty.name,.slice a n c,.slice ma mn mc] 27)) w.heap.size 27 [.int .i64 op,.string nm,.int .i64 N,.int .i64 ty.kind,.string ty.name,.slice a n c,.slice ma mn mc]:=Blk.new w 27 _
 have HKW:=Ld (hk.frame (Same.alloc w (.cells #[.int .i64 op,.string nm,.int .i64 N,.int .i64 ty.kind,.string ty.name,.slice a n c,.slice ma mn mc] 27)))
 by_cases hl:(mn:Int)=1
 case neg=>
  have hl1:((mn:Int) != 1)=true:=by simp;omega
  have hl4:¬ mn=1:=by omega
  have HQ:Hid (formedB op nm N ty mn=false):=Ld (by unfold formedB kidOk nmOk nOk tyOk;rw[HKN.out];simp[*])
  go_enter Tryz.func96,Tryz.ntmps96
  go_wp2_with (first | (go_at_call 145;refine cR (rkids_t HKI.out _) ?_) | (go_at_call 92;refine cR (rbinder_t HBI.out _) ?_))
  go_ret
  exact⟨by rw[HQ.out];rfl,KW⟩
 have hl3:mn=1:=by omega
 subst hl3
 cases hnm:(nm.toList==[])
 case false=>
  have he2:nm.toList.isEmpty=false:=by cases h:nm.toList <;> simp_all
  have he3:(nm.toList != [])=true:=by rw[bne,hnm];rfl
  have HQ:Hid (formedB op nm N ty 1=false):=Ld (by unfold formedB kidOk nmOk nOk tyOk;rw[HKN.out];simp[*,big])
  go_enter Tryz.func96,Tryz.ntmps96
  go_wp2_with (first | (go_at_call 145;refine cR (rkids_t HKI.out _) ?_) | (go_at_call 92;refine cR (rbinder_t HBI.out _) ?_))
  go_ret
  exact⟨by rw[HQ.out];rfl,KW⟩
 have he2:nm.toList.isEmpty=true:=by cases h:nm.toList <;> simp_all
 have he3:(nm.toList != [])=false:=by rw[bne,hnm];rfl
 cases hN:(N==0)
 case false=>
  have hN3:(N != 0)=true:=by rw[bne,hN];rfl
  have HQ:Hid (formedB op nm N ty 1=false):=Ld (by unfold formedB kidOk nmOk nOk tyOk;rw[HKN.out];simp[*])
  go_enter Tryz.func96,Tryz.ntmps96
  go_wp2_with (first | (go_at_call 145;refine cR (rkids_t HKI.out _) ?_) | (go_at_call 92;refine cR (rbinder_t HBI.out _) ?_))
  go_ret
  exact⟨by rw[HQ.out];rfl,KW⟩
 have hN3:(N != 0)=false:=by rw[bne,hN];rfl
 cases hz:zeroTyB ty
 case false=>
  have HQ:Hid (formedB op nm N ty 1=false):=Ld (by unfold formedB kidOk nmOk nOk tyOk;rw[HKN.out];simp[*])
  have HZ:=Ld (fun W=>rzeroTy_t (w:=W) HKW.out hz)
  clear hz
  go_enter Tryz.func96,Tryz.ntmps96
  go_wp2_with (first | (go_at_call 145;refine cR (rkids_t HKI.out _) ?_) | (go_at_call 92;refine cR (rbinder_t HBI.out _) ?_))
  refine (HZ.out _).mono ?_
  rintro e w' ⟨rfl,h2⟩
  go_wp2_with fail
  go_ret
  exact⟨by rw[HQ.out];rfl,(KW).trans h2⟩
 case true=>
  have HQ:Hid (formedB op nm N ty 1=true):=Ld (by unfold formedB kidOk nmOk nOk tyOk;rw[HKN.out];simp[*])
  have HZ:=Ld (fun W=>rzeroTy_t (w:=W) HKW.out hz)
  clear hz
  go_enter Tryz.func96,Tryz.ntmps96
  go_wp2_with (first | (go_at_call 145;refine cR (rkids_t HKI.out _) ?_) | (go_at_call 92;refine cR (rbinder_t HBI.out _) ?_))
  refine (HZ.out _).mono ?_
  rintro e w' ⟨rfl,h2⟩
  go_wp2_with fail
  go_ret
  exact⟨by rw[HQ.out];rfl,(KW).trans h2⟩
theorem rnode_two {ok:Nat→Prop} {w:World} {nm:ByteArray} {N:Int} {ty:Ty} {a:Option Addr} {n c:Nat} {ma:Option Addr} {mn mc:Nat} (hk:TyL bz ok w ty.kids (.slice a n c)) (hs:SmTy big ty) (hsz:nm.size≤9223372036854775807) {op:Int} (n20:op≠20) (n19:op≠19) (n29:op≠29) (hbi:binderB op=false) (hki:kidsN op=(2,true)):Calls Tryz.prog 96 #[.agg #[.int .i64 op,.string nm,.int .i64 N,.int .i64 ty.kind,.string ty.name,.slice a n c,.slice ma mn mc]] w fun e w'=>e=.returned (.bool (formedB op nm N ty mn))∧Kept (fun _=>False) w w':=by
 have q20:(op==20)=false:=beq_false_of_ne n20
 have q19:(op==19)=false:=beq_false_of_ne n19
 have q29:(op==29)=false:=beq_false_of_ne n29
 have p19:(op != 19)=true:=by rw[bne,q19];rfl
 have HKN:=Ld hki
 have HKI:Hid (kidR op=2):=Ld (by unfold kidR;rw[hki];rfl)
 have HBI:=Ld hbi
 have KW:Kept (fun _=>False) w (w.alloc (.cells #[.int .i64 op,.string nm,.int .i64 N,.int .i64 ty.kind,.string ty.name,.slice a n c,.slice ma mn mc] 27)):=kR.alloc _
 have bW:Blk (w.alloc (.cells #[.int .i64 op,.string nm,.int .i64 N,.int .i64 ty.kind,.string ty.name,.slice a n c,.slice ma mn mc] 27)) w.heap.size 27 [.int .i64 op,.string nm,.int .i64 N,.int .i64 ty.kind,.string ty.name,.slice a n c,.slice ma mn mc]:=Blk.new w 27 _
 have HKW:=Ld (hk.frame (Same.alloc w (.cells #[.int .i64 op,.string nm,.int .i64 N,.int .i64 ty.kind,.string ty.name,.slice a n c,.slice ma mn mc] 27)))
 by_cases hl:(mn:Int)=2
 case neg=>
  have hl1:((mn:Int) != 2)=true:=by simp;omega
  have hl4:¬ mn=2:=by omega
  have HQ:Hid (formedB op nm N ty mn=false):=Ld (by unfold formedB kidOk nmOk nOk tyOk;rw[HKN.out];simp[*])
  go_enter Tryz.func96,Tryz.ntmps96
  go_wp2_with (first | (go_at_call 145;refine cR (rkids_t HKI.out _) ?_) | (go_at_call 92;refine cR (rbinder_t HBI.out _) ?_))
  go_ret
  exact⟨by rw[HQ.out];rfl,KW⟩
 have hl3:mn=2:=by omega
 subst hl3
 cases hnm:(nm.toList==[])
 case false=>
  have he2:nm.toList.isEmpty=false:=by cases h:nm.toList <;> simp_all
  have he3:(nm.toList != [])=true:=by rw[bne,hnm];rfl
  have HQ:Hid (formedB op nm N ty 2=false):=Ld (by unfold formedB kidOk nmOk nOk tyOk;rw[HKN.out];simp[*,big])
  go_enter Tryz.func96,Tryz.ntmps96
  go_wp2_with (first | (go_at_call 145;refine cR (rkids_t HKI.out _) ?_) | (go_at_call 92;refine cR (rbinder_t HBI.out _) ?_))
  go_ret
  exact⟨by rw[HQ.out];rfl,KW⟩
 have he2:nm.toList.isEmpty=true:=by cases h:nm.toList <;> simp_all
 have he3:(nm.toList != [])=false:=by rw[bne,hnm];rfl
 cases hN:(N==0)
 case false=>
  have hN3:(N != 0)=true:=by rw[bne,hN];rfl
  have HQ:Hid (formedB op nm N ty 2=false):=Ld (by unfold formedB kidOk nmOk nOk tyOk;rw[HKN.out];simp[*])
  go_enter Tryz.func96,Tryz.ntmps96
  go_wp2_with (first | (go_at_call 145;refine cR (rkids_t HKI.out _) ?_) | (go_at_call 92;refine cR (rbinder_t HBI.out _) ?_))
  go_ret
  exact⟨by rw[HQ.out];rfl,KW⟩
 have hN3:(N != 0)=false:=by rw[bne,hN];rfl
 cases hz:zeroTyB ty
 case false=>
  have HQ:Hid (formedB op nm N ty 2=false):=Ld (by unfold formedB kidOk nmOk nOk tyOk;rw[HKN.out];simp[*])
  have HZ:=Ld (fun W=>rzeroTy_t (w:=W) HKW.out hz)
  clear hz
  go_enter Tryz.func96,Tryz.ntmps96
  go_wp2_with (first | (go_at_call 145;refine cR (rkids_t HKI.out _) ?_) | (go_at_call 92;refine cR (rbinder_t HBI.out _) ?_))
  refine (HZ.out _).mono ?_
  rintro e w' ⟨rfl,h2⟩
  go_wp2_with fail
  go_ret
  exact⟨by rw[HQ.out];rfl,(KW).trans h2⟩
 case true=>
  have HQ:Hid (formedB op nm N ty 2=true):=Ld (by unfold formedB kidOk nmOk nOk tyOk;rw[HKN.out];simp[*])
  have HZ:=Ld (fun W=>rzeroTy_t (w:=W) HKW.out hz)
  clear hz
  go_enter Tryz.func96,Tryz.ntmps96
  go_wp2_with (first | (go_at_call 145;refine cR (rkids_t HKI.out _) ?_) | (go_at_call 92;refine cR (rbinder_t HBI.out _) ?_))
  refine (HZ.out _).mono ?_
  rintro e w' ⟨rfl,h2⟩
  go_wp2_with fail
  go_ret
  exact⟨by rw[HQ.out];rfl,(KW).trans h2⟩
theorem rnode_zero {ok:Nat→Prop} {w:World} {nm:ByteArray} {N:Int} {ty:Ty} {a:Option Addr} {n c:Nat} {ma:Option Addr} {mn mc:Nat} (hk:TyL bz ok w ty.kids (.slice a n c)) (hs:SmTy big ty) (hsz:nm.size≤9223372036854775807) {op:Int} (n20:op≠20) (n19:op≠19) (n29:op≠29) (hbi:binderB op=false) (hki:kidsN op=(0,true)):Calls Tryz.prog 96 #[.agg #[.int .i64 op,.string nm,.int .i64 N,.int .i64 ty.kind,.string ty.name,.slice a n c,.slice ma mn mc]] w fun e w'=>e=.returned (.bool (formedB op nm N ty mn))∧Kept (fun _=>False) w w':=by
 have q20:(op==20)=false:=beq_false_of_ne n20
 have q19:(op==19)=false:=beq_false_of_ne n19
 have q29:(op==29)=false:=beq_false_of_ne n29
 have p19:(op != 19)=true:=by rw[bne,q19];rfl
 have HKN:=Ld hki
 have HKI:Hid (kidR op=0):=Ld (by unfold kidR;rw[hki];rfl)
 have HBI:=Ld hbi
 have KW:Kept (fun _=>False) w (w.alloc (.cells #[.int .i64 op,.string nm,.int .i64 N,.int .i64 ty.kind,.string ty.name,.slice a n c,.slice ma mn mc] 27)):=kR.alloc _
 have bW:Blk (w.alloc (.cells #[.int .i64 op,.string nm,.int .i64 N,.int .i64 ty.kind,.string ty.name,.slice a n c,.slice ma mn mc] 27)) w.heap.size 27 [.int .i64 op,.string nm,.int .i64 N,.int .i64 ty.kind,.string ty.name,.slice a n c,.slice ma mn mc]:=Blk.new w 27 _
 have HKW:=Ld (hk.frame (Same.alloc w (.cells #[.int .i64 op,.string nm,.int .i64 N,.int .i64 ty.kind,.string ty.name,.slice a n c,.slice ma mn mc] 27)))
 by_cases hl:(mn:Int)=0
 case neg=>
  have hl1:((mn:Int) != 0)=true:=by simp;omega
  have hl4:¬ mn=0:=by omega
  have HQ:Hid (formedB op nm N ty mn=false):=Ld (by unfold formedB kidOk nmOk nOk tyOk;rw[HKN.out];simp[*])
  go_enter Tryz.func96,Tryz.ntmps96
  go_wp2_with (first | (go_at_call 145;refine cR (rkids_t HKI.out _) ?_) | (go_at_call 92;refine cR (rbinder_t HBI.out _) ?_))
  go_ret
  exact⟨by rw[HQ.out];rfl,KW⟩
 have hl3:mn=0:=by omega
 subst hl3
 cases hnm:(nm.toList==[])
 case false=>
  have he2:nm.toList.isEmpty=false:=by cases h:nm.toList <;> simp_all
  have he3:(nm.toList != [])=true:=by rw[bne,hnm];rfl
  have HQ:Hid (formedB op nm N ty 0=false):=Ld (by unfold formedB kidOk nmOk nOk tyOk;rw[HKN.out];simp[*,big])
  go_enter Tryz.func96,Tryz.ntmps96
  go_wp2_with (first | (go_at_call 145;refine cR (rkids_t HKI.out _) ?_) | (go_at_call 92;refine cR (rbinder_t HBI.out _) ?_))
  go_ret
  exact⟨by rw[HQ.out];rfl,KW⟩
 have he2:nm.toList.isEmpty=true:=by cases h:nm.toList <;> simp_all
 have he3:(nm.toList != [])=false:=by rw[bne,hnm];rfl
 cases hN:(N==0)
 case false=>
  have hN3:(N != 0)=true:=by rw[bne,hN];rfl
  have HQ:Hid (formedB op nm N ty 0=false):=Ld (by unfold formedB kidOk nmOk nOk tyOk;rw[HKN.out];simp[*])
  go_enter Tryz.func96,Tryz.ntmps96
  go_wp2_with (first | (go_at_call 145;refine cR (rkids_t HKI.out _) ?_) | (go_at_call 92;refine cR (rbinder_t HBI.out _) ?_))
  go_ret
  exact⟨by rw[HQ.out];rfl,KW⟩
 have hN3:(N != 0)=false:=by rw[bne,hN];rfl
 cases hz:zeroTyB ty
 case false=>
  have HQ:Hid (formedB op nm N ty 0=false):=Ld (by unfold formedB kidOk nmOk nOk tyOk;rw[HKN.out];simp[*])
  have HZ:=Ld (fun W=>rzeroTy_t (w:=W) HKW.out hz)
  clear hz
  go_enter Tryz.func96,Tryz.ntmps96
  go_wp2_with (first | (go_at_call 145;refine cR (rkids_t HKI.out _) ?_) | (go_at_call 92;refine cR (rbinder_t HBI.out _) ?_))
  refine (HZ.out _).mono ?_
  rintro e w' ⟨rfl,h2⟩
  go_wp2_with fail
  go_ret
  exact⟨by rw[HQ.out];rfl,(KW).trans h2⟩
 case true=>
  have HQ:Hid (formedB op nm N ty 0=true):=Ld (by unfold formedB kidOk nmOk nOk tyOk;rw[HKN.out];simp[*])
  have HZ:=Ld (fun W=>rzeroTy_t (w:=W) HKW.out hz)
  clear hz
  go_enter Tryz.func96,Tryz.ntmps96
  go_wp2_with (first | (go_at_call 145;refine cR (rkids_t HKI.out _) ?_) | (go_at_call 92;refine cR (rbinder_t HBI.out _) ?_))
  refine (HZ.out _).mono ?_
  rintro e w' ⟨rfl,h2⟩
  go_wp2_with fail
  go_ret
  exact⟨by rw[HQ.out];rfl,(KW).trans h2⟩
theorem rnode_set {ok:Nat→Prop} {w:World} {nm:ByteArray} {N:Int} {ty:Ty} {a:Option Addr} {n c:Nat} {ma:Option Addr} {mn mc:Nat} (hk:TyL bz ok w ty.kids (.slice a n c)) (hs:SmTy big ty) (hsz:nm.size≤9223372036854775807) {op:Int} (n20:op≠20) (n19:op≠19) (n29:op≠29) (hbi:binderB op=false) (hki:kidsN op=(-1,true)):Calls Tryz.prog 96 #[.agg #[.int .i64 op,.string nm,.int .i64 N,.int .i64 ty.kind,.string ty.name,.slice a n c,.slice ma mn mc]] w fun e w'=>e=.returned (.bool (formedB op nm N ty mn))∧Kept (fun _=>False) w w':=by
 have q20:(op==20)=false:=beq_false_of_ne n20
 have q19:(op==19)=false:=beq_false_of_ne n19
 have q29:(op==29)=false:=beq_false_of_ne n29
 have p19:(op != 19)=true:=by rw[bne,q19];rfl
 have HKN:=Ld hki
 have HKI:Hid (kidR op=-1):=Ld (by unfold kidR;rw[hki];rfl)
 have HBI:=Ld hbi
 have KW:Kept (fun _=>False) w (w.alloc (.cells #[.int .i64 op,.string nm,.int .i64 N,.int .i64 ty.kind,.string ty.name,.slice a n c,.slice ma mn mc] 27)):=kR.alloc _
 have bW:Blk (w.alloc (.cells #[.int .i64 op,.string nm,.int .i64 N,.int .i64 ty.kind,.string ty.name,.slice a n c,.slice ma mn mc] 27)) w.heap.size 27 [.int .i64 op,.string nm,.int .i64 N,.int .i64 ty.kind,.string ty.name,.slice a n c,.slice ma mn mc]:=Blk.new w 27 _
 have HKW:=Ld (hk.frame (Same.alloc w (.cells #[.int .i64 op,.string nm,.int .i64 N,.int .i64 ty.kind,.string ty.name,.slice a n c,.slice ma mn mc] 27)))
 by_cases hl:mn=0
 ·subst hl
  have HQ:Hid (formedB op nm N ty 0=false):=Ld (by unfold formedB kidOk nmOk nOk tyOk;rw[HKN.out];simp[*])
  go_enter Tryz.func96,Tryz.ntmps96
  go_wp2_with (first | (go_at_call 145;refine cR (rkids_t HKI.out _) ?_) | (go_at_call 92;refine cR (rbinder_t HBI.out _) ?_))
  go_ret
  exact⟨by rw[HQ.out];rfl,KW⟩
 have hl1:decide ((mn:Int)=0)=false:=by simp;omega
 have hl2:((mn:Int)==0)=false:=by simp;omega
 cases hnm:(nm.toList==[])
 case false=>
  have he2:nm.toList.isEmpty=false:=by cases h:nm.toList <;> simp_all
  have he3:(nm.toList != [])=true:=by rw[bne,hnm];rfl
  have HQ:Hid (formedB op nm N ty mn=false):=Ld (by unfold formedB kidOk nmOk nOk tyOk;rw[HKN.out];simp[*,big])
  go_enter Tryz.func96,Tryz.ntmps96
  go_wp2_with (first | (go_at_call 145;refine cR (rkids_t HKI.out _) ?_) | (go_at_call 92;refine cR (rbinder_t HBI.out _) ?_))
  go_ret
  exact⟨by rw[HQ.out];rfl,KW⟩
 have he2:nm.toList.isEmpty=true:=by cases h:nm.toList <;> simp_all
 have he3:(nm.toList != [])=false:=by rw[bne,hnm];rfl
 cases hN:(N==0)
 case false=>
  have hN3:(N != 0)=true:=by rw[bne,hN];rfl
  have HQ:Hid (formedB op nm N ty mn=false):=Ld (by unfold formedB kidOk nmOk nOk tyOk;rw[HKN.out];simp[*])
  go_enter Tryz.func96,Tryz.ntmps96
  go_wp2_with (first | (go_at_call 145;refine cR (rkids_t HKI.out _) ?_) | (go_at_call 92;refine cR (rbinder_t HBI.out _) ?_))
  go_ret
  exact⟨by rw[HQ.out];rfl,KW⟩
 have hN3:(N != 0)=false:=by rw[bne,hN];rfl
 cases hz:zeroTyB ty
 case false=>
  have HQ:Hid (formedB op nm N ty mn=false):=Ld (by unfold formedB kidOk nmOk nOk tyOk;rw[HKN.out];simp[*])
  have HZ:=Ld (fun W=>rzeroTy_t (w:=W) HKW.out hz)
  clear hz
  go_enter Tryz.func96,Tryz.ntmps96
  go_wp2_with (first | (go_at_call 145;refine cR (rkids_t HKI.out _) ?_) | (go_at_call 92;refine cR (rbinder_t HBI.out _) ?_))
  refine (HZ.out _).mono ?_
  rintro e w' ⟨rfl,h2⟩
  go_wp2_with fail
  go_ret
  exact⟨by rw[HQ.out];rfl,(KW).trans h2⟩
 case true=>
  have HQ:Hid (formedB op nm N ty mn=true):=Ld (by unfold formedB kidOk nmOk nOk tyOk;rw[HKN.out];simp[*])
  have HZ:=Ld (fun W=>rzeroTy_t (w:=W) HKW.out hz)
  clear hz
  go_enter Tryz.func96,Tryz.ntmps96
  go_wp2_with (first | (go_at_call 145;refine cR (rkids_t HKI.out _) ?_) | (go_at_call 92;refine cR (rbinder_t HBI.out _) ?_))
  refine (HZ.out _).mono ?_
  rintro e w' ⟨rfl,h2⟩
  go_wp2_with fail
  go_ret
  exact⟨by rw[HQ.out];rfl,(KW).trans h2⟩
theorem rnode_not {ok:Nat→Prop} {w:World} {nm:ByteArray} {N:Int} {ty:Ty} {a:Option Addr} {n c:Nat} {ma:Option Addr} {mn mc:Nat} (hk:TyL bz ok w ty.kids (.slice a n c)) (hs:SmTy big ty) (hsz:nm.size≤9223372036854775807) {op a0:Int} (hki:kidsN op=(a0,false)):Calls Tryz.prog 96 #[.agg #[.int .i64 op,.string nm,.int .i64 N,.int .i64 ty.kind,.string ty.name,.slice a n c,.slice ma mn mc]] w fun e w'=>e=.returned (.bool (formedB op nm N ty mn))∧Kept (fun _=>False) w w':=by
 have HKI:Hid (kidR op=-2):=Ld (by unfold kidR;rw[hki];rfl)
 have KW:Kept (fun _=>False) w (w.alloc (.cells #[.int .i64 op,.string nm,.int .i64 N,.int .i64 ty.kind,.string ty.name,.slice a n c,.slice ma mn mc] 27)):=kR.alloc _
 have HQ:Hid (formedB op nm N ty mn=false):=Ld (by unfold formedB kidOk;rw[hki];rfl)
 clear hki
 go_enter Tryz.func96,Tryz.ntmps96
 go_wp2_with (go_at_call 145;refine cR (rkids_t HKI.out _) ?_)
 go_ret
 exact⟨by rw[HQ.out];rfl,KW⟩
theorem rnode_any {ok:Nat→Prop} {w:World} {nm:ByteArray} {N:Int} {ty:Ty} {a:Option Addr} {n c:Nat} {ma:Option Addr} {mn mc:Nat} (hk:TyL bz ok w ty.kids (.slice a n c)) (hs:SmTy big ty) (hsz:nm.size≤9223372036854775807) (op:Int):Calls Tryz.prog 96 #[.agg #[.int .i64 op,.string nm,.int .i64 N,.int .i64 ty.kind,.string ty.name,.slice a n c,.slice ma mn mc]] w fun e w'=>e=.returned (.bool (formedB op nm N ty mn))∧Kept (fun _=>False) w w':=by
 by_cases n20:op=20
 ·subst n20;exact rnode_name hk hs hsz
 by_cases n19:op=19
 ·subst n19;exact rnode_int hk hs hsz
 by_cases n29:op=29
 ·subst n29;exact rnode_empty hk hs hsz
 cases hbi:binderB op
 case true=>exact rnode_bind hk hs hsz n20 n19 n29 hbi (bind_kids op hbi)
 rcases kids_cases op with ⟨a,h⟩ | h | h | h | h
 ·exact rnode_not hk hs hsz h
 ·exact rnode_zero hk hs hsz n20 n19 n29 hbi h
 ·exact rnode_one hk hs hsz n20 n19 n29 hbi h
 ·exact rnode_two hk hs hsz n20 n19 n29 hbi h
 ·exact rnode_set hk hs hsz n20 n19 n29 hbi h
end Go.Proofs.YtdmebjbkccjhbaaGreatDoor
