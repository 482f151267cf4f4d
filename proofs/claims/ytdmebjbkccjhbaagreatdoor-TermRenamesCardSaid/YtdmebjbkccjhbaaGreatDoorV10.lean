/- A part. -/
import Derived.Test.YtdmebjbkccjhbaaGreatDoorV9
import Derived.Deep.RegionHeld
set_option linter.unusedVariables false
set_option linter.unusedSimpArgs false
set_option maxRecDepth 100000
set_option maxHeartbeats 32000000
namespace Go.Proofs.YtdmebjbkccjhbaaGreatDoor
open Go.RowKit
variable {bz:Nat}
def tdR (r:Bool×Nat):Int:=if r.1=true then (r.2:Int) else -1
def RdC (bz:Nat) (t:Ty):Prop:=∀ (w:World) (ok:Nat→Prop) (c d:Nat) (tk:Value),c≤16→1≤d→d≤7→TyL bz ok w t.kids tk →
 Calls Tryz.prog 194 #[tyVal t tk,.int .i64 d,.int .i64 c] w fun e w'=>e=.returned (.int .i64 (tdR (tfS 16 6 t d (decide (1<d)) c)))∧Kept (fun _=>False) w w'
theorem rident_t {s:ByteArray} {v:Bool} (h:identB s=v) (hs:s.size≤9223372036854775807) (w:World):
  Calls Tryz.prog 49 #[.string s] w fun e w'=>e=.returned (.bool v)∧Kept (fun _=>False) w w':=by rw[← h];exact rident_any s w hs
theorem td_no {k:Int} {nm:ByteArray} {l:List Ty} {d c:Nat} (h:((decide (c+1≤16)&&decide (d≤6))&&tyHead k nm l.length (decide (1<d)))=false):tdR (tfS 16 6 (.mk k nm l) d (decide (1<d)) c)=-1:=by
 rw[tf_eq,h];rfl
theorem td_yes {k:Int} {nm:ByteArray} {l:List Ty} {d c:Nat} (hc:c+1≤16) (hd:d≤6) (h:tyHead k nm l.length (decide (1<d))=true):tfS 16 6 (.mk k nm l) d (decide (1<d)) c=tfsS 16 6 l (d+1) (c+1):=by
 rw[tf_eq,decide_eq_true hc,decide_eq_true hd,h];rfl
theorem head_ways (k:Int) (nm:ByteArray) (n:Nat) (wi:Bool) (h:tyHead k nm n wi=false):
  (k=2∧wi=true)∨(¬ (k=2∧wi=true)∧(((k=1∨k=2∨k=3)∧n≠0)∨(k=5∧n≠1)∨(k=4∧n≠2)∨(k≠1∧k≠2∧k≠3∧k≠4∧k≠5)∨(k=3∧n=0∧identB nm=false)
   ∨ (((k=1∧n=0)∨(k=2∧n=0)∨(k=5∧n=1)∨(k=4∧n=2))∧(nm.toList==[])=false))):=by
 unfold tyHead at h
 by_cases k1:k=1
 ·subst k1;simp at h;by_cases hn:n=0 <;> simp_all
 by_cases k2:k=2
 ·subst k2;simp at h;cases wi <;> by_cases hn:n=0 <;> simp_all
 by_cases k3:k=3
 ·subst k3;simp at h;by_cases hn:n=0 <;> simp_all
 by_cases k4:k=4
 ·subst k4;simp at h;by_cases hn:n=2 <;> simp_all
 by_cases k5:k=5
 ·subst k5;simp at h;by_cases hn:n=1 <;> simp_all
 ·exact Or.inr ⟨fun e=>k2 e.1,Or.inr (Or.inr (Or.inr (Or.inl ⟨k1,k2,k3,k4,k5⟩)))⟩
theorem rtyped_bad {k:Int} {nm:ByteArray} {a:Option Addr} {n cp c d:Nat} {w:World} (hsz:nm.size≤9223372036854775807) (hc:c≤16) (h1:1≤d) (hd:d≤7)
  (h:((decide (c+1≤16)&&decide (d≤6))&&tyHead k nm n (decide (1<d)))=false):
  Calls Tryz.prog 194 #[.agg #[.int .i64 k,.string nm,.slice a n cp],.int .i64 d,.int .i64 c] w fun e w'=>e=.returned (.int .i64 (-1))∧Kept (fun _=>False) w w':=by
 by_cases d6:d≤6
 case neg=>
  have i1:decide ((6:Int)<(d:Int))=true:=decide_eq_true (by omega)
  clear h
  go_enter Tryz.func194,Tryz.ntmps194
  go_wp2_with fail
  go_ret
  exact⟨rfl,kR.alloc _⟩
 have i1:decide ((6:Int)<(d:Int))=false:=decide_eq_false (by omega)
 by_cases c6:c+1≤16
 case neg=>
  have i2:decide ((16:Int)<(c:Int)+1)=true:=decide_eq_true (by omega)
  clear h
  go_enter Tryz.func194,Tryz.ntmps194
  go_wp2_with fail
  go_ret
  exact⟨rfl,kR.alloc _⟩
 have i2:decide ((16:Int)<(c:Int)+1)=false:=decide_eq_false (by omega)
 rw[decide_eq_true d6,decide_eq_true c6] at h
 have h':tyHead k nm n (decide (1<d))=false:=h
 clear h
 rcases head_ways k nm n _ h' with ⟨rfl,hw⟩ | ⟨hn2,hw⟩
 ·have i3:decide ((1:Int)<(d:Int))=true:=by rw[← hw];exact decide_eq_decide.2 (by omega)
  clear hw h'
  go_enter Tryz.func194,Tryz.ntmps194
  go_wp2_with fail
  go_ret
  exact⟨rfl,kR.alloc _⟩
 clear h'
 rcases hw with ⟨hk,h0⟩ | ⟨rfl,h0⟩ | ⟨rfl,h0⟩ | ⟨k1,k2,k3,k4,k5⟩ | ⟨rfl,rfl,hI⟩ | ⟨hk,he⟩
 ·have i4:((n:Int) != 0)=true:=by rw[bne_iff_ne];omega
  rcases hk with rfl | rfl | rfl
  ·clear hn2
   go_enter Tryz.func194,Tryz.ntmps194
   go_wp2_with fail
   go_ret
   exact⟨rfl,kR.alloc _⟩
  ·have i3:decide ((1:Int)<(d:Int))=false:=decide_eq_false (fun h=>hn2 (by simp;omega))
   clear hn2
   go_enter Tryz.func194,Tryz.ntmps194
   go_wp2_with fail
   go_ret
   exact⟨rfl,kR.alloc _⟩
  ·clear hn2
   go_enter Tryz.func194,Tryz.ntmps194
   go_wp2_with fail
   go_ret
   exact⟨rfl,kR.alloc _⟩
 ·have i4:((n:Int) != 1)=true:=by rw[bne_iff_ne];omega
  clear hn2
  go_enter Tryz.func194,Tryz.ntmps194
  go_wp2_with fail
  go_ret
  exact⟨rfl,kR.alloc _⟩
 ·have i4:((n:Int) != 2)=true:=by rw[bne_iff_ne];omega
  clear hn2
  go_enter Tryz.func194,Tryz.ntmps194
  go_wp2_with fail
  go_ret
  exact⟨rfl,kR.alloc _⟩
 ·have e1:(k==1)=false:=beq_eq_false_iff_ne.2 k1
  have e2:(k==2)=false:=beq_eq_false_iff_ne.2 k2
  have e3:(k==3)=false:=beq_eq_false_iff_ne.2 k3
  have e4:(k==4)=false:=beq_eq_false_iff_ne.2 k4
  have e5:(k==5)=false:=beq_eq_false_iff_ne.2 k5
  clear hn2 k1 k2 k3 k4 k5
  go_enter Tryz.func194,Tryz.ntmps194
  go_wp2_with fail
  go_ret
  exact⟨rfl,kR.alloc _⟩
 ·clear hn2
  have HI:=Ld hI
  clear hI
  go_enter Tryz.func194,Tryz.ntmps194
  go_wp2_with (go_at_call 49;refine (rident_t HI.out hsz _).mono ?_;rintro e w1 ⟨rfl,k1⟩)
  go_ret
  exact⟨rfl,(kR.alloc _).trans k1⟩
 ·have he':(nm.toList != [])=true:=by rw[bne,he];rfl
  have he2:nm.toList.isEmpty=false:=by cases h:nm.toList <;> simp_all
  rcases hk with ⟨rfl,rfl⟩ | ⟨rfl,rfl⟩ | ⟨rfl,rfl⟩ | ⟨rfl,rfl⟩
  ·clear hn2 he
   go_enter Tryz.func194,Tryz.ntmps194
   go_wp2_with fail
   go_ret
   exact⟨rfl,kR.alloc _⟩
  ·have i3:decide ((1:Int)<(d:Int))=false:=decide_eq_false (fun h=>hn2 (by simp;omega))
   clear hn2 he
   go_enter Tryz.func194,Tryz.ntmps194
   go_wp2_with fail
   go_ret
   exact⟨rfl,kR.alloc _⟩
  ·clear hn2 he
   go_enter Tryz.func194,Tryz.ntmps194
   go_wp2_with fail
   go_ret
   exact⟨rfl,kR.alloc _⟩
  ·clear hn2 he
   go_enter Tryz.func194,Tryz.ntmps194
   go_wp2_with fail
   go_ret
   exact⟨rfl,kR.alloc _⟩
theorem head_yes {k:Int} {nm:ByteArray} {n:Nat} {wi:Bool} (h:tyHead k nm n wi=true):
  ((k=1∧n=0∧(nm.toList==[])=true)∨(k=2∧wi=false∧n=0∧(nm.toList==[])=true)∨(k=3∧n=0∧identB nm=true))∨((k=5∧n=1)∨(k=4∧n=2))∧(nm.toList==[])=true:=by
 unfold tyHead at h
 by_cases k1:k=1
 ·subst k1;simp at h;simp_all
 by_cases k2:k=2
 ·subst k2;simp at h;cases wi <;> simp_all
 by_cases k3:k=3
 ·subst k3;simp at h;simp_all
 by_cases k4:k=4
 ·subst k4;simp at h;simp_all
 by_cases k5:k=5
 ·subst k5;simp at h;simp_all
 ·simp[k1,k2,k3,k4,k5] at h
theorem rtyped_leaf {k:Int} {nm:ByteArray} {a:Option Addr} {cp c d:Nat} {w:World} (hsz:nm.size≤9223372036854775807) (hc:c+1≤16) (h1:1≤d) (hd:d≤6)
  (h:(k=1∧(nm.toList==[])=true)∨(k=2∧decide (1<d)=false∧(nm.toList==[])=true)∨(k=3∧identB nm=true)):
  Calls Tryz.prog 194 #[.agg #[.int .i64 k,.string nm,.slice a 0 cp],.int .i64 d,.int .i64 c] w fun e w'=>e=.returned (.int .i64 ((c+1:Nat):Int))∧Kept (fun _=>False) w w':=by
 have i1:decide ((6:Int)<(d:Int))=false:=decide_eq_false (by omega)
 have i2:decide ((16:Int)<(c:Int)+1)=false:=decide_eq_false (by omega)
 rcases h with ⟨rfl,he⟩ | ⟨rfl,hw,he⟩ | ⟨rfl,hI⟩
 ·have he2:nm.toList.isEmpty=true:=by cases h:nm.toList <;> simp_all
  have bA:Blk (w.alloc (.cells #[.int .i64 1,.string nm,.slice a 0 cp] 24)) w.heap.size 24 [.int .i64 1,.string nm,.slice a 0 cp]:=Blk.new w 24 _
  go_enter Tryz.func194,Tryz.ntmps194
  go_wp2_with fail
  have K1:Kept (fun _=>False) w (w.alloc (.cells #[.int .i64 1,.string nm,.slice a 0 cp] 24)):=kR.alloc _
  generalize w.alloc (.cells #[.int .i64 1,.string nm,.slice a 0 cp] 24)=w1 at *
  have g2:w1.cell? ⟨w.heap.size,2,none⟩=some (.slice a 0 cp):=bA.cell 2
  go_loop [8,2] (fun i m=>i=.int .i64 0∧m=.int .i64 ((c:Int)+1)) (fun i _=>0)
  case atStart=>exact⟨rfl,rfl⟩
  case round=>
   obtain⟨rfl,rfl⟩:=hrel
   go_wp2_with fail
   go_ret
   exact⟨rfl,K1⟩
 ·have i3:decide ((1:Int)<(d:Int))=false:=decide_eq_false (fun h=>by have:=of_decide_eq_false hw;omega)
  have he2:nm.toList.isEmpty=true:=by cases h:nm.toList <;> simp_all
  have bA:Blk (w.alloc (.cells #[.int .i64 2,.string nm,.slice a 0 cp] 24)) w.heap.size 24 [.int .i64 2,.string nm,.slice a 0 cp]:=Blk.new w 24 _
  clear hw
  go_enter Tryz.func194,Tryz.ntmps194
  go_wp2_with fail
  have K1:Kept (fun _=>False) w (w.alloc (.cells #[.int .i64 2,.string nm,.slice a 0 cp] 24)):=kR.alloc _
  generalize w.alloc (.cells #[.int .i64 2,.string nm,.slice a 0 cp] 24)=w1 at *
  have g2:w1.cell? ⟨w.heap.size,2,none⟩=some (.slice a 0 cp):=bA.cell 2
  go_loop [8,2] (fun i m=>i=.int .i64 0∧m=.int .i64 ((c:Int)+1)) (fun i _=>0)
  case atStart=>exact⟨rfl,rfl⟩
  case round=>
   obtain⟨rfl,rfl⟩:=hrel
   go_wp2_with fail
   go_ret
   exact⟨rfl,K1⟩
 ·have HI:=Ld hI
  clear hI
  have bA:Blk (w.alloc (.cells #[.int .i64 3,.string nm,.slice a 0 cp] 24)) w.heap.size 24 [.int .i64 3,.string nm,.slice a 0 cp]:=Blk.new w 24 _
  have K0:Kept (fun _=>False) w (w.alloc (.cells #[.int .i64 3,.string nm,.slice a 0 cp] 24)):=kR.alloc _
  go_enter Tryz.func194,Tryz.ntmps194
  go_wp2_with fail
  refine (rident_t HI.out hsz _).mono ?_
  rintro e w1 ⟨rfl,k1⟩
  have bA1:=bA.kept k1 (fun h=>h)
  have K1:=K0.trans k1
  have g0:w1.cell? ⟨w.heap.size,0,none⟩=some (.int .i64 3):=bA1.cell 0
  have g2:w1.cell? ⟨w.heap.size,2,none⟩=some (.slice a 0 cp):=bA1.cell 2
  go_wp2_with fail
  go_loop [8,2] (fun i m=>i=.int .i64 0∧m=.int .i64 ((c:Int)+1)) (fun i _=>0)
  case atStart=>exact⟨rfl,rfl⟩
  case round=>
   obtain⟨rfl,rfl⟩:=hrel
   go_wp2_with fail
   go_ret
   exact⟨rfl,K1⟩
theorem td_drop {l:List Ty} {d c k:Nat} (h:k<l.length):tdR (tfsS 16 6 (l.drop k) d c)=if (tfS 16 6 l[k] d true c).1=true then tdR (tfsS 16 6 (l.drop (k+1)) d (tfS 16 6 l[k] d true c).2) else -1:=by
 rw[tfs_step h];split <;> rfl
theorem rtyped_node {k:Int} {nm:ByteArray} {l:List Ty} {n cp c d b off:Nat} {w:World} {ok:Nat→Prop} (IH:∀ t,t∈l→RdC bz t) (hc:c+1≤16) (h1:1≤d) (hd:d≤6)
  (hkn:(k=5∧n=1)∨(k=4∧n=2)) (he:(nm.toList==[])=true) (hln:l.length=n) (K:Nat→Value) (hb:ok b)
  (hcell:∀ i (h:i<l.length),w.cell? ⟨b,off+i*3,none⟩=some (.int .i64 l[i].kind)∧w.cell? ⟨b,off+i*3+1,none⟩=some (.string l[i].name)∧w.cell? ⟨b,off+i*3+2,none⟩=some (K i))
  (hk:∀ i (h:i<l.length),TyL bz ok w l[i].kids (K i)):
  Calls Tryz.prog 194 #[.agg #[.int .i64 k,.string nm,.slice (some ⟨b,off,none⟩) n cp],.int .i64 d,.int .i64 c] w fun e w'=>e=.returned (.int .i64 (tdR (tfsS 16 6 l (d+1) (c+1))))∧Kept (fun _=>False) w w':=by
 have i1:decide ((6:Int)<(d:Int))=false:=decide_eq_false (by omega)
 have i2:decide ((16:Int)<(c:Int)+1)=false:=decide_eq_false (by omega)
 have he2:nm.toList.isEmpty=true:=by cases h:nm.toList <;> simp_all
 have HIH:=Ld IH
 have HC:=Ld hcell
 have HK:=Ld hk
 have HL:=Ld hln
 clear IH hcell hk hln
 have bA:Blk (w.alloc (.cells #[.int .i64 k,.string nm,.slice (some ⟨b,off,none⟩) n cp] 24)) w.heap.size 24 [.int .i64 k,.string nm,.slice (some ⟨b,off,none⟩) n cp]:=Blk.new w 24 _
 have K1:Kept (fun _=>False) w (w.alloc (.cells #[.int .i64 k,.string nm,.slice (some ⟨b,off,none⟩) n cp] 24)):=kR.alloc _
 rcases hkn with ⟨rfl,rfl⟩ | ⟨rfl,rfl⟩
 all_goals
  go_enter Tryz.func194,Tryz.ntmps194
  go_wp2_with fail
  generalize w.alloc _=w1 at *
  go_loopw [8,2] (fun i m wr=>∃ j cj:Nat,j≤l.length∧i=.int .i64 j∧m=.int .i64 cj∧cj≤16∧Kept (fun _=>False) w1 wr∧Hid (tdR (tfsS 16 6 l (d+1) (c+1))=tdR (tfsS 16 6 (l.drop j) (d+1) cj))) (fun i _ _=>l.length-(intOf i).toNat)
  case atStart=>exact⟨0,c+1,Nat.zero_le _,rfl,by go_num,hc,Kept.refl _ _,Ld rfl⟩
  case round=>
   obtain⟨j,cj,hj,rfl,rfl,hcj,kr,hq⟩:=hrel
   have bR:=bA.kept kr (fun h=>h)
   have g2:wr.cell? ⟨w.heap.size,2,none⟩=some (.slice (some ⟨b,off,none⟩) _ cp):=bR.cell 2
   have hll:=HL.out
   by_cases hlt:j<l.length
   ·have KR:=K1.trans kr
    have c0:=(Same.of_kept (ok:=ok) KR (fun k h e=>e)).cell hb (HC.out j hlt).1
    have c1:=(Same.of_kept (ok:=ok) KR (fun k h e=>e)).cell hb (HC.out j hlt).2.1
    have c2:=(Same.of_kept (ok:=ok) KR (fun k h e=>e)).cell hb (HC.out j hlt).2.2
    obtain⟨ta,tn,tc,hKj⟩:=(HK.out j hlt).slice
    have hkk:=(HK.out j hlt).frame (Same.of_kept (ok:=ok) KR (fun k h e=>e))
    rw[hKj] at c2 hkk
    have hcon:=Ld (HIH.out _ (List.getElem_mem hlt) wr ok cj (d+1) _ hcj (by omega) (by omega) hkk)
    have hst:=Ld (td_drop (d:=d+1) (c:=cj) hlt)
    have hle:=Ld (tf_le 16 6 l[j] (d+1) true cj hcj)
    have hw:decide (1<d+1)=true:=decide_eq_true (by omega)
    rw[hw] at hcon
    clear hkk hw
    have hj2:(j:Int)<1000:=by omega
    cases hr:(tfS 16 6 l[j] (d+1) true cj).1
    ·have e1:tdR (tfS 16 6 l[j] (d+1) true cj)=-1:=by unfold tdR;rw[hr];rfl
     rw[e1] at hcon
     have HR:=Ld hr
     clear hr e1
     unfold tyVal at hcon
     go_wp2_with (go_at_call 194;refine hcon.out.mono ?_;rintro e w' ⟨rfl,k2⟩)
     go_ret
     refine⟨?_,KR.trans k2⟩
     rw[hq.out,hst.out,HR.out];rfl
    ·have e1:tdR (tfS 16 6 l[j] (d+1) true cj)=((tfS 16 6 l[j] (d+1) true cj).2:Int):=by unfold tdR;rw[hr];rfl
     rw[e1] at hcon
     have hle2:=hle.out hr
     have HR:=Ld hr
     clear hr e1
     generalize hcc:(tfS 16 6 l[j] (d+1) true cj).2=cc at *
     have HCC:=Ld hcc
     clear hcc
     unfold tyVal at hcon
     go_wp2_with (go_at_call 194;refine hcon.out.mono ?_;rintro e w' ⟨rfl,k2⟩)
     go_roundw
     case rel=>
      refine⟨j+1,cc,by omega,by go_num,rfl,hle2.2,kr.trans k2,Ld ?_⟩
      rw[hq.out,hst.out,HR.out,if_pos rfl]
     case measure=>simp[intOf];omega
   ·have hq2:Hid (tdR (tfsS 16 6 l (d+1) (c+1))=(cj:Int)):=Ld (by rw[hq.out,List.drop_eq_nil_of_le (by omega),tfsS];rfl)
    go_wp2_with fail
    go_ret
    exact⟨by rw[hq2.out];rfl,K1.trans kr⟩
theorem rtyped_one {k:Int} {nm:ByteArray} {l:List Ty} (hsz:nm.size≤9223372036854775807) (IH:∀ t,t∈l→RdC bz t):RdC bz (.mk k nm l):=by
 intro w ok c d tk hc h1 hd hk
 obtain⟨a,n,cp,rfl⟩:=hk.slice
 have hn:n=l.length:=hk.len
 cases hh:((decide (c+1≤16)&&decide (d≤6))&&tyHead k nm l.length (decide (1<d)))
 ·rw[td_no hh]
  exact rtyped_bad hsz hc h1 hd (by rw[hn];exact hh)
 ·rw[Bool.and_eq_true,Bool.and_eq_true] at hh
  obtain⟨⟨hc1,hd1⟩,hh⟩:=hh
  have hc1:=of_decide_eq_true hc1
  have hd1:=of_decide_eq_true hd1
  rw[td_yes hc1 hd1 hh]
  rw[← hn] at hh
  rcases head_yes hh with hl | ⟨hl,he⟩
  ·have h0:n=0:=by rcases hl with h | h | h;exact h.2.1;exact h.2.2.1;exact h.2.1
   subst h0
   have:l=[]:=List.length_eq_zero_iff.1 hn.symm
   subst this
   rw[tfsS]
   refine rtyped_leaf hsz hc1 h1 hd1 ?_
   rcases hl with h | h | h
   ·exact Or.inl ⟨h.1,h.2.2⟩
   ·exact Or.inr (Or.inl ⟨h.1,h.2.1,h.2.2.2⟩)
   ·exact Or.inr (Or.inr ⟨h.1,h.2.2⟩)
  ·have hk':TyL bz ok w l (.slice a n cp):=hk
   subst hn
   cases hk' with
   | nil h=>simp at hl
   | mk K hne hb hcap hcell hkk hs2=>exact rtyped_node IH hc1 h1 hd1 hl he rfl K hb hcell hkk
theorem rtyped_any {t:Ty} (h:SmTy big t):RdC bz t:=by
 induction h with
 | mk hn hl ih=>exact rtyped_one hn ih
theorem rvalidTy_any {ok:Nat→Prop} {w:World} {t:Ty} {a:Option Addr} {n c:Nat} (hk:TyL bz ok w t.kids (.slice a n c)) (hs:SmTy big t):
  Calls Tryz.prog 146 #[.agg #[.int .i64 t.kind,.string t.name,.slice a n c]] w fun e w'=>e=.returned (.bool (validTyB t))∧Kept (fun _=>False) w w':=by
 have hk2:=hk.frame (Same.alloc w (.cells #[.int .i64 t.kind,.string t.name,.slice a n c] 24))
 have hC:=Ld (rtyped_any (bz:=bz) hs _ ok 0 1 _ (by decide) (by decide) (by decide) hk2)
 have K1:Kept (fun _=>False) w (w.alloc (.cells #[.int .i64 t.kind,.string t.name,.slice a n c] 24)):=kR.alloc _
 have hle:=tf_le 16 6 t 1 false 0 (by decide)
 have HV:Hid (decide (0<tdR (tfS 16 6 t 1 (decide (1<1)) 0))=validTyB t):=Ld (by
  show decide (0<tdR (tfS 16 6 t 1 false 0))=validTyB t
  unfold tdR validTyB
  cases hr:(tfS 16 6 t 1 false 0).1
  ·rfl
  ·have:=(hle hr).1
   rw[if_pos rfl]
   exact decide_eq_true (by omega))
 clear hle
 unfold tyVal at hC
 go_enter Tryz.func146,Tryz.ntmps146
 go_wp2_with fail
 refine hC.out.mono ?_
 rintro e w' ⟨rfl,k2⟩
 go_wp2_with fail
 go_ret
 exact⟨by rw[← HV.out];rfl,K1.trans k2⟩
def str (l:List UInt8):ByteArray:=⟨l.toArray⟩
theorem str_app (a b:List UInt8):str a++str b=str (a++b):=by
 apply ByteArray.ext
 rw[ByteArray.data_append]
 simp[str]
theorem str_size (a:List UInt8):(str a).size=a.length:=by simp[str,ByteArray.size]
def stripD (l:List UInt8):List UInt8:=(l.reverse.dropWhile fun c=>digitB c.toNat).reverse
theorem stripD_snoc (l:List UInt8) (c:UInt8):stripD (l++[c])=if digitB c.toNat then stripD l else l++[c]:=by
 unfold stripD
 rw[List.reverse_append,List.reverse_cons,List.reverse_nil,List.nil_append,List.singleton_append,List.dropWhile_cons]
 split
 ·rfl
 ·rw[List.reverse_cons,List.reverse_reverse]
theorem stripD_pre:∀ (l:List UInt8),∃ r,l=stripD l++r:=by
 intro l
 refine⟨(l.reverse.takeWhile fun c=>digitB c.toNat).reverse,?_⟩
 unfold stripD
 rw[← List.reverse_append,List.takeWhile_append_dropWhile,List.reverse_reverse]
theorem strip_dig:∀ (l:List UInt8),stripD l=[]→∀ c∈l,digitB c.toNat=true:=by
 intro l h c hc
 unfold stripD at h
 rw[List.reverse_eq_nil_iff] at h
 have:∀ (m:List UInt8),m.dropWhile (fun c=>digitB c.toNat)=[]→∀ c∈m,digitB c.toNat=true:=by
  intro m
  induction m with
  | nil=>intro _ c hc;cases hc
  | cons a m ih=>
   intro hh c hc
   rw[List.dropWhile_cons] at hh
   split at hh
   ·rename_i ha
    rcases List.mem_cons.1 hc with rfl | hc
    ·exact ha
    ·exact ih hh c hc
   ·cases hh
 exact this _ h c (List.mem_reverse.2 hc)
theorem letter_not_digit {c:Int} (h:letterB c=true):digitB c=false:=by
 unfold letterB at h;unfold digitB
 simp only[Bool.or_eq_true,Bool.and_eq_true,decide_eq_true_eq] at h
 rw[Bool.and_eq_false_iff]
 simp only[decide_eq_false_iff_not]
 omega
theorem strip_head {l:List UInt8} (hne:l≠[]) (hh:letterB (l.headD 0).toNat=true):stripD l≠[]∧(stripD l).headD 0=l.headD 0:=by
 have h1:stripD l≠[]:=by
  intro e
  have:=strip_dig l e (l.headD 0) (by cases l with | nil=>exact absurd rfl hne | cons a l=>simp)
  rw[letter_not_digit hh] at this;cases this
 refine⟨h1,?_⟩
 obtain⟨r,hr⟩:=stripD_pre l
 cases hs:stripD l with
 | nil=>exact absurd hs h1
 | cons a s=>rw[hs] at hr;rw[hr];rfl
def candL (b:List UInt8) (k:Nat):List UInt8:=b.take (16-(Lib.decDigits k).length)++Lib.decDigits k
def frGo (b:List UInt8) (used:List ByteArray):Nat→Nat→ByteArray
 | 0,k=>str (candL b k)
 | f+1,k=>if mb (str (candL b k)) used then frGo b used f (k+1) else str (candL b k)
def xS:ByteArray:=⟨#[120]⟩
def baseL (name:ByteArray):List UInt8:=stripD (trimQ name).data.toList
def frFrom (nm:ByteArray) (used:List ByteArray):ByteArray:=if mb nm used then frGo (baseL nm) used 1000000 1 else nm
def freshS (name:ByteArray) (used:List ByteArray):ByteArray:=frFrom (if namedB name then name else xS) used
theorem frGo_at (b:List UInt8) (used:List ByteArray):∀ (f k:Nat),(∃ j,k≤j∧j≤k+f∧mb (str (candL b j)) used=false)→∃ j,frGo b used f k=str (candL b j)∧mb (str (candL b j)) used=false∧k≤j∧j≤k+f∧∀ i,k≤i→i<j→mb (str (candL b i)) used=true
 | 0,k,⟨j,h1,h2,h3⟩=>by
  have:j=k:=by omega
  subst this
  exact⟨j,rfl,h3,by omega,by omega,fun i h4 h5=>by omega⟩
 | f+1,k,⟨j,h1,h2,h3⟩=>by
  rw[frGo]
  cases hm:mb (str (candL b k)) used
  ·simp only[Bool.false_eq_true,if_false]
   exact⟨k,rfl,hm,by omega,by omega,fun i h4 h5=>by omega⟩
  ·simp only[if_true]
   have hjk:j≠k:=by rintro rfl;rw[hm] at h3;cases h3
   obtain⟨i,e,h4,h5,h6,h7⟩:=frGo_at b used f (k+1) ⟨j,by omega,by omega,h3⟩
   refine⟨i,e,h4,by omega,by omega,fun q h8 h9=>?_⟩
   by_cases hq:q=k
   ·subst hq;exact hm
   ·exact h7 q (by omega) h9
theorem holes {α:Type} [DecidableEq α]:∀ (n:Nat) (f:Nat→α) (L:List α),(∀ i j,i<n→j<n→f i=f j→i=j)→(∀ i,i<n→f i∈L)→n≤L.length
 | 0,_,_,_,_=>Nat.zero_le _
 | n+1,f,L,hinj,hL=>by
  have h1:=hL n (by omega)
  have:=holes n f (L.erase (f n)) (fun i j hi hj e=>hinj i j (by omega) (by omega) e) (fun i hi=>(List.mem_erase_of_ne (fun e=>by have:=hinj i n (by omega) (by omega) e;omega)).2 (hL i (by omega)))
  rw[List.length_erase_of_mem h1] at this
  have:0<L.length:=List.length_pos_of_mem h1
  omega
theorem dec_val:∀ (n:Nat),(Lib.decDigits n).foldl (fun v c=>v*10+(c.toNat-48)) 0=n:=by
 intro n
 induction n using Nat.strongRecOn with
 | _ n ih=>
  rw[Lib.decDigits]
  split
  ·rename_i h
   rw[List.foldl_cons,List.foldl_nil,UInt8.toNat_ofNat',Nat.mod_eq_of_lt (by omega)];omega
  ·rename_i h
   rw[List.foldl_append,ih (n / 10) (by omega),List.foldl_cons,List.foldl_nil,UInt8.toNat_ofNat',Nat.mod_eq_of_lt (by omega)]
   omega
theorem dec_inj {a b:Nat} (h:Lib.decDigits a=Lib.decDigits b):a=b:=by rw[← dec_val a,← dec_val b,h]
theorem dec_dig2:∀ (n:Nat),∀ c,c∈Lib.decDigits n→digitB c.toNat=true:=by
 intro n
 induction n using Nat.strongRecOn with
 | _ n ih=>
  intro c hc
  rw[Lib.decDigits] at hc
  split at hc
  ·rename_i h
   rw[List.mem_singleton.1 hc,UInt8.toNat_ofNat',Nat.mod_eq_of_lt (by omega)]
   unfold digitB;rw[Bool.and_eq_true,decide_eq_true_eq,decide_eq_true_eq];omega
  ·rename_i h
   rcases List.mem_append.1 hc with hc | hc
   ·exact ih _ (by omega) c hc
   ·rw[List.mem_singleton.1 hc,UInt8.toNat_ofNat',Nat.mod_eq_of_lt (by omega)]
    unfold digitB;rw[Bool.and_eq_true,decide_eq_true_eq,decide_eq_true_eq];omega
theorem dec_ne2 (n:Nat):Lib.decDigits n≠[]:=by
 rw[Lib.decDigits];split <;> simp
theorem dec_len2:∀ (k n:Nat),n<10 ^ (k+1)→(Lib.decDigits n).length≤k+1:=by
 intro k
 induction k with
 | zero=>intro n h;rw[Lib.decDigits,dif_pos (by omega)];simp
 | succ k ih=>
  intro n h
  rw[Lib.decDigits]
  split
  ·simp
  ·rw[List.length_append,List.length_singleton]
   have:=ih (n / 10) (by rw[Nat.pow_succ] at h;omega)
   omega
theorem dec_six {n:Nat} (h1:100000≤n) (h2:n<1000000):(Lib.decDigits n).length=6:=by
 have:=dec_len2 5 n (by omega)
 have h:∀ (k n:Nat),10 ^ k≤n→k+1≤(Lib.decDigits n).length:=by
  intro k
  induction k with
  | zero=>intro n _;have:=dec_ne2 n;exact List.length_pos_iff.2 this
  | succ k ih=>
   intro n hn
   rw[Lib.decDigits]
   have hp:1≤10 ^ k:=Nat.one_le_pow _ _ (by decide)
   rw[Nat.pow_succ] at hn
   rw[dif_neg (by omega),List.length_append,List.length_singleton]
   have:=ih (n / 10) (by omega)
   omega
 have:=h 5 n (by omega)
 omega
theorem str_inj {a b:List UInt8} (h:str a=str b):a=b:=by
 have:(str a).data.toList=(str b).data.toList:=by rw[h]
 simpa [str] using this
theorem cand_free (b:List UInt8) (used:List ByteArray) (h:used.length≤800000):∃ j,1≤j∧j≤1+1000000∧mb (str (candL b j)) used=false:=by
 by_cases hh:∃ j,1≤j∧j≤1+1000000∧mb (str (candL b j)) used=false
 ·exact hh
 ·exfalso
  have:=holes 900000 (fun i=>str (candL b (100000+i))) used (fun i j hi hj e=>?_) (fun i hi=>?_)
  ·omega
  ·have e:=str_inj e
   unfold candL at e
   rw[dec_six (by omega) (by omega),dec_six (by omega) (by omega)] at e
   have:=dec_inj (List.append_cancel_left e)
   omega
  ·rw[← mb_iff]
   cases hm:mb (str (candL b (100000+i))) used
   ·exact absurd ⟨_,by omega,by omega,hm⟩ hh
   ·rfl
theorem freshS_good (name:ByteArray) (used:List ByteArray) (h:used.length≤800000):mb (freshS name used) used=false:=by
 unfold freshS
 generalize (if namedB name then name else xS)=nm
 unfold frFrom
 split
 ·obtain⟨j,e,h1,_⟩:=frGo_at (baseL nm) used 1000000 1 (cand_free _ used h)
  rw[e];exact h1
 ·rename_i h;exact Bool.eq_false_iff.2 h
theorem freshS_FS:GoodFS freshS 800000:=fun x U h=>freshS_good x U h
theorem kws_dig:∀ l∈kws,∀ c∈l,digitB c.toNat=false:=by decide
theorem ident_parts {s:ByteArray}:identB s=true↔s.data.toList≠[]∧s.data.toList.length≤16∧letterB (s.data.toList.headD 0).toNat=true∧keywordB s=false∧allW s.data.toList=true:=by
 unfold identB
 simp only[Bool.and_eq_true,decide_eq_true_eq,Bool.not_eq_true']
 have e:s.size=s.data.toList.length:=by rw[Array.length_toList];rfl
 rw[e,List.length_pos_iff]
 constructor
 ·rintro⟨⟨⟨⟨a,b⟩,c⟩,d⟩,e⟩;exact⟨a,b,c,d,e⟩
 ·rintro⟨a,b,c,d,e⟩;exact⟨⟨⟨⟨a,b⟩,c⟩,d⟩,e⟩
theorem str_list (l:List UInt8):(str l).data.toList=l:=by simp[str]
theorem keyword_iff (s:ByteArray):keywordB s=true↔s.data.toList∈kws:=by
 unfold keywordB;rw[Go.ByteArray.toList_eq];exact List.contains_iff_mem
theorem cand_ident {b:List UInt8} {k:Nat} (hb:b≠[]) (hl:letterB (b.headD 0).toNat=true) (hw:allW b=true) (hk:k<10000000):identB (str (candL b k))=true:=by
 have hd:=dec_len2 6 k (by omega)
 have hne:=dec_ne2 k
 rw[ident_parts,str_list]
 cases b with
 | nil=>exact absurd rfl hb
 | cons a b=>
  have e:candL (a::b) k=a::(b.take (15-(Lib.decDigits k).length)++Lib.decDigits k):=by
   unfold candL
   rw[show 16-(Lib.decDigits k).length=(15-(Lib.decDigits k).length)+1 by omega,List.take_succ_cons,List.cons_append]
  refine⟨by rw[e];simp,?_,by rw[e];exact hl,?_,?_⟩
  ·unfold candL
   rw[List.length_append,List.length_take];omega
  ·rw[← Bool.not_eq_true,keyword_iff,str_list]
   intro hm
   cases hq:Lib.decDigits k with
   | nil=>exact hne hq
   | cons c r=>
    have h1:=kws_dig _ hm c (by unfold candL;rw[hq];simp)
    rw[dec_dig2 k c (by rw[hq];simp)] at h1;cases h1
  ·unfold allW at hw ⊢
   rw[List.all_eq_true] at hw ⊢
   intro c hc
   unfold candL at hc
   rcases List.mem_append.1 hc with hc | hc
   ·exact hw c (List.mem_of_mem_take hc)
   ·have:=dec_dig2 k c hc
    unfold inWordB;rw[this];simp
theorem x_ident:identB xS=true:=by kernel_rfl
theorem base_ok {nm:ByteArray} (h:namedB nm=true):baseL nm≠[]∧letterB ((baseL nm).headD 0).toNat=true∧allW (baseL nm)=true:=by
 unfold namedB at h
 rw[ident_parts] at h
 obtain⟨h1,h2,h3,h4,h5⟩:=h
 obtain⟨h6,h7⟩:=strip_head h1 h3
 refine⟨h6,by unfold baseL;rw[h7];exact h3,?_⟩
 obtain⟨r,hr⟩:=stripD_pre (trimQ nm).data.toList
 unfold allW at h5 ⊢
 rw[hr,List.all_append,Bool.and_eq_true] at h5
 exact h5.1
theorem ident_end {s:ByteArray} (h:identB s=true):trimQ s=s:=by
 rw[ident_parts] at h
 unfold trimQ
 have:Lib.trimSuffix s.data.toList [39]=s.data.toList:=by
  unfold Lib.trimSuffix Lib.hasSuffix
  rw[if_neg]
  intro e
  have hm:(39:UInt8)∈s.data.toList:=by
   obtain⟨t,ht⟩:=(List.isSuffixOf_iff_suffix.1 e)
   rw[← ht];simp
  have h5:=h.2.2.2.2
  unfold allW at h5
  have:=List.all_eq_true.1 h5 _ hm
  revert this;decide
 rw[this]
theorem ident_named {s:ByteArray} (h:identB s=true):namedB s=true:=by unfold namedB;rw[ident_end h];exact h
theorem freshS_ident {name:ByteArray} {used:List ByteArray} (h:identB name=true) (hu:used.length≤800000):identB (freshS name used)=true:=by
 unfold freshS frFrom
 rw[if_pos (ident_named h)]
 split
 ·obtain⟨j,e,h1,h2,h3,_⟩:=frGo_at (baseL name) used 1000000 1 (cand_free _ used hu)
  rw[e]
  have hb:=base_ok (ident_named h)
  exact cand_ident hb.1 hb.2.1 hb.2.2 (by omega)
 ·exact h
theorem freshS_named {name:ByteArray} {used:List ByteArray} (hu:used.length≤800000):namedB (freshS name used)=true:=by
 unfold freshS
 have hn:namedB (if namedB name then name else xS)=true:=by
  split
  ·assumption
  ·exact ident_named x_ident
 generalize (if namedB name then name else xS)=nm at *
 unfold frFrom
 split
 ·obtain⟨j,e,h1,h2,h3,_⟩:=frGo_at (baseL nm) used 1000000 1 (cand_free _ used hu)
  rw[e]
  have hb:=base_ok hn
  exact ident_named (cand_ident hb.1 hb.2.1 hb.2.2 (by omega))
 ·exact hn
def primB (x:ByteArray):Bool:=if h:1<x.size then ((x[x.size-1].toNat:Int)==39)&&identB (x.extract 0 (x.size-1)) else false
end Go.Proofs.YtdmebjbkccjhbaaGreatDoor
