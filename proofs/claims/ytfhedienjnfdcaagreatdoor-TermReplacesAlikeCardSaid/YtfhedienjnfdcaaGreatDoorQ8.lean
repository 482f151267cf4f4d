/- A part. -/
import Derived.Test.YtfhedienjnfdcaaGreatDoorQ7
set_option linter.unusedVariables false
set_option linter.unusedSimpArgs false
set_option maxRecDepth 100000
set_option maxHeartbeats 32000000
namespace Go.Proofs.YtfhedienjnfdcaaGreatDoor
open Go.RowKit
def tdR (r:Bool×Nat):Int:=if r.1=true then (r.2:Int) else -1
def RdC (t:Ty):Prop:=∀ (w:World) (ok:Nat→Prop) (c d:Nat) (tk:Value),c≤16→1≤d→d≤7→TyL ok w t.kids tk →
 Calls Tryz.prog 212 #[tyVal t tk,.int .i64 d,.int .i64 c] w fun e w'=>e=.returned (.int .i64 (tdR (tfS 16 6 t d (decide (1<d)) c)))∧Kept (fun _=>False) w w'
theorem rident_t {s:ByteArray} {v:Bool} (h:identB s=v) (hs:s.size≤9223372036854775807) (w:World):
  Calls Tryz.prog 83 #[.string s] w fun e w'=>e=.returned (.bool v)∧Kept (fun _=>False) w w':=by rw[← h];exact rident_any s w hs
theorem td_no {k:Int} {nm:ByteArray} {l:List Ty} {d c:Nat} (h:((decide (c+1≤16)&&decide (d≤6))&&tyHead k nm l.length (decide (1<d)))=false):tdR (tfS 16 6 (.mk k nm l) d (decide (1<d)) c)=-1:=by
 rw[tf_eq,h];rfl
theorem td_yes {k:Int} {nm:ByteArray} {l:List Ty} {d c:Nat} (hc:c+1≤16) (hd:d≤6) (h:tyHead k nm l.length (decide (1<d))=true):tfS 16 6 (.mk k nm l) d (decide (1<d)) c=tfsS 16 6 l (d+1) (c+1):=by
 rw[tf_eq,decide_eq_true hc,decide_eq_true hd,h];rfl
theorem head_ways (k:Int) (nm:ByteArray) (n:Nat) (wi:Bool) (h:tyHead k nm n wi=false):
  (k=2∧wi=true)∨(¬ (k=2∧wi=true)∧(((k=1∨k=2∨k=3)∧n≠0)∨(k=5∧n≠1)∨(k=4∧n≠2)∨(k≠1∧k≠2∧k≠3∧k≠4∧k≠5)∨(k=3∧n=0∧identB nm=false)
   ∨ (((k=1∧n=0)∨(k=2∧n=0)∨(k=5∧n=1)∨(k=4∧n=2))∧(nm.toList==[])=false))):=by
 unfold tyHead at h
 by_cases k1:k=1
 ·subst k1;simp at h;by_cases hn:n=0 <;> simp_all
 by_cases k2:k=2
 ·subst k2;simp at h;cases wi <;> by_cases hn:n=0 <;> simp_all
 by_cases k3:k=3
 ·subst k3;simp at h;by_cases hn:n=0 <;> simp_all
 by_cases k4:k=4
 ·subst k4;simp at h;by_cases hn:n=2 <;> simp_all
 by_cases k5:k=5
 ·subst k5;simp at h;by_cases hn:n=1 <;> simp_all
 ·exact Or.inr ⟨fun e=>k2 e.1,Or.inr (Or.inr (Or.inr (Or.inl ⟨k1,k2,k3,k4,k5⟩)))⟩
theorem rtyped_bad {k:Int} {nm:ByteArray} {a:Option Addr} {n cp c d:Nat} {w:World} (hsz:nm.size≤9223372036854775807) (hc:c≤16) (h1:1≤d) (hd:d≤7)
  (h:((decide (c+1≤16)&&decide (d≤6))&&tyHead k nm n (decide (1<d)))=false):
  Calls Tryz.prog 212 #[.agg #[.int .i64 k,.string nm,.slice a n cp],.int .i64 d,.int .i64 c] w fun e w'=>e=.returned (.int .i64 (-1))∧Kept (fun _=>False) w w':=by
 by_cases d6:d≤6
 case neg=>
  have i1:decide ((6:Int)<(d:Int))=true:=decide_eq_true (by omega)
  clear h
  go_enter Tryz.func212,Tryz.ntmps212
  go_wp2_with fail
  go_ret
  exact⟨rfl,kR.alloc _⟩
 have i1:decide ((6:Int)<(d:Int))=false:=decide_eq_false (by omega)
 by_cases c6:c+1≤16
 case neg=>
  have i2:decide ((16:Int)<(c:Int)+1)=true:=decide_eq_true (by omega)
  clear h
  go_enter Tryz.func212,Tryz.ntmps212
  go_wp2_with fail
  go_ret
  exact⟨rfl,kR.alloc _⟩
 have i2:decide ((16:Int)<(c:Int)+1)=false:=decide_eq_false (by omega)
 rw[decide_eq_true d6,decide_eq_true c6] at h
 have h':tyHead k nm n (decide (1<d))=false:=h
 clear h
 rcases head_ways k nm n _ h' with ⟨rfl,hw⟩ | ⟨hn2,hw⟩
 ·have i3:decide ((1:Int)<(d:Int))=true:=by rw[← hw];exact decide_eq_decide.2 (by omega)
  clear hw h'
  go_enter Tryz.func212,Tryz.ntmps212
  go_wp2_with fail
  go_ret
  exact⟨rfl,kR.alloc _⟩
 clear h'
 rcases hw with ⟨hk,h0⟩ | ⟨rfl,h0⟩ | ⟨rfl,h0⟩ | ⟨k1,k2,k3,k4,k5⟩ | ⟨rfl,rfl,hI⟩ | ⟨hk,he⟩
 ·have i4:((n:Int) != 0)=true:=by rw[bne_iff_ne];omega
  rcases hk with rfl | rfl | rfl
  ·clear hn2
   go_enter Tryz.func212,Tryz.ntmps212
   go_wp2_with fail
   go_ret
   exact⟨rfl,kR.alloc _⟩
  ·have i3:decide ((1:Int)<(d:Int))=false:=decide_eq_false (fun h=>hn2 (by simp;omega))
   clear hn2
   go_enter Tryz.func212,Tryz.ntmps212
   go_wp2_with fail
   go_ret
   exact⟨rfl,kR.alloc _⟩
  ·clear hn2
   go_enter Tryz.func212,Tryz.ntmps212
   go_wp2_with fail
   go_ret
   exact⟨rfl,kR.alloc _⟩
 ·have i4:((n:Int) != 1)=true:=by rw[bne_iff_ne];omega
  clear hn2
  go_enter Tryz.func212,Tryz.ntmps212
  go_wp2_with fail
  go_ret
  exact⟨rfl,kR.alloc _⟩
 ·have i4:((n:Int) != 2)=true:=by rw[bne_iff_ne];omega
  clear hn2
  go_enter Tryz.func212,Tryz.ntmps212
  go_wp2_with fail
  go_ret
  exact⟨rfl,kR.alloc _⟩
 ·have e1:(k==1)=false:=beq_eq_false_iff_ne.2 k1
  have e2:(k==2)=false:=beq_eq_false_iff_ne.2 k2
  have e3:(k==3)=false:=beq_eq_false_iff_ne.2 k3
  have e4:(k==4)=false:=beq_eq_false_iff_ne.2 k4
  have e5:(k==5)=false:=beq_eq_false_iff_ne.2 k5
  clear hn2 k1 k2 k3 k4 k5
  go_enter Tryz.func212,Tryz.ntmps212
  go_wp2_with fail
  go_ret
  exact⟨rfl,kR.alloc _⟩
 ·clear hn2
  have HI:=Ld hI
  clear hI
  go_enter Tryz.func212,Tryz.ntmps212
  go_wp2_with (go_at_call 83;refine (rident_t HI.out hsz _).mono ?_;rintro e w1 ⟨rfl,k1⟩)
  go_ret
  exact⟨rfl,(kR.alloc _).trans k1⟩
 ·have he':(nm.toList != [])=true:=by rw[bne,he];rfl
  have he2:nm.toList.isEmpty=false:=by cases h:nm.toList <;> simp_all
  rcases hk with ⟨rfl,rfl⟩ | ⟨rfl,rfl⟩ | ⟨rfl,rfl⟩ | ⟨rfl,rfl⟩
  ·clear hn2 he
   go_enter Tryz.func212,Tryz.ntmps212
   go_wp2_with fail
   go_ret
   exact⟨rfl,kR.alloc _⟩
  ·have i3:decide ((1:Int)<(d:Int))=false:=decide_eq_false (fun h=>hn2 (by simp;omega))
   clear hn2 he
   go_enter Tryz.func212,Tryz.ntmps212
   go_wp2_with fail
   go_ret
   exact⟨rfl,kR.alloc _⟩
  ·clear hn2 he
   go_enter Tryz.func212,Tryz.ntmps212
   go_wp2_with fail
   go_ret
   exact⟨rfl,kR.alloc _⟩
  ·clear hn2 he
   go_enter Tryz.func212,Tryz.ntmps212
   go_wp2_with fail
   go_ret
   exact⟨rfl,kR.alloc _⟩
theorem head_yes {k:Int} {nm:ByteArray} {n:Nat} {wi:Bool} (h:tyHead k nm n wi=true):
  ((k=1∧n=0∧(nm.toList==[])=true)∨(k=2∧wi=false∧n=0∧(nm.toList==[])=true)∨(k=3∧n=0∧identB nm=true))∨((k=5∧n=1)∨(k=4∧n=2))∧(nm.toList==[])=true:=by
 unfold tyHead at h
 by_cases k1:k=1
 ·subst k1;simp at h;simp_all
 by_cases k2:k=2
 ·subst k2;simp at h;cases wi <;> simp_all
 by_cases k3:k=3
 ·subst k3;simp at h;simp_all
 by_cases k4:k=4
 ·subst k4;simp at h;simp_all
 by_cases k5:k=5
 ·subst k5;simp at h;simp_all
 ·simp[k1,k2,k3,k4,k5] at h
theorem rtyped_leaf {k:Int} {nm:ByteArray} {a:Option Addr} {cp c d:Nat} {w:World} (hsz:nm.size≤9223372036854775807) (hc:c+1≤16) (h1:1≤d) (hd:d≤6)
  (h:(k=1∧(nm.toList==[])=true)∨(k=2∧decide (1<d)=false∧(nm.toList==[])=true)∨(k=3∧identB nm=true)):
  Calls Tryz.prog 212 #[.agg #[.int .i64 k,.string nm,.slice a 0 cp],.int .i64 d,.int .i64 c] w fun e w'=>e=.returned (.int .i64 ((c+1:Nat):Int))∧Kept (fun _=>False) w w':=by
 have i1:decide ((6:Int)<(d:Int))=false:=decide_eq_false (by omega)
 have i2:decide ((16:Int)<(c:Int)+1)=false:=decide_eq_false (by omega)
 rcases h with ⟨rfl,he⟩ | ⟨rfl,hw,he⟩ | ⟨rfl,hI⟩
 ·have he2:nm.toList.isEmpty=true:=by cases h:nm.toList <;> simp_all
  have bA:Blk (w.alloc (.cells #[.int .i64 1,.string nm,.slice a 0 cp] 26)) w.heap.size 26 [.int .i64 1,.string nm,.slice a 0 cp]:=Blk.new w 26 _
  go_enter Tryz.func212,Tryz.ntmps212
  go_wp2_with fail
  have K1:Kept (fun _=>False) w (w.alloc (.cells #[.int .i64 1,.string nm,.slice a 0 cp] 26)):=kR.alloc _
  generalize w.alloc (.cells #[.int .i64 1,.string nm,.slice a 0 cp] 26)=w1 at *
  have g2:w1.cell? ⟨w.heap.size,2,none⟩=some (.slice a 0 cp):=bA.cell 2
  go_loop [8,2] (fun i m=>i=.int .i64 0∧m=.int .i64 ((c:Int)+1)) (fun i _=>0)
  case atStart=>exact⟨rfl,rfl⟩
  case round=>
   obtain⟨rfl,rfl⟩:=hrel
   go_wp2_with fail
   go_ret
   exact⟨rfl,K1⟩
 ·have i3:decide ((1:Int)<(d:Int))=false:=decide_eq_false (fun h=>by have:=of_decide_eq_false hw;omega)
  have he2:nm.toList.isEmpty=true:=by cases h:nm.toList <;> simp_all
  have bA:Blk (w.alloc (.cells #[.int .i64 2,.string nm,.slice a 0 cp] 26)) w.heap.size 26 [.int .i64 2,.string nm,.slice a 0 cp]:=Blk.new w 26 _
  clear hw
  go_enter Tryz.func212,Tryz.ntmps212
  go_wp2_with fail
  have K1:Kept (fun _=>False) w (w.alloc (.cells #[.int .i64 2,.string nm,.slice a 0 cp] 26)):=kR.alloc _
  generalize w.alloc (.cells #[.int .i64 2,.string nm,.slice a 0 cp] 26)=w1 at *
  have g2:w1.cell? ⟨w.heap.size,2,none⟩=some (.slice a 0 cp):=bA.cell 2
  go_loop [8,2] (fun i m=>i=.int .i64 0∧m=.int .i64 ((c:Int)+1)) (fun i _=>0)
  case atStart=>exact⟨rfl,rfl⟩
  case round=>
   obtain⟨rfl,rfl⟩:=hrel
   go_wp2_with fail
   go_ret
   exact⟨rfl,K1⟩
 ·have HI:=Ld hI
  clear hI
  have bA:Blk (w.alloc (.cells #[.int .i64 3,.string nm,.slice a 0 cp] 26)) w.heap.size 26 [.int .i64 3,.string nm,.slice a 0 cp]:=Blk.new w 26 _
  have K0:Kept (fun _=>False) w (w.alloc (.cells #[.int .i64 3,.string nm,.slice a 0 cp] 26)):=kR.alloc _
  go_enter Tryz.func212,Tryz.ntmps212
  go_wp2_with fail
  refine (rident_t HI.out hsz _).mono ?_
  rintro e w1 ⟨rfl,k1⟩
  have bA1:=bA.kept k1 (fun h=>h)
  have K1:=K0.trans k1
  have g0:w1.cell? ⟨w.heap.size,0,none⟩=some (.int .i64 3):=bA1.cell 0
  have g2:w1.cell? ⟨w.heap.size,2,none⟩=some (.slice a 0 cp):=bA1.cell 2
  go_wp2_with fail
  go_loop [8,2] (fun i m=>i=.int .i64 0∧m=.int .i64 ((c:Int)+1)) (fun i _=>0)
  case atStart=>exact⟨rfl,rfl⟩
  case round=>
   obtain⟨rfl,rfl⟩:=hrel
   go_wp2_with fail
   go_ret
   exact⟨rfl,K1⟩
theorem td_drop {l:List Ty} {d c k:Nat} (h:k<l.length):tdR (tfsS 16 6 (l.drop k) d c)=if (tfS 16 6 l[k] d true c).1=true then tdR (tfsS 16 6 (l.drop (k+1)) d (tfS 16 6 l[k] d true c).2) else -1:=by
 rw[tfs_step h];split <;> rfl
theorem rtyped_node {k:Int} {nm:ByteArray} {l:List Ty} {n cp c d b off:Nat} {w:World} {ok:Nat→Prop} (IH:∀ t,t∈l→RdC t) (hc:c+1≤16) (h1:1≤d) (hd:d≤6)
  (hkn:(k=5∧n=1)∨(k=4∧n=2)) (he:(nm.toList==[])=true) (hln:l.length=n) (K:Nat→Value) (hb:ok b)
  (hcell:∀ i (h:i<l.length),w.cell? ⟨b,off+i*3,none⟩=some (.int .i64 l[i].kind)∧w.cell? ⟨b,off+i*3+1,none⟩=some (.string l[i].name)∧w.cell? ⟨b,off+i*3+2,none⟩=some (K i))
  (hk:∀ i (h:i<l.length),TyL ok w l[i].kids (K i)):
  Calls Tryz.prog 212 #[.agg #[.int .i64 k,.string nm,.slice (some ⟨b,off,none⟩) n cp],.int .i64 d,.int .i64 c] w fun e w'=>e=.returned (.int .i64 (tdR (tfsS 16 6 l (d+1) (c+1))))∧Kept (fun _=>False) w w':=by
 have i1:decide ((6:Int)<(d:Int))=false:=decide_eq_false (by omega)
 have i2:decide ((16:Int)<(c:Int)+1)=false:=decide_eq_false (by omega)
 have he2:nm.toList.isEmpty=true:=by cases h:nm.toList <;> simp_all
 have HIH:=Ld IH
 have HC:=Ld hcell
 have HK:=Ld hk
 have HL:=Ld hln
 clear IH hcell hk hln
 have bA:Blk (w.alloc (.cells #[.int .i64 k,.string nm,.slice (some ⟨b,off,none⟩) n cp] 26)) w.heap.size 26 [.int .i64 k,.string nm,.slice (some ⟨b,off,none⟩) n cp]:=Blk.new w 26 _
 have K1:Kept (fun _=>False) w (w.alloc (.cells #[.int .i64 k,.string nm,.slice (some ⟨b,off,none⟩) n cp] 26)):=kR.alloc _
 rcases hkn with ⟨rfl,rfl⟩ | ⟨rfl,rfl⟩
 all_goals
  go_enter Tryz.func212,Tryz.ntmps212
  go_wp2_with fail
  generalize w.alloc _=w1 at *
  go_loopw [8,2] (fun i m wr=>∃ j cj:Nat,j≤l.length∧i=.int .i64 j∧m=.int .i64 cj∧cj≤16∧Kept (fun _=>False) w1 wr∧Hid (tdR (tfsS 16 6 l (d+1) (c+1))=tdR (tfsS 16 6 (l.drop j) (d+1) cj))) (fun i _ _=>l.length-(intOf i).toNat)
  case atStart=>exact⟨0,c+1,Nat.zero_le _,rfl,by go_num,hc,Kept.refl _ _,Ld rfl⟩
  case round=>
   obtain⟨j,cj,hj,rfl,rfl,hcj,kr,hq⟩:=hrel
   have bR:=bA.kept kr (fun h=>h)
   have g2:wr.cell? ⟨w.heap.size,2,none⟩=some (.slice (some ⟨b,off,none⟩) _ cp):=bR.cell 2
   have hll:=HL.out
   by_cases hlt:j<l.length
   ·have KR:=K1.trans kr
    have c0:=(Same.of_kept (ok:=ok) KR (fun k h e=>e)).cell hb (HC.out j hlt).1
    have c1:=(Same.of_kept (ok:=ok) KR (fun k h e=>e)).cell hb (HC.out j hlt).2.1
    have c2:=(Same.of_kept (ok:=ok) KR (fun k h e=>e)).cell hb (HC.out j hlt).2.2
    obtain⟨ta,tn,tc,hKj⟩:=(HK.out j hlt).slice
    have hkk:=(HK.out j hlt).frame (Same.of_kept (ok:=ok) KR (fun k h e=>e))
    rw[hKj] at c2 hkk
    have hcon:=Ld (HIH.out _ (List.getElem_mem hlt) wr ok cj (d+1) _ hcj (by omega) (by omega) hkk)
    have hst:=Ld (td_drop (d:=d+1) (c:=cj) hlt)
    have hle:=Ld (tf_le 16 6 l[j] (d+1) true cj hcj)
    have hw:decide (1<d+1)=true:=decide_eq_true (by omega)
    rw[hw] at hcon
    clear hkk hw
    have hj2:(j:Int)<1000:=by omega
    cases hr:(tfS 16 6 l[j] (d+1) true cj).1
    ·have e1:tdR (tfS 16 6 l[j] (d+1) true cj)=-1:=by unfold tdR;rw[hr];rfl
     rw[e1] at hcon
     have HR:=Ld hr
     clear hr e1
     unfold tyVal at hcon
     go_wp2_with (go_at_call 212;refine hcon.out.mono ?_;rintro e w' ⟨rfl,k2⟩)
     go_ret
     refine⟨?_,KR.trans k2⟩
     rw[hq.out,hst.out,HR.out];rfl
    ·have e1:tdR (tfS 16 6 l[j] (d+1) true cj)=((tfS 16 6 l[j] (d+1) true cj).2:Int):=by unfold tdR;rw[hr];rfl
     rw[e1] at hcon
     have hle2:=hle.out hr
     have HR:=Ld hr
     clear hr e1
     generalize hcc:(tfS 16 6 l[j] (d+1) true cj).2=cc at *
     have HCC:=Ld hcc
     clear hcc
     unfold tyVal at hcon
     go_wp2_with (go_at_call 212;refine hcon.out.mono ?_;rintro e w' ⟨rfl,k2⟩)
     go_roundw
     case rel=>
      refine⟨j+1,cc,by omega,by go_num,rfl,hle2.2,kr.trans k2,Ld ?_⟩
      rw[hq.out,hst.out,HR.out,if_pos rfl]
     case measure=>simp[intOf];omega
   ·have hq2:Hid (tdR (tfsS 16 6 l (d+1) (c+1))=(cj:Int)):=Ld (by rw[hq.out,List.drop_eq_nil_of_le (by omega),tfsS];rfl)
    go_wp2_with fail
    go_ret
    exact⟨by rw[hq2.out];rfl,K1.trans kr⟩
theorem rtyped_one {k:Int} {nm:ByteArray} {l:List Ty} (hsz:nm.size≤9223372036854775807) (IH:∀ t,t∈l→RdC t):RdC (.mk k nm l):=by
 intro w ok c d tk hc h1 hd hk
 obtain⟨a,n,cp,rfl⟩:=hk.slice
 have hn:n=l.length:=hk.len
 cases hh:((decide (c+1≤16)&&decide (d≤6))&&tyHead k nm l.length (decide (1<d)))
 ·rw[td_no hh]
  exact rtyped_bad hsz hc h1 hd (by rw[hn];exact hh)
 ·rw[Bool.and_eq_true,Bool.and_eq_true] at hh
  obtain⟨⟨hc1,hd1⟩,hh⟩:=hh
  have hc1:=of_decide_eq_true hc1
  have hd1:=of_decide_eq_true hd1
  rw[td_yes hc1 hd1 hh]
  rw[← hn] at hh
  rcases head_yes hh with hl | ⟨hl,he⟩
  ·have h0:n=0:=by rcases hl with h | h | h;exact h.2.1;exact h.2.2.1;exact h.2.1
   subst h0
   have:l=[]:=List.length_eq_zero_iff.1 hn.symm
   subst this
   rw[tfsS]
   refine rtyped_leaf hsz hc1 h1 hd1 ?_
   rcases hl with h | h | h
   ·exact Or.inl ⟨h.1,h.2.2⟩
   ·exact Or.inr (Or.inl ⟨h.1,h.2.1,h.2.2.2⟩)
   ·exact Or.inr (Or.inr ⟨h.1,h.2.2⟩)
  ·have hk':TyL ok w l (.slice a n cp):=hk
   subst hn
   cases hk' with
   | nil h=>simp at hl
   | mk K hne hb hcap hcell hkk=>exact rtyped_node IH hc1 h1 hd1 hl he rfl K hb hcell hkk
theorem rtyped_any {t:Ty} (h:SmTy big t):RdC t:=by
 induction h with
 | mk hn hl ih=>exact rtyped_one hn ih
theorem rvalidTy_any {ok:Nat→Prop} {w:World} {t:Ty} {a:Option Addr} {n c:Nat} (hk:TyL ok w t.kids (.slice a n c)) (hs:SmTy big t):
  Calls Tryz.prog 173 #[.agg #[.int .i64 t.kind,.string t.name,.slice a n c]] w fun e w'=>e=.returned (.bool (validTyB t))∧Kept (fun _=>False) w w':=by
 have hk2:=hk.frame (Same.alloc w (.cells #[.int .i64 t.kind,.string t.name,.slice a n c] 26))
 have hC:=Ld (rtyped_any hs _ ok 0 1 _ (by decide) (by decide) (by decide) hk2)
 have K1:Kept (fun _=>False) w (w.alloc (.cells #[.int .i64 t.kind,.string t.name,.slice a n c] 26)):=kR.alloc _
 have hle:=tf_le 16 6 t 1 false 0 (by decide)
 have HV:Hid (decide (0<tdR (tfS 16 6 t 1 (decide (1<1)) 0))=validTyB t):=Ld (by
  show decide (0<tdR (tfS 16 6 t 1 false 0))=validTyB t
  unfold tdR validTyB
  cases hr:(tfS 16 6 t 1 false 0).1
  ·rfl
  ·have:=(hle hr).1
   rw[if_pos rfl]
   exact decide_eq_true (by omega))
 clear hle
 unfold tyVal at hC
 go_enter Tryz.func173,Tryz.ntmps173
 go_wp2_with fail
 refine hC.out.mono ?_
 rintro e w' ⟨rfl,k2⟩
 go_wp2_with fail
 go_ret
 exact⟨by rw[← HV.out];rfl,K1.trans k2⟩
end Go.Proofs.YtfhedienjnfdcaaGreatDoor
