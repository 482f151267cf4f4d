/- A part. -/
import Derived.Test.YtdmebjbkccjhbaaGreatDoorK14
set_option linter.unusedVariables false
set_option linter.unusedSimpArgs false
set_option maxRecDepth 100000
set_option maxHeartbeats 32000000
namespace Go.Proofs.YtdmebjbkccjhbaaGreatDoor
open Go.RowKit
theorem srtS_drop {out l:List ByteArray} {m:Nat} (h:m<l.length):srtS out (l.drop m)=srtS (insS l[m] out) (l.drop (m+1)):=by
 rw[List.drop_eq_getElem_cons h,srtS]
theorem own_get {W:World} {base g n cap:Nat} {L:List ByteArray} (h:W.ownsRow base 9 1 (.slice (some ⟨g,0,none⟩) n cap) n (L.map Value.string)) {j:Nat} (hj:j<n) {s:ByteArray} (hs:L[j]?=some s):W.cell? ⟨g,j,none⟩=some (.string s):=by
 rw[h.cellAt j (by omega),List.getElem?_map,hs];rfl
theorem own_put {w W:World} {base g n cap:Nat} {L:List ByteArray} (k:Kept (fun _=>False) w W) (hb:w.heap.size≤base) (h:W.ownsRow base 9 1 (.slice (some ⟨g,0,none⟩) n cap) n (L.map Value.string)) (j:Nat) (s:ByteArray):
  (W.setCell ⟨g,j,none⟩ (.string s)).ownsRow base 9 1 (.slice (some ⟨g,0,none⟩) n cap) n ((L.set j s).map Value.string)∧Kept (fun _=>False) w (W.setCell ⟨g,j,none⟩ (.string s)):=by
 have h2:=(h.lt g rfl).1
 exact⟨by rw[List.map_set];exact (h.stored j (.string s)).1,k.setCell (p:=⟨g,j,none⟩) (Or.inr (by show w.heap.size≤g;omega)) _⟩
theorem rsort_any {ok:Nat→Prop} {w:World} {l:List ByteArray} {v:Value} (h:NmL ok w l v) (hn:l.length≤1000000):
  Calls Tryz.prog 19 #[v] w fun e w'=>∃ v',e=.returned v'∧NRow w w.heap.size w' (srtS [] l) v':=by
 obtain⟨i9,hi9,hz9,hs9,hb9⟩:=info_str
 have HI:=Ld hi9
 have HZ:=Ld hz9
 have HS:=Ld hs9
 have HB:=Ld hb9
 obtain⟨a,c,rfl⟩:=h.slice
 have HAT:=Ld (fun W (k:Kept (fun _=>False) w W)=>(h.frame (sK k)).at)
 have HN:=Ld hn
 clear h hi9 hz9 hs9 hb9 hn
 go_enter Tryz.func19,Tryz.ntmps19
 go_wp2_with fail
 go_loopw [3,4,5,6] (fun v i x y wr=>∃ (m:Nat) (out:List ByteArray),m≤l.length∧i=.int .i64 m∧NRow w w.heap.size wr out v∧Hid (srtS [] l=srtS out (l.drop m)∧out.length≤m)) (fun v i x y _=>l.length-(intOf i).toNat)
 case atStart=>exact⟨0,[],Nat.zero_le _,rfl,⟨Kept.refl _ _,World.ownsRow_nil _ _ _ _⟩,Ld ⟨rfl,Nat.le_refl _⟩⟩
 case round=>
  obtain⟨m,out,hml,rfl,hR,hq⟩:=hrel
  obtain⟨va,vc,hv⟩:=hR.nml.slice
  subst hv
  have R:=Ld hR
  clear hR
  by_cases hlt:m<l.length
  ·have i1:(m:Int)<(l.length:Int):=by omega
   have i2:(m:Int)<1000000:=by have:=HN.out;omega
   have HD:=Ld (srtS_drop (out:=out) hlt)
   have HOL:=Ld hq.out.2
   have HQ1:=Ld hq.out.1
   obtain⟨g,off,had,_,_⟩:=HAT.out wr R.out.kp m hlt
   subst had
   have HS0:=Ld (fun W (k:Kept (fun _=>False) w W)=>(by obtain⟨g',off',e,_,h⟩:=HAT.out W k m hlt;cases e;exact h:W.cell? ⟨g,off+m,none⟩=some (.string l[m])))
   clear hq
   generalize hs:l[m]=s at *
   clear hs
   go_wp2_with fail
   go_loopw [5] (fun x wr'=>∃ k:Nat,k≤out.length∧x=.int .i64 k∧NRow w w.heap.size wr' out (.slice va out.length vc)∧Hid (∀ j (h:j<out.length),j<k→Op.bytesLess out[j].toList s.toList=true)) (fun x _=>out.length-(intOf x).toNat)
   case atStart=>exact⟨0,Nat.zero_le _,rfl,R.out,Ld (fun j _ h=>absurd h (Nat.not_lt_zero _))⟩
   case round=>
    obtain⟨k,hkl,rfl,hR2,hless⟩:=hrel
    have R2:=Ld hR2
    have c0:=HS0.out _ hR2.kp
    clear hR2
    by_cases hko:k<out.length
    ·have k1:(k:Int)<(out.length:Int):=by omega
     have k2:(k:Int)<1000000:=by have:=HN.out;have:=HOL.out;omega
     have t1:decide ((k:Int)<(out.length:Int))=true:=decide_eq_true k1
     obtain⟨g2,off2,had2,_,c2⟩:=R2.out.nml.at k hko
     subst had2
     obtain⟨x,hx⟩:∃ x,x=out[k]:=⟨_,rfl⟩
     have HX:=Ld hx
     rw[← hx] at c2
     clear hx
     cases hlo:Op.bytesLess x.toList s.toList
     ·go_upto_region 6 with (fail)
      go_quiet (fail)
      have kd:Kept (fun _=>False) wr (World.drewN wr nq):=kR.drewN nq
      generalize World.drewN wr nq=wd at *
      have Rd:=Ld (NRow.mk (R2.out.kp.trans kd) (own_keptT R2.out.own kd (fun _ _ h=>h)))
      have c0d:=HS0.out _ Rd.out.kp
      have c2d:wd.cell? ⟨g2,off2+k,none⟩=some (.string x):=by rw[kd.cell (p:=⟨g2,off2+k,none⟩) (cell_lt c2) (fun h=>h)];exact c2
      clear kd c0 c2
      cases heq:(x.toList==s.toList)
      ·have HNE:Hid (x≠s):=Ld (by rw[nm_eq] at heq;exact of_decide_eq_false heq)
       go_upto_region 8 with (fail)
       go_quiet (fail)
       have kd:Kept (fun _=>False) wd (World.drewN wd nq):=kR.drewN nq
       have R3:=Ld (NRow.mk (Rd.out.kp.trans kd) (own_keptT Rd.out.own kd (fun _ _ h=>h)))
       generalize World.drewN wd nq=w3 at *
       clear kd c0d c2d Rd heq t1
       have HINS:Hid (insS s out=out.take k++s::out.drop k):=Ld (insS_ne hko hless.out (by rw[← HX.out];exact hlo) (by rw[← HX.out];exact HNE.out))
       clear hless
       have HKL:=Ld hkl
       clear hkl
       clear hlo HX HNE hko k1 k2
       go_wp2_with (at_builtin;refine wpList_app_src rfl (.tmp 45) (.tmp 46) _ rfl w.heap.size 9 i9 _ 1 16 Tryz.underlying28 HI.out HZ.out HS.out HB.out rfl (by decide) (.slice (some ⟨g2,off2,none⟩) out.length vc) out.length (out.map Value.string) rfl (R3.out.own.alloc _) (.slice (some ⟨w3.heap.size,0,none⟩) 1 1) 1 [.string ⟨#[]⟩] rfl (.inr ⟨_,_,rfl,cell_one_new _ _ _⟩) rfl (strs_one [⟨#[]⟩]) ?_ ?_ ?_ ?_)
       ·have:=HOL.out;have:=HN.out;unfold maxLen;omega
       ·have:=HOL.out;have:=HN.out;omega
       ·have:=R3.out.kp.size;simp;omega
       intro v4 w4 own4 hg4 hat4
       have R4:NRow w w.heap.size w4 (out++[⟨#[]⟩]) v4:=NRow.app (W:=w3.alloc (.cells #[.string ⟨#[]⟩] 9)) (r:=[⟨#[]⟩]) ⟨R3.out.kp.alloc _,R3.out.own.alloc _⟩ (Nat.le_refl _) own4 hg4
       clear own4 hg4 hat4
       obtain⟨g4,cap4,hv4⟩:∃ g4 cap4,v4=.slice (some ⟨g4,0,none⟩) (out.length+1) cap4:=by
        rcases R4.own.2 with ⟨_,hn⟩ | ⟨g',cap',cur,hv,_⟩
        ·simp at hn
        ·exact⟨g',cap',by rw[hv];simp⟩
       subst hv4
       have O4:Hid (w4.ownsRow w.heap.size 9 1 (.slice (some ⟨g4,0,none⟩) (out.length+1) cap4) (out.length+1) ((out.take out.length++(⟨#[]⟩:ByteArray)::out.drop out.length).map Value.string)):=Ld (by
        have h:=R4.own
        rw[List.length_append,List.length_singleton] at h
        rw[List.take_length,List.drop_length]
        exact h)
       have K4:=Ld R4.kp
       clear R4 R3 R2
       have j0:((out.length+1:Nat):Int)-1=(out.length:Int):=by omega
       have jb:(out.length:Int)<1000000:=by have:=HOL.out;have:=HN.out;omega
       go_wp2_with fail
       go_loopw [6] (fun y wr'=>∃ (j:Nat) (z:ByteArray),k≤j∧j≤out.length∧y=.int .i64 j∧Kept (fun _=>False) w wr'∧Hid (wr'.ownsRow w.heap.size 9 1 (.slice (some ⟨g4,0,none⟩) (out.length+1) cap4) (out.length+1) ((out.take j++z::out.drop j).map Value.string))) (fun y _=>(intOf y).toNat)
       case atStart=>exact⟨out.length,⟨#[]⟩,HKL.out,Nat.le_refl _,by go_num,K4.out,O4⟩
       case round=>
        obtain⟨j,z,hkj,hjo,rfl,kr,HO⟩:=hrel
        have KR:=Ld kr
        have f4:∀ i,wr.frozen? ⟨g4,i,none⟩=false:=HO.out.frozenAt
        have l4:g4<wr.heap.size:=(HO.out.lt g4 rfl).2
        have c0:=HS0.out _ kr
        clear kr
        by_cases hj:k<j
        ·obtain⟨j',hjj⟩:∃ j',j=j'+1:=⟨j-1,by omega⟩
         have hx1:(out.take j++z::out.drop j)[j']?=some (out[j']'(by omega)):=by subst hjj;exact gap_get hjo
         have x1:wr.cell? ⟨g4,j',none⟩=some (.string (out[j']'(by omega))):=own_get HO.out (by omega) hx1
         have x2:wr.cell? ⟨g4,j,none⟩=some (.string z):=own_get HO.out (by omega) (by have h1:(out.take j).length=j:=List.length_take_of_le hjo;rw[List.getElem?_append_right (by omega),h1,Nat.sub_self];rfl)
         have HP:=Ld (own_put KR.out (Nat.le_refl _) HO.out j (out[j']'(by omega)))
         have hg:(out.take j++z::out.drop j).set j (out[j']'(by omega))=out.take j'++(out[j']'(by omega))::out.drop j':=by subst hjj;exact gap_set hjo
         rw[hg] at HP
         generalize hu:out[j']'(by omega)=u at *
         have j1:(j:Int)-1=(j':Int):=by omega
         have j2:(k:Int)<(j:Int):=by omega
         have j3:(j':Int)<(out.length:Int)+1:=by omega
         have j4:(j:Int)<(out.length:Int)+1:=by omega
         have j5:(j:Int)<1000001:=by omega
         have HJJ:=Ld hjj
         clear hu HO c0 hx1 hg hjj
         go_wp2_with fail
         go_roundw
         case rel=>exact⟨j',u,by have:=HJJ.out;omega,by have:=HJJ.out;omega,by go_num,HP.out.2,Ld HP.out.1⟩
         case measure=>have:=HJJ.out;simp[intOf];omega
        ·obtain rfl:j=k:=by omega
         have x2:wr.cell? ⟨g4,j,none⟩=some (.string z):=own_get HO.out (by omega) (by have h1:(out.take j).length=j:=List.length_take_of_le hjo;rw[List.getElem?_append_right (by omega),h1,Nat.sub_self];rfl)
         have HP:=Ld (own_put KR.out (Nat.le_refl _) HO.out j s)
         rw[gap_fill hjo,← HINS.out] at HP
         have j4:(j:Int)<(out.length:Int)+1:=by omega
         have HLN:Hid (out.length+1=(insS s out).length):=Ld (by rw[HINS.out,gap_len hjo])
         clear HO
         go_wp2_with fail
         go_roundw
         case rel=>exact⟨m+1,insS s out,by omega,by go_num,⟨HP.out.2,by have h:=HP.out.1;rw[HLN.out] at h;rw[← HLN.out] at h ⊢;exact h⟩,Ld ⟨by rw[HQ1.out,HD.out],by have:=(insS_len s out).2;have:=HOL.out;omega⟩⟩
         case measure=>simp[intOf];omega
      ·have hye:x=s:=by rw[nm_eq] at heq;exact of_decide_eq_true heq
       have HSAME:Hid (insS s out=out):=Ld (insS_eq hko hless.out (by rw[← HX.out];exact hlo) (by rw[← HX.out];exact hye))
       go_upto_region 8 with (fail)
       go_quiet (fail)
       have kd:Kept (fun _=>False) wd (World.drewN wd nq):=kR.drewN nq
       have R3:=Ld (NRow.mk (Rd.out.kp.trans kd) (own_keptT Rd.out.own kd (fun _ _ h=>h)))
       generalize World.drewN wd nq=w3 at *
       clear kd c0d c2d Rd heq hye t1
       go_wp2_with fail
       go_roundw
       case rel=>exact⟨m+1,out,by omega,by go_num,R3.out,Ld ⟨by rw[HQ1.out,HD.out,HSAME.out],by have:=HOL.out;omega⟩⟩
       case measure=>simp[intOf];omega
     ·go_upto_region 6 with (fail)
      go_quiet (fail)
      have kd:Kept (fun _=>False) wr (World.drewN wr nq):=kR.drewN nq
      have Rd:=Ld (NRow.mk (R2.out.kp.trans kd) (own_keptT R2.out.own kd (fun _ _ h=>h)))
      generalize World.drewN wr nq=wd at *
      clear kd c0 c2 t1
      go_wp2_with fail
      go_roundw
      case rel=>exact⟨k+1,by omega,by go_num,Rd.out,Ld (fun j hj hjk=>by
       by_cases e:j<k
       ·exact hless.out j hj e
       ·obtain rfl:j=k:=by omega
        rw[← HX.out];exact hlo)⟩
      case measure=>simp[intOf];omega
    ·have t1:decide ((k:Int)<(out.length:Int))=false:=by simp;omega
     have hko':out.length≤k:=by omega
     go_upto_region 6 with (fail)
     go_quiet (fail)
     have kd:Kept (fun _=>False) wr (World.drewN wr nq):=kR.drewN nq
     have Rd:=Ld (NRow.mk (R2.out.kp.trans kd) (own_keptT R2.out.own kd (fun _ _ h=>h)))
     generalize World.drewN wr nq=wd at *
     clear kd c0
     go_upto_region 8 with (fail)
     go_quiet (fail)
     have kd:Kept (fun _=>False) wd (World.drewN wd nq):=kR.drewN nq
     have R3:=Ld (NRow.mk (Rd.out.kp.trans kd) (own_keptT Rd.out.own kd (fun _ _ h=>h)))
     generalize World.drewN wd nq=w3 at *
     clear kd Rd t1
     have HINS:Hid (insS s out=out.take k++s::out.drop k):=Ld (insS_end hko' hless.out)
     clear hless
     have HKL:=Ld hkl
     clear hkl
     clear hko hko'
     go_wp2_with (at_builtin;refine wpList_app_src rfl (.tmp 45) (.tmp 46) _ rfl w.heap.size 9 i9 _ 1 16 Tryz.underlying28 HI.out HZ.out HS.out HB.out rfl (by decide) (.slice va out.length vc) out.length (out.map Value.string) rfl (R3.out.own.alloc _) (.slice (some ⟨w3.heap.size,0,none⟩) 1 1) 1 [.string ⟨#[]⟩] rfl (.inr ⟨_,_,rfl,cell_one_new _ _ _⟩) rfl (strs_one [⟨#[]⟩]) ?_ ?_ ?_ ?_)
     ·have:=HOL.out;have:=HN.out;unfold maxLen;omega
     ·have:=HOL.out;have:=HN.out;omega
     ·have:=R3.out.kp.size;simp;omega
     intro v4 w4 own4 hg4 hat4
     have R4:NRow w w.heap.size w4 (out++[⟨#[]⟩]) v4:=NRow.app (W:=w3.alloc (.cells #[.string ⟨#[]⟩] 9)) (r:=[⟨#[]⟩]) ⟨R3.out.kp.alloc _,R3.out.own.alloc _⟩ (Nat.le_refl _) own4 hg4
     clear own4 hg4 hat4
     obtain⟨g4,cap4,hv4⟩:∃ g4 cap4,v4=.slice (some ⟨g4,0,none⟩) (out.length+1) cap4:=by
      rcases R4.own.2 with ⟨_,hn⟩ | ⟨g',cap',cur,hv,_⟩
      ·simp at hn
      ·exact⟨g',cap',by rw[hv];simp⟩
     subst hv4
     have O4:Hid (w4.ownsRow w.heap.size 9 1 (.slice (some ⟨g4,0,none⟩) (out.length+1) cap4) (out.length+1) ((out.take out.length++(⟨#[]⟩:ByteArray)::out.drop out.length).map Value.string)):=Ld (by
      have h:=R4.own
      rw[List.length_append,List.length_singleton] at h
      rw[List.take_length,List.drop_length]
      exact h)
     have K4:=Ld R4.kp
     clear R4 R3 R2
     have j0:((out.length+1:Nat):Int)-1=(out.length:Int):=by omega
     have jb:(out.length:Int)<1000000:=by have:=HOL.out;have:=HN.out;omega
     go_wp2_with fail
     go_loopw [6] (fun y wr'=>∃ (j:Nat) (z:ByteArray),k≤j∧j≤out.length∧y=.int .i64 j∧Kept (fun _=>False) w wr'∧Hid (wr'.ownsRow w.heap.size 9 1 (.slice (some ⟨g4,0,none⟩) (out.length+1) cap4) (out.length+1) ((out.take j++z::out.drop j).map Value.string))) (fun y _=>(intOf y).toNat)
     case atStart=>exact⟨out.length,⟨#[]⟩,HKL.out,Nat.le_refl _,by go_num,K4.out,O4⟩
     case round=>
      obtain⟨j,z,hkj,hjo,rfl,kr,HO⟩:=hrel
      have KR:=Ld kr
      have f4:∀ i,wr.frozen? ⟨g4,i,none⟩=false:=HO.out.frozenAt
      have l4:g4<wr.heap.size:=(HO.out.lt g4 rfl).2
      have c0:=HS0.out _ kr
      clear kr
      by_cases hj:k<j
      ·obtain⟨j',hjj⟩:∃ j',j=j'+1:=⟨j-1,by omega⟩
       have hx1:(out.take j++z::out.drop j)[j']?=some (out[j']'(by omega)):=by subst hjj;exact gap_get hjo
       have x1:wr.cell? ⟨g4,j',none⟩=some (.string (out[j']'(by omega))):=own_get HO.out (by omega) hx1
       have x2:wr.cell? ⟨g4,j,none⟩=some (.string z):=own_get HO.out (by omega) (by have h1:(out.take j).length=j:=List.length_take_of_le hjo;rw[List.getElem?_append_right (by omega),h1,Nat.sub_self];rfl)
       have HP:=Ld (own_put KR.out (Nat.le_refl _) HO.out j (out[j']'(by omega)))
       have hg:(out.take j++z::out.drop j).set j (out[j']'(by omega))=out.take j'++(out[j']'(by omega))::out.drop j':=by subst hjj;exact gap_set hjo
       rw[hg] at HP
       generalize hu:out[j']'(by omega)=u at *
       have j1:(j:Int)-1=(j':Int):=by omega
       have j2:(k:Int)<(j:Int):=by omega
       have j3:(j':Int)<(out.length:Int)+1:=by omega
       have j4:(j:Int)<(out.length:Int)+1:=by omega
       have j5:(j:Int)<1000001:=by omega
       have HJJ:=Ld hjj
       clear hu HO c0 hx1 hg hjj
       go_wp2_with fail
       go_roundw
       case rel=>exact⟨j',u,by have:=HJJ.out;omega,by have:=HJJ.out;omega,by go_num,HP.out.2,Ld HP.out.1⟩
       case measure=>have:=HJJ.out;simp[intOf];omega
      ·obtain rfl:j=k:=by omega
       have x2:wr.cell? ⟨g4,j,none⟩=some (.string z):=own_get HO.out (by omega) (by have h1:(out.take j).length=j:=List.length_take_of_le hjo;rw[List.getElem?_append_right (by omega),h1,Nat.sub_self];rfl)
       have HP:=Ld (own_put KR.out (Nat.le_refl _) HO.out j s)
       rw[gap_fill hjo,← HINS.out] at HP
       have j4:(j:Int)<(out.length:Int)+1:=by omega
       have HLN:Hid (out.length+1=(insS s out).length):=Ld (by rw[HINS.out,gap_len hjo])
       clear HO
       go_wp2_with fail
       go_roundw
       case rel=>exact⟨m+1,insS s out,by omega,by go_num,⟨HP.out.2,by have h:=HP.out.1;rw[HLN.out] at h;rw[← HLN.out] at h ⊢;exact h⟩,Ld ⟨by rw[HQ1.out,HD.out],by have:=(insS_len s out).2;have:=HOL.out;omega⟩⟩
       case measure=>simp[intOf];omega
  ·have hmm:m=l.length:=by omega
   subst hmm
   have HE:Hid (srtS [] l=out):=Ld (by rw[hq.out.1,List.drop_length,srtS])
   go_wp2_with fail
   go_ret
   exact⟨_,rfl,by rw[HE.out];exact R.out⟩
def BnL (ok:Nat→Prop) (w:World) (l:List (ByteArray×Tm)) (v:Value):Prop:=
 ∃ a n c,v=.slice a n c∧n=l.length∧n≤c∧(a=none→c=0)∧∀ i (h:i<l.length),∃ g off ta tn tc ma mn mc,a=some ⟨g,off,none⟩∧ok g∧g<w.heap.size∧w.cell? ⟨g,off+i*8,none⟩=some (.string l[i].1)∧C7 w g (off+i*8+1) l[i].2 (.slice ta tn tc) (.slice ma mn mc)∧TyL ok w l[i].2.ty.kids (.slice ta tn tc)∧TmL ok w l[i].2.kids (.slice ma mn mc)
theorem BnL.nil {ok:Nat→Prop} {w:World}:BnL ok w [] (.slice none 0 0):=⟨none,0,0,rfl,rfl,Nat.le_refl _,fun _=>rfl,fun i h=>absurd h (Nat.not_lt_zero _)⟩
theorem BnL.frame {ok:Nat→Prop} {w W:World} {l:List (ByteArray×Tm)} {v:Value} (h:BnL ok w l v) (hs:Same ok w W):BnL ok W l v:=by
 obtain⟨a,n,c,h1,h2,h3,h5,h4⟩:=h
 refine⟨a,n,c,h1,h2,h3,h5,fun i hi=>?_⟩
 obtain⟨g,off,ta,tn,tc,ma,mn,mc,e,hg,_,hc,h7,ht,hm⟩:=h4 i hi
 have hc':=hs.cell hg hc
 exact⟨g,off,ta,tn,tc,ma,mn,mc,e,hg,cell_lt hc',hc',h7.same hs hg,ht.frame hs,hm.frame hs⟩
theorem BnL.mono {ok ok':Nat→Prop} {w:World} {l:List (ByteArray×Tm)} {v:Value} (h:BnL ok w l v) (ho:∀ k,k<w.heap.size→ok k→ok' k):BnL ok' w l v:=by
 obtain⟨a,n,c,h1,h2,h3,h5,h4⟩:=h
 refine⟨a,n,c,h1,h2,h3,h5,fun i hi=>?_⟩
 obtain⟨g,off,ta,tn,tc,ma,mn,mc,e,hg,hl,hc,h7,ht,hm⟩:=h4 i hi
 exact⟨g,off,ta,tn,tc,ma,mn,mc,e,ho _ hl hg,hl,hc,h7,ht.mono ho,hm.mono ho⟩
theorem BnL.slice {ok:Nat→Prop} {w:World} {l:List (ByteArray×Tm)} {v:Value} (h:BnL ok w l v):∃ a c,v=.slice a l.length c:=by
 obtain⟨a,n,c,h1,h2,_⟩:=h
 exact⟨a,c,by rw[h1,h2]⟩
theorem BnL.at {ok:Nat→Prop} {w:World} {l:List (ByteArray×Tm)} {a:Option Addr} {n c:Nat} (h:BnL ok w l (.slice a n c)) (i:Nat) (hi:i<l.length):∃ g off ta tn tc ma mn mc,a=some ⟨g,off,none⟩∧ok g∧g<w.heap.size∧w.cell? ⟨g,off+i*8,none⟩=some (.string l[i].1)∧C7 w g (off+i*8+1) l[i].2 (.slice ta tn tc) (.slice ma mn mc)∧TyL ok w l[i].2.ty.kids (.slice ta tn tc)∧TmL ok w l[i].2.kids (.slice ma mn mc):=by
 obtain⟨a',n',c',h1,h2,h3,h5,h4⟩:=h
 cases h1
 exact h4 i hi
abbrev E4:=(ByteArray×Tm)×Value×Value
def bCells (e:E4):List Value:=.string e.1.1::tmCells e.1.2 e.2.1 e.2.2
def flatB:List E4→List Value
 | []=>[]
 | e::E=>bCells e++flatB E
def BEL (ok:Nat→Prop) (w:World) (E:List E4):Prop:=∀ e∈E,TyL ok w e.1.2.ty.kids e.2.1∧TmL ok w e.1.2.kids e.2.2
theorem flatB_get:∀ (E:List E4) (i j:Nat) (h:i<E.length),j<8→(flatB E)[i*8+j]?=(bCells E[i])[j]?
 | e::E,0,j,_,hj=>by
  rw[flatB,Nat.zero_mul,Nat.zero_add,List.getElem?_append_left (by show j<8;exact hj)];rfl
 | e::E,i+1,j,h,hj=>by
  rw[flatB,List.getElem?_append_right (by show 8≤_;omega)]
  have:=flatB_get E i j (by simpa using h) hj
  rw[show (i+1)*8+j-(bCells e).length=i*8+j by show (i+1)*8+j-8=_;omega,this]
  rfl
theorem bnl_of_row {ok:Nat→Prop} {w:World} {base:Nat} {v:Value} {E:List E4} (hown:w.ownsRow base 38 8 v E.length (flatB E)) (hl:BEL ok w E) (hok:∀ g,v.ownBlock=some g→ok g):BnL ok w (E.map (·.1)) v:=by
 rcases hown.2 with ⟨rfl,hn⟩ | ⟨g,cap,cur,rfl,hbg,hg,hnc,hcm,hcs,htake⟩
 ·have:E=[]:=List.length_eq_zero_iff.1 hn
  subst this;exact .nil
 ·have hb:Blk w g 38 cur.toList:=by show w.heap[g]?=_;rw[hg]
  have hc:∀ i j,i<E.length→j<8→w.cell? ⟨g,0+i*8+j,none⟩=(flatB E)[i*8+j]?:=by
   intro i j hi hj
   rw[hb.cell,← htake,List.getElem?_take,if_pos (by omega),Nat.zero_add]
  refine⟨some ⟨g,0,none⟩,E.length,cap,rfl,by simp,by omega,(fun e=>by cases e),fun i hi=>?_⟩
  have hi':i<E.length:=by simpa using hi
  have e1:(E.map (·.1))[i]=E[i].1:=List.getElem_map ..
  obtain⟨ta,tn,tc,hT⟩:=(hl _ (List.getElem_mem hi')).1.slice
  obtain⟨ma,mn,mc,hM⟩:=(hl _ (List.getElem_mem hi')).2.slice
  have q:∀ j (hj:j<8),w.cell? ⟨g,0+i*8+j,none⟩=(bCells E[i])[j]?:=fun j hj=>(hc i j hi' hj).trans (flatB_get E i j hi' hj)
  rw[e1]
  refine⟨g,0,ta,tn,tc,ma,mn,mc,rfl,hok g rfl,hb.lt,q 0 (by omega),⟨?_,?_,?_,?_,?_,?_,?_⟩,by rw[← hT];exact (hl _ (List.getElem_mem hi')).1,by rw[← hM];exact (hl _ (List.getElem_mem hi')).2⟩
  ·exact q 1 (by omega)
  ·exact q 2 (by omega)
  ·exact q 3 (by omega)
  ·exact q 4 (by omega)
  ·exact q 5 (by omega)
  ·rw[← hT];exact q 6 (by omega)
  ·rw[← hM];exact q 7 (by omega)
def EqyC (f:FuncId) (t:Ty):Prop:=∀ (t':Ty) (w:World) (ok ok':Nat→Prop) (tk tk':Value),TyL ok w t.kids tk→TyL ok' w t'.kids tk' →
 Calls Tryz.prog f #[tyVal t tk,tyVal t' tk'] w fun e w'=>e=.returned (.bool (tyEq t t'))∧Kept (fun _=>False) w w'
theorem tysEq_len:∀ (l l':List Ty),l.length≠l'.length→tysEq l l'=false
 | [],[],h=>absurd rfl h
 | [],_::_,_=>rfl
 | _::_,[],_=>rfl
 | a::l,b::l',h=>by rw[tysEq,tysEq_len l l' (by simpa using h),Bool.and_false]
theorem tysEq_drop {l l':List Ty} {k:Nat} (h:k<l.length) (h':k<l'.length):tysEq (l.drop k) (l'.drop k)=(tyEq l[k] l'[k]&&tysEq (l.drop (k+1)) (l'.drop (k+1))):=by
 rw[List.drop_eq_getElem_cons h,List.drop_eq_getElem_cons h',tysEq]
theorem tysEq_end {l l':List Ty} {k:Nat} (h:l.length≤k) (h':l'.length≤k):tysEq (l.drop k) (l'.drop k)=true:=by
 rw[List.drop_eq_nil_of_le h,List.drop_eq_nil_of_le h'];rfl
theorem rsame_one {kd:Int} {nm:ByteArray} {l:List Ty} (IH:∀ u,u∈l→EqyC 54 u) (hn:l.length≤1000000):EqyC 54 (.mk kd nm l):=by
 rintro⟨kd',nm',l'⟩ w ok ok' tk tk' h h'
 have h:TyL ok w l tk:=h
 have h':TyL ok' w l' tk':=h'
 obtain⟨a,n,c,rfl⟩:=h.slice
 obtain⟨a',n',c',rfl⟩:=h'.slice
 obtain rfl:n=l.length:=h.len
 obtain rfl:n'=l'.length:=h'.len
 have HIH:=Ld IH
 have HAT:=Ld (fun W (k:Kept (fun _=>False) w W)=>(h.frame (sK k)).at)
 have HAT':=Ld (fun W (k:Kept (fun _=>False) w W)=>(h'.frame (sK k)).at)
 clear h h' IH
 change Calls Tryz.prog 54 #[.agg #[.int .i64 kd,.string nm,.slice a l.length c],.agg #[.int .i64 kd',.string nm',.slice a' l'.length c']] w _
 have bA:Blk ((w.alloc (.cells #[.int .i64 kd,.string nm,.slice a l.length c] 24)).alloc (.cells #[.int .i64 kd',.string nm',.slice a' l'.length c'] 24)) w.heap.size 24 [.int .i64 kd,.string nm,.slice a l.length c]:=(Blk.new w 24 _).alloc _
 have bB:Blk ((w.alloc (.cells #[.int .i64 kd,.string nm,.slice a l.length c] 24)).alloc (.cells #[.int .i64 kd',.string nm',.slice a' l'.length c'] 24)) (w.heap.size+1) 24 [.int .i64 kd',.string nm',.slice a' l'.length c']:=Blk.new' 24 _ (by simp)
 have K1:Kept (fun _=>False) w ((w.alloc (.cells #[.int .i64 kd,.string nm,.slice a l.length c] 24)).alloc (.cells #[.int .i64 kd',.string nm',.slice a' l'.length c'] 24)):=(kR.alloc _).alloc _
 have HD:=Ld (show tyEq (.mk kd nm l) (.mk kd' nm' l')=(decide (kd=kd')&&decide (nm=nm')&&tysEq l l') from rfl)
 by_cases e1:kd=kd'
 case neg=>
  have t1:(kd==kd')=false:=by simpa using e1
  have t2:(kd != kd')=true:=by simpa using e1
  have HR:Hid (tyEq (.mk kd nm l) (.mk kd' nm' l')=false):=Ld (by rw[HD.out];simp[e1])
  clear e1
  go_enter Tryz.func54,Tryz.ntmps54
  go_wp2_with fail
  go_ret
  exact⟨by rw[HR.out];rfl,K1⟩
 subst e1
 cases e2:(nm.toList==nm'.toList)
 case false=>
  have t2:(nm.toList != nm'.toList)=true:=by rw[bne,e2];rfl
  have HR:Hid (tyEq (.mk kd nm l) (.mk kd nm' l')=false):=Ld (by rw[HD.out,← nm_eq,e2];simp)
  go_enter Tryz.func54,Tryz.ntmps54
  go_wp2_with fail
  go_ret
  exact⟨by rw[HR.out];rfl,K1⟩
 have t2:(nm.toList != nm'.toList)=false:=by rw[bne,e2];rfl
 have HD2:Hid (tyEq (.mk kd nm l) (.mk kd nm' l')=tysEq l l'):=Ld (by rw[HD.out,← nm_eq,e2];simp)
 clear HD
 by_cases e3:l.length=l'.length
 case neg=>
  have t3:((l.length:Int) != (l'.length:Int))=true:=by simp;omega
  have t4:((l.length:Int)==(l'.length:Int))=false:=by simp;omega
  have HR:Hid (tyEq (.mk kd nm l) (.mk kd nm' l')=false):=Ld (by rw[HD2.out,tysEq_len _ _ e3])
  clear e3
  go_enter Tryz.func54,Tryz.ntmps54
  go_wp2_with fail
  go_ret
  exact⟨by rw[HR.out];rfl,K1⟩
 have E3:=Ld e3
 rw[← e3] at bA bB K1 ⊢
 clear e3
 go_enter Tryz.func54,Tryz.ntmps54
 go_wp2_with fail
 generalize ((w.alloc (.cells #[.int .i64 kd,.string nm,.slice a l.length c] 24)).alloc (.cells #[.int .i64 kd,.string nm',.slice a' l.length c'] 24))=w1 at *
 go_loopw [5] (fun i wr=>∃ j:Nat,j≤l.length∧i=.int .i64 j∧Kept (fun _=>False) w1 wr∧Hid (tysEq l l'=tysEq (l.drop j) (l'.drop j))) (fun i _=>l.length-(intOf i).toNat)
 case atStart=>exact⟨0,Nat.zero_le _,rfl,Kept.refl _ _,Ld rfl⟩
 case round=>
  obtain⟨j,hj,rfl,kr,hq⟩:=hrel
  have g2:wr.cell? ⟨w.heap.size,2,none⟩=some (.slice a l.length c):=(bA.kept kr (fun h=>h)).cell 2
  have g2':wr.cell? ⟨w.heap.size+1,2,none⟩=some (.slice a' l.length c'):=(bB.kept kr (fun h=>h)).cell 2
  by_cases hlt:j<l.length
  ·have KR:=K1.trans kr
   have hlt':j<l'.length:=by rw[← E3.out];exact hlt
   obtain⟨g,off,ta,tn,tc,rfl,_,lg,⟨c0,c1,c2⟩,hty⟩:=HAT.out wr KR j hlt
   obtain⟨g',off',ta',tn',tc',rfl,_,lg',⟨d0,d1,d2⟩,hty'⟩:=HAT'.out wr KR j hlt'
   have hcon:=Ld (fun (W:World) (kW:Kept (fun _=>False) wr W)=>HIH.out _ (List.getElem_mem hlt) l'[j] W ok ok' _ _ (hty.frame (Same.of_kept kW (fun k h e=>e))) (hty'.frame (Same.of_kept kW (fun k h e=>e))))
   unfold tyVal at hcon
   have HS:=Ld (tysEq_drop hlt hlt')
   clear hty hty'
   have hj2:(j:Int)<(l.length:Int):=by omega
   have hj3:(j:Int)<1000000:=by omega
   go_wp2_with fail
   go_still_tail 10,(by kernel_rfl)
   change wpList _ _ _ _ _ wr.drew
   have kd:Kept (fun _=>False) wr wr.drew:=kR.drew
   generalize wr.drew=w2 at *
   cases hr:tyEq l[j] l'[j]
   ·rw[hr] at hcon
    go_wp2_with (go_at_call 54;refine (hcon.out _ kd).mono ?_;rintro e w' ⟨rfl,k2⟩)
    go_ret
    exact⟨by rw[HD2.out,hq.out,HS.out,hr];rfl,K1.trans (kr.trans (kd.trans k2))⟩
   ·rw[hr] at hcon
    go_wp2_with (go_at_call 54;refine (hcon.out _ kd).mono ?_;rintro e w' ⟨rfl,k2⟩)
    go_roundw
    case rel=>exact⟨j+1,by omega,by go_num,kr.trans (kd.trans k2),Ld (by rw[hq.out,HS.out,hr];rfl)⟩
    case measure=>simp[intOf];omega
  ·have HZ:Hid (tysEq l l'=true):=Ld (by rw[hq.out,tysEq_end (by omega) (by rw[← E3.out];omega)])
   go_wp2_with fail
   go_ret
   exact⟨by rw[HD2.out,HZ.out];rfl,K1.trans kr⟩
theorem rsameTy_any {t:Ty} (hb:BdTy t):EqyC 54 t:=by
 induction hb with
 | mk hn hl ih=>exact rsame_one ih hn
theorem eqf_any {l l':List Ty} {w:World} {ok ok':Nat→Prop} {tk tk':Value} (IH:∀ u,u∈l→EqyC 104 u) (hn:l.length≤1000000) (h:TyL ok w l tk) (h':TyL ok' w l' tk'):
  Calls Tryz.prog 151 #[tk,tk',.func (.func 104) #[] #[]] w fun e w'=>e=.returned (.bool (tysEq l l'))∧Kept (fun _=>False) w w':=by
 obtain⟨a,n,c,rfl⟩:=h.slice
 obtain⟨a',n',c',rfl⟩:=h'.slice
 obtain rfl:n=l.length:=h.len
 obtain rfl:n'=l'.length:=h'.len
 have HIH:=Ld IH
 have HAT:=Ld (fun W (k:Kept (fun _=>False) w W)=>(h.frame (sK k)).at)
 have HAT':=Ld (fun W (k:Kept (fun _=>False) w W)=>(h'.frame (sK k)).at)
 clear h h' IH
 by_cases e3:l.length=l'.length
 case neg=>
  have t3:((l.length:Int) != (l'.length:Int))=true:=by simp;omega
  have t4:((l.length:Int)==(l'.length:Int))=false:=by simp;omega
  have HR:Hid (tysEq l l'=false):=Ld (by rw[tysEq_len _ _ e3])
  clear e3
  go_enter Tryz.func151,Tryz.ntmps151
  go_wp2_with fail
  go_ret
  exact⟨by rw[HR.out];rfl,Kept.refl _ _⟩
 have E3:=Ld e3
 rw[← e3]
 clear e3
 go_enter Tryz.func151,Tryz.ntmps151
 go_wp2_with fail
 go_loopw [17] (fun i wr=>∃ j:Nat,j≤l.length∧i=.int .i64 j∧Kept (fun _=>False) w wr∧Hid (tysEq l l'=tysEq (l.drop j) (l'.drop j))) (fun i _=>l.length-(intOf i).toNat)
 case atStart=>exact⟨0,Nat.zero_le _,rfl,Kept.refl _ _,Ld rfl⟩
 case round=>
  obtain⟨j,hj,rfl,kr,hq⟩:=hrel
  by_cases hlt:j<l.length
  ·have hlt':j<l'.length:=by rw[← E3.out];exact hlt
   obtain⟨g,off,ta,tn,tc,rfl,_,lg,⟨c0,c1,c2⟩,hty⟩:=HAT.out wr kr j hlt
   obtain⟨g',off',ta',tn',tc',rfl,_,lg',⟨d0,d1,d2⟩,hty'⟩:=HAT'.out wr kr j hlt'
   have hcon:=Ld (fun (W:World) (kW:Kept (fun _=>False) wr W)=>HIH.out _ (List.getElem_mem hlt) l'[j] W ok ok' _ _ (hty.frame (Same.of_kept kW (fun k h e=>e))) (hty'.frame (Same.of_kept kW (fun k h e=>e))))
   unfold tyVal at hcon
   have HS:=Ld (tysEq_drop hlt hlt')
   clear hty hty'
   have hj2:(j:Int)<(l.length:Int):=by omega
   have hj3:(j:Int)<1000000:=by omega
   have kA:Kept (fun _=>False) wr ((wr.alloc (.cells #[.int .i64 l[j].kind,.string l[j].name,.slice ta tn tc] 24)).alloc (.cells #[.int .i64 l'[j].kind,.string l'[j].name,.slice ta' tn' tc'] 24)):=(kR.alloc _).alloc _
   cases hr:tyEq l[j] l'[j]
   ·rw[hr] at hcon
    go_wp2_with (go_at_call 104;refine (hcon.out _ kA).mono ?_;rintro e w' ⟨rfl,k2⟩)
    go_ret
    exact⟨by rw[hq.out,HS.out,hr];rfl,kr.trans (kA.trans k2)⟩
   ·rw[hr] at hcon
    go_wp2_with (go_at_call 104;refine (hcon.out _ kA).mono ?_;rintro e w' ⟨rfl,k2⟩)
    go_roundw
    case rel=>exact⟨j+1,by omega,by go_num,kr.trans (kA.trans k2),Ld (by rw[hq.out,HS.out,hr];rfl)⟩
    case measure=>simp[intOf];omega
  ·have HZ:Hid (tysEq l l'=true):=Ld (by rw[hq.out,tysEq_end (by omega) (by rw[← E3.out];omega)])
   go_wp2_with fail
   go_ret
   exact⟨by rw[HZ.out];rfl,kr⟩
theorem same_one1 {kd:Int} {nm:ByteArray} {l:List Ty} (IH:∀ u,u∈l→EqyC 104 u) (hn:l.length≤1000000):EqyC 104 (.mk kd nm l):=by
 rintro⟨kd',nm',l'⟩ w ok ok' tk tk' h h'
 have h:TyL ok w l tk:=h
 have h':TyL ok' w l' tk':=h'
 obtain⟨a,n,c,rfl⟩:=h.slice
 obtain⟨a',n',c',rfl⟩:=h'.slice
 have bA:Blk ((w.alloc (.cells #[.int .i64 kd,.string nm,.slice a n c] 24)).alloc (.cells #[.int .i64 kd',.string nm',.slice a' n' c'] 24)) w.heap.size 24 [.int .i64 kd,.string nm,.slice a n c]:=(Blk.new w 24 _).alloc _
 have bB:Blk ((w.alloc (.cells #[.int .i64 kd,.string nm,.slice a n c] 24)).alloc (.cells #[.int .i64 kd',.string nm',.slice a' n' c'] 24)) (w.heap.size+1) 24 [.int .i64 kd',.string nm',.slice a' n' c']:=Blk.new' 24 _ (by simp)
 have K1:Kept (fun _=>False) w ((w.alloc (.cells #[.int .i64 kd,.string nm,.slice a n c] 24)).alloc (.cells #[.int .i64 kd',.string nm',.slice a' n' c'] 24)):=(kR.alloc _).alloc _
 have HQ:=Ld (eqf_any IH hn (h.frame (sK K1)) (h'.frame (sK K1)))
 clear h h' IH
 change Calls Tryz.prog 104 #[.agg #[.int .i64 kd,.string nm,.slice a n c],.agg #[.int .i64 kd',.string nm',.slice a' n' c']] w _
 have HD:=Ld (show tyEq (.mk kd nm l) (.mk kd' nm' l')=(decide (kd=kd')&&decide (nm=nm')&&tysEq l l') from rfl)
 by_cases e1:kd=kd'
 case neg=>
  have t1:(kd==kd')=false:=by simpa using e1
  have t2:(kd != kd')=true:=by simpa using e1
  have HR:Hid (tyEq (.mk kd nm l) (.mk kd' nm' l')=false):=Ld (by rw[HD.out];simp[e1])
  clear e1 HQ
  go_enter Tryz.func104,Tryz.ntmps104
  go_wp2_with fail
  go_ret
  exact⟨by rw[HR.out];rfl,K1⟩
 subst e1
 cases e2:(nm.toList==nm'.toList)
 case false=>
  have t2:(nm.toList != nm'.toList)=true:=by rw[bne,e2];rfl
  have HR:Hid (tyEq (.mk kd nm l) (.mk kd nm' l')=false):=Ld (by rw[HD.out,← nm_eq,e2];simp)
  clear HQ
  go_enter Tryz.func104,Tryz.ntmps104
  go_wp2_with fail
  go_ret
  exact⟨by rw[HR.out];rfl,K1⟩
 have t2:(nm.toList != nm'.toList)=false:=by rw[bne,e2];rfl
 have HD2:Hid (tyEq (.mk kd nm l) (.mk kd nm' l')=tysEq l l'):=Ld (by rw[HD.out,← nm_eq,e2];simp)
 clear HD
 go_enter Tryz.func104,Tryz.ntmps104
 go_wp2_with (go_at_call 151;refine HQ.out.mono ?_;rintro e w' ⟨rfl,k2⟩)
 go_ret
 exact⟨by rw[HD2.out];rfl,K1.trans k2⟩
theorem sameType_any {t:Ty} (hb:BdTy t):EqyC 104 t:=by
 induction hb with
 | mk hn hl ih=>exact same_one1 ih hn
def EqmC (t:Tm):Prop:=∀ (t':Tm) (w:World) (ok ok':Nat→Prop) (tk kk tk' kk':Value),TyL ok w t.ty.kids tk→TmL ok w t.kids kk→TyL ok' w t'.ty.kids tk'→TmL ok' w t'.kids kk' →
 Calls Tryz.prog 20 #[tmVal t tk kk,tmVal t' tk' kk'] w fun e w'=>e=.returned (.bool (tmEq t t'))∧Kept (fun _=>False) w w'
theorem tmsEq_len:∀ (l l':List Tm),l.length≠l'.length→tmsEq l l'=false
 | [],[],h=>absurd rfl h
 | [],_::_,_=>rfl
 | _::_,[],_=>rfl
 | a::l,b::l',h=>by rw[tmsEq,tmsEq_len l l' (by simpa using h),Bool.and_false]
theorem tmsEq_drop {l l':List Tm} {k:Nat} (h:k<l.length) (h':k<l'.length):tmsEq (l.drop k) (l'.drop k)=(tmEq l[k] l'[k]&&tmsEq (l.drop (k+1)) (l'.drop (k+1))):=by
 rw[List.drop_eq_getElem_cons h,List.drop_eq_getElem_cons h',tmsEq]
theorem tmsEq_end {l l':List Tm} {k:Nat} (h:l.length≤k) (h':l'.length≤k):tmsEq (l.drop k) (l'.drop k)=true:=by
 rw[List.drop_eq_nil_of_le h,List.drop_eq_nil_of_le h'];rfl
theorem rsames_any {l l':List Tm} {w:World} {ok ok':Nat→Prop} {v v':Value} (IH:∀ u,u∈l→EqmC u) (hn:l.length≤1000000) (h:TmL ok w l v) (h':TmL ok' w l' v'):
  Calls Tryz.prog 55 #[v,v'] w fun e w'=>e=.returned (.bool (tmsEq l l'))∧Kept (fun _=>False) w w':=by
 obtain⟨a,n,c,rfl⟩:=h.slice
 obtain⟨a',n',c',rfl⟩:=h'.slice
 obtain rfl:n=l.length:=h.len
 obtain rfl:n'=l'.length:=h'.len
 have HIH:=Ld IH
 have HAT:=Ld (fun W (k:Kept (fun _=>False) w W)=>(h.frame (sK k)).at)
 have HAT':=Ld (fun W (k:Kept (fun _=>False) w W)=>(h'.frame (sK k)).at)
 clear h h' IH
 by_cases e3:l.length=l'.length
 case neg=>
  have t3:((l.length:Int) != (l'.length:Int))=true:=by simp;omega
  have t4:((l.length:Int)==(l'.length:Int))=false:=by simp;omega
  have HR:Hid (tmsEq l l'=false):=Ld (by rw[tmsEq_len _ _ e3])
  clear e3
  go_enter Tryz.func55,Tryz.ntmps55
  go_wp2_with fail
  go_ret
  exact⟨by rw[HR.out];rfl,Kept.refl _ _⟩
 have E3:=Ld e3
 rw[← e3]
 clear e3
 go_enter Tryz.func55,Tryz.ntmps55
 go_wp2_with fail
 go_loopw [5] (fun i wr=>∃ j:Nat,j≤l.length∧i=.int .i64 j∧Kept (fun _=>False) w wr∧Hid (tmsEq l l'=tmsEq (l.drop j) (l'.drop j))) (fun i _=>l.length-(intOf i).toNat)
 case atStart=>exact⟨0,Nat.zero_le _,rfl,Kept.refl _ _,Ld rfl⟩
 case round=>
  obtain⟨j,hj,rfl,kr,hq⟩:=hrel
  by_cases hlt:j<l.length
  ·have hlt':j<l'.length:=by rw[← E3.out];exact hlt
   obtain⟨g,off,ta,tn,tc,ma,mn,mc,rfl,_,lg,⟨c0,c1,c2,c3,c4,c5,c6⟩,hty,htm⟩:=HAT.out wr kr j hlt
   obtain⟨g',off',ta',tn',tc',ma',mn',mc',rfl,_,lg',⟨d0,d1,d2,d3,d4,d5,d6⟩,hty',htm'⟩:=HAT'.out wr kr j hlt'
   have hcon:=Ld (fun (W:World) (kW:Kept (fun _=>False) wr W)=>HIH.out _ (List.getElem_mem hlt) l'[j] W ok ok' _ _ _ _ (hty.frame (Same.of_kept kW (fun k h e=>e))) (htm.frame (Same.of_kept kW (fun k h e=>e))) (hty'.frame (Same.of_kept kW (fun k h e=>e))) (htm'.frame (Same.of_kept kW (fun k h e=>e))))
   unfold tmVal at hcon
   have HS:=Ld (tmsEq_drop hlt hlt')
   clear hty hty' htm htm'
   have hj2:(j:Int)<(l.length:Int):=by omega
   have hj3:(j:Int)<1000000:=by omega
   go_wp2_with fail
   go_still_tail 8,(by kernel_rfl)
   change wpList _ _ _ _ _ wr.drew
   have kd:Kept (fun _=>False) wr wr.drew:=kR.drew
   generalize wr.drew=w2 at *
   cases hr:tmEq l[j] l'[j]
   ·rw[hr] at hcon
    go_wp2_with (go_at_call 20;refine (hcon.out _ kd).mono ?_;rintro e w' ⟨rfl,k2⟩)
    go_ret
    exact⟨by rw[hq.out,HS.out,hr];rfl,kr.trans (kd.trans k2)⟩
   ·rw[hr] at hcon
    go_wp2_with (go_at_call 20;refine (hcon.out _ kd).mono ?_;rintro e w' ⟨rfl,k2⟩)
    go_roundw
    case rel=>exact⟨j+1,by omega,by go_num,kr.trans (kd.trans k2),Ld (by rw[hq.out,HS.out,hr];rfl)⟩
    case measure=>simp[intOf];omega
  ·have HZ:Hid (tmsEq l l'=true):=Ld (by rw[hq.out,tmsEq_end (by omega) (by rw[← E3.out];omega)])
   go_wp2_with fail
   go_ret
   exact⟨by rw[HZ.out];rfl,kr⟩
theorem rsameTm_one {op:Int} {nm:ByteArray} {N:Int} {ty:Ty} {l:List Tm} (hty:BdTy ty) (IH:∀ u,u∈l→EqmC u) (hn:l.length≤1000000):EqmC (.mk op nm N ty l):=by
 rintro⟨op',nm',N',ty',l'⟩ w ok ok' tk kk tk' kk' h1 h2 h3 h4
 have h1:TyL ok w ty.kids tk:=h1
 have h2:TmL ok w l kk:=h2
 have h3:TyL ok' w ty'.kids tk':=h3
 have h4:TmL ok' w l' kk':=h4
 obtain⟨a,n,c,rfl⟩:=h1.slice
 obtain⟨ma,mn,mc,rfl⟩:=h2.slice
 obtain⟨a',n',c',rfl⟩:=h3.slice
 obtain⟨ma',mn',mc',rfl⟩:=h4.slice
 change Calls Tryz.prog 20 #[.agg #[.int .i64 op,.string nm,.int .i64 N,.int .i64 ty.kind,.string ty.name,.slice a n c,.slice ma mn mc],.agg #[.int .i64 op',.string nm',.int .i64 N',.int .i64 ty'.kind,.string ty'.name,.slice a' n' c',.slice ma' mn' mc']] w _
 have bA:Blk ((w.alloc (.cells #[.int .i64 op,.string nm,.int .i64 N,.int .i64 ty.kind,.string ty.name,.slice a n c,.slice ma mn mc] 27)).alloc (.cells #[.int .i64 op',.string nm',.int .i64 N',.int .i64 ty'.kind,.string ty'.name,.slice a' n' c',.slice ma' mn' mc'] 27)) w.heap.size 27 [.int .i64 op,.string nm,.int .i64 N,.int .i64 ty.kind,.string ty.name,.slice a n c,.slice ma mn mc]:=(Blk.new w 27 _).alloc _
 have bB:Blk ((w.alloc (.cells #[.int .i64 op,.string nm,.int .i64 N,.int .i64 ty.kind,.string ty.name,.slice a n c,.slice ma mn mc] 27)).alloc (.cells #[.int .i64 op',.string nm',.int .i64 N',.int .i64 ty'.kind,.string ty'.name,.slice a' n' c',.slice ma' mn' mc'] 27)) (w.heap.size+1) 27 [.int .i64 op',.string nm',.int .i64 N',.int .i64 ty'.kind,.string ty'.name,.slice a' n' c',.slice ma' mn' mc']:=Blk.new' 27 _ (by simp)
 have K1:Kept (fun _=>False) w ((w.alloc (.cells #[.int .i64 op,.string nm,.int .i64 N,.int .i64 ty.kind,.string ty.name,.slice a n c,.slice ma mn mc] 27)).alloc (.cells #[.int .i64 op',.string nm',.int .i64 N',.int .i64 ty'.kind,.string ty'.name,.slice a' n' c',.slice ma' mn' mc'] 27)):=(kR.alloc _).alloc _
 have HT:=Ld (fun W (kW:Kept (fun _=>False) w W)=>rsameTy_any hty ty' W ok ok' _ _ (h1.frame (Same.of_kept kW (fun k h e=>e))) (h3.frame (Same.of_kept kW (fun k h e=>e))))
 have HS:=Ld (fun W (kW:Kept (fun _=>False) w W)=>rsames_any IH hn (h2.frame (Same.of_kept kW (fun k h e=>e))) (h4.frame (Same.of_kept kW (fun k h e=>e))))
 unfold tyVal at HT
 have HD:=Ld (show tmEq (.mk op nm N ty l) (.mk op' nm' N' ty' l')=(decide (op=op')&&decide (nm=nm')&&decide (N=N')&&tyEq ty ty'&&tmsEq l l') from rfl)
 clear h1 h2 h3 h4 IH
 generalize tmEq (.mk op nm N ty l) (.mk op' nm' N' ty' l')=rr at *
 by_cases e1:op=op'
 case neg=>
  have t1:(op==op')=false:=by simpa using e1
  have HR:Hid (rr=false):=Ld (by rw[HD.out];simp[e1])
  clear e1
  go_enter Tryz.func20,Tryz.ntmps20
  go_wp2_with fail
  go_ret
  exact⟨by rw[HR.out];rfl,K1⟩
 subst e1
 cases e2:(nm.toList==nm'.toList)
 case false=>
  have HR:Hid (rr=false):=Ld (by rw[HD.out,← nm_eq,e2];simp)
  go_enter Tryz.func20,Tryz.ntmps20
  go_wp2_with fail
  go_ret
  exact⟨by rw[HR.out];rfl,K1⟩
 by_cases e3:N=N'
 case neg=>
  have t1:(N==N')=false:=by simpa using e3
  have HR:Hid (rr=false):=Ld (by rw[HD.out];simp[e3])
  clear e3
  go_enter Tryz.func20,Tryz.ntmps20
  go_wp2_with fail
  go_ret
  exact⟨by rw[HR.out];rfl,K1⟩
 subst e3
 have HD2:Hid (rr=(tyEq ty ty'&&tmsEq l l')):=Ld (by rw[HD.out,← nm_eq,e2];simp)
 clear HD
 go_enter Tryz.func20,Tryz.ntmps20
 go_wp2_with fail
 generalize ((w.alloc (.cells #[.int .i64 op,.string nm,.int .i64 N,.int .i64 ty.kind,.string ty.name,.slice a n c,.slice ma mn mc] 27)).alloc (.cells #[.int .i64 op,.string nm',.int .i64 N,.int .i64 ty'.kind,.string ty'.name,.slice a' n' c',.slice ma' mn' mc'] 27))=w1 at *
 cases ht:tyEq ty ty'
 ·have HR:Hid (rr=false):=Ld (by rw[HD2.out,ht];rfl)
  refine (HT.out _ K1).mono ?_
  rintro e w2 ⟨rfl,k2⟩
  go_wp2_with fail
  go_ret
  exact⟨by rw[HR.out];rfl,K1.trans k2⟩
 ·have HR:Hid (rr=tmsEq l l'):=Ld (by rw[HD2.out,ht];rfl)
  refine (HT.out _ K1).mono ?_
  rintro e w2 ⟨rfl,k2⟩
  have gA2:∀ i,w2.cell? ⟨w.heap.size,i,none⟩=[Value.int .i64 op,.string nm,.int .i64 N,.int .i64 ty.kind,.string ty.name,.slice a n c,.slice ma mn mc][i]?:=(bA.kept k2 (fun h=>h)).cell
  have gB2:∀ i,w2.cell? ⟨w.heap.size+1,i,none⟩=[Value.int .i64 op,.string nm',.int .i64 N,.int .i64 ty'.kind,.string ty'.name,.slice a' n' c',.slice ma' mn' mc'][i]?:=(bB.kept k2 (fun h=>h)).cell
  go_wp2_with fail
  refine (HS.out _ (K1.trans k2)).mono ?_
  rintro e w3 ⟨rfl,k3⟩
  go_wp2_with fail
  go_ret
  exact⟨by rw[HR.out];rfl,(K1.trans k2).trans k3⟩
theorem rsameTm_any {t:Tm} (hb:BdTm t):EqmC t:=by
 induction hb with
 | mk hn ht hl ih=>exact rsameTm_one ht ih hn
theorem alikeK_drop {bi:Bool} {nm nm':ByteArray} {l l':List Tm} {k:Nat} {X Y:List ByteArray} (h:k<l.length) (h':k<l'.length):alikeK bi nm nm' k (l.drop k) (l'.drop k) X Y=(alikeT l[k] l'[k] (if bi&&k==1 then X++[nm] else X) (if bi&&k==1 then Y++[nm'] else Y)&&alikeK bi nm nm' (k+1) (l.drop (k+1)) (l'.drop (k+1)) X Y):=by
 rw[List.drop_eq_getElem_cons h,List.drop_eq_getElem_cons h',alikeK]
theorem alikeK_end {bi:Bool} {nm nm':ByteArray} {l l':List Tm} {k:Nat} {X Y:List ByteArray} (h:l.length≤k):alikeK bi nm nm' k (l.drop k) (l'.drop k) X Y=true:=by
 rw[List.drop_eq_nil_of_le h];simp[alikeK]
theorem tmDs_mem {u:Tm}:∀ {l:List Tm},u∈l→tmD u≤tmDs l
 | a::l,h=>by
  rw[tmDs]
  rcases List.mem_cons.1 h with rfl | h
  ·exact Nat.le_max_left _ _
  ·exact Nat.le_trans (tmDs_mem h) (Nat.le_max_right _ _)
def RAlC (t:Tm):Prop:=∀ (t':Tm) (X Y:List ByteArray) (w:World) (ok ok' kx ky:Nat→Prop) (tk kk tk' kk' vx vy:Value),TyL ok w t.ty.kids tk→TmL ok w t.kids kk→TyL ok' w t'.ty.kids tk'→TmL ok' w t'.kids kk'→NmL kx w X vx→NmL ky w Y vy→X.length+tmD t≤900000→Y.length+tmD t≤900000 →
 Calls Tryz.prog 58 #[tmVal t tk kk,tmVal t' tk' kk',vx,vy] w fun e w'=>e=.returned (.bool (alikeT t t' X Y))∧Kept (fun _=>False) w w'
theorem ralike_name {nm:ByteArray} {N:Int} {ty:Ty} {l:List Tm} (hty:BdTy ty) (hn:l.length≤1000000):RAlC (.mk 20 nm N ty l):=by
 rintro⟨op',nm',N',ty',l'⟩ X Y w ok ok' kx ky tk kk tk' kk' vx vy h1 h2 h3 h4 hx hy bx bY
 have h1:TyL ok w ty.kids tk:=h1
 have h2:TmL ok w l kk:=h2
 have h3:TyL ok' w ty'.kids tk':=h3
 have h4:TmL ok' w l' kk':=h4
 obtain⟨a,n,c,rfl⟩:=h1.slice
 obtain⟨ma,mn,mc,rfl⟩:=h2.slice
 obtain⟨a',n',c',rfl⟩:=h3.slice
 obtain⟨ma',mn',mc',rfl⟩:=h4.slice
 obtain rfl:mn=l.length:=h2.len
 obtain rfl:mn'=l'.length:=h4.len
 change Calls Tryz.prog 58 #[.agg #[.int .i64 20,.string nm,.int .i64 N,.int .i64 ty.kind,.string ty.name,.slice a n c,.slice ma l.length mc],.agg #[.int .i64 op',.string nm',.int .i64 N',.int .i64 ty'.kind,.string ty'.name,.slice a' n' c',.slice ma' l'.length mc'],vx,vy] w _
 have bA:Blk ((w.alloc (.cells #[.int .i64 20,.string nm,.int .i64 N,.int .i64 ty.kind,.string ty.name,.slice a n c,.slice ma l.length mc] 27)).alloc (.cells #[.int .i64 op',.string nm',.int .i64 N',.int .i64 ty'.kind,.string ty'.name,.slice a' n' c',.slice ma' l'.length mc'] 27)) w.heap.size 27 [.int .i64 20,.string nm,.int .i64 N,.int .i64 ty.kind,.string ty.name,.slice a n c,.slice ma l.length mc]:=(Blk.new w 27 _).alloc _
 have bB:Blk ((w.alloc (.cells #[.int .i64 20,.string nm,.int .i64 N,.int .i64 ty.kind,.string ty.name,.slice a n c,.slice ma l.length mc] 27)).alloc (.cells #[.int .i64 op',.string nm',.int .i64 N',.int .i64 ty'.kind,.string ty'.name,.slice a' n' c',.slice ma' l'.length mc'] 27)) (w.heap.size+1) 27 [.int .i64 op',.string nm',.int .i64 N',.int .i64 ty'.kind,.string ty'.name,.slice a' n' c',.slice ma' l'.length mc']:=Blk.new' 27 _ (by simp)
 have K1:Kept (fun _=>False) w ((w.alloc (.cells #[.int .i64 20,.string nm,.int .i64 N,.int .i64 ty.kind,.string ty.name,.slice a n c,.slice ma l.length mc] 27)).alloc (.cells #[.int .i64 op',.string nm',.int .i64 N',.int .i64 ty'.kind,.string ty'.name,.slice a' n' c',.slice ma' l'.length mc'] 27)):=(kR.alloc _).alloc _
 have HT:=Ld (fun W (kW:Kept (fun _=>False) w W)=>rsameTy_any hty ty' W ok ok' _ _ (h1.frame (Same.of_kept kW (fun k h e=>e))) (h3.frame (Same.of_kept kW (fun k h e=>e))))
 have HLX:=Ld (fun W (kW:Kept (fun _=>False) w W)=>rlast_any nm (hx.frame (Same.of_kept kW (fun k h e=>e))) (by omega))
 have HLY:=Ld (fun W (kW:Kept (fun _=>False) w W)=>rlast_any nm' (hy.frame (Same.of_kept kW (fun k h e=>e))) (by omega))
 unfold tyVal at HT
 have HD:=Ld (show alikeT (.mk 20 nm N ty l) (.mk op' nm' N' ty' l') X Y=((decide (20=op')&&decide (N=N')&&tyEq ty ty'&&decide (l.length=l'.length))&&(decide (lastI nm X=lastI nm' Y)&&(decide (0≤lastI nm X)||decide (nm=nm')))) by rw[alikeT];simp)
 clear h1 h2 h3 h4 hx hy bx bY
 generalize alikeT (.mk 20 nm N ty l) (.mk op' nm' N' ty' l') X Y=rr at *
 by_cases e1:(20:Int)=op'
 case neg=>
  have t1:((20:Int)==op')=false:=by simpa using e1
  have t2:((20:Int) != op')=true:=by simpa using e1
  have HR:Hid (rr=false):=Ld (by rw[HD.out];simp[e1])
  clear e1
  go_enter Tryz.func58,Tryz.ntmps58
  go_wp2_with fail
  go_ret
  exact⟨by rw[HR.out];rfl,K1⟩
 subst e1
 by_cases e3:N=N'
 case neg=>
  have t1:(N==N')=false:=by simpa using e3
  have t2:(N != N')=true:=by simpa using e3
  have HR:Hid (rr=false):=Ld (by rw[HD.out];simp[e3])
  clear e3
  go_enter Tryz.func58,Tryz.ntmps58
  go_wp2_with fail
  go_ret
  exact⟨by rw[HR.out];rfl,K1⟩
 subst e3
 go_enter Tryz.func58,Tryz.ntmps58
 go_wp2_with fail
 generalize ((w.alloc (.cells #[.int .i64 20,.string nm,.int .i64 N,.int .i64 ty.kind,.string ty.name,.slice a n c,.slice ma l.length mc] 27)).alloc (.cells #[.int .i64 20,.string nm',.int .i64 N,.int .i64 ty'.kind,.string ty'.name,.slice a' n' c',.slice ma' l'.length mc'] 27))=w1 at *
 cases ht:tyEq ty ty'
 ·have HR:Hid (rr=false):=Ld (by rw[HD.out,ht];simp)
  refine (HT.out _ K1).mono ?_
  rintro e w2 ⟨rfl,k2⟩
  go_wp2_with fail
  go_ret
  exact⟨by rw[HR.out];rfl,K1.trans k2⟩
 refine (HT.out _ K1).mono ?_
 rintro e w2 ⟨rfl,k2⟩
 have gA2:∀ i,w2.cell? ⟨w.heap.size,i,none⟩=[Value.int .i64 20,.string nm,.int .i64 N,.int .i64 ty.kind,.string ty.name,.slice a n c,.slice ma l.length mc][i]?:=(bA.kept k2 (fun h=>h)).cell
 have gB2:∀ i,w2.cell? ⟨w.heap.size+1,i,none⟩=[Value.int .i64 20,.string nm',.int .i64 N,.int .i64 ty'.kind,.string ty'.name,.slice a' n' c',.slice ma' l'.length mc'][i]?:=(bB.kept k2 (fun h=>h)).cell
 have K2:=K1.trans k2
 clear gA2 gB2
 have bA2:=bA.kept k2 (fun h=>h)
 have bB2:=bB.kept k2 (fun h=>h)
 clear bA bB K1 k2
 have gA:∀ i,w2.cell? ⟨w.heap.size,i,none⟩=[Value.int .i64 20,.string nm,.int .i64 N,.int .i64 ty.kind,.string ty.name,.slice a n c,.slice ma l.length mc][i]?:=bA2.cell
 have gB:∀ i,w2.cell? ⟨w.heap.size+1,i,none⟩=[Value.int .i64 20,.string nm',.int .i64 N,.int .i64 ty'.kind,.string ty'.name,.slice a' n' c',.slice ma' l'.length mc'][i]?:=bB2.cell
 by_cases e4:l.length=l'.length
 case neg=>
  have t1:((l.length:Int) != (l'.length:Int))=true:=by simp;omega
  have t2:((l.length:Int)==(l'.length:Int))=false:=by simp;omega
  have HR:Hid (rr=false):=Ld (by rw[HD.out];simp[e4])
  clear e4
  go_wp2_with fail
  go_ret
  exact⟨by rw[HR.out];rfl,K2⟩
 have HR:Hid (rr=(decide (lastI nm X=lastI nm' Y)&&(decide (0≤lastI nm X)||(nm.toList==nm'.toList)))):=Ld (by rw[HD.out,ht,nm_eq];simp[e4])
 clear HD
 rw[← e4] at gB ⊢
 clear e4
 have t4:((l.length:Int) != (l.length:Int))=false:=by simp
 have x1:w2.cell? ⟨w.heap.size,1,none⟩=some (.string nm):=gA 1
 have x2:w2.cell? ⟨w.heap.size+1,1,none⟩=some (.string nm'):=gB 1
 have HS:=Ld (fun W (k:Kept (fun _=>False) w2 W)=>(⟨(bA2.kept k (fun h=>h)).cell 1,(bB2.kept k (fun h=>h)).cell 1⟩:W.cell? ⟨w.heap.size,1,none⟩=some (.string nm)∧W.cell? ⟨w.heap.size+1,1,none⟩=some (.string nm')))
 have KD:Kept (fun _=>False) w2 w2.drew:=kR.drew
 have HXY:Hid (∀ (W:World) (v:Value) (s:ByteArray) (r:Int),Kept (fun _=>False) w2 W→((s=nm∧v=vx∧r=lastI nm X)∨(s=nm'∧v=vy∧r=lastI nm' Y))→Calls Tryz.prog 107 #[.string s,v] W fun e w'=>e=.returned (.int .i64 r)∧Kept (fun _=>False) W w'):=Ld (by
  rintro W v s r k (⟨rfl,rfl,rfl⟩ | ⟨rfl,rfl,rfl⟩)
  ·exact (HLX.out W (K2.trans k)).mono fun e w' h=>⟨h.1,h.2 ▸ Kept.refl _ _⟩
  ·exact (HLY.out W (K2.trans k)).mono fun e w' h=>⟨h.1,h.2 ▸ Kept.refl _ _⟩)
 go_wp2_with fail
 clear HT bA2 bB2 HLX HLY t4 ht gA gB
 generalize lastI nm X=p at *
 generalize lastI nm' Y=q at *
 go_region_held3 (fun w'=>w'.cell? ⟨w.heap.size,1,none⟩=some (.string nm)∧w'.cell? ⟨w.heap.size+1,1,none⟩=some (.string nm')) (go_keep)
  (first | (go_at_call 107;refine (HXY.out _ _ _ _ (by first | exact KD | exact KE) (by first | exact Or.inl ⟨rfl,rfl,rfl⟩ | exact Or.inr ⟨rfl,rfl,rfl⟩)).mono ?_;rintro e wq ⟨rfl,kq⟩;first | (have KF:=KE.trans kq;obtain⟨n0,n1⟩:=HS.out _ KF) | (have KE:=KD.trans kq;obtain⟨m0,m1⟩:=HS.out _ KE)))
 all_goals
  by_cases f1:p=q
  case neg=>
   have g1:(p==q)=false:=by simpa using f1
   go_wp2_with fail
   go_ret
   exact⟨by rw[HR.out];simp[f1],K2.trans KF⟩
  subst f1
  by_cases f2:0≤p
  case pos=>
   have g2:decide (0≤p)=true:=by simpa using f2
   go_wp2_with fail
   go_ret
   exact⟨by rw[HR.out];simp[f2],K2.trans KF⟩
  have g2:decide (0≤p)=false:=by simpa using f2
  cases f3:(nm.toList==nm'.toList)
  ·go_wp2_with fail
   go_ret
   exact⟨by rw[HR.out];simp[f2,f3],K2.trans KF⟩
  ·go_wp2_with fail
   go_ret
   exact⟨by rw[HR.out];simp[f2,f3],K2.trans KF⟩
theorem ralike_one {op:Int} {nm:ByteArray} {N:Int} {ty:Ty} {l:List Tm} (h20:op≠20) (hty:BdTy ty) (IH:∀ u,u∈l→RAlC u) (hn:l.length≤1000000):RAlC (.mk op nm N ty l):=by
 rintro⟨op',nm',N',ty',l'⟩ X Y w ok ok' kx ky tk kk tk' kk' vx vy h1 h2 h3 h4 hx hy bx bY
 have h1:TyL ok w ty.kids tk:=h1
 have h2:TmL ok w l kk:=h2
 have h3:TyL ok' w ty'.kids tk':=h3
 have h4:TmL ok' w l' kk':=h4
 obtain⟨a,n,c,rfl⟩:=h1.slice
 obtain⟨ma,mn,mc,rfl⟩:=h2.slice
 obtain⟨a',n',c',rfl⟩:=h3.slice
 obtain⟨ma',mn',mc',rfl⟩:=h4.slice
 obtain rfl:mn=l.length:=h2.len
 obtain rfl:mn'=l'.length:=h4.len
 change Calls Tryz.prog 58 #[.agg #[.int .i64 op,.string nm,.int .i64 N,.int .i64 ty.kind,.string ty.name,.slice a n c,.slice ma l.length mc],.agg #[.int .i64 op',.string nm',.int .i64 N',.int .i64 ty'.kind,.string ty'.name,.slice a' n' c',.slice ma' l'.length mc'],vx,vy] w _
 have bA:Blk ((w.alloc (.cells #[.int .i64 op,.string nm,.int .i64 N,.int .i64 ty.kind,.string ty.name,.slice a n c,.slice ma l.length mc] 27)).alloc (.cells #[.int .i64 op',.string nm',.int .i64 N',.int .i64 ty'.kind,.string ty'.name,.slice a' n' c',.slice ma' l'.length mc'] 27)) w.heap.size 27 [.int .i64 op,.string nm,.int .i64 N,.int .i64 ty.kind,.string ty.name,.slice a n c,.slice ma l.length mc]:=(Blk.new w 27 _).alloc _
 have bB:Blk ((w.alloc (.cells #[.int .i64 op,.string nm,.int .i64 N,.int .i64 ty.kind,.string ty.name,.slice a n c,.slice ma l.length mc] 27)).alloc (.cells #[.int .i64 op',.string nm',.int .i64 N',.int .i64 ty'.kind,.string ty'.name,.slice a' n' c',.slice ma' l'.length mc'] 27)) (w.heap.size+1) 27 [.int .i64 op',.string nm',.int .i64 N',.int .i64 ty'.kind,.string ty'.name,.slice a' n' c',.slice ma' l'.length mc']:=Blk.new' 27 _ (by simp)
 have K1:Kept (fun _=>False) w ((w.alloc (.cells #[.int .i64 op,.string nm,.int .i64 N,.int .i64 ty.kind,.string ty.name,.slice a n c,.slice ma l.length mc] 27)).alloc (.cells #[.int .i64 op',.string nm',.int .i64 N',.int .i64 ty'.kind,.string ty'.name,.slice a' n' c',.slice ma' l'.length mc'] 27)):=(kR.alloc _).alloc _
 have HT:=Ld (fun W (kW:Kept (fun _=>False) w W)=>rsameTy_any hty ty' W ok ok' _ _ (h1.frame (Same.of_kept kW (fun k h e=>e))) (h3.frame (Same.of_kept kW (fun k h e=>e))))
 have bX:X.length+(tmDs l+1)≤900000:=by rw[tmD] at bx;exact bx
 have bY2:Y.length+(tmDs l+1)≤900000:=by rw[tmD] at bY;exact bY
 have HIH:=Ld IH
 have HAT:=Ld (fun W (k:Kept (fun _=>False) w W)=>(h2.frame (sK k)).at)
 have HAT':=Ld (fun W (k:Kept (fun _=>False) w W)=>(h4.frame (sK k)).at)
 have HX:=Ld (fun W (k:Kept (fun _=>False) w W)=>hx.frame (sK k))
 have HY:=Ld (fun W (k:Kept (fun _=>False) w W)=>hy.frame (sK k))
 have HBX:=Ld bX
 have HBY:=Ld bY2
 unfold tyVal at HT
 have HD:=Ld (show alikeT (.mk op nm N ty l) (.mk op' nm' N' ty' l') X Y=((decide (op=op')&&decide (N=N')&&tyEq ty ty'&&decide (l.length=l'.length))&&alikeK (binderB op) nm nm' 0 l l' X Y) by rw[alikeT,if_neg h20])
 clear h1 h2 h3 h4 hx hy bx bY bX bY2 IH
 generalize alikeT (.mk op nm N ty l) (.mk op' nm' N' ty' l') X Y=rr at *
 by_cases e1:op=op'
 case neg=>
  have t1:(op==op')=false:=by simpa using e1
  have t2:(op != op')=true:=by simpa using e1
  have HR:Hid (rr=false):=Ld (by rw[HD.out];simp[e1])
  clear e1
  go_enter Tryz.func58,Tryz.ntmps58
  go_wp2_with fail
  go_ret
  exact⟨by rw[HR.out];rfl,K1⟩
 subst e1
 by_cases e3:N=N'
 case neg=>
  have t1:(N==N')=false:=by simpa using e3
  have t2:(N != N')=true:=by simpa using e3
  have HR:Hid (rr=false):=Ld (by rw[HD.out];simp[e3])
  clear e3
  go_enter Tryz.func58,Tryz.ntmps58
  go_wp2_with fail
  go_ret
  exact⟨by rw[HR.out];rfl,K1⟩
 subst e3
 go_enter Tryz.func58,Tryz.ntmps58
 go_wp2_with fail
 generalize ((w.alloc (.cells #[.int .i64 op,.string nm,.int .i64 N,.int .i64 ty.kind,.string ty.name,.slice a n c,.slice ma l.length mc] 27)).alloc (.cells #[.int .i64 op,.string nm',.int .i64 N,.int .i64 ty'.kind,.string ty'.name,.slice a' n' c',.slice ma' l'.length mc'] 27))=w1 at *
 cases ht:tyEq ty ty'
 ·have HR:Hid (rr=false):=Ld (by rw[HD.out,ht];simp)
  refine (HT.out _ K1).mono ?_
  rintro e w2 ⟨rfl,k2⟩
  go_wp2_with fail
  go_ret
  exact⟨by rw[HR.out];rfl,K1.trans k2⟩
 refine (HT.out _ K1).mono ?_
 rintro e w2 ⟨rfl,k2⟩
 have gA2:∀ i,w2.cell? ⟨w.heap.size,i,none⟩=[Value.int .i64 op,.string nm,.int .i64 N,.int .i64 ty.kind,.string ty.name,.slice a n c,.slice ma l.length mc][i]?:=(bA.kept k2 (fun h=>h)).cell
 have gB2:∀ i,w2.cell? ⟨w.heap.size+1,i,none⟩=[Value.int .i64 op,.string nm',.int .i64 N,.int .i64 ty'.kind,.string ty'.name,.slice a' n' c',.slice ma' l'.length mc'][i]?:=(bB.kept k2 (fun h=>h)).cell
 have K2:=K1.trans k2
 clear gA2 gB2
 have bA2:=bA.kept k2 (fun h=>h)
 have bB2:=bB.kept k2 (fun h=>h)
 clear bA bB K1 k2
 have gA:∀ i,w2.cell? ⟨w.heap.size,i,none⟩=[Value.int .i64 op,.string nm,.int .i64 N,.int .i64 ty.kind,.string ty.name,.slice a n c,.slice ma l.length mc][i]?:=bA2.cell
 have gB:∀ i,w2.cell? ⟨w.heap.size+1,i,none⟩=[Value.int .i64 op,.string nm',.int .i64 N,.int .i64 ty'.kind,.string ty'.name,.slice a' n' c',.slice ma' l'.length mc'][i]?:=bB2.cell
 by_cases e4:l.length=l'.length
 case neg=>
  have t1:((l.length:Int) != (l'.length:Int))=true:=by simp;omega
  have t2:((l.length:Int)==(l'.length:Int))=false:=by simp;omega
  have HR:Hid (rr=false):=Ld (by rw[HD.out];simp[e4])
  clear e4
  go_wp2_with fail
  go_ret
  exact⟨by rw[HR.out];rfl,K2⟩
 have HR:Hid (rr=alikeK (binderB op) nm nm' 0 l l' X Y):=Ld (by rw[HD.out,ht];simp[e4])
 clear HD
 have E4:=Ld e4
 rw[← e4] at gB ⊢
 clear e4
 have t4:((l.length:Int) != (l.length:Int))=false:=by simp
 have t5:(op==20)=false:=by simpa using h20
 have BA:=Ld bA2
 have BB:=Ld bB2
 clear bA2 bB2
 go_wp2_with fail
 clear HT t4 ht gA gB
 go_loopw [11] (fun i wr=>∃ j:Nat,j≤l.length∧i=.int .i64 j∧Kept (fun _=>False) w2 wr∧Hid (rr=alikeK (binderB op) nm nm' j (l.drop j) (l'.drop j) X Y)) (fun i _=>l.length-(intOf i).toNat)
 case atStart=>exact⟨0,Nat.zero_le _,rfl,Kept.refl _ _,HR⟩
 case round=>
  obtain⟨j,hj,rfl,kr,hq⟩:=hrel
  have gA:∀ i,wr.cell? ⟨w.heap.size,i,none⟩=[Value.int .i64 op,.string nm,.int .i64 N,.int .i64 ty.kind,.string ty.name,.slice a n c,.slice ma l.length mc][i]?:=(BA.out.kept kr (fun h=>h)).cell
  by_cases hlt:j<l.length
  ·have hlt':j<l'.length:=by rw[← E4.out];exact hlt
   obtain⟨g,off,ta,tn,tc,na,nn,nc,rfl,_,lg,⟨c0,c1,c2,c3,c4,c5,c6⟩,hty,htm⟩:=HAT.out wr (K2.trans kr) j hlt
   obtain⟨g',off',ta',tn',tc',na',nn',nc',rfl,_,lg',⟨d0,d1,d2,d3,d4,d5,d6⟩,hty',htm'⟩:=HAT'.out wr (K2.trans kr) j hlt'
   have gB:∀ i,wr.cell? ⟨w.heap.size+1,i,none⟩=[Value.int .i64 op,.string nm',.int .i64 N,.int .i64 ty'.kind,.string ty'.name,.slice a' n' c',.slice (some ⟨g',off',none⟩) l.length mc'][i]?:=by rw[E4.out];exact (BB.out.kept kr (fun h=>h)).cell
   cases hbi:binderB op
   ·have hco:(binderB op&&j==1)=false:=by rw[hbi];rfl
    have hcon:=Ld (fun (W:World) (kW:Kept (fun _=>False) wr W)=>HIH.out _ (List.getElem_mem hlt) l'[j] X Y W ok ok' _ _ _ _ _ _ _ _ (hty.frame (Same.of_kept kW (fun k h e=>e))) (htm.frame (Same.of_kept kW (fun k h e=>e))) (hty'.frame (Same.of_kept kW (fun k h e=>e))) (htm'.frame (Same.of_kept kW (fun k h e=>e))) ((HX.out wr (K2.trans kr)).frame (Same.of_kept kW (fun k h e=>e))) ((HY.out wr (K2.trans kr)).frame (Same.of_kept kW (fun k h e=>e))) (by have:=HBX.out;have:=tmDs_mem (List.getElem_mem hlt);simp;omega) (by have:=HBY.out;have:=tmDs_mem (List.getElem_mem hlt);simp;omega))
    unfold tmVal at hcon
    have HS:=Ld (alikeK_drop (bi:=binderB op) (nm:=nm) (nm':=nm') (X:=X) (Y:=Y) hlt hlt')
    rw[hco] at HS
    simp only[Bool.false_eq_true,if_false,if_true] at HS
    clear hty hty' htm htm'
    have hj2:(j:Int)<(l.length:Int):=by omega
    have hj3:(j:Int)<1000000:=by omega
    go_wp2_with (go_at_call 92;refine cR (rbinder_t hbi _) ?_)
    go_still_tail 12,(by kernel_rfl)
    change wpList _ _ _ _ _ (World.drew wr)
    have kd:Kept (fun _=>False) wr (World.drew wr):=kR.drew
    generalize World.drew wr=w4 at *
    cases hr:alikeT l[j] l'[j] X Y
    ·rw[hr] at hcon HS
     go_wp2_with (go_at_call 58;refine (hcon.out _ kd).mono ?_;rintro e w' ⟨rfl,k2⟩)
     go_ret
     exact⟨by rw[hq.out,HS.out];rfl,((K2.trans kr).trans kd).trans k2⟩
    ·rw[hr] at hcon HS
     go_wp2_with (go_at_call 58;refine (hcon.out _ kd).mono ?_;rintro e w' ⟨rfl,k2⟩)
     go_roundw
     case rel=>exact⟨j+1,by omega,by go_num,(kr.trans kd).trans k2,Ld (by rw[hq.out,HS.out];first | rfl | (rw[hbi];rfl))⟩
     case measure=>simp[intOf];omega
   by_cases hj1:j=1
   case neg=>
    have hco:(binderB op&&j==1)=false:=by simp[hj1]
    have hj4:((j:Int)==1)=false:=by simp;omega
    have hcon:=Ld (fun (W:World) (kW:Kept (fun _=>False) wr W)=>HIH.out _ (List.getElem_mem hlt) l'[j] X Y W ok ok' _ _ _ _ _ _ _ _ (hty.frame (Same.of_kept kW (fun k h e=>e))) (htm.frame (Same.of_kept kW (fun k h e=>e))) (hty'.frame (Same.of_kept kW (fun k h e=>e))) (htm'.frame (Same.of_kept kW (fun k h e=>e))) ((HX.out wr (K2.trans kr)).frame (Same.of_kept kW (fun k h e=>e))) ((HY.out wr (K2.trans kr)).frame (Same.of_kept kW (fun k h e=>e))) (by have:=HBX.out;have:=tmDs_mem (List.getElem_mem hlt);simp;omega) (by have:=HBY.out;have:=tmDs_mem (List.getElem_mem hlt);simp;omega))
    unfold tmVal at hcon
    have HS:=Ld (alikeK_drop (bi:=binderB op) (nm:=nm) (nm':=nm') (X:=X) (Y:=Y) hlt hlt')
    rw[hco] at HS
    simp only[Bool.false_eq_true,if_false,if_true] at HS
    clear hty hty' htm htm'
    have hj2:(j:Int)<(l.length:Int):=by omega
    have hj3:(j:Int)<1000000:=by omega
    go_wp2_with (go_at_call 92;refine cR (rbinder_t hbi _) ?_)
    go_still_tail 12,(by kernel_rfl)
    change wpList _ _ _ _ _ (World.drew wr)
    have kd:Kept (fun _=>False) wr (World.drew wr):=kR.drew
    generalize World.drew wr=w4 at *
    cases hr:alikeT l[j] l'[j] X Y
    ·rw[hr] at hcon HS
     go_wp2_with (go_at_call 58;refine (hcon.out _ kd).mono ?_;rintro e w' ⟨rfl,k2⟩)
     go_ret
     exact⟨by rw[hq.out,HS.out];rfl,((K2.trans kr).trans kd).trans k2⟩
    ·rw[hr] at hcon HS
     go_wp2_with (go_at_call 58;refine (hcon.out _ kd).mono ?_;rintro e w' ⟨rfl,k2⟩)
     go_roundw
     case rel=>exact⟨j+1,by omega,by go_num,(kr.trans kd).trans k2,Ld (by rw[hq.out,HS.out];first | rfl | (rw[hbi];rfl))⟩
     case measure=>simp[intOf];omega
   subst hj1
   have hco:(binderB op&&1==1)=true:=by rw[hbi];rfl
   have x1:wr.cell? ⟨w.heap.size,1,none⟩=some (.string nm):=gA 1
   have x2:wr.cell? ⟨w.heap.size+1,1,none⟩=some (.string nm'):=gB 1
   have HS2:=Ld (fun W (k:Kept (fun _=>False) wr W)=>(⟨(BA.out.kept (kr.trans k) (fun h=>h)).cell 1,(BB.out.kept (kr.trans k) (fun h=>h)).cell 1⟩:W.cell? ⟨w.heap.size,1,none⟩=some (.string nm)∧W.cell? ⟨w.heap.size+1,1,none⟩=some (.string nm')))
   have KD:Kept (fun _=>False) wr wr.drew:=kR.drew
   have HXY:Hid (∀ (W:World) (v:Value) (s:ByteArray) (Z:List ByteArray),Kept (fun _=>False) wr W→((s=nm∧v=vx∧Z=X)∨(s=nm'∧v=vy∧Z=Y))→Calls Tryz.prog 93 #[v,.string s] W fun e w'=>∃ v',e=.returned v'∧NmL (fun _=>True) w' (Z++[s]) v'∧Kept (fun _=>False) W w'):=Ld (by
    have h1:=HBX.out
    have h2:=HBY.out
    rintro W v s Z k (⟨rfl,rfl,rfl⟩ | ⟨rfl,rfl,rfl⟩)
    ·exact (rwith_any _ (HX.out W ((K2.trans kr).trans k)) (by omega)).mono fun e w' ⟨v,h1,h2⟩=>⟨v,h1,h2.nml.mono (fun _ _ _=>trivial),h2.kp⟩
    ·exact (rwith_any _ (HY.out W ((K2.trans kr).trans k)) (by omega)).mono fun e w' ⟨v,h1,h2⟩=>⟨v,h1,h2.nml.mono (fun _ _ _=>trivial),h2.kp⟩)
   clear c0 c1 c2 c3 c4 c5 c6 d0 d1 d2 d3 d4 d5 d6 hty hty' htm htm'
   go_wp2_with (go_at_call 92;refine cR (rbinder_t hbi _) ?_)
   clear gA gB
   go_region_held3 (fun w'=>w'.cell? ⟨w.heap.size,1,none⟩=some (.string nm)∧w'.cell? ⟨w.heap.size+1,1,none⟩=some (.string nm')) (go_keep)
    (first | (go_at_call 93;refine (HXY.out _ _ _ _ (by first | exact KD | exact KE) (by first | exact Or.inl ⟨rfl,rfl,rfl⟩ | exact Or.inr ⟨rfl,rfl,rfl⟩)).mono ?_;rintro e wq ⟨vq,rfl,Rq,kq⟩;first | (have KF:=KE.trans kq;have RF:=Rq;have RE2:=RE.frame (sK kq);obtain⟨n0,n1⟩:=HS2.out _ KF) | (have KE:=KD.trans kq;have RE:=Rq;obtain⟨m0,m1⟩:=HS2.out _ KE)))
   all_goals
    have KW:=kr.trans KF
    have gA2:∀ i,wq.cell? ⟨w.heap.size,i,none⟩=[Value.int .i64 op,.string nm,.int .i64 N,.int .i64 ty.kind,.string ty.name,.slice a n c,.slice (some ⟨g,off,none⟩) l.length mc][i]?:=(BA.out.kept KW (fun h=>h)).cell
    have gB2:∀ i,wq.cell? ⟨w.heap.size+1,i,none⟩=[Value.int .i64 op,.string nm',.int .i64 N,.int .i64 ty'.kind,.string ty'.name,.slice a' n' c',.slice (some ⟨g',off',none⟩) l.length mc'][i]?:=by rw[E4.out];exact (BB.out.kept KW (fun h=>h)).cell
    obtain⟨g2,off2,ta,tn,tc,na,nn,nc,e2,_,lg,⟨c0,c1,c2,c3,c4,c5,c6⟩,hty,htm⟩:=HAT.out wq (K2.trans KW) 1 hlt
    cases e2
    obtain⟨g2',off2',ta',tn',tc',na',nn',nc',e2,_,lg',⟨d0,d1,d2,d3,d4,d5,d6⟩,hty',htm'⟩:=HAT'.out wq (K2.trans KW) 1 hlt'
    cases e2
    clear n0 n1 m0 m1 x1 x2 HS2 HXY KD KE RE
    have hcon:=Ld (fun (W:World) (kW:Kept (fun _=>False) wq W)=>HIH.out _ (List.getElem_mem hlt) l'[1] (X++[nm]) (Y++[nm']) W ok ok' _ _ _ _ _ _ _ _ (hty.frame (Same.of_kept kW (fun k h e=>e))) (htm.frame (Same.of_kept kW (fun k h e=>e))) (hty'.frame (Same.of_kept kW (fun k h e=>e))) (htm'.frame (Same.of_kept kW (fun k h e=>e))) ((RE2).frame (Same.of_kept kW (fun k h e=>e))) ((RF).frame (Same.of_kept kW (fun k h e=>e))) (by have:=HBX.out;have:=tmDs_mem (List.getElem_mem hlt);simp;omega) (by have:=HBY.out;have:=tmDs_mem (List.getElem_mem hlt);simp;omega))
    unfold tmVal at hcon
    have HS:=Ld (alikeK_drop (bi:=binderB op) (nm:=nm) (nm':=nm') (X:=X) (Y:=Y) hlt hlt')
    rw[hco] at HS
    simp only[Bool.false_eq_true,if_false,if_true] at HS
    clear hty hty' htm htm'
    have hj2:((1:Nat):Int)<(l.length:Int):=by omega
    have hj3:((1:Nat):Int)<1000000:=by omega
    go_wp2_with fail
    go_still_tail 12,(by kernel_rfl)
    change wpList _ _ _ _ _ (World.drew wq)
    have kd:Kept (fun _=>False) wq (World.drew wq):=kR.drew
    generalize World.drew wq=w4 at *
    cases hr:alikeT l[1] l'[1] (X++[nm]) (Y++[nm'])
    ·rw[hr] at hcon HS
     go_wp2_with (go_at_call 58;refine (hcon.out _ kd).mono ?_;rintro e w' ⟨rfl,k2⟩)
     go_ret
     exact⟨by rw[hq.out,HS.out];rfl,((K2.trans KW).trans kd).trans k2⟩
    ·rw[hr] at hcon HS
     go_wp2_with (go_at_call 58;refine (hcon.out _ kd).mono ?_;rintro e w' ⟨rfl,k2⟩)
     go_roundw
     case rel=>exact⟨1+1,by omega,by go_num,(KW.trans kd).trans k2,Ld (by rw[hq.out,HS.out];first | rfl | (rw[hbi];rfl))⟩
     case measure=>simp[intOf];omega
  ·have HZ:Hid (rr=true):=Ld (by rw[hq.out,alikeK_end (by omega)])
   go_wp2_with fail
   go_ret
   exact⟨by rw[HZ.out];rfl,K2.trans kr⟩
theorem ralike_any {t:Tm} (hb:BdTm t):RAlC t:=by
 induction hb with
 | mk hn ht hl ih=>
  rename_i o n i t l
  by_cases h:o=20
  ·subst h;exact ralike_name ht hn
  ·exact ralike_one h ht ih hn
theorem frLs_drop {B:List ByteArray} {bi:Bool} {nm:ByteArray} {l:List Tm} {k:Nat} (h:k<l.length):frLs B bi nm k (l.drop k)=frL (if bi&&k==1 then B++[nm] else B) l[k]++frLs B bi nm (k+1) (l.drop (k+1)):=by
 rw[List.drop_eq_getElem_cons h,frLs]
theorem frL_len:∀ (t:Tm) (B:List ByteArray),(frL B t).length≤tmN t:=by
 intro t
 induction t using Tm.rec (motive_2:=fun l=>∀ (B:List ByteArray) (bi:Bool) (nm:ByteArray) (i:Nat),(frLs B bi nm i l).length≤tmNs l) with
 | mk op nm N ty l ih=>
  intro B
  rw[frL,tmN]
  split
  ·split <;> simp
  ·have:=ih B (binderB op) nm 0;omega
 | nil=>exact Nat.le_refl _
 | cons t l iht ihl=>
  rename_i B bi nm i
  rw[frLs,List.length_append,tmNs]
  have h1:=iht (if bi&&i==1 then B++[nm] else B)
  have h2:=ihl B bi nm (i+1)
  omega
theorem own_name {w:World} {base g:Nat} {s:ByteArray} (hb:Blk w g 9 [.string s]) (hg:base≤g):w.ownsRow base 9 1 (.slice (some ⟨g,0,none⟩) 1 1) [s].length ([s].map Value.string):=
 ⟨rfl,.inr ⟨g,1,_,rfl,hg,hb,Nat.le_refl _,by unfold maxLen;omega,rfl,rfl⟩⟩
def RFrC (t:Tm):Prop:=∀ (B:List ByteArray) (w:World) (ok okB:Nat→Prop) (tk kk v:Value),TyL ok w t.ty.kids tk→TmL ok w t.kids kk→NmL okB w B v→B.length+tmD t≤900000→tmN t≤700000 →
 Calls Tryz.prog 45 #[tmVal t tk kk,v] w fun e w'=>∃ v',e=.returned v'∧NRow w w.heap.size w' (frL B t) v'
theorem rfree_name {nm:ByteArray} {N:Int} {ty:Ty} {l:List Tm}:RFrC (.mk 20 nm N ty l):=by
 intro B w ok okB tk kk v h1 h2 hB hd hz
 have h1:TyL ok w ty.kids tk:=h1
 have h2:TmL ok w l kk:=h2
 obtain⟨a,n,c,rfl⟩:=h1.slice
 obtain⟨ma,mn,mc,rfl⟩:=h2.slice
 change Calls Tryz.prog 45 #[.agg #[.int .i64 20,.string nm,.int .i64 N,.int .i64 ty.kind,.string ty.name,.slice a n c,.slice ma mn mc],v] w _
 have K1:Kept (fun _=>False) w (w.alloc (.cells #[.int .i64 20,.string nm,.int .i64 N,.int .i64 ty.kind,.string ty.name,.slice a n c,.slice ma mn mc] 27)):=kR.alloc _
 have HI:=Ld (rinN_any nm (hB.frame (sK K1)) (by omega))
 have HK:=Ld K1
 have HR:Hid (frL B (.mk 20 nm N ty l)=if mb nm B then [] else [nm]):=Ld (by rw[frL,if_pos rfl])
 clear h1 h2 hB hd hz K1
 generalize frL B (.mk 20 nm N ty l)=r at *
 go_enter Tryz.func45,Tryz.ntmps45
 go_wp2_with fail
 have bA:=Ld (Blk.new w 27 [.int .i64 20,.string nm,.int .i64 N,.int .i64 ty.kind,.string ty.name,.slice a n c,.slice ma mn mc])
 change Hid (Blk (w.alloc (.cells #[.int .i64 20,.string nm,.int .i64 N,.int .i64 ty.kind,.string ty.name,.slice a n c,.slice ma mn mc] 27)) _ _ _) at bA
 generalize w.alloc (.cells #[.int .i64 20,.string nm,.int .i64 N,.int .i64 ty.kind,.string ty.name,.slice a n c,.slice ma mn mc] 27)=w1 at *
 refine HI.out.mono ?_
 rintro e w2 ⟨rfl,rfl⟩
 cases hm:mb nm B
 ·have hq:Hid (r=[nm]):=Ld (by rw[HR.out,hm];rfl)
  have gA:=bA.out.cell
  clear hm HI
  go_wp2_with fail
  go_ret
  exact⟨_,rfl,by rw[hq.out];exact⟨HK.out.alloc _,own_name (Blk.new w1 9 [.string nm]) HK.out.size⟩⟩
 ·have hq:Hid (r=[]):=Ld (by rw[HR.out,hm];rfl)
  clear hm HI
  go_wp2_with fail
  go_ret
  exact⟨_,rfl,by rw[hq.out];exact⟨HK.out,World.ownsRow_nil _ _ _ _⟩⟩
theorem rfree_one {op:Int} {nm:ByteArray} {N:Int} {ty:Ty} {l:List Tm} (hop:op≠20) (IH:∀ u,u∈l→RFrC u) (hn:l.length≤1000000):RFrC (.mk op nm N ty l):=by
 intro B w ok okB tk kk v h1 h2 hB hd hz
 have h1:TyL ok w ty.kids tk:=h1
 have h2:TmL ok w l kk:=h2
 obtain⟨a,n,c,rfl⟩:=h1.slice
 obtain⟨ma,mn,mc,rfl⟩:=h2.slice
 obtain⟨ba,bc,rfl⟩:=hB.slice
 obtain rfl:mn=l.length:=h2.len
 change Calls Tryz.prog 45 #[.agg #[.int .i64 op,.string nm,.int .i64 N,.int .i64 ty.kind,.string ty.name,.slice a n c,.slice ma l.length mc],.slice ba B.length bc] w _
 have K1:Kept (fun _=>False) w (w.alloc (.cells #[.int .i64 op,.string nm,.int .i64 N,.int .i64 ty.kind,.string ty.name,.slice a n c,.slice ma l.length mc] 27)):=kR.alloc _
 have hop2:(op==20)=false:=by simp[hop]
 have bA:=Ld (Blk.new w 27 [.int .i64 op,.string nm,.int .i64 N,.int .i64 ty.kind,.string ty.name,.slice a n c,.slice ma l.length mc])
 have HR:Hid (frL B (.mk op nm N ty l)=frLs B (binderB op) nm 0 l):=Ld (by rw[frL,if_neg hop])
 rw[tmD] at hd
 rw[tmN] at hz
 have HD:=Ld hd
 have HZ0:=Ld hz
 have HN:=Ld hn
 have HAT:=Ld (fun W (k:Kept (fun _=>False) w W)=>(h2.frame (sK k)).at)
 have HBF:=Ld (fun W (k:Kept (fun _=>False) w W)=>hB.frame (sK k))
 have HIH:=Ld IH
 have HK:=Ld K1
 clear h1 h2 hB hd hz K1 IH hn hop
 have hRL:Hid ((frL B (.mk op nm N ty l)).length≤700000):=Ld (by have h1:=frL_len (.mk op nm N ty l) B;rw[tmN] at h1;have:=HZ0.out;omega)
 generalize frL B (.mk op nm N ty l)=r at *
 go_enter Tryz.func45,Tryz.ntmps45
 go_wp2_with fail
 change Hid (Blk (w.alloc (.cells #[.int .i64 op,.string nm,.int .i64 N,.int .i64 ty.kind,.string ty.name,.slice a n c,.slice ma l.length mc] 27)) _ _ _) at bA
 generalize w.alloc (.cells #[.int .i64 op,.string nm,.int .i64 N,.int .i64 ty.kind,.string ty.name,.slice a n c,.slice ma l.length mc] 27)=w1 at *
 go_loopw [5,6,7] (fun v i b wr=>∃ (k:Nat) (out:List ByteArray),k≤l.length∧i=.int .i64 k∧NRow w w.heap.size wr out v∧Hid (Blk wr w.heap.size 27 [.int .i64 op,.string nm,.int .i64 N,.int .i64 ty.kind,.string ty.name,.slice a n c,.slice ma l.length mc]∧r=out++frLs B (binderB op) nm k (l.drop k)∧v.ownBlock≠some w.heap.size)) (fun v i b _=>l.length-(intOf i).toNat)
 case atStart=>exact⟨0,[],Nat.zero_le _,rfl,⟨HK.out,World.ownsRow_nil _ _ _ _⟩,Ld ⟨bA.out,HR.out,fun e=>by cases e⟩⟩
 case round=>
  obtain⟨k,out,hkl,rfl,hR,hq⟩:=hrel
  obtain⟨va,vc,hv⟩:=hR.nml.slice
  subst hv
  have R:=Ld hR
  clear hR
  have gA:=hq.out.1.cell
  by_cases hlt:k<l.length
  ·have i1:(k:Int)<(l.length:Int):=by omega
   have i2:(k:Int)<1000000:=by have:=HN.out;omega
   obtain⟨g,off,ta,tn,tc,qa,qn,qc,rfl,_,lg,⟨c0,c1,c2,c3,c4,c5,c6⟩,hty,htm⟩:=HAT.out wr R.out.kp k hlt
   have HD2:=Ld (frLs_drop (B:=B) (bi:=binderB op) (nm:=nm) hlt)
   have HBD:Hid (∀ B':List ByteArray,B'.length≤B.length+1→B'.length+tmD l[k]≤900000):=Ld (fun B' hb'=>by
    have h1:=tmDs_mem (List.getElem_mem hlt)
    have h2:=HD.out
    omega)
   have HZ1:Hid (tmN l[k]≤700000):=Ld (by
    have h1:=(tmD_kid (List.getElem_mem hlt)).2
    have h2:=HZ0.out
    omega)
   obtain⟨i9,hi9,hz9,hs9,hb9⟩:=info_str
   have HI9:=Ld hi9
   have HZ9:=Ld hz9
   have HS9:=Ld hs9
   have HB9:=Ld hb9
   have HKF:=Ld (fun (B':List ByteArray) (v':Value) (ok3:Nat→Prop) W (kW:Kept (fun _=>False) wr W) (hb':B'.length≤B.length+1) (hB':NmL ok3 W B' v')=>(HIH.out _ (List.getElem_mem hlt)) B' W ok ok3 _ _ _ (hty.frame (sK kW)) (htm.frame (sK kW)) hB' (HBD.out _ hb') HZ1.out)
   unfold tmVal at HKF
   have RW:=Ld (fun W (kW:Kept (fun _=>False) wr W)=>(⟨R.out.kp.trans kW,own_keptT R.out.own kW (fun _ _ h=>h)⟩:NRow w w.heap.size W out (.slice va out.length vc)))
   have hbx:Hid (∀ W,Kept (fun _=>False) wr W→Blk W w.heap.size 27 [.int .i64 op,.string nm,.int .i64 N,.int .i64 ty.kind,.string ty.name,.slice a n c,.slice (some ⟨g,off,none⟩) l.length mc]):=Ld (fun W kW=>hq.out.1.kept kW (fun h=>h))
   clear hty htm hi9 hz9 hs9 hb9 HBD HZ1
   go_wp2_with fail
   cases hbi:binderB op
   ·have hBI:Hid ((if binderB op&&k==1 then B++[nm] else B)=B):=Ld (by rw[hbi];rfl)
    refine (rbinder_t hbi _).mono ?_
    rintro e w4 ⟨rfl,rfl⟩
    clear hbi
    have KWW:Kept (fun _=>False) wr wr:=Kept.refl _ _
    skip
    go_wp2_with fail
    refine (HKF.out B _ _ wr kR (Nat.le_succ _) (HBF.out wr R.out.kp)).mono ?_
    rintro e w6 ⟨v3,rfl,h3⟩
    obtain⟨xa,xc,hv3⟩:=h3.nml.slice
    subst hv3
    have K6:=(KWW).trans h3.kp
    have R6:=Ld (RW.out w6 K6)
    have B6:=Ld (hbx.out w6 K6)
    have S3:=Ld h3.nml.src
    have hz6:=(frL_len l[k] (B))
    have HLEN:Hid (out.length+(frL (B) l[k]).length≤700000):=Ld (by
     have h5:=hRL.out
     rw[hq.out.2.1,HD2.out,hBI.out,List.length_append,List.length_append] at h5
     omega)
    have hEQ:Hid (r=(out++frL (B) l[k])++frLs B (binderB op) nm (k+1) (l.drop (k+1))):=Ld (by rw[hq.out.2.1,HD2.out,hBI.out,List.append_assoc])
    have hOB:=hq.out.2.2
    have zw6:=R6.out.kp.size
    clear h3 K6 hz6 gA
    go_wp2_with (at_builtin;refine wpList_app_src rfl (.tmp 37) (.tmp 44) _ rfl w.heap.size 9 i9 _ 1 16 Tryz.underlying28 HI9.out HZ9.out HS9.out HB9.out rfl (by decide) (.slice va out.length vc) out.length (out.map Value.string) rfl R6.out.own (.slice xa (frL (B) l[k]).length xc) (frL (B) l[k]).length ((frL (B) l[k]).map Value.string) rfl S3.out (by simp) (strs_one _) ?_ ?_ zw6 ?_)
    ·have:=HLEN.out;unfold maxLen;omega
    ·have:=HLEN.out;omega
    intro v7 w7 own7 hg7 hat7
    have R7:=Ld (NRow.app R6.out (Nat.le_refl _) own7 hg7)
    have B7:=Ld (B6.out.kept (kept_grown1 hg7) (fun e=>hOB e))
    have hO7:Hid (v7.ownBlock≠some w.heap.size):=Ld (by
     have lb:=B6.out.lt
     rcases hat7 with h | h
     ·rw[h];exact hOB
     ·rw[h];intro e;have:=Option.some.inj e;omega)
    clear own7 hg7 hat7 hOB zw6
    go_wp2_with fail
    go_roundw
    case rel=>exact⟨k+1,_,by omega,by go_num,R7.out,Ld ⟨B7.out,hEQ.out,hO7.out⟩⟩
    case measure=>simp[intOf];omega
   ·cases hk1:((k:Int)==1)
    ·have hBI:Hid ((if binderB op&&k==1 then B++[nm] else B)=B):=Ld (by
      have:(k==1)=false:=by simp at hk1;simp;omega
      rw[this];simp)
     refine (rbinder_t hbi _).mono ?_
     rintro e w4 ⟨rfl,rfl⟩
     clear hbi
     have KWW:Kept (fun _=>False) wr wr:=Kept.refl _ _
     skip
     go_wp2_with fail
     refine (HKF.out B _ _ wr kR (Nat.le_succ _) (HBF.out wr R.out.kp)).mono ?_
     rintro e w6 ⟨v3,rfl,h3⟩
     obtain⟨xa,xc,hv3⟩:=h3.nml.slice
     subst hv3
     have K6:=(KWW).trans h3.kp
     have R6:=Ld (RW.out w6 K6)
     have B6:=Ld (hbx.out w6 K6)
     have S3:=Ld h3.nml.src
     have hz6:=(frL_len l[k] (B))
     have HLEN:Hid (out.length+(frL (B) l[k]).length≤700000):=Ld (by
      have h5:=hRL.out
      rw[hq.out.2.1,HD2.out,hBI.out,List.length_append,List.length_append] at h5
      omega)
     have hEQ:Hid (r=(out++frL (B) l[k])++frLs B (binderB op) nm (k+1) (l.drop (k+1))):=Ld (by rw[hq.out.2.1,HD2.out,hBI.out,List.append_assoc])
     have hOB:=hq.out.2.2
     have zw6:=R6.out.kp.size
     clear h3 K6 hz6 gA
     go_wp2_with (at_builtin;refine wpList_app_src rfl (.tmp 37) (.tmp 44) _ rfl w.heap.size 9 i9 _ 1 16 Tryz.underlying28 HI9.out HZ9.out HS9.out HB9.out rfl (by decide) (.slice va out.length vc) out.length (out.map Value.string) rfl R6.out.own (.slice xa (frL (B) l[k]).length xc) (frL (B) l[k]).length ((frL (B) l[k]).map Value.string) rfl S3.out (by simp) (strs_one _) ?_ ?_ zw6 ?_)
     ·have:=HLEN.out;unfold maxLen;omega
     ·have:=HLEN.out;omega
     intro v7 w7 own7 hg7 hat7
     have R7:=Ld (NRow.app R6.out (Nat.le_refl _) own7 hg7)
     have B7:=Ld (B6.out.kept (kept_grown1 hg7) (fun e=>hOB e))
     have hO7:Hid (v7.ownBlock≠some w.heap.size):=Ld (by
      have lb:=B6.out.lt
      rcases hat7 with h | h
      ·rw[h];exact hOB
      ·rw[h];intro e;have:=Option.some.inj e;omega)
     clear own7 hg7 hat7 hOB zw6
     go_wp2_with fail
     go_roundw
     case rel=>exact⟨k+1,_,by omega,by go_num,R7.out,Ld ⟨B7.out,hEQ.out,hO7.out⟩⟩
     case measure=>simp[intOf];omega
    ·have hBI:Hid ((if binderB op&&k==1 then B++[nm] else B)=B++[nm]):=Ld (by
      have:(k==1)=true:=by simp at hk1;simp;omega
      rw[this,hbi];rfl)
     refine (rbinder_t hbi _).mono ?_
     rintro e w4 ⟨rfl,rfl⟩
     clear hbi
     have HW:=Ld (rwith_any nm (HBF.out wr R.out.kp) (by have:=HD.out;omega))
     go_wp2_with fail
     refine HW.out.mono ?_
     rintro e w5 ⟨v5,rfl,h5⟩
     obtain⟨ya,yc,hv5⟩:=h5.nml.slice
     rw[List.length_append,List.length_singleton] at hv5
     subst hv5
     have KWW:Kept (fun _=>False) wr w5:=h5.kp
     have HN5:=Ld h5.nml
     have gA5:=(hbx.out w5 KWW).cell
     have C5:C7 w5 g (off+k*7) l[k] (.slice ta tn tc) (.slice qa qn qc):=C7.kept ⟨c0,c1,c2,c3,c4,c5,c6⟩ KWW (fun h=>h)
     obtain⟨d0,d1,d2,d3,d4,d5,d6⟩:=C5
     clear h5 HW gA c0 c1 c2 c3 c4 c5 c6
     have gA:=gA5
     clear gA5
     skip
     go_wp2_with fail
     refine (HKF.out (B++[nm]) _ _ w5 KWW (by simp) HN5.out).mono ?_
     rintro e w6 ⟨v3,rfl,h3⟩
     obtain⟨xa,xc,hv3⟩:=h3.nml.slice
     subst hv3
     have K6:=(KWW).trans h3.kp
     have R6:=Ld (RW.out w6 K6)
     have B6:=Ld (hbx.out w6 K6)
     have S3:=Ld h3.nml.src
     have hz6:=(frL_len l[k] (B++[nm]))
     have HLEN:Hid (out.length+(frL (B++[nm]) l[k]).length≤700000):=Ld (by
      have h5:=hRL.out
      rw[hq.out.2.1,HD2.out,hBI.out,List.length_append,List.length_append] at h5
      omega)
     have hEQ:Hid (r=(out++frL (B++[nm]) l[k])++frLs B (binderB op) nm (k+1) (l.drop (k+1))):=Ld (by rw[hq.out.2.1,HD2.out,hBI.out,List.append_assoc])
     have hOB:=hq.out.2.2
     have zw6:=R6.out.kp.size
     clear h3 K6 hz6 gA
     go_wp2_with (at_builtin;refine wpList_app_src rfl (.tmp 37) (.tmp 44) _ rfl w.heap.size 9 i9 _ 1 16 Tryz.underlying28 HI9.out HZ9.out HS9.out HB9.out rfl (by decide) (.slice va out.length vc) out.length (out.map Value.string) rfl R6.out.own (.slice xa (frL (B++[nm]) l[k]).length xc) (frL (B++[nm]) l[k]).length ((frL (B++[nm]) l[k]).map Value.string) rfl S3.out (by simp) (strs_one _) ?_ ?_ zw6 ?_)
     ·have:=HLEN.out;unfold maxLen;omega
     ·have:=HLEN.out;omega
     intro v7 w7 own7 hg7 hat7
     have R7:=Ld (NRow.app R6.out (Nat.le_refl _) own7 hg7)
     have B7:=Ld (B6.out.kept (kept_grown1 hg7) (fun e=>hOB e))
     have hO7:Hid (v7.ownBlock≠some w.heap.size):=Ld (by
      have lb:=B6.out.lt
      rcases hat7 with h | h
      ·rw[h];exact hOB
      ·rw[h];intro e;have:=Option.some.inj e;omega)
     clear own7 hg7 hat7 hOB zw6
     go_wp2_with fail
     go_roundw
     case rel=>exact⟨k+1,_,by omega,by go_num,R7.out,Ld ⟨B7.out,hEQ.out,hO7.out⟩⟩
     case measure=>simp[intOf];omega
  ·have hkk:k=l.length:=by omega
   subst hkk
   have HE:Hid (r=out):=Ld (by rw[hq.out.2.1,List.drop_length];simp[frLs])
   go_wp2_with fail
   go_ret
   exact⟨_,rfl,by rw[HE.out];exact R.out⟩
theorem rfree_any {t:Tm} (hb:BdTm t):RFrC t:=by
 induction hb with
 | mk hn ht hl ih=>
  rename_i o n i t l
  by_cases h:o=20
  ·subst h;exact rfree_name
  ·exact rfree_one h ih hn
theorem frL_nil (t:Tm):frL [] t=fr t:=by
 rw[frL_eq]
 exact List.filter_eq_self.2 (fun s _=>rfl)
def freS (t:Tm):List ByteArray:=if validB t then srtS [] (fr t) else []
theorem freS_mb {t:Tm} (h:validB t=true) (s:ByteArray):mb s (freS t)=mb s (fr t):=by
 unfold freS;rw[h];simp only[if_true];rw[srtS_mb];simp[mb]
theorem freS_len (t:Tm):(freS t).length≤700000:=by
 unfold freS
 split
 ·rename_i h
  have h1:=srtS_len (fr t) []
  have h2:=frs_len t
  have h3:=((valid_iff t).1 h).2.1
  simp at h1
  omega
 ·simp
theorem rFree_any {t:Tm} {ok:Nat→Prop} {w:World} {tk kk:Value} (h1:TyL ok w t.ty.kids tk) (h2:TmL ok w t.kids kk) (hs:SmTm big t):
  Calls Tryz.prog 12 #[tmVal t tk kk] w fun e w'=>∃ v',e=.returned v'∧NRow w w.heap.size w' (freS t) v':=by
 obtain⟨a,n,c,rfl⟩:=h1.slice
 obtain⟨ma,mn,mc,rfl⟩:=h2.slice
 have K0:Kept (fun _=>False) w (w.alloc (.cells #[.int .i64 t.op,.string t.name,.int .i64 t.n,.int .i64 t.ty.kind,.string t.ty.name,.slice a n c,.slice ma mn mc] 27)):=kR.alloc _
 have BA:=Ld (Blk.new w 27 [.int .i64 t.op,.string t.name,.int .i64 t.n,.int .i64 t.ty.kind,.string t.ty.name,.slice a n c,.slice ma mn mc])
 change Hid (Blk (w.alloc (.cells #[.int .i64 t.op,.string t.name,.int .i64 t.n,.int .i64 t.ty.kind,.string t.ty.name,.slice a n c,.slice ma mn mc] 27)) _ _ _) at BA
 have HV:=Ld (rvalid_any (h1.frame (sK K0)) (h2.frame (sK K0)) hs)
 have HF:=Ld (fun (hv:validB t=true) W (k:Kept (fun _=>False) w W)=>rfree_any (valid_bd hv) [] W ok (fun _=>True) _ _ _ (h1.frame (sK k)) (h2.frame (sK k)) .nil (by have:=((valid_iff t).1 hv).2.2;simp;omega) (by have:=((valid_iff t).1 hv).2.1;omega))
 rw[frL_nil] at HF
 have HK:=Ld K0
 have HFL:Hid (validB t=true→(fr t).length≤1000000):=Ld (fun hv=>by have h2:=frs_len t;have h3:=((valid_iff t).1 hv).2.1;omega)
 have HQ:Hid (freS t=if validB t then srtS [] (fr t) else []):=Ld rfl
 clear h1 h2 hs K0
 unfold tmVal at HF ⊢
 generalize freS t=q at *
 generalize fr t=F at *
 go_enter Tryz.func12,Tryz.ntmps12
 go_wp2_with fail
 generalize w.alloc (.cells #[.int .i64 t.op,.string t.name,.int .i64 t.n,.int .i64 t.ty.kind,.string t.ty.name,.slice a n c,.slice ma mn mc] 27)=w1 at *
 refine HV.out.mono ?_
 rintro e w2 ⟨rfl,k2⟩
 have K2:=Ld (HK.out.trans k2)
 have B2:=Ld (BA.out.kept k2 (fun h=>h))
 clear k2 HV HK BA
 cases hv:validB t
 ·have HE:Hid (q=[]):=Ld (by rw[HQ.out,hv];rfl)
  clear HF HFL HQ hv
  go_wp2_with fail
  go_ret
  exact⟨_,rfl,by rw[HE.out];exact⟨K2.out,World.ownsRow_nil _ _ _ _⟩⟩
 ·have HE:Hid (q=srtS [] F):=Ld (by rw[HQ.out,hv];rfl)
  have HF2:=Ld (HF.out hv w2 K2.out)
  have HL2:=Ld (HFL.out hv)
  have gA:∀ i,w2.cell? ⟨w.heap.size,i,none⟩=[Value.int .i64 t.op,.string t.name,.int .i64 t.n,.int .i64 t.ty.kind,.string t.ty.name,.slice a n c,.slice ma mn mc][i]?:=B2.out.cell
  clear HF HFL HQ hv
  go_wp2_with fail
  clear gA
  refine HF2.out.mono ?_
  rintro e w3 ⟨v3,rfl,h3⟩
  obtain⟨xa,xc,hv3⟩:=h3.nml.slice
  subst hv3
  have HS:=Ld (rsort_any h3.nml HL2.out)
  have K3:=Ld (K2.out.trans h3.kp)
  clear h3 HF2
  go_wp2_with fail
  refine HS.out.mono ?_
  rintro e w4 ⟨v4,rfl,h4⟩
  obtain⟨ya,yc,hv4⟩:=h4.nml.slice
  subst hv4
  have R4:Hid (NRow w w.heap.size w4 (srtS [] F) (.slice ya (srtS [] F).length yc)):=Ld ⟨K3.out.trans h4.kp,own_base h4.own (fun g hg=>by have h5:=(h4.own.lt g hg).1;have h6:=K3.out.size;omega)⟩
  clear h4 HS
  go_wp2_with fail
  go_ret
  exact⟨_,rfl,by rw[HE.out];exact R4.out⟩
theorem clipN_any {W:World} {base:Nat} {L:List ByteArray} {v:Value} (h:W.ownsRow base 9 1 v L.length (L.map Value.string)) (hn:L.length≤1000000):Calls Tryz.prog 41 #[v] W fun e w'=>∃ v',e=.returned v'∧NmL (fun q=>base≤q) W L v'∧W=w':=by
 rcases h.2 with ⟨rfl,hn0⟩ | ⟨g,cap,cur,rfl,hbg,hg,hnc,hcm,hcs,htake⟩
 ·have:L=[]:=List.length_eq_zero_iff.1 hn0
  subst this
  go_enter Tryz.func41,Tryz.ntmps41
  go_wp2_with fail
  go_ret
  exact⟨_,rfl,.nil,rfl⟩
 ·obtain⟨a',n',c',e1,e2,e3,e4,e5⟩:=NmL.of_own h (fun g hg=>(h.lt g hg).1)
  cases e1
  have HR:=Ld e5
  have i1:(L.length:Int)≤(cap:Int):=by omega
  have i2:(0:Int)≤(L.length:Int):=by omega
  clear h hg hcm hcs htake e4 e5
  go_enter Tryz.func41,Tryz.ntmps41
  go_wp2_with fail
  go_ret
  exact⟨_,rfl,⟨_,_,_,rfl,rfl,Nat.le_refl _,(fun e=>by cases e),HR.out⟩,rfl⟩
def PFr (t:Tm) (w:World) (e:Ending) (w':World):Prop:=∃ a c,e=.returned (.slice a (freS t).length c)∧NmL (fun q=>w.heap.size≤q) w' (freS t) (.slice a (freS t).length c)∧Kept (fun _=>False) w w'
theorem pfree_any {t:Tm} {ok:Nat→Prop} {w:World} {tk kk:Value} (h1:TyL ok w t.ty.kids tk) (h2:TmL ok w t.kids kk) (hs:SmTm big t):
  Calls Tryz.prog 11 #[tmVal t tk kk] w (PFr t w):=by
 obtain⟨a,n,c,rfl⟩:=h1.slice
 obtain⟨ma,mn,mc,rfl⟩:=h2.slice
 have K0:Kept (fun _=>False) w (w.alloc (.cells #[.int .i64 t.op,.string t.name,.int .i64 t.n,.int .i64 t.ty.kind,.string t.ty.name,.slice a n c,.slice ma mn mc] 27)):=kR.alloc _
 have BA:=Ld (Blk.new w 27 [.int .i64 t.op,.string t.name,.int .i64 t.n,.int .i64 t.ty.kind,.string t.ty.name,.slice a n c,.slice ma mn mc])
 change Hid (Blk (w.alloc (.cells #[.int .i64 t.op,.string t.name,.int .i64 t.n,.int .i64 t.ty.kind,.string t.ty.name,.slice a n c,.slice ma mn mc] 27)) _ _ _) at BA
 have HV:=Ld (valid_any (h1.frame (sK K0)) (h2.frame (sK K0)) hs)
 have HF:=Ld (fun (hv:validB t=true) W (k:Kept (fun _=>False) w W) (g:Nat) (hb:Blk W g 27 (tmCells t (.slice a n c) (.slice ma mn mc)))=>free_any ((valid_iff t).1 hv).1 (by have:=((valid_iff t).1 hv).2.1;omega) (by have:=((valid_iff t).1 hv).2.2;omega) (tml_one hb (h1.frame (sK k)) (h2.frame (sK k))))
 have HK:=Ld K0
 have HN:Hid (validB t=true→tmN t≤2000):=Ld (fun hv=>((valid_iff t).1 hv).2.1)
 have HQ:Hid (freS t=if validB t then srtS [] (fr t) else []):=Ld rfl
 have HLN:=Ld (freS_len t)
 clear h1 h2 hs K0
 unfold tmVal at HV ⊢
 unfold tmCells at HF
 unfold PFr
 generalize freS t=q at *
 go_enter Tryz.func11,Tryz.ntmps11
 go_wp2_with fail
 generalize w.alloc (.cells #[.int .i64 t.op,.string t.name,.int .i64 t.n,.int .i64 t.ty.kind,.string t.ty.name,.slice a n c,.slice ma mn mc] 27)=w1 at *
 refine HV.out.mono ?_
 rintro e w2 ⟨rfl,k2⟩
 have K2:=Ld (HK.out.trans k2)
 have B2:=Ld (BA.out.kept k2 (fun h=>h))
 clear k2 HV HK BA
 cases hv:validB t
 ·have HE:Hid (q=[]):=Ld (by rw[HQ.out,hv];rfl)
  clear HF HQ HN HLN hv
  go_wp2_with fail
  go_ret
  exact⟨none,0,by rw[HE.out];rfl,by rw[HE.out];exact .nil,K2.out⟩
 ·have HE:Hid (q=srtS [] (fr t)):=Ld (by rw[HQ.out,hv];rfl)
  have HN2:=Ld (HN.out hv)
  have HF2:=Ld (HF.out hv)
  clear HF HQ HN hv
  have gA:∀ i,w2.cell? ⟨w.heap.size,i,none⟩=[Value.int .i64 t.op,.string t.name,.int .i64 t.n,.int .i64 t.ty.kind,.string t.ty.name,.slice a n c,.slice ma mn mc][i]?:=B2.out.cell
  have BR:=Ld (Blk.new w2 27 [.int .i64 t.op,.string t.name,.int .i64 t.n,.int .i64 t.ty.kind,.string t.ty.name,.slice a n c,.slice ma mn mc])
  have KR:Hid (Kept (fun _=>False) w (w2.alloc (.cells #[.int .i64 t.op,.string t.name,.int .i64 t.n,.int .i64 t.ty.kind,.string t.ty.name,.slice a n c,.slice ma mn mc] 27))):=Ld (K2.out.alloc _)
  have HF3:=Ld (HF2.out _ KR.out _ BR.out)
  change Hid (Calls _ _ _ (w2.alloc (.cells #[.int .i64 t.op,.string t.name,.int .i64 t.n,.int .i64 t.ty.kind,.string t.ty.name,.slice a n c,.slice ma mn mc] 27)) _) at HF3
  clear HF2 BR
  go_wp2_with fail
  clear gA
  generalize w2.alloc (.cells #[.int .i64 t.op,.string t.name,.int .i64 t.n,.int .i64 t.ty.kind,.string t.ty.name,.slice a n c,.slice ma mn mc] 27)=w3 at *
  refine HF3.out.mono ?_
  rintro e w4 ⟨p,rfl,hp,hM,k4⟩
  have M4:=Ld hM
  have K4:=Ld (KR.out.trans k4)
  clear hM k4 hp HF3 KR
  go_wp2_with fail
  refine (keys_any (some p) w4).mono ?_
  rintro e w5 ⟨rfl,rfl⟩
  have K5:Kept (fun _=>False) w4 (w4.alloc (.cells #[.map (some p)] 69)):=kR.alloc _
  have M5:=Ld (M4.out.kept K5 (fun e=>e))
  have X5:Hid (w4.heap.size<(w4.alloc (.cells #[.map (some p)] 69)).heap.size∧(w4.alloc (.cells #[.map (some p)] 69)).cell? ⟨w4.heap.size,0,none⟩=some (.map (some p))):=Ld ⟨by simp,(Blk.new w4 69 [.map (some p)]).cell 0⟩
  have K6:=Ld (K4.out.trans K5)
  clear K5 K4 M4
  generalize w4.alloc (.cells #[.map (some p)] 69)=w5 at *
  generalize w4.heap.size=X at *
  have HS:=Ld (sorted_any M5.out (by have:=HN2.out;omega) X5.out.1 X5.out.2)
  clear M5 X5
  go_wp2_with fail
  refine HS.out.mono ?_
  rintro e w6 ⟨l,v,rfl,hl,hln,hasc,hrow⟩
  have EQ:Hid (l=q):=Ld (by
   rw[HE.out]
   exact (srtS_is hasc (fun s=>by rw[← mb_iff,← mb_iff,hl])).symm)
  have hlq:=EQ.out
  subst hlq
  obtain⟨xa,xc,hv⟩:=hrow.nml.slice
  subst hv
  have HC:=Ld (clipN_any hrow.own (by have:=HLN.out;omega))
  have K7:=Ld (K6.out.trans hrow.kp)
  have HB:Hid (w.heap.size≤w5.heap.size):=Ld K6.out.size
  clear hl hln hasc hrow K6 HS EQ HE HN2 HLN
  go_wp2_with fail
  refine HC.out.mono ?_
  rintro e w8 ⟨v8,rfl,h8,rfl⟩
  obtain⟨ya,yc,rfl⟩:=h8.slice
  have N8:=Ld h8
  clear h8 HC
  go_wp2_with fail
  go_ret
  exact⟨ya,yc,rfl,N8.out.mono (fun k _ h=>Nat.le_trans HB.out h),K7.out⟩
end Go.Proofs.YtdmebjbkccjhbaaGreatDoor
