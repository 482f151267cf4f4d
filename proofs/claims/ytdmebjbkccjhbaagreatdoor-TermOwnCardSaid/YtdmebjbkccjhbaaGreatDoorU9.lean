/- A part. -/
import Derived.Test.YtdmebjbkccjhbaaGreatDoorU8
set_option linter.unusedVariables false
set_option linter.unusedSimpArgs false
set_option maxRecDepth 100000
set_option maxHeartbeats 32000000
namespace Go.Proofs.YtdmebjbkccjhbaaGreatDoor
open Go.RowKit
theorem ext_take (s:ByteArray) (k:Nat):(s.extract 0 k).data.toList=s.data.toList.take k:=by
 rw[ByteArray.data_extract,Array.toList_extract,List.extract_eq_take_drop,List.drop_zero,Nat.sub_zero]
theorem trim_parts (s:ByteArray):(∃ h:s.size-1<s.size,s[s.size-1]=39∧trimQ s=s.extract 0 (s.size-1))∨((∀ hp:s.size-1<s.size,s[s.size-1]≠39)∧trimQ s=s):=by
 have at_:∀ (l:List UInt8),s.data.toList=l→∀ (p:Nat) (h:p<s.size) (h':p<l.length),s[p]=l[p]:=by
  intro l hl p h h'
  subst hl
  show s.data[p]=_
  rw[Array.getElem_toList]
 have hlen:=Lib.size_eq s
 by_cases hs:Lib.hasSuffix s.data.toList [39]=true
 ·left
  have hs':=hs
  unfold Lib.hasSuffix at hs
  obtain⟨t,ht⟩:=List.isSuffixOf_iff_suffix.1 hs
  have hl:s.size=t.length+1:=by rw[Lib.size_eq,← ht];simp
  refine⟨by omega,?_,?_⟩
  ·rw[at_ _ ht.symm (s.size-1) (by omega) (by simp;omega),List.getElem_append_right (by omega)]
   simp
  ·unfold trimQ Lib.trimSuffix
   rw[if_pos hs']
   apply ByteArray.ext
   apply Array.toList_inj.1
   rw[ext_take,hlen]
   rfl
 ·right
  refine⟨?_,?_⟩
  ·intro hp e
   apply hs
   unfold Lib.hasSuffix
   apply List.isSuffixOf_iff_suffix.2
   have h0:s.data.toList≠[]:=by
    intro q
    have:s.data.toList.length=0:=by rw[q];rfl
    omega
   refine⟨s.data.toList.dropLast,?_⟩
   have hlast:s.data.toList.getLast h0=39:=by
    rw[List.getLast_eq_getElem,← e,at_ _ rfl (s.size-1) hp (by omega)]
    congr 1
   rw[← hlast];exact List.dropLast_concat_getLast h0
  ·unfold trimQ Lib.trimSuffix
   rw[if_neg hs]
end Go.Proofs.YtdmebjbkccjhbaaGreatDoor
