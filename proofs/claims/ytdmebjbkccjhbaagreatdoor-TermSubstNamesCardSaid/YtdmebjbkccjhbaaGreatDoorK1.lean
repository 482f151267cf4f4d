/- A part. -/
import Derived.Test.YtdmebjbkccjhbaaGreatDoorK0
import Derived.StillTailTactics
import Derived.Shelf.SlIter.Sorted
import Derived.Shelf.SortM.Plain
import Derived.Shelf.SortM.SortNone
import Derived.Test.YtdmebjbkccjhbaaGreatDoorProg
import Derived.Shelf.Strings.Builder1
import Derived.Shelf.Strings.Trim
import Derived.Shelf.Small.Utf8
import Derived.Shelf.Small.Strs
import Derived.Shelf.Strings.BuilderF
import Derived.Shelf.Strings.BuilderK
import Derived.Shelf.Strconv.Atoi
import Derived.Shelf.Strconv.Itoa0
import Derived.Shelf.Strconv.Itoa1
import Derived.Shelf.LaysM
import Derived.Shelf.Strconv.Itoa2
import Derived.Shelf.Strconv.Itoa3
import Derived.Shelf.Strconv.AtoiErrFast
import Derived.Shelf.Strconv.ParseIntEmpty
import Derived.Shelf.Strconv.AtoiFail
import Derived.Shelf.Strconv.Clone
import Derived.Shelf.Strconv.SyntaxError
import Derived.Shelf.LaysC
import Derived.Shelf.Strconv.ToError
import Derived.Shelf.Strconv.Lower
import Derived.Shelf.Strconv.ParseUint10
import Derived.Shelf.Strconv.ParseUint10Empty
import Derived.Shelf.Strconv.ParseUint10Any
import Derived.Shelf.Strconv.ParseInt10
import Derived.Shelf.Strconv.AtoiLong
import Derived.Shelf.Strconv.AtoiInnerAll
import Derived.Shelf.Strconv.RangeError
import Derived.Shelf.Strconv.ToErrorRange
import Derived.Shelf.Strconv.AtoiAll
import Derived.Shelf.Strconv.ErrVarAll
import Derived.Shelf.Strings.Search1
import Derived.Shelf.Strings.Prefix
import Derived.Shelf.Strings.Runes
import Derived.Shelf.Strings.AsciiSet
import Derived.Shelf.Unicode.DecodeSlow
import Derived.Shelf.Slices.Turned
import Derived.Deep.QuietTactic
import Derived.BigQuiet
set_option linter.unusedVariables false
set_option linter.unusedSimpArgs false
set_option maxRecDepth 100000
set_option maxHeartbeats 32000000
namespace Go.Proofs.YtdmebjbkccjhbaaGreatDoor
open Go.RowKit
def cmpB:List UInt8→List UInt8→Ordering
 | [],[]=>.eq
 | [],_::_=>.lt
 | _::_,[]=>.gt
 | a::l,b::r=>if a<b then .lt else if b<a then .gt else cmpB l r
def trB:Ordering→Ordering→Ordering→Bool
 | .eq,b,c=>c==b
 | a,.eq,c=>c==a
 | .lt,.lt,c=>c==.lt
 | .gt,.gt,c=>c==.gt
 | _,_,_=>true
def swp:Ordering→Ordering
 | .lt=>.gt
 | .eq=>.eq
 | .gt=>.lt
theorem cmpB_anti:∀ (a b:List UInt8),cmpB b a=swp (cmpB a b)
 | [],[]=>rfl
 | [],_::_=>rfl
 | _::_,[]=>rfl
 | a::l,b::r=>by
  rw[cmpB,cmpB]
  have:=cmpB_anti l r
  simp only[UInt8.lt_iff_toNat_lt]
  by_cases h1:a.toNat<b.toNat <;> by_cases h2:b.toNat<a.toNat <;> first | (exfalso;omega) | (simp only[h1,h2,if_true,if_false];first | rfl | exact this)
theorem cmpB_zero:∀ (a b:List UInt8),cmpB a b=.eq↔a=b
 | [],[]=>by simp[cmpB]
 | [],_::_=>by simp[cmpB]
 | _::_,[]=>by simp[cmpB]
 | a::l,b::r=>by
  rw[cmpB]
  have:=cmpB_zero l r
  simp only[UInt8.lt_iff_toNat_lt,List.cons.injEq]
  by_cases h1:a.toNat<b.toNat
  ·simp only[h1,if_true,reduceCtorEq,false_iff]
   rintro⟨rfl,_⟩;omega
  ·by_cases h2:b.toNat<a.toNat
   ·simp only[h1,h2,if_true,if_false,reduceCtorEq,false_iff]
    rintro⟨rfl,_⟩;omega
   ·simp only[h1,h2,if_false,this]
    have e:a=b:=UInt8.toNat.inj (by omega)
    simp[e]
theorem cmpB_tr:∀ (a b c:List UInt8),trB (cmpB a b) (cmpB b c) (cmpB a c)=true
 | [],[],[]=>rfl
 | [],[],_::_=>rfl
 | [],_::_,[]=>rfl
 | _::_,[],[]=>rfl
 | _::_,[],_::_=>rfl
 | [],b::r,c::s=>by
  show trB .lt (cmpB (b::r) (c::s)) .lt=true
  cases cmpB (b::r) (c::s) <;> rfl
 | a::l,b::r,[]=>by
  show trB (cmpB (a::l) (b::r)) .gt .gt=true
  cases cmpB (a::l) (b::r) <;> rfl
 | a::l,b::r,c::s=>by
  rw[cmpB,cmpB,cmpB]
  have ih:=cmpB_tr l r s
  simp only[UInt8.lt_iff_toNat_lt]
  generalize cmpB l r=x at *
  generalize cmpB r s=y at *
  generalize cmpB l s=z at *
  by_cases h1:a.toNat<b.toNat <;> by_cases h2:b.toNat<c.toNat <;> by_cases h3:a.toNat<c.toNat <;> by_cases h4:b.toNat<a.toNat <;> by_cases h5:c.toNat<b.toNat <;> by_cases h6:c.toNat<a.toNat <;> first | (exfalso;omega) | (simp only[h1,h2,h3,h4,h5,h6,if_true,if_false];first | rfl | exact ih | (cases x <;> rfl) | (cases y <;> rfl))
theorem less_cmp:∀ (a b:List UInt8),Op.bytesLess a b=(cmpB a b==.lt)
 | [],[]=>rfl
 | [],_::_=>rfl
 | _::_,[]=>rfl
 | a::l,b::r=>by
  rw[cmpB]
  unfold Op.bytesLess
  by_cases h1:a<b
  ·simp[h1]
  ·by_cases h2:b<a
   ·have:a≠b:=fun e=>by subst e;exact h1 h2
    simp[h1,h2,this]
   ·have:a=b:=UInt8.toNat.inj (by simp only[UInt8.lt_iff_toNat_lt] at h1 h2;omega)
    subst this
    have:=less_cmp l r
    simp[h1,this]
theorem toList_inj2 {a b:ByteArray} (h:a.toList=b.toList):a=b:=by
 rw[Go.ByteArray.toList_eq,Go.ByteArray.toList_eq] at h
 exact ByteArray.ext (Array.toList_inj.1 h)
def lessS (a b:ByteArray):Bool:=Op.bytesLess a.toList b.toList
theorem lessS_iff (a b:ByteArray):lessS a b=true↔cmpB a.toList b.toList=.lt:=by
 unfold lessS;rw[less_cmp];simp
theorem lessS_irr (a:ByteArray):lessS a a=false:=by
 rw[← Bool.not_eq_true,lessS_iff]
 intro e
 have:=(cmpB_zero a.toList a.toList).2 rfl
 rw[this] at e;cases e
theorem lessS_tr {a b c:ByteArray} (h1:lessS a b=true) (h2:lessS b c=true):lessS a c=true:=by
 rw[lessS_iff] at *
 have h:=cmpB_tr a.toList b.toList c.toList
 rw[h1,h2] at h
 cases e:cmpB a.toList c.toList <;> rw[e] at h <;> first | rfl | (exfalso;revert h;decide)
theorem lessS_tri {a b:ByteArray} (h1:lessS a b=false) (h2:a≠b):lessS b a=true:=by
 rw[← Bool.not_eq_true,lessS_iff] at h1
 rw[lessS_iff,cmpB_anti a.toList b.toList]
 cases e:cmpB a.toList b.toList with
 | lt=>exact absurd e h1
 | eq=>exact absurd (toList_inj2 ((cmpB_zero _ _).1 e)) h2
 | gt=>rfl
theorem lessS_ne {a b:ByteArray} (h:lessS a b=true):a≠b:=fun e=>by subst e;rw[lessS_irr] at h;cases h
def Asc (l:List ByteArray):Prop:=l.Pairwise (fun a b=>lessS a b=true)
theorem insS_asc (s:ByteArray):∀ {l:List ByteArray},Asc l→Asc (insS s l)
 | [],_=>by rw[insS];exact List.pairwise_singleton _ _
 | x::r,h=>by
  have h':=List.pairwise_cons.1 h
  rw[insS]
  cases hx:Op.bytesLess x.toList s.toList
  ·rw[if_neg Bool.false_ne_true]
   by_cases e:x=s
   ·rw[if_pos e];exact h
   ·rw[if_neg e]
    have h3:lessS s x=true:=lessS_tri hx e
    refine List.pairwise_cons.2 ⟨fun y hy=>?_,h⟩
    rcases List.mem_cons.1 hy with rfl | hy
    ·exact h3
    ·exact lessS_tr h3 (h'.1 y hy)
  ·rw[if_pos rfl]
   refine List.pairwise_cons.2 ⟨fun y hy=>?_,insS_asc s h'.2⟩
   have h4:=insS_mb s y r
   rw[(mb_iff y (insS s r)).2 hy] at h4
   have h5:decide (s=y)=true∨mb y r=true:=by
    cases h6:decide (s=y)
    ·rw[h6] at h4;exact Or.inr (by simpa using h4.symm)
    ·exact Or.inl rfl
   rcases h5 with h5 | h5
   ·have:=of_decide_eq_true h5
    subst this
    exact hx
   ·exact h'.1 y ((mb_iff _ _).1 h5)
theorem srtS_asc:∀ (l out:List ByteArray),Asc out→Asc (srtS out l)
 | [],out,h=>h
 | s::l,out,h=>by rw[srtS];exact srtS_asc l _ (insS_asc s h)
theorem asc_ext:∀ {l m:List ByteArray},Asc l→Asc m→(∀ s,s∈l↔s∈m)→l=m
 | [],[],_,_,_=>rfl
 | [],y::q,_,_,h=>by have:=(h y).2 (by simp);cases this
 | x::r,[],_,_,h=>by have:=(h x).1 (by simp);cases this
 | x::r,y::q,h1,h2,h=>by
  have a1:=List.pairwise_cons.1 h1
  have a2:=List.pairwise_cons.1 h2
  have e:x=y:=by
   rcases List.mem_cons.1 ((h x).1 (by simp)) with e | e
   ·exact e
   ·rcases List.mem_cons.1 ((h y).2 (by simp)) with e2 | e2
    ·exact e2.symm
    ·have h3:=lessS_tr (a2.1 x e) (a1.1 y e2)
     rw[lessS_irr] at h3;cases h3
  subst e
  congr 1
  refine asc_ext a1.2 a2.2 (fun s=>?_)
  constructor
  ·intro hs
   rcases List.mem_cons.1 ((h s).1 (List.mem_cons_of_mem _ hs)) with e | e
   ·exact absurd e.symm (lessS_ne (a1.1 s hs))
   ·exact e
  ·intro hs
   rcases List.mem_cons.1 ((h s).2 (List.mem_cons_of_mem _ hs)) with e | e
   ·exact absurd e.symm (lessS_ne (a2.1 s hs))
   ·exact e
theorem srtS_is {l m:List ByteArray} (h:Asc m) (hm:∀ s,s∈m↔s∈l):srtS [] l=m:=
 asc_ext (srtS_asc l [] List.Pairwise.nil) h (fun s=>by
  rw[hm s,← mb_iff,srtS_mb,← mb_iff];simp[mb])
end Go.Proofs.YtdmebjbkccjhbaaGreatDoor
namespace Go.Proofs.YtdmebjbkccjhbaaGreatDoor
open Go.RowKit Go.Maps Go.Sort Go.Shelf
def sortA_ren:Go.Shelf.Ren:=⟨fun | 6=>89 | 8=>144 | 9=>143 | 19=>192 | 20=>193 | 21=>183 | 22=>184 | 23=>185 | 24=>186 | 25=>187 | 26=>188 | 27=>189 | 28=>190 | 29=>191 | 31=>218 | 32=>219 | 36=>217 | 37=>220 | 38=>221 | 39=>222 | 41=>235 | n=>n,fun | 0=>0 | 3=>3 | 4=>4 | 5=>5 | 9=>9 | 26=>28 | 27=>28 | 28=>121 | 29=>9 | 31=>162 | 32=>163 | 33=>161 | 35=>197 | 36=>198 | 41=>194 | 43=>203 | 44=>204 | 45=>190 | 46=>189 | 47=>196 | 48=>199 | 49=>200 | 50=>157 | 51=>201 | 52=>202 | 53=>222 | 54=>223 | 55=>224 | 57=>226 | 60=>225 | 61=>227 | 62=>32 | 63=>239 | 64=>127 | 66=>240 | 67=>109 | 68=>254 | 69=>255 | 70=>256 | 71=>257 | 72=>258 | 73=>259 | 76=>262 | 77=>153 | 80=>265 | 82=>213 | n=>n,fun | n=>n⟩
theorem sortA:SlLaysM.n6 Tryz.prog sortA_ren:={
 mixed:=by kernel_rfl
 f6 := ⟨"slices.Sort[[]string,string]", by decide, Tryz.func89.trans (congrArg some (by kernel_rfl))⟩
 f8:=Tryz.func144.trans (congrArg some (by kernel_rfl))
 f9 := ⟨"slices.pdqsortOrdered[string]", by decide, Tryz.func143.trans (congrArg some (by kernel_rfl))⟩
 f19:=Tryz.func192.trans (congrArg some (by kernel_rfl))
 f20:=Tryz.func193.trans (congrArg some (by kernel_rfl))
 f21 := ⟨"slices.insertionSortOrdered[string]", by decide, Tryz.func183.trans (congrArg some (by kernel_rfl))⟩
 f22 := ⟨"slices.heapSortOrdered[string]", by decide, Tryz.func184.trans (congrArg some (by kernel_rfl))⟩
 f23 := ⟨"slices.breakPatternsOrdered[string]", by decide, Tryz.func185.trans (congrArg some (by kernel_rfl))⟩
 f24 := ⟨"slices.choosePivotOrdered[string]", by decide, Tryz.func186.trans (congrArg some (by kernel_rfl))⟩
 f25 := ⟨"slices.reverseRangeOrdered[string]", by decide, Tryz.func187.trans (congrArg some (by kernel_rfl))⟩
 f26 := ⟨"slices.partialInsertionSortOrdered[string]", by decide, Tryz.func188.trans (congrArg some (by kernel_rfl))⟩
 f27 := ⟨"cmp.Less[string]", by decide, Tryz.func189.trans (congrArg some (by kernel_rfl))⟩
 f28 := ⟨"slices.partitionEqualOrdered[string]", by decide, Tryz.func190.trans (congrArg some (by kernel_rfl))⟩
 f29 := ⟨"slices.partitionOrdered[string]", by decide, Tryz.func191.trans (congrArg some (by kernel_rfl))⟩
 f31:=Tryz.func218.trans (congrArg some (by kernel_rfl))
 f32:=Tryz.func219.trans (congrArg some (by kernel_rfl))
 f36 := ⟨"slices.siftDownOrdered[string]", by decide, Tryz.func217.trans (congrArg some (by kernel_rfl))⟩
 f37 := ⟨"slices.medianAdjacentOrdered[string]", by decide, Tryz.func220.trans (congrArg some (by kernel_rfl))⟩
 f38 := ⟨"slices.medianOrdered[string]", by decide, Tryz.func221.trans (congrArg some (by kernel_rfl))⟩
 f39 := ⟨"cmp.isNaN[string]", by decide, Tryz.func222.trans (congrArg some (by kernel_rfl))⟩
 f41 := ⟨"slices.order2Ordered[string]", by decide, Tryz.func235.trans (congrArg some (by kernel_rfl))⟩
 t0:=Tryz.underlying0,a0:=Tryz.isAgg0,z0:=Tryz.sizeOf0,v0:=Tryz.zeroValue0
 t3:=Tryz.underlying3,a3:=Tryz.isAgg3,z3:=Tryz.sizeOf3,v3:=Tryz.zeroValue3
 t4:=Tryz.underlying4,a4:=Tryz.isAgg4,z4:=Tryz.sizeOf4,v4:=Tryz.zeroValue4
 t5:=Tryz.underlying5,a5:=Tryz.isAgg5,z5:=Tryz.sizeOf5,v5:=Tryz.zeroValue5
 t9:=Tryz.underlying9,a9:=Tryz.isAgg9,z9:=Tryz.sizeOf9,v9:=Tryz.zeroValue9
 t26:=Tryz.underlying28,a26:=Tryz.isAgg28,z26:=Tryz.sizeOf28,v26:=Tryz.zeroValue28
 t27:=Tryz.underlying28,a27:=Tryz.isAgg28,z27:=Tryz.sizeOf28,v27:=Tryz.zeroValue28
 t29:=Tryz.underlying9,a29:=Tryz.isAgg9,z29:=Tryz.sizeOf9,v29:=Tryz.zeroValue9
 t32:=Tryz.underlying163,a32:=Tryz.isAgg163,z32:=Tryz.sizeOf163,v32:=Tryz.zeroValue163
 t35:=Tryz.underlying197,a35:=Tryz.isAgg197,z35:=Tryz.sizeOf197,v35:=Tryz.zeroValue197
 t36:=Tryz.underlying198,a36:=Tryz.isAgg198,z36:=Tryz.sizeOf198,v36:=Tryz.zeroValue198
 t41:=Tryz.underlying194,a41:=Tryz.isAgg194,z41:=Tryz.sizeOf194,v41:=Tryz.zeroValue194
 t44:=Tryz.underlying204,a44:=Tryz.isAgg204,z44:=Tryz.sizeOf204,v44:=Tryz.zeroValue204
 t46:=Tryz.underlying189,a46:=Tryz.isAgg189,z46:=Tryz.sizeOf189,v46:=Tryz.zeroValue189
 t53:=Tryz.underlying222,a53:=Tryz.isAgg222,z53:=Tryz.sizeOf222,v53:=Tryz.zeroValue222
 t57:=Tryz.underlying226,a57:=Tryz.isAgg226,z57:=Tryz.sizeOf226,v57:=Tryz.zeroValue226
 t63:=Tryz.underlying239,a63:=Tryz.isAgg239,z63:=Tryz.sizeOf239,v63:=Tryz.zeroValue239
 t64:=Tryz.underlying127,a64:=Tryz.isAgg127,z64:=Tryz.sizeOf127,v64:=Tryz.zeroValue127 }
def srtdA_ren:Go.Shelf.Ren:=⟨fun | 6=>42 | 8=>88 | 9=>89 | 11=>142 | n=>n,fun | 26=>9 | 28=>67 | 24=>28 | 0=>0 | 33=>32 | 4=>4 | n=>n,fun | n=>n⟩
theorem srtdA:SlLaysZ.n6 Tryz.prog srtdA_ren:={
 mixed:=by kernel_rfl
 f6 := ⟨"slices.Sorted[string]", by decide, Tryz.func42.trans (congrArg some (by kernel_rfl))⟩
 f8 := ⟨"slices.Collect[string]", by decide, Tryz.func88.trans (congrArg some (by kernel_rfl))⟩
 f11 := ⟨"slices.AppendSeq[[]string,string]", by decide, Tryz.func142.trans (congrArg some (by kernel_rfl))⟩
 t0:=Tryz.underlying0,a0:=Tryz.isAgg0,z0:=Tryz.sizeOf0,v0:=Tryz.zeroValue0
 t24:=Tryz.underlying28,a24:=Tryz.isAgg28,z24:=Tryz.sizeOf28,v24:=Tryz.zeroValue28
 t26:=Tryz.underlying9,a26:=Tryz.isAgg9,z26:=Tryz.sizeOf9,v26:=Tryz.zeroValue9
 t28:=Tryz.underlying67,a28:=Tryz.isAgg67,z28:=Tryz.sizeOf67,v28:=Tryz.zeroValue67
 i26:=by kernel_rfl }
theorem sortsA (m:Nat):AnyZ.SortsIn Tryz.prog srtdA_ren Fence.wide m:=
 ⟨fun blk off cap ss W hH hblk hsz=>callsIn_wide.2 (AnyM.slices_Sort_string sortA blk off cap ss W hH hblk hsz),
  fun p cap W=>callsIn_wide.2 (AnyM.slices_Sort_string_none sortA p cap W)⟩
theorem sorted_asc {ss ks:List (List UInt8)} (hp:ss.Perm ks) (hn:ks.Nodup):Asc ((ss.mergeSort (fun x y=>decide (x≤y))).map fun x=>(⟨x.toArray⟩:ByteArray)):=by
 have tr:∀ a b c:List UInt8,leB a b=true→leB b c=true→leB a c=true:=fun a b c h1 h2=>by simp only[leB,decide_eq_true_eq] at *;exact List.le_trans h1 h2
 have tot:∀ a b:List UInt8,(leB a b||leB b a)=true:=fun a b=>by simp only[leB,Bool.or_eq_true,decide_eq_true_eq];exact List.le_total a b
 have h1:=List.pairwise_mergeSort tr tot ss
 have h2:(ss.mergeSort leB).Nodup:=((List.mergeSort_perm ss leB).trans hp).nodup_iff.2 hn
 refine List.pairwise_map.2 ((h1.and h2).imp fun {x y} h=>?_)
 have h3:x≤y:=by simpa [leB] using h.1
 unfold lessS
 rw[Go.ByteArray.toList_eq,Go.ByteArray.toList_eq,bytesLess_eq,decide_eq_true_iff]
 show x<y
 by_cases e:x<y
 ·exact e
 ·exact absurd (List.le_antisymm h3 (List.not_lt.1 e)) h.2
theorem strKeys_nodup {w:World} {p n:Nat} {D:DataW Value} (h:w.ownsMap Tryz.prog 9 heldE p n D):(strKeys D).Nodup:=by
 obtain⟨es,hD,hpw,_⟩:=h.entries (Maps.string_keyed Tryz.underlying9)
 obtain⟨es',hD',hko⟩:=h.keysOf
 obtain rfl:es=es':=by rw[hD] at hD';simpa using hD'
 subst hD
 show (es.map fun p=>strOf p.1).Nodup
 refine List.pairwise_map.2 (hpw.imp_of_mem fun {p q} hp' hq' hne e=>hne ?_)
 obtain⟨v,hv⟩:=hko p hp'
 obtain⟨a,_,ha,_⟩:=Maps.keyOf_str Tryz.underlying9 hv
 obtain⟨v',hv'⟩:=hko q hq'
 obtain⟨b,_,hb,_⟩:=Maps.keyOf_str Tryz.underlying9 hv'
 rw[ha,hb] at e ⊢
 exact congrArg _ e
theorem sorted_any {w:World} {p n Bm:Nat} {B:ByteArray→Bool} (hM:MapF w p n (bagF B)) (hn:n≤800000) (hBm:Bm<w.heap.size) (hbox:w.cell? ⟨Bm,0,none⟩=some (.map (some p))):
  Calls Tryz.prog 42 #[.func (.func 90) #[] #[.pointer (some ⟨Bm,0,none⟩)]] w fun e w'=>∃ (l:List ByteArray) (v:Value),e=.returned v∧(∀ s,mb s l=B s)∧l.length≤n∧Asc l∧NRow w w.heap.size w' l v:=by
 obtain⟨D,hD,hf⟩:=hM
 have hs:=hD.size_le
 have hseq:SeqGives Fence.wide 2 Tryz.prog 90 #[.pointer (some ⟨Bm,0,none⟩)] encStr (fun ss=>ss.Perm (strKeys D)) (Maps.size D) w:=
  AnyZ.keys_gives (ρ:=keysA_ren) { keysA with } Fence.wide 2 trivial rfl (by omega) Bm p n D w hBm hbox hD
 have h:=AnyZ.sorted_in srtdA Fence.wide 5 trivial trivial trivial trivial rfl (by omega) (sortsA _) (enters_of Tryz.func89 (by kernel_rfl) rfl) 90 #[.pointer (some ⟨Bm,0,none⟩)] trivial (enters_of Tryz.func90 (by kernel_rfl) rfl) (fun ss=>ss.Perm (strKeys D)) (Maps.size D) (by unfold maxLen;omega) (by omega) w hseq
 refine ((callsIn_wide (n:=5)).1 h).mono ?_
 rintro e w' ⟨v,ss,rfl,hp,hrow,_,hb⟩
 refine⟨(ss.mergeSort (fun x y=>decide (x≤y))).map (fun x=>⟨x.toArray⟩),v,rfl,fun s=>?_,?_,sorted_asc hp (strKeys_nodup hD),Kept.of_below hb,?_⟩
 ·rw[Bool.eq_iff_iff,mb_iff,List.mem_map]
  have h1:(bagF B s).isSome=B s:=by unfold bagF;cases B s <;> rfl
  rw[← h1,← hf.has s]
  unfold kL
  rw[← mem_strKeys hD,← ((List.mergeSort_perm ss leB).trans hp).mem_iff]
  constructor
  ·rintro⟨x,hx,rfl⟩;simpa using hx
  ·intro hx;exact⟨_,hx,by simp⟩
 ·rw[List.length_map,List.length_mergeSort,hp.length_eq];exact strKeys_size hD
 ·rw[List.length_map,List.length_mergeSort,List.map_map];exact hrow
end Go.Proofs.YtdmebjbkccjhbaaGreatDoor
namespace Go.Proofs.YtdmebjbkccjhbaaGreatDoor
open Go.RowKit
def scanF (P:Int→Bool) (s:ByteArray):Nat→Nat→Nat
 | 0,p=>p
 | f+1,p=>if h:p<s.size then (if P s[p].toNat then scanF P s f (p+1) else p) else p
def scan (P:Int→Bool) (s:ByteArray) (p:Nat):Nat:=scanF P s (s.size-p) p
theorem scan_yes (P:Int→Bool) (s:ByteArray) (p:Nat) (h:p<s.size) (hp:P s[p].toNat=true):scan P s p=scan P s (p+1):=by
 unfold scan
 rw[show s.size-p=(s.size-(p+1))+1 by omega]
 rw[scanF,dif_pos h,if_pos hp]
theorem scan_no (P:Int→Bool) (s:ByteArray) (p:Nat) (h:p<s.size) (hp:P s[p].toNat=false):scan P s p=p:=by
 unfold scan
 rw[show s.size-p=(s.size-(p+1))+1 by omega]
 rw[scanF,dif_pos h,if_neg (by simp[hp])]
theorem scan_end (P:Int→Bool) (s:ByteArray) (p:Nat) (h:s.size≤p):scan P s p=p:=by
 unfold scan
 rw[show s.size-p=0 by omega];rfl
theorem scan_spec (P:Int→Bool) (s:ByteArray) (p:Nat) (h:p≤s.size):p≤scan P s p∧scan P s p≤s.size ∧
  (∀ hq:scan P s p<s.size,P s[scan P s p].toNat=false)∧∀ q (_:p≤q) (_:q<scan P s p) (hs:q<s.size),P s[q].toNat=true:=by
 generalize hn:s.size-p=n
 induction n generalizing p with
 | zero=>
  rw[scan_end P s p (by omega)]
  exact⟨Nat.le_refl _,h,fun hq=>absurd hq (by omega),fun q _ hq _=>by omega⟩
 | succ n ih=>
  have hlt:p<s.size:=by omega
  cases hp:P s[p].toNat
  ·rw[scan_no P s p hlt hp]
   refine⟨Nat.le_refl _,h,?_,fun q _ hq _=>by omega⟩
   intro hq
   have:∀ (r:Nat) (e:r=p) (hr:r<s.size),P s[r].toNat=false:=by intro r e hr;subst e;exact hp
   exact this _ rfl hq
  ·have e:=scan_yes P s p hlt hp
   obtain⟨a,b,c,d⟩:=ih (p+1) (by omega) (by omega)
   have key:∀ r,r=scan P s (p+1)→p≤r∧r≤s.size∧(∀ hq:r<s.size,P s[r].toNat=false)∧∀ q (_:p≤q) (_:q<r) (hs:q<s.size),P s[q].toNat=true:=by
    intro r hr
    subst hr
    refine⟨by omega,b,c,fun q hq hq' hs=>?_⟩
    by_cases hqp:q=p
    ·subst hqp;exact hp
    ·exact d q (by omega) hq' hs
   exact key _ e
def blankB (c:Int):Bool:=c==32||c==9||c==10
def skip (s:ByteArray) (p:Nat):Nat:=scan blankB s p
def wend (s:ByteArray) (p:Nat):Nat:=scan inWordB s p
def pcells (s:ByteArray) (at_:Nat) (k:Int) (tx:ByteArray) (n:Int) (ta nest:Nat):List Value:=
 [.string s,.int .i64 at_,.int .i64 k,.string tx,.int .i64 n,.int .i64 ta,.int .i64 nest]
end Go.Proofs.YtdmebjbkccjhbaaGreatDoor
namespace Go.Proofs
open Go.Shelf
def Tryz.laysM171_ren:Go.Shelf.Ren:=⟨fun | 171=>38 | 243=>86 | 246=>138 | 283=>176 | 284=>177 | 285=>178 | 286=>179 | 129=>193 | 317=>212 | 318=>213 | 319=>214 | 320=>215 | 337=>231 | 338=>232 | n=>n,fun | 3=>3 | 9=>9 | 2=>2 | 4=>4 | 171=>188 | 0=>0 | 53=>189 | 37=>103 | 5=>5 | 173=>192 | 212=>219 | 51=>204 | 20=>20 | 213=>220 | 46=>163 | 232=>247 | 233=>248 | n=>n,fun | 17=>0 | 18=>6 | 19=>7 | n=>n⟩
theorem Tryz.laysM171:Go.Proofs.LaysM.n171 Tryz.prog Tryz.laysM171_ren:={
 mixed:=by kernel_rfl
 f129:=Tryz.func193.trans (congrArg some (by kernel_rfl))
 f171:=Tryz.func38.trans (congrArg some (by kernel_rfl))
 f243:=Tryz.func86.trans (congrArg some (by kernel_rfl))
 f246:=Tryz.func138.trans (congrArg some (by kernel_rfl))
 f283:=Tryz.func176.trans (congrArg some (by kernel_rfl))
 f284:=Tryz.func177.trans (congrArg some (by kernel_rfl))
 f285:=Tryz.func178.trans (congrArg some (by kernel_rfl))
 f286:=Tryz.func179.trans (congrArg some (by kernel_rfl))
 f317:=Tryz.func212.trans (congrArg some (by kernel_rfl))
 f318:=Tryz.func213.trans (congrArg some (by kernel_rfl))
 f319:=Tryz.func214.trans (congrArg some (by kernel_rfl))
 f320:=Tryz.func215.trans (congrArg some (by kernel_rfl))
 f337:=Tryz.func231.trans (congrArg some (by kernel_rfl))
 f338:=Tryz.func232.trans (congrArg some (by kernel_rfl))
 t0:=Tryz.underlying0
 a0:=Tryz.isAgg0
 z0:=Tryz.sizeOf0
 v0:=Tryz.zeroValue0
 t2:=Tryz.underlying2
 a2:=Tryz.isAgg2
 z2:=Tryz.sizeOf2
 v2:=Tryz.zeroValue2
 t3:=Tryz.underlying3
 a3:=Tryz.isAgg3
 z3:=Tryz.sizeOf3
 v3:=Tryz.zeroValue3
 t4:=Tryz.underlying4
 a4:=Tryz.isAgg4
 z4:=Tryz.sizeOf4
 v4:=Tryz.zeroValue4
 t5:=Tryz.underlying5
 a5:=Tryz.isAgg5
 z5:=Tryz.sizeOf5
 v5:=Tryz.zeroValue5
 t9:=Tryz.underlying9
 a9:=Tryz.isAgg9
 z9:=Tryz.sizeOf9
 v9:=Tryz.zeroValue9
 t20:=Tryz.underlying20
 a20:=Tryz.isAgg20
 z20:=Tryz.sizeOf20
 v20:=Tryz.zeroValue20
 t37:=Tryz.underlying103
 a37:=Tryz.isAgg103
 z37:=Tryz.sizeOf103
 v37:=Tryz.zeroValue103
 t46:=Tryz.underlying163
 a46:=Tryz.isAgg163
 z46:=Tryz.sizeOf163
 v46:=Tryz.zeroValue163
 t51:=Tryz.underlying204
 a51:=Tryz.isAgg204
 z51:=Tryz.sizeOf204
 v51:=Tryz.zeroValue204
 t53:=Tryz.underlying189
 a53:=Tryz.isAgg189
 z53:=Tryz.sizeOf189
 v53:=Tryz.zeroValue189
 t171:=Tryz.underlying188
 a171:=Tryz.isAgg188
 z171:=Tryz.sizeOf188
 v171:=Tryz.zeroValue188
 t173:=Tryz.underlying192
 a173:=Tryz.isAgg192
 z173:=Tryz.sizeOf192
 v173:=Tryz.zeroValue192
 t212:=Tryz.underlying219
 a212:=Tryz.isAgg219
 z212:=Tryz.sizeOf219
 v212:=Tryz.zeroValue219
 t213:=Tryz.underlying220
 a213:=Tryz.isAgg220
 z213:=Tryz.sizeOf220
 t232:=Tryz.underlying247
 a232:=Tryz.isAgg247
 z232:=Tryz.sizeOf247
 v232:=Tryz.zeroValue247
 t233:=Tryz.underlying248
 a233:=Tryz.isAgg248
 z233:=Tryz.sizeOf248
 v233:=Tryz.zeroValue248
 g17:=by kernel_rfl
 g18:=by kernel_rfl
 g19:=by kernel_rfl
 i0:=by kernel_rfl
 i2:=by kernel_rfl
 i3:=by kernel_rfl
 i4:=by kernel_rfl
 i5:=by kernel_rfl
 i9:=by kernel_rfl
 i20:=by kernel_rfl
 i37:=by kernel_rfl
 i46:=by kernel_rfl
 i51:=by kernel_rfl
 i53:=by kernel_rfl
 i171:=by kernel_rfl
 i173:=by kernel_rfl
 i212:=by kernel_rfl
 i232:=by kernel_rfl
 i233:=by kernel_rfl
 m17:=by kernel_rfl
 m18:=by kernel_rfl
 m19:=by kernel_rfl }
open Go.RowKit Go.Sort Go.Lib in
theorem Tryz.strconv_Itoa (n : Int) (h0 : -9223372036854775808 ≤ n) (h1 : n ≤ 9223372036854775807) (w : World) (htab : Lib.TabIs Tryz.prog w "internal/strconv.uint64pow10" .u64 Lib.pow10Tab) :
  Calls Tryz.prog 38 #[.int .i64 n] w fun e w'=>e=.returned (.string ⟨(Lib.itoa n).toArray⟩)∧∃ k os,w'=grow (w.drewN k) os:=Any.strconv_Itoa Tryz.laysM171 n h0 h1 w htab
def Tryz.lays171_ren:Go.Shelf.Ren:=⟨fun | 171=>38 | 243=>86 | 246=>138 | 283=>176 | 284=>177 | 285=>178 | 286=>179 | 129=>193 | 317=>212 | 318=>213 | 319=>214 | 320=>215 | 337=>231 | 338=>232 | n=>n,fun | 3=>3 | 9=>9 | 2=>2 | 4=>4 | 171=>188 | 0=>0 | 53=>189 | 37=>103 | 5=>5 | 173=>192 | 212=>219 | 51=>204 | 20=>20 | 213=>220 | 46=>163 | 232=>247 | 233=>248 | n=>n,fun | 17=>0 | 18=>6 | 19=>7 | n=>n⟩
theorem Tryz.lays171:Go.Proofs.Lays.n171 Tryz.prog Tryz.lays171_ren:={
 mixed:=by kernel_rfl
 f129:=Tryz.func193.trans (congrArg some (by kernel_rfl))
 f171:=Tryz.func38.trans (congrArg some (by kernel_rfl))
 f243:=Tryz.func86.trans (congrArg some (by kernel_rfl))
 f246:=Tryz.func138.trans (congrArg some (by kernel_rfl))
 f283:=Tryz.func176.trans (congrArg some (by kernel_rfl))
 f284:=Tryz.func177.trans (congrArg some (by kernel_rfl))
 f285:=Tryz.func178.trans (congrArg some (by kernel_rfl))
 f286:=Tryz.func179.trans (congrArg some (by kernel_rfl))
 f317:=Tryz.func212.trans (congrArg some (by kernel_rfl))
 f318:=Tryz.func213.trans (congrArg some (by kernel_rfl))
 f319:=Tryz.func214.trans (congrArg some (by kernel_rfl))
 f320:=Tryz.func215.trans (congrArg some (by kernel_rfl))
 f337:=Tryz.func231.trans (congrArg some (by kernel_rfl))
 f338:=Tryz.func232.trans (congrArg some (by kernel_rfl))
 t0:=Tryz.underlying0
 a0:=Tryz.isAgg0
 z0:=Tryz.sizeOf0
 v0:=Tryz.zeroValue0
 t2:=Tryz.underlying2
 a2:=Tryz.isAgg2
 z2:=Tryz.sizeOf2
 v2:=Tryz.zeroValue2
 t3:=Tryz.underlying3
 a3:=Tryz.isAgg3
 z3:=Tryz.sizeOf3
 v3:=Tryz.zeroValue3
 t4:=Tryz.underlying4
 a4:=Tryz.isAgg4
 z4:=Tryz.sizeOf4
 v4:=Tryz.zeroValue4
 t5:=Tryz.underlying5
 a5:=Tryz.isAgg5
 z5:=Tryz.sizeOf5
 v5:=Tryz.zeroValue5
 t9:=Tryz.underlying9
 a9:=Tryz.isAgg9
 z9:=Tryz.sizeOf9
 v9:=Tryz.zeroValue9
 t20:=Tryz.underlying20
 a20:=Tryz.isAgg20
 z20:=Tryz.sizeOf20
 v20:=Tryz.zeroValue20
 t37:=Tryz.underlying103
 a37:=Tryz.isAgg103
 z37:=Tryz.sizeOf103
 v37:=Tryz.zeroValue103
 t46:=Tryz.underlying163
 a46:=Tryz.isAgg163
 z46:=Tryz.sizeOf163
 v46:=Tryz.zeroValue163
 t51:=Tryz.underlying204
 a51:=Tryz.isAgg204
 z51:=Tryz.sizeOf204
 v51:=Tryz.zeroValue204
 t53:=Tryz.underlying189
 a53:=Tryz.isAgg189
 z53:=Tryz.sizeOf189
 v53:=Tryz.zeroValue189
 t171:=Tryz.underlying188
 a171:=Tryz.isAgg188
 z171:=Tryz.sizeOf188
 v171:=Tryz.zeroValue188
 t173:=Tryz.underlying192
 a173:=Tryz.isAgg192
 z173:=Tryz.sizeOf192
 v173:=Tryz.zeroValue192
 t212:=Tryz.underlying219
 a212:=Tryz.isAgg219
 z212:=Tryz.sizeOf219
 v212:=Tryz.zeroValue219
 t213:=Tryz.underlying220
 a213:=Tryz.isAgg220
 z213:=Tryz.sizeOf220
 t232:=Tryz.underlying247
 a232:=Tryz.isAgg247
 z232:=Tryz.sizeOf247
 v232:=Tryz.zeroValue247
 t233:=Tryz.underlying248
 a233:=Tryz.isAgg248
 z233:=Tryz.sizeOf248
 v233:=Tryz.zeroValue248
 g17:=by kernel_rfl
 g18:=by kernel_rfl
 g19:=by kernel_rfl }
open Go.RowKit Go.Sort Go.Lib in
theorem Tryz.strconv_Itoa_small (i:Nat) (hi:i<100) (w:World):
  Calls Tryz.prog 38 #[.int .i64 i] w fun e w'=>e=.returned (.string ⟨(Lib.decDigits i).toArray⟩)∧w'=w:=Any.strconv_Itoa_small Tryz.lays171 i hi w
def Tryz.laysC172_ren:Go.Shelf.Ren:=⟨fun | 172=>159 | 244=>197 | 245=>198 | 247=>223 | 279=>224 | 280=>225 | 281=>226 | 282=>227 | 287=>236 | 316=>237 | 171=>38 | 205=>238 | 321=>241 | 322=>242 | 243=>86 | 246=>138 | 283=>176 | 284=>177 | 285=>178 | 286=>179 | 129=>193 | 317=>212 | 318=>213 | 319=>214 | 320=>215 | 337=>231 | 338=>232 | n=>n,fun | 9=>9 | 3=>3 | 75=>147 | 76=>148 | 4=>4 | 5=>5 | 167=>228 | 37=>103 | 0=>0 | 85=>229 | 2=>2 | 168=>231 | 53=>189 | 175=>241 | 46=>163 | 210=>245 | 127=>153 | 145=>253 | 143=>251 | 21=>21 | 171=>188 | 173=>192 | 212=>219 | 51=>204 | 20=>20 | 213=>220 | 232=>247 | 233=>248 | 80=>109 | n=>n,fun | 15=>4 | 16=>5 | 17=>0 | 18=>6 | 19=>7 | n=>n⟩
theorem Tryz.laysC172:Go.Proofs.LaysC.n172 Tryz.prog Tryz.laysC172_ren:={
 mixed:=by kernel_rfl
 f129:=Tryz.func193.trans (congrArg some (by kernel_rfl))
 f171:=Tryz.func38.trans (congrArg some (by kernel_rfl))
 f172:=Tryz.func159.trans (congrArg some (by kernel_rfl))
 f205:=Tryz.func238.trans (congrArg some (by kernel_rfl))
 f243:=Tryz.func86.trans (congrArg some (by kernel_rfl))
 f244:=Tryz.func197.trans (congrArg some (by kernel_rfl))
 f245:=Tryz.func198.trans (congrArg some (by kernel_rfl))
 f246:=Tryz.func138.trans (congrArg some (by kernel_rfl))
 f247:=Tryz.func223.trans (congrArg some (by kernel_rfl))
 f279:=Tryz.func224.trans (congrArg some (by kernel_rfl))
 f280:=Tryz.func225.trans (congrArg some (by kernel_rfl))
 f281:=Tryz.func226.trans (congrArg some (by kernel_rfl))
 f282:=Tryz.func227.trans (congrArg some (by kernel_rfl))
 f283:=Tryz.func176.trans (congrArg some (by kernel_rfl))
 f284:=Tryz.func177.trans (congrArg some (by kernel_rfl))
 f285:=Tryz.func178.trans (congrArg some (by kernel_rfl))
 f286:=Tryz.func179.trans (congrArg some (by kernel_rfl))
 f287:=Tryz.func236.trans (congrArg some (by kernel_rfl))
 f316:=Tryz.func237.trans (congrArg some (by kernel_rfl))
 f317:=Tryz.func212.trans (congrArg some (by kernel_rfl))
 f318:=Tryz.func213.trans (congrArg some (by kernel_rfl))
 f319:=Tryz.func214.trans (congrArg some (by kernel_rfl))
 f320:=Tryz.func215.trans (congrArg some (by kernel_rfl))
 f321:=Tryz.func241.trans (congrArg some (by kernel_rfl))
 f322:=Tryz.func242.trans (congrArg some (by kernel_rfl))
 f337:=Tryz.func231.trans (congrArg some (by kernel_rfl))
 f338:=Tryz.func232.trans (congrArg some (by kernel_rfl))
 t0:=Tryz.underlying0
 a0:=Tryz.isAgg0
 z0:=Tryz.sizeOf0
 v0:=Tryz.zeroValue0
 t2:=Tryz.underlying2
 a2:=Tryz.isAgg2
 z2:=Tryz.sizeOf2
 v2:=Tryz.zeroValue2
 t3:=Tryz.underlying3
 a3:=Tryz.isAgg3
 z3:=Tryz.sizeOf3
 v3:=Tryz.zeroValue3
 t4:=Tryz.underlying4
 a4:=Tryz.isAgg4
 z4:=Tryz.sizeOf4
 v4:=Tryz.zeroValue4
 t5:=Tryz.underlying5
 a5:=Tryz.isAgg5
 z5:=Tryz.sizeOf5
 v5:=Tryz.zeroValue5
 t9:=Tryz.underlying9
 a9:=Tryz.isAgg9
 z9:=Tryz.sizeOf9
 v9:=Tryz.zeroValue9
 t20:=Tryz.underlying20
 a20:=Tryz.isAgg20
 z20:=Tryz.sizeOf20
 v20:=Tryz.zeroValue20
 t21:=Tryz.underlying21
 a21:=Tryz.isAgg21
 z21:=Tryz.sizeOf21
 v21:=Tryz.zeroValue21
 t37:=Tryz.underlying103
 a37:=Tryz.isAgg103
 z37:=Tryz.sizeOf103
 v37:=Tryz.zeroValue103
 t46:=Tryz.underlying163
 a46:=Tryz.isAgg163
 z46:=Tryz.sizeOf163
 v46:=Tryz.zeroValue163
 t51:=Tryz.underlying204
 a51:=Tryz.isAgg204
 z51:=Tryz.sizeOf204
 v51:=Tryz.zeroValue204
 t53:=Tryz.underlying189
 a53:=Tryz.isAgg189
 z53:=Tryz.sizeOf189
 v53:=Tryz.zeroValue189
 t75:=Tryz.underlying147
 a75:=Tryz.isAgg147
 z75:=Tryz.sizeOf147
 v75:=Tryz.zeroValue147
 t76:=Tryz.underlying148
 a76:=Tryz.isAgg148
 z76:=Tryz.sizeOf148
 v76:=Tryz.zeroValue148
 t85:=Tryz.underlying229
 a85:=Tryz.isAgg229
 z85:=Tryz.sizeOf229
 v85:=Tryz.zeroValue229
 t127:=Tryz.underlying153
 a127:=Tryz.isAgg153
 z127:=Tryz.sizeOf153
 v127:=Tryz.zeroValue153
 t143:=Tryz.underlying251
 a143:=Tryz.isAgg251
 z143:=Tryz.sizeOf251
 v143:=Tryz.zeroValue251
 t145:=Tryz.underlying253
 a145:=Tryz.isAgg253
 z145:=Tryz.sizeOf253
 v145:=Tryz.zeroValue253
 t167:=Tryz.underlying228
 a167:=Tryz.isAgg228
 z167:=Tryz.sizeOf228
 v167:=Tryz.zeroValue228
 t168:=Tryz.underlying231
 a168:=Tryz.isAgg231
 z168:=Tryz.sizeOf231
 v168:=Tryz.zeroValue231
 t171:=Tryz.underlying188
 a171:=Tryz.isAgg188
 z171:=Tryz.sizeOf188
 v171:=Tryz.zeroValue188
 t173:=Tryz.underlying192
 a173:=Tryz.isAgg192
 z173:=Tryz.sizeOf192
 v173:=Tryz.zeroValue192
 t175:=Tryz.underlying241
 a175:=Tryz.isAgg241
 z175:=Tryz.sizeOf241
 v175:=Tryz.zeroValue241
 t210:=Tryz.underlying245
 a210:=Tryz.isAgg245
 z210:=Tryz.sizeOf245
 v210:=Tryz.zeroValue245
 t212:=Tryz.underlying219
 a212:=Tryz.isAgg219
 z212:=Tryz.sizeOf219
 v212:=Tryz.zeroValue219
 t213:=Tryz.underlying220
 a213:=Tryz.isAgg220
 z213:=Tryz.sizeOf220
 t232:=Tryz.underlying247
 a232:=Tryz.isAgg247
 z232:=Tryz.sizeOf247
 v232:=Tryz.zeroValue247
 t233:=Tryz.underlying248
 a233:=Tryz.isAgg248
 z233:=Tryz.sizeOf248
 v233:=Tryz.zeroValue248
 g15:=by kernel_rfl
 g16:=by kernel_rfl
 g17:=by kernel_rfl
 g18:=by kernel_rfl
 g19:=by kernel_rfl
 t80:=Tryz.underlying109
 a80:=Tryz.isAgg109
 z80:=Tryz.sizeOf109
 v80:=Tryz.zeroValue109
 i0:=by kernel_rfl
 i2:=by kernel_rfl
 i3:=by kernel_rfl
 i4:=by kernel_rfl
 i5:=by kernel_rfl
 i9:=by kernel_rfl
 i20:=by kernel_rfl
 i21:=by kernel_rfl
 i37:=by kernel_rfl
 i46:=by kernel_rfl
 i51:=by kernel_rfl
 i53:=by kernel_rfl
 i75:=by kernel_rfl
 i76:=by kernel_rfl
 i80:=by kernel_rfl
 i85:=by kernel_rfl
 i127:=by kernel_rfl
 i143:=by kernel_rfl
 i145:=by kernel_rfl
 i167:=by kernel_rfl
 i168:=by kernel_rfl
 i171:=by kernel_rfl
 i173:=by kernel_rfl
 i175:=by kernel_rfl
 i210:=by kernel_rfl
 i212:=by kernel_rfl
 i232:=by kernel_rfl
 i233:=by kernel_rfl
 m15:=by kernel_rfl
 m16:=by kernel_rfl
 m17:=by kernel_rfl
 m18:=by kernel_rfl
 m19:=by kernel_rfl
 c0:=by kernel_rfl
 c2:=by kernel_rfl
 c3:=by kernel_rfl
 c4:=by kernel_rfl
 c5:=by kernel_rfl
 c9:=by kernel_rfl
 c20:=by kernel_rfl
 c21:=by kernel_rfl
 c37:=by kernel_rfl
 c46:=by kernel_rfl
 c51:=by kernel_rfl
 c53:=by kernel_rfl
 c75:=by kernel_rfl
 c76:=by kernel_rfl
 c80:=by kernel_rfl
 c85:=by kernel_rfl
 c127:=by kernel_rfl
 c143:=by kernel_rfl
 c145:=by kernel_rfl
 c167:=by kernel_rfl
 c168:=by kernel_rfl
 c171:=by kernel_rfl
 c173:=by kernel_rfl
 c175:=by kernel_rfl
 c210:=by kernel_rfl
 c212:=by kernel_rfl
 c213:=by kernel_rfl
 c232:=by kernel_rfl
 c233:=by kernel_rfl }
open Go.RowKit in
theorem Tryz.strconv_Atoi_ok (s:ByteArray) (hmax:s.size≤9223372036854775806) (v:Int) (h:Lib.atoiAll s.data.toList=.ok v) (w:World):
  Calls Tryz.prog 159 #[.string s] w fun e w'=>e=.returned (.tuple #[.int .i64 v,.nilIface])∧(w'=w∨∃ t,w'=Lib.bytesWorld w 5 t):=Any.strconv_Atoi_ok Tryz.laysC172 s hmax v h w
open Go.RowKit in
theorem Tryz.strconv_Atoi_syntax (s:ByteArray) (hlim:s.size≤281474976710656) (h:Lib.atoiAll s.data.toList=Lib.atoiAll []) (ev:Value) (w:World) (hv:w.cell? ⟨4,0,none⟩=some ev) (hev:ev=.nilIface∨∃ te pe,ev=.iface te pe):
  Calls Tryz.prog 159 #[.string s] w fun e w'=>∃ N,e=.returned (.tuple #[.int .i64 (0),.iface 231 (.pointer (some ⟨N,0,none⟩))])∧w.heap.size≤N∧w'.heap[N]?=some (.cells #[.string ⟨#[65,116,111,105]⟩,.string s,ev] 245 (0,0))∧Below w.heap.size w w':=Any.strconv_Atoi_syntax Tryz.laysC172 s hlim h ev w hv hev
open Go.RowKit in
theorem Tryz.strconv_Atoi_range (s:ByteArray) (hlim:s.size≤281474976710656) (h:Lib.atoiAll s.data.toList=.range) (ev:Value) (w:World) (hv:w.cell? ⟨5,0,none⟩=some ev) (hev:ev=.nilIface∨∃ te pe,ev=.iface te pe):
  Calls Tryz.prog 159 #[.string s] w fun e w'=>∃ N,e=.returned (.tuple #[.int .i64 (Lib.atoiSat s.data.toList),.iface 231 (.pointer (some ⟨N,0,none⟩))])∧w.heap.size≤N∧w'.heap[N]?=some (.cells #[.string ⟨#[65,116,111,105]⟩,.string s,ev] 245 (0,0))∧Below w.heap.size w w':=Any.strconv_Atoi_range Tryz.laysC172 s hlim h ev w hv hev
def Tryz.lays99_ren:Go.Shelf.Ren:=⟨fun | 99=>163 | 206=>199 | n=>n,fun | 9=>9 | 4=>4 | 3=>3 | n=>n,fun | n=>n⟩
theorem Tryz.lays99:Go.Proofs.Lays.n99 Tryz.prog Tryz.lays99_ren:={
 mixed:=by kernel_rfl
 f99:=Tryz.func163.trans (congrArg some (by kernel_rfl))
 f206:=Tryz.func199.trans (congrArg some (by kernel_rfl))
 t3:=Tryz.underlying3
 a3:=Tryz.isAgg3
 z3:=Tryz.sizeOf3
 v3:=Tryz.zeroValue3
 t4:=Tryz.underlying4
 a4:=Tryz.isAgg4
 z4:=Tryz.sizeOf4
 v4:=Tryz.zeroValue4
 t9:=Tryz.underlying9
 a9:=Tryz.isAgg9
 z9:=Tryz.sizeOf9
 v9:=Tryz.zeroValue9 }
open Go.RowKit Go.Lib in
theorem Tryz.strings_HasPrefix (s p:ByteArray) (w:World):
  Calls Tryz.prog 163 #[.string s,.string p] w fun e w'=>e=.returned (.bool (Lib.hasPrefix s.data.toList p.data.toList))∧w'=w:=Any.strings_HasPrefix Tryz.lays99 s p w
def Tryz.lays102_ren:Go.Shelf.Ren:=⟨fun | 102=>37 | 209=>85 | 207=>137 | n=>n,fun | 9=>9 | 4=>4 | 3=>3 | n=>n,fun | n=>n⟩
theorem Tryz.lays102:Go.Proofs.Lays.n102 Tryz.prog Tryz.lays102_ren:={
 mixed:=by kernel_rfl
 f102:=Tryz.func37.trans (congrArg some (by kernel_rfl))
 f207:=Tryz.func137.trans (congrArg some (by kernel_rfl))
 f209:=Tryz.func85.trans (congrArg some (by kernel_rfl))
 t3:=Tryz.underlying3
 a3:=Tryz.isAgg3
 z3:=Tryz.sizeOf3
 v3:=Tryz.zeroValue3
 t4:=Tryz.underlying4
 a4:=Tryz.isAgg4
 z4:=Tryz.sizeOf4
 v4:=Tryz.zeroValue4
 t9:=Tryz.underlying9
 a9:=Tryz.isAgg9
 z9:=Tryz.sizeOf9
 v9:=Tryz.zeroValue9 }
open Go.RowKit Go.Lib in
theorem Tryz.strings_TrimSuffix (s p:ByteArray) (w:World) (hs:s.size≤9223372036854775807):
  Calls Tryz.prog 37 #[.string s,.string p] w fun e w'=>e=.returned (.string ⟨(Lib.trimSuffix s.data.toList p.data.toList).toArray⟩)∧w'=w:=Any.strings_TrimSuffix Tryz.lays102 s p w hs
def Tryz.lays227_ren:Go.Shelf.Ren:=⟨fun | 227=>82 | n=>n,fun | 9=>9 | 116=>113 | 4=>4 | 0=>0 | 3=>3 | 5=>5 | n=>n,fun | n=>n⟩
theorem Tryz.lays227:Go.Proofs.Lays.n227 Tryz.prog Tryz.lays227_ren:={
 mixed:=by kernel_rfl
 f227:=Tryz.func82.trans (congrArg some (by kernel_rfl))
 t0:=Tryz.underlying0
 a0:=Tryz.isAgg0
 z0:=Tryz.sizeOf0
 v0:=Tryz.zeroValue0
 t3:=Tryz.underlying3
 a3:=Tryz.isAgg3
 z3:=Tryz.sizeOf3
 v3:=Tryz.zeroValue3
 t4:=Tryz.underlying4
 a4:=Tryz.isAgg4
 z4:=Tryz.sizeOf4
 v4:=Tryz.zeroValue4
 t5:=Tryz.underlying5
 a5:=Tryz.isAgg5
 z5:=Tryz.sizeOf5
 v5:=Tryz.zeroValue5
 t9:=Tryz.underlying9
 a9:=Tryz.isAgg9
 z9:=Tryz.sizeOf9
 v9:=Tryz.zeroValue9
 t116:=Tryz.underlying113
 a116:=Tryz.isAgg113
 z116:=Tryz.sizeOf113 }
open Go.RowKit Go.Lib in
theorem Tryz.strings_makeASCIISet (hv116:∀ w,(zeroValue 113).run Tryz.prog w=.ok (.agg (Array.replicate 256 (.bool false))) w) (chars:ByteArray) (w:World) (hs:chars.size<4294967281) (hascii:∀ (j:Nat) b,chars.data.toList[j]?=some b→b.toNat<128):
  Calls Tryz.prog 82 #[.string chars] w fun e w'=>e=.returned (.tuple #[.agg (Lib.setCells chars.data.toList),.bool true])∧w'=w.alloc (.cells (Lib.setCells chars.data.toList) 113):=Any.strings_makeASCIISet Tryz.lays227 hv116 (by kernel_rfl) chars w hs hascii
def Tryz.lays228_ren:Go.Shelf.Ren:=⟨fun | 228=>134 | n=>n,fun | 124=>117 | 5=>5 | 4=>4 | 0=>0 | 116=>113 | n=>n,fun | n=>n⟩
theorem Tryz.lays228:Go.Proofs.Lays.n228 Tryz.prog Tryz.lays228_ren:={
 mixed:=by kernel_rfl
 f228:=Tryz.func134.trans (congrArg some (by kernel_rfl))
 t0:=Tryz.underlying0
 a0:=Tryz.isAgg0
 z0:=Tryz.sizeOf0
 v0:=Tryz.zeroValue0
 t4:=Tryz.underlying4
 a4:=Tryz.isAgg4
 z4:=Tryz.sizeOf4
 v4:=Tryz.zeroValue4
 t5:=Tryz.underlying5
 a5:=Tryz.isAgg5
 z5:=Tryz.sizeOf5
 v5:=Tryz.zeroValue5
 t116:=Tryz.underlying113
 a116:=Tryz.isAgg113
 z116:=Tryz.sizeOf113
 t124:=Tryz.underlying117
 a124:=Tryz.isAgg117
 z124:=Tryz.sizeOf117
 v124:=Tryz.zeroValue117 }
open Go.RowKit Go.Lib in
theorem Tryz.asciiSet_contains (b:Nat) (x:UInt8) (v:Bool) (w:World) (hc:w.cell? ⟨b,x.toNat,none⟩=some (.bool v)):
  Calls Tryz.prog 134 #[.pointer (some ⟨b,0,none⟩),.int .u8 x.toNat] w fun e w'=>e=.returned (.bool v)∧w'=w:=Any.asciiSet_contains Tryz.lays228 b x v w hc
def Tryz.lays108_ren:Go.Shelf.Ren:=⟨fun | 108=>170 | n=>n,fun | 28=>52 | 3=>3 | 0=>0 | 4=>4 | n=>n,fun | n=>n⟩
theorem Tryz.lays108:Go.Proofs.Lays.n108 Tryz.prog Tryz.lays108_ren:={
 mixed:=by kernel_rfl
 f108:=Tryz.func170.trans (congrArg some (by kernel_rfl))
 t0:=Tryz.underlying0
 a0:=Tryz.isAgg0
 z0:=Tryz.sizeOf0
 v0:=Tryz.zeroValue0
 t3:=Tryz.underlying3
 a3:=Tryz.isAgg3
 z3:=Tryz.sizeOf3
 v3:=Tryz.zeroValue3
 t4:=Tryz.underlying4
 a4:=Tryz.isAgg4
 z4:=Tryz.sizeOf4
 v4:=Tryz.zeroValue4
 t28:=Tryz.underlying52
 a28:=Tryz.isAgg52
 z28:=Tryz.sizeOf52
 v28:=Tryz.zeroValue52 }
open Go.Lib in
theorem Tryz.slices_Index_int (b off n c:Nat) (zs:List Int) (x:Int) (w:World) (hz:n≤zs.length) (hbig:n≤9223372036854775807) (hc:∀ j,j<zs.length→w.cell? ⟨b,off+j,none⟩=some (.int .i64 (zs.getD j 0))):
  Calls Tryz.prog 170 #[.slice (some ⟨b,off,none⟩) n c,.int .i64 x] w fun e w'=>e=.returned (.int .i64 (Lib.idxOf (zs.take n) x))∧w'=w:=Any.slices_Index_int Tryz.lays108 b off n c zs x w hz hbig hc
open Go.Lib in
theorem Tryz.slices_Index_int_empty (a:Option Addr) (c:Nat) (x:Int) (w:World):
  Calls Tryz.prog 170 #[.slice a 0 c,.int .i64 x] w fun e w'=>e=.returned (.int .i64 (Lib.idxOf [] x))∧w'=w:=Any.slices_Index_int_empty Tryz.lays108 a c x w
def Tryz.lays110_ren:Go.Shelf.Ren:=⟨fun | 110=>35 | 109=>80 | n=>n,fun | 31=>28 | 9=>9 | 4=>4 | 3=>3 | 0=>0 | n=>n,fun | n=>n⟩
theorem Tryz.lays110:Go.Proofs.Lays.n110 Tryz.prog Tryz.lays110_ren:={
 mixed:=by kernel_rfl
 f109:=Tryz.func80.trans (congrArg some (by kernel_rfl))
 f110:=Tryz.func35.trans (congrArg some (by kernel_rfl))
 t0:=Tryz.underlying0
 a0:=Tryz.isAgg0
 z0:=Tryz.sizeOf0
 v0:=Tryz.zeroValue0
 t3:=Tryz.underlying3
 a3:=Tryz.isAgg3
 z3:=Tryz.sizeOf3
 v3:=Tryz.zeroValue3
 t4:=Tryz.underlying4
 a4:=Tryz.isAgg4
 z4:=Tryz.sizeOf4
 v4:=Tryz.zeroValue4
 t9:=Tryz.underlying9
 a9:=Tryz.isAgg9
 z9:=Tryz.sizeOf9
 v9:=Tryz.zeroValue9
 t31:=Tryz.underlying28
 a31:=Tryz.isAgg28
 z31:=Tryz.sizeOf28
 v31:=Tryz.zeroValue28 }
open Go.Lib in
theorem Tryz.slices_Contains_string (b off n c:Nat) (zs:List ByteArray) (x:ByteArray) (w:World) (hz:n≤zs.length) (hbig:n≤9223372036854775807) (hc:∀ j,j<zs.length→w.cell? ⟨b,off+j,none⟩=some (.string (zs.getD j ByteArray.empty))):
  Calls Tryz.prog 35 #[.slice (some ⟨b,off,none⟩) n c,.string x] w fun e w'=>e=.returned (.bool (Lib.containsS (zs.take n) x))∧w'=w:=Any.slices_Contains_string Tryz.lays110 b off n c zs x w hz hbig hc
open Go.Lib in
theorem Tryz.slices_Contains_string_empty (a:Option Addr) (c:Nat) (x:ByteArray) (w:World):
  Calls Tryz.prog 35 #[.slice a 0 c,.string x] w fun e w'=>e=.returned (.bool false)∧w'=w:=Any.slices_Contains_string_empty Tryz.lays110 a c x w
end Go.Proofs
namespace Go.Proofs.YtdmebjbkccjhbaaGreatDoor
open Go.RowKit
theorem adv1_any (x s:ByteArray) (b pb fb fr:Nat) (w:World) (hp:w.cell? ⟨pb,0,none⟩=some (.pointer (some ⟨b,0,none⟩)))
  (h0:w.cell? ⟨b,0,none⟩=some (.string s)) (hf:w.cell? ⟨fb,0,none⟩=some (.int .i64 fr)) (hfs:fr≤s.size) (_hs:s.size≤9223372036854775807):
  Calls Tryz.prog 162 #[.string x,.pointer (some ⟨pb,0,none⟩),.pointer (some ⟨fb,0,none⟩)] w fun e w'=>
   e=.returned (.bool (Lib.hasPrefix (s.data.toList.drop fr) x.data.toList))∧∃ n,w.drewN n=w':=by
 have i1:(0:Int)≤(fr:Int):=by omega
 have i2:(fr:Int)≤(s.size:Int):=by omega
 go_enter Tryz.func162,Tryz.ntmps162
 go_wp2_with fail
 go_quiet ((go_at_call 163;exact Calls.quiet_of_same (Tryz.strings_HasPrefix _ _ _)))
 go_wp2_with fail
 go_ret
 exact⟨by rw[← Lib.extract_to_end];rfl,nq,rfl⟩
def signs:List ByteArray:=[⟨#[60,61,62]⟩,⟨#[62,45,62,62]⟩,⟨#[60,60,124]⟩,⟨#[124,62,62]⟩,⟨#[124,45,62]⟩,⟨#[60,45,62]⟩,⟨#[43,45,62]⟩,⟨#[45,45,62]⟩,⟨#[62,45,62]⟩,⟨#[61,62]⟩,⟨#[47,61]⟩,⟨#[60,61]⟩,⟨#[62,61]⟩,⟨#[46,46]⟩,⟨#[92,47]⟩,⟨#[47,92]⟩,⟨#[62,60]⟩,⟨#[60,43]⟩,⟨#[60,124]⟩,⟨#[124,62]⟩,⟨#[38]⟩,⟨#[61]⟩,⟨#[60]⟩,⟨#[62]⟩,⟨#[43]⟩,⟨#[45]⟩,⟨#[42]⟩,⟨#[47]⟩,⟨#[92]⟩,⟨#[59]⟩,⟨#[126]⟩,⟨#[46]⟩,⟨#[44]⟩,⟨#[124]⟩,⟨#[40]⟩,⟨#[41]⟩,⟨#[91]⟩,⟨#[93]⟩,⟨#[123]⟩,⟨#[125]⟩]
theorem signs_any (w:World):Calls Tryz.prog 161 #[] w fun e w'=>
  e=.returned (.slice (some ⟨w.heap.size,0,none⟩) 40 40)∧w'=w.alloc (.cells (signs.map Value.string).toArray 9):=by
 go_enter Tryz.func161,Tryz.ntmps161
 go_wp2_with fail
 go_ret
 exact⟨rfl,rfl⟩
def sIdx (l:List UInt8) (xs:List ByteArray):Int:=match xs.findIdx? (fun x=>Lib.hasPrefix l x.data.toList) with | some i=>(i:Int) | none=>-1
theorem sIdx_at (l:List UInt8) (xs:List ByteArray) (k:Nat) (hk:k<xs.length) (hno:∀ j (h:j<k),Lib.hasPrefix l (xs[j]'(by omega)).data.toList=false) (hy:Lib.hasPrefix l xs[k].data.toList=true):sIdx l xs=k:=by
 unfold sIdx
 have:xs.findIdx? (fun x=>Lib.hasPrefix l x.data.toList)=some k:=by
  rw[List.findIdx?_eq_some_iff_getElem]
  exact⟨hk,hy,fun j hj=>by simpa using hno j hj⟩
 rw[this]
theorem sIdx_none (l:List UInt8) (xs:List ByteArray) (hno:∀ j (h:j<xs.length),Lib.hasPrefix l xs[j].data.toList=false):sIdx l xs=-1:=by
 unfold sIdx
 have:xs.findIdx? (fun x=>Lib.hasPrefix l x.data.toList)=none:=by
  rw[List.findIdx?_eq_none_iff]
  intro x hx
  obtain⟨j,hj,rfl⟩:=List.getElem_of_mem hx
  exact hno j hj
 rw[this]
theorem idxSign_any (xs:List ByteArray) (s:ByteArray) (g b pb fb fr cap:Nat) (w:World) (hx:∀ i (h:i<xs.length),w.cell? ⟨g,i,none⟩=some (.string xs[i])) (hl:xs.length≤1000)
  (hp:w.cell? ⟨pb,0,none⟩=some (.pointer (some ⟨b,0,none⟩)))
  (h0:w.cell? ⟨b,0,none⟩=some (.string s)) (hf:w.cell? ⟨fb,0,none⟩=some (.int .i64 fr)) (hfs:fr≤s.size) (hs:s.size≤9223372036854775807):
  Calls Tryz.prog 160 #[.slice (some ⟨g,0,none⟩) xs.length cap,.func (.func 162) #[] #[.pointer (some ⟨pb,0,none⟩),.pointer (some ⟨fb,0,none⟩)]] w fun e w'=>
   e=.returned (.int .i64 (sIdx (s.data.toList.drop fr) xs))∧∃ n,w.drewN n=w':=by
 have HX:=Ld hx
 clear hx
 go_enter Tryz.func160,Tryz.ntmps160
 go_wp2_with fail
 go_loopw [8] (fun i wr=>∃ k n:Nat,k≤xs.length∧i=.int .i64 k∧w.drewN n=wr∧Hid (∀ j (h:j<k) (h':j<xs.length),Lib.hasPrefix (s.data.toList.drop fr) xs[j].data.toList=false)) (fun i _=>xs.length-(intOf i).toNat)
 case atStart=>exact⟨0,0,Nat.zero_le _,rfl,rfl,Ld (fun j h=>by omega)⟩
 case round=>
  obtain⟨k,n,hk,rfl,rfl,hno⟩:=hrel
  by_cases hlt:k<xs.length
  ·have hc:=HX.out k hlt
   have i1:(k:Int)<(xs.length:Int):=by omega
   cases hy:Lib.hasPrefix (s.data.toList.drop fr) xs[k].data.toList
   ·have hno':Hid (∀ j (h:j<k+1) (h':j<xs.length),Lib.hasPrefix (s.data.toList.drop fr) xs[j].data.toList=false):=Ld (fun j h h'=>by
     rcases Nat.lt_succ_iff_lt_or_eq.1 h with h | rfl
     ·exact hno.out j h h'
     ·exact hy)
    go_wp2_with (go_at_call 162;refine (adv1_any xs[k] s b pb fb fr _ (by exact hp) (by exact h0) (by exact hf) hfs hs).mono ?_;rintro e w' ⟨rfl,m,rfl⟩)
    go_roundw
    case rel=>exact⟨k+1,n+m,by omega,by go_num,rfl,hno'⟩
    case measure=>simp[intOf];omega
   ·have hi:=Ld (sIdx_at _ xs k hlt (fun j h=>hno.out j h (by omega)) hy)
    go_wp2_with (go_at_call 162;refine (adv1_any xs[k] s b pb fb fr _ (by exact hp) (by exact h0) (by exact hf) hfs hs).mono ?_;rintro e w' ⟨rfl,m,rfl⟩)
    go_ret
    exact⟨by rw[hi.out];rfl,n+m,rfl⟩
  ·go_wp2_with fail
   go_ret
   exact⟨by rw[sIdx_none _ _ (fun j h=>hno.out j (by omega) h)];rfl,n,rfl⟩
def allW (l:List UInt8):Bool:=l.all fun c=>inWordB c.toNat
def identB (s:ByteArray):Bool:=decide (0<s.size)&&decide (s.size≤16)&&letterB (s.data.toList.headD 0).toNat&&!keywordB s&&allW s.data.toList
theorem empty_iff (s:ByteArray):s.toList.isEmpty=!decide (0<s.size):=by
 rw[Go.ByteArray.toList_eq];obtain⟨⟨l⟩⟩:=s;cases l <;> simp[ByteArray.size]
theorem head_of (s:ByteArray) (h:0<s.size):s.data.toList.headD 0=s[0]:=by
 obtain⟨⟨l⟩⟩:=s
 cases l with
 | nil=>simp[ByteArray.size] at h
 | cons a t=>rfl
theorem take_snoc (s:ByteArray) (k:Nat) (h:k<s.size):s.data.toList.take (k+1)=s.data.toList.take k++[s[k]]:=by
 rw[List.take_succ_eq_append_getElem (by simpa using h)];rfl
theorem allW_snoc (l:List UInt8) (c:UInt8):allW (l++[c])=(allW l&&inWordB c.toNat):=by
 simp[allW]
theorem allW_false (s:ByteArray) (k:Nat) (h:k<s.size) (hc:inWordB s[k].toNat=false):allW s.data.toList=false:=by
 have e:s.data.toList=s.data.toList.take (k+1)++s.data.toList.drop (k+1):=(List.take_append_drop _ _).symm
 rw[e,take_snoc s k h];simp only[allW,List.all_append,List.all_cons,List.all_nil,hc];simp
theorem ident_any (s:ByteArray) (w:World) (hs:s.size≤9223372036854775807):
  Calls Tryz.prog 79 #[.string s] w fun e w'=>e=.returned (.bool (identB s))∧w=w':=by
 by_cases h0:0<s.size
 case neg=>
  have h1:s.toList.isEmpty=true:=by rw[empty_iff,decide_eq_false h0];rfl
  have hk:=Ld (show identB s=false by unfold identB;rw[decide_eq_false h0];rfl)
  clear h0
  go_enter Tryz.func79,Tryz.ntmps79
  go_wp2_with fail
  go_ret
  exact⟨by rw[hk.out];rfl,rfl⟩
 have h1:s.toList.isEmpty=false:=by rw[empty_iff,decide_eq_true h0];rfl
 by_cases h16:s.size≤16
 case neg=>
  have hd:decide (16<(s.size:Int))=true:=by simp;omega
  have hk:=Ld (show identB s=false by unfold identB;rw[decide_eq_false h16];simp)
  clear h16
  go_enter Tryz.func79,Tryz.ntmps79
  go_wp2_with fail
  go_ret
  exact⟨by rw[hk.out];rfl,rfl⟩
 have hd:decide (16<(s.size:Int))=false:=by simp;omega
 have hh:=head_of s h0
 cases hl:letterB (s[0].toNat)
 case false=>
  have hk:=Ld (show identB s=false by unfold identB;rw[hh,hl];simp)
  clear hh
  go_enter Tryz.func79,Tryz.ntmps79
  go_wp2_with (first | (go_at_call 132;refine (letter_any _ _).mono ?_;rintro e w' ⟨rfl,rfl⟩) | (go_at_call 39;refine (keyword_any _ _).mono ?_;rintro e w' ⟨rfl,rfl⟩))
  go_ret
  exact⟨by rw[hk.out];rfl,rfl⟩
 cases hkw:keywordB s
 case true=>
  have hk:=Ld (show identB s=false by unfold identB;rw[hkw];simp)
  clear hh
  go_enter Tryz.func79,Tryz.ntmps79
  go_wp2_with (first | (go_at_call 132;refine (letter_any _ _).mono ?_;rintro e w' ⟨rfl,rfl⟩) | (go_at_call 39;refine (keyword_any _ _).mono ?_;rintro e w' ⟨rfl,rfl⟩))
  go_ret
  exact⟨by rw[hk.out];rfl,rfl⟩
 have hk:=Ld (show identB s=allW s.data.toList by unfold identB;rw[hh,hl,hkw,decide_eq_true h0,decide_eq_true h16];simp)
 clear hh
 go_enter Tryz.func79,Tryz.ntmps79
 go_wp2_with (first | (go_at_call 132;refine (letter_any _ _).mono ?_;rintro e w' ⟨rfl,rfl⟩) | (go_at_call 39;refine (keyword_any _ _).mono ?_;rintro e w' ⟨rfl,rfl⟩))
 go_loop [23] (fun i=>∃ k:Nat,k≤s.size∧i=.int .i64 k∧Hid (allW (s.data.toList.take k)=true)) (fun i=>s.size-(intOf i).toNat)
 case atStart=>exact⟨0,Nat.zero_le _,rfl,Ld (by simp[allW])⟩
 case round=>
  obtain⟨k,hks,rfl,hall⟩:=hrel
  by_cases hlt:k<s.size
  ·cases hw:inWordB s[k].toNat
   ·have hf:=Ld (allW_false s k hlt hw)
    go_wp2_with (go_at_call 133;refine (inWord_any _ _).mono ?_;rintro e w' ⟨rfl,rfl⟩)
    go_ret
    exact⟨by rw[hk.out,hf.out];rfl,rfl⟩
   ·have hall':Hid (allW (s.data.toList.take (k+1))=true):=Ld (by rw[take_snoc s k hlt,allW_snoc,hall.out,hw];rfl)
    go_wp2_with (go_at_call 133;refine (inWord_any _ _).mono ?_;rintro e w' ⟨rfl,rfl⟩)
    go_round
    case rel=>exact⟨k+1,by omega,by go_num,hall'⟩
    case measure=>simp[intOf];omega
  ·have hf:Hid (allW s.data.toList=true):=by
    have h:=hall.out
    rw[List.take_of_length_le (by simp;omega)] at h
    exact Ld h
   go_wp2_with fail
   go_ret
   exact⟨by rw[hk.out,hf.out];rfl,rfl⟩
end Go.Proofs.YtdmebjbkccjhbaaGreatDoor
