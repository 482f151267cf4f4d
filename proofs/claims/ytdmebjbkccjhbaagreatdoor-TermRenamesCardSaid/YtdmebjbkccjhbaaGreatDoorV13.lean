/- A part. -/
import Derived.Test.YtdmebjbkccjhbaaGreatDoorV12
import Derived.Laws.IdiomStrings
set_option linter.unusedVariables false
set_option linter.unusedSimpArgs false
set_option maxRecDepth 100000
set_option maxHeartbeats 32000000
namespace Go.Proofs.YtdmebjbkccjhbaaGreatDoor
open Go.RowKit
variable {bz:Nat}
theorem bagF_some (B:ByteArray→Bool) (s:ByteArray):(bagF B s).isSome=B s:=by unfold bagF;cases B s <;> rfl
theorem copyM_any {w:World} {d c m n:Nat} {B C:ByteArray→Bool} (hd:MapF w d m (bagF B)) (hc:MapF w c n (bagF C)) (hdc:d≠c) (hb:m+n≤1000000):
  Calls Tryz.prog 149 #[.map (some d),.map (some c)] w fun e w'=>e=.returned (.tuple #[])∧MapF w' d (m+n) (bagF (fun s=>B s||C s))∧Kept (fun q=>q=d) w w':=by
 have HD:=Ld hd
 have HC:=Ld hc
 have HL:Hid (d<w.heap.size∧c<w.heap.size∧d≠c):=Ld ⟨hd.lt,hc.lt,hdc⟩
 have HB:=Ld hb
 clear hd hc hdc hb
 go_enter Tryz.func149,Tryz.ntmps149
 go_wp2_with (at_range;refine wpList_rangeF rfl _ _ 4 rfl u90 rfl HC.out ?_;intro w2 cnt hR k2 z2 hcn)
 have HR:=Ld hR
 have HCN:=Ld hcn
 have M2:=Ld (HD.out.kept k2 (fun e=>e))
 have K2:Hid (Kept (fun q=>q=d) w w2):=Ld (k2.mono (fun _ _ e=>e.elim))
 clear hR k2 z2 hcn
 go_frame
 go_loopw [] (fun wr=>∃ (cnt' k:Nat) (g:ByteArray→Bool),Kept (fun q=>q=d) w wr∧MapR wr c w.heap.size n (bagF C) g cnt'∧cnt'+k≤cnt∧(∀ s,g s=true→C s=true)∧MapF wr d (m+k) (bagF (fun s=>B s||(C s&&!g s)))) (fun wr=>wr.rangeLeft c w.heap.size)
 case atStart=>
  refine⟨cnt,0,fun s=>(bagF C s).isSome,K2.out,HR.out,Nat.le_refl _,fun s h=>by have h2:(bagF C s).isSome=true:=h;rw[bagF_some] at h2;exact h2,?_⟩
  have e:(fun s=>B s||(C s&&!(bagF C s).isSome))=B:=by funext s;rw[bagF_some];cases B s <;> cases C s <;> rfl
  rw[e]
  exact M2.out
 case round=>
  obtain⟨cnt',k,g,hk,hR',hle,hgs,hM⟩:=hrel
  have HK:=Ld hk
  have HRR:=Ld hR'
  have HM:=Ld hM
  have HLE:=Ld hle
  have HGS:=Ld hgs
  clear hk hR' hle hM hgs HR M2 K2
  go_wp2_with (at_next;refine wpList_nextF rfl _ rfl rfl HRR.out ?_ ?_)
  ·intro h0
   have HE:Hid (MapF wr d (m+n) (bagF (fun s=>B s||C s))):=Ld (by
    have e:(fun s=>B s||(C s&&!g s))=fun s=>B s||C s:=by
     funext s
     cases hg:g s with
     | false=>simp
     | true=>
      have hc:=HGS.out s hg
      rw[h0 s (HRR.out.map.small (by rw[bagF_some];exact hc))] at hg
      cases hg
    rw[← e]
    exact HM.out.mono (by have:=HLE.out;have:=HCN.out;omega))
   go_wp2_with fail
   go_end0
   exact⟨rfl,HE.out,HK.out⟩
  ·intro s v w3 cnt3 hs hg hfs hR3 hlt k3 z3 hen
   have hCs:=HGS.out s hg
   obtain rfl:v=.bool true:=by
    unfold bagF at hfs
    rw[hCs] at hfs
    simpa using hfs.symm
   have HLO:=Ld HRR.out.left
   have KW3:=Ld (HK.out.via1 k3 (fun q hq e=>by omega))
   have M3:=Ld (HM.out.kept k3 (fun e=>by have:=HL.out.1;omega))
   have HR3:=Ld hR3
   have HLT:=Ld hlt
   have HS:=Ld hs
   have HG:=Ld hg
   have HCS:=Ld hCs
   have HGN:Hid (∀ t,(g t&&!decide (t=s))=true→C t=true):=Ld (fun t ht=>HGS.out t (by rw[Bool.and_eq_true] at ht;exact ht.1))
   have HST:Hid (updF (bagF (fun t=>B t||(C t&&!g t))) s (.bool true)=bagF (fun t=>B t||(C t&&!(g t&&!decide (t=s))))):=Ld (by
    rw[bagF_upd]
    congr 1
    funext t
    by_cases ht:t=s
    ·subst ht;simp[HCS.out]
    ·simp[ht])
   have HNK:Hid (m+k<maxLen):=Ld (by have:=HLE.out;have:=HCN.out;have:=HB.out;unfold maxLen;omega)
   clear k3 hR3 hlt hg hfs hs HRR HM hCs HGS
   go_wp2_with (at_mapUpdate;refine wpList_storeF rfl _ _ _ _ 4 rfl u90 rfl M3.out s rfl HS.out HNK.out (.bool true) rfl ?_;intro w5 hm5 k5;clear hen)
   rw[HST.out] at hm5
   have KW5:=Ld (KW3.out.trans k5)
   have HR5:=Ld (HR3.out.kept k5 (fun e=>HL.out.2.2 e.symm) (fun e=>by have:=HL.out.1;omega))
   have HM5:=Ld hm5
   clear hm5 k5
   go_wp2_with fail
   go_frame
   go_roundw
   case rel=>exact⟨cnt3,k+1,_,KW5.out,HR5.out,by have:=HLE.out;have:=HLT.out;omega,HGN.out,HM5.out⟩
   case measure=>rw[HR5.out.left,HLO.out];exact HLT.out
theorem format_ok {t:Tm} {out:List UInt8} {ok:Nat→Prop} {w:World} {ta:Option Addr} {tn tc:Nat} {ma:Option Addr} {mn mc:Nat} (hty:TyL bz ok w t.ty.kids (.slice ta tn tc)) (htm:TmL bz ok w t.kids (.slice ma mn mc)) (hp:PC bz t out) (hv:validB t=true) (hs:SmTm big t) (h0:out≠[]) (hlen:out.length≤1000000000):
  Calls Tryz.prog 33 #[.agg #[.int .i64 t.op,.string t.name,.int .i64 t.n,.int .i64 t.ty.kind,.string t.ty.name,.slice ta tn tc,.slice ma mn mc]] w fun e w'=>e=.returned (.string ⟨out.toArray⟩)∧Kept (fun _=>False) w w':=by
 have K0:Kept (fun _=>False) w (w.alloc (.cells #[.int .i64 t.op,.string t.name,.int .i64 t.n,.int .i64 t.ty.kind,.string t.ty.name,.slice ta tn tc,.slice ma mn mc] 27)):=kR.alloc _
 have bX:Blk (w.alloc (.cells #[.int .i64 t.op,.string t.name,.int .i64 t.n,.int .i64 t.ty.kind,.string t.ty.name,.slice ta tn tc,.slice ma mn mc] 27)) w.heap.size 27 (tmCells t (.slice ta tn tc) (.slice ma mn mc)):=Blk.new w 27 _
 have HV:=Ld (valid_any (hty.frame (Same.alloc w (.cells #[.int .i64 t.op,.string t.name,.int .i64 t.n,.int .i64 t.ty.kind,.string t.ty.name,.slice ta tn tc,.slice ma mn mc] 27))) (htm.frame (Same.alloc w (.cells #[.int .i64 t.op,.string t.name,.int .i64 t.n,.int .i64 t.ty.kind,.string t.ty.name,.slice ta tn tc,.slice ma mn mc] 27))) hs)
 have HP:=Ld hp
 have H0:=Ld h0
 have HL:=Ld hlen
 clear hp h0 hlen hs
 go_enter Tryz.func33,Tryz.ntmps33
 go_wp2_with fail
 refine HV.out.mono ?_
 rintro e w1 ⟨rfl,k1⟩
 rw[hv]
 have K1:=K0.trans k1
 have b1:=bX.kept k1 (fun h=>h)
 have bB:Blk (w1.alloc (.cells #[.pointer none,.slice none 0 0] 107)) w1.heap.size 107 [.pointer none,.slice none 0 0]:=Blk.new w1 107 _
 have K2:Kept (fun _=>False) w1 (w1.alloc (.cells #[.pointer none,.slice none 0 0] 107)):=kR.alloc _
 have hU:Bu w1.heap.size w1.heap.size [] (w1.alloc (.cells #[.pointer none,.slice none 0 0] 107)):=Or.inl ⟨Nat.le_refl _,.slice none 0 0,bB,World.ownsRow_nil _ _ _ _,by simp[Value.ownBlock]⟩
 have t5:=((hty.frame (sK K1)).mono (ok':=fun q=>q<w1.heap.size) (fun q h _=>h)).frame (sK K2)
 have t6:=((htm.frame (sK K1)).mono (ok':=fun q=>q<w1.heap.size) (fun q h _=>h)).frame (sK K2)
 have HC:=Ld (HP.out w1.heap.size w1.heap.size [] _ _ _ hU (by simp) t5 t6 (by have:=HL.out;simpa using this))
 have b2:=b1.alloc (.cells #[.pointer none,.slice none 0 0] 107)
 have l1:=b1.lt
 have n1:w.heap.size≠w1.heap.size:=by omega
 have g0:w1.cell? ⟨w.heap.size,0,none⟩=some (.int .i64 t.op):=b1.cell 0
 have g1:w1.cell? ⟨w.heap.size,1,none⟩=some (.string t.name):=b1.cell 1
 have g2:w1.cell? ⟨w.heap.size,2,none⟩=some (.int .i64 t.n):=b1.cell 2
 have g3:w1.cell? ⟨w.heap.size,3,none⟩=some (.int .i64 t.ty.kind):=b1.cell 3
 have g4:w1.cell? ⟨w.heap.size,4,none⟩=some (.string t.ty.name):=b1.cell 4
 have g5:w1.cell? ⟨w.heap.size,5,none⟩=some (.slice ta tn tc):=b1.cell 5
 have g6:w1.cell? ⟨w.heap.size,6,none⟩=some (.slice ma mn mc):=b1.cell 6
 go_wp2_with fail
 refine HC.out.mono ?_
 rintro e w3 ⟨rfl,u3,k3⟩
 rw[List.nil_append] at u3
 have HS:=Ld (bstr_any u3 H0.out)
 have K3:Kept (fun k=>w1.heap.size≤k) w1 w3:=(K2.mono (fun _ _ h=>h.elim)).via k3 (fun x hx e=>by
  rcases e with rfl | ⟨h,_⟩
  ·exact Nat.le_refl _
  ·exact h)
 go_wp2_with fail
 refine HS.out.mono ?_
 rintro e w4 ⟨rfl,k4⟩
 go_wp2_with fail
 go_ret
 refine⟨rfl,K1.via (S':=fun k=>w1.heap.size≤k) (K3.via (S':=fun k=>w1.heap.size≤k) ⟨k4.os,k4.tape,k4.output,k4.size,fun q hq hn=>k4.block q (by omega)⟩ (fun _ _ h=>h)) (fun x hx h=>?_)⟩
 have:=K1.size
 omega
def digS:ByteArray:=⟨#[48,49,50,51,52,53,54,55,56,57]⟩
def digL:List Value:=(Lib.setCells digS.data.toList).toList
theorem dig_zero:∀ w,(zeroValue 113).run Tryz.prog w=.ok (.agg (Array.replicate 256 (.bool false))) w:=fun w=>by kernel_rfl
theorem dig_set (w:World):Calls Tryz.prog 82 #[.string digS] w fun e w'=>e=.returned (.tuple #[.agg digL.toArray,.bool true])∧w'=w.alloc (.cells digL.toArray 113):=by
 refine (Tryz.strings_makeASCIISet dig_zero digS w (by decide) ?_).mono fun e w' ⟨h1,h2⟩=>⟨by rw[h1];unfold digL;rw[Array.toArray_toList],by rw[h2];unfold digL;rw[Array.toArray_toList]⟩
 intro j b hj
 have hlt:j<10:=(List.getElem?_eq_some_iff.1 hj).1
 rcases (show j=0∨j=1∨j=2∨j=3∨j=4∨j=5∨j=6∨j=7∨j=8∨j=9 by omega) with rfl | rfl | rfl | rfl | rfl | rfl | rfl | rfl | rfl | rfl <;> (cases hj;decide)
theorem dig_50:digL[50]?=some (.bool true):=by kernel_rfl
theorem dig_49:digL[49]?=some (.bool true):=by kernel_rfl
theorem dig_120:digL[120]?=some (.bool false):=by kernel_rfl
def strSz:Value→Nat
 | .string s=>s.size
 | _=>0
theorem trimR (w:World) (X:Nat) (h50:w.cell? ⟨X,50,none⟩=some (.bool true)) (h49:w.cell? ⟨X,49,none⟩=some (.bool true)) (h120:w.cell? ⟨X,120,none⟩=some (.bool false)):
  Calls Tryz.prog 83 #[.string ⟨#[120,49,50]⟩,.pointer (some ⟨X,0,none⟩)] w fun e w'=>e=.returned (.string ⟨#[120]⟩)∧w=w':=by
 have c50:=Ld (Tryz.asciiSet_contains X 50 true w h50)
 have c49:=Ld (Tryz.asciiSet_contains X 49 true w h49)
 have c120:=Ld (Tryz.asciiSet_contains X 120 false w h120)
 clear h50 h49 h120
 go_enter Tryz.func83,Tryz.ntmps83
 go_wp2_with fail
 go_loop [0] (fun v=>v=.string ⟨#[120,49,50]⟩∨v=.string ⟨#[120,49]⟩∨v=.string ⟨#[120]⟩) (fun v=>strSz v)
 case atStart=>exact Or.inl rfl
 case round=>
  rcases hrel with rfl | rfl | rfl
  ·go_wp2_with (go_at_call 134;refine c50.out.mono ?_;rintro e w' ⟨rfl,rfl⟩)
   go_round
   case rel=>exact Or.inr (Or.inl rfl)
   case measure=>decide
  ·go_wp2_with (go_at_call 134;refine c49.out.mono ?_;rintro e w' ⟨rfl,rfl⟩)
   go_round
   case rel=>exact Or.inr (Or.inr rfl)
   case measure=>decide
  ·go_wp2_with (go_at_call 134;refine c120.out.mono ?_;rintro e w' ⟨rfl,rfl⟩)
   go_ret
   exact⟨rfl,rfl⟩
theorem wpList_store_at {P:Program} {ops:Array Oper} {rest:List Oper} {o:Oper} {a:Act} {Q:Exit→Act→World→Prop} {w0 w:World} {ty:TypeId} {Z L:List Value} (hb:Blk w w0.heap.size ty Z) (hk:Kept (fun _=>False) w0 w) (hgd:o.guard=none) (x y:Operand) (ho:o.op=.store ty x y) (hx:a.eval x=.pointer (some ⟨w0.heap.size,0,none⟩)) (hy:a.eval y=.agg L.toArray)
  (hi:(P.info? ty).map (·.size)=some L.length) (hZ:Z.length=L.length) (h1:L.toArray.all (·.oneCell')=true)
  (h:∀ W,Blk W w0.heap.size ty L→Kept (fun _=>False) w0 W→wpList P ops Q rest (a.put o.dst undef) W):wpList P ops Q (o::rest) a w:=by
 refine wpList_store_mid hgd ty x y ho w0.heap.size 0 L.toArray hx hy ?_ (by simpa using hi) h1 ?_
 ·have:=hb.there;rw[hZ] at this;simpa using this
 ·refine h _ ?_ ?_
  ·have:=hb.setCells (l':=L) hZ.symm;simpa using this
  ·exact hk.setCells (Or.inr (Nat.le_refl _))
theorem dig_blk (w:World):Blk (w.alloc (.cells Tryz.zeroCells113 113)) w.heap.size 113 Tryz.zeroCells113.toList:=by
 have:=Blk.new w 113 Tryz.zeroCells113.toList
 rwa [Array.toArray_toList] at this
theorem dig_zl:Tryz.zeroCells113.toList.length=digL.length:=by kernel_rfl
theorem trimRight_x (w:World):Calls Tryz.prog 36 #[.string ⟨#[120,49,50]⟩,.string digS] w fun e w'=>e=.returned (.string ⟨#[120]⟩)∧Kept (fun _=>False) w w':=by
 have i1:digS.toList.isEmpty=false:=by kernel_rfl
 have i2:digS.size=10:=rfl
 have i3:(digS.toList==[])=false:=by kernel_rfl
 have HD:=Ld dig_set
 go_enter Tryz.func36,Tryz.ntmps36
 go_wp2_with (first | (go_at_call 82;refine (HD.out _).mono ?_;rintro e w1 ⟨rfl,hw1⟩;have k1:Kept (fun _=>False) w w1:=(by rw[hw1];exact kR.alloc _);clear hw1) | (refine wpList_store_at (w0:=w1) (L:=digL) (dig_blk w1) (kR.alloc _) rfl _ _ rfl rfl rfl (by kernel_rfl) dig_zl (by kernel_rfl) ?_;intro W bW kW;have h50:W.cell? ⟨w1.heap.size,50,none⟩=some (.bool true):=(by rw[bW.cell];exact dig_50);have h49:W.cell? ⟨w1.heap.size,49,none⟩=some (.bool true):=(by rw[bW.cell];exact dig_49);have h120:W.cell? ⟨w1.heap.size,120,none⟩=some (.bool false):=(by rw[bW.cell];exact dig_120);have HT:=Ld (trimR W w1.heap.size h50 h49 h120)) | (go_at_call 83;refine HT.out.mono ?_;rintro e w' ⟨rfl,rfl⟩))
 go_ret
 exact⟨rfl,k1.trans kW⟩
def sX12:ByteArray:=⟨#[120,49,50]⟩
def sX1:ByteArray:=⟨#[120,49]⟩
def sX2:ByteArray:=⟨#[120,50]⟩
theorem fx1:Lib.containsS (List.take 2 [sX12,sX1]) sX12=true:=by rw[Lib.containsS_iff];simp[sX12]
theorem fx2:Lib.containsS (List.take 2 [sX12,sX1]) sX1=true:=by rw[Lib.containsS_iff];simp[sX1]
theorem fx3:Lib.containsS (List.take 2 [sX12,sX1]) sX2=false:=by
 cases h:Lib.containsS (List.take 2 [sX12,sX1]) sX2
 ·rfl
 ·rw[Lib.containsS_iff] at h;simp[sX12,sX1,sX2] at h
theorem fx4:namedB ⟨#[120,49,50]⟩=true:=by kernel_rfl
theorem fx5:Lib.decDigits 1=[49]:=by unfold Lib.decDigits;rfl
theorem fx6:Lib.decDigits 2=[50]:=by unfold Lib.decDigits;rfl
theorem fx7:keywordB ⟨#[120,49]⟩=false:=by kernel_rfl
theorem fx8:keywordB ⟨#[120,50]⟩=false:=by kernel_rfl
theorem fresh_x (w:World) (g:Nat) (h0:w.cell? ⟨g,0,none⟩=some (.string ⟨#[120,49,50]⟩)) (h1:w.cell? ⟨g,1,none⟩=some (.string ⟨#[120,49]⟩)):
  Calls Tryz.prog 10 #[.string ⟨#[120,49,50]⟩,.slice (some ⟨g,0,none⟩) 2 2] w fun e w'=>e=.returned (.string ⟨#[120,50]⟩)∧Kept (fun _=>False) w w':=by
 have hcl:∀ W:World,Kept (fun _=>False) w W→∀ j,j<[sX12,sX1].length→W.cell? ⟨g,0+j,none⟩=some (.string ([sX12,sX1].getD j ByteArray.empty)):=by
  intro W k j hj
  have:j=0∨j=1:=by simp at hj;omega
  rcases this with rfl | rfl
  ·rw[k.cell (p:=⟨g,0+0,none⟩) (cell_lt h0) (fun h=>h)];exact h0
  ·rw[k.cell (p:=⟨g,0+1,none⟩) (cell_lt h1) (fun h=>h)];exact h1
 have cA:Hid (∀ W:World,Kept (fun _=>False) w W→Calls Tryz.prog 35 #[.slice (some ⟨g,0,none⟩) 2 2,.string ⟨#[120,49,50]⟩] W fun e w'=>e=.returned (.bool true)∧W=w'):=Ld (fun W k=>(Tryz.slices_Contains_string g 0 2 2 [sX12,sX1] sX12 W (by decide) (by decide) (hcl W k)).mono fun e w' ⟨q1,q2⟩=>⟨by rw[q1,fx1],q2.symm⟩)
 have cB:Hid (∀ W:World,Kept (fun _=>False) w W→Calls Tryz.prog 35 #[.slice (some ⟨g,0,none⟩) 2 2,.string ⟨#[120,49]⟩] W fun e w'=>e=.returned (.bool true)∧W=w'):=Ld (fun W k=>(Tryz.slices_Contains_string g 0 2 2 [sX12,sX1] sX1 W (by decide) (by decide) (hcl W k)).mono fun e w' ⟨q1,q2⟩=>⟨by rw[q1,fx2],q2.symm⟩)
 have cC:Hid (∀ W:World,Kept (fun _=>False) w W→Calls Tryz.prog 35 #[.slice (some ⟨g,0,none⟩) 2 2,.string ⟨#[120,50]⟩] W fun e w'=>e=.returned (.bool false)∧W=w'):=Ld (fun W k=>(Tryz.slices_Contains_string g 0 2 2 [sX12,sX1] sX2 W (by decide) (by decide) (hcl W k)).mono fun e w' ⟨q1,q2⟩=>⟨by rw[q1,fx3],q2.symm⟩)
 have HN:Hid (∀ W,Calls Tryz.prog 34 #[.string ⟨#[120,49,50]⟩] W fun e w'=>e=.returned (.bool true)∧W=w'):=Ld (fun W=>(named_any _ W (by decide)).mono fun e w' ⟨q1,q2⟩=>⟨by rw[q1,fx4],q2⟩)
 have HT:Hid (∀ W,Calls Tryz.prog 37 #[.string ⟨#[120,49,50]⟩,.string ⟨#[39]⟩] W fun e w'=>e=.returned (.string ⟨#[120,49,50]⟩)∧W=w'):=Ld (fun W=>(Tryz.strings_TrimSuffix _ _ W (by decide)).mono fun e w' ⟨q1,q2⟩=>⟨by rw[q1];rfl,q2.symm⟩)
 have HI1:Hid (∀ W,Calls Tryz.prog 38 #[.int .i64 1] W fun e w'=>e=.returned (.string ⟨#[49]⟩)∧W=w'):=Ld (fun W=>(Tryz.strconv_Itoa_small 1 (by decide) W).mono fun e w' ⟨q1,q2⟩=>⟨by rw[q1,fx5],q2.symm⟩)
 have HI2:Hid (∀ W,Calls Tryz.prog 38 #[.int .i64 2] W fun e w'=>e=.returned (.string ⟨#[50]⟩)∧W=w'):=Ld (fun W=>(Tryz.strconv_Itoa_small 2 (by decide) W).mono fun e w' ⟨q1,q2⟩=>⟨by rw[q1,fx6],q2.symm⟩)
 have HK1:Hid (∀ W,Calls Tryz.prog 39 #[.string ⟨#[120,49]⟩] W fun e w'=>e=.returned (.bool false)∧W=w'):=Ld (fun W=>(keyword_any _ W).mono fun e w' ⟨q1,q2⟩=>⟨by rw[q1,fx7],q2⟩)
 have HK2:Hid (∀ W,Calls Tryz.prog 39 #[.string ⟨#[120,50]⟩] W fun e w'=>e=.returned (.bool false)∧W=w'):=Ld (fun W=>(keyword_any _ W).mono fun e w' ⟨q1,q2⟩=>⟨by rw[q1,fx8],q2⟩)
 have HR:=Ld trimRight_x
 clear hcl
 go_enter Tryz.func10,Tryz.ntmps10
 go_wp2_with (first | (go_at_call 34;refine (HN.out _).mono ?_;rintro e w' ⟨rfl,rfl⟩) | (go_at_call 35;refine (cA.out w kR).mono ?_;rintro e w' ⟨rfl,rfl⟩) | (go_at_call 37;refine (HT.out _).mono ?_;rintro e w' ⟨rfl,rfl⟩) | (go_at_call 36;refine (HR.out _).mono ?_;rintro e w1 ⟨rfl,k1⟩))
 have hcu:digS=digS:=rfl
 go_loop [6] (fun i=>i=.int .i64 1∨i=.int .i64 2) (fun i=>2-(intOf i).toNat)
 case atStart=>exact Or.inl rfl
 case round=>
  rcases hrel with rfl | rfl
  ·go_wp2_with (first | (go_at_call 38;refine (HI1.out _).mono ?_;rintro e w' ⟨rfl,rfl⟩) | (go_at_call 39;refine (HK1.out _).mono ?_;rintro e w' ⟨rfl,rfl⟩) | (go_at_call 35;refine (cB.out w1 k1).mono ?_;rintro e w' ⟨rfl,rfl⟩))
   go_round
   case rel=>exact Or.inr rfl
   case measure=>decide
  ·go_wp2_with (first | (go_at_call 38;refine (HI2.out _).mono ?_;rintro e w' ⟨rfl,rfl⟩) | (go_at_call 39;refine (HK2.out _).mono ?_;rintro e w' ⟨rfl,rfl⟩) | (go_at_call 35;refine (cC.out w1 k1).mono ?_;rintro e w' ⟨rfl,rfl⟩))
   go_ret
   exact⟨rfl,k1⟩
theorem RowT.app2 {w wr W8:World} {base:Nat} {E F:List E3} {v v':Value} (hb:w.heap.size≤base) (h:RowT bz w base wr E v) (hF:EL bz (okb base v) wr F)
  (own8:W8.ownsRow base 27 7 v' (E.length+F.length) (flat E++flat F)) (hgrow:wr.grownBy W8 v.ownBlock) (hat:v'.ownBlock=v.ownBlock∨v'.ownBlock=some wr.heap.size):
  RowT bz w base W8 (E++F) v':=by
 have kG:=kept_grown hgrow
 have zk:=h.kp.size
 have hvb:∀ x,v.ownBlock=some x→base≤x∧x<wr.heap.size:=fun x e=>h.own.lt x e
 refine⟨h.kp.via kG (fun x hx e=>by have:=(hvb x e).1;omega),by rw[flat_app,List.length_append];exact own8,?_⟩
 have e2:=(h.el.app hF).mono (ok':=fun q=>okb base v q∧okb base v' q) (fun q hq hh=>⟨hh,hh.1,fun e=>by
  rcases hat with hat | hat
  ·exact hh.2 (by rw[← hat,e])
  ·rw[hat] at e
   have:=Option.some.inj e
   omega⟩)
 exact (e2.frame (Same.of_kept kG (fun q hq e=>hq.1.2 e))).mono (fun q _ hq=>hq.2)
theorem frGo_ext {U V:List ByteArray} (h:∀ s,mb s U=mb s V) (b:List UInt8):∀ (f k:Nat),frGo b U f k=frGo b V f k
 | 0,k=>rfl
 | f+1,k=>by rw[frGo,frGo,h,frGo_ext h b f]
theorem freshS_ext {U V:List ByteArray} (h:∀ s,mb s U=mb s V) (n:ByteArray):freshS n U=freshS n V:=by
 unfold freshS frFrom
 rw[h,frGo_ext h]
theorem tmD_kid {ks:List Tm} {t:Tm} (h:t∈ks):tmD t≤tmDs ks∧tmN t≤tmNs ks:=by
 induction ks with
 | nil=>cases h
 | cons a ks ih=>
  rw[tmDs,tmNs]
  rcases List.mem_cons.1 h with rfl | h
  ·omega
  ·have:=ih h;omega
theorem mb_drop {s:ByteArray} {l:List ByteArray} {k:Nat} (h:k<l.length):mb s (l.drop k)=(decide (l[k]=s)||mb s (l.drop (k+1))):=by
 rw[List.drop_eq_getElem_cons h];unfold mb;rw[List.any_cons]
theorem rinN_any {ok:Nat→Prop} {w:World} {l:List ByteArray} {v:Value} (s:ByteArray) (h:NmL ok w l v) (hn:l.length≤10000000):
  Calls Tryz.prog 17 #[.string s,v] w fun e w'=>e=.returned (.bool (mb s l))∧w=w':=by
 obtain⟨a,c,rfl⟩:=h.slice
 have HAT:=Ld (fun i hi=>h.at i hi)
 have HN:=Ld hn
 clear h hn
 go_enter Tryz.func17,Tryz.ntmps17
 go_wp2_with fail
 go_loop [5] (fun i=>∃ k:Nat,k≤l.length∧i=.int .i64 k∧Hid (mb s l=mb s (l.drop k))) (fun i=>l.length-(intOf i).toNat)
 case atStart=>exact⟨0,Nat.zero_le _,rfl,Ld rfl⟩
 case round=>
  obtain⟨k,hk,rfl,hq⟩:=hrel
  by_cases hlt:k<l.length
  ·have i1:(k:Int)<(l.length:Int):=by omega
   have i2:(k:Int)<10000000:=by have:=HN.out;omega
   obtain⟨g,off,rfl,_,c0⟩:=HAT.out k hlt
   have HS:=Ld (mb_drop (s:=s) hlt)
   cases hs:(l[k].toList==s.toList)
   ·have hne:Hid (decide (l[k]=s)=false):=Ld (by rw[nm_eq] at hs;exact hs)
    go_wp2_with fail
    go_round
    case rel=>exact⟨k+1,by omega,by go_num,Ld (by rw[hq.out,HS.out,hne.out];rfl)⟩
    case measure=>simp[intOf];omega
   ·have hye:Hid (decide (l[k]=s)=true):=Ld (by rw[nm_eq] at hs;exact hs)
    go_wp2_with fail
    go_ret
    exact⟨by rw[hq.out,HS.out,hye.out];rfl,rfl⟩
  ·have hkk:k=l.length:=by omega
   subst hkk
   have HE:Hid (mb s l=false):=Ld (by rw[hq.out,List.drop_length];rfl)
   go_wp2_with fail
   go_ret
   exact⟨by rw[HE.out];rfl,rfl⟩
def DcC (n:Nat):Prop:=∀ W,Calls Tryz.prog 48 #[.int .i64 n] W fun e w'=>e=.returned (.string (str (Lib.decDigits n)))∧Kept (fun _=>False) W w'
theorem dig_lt (n:Nat) (h:n<10):((UInt8.ofNat (48+n)).toNat:Int)=48+(n:Int):=by
 have all:∀ m:Fin 10,(UInt8.ofNat (48+m.val)).toNat=48+m.val:=by decide
 have:(UInt8.ofNat (48+n)).toNat=48+n:=all ⟨n,h⟩
 rw[this];omega
theorem conv_dig (W:World) (B n:Nat) (h:n<10) (hc:W.cell? ⟨B,0,none⟩=some (.int .u8 (48+(n:Int)))):(convert 103 9 (.slice (some ⟨B,0,none⟩) 1 1)).run Tryz.prog W=.ok (.string ⟨#[UInt8.ofNat (48+n)]⟩) W:=
 run_convert_bytes_back (P:=Tryz.prog) W 103 9 5 ⟨B,0,none⟩ 1 [UInt8.ofNat (48+n)] Tryz.underlying103 Tryz.underlying5 Tryz.underlying9 (fun j hj=>by
  have h0:j=0:=by simpa using hj
  subst h0
  show W.cell? _=some (.int .u8 ((UInt8.ofNat (48+n)).toNat:Int))
  rw[dig_lt n h]
  exact hc)
theorem dec_small (n:Nat) (h:n<10):DcC n:=by
 intro W
 have i0:((n:Int)==-9223372036854775808)=false:=by rw[beq_eq_false_iff_ne];omega
 have i1:decide ((n:Int)<0)=false:=decide_eq_false (by omega)
 have i2:decide ((n:Int)<10)=true:=decide_eq_true (by omega)
 have hcv:=conv_dig (W.alloc (.cells #[.int .u8 (48+(n:Int))] 5)) W.heap.size n h ((Blk.new W 5 [.int .u8 (48+(n:Int))]).cell 0)
 have HT:Hid (str (Lib.decDigits n)=⟨#[UInt8.ofNat (48+n)]⟩):=Ld (by unfold Lib.decDigits;rw[dif_pos h];rfl)
 generalize UInt8.ofNat (48+n)=dg at *
 go_enter Tryz.func48,Tryz.ntmps48
 go_wp2_with fail
 go_ret
 exact⟨by rw[HT.out];rfl,kR.alloc _⟩
theorem decDigits_len (n:Nat):(Lib.decDigits n).length≤n+1:=by
 induction n using Nat.strongRecOn with
 | _ n ih=>
  unfold Lib.decDigits
  by_cases h:n<10
  ·rw[dif_pos h];simp
  ·rw[dif_neg h]
   have:=ih (n / 10) (by omega)
   simp only[List.length_append,List.length_cons,List.length_nil]
   omega
theorem dec_more (n:Nat) (h:¬ n<10) (hn:n≤1000000000) (ih:DcC (n / 10)):DcC n:=by
 intro W
 have i0:((n:Int)==-9223372036854775808)=false:=by rw[beq_eq_false_iff_ne];omega
 have i1:decide ((n:Int)<0)=false:=decide_eq_false (by omega)
 have i2:decide ((n:Int)<10)=false:=decide_eq_false (by omega)
 have hq:(n:Int).tdiv 10=((n / 10:Nat):Int):=by rw[Int.tdiv_eq_ediv_of_nonneg (by omega)];omega
 have hr:(n:Int).tmod 10=((n % 10:Nat):Int):=by rw[Int.tmod_eq_emod_of_nonneg (by omega)];omega
 have hm:n % 10<10:=Nat.mod_lt _ (by decide)
 have hqb:n / 10≤100000000:=by omega
 have HSZ:Hid ((str (Lib.decDigits (n / 10))).size≤1000000001):=Ld (by rw[str_size];have:=decDigits_len (n / 10);omega)
 have HT:Hid (str (Lib.decDigits n)=str (Lib.decDigits (n / 10))++⟨#[UInt8.ofNat (48+n % 10)]⟩):=Ld (by
  conv=>lhs;unfold Lib.decDigits
  rw[dif_neg h,← str_app];rfl)
 have HCV:=Ld (fun (X:World) (B:Nat)=>conv_dig X B (n % 10) hm)
 have IH:=Ld ih
 unfold DcC at IH
 generalize UInt8.ofNat (48+n % 10)=dg at *
 generalize str (Lib.decDigits (n / 10))=sq at *
 have hz1:¬ 9223372036854775807<sq.size+1:=by have:=HSZ.out;omega
 clear ih h hn
 generalize hmm:n % 10=m at *
 generalize hqq:n / 10=q at *
 have HMQ:=Ld (And.intro hmm hqq)
 have m10:(m:Int)<10:=by omega
 have q10:(q:Int)<100000001:=by omega
 have wq:IntKind.i64.wrap (q:Int)=q:=by rw[IntKind.wrap_i64];omega
 have wm:IntKind.i64.wrap (m:Int)=m:=by rw[IntKind.wrap_i64];omega
 have w48:IntKind.i64.wrap (48+(m:Int))=48+m:=by rw[IntKind.wrap_i64];omega
 have w8:IntKind.u8.wrap (48+(m:Int))=48+m:=by rw[show IntKind.u8.wrap (48+(m:Int))=(48+(m:Int)) % 256 by simp[IntKind.wrap,IntKind.bits,IntKind.signed]];omega
 clear hmm hqq hm hqb
 have bA:Blk (W.drew.alloc (.cells #[.int .u8 (48+(m:Int))] 5)) W.heap.size 5 [.int .u8 (48+(m:Int))]:=Blk.new W.drew 5 _
 have hcv0:=HCV.out _ W.heap.size (bA.cell 0)
 have hcv1:=HCV.out _ W.heap.size ((Blk.drew (Blk.new W 5 [.int .u8 (48+(m:Int))])).cell 0)
 have KD:Kept (fun _=>False) W W.drew:=kR.drew
 have KA:Kept (fun _=>False) W (W.alloc (.cells #[.int .u8 (48+(m:Int))] 5)).drew:=(kR.alloc _).drew
 go_enter Tryz.func48,Tryz.ntmps48
 go_wp2_with fail
 go_region_law
  (first | (go_simp;go_at_call 48;refine (IH.out _).mono ?_;rintro e wq ⟨rfl,kq⟩;first | (have KE:=KA.trans kq;have hcvA:=HCV.out wq W.heap.size (((Blk.drew (Blk.new W 5 [.int .u8 (48+(m:Int))])).kept kq (fun h=>h)).cell 0)) | (have KE:=KD.trans kq;have hcvB:=HCV.out (wq.alloc (.cells #[.int .u8 (48+(m:Int))] 5)) wq.heap.size ((Blk.new wq 5 [.int .u8 (48+(m:Int))]).cell 0))))
 all_goals
  go_wp2_with fail
  go_ret
  exact⟨by rw[HT.out];rfl,by first | exact KE | exact KE.alloc _⟩
theorem dec_nat (n:Nat) (hn:n≤1000000000):DcC n:=by
 induction n using Nat.strongRecOn with
 | _ n ih=>
  by_cases h:n<10
  ·exact dec_small n h
  ·exact dec_more n h hn (ih (n / 10) (by omega) (by omega))
theorem strip_at (s:ByteArray) (h:s.size-1<s.size):stripD s.data.toList=if digitB (s[s.size-1].toNat) then stripD (s.extract 0 (s.size-1)).data.toList else s.data.toList:=by
 have e1:=take_snoc s (s.size-1) h
 have e2:s.data.toList.take (s.size-1+1)=s.data.toList:=List.take_of_length_le (by
  have:s.data.toList.length=s.size:=ba_len s
  omega)
 rw[e2] at e1
 rw[ext_take]
 have e3:=stripD_snoc (s.data.toList.take (s.size-1)) s[s.size-1]
 rw[← e1] at e3
 rw[e3]
theorem prim_trim {nm:ByteArray} (h:namedB nm=true):(primB nm=true∧1<nm.size∧trimQ nm=nm.extract 0 (nm.size-1))∨(primB nm=false∧trimQ nm=nm):=by
 unfold namedB at h
 rcases trim_parts nm with ⟨h1,h2,h3⟩ | ⟨h1,h2⟩
 ·rw[h3] at h
  have h4:1<nm.size:=by
   by_cases hs:1<nm.size
   ·exact hs
   ·have hz:(nm.extract 0 (nm.size-1)).size=0:=by rw[ByteArray.size_extract];omega
    unfold identB at h
    rw[hz] at h
    simp at h
  refine .inl ⟨?_,h4,h3⟩
  unfold primB
  rw[dif_pos h4,h]
  have:((nm[nm.size-1].toNat:Int)==39)=true:=by rw[h2];decide
  rw[this];rfl
 ·refine .inr ⟨?_,h2⟩
  unfold primB
  by_cases h4:1<nm.size
  ·rw[dif_pos h4]
   have h5:=h1 (by omega)
   have:((nm[nm.size-1].toNat:Int)==39)=false:=by
    rw[beq_eq_false_iff_ne]
    intro e
    exact h5 (UInt8.toNat.inj (by rw[show (39:UInt8).toNat=39 from rfl];omega))
   rw[this];rfl
  ·rw[dif_neg h4]
theorem cand_str {B:ByteArray} {k:Nat}:(if 16<B.size+(str (Lib.decDigits k)).size then B.extract 0 (16-(str (Lib.decDigits k)).size) else B)++str (Lib.decDigits k)=str (candL B.data.toList k):=by
 apply ByteArray.ext
 apply Array.toList_inj.1
 have hs:(str (Lib.decDigits k)).size=(Lib.decDigits k).length:=by rw[str_size]
 have hl:B.data.toList.length=B.size:=ba_len B
 rw[ByteArray.data_append,Array.toList_append,str_list,str_list]
 unfold candL
 congr 1
 rw[hs]
 split
 ·rw[ext_take]
 ·rw[List.take_of_length_le (by omega)]
theorem fresh_at {nm:ByteArray} {used:List ByteArray} (hn:namedB nm=true) (hu:used.length≤800000) (hm:mb nm used=true):∃ j,1≤j∧j≤1000001∧frFrom nm used=str (candL (baseL nm) j)∧mb (str (candL (baseL nm) j)) used=false∧∀ i,1≤i→i<j→mb (str (candL (baseL nm) i)) used=true:=by
 obtain⟨j,h1,h2,h3,h4,h5⟩:=frGo_at (baseL nm) used 1000000 1 (cand_free (baseL nm) used hu)
 refine⟨j,h3,by omega,?_,h2,h5⟩
 unfold frFrom
 rw[if_pos hm,h1]
theorem base_size {nm:ByteArray} (hn:namedB nm=true):(baseL nm).length≤16:=by
 unfold baseL
 obtain⟨r,hr⟩:=stripD_pre (trimQ nm).data.toList
 have h1:=congrArg List.length hr
 rw[List.length_append] at h1
 unfold namedB identB at hn
 simp only[Bool.and_eq_true,decide_eq_true_eq] at hn
 have h2:(trimQ nm).data.toList.length=(trimQ nm).size:=ba_len _
 omega
def strOf:Value→ByteArray
 | .string s=>s
 | _=>⟨#[]⟩
theorem rfresh_any {ok:Nat→Prop} {w:World} {used:List ByteArray} {vu:Value} (name:ByteArray) (hN:NmL ok w used vu) (hu:used.length≤800000) (hsz:name.size≤9223372036854775807):
  Calls Tryz.prog 13 #[.string name,vu] w fun e w'=>e=.returned (.string (freshS name used))∧Kept (fun _=>False) w w':=by
 have HIN:=Ld (fun W (k:Kept (fun _=>False) w W) (s:ByteArray)=>rinN_any s (hN.frame (sK k)) (by omega))
 have HNV:=Ld (fun (v:Bool) (hv:namedB name=v)=>rnamed_t hv hsz w)
 have HU:=Ld hu
 have HFR:Hid (freshS name used=frFrom (if namedB name then name else xS) used):=Ld rfl
 have HSZ:=Ld hsz
 clear hN hu hsz
 generalize freshS name used=res at *
 cases hv:namedB name
 ·have HRN:Hid (res=frFrom xS used):=Ld (by rw[HFR.out,hv];rfl)
  have HNV2:=Ld (HNV.out _ hv)
  clear hv HNV HFR
  go_enter Tryz.func13,Tryz.ntmps13
  go_wp2_with fail
  refine HNV2.out.mono ?_
  rintro e w2 ⟨rfl,k2⟩
  have HK:=Ld k2
  clear k2 HNV2
  have HNM:Hid (namedB xS=true):=Ld (ident_named x_ident)
  have HSN:Hid (xS.size≤9223372036854775807):=Ld (by decide)
  go_upto_region 3 with (fail)
  change Hid (namedB (⟨#[120]⟩:ByteArray)=true) at HNM
  change Hid ((⟨#[120]⟩:ByteArray).size≤9223372036854775807) at HSN
  change Hid (res=frFrom (⟨#[120]⟩:ByteArray) used) at HRN
  generalize (⟨#[120]⟩:ByteArray)=nm at *
  go_wp2_with fail
  refine (HIN.out _ HK.out nm).mono ?_
  rintro e w3 ⟨rfl,rfl⟩
  cases hm:mb nm used
  ·have HE:Hid (res=nm):=Ld (by rw[HRN.out];unfold frFrom;rw[hm];rfl)
   clear hm HIN
   go_wp2_with fail
   go_ret
   exact⟨by rw[HE.out];rfl,HK.out⟩
  ·obtain⟨j,hj1,hj2,hj3,hj4,hj5⟩:=fresh_at HNM.out HU.out hm
   have HRJ:Hid (res=str (candL (baseL nm) j)):=Ld (by rw[HRN.out,hj3])
   have HJ4:=Ld hj4
   have HJ5:=Ld hj5
   have HBS:=Ld (base_size HNM.out)
   have HBN:=Ld (base_ok HNM.out).1
   have HPT:=Ld (prim_trim HNM.out)
   have HP:=Ld (fun (v:Bool) (hv:primB nm=v)=>primed_big nm w2 HSN.out hv)
   have HBL:Hid (baseL nm=stripD (trimQ nm).data.toList):=Ld rfl
   generalize baseL nm=b at *
   clear hm hj3 hj4 hj5 HRN HNM
   rcases HPT.out with ⟨hp,hp1,hp2⟩ | ⟨hp,hp2⟩
   ·have HPC:=Ld (HP.out _ hp)
    have HST:Hid (stripD (nm.extract 0 (nm.size-1)).data.toList=b∧(nm.extract 0 (nm.size-1)).size≤9223372036854775807):=Ld ⟨by rw[← hp2];exact HBL.out.symm,by rw[ByteArray.size_extract];have:=HSN.out;omega⟩
    have i1:(1:Int)<(nm.size:Int):=by omega
    have i2:nm.size-1<nm.size:=by omega
    have i3:(nm.size:Int)-1=((nm.size-1:Nat):Int):=by omega
    have i4:=HSN.out
    clear hp hp1 hp2 HP HPT
    go_wp2_with fail
    refine HPC.out.mono ?_
    rintro e w4 ⟨rfl,k4⟩
    have HK3:=Ld (HK.out.trans k4)
    clear HPC k4 HK
    go_wp2_with fail
    clear i1 i2 i3 i4
    go_loopw [0] (fun v wr=>∃ s:ByteArray,v=.string s∧Kept (fun _=>False) w wr∧Hid (stripD s.data.toList=b∧s.size≤9223372036854775807)) (fun v _=>(strOf v).size)
    case atStart=>exact⟨_,rfl,HK3.out,HST⟩
    case round=>
     obtain⟨s,rfl,kr,hq⟩:=hrel
     have hpos:0<s.size:=by
      have h1:=hq.out.1
      have h2:=HBN.out
      by_cases h:0<s.size
      ·exact h
      ·exfalso
       have h3:s.data.toList=[]:=List.length_eq_zero_iff.1 (by rw[ba_len];omega)
       rw[h3] at h1
       exact h2 h1.symm
     have i1:(0:Int)<(s.size:Int):=by omega
     have i2:s.size-1<s.size:=by omega
     have i3:(s.size:Int)-1=((s.size-1:Nat):Int):=by omega
     have i4:=hq.out.2
     have HSA:=Ld (strip_at s i2)
     cases hd:digitB (s[s.size-1].toNat)
     ·have HB:Hid (s.data.toList=b):=Ld (by rw[← hq.out.1,HSA.out,hd];rfl)
      go_wp2_with (go_at_call 47;refine (rdigit_any _ _).mono ?_;rintro e w' ⟨rfl,rfl⟩)
      clear hd HSA i1 i3 hpos
      have i4:s.size≤16:=by have h1:=HBS.out;have h2:=congrArg List.length HB.out;rw[ba_len] at h2;omega
      go_loopw [5,6,7] (fun i x y wr=>∃ k:Nat,1≤k∧k≤j∧i=.int .i64 k∧Kept (fun _=>False) w wr) (fun i x y _=>j-(intOf i).toNat)
      case atStart=>exact⟨1,Nat.le_refl _,hj1,rfl,kr⟩
      case round=>
       obtain⟨k,hk1,hk2,rfl,kr2⟩:=hrel
       have k1:(k:Int)<1000002:=by omega
       have hdl:=dec_len2 6 k (by omega)
       have HDD:=Ld (dec_nat k (by omega) wr)
       have HCS:=Ld (cand_str (B:=s) (k:=k))
       rw[HB.out] at HCS
       have hDs:(str (Lib.decDigits k)).size≤7:=by rw[str_size];exact hdl
       clear hdl
       generalize str (Lib.decDigits k)=D at *
       go_wp2_with fail
       refine HDD.out.mono ?_
       rintro e w7 ⟨rfl,k7⟩
       have KK7:=Ld (kr2.trans k7)
       clear HDD
       have n1:(D.size:Int)≤7:=by omega
       have n2:(s.size:Int)≤16:=by omega
       have n3:(0:Int)≤(D.size:Int):=by omega
       have n4:(0:Int)≤(s.size:Int):=by omega
       by_cases hc:16<s.size+D.size
       ·have t1:decide ((16:Int)<(s.size:Int)+(D.size:Int))=true:=decide_eq_true (by omega)
        have n5:(16:Int)-(D.size:Int)=((16-D.size:Nat):Int):=by omega
        have n6:16-D.size≤s.size:=by omega
        have n7:((16-D.size:Nat):Int)≤(s.size:Int):=by omega
        rw[if_pos hc] at HCS
        clear hc
        by_cases hkj:k=j
        ·have hmb:mb (s.extract 0 (16-D.size)++D) used=false:=by rw[HCS.out,hkj];exact HJ4.out
         have HRE:Hid (res=s.extract 0 (16-D.size)++D):=Ld (by rw[HRJ.out,← hkj,HCS.out])
         go_wp2_with fail
         refine (HIN.out w7 KK7.out (s.extract 0 (16-D.size)++D)).mono ?_
         rintro e w8 ⟨rfl,rfl⟩
         go_wp2_with fail
         go_ret
         exact⟨by rw[HRE.out];rfl,KK7.out⟩
        ·have hmb:mb (s.extract 0 (16-D.size)++D) used=true:=by rw[HCS.out];exact HJ5.out k hk1 (by omega)
         go_wp2_with fail
         refine (HIN.out w7 KK7.out (s.extract 0 (16-D.size)++D)).mono ?_
         rintro e w8 ⟨rfl,rfl⟩
         go_wp2_with fail
         go_roundw
         case rel=>exact⟨k+1,by omega,by omega,by go_num,KK7.out⟩
         case measure=>simp[intOf];omega
       ·have t1:decide ((16:Int)<(s.size:Int)+(D.size:Int))=false:=decide_eq_false (by omega)
        rw[if_neg hc] at HCS
        clear hc
        by_cases hkj:k=j
        ·have hmb:mb (s++D) used=false:=by rw[HCS.out,hkj];exact HJ4.out
         have HRE:Hid (res=s++D):=Ld (by rw[HRJ.out,← hkj,HCS.out])
         go_wp2_with fail
         refine (HIN.out w7 KK7.out (s++D)).mono ?_
         rintro e w8 ⟨rfl,rfl⟩
         go_wp2_with fail
         go_ret
         exact⟨by rw[HRE.out];rfl,KK7.out⟩
        ·have hmb:mb (s++D) used=true:=by rw[HCS.out];exact HJ5.out k hk1 (by omega)
         go_wp2_with fail
         refine (HIN.out w7 KK7.out (s++D)).mono ?_
         rintro e w8 ⟨rfl,rfl⟩
         go_wp2_with fail
         go_roundw
         case rel=>exact⟨k+1,by omega,by omega,by go_num,KK7.out⟩
         case measure=>simp[intOf];omega
     ·have HN2:Hid (stripD (s.extract 0 (s.size-1)).data.toList=b∧(s.extract 0 (s.size-1)).size≤9223372036854775807):=Ld ⟨by rw[← hq.out.1,HSA.out,hd];rfl,by rw[ByteArray.size_extract];omega⟩
      go_wp2_with (go_at_call 47;refine (rdigit_any _ _).mono ?_;rintro e w' ⟨rfl,rfl⟩)
      go_roundw
      case rel=>exact⟨_,rfl,kr,HN2⟩
      case measure=>simp only[strOf,ByteArray.size_extract];omega
   ·have HPC:=Ld (HP.out _ hp)
    have HST:Hid (stripD nm.data.toList=b∧nm.size≤9223372036854775807):=Ld ⟨by rw[hp2] at HBL;exact HBL.out.symm,HSN.out⟩
    clear hp hp2 HP HPT
    go_wp2_with fail
    refine HPC.out.mono ?_
    rintro e w4 ⟨rfl,k4⟩
    have HK3:=Ld (HK.out.trans k4)
    clear HPC k4 HK
    go_wp2_with fail
    go_loopw [0] (fun v wr=>∃ s:ByteArray,v=.string s∧Kept (fun _=>False) w wr∧Hid (stripD s.data.toList=b∧s.size≤9223372036854775807)) (fun v _=>(strOf v).size)
    case atStart=>exact⟨_,rfl,HK3.out,HST⟩
    case round=>
     obtain⟨s,rfl,kr,hq⟩:=hrel
     have hpos:0<s.size:=by
      have h1:=hq.out.1
      have h2:=HBN.out
      by_cases h:0<s.size
      ·exact h
      ·exfalso
       have h3:s.data.toList=[]:=List.length_eq_zero_iff.1 (by rw[ba_len];omega)
       rw[h3] at h1
       exact h2 h1.symm
     have i1:(0:Int)<(s.size:Int):=by omega
     have i2:s.size-1<s.size:=by omega
     have i3:(s.size:Int)-1=((s.size-1:Nat):Int):=by omega
     have i4:=hq.out.2
     have HSA:=Ld (strip_at s i2)
     cases hd:digitB (s[s.size-1].toNat)
     ·have HB:Hid (s.data.toList=b):=Ld (by rw[← hq.out.1,HSA.out,hd];rfl)
      go_wp2_with (go_at_call 47;refine (rdigit_any _ _).mono ?_;rintro e w' ⟨rfl,rfl⟩)
      clear hd HSA i1 i3 hpos
      have i4:s.size≤16:=by have h1:=HBS.out;have h2:=congrArg List.length HB.out;rw[ba_len] at h2;omega
      go_loopw [5,6,7] (fun i x y wr=>∃ k:Nat,1≤k∧k≤j∧i=.int .i64 k∧Kept (fun _=>False) w wr) (fun i x y _=>j-(intOf i).toNat)
      case atStart=>exact⟨1,Nat.le_refl _,hj1,rfl,kr⟩
      case round=>
       obtain⟨k,hk1,hk2,rfl,kr2⟩:=hrel
       have k1:(k:Int)<1000002:=by omega
       have hdl:=dec_len2 6 k (by omega)
       have HDD:=Ld (dec_nat k (by omega) wr)
       have HCS:=Ld (cand_str (B:=s) (k:=k))
       rw[HB.out] at HCS
       have hDs:(str (Lib.decDigits k)).size≤7:=by rw[str_size];exact hdl
       clear hdl
       generalize str (Lib.decDigits k)=D at *
       go_wp2_with fail
       refine HDD.out.mono ?_
       rintro e w7 ⟨rfl,k7⟩
       have KK7:=Ld (kr2.trans k7)
       clear HDD
       have n1:(D.size:Int)≤7:=by omega
       have n2:(s.size:Int)≤16:=by omega
       have n3:(0:Int)≤(D.size:Int):=by omega
       have n4:(0:Int)≤(s.size:Int):=by omega
       by_cases hc:16<s.size+D.size
       ·have t1:decide ((16:Int)<(s.size:Int)+(D.size:Int))=true:=decide_eq_true (by omega)
        have n5:(16:Int)-(D.size:Int)=((16-D.size:Nat):Int):=by omega
        have n6:16-D.size≤s.size:=by omega
        have n7:((16-D.size:Nat):Int)≤(s.size:Int):=by omega
        rw[if_pos hc] at HCS
        clear hc
        by_cases hkj:k=j
        ·have hmb:mb (s.extract 0 (16-D.size)++D) used=false:=by rw[HCS.out,hkj];exact HJ4.out
         have HRE:Hid (res=s.extract 0 (16-D.size)++D):=Ld (by rw[HRJ.out,← hkj,HCS.out])
         go_wp2_with fail
         refine (HIN.out w7 KK7.out (s.extract 0 (16-D.size)++D)).mono ?_
         rintro e w8 ⟨rfl,rfl⟩
         go_wp2_with fail
         go_ret
         exact⟨by rw[HRE.out];rfl,KK7.out⟩
        ·have hmb:mb (s.extract 0 (16-D.size)++D) used=true:=by rw[HCS.out];exact HJ5.out k hk1 (by omega)
         go_wp2_with fail
         refine (HIN.out w7 KK7.out (s.extract 0 (16-D.size)++D)).mono ?_
         rintro e w8 ⟨rfl,rfl⟩
         go_wp2_with fail
         go_roundw
         case rel=>exact⟨k+1,by omega,by omega,by go_num,KK7.out⟩
         case measure=>simp[intOf];omega
       ·have t1:decide ((16:Int)<(s.size:Int)+(D.size:Int))=false:=decide_eq_false (by omega)
        rw[if_neg hc] at HCS
        clear hc
        by_cases hkj:k=j
        ·have hmb:mb (s++D) used=false:=by rw[HCS.out,hkj];exact HJ4.out
         have HRE:Hid (res=s++D):=Ld (by rw[HRJ.out,← hkj,HCS.out])
         go_wp2_with fail
         refine (HIN.out w7 KK7.out (s++D)).mono ?_
         rintro e w8 ⟨rfl,rfl⟩
         go_wp2_with fail
         go_ret
         exact⟨by rw[HRE.out];rfl,KK7.out⟩
        ·have hmb:mb (s++D) used=true:=by rw[HCS.out];exact HJ5.out k hk1 (by omega)
         go_wp2_with fail
         refine (HIN.out w7 KK7.out (s++D)).mono ?_
         rintro e w8 ⟨rfl,rfl⟩
         go_wp2_with fail
         go_roundw
         case rel=>exact⟨k+1,by omega,by omega,by go_num,KK7.out⟩
         case measure=>simp[intOf];omega
     ·have HN2:Hid (stripD (s.extract 0 (s.size-1)).data.toList=b∧(s.extract 0 (s.size-1)).size≤9223372036854775807):=Ld ⟨by rw[← hq.out.1,HSA.out,hd];rfl,by rw[ByteArray.size_extract];omega⟩
      go_wp2_with (go_at_call 47;refine (rdigit_any _ _).mono ?_;rintro e w' ⟨rfl,rfl⟩)
      go_roundw
      case rel=>exact⟨_,rfl,kr,HN2⟩
      case measure=>simp only[strOf,ByteArray.size_extract];omega
 ·have HRN:Hid (res=frFrom name used):=Ld (by rw[HFR.out,hv];rfl)
  have HNV2:=Ld (HNV.out _ hv)
  have HNM:=Ld hv
  have HSN:=HSZ
  clear hv HNV HFR HSZ
  generalize name=nm at *
  go_enter Tryz.func13,Tryz.ntmps13
  go_wp2_with fail
  refine HNV2.out.mono ?_
  rintro e w2 ⟨rfl,k2⟩
  have HK:=Ld k2
  clear k2 HNV2
  go_wp2_with fail
  refine (HIN.out _ HK.out nm).mono ?_
  rintro e w3 ⟨rfl,rfl⟩
  cases hm:mb nm used
  ·have HE:Hid (res=nm):=Ld (by rw[HRN.out];unfold frFrom;rw[hm];rfl)
   clear hm HIN
   go_wp2_with fail
   go_ret
   exact⟨by rw[HE.out];rfl,HK.out⟩
  ·obtain⟨j,hj1,hj2,hj3,hj4,hj5⟩:=fresh_at HNM.out HU.out hm
   have HRJ:Hid (res=str (candL (baseL nm) j)):=Ld (by rw[HRN.out,hj3])
   have HJ4:=Ld hj4
   have HJ5:=Ld hj5
   have HBS:=Ld (base_size HNM.out)
   have HBN:=Ld (base_ok HNM.out).1
   have HPT:=Ld (prim_trim HNM.out)
   have HP:=Ld (fun (v:Bool) (hv:primB nm=v)=>primed_big nm w2 HSN.out hv)
   have HBL:Hid (baseL nm=stripD (trimQ nm).data.toList):=Ld rfl
   generalize baseL nm=b at *
   clear hm hj3 hj4 hj5 HRN HNM
   rcases HPT.out with ⟨hp,hp1,hp2⟩ | ⟨hp,hp2⟩
   ·have HPC:=Ld (HP.out _ hp)
    have HST:Hid (stripD (nm.extract 0 (nm.size-1)).data.toList=b∧(nm.extract 0 (nm.size-1)).size≤9223372036854775807):=Ld ⟨by rw[← hp2];exact HBL.out.symm,by rw[ByteArray.size_extract];have:=HSN.out;omega⟩
    have i1:(1:Int)<(nm.size:Int):=by omega
    have i2:nm.size-1<nm.size:=by omega
    have i3:(nm.size:Int)-1=((nm.size-1:Nat):Int):=by omega
    have i4:=HSN.out
    clear hp hp1 hp2 HP HPT
    go_wp2_with fail
    refine HPC.out.mono ?_
    rintro e w4 ⟨rfl,k4⟩
    have HK3:=Ld (HK.out.trans k4)
    clear HPC k4 HK
    go_wp2_with fail
    clear i1 i2 i3 i4
    go_loopw [0] (fun v wr=>∃ s:ByteArray,v=.string s∧Kept (fun _=>False) w wr∧Hid (stripD s.data.toList=b∧s.size≤9223372036854775807)) (fun v _=>(strOf v).size)
    case atStart=>exact⟨_,rfl,HK3.out,HST⟩
    case round=>
     obtain⟨s,rfl,kr,hq⟩:=hrel
     have hpos:0<s.size:=by
      have h1:=hq.out.1
      have h2:=HBN.out
      by_cases h:0<s.size
      ·exact h
      ·exfalso
       have h3:s.data.toList=[]:=List.length_eq_zero_iff.1 (by rw[ba_len];omega)
       rw[h3] at h1
       exact h2 h1.symm
     have i1:(0:Int)<(s.size:Int):=by omega
     have i2:s.size-1<s.size:=by omega
     have i3:(s.size:Int)-1=((s.size-1:Nat):Int):=by omega
     have i4:=hq.out.2
     have HSA:=Ld (strip_at s i2)
     cases hd:digitB (s[s.size-1].toNat)
     ·have HB:Hid (s.data.toList=b):=Ld (by rw[← hq.out.1,HSA.out,hd];rfl)
      go_wp2_with (go_at_call 47;refine (rdigit_any _ _).mono ?_;rintro e w' ⟨rfl,rfl⟩)
      clear hd HSA i1 i3 hpos
      have i4:s.size≤16:=by have h1:=HBS.out;have h2:=congrArg List.length HB.out;rw[ba_len] at h2;omega
      go_loopw [5,6,7] (fun i x y wr=>∃ k:Nat,1≤k∧k≤j∧i=.int .i64 k∧Kept (fun _=>False) w wr) (fun i x y _=>j-(intOf i).toNat)
      case atStart=>exact⟨1,Nat.le_refl _,hj1,rfl,kr⟩
      case round=>
       obtain⟨k,hk1,hk2,rfl,kr2⟩:=hrel
       have k1:(k:Int)<1000002:=by omega
       have hdl:=dec_len2 6 k (by omega)
       have HDD:=Ld (dec_nat k (by omega) wr)
       have HCS:=Ld (cand_str (B:=s) (k:=k))
       rw[HB.out] at HCS
       have hDs:(str (Lib.decDigits k)).size≤7:=by rw[str_size];exact hdl
       clear hdl
       generalize str (Lib.decDigits k)=D at *
       go_wp2_with fail
       refine HDD.out.mono ?_
       rintro e w7 ⟨rfl,k7⟩
       have KK7:=Ld (kr2.trans k7)
       clear HDD
       have n1:(D.size:Int)≤7:=by omega
       have n2:(s.size:Int)≤16:=by omega
       have n3:(0:Int)≤(D.size:Int):=by omega
       have n4:(0:Int)≤(s.size:Int):=by omega
       by_cases hc:16<s.size+D.size
       ·have t1:decide ((16:Int)<(s.size:Int)+(D.size:Int))=true:=decide_eq_true (by omega)
        have n5:(16:Int)-(D.size:Int)=((16-D.size:Nat):Int):=by omega
        have n6:16-D.size≤s.size:=by omega
        have n7:((16-D.size:Nat):Int)≤(s.size:Int):=by omega
        rw[if_pos hc] at HCS
        clear hc
        by_cases hkj:k=j
        ·have hmb:mb (s.extract 0 (16-D.size)++D) used=false:=by rw[HCS.out,hkj];exact HJ4.out
         have HRE:Hid (res=s.extract 0 (16-D.size)++D):=Ld (by rw[HRJ.out,← hkj,HCS.out])
         go_wp2_with fail
         refine (HIN.out w7 KK7.out (s.extract 0 (16-D.size)++D)).mono ?_
         rintro e w8 ⟨rfl,rfl⟩
         go_wp2_with fail
         go_ret
         exact⟨by rw[HRE.out];rfl,KK7.out⟩
        ·have hmb:mb (s.extract 0 (16-D.size)++D) used=true:=by rw[HCS.out];exact HJ5.out k hk1 (by omega)
         go_wp2_with fail
         refine (HIN.out w7 KK7.out (s.extract 0 (16-D.size)++D)).mono ?_
         rintro e w8 ⟨rfl,rfl⟩
         go_wp2_with fail
         go_roundw
         case rel=>exact⟨k+1,by omega,by omega,by go_num,KK7.out⟩
         case measure=>simp[intOf];omega
       ·have t1:decide ((16:Int)<(s.size:Int)+(D.size:Int))=false:=decide_eq_false (by omega)
        rw[if_neg hc] at HCS
        clear hc
        by_cases hkj:k=j
        ·have hmb:mb (s++D) used=false:=by rw[HCS.out,hkj];exact HJ4.out
         have HRE:Hid (res=s++D):=Ld (by rw[HRJ.out,← hkj,HCS.out])
         go_wp2_with fail
         refine (HIN.out w7 KK7.out (s++D)).mono ?_
         rintro e w8 ⟨rfl,rfl⟩
         go_wp2_with fail
         go_ret
         exact⟨by rw[HRE.out];rfl,KK7.out⟩
        ·have hmb:mb (s++D) used=true:=by rw[HCS.out];exact HJ5.out k hk1 (by omega)
         go_wp2_with fail
         refine (HIN.out w7 KK7.out (s++D)).mono ?_
         rintro e w8 ⟨rfl,rfl⟩
         go_wp2_with fail
         go_roundw
         case rel=>exact⟨k+1,by omega,by omega,by go_num,KK7.out⟩
         case measure=>simp[intOf];omega
     ·have HN2:Hid (stripD (s.extract 0 (s.size-1)).data.toList=b∧(s.extract 0 (s.size-1)).size≤9223372036854775807):=Ld ⟨by rw[← hq.out.1,HSA.out,hd];rfl,by rw[ByteArray.size_extract];omega⟩
      go_wp2_with (go_at_call 47;refine (rdigit_any _ _).mono ?_;rintro e w' ⟨rfl,rfl⟩)
      go_roundw
      case rel=>exact⟨_,rfl,kr,HN2⟩
      case measure=>simp only[strOf,ByteArray.size_extract];omega
   ·have HPC:=Ld (HP.out _ hp)
    have HST:Hid (stripD nm.data.toList=b∧nm.size≤9223372036854775807):=Ld ⟨by rw[hp2] at HBL;exact HBL.out.symm,HSN.out⟩
    clear hp hp2 HP HPT
    go_wp2_with fail
    refine HPC.out.mono ?_
    rintro e w4 ⟨rfl,k4⟩
    have HK3:=Ld (HK.out.trans k4)
    clear HPC k4 HK
    go_wp2_with fail
    go_loopw [0] (fun v wr=>∃ s:ByteArray,v=.string s∧Kept (fun _=>False) w wr∧Hid (stripD s.data.toList=b∧s.size≤9223372036854775807)) (fun v _=>(strOf v).size)
    case atStart=>exact⟨_,rfl,HK3.out,HST⟩
    case round=>
     obtain⟨s,rfl,kr,hq⟩:=hrel
     have hpos:0<s.size:=by
      have h1:=hq.out.1
      have h2:=HBN.out
      by_cases h:0<s.size
      ·exact h
      ·exfalso
       have h3:s.data.toList=[]:=List.length_eq_zero_iff.1 (by rw[ba_len];omega)
       rw[h3] at h1
       exact h2 h1.symm
     have i1:(0:Int)<(s.size:Int):=by omega
     have i2:s.size-1<s.size:=by omega
     have i3:(s.size:Int)-1=((s.size-1:Nat):Int):=by omega
     have i4:=hq.out.2
     have HSA:=Ld (strip_at s i2)
     cases hd:digitB (s[s.size-1].toNat)
     ·have HB:Hid (s.data.toList=b):=Ld (by rw[← hq.out.1,HSA.out,hd];rfl)
      go_wp2_with (go_at_call 47;refine (rdigit_any _ _).mono ?_;rintro e w' ⟨rfl,rfl⟩)
      clear hd HSA i1 i3 hpos
      have i4:s.size≤16:=by have h1:=HBS.out;have h2:=congrArg List.length HB.out;rw[ba_len] at h2;omega
      go_loopw [5,6,7] (fun i x y wr=>∃ k:Nat,1≤k∧k≤j∧i=.int .i64 k∧Kept (fun _=>False) w wr) (fun i x y _=>j-(intOf i).toNat)
      case atStart=>exact⟨1,Nat.le_refl _,hj1,rfl,kr⟩
      case round=>
       obtain⟨k,hk1,hk2,rfl,kr2⟩:=hrel
       have k1:(k:Int)<1000002:=by omega
       have hdl:=dec_len2 6 k (by omega)
       have HDD:=Ld (dec_nat k (by omega) wr)
       have HCS:=Ld (cand_str (B:=s) (k:=k))
       rw[HB.out] at HCS
       have hDs:(str (Lib.decDigits k)).size≤7:=by rw[str_size];exact hdl
       clear hdl
       generalize str (Lib.decDigits k)=D at *
       go_wp2_with fail
       refine HDD.out.mono ?_
       rintro e w7 ⟨rfl,k7⟩
       have KK7:=Ld (kr2.trans k7)
       clear HDD
       have n1:(D.size:Int)≤7:=by omega
       have n2:(s.size:Int)≤16:=by omega
       have n3:(0:Int)≤(D.size:Int):=by omega
       have n4:(0:Int)≤(s.size:Int):=by omega
       by_cases hc:16<s.size+D.size
       ·have t1:decide ((16:Int)<(s.size:Int)+(D.size:Int))=true:=decide_eq_true (by omega)
        have n5:(16:Int)-(D.size:Int)=((16-D.size:Nat):Int):=by omega
        have n6:16-D.size≤s.size:=by omega
        have n7:((16-D.size:Nat):Int)≤(s.size:Int):=by omega
        rw[if_pos hc] at HCS
        clear hc
        by_cases hkj:k=j
        ·have hmb:mb (s.extract 0 (16-D.size)++D) used=false:=by rw[HCS.out,hkj];exact HJ4.out
         have HRE:Hid (res=s.extract 0 (16-D.size)++D):=Ld (by rw[HRJ.out,← hkj,HCS.out])
         go_wp2_with fail
         refine (HIN.out w7 KK7.out (s.extract 0 (16-D.size)++D)).mono ?_
         rintro e w8 ⟨rfl,rfl⟩
         go_wp2_with fail
         go_ret
         exact⟨by rw[HRE.out];rfl,KK7.out⟩
        ·have hmb:mb (s.extract 0 (16-D.size)++D) used=true:=by rw[HCS.out];exact HJ5.out k hk1 (by omega)
         go_wp2_with fail
         refine (HIN.out w7 KK7.out (s.extract 0 (16-D.size)++D)).mono ?_
         rintro e w8 ⟨rfl,rfl⟩
         go_wp2_with fail
         go_roundw
         case rel=>exact⟨k+1,by omega,by omega,by go_num,KK7.out⟩
         case measure=>simp[intOf];omega
       ·have t1:decide ((16:Int)<(s.size:Int)+(D.size:Int))=false:=decide_eq_false (by omega)
        rw[if_neg hc] at HCS
        clear hc
        by_cases hkj:k=j
        ·have hmb:mb (s++D) used=false:=by rw[HCS.out,hkj];exact HJ4.out
         have HRE:Hid (res=s++D):=Ld (by rw[HRJ.out,← hkj,HCS.out])
         go_wp2_with fail
         refine (HIN.out w7 KK7.out (s++D)).mono ?_
         rintro e w8 ⟨rfl,rfl⟩
         go_wp2_with fail
         go_ret
         exact⟨by rw[HRE.out];rfl,KK7.out⟩
        ·have hmb:mb (s++D) used=true:=by rw[HCS.out];exact HJ5.out k hk1 (by omega)
         go_wp2_with fail
         refine (HIN.out w7 KK7.out (s++D)).mono ?_
         rintro e w8 ⟨rfl,rfl⟩
         go_wp2_with fail
         go_roundw
         case rel=>exact⟨k+1,by omega,by omega,by go_num,KK7.out⟩
         case measure=>simp[intOf];omega
     ·have HN2:Hid (stripD (s.extract 0 (s.size-1)).data.toList=b∧(s.extract 0 (s.size-1)).size≤9223372036854775807):=Ld ⟨by rw[← hq.out.1,HSA.out,hd];rfl,by rw[ByteArray.size_extract];omega⟩
      go_wp2_with (go_at_call 47;refine (rdigit_any _ _).mono ?_;rintro e w' ⟨rfl,rfl⟩)
      go_roundw
      case rel=>exact⟨_,rfl,kr,HN2⟩
      case measure=>simp only[strOf,ByteArray.size_extract];omega
def P10 (w : World) : Prop := Lib.TabIs Tryz.prog w "internal/strconv.uint64pow10" .u64 Lib.pow10Tab
theorem P10.kept {w w':World} (h:P10 w) (k:Kept (fun _=>False) w w'):P10 w':=
 Lib.tabBelow_of_tabIs h w' ⟨k.os,k.tape,k.output,k.size,fun q hq=>k.block q hq (fun e=>e)⟩
theorem itoa_dec {k:Nat} (hk:k≤1000001) {w:World} (h:P10 w):Calls Tryz.prog 38 #[.int .i64 k] w fun e w'=>e=.returned (.string (str (Lib.decDigits k)))∧Kept (fun _=>False) w w':=by
 refine (Tryz.strconv_Itoa k (by omega) (by omega) w h).mono ?_
 rintro e w' ⟨rfl,j,os,rfl⟩
 refine⟨?_,Kept.of_below (Lib.below_grow w.heap.size w (Nat.le_refl _) j os)⟩
 have e1:Lib.itoa (k:Int)=Lib.decDigits k:=by unfold Lib.itoa;simp
 rw[e1];rfl
theorem contains_any {ok:Nat→Prop} {w:World} {l:List ByteArray} {v:Value} (s:ByteArray) (h:NmL ok w l v) (hn:l.length≤10000000):Calls Tryz.prog 35 #[v,.string s] w fun e w'=>e=.returned (.bool (mb s l))∧w=w':=by
 obtain⟨a,c,rfl⟩:=h.slice
 by_cases h0:l=[]
 ·subst h0
  refine (Tryz.slices_Contains_string_empty a c s w).mono ?_
  rintro e w' ⟨rfl,rfl⟩
  exact⟨rfl,rfl⟩
 ·have hlen:0<l.length:=List.length_pos_iff.2 h0
  obtain⟨g,off,rfl,_,_⟩:=h.at 0 hlen
  refine (Tryz.slices_Contains_string g off l.length c l s w (Nat.le_refl _) (by omega) (fun j hj=>?_)).mono ?_
  ·obtain⟨g',off',e,_,hc⟩:=h.at j hj
   cases e
   rw[hc,List.getD_eq_getElem?_getD,List.getElem?_eq_getElem hj];rfl
  ·rintro e w' ⟨rfl,rfl⟩
   refine⟨?_,rfl⟩
   rw[List.take_length]
   have:Lib.containsS l s=mb s l:=by rw[Bool.eq_iff_iff,Lib.containsS_iff,mb_iff]
   rw[this]
theorem dig_eq:digL=(List.range 256).map (fun (c:Nat)=>Value.bool (digitB (c:Int))):=by kernel_rfl
theorem dig_get {c:Nat} (h:c<256):digL[c]?=some (.bool (digitB c)):=by
 rw[dig_eq,List.getElem?_map,List.getElem?_range h];rfl
theorem trimR_any {s0:ByteArray} {w:World} {X:Nat} (hX:∀ c,c<256→w.cell? ⟨X,c,none⟩=some (.bool (digitB c))) (hs:s0.size≤9223372036854775807):
  Calls Tryz.prog 83 #[.string s0,.pointer (some ⟨X,0,none⟩)] w fun e w'=>e=.returned (.string (str (stripD s0.data.toList)))∧w=w':=by
 have HC:=Ld (fun (x:UInt8)=>Tryz.asciiSet_contains X x (digitB x.toNat) w (hX x.toNat x.toNat_lt))
 have HS:=Ld hs
 clear hX hs
 go_enter Tryz.func83,Tryz.ntmps83
 go_wp2_with fail
 go_loop [0] (fun v=>∃ s:ByteArray,v=.string s∧s.size≤9223372036854775807∧Hid (stripD s.data.toList=stripD s0.data.toList)) (fun v=>strSz v)
 case atStart=>exact⟨s0,rfl,HS.out,Ld rfl⟩
 case round=>
  obtain⟨s,rfl,hsz,hq⟩:=hrel
  have HQ:=hq
  clear hq
  by_cases hz:s.size=0
  ·have h3:s.data.toList=[]:=List.length_eq_zero_iff.1 (by rw[ba_len];omega)
   have HR:Hid (str (stripD s0.data.toList)=s):=Ld (by
    rw[← HQ.out,h3]
    apply ByteArray.ext
    apply Array.toList_inj.1
    rw[h3]
    rfl)
   have i1:¬ (0:Int)<(s.size:Int):=by omega
   clear hz h3
   go_wp2_with fail
   go_ret
   exact⟨by rw[HR.out];rfl,rfl⟩
  ·have i1:(0:Int)<(s.size:Int):=by omega
   have i2:s.size-1<s.size:=by omega
   have i3:(s.size:Int)-1=((s.size-1:Nat):Int):=by omega
   have HSA:=Ld (strip_at s i2)
   have HCC:=Ld (HC.out s[s.size-1])
   clear hz
   cases hd:digitB (s[s.size-1].toNat)
   ·have HR:Hid (str (stripD s0.data.toList)=s):=Ld (by
     rw[← HQ.out,HSA.out,hd]
     apply ByteArray.ext
     apply Array.toList_inj.1
     rw[if_neg (by decide),str_list])
    rw[hd] at HCC
    clear hd HSA
    go_wp2_with (go_at_call 134;refine HCC.out.mono ?_;rintro e w' ⟨rfl,rfl⟩)
    go_ret
    exact⟨by rw[HR.out];rfl,rfl⟩
   ·have HS2:Hid (stripD (s.extract 0 (s.size-1)).data.toList=stripD s0.data.toList∧(s.extract 0 (s.size-1)).size≤9223372036854775807∧(s.extract 0 (s.size-1)).size<s.size):=Ld ⟨by rw[← HQ.out,HSA.out,hd];rfl,by rw[ByteArray.size_extract];omega,by rw[ByteArray.size_extract];omega⟩
    rw[hd] at HCC
    clear hd HSA
    go_wp2_with (go_at_call 134;refine HCC.out.mono ?_;rintro e w' ⟨rfl,rfl⟩)
    go_round
    case rel=>exact⟨_,rfl,HS2.out.2.1,Ld HS2.out.1⟩
    case measure=>exact HS2.out.2.2
theorem trimRight_dig {s:ByteArray} (hs:s.size≤9223372036854775807) (hne:s.size≠0) (w:World):Calls Tryz.prog 36 #[.string s,.string digS] w fun e w'=>e=.returned (.string (str (stripD s.data.toList)))∧Kept (fun _=>False) w w':=by
 have i1:digS.toList.isEmpty=false:=by kernel_rfl
 have i2:digS.size=10:=rfl
 have i3:(digS.toList==[])=false:=by kernel_rfl
 have i4:(s.toList==[])=false:=by
  rw[beq_eq_false_iff_ne]
  intro e
  rw[Go.ByteArray.toList_eq] at e
  have:=ba_len s
  rw[e] at this
  exact hne this.symm
 have HD:=Ld dig_set
 have HSZ:=Ld hs
 clear hs hne
 go_enter Tryz.func36,Tryz.ntmps36
 go_wp2_with (first | (go_at_call 82;refine (HD.out _).mono ?_;rintro e w1 ⟨rfl,hw1⟩;have k1:Kept (fun _=>False) w w1:=(by rw[hw1];exact kR.alloc _);clear hw1) | (refine wpList_store_at (w0:=w1) (L:=digL) (dig_blk w1) (kR.alloc _) rfl _ _ rfl rfl rfl (by kernel_rfl) dig_zl (by kernel_rfl) ?_;intro W bW kW;have HX:=Ld (fun c (hc:c<256)=>(bW.cell c).trans (dig_get hc));clear bW) | (go_at_call 83;refine (trimR_any HX.out HSZ.out).mono ?_;rintro e w' ⟨rfl,rfl⟩))
 go_ret
 exact⟨rfl,k1.trans kW⟩
theorem cand_min {b:List UInt8} {k:Nat} {m:Nat} (hm:m=min b.length (16-(Lib.decDigits k).length)):(str b).extract 0 m++str (Lib.decDigits k)=str (candL b k):=by
 apply ByteArray.ext
 apply Array.toList_inj.1
 rw[ByteArray.data_append,Array.toList_append,str_list,str_list,ext_take,str_list]
 unfold candL
 congr 1
 rw[hm]
 by_cases h:b.length≤16-(Lib.decDigits k).length
 ·rw[Nat.min_eq_left h,List.take_length,List.take_of_length_le h]
 ·rw[Nat.min_eq_right (by omega)]
theorem cand_free2 {b:List UInt8} {k:Nat} (hb:b≠[]) (hl:letterB (b.headD 0).toNat=true) (hw:allW b=true) (hk:k<10000000):keywordB (str (candL b k))=false:=(ident_parts.1 (cand_ident hb hl hw hk)).2.2.2.1
theorem trimQ_ne {nm:ByteArray} (h:namedB nm=true):(trimQ nm).size≠0:=by
 unfold namedB at h
 intro e
 have h1:=(ident_parts.1 h).1
 exact h1 (List.length_eq_zero_iff.1 (by rw[ba_len];exact e))
theorem fresh_any {ok:Nat→Prop} {w:World} {used:List ByteArray} {vu:Value} (name:ByteArray) (hN:NmL ok w used vu) (hu:used.length≤800000) (hsz:name.size≤9223372036854775807) (hp:P10 w):
  Calls Tryz.prog 10 #[.string name,vu] w fun e w'=>e=.returned (.string (freshS name used))∧Kept (fun _=>False) w w':=by
 obtain⟨a,c,rfl⟩:=hN.slice
 have HIN:=Ld (fun W (k:Kept (fun _=>False) w W) (s:ByteArray)=>contains_any s (hN.frame (sK k)) (by omega))
 have HNV:=Ld (named_any name w hsz)
 have HU:=Ld hu
 have HFR:Hid (freshS name used=frFrom (if namedB name then name else ⟨#[120]⟩) used):=Ld rfl
 have HSZ:Hid ((if namedB name then name else ⟨#[120]⟩:ByteArray).size≤9223372036854775807∧namedB (if namedB name then name else ⟨#[120]⟩)=true):=Ld (by
  cases h:namedB name
  ·exact⟨(by decide:(⟨#[120]⟩:ByteArray).size≤9223372036854775807),ident_named x_ident⟩
  ·exact⟨hsz,h⟩)
 have HP:=Ld hp
 clear hN hu hsz hp
 generalize freshS name used=res at *
 go_enter Tryz.func10,Tryz.ntmps10
 go_upto_region 1 with (fail)
 go_cut [11] (fun v wc=>v=.bool (!namedB name)∧wc=w)
 case first=>
  go_wp2_with (go_at_call 34;refine HNV.out.mono ?_;rintro e w' ⟨rfl,rfl⟩)
  go_meet
  case rel=>exact⟨rfl,rfl⟩
 case rest=>
  obtain⟨rfl,rfl⟩:=hcut
  clear HNV
  go_upto_if 11 with (fail)
  go_cut [0] (fun v wd=>v=.string (if namedB name then name else ⟨#[120]⟩)∧wd=wc)
  case first=>
   cases hnb:namedB name
   ·go_wp2_with fail
    go_meet
    case rel=>exact⟨by rw[hnb];rfl,rfl⟩
   ·go_wp2_with fail
    go_meet
    case rel=>exact⟨by rw[hnb];rfl,rfl⟩
  case rest=>
   obtain⟨rfl,hw⟩:=hcut
   subst hw
   generalize (if namedB name then name else (⟨#[120]⟩:ByteArray))=nm at *
   have HC0:=Ld (HIN.out _ kR nm)
   go_wp2_with fail
   refine HC0.out.mono ?_
   rintro e w3 ⟨rfl,rfl⟩
   cases hm:mb nm used
   ·have HE:Hid (res=nm):=Ld (by rw[HFR.out];unfold frFrom;rw[hm];rfl)
    clear hm HIN HFR HC0
    go_wp2_with fail
    go_ret
    exact⟨by rw[HE.out];rfl,Kept.refl _ _⟩
   ·obtain⟨j,hj1,hj2,hj3,hj4,hj5⟩:=fresh_at HSZ.out.2 HU.out hm
    have HRJ:Hid (res=str (candL (baseL nm) j)):=Ld (by rw[HFR.out,hj3])
    have HJ4:=Ld hj4
    have HJ5:=Ld hj5
    have HBS:=Ld (base_size HSZ.out.2)
    have HBO:=Ld (base_ok HSZ.out.2)
    have HT1:Hid (∀ W,Calls Tryz.prog 37 #[.string nm,.string ⟨#[39]⟩] W fun e w'=>e=.returned (.string (trimQ nm))∧W=w'):=Ld (fun W=>(Tryz.strings_TrimSuffix nm ⟨#[39]⟩ W HSZ.out.1).mono fun e w' ⟨q1,q2⟩=>⟨q1,q2.symm⟩)
    have HT2:=Ld (fun W=>trimRight_dig (s:=trimQ nm) (by have:=trimQ_le nm;have:=HSZ.out.1;omega) (trimQ_ne HSZ.out.2) W)
    change Hid (∀ W,Calls Tryz.prog 36 _ W fun e w'=>e=.returned (.string (str (baseL nm)))∧_) at HT2
    generalize baseL nm=b at *
    clear hm hj3 hj4 hj5 HFR HC0
    have hcu:digS=digS:=rfl
    have HK0:=Ld (Kept.refl (fun _=>False) wc)
    generalize trimQ nm=tq at *
    go_wp2_with (first | (go_at_call 37;refine (HT1.out _).mono ?_;rintro e w' ⟨rfl,rfl⟩) | (go_at_call 36;refine (HT2.out _).mono ?_;rintro e w1 ⟨rfl,k1⟩))
    clear HT1 HT2 hcu
    have hbs:Hid ((str b).size=b.length):=Ld (str_size b)
    go_loopw [6] (fun i wr=>∃ k:Nat,1≤k∧k≤j∧i=.int .i64 k∧Kept (fun _=>False) wc wr) (fun i _=>j-(intOf i).toNat)
    case atStart=>exact⟨1,Nat.le_refl _,hj1,rfl,k1⟩
    case round=>
     obtain⟨k,hk1,hk2,rfl,kr2⟩:=hrel
     have q1:(k:Int)<1000002:=by omega
     have hdl:=dec_len2 6 k (by omega)
     have HDD:=Ld (itoa_dec (k:=k) (by omega) (HP.out.kept kr2))
     obtain⟨m,hm⟩:∃ m,m=min b.length (16-(Lib.decDigits k).length):=⟨_,rfl⟩
     have HCS:=Ld (cand_min hm)
     have HKW:=Ld (cand_free2 (k:=k) HBO.out.1 HBO.out.2.1 HBO.out.2.2 (by omega))
     have hDs:(str (Lib.decDigits k)).size≤7:=by rw[str_size];exact hdl
     have hms:Hid (m=min b.length (16-(str (Lib.decDigits k)).size)):=Ld (by rw[str_size];exact hm)
     clear hdl hm k1
     generalize str (Lib.decDigits k)=D at *
     go_wp2_with fail
     refine HDD.out.mono ?_
     rintro e w7 ⟨rfl,k7⟩
     have KK7:=Ld (kr2.trans k7)
     clear HDD
     have hmn:(min ((str b).size:Int) (16-(D.size:Int))).toNat=m:=by
      have h1:=hbs.out
      have h2:=hms.out
      omega
     have HIN2:=Ld (HIN.out w7 KK7.out (str (candL b k)))
     have HKY:=Ld (keyword_t HKW.out w7)
     go_upto_region 10 with (fail)
     rw[HCS.out]
     clear hmn hms HCS HKW
     by_cases hkj:k=j
     ·subst hkj
      have HIN3:Hid (Calls Tryz.prog 35 #[.slice a used.length c,.string (str (candL b k))] w7 fun e w'=>e=.returned (.bool false)∧w7=w'):=Ld (by rw[← HJ4.out];exact HIN2.out)
      clear HIN2 HJ5 HJ4
      generalize str (candL b k)=cd at *
      go_wp2_with (first | (go_at_call 39;refine HKY.out.mono ?_;rintro e w' ⟨rfl,rfl⟩) | (go_at_call 35;refine HIN3.out.mono ?_;rintro e w' ⟨rfl,rfl⟩))
      go_ret
      exact⟨by rw[HRJ.out];rfl,KK7.out⟩
     ·have HIN3:Hid (Calls Tryz.prog 35 #[.slice a used.length c,.string (str (candL b k))] w7 fun e w'=>e=.returned (.bool true)∧w7=w'):=Ld (by rw[← HJ5.out k hk1 (by omega)];exact HIN2.out)
      clear HIN2
      generalize str (candL b k)=cd at *
      go_wp2_with (first | (go_at_call 39;refine HKY.out.mono ?_;rintro e w' ⟨rfl,rfl⟩) | (go_at_call 35;refine HIN3.out.mono ?_;rintro e w' ⟨rfl,rfl⟩))
      go_roundw
      case rel=>exact⟨k+1,by omega,by omega,by go_num,KK7.out⟩
      case measure=>simp[intOf];omega
def PutP (bz:Nat) (r:Tm) (w:World) (e:Ending) (w':World):Prop:=∃ tk kk,e=.returned (tmVal r tk kk)∧TyL bz (fun q=>w.heap.size≤q) w' r.ty.kids tk∧TmL bz (fun q=>w.heap.size≤q) w' r.kids kk∧Kept (fun _=>False) w w'
end Go.Proofs.YtdmebjbkccjhbaaGreatDoor
