/- A part. -/
import Derived.Test.YtdmebjbkccjhbaaGreatDoorU1
import Derived.Deep.DeepCutAuto
set_option linter.unusedVariables false
set_option linter.unusedSimpArgs false
set_option maxRecDepth 100000
set_option maxHeartbeats 32000000
namespace Go.Proofs.YtdmebjbkccjhbaaGreatDoor
open Go.RowKit
def numTok (t:ByteArray):Option Int:=match Lib.atoiAll t.data.toList with
 | .ok v=>if 1000000000<v∨(1<t.size∧(t.data.toList.headD 0).toNat=48) then none else some v
 | _=>none
def wordTo (s:ByteArray) (fr:Nat):Nat:=
 if keywordB (s.extract fr (wend s fr)) then wend s fr
 else if h:wend s fr<s.size then (if s[wend s fr].toNat=39 then wend s fr+1 else wend s fr) else wend s fr
def tokAt (s:ByteArray) (fr:Nat):Option (Nat×Int×ByteArray×Int):=
 if h:fr<s.size then
  if letterB s[fr].toNat then
   if 16<wend s fr-fr then none else some (wordTo s fr,1,s.extract fr (wordTo s fr),0)
  else if digitB s[fr].toNat then (numTok (s.extract fr (wend s fr))).map fun v=>(wend s fr,2,⟨#[]⟩,v)
  else if sIdx (s.data.toList.drop fr) signs<0 then none
  else some (fr+(signs.getD (sIdx (s.data.toList.drop fr) signs).toNat ⟨#[]⟩).size,3,s.extract fr (fr+(signs.getD (sIdx (s.data.toList.drop fr) signs).toNat ⟨#[]⟩).size),0)
 else some (fr,0,⟨#[]⟩,0)
def AdvPost (b:Nat) (s:ByteArray) (nest fr:Nat) (w:World) (e:Ending) (w':World):Prop:=
 match tokAt s fr with
 | some t=>e=.returned (.tuple #[])∧Blk w' b 142 (pcells s t.1 t.2.1 t.2.2.1 t.2.2.2 fr nest)∧Kept (·=b) w w'
 | none=>e=.panicked [{ v:=.iface 137 (.agg #[.int .i64 fr]),recovered:=false }]∧Kept (·=b) w w'
theorem AdvPost.some {b:Nat} {s:ByteArray} {nest fr:Nat} {w:World} {e:Ending} {w':World} {t1:Nat} {k:Int} {tx:ByteArray} {n:Int} (h:tokAt s fr=some (t1,k,tx,n)) (he:e=.returned (.tuple #[])) (hb:Blk w' b 142 (pcells s t1 k tx n fr nest)) (hk:Kept (·=b) w w'):AdvPost b s nest fr w e w':=by
 unfold AdvPost;rw[h];exact⟨he,hb,hk⟩
theorem AdvPost.none {b:Nat} {s:ByteArray} {nest fr:Nat} {w:World} {e:Ending} {w':World} (h:tokAt s fr=none) (he:e=.panicked [{ v:=.iface 137 (.agg #[.int .i64 fr]),recovered:=false }]) (hk:Kept (·=b) w w'):AdvPost b s nest fr w e w':=by
 unfold AdvPost;rw[h];exact⟨he,hk⟩
theorem tok_num_none {s:ByteArray} {fr t:Nat} (hlt:fr<s.size) (hl:letterB s[fr].toNat=false) (hd:digitB s[fr].toNat=true) (HT:wend s fr=t) (hn:numTok (s.extract fr t)=none):tokAt s fr=none:=by
 unfold tokAt;rw[dif_pos hlt,if_neg (by rw[hl];simp),if_pos hd,HT,hn];rfl
theorem tok_num_some {s:ByteArray} {fr t:Nat} {v:Int} (hlt:fr<s.size) (hl:letterB s[fr].toNat=false) (hd:digitB s[fr].toNat=true) (HT:wend s fr=t) (hn:numTok (s.extract fr t)=some v):tokAt s fr=some (t,2,⟨#[]⟩,v):=by
 unfold tokAt;rw[dif_pos hlt,if_neg (by rw[hl];simp),if_pos hd,HT,hn];rfl
theorem num_bad {x:ByteArray} (h:∀ v,Lib.atoiAll x.data.toList≠.ok v):numTok x=none:=by
 unfold numTok
 cases ha:Lib.atoiAll x.data.toList with
 | ok v=>exact absurd ha (h v)
 | range=>rfl
 | _=>rfl
theorem num_big {x:ByteArray} {v:Int} (ha:Lib.atoiAll x.data.toList=.ok v) (hv:1000000000<v):numTok x=none:=by
 unfold numTok;rw[ha];simp only[];rw[if_pos (Or.inl hv)]
theorem num_zero {x:ByteArray} {v:Int} (ha:Lib.atoiAll x.data.toList=.ok v) (h1:1<x.size) (h0:0<x.size) (h48:((x[0].toNat:Int)==48)=true):numTok x=none:=by
 unfold numTok;rw[ha];simp only[]
 have:=head_of x h0
 rw[if_pos (Or.inr ⟨h1,by rw[this];have:=eq_of_beq h48;omega⟩)]
theorem num_ok {x:ByteArray} {v:Int} (ha:Lib.atoiAll x.data.toList=.ok v) (hv:¬ 1000000000<v) (h:1<x.size→∀ h0:0<x.size,((x[0].toNat:Int)==48)=false):numTok x=some v:=by
 unfold numTok;rw[ha];simp only[]
 rw[if_neg]
 rintro (h1 | ⟨h1,h2⟩)
 ·exact hv h1
 ·have h0:0<x.size:=by omega
  have:=head_of x h0
  rw[this] at h2
  have:=ne_of_beq_false (h h1 h0)
  omega
theorem sIdx_cases (l:List UInt8) (xs:List ByteArray):sIdx l xs=-1∨∃ j,∃ h:j<xs.length,sIdx l xs=(j:Int)∧Lib.hasPrefix l xs[j].data.toList=true:=by
 unfold sIdx
 cases hf:xs.findIdx? (fun x=>Lib.hasPrefix l x.data.toList) with
 | none=>exact .inl rfl
 | some j=>
  obtain⟨h,hy,_⟩:=List.findIdx?_eq_some_iff_getElem.1 hf
  exact .inr ⟨j,h,rfl,hy⟩
theorem pre_len (s x:ByteArray) (fr:Nat) (hf:fr≤s.size) (h:Lib.hasPrefix (s.data.toList.drop fr) x.data.toList=true):fr+x.size≤s.size:=by
 unfold Lib.hasPrefix at h
 have:=(List.isPrefixOf_iff_prefix.1 h).length_le
 rw[List.length_drop] at this
 have e1:s.data.toList.length=s.size:=by rw[Array.length_toList];rfl
 have e2:x.data.toList.length=x.size:=by rw[Array.length_toList];rfl
 omega
theorem signs_at (W:World) (j:Nat) (h:j<signs.length):(W.alloc (Obj.cells (List.map Value.string signs).toArray 9)).cell? ⟨W.heap.size,j,none⟩=some (.string signs[j]):=by
 rw[(Blk.new W 9 (List.map Value.string signs)).cell j,List.getElem?_map,List.getElem?_eq_getElem h];rfl
def Gl (w:World):Prop:=(∃ t p,w.cell? ⟨4,0,none⟩=some (.iface t p))∧(∃ t p,w.cell? ⟨5,0,none⟩=some (.iface t p))
theorem Gl.lt {w:World} (h:Gl w):5<w.heap.size:=by
 obtain⟨_,t,p,h⟩:=h
 unfold World.cell? at h
 by_cases hl:5<w.heap.size
 ·exact hl
 ·rw[Array.getElem?_eq_none (by show w.heap.size≤5;omega)] at h;simp at h
theorem Gl.kept {S:Nat→Prop} {w w':World} (h:Gl w) (hk:Kept S w w') (h0:¬ S 4) (h1:¬ S 5):Gl w':=by
 have hl:=h.lt
 obtain⟨⟨t,p,a⟩,u,q,c⟩:=h
 exact⟨⟨t,p,by rw[hk.cell (p:=⟨4,0,none⟩) (by show 4<_;omega) h0];exact a⟩,u,q,by rw[hk.cell (p:=⟨5,0,none⟩) (by show 5<_;omega) h1];exact c⟩
theorem atoi_ok (t:ByteArray) (hl:t.size≤65536) (v:Int) (h:Lib.atoiAll t.data.toList=.ok v) (w:World):
  Calls Tryz.prog 159 #[.string t] w fun e w'=>e=.returned (.tuple #[.int .i64 v,.nilIface])∧Below w.heap.size w w':=
 (Tryz.strconv_Atoi_ok t (by omega) v h w).mono fun e w' ⟨he,hw⟩=>⟨he,by
  rcases hw with rfl | ⟨u,rfl⟩
  ·exact Below.refl _ _
  ·exact Lib.bytesWorld_below _ _ _⟩
theorem atoi_bad (t:ByteArray) (hl:t.size≤65536) (h:∀ v,Lib.atoiAll t.data.toList≠.ok v) (w:World) (hg:Gl w):
  Calls Tryz.prog 159 #[.string t] w fun e w'=>∃ v N,e=.returned (.tuple #[.int .i64 v,.iface 231 (.pointer (some ⟨N,0,none⟩))])∧Below w.heap.size w w':=by
 obtain⟨⟨t0,p0,g0⟩,t1,p1,g1⟩:=hg
 cases ha:Lib.atoiAll t.data.toList with
 | ok v=>exact absurd ha (h v)
 | range=>exact (Tryz.strconv_Atoi_range t (by omega) ha _ w g1 (Or.inr ⟨_,_,rfl⟩)).mono fun e w' ⟨N,he,_,_,hb⟩=>⟨_,N,he,hb⟩
 | _=>exact (Tryz.strconv_Atoi_syntax t (by omega) ha _ w g0 (Or.inr ⟨_,_,rfl⟩)).mono fun e w' ⟨N,he,_,_,hb⟩=>⟨0,N,he,hb⟩
theorem letter_t {c:Int} {v:Bool} (h:letterB c=v) (w:World):Calls Tryz.prog 132 #[.int .u8 c] w fun e w'=>e=.returned (.bool v)∧w'=w:=(letter_any c w).mono fun _ _ q=>⟨by rw[← h];exact q.1,q.2.symm⟩
theorem digit_t {c:Int} {v:Bool} (h:digitB c=v) (w:World):Calls Tryz.prog 158 #[.int .u8 c] w fun e w'=>e=.returned (.bool v)∧w'=w:=(digit_any c w).mono fun _ _ q=>⟨by rw[← h];exact q.1,q.2.symm⟩
theorem keyword_t {t:ByteArray} {v:Bool} (h:keywordB t=v) (w:World):Calls Tryz.prog 39 #[.string t] w fun e w'=>e=.returned (.bool v)∧w=w':=(keyword_any t w).mono fun _ _ q=>⟨by rw[← h];exact q.1,q.2⟩
theorem adv_any (b:Nat) (s:ByteArray) (p ta nest:Nat) (k n:Int) (tx:ByteArray) (w:World) (hs:s.size≤65536) (hp:p≤s.size)
  (hB:Blk w b 142 (pcells s p k tx n ta nest)) (hb2:6≤b) (hg:Gl w):
  Calls Tryz.prog 117 #[.pointer (some ⟨b,0,none⟩)] w (AdvPost b s nest (skip s p) w):=by
 have hblt:=hB.lt
 go_enter Tryz.func117,Tryz.ntmps117
 go_upto_block 0 with (fail)
 go_cut [1] (fun v1 wc=>v1=.pointer (some ⟨w.heap.size,0,none⟩)∧Blk wc b 142 (pcells s (skip s p) k tx n ta nest)∧Blk wc w.heap.size 99 [.pointer (some ⟨b,0,none⟩)]∧Kept (·=b) w wc)
 case first=>
  go_wp2_with fail
  go_loopg [8] (s.size-p) (fun m _ wr=>∃ q:Nat,q≤s.size∧m=s.size-q∧Hid (skip s q=skip s p)∧Blk wr b 142 (pcells s q k tx n ta nest)∧Blk wr w.heap.size 99 [.pointer (some ⟨b,0,none⟩)]∧Kept (·=b) w wr)
  case atStart=>exact⟨p,hp,rfl,Ld rfl,hB.alloc _,Blk.new _ _ _,kR.alloc _⟩
  case round=>
   obtain⟨q,hq,rfl,hsk,b1,b2,hk⟩:=hrel
   have c0:wr.cell? ⟨b,0,none⟩=some (.string s):=b1.cell 0
   have c1:wr.cell? ⟨b,1,none⟩=some (.int .i64 q):=b1.cell 1
   have d1:wr.frozen? ⟨b,1,none⟩=false:=b1.frozen 1
   have cp:wr.cell? ⟨w.heap.size,0,none⟩=some (.pointer (some ⟨b,0,none⟩)):=b2.cell 0
   by_cases hlt:q<s.size
   ·have i1:(0:Int)≤(q:Int):=by omega
    have i2:(q:Int)<(s.size:Int):=by omega
    cases h32:((s[q].toNat:Int)==32) <;> cases h9:((s[q].toNat:Int)==9) <;> cases h10:((s[q].toNat:Int)==10)
    ·have e:Hid (q=skip s p):=Ld (by rw[← hsk.out];exact (scan_no _ _ _ hlt (by simp only[blankB,h32,h9,h10];rfl)).symm)
     go_wp2_with fail
     go_quiet (fail)
     go_wp2_with fail
     go_meet
     case rel=>
      refine⟨rfl,?_,b2.drewN _,hk.drewN _⟩
      rw[← e.out];exact b1.drewN _
    all_goals
     have e:Hid (skip s (q+1)=skip s p):=Ld (by rw[← hsk.out];exact (scan_yes _ _ _ hlt (by simp only[blankB,h32,h9,h10];rfl)).symm)
     go_wp2_with fail
     go_quiet (fail)
     go_wp2_with fail
     go_roundg (s.size-(q+1))
     case measure=>omega
     case rel=>
      refine⟨q+1,by omega,rfl,e,?_,?_,?_⟩
      ·exact (b1.drewN nq).set 1 _
      ·exact (b2.drewN nq).set_other _ _ (by show w.heap.size≠b;omega)
      ·exact (hk.drewN nq).setCell (Or.inl rfl) _
   ·have hd:decide ((q:Int)<(s.size:Int))=false:=by simp;omega
    go_wp2_with fail
    go_quiet (fail)
    go_wp2_with fail
    go_meet
    case rel=>
     refine⟨rfl,?_,b2.drewN _,hk.drewN _⟩
     have e:q=skip s p:=by rw[← hsk.out];exact (scan_end _ _ _ (by omega)).symm
     rw[← e];exact b1.drewN _
 case rest=>
  obtain⟨rfl,b1,b2,hk⟩:=hcut
  have hz:=hk.size
  have hfs:Hid (p≤skip s p∧skip s p≤s.size):=Ld ⟨(scan_spec _ s p hp).1,(scan_spec _ s p hp).2.1⟩
  generalize skip s p=fr at *
  have hfs1:=hfs.out.1
  have hfs2:=hfs.out.2
  have c0:wc.cell? ⟨b,0,none⟩=some (.string s):=b1.cell 0
  have c1:wc.cell? ⟨b,1,none⟩=some (.int .i64 fr):=b1.cell 1
  have cp:wc.cell? ⟨w.heap.size,0,none⟩=some (.pointer (some ⟨b,0,none⟩)):=b2.cell 0
  have hw1:=b2.lt
  go_upto_region 4 with (fail)
  have e1:=b1.alloc (Obj.cells #[Value.int IntKind.i64 fr] 3)
  have e2:=b2.alloc (Obj.cells #[Value.int IntKind.i64 fr] 3)
  have e3:=Blk.new wc 3 [Value.int IntKind.i64 fr]
  have hk1:=hk.alloc (Obj.cells #[Value.int IntKind.i64 fr] 3)
  have hz1:w.heap.size<wc.heap.size:=hw1
  generalize hW:wc.alloc (Obj.cells #[Value.int IntKind.i64 fr] 3)=w1 at *
  generalize wc.heap.size=fb at *
  clear hW c0 c1 cp b1 b2 hk hz hw1
  have c0:w1.cell? ⟨b,0,none⟩=some (.string s):=e1.cell 0
  have c1:w1.cell? ⟨b,1,none⟩=some (.int .i64 fr):=e1.cell 1
  have cp:w1.cell? ⟨w.heap.size,0,none⟩=some (.pointer (some ⟨b,0,none⟩)):=e2.cell 0
  have cf:w1.cell? ⟨fb,0,none⟩=some (.int .i64 fr):=e3.cell 0
  by_cases hend:fr=s.size
  ·have he:((fr:Int)==(s.size:Int))=true:=by simp;omega
   have f2:w1.frozen? ⟨b,2,none⟩=false:=e1.frozen 2
   have f3:w1.frozen? ⟨b,3,none⟩=false:=e1.frozen 3
   have f4:w1.frozen? ⟨b,4,none⟩=false:=e1.frozen 4
   have f5:w1.frozen? ⟨b,5,none⟩=false:=e1.frozen 5
   have g2:w1.cell? ⟨b,2,none⟩=some (.int .i64 k):=e1.cell 2
   have g3:w1.cell? ⟨b,3,none⟩=some (.string tx):=e1.cell 3
   have g4:w1.cell? ⟨b,4,none⟩=some (.int .i64 n):=e1.cell 4
   have g5:w1.cell? ⟨b,5,none⟩=some (.int .i64 ta):=e1.cell 5
   have Hend:=Ld hend
   clear hend
   go_quiet (fail)
   go_wp2_with fail
   go_end0
   refine AdvPost.some (t1:=fr) (k:=0) (tx:=⟨#[]⟩) (n:=0) (by unfold tokAt;rw[dif_neg (by have:=Hend.out;omega)]) rfl ?_ ?_
   ·exact ((((e1.drewN nq).set 2 _).set 3 _).set 4 _).set 5 _
   ·exact ((((hk1.drewN nq).setCell (Or.inl rfl) _).setCell (Or.inl rfl) _).setCell (Or.inl rfl) _).setCell (Or.inl rfl) _
  ·have he:((fr:Int)==(s.size:Int))=false:=by simp;omega
   have hlt:fr<s.size:=by omega
   clear hend
   have hsp:=scan_spec inWordB s fr (by omega)
   have hto1:fr≤wend s fr:=hsp.1
   have hto2:wend s fr≤s.size:=hsp.2.1
   clear hsp
   go_quiet (fail)
   have e1':=e1.drewN nq
   have e2':=e2.drewN nq
   have e3':=e3.drewN nq
   have hk1':=hk1.drewN nq
   generalize hW:w1.drewN nq=w2 at *
   clear hW c0 c1 cp cf e1 e2 e3 hk1
   have c0:w2.cell? ⟨b,0,none⟩=some (.string s):=e1'.cell 0
   have cp:w2.cell? ⟨w.heap.size,0,none⟩=some (.pointer (some ⟨b,0,none⟩)):=e2'.cell 0
   have cf:w2.cell? ⟨fb,0,none⟩=some (.int .i64 fr):=e3'.cell 0
   go_upto_block 2 with (fail)
   go_cut [3] (fun v3 wx=>v3=.int .i64 (wend s fr)∧wx=w2)
   case first=>
    go_wp2_with fail
    go_loopg [3] (s.size-fr) (fun m v3 wx=>wx=w2∧∃ q:Nat,fr≤q∧q≤s.size∧m=s.size-q∧v3=.int .i64 q∧Hid (wend s q=wend s fr))
    case atStart=>exact⟨rfl,fr,Nat.le_refl _,by omega,rfl,rfl,Ld rfl⟩
    case round=>
     obtain⟨rfl,q,hq0,hq,rfl,rfl,hsk⟩:=hrel
     by_cases hql:q<s.size
     ·have i1:(0:Int)≤(q:Int):=by omega
      have i2:(q:Int)<(s.size:Int):=by omega
      cases hw:inWordB s[q].toNat
      ·have e:Hid (q=wend s fr):=Ld (by rw[← hsk.out];exact (scan_no _ _ _ hql hw).symm)
       go_wp2_with (go_at_call 133;refine (inWord_any _ _).mono ?_;rintro e w' ⟨rfl,rfl⟩)
       go_meet
       case rel=>exact⟨by rw[← e.out],rfl⟩
      ·have e:Hid (wend s (q+1)=wend s fr):=Ld (by rw[← hsk.out];exact (scan_yes _ _ _ hql hw).symm)
       go_wp2_with (go_at_call 133;refine (inWord_any _ _).mono ?_;rintro e w' ⟨rfl,rfl⟩)
       go_roundg (s.size-(q+1))
       case measure=>omega
       case rel=>exact⟨rfl,q+1,by omega,by omega,rfl,by go_num,e⟩
     ·have i2:decide ((q:Int)<(s.size:Int))=false:=by simp;omega
      have e:Hid (q=wend s fr):=Ld (by rw[← hsk.out];exact (scan_end _ _ _ (by omega)).symm)
      go_wp2_with fail
      go_meet
      case rel=>exact⟨by rw[← e.out],rfl⟩
   case rest=>
    obtain⟨rfl,rfl⟩:=hcut
    generalize hT:wend s fr=t at *
    have HT:=Ld hT
    clear hT
    go_wp2_with fail
    go_quiet (fail)
    have e1:=e1'.drewN nq
    have e2:=e2'.drewN nq
    have e3:=e3'.drewN nq
    have hk1:=hk1'.drewN nq
    generalize hW:wc.drewN nq=w3 at *
    clear hW c0 cp cf e1' e2' e3' hk1'
    have c0:w3.cell? ⟨b,0,none⟩=some (.string s):=e1.cell 0
    have cp:w3.cell? ⟨w.heap.size,0,none⟩=some (.pointer (some ⟨b,0,none⟩)):=e2.cell 0
    have cf:w3.cell? ⟨fb,0,none⟩=some (.int .i64 fr):=e3.cell 0
    have f1:w3.frozen? ⟨b,1,none⟩=false:=e1.frozen 1
    have f2:w3.frozen? ⟨b,2,none⟩=false:=e1.frozen 2
    have f3:w3.frozen? ⟨b,3,none⟩=false:=e1.frozen 3
    have f4:w3.frozen? ⟨b,4,none⟩=false:=e1.frozen 4
    have f5:w3.frozen? ⟨b,5,none⟩=false:=e1.frozen 5
    have g1:w3.cell? ⟨b,1,none⟩=some (.int .i64 fr):=e1.cell 1
    have g2:w3.cell? ⟨b,2,none⟩=some (.int .i64 k):=e1.cell 2
    have g3:w3.cell? ⟨b,3,none⟩=some (.string tx):=e1.cell 3
    have g4:w3.cell? ⟨b,4,none⟩=some (.int .i64 n):=e1.cell 4
    have g5:w3.cell? ⟨b,5,none⟩=some (.int .i64 ta):=e1.cell 5
    have i1:(0:Int)≤(fr:Int):=by omega
    have i2:(fr:Int)<(s.size:Int):=by omega
    cases hl:letterB s[fr].toNat
    case true=>
     go_upto_region 15 with (fail)
     go_quiet ((go_at_call 132;exact Calls.quiet_of_same (letter_t hl _)))
     by_cases h16:16<t-fr
     ·have H16:Hid (tokAt s fr=none):=Ld (by unfold tokAt;rw[dif_pos hlt,if_pos hl,HT.out,if_pos h16])
      go_wp2_with fail
      exact⟨rfl,AdvPost.none H16.out rfl (hk1.drewN nq)⟩
     ·have H16:Hid (tokAt s fr=some (wordTo s fr,1,s.extract fr (wordTo s fr),0)):=Ld (by unfold tokAt;rw[dif_pos hlt,if_pos hl,HT.out,if_neg h16])
      cases hkw:keywordB (s.extract fr t)
      case true=>
       have HW:Hid (wordTo s fr=t):=Ld (by unfold wordTo;rw[HT.out,if_pos hkw])
       go_wp2_with (go_at_call 39;refine cR (keyword_t hkw _) ?_)
       go_region
       go_wp2_with fail
       go_end0
       refine AdvPost.some (H16.out.trans (by rw[HW.out])) rfl ?_ ?_
       ·exact (((((e1.drewN _).set 2 _).set 3 _).set 4 _).set 5 _).set 1 _
       ·exact (((((hk1.drewN _).setCell (Or.inl rfl) _).setCell (Or.inl rfl) _).setCell (Or.inl rfl) _).setCell (Or.inl rfl) _).setCell (Or.inl rfl) _
      case false=>
       by_cases hts:t<s.size
       ·have i3:(0:Int)≤(t:Int):=by omega
        have i4:(t:Int)<(s.size:Int):=by omega
        cases h39:((s[t].toNat:Int)==39)
        case true=>
         have HW:Hid (wordTo s fr=t+1):=Ld (by
          have h39':s[t].toNat=39:=by have:=eq_of_beq h39;omega
          unfold wordTo;simp only[HT.out];rw[if_neg (by rw[hkw];simp),dif_pos hts,if_pos h39'])
         go_wp2_with (go_at_call 39;refine cR (keyword_t hkw _) ?_)
         go_region
         go_wp2_with fail
         go_end0
         refine AdvPost.some (H16.out.trans (by rw[HW.out])) rfl ?_ ?_
         ·exact (((((e1.drewN _).set 2 _).set 3 _).set 4 _).set 5 _).set 1 _
         ·exact (((((hk1.drewN _).setCell (Or.inl rfl) _).setCell (Or.inl rfl) _).setCell (Or.inl rfl) _).setCell (Or.inl rfl) _).setCell (Or.inl rfl) _
        case false=>
         have HW:Hid (wordTo s fr=t):=Ld (by
          have h39':¬ s[t].toNat=39:=by have:=ne_of_beq_false h39;omega
          unfold wordTo;simp only[HT.out];rw[if_neg (by rw[hkw];simp),dif_pos hts,if_neg h39'])
         go_wp2_with (go_at_call 39;refine cR (keyword_t hkw _) ?_)
         go_region
         go_wp2_with fail
         go_end0
         refine AdvPost.some (H16.out.trans (by rw[HW.out])) rfl ?_ ?_
         ·exact (((((e1.drewN _).set 2 _).set 3 _).set 4 _).set 5 _).set 1 _
         ·exact (((((hk1.drewN _).setCell (Or.inl rfl) _).setCell (Or.inl rfl) _).setCell (Or.inl rfl) _).setCell (Or.inl rfl) _).setCell (Or.inl rfl) _
       ·have i4:decide ((t:Int)<(s.size:Int))=false:=by simp;omega
        have HW:Hid (wordTo s fr=t):=Ld (by
         unfold wordTo;simp only[HT.out];rw[if_neg (by rw[hkw];simp),dif_neg hts])
        go_wp2_with (go_at_call 39;refine cR (keyword_t hkw _) ?_)
        go_region
        go_wp2_with fail
        go_end0
        refine AdvPost.some (H16.out.trans (by rw[HW.out])) rfl ?_ ?_
        ·exact (((((e1.drewN _).set 2 _).set 3 _).set 4 _).set 5 _).set 1 _
        ·exact (((((hk1.drewN _).setCell (Or.inl rfl) _).setCell (Or.inl rfl) _).setCell (Or.inl rfl) _).setCell (Or.inl rfl) _).setCell (Or.inl rfl) _
    case false=>
     go_upto_region 15 with (fail)
     go_quiet ((go_at_call 132;exact Calls.quiet_of_same (letter_t hl _)))
     go_wp2_with fail
     have e1':=e1.drewN nq
     have e2':=e2.drewN nq
     have e3':=e3.drewN nq
     have hk1':=hk1.drewN nq
     generalize hW:w3.drewN nq=w4 at *
     clear hW c0 cp cf e1 e2 e3 hk1 f1 f2 f3 f4 f5 g1 g2 g3 g4 g5
     have c0:w4.cell? ⟨b,0,none⟩=some (.string s):=e1'.cell 0
     have cp:w4.cell? ⟨w.heap.size,0,none⟩=some (.pointer (some ⟨b,0,none⟩)):=e2'.cell 0
     have cf:w4.cell? ⟨fb,0,none⟩=some (.int .i64 fr):=e3'.cell 0
     have hxs:(s.extract fr t).size≤65536:=by rw[ByteArray.size_extract];omega
     cases hd:digitB s[fr].toNat
     case true=>
      go_quiet ((go_at_call 158;exact Calls.quiet_of_same (digit_t hd _)))
      go_wp2_with fail
      have hg4:Gl (w4.drewN nq):=hg.kept (hk1'.drewN nq) (by omega) (by omega)
      have HG:=Ld hg4
      clear hg4
      cases hA:Lib.atoiAll (s.extract fr t).data.toList with
      | ok v=>
       refine (atoi_ok _ hxs v hA _).mono ?_
       rintro e w5 ⟨rfl,hb⟩
       have q1:=(e1'.drewN nq).kept (Kept.of_below (S:=fun _=>False) hb) id
       have q2:=(e2'.drewN nq).kept (Kept.of_below (S:=fun _=>False) hb) id
       have q3:=(e3'.drewN nq).kept (Kept.of_below (S:=fun _=>False) hb) id
       have hk5:=(hk1'.drewN nq).trans (Kept.of_below hb)
       clear c0 cp cf
       have c0:w5.cell? ⟨b,0,none⟩=some (.string s):=q1.cell 0
       have cp:w5.cell? ⟨w.heap.size,0,none⟩=some (.pointer (some ⟨b,0,none⟩)):=q2.cell 0
       have cf:w5.cell? ⟨fb,0,none⟩=some (.int .i64 fr):=q3.cell 0
       have f1:w5.frozen? ⟨b,1,none⟩=false:=q1.frozen 1
       have f2:w5.frozen? ⟨b,2,none⟩=false:=q1.frozen 2
       have f3:w5.frozen? ⟨b,3,none⟩=false:=q1.frozen 3
       have f4:w5.frozen? ⟨b,4,none⟩=false:=q1.frozen 4
       have f5:w5.frozen? ⟨b,5,none⟩=false:=q1.frozen 5
       have g1:w5.cell? ⟨b,1,none⟩=some (.int .i64 fr):=q1.cell 1
       have g2:w5.cell? ⟨b,2,none⟩=some (.int .i64 k):=q1.cell 2
       have g3:w5.cell? ⟨b,3,none⟩=some (.string tx):=q1.cell 3
       have g4:w5.cell? ⟨b,4,none⟩=some (.int .i64 n):=q1.cell 4
       have g5:w5.cell? ⟨b,5,none⟩=some (.int .i64 ta):=q1.cell 5
       have hxz:(s.extract fr t).size=t-fr:=by rw[ByteArray.size_extract];omega
       have HX:=Ld hxz
       clear hxz
       by_cases hv:1000000000<v
       ·have hN:=Ld (tok_num_none hlt hl hd HT.out (num_big hA hv))
        go_wp2_with fail
        exact⟨rfl,AdvPost.none hN.out rfl hk5⟩
       ·by_cases h1t:1<t-fr
        ·have h0':=Ld (show 0<(s.extract fr t).size by rw[HX.out];omega)
         have Hv:=Ld hv
         go_wp2_with fail
         ·have h:1000000000<v∨((((s.extract fr t)[0]'h0'.out).toNat:Int)==48)=true:=by assumption
          have hN:=tok_num_none hlt hl hd HT.out (num_zero hA (by rw[HX.out];omega) h0'.out (h.resolve_left (by have:=Hv.out;omega)))
          exact⟨rfl,AdvPost.none hN rfl hk5⟩
         ·have h:v≤1000000000∧((((s.extract fr t)[0]'h0'.out).toNat:Int)==48)=false:=by assumption
          have hN:=tok_num_some hlt hl hd HT.out (num_ok hA (by have:=Hv.out;omega) (fun _ _=>h.2))
          go_end0
          refine AdvPost.some hN rfl ?_ ?_
          ·exact ((((q1.set 2 _).set 3 _).set 4 _).set 5 _).set 1 _
          ·exact ((((hk5.setCell (Or.inl rfl) _).setCell (Or.inl rfl) _).setCell (Or.inl rfl) _).setCell (Or.inl rfl) _).setCell (Or.inl rfl) _
        ·have hd1:decide (1<((t-fr:Nat):Int))=false:=by simp;omega
         have hN:=Ld (tok_num_some hlt hl hd HT.out (num_ok hA hv (fun h=>by rw[HX.out] at h;omega)))
         go_wp2_with fail
         go_end0
         refine AdvPost.some hN.out rfl ?_ ?_
         ·exact ((((q1.set 2 _).set 3 _).set 4 _).set 5 _).set 1 _
         ·exact ((((hk5.setCell (Or.inl rfl) _).setCell (Or.inl rfl) _).setCell (Or.inl rfl) _).setCell (Or.inl rfl) _).setCell (Or.inl rfl) _
      | _=>
       have hN:=Ld (tok_num_none hlt hl hd HT.out (num_bad (fun v h=>by rw[hA] at h;cases h)))
       refine (atoi_bad _ hxs (fun v h=>by rw[hA] at h;cases h) _ HG.out).mono ?_
       rintro e w5 ⟨v,N,rfl,hb⟩
       have q3:=(e3'.drewN nq).kept (Kept.of_below (S:=fun _=>False) hb) id
       have hk5:=(hk1'.drewN nq).trans (Kept.of_below hb)
       have cf:w5.cell? ⟨fb,0,none⟩=some (.int .i64 fr):=q3.cell 0
       go_wp2_with fail
       exact⟨rfl,AdvPost.none hN.out rfl hk5⟩
     case false=>
      go_quiet ((go_at_call 158;exact Calls.quiet_of_same (digit_t hd _)))
      go_wp2_with fail
      refine (signs_any _).mono ?_
      rintro e w5 ⟨rfl,rfl⟩
      have r1:=(e1'.drewN nq).alloc (Obj.cells (List.map Value.string signs).toArray 9)
      have r2:=(e2'.drewN nq).alloc (Obj.cells (List.map Value.string signs).toArray 9)
      have r3:=(e3'.drewN nq).alloc (Obj.cells (List.map Value.string signs).toArray 9)
      have r4:=Blk.new (w4.drewN nq) 9 (List.map Value.string signs)
      have hk5:=(hk1'.drewN nq).alloc (Obj.cells (List.map Value.string signs).toArray 9)
      go_wp2_with fail
      generalize hW:(w4.drewN nq).alloc (Obj.cells (List.map Value.string signs).toArray 9)=w5 at *
      have r4':Blk w5 w4.heap.size 9 (List.map Value.string signs):=r4
      generalize w4.heap.size=g at *
      clear hW c0 cp cf
      have c0:w5.cell? ⟨b,0,none⟩=some (.string s):=r1.cell 0
      have cp:w5.cell? ⟨w.heap.size,0,none⟩=some (.pointer (some ⟨b,0,none⟩)):=r2.cell 0
      have cf:w5.cell? ⟨fb,0,none⟩=some (.int .i64 fr):=r3.cell 0
      refine (idxSign_any signs s g b w.heap.size fb fr 40 w5 (fun i h=>by rw[r4'.cell i,List.getElem?_map,List.getElem?_eq_getElem h];rfl) (by decide) cp c0 cf (by omega) (by omega)).mono ?_
      rintro e w6 ⟨rfl,m,rfl⟩
      have y1:=r1.drewN m
      have y2:=r2.drewN m
      have y3:=r3.drewN m
      have hk6:=hk5.drewN m
      generalize hW:w5.drewN m=w6 at *
      clear hW c0 cp cf
      have c0:w6.cell? ⟨b,0,none⟩=some (.string s):=y1.cell 0
      have cp:w6.cell? ⟨w.heap.size,0,none⟩=some (.pointer (some ⟨b,0,none⟩)):=y2.cell 0
      have cf:w6.cell? ⟨fb,0,none⟩=some (.int .i64 fr):=y3.cell 0
      rcases sIdx_cases (s.data.toList.drop fr) signs with hi | ⟨j,hj,hi,hpre⟩
      ·have hN:Hid (tokAt s fr=none):=Ld (by unfold tokAt;rw[dif_pos hlt,if_neg (by rw[hl];simp),if_neg (by rw[hd];simp),hi,if_pos (by decide)])
       rw[hi]
       clear hi
       go_wp2_with fail
       exact⟨rfl,AdvPost.none hN.out rfl hk6⟩
      ·have hlen:=pre_len s signs[j] fr (by omega) hpre
       have hN:Hid (tokAt s fr=some (fr+signs[j].size,3,s.extract fr (fr+signs[j].size),0)):=Ld (by
        unfold tokAt;rw[dif_pos hlt,if_neg (by rw[hl];simp),if_neg (by rw[hd];simp),hi,if_neg (by omega)]
        simp only[Int.toNat_natCast,List.getD_eq_getElem?_getD,List.getElem?_eq_getElem hj,Option.getD_some])
       rw[hi]
       clear hi hpre
       have hj':j<40:=hj
       have hsa:=fun W=>signs_at W j hj
       generalize signs[j]=x at *
       have hsum:IntKind.i64.wrap ((fr:Int)+(x.size:Int))=(fr:Int)+(x.size:Int):=IntWalk.i64_in _ (by omega)
       have HLEN:=Ld hlen
       have j1:(0:Int)≤(j:Int):=by omega
       have j2:(j:Int)<40:=by omega
       go_upto_region 13 with (fail)
       go_cut [3] (fun v3 wx=>v3=.int .i64 ((fr+x.size:Nat):Int)∧Blk wx b 142 (pcells s fr k tx n ta nest)∧Blk wx w.heap.size 99 [.pointer (some ⟨b,0,none⟩)]∧Blk wx fb 3 [.int .i64 fr]∧Kept (·=b) w wx)
       case first=>
        have hfb:=y3.lt
        go_region_with (go_at_call 161;refine (signs_any _).mono ?_;rintro e w' ⟨rfl,rfl⟩)
        all_goals
         go_wp2_with fail
         go_meet
         case rel=>exact⟨by go_num,y1.drew.alloc _,y2.drew.alloc _,y3.drew.alloc _,hk6.drew.alloc _⟩
       case rest=>
        obtain⟨rfl,z1,z2,z3,hk7⟩:=hcut
        clear c0 cp cf
        have c0:wc.cell? ⟨b,0,none⟩=some (.string s):=z1.cell 0
        have cp:wc.cell? ⟨w.heap.size,0,none⟩=some (.pointer (some ⟨b,0,none⟩)):=z2.cell 0
        have cf:wc.cell? ⟨fb,0,none⟩=some (.int .i64 fr):=z3.cell 0
        have f1:wc.frozen? ⟨b,1,none⟩=false:=z1.frozen 1
        have f2:wc.frozen? ⟨b,2,none⟩=false:=z1.frozen 2
        have f3:wc.frozen? ⟨b,3,none⟩=false:=z1.frozen 3
        have f4:wc.frozen? ⟨b,4,none⟩=false:=z1.frozen 4
        have f5:wc.frozen? ⟨b,5,none⟩=false:=z1.frozen 5
        have g1:wc.cell? ⟨b,1,none⟩=some (.int .i64 fr):=z1.cell 1
        have g2:wc.cell? ⟨b,2,none⟩=some (.int .i64 k):=z1.cell 2
        have g3:wc.cell? ⟨b,3,none⟩=some (.string tx):=z1.cell 3
        have g4:wc.cell? ⟨b,4,none⟩=some (.int .i64 n):=z1.cell 4
        have g5:wc.cell? ⟨b,5,none⟩=some (.int .i64 ta):=z1.cell 5
        clear hsum hsa
        have i5:fr≤fr+x.size:=by omega
        generalize fr+x.size=t1 at *
        have i3:(fr:Int)≤(t1:Int):=by omega
        have i4:(t1:Int)≤(s.size:Int):=by omega
        go_wp2_with fail
        go_region
        go_wp2_with fail
        go_end0
        refine AdvPost.some hN.out rfl ?_ ?_
        ·exact (((((z1.set 2 _).set 3 _).set 4 _).set 5 _).set 1 _).drew
        ·exact (((((hk7.setCell (Or.inl rfl) _).setCell (Or.inl rfl) _).setCell (Or.inl rfl) _).setCell (Or.inl rfl) _).setCell (Or.inl rfl) _).drew
end Go.Proofs.YtdmebjbkccjhbaaGreatDoor
