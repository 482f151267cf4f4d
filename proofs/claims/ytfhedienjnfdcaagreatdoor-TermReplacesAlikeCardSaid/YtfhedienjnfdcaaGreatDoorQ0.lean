/- A part. -/
import Derived.Test.YtfhedienjnfdcaaGreatDoorProg
import Derived.WalkKit
import Derived.WalkSpells
import Derived.WalkLawsBesides
import Derived.Lib.Hide
import Derived.Shelf.Strings.Builder1
import Derived.Shelf.Strings.Trim
import Derived.Shelf.Small.Utf8
import Derived.Shelf.Small.Strs
import Derived.Shelf.Strings.BuilderF
import Derived.Shelf.Strings.BuilderK
import Derived.Shelf.Strconv.Atoi
import Derived.Shelf.Strconv.Itoa0
import Derived.Shelf.Strconv.Itoa1
import Derived.Shelf.LaysM
import Derived.Shelf.Strconv.Itoa2
import Derived.Shelf.Strconv.Itoa3
import Derived.Shelf.Strconv.AtoiErrFast
import Derived.Shelf.Strconv.ParseIntEmpty
import Derived.Shelf.Strconv.AtoiFail
import Derived.Shelf.Strconv.Clone
import Derived.Shelf.Strconv.SyntaxError
import Derived.Shelf.LaysC
import Derived.Shelf.Strconv.ToError
import Derived.Shelf.Strconv.Lower
import Derived.Shelf.Strconv.ParseUint10
import Derived.Shelf.Strconv.ParseUint10Empty
import Derived.Shelf.Strconv.ParseUint10Any
import Derived.Shelf.Strconv.ParseInt10
import Derived.Shelf.Strconv.AtoiLong
import Derived.Shelf.Strconv.AtoiInnerAll
import Derived.Shelf.Strconv.RangeError
import Derived.Shelf.Strconv.ToErrorRange
import Derived.Shelf.Strconv.AtoiAll
import Derived.Shelf.Strconv.ErrVarAll
import Derived.Shelf.Strings.Search1
import Derived.Shelf.Strings.Prefix
import Derived.Shelf.Strings.Runes
import Derived.Shelf.Strings.AsciiSet
import Derived.Shelf.Unicode.DecodeSlow
import Derived.Shelf.Slices.Turned
import Derived.Deep.QuietTactic
import Derived.BigQuiet
set_option linter.unusedVariables false
set_option linter.unusedSimpArgs false
set_option maxRecDepth 100000
set_option maxHeartbeats 32000000
namespace Go.Proofs.YtfhedienjnfdcaaGreatDoor
open Go.RowKit
theorem Ld {p:Prop} (h:p):RowKit.Hid p:=Lib.hid h
abbrev Z7:Obj:=.cells #[.int .i64 0,.string ⟨#[]⟩,.int .i64 0,.int .i64 0,.string ⟨#[]⟩,.slice none 0 0,.slice none 0 0] 28
theorem cR {P:Program} {f:Nat} {a:Array Value} {w:World} {v:Value} (h:Calls P f a w fun e w'=>e=.returned v∧w=w') {R:Ending→World→Prop} (k:R (.returned v) w):Calls P f a w R:=h.mono (by rintro e w' ⟨rfl,rfl⟩;exact k)
def kws:List (List UInt8):=[[116,114,117,101],[102,97,108,115,101],[110,111,116],[111,114],[102,111,114,97,108,108],[101,120,105,115,116,115],[105,110],[110,111,116,105,110],[115,117,98],[109,111,100],[102,117,110],[99,97,114,100],[109,105,110],[109,97,120],[100,111,109],[114,97,110],[80,79,87],[105,110,116],[98,111,111,108],[115,101,116],[112,97,105,114]]
def keywordB (s:ByteArray):Bool:=kws.contains s.toList
def letterB (c:Int):Bool:=(decide (97≤c)&&decide (c≤122))||(decide (65≤c)&&decide (c≤90))
def digitB (c:Int):Bool:=decide (48≤c)&&decide (c≤57)
def inWordB (c:Int):Bool:=letterB c||digitB c||c==95
theorem letter_any (c:Int) (w:World):
  Calls Tryz.prog 185 #[.int .u8 c] w fun e w'=>e=.returned (.bool (letterB c))∧w=w':=by
 cases h1:decide (97≤c) <;> cases h2:decide (c≤122) <;> cases h3:decide (65≤c) <;> cases h4:decide (c≤90)
 all_goals
  have hk:=Ld (show letterB c=_ by unfold letterB;rw[h1,h2,h3,h4])
  go_enter Tryz.func185,Tryz.ntmps185
  go_wp2_with fail
  go_ret
  exact⟨by rw[hk.out];rfl,rfl⟩
theorem digit_any (c:Int) (w:World):
  Calls Tryz.prog 189 #[.int .u8 c] w fun e w'=>e=.returned (.bool (digitB c))∧w=w':=by
 cases h1:decide (48≤c) <;> cases h2:decide (c≤57)
 all_goals
  have hk:=Ld (show digitB c=_ by unfold digitB;rw[h1,h2])
  go_enter Tryz.func189,Tryz.ntmps189
  go_wp2_with fail
  go_ret
  exact⟨by rw[hk.out];rfl,rfl⟩
theorem inWord_any (c:Int) (w:World):
  Calls Tryz.prog 186 #[.int .u8 c] w fun e w'=>e=.returned (.bool (inWordB c))∧w=w':=by
 cases h1:letterB c <;> cases h2:digitB c <;> cases h3:(c==95)
 all_goals
  have hk:=Ld (show inWordB c=_ by unfold inWordB;rw[h1,h2,h3])
  go_enter Tryz.func186,Tryz.ntmps186
  go_wp2_with (first | (go_at_call 185;refine (letter_any _ _).mono ?_;rintro e w' ⟨rfl,rfl⟩) | (go_at_call 189;refine (digit_any _ _).mono ?_;rintro e w' ⟨rfl,rfl⟩))
  go_ret
  exact⟨by rw[hk.out];rfl,rfl⟩
theorem keyword_any (s:ByteArray) (w:World):
  Calls Tryz.prog 101 #[.string s] w fun e w'=>e=.returned (.bool (keywordB s))∧w=w':=by
 cases h0:(s.toList==[116,114,117,101])
 case true=>
  have hk:=Ld (show keywordB s=true by simp only[keywordB,kws];rw[eq_of_beq h0];rfl)
  go_enter Tryz.func101,Tryz.ntmps101
  go_wp2_with fail
  go_ret
  exact⟨by rw[hk.out];rfl,rfl⟩
 cases h1:(s.toList==[102,97,108,115,101])
 case true=>
  have hk:=Ld (show keywordB s=true by simp only[keywordB,kws];rw[eq_of_beq h1];rfl)
  go_enter Tryz.func101,Tryz.ntmps101
  go_wp2_with fail
  go_ret
  exact⟨by rw[hk.out];rfl,rfl⟩
 cases h2:(s.toList==[110,111,116])
 case true=>
  have hk:=Ld (show keywordB s=true by simp only[keywordB,kws];rw[eq_of_beq h2];rfl)
  go_enter Tryz.func101,Tryz.ntmps101
  go_wp2_with fail
  go_ret
  exact⟨by rw[hk.out];rfl,rfl⟩
 cases h3:(s.toList==[111,114])
 case true=>
  have hk:=Ld (show keywordB s=true by simp only[keywordB,kws];rw[eq_of_beq h3];rfl)
  go_enter Tryz.func101,Tryz.ntmps101
  go_wp2_with fail
  go_ret
  exact⟨by rw[hk.out];rfl,rfl⟩
 cases h4:(s.toList==[102,111,114,97,108,108])
 case true=>
  have hk:=Ld (show keywordB s=true by simp only[keywordB,kws];rw[eq_of_beq h4];rfl)
  go_enter Tryz.func101,Tryz.ntmps101
  go_wp2_with fail
  go_ret
  exact⟨by rw[hk.out];rfl,rfl⟩
 cases h5:(s.toList==[101,120,105,115,116,115])
 case true=>
  have hk:=Ld (show keywordB s=true by simp only[keywordB,kws];rw[eq_of_beq h5];rfl)
  go_enter Tryz.func101,Tryz.ntmps101
  go_wp2_with fail
  go_ret
  exact⟨by rw[hk.out];rfl,rfl⟩
 cases h6:(s.toList==[105,110])
 case true=>
  have hk:=Ld (show keywordB s=true by simp only[keywordB,kws];rw[eq_of_beq h6];rfl)
  go_enter Tryz.func101,Tryz.ntmps101
  go_wp2_with fail
  go_ret
  exact⟨by rw[hk.out];rfl,rfl⟩
 cases h7:(s.toList==[110,111,116,105,110])
 case true=>
  have hk:=Ld (show keywordB s=true by simp only[keywordB,kws];rw[eq_of_beq h7];rfl)
  go_enter Tryz.func101,Tryz.ntmps101
  go_wp2_with fail
  go_ret
  exact⟨by rw[hk.out];rfl,rfl⟩
 cases h8:(s.toList==[115,117,98])
 case true=>
  have hk:=Ld (show keywordB s=true by simp only[keywordB,kws];rw[eq_of_beq h8];rfl)
  go_enter Tryz.func101,Tryz.ntmps101
  go_wp2_with fail
  go_ret
  exact⟨by rw[hk.out];rfl,rfl⟩
 cases h9:(s.toList==[109,111,100])
 case true=>
  have hk:=Ld (show keywordB s=true by simp only[keywordB,kws];rw[eq_of_beq h9];rfl)
  go_enter Tryz.func101,Tryz.ntmps101
  go_wp2_with fail
  go_ret
  exact⟨by rw[hk.out];rfl,rfl⟩
 cases h10:(s.toList==[102,117,110])
 case true=>
  have hk:=Ld (show keywordB s=true by simp only[keywordB,kws];rw[eq_of_beq h10];rfl)
  go_enter Tryz.func101,Tryz.ntmps101
  go_wp2_with fail
  go_ret
  exact⟨by rw[hk.out];rfl,rfl⟩
 cases h11:(s.toList==[99,97,114,100])
 case true=>
  have hk:=Ld (show keywordB s=true by simp only[keywordB,kws];rw[eq_of_beq h11];rfl)
  go_enter Tryz.func101,Tryz.ntmps101
  go_wp2_with fail
  go_ret
  exact⟨by rw[hk.out];rfl,rfl⟩
 cases h12:(s.toList==[109,105,110])
 case true=>
  have hk:=Ld (show keywordB s=true by simp only[keywordB,kws];rw[eq_of_beq h12];rfl)
  go_enter Tryz.func101,Tryz.ntmps101
  go_wp2_with fail
  go_ret
  exact⟨by rw[hk.out];rfl,rfl⟩
 cases h13:(s.toList==[109,97,120])
 case true=>
  have hk:=Ld (show keywordB s=true by simp only[keywordB,kws];rw[eq_of_beq h13];rfl)
  go_enter Tryz.func101,Tryz.ntmps101
  go_wp2_with fail
  go_ret
  exact⟨by rw[hk.out];rfl,rfl⟩
 cases h14:(s.toList==[100,111,109])
 case true=>
  have hk:=Ld (show keywordB s=true by simp only[keywordB,kws];rw[eq_of_beq h14];rfl)
  go_enter Tryz.func101,Tryz.ntmps101
  go_wp2_with fail
  go_ret
  exact⟨by rw[hk.out];rfl,rfl⟩
 cases h15:(s.toList==[114,97,110])
 case true=>
  have hk:=Ld (show keywordB s=true by simp only[keywordB,kws];rw[eq_of_beq h15];rfl)
  go_enter Tryz.func101,Tryz.ntmps101
  go_wp2_with fail
  go_ret
  exact⟨by rw[hk.out];rfl,rfl⟩
 cases h16:(s.toList==[80,79,87])
 case true=>
  have hk:=Ld (show keywordB s=true by simp only[keywordB,kws];rw[eq_of_beq h16];rfl)
  go_enter Tryz.func101,Tryz.ntmps101
  go_wp2_with fail
  go_ret
  exact⟨by rw[hk.out];rfl,rfl⟩
 cases h17:(s.toList==[105,110,116])
 case true=>
  have hk:=Ld (show keywordB s=true by simp only[keywordB,kws];rw[eq_of_beq h17];rfl)
  go_enter Tryz.func101,Tryz.ntmps101
  go_wp2_with fail
  go_ret
  exact⟨by rw[hk.out];rfl,rfl⟩
 cases h18:(s.toList==[98,111,111,108])
 case true=>
  have hk:=Ld (show keywordB s=true by simp only[keywordB,kws];rw[eq_of_beq h18];rfl)
  go_enter Tryz.func101,Tryz.ntmps101
  go_wp2_with fail
  go_ret
  exact⟨by rw[hk.out];rfl,rfl⟩
 cases h19:(s.toList==[115,101,116])
 case true=>
  have hk:=Ld (show keywordB s=true by simp only[keywordB,kws];rw[eq_of_beq h19];rfl)
  go_enter Tryz.func101,Tryz.ntmps101
  go_wp2_with fail
  go_ret
  exact⟨by rw[hk.out];rfl,rfl⟩
 cases h20:(s.toList==[112,97,105,114])
 case true=>
  have hk:=Ld (show keywordB s=true by simp only[keywordB,kws];rw[eq_of_beq h20];rfl)
  go_enter Tryz.func101,Tryz.ntmps101
  go_wp2_with fail
  go_ret
  exact⟨by rw[hk.out];rfl,rfl⟩
 have hk:=Ld (show keywordB s=false by simp only[keywordB,kws,List.contains_cons,List.contains_nil,Bool.or_false,h0,h1,h2,h3,h4,h5,h6,h7,h8,h9,h10,h11,h12,h13,h14,h15,h16,h17,h18,h19,h20])
 go_enter Tryz.func101,Tryz.ntmps101
 go_wp2_with fail
 go_ret
 exact⟨by rw[hk.out];rfl,rfl⟩
structure Kept (S:Nat→Prop) (w w':World):Prop where
 os:w'.os=w.os
 tape:w'.tape=w.tape
 output:w'.output=w.output
 size:w.heap.size≤w'.heap.size
 block:∀ k,k<w.heap.size→¬ S k→w'.heap[k]?=w.heap[k]?
theorem Kept.refl (S:Nat→Prop) (w:World):Kept S w w:=⟨rfl,rfl,rfl,Nat.le_refl _,fun _ _ _=>rfl⟩
theorem Kept.trans {S:Nat→Prop} {a b c:World} (h:Kept S a b) (k:Kept S b c):Kept S a c:=
 ⟨k.os.trans h.os,k.tape.trans h.tape,k.output.trans h.output,Nat.le_trans h.size k.size,fun i hi hs=>(k.block i (Nat.lt_of_lt_of_le hi h.size) hs).trans (h.block i hi hs)⟩
theorem Kept.mono {S T:Nat→Prop} {w w':World} (h:Kept S w w') (hST:∀ k,k<w.heap.size→S k→T k):Kept T w w':=
 ⟨h.os,h.tape,h.output,h.size,fun k hk hs=>h.block k hk fun hS=>hs (hST k hk hS)⟩
theorem Kept.of_below {S:Nat→Prop} {w w':World} (h:Below w.heap.size w w'):Kept S w w':=
 ⟨h.os,h.tape,h.output,h.size,fun k hk _=>h.block k hk⟩
theorem Kept.below {w w':World} (h:Kept (fun _=>False) w w'):Below w.heap.size w w':=
 ⟨h.os,h.tape,h.output,h.size,fun k hk=>h.block k hk (fun h=>h)⟩
theorem Kept.drew {S:Nat→Prop} {a w:World} (h:Kept S a w):Kept S a w.drew:=⟨h.os,h.tape,h.output,h.size,h.block⟩
theorem Kept.drewN {S:Nat→Prop} {a w:World} (h:Kept S a w) (n:Nat):Kept S a (w.drewN n):=⟨h.os,h.tape,h.output,h.size,h.block⟩
theorem Kept.alloc {S:Nat→Prop} {a w:World} (h:Kept S a w) (o:Obj):Kept S a (w.alloc o):=
 h.trans ⟨rfl,rfl,rfl,by simp,fun k hk _=>Below.heap_alloc _ _ _ hk⟩
theorem Kept.setCell {S:Nat→Prop} {a w:World} (h:Kept S a w) {p:Addr} (hp:S p.block∨a.heap.size≤p.block) (u:Value):Kept S a (w.setCell p u):=by
 refine⟨h.os,h.tape,h.output,by simpa [World.setCell] using h.size,fun k hk hs=>?_⟩
 rw[Below.heap_setCell _ _ _ _ (by rintro rfl;rcases hp with hp | hp;exact hs hp;omega)]
 exact h.block k hk hs
theorem Kept.cell {S:Nat→Prop} {w w':World} (h:Kept S w w') {p:Addr} (hp:p.block<w.heap.size) (hs:¬ S p.block):w'.cell? p=w.cell? p:=World.cell?_of_block (w:=w) (h.block p.block hp hs)
def Blk (w:World) (b:Nat) (t:TypeId) (l:List Value):Prop:=w.heap[b]?=some (.cells l.toArray t (0,0))
theorem Blk.lt {w:World} {b:Nat} {t:TypeId} {l:List Value} (h:Blk w b t l):b<w.heap.size:=by
 have:w.heap[b]?≠none:=by rw[show w.heap[b]?=_ from h];simp
 exact Array.getElem?_eq_some_iff.1 (show w.heap[b]?=_ from h) |>.1
theorem Blk.cell {w:World} {b:Nat} {t:TypeId} {l:List Value} (h:Blk w b t l) (i:Nat):w.cell? ⟨b,i,none⟩=l[i]?:=by
 unfold World.cell?;rw[show w.heap[b]?=_ from h];simp
theorem Blk.frozen {w:World} {b:Nat} {t:TypeId} {l:List Value} (h:Blk w b t l) (i:Nat):w.frozen? ⟨b,i,none⟩=false:=by
 unfold World.frozen?;rw[show w.heap[b]?=_ from h];simp
theorem Blk.set {w:World} {b:Nat} {t:TypeId} {l:List Value} (h:Blk w b t l) (i:Nat) (v:Value):Blk (w.setCell ⟨b,i,none⟩ v) b t (l.set i v):=by
 unfold Blk World.setCell
 rw[Array.getElem?_modify,if_pos rfl,show w.heap[b]?=_ from h]
 simp
theorem Blk.set_other {w:World} {b:Nat} {t:TypeId} {l:List Value} (h:Blk w b t l) (p:Addr) (v:Value) (hp:b≠p.block):Blk (w.setCell p v) b t l:=by
 unfold Blk;rw[Below.heap_setCell _ _ _ _ hp];exact h
theorem Blk.alloc {w:World} {b:Nat} {t:TypeId} {l:List Value} (h:Blk w b t l) (o:Obj):Blk (w.alloc o) b t l:=by
 unfold Blk;rw[Below.heap_alloc _ _ _ h.lt];exact h
theorem Blk.new (w:World) (t:TypeId) (l:List Value):Blk (w.alloc (.cells l.toArray t)) w.heap.size t l:=by
 unfold Blk;show (w.heap.push _)[w.heap.size]?=_;simp
theorem Blk.drew {w:World} {b:Nat} {t:TypeId} {l:List Value} (h:Blk w b t l):Blk w.drew b t l:=h
theorem Blk.drewN {w:World} {b:Nat} {t:TypeId} {l:List Value} (h:Blk w b t l) (n:Nat):Blk (w.drewN n) b t l:=h
theorem Blk.kept {S:Nat→Prop} {w w':World} {b:Nat} {t:TypeId} {l:List Value} (h:Blk w b t l) (hk:Kept S w w') (hs:¬ S b):Blk w' b t l:=by
 unfold Blk;rw[hk.block b h.lt hs];exact h
theorem kR {S:Nat→Prop} {w:World}:Kept S w w:=Kept.refl S w
def scanF (P:Int→Bool) (s:ByteArray):Nat→Nat→Nat
 | 0,p=>p
 | f+1,p=>if h:p<s.size then (if P s[p].toNat then scanF P s f (p+1) else p) else p
def scan (P:Int→Bool) (s:ByteArray) (p:Nat):Nat:=scanF P s (s.size-p) p
theorem scan_yes (P:Int→Bool) (s:ByteArray) (p:Nat) (h:p<s.size) (hp:P s[p].toNat=true):scan P s p=scan P s (p+1):=by
 unfold scan
 rw[show s.size-p=(s.size-(p+1))+1 by omega]
 rw[scanF,dif_pos h,if_pos hp]
theorem scan_no (P:Int→Bool) (s:ByteArray) (p:Nat) (h:p<s.size) (hp:P s[p].toNat=false):scan P s p=p:=by
 unfold scan
 rw[show s.size-p=(s.size-(p+1))+1 by omega]
 rw[scanF,dif_pos h,if_neg (by simp[hp])]
theorem scan_end (P:Int→Bool) (s:ByteArray) (p:Nat) (h:s.size≤p):scan P s p=p:=by
 unfold scan
 rw[show s.size-p=0 by omega];rfl
theorem scan_spec (P:Int→Bool) (s:ByteArray) (p:Nat) (h:p≤s.size):p≤scan P s p∧scan P s p≤s.size ∧
  (∀ hq:scan P s p<s.size,P s[scan P s p].toNat=false)∧∀ q (_:p≤q) (_:q<scan P s p) (hs:q<s.size),P s[q].toNat=true:=by
 generalize hn:s.size-p=n
 induction n generalizing p with
 | zero=>
  rw[scan_end P s p (by omega)]
  exact⟨Nat.le_refl _,h,fun hq=>absurd hq (by omega),fun q _ hq _=>by omega⟩
 | succ n ih=>
  have hlt:p<s.size:=by omega
  cases hp:P s[p].toNat
  ·rw[scan_no P s p hlt hp]
   refine⟨Nat.le_refl _,h,?_,fun q _ hq _=>by omega⟩
   intro hq
   have:∀ (r:Nat) (e:r=p) (hr:r<s.size),P s[r].toNat=false:=by intro r e hr;subst e;exact hp
   exact this _ rfl hq
  ·have e:=scan_yes P s p hlt hp
   obtain⟨a,b,c,d⟩:=ih (p+1) (by omega) (by omega)
   have key:∀ r,r=scan P s (p+1)→p≤r∧r≤s.size∧(∀ hq:r<s.size,P s[r].toNat=false)∧∀ q (_:p≤q) (_:q<r) (hs:q<s.size),P s[q].toNat=true:=by
    intro r hr
    subst hr
    refine⟨by omega,b,c,fun q hq hq' hs=>?_⟩
    by_cases hqp:q=p
    ·subst hqp;exact hp
    ·exact d q (by omega) hq' hs
   exact key _ e
def blankB (c:Int):Bool:=c==32||c==9||c==10
def skip (s:ByteArray) (p:Nat):Nat:=scan blankB s p
def wend (s:ByteArray) (p:Nat):Nat:=scan inWordB s p
def pcells (s:ByteArray) (at_:Nat) (k:Int) (tx:ByteArray) (n:Int) (ta nest:Nat):List Value:=
 [.string s,.int .i64 at_,.int .i64 k,.string tx,.int .i64 n,.int .i64 ta,.int .i64 nest]
end Go.Proofs.YtfhedienjnfdcaaGreatDoor
namespace Go.Proofs
open Go.Shelf
def Tryz.laysM171_ren:Go.Shelf.Ren:=⟨fun | 171=>100 | 243=>166 | 246=>208 | 283=>228 | 284=>229 | 285=>230 | 286=>231 | 129=>246 | 317=>245 | 318=>247 | 319=>248 | 320=>249 | 337=>256 | 338=>257 | n=>n,fun | 3=>3 | 9=>9 | 2=>2 | 4=>4 | 171=>211 | 0=>0 | 53=>212 | 37=>107 | 5=>5 | 173=>215 | 212=>227 | 51=>228 | 20=>20 | 213=>229 | 46=>129 | 232=>248 | 233=>249 | n=>n,fun | 17=>1 | 18=>6 | 19=>7 | n=>n⟩
theorem Tryz.laysM171:Go.Proofs.LaysM.n171 Tryz.prog Tryz.laysM171_ren:={
 mixed:=by kernel_rfl
 f129:=Tryz.func246.trans (congrArg some (by kernel_rfl))
 f171:=Tryz.func100.trans (congrArg some (by kernel_rfl))
 f243:=Tryz.func166.trans (congrArg some (by kernel_rfl))
 f246:=Tryz.func208.trans (congrArg some (by kernel_rfl))
 f283:=Tryz.func228.trans (congrArg some (by kernel_rfl))
 f284:=Tryz.func229.trans (congrArg some (by kernel_rfl))
 f285:=Tryz.func230.trans (congrArg some (by kernel_rfl))
 f286:=Tryz.func231.trans (congrArg some (by kernel_rfl))
 f317:=Tryz.func245.trans (congrArg some (by kernel_rfl))
 f318:=Tryz.func247.trans (congrArg some (by kernel_rfl))
 f319:=Tryz.func248.trans (congrArg some (by kernel_rfl))
 f320:=Tryz.func249.trans (congrArg some (by kernel_rfl))
 f337:=Tryz.func256.trans (congrArg some (by kernel_rfl))
 f338:=Tryz.func257.trans (congrArg some (by kernel_rfl))
 t0:=Tryz.underlying0
 a0:=Tryz.isAgg0
 z0:=Tryz.sizeOf0
 v0:=Tryz.zeroValue0
 t2:=Tryz.underlying2
 a2:=Tryz.isAgg2
 z2:=Tryz.sizeOf2
 v2:=Tryz.zeroValue2
 t3:=Tryz.underlying3
 a3:=Tryz.isAgg3
 z3:=Tryz.sizeOf3
 v3:=Tryz.zeroValue3
 t4:=Tryz.underlying4
 a4:=Tryz.isAgg4
 z4:=Tryz.sizeOf4
 v4:=Tryz.zeroValue4
 t5:=Tryz.underlying5
 a5:=Tryz.isAgg5
 z5:=Tryz.sizeOf5
 v5:=Tryz.zeroValue5
 t9:=Tryz.underlying9
 a9:=Tryz.isAgg9
 z9:=Tryz.sizeOf9
 v9:=Tryz.zeroValue9
 t20:=Tryz.underlying20
 a20:=Tryz.isAgg20
 z20:=Tryz.sizeOf20
 v20:=Tryz.zeroValue20
 t37:=Tryz.underlying107
 a37:=Tryz.isAgg107
 z37:=Tryz.sizeOf107
 v37:=Tryz.zeroValue107
 t46:=Tryz.underlying129
 a46:=Tryz.isAgg129
 z46:=Tryz.sizeOf129
 v46:=Tryz.zeroValue129
 t51:=Tryz.underlying228
 a51:=Tryz.isAgg228
 z51:=Tryz.sizeOf228
 v51:=Tryz.zeroValue228
 t53:=Tryz.underlying212
 a53:=Tryz.isAgg212
 z53:=Tryz.sizeOf212
 v53:=Tryz.zeroValue212
 t171:=Tryz.underlying211
 a171:=Tryz.isAgg211
 z171:=Tryz.sizeOf211
 v171:=Tryz.zeroValue211
 t173:=Tryz.underlying215
 a173:=Tryz.isAgg215
 z173:=Tryz.sizeOf215
 v173:=Tryz.zeroValue215
 t212:=Tryz.underlying227
 a212:=Tryz.isAgg227
 z212:=Tryz.sizeOf227
 v212:=Tryz.zeroValue227
 t213:=Tryz.underlying229
 a213:=Tryz.isAgg229
 z213:=Tryz.sizeOf229
 t232:=Tryz.underlying248
 a232:=Tryz.isAgg248
 z232:=Tryz.sizeOf248
 v232:=Tryz.zeroValue248
 t233:=Tryz.underlying249
 a233:=Tryz.isAgg249
 z233:=Tryz.sizeOf249
 v233:=Tryz.zeroValue249
 g17:=by kernel_rfl
 g18:=by kernel_rfl
 g19:=by kernel_rfl
 i0:=by kernel_rfl
 i2:=by kernel_rfl
 i3:=by kernel_rfl
 i4:=by kernel_rfl
 i5:=by kernel_rfl
 i9:=by kernel_rfl
 i20:=by kernel_rfl
 i37:=by kernel_rfl
 i46:=by kernel_rfl
 i51:=by kernel_rfl
 i53:=by kernel_rfl
 i171:=by kernel_rfl
 i173:=by kernel_rfl
 i212:=by kernel_rfl
 i232:=by kernel_rfl
 i233:=by kernel_rfl
 m17:=by kernel_rfl
 m18:=by kernel_rfl
 m19:=by kernel_rfl }
open Go.RowKit Go.Sort Go.Lib in
theorem Tryz.strconv_Itoa (n : Int) (h0 : -9223372036854775808 ≤ n) (h1 : n ≤ 9223372036854775807) (w : World) (htab : Lib.TabIs Tryz.prog w "internal/strconv.uint64pow10" .u64 Lib.pow10Tab) :
  Calls Tryz.prog 100 #[.int .i64 n] w fun e w'=>e=.returned (.string ⟨(Lib.itoa n).toArray⟩)∧∃ k os,w'=grow (w.drewN k) os:=Any.strconv_Itoa Tryz.laysM171 n h0 h1 w htab
def Tryz.lays171_ren:Go.Shelf.Ren:=⟨fun | 171=>100 | 243=>166 | 246=>208 | 283=>228 | 284=>229 | 285=>230 | 286=>231 | 129=>246 | 317=>245 | 318=>247 | 319=>248 | 320=>249 | 337=>256 | 338=>257 | n=>n,fun | 3=>3 | 9=>9 | 2=>2 | 4=>4 | 171=>211 | 0=>0 | 53=>212 | 37=>107 | 5=>5 | 173=>215 | 212=>227 | 51=>228 | 20=>20 | 213=>229 | 46=>129 | 232=>248 | 233=>249 | n=>n,fun | 17=>1 | 18=>6 | 19=>7 | n=>n⟩
theorem Tryz.lays171:Go.Proofs.Lays.n171 Tryz.prog Tryz.lays171_ren:={
 mixed:=by kernel_rfl
 f129:=Tryz.func246.trans (congrArg some (by kernel_rfl))
 f171:=Tryz.func100.trans (congrArg some (by kernel_rfl))
 f243:=Tryz.func166.trans (congrArg some (by kernel_rfl))
 f246:=Tryz.func208.trans (congrArg some (by kernel_rfl))
 f283:=Tryz.func228.trans (congrArg some (by kernel_rfl))
 f284:=Tryz.func229.trans (congrArg some (by kernel_rfl))
 f285:=Tryz.func230.trans (congrArg some (by kernel_rfl))
 f286:=Tryz.func231.trans (congrArg some (by kernel_rfl))
 f317:=Tryz.func245.trans (congrArg some (by kernel_rfl))
 f318:=Tryz.func247.trans (congrArg some (by kernel_rfl))
 f319:=Tryz.func248.trans (congrArg some (by kernel_rfl))
 f320:=Tryz.func249.trans (congrArg some (by kernel_rfl))
 f337:=Tryz.func256.trans (congrArg some (by kernel_rfl))
 f338:=Tryz.func257.trans (congrArg some (by kernel_rfl))
 t0:=Tryz.underlying0
 a0:=Tryz.isAgg0
 z0:=Tryz.sizeOf0
 v0:=Tryz.zeroValue0
 t2:=Tryz.underlying2
 a2:=Tryz.isAgg2
 z2:=Tryz.sizeOf2
 v2:=Tryz.zeroValue2
 t3:=Tryz.underlying3
 a3:=Tryz.isAgg3
 z3:=Tryz.sizeOf3
 v3:=Tryz.zeroValue3
 t4:=Tryz.underlying4
 a4:=Tryz.isAgg4
 z4:=Tryz.sizeOf4
 v4:=Tryz.zeroValue4
 t5:=Tryz.underlying5
 a5:=Tryz.isAgg5
 z5:=Tryz.sizeOf5
 v5:=Tryz.zeroValue5
 t9:=Tryz.underlying9
 a9:=Tryz.isAgg9
 z9:=Tryz.sizeOf9
 v9:=Tryz.zeroValue9
 t20:=Tryz.underlying20
 a20:=Tryz.isAgg20
 z20:=Tryz.sizeOf20
 v20:=Tryz.zeroValue20
 t37:=Tryz.underlying107
 a37:=Tryz.isAgg107
 z37:=Tryz.sizeOf107
 v37:=Tryz.zeroValue107
 t46:=Tryz.underlying129
 a46:=Tryz.isAgg129
 z46:=Tryz.sizeOf129
 v46:=Tryz.zeroValue129
 t51:=Tryz.underlying228
 a51:=Tryz.isAgg228
 z51:=Tryz.sizeOf228
 v51:=Tryz.zeroValue228
 t53:=Tryz.underlying212
 a53:=Tryz.isAgg212
 z53:=Tryz.sizeOf212
 v53:=Tryz.zeroValue212
 t171:=Tryz.underlying211
 a171:=Tryz.isAgg211
 z171:=Tryz.sizeOf211
 v171:=Tryz.zeroValue211
 t173:=Tryz.underlying215
 a173:=Tryz.isAgg215
 z173:=Tryz.sizeOf215
 v173:=Tryz.zeroValue215
 t212:=Tryz.underlying227
 a212:=Tryz.isAgg227
 z212:=Tryz.sizeOf227
 v212:=Tryz.zeroValue227
 t213:=Tryz.underlying229
 a213:=Tryz.isAgg229
 z213:=Tryz.sizeOf229
 t232:=Tryz.underlying248
 a232:=Tryz.isAgg248
 z232:=Tryz.sizeOf248
 v232:=Tryz.zeroValue248
 t233:=Tryz.underlying249
 a233:=Tryz.isAgg249
 z233:=Tryz.sizeOf249
 v233:=Tryz.zeroValue249
 g17:=by kernel_rfl
 g18:=by kernel_rfl
 g19:=by kernel_rfl }
open Go.RowKit Go.Sort Go.Lib in
theorem Tryz.strconv_Itoa_small (i:Nat) (hi:i<100) (w:World):
  Calls Tryz.prog 100 #[.int .i64 i] w fun e w'=>e=.returned (.string ⟨(Lib.decDigits i).toArray⟩)∧w'=w:=Any.strconv_Itoa_small Tryz.lays171 i hi w
def Tryz.laysC172_ren:Go.Shelf.Ren:=⟨fun | 172=>190 | 244=>215 | 245=>216 | 247=>233 | 279=>234 | 280=>235 | 281=>236 | 282=>237 | 287=>252 | 316=>253 | 171=>100 | 205=>254 | 321=>259 | 322=>260 | 243=>166 | 246=>208 | 283=>228 | 284=>229 | 285=>230 | 286=>231 | 129=>246 | 317=>245 | 318=>247 | 319=>248 | 320=>249 | 337=>256 | 338=>257 | n=>n,fun | 9=>9 | 3=>3 | 75=>158 | 76=>159 | 4=>4 | 5=>5 | 167=>218 | 37=>107 | 0=>0 | 85=>219 | 2=>2 | 168=>221 | 53=>212 | 175=>232 | 46=>129 | 210=>236 | 127=>163 | 145=>247 | 143=>245 | 21=>21 | 171=>211 | 173=>215 | 212=>227 | 51=>228 | 20=>20 | 213=>229 | 232=>248 | 233=>249 | 80=>113 | n=>n,fun | 15=>2 | 16=>3 | 17=>1 | 18=>6 | 19=>7 | n=>n⟩
theorem Tryz.laysC172:Go.Proofs.LaysC.n172 Tryz.prog Tryz.laysC172_ren:={
 mixed:=by kernel_rfl
 f129:=Tryz.func246.trans (congrArg some (by kernel_rfl))
 f171:=Tryz.func100.trans (congrArg some (by kernel_rfl))
 f172:=Tryz.func190.trans (congrArg some (by kernel_rfl))
 f205:=Tryz.func254.trans (congrArg some (by kernel_rfl))
 f243:=Tryz.func166.trans (congrArg some (by kernel_rfl))
 f244:=Tryz.func215.trans (congrArg some (by kernel_rfl))
 f245:=Tryz.func216.trans (congrArg some (by kernel_rfl))
 f246:=Tryz.func208.trans (congrArg some (by kernel_rfl))
 f247:=Tryz.func233.trans (congrArg some (by kernel_rfl))
 f279:=Tryz.func234.trans (congrArg some (by kernel_rfl))
 f280:=Tryz.func235.trans (congrArg some (by kernel_rfl))
 f281:=Tryz.func236.trans (congrArg some (by kernel_rfl))
 f282:=Tryz.func237.trans (congrArg some (by kernel_rfl))
 f283:=Tryz.func228.trans (congrArg some (by kernel_rfl))
 f284:=Tryz.func229.trans (congrArg some (by kernel_rfl))
 f285:=Tryz.func230.trans (congrArg some (by kernel_rfl))
 f286:=Tryz.func231.trans (congrArg some (by kernel_rfl))
 f287:=Tryz.func252.trans (congrArg some (by kernel_rfl))
 f316:=Tryz.func253.trans (congrArg some (by kernel_rfl))
 f317:=Tryz.func245.trans (congrArg some (by kernel_rfl))
 f318:=Tryz.func247.trans (congrArg some (by kernel_rfl))
 f319:=Tryz.func248.trans (congrArg some (by kernel_rfl))
 f320:=Tryz.func249.trans (congrArg some (by kernel_rfl))
 f321:=Tryz.func259.trans (congrArg some (by kernel_rfl))
 f322:=Tryz.func260.trans (congrArg some (by kernel_rfl))
 f337:=Tryz.func256.trans (congrArg some (by kernel_rfl))
 f338:=Tryz.func257.trans (congrArg some (by kernel_rfl))
 t0:=Tryz.underlying0
 a0:=Tryz.isAgg0
 z0:=Tryz.sizeOf0
 v0:=Tryz.zeroValue0
 t2:=Tryz.underlying2
 a2:=Tryz.isAgg2
 z2:=Tryz.sizeOf2
 v2:=Tryz.zeroValue2
 t3:=Tryz.underlying3
 a3:=Tryz.isAgg3
 z3:=Tryz.sizeOf3
 v3:=Tryz.zeroValue3
 t4:=Tryz.underlying4
 a4:=Tryz.isAgg4
 z4:=Tryz.sizeOf4
 v4:=Tryz.zeroValue4
 t5:=Tryz.underlying5
 a5:=Tryz.isAgg5
 z5:=Tryz.sizeOf5
 v5:=Tryz.zeroValue5
 t9:=Tryz.underlying9
 a9:=Tryz.isAgg9
 z9:=Tryz.sizeOf9
 v9:=Tryz.zeroValue9
 t20:=Tryz.underlying20
 a20:=Tryz.isAgg20
 z20:=Tryz.sizeOf20
 v20:=Tryz.zeroValue20
 t21:=Tryz.underlying21
 a21:=Tryz.isAgg21
 z21:=Tryz.sizeOf21
 v21:=Tryz.zeroValue21
 t37:=Tryz.underlying107
 a37:=Tryz.isAgg107
 z37:=Tryz.sizeOf107
 v37:=Tryz.zeroValue107
 t46:=Tryz.underlying129
 a46:=Tryz.isAgg129
 z46:=Tryz.sizeOf129
 v46:=Tryz.zeroValue129
 t51:=Tryz.underlying228
 a51:=Tryz.isAgg228
 z51:=Tryz.sizeOf228
 v51:=Tryz.zeroValue228
 t53:=Tryz.underlying212
 a53:=Tryz.isAgg212
 z53:=Tryz.sizeOf212
 v53:=Tryz.zeroValue212
 t75:=Tryz.underlying158
 a75:=Tryz.isAgg158
 z75:=Tryz.sizeOf158
 v75:=Tryz.zeroValue158
 t76:=Tryz.underlying159
 a76:=Tryz.isAgg159
 z76:=Tryz.sizeOf159
 v76:=Tryz.zeroValue159
 t85:=Tryz.underlying219
 a85:=Tryz.isAgg219
 z85:=Tryz.sizeOf219
 v85:=Tryz.zeroValue219
 t127:=Tryz.underlying163
 a127:=Tryz.isAgg163
 z127:=Tryz.sizeOf163
 v127:=Tryz.zeroValue163
 t143:=Tryz.underlying245
 a143:=Tryz.isAgg245
 z143:=Tryz.sizeOf245
 v143:=Tryz.zeroValue245
 t145:=Tryz.underlying247
 a145:=Tryz.isAgg247
 z145:=Tryz.sizeOf247
 v145:=Tryz.zeroValue247
 t167:=Tryz.underlying218
 a167:=Tryz.isAgg218
 z167:=Tryz.sizeOf218
 v167:=Tryz.zeroValue218
 t168:=Tryz.underlying221
 a168:=Tryz.isAgg221
 z168:=Tryz.sizeOf221
 v168:=Tryz.zeroValue221
 t171:=Tryz.underlying211
 a171:=Tryz.isAgg211
 z171:=Tryz.sizeOf211
 v171:=Tryz.zeroValue211
 t173:=Tryz.underlying215
 a173:=Tryz.isAgg215
 z173:=Tryz.sizeOf215
 v173:=Tryz.zeroValue215
 t175:=Tryz.underlying232
 a175:=Tryz.isAgg232
 z175:=Tryz.sizeOf232
 v175:=Tryz.zeroValue232
 t210:=Tryz.underlying236
 a210:=Tryz.isAgg236
 z210:=Tryz.sizeOf236
 v210:=Tryz.zeroValue236
 t212:=Tryz.underlying227
 a212:=Tryz.isAgg227
 z212:=Tryz.sizeOf227
 v212:=Tryz.zeroValue227
 t213:=Tryz.underlying229
 a213:=Tryz.isAgg229
 z213:=Tryz.sizeOf229
 t232:=Tryz.underlying248
 a232:=Tryz.isAgg248
 z232:=Tryz.sizeOf248
 v232:=Tryz.zeroValue248
 t233:=Tryz.underlying249
 a233:=Tryz.isAgg249
 z233:=Tryz.sizeOf249
 v233:=Tryz.zeroValue249
 g15:=by kernel_rfl
 g16:=by kernel_rfl
 g17:=by kernel_rfl
 g18:=by kernel_rfl
 g19:=by kernel_rfl
 t80:=Tryz.underlying113
 a80:=Tryz.isAgg113
 z80:=Tryz.sizeOf113
 v80:=Tryz.zeroValue113
 i0:=by kernel_rfl
 i2:=by kernel_rfl
 i3:=by kernel_rfl
 i4:=by kernel_rfl
 i5:=by kernel_rfl
 i9:=by kernel_rfl
 i20:=by kernel_rfl
 i21:=by kernel_rfl
 i37:=by kernel_rfl
 i46:=by kernel_rfl
 i51:=by kernel_rfl
 i53:=by kernel_rfl
 i75:=by kernel_rfl
 i76:=by kernel_rfl
 i80:=by kernel_rfl
 i85:=by kernel_rfl
 i127:=by kernel_rfl
 i143:=by kernel_rfl
 i145:=by kernel_rfl
 i167:=by kernel_rfl
 i168:=by kernel_rfl
 i171:=by kernel_rfl
 i173:=by kernel_rfl
 i175:=by kernel_rfl
 i210:=by kernel_rfl
 i212:=by kernel_rfl
 i232:=by kernel_rfl
 i233:=by kernel_rfl
 m15:=by kernel_rfl
 m16:=by kernel_rfl
 m17:=by kernel_rfl
 m18:=by kernel_rfl
 m19:=by kernel_rfl
 c0:=by kernel_rfl
 c2:=by kernel_rfl
 c3:=by kernel_rfl
 c4:=by kernel_rfl
 c5:=by kernel_rfl
 c9:=by kernel_rfl
 c20:=by kernel_rfl
 c21:=by kernel_rfl
 c37:=by kernel_rfl
 c46:=by kernel_rfl
 c51:=by kernel_rfl
 c53:=by kernel_rfl
 c75:=by kernel_rfl
 c76:=by kernel_rfl
 c80:=by kernel_rfl
 c85:=by kernel_rfl
 c127:=by kernel_rfl
 c143:=by kernel_rfl
 c145:=by kernel_rfl
 c167:=by kernel_rfl
 c168:=by kernel_rfl
 c171:=by kernel_rfl
 c173:=by kernel_rfl
 c175:=by kernel_rfl
 c210:=by kernel_rfl
 c212:=by kernel_rfl
 c213:=by kernel_rfl
 c232:=by kernel_rfl
 c233:=by kernel_rfl }
open Go.RowKit in
theorem Tryz.strconv_Atoi_ok (s:ByteArray) (hmax:s.size≤9223372036854775806) (v:Int) (h:Lib.atoiAll s.data.toList=.ok v) (w:World):
  Calls Tryz.prog 190 #[.string s] w fun e w'=>e=.returned (.tuple #[.int .i64 v,.nilIface])∧(w'=w∨∃ t,w'=Lib.bytesWorld w 5 t):=Any.strconv_Atoi_ok Tryz.laysC172 s hmax v h w
open Go.RowKit in
theorem Tryz.strconv_Atoi_syntax (s:ByteArray) (hlim:s.size≤281474976710656) (h:Lib.atoiAll s.data.toList=Lib.atoiAll []) (ev:Value) (w:World) (hv:w.cell? ⟨2,0,none⟩=some ev) (hev:ev=.nilIface∨∃ te pe,ev=.iface te pe):
  Calls Tryz.prog 190 #[.string s] w fun e w'=>∃ N,e=.returned (.tuple #[.int .i64 (0),.iface 221 (.pointer (some ⟨N,0,none⟩))])∧w.heap.size≤N∧w'.heap[N]?=some (.cells #[.string ⟨#[65,116,111,105]⟩,.string s,ev] 236 (0,0))∧Below w.heap.size w w':=Any.strconv_Atoi_syntax Tryz.laysC172 s hlim h ev w hv hev
open Go.RowKit in
theorem Tryz.strconv_Atoi_range (s:ByteArray) (hlim:s.size≤281474976710656) (h:Lib.atoiAll s.data.toList=.range) (ev:Value) (w:World) (hv:w.cell? ⟨3,0,none⟩=some ev) (hev:ev=.nilIface∨∃ te pe,ev=.iface te pe):
  Calls Tryz.prog 190 #[.string s] w fun e w'=>∃ N,e=.returned (.tuple #[.int .i64 (Lib.atoiSat s.data.toList),.iface 221 (.pointer (some ⟨N,0,none⟩))])∧w.heap.size≤N∧w'.heap[N]?=some (.cells #[.string ⟨#[65,116,111,105]⟩,.string s,ev] 236 (0,0))∧Below w.heap.size w w':=Any.strconv_Atoi_range Tryz.laysC172 s hlim h ev w hv hev
def Tryz.lays99_ren:Go.Shelf.Ren:=⟨fun | 99=>194 | 206=>217 | n=>n,fun | 9=>9 | 4=>4 | 3=>3 | n=>n,fun | n=>n⟩
theorem Tryz.lays99:Go.Proofs.Lays.n99 Tryz.prog Tryz.lays99_ren:={
 mixed:=by kernel_rfl
 f99:=Tryz.func194.trans (congrArg some (by kernel_rfl))
 f206:=Tryz.func217.trans (congrArg some (by kernel_rfl))
 t3:=Tryz.underlying3
 a3:=Tryz.isAgg3
 z3:=Tryz.sizeOf3
 v3:=Tryz.zeroValue3
 t4:=Tryz.underlying4
 a4:=Tryz.isAgg4
 z4:=Tryz.sizeOf4
 v4:=Tryz.zeroValue4
 t9:=Tryz.underlying9
 a9:=Tryz.isAgg9
 z9:=Tryz.sizeOf9
 v9:=Tryz.zeroValue9 }
open Go.RowKit Go.Lib in
theorem Tryz.strings_HasPrefix (s p:ByteArray) (w:World):
  Calls Tryz.prog 194 #[.string s,.string p] w fun e w'=>e=.returned (.bool (Lib.hasPrefix s.data.toList p.data.toList))∧w'=w:=Any.strings_HasPrefix Tryz.lays99 s p w
def Tryz.lays102_ren:Go.Shelf.Ren:=⟨fun | 102=>99 | 209=>165 | 207=>207 | n=>n,fun | 9=>9 | 4=>4 | 3=>3 | n=>n,fun | n=>n⟩
theorem Tryz.lays102:Go.Proofs.Lays.n102 Tryz.prog Tryz.lays102_ren:={
 mixed:=by kernel_rfl
 f102:=Tryz.func99.trans (congrArg some (by kernel_rfl))
 f207:=Tryz.func207.trans (congrArg some (by kernel_rfl))
 f209:=Tryz.func165.trans (congrArg some (by kernel_rfl))
 t3:=Tryz.underlying3
 a3:=Tryz.isAgg3
 z3:=Tryz.sizeOf3
 v3:=Tryz.zeroValue3
 t4:=Tryz.underlying4
 a4:=Tryz.isAgg4
 z4:=Tryz.sizeOf4
 v4:=Tryz.zeroValue4
 t9:=Tryz.underlying9
 a9:=Tryz.isAgg9
 z9:=Tryz.sizeOf9
 v9:=Tryz.zeroValue9 }
open Go.RowKit Go.Lib in
theorem Tryz.strings_TrimSuffix (s p:ByteArray) (w:World) (hs:s.size≤9223372036854775807):
  Calls Tryz.prog 99 #[.string s,.string p] w fun e w'=>e=.returned (.string ⟨(Lib.trimSuffix s.data.toList p.data.toList).toArray⟩)∧w'=w:=Any.strings_TrimSuffix Tryz.lays102 s p w hs
def Tryz.lays227_ren:Go.Shelf.Ren:=⟨fun | 227=>162 | n=>n,fun | 9=>9 | 116=>166 | 4=>4 | 0=>0 | 3=>3 | 5=>5 | n=>n,fun | n=>n⟩
theorem Tryz.lays227:Go.Proofs.Lays.n227 Tryz.prog Tryz.lays227_ren:={
 mixed:=by kernel_rfl
 f227:=Tryz.func162.trans (congrArg some (by kernel_rfl))
 t0:=Tryz.underlying0
 a0:=Tryz.isAgg0
 z0:=Tryz.sizeOf0
 v0:=Tryz.zeroValue0
 t3:=Tryz.underlying3
 a3:=Tryz.isAgg3
 z3:=Tryz.sizeOf3
 v3:=Tryz.zeroValue3
 t4:=Tryz.underlying4
 a4:=Tryz.isAgg4
 z4:=Tryz.sizeOf4
 v4:=Tryz.zeroValue4
 t5:=Tryz.underlying5
 a5:=Tryz.isAgg5
 z5:=Tryz.sizeOf5
 v5:=Tryz.zeroValue5
 t9:=Tryz.underlying9
 a9:=Tryz.isAgg9
 z9:=Tryz.sizeOf9
 v9:=Tryz.zeroValue9
 t116:=Tryz.underlying166
 a116:=Tryz.isAgg166
 z116:=Tryz.sizeOf166 }
open Go.RowKit Go.Lib in
theorem Tryz.strings_makeASCIISet (hv116:∀ w,(zeroValue 166).run Tryz.prog w=.ok (.agg (Array.replicate 256 (.bool false))) w) (chars:ByteArray) (w:World) (hs:chars.size<4294967281) (hascii:∀ (j:Nat) b,chars.data.toList[j]?=some b→b.toNat<128):
  Calls Tryz.prog 162 #[.string chars] w fun e w'=>e=.returned (.tuple #[.agg (Lib.setCells chars.data.toList),.bool true])∧w'=w.alloc (.cells (Lib.setCells chars.data.toList) 166):=Any.strings_makeASCIISet Tryz.lays227 hv116 (by kernel_rfl) chars w hs hascii
def Tryz.lays228_ren:Go.Shelf.Ren:=⟨fun | 228=>204 | n=>n,fun | 124=>170 | 5=>5 | 4=>4 | 0=>0 | 116=>166 | n=>n,fun | n=>n⟩
theorem Tryz.lays228:Go.Proofs.Lays.n228 Tryz.prog Tryz.lays228_ren:={
 mixed:=by kernel_rfl
 f228:=Tryz.func204.trans (congrArg some (by kernel_rfl))
 t0:=Tryz.underlying0
 a0:=Tryz.isAgg0
 z0:=Tryz.sizeOf0
 v0:=Tryz.zeroValue0
 t4:=Tryz.underlying4
 a4:=Tryz.isAgg4
 z4:=Tryz.sizeOf4
 v4:=Tryz.zeroValue4
 t5:=Tryz.underlying5
 a5:=Tryz.isAgg5
 z5:=Tryz.sizeOf5
 v5:=Tryz.zeroValue5
 t116:=Tryz.underlying166
 a116:=Tryz.isAgg166
 z116:=Tryz.sizeOf166
 t124:=Tryz.underlying170
 a124:=Tryz.isAgg170
 z124:=Tryz.sizeOf170
 v124:=Tryz.zeroValue170 }
open Go.RowKit Go.Lib in
theorem Tryz.asciiSet_contains (b:Nat) (x:UInt8) (v:Bool) (w:World) (hc:w.cell? ⟨b,x.toNat,none⟩=some (.bool v)):
  Calls Tryz.prog 204 #[.pointer (some ⟨b,0,none⟩),.int .u8 x.toNat] w fun e w'=>e=.returned (.bool v)∧w'=w:=Any.asciiSet_contains Tryz.lays228 b x v w hc
def Tryz.lays108_ren:Go.Shelf.Ren:=⟨fun | 108=>201 | n=>n,fun | 28=>36 | 3=>3 | 0=>0 | 4=>4 | n=>n,fun | n=>n⟩
theorem Tryz.lays108:Go.Proofs.Lays.n108 Tryz.prog Tryz.lays108_ren:={
 mixed:=by kernel_rfl
 f108:=Tryz.func201.trans (congrArg some (by kernel_rfl))
 t0:=Tryz.underlying0
 a0:=Tryz.isAgg0
 z0:=Tryz.sizeOf0
 v0:=Tryz.zeroValue0
 t3:=Tryz.underlying3
 a3:=Tryz.isAgg3
 z3:=Tryz.sizeOf3
 v3:=Tryz.zeroValue3
 t4:=Tryz.underlying4
 a4:=Tryz.isAgg4
 z4:=Tryz.sizeOf4
 v4:=Tryz.zeroValue4
 t28:=Tryz.underlying36
 a28:=Tryz.isAgg36
 z28:=Tryz.sizeOf36
 v28:=Tryz.zeroValue36 }
open Go.Lib in
theorem Tryz.slices_Index_int (b off n c:Nat) (zs:List Int) (x:Int) (w:World) (hz:n≤zs.length) (hbig:n≤9223372036854775807) (hc:∀ j,j<zs.length→w.cell? ⟨b,off+j,none⟩=some (.int .i64 (zs.getD j 0))):
  Calls Tryz.prog 201 #[.slice (some ⟨b,off,none⟩) n c,.int .i64 x] w fun e w'=>e=.returned (.int .i64 (Lib.idxOf (zs.take n) x))∧w'=w:=Any.slices_Index_int Tryz.lays108 b off n c zs x w hz hbig hc
open Go.Lib in
theorem Tryz.slices_Index_int_empty (a:Option Addr) (c:Nat) (x:Int) (w:World):
  Calls Tryz.prog 201 #[.slice a 0 c,.int .i64 x] w fun e w'=>e=.returned (.int .i64 (Lib.idxOf [] x))∧w'=w:=Any.slices_Index_int_empty Tryz.lays108 a c x w
def Tryz.lays110_ren:Go.Shelf.Ren:=⟨fun | 110=>97 | 109=>160 | n=>n,fun | 31=>41 | 9=>9 | 4=>4 | 3=>3 | 0=>0 | n=>n,fun | n=>n⟩
theorem Tryz.lays110:Go.Proofs.Lays.n110 Tryz.prog Tryz.lays110_ren:={
 mixed:=by kernel_rfl
 f109:=Tryz.func160.trans (congrArg some (by kernel_rfl))
 f110:=Tryz.func97.trans (congrArg some (by kernel_rfl))
 t0:=Tryz.underlying0
 a0:=Tryz.isAgg0
 z0:=Tryz.sizeOf0
 v0:=Tryz.zeroValue0
 t3:=Tryz.underlying3
 a3:=Tryz.isAgg3
 z3:=Tryz.sizeOf3
 v3:=Tryz.zeroValue3
 t4:=Tryz.underlying4
 a4:=Tryz.isAgg4
 z4:=Tryz.sizeOf4
 v4:=Tryz.zeroValue4
 t9:=Tryz.underlying9
 a9:=Tryz.isAgg9
 z9:=Tryz.sizeOf9
 v9:=Tryz.zeroValue9
 t31:=Tryz.underlying41
 a31:=Tryz.isAgg41
 z31:=Tryz.sizeOf41
 v31:=Tryz.zeroValue41 }
open Go.Lib in
theorem Tryz.slices_Contains_string (b off n c:Nat) (zs:List ByteArray) (x:ByteArray) (w:World) (hz:n≤zs.length) (hbig:n≤9223372036854775807) (hc:∀ j,j<zs.length→w.cell? ⟨b,off+j,none⟩=some (.string (zs.getD j ByteArray.empty))):
  Calls Tryz.prog 97 #[.slice (some ⟨b,off,none⟩) n c,.string x] w fun e w'=>e=.returned (.bool (Lib.containsS (zs.take n) x))∧w'=w:=Any.slices_Contains_string Tryz.lays110 b off n c zs x w hz hbig hc
open Go.Lib in
theorem Tryz.slices_Contains_string_empty (a:Option Addr) (c:Nat) (x:ByteArray) (w:World):
  Calls Tryz.prog 97 #[.slice a 0 c,.string x] w fun e w'=>e=.returned (.bool false)∧w'=w:=Any.slices_Contains_string_empty Tryz.lays110 a c x w
end Go.Proofs
namespace Go.Proofs.YtfhedienjnfdcaaGreatDoor
open Go.RowKit
theorem adv1_any (x s:ByteArray) (b pb fb fr:Nat) (w:World) (hp:w.cell? ⟨pb,0,none⟩=some (.pointer (some ⟨b,0,none⟩)))
  (h0:w.cell? ⟨b,0,none⟩=some (.string s)) (hf:w.cell? ⟨fb,0,none⟩=some (.int .i64 fr)) (hfs:fr≤s.size) (_hs:s.size≤9223372036854775807):
  Calls Tryz.prog 193 #[.string x,.pointer (some ⟨pb,0,none⟩),.pointer (some ⟨fb,0,none⟩)] w fun e w'=>
   e=.returned (.bool (Lib.hasPrefix (s.data.toList.drop fr) x.data.toList))∧∃ n,w.drewN n=w':=by
 have i1:(0:Int)≤(fr:Int):=by omega
 have i2:(fr:Int)≤(s.size:Int):=by omega
 go_enter Tryz.func193,Tryz.ntmps193
 go_wp2_with fail
 go_quiet ((go_at_call 194;exact Calls.quiet_of_same (Tryz.strings_HasPrefix _ _ _)))
 go_wp2_with fail
 go_ret
 exact⟨by rw[← Lib.extract_to_end];rfl,nq,rfl⟩
def signs:List ByteArray:=[⟨#[60,61,62]⟩,⟨#[62,45,62,62]⟩,⟨#[60,60,124]⟩,⟨#[124,62,62]⟩,⟨#[124,45,62]⟩,⟨#[60,45,62]⟩,⟨#[43,45,62]⟩,⟨#[45,45,62]⟩,⟨#[62,45,62]⟩,⟨#[61,62]⟩,⟨#[47,61]⟩,⟨#[60,61]⟩,⟨#[62,61]⟩,⟨#[46,46]⟩,⟨#[92,47]⟩,⟨#[47,92]⟩,⟨#[62,60]⟩,⟨#[60,43]⟩,⟨#[60,124]⟩,⟨#[124,62]⟩,⟨#[38]⟩,⟨#[61]⟩,⟨#[60]⟩,⟨#[62]⟩,⟨#[43]⟩,⟨#[45]⟩,⟨#[42]⟩,⟨#[47]⟩,⟨#[92]⟩,⟨#[59]⟩,⟨#[126]⟩,⟨#[46]⟩,⟨#[44]⟩,⟨#[124]⟩,⟨#[40]⟩,⟨#[41]⟩,⟨#[91]⟩,⟨#[93]⟩,⟨#[123]⟩,⟨#[125]⟩]
theorem signs_any (w:World):Calls Tryz.prog 192 #[] w fun e w'=>
  e=.returned (.slice (some ⟨w.heap.size,0,none⟩) 40 40)∧w'=w.alloc (.cells (signs.map Value.string).toArray 9):=by
 go_enter Tryz.func192,Tryz.ntmps192
 go_wp2_with fail
 go_ret
 exact⟨rfl,rfl⟩
def sIdx (l:List UInt8) (xs:List ByteArray):Int:=match xs.findIdx? (fun x=>Lib.hasPrefix l x.data.toList) with | some i=>(i:Int) | none=>-1
theorem sIdx_at (l:List UInt8) (xs:List ByteArray) (k:Nat) (hk:k<xs.length) (hno:∀ j (h:j<k),Lib.hasPrefix l (xs[j]'(by omega)).data.toList=false) (hy:Lib.hasPrefix l xs[k].data.toList=true):sIdx l xs=k:=by
 unfold sIdx
 have:xs.findIdx? (fun x=>Lib.hasPrefix l x.data.toList)=some k:=by
  rw[List.findIdx?_eq_some_iff_getElem]
  exact⟨hk,hy,fun j hj=>by simpa using hno j hj⟩
 rw[this]
theorem sIdx_none (l:List UInt8) (xs:List ByteArray) (hno:∀ j (h:j<xs.length),Lib.hasPrefix l xs[j].data.toList=false):sIdx l xs=-1:=by
 unfold sIdx
 have:xs.findIdx? (fun x=>Lib.hasPrefix l x.data.toList)=none:=by
  rw[List.findIdx?_eq_none_iff]
  intro x hx
  obtain⟨j,hj,rfl⟩:=List.getElem_of_mem hx
  exact hno j hj
 rw[this]
theorem idxSign_any (xs:List ByteArray) (s:ByteArray) (g b pb fb fr cap:Nat) (w:World) (hx:∀ i (h:i<xs.length),w.cell? ⟨g,i,none⟩=some (.string xs[i])) (hl:xs.length≤1000)
  (hp:w.cell? ⟨pb,0,none⟩=some (.pointer (some ⟨b,0,none⟩)))
  (h0:w.cell? ⟨b,0,none⟩=some (.string s)) (hf:w.cell? ⟨fb,0,none⟩=some (.int .i64 fr)) (hfs:fr≤s.size) (hs:s.size≤9223372036854775807):
  Calls Tryz.prog 191 #[.slice (some ⟨g,0,none⟩) xs.length cap,.func (.func 193) #[] #[.pointer (some ⟨pb,0,none⟩),.pointer (some ⟨fb,0,none⟩)]] w fun e w'=>
   e=.returned (.int .i64 (sIdx (s.data.toList.drop fr) xs))∧∃ n,w.drewN n=w':=by
 have HX:=Ld hx
 clear hx
 go_enter Tryz.func191,Tryz.ntmps191
 go_wp2_with fail
 go_loopw [8] (fun i wr=>∃ k n:Nat,k≤xs.length∧i=.int .i64 k∧w.drewN n=wr∧Hid (∀ j (h:j<k) (h':j<xs.length),Lib.hasPrefix (s.data.toList.drop fr) xs[j].data.toList=false)) (fun i _=>xs.length-(intOf i).toNat)
 case atStart=>exact⟨0,0,Nat.zero_le _,rfl,rfl,Ld (fun j h=>by omega)⟩
 case round=>
  obtain⟨k,n,hk,rfl,rfl,hno⟩:=hrel
  by_cases hlt:k<xs.length
  ·have hc:=HX.out k hlt
   have i1:(k:Int)<(xs.length:Int):=by omega
   cases hy:Lib.hasPrefix (s.data.toList.drop fr) xs[k].data.toList
   ·have hno':Hid (∀ j (h:j<k+1) (h':j<xs.length),Lib.hasPrefix (s.data.toList.drop fr) xs[j].data.toList=false):=Ld (fun j h h'=>by
     rcases Nat.lt_succ_iff_lt_or_eq.1 h with h | rfl
     ·exact hno.out j h h'
     ·exact hy)
    go_wp2_with (go_at_call 193;refine (adv1_any xs[k] s b pb fb fr _ (by exact hp) (by exact h0) (by exact hf) hfs hs).mono ?_;rintro e w' ⟨rfl,m,rfl⟩)
    go_roundw
    case rel=>exact⟨k+1,n+m,by omega,by go_num,rfl,hno'⟩
    case measure=>simp[intOf];omega
   ·have hi:=Ld (sIdx_at _ xs k hlt (fun j h=>hno.out j h (by omega)) hy)
    go_wp2_with (go_at_call 193;refine (adv1_any xs[k] s b pb fb fr _ (by exact hp) (by exact h0) (by exact hf) hfs hs).mono ?_;rintro e w' ⟨rfl,m,rfl⟩)
    go_ret
    exact⟨by rw[hi.out];rfl,n+m,rfl⟩
  ·go_wp2_with fail
   go_ret
   exact⟨by rw[sIdx_none _ _ (fun j h=>hno.out j (by omega) h)];rfl,n,rfl⟩
def allW (l:List UInt8):Bool:=l.all fun c=>inWordB c.toNat
def identB (s:ByteArray):Bool:=decide (0<s.size)&&decide (s.size≤16)&&letterB (s.data.toList.headD 0).toNat&&!keywordB s&&allW s.data.toList
theorem empty_iff (s:ByteArray):s.toList.isEmpty=!decide (0<s.size):=by
 rw[Go.ByteArray.toList_eq];obtain⟨⟨l⟩⟩:=s;cases l <;> simp[ByteArray.size]
theorem head_of (s:ByteArray) (h:0<s.size):s.data.toList.headD 0=s[0]:=by
 obtain⟨⟨l⟩⟩:=s
 cases l with
 | nil=>simp[ByteArray.size] at h
 | cons a t=>rfl
theorem take_snoc (s:ByteArray) (k:Nat) (h:k<s.size):s.data.toList.take (k+1)=s.data.toList.take k++[s[k]]:=by
 rw[List.take_succ_eq_append_getElem (by simpa using h)];rfl
theorem allW_snoc (l:List UInt8) (c:UInt8):allW (l++[c])=(allW l&&inWordB c.toNat):=by
 simp[allW]
theorem allW_false (s:ByteArray) (k:Nat) (h:k<s.size) (hc:inWordB s[k].toNat=false):allW s.data.toList=false:=by
 have e:s.data.toList=s.data.toList.take (k+1)++s.data.toList.drop (k+1):=(List.take_append_drop _ _).symm
 rw[e,take_snoc s k h];simp only[allW,List.all_append,List.all_cons,List.all_nil,hc];simp
theorem ident_any (s:ByteArray) (w:World) (hs:s.size≤9223372036854775807):
  Calls Tryz.prog 132 #[.string s] w fun e w'=>e=.returned (.bool (identB s))∧w=w':=by
 by_cases h0:0<s.size
 case neg=>
  have h1:s.toList.isEmpty=true:=by rw[empty_iff,decide_eq_false h0];rfl
  have hk:=Ld (show identB s=false by unfold identB;rw[decide_eq_false h0];rfl)
  clear h0
  go_enter Tryz.func132,Tryz.ntmps132
  go_wp2_with fail
  go_ret
  exact⟨by rw[hk.out];rfl,rfl⟩
 have h1:s.toList.isEmpty=false:=by rw[empty_iff,decide_eq_true h0];rfl
 by_cases h16:s.size≤16
 case neg=>
  have hd:decide (16<(s.size:Int))=true:=by simp;omega
  have hk:=Ld (show identB s=false by unfold identB;rw[decide_eq_false h16];simp)
  clear h16
  go_enter Tryz.func132,Tryz.ntmps132
  go_wp2_with fail
  go_ret
  exact⟨by rw[hk.out];rfl,rfl⟩
 have hd:decide (16<(s.size:Int))=false:=by simp;omega
 have hh:=head_of s h0
 cases hl:letterB (s[0].toNat)
 case false=>
  have hk:=Ld (show identB s=false by unfold identB;rw[hh,hl];simp)
  clear hh
  go_enter Tryz.func132,Tryz.ntmps132
  go_wp2_with (first | (go_at_call 185;refine (letter_any _ _).mono ?_;rintro e w' ⟨rfl,rfl⟩) | (go_at_call 101;refine (keyword_any _ _).mono ?_;rintro e w' ⟨rfl,rfl⟩))
  go_ret
  exact⟨by rw[hk.out];rfl,rfl⟩
 cases hkw:keywordB s
 case true=>
  have hk:=Ld (show identB s=false by unfold identB;rw[hkw];simp)
  clear hh
  go_enter Tryz.func132,Tryz.ntmps132
  go_wp2_with (first | (go_at_call 185;refine (letter_any _ _).mono ?_;rintro e w' ⟨rfl,rfl⟩) | (go_at_call 101;refine (keyword_any _ _).mono ?_;rintro e w' ⟨rfl,rfl⟩))
  go_ret
  exact⟨by rw[hk.out];rfl,rfl⟩
 have hk:=Ld (show identB s=allW s.data.toList by unfold identB;rw[hh,hl,hkw,decide_eq_true h0,decide_eq_true h16];simp)
 clear hh
 go_enter Tryz.func132,Tryz.ntmps132
 go_wp2_with (first | (go_at_call 185;refine (letter_any _ _).mono ?_;rintro e w' ⟨rfl,rfl⟩) | (go_at_call 101;refine (keyword_any _ _).mono ?_;rintro e w' ⟨rfl,rfl⟩))
 go_loop [23] (fun i=>∃ k:Nat,k≤s.size∧i=.int .i64 k∧Hid (allW (s.data.toList.take k)=true)) (fun i=>s.size-(intOf i).toNat)
 case atStart=>exact⟨0,Nat.zero_le _,rfl,Ld (by simp[allW])⟩
 case round=>
  obtain⟨k,hks,rfl,hall⟩:=hrel
  by_cases hlt:k<s.size
  ·cases hw:inWordB s[k].toNat
   ·have hf:=Ld (allW_false s k hlt hw)
    go_wp2_with (go_at_call 186;refine (inWord_any _ _).mono ?_;rintro e w' ⟨rfl,rfl⟩)
    go_ret
    exact⟨by rw[hk.out,hf.out];rfl,rfl⟩
   ·have hall':Hid (allW (s.data.toList.take (k+1))=true):=Ld (by rw[take_snoc s k hlt,allW_snoc,hall.out,hw];rfl)
    go_wp2_with (go_at_call 186;refine (inWord_any _ _).mono ?_;rintro e w' ⟨rfl,rfl⟩)
    go_round
    case rel=>exact⟨k+1,by omega,by go_num,hall'⟩
    case measure=>simp[intOf];omega
  ·have hf:Hid (allW s.data.toList=true):=by
    have h:=hall.out
    rw[List.take_of_length_le (by simp;omega)] at h
    exact Ld h
   go_wp2_with fail
   go_ret
   exact⟨by rw[hk.out,hf.out];rfl,rfl⟩
end Go.Proofs.YtfhedienjnfdcaaGreatDoor
