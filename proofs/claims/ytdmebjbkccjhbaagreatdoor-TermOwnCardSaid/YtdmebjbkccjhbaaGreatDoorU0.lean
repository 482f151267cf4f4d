/- A part. -/
import Derived.Test.YtdmebjbkccjhbaaGreatDoorProg
import Derived.WalkKit
import Derived.WalkSpells
import Derived.WalkLawsBesides
import Derived.Lib.Hide
import Derived.Deep.AppendLies
import Derived.Deep.RegionLaw
import Derived.Deep.CutBlock
import Derived.Laws.AppendOwnNone
import Derived.RangeFuncBox
import Derived.RangeFuncLeaves
import Derived.Shelf.Abstract
import Derived.OwnWalkIn
import Derived.TacticsInMore
import Derived.LoopNIn
import Derived.LoopIn
set_option linter.unusedVariables false
set_option linter.unusedSimpArgs false
set_option maxRecDepth 100000
set_option maxHeartbeats 32000000
namespace Go.Proofs.YtdmebjbkccjhbaaGreatDoor
open Go.RowKit
theorem Ld {p:Prop} (h:p):RowKit.Hid p:=Lib.hid h
abbrev Z7:Obj:=.cells #[.int .i64 0,.string ⟨#[]⟩,.int .i64 0,.int .i64 0,.string ⟨#[]⟩,.slice none 0 0,.slice none 0 0] 27
theorem cR {P:Program} {f:Nat} {a:Array Value} {w:World} {v:Value} (h:Calls P f a w fun e w'=>e=.returned v∧w=w') {R:Ending→World→Prop} (k:R (.returned v) w):Calls P f a w R:=h.mono (by rintro e w' ⟨rfl,rfl⟩;exact k)
variable {bz:Nat}
def kws:List (List UInt8):=[[116,114,117,101],[102,97,108,115,101],[110,111,116],[111,114],[102,111,114,97,108,108],[101,120,105,115,116,115],[105,110],[110,111,116,105,110],[115,117,98],[109,111,100],[102,117,110],[99,97,114,100],[109,105,110],[109,97,120],[100,111,109],[114,97,110],[80,79,87],[105,110,116],[98,111,111,108],[115,101,116],[112,97,105,114]]
def keywordB (s:ByteArray):Bool:=kws.contains s.toList
def letterB (c:Int):Bool:=(decide (97≤c)&&decide (c≤122))||(decide (65≤c)&&decide (c≤90))
def digitB (c:Int):Bool:=decide (48≤c)&&decide (c≤57)
def inWordB (c:Int):Bool:=letterB c||digitB c||c==95
theorem letter_any (c:Int) (w:World):
  Calls Tryz.prog 132 #[.int .u8 c] w fun e w'=>e=.returned (.bool (letterB c))∧w=w':=by
 cases h1:decide (97≤c) <;> cases h2:decide (c≤122) <;> cases h3:decide (65≤c) <;> cases h4:decide (c≤90)
 all_goals
  have hk:=Ld (show letterB c=_ by unfold letterB;rw[h1,h2,h3,h4])
  go_enter Tryz.func132,Tryz.ntmps132
  go_wp2_with fail
  go_ret
  exact⟨by rw[hk.out];rfl,rfl⟩
theorem digit_any (c:Int) (w:World):
  Calls Tryz.prog 158 #[.int .u8 c] w fun e w'=>e=.returned (.bool (digitB c))∧w=w':=by
 cases h1:decide (48≤c) <;> cases h2:decide (c≤57)
 all_goals
  have hk:=Ld (show digitB c=_ by unfold digitB;rw[h1,h2])
  go_enter Tryz.func158,Tryz.ntmps158
  go_wp2_with fail
  go_ret
  exact⟨by rw[hk.out];rfl,rfl⟩
theorem inWord_any (c:Int) (w:World):
  Calls Tryz.prog 133 #[.int .u8 c] w fun e w'=>e=.returned (.bool (inWordB c))∧w=w':=by
 cases h1:letterB c <;> cases h2:digitB c <;> cases h3:(c==95)
 all_goals
  have hk:=Ld (show inWordB c=_ by unfold inWordB;rw[h1,h2,h3])
  go_enter Tryz.func133,Tryz.ntmps133
  go_wp2_with (first | (go_at_call 132;refine (letter_any _ _).mono ?_;rintro e w' ⟨rfl,rfl⟩) | (go_at_call 158;refine (digit_any _ _).mono ?_;rintro e w' ⟨rfl,rfl⟩))
  go_ret
  exact⟨by rw[hk.out];rfl,rfl⟩
theorem keyword_any (s:ByteArray) (w:World):
  Calls Tryz.prog 39 #[.string s] w fun e w'=>e=.returned (.bool (keywordB s))∧w=w':=by
 cases h0:(s.toList==[116,114,117,101])
 case true=>
  have hk:=Ld (show keywordB s=true by simp only[keywordB,kws];rw[eq_of_beq h0];rfl)
  go_enter Tryz.func39,Tryz.ntmps39
  go_wp2_with fail
  go_ret
  exact⟨by rw[hk.out];rfl,rfl⟩
 cases h1:(s.toList==[102,97,108,115,101])
 case true=>
  have hk:=Ld (show keywordB s=true by simp only[keywordB,kws];rw[eq_of_beq h1];rfl)
  go_enter Tryz.func39,Tryz.ntmps39
  go_wp2_with fail
  go_ret
  exact⟨by rw[hk.out];rfl,rfl⟩
 cases h2:(s.toList==[110,111,116])
 case true=>
  have hk:=Ld (show keywordB s=true by simp only[keywordB,kws];rw[eq_of_beq h2];rfl)
  go_enter Tryz.func39,Tryz.ntmps39
  go_wp2_with fail
  go_ret
  exact⟨by rw[hk.out];rfl,rfl⟩
 cases h3:(s.toList==[111,114])
 case true=>
  have hk:=Ld (show keywordB s=true by simp only[keywordB,kws];rw[eq_of_beq h3];rfl)
  go_enter Tryz.func39,Tryz.ntmps39
  go_wp2_with fail
  go_ret
  exact⟨by rw[hk.out];rfl,rfl⟩
 cases h4:(s.toList==[102,111,114,97,108,108])
 case true=>
  have hk:=Ld (show keywordB s=true by simp only[keywordB,kws];rw[eq_of_beq h4];rfl)
  go_enter Tryz.func39,Tryz.ntmps39
  go_wp2_with fail
  go_ret
  exact⟨by rw[hk.out];rfl,rfl⟩
 cases h5:(s.toList==[101,120,105,115,116,115])
 case true=>
  have hk:=Ld (show keywordB s=true by simp only[keywordB,kws];rw[eq_of_beq h5];rfl)
  go_enter Tryz.func39,Tryz.ntmps39
  go_wp2_with fail
  go_ret
  exact⟨by rw[hk.out];rfl,rfl⟩
 cases h6:(s.toList==[105,110])
 case true=>
  have hk:=Ld (show keywordB s=true by simp only[keywordB,kws];rw[eq_of_beq h6];rfl)
  go_enter Tryz.func39,Tryz.ntmps39
  go_wp2_with fail
  go_ret
  exact⟨by rw[hk.out];rfl,rfl⟩
 cases h7:(s.toList==[110,111,116,105,110])
 case true=>
  have hk:=Ld (show keywordB s=true by simp only[keywordB,kws];rw[eq_of_beq h7];rfl)
  go_enter Tryz.func39,Tryz.ntmps39
  go_wp2_with fail
  go_ret
  exact⟨by rw[hk.out];rfl,rfl⟩
 cases h8:(s.toList==[115,117,98])
 case true=>
  have hk:=Ld (show keywordB s=true by simp only[keywordB,kws];rw[eq_of_beq h8];rfl)
  go_enter Tryz.func39,Tryz.ntmps39
  go_wp2_with fail
  go_ret
  exact⟨by rw[hk.out];rfl,rfl⟩
 cases h9:(s.toList==[109,111,100])
 case true=>
  have hk:=Ld (show keywordB s=true by simp only[keywordB,kws];rw[eq_of_beq h9];rfl)
  go_enter Tryz.func39,Tryz.ntmps39
  go_wp2_with fail
  go_ret
  exact⟨by rw[hk.out];rfl,rfl⟩
 cases h10:(s.toList==[102,117,110])
 case true=>
  have hk:=Ld (show keywordB s=true by simp only[keywordB,kws];rw[eq_of_beq h10];rfl)
  go_enter Tryz.func39,Tryz.ntmps39
  go_wp2_with fail
  go_ret
  exact⟨by rw[hk.out];rfl,rfl⟩
 cases h11:(s.toList==[99,97,114,100])
 case true=>
  have hk:=Ld (show keywordB s=true by simp only[keywordB,kws];rw[eq_of_beq h11];rfl)
  go_enter Tryz.func39,Tryz.ntmps39
  go_wp2_with fail
  go_ret
  exact⟨by rw[hk.out];rfl,rfl⟩
 cases h12:(s.toList==[109,105,110])
 case true=>
  have hk:=Ld (show keywordB s=true by simp only[keywordB,kws];rw[eq_of_beq h12];rfl)
  go_enter Tryz.func39,Tryz.ntmps39
  go_wp2_with fail
  go_ret
  exact⟨by rw[hk.out];rfl,rfl⟩
 cases h13:(s.toList==[109,97,120])
 case true=>
  have hk:=Ld (show keywordB s=true by simp only[keywordB,kws];rw[eq_of_beq h13];rfl)
  go_enter Tryz.func39,Tryz.ntmps39
  go_wp2_with fail
  go_ret
  exact⟨by rw[hk.out];rfl,rfl⟩
 cases h14:(s.toList==[100,111,109])
 case true=>
  have hk:=Ld (show keywordB s=true by simp only[keywordB,kws];rw[eq_of_beq h14];rfl)
  go_enter Tryz.func39,Tryz.ntmps39
  go_wp2_with fail
  go_ret
  exact⟨by rw[hk.out];rfl,rfl⟩
 cases h15:(s.toList==[114,97,110])
 case true=>
  have hk:=Ld (show keywordB s=true by simp only[keywordB,kws];rw[eq_of_beq h15];rfl)
  go_enter Tryz.func39,Tryz.ntmps39
  go_wp2_with fail
  go_ret
  exact⟨by rw[hk.out];rfl,rfl⟩
 cases h16:(s.toList==[80,79,87])
 case true=>
  have hk:=Ld (show keywordB s=true by simp only[keywordB,kws];rw[eq_of_beq h16];rfl)
  go_enter Tryz.func39,Tryz.ntmps39
  go_wp2_with fail
  go_ret
  exact⟨by rw[hk.out];rfl,rfl⟩
 cases h17:(s.toList==[105,110,116])
 case true=>
  have hk:=Ld (show keywordB s=true by simp only[keywordB,kws];rw[eq_of_beq h17];rfl)
  go_enter Tryz.func39,Tryz.ntmps39
  go_wp2_with fail
  go_ret
  exact⟨by rw[hk.out];rfl,rfl⟩
 cases h18:(s.toList==[98,111,111,108])
 case true=>
  have hk:=Ld (show keywordB s=true by simp only[keywordB,kws];rw[eq_of_beq h18];rfl)
  go_enter Tryz.func39,Tryz.ntmps39
  go_wp2_with fail
  go_ret
  exact⟨by rw[hk.out];rfl,rfl⟩
 cases h19:(s.toList==[115,101,116])
 case true=>
  have hk:=Ld (show keywordB s=true by simp only[keywordB,kws];rw[eq_of_beq h19];rfl)
  go_enter Tryz.func39,Tryz.ntmps39
  go_wp2_with fail
  go_ret
  exact⟨by rw[hk.out];rfl,rfl⟩
 cases h20:(s.toList==[112,97,105,114])
 case true=>
  have hk:=Ld (show keywordB s=true by simp only[keywordB,kws];rw[eq_of_beq h20];rfl)
  go_enter Tryz.func39,Tryz.ntmps39
  go_wp2_with fail
  go_ret
  exact⟨by rw[hk.out];rfl,rfl⟩
 have hk:=Ld (show keywordB s=false by simp only[keywordB,kws,List.contains_cons,List.contains_nil,Bool.or_false,h0,h1,h2,h3,h4,h5,h6,h7,h8,h9,h10,h11,h12,h13,h14,h15,h16,h17,h18,h19,h20])
 go_enter Tryz.func39,Tryz.ntmps39
 go_wp2_with fail
 go_ret
 exact⟨by rw[hk.out];rfl,rfl⟩
structure Kept (S:Nat→Prop) (w w':World):Prop where
 os:w'.os=w.os
 tape:w'.tape=w.tape
 output:w'.output=w.output
 size:w.heap.size≤w'.heap.size
 block:∀ k,k<w.heap.size→¬ S k→w'.heap[k]?=w.heap[k]?
theorem Kept.refl (S:Nat→Prop) (w:World):Kept S w w:=⟨rfl,rfl,rfl,Nat.le_refl _,fun _ _ _=>rfl⟩
theorem Kept.trans {S:Nat→Prop} {a b c:World} (h:Kept S a b) (k:Kept S b c):Kept S a c:=
 ⟨k.os.trans h.os,k.tape.trans h.tape,k.output.trans h.output,Nat.le_trans h.size k.size,fun i hi hs=>(k.block i (Nat.lt_of_lt_of_le hi h.size) hs).trans (h.block i hi hs)⟩
theorem Kept.mono {S T:Nat→Prop} {w w':World} (h:Kept S w w') (hST:∀ k,k<w.heap.size→S k→T k):Kept T w w':=
 ⟨h.os,h.tape,h.output,h.size,fun k hk hs=>h.block k hk fun hS=>hs (hST k hk hS)⟩
theorem Kept.of_below {S:Nat→Prop} {w w':World} (h:Below w.heap.size w w'):Kept S w w':=
 ⟨h.os,h.tape,h.output,h.size,fun k hk _=>h.block k hk⟩
theorem Kept.below {w w':World} (h:Kept (fun _=>False) w w'):Below w.heap.size w w':=
 ⟨h.os,h.tape,h.output,h.size,fun k hk=>h.block k hk (fun h=>h)⟩
theorem Kept.drew {S:Nat→Prop} {a w:World} (h:Kept S a w):Kept S a w.drew:=⟨h.os,h.tape,h.output,h.size,h.block⟩
theorem Kept.drewN {S:Nat→Prop} {a w:World} (h:Kept S a w) (n:Nat):Kept S a (w.drewN n):=⟨h.os,h.tape,h.output,h.size,h.block⟩
theorem Kept.alloc {S:Nat→Prop} {a w:World} (h:Kept S a w) (o:Obj):Kept S a (w.alloc o):=
 h.trans ⟨rfl,rfl,rfl,by simp,fun k hk _=>Below.heap_alloc _ _ _ hk⟩
theorem Kept.setCell {S:Nat→Prop} {a w:World} (h:Kept S a w) {p:Addr} (hp:S p.block∨a.heap.size≤p.block) (u:Value):Kept S a (w.setCell p u):=by
 refine⟨h.os,h.tape,h.output,by simpa [World.setCell] using h.size,fun k hk hs=>?_⟩
 rw[Below.heap_setCell _ _ _ _ (by rintro rfl;rcases hp with hp | hp;exact hs hp;omega)]
 exact h.block k hk hs
theorem Kept.cell {S:Nat→Prop} {w w':World} (h:Kept S w w') {p:Addr} (hp:p.block<w.heap.size) (hs:¬ S p.block):w'.cell? p=w.cell? p:=World.cell?_of_block (w:=w) (h.block p.block hp hs)
theorem Kept.frozen {S:Nat→Prop} {w w':World} (h:Kept S w w') {p:Addr} (hp:p.block<w.heap.size) (hs:¬ S p.block):w'.frozen? p=w.frozen? p:=World.frozen?_of_block (w:=w) (h.block p.block hp hs)
def Blk (w:World) (b:Nat) (t:TypeId) (l:List Value):Prop:=w.heap[b]?=some (.cells l.toArray t (0,0))
theorem Blk.lt {w:World} {b:Nat} {t:TypeId} {l:List Value} (h:Blk w b t l):b<w.heap.size:=by
 have:w.heap[b]?≠none:=by rw[show w.heap[b]?=_ from h];simp
 exact Array.getElem?_eq_some_iff.1 (show w.heap[b]?=_ from h) |>.1
theorem Blk.cell {w:World} {b:Nat} {t:TypeId} {l:List Value} (h:Blk w b t l) (i:Nat):w.cell? ⟨b,i,none⟩=l[i]?:=by
 unfold World.cell?;rw[show w.heap[b]?=_ from h];simp
theorem Blk.frozen {w:World} {b:Nat} {t:TypeId} {l:List Value} (h:Blk w b t l) (i:Nat):w.frozen? ⟨b,i,none⟩=false:=by
 unfold World.frozen?;rw[show w.heap[b]?=_ from h];simp
theorem Blk.set {w:World} {b:Nat} {t:TypeId} {l:List Value} (h:Blk w b t l) (i:Nat) (v:Value):Blk (w.setCell ⟨b,i,none⟩ v) b t (l.set i v):=by
 unfold Blk World.setCell
 rw[Array.getElem?_modify,if_pos rfl,show w.heap[b]?=_ from h]
 simp
theorem Blk.set_other {w:World} {b:Nat} {t:TypeId} {l:List Value} (h:Blk w b t l) (p:Addr) (v:Value) (hp:b≠p.block):Blk (w.setCell p v) b t l:=by
 unfold Blk;rw[Below.heap_setCell _ _ _ _ hp];exact h
theorem Blk.alloc {w:World} {b:Nat} {t:TypeId} {l:List Value} (h:Blk w b t l) (o:Obj):Blk (w.alloc o) b t l:=by
 unfold Blk;rw[Below.heap_alloc _ _ _ h.lt];exact h
theorem Blk.new (w:World) (t:TypeId) (l:List Value):Blk (w.alloc (.cells l.toArray t)) w.heap.size t l:=by
 unfold Blk;show (w.heap.push _)[w.heap.size]?=_;simp
theorem Blk.drew {w:World} {b:Nat} {t:TypeId} {l:List Value} (h:Blk w b t l):Blk w.drew b t l:=h
theorem Blk.drewN {w:World} {b:Nat} {t:TypeId} {l:List Value} (h:Blk w b t l) (n:Nat):Blk (w.drewN n) b t l:=h
theorem Blk.kept {S:Nat→Prop} {w w':World} {b:Nat} {t:TypeId} {l:List Value} (h:Blk w b t l) (hk:Kept S w w') (hs:¬ S b):Blk w' b t l:=by
 unfold Blk;rw[hk.block b h.lt hs];exact h
theorem kR {S:Nat→Prop} {w:World}:Kept S w w:=Kept.refl S w
inductive Ty where
 | mk (kind:Int) (name:ByteArray) (kids:List Ty)
def Ty.kind:Ty→Int | .mk k _ _=>k
def Ty.name:Ty→ByteArray | .mk _ n _=>n
def Ty.kids:Ty→List Ty | .mk _ _ l=>l
inductive Tm where
 | mk (op:Int) (name:ByteArray) (n:Int) (ty:Ty) (kids:List Tm)
def Tm.op:Tm→Int | .mk o _ _ _ _=>o
def Tm.name:Tm→ByteArray | .mk _ n _ _ _=>n
def Tm.n:Tm→Int | .mk _ _ n _ _=>n
def Tm.ty:Tm→Ty | .mk _ _ _ t _=>t
def Tm.kids:Tm→List Tm | .mk _ _ _ _ l=>l
def ty0:Ty:=.mk 0 ⟨#[]⟩ []
def empty0 (v:Value):Prop:=v=.slice none 0 0∨∃ a c,v=.slice (some a) 0 c
inductive TyL (bz:Nat) (ok:Nat→Prop) (w:World):List Ty→Value→Prop
 | nil {v:Value} (h:empty0 v):TyL bz ok w [] v
 | mk {l:List Ty} {b off cap:Nat} (K:Nat→Value) (hne:l≠[]) (hb:ok b) (hc:l.length≤cap)
   (hcell:∀ i (h:i<l.length),w.cell? ⟨b,off+i*3,none⟩=some (.int .i64 l[i].kind)∧w.cell? ⟨b,off+i*3+1,none⟩=some (.string l[i].name)∧w.cell? ⟨b,off+i*3+2,none⟩=some (K i))
   (hk:∀ i (h:i<l.length),TyL bz ok w l[i].kids (K i)) (hs:bz≤b→off=0∧∃ L,Blk w b 24 L∧l.length*3≤L.length):TyL bz ok w l (.slice (some ⟨b,off,none⟩) l.length cap)
def tyVal (t:Ty) (tk:Value):Value:=.agg #[.int .i64 t.kind,.string t.name,tk]
def TyV (bz:Nat) (ok:Nat→Prop) (w:World) (t:Ty) (v:Value):Prop:=∃ tk,v=tyVal t tk∧TyL bz ok w t.kids tk
inductive TmL (bz:Nat) (ok:Nat→Prop) (w:World):List Tm→Value→Prop
 | nil {v:Value} (h:empty0 v):TmL bz ok w [] v
 | mk {l:List Tm} {b off cap:Nat} (K M:Nat→Value) (hne:l≠[]) (hb:ok b) (hc:l.length≤cap)
   (hcell:∀ i (h:i<l.length),w.cell? ⟨b,off+i*7,none⟩=some (.int .i64 l[i].op)∧w.cell? ⟨b,off+i*7+1,none⟩=some (.string l[i].name)∧w.cell? ⟨b,off+i*7+2,none⟩=some (.int .i64 l[i].n)∧w.cell? ⟨b,off+i*7+3,none⟩=some (.int .i64 l[i].ty.kind)∧w.cell? ⟨b,off+i*7+4,none⟩=some (.string l[i].ty.name)∧w.cell? ⟨b,off+i*7+5,none⟩=some (K i)∧w.cell? ⟨b,off+i*7+6,none⟩=some (M i))
   (hk:∀ i (h:i<l.length),TyL bz ok w l[i].ty.kids (K i)) (hm:∀ i (h:i<l.length),TmL bz ok w l[i].kids (M i)) (hs:bz≤b→off=0∧∃ L,Blk w b 27 L∧l.length*7≤L.length):TmL bz ok w l (.slice (some ⟨b,off,none⟩) l.length cap)
def tmVal (t:Tm) (tk kk:Value):Value:=.agg #[.int .i64 t.op,.string t.name,.int .i64 t.n,.int .i64 t.ty.kind,.string t.ty.name,tk,kk]
def TmV (bz:Nat) (ok:Nat→Prop) (w:World) (t:Tm) (v:Value):Prop:=∃ tk kk,v=tmVal t tk kk∧TyL bz ok w t.ty.kids tk∧TmL bz ok w t.kids kk
theorem cell_lt {w:World} {b o:Nat} {v:Value} (h:w.cell? ⟨b,o,none⟩=some v):b<w.heap.size:=by
 unfold World.cell? at h
 by_cases hl:b<w.heap.size
 ·exact hl
 ·rw[Array.getElem?_eq_none (by show w.heap.size≤b;omega)] at h;simp at h
def Same (ok:Nat→Prop) (w w':World):Prop:=∀ k,ok k→k<w.heap.size→w'.heap[k]?=w.heap[k]?
theorem Same.cell {ok:Nat→Prop} {w w':World} (h:Same ok w w') {b o:Nat} {v:Value} (hb:ok b) (hc:w.cell? ⟨b,o,none⟩=some v):w'.cell? ⟨b,o,none⟩=some v:=by
 rw[World.cell?_of_block (w:=w) (a:=⟨b,o,none⟩) (h b hb (cell_lt hc))];exact hc
theorem blk_lt {w:World} {g T:Nat} {l:List Value} (h:Blk w g T l):g<w.heap.size:=h.lt
theorem TyL.frame {ok:Nat→Prop} {w w':World} (hs:Same ok w w') {l:List Ty} {v:Value} (h:TyL bz ok w l v):TyL bz ok w' l v:=by
 induction h with
 | nil h=>exact .nil h
 | mk K hne hb hc hcell hk hs2 ih=>
  exact .mk K hne hb hc (fun i h=>⟨hs.cell hb (hcell i h).1,hs.cell hb (hcell i h).2.1,hs.cell hb (hcell i h).2.2⟩) ih (fun h=>by obtain⟨e,L,hL,hl⟩:=hs2 h;exact⟨e,L,(hs _ hb (blk_lt hL)).trans hL,hl⟩)
theorem TmL.frame {ok:Nat→Prop} {w w':World} (hs:Same ok w w') {l:List Tm} {v:Value} (h:TmL bz ok w l v):TmL bz ok w' l v:=by
 induction h with
 | nil h=>exact .nil h
 | mk K M hne hb hc hcell hk hm hs2 ih=>
  exact .mk K M hne hb hc (fun i h=>let c:=hcell i h;⟨hs.cell hb c.1,hs.cell hb c.2.1,hs.cell hb c.2.2.1,hs.cell hb c.2.2.2.1,hs.cell hb c.2.2.2.2.1,hs.cell hb c.2.2.2.2.2.1,hs.cell hb c.2.2.2.2.2.2⟩) (fun i h=>(hk i h).frame hs) ih (fun h=>by obtain⟨e,L,hL,hl⟩:=hs2 h;exact⟨e,L,(hs _ hb (blk_lt hL)).trans hL,hl⟩)
theorem TyL.mono {ok ok':Nat→Prop} {w:World} (ho:∀ k,k<w.heap.size→ok k→ok' k) {l:List Ty} {v:Value} (h:TyL bz ok w l v):TyL bz ok' w l v:=by
 induction h with
 | nil h=>exact .nil h
 | mk K hne hb hc hcell hk hs2 ih=>
  rename_i l b off cap
  have h0:0<l.length:=List.length_pos_iff.2 hne
  exact .mk K hne (ho _ (cell_lt (hcell 0 h0).1) hb) hc hcell ih hs2
theorem TmL.mono {ok ok':Nat→Prop} {w:World} (ho:∀ k,k<w.heap.size→ok k→ok' k) {l:List Tm} {v:Value} (h:TmL bz ok w l v):TmL bz ok' w l v:=by
 induction h with
 | nil h=>exact .nil h
 | mk K M hne hb hc hcell hk hm hs2 ih=>
  rename_i l b off cap
  have h0:0<l.length:=List.length_pos_iff.2 hne
  exact .mk K M hne (ho _ (cell_lt (hcell 0 h0).1) hb) hc hcell (fun i h=>(hk i h).mono ho) ih hs2
theorem TyV.frame {ok:Nat→Prop} {w w':World} (hs:Same ok w w') {t:Ty} {v:Value} (h:TyV bz ok w t v):TyV bz ok w' t v:=by
 obtain⟨tk,rfl,h⟩:=h;exact⟨tk,rfl,h.frame hs⟩
theorem TmV.frame {ok:Nat→Prop} {w w':World} (hs:Same ok w w') {t:Tm} {v:Value} (h:TmV bz ok w t v):TmV bz ok w' t v:=by
 obtain⟨tk,kk,rfl,h,h'⟩:=h;exact⟨tk,kk,rfl,h.frame hs,h'.frame hs⟩
theorem Same.of_kept {S ok:Nat→Prop} {w w':World} (h:Kept S w w') (hS:∀ k,ok k→¬ S k):Same ok w w':=fun k hk hl=>h.block k hl (hS k hk)
theorem TyL.one {ok:Nat→Prop} {w:World} {g cap:Nat} {t:Ty} {tk:Value} {r:List Value} (hg:ok g) (hc:1≤cap) (hb:Blk w g 24 ([.int .i64 t.kind,.string t.name,tk]++r)) (hk:TyL bz ok w t.kids tk):TyL bz ok w [t] (.slice (some ⟨g,0,none⟩) 1 cap):=by
 refine TyL.mk (l:=[t]) (fun _=>tk) (by simp) hg hc (fun i h=>?_) (fun i h=>?_) (fun _=>⟨rfl,_,hb,by simp⟩)
 ·have:i=0:=by simp at h;exact h
  subst this
  exact⟨hb.cell 0,hb.cell 1,hb.cell 2⟩
 ·have:i=0:=by simp at h;exact h
  subst this;exact hk
theorem TyL.two {ok:Nat→Prop} {w:World} {g cap:Nat} {t u:Ty} {tk uk:Value} (hg:ok g) (hc:2≤cap) (hb:Blk w g 24 [.int .i64 t.kind,.string t.name,tk,.int .i64 u.kind,.string u.name,uk]) (hk:TyL bz ok w t.kids tk) (hk':TyL bz ok w u.kids uk):TyL bz ok w [t,u] (.slice (some ⟨g,0,none⟩) 2 cap):=by
 refine TyL.mk (l:=[t,u]) (fun i=>if i=0 then tk else uk) (by simp) hg hc (fun i h=>?_) (fun i h=>?_) (fun _=>⟨rfl,_,hb,by simp⟩)
 ·rcases (show i=0∨i=1 by simp at h;omega) with rfl | rfl
  ·exact⟨hb.cell 0,hb.cell 1,hb.cell 2⟩
  ·exact⟨hb.cell 3,hb.cell 4,hb.cell 5⟩
 ·rcases (show i=0∨i=1 by simp at h;omega) with rfl | rfl
  ·exact hk
  ·exact hk'
def tmCells (t:Tm) (tk kk:Value):List Value:=[.int .i64 t.op,.string t.name,.int .i64 t.n,.int .i64 t.ty.kind,.string t.ty.name,tk,kk]
theorem TmL.one {ok:Nat→Prop} {w:World} {g cap:Nat} {t:Tm} {tk kk:Value} (hg:ok g) (hc:1≤cap) (hb:Blk w g 27 (tmCells t tk kk)) (hk:TyL bz ok w t.ty.kids tk) (hm:TmL bz ok w t.kids kk):TmL bz ok w [t] (.slice (some ⟨g,0,none⟩) 1 cap):=by
 refine TmL.mk (l:=[t]) (fun _=>tk) (fun _=>kk) (by simp) hg hc (fun i h=>?_) (fun i h=>?_) (fun i h=>?_) (fun _=>⟨rfl,_,hb,by simp[tmCells]⟩)
 all_goals (have:i=0:=by simp at h;exact h);subst this
 ·exact⟨hb.cell 0,hb.cell 1,hb.cell 2,hb.cell 3,hb.cell 4,hb.cell 5,hb.cell 6⟩
 ·exact hk
 ·exact hm
theorem TmL.two {ok:Nat→Prop} {w:World} {g cap:Nat} {t u:Tm} {tk kk uk uu:Value} (hg:ok g) (hc:2≤cap) (hb:Blk w g 27 (tmCells t tk kk++tmCells u uk uu)) (hk:TyL bz ok w t.ty.kids tk) (hm:TmL bz ok w t.kids kk) (hk':TyL bz ok w u.ty.kids uk) (hm':TmL bz ok w u.kids uu):TmL bz ok w [t,u] (.slice (some ⟨g,0,none⟩) 2 cap):=by
 refine TmL.mk (l:=[t,u]) (fun i=>if i=0 then tk else uk) (fun i=>if i=0 then kk else uu) (by simp) hg hc (fun i h=>?_) (fun i h=>?_) (fun i h=>?_) (fun _=>⟨rfl,_,hb,by simp[tmCells]⟩)
 all_goals rcases (show i=0∨i=1 by simp at h;omega) with rfl | rfl
 ·exact⟨hb.cell 0,hb.cell 1,hb.cell 2,hb.cell 3,hb.cell 4,hb.cell 5,hb.cell 6⟩
 ·exact⟨hb.cell 7,hb.cell 8,hb.cell 9,hb.cell 10,hb.cell 11,hb.cell 12,hb.cell 13⟩
 ·exact hk
 ·exact hk'
 ·exact hm
 ·exact hm'
theorem sK {ok:Nat→Prop} {w w':World} (k:Kept (fun _=>False) w w'):Same ok w w':=Same.of_kept k (fun _ _ e=>e)
def kidsN (op:Int):Int×Bool:=
 if op=1∨op=2∨op=19∨op=20∨op=29 then (0,true)
 else if op=3∨op=21∨(46≤op∧op≤52) then (1,true)
 else if op=28 then (-1,true)
 else if 1≤op∧op≤56 then (2,true) else (0,false)
theorem kids_any (op:Int) (w:World):
  Calls Tryz.prog 180 #[.int .i64 op] w fun e w'=>e=.returned (.tuple #[.int .i64 (kidsN op).1,.bool (kidsN op).2])∧w=w':=by
 by_cases h:op=1∨op=2∨op=19∨op=20∨op=29∨op=3∨op=21∨op=52∨op=28
 ·rcases h with rfl | rfl | rfl | rfl | rfl | rfl | rfl | rfl | rfl
  all_goals
   go_enter Tryz.func180,Tryz.ntmps180
   go_wp2_with fail
   go_ret2
   exact⟨rfl,rfl⟩
 ·by_cases h1:46≤op∧op≤51
  ·have hk:=Ld (show kidsN op=(1,true) by unfold kidsN;rw[if_neg (by omega),if_pos (by omega)])
   obtain⟨ha,hb⟩:=h1
   have n1:(op==1)=false:=by simp;omega
   have n2:(op==2)=false:=by simp;omega
   have n19:(op==19)=false:=by simp;omega
   have n20:(op==20)=false:=by simp;omega
   have n29:(op==29)=false:=by simp;omega
   have n3:(op==3)=false:=by simp;omega
   have n21:(op==21)=false:=by simp;omega
   clear h
   go_enter Tryz.func180,Tryz.ntmps180
   go_wp2_with fail
   go_ret2
   exact⟨by rw[hk.out];rfl,rfl⟩
  ·have n1:(op==1)=false:=by simp;omega
   have n2:(op==2)=false:=by simp;omega
   have n19:(op==19)=false:=by simp;omega
   have n20:(op==20)=false:=by simp;omega
   have n29:(op==29)=false:=by simp;omega
   have n3:(op==3)=false:=by simp;omega
   have n21:(op==21)=false:=by simp;omega
   have n52:(op==52)=false:=by simp;omega
   have n28:(op==28)=false:=by simp;omega
   cases a1:decide (46≤op) <;> cases a2:decide (op≤51) <;> cases a3:decide (1≤op) <;> cases a4:decide (op≤56)
   all_goals
    first
    | (exfalso;simp only[decide_eq_true_eq,decide_eq_false_iff_not] at a1 a2 a3 a4;omega)
    | (have hk:=Ld (show kidsN op=(if 1≤op∧op≤56 then (2,true) else (0,false)) by
        simp only[decide_eq_true_eq,decide_eq_false_iff_not] at a1 a2 a3 a4
        unfold kidsN;rw[if_neg (by omega),if_neg (by omega),if_neg (by omega)])
       clear h h1
       go_enter Tryz.func180,Tryz.ntmps180
       go_wp2_with fail
       go_ret2
       refine⟨?_,rfl⟩
       rw[hk.out]
       simp only[decide_eq_true_eq,decide_eq_false_iff_not] at a3 a4
       first
       | (rw[if_pos ⟨a3,a4⟩];rfl)
       | (rw[if_neg (by omega)];rfl))
def binderB (op:Int):Bool:=op==8||op==9||op==55||op==56
theorem binder_any (op:Int) (w:World):
  Calls Tryz.prog 100 #[.int .i64 op] w fun e w'=>e=.returned (.bool (binderB op))∧w=w':=by
 cases h1:(op==8) <;> cases h2:(op==9) <;> cases h3:(op==55) <;> cases h4:(op==56)
 all_goals
  have hk:=Ld (show binderB op=_ by unfold binderB;rw[h1,h2,h3,h4])
  go_enter Tryz.func100,Tryz.ntmps100
  go_wp2_with fail
  go_ret
  exact⟨by rw[hk.out];rfl,rfl⟩
def fns:List (List UInt8):=[[80,79,87],[99,97,114,100],[109,105,110],[109,97,120],[100,111,109],[114,97,110]]
def functionN (s:ByteArray):Int:=if s.toList∈fns then 46+fns.idxOf s.toList else 0
theorem function_any (s:ByteArray) (w:World):
  Calls Tryz.prog 202 #[.string s] w fun e w'=>e=.returned (.int .i64 (functionN s))∧w=w':=by
 cases h0:(s.toList==[80,79,87]) 
 case true=>
  have hk:=Ld (show functionN s=46 by unfold functionN;rw[eq_of_beq h0];rfl)
  go_enter Tryz.func202,Tryz.ntmps202
  go_wp2_with fail
  go_ret
  exact⟨by rw[hk.out];rfl,rfl⟩
 cases h1:(s.toList==[99,97,114,100]) 
 case true=>
  have hk:=Ld (show functionN s=47 by unfold functionN;rw[eq_of_beq h1];rfl)
  go_enter Tryz.func202,Tryz.ntmps202
  go_wp2_with fail
  go_ret
  exact⟨by rw[hk.out];rfl,rfl⟩
 cases h2:(s.toList==[109,105,110]) 
 case true=>
  have hk:=Ld (show functionN s=48 by unfold functionN;rw[eq_of_beq h2];rfl)
  go_enter Tryz.func202,Tryz.ntmps202
  go_wp2_with fail
  go_ret
  exact⟨by rw[hk.out];rfl,rfl⟩
 cases h3:(s.toList==[109,97,120]) 
 case true=>
  have hk:=Ld (show functionN s=49 by unfold functionN;rw[eq_of_beq h3];rfl)
  go_enter Tryz.func202,Tryz.ntmps202
  go_wp2_with fail
  go_ret
  exact⟨by rw[hk.out];rfl,rfl⟩
 cases h4:(s.toList==[100,111,109]) 
 case true=>
  have hk:=Ld (show functionN s=50 by unfold functionN;rw[eq_of_beq h4];rfl)
  go_enter Tryz.func202,Tryz.ntmps202
  go_wp2_with fail
  go_ret
  exact⟨by rw[hk.out];rfl,rfl⟩
 cases h5:(s.toList==[114,97,110]) 
 case true=>
  have hk:=Ld (show functionN s=51 by unfold functionN;rw[eq_of_beq h5];rfl)
  go_enter Tryz.func202,Tryz.ntmps202
  go_wp2_with fail
  go_ret
  exact⟨by rw[hk.out];rfl,rfl⟩
 have hk:=Ld (show functionN s=0 by
  unfold functionN fns;rw[if_neg]
  simp only[beq_eq_false_iff_ne,ne_eq] at h0 h1 h2 h3 h4 h5
  simp only[List.mem_cons,List.not_mem_nil,h0,h1,h2,h3,h4,h5,or_self,not_false_eq_true])
 go_enter Tryz.func202,Tryz.ntmps202
 go_wp2_with fail
 go_ret
 exact⟨by rw[hk.out];rfl,rfl⟩
inductive Db where
 | fv (s:ByteArray)
 | bv (i:Nat)
 | nd (op N:Int) (ty:Ty) (l:List Db)
def upR (r:Nat→Nat):Nat→Nat
 | 0=>0
 | i+1=>r i+1
mutual
def ren (r:Nat→Nat):Db→Db
 | .fv s=>.fv s
 | .bv i=>.bv (r i)
 | .nd op N ty l=>.nd op N ty (rens (binderB op) r 0 l)
def rens (bi:Bool) (r:Nat→Nat):Nat→List Db→List Db
 | _,[]=>[]
 | i,d::l=>ren (if bi&&i==1 then upR r else r) d::rens bi r (i+1) l
end
def upE (nm:ByteArray) (ρ:ByteArray→Db):ByteArray→Db:=fun s=>if s=nm then .bv 0 else ren Nat.succ (ρ s)
mutual
def ev (ρ:ByteArray→Db):Tm→Db
 | .mk op nm N ty l=>if op=20 then ρ nm else .nd op N ty (evs (binderB op) nm ρ 0 l)
def evs (bi:Bool) (nm:ByteArray) (ρ:ByteArray→Db):Nat→List Tm→List Db
 | _,[]=>[]
 | i,t::l=>ev (if bi&&i==1 then upE nm ρ else ρ) t::evs bi nm ρ (i+1) l
end
mutual
def fr:Tm→List ByteArray
 | .mk op nm _ _ l=>if op=20 then [nm] else frs (binderB op) nm 0 l
def frs (bi:Bool) (nm:ByteArray):Nat→List Tm→List ByteArray
 | _,[]=>[]
 | i,t::l=>(if bi&&i==1 then (fr t).filter (fun s=>!decide (s=nm)) else fr t)++frs bi nm (i+1) l
end
def mb (s:ByteArray) (l:List ByteArray):Bool:=l.any fun x=>decide (x=s)
theorem mb_iff (s:ByteArray) (l:List ByteArray):mb s l=true↔s∈l:=by
 unfold mb;rw[List.any_eq_true];constructor
 ·rintro⟨x,h1,h2⟩;rw[← of_decide_eq_true h2];exact h1
 ·intro h;exact⟨s,h,by simp⟩
theorem mb_app (s:ByteArray) (l r:List ByteArray):mb s (l++r)=(mb s l||mb s r):=by unfold mb;rw[List.any_append]
theorem ren_ren:∀ (d:Db) (r q:Nat→Nat),ren r (ren q d)=ren (fun i=>r (q i)) d:=by
 intro d
 induction d using Db.rec (motive_2:=fun l=>∀ (bi:Bool) (r q:Nat→Nat) (i:Nat),rens bi r i (rens bi q i l)=rens bi (fun i=>r (q i)) i l) with
 | fv s=>intro r q;rfl
 | bv i=>intro r q;rfl
 | nd op N ty l ih=>intro r q;rw[ren,ren,ren,ih]
 | nil=>rename_i bi r q i;rfl
 | cons d l ihd ihl=>
  rename_i bi r q i
  rw[rens,rens,rens,ihl]
  congr 1
  cases hb:(bi&&i==1)
  ·simp only[Bool.false_eq_true,if_false];exact ihd _ _
  ·simp only[if_true]
   rw[ihd]
   congr 1
   funext i
   cases i <;> rfl
theorem upE_ren (nm:ByteArray) (ρ:ByteArray→Db) (r:Nat→Nat):(fun s=>ren (upR r) (upE nm ρ s))=upE nm (fun s=>ren r (ρ s)):=by
 funext s
 unfold upE
 by_cases h:s=nm
 ·rw[if_pos h,if_pos h];rfl
 ·rw[if_neg h,if_neg h,ren_ren,ren_ren];rfl
theorem ren_ev:∀ (t:Tm) (ρ:ByteArray→Db) (r:Nat→Nat),ren r (ev ρ t)=ev (fun s=>ren r (ρ s)) t:=by
 intro t
 induction t using Tm.rec (motive_2:=fun l=>∀ (bi:Bool) (nm:ByteArray) (ρ:ByteArray→Db) (r:Nat→Nat) (i:Nat),rens bi r i (evs bi nm ρ i l)=evs bi nm (fun s=>ren r (ρ s)) i l) with
 | mk op nm N ty l ih=>
  intro ρ r
  rw[ev,ev]
  by_cases h:op=20
  ·rw[if_pos h,if_pos h]
  ·rw[if_neg h,if_neg h,ren,ih]
 | nil=>rename_i bi nm ρ r i;rfl
 | cons t l iht ihl=>
  rename_i bi nm ρ r i
  rw[evs,evs,rens,ihl]
  congr 1
  cases hb:(bi&&i==1)
  ·simp only[Bool.false_eq_true,if_false];exact iht _ _
  ·simp only[if_true]
   rw[iht,upE_ren]
theorem ev_cong:∀ (t:Tm) (ρ ρ':ByteArray→Db),(∀ s,s∈fr t→ρ s=ρ' s)→ev ρ t=ev ρ' t:=by
 intro t
 induction t using Tm.rec (motive_2:=fun l=>∀ (bi:Bool) (nm:ByteArray) (ρ ρ':ByteArray→Db) (i:Nat),(∀ s,s∈frs bi nm i l→ρ s=ρ' s)→evs bi nm ρ i l=evs bi nm ρ' i l) with
 | mk op nm N ty l ih=>
  intro ρ ρ' hh
  rw[fr] at hh
  rw[ev,ev]
  by_cases h:op=20
  ·rw[if_pos h] at hh
   rw[if_pos h,if_pos h];exact hh nm (by simp)
  ·rw[if_neg h] at hh
   rw[if_neg h,if_neg h,ih _ _ _ _ _ hh]
 | nil=>rfl
 | cons t l iht ihl=>
  rename_i bi nm ρ ρ' i hh
  rw[frs] at hh
  rw[evs,evs,ihl bi nm ρ ρ' (i+1) (fun s hs=>hh s (List.mem_append_right _ hs))]
  congr 1
  cases hb:(bi&&i==1)
  ·rw[hb] at hh
   simp only[Bool.false_eq_true,if_false] at hh ⊢
   exact iht _ _ (fun s hs=>hh s (List.mem_append_left _ hs))
  ·rw[hb] at hh
   simp only[if_true] at hh ⊢
   refine iht _ _ (fun s hs=>?_)
   unfold upE
   by_cases h:s=nm
   ·rw[if_pos h,if_pos h]
   ·rw[if_neg h,if_neg h,hh s (List.mem_append_left _ (List.mem_filter.2 ⟨hs,by simp[h]⟩))]
mutual
def szD:Db→Nat
 | .nd _ _ _ l=>szDs l+1
 | _=>1
def szDs:List Db→Nat
 | []=>0
 | d::l=>szD d+szDs l
end
mutual
def dpD:Db→Nat
 | .nd _ _ _ l=>dpDs l+1
 | _=>1
def dpDs:List Db→Nat
 | []=>0
 | d::l=>max (dpD d) (dpDs l)
end
theorem szD_ren:∀ (d:Db) (r:Nat→Nat),szD (ren r d)=szD d:=by
 intro d
 induction d using Db.rec (motive_2:=fun l=>∀ (bi:Bool) (r:Nat→Nat) (i:Nat),szDs (rens bi r i l)=szDs l) with
 | fv s=>intro r;rfl
 | bv i=>intro r;rfl
 | nd op N ty l ih=>intro r;rw[ren,szD,szD,ih]
 | nil=>rename_i bi r i;rfl
 | cons d l ihd ihl=>rename_i bi r i;rw[rens,szDs,szDs,ihd,ihl]
theorem dpD_ren:∀ (d:Db) (r:Nat→Nat),dpD (ren r d)=dpD d:=by
 intro d
 induction d using Db.rec (motive_2:=fun l=>∀ (bi:Bool) (r:Nat→Nat) (i:Nat),dpDs (rens bi r i l)=dpDs l) with
 | fv s=>intro r;rfl
 | bv i=>intro r;rfl
 | nd op N ty l ih=>intro r;rw[ren,dpD,dpD,ih]
 | nil=>rename_i bi r i;rfl
 | cons d l ihd ihl=>rename_i bi r i;rw[rens,dpDs,dpDs,ihd,ihl]
mutual
def tmN:Tm→Nat
 | .mk _ _ _ _ l=>tmNs l+1
def tmNs:List Tm→Nat
 | []=>0
 | t::l=>tmN t+tmNs l
end
mutual
def tmD:Tm→Nat
 | .mk _ _ _ _ l=>tmDs l+1
def tmDs:List Tm→Nat
 | []=>0
 | t::l=>max (tmD t) (tmDs l)
end
def look:List (ByteArray×Tm)→ByteArray→Option Tm
 | [],_=>none
 | b::l,s=>if b.1=s then some b.2 else look l s
theorem look_app (s:ByteArray) (l r:List (ByteArray×Tm)):look (l++r) s=(match look l s with | some u=>some u | none=>look r s):=by
 induction l with
 | nil=>rfl
 | cons b l ih=>
  rw[List.cons_append,look,look,ih]
  by_cases h:b.1=s
  ·rw[if_pos h,if_pos h]
  ·rw[if_neg h,if_neg h]
def remG (x:ByteArray) (F:List ByteArray):List (ByteArray×Tm)→List (ByteArray×Tm)→List (ByteArray×Tm)
 | out,[]=>out
 | out,b::l=>if (look out b.1).isSome||decide (b.1=x)||!mb b.1 F then remG x F out l else remG x F (out++[b]) l
def remL (l:List (ByteArray×Tm)) (x:ByteArray) (F:List ByteArray):List (ByteArray×Tm):=remG x F [] l
theorem remG_look (x:ByteArray) (F:List ByteArray) (s:ByteArray):∀ (l out:List (ByteArray×Tm)),look (remG x F out l) s=(match look out s with | some u=>some u | none=>if s=x∨mb s F=false then none else look l s)
 | [],out=>by
  rw[remG]
  cases h:look out s
  ·simp[look]
  ·rfl
 | b::l,out=>by
  rw[remG]
  split
  ·rename_i h
   rw[remG_look x F s l out]
   cases ho:look out s with
   | some u=>rfl
   | none=>
    simp only
    by_cases hs:s=x∨mb s F=false
    ·rw[if_pos hs,if_pos hs]
    ·rw[if_neg hs,if_neg hs,look]
     rw[if_neg ?_]
     intro e
     subst e
     simp only[Bool.or_eq_true,ho,Option.isSome_none,Bool.false_eq_true,false_or,decide_eq_true_eq,Bool.not_eq_true'] at h
     exact hs h
  ·rename_i h
   rw[remG_look x F s l (out++[b]),look_app]
   cases ho:look out s with
   | some u=>rfl
   | none=>
    simp only[look]
    simp only[Bool.or_eq_true,Bool.not_eq_true,not_or,decide_eq_true_eq,Bool.not_eq_true',Bool.not_eq_false] at h
    by_cases hb:b.1=s
    ·subst hb
     simp only[if_true]
     rw[if_neg (by rintro (e | e);exact h.1.2 e;rw[h.2] at e;cases e)]
    ·simp only[if_neg hb]
theorem remL_look (x:ByteArray) (F:List ByteArray) (s:ByteArray) (l:List (ByteArray×Tm)):look (remL l x F) s=if s=x∨mb s F=false then none else look l s:=by
 unfold remL;rw[remG_look];rfl
def frB:List (ByteArray×Tm)→List ByteArray
 | []=>[]
 | b::l=>fr b.2++frB l
theorem frB_mem {l:List (ByteArray×Tm)} {s x:ByteArray} {u:Tm} (h:look l s=some u) (hx:x∈fr u):x∈frB l:=by
 induction l with
 | nil=>cases h
 | cons b l ih=>
  rw[look] at h
  rw[frB]
  by_cases hb:b.1=s
  ·rw[if_pos hb] at h
   cases h
   exact List.mem_append_left _ hx
  ·rw[if_neg hb] at h
   exact List.mem_append_right _ (ih h)
def nameT (s:ByteArray):Tm:=.mk 20 s 0 ty0 []
section
variable (FS:ByteArray→List ByteArray→ByteArray)
def newN (x:ByteArray) (body:Tm) (l:List (ByteArray×Tm)):ByteArray:=
 if mb x (frB (remL l x (fr body))) then FS x (fr body++frB (remL l x (fr body))) else x
def inner (x:ByteArray) (body:Tm) (l:List (ByteArray×Tm)):List (ByteArray×Tm):=
 if mb x (frB (remL l x (fr body))) then remL l x (fr body)++[(x,nameT (newN FS x body l))] else remL l x (fr body)
mutual
def subT:Tm→List (ByteArray×Tm)→Tm
 | .mk op nm N ty ks,l=>
  if op=20 then (match look l nm with | some u=>u | none=>.mk op nm N ty ks)
  else if binderB op then .mk op (newN FS nm (ks.getD 1 (nameT nm)) l) N ty (subK true l (inner FS nm (ks.getD 1 (nameT nm)) l) 0 ks)
  else .mk op nm N ty (subK false l l 0 ks)
def subK (bi:Bool) (l inn:List (ByteArray×Tm)):Nat→List Tm→List Tm
 | _,[]=>[]
 | i,t::r=>subT t (if bi&&i==1 then inn else l)::subK bi l inn (i+1) r
end
end
def evB (ρ:ByteArray→Db) (l:List (ByteArray×Tm)):ByteArray→Db:=fun s=>match look l s with | some u=>ev ρ u | none=>ρ s
theorem nameT_ev (ρ:ByteArray→Db) (s:ByteArray):ev ρ (nameT s)=ρ s:=by unfold nameT;rw[ev,if_pos rfl]
theorem inner_ev {FS:ByteArray→List ByteArray→ByteArray} {x:ByteArray} {body:Tm} {l:List (ByteArray×Tm)} (hFS:mb x (frB (remL l x (fr body)))=true→mb (FS x (fr body++frB (remL l x (fr body)))) (fr body++frB (remL l x (fr body)))=false) (ρ:ByteArray→Db) (y:ByteArray) (hy:y∈fr body):
  evB (upE (newN FS x body l) ρ) (inner FS x body l) y=upE x (evB ρ l) y:=by
 have hyF:mb y (fr body)=true:=(mb_iff _ _).2 hy
 have key:∀ (z:ByteArray),(∀ u,look (remL l x (fr body)) y=some u→z ∉ fr u)→∀ u,look (remL l x (fr body)) y=some u→ev (upE z ρ) u=ren Nat.succ (ev ρ u):=by
  intro z hz u hu
  rw[ren_ev]
  apply ev_cong
  intro s hs
  unfold upE
  rw[if_neg]
  rintro rfl
  exact hz u hu hs
 unfold newN inner
 cases hc:mb x (frB (remL l x (fr body)))
 ·simp only[Bool.false_eq_true,if_false]
  unfold evB
  rw[remL_look]
  by_cases hyx:y=x
  ·rw[if_pos (Or.inl hyx)]
   unfold upE;rw[if_pos hyx,if_pos hyx]
  ·rw[if_neg (by rintro (e | e);exact hyx e;rw[hyF] at e;cases e)]
   have:upE x (fun s=>match look l s with | some u=>ev ρ u | none=>ρ s) y=ren Nat.succ (match look l y with | some u=>ev ρ u | none=>ρ y):=by unfold upE;rw[if_neg hyx]
   rw[this]
   cases hl:look l y with
   | none=>simp only;unfold upE;rw[if_neg hyx]
   | some u=>
    simp only
    refine key x (fun v hv hx=>?_) u (by rw[remL_look,if_neg (by rintro (e | e);exact hyx e;rw[hyF] at e;cases e),hl])
    have:=frB_mem hv hx
    rw[← mb_iff,hc] at this;cases this
 ·simp only[if_true]
  have hz:=hFS hc
  generalize hzz:FS x (fr body++frB (remL l x (fr body)))=z at *
  rw[mb_app,Bool.or_eq_false_iff] at hz
  unfold evB
  rw[look_app,remL_look]
  by_cases hyx:y=x
  ·rw[if_pos (Or.inl hyx)]
   simp only[look]
   rw[if_pos hyx.symm]
   simp only
   rw[nameT_ev]
   have e2:newN FS x body l=z:=by unfold newN;rw[if_pos hc];exact hzz
   rw[e2]
   unfold upE;rw[if_pos hyx,if_pos rfl]
  ·rw[if_neg (by rintro (e | e);exact hyx e;rw[hyF] at e;cases e)]
   have:upE x (fun s=>match look l s with | some u=>ev ρ u | none=>ρ s) y=ren Nat.succ (match look l y with | some u=>ev ρ u | none=>ρ y):=by unfold upE;rw[if_neg hyx]
   rw[this]
   cases hl:look l y with
   | none=>
    simp only[look]
    rw[if_neg (Ne.symm hyx)]
    simp only
    unfold upE;rw[if_neg]
    rintro rfl
    rw[hyF] at hz;cases hz.1
   | some u=>
    simp only
    refine key z (fun v hv hx=>?_) u (by rw[remL_look,if_neg (by rintro (e | e);exact hyx e;rw[hyF] at e;cases e),hl])
    have:=frB_mem hv hx
    rw[← mb_iff,hz.2] at this;cases this
def GoodFS (FS:ByteArray→List ByteArray→ByteArray) (M:Nat):Prop:=∀ x U,U.length≤M→mb (FS x U) U=false
theorem frs_len:∀ (t:Tm),(fr t).length≤tmN t:=by
 intro t
 induction t using Tm.rec (motive_2:=fun l=>∀ (bi:Bool) (nm:ByteArray) (i:Nat),(frs bi nm i l).length≤tmNs l) with
 | mk op nm N ty l ih=>
  rw[fr,tmN]
  split
  ·simp
  ·have:=ih (binderB op) nm 0;omega
 | nil=>rename_i bi nm i;exact Nat.le_refl _
 | cons t l iht ihl=>
  rename_i bi nm i
  rw[frs,tmNs,List.length_append]
  have:=ihl bi nm (i+1)
  split
  ·have:=List.length_filter_le (fun s=>!decide (s=nm)) (fr t);omega
  ·omega
theorem frB_app (a b:List (ByteArray×Tm)):frB (a++b)=frB a++frB b:=by
 induction a with
 | nil=>rfl
 | cons c a ih=>rw[List.cons_append,frB,ih,frB,List.append_assoc]
theorem remG_len (x:ByteArray) (F:List ByteArray):∀ (l out:List (ByteArray×Tm)),(frB (remG x F out l)).length≤(frB out).length+(frB l).length
 | [],out=>by rw[remG];exact Nat.le_add_right _ _
 | b::l,out=>by
  rw[remG,frB,List.length_append]
  split
  ·have:=remG_len x F l out;omega
  ·have:=remG_len x F l (out++[b])
   rw[frB_app,List.length_append] at this
   have e:(frB [b]).length=(fr b.2).length:=by rw[frB,frB,List.append_nil]
   omega
theorem remL_len (x:ByteArray) (F:List ByteArray) (l:List (ByteArray×Tm)):(frB (remL l x F)).length≤(frB l).length:=by
 have:=remG_len x F l []
 unfold remL
 exact Nat.le_trans this (by show 0+_≤_;omega)
theorem fr_nameT (s:ByteArray):fr (nameT s)=[s]:=by unfold nameT;rw[fr,if_pos rfl]
theorem inner_len (FS:ByteArray→List ByteArray→ByteArray) (x:ByteArray) (body:Tm) (l:List (ByteArray×Tm)):(frB (inner FS x body l)).length≤(frB l).length+1:=by
 have:=remL_len x (fr body) l
 unfold inner
 split
 ·rw[frB_app,List.length_append,frB,frB,fr_nameT];simp;omega
 ·omega
theorem ev_sub {FS:ByteArray→List ByteArray→ByteArray} {M:Nat} (hFS:GoodFS FS M):∀ (t:Tm) (l:List (ByteArray×Tm)) (ρ:ByteArray→Db),tmN t+(frB l).length≤M→ev ρ (subT FS t l)=ev (evB ρ l) t:=by
 intro t
 induction t using Tm.rec (motive_2:=fun ks=>∀ (bi:Bool) (nm z:ByteArray) (l inn:List (ByteArray×Tm)) (ρ:ByteArray→Db) (i:Nat),tmNs ks+(frB l).length≤M→(∀ (j:Nat) (t:Tm),ks[j]?=some t→(bi&&(i+j)==1)=true→tmN t+(frB inn).length≤M∧∀ s,s∈fr t→evB (upE z ρ) inn s=upE nm (evB ρ l) s)→evs bi z ρ i (subK FS bi l inn i ks)=evs bi nm (evB ρ l) i ks) with
 | mk op nm N ty ks ih=>
  intro l ρ hM
  rw[tmN] at hM
  rw[subT]
  by_cases h:op=20
  ·rw[if_pos h]
   rw[ev,if_pos h]
   unfold evB
   cases look l nm with
   | none=>simp only;rw[ev,if_pos h]
   | some u=>rfl
  ·rw[if_neg h]
   cases hb:binderB op
   ·simp only[Bool.false_eq_true,if_false]
    rw[ev,ev,if_neg h,if_neg h,hb,ih false nm nm l l ρ 0 (by omega) (fun j t _ e=>by cases e)]
   ·simp only[if_true]
    rw[ev,ev,if_neg h,if_neg h,hb,ih true nm (newN FS nm (ks.getD 1 (nameT nm)) l) l (inner FS nm (ks.getD 1 (nameT nm)) l) ρ 0 (by omega) (fun j t hj e=>?_)]
    have hj1:j=1:=by simpa using e
    subst hj1
    have e:ks.getD 1 (nameT nm)=t:=by rw[List.getD_eq_getElem?_getD,hj];rfl
    rw[e]
    have hle:tmN t≤tmNs ks:=by
     have:∀ (ks:List Tm) (i:Nat),ks[i]?=some t→tmN t≤tmNs ks:=by
      intro ks
      induction ks with
      | nil=>intro i h;simp at h
      | cons a ks ih=>
       intro i h
       rw[tmNs]
       cases i with
       | zero=>simp at h;subst h;omega
       | succ i=>have:=ih i (by simpa using h);omega
     exact this ks 1 hj
    refine⟨by have:=inner_len FS nm t l;omega,fun s hs=>inner_ev (fun _=>hFS _ _ ?_) ρ s hs⟩
    rw[List.length_append]
    have h1:=frs_len t
    have h2:=remL_len nm (fr t) l
    omega
 | nil=>rfl
 | cons t ks iht ihl=>
  rename_i bi nm z l inn ρ i hM hin
  rw[tmNs] at hM
  rw[subK,evs,evs,ihl bi nm z l inn ρ (i+1) (by omega) (fun j t hj e=>hin (j+1) t (by simpa using hj) (by rw[show i+(j+1)=i+1+j by omega];exact e))]
  congr 1
  cases hb:(bi&&i==1)
  ·simp only[Bool.false_eq_true,if_false];exact iht _ _ (by omega)
  ·simp only[if_true]
   obtain⟨h1,h2⟩:=hin 0 t rfl (by rw[Nat.add_zero];exact hb)
   rw[iht _ _ h1]
   exact ev_cong _ _ _ h2
mutual
def tyEq:Ty→Ty→Bool
 | .mk k n l,.mk k' n' l'=>decide (k=k')&&decide (n=n')&&tysEq l l'
def tysEq:List Ty→List Ty→Bool
 | [],[]=>true
 | t::l,t'::l'=>tyEq t t'&&tysEq l l'
 | _,_=>false
end
theorem tyEq_iff:∀ (a b:Ty),tyEq a b=true↔a=b:=by
 intro a
 induction a using Ty.rec (motive_2:=fun l=>∀ l',tysEq l l'=true↔l=l') with
 | mk k n l ih=>
  intro b
  cases b with
  | mk k' n' l'=>
   simp only[tyEq,Bool.and_eq_true,decide_eq_true_eq,ih l',Ty.mk.injEq]
   constructor
   ·rintro⟨⟨a,b⟩,c⟩;exact⟨a,b,c⟩
   ·rintro⟨a,b,c⟩;exact⟨⟨a,b⟩,c⟩
 | nil=>rename_i l';cases l' <;> simp[tysEq]
 | cons t l iht ihl=>
  rename_i l'
  cases l' with
  | nil=>simp[tysEq]
  | cons t' l'=>simp only[tysEq,Bool.and_eq_true,iht,ihl,List.cons.injEq]
mutual
def tmEq:Tm→Tm→Bool
 | .mk o n N t l,.mk o' n' N' t' l'=>decide (o=o')&&decide (n=n')&&decide (N=N')&&tyEq t t'&&tmsEq l l'
def tmsEq:List Tm→List Tm→Bool
 | [],[]=>true
 | t::l,t'::l'=>tmEq t t'&&tmsEq l l'
 | _,_=>false
end
theorem tmEq_iff:∀ (a b:Tm),tmEq a b=true↔a=b:=by
 intro a
 induction a using Tm.rec (motive_2:=fun l=>∀ l',tmsEq l l'=true↔l=l') with
 | mk o n N t l ih=>
  intro b
  cases b with
  | mk o' n' N' t' l'=>
   simp only[tmEq,Bool.and_eq_true,decide_eq_true_eq,ih l',Tm.mk.injEq,tyEq_iff]
   constructor
   ·rintro⟨⟨⟨⟨a,b⟩,c⟩,d⟩,e⟩;exact⟨a,b,c,d,e⟩
   ·rintro⟨a,b,c,d,e⟩;exact⟨⟨⟨⟨a,b⟩,c⟩,d⟩,e⟩
 | nil=>rename_i l';cases l' <;> simp[tmsEq]
 | cons t l iht ihl=>
  rename_i l'
  cases l' with
  | nil=>simp[tmsEq]
  | cons t' l'=>simp only[tmsEq,Bool.and_eq_true,iht,ihl,List.cons.injEq]
inductive NW:Tm→Prop
 | mk {op:Int} {nm:ByteArray} {N:Int} {ty:Ty} {l:List Tm} (h:op=20→N=0∧ty=ty0∧l=[]) (hl:∀ t,t∈l→NW t):NW (.mk op nm N ty l)
theorem ev_size:∀ (t:Tm) (ρ:ByteArray→Db),NW t→(∀ s,szD (ρ s)=1)→szD (ev ρ t)=tmN t:=by
 intro t
 induction t using Tm.rec (motive_2:=fun l=>∀ (bi:Bool) (nm:ByteArray) (ρ:ByteArray→Db) (i:Nat),(∀ t,t∈l→NW t)→(∀ s,szD (ρ s)=1)→szDs (evs bi nm ρ i l)=tmNs l) with
 | mk op nm N ty l ih=>
  intro ρ h1 h2
  cases h1 with
  | mk h1 hl=>
   rw[ev,tmN]
   by_cases h:op=20
   ·rw[if_pos h,(h1 h).2.2,h2];rfl
   ·rw[if_neg h,szD,ih _ _ _ _ hl h2]
 | nil=>rfl
 | cons t l iht ihl=>
  rename_i bi nm ρ i h1 h2
  rw[evs,szDs,tmNs,ihl bi nm ρ (i+1) (fun t ht=>h1 t (List.mem_cons_of_mem _ ht)) h2,iht _ (h1 t (by simp)) ?_]
  intro s
  split
  ·unfold upE
   split
   ·rfl
   ·rw[szD_ren];exact h2 s
  ·exact h2 s
theorem ev_depth:∀ (t:Tm) (ρ:ByteArray→Db),NW t→(∀ s,dpD (ρ s)=1)→dpD (ev ρ t)=tmD t:=by
 intro t
 induction t using Tm.rec (motive_2:=fun l=>∀ (bi:Bool) (nm:ByteArray) (ρ:ByteArray→Db) (i:Nat),(∀ t,t∈l→NW t)→(∀ s,dpD (ρ s)=1)→dpDs (evs bi nm ρ i l)=tmDs l) with
 | mk op nm N ty l ih=>
  intro ρ h1 h2
  cases h1 with
  | mk h1 hl=>
   rw[ev,tmD]
   by_cases h:op=20
   ·rw[if_pos h,(h1 h).2.2,h2];rfl
   ·rw[if_neg h,dpD,ih _ _ _ _ hl h2]
 | nil=>rfl
 | cons t l iht ihl=>
  rename_i bi nm ρ i h1 h2
  rw[evs,dpDs,tmDs,ihl bi nm ρ (i+1) (fun t ht=>h1 t (List.mem_cons_of_mem _ ht)) h2,iht _ (h1 t (by simp)) ?_]
  intro s
  split
  ·unfold upE
   split
   ·rfl
   ·rw[dpD_ren];exact h2 s
  ·exact h2 s
def NmL (ok:Nat→Prop) (w:World) (l:List ByteArray) (v:Value):Prop:=
 ∃ a n c,v=.slice a n c∧n=l.length∧n≤c∧(a=none→c=0)∧∀ i (h:i<l.length),∃ g off,a=some ⟨g,off,none⟩∧ok g∧w.cell? ⟨g,off+i,none⟩=some (.string l[i])
theorem NmL.nil {ok:Nat→Prop} {w:World}:NmL ok w [] (.slice none 0 0):=⟨none,0,0,rfl,rfl,Nat.le_refl _,fun _=>rfl,fun i h=>absurd h (Nat.not_lt_zero _)⟩
theorem NmL.frame {ok:Nat→Prop} {w W:World} {l:List ByteArray} {v:Value} (h:NmL ok w l v) (hs:Same ok w W):NmL ok W l v:=by
 obtain⟨a,n,c,h1,h2,h3,h5,h4⟩:=h
 refine⟨a,n,c,h1,h2,h3,h5,fun i hi=>?_⟩
 obtain⟨g,off,e,hg,hc⟩:=h4 i hi
 exact⟨g,off,e,hg,hs.cell hg hc⟩
theorem NmL.mono {ok ok':Nat→Prop} {w:World} {l:List ByteArray} {v:Value} (h:NmL ok w l v) (ho:∀ k,k<w.heap.size→ok k→ok' k):NmL ok' w l v:=by
 obtain⟨a,n,c,h1,h2,h3,h5,h4⟩:=h
 refine⟨a,n,c,h1,h2,h3,h5,fun i hi=>?_⟩
 obtain⟨g,off,e,hg,hc⟩:=h4 i hi
 exact⟨g,off,e,ho _ (cell_lt hc) hg,hc⟩
theorem NmL.slice {ok:Nat→Prop} {w:World} {l:List ByteArray} {v:Value} (h:NmL ok w l v):∃ a c,v=.slice a l.length c:=by
 obtain⟨a,n,c,h1,h2,_⟩:=h
 exact⟨a,c,by rw[h1,h2]⟩
theorem NmL.at {ok:Nat→Prop} {w:World} {l:List ByteArray} {a:Option Addr} {n c:Nat} (h:NmL ok w l (.slice a n c)) (i:Nat) (hi:i<l.length):∃ g off,a=some ⟨g,off,none⟩∧ok g∧w.cell? ⟨g,off+i,none⟩=some (.string l[i]):=by
 obtain⟨a',n',c',h1,h2,h3,h5,h4⟩:=h
 cases h1
 exact h4 i hi
theorem nm_eq {a b:ByteArray}:(a.toList==b.toList)=decide (a=b):=by
 rw[Bool.eq_iff_iff];simp only[beq_iff_eq,decide_eq_true_eq]
 rw[Go.ByteArray.toList_eq,Go.ByteArray.toList_eq]
 exact⟨fun h=>ByteArray.ext (Array.toList_inj.1 h),fun h=>by rw[h]⟩
def Src (w:World) (x:Value) (m:Nat) (news:List Value):Prop:=(x=.slice none 0 0∧m=0∧news=[])∨∃ ad c,x=.slice (some ad) m c∧∀ j u,news[j]?=some u→w.cell? (ad.add j)=some u
theorem wpList_app_src {P:Program} {w:World} {ops:Array Oper} {rest:List Oper} {o:Oper} {a:Act} {Q:Exit→Act→World→Prop} (hgd:o.guard=none) (s x:Operand) (t:TypeId)
  (ho:o.op=.call { callee:=.builtin .append,args:=#[s,x],argTypes:=#[t,t] })
  (base:Nat) (e:TypeId) (i:TypeInfo) (z:Value) (size bytes:Nat) (ht:P.underlying t=some (.slice e)) (hi:P.info? e=some i) (hz:i.zero=some z)
  (hsize:i.size=size) (hby:i.bytes=bytes) (hzs:z.cells.size=size) (hsz:0<size)
  (v:Value) (n:Nat) (xs:List Value) (hs:a.eval s=v) (hown:w.ownsRow base e size v n xs)
  (u:Value) (m:Nat) (news:List Value) (hx:a.eval x=u) (hsrc:Src w u m news) (hl:news.length=m*size) (h1:∀ u∈news,u.oneCell'=true)
  (h63:n+m≤maxLen) (hbytes:(n+m)*bytes≤140737488355328) (hbase:base≤w.heap.size)
  (h:∀ v' w',w'.ownsRow base e size v' (n+m) (xs++news)→w.grownBy w' v.ownBlock→(v'.ownBlock=v.ownBlock∨v'.ownBlock=some w.heap.size)→wpList P ops Q rest (a.put o.dst v') w'):wpList P ops Q (o::rest) a w:=by
 rcases hsrc with ⟨rfl,rfl,rfl⟩ | ⟨ad,c,rfl,hc⟩
 ·exact wpList_append_own_none hgd s x t ho base e i size ht hi v n xs hs hown hx (h v w (by simpa using hown) (World.grownBy.refl w _) (.inl rfl))
 ·exact wpList_append_own_at w hgd s x t ho base e i z size bytes ht hi hz hsize hby hzs hsz v n xs hs hown ad m c news hx hl hc h1 h63 hbytes hbase (fun v' w' h2 h3 _ h5=>h v' w' h2 h3 h5)
theorem NmL.src {ok:Nat→Prop} {w:World} {l:List ByteArray} {v:Value} (h:NmL ok w l v):Src w v l.length (l.map Value.string):=by
 obtain⟨a,n,c,rfl,rfl,h3,h5,h4⟩:=h
 cases a with
 | none=>
  have hc:=h5 rfl
  subst hc
  have hl:l=[]:=List.length_eq_zero_iff.1 (by omega)
  subst hl
  exact .inl ⟨rfl,rfl,rfl⟩
 | some ad=>
  refine .inr ⟨ad,c,rfl,fun j u hu=>?_⟩
  have hj:j<l.length:=by
   have:=(List.getElem?_eq_some_iff.1 hu).1
   simpa using this
  obtain⟨g,off,e,_,hc⟩:=h4 j hj
  cases e
  rw[List.getElem?_map,List.getElem?_eq_getElem hj] at hu
  cases hu
  have e:(⟨g,off,none⟩:Addr).add j=⟨g,off+j,none⟩:=by unfold Addr.add;split <;> simp_all
  rw[e];exact hc
theorem NmL.of_own {ok:Nat→Prop} {w:World} {base:Nat} {l:List ByteArray} {v:Value} (h:w.ownsRow base 9 1 v l.length (l.map Value.string)) (hok:∀ g,v.ownBlock=some g→ok g):NmL ok w l v:=by
 rcases h.2 with ⟨rfl,hn⟩ | ⟨g,cap,cur,rfl,hbg,hg,hnc,hcm,hcs,htake⟩
 ·have:l=[]:=List.length_eq_zero_iff.1 hn
  subst this;exact .nil
 ·refine⟨some ⟨g,0,none⟩,l.length,cap,rfl,rfl,by omega,(fun e=>by cases e),fun i hi=>⟨g,0,rfl,hok g rfl,?_⟩⟩
  have hb:Blk w g 9 cur.toList:=by show w.heap[g]?=_;rw[hg]
  have h1:(cur.toList.take (l.length*1))[i]?=(l.map Value.string)[i]?:=by rw[htake]
  rw[List.getElem?_take,if_pos (by omega),List.getElem?_map,List.getElem?_eq_getElem hi] at h1
  rw[hb.cell,Nat.zero_add];exact h1
theorem kept_grown1 {w w':World} {row:Option Nat} (h:w.grownBy w' row):Kept (fun k=>row=some k) w w':=⟨h.os,h.tape,h.output,h.size,fun k hk hn=>h.block k hk (fun e=>hn e.symm)⟩
theorem Kept.via1 {S S':Nat→Prop} {w w1 w2:World} (h:Kept S w w1) (k:Kept S' w1 w2) (hS:∀ x,x<w.heap.size→S' x→S x):Kept S w w2:=
 ⟨k.os.trans h.os,k.tape.trans h.tape,k.output.trans h.output,Nat.le_trans h.size k.size,fun i hi hs=>(k.block i (Nat.lt_of_lt_of_le hi h.size) (fun q=>hs (hS i hi q))).trans (h.block i hi hs)⟩
structure NRow (w:World) (base:Nat) (W:World) (l:List ByteArray) (v:Value):Prop where
 kp:Kept (fun _=>False) w W
 own:W.ownsRow base 9 1 v l.length (l.map Value.string)
theorem NRow.nml {w W:World} {base:Nat} {l:List ByteArray} {v:Value} (h:NRow w base W l v):NmL (fun q=>base≤q) W l v:=.of_own h.own (fun g hg=>(h.own.lt g hg).1)
theorem NRow.app {w W W8:World} {base:Nat} {l r:List ByteArray} {v v':Value} (h:NRow w base W l v) (hb:w.heap.size≤base) (own8:W8.ownsRow base 9 1 v' (l.length+r.length) (l.map Value.string++r.map Value.string)) (hgrow:W.grownBy W8 v.ownBlock):NRow w base W8 (l++r) v':=by
 refine⟨h.kp.via1 (kept_grown1 hgrow) (fun x hx e=>by have:=(h.own.lt x e).1;omega),?_⟩
 rw[List.length_append,List.map_append];exact own8
end Go.Proofs.YtdmebjbkccjhbaaGreatDoor
namespace Go.Proofs.YtdmebjbkccjhbaaGreatDoor
open Go.RowKit Go.Shelf
attribute [local go_sem] Oper.semAt_some
end Go.Proofs.YtdmebjbkccjhbaaGreatDoor
