/- A part. -/
import Derived.Test.YtdmebjbkccjhbaaGreatDoorProg
import Derived.WalkKit
import Derived.WalkSpells
import Derived.WalkLawsBesides
import Derived.Lib.Hide
import Derived.Maps.RangeWalk
import Derived.Maps.Own
import Derived.Deep.AppendLies
import Derived.Deep.RegionLaw
import Derived.Deep.CutBlock
import Derived.Laws.AppendOwnNone
import Derived.Shelf.SlIter.Collect
set_option linter.unusedVariables false
set_option linter.unusedSimpArgs false
set_option maxRecDepth 100000
set_option maxHeartbeats 32000000
namespace Go.Proofs.YtdmebjbkccjhbaaGreatDoor
open Go.RowKit
theorem Ld {p:Prop} (h:p):RowKit.Hid p:=Lib.hid h
abbrev Z7:Obj:=.cells #[.int .i64 0,.string ⟨#[]⟩,.int .i64 0,.int .i64 0,.string ⟨#[]⟩,.slice none 0 0,.slice none 0 0] 27
theorem cR {P:Program} {f:Nat} {a:Array Value} {w:World} {v:Value} (h:Calls P f a w fun e w'=>e=.returned v∧w=w') {R:Ending→World→Prop} (k:R (.returned v) w):Calls P f a w R:=h.mono (by rintro e w' ⟨rfl,rfl⟩;exact k)
def kws:List (List UInt8):=[[116,114,117,101],[102,97,108,115,101],[110,111,116],[111,114],[102,111,114,97,108,108],[101,120,105,115,116,115],[105,110],[110,111,116,105,110],[115,117,98],[109,111,100],[102,117,110],[99,97,114,100],[109,105,110],[109,97,120],[100,111,109],[114,97,110],[80,79,87],[105,110,116],[98,111,111,108],[115,101,116],[112,97,105,114]]
def keywordB (s:ByteArray):Bool:=kws.contains s.toList
def letterB (c:Int):Bool:=(decide (97≤c)&&decide (c≤122))||(decide (65≤c)&&decide (c≤90))
def digitB (c:Int):Bool:=decide (48≤c)&&decide (c≤57)
def inWordB (c:Int):Bool:=letterB c||digitB c||c==95
theorem letter_any (c:Int) (w:World):
  Calls Tryz.prog 132 #[.int .u8 c] w fun e w'=>e=.returned (.bool (letterB c))∧w=w':=by
 cases h1:decide (97≤c) <;> cases h2:decide (c≤122) <;> cases h3:decide (65≤c) <;> cases h4:decide (c≤90)
 all_goals
  have hk:=Ld (show letterB c=_ by unfold letterB;rw[h1,h2,h3,h4])
  go_enter Tryz.func132,Tryz.ntmps132
  go_wp2_with fail
  go_ret
  exact⟨by rw[hk.out];rfl,rfl⟩
theorem digit_any (c:Int) (w:World):
  Calls Tryz.prog 158 #[.int .u8 c] w fun e w'=>e=.returned (.bool (digitB c))∧w=w':=by
 cases h1:decide (48≤c) <;> cases h2:decide (c≤57)
 all_goals
  have hk:=Ld (show digitB c=_ by unfold digitB;rw[h1,h2])
  go_enter Tryz.func158,Tryz.ntmps158
  go_wp2_with fail
  go_ret
  exact⟨by rw[hk.out];rfl,rfl⟩
theorem inWord_any (c:Int) (w:World):
  Calls Tryz.prog 133 #[.int .u8 c] w fun e w'=>e=.returned (.bool (inWordB c))∧w=w':=by
 cases h1:letterB c <;> cases h2:digitB c <;> cases h3:(c==95)
 all_goals
  have hk:=Ld (show inWordB c=_ by unfold inWordB;rw[h1,h2,h3])
  go_enter Tryz.func133,Tryz.ntmps133
  go_wp2_with (first | (go_at_call 132;refine (letter_any _ _).mono ?_;rintro e w' ⟨rfl,rfl⟩) | (go_at_call 158;refine (digit_any _ _).mono ?_;rintro e w' ⟨rfl,rfl⟩))
  go_ret
  exact⟨by rw[hk.out];rfl,rfl⟩
theorem keyword_any (s:ByteArray) (w:World):
  Calls Tryz.prog 39 #[.string s] w fun e w'=>e=.returned (.bool (keywordB s))∧w=w':=by
 cases h0:(s.toList==[116,114,117,101])
 case true=>
  have hk:=Ld (show keywordB s=true by simp only[keywordB,kws];rw[eq_of_beq h0];rfl)
  go_enter Tryz.func39,Tryz.ntmps39
  go_wp2_with fail
  go_ret
  exact⟨by rw[hk.out];rfl,rfl⟩
 cases h1:(s.toList==[102,97,108,115,101])
 case true=>
  have hk:=Ld (show keywordB s=true by simp only[keywordB,kws];rw[eq_of_beq h1];rfl)
  go_enter Tryz.func39,Tryz.ntmps39
  go_wp2_with fail
  go_ret
  exact⟨by rw[hk.out];rfl,rfl⟩
 cases h2:(s.toList==[110,111,116])
 case true=>
  have hk:=Ld (show keywordB s=true by simp only[keywordB,kws];rw[eq_of_beq h2];rfl)
  go_enter Tryz.func39,Tryz.ntmps39
  go_wp2_with fail
  go_ret
  exact⟨by rw[hk.out];rfl,rfl⟩
 cases h3:(s.toList==[111,114])
 case true=>
  have hk:=Ld (show keywordB s=true by simp only[keywordB,kws];rw[eq_of_beq h3];rfl)
  go_enter Tryz.func39,Tryz.ntmps39
  go_wp2_with fail
  go_ret
  exact⟨by rw[hk.out];rfl,rfl⟩
 cases h4:(s.toList==[102,111,114,97,108,108])
 case true=>
  have hk:=Ld (show keywordB s=true by simp only[keywordB,kws];rw[eq_of_beq h4];rfl)
  go_enter Tryz.func39,Tryz.ntmps39
  go_wp2_with fail
  go_ret
  exact⟨by rw[hk.out];rfl,rfl⟩
 cases h5:(s.toList==[101,120,105,115,116,115])
 case true=>
  have hk:=Ld (show keywordB s=true by simp only[keywordB,kws];rw[eq_of_beq h5];rfl)
  go_enter Tryz.func39,Tryz.ntmps39
  go_wp2_with fail
  go_ret
  exact⟨by rw[hk.out];rfl,rfl⟩
 cases h6:(s.toList==[105,110])
 case true=>
  have hk:=Ld (show keywordB s=true by simp only[keywordB,kws];rw[eq_of_beq h6];rfl)
  go_enter Tryz.func39,Tryz.ntmps39
  go_wp2_with fail
  go_ret
  exact⟨by rw[hk.out];rfl,rfl⟩
 cases h7:(s.toList==[110,111,116,105,110])
 case true=>
  have hk:=Ld (show keywordB s=true by simp only[keywordB,kws];rw[eq_of_beq h7];rfl)
  go_enter Tryz.func39,Tryz.ntmps39
  go_wp2_with fail
  go_ret
  exact⟨by rw[hk.out];rfl,rfl⟩
 cases h8:(s.toList==[115,117,98])
 case true=>
  have hk:=Ld (show keywordB s=true by simp only[keywordB,kws];rw[eq_of_beq h8];rfl)
  go_enter Tryz.func39,Tryz.ntmps39
  go_wp2_with fail
  go_ret
  exact⟨by rw[hk.out];rfl,rfl⟩
 cases h9:(s.toList==[109,111,100])
 case true=>
  have hk:=Ld (show keywordB s=true by simp only[keywordB,kws];rw[eq_of_beq h9];rfl)
  go_enter Tryz.func39,Tryz.ntmps39
  go_wp2_with fail
  go_ret
  exact⟨by rw[hk.out];rfl,rfl⟩
 cases h10:(s.toList==[102,117,110])
 case true=>
  have hk:=Ld (show keywordB s=true by simp only[keywordB,kws];rw[eq_of_beq h10];rfl)
  go_enter Tryz.func39,Tryz.ntmps39
  go_wp2_with fail
  go_ret
  exact⟨by rw[hk.out];rfl,rfl⟩
 cases h11:(s.toList==[99,97,114,100])
 case true=>
  have hk:=Ld (show keywordB s=true by simp only[keywordB,kws];rw[eq_of_beq h11];rfl)
  go_enter Tryz.func39,Tryz.ntmps39
  go_wp2_with fail
  go_ret
  exact⟨by rw[hk.out];rfl,rfl⟩
 cases h12:(s.toList==[109,105,110])
 case true=>
  have hk:=Ld (show keywordB s=true by simp only[keywordB,kws];rw[eq_of_beq h12];rfl)
  go_enter Tryz.func39,Tryz.ntmps39
  go_wp2_with fail
  go_ret
  exact⟨by rw[hk.out];rfl,rfl⟩
 cases h13:(s.toList==[109,97,120])
 case true=>
  have hk:=Ld (show keywordB s=true by simp only[keywordB,kws];rw[eq_of_beq h13];rfl)
  go_enter Tryz.func39,Tryz.ntmps39
  go_wp2_with fail
  go_ret
  exact⟨by rw[hk.out];rfl,rfl⟩
 cases h14:(s.toList==[100,111,109])
 case true=>
  have hk:=Ld (show keywordB s=true by simp only[keywordB,kws];rw[eq_of_beq h14];rfl)
  go_enter Tryz.func39,Tryz.ntmps39
  go_wp2_with fail
  go_ret
  exact⟨by rw[hk.out];rfl,rfl⟩
 cases h15:(s.toList==[114,97,110])
 case true=>
  have hk:=Ld (show keywordB s=true by simp only[keywordB,kws];rw[eq_of_beq h15];rfl)
  go_enter Tryz.func39,Tryz.ntmps39
  go_wp2_with fail
  go_ret
  exact⟨by rw[hk.out];rfl,rfl⟩
 cases h16:(s.toList==[80,79,87])
 case true=>
  have hk:=Ld (show keywordB s=true by simp only[keywordB,kws];rw[eq_of_beq h16];rfl)
  go_enter Tryz.func39,Tryz.ntmps39
  go_wp2_with fail
  go_ret
  exact⟨by rw[hk.out];rfl,rfl⟩
 cases h17:(s.toList==[105,110,116])
 case true=>
  have hk:=Ld (show keywordB s=true by simp only[keywordB,kws];rw[eq_of_beq h17];rfl)
  go_enter Tryz.func39,Tryz.ntmps39
  go_wp2_with fail
  go_ret
  exact⟨by rw[hk.out];rfl,rfl⟩
 cases h18:(s.toList==[98,111,111,108])
 case true=>
  have hk:=Ld (show keywordB s=true by simp only[keywordB,kws];rw[eq_of_beq h18];rfl)
  go_enter Tryz.func39,Tryz.ntmps39
  go_wp2_with fail
  go_ret
  exact⟨by rw[hk.out];rfl,rfl⟩
 cases h19:(s.toList==[115,101,116])
 case true=>
  have hk:=Ld (show keywordB s=true by simp only[keywordB,kws];rw[eq_of_beq h19];rfl)
  go_enter Tryz.func39,Tryz.ntmps39
  go_wp2_with fail
  go_ret
  exact⟨by rw[hk.out];rfl,rfl⟩
 cases h20:(s.toList==[112,97,105,114])
 case true=>
  have hk:=Ld (show keywordB s=true by simp only[keywordB,kws];rw[eq_of_beq h20];rfl)
  go_enter Tryz.func39,Tryz.ntmps39
  go_wp2_with fail
  go_ret
  exact⟨by rw[hk.out];rfl,rfl⟩
 have hk:=Ld (show keywordB s=false by simp only[keywordB,kws,List.contains_cons,List.contains_nil,Bool.or_false,h0,h1,h2,h3,h4,h5,h6,h7,h8,h9,h10,h11,h12,h13,h14,h15,h16,h17,h18,h19,h20])
 go_enter Tryz.func39,Tryz.ntmps39
 go_wp2_with fail
 go_ret
 exact⟨by rw[hk.out];rfl,rfl⟩
structure Kept (S:Nat→Prop) (w w':World):Prop where
 os:w'.os=w.os
 tape:w'.tape=w.tape
 output:w'.output=w.output
 size:w.heap.size≤w'.heap.size
 block:∀ k,k<w.heap.size→¬ S k→w'.heap[k]?=w.heap[k]?
theorem Kept.refl (S:Nat→Prop) (w:World):Kept S w w:=⟨rfl,rfl,rfl,Nat.le_refl _,fun _ _ _=>rfl⟩
theorem Kept.trans {S:Nat→Prop} {a b c:World} (h:Kept S a b) (k:Kept S b c):Kept S a c:=
 ⟨k.os.trans h.os,k.tape.trans h.tape,k.output.trans h.output,Nat.le_trans h.size k.size,fun i hi hs=>(k.block i (Nat.lt_of_lt_of_le hi h.size) hs).trans (h.block i hi hs)⟩
theorem Kept.mono {S T:Nat→Prop} {w w':World} (h:Kept S w w') (hST:∀ k,k<w.heap.size→S k→T k):Kept T w w':=
 ⟨h.os,h.tape,h.output,h.size,fun k hk hs=>h.block k hk fun hS=>hs (hST k hk hS)⟩
theorem Kept.of_below {S:Nat→Prop} {w w':World} (h:Below w.heap.size w w'):Kept S w w':=
 ⟨h.os,h.tape,h.output,h.size,fun k hk _=>h.block k hk⟩
theorem Kept.below {w w':World} (h:Kept (fun _=>False) w w'):Below w.heap.size w w':=
 ⟨h.os,h.tape,h.output,h.size,fun k hk=>h.block k hk (fun h=>h)⟩
theorem Kept.drew {S:Nat→Prop} {a w:World} (h:Kept S a w):Kept S a w.drew:=⟨h.os,h.tape,h.output,h.size,h.block⟩
theorem Kept.drewN {S:Nat→Prop} {a w:World} (h:Kept S a w) (n:Nat):Kept S a (w.drewN n):=⟨h.os,h.tape,h.output,h.size,h.block⟩
theorem Kept.alloc {S:Nat→Prop} {a w:World} (h:Kept S a w) (o:Obj):Kept S a (w.alloc o):=
 h.trans ⟨rfl,rfl,rfl,by simp,fun k hk _=>Below.heap_alloc _ _ _ hk⟩
theorem Kept.setCell {S:Nat→Prop} {a w:World} (h:Kept S a w) {p:Addr} (hp:S p.block∨a.heap.size≤p.block) (u:Value):Kept S a (w.setCell p u):=by
 refine⟨h.os,h.tape,h.output,by simpa [World.setCell] using h.size,fun k hk hs=>?_⟩
 rw[Below.heap_setCell _ _ _ _ (by rintro rfl;rcases hp with hp | hp;exact hs hp;omega)]
 exact h.block k hk hs
theorem Kept.cell {S:Nat→Prop} {w w':World} (h:Kept S w w') {p:Addr} (hp:p.block<w.heap.size) (hs:¬ S p.block):w'.cell? p=w.cell? p:=World.cell?_of_block (w:=w) (h.block p.block hp hs)
def Blk (w:World) (b:Nat) (t:TypeId) (l:List Value):Prop:=w.heap[b]?=some (.cells l.toArray t (0,0))
theorem Blk.lt {w:World} {b:Nat} {t:TypeId} {l:List Value} (h:Blk w b t l):b<w.heap.size:=by
 have:w.heap[b]?≠none:=by rw[show w.heap[b]?=_ from h];simp
 exact Array.getElem?_eq_some_iff.1 (show w.heap[b]?=_ from h) |>.1
theorem Blk.cell {w:World} {b:Nat} {t:TypeId} {l:List Value} (h:Blk w b t l) (i:Nat):w.cell? ⟨b,i,none⟩=l[i]?:=by
 unfold World.cell?;rw[show w.heap[b]?=_ from h];simp
theorem Blk.frozen {w:World} {b:Nat} {t:TypeId} {l:List Value} (h:Blk w b t l) (i:Nat):w.frozen? ⟨b,i,none⟩=false:=by
 unfold World.frozen?;rw[show w.heap[b]?=_ from h];simp
theorem Blk.set {w:World} {b:Nat} {t:TypeId} {l:List Value} (h:Blk w b t l) (i:Nat) (v:Value):Blk (w.setCell ⟨b,i,none⟩ v) b t (l.set i v):=by
 unfold Blk World.setCell
 rw[Array.getElem?_modify,if_pos rfl,show w.heap[b]?=_ from h]
 simp
theorem Blk.set_other {w:World} {b:Nat} {t:TypeId} {l:List Value} (h:Blk w b t l) (p:Addr) (v:Value) (hp:b≠p.block):Blk (w.setCell p v) b t l:=by
 unfold Blk;rw[Below.heap_setCell _ _ _ _ hp];exact h
theorem Blk.alloc {w:World} {b:Nat} {t:TypeId} {l:List Value} (h:Blk w b t l) (o:Obj):Blk (w.alloc o) b t l:=by
 unfold Blk;rw[Below.heap_alloc _ _ _ h.lt];exact h
theorem Blk.new (w:World) (t:TypeId) (l:List Value):Blk (w.alloc (.cells l.toArray t)) w.heap.size t l:=by
 unfold Blk;show (w.heap.push _)[w.heap.size]?=_;simp
theorem Blk.drew {w:World} {b:Nat} {t:TypeId} {l:List Value} (h:Blk w b t l):Blk w.drew b t l:=h
theorem Blk.drewN {w:World} {b:Nat} {t:TypeId} {l:List Value} (h:Blk w b t l) (n:Nat):Blk (w.drewN n) b t l:=h
theorem Blk.kept {S:Nat→Prop} {w w':World} {b:Nat} {t:TypeId} {l:List Value} (h:Blk w b t l) (hk:Kept S w w') (hs:¬ S b):Blk w' b t l:=by
 unfold Blk;rw[hk.block b h.lt hs];exact h
theorem kR {S:Nat→Prop} {w:World}:Kept S w w:=Kept.refl S w
def heldE (v:Value):Option (DataW Value×List MemPlace):=some (.held v,[])
def kL (s:ByteArray):Lit:=.string s.data.toList
theorem kL_inj {s t:ByteArray} (h:kL s=kL t):s=t:=by
 unfold kL at h
 cases s with | mk s=>cases t with | mk t=>simp only[Lit.string.injEq] at h;rw[Array.toList_inj.1 h]
theorem kL_key (s:ByteArray):WideAt.IsKeyLit (kL s):=trivial
theorem k9:Maps.Keyed Tryz.prog 9:=Maps.string_keyed Tryz.underlying9
theorem k9_of {s:ByteArray} (h:s.size≤maxLen):keyOf Tryz.prog 9 (.string s)=some (kL s):=WideMaps.keyOf_string_mk Tryz.underlying9 h
theorem k9_inv {key:Value} {kl:Lit} (h:keyOf Tryz.prog 9 key=some kl):∃ s:ByteArray,key=.string s∧kl=kL s∧s.size≤maxLen:=by
 have e:=keyOf_string Tryz.underlying9 (v:=key)
 cases key with
 | string s=>
  rw[keyOf_string Tryz.underlying9] at h
  simp only[mapKey,Tryz.underlying9] at h
  split at h
  ·cases h;exact⟨s,rfl,rfl,by assumption⟩
  ·cases h
 | _=>
  rw[keyOf_string Tryz.underlying9] at h
  simp[mapKey,Tryz.underlying9] at h
structure Says (D:DataW Value) (f:ByteArray→Option Value):Prop where
 has:∀ s,Maps.has D (kL s)=(f s).isSome
 val:∀ s v,f s=some v→∀ z,D.atKey (kL s) z=.held v
def MapF (w:World) (b n:Nat) (f:ByteArray→Option Value):Prop:=∃ D:DataW Value,w.ownsMap Tryz.prog 9 heldE b n D∧Says D f
def updF (f:ByteArray→Option Value) (s:ByteArray) (v:Value):ByteArray→Option Value:=fun t=>if t=s then some v else f t
theorem Says.get {D:DataW Value} {f:ByteArray→Option Value} (h:Says D f) (s:ByteArray) (z:Value):D.atKey (kL s) (.held z)=.held ((f s).getD z):=by
 cases hf:f s with
 | none=>
  have:=h.has s
  rw[hf] at this
  exact Maps.atKey_of_not_has this _
 | some v=>exact h.val s v hf _
theorem Says.put {D:DataW Value} {f:ByteArray→Option Value} (h:Says D f) (hD:Maps.IsMap D) (s:ByteArray) (v:Value):Says (D.put (kL s) (.held v)) (updF f s v):=by
 refine⟨fun t=>?_,fun t u hu z=>?_⟩
 ·unfold updF
  by_cases e:t=s
  ·subst e;rw[if_pos rfl,Maps.has_put_same hD (kL_key t)];rfl
  ·rw[if_neg e,Maps.has_put_other (fun h=>e (kL_inj h)),h.has]
 ·unfold updF at hu
  by_cases e:t=s
  ·subst e;rw[if_pos rfl] at hu;cases hu;exact Maps.atKey_put_same hD (kL_key t) _ _
  ·rw[if_neg e] at hu;rw[Maps.atKey_put_other (fun h=>e (kL_inj h))];exact h.val t u hu z
theorem MapF.made (w:World):MapF (w.alloc (.map #[] 0)) w.heap.size 0 (fun _=>none):=
 ⟨.map [],World.ownsMap_made w Tryz.prog 9 heldE,fun _=>rfl,fun _ _ h=>by cases h⟩
theorem MapF.lt {w:World} {b n:Nat} {f:ByteArray→Option Value} (h:MapF w b n f):b<w.heap.size:=by obtain⟨D,h,_⟩:=h;exact h.lt
theorem MapF.mono {w:World} {b n n':Nat} {f:ByteArray→Option Value} (h:MapF w b n f) (hn:n≤n'):MapF w b n' f:=by obtain⟨D,h,h2⟩:=h;exact⟨D,h.mono hn,h2⟩
theorem MapF.kept {S:Nat→Prop} {w w':World} {b n:Nat} {f:ByteArray→Option Value} (h:MapF w b n f) (k:Kept S w w') (hb:¬ S b):MapF w' b n f:=by
 have hlt:=h.lt
 obtain⟨D,⟨es,clock,h1,h2⟩,h3⟩:=h
 exact⟨D,⟨es,clock,(k.block b hlt hb).trans h1,h2⟩,h3⟩
theorem MapF.look {w:World} {b n:Nat} {f:ByteArray→Option Value} (h:MapF w b n f) {t e:TypeId} (ht:Tryz.prog.underlying t=some (.map 9 e)) {z:Value} (hz:(zeroValue e).run Tryz.prog w=.ok z w) {s:ByteArray} (hs:s.size≤maxLen):
  (Instr.lookup t (.map (some b)) (.string s) false).run Tryz.prog w=.ok ((f s).getD z) w:=by
 obtain⟨D,hD,hf⟩:=h
 obtain⟨v,ps,h1,h2⟩:=hD.lookup (z:=z) k9 ht hz (zd:=.held z) (zp:=[]) rfl (k9_of hs)
 rw[hf.get s z] at h2
 cases h2
 exact h1
theorem MapF.look_ok {w:World} {b n:Nat} {f:ByteArray→Option Value} (h:MapF w b n f) {t e:TypeId} (ht:Tryz.prog.underlying t=some (.map 9 e)) {z:Value} (hz:(zeroValue e).run Tryz.prog w=.ok z w) {s:ByteArray} (hs:s.size≤maxLen):
  (Instr.lookup t (.map (some b)) (.string s) true).run Tryz.prog w=.ok (.tuple #[(f s).getD z,.bool (f s).isSome]) w:=by
 obtain⟨D,hD,hf⟩:=h
 obtain⟨v,ps,h1,h2⟩:=hD.look_ok (z:=z) k9 ht hz (zd:=.held z) (zp:=[]) rfl (k9_of hs)
 rw[hf.get s z] at h2
 rw[hf.has s] at h1
 cases h2
 exact h1
theorem MapF.store {w:World} {b n:Nat} {f:ByteArray→Option Value} (h:MapF w b n f) {t e:TypeId} (ht:Tryz.prog.underlying t=some (.map 9 e)) {s:ByteArray} (hs:s.size≤maxLen) (hn:n<maxLen) (v:Value):
  ∃ w',(Instr.mapUpdate t (.map (some b)) (.string s) v).run Tryz.prog w=.ok () w'∧MapF w' b (n+1) (updF f s v)∧Kept (fun q=>q=b) w w':=by
 obtain⟨D,hD,hf⟩:=h
 obtain⟨w',h1,h2,h3⟩:=hD.update k9 ht hn (k9_of hs) (val:=v) (d:=.held v) (ps:=[]) rfl
 exact⟨w',h1,⟨_,h2,hf.put hD.isMap s v⟩,⟨h3.os,h3.tape,h3.output,h3.size,fun k hk hn=>h3.block k hk (fun e=>hn (Option.some.inj e))⟩⟩
theorem MapF.isEmpty {w:World} {b n:Nat} {f:ByteArray→Option Value} (h:MapF w b n f) {t e:TypeId} (ht:Tryz.prog.underlying t=some (.map 9 e)) (ty:TypeId):
  ∃ m:Nat,(Builtin.len_ #[t] ty #[.map (some b)]).run Tryz.prog w=.ok (.int .i64 m) w∧m≤n∧(m=0↔∀ s:ByteArray,s.size≤maxLen→f s=none):=by
 obtain⟨D,hD,hf⟩:=h
 refine⟨_,hD.len ht ty,hD.size_le,?_⟩
 obtain⟨es,clock,h1,F,h2,rfl⟩:=hD
 constructor
 ·intro h s _
  have h3:=hf.has s
  have h4:((es.toList.map (WideElems.rg Tryz.prog 9 heldE)).foldr DataW.insert [])=[]:=List.length_eq_zero_iff.1 h
  rw[h4] at h3
  cases hs:f s with
  | none=>rfl
  | some v=>rw[hs] at h3;cases h3
 ·intro h
  rw[Maps.size_eq]
  apply List.length_eq_zero_iff.2
  apply List.eq_nil_iff_forall_not_mem.2
  intro p hp
  obtain⟨x,hx,rfl⟩:=List.mem_map.1 (mem_sorted.1 hp)
  obtain⟨y,hy⟩:=F.reads x hx
  obtain⟨s,_,e2,hs⟩:=k9_inv (WideElems.rd_key hy)
  have h3:=hf.has s
  rw[h s hs,Maps.has_eq] at h3
  have h5:((es.toList.map (WideElems.rg Tryz.prog 9 heldE)).foldr DataW.insert []).any (fun p=>p.1.sameKey (kL s))=true:=
   List.any_eq_true.2 ⟨_,hp,by rw[WideElems.rg_of hy,e2];exact WideAt.sameKey_self (kL_key s)⟩
  rw[h5] at h3;cases h3
theorem MapF.small {w:World} {b n:Nat} {f:ByteArray→Option Value} (h:MapF w b n f) {s:ByteArray} (hs:(f s).isSome=true):s.size≤maxLen:=by
 obtain⟨D,hD,hf⟩:=h
 obtain⟨es,clock,h1,F,h2,rfl⟩:=hD
 have h3:=hf.has s
 rw[hs,Maps.has_eq] at h3
 obtain⟨p,hp,hk⟩:=List.any_eq_true.1 h3
 obtain⟨x,hx,rfl⟩:=List.mem_map.1 (mem_sorted.1 hp)
 obtain⟨y,hy⟩:=F.reads x hx
 obtain⟨s',_,e2,hs'⟩:=k9_inv (WideElems.rd_key hy)
 rw[WideElems.rg_of hy,e2] at hk
 have e:=kL_inj ((WideAt.sameKey_iff (kL_key s)).1 hk)
 rw[← e];exact hs'
def MapR (w:World) (b r n:Nat) (f:ByteArray→Option Value) (g:ByteArray→Bool) (cnt:Nat):Prop:=∃ (D:DataW Value) (left:Lit→Bool),w.ranges Tryz.prog 9 heldE b r n D left cnt∧Says D f∧∀ s,left (kL s)=g s
theorem MapR.map {w:World} {b r n cnt:Nat} {f:ByteArray→Option Value} {g:ByteArray→Bool} (h:MapR w b r n f g cnt):MapF w b n f:=by obtain⟨D,l,h,hf,_⟩:=h;exact⟨D,h.owns,hf⟩
theorem MapR.left {w:World} {b r n cnt:Nat} {f:ByteArray→Option Value} {g:ByteArray→Bool} (h:MapR w b r n f g cnt):w.rangeLeft b r=cnt:=by obtain⟨D,l,h,_⟩:=h;exact h.left_eq
theorem MapR.lt {w:World} {b r n cnt:Nat} {f:ByteArray→Option Value} {g:ByteArray→Bool} (h:MapR w b r n f g cnt):r<w.heap.size:=by obtain⟨D,l,h,_⟩:=h;exact h.lt
theorem MapR.kept {S:Nat→Prop} {w w':World} {b r n cnt:Nat} {f:ByteArray→Option Value} {g:ByteArray→Bool} (h:MapR w b r n f g cnt) (k:Kept S w w') (hb:¬ S b) (hr:¬ S r):MapR w' b r n f g cnt:=by
 have h1:=h.map.lt
 have h2:=h.lt
 obtain⟨D,l,⟨es,clock,since,seen,c0,e1,F,hs,hD,e2,rest⟩,hf⟩:=h
 exact⟨D,l,⟨es,clock,since,seen,c0,(k.block b h1 hb).trans e1,F,hs,hD,(k.block r h2 hr).trans e2,rest⟩,hf⟩
theorem MapF.range {w:World} {b n:Nat} {f:ByteArray→Option Value} (h:MapF w b n f) {t e:TypeId} (ht:Tryz.prog.underlying t=some (.map 9 e)):
  ∃ w' cnt,(Instr.range t (.map (some b))).run Tryz.prog w=.ok (.pointer (some ⟨w.heap.size,0,none⟩)) w'∧MapR w' b w.heap.size n f (fun s=>(f s).isSome) cnt∧Kept (fun _=>False) w w'∧w'.heap.size=w.heap.size+1∧cnt≤n:=by
 obtain⟨D,hD,hf⟩:=h
 obtain⟨w',h1,h2,h3,h4⟩:=hD.range k9 ht
 exact⟨w',_,h1,⟨D,_,h2,hf,hf.has⟩,⟨h3.os,h3.tape,h3.output,h3.size,fun k hk _=>h3.block k hk (by simp)⟩,h4,hD.size_le⟩
theorem MapR.next {w:World} {b r n cnt:Nat} {f:ByteArray→Option Value} {g:ByteArray→Bool} (h:MapR w b r n f g cnt) (ty:TypeId):
  ((∀ s:ByteArray,s.size≤maxLen→g s=false)∧(Instr.next (.pointer (some ⟨r,0,none⟩)) false ty).run Tryz.prog w=.ok (.tuple #[.bool false]) w) ∨
  ∃ s v w' cnt',s.size≤maxLen∧g s=true∧f s=some v∧(Instr.next (.pointer (some ⟨r,0,none⟩)) false ty).run Tryz.prog w=.ok (.tuple #[.bool true,.string s,v]) w' ∧
   MapR w' b r n f (fun t=>g t&&!decide (t=s)) cnt'∧cnt'<cnt∧Kept (fun q=>q=r) w w'∧w'.heap.size=w.heap.size∧(Instr.entry (.pointer (some ⟨r,0,none⟩))).run Tryz.prog w'=.ok (.tuple #[.string s,v]) w':=by
 obtain⟨D,l,h1,hf,hl⟩:=h
 rcases h1.next k9 ty with ⟨h0,ha,hrun⟩ | ⟨key,v,kl,y,w',cnt',hkey,hlk,hv,hat,hrun,hrg,hlt,hgr,hsz,hen⟩
 ·exact Or.inl ⟨fun s _=>by rw[← hl,ha],hrun⟩
 ·obtain⟨s,rfl,rfl,hs⟩:=k9_inv hkey
  cases hv
  have hfs:f s=some v:=by
   cases hfs:f s with
   | none=>
    have:=hat .nil
    rw[Maps.atKey_of_not_has (by rw[hf.has,hfs];rfl)] at this
    cases this
   | some u=>
    have:=hf.val s u hfs .nil
    rw[hat] at this
    cases this
    rfl
  refine Or.inr ⟨s,v,w',cnt',hs,by rw[← hl,hlk],hfs,hrun,⟨D,_,hrg,hf,fun t=>?_⟩,hlt,⟨hgr.os,hgr.tape,hgr.output,hgr.size,fun k hk hn=>hgr.block k hk (fun e=>hn (Option.some.inj e))⟩,hsz,hen⟩
  show (l (kL t)&&!(kL t).sameKey (kL s))=_
  have e:(kL t).sameKey (kL s)=decide (t=s):=by
   rw[Bool.eq_iff_iff,WideAt.sameKey_iff (kL_key s),decide_eq_true_eq]
   exact⟨kL_inj,fun e=>by rw[e]⟩
  rw[hl,e]
section
variable {ops:Array Oper} {rest:List Oper} {o:Oper} {a:Act} {Q:Exit→Act→World→Prop} {w:World} {b n:Nat} {f:ByteArray→Option Value} {t e:TypeId}
theorem wpList_storeF (hg:o.guard=none) (m x v:Operand) (t e:TypeId) (hop:o.op=Op.mapUpdate t m x v) (ht:Tryz.prog.underlying t=some (.map 9 e)) (hm:a.eval m=.map (some b)) (hM:MapF w b n f) (s:ByteArray) (hx:a.eval x=.string s) (hs:s.size≤maxLen) (hn:n<maxLen) (u:Value) (hv:a.eval v=u)
  (h:∀ w',MapF w' b (n+1) (updF f s u)→Kept (fun q=>q=b) w w'→wpList Tryz.prog ops Q rest (a.put o.dst undef) w'):wpList Tryz.prog ops Q (o::rest) a w:=by
 refine wpList_plain hg fun K' hK'=>?_
 obtain⟨w',hrun,r1,r2⟩:=hM.store ht hs hn u
 unfold Oper.wp
 simp[execOp,hop,hm,hx,hv,hrun,Result.andThen]
 exact hK' _ _ (h w' r1 r2)
theorem wpList_rangeF (hg:o.guard=none) (m:Operand) (t e:TypeId) (hop:o.op=Op.range t m) (ht:Tryz.prog.underlying t=some (.map 9 e)) (hm:a.eval m=.map (some b)) (hM:MapF w b n f)
  (h:∀ w' cnt,MapR w' b w.heap.size n f (fun s=>(f s).isSome) cnt→Kept (fun _=>False) w w'→w'.heap.size=w.heap.size+1→cnt≤n→wpList Tryz.prog ops Q rest (a.put o.dst (.pointer (some ⟨w.heap.size,0,none⟩))) w'):wpList Tryz.prog ops Q (o::rest) a w:=by
 refine wpList_plain hg fun K' hK'=>?_
 obtain⟨w',cnt,hrun,r1,r2,r3,r4⟩:=hM.range ht
 unfold Oper.wp
 simp[execOp,hop,hm,hrun,Result.andThen]
 exact hK' _ _ (h w' cnt r1 r2 r3 r4)
theorem wpList_nextF {r cnt:Nat} {g:ByteArray→Bool} (hg:o.guard=none) (it:Operand) (hop:o.op=Op.next it false) (hit:a.eval it=.pointer (some ⟨r,0,none⟩)) (hR:MapR w b r n f g cnt)
  (hDone:(∀ s:ByteArray,s.size≤maxLen→g s=false)→wpList Tryz.prog ops Q rest (a.put o.dst (.tuple #[.bool false])) w)
  (hMore:∀ (s:ByteArray) (v:Value) (w':World) (cnt':Nat),s.size≤maxLen→g s=true→f s=some v→MapR w' b r n f (fun t=>g t&&!decide (t=s)) cnt'→cnt'<cnt→Kept (fun q=>q=r) w w'→w'.heap.size=w.heap.size →
   (Instr.entry (.pointer (some ⟨r,0,none⟩))).run Tryz.prog w'=.ok (.tuple #[.string s,v]) w'→wpList Tryz.prog ops Q rest (a.put o.dst (.tuple #[.bool true,.string s,v])) w'):wpList Tryz.prog ops Q (o::rest) a w:=by
 refine wpList_plain hg fun K' hK'=>?_
 unfold Oper.wp
 rcases hR.next o.type with ⟨h0,hrun⟩ | ⟨s,v,w',cnt',h1,h2,h3,hrun,h4,h5,h6,h7,h8⟩
 ·simp[execOp,hop,hit,hrun,Result.andThen]
  exact hK' _ _ (hDone h0)
 ·simp[execOp,hop,hit,hrun,Result.andThen]
  exact hK' _ _ (hMore s v w' cnt' h1 h2 h3 h4 h5 h6 h7 h8)
end
def bagF (B:ByteArray→Bool):ByteArray→Option Value:=fun s=>if B s then some (.bool true) else none
theorem bagF_upd (B:ByteArray→Bool) (s:ByteArray):updF (bagF B) s (.bool true)=bagF (fun t=>B t||decide (t=s)):=by
 funext t
 unfold updF bagF
 by_cases e:t=s
 ·subst e;simp
 ·simp[e]
theorem bagF_get (B:ByteArray→Bool) (s:ByteArray):(bagF B s).getD (.bool false)=.bool (B s):=by
 unfold bagF;cases B s <;> rfl
def CntF (f:ByteArray→Option Value) (c:ByteArray→Nat):Prop:=∀ s,(f s).getD (.int .i64 0)=.int .i64 (c s)
theorem CntF.upd {f:ByteArray→Option Value} {c:ByteArray→Nat} (h:CntF f c) (s:ByteArray) (k:Nat):CntF (updF f s (.int .i64 k)) (fun t=>if t=s then k else c t):=by
 intro t
 show _=Value.int .i64 ((if t=s then k else c t:Nat):Int)
 unfold updF
 by_cases e:t=s
 ·rw[if_pos e,if_pos e];rfl
 ·rw[if_neg e,if_neg e];exact h t
theorem u90:Tryz.prog.underlying 69=some (.map 9 4):=Tryz.underlying69
theorem u95:Tryz.prog.underlying 89=some (.map 9 3):=Tryz.underlying89
theorem z4 (w:World):(zeroValue 4).run Tryz.prog w=.ok (.bool false) w:=Tryz.zeroValue4 w
theorem z3 (w:World):(zeroValue 3).run Tryz.prog w=.ok (.int .i64 0) w:=Tryz.zeroValue3 w
inductive Ty where
 | mk (kind:Int) (name:ByteArray) (kids:List Ty)
def Ty.kind:Ty→Int | .mk k _ _=>k
def Ty.name:Ty→ByteArray | .mk _ n _=>n
def Ty.kids:Ty→List Ty | .mk _ _ l=>l
inductive Tm where
 | mk (op:Int) (name:ByteArray) (n:Int) (ty:Ty) (kids:List Tm)
def Tm.op:Tm→Int | .mk o _ _ _ _=>o
def Tm.name:Tm→ByteArray | .mk _ n _ _ _=>n
def Tm.n:Tm→Int | .mk _ _ n _ _=>n
def Tm.ty:Tm→Ty | .mk _ _ _ t _=>t
def Tm.kids:Tm→List Tm | .mk _ _ _ _ l=>l
def ty0:Ty:=.mk 0 ⟨#[]⟩ []
def empty0 (v:Value):Prop:=v=.slice none 0 0∨∃ a c,v=.slice (some a) 0 c
inductive TyL (ok:Nat→Prop) (w:World):List Ty→Value→Prop
 | nil {v:Value} (h:empty0 v):TyL ok w [] v
 | mk {l:List Ty} {b off cap:Nat} (K:Nat→Value) (hne:l≠[]) (hb:ok b) (hc:l.length≤cap)
   (hcell:∀ i (h:i<l.length),w.cell? ⟨b,off+i*3,none⟩=some (.int .i64 l[i].kind)∧w.cell? ⟨b,off+i*3+1,none⟩=some (.string l[i].name)∧w.cell? ⟨b,off+i*3+2,none⟩=some (K i))
   (hk:∀ i (h:i<l.length),TyL ok w l[i].kids (K i)):TyL ok w l (.slice (some ⟨b,off,none⟩) l.length cap)
def tyVal (t:Ty) (tk:Value):Value:=.agg #[.int .i64 t.kind,.string t.name,tk]
inductive TmL (ok:Nat→Prop) (w:World):List Tm→Value→Prop
 | nil {v:Value} (h:empty0 v):TmL ok w [] v
 | mk {l:List Tm} {b off cap:Nat} (K M:Nat→Value) (hne:l≠[]) (hb:ok b) (hc:l.length≤cap)
   (hcell:∀ i (h:i<l.length),w.cell? ⟨b,off+i*7,none⟩=some (.int .i64 l[i].op)∧w.cell? ⟨b,off+i*7+1,none⟩=some (.string l[i].name)∧w.cell? ⟨b,off+i*7+2,none⟩=some (.int .i64 l[i].n)∧w.cell? ⟨b,off+i*7+3,none⟩=some (.int .i64 l[i].ty.kind)∧w.cell? ⟨b,off+i*7+4,none⟩=some (.string l[i].ty.name)∧w.cell? ⟨b,off+i*7+5,none⟩=some (K i)∧w.cell? ⟨b,off+i*7+6,none⟩=some (M i))
   (hk:∀ i (h:i<l.length),TyL ok w l[i].ty.kids (K i)) (hm:∀ i (h:i<l.length),TmL ok w l[i].kids (M i)):TmL ok w l (.slice (some ⟨b,off,none⟩) l.length cap)
def tmVal (t:Tm) (tk kk:Value):Value:=.agg #[.int .i64 t.op,.string t.name,.int .i64 t.n,.int .i64 t.ty.kind,.string t.ty.name,tk,kk]
def TmV (ok:Nat→Prop) (w:World) (t:Tm) (v:Value):Prop:=∃ tk kk,v=tmVal t tk kk∧TyL ok w t.ty.kids tk∧TmL ok w t.kids kk
theorem cell_lt {w:World} {b o:Nat} {v:Value} (h:w.cell? ⟨b,o,none⟩=some v):b<w.heap.size:=by
 unfold World.cell? at h
 by_cases hl:b<w.heap.size
 ·exact hl
 ·rw[Array.getElem?_eq_none (by show w.heap.size≤b;omega)] at h;simp at h
def Same (ok:Nat→Prop) (w w':World):Prop:=∀ k,ok k→k<w.heap.size→w'.heap[k]?=w.heap[k]?
theorem Same.cell {ok:Nat→Prop} {w w':World} (h:Same ok w w') {b o:Nat} {v:Value} (hb:ok b) (hc:w.cell? ⟨b,o,none⟩=some v):w'.cell? ⟨b,o,none⟩=some v:=by
 rw[World.cell?_of_block (w:=w) (a:=⟨b,o,none⟩) (h b hb (cell_lt hc))];exact hc
theorem TyL.frame {ok:Nat→Prop} {w w':World} (hs:Same ok w w') {l:List Ty} {v:Value} (h:TyL ok w l v):TyL ok w' l v:=by
 induction h with
 | nil h=>exact .nil h
 | mk K hne hb hc hcell hk ih=>
  exact .mk K hne hb hc (fun i h=>⟨hs.cell hb (hcell i h).1,hs.cell hb (hcell i h).2.1,hs.cell hb (hcell i h).2.2⟩) ih
theorem TmL.frame {ok:Nat→Prop} {w w':World} (hs:Same ok w w') {l:List Tm} {v:Value} (h:TmL ok w l v):TmL ok w' l v:=by
 induction h with
 | nil h=>exact .nil h
 | mk K M hne hb hc hcell hk hm ih=>
  exact .mk K M hne hb hc (fun i h=>let c:=hcell i h;⟨hs.cell hb c.1,hs.cell hb c.2.1,hs.cell hb c.2.2.1,hs.cell hb c.2.2.2.1,hs.cell hb c.2.2.2.2.1,hs.cell hb c.2.2.2.2.2.1,hs.cell hb c.2.2.2.2.2.2⟩) (fun i h=>(hk i h).frame hs) ih
theorem TyL.mono {ok ok':Nat→Prop} {w:World} (ho:∀ k,k<w.heap.size→ok k→ok' k) {l:List Ty} {v:Value} (h:TyL ok w l v):TyL ok' w l v:=by
 induction h with
 | nil h=>exact .nil h
 | mk K hne hb hc hcell hk ih=>
  rename_i l b off cap
  have h0:0<l.length:=List.length_pos_iff.2 hne
  exact .mk K hne (ho _ (cell_lt (hcell 0 h0).1) hb) hc hcell ih
theorem TmL.mono {ok ok':Nat→Prop} {w:World} (ho:∀ k,k<w.heap.size→ok k→ok' k) {l:List Tm} {v:Value} (h:TmL ok w l v):TmL ok' w l v:=by
 induction h with
 | nil h=>exact .nil h
 | mk K M hne hb hc hcell hk hm ih=>
  rename_i l b off cap
  have h0:0<l.length:=List.length_pos_iff.2 hne
  exact .mk K M hne (ho _ (cell_lt (hcell 0 h0).1) hb) hc hcell (fun i h=>(hk i h).mono ho) ih
theorem Same.of_kept {S ok:Nat→Prop} {w w':World} (h:Kept S w w') (hS:∀ k,ok k→¬ S k):Same ok w w':=fun k hk hl=>h.block k hl (hS k hk)
def tmCells (t:Tm) (tk kk:Value):List Value:=[.int .i64 t.op,.string t.name,.int .i64 t.n,.int .i64 t.ty.kind,.string t.ty.name,tk,kk]
theorem TmL.one {ok:Nat→Prop} {w:World} {g cap:Nat} {t:Tm} {tk kk:Value} {ty:TypeId} (hg:ok g) (hc:1≤cap) (hb:Blk w g ty (tmCells t tk kk)) (hk:TyL ok w t.ty.kids tk) (hm:TmL ok w t.kids kk):TmL ok w [t] (.slice (some ⟨g,0,none⟩) 1 cap):=by
 refine TmL.mk (l:=[t]) (fun _=>tk) (fun _=>kk) (by simp) hg hc (fun i h=>?_) (fun i h=>?_) (fun i h=>?_)
 all_goals (have:i=0:=by simp at h;exact h);subst this
 ·exact⟨hb.cell 0,hb.cell 1,hb.cell 2,hb.cell 3,hb.cell 4,hb.cell 5,hb.cell 6⟩
 ·exact hk
 ·exact hm
theorem TmL.two {ok:Nat→Prop} {w:World} {g cap:Nat} {t u:Tm} {tk kk uk uu:Value} {ty:TypeId} (hg:ok g) (hc:2≤cap) (hb:Blk w g ty (tmCells t tk kk++tmCells u uk uu)) (hk:TyL ok w t.ty.kids tk) (hm:TmL ok w t.kids kk) (hk':TyL ok w u.ty.kids uk) (hm':TmL ok w u.kids uu):TmL ok w [t,u] (.slice (some ⟨g,0,none⟩) 2 cap):=by
 refine TmL.mk (l:=[t,u]) (fun i=>if i=0 then tk else uk) (fun i=>if i=0 then kk else uu) (by simp) hg hc (fun i h=>?_) (fun i h=>?_) (fun i h=>?_)
 all_goals rcases (show i=0∨i=1 by simp at h;omega) with rfl | rfl
 ·exact⟨hb.cell 0,hb.cell 1,hb.cell 2,hb.cell 3,hb.cell 4,hb.cell 5,hb.cell 6⟩
 ·exact⟨hb.cell 7,hb.cell 8,hb.cell 9,hb.cell 10,hb.cell 11,hb.cell 12,hb.cell 13⟩
 ·exact hk
 ·exact hk'
 ·exact hm
 ·exact hm'
theorem sK {ok:Nat→Prop} {w w':World} (k:Kept (fun _=>False) w w'):Same ok w w':=Same.of_kept k (fun _ _ e=>e)
def kidsN (op:Int):Int×Bool:=
 if op=1∨op=2∨op=19∨op=20∨op=29 then (0,true)
 else if op=3∨op=21∨(46≤op∧op≤52) then (1,true)
 else if op=28 then (-1,true)
 else if 1≤op∧op≤56 then (2,true) else (0,false)
theorem kids_any (op:Int) (w:World):
  Calls Tryz.prog 180 #[.int .i64 op] w fun e w'=>e=.returned (.tuple #[.int .i64 (kidsN op).1,.bool (kidsN op).2])∧w=w':=by
 by_cases h:op=1∨op=2∨op=19∨op=20∨op=29∨op=3∨op=21∨op=52∨op=28
 ·rcases h with rfl | rfl | rfl | rfl | rfl | rfl | rfl | rfl | rfl
  all_goals
   go_enter Tryz.func180,Tryz.ntmps180
   go_wp2_with fail
   go_ret2
   exact⟨rfl,rfl⟩
 ·by_cases h1:46≤op∧op≤51
  ·have hk:=Ld (show kidsN op=(1,true) by unfold kidsN;rw[if_neg (by omega),if_pos (by omega)])
   obtain⟨ha,hb⟩:=h1
   have n1:(op==1)=false:=by simp;omega
   have n2:(op==2)=false:=by simp;omega
   have n19:(op==19)=false:=by simp;omega
   have n20:(op==20)=false:=by simp;omega
   have n29:(op==29)=false:=by simp;omega
   have n3:(op==3)=false:=by simp;omega
   have n21:(op==21)=false:=by simp;omega
   clear h
   go_enter Tryz.func180,Tryz.ntmps180
   go_wp2_with fail
   go_ret2
   exact⟨by rw[hk.out];rfl,rfl⟩
  ·have n1:(op==1)=false:=by simp;omega
   have n2:(op==2)=false:=by simp;omega
   have n19:(op==19)=false:=by simp;omega
   have n20:(op==20)=false:=by simp;omega
   have n29:(op==29)=false:=by simp;omega
   have n3:(op==3)=false:=by simp;omega
   have n21:(op==21)=false:=by simp;omega
   have n52:(op==52)=false:=by simp;omega
   have n28:(op==28)=false:=by simp;omega
   cases a1:decide (46≤op) <;> cases a2:decide (op≤51) <;> cases a3:decide (1≤op) <;> cases a4:decide (op≤56)
   all_goals
    first
    | (exfalso;simp only[decide_eq_true_eq,decide_eq_false_iff_not] at a1 a2 a3 a4;omega)
    | (have hk:=Ld (show kidsN op=(if 1≤op∧op≤56 then (2,true) else (0,false)) by
        simp only[decide_eq_true_eq,decide_eq_false_iff_not] at a1 a2 a3 a4
        unfold kidsN;rw[if_neg (by omega),if_neg (by omega),if_neg (by omega)])
       clear h h1
       go_enter Tryz.func180,Tryz.ntmps180
       go_wp2_with fail
       go_ret2
       refine⟨?_,rfl⟩
       rw[hk.out]
       simp only[decide_eq_true_eq,decide_eq_false_iff_not] at a3 a4
       first
       | (rw[if_pos ⟨a3,a4⟩];rfl)
       | (rw[if_neg (by omega)];rfl))
def binderB (op:Int):Bool:=op==8||op==9||op==55||op==56
theorem binder_any (op:Int) (w:World):
  Calls Tryz.prog 100 #[.int .i64 op] w fun e w'=>e=.returned (.bool (binderB op))∧w=w':=by
 cases h1:(op==8) <;> cases h2:(op==9) <;> cases h3:(op==55) <;> cases h4:(op==56)
 all_goals
  have hk:=Ld (show binderB op=_ by unfold binderB;rw[h1,h2,h3,h4])
  go_enter Tryz.func100,Tryz.ntmps100
  go_wp2_with fail
  go_ret
  exact⟨by rw[hk.out];rfl,rfl⟩
def fns:List (List UInt8):=[[80,79,87],[99,97,114,100],[109,105,110],[109,97,120],[100,111,109],[114,97,110]]
def functionN (s:ByteArray):Int:=if s.toList∈fns then 46+fns.idxOf s.toList else 0
theorem function_any (s:ByteArray) (w:World):
  Calls Tryz.prog 202 #[.string s] w fun e w'=>e=.returned (.int .i64 (functionN s))∧w=w':=by
 cases h0:(s.toList==[80,79,87]) 
 case true=>
  have hk:=Ld (show functionN s=46 by unfold functionN;rw[eq_of_beq h0];rfl)
  go_enter Tryz.func202,Tryz.ntmps202
  go_wp2_with fail
  go_ret
  exact⟨by rw[hk.out];rfl,rfl⟩
 cases h1:(s.toList==[99,97,114,100]) 
 case true=>
  have hk:=Ld (show functionN s=47 by unfold functionN;rw[eq_of_beq h1];rfl)
  go_enter Tryz.func202,Tryz.ntmps202
  go_wp2_with fail
  go_ret
  exact⟨by rw[hk.out];rfl,rfl⟩
 cases h2:(s.toList==[109,105,110]) 
 case true=>
  have hk:=Ld (show functionN s=48 by unfold functionN;rw[eq_of_beq h2];rfl)
  go_enter Tryz.func202,Tryz.ntmps202
  go_wp2_with fail
  go_ret
  exact⟨by rw[hk.out];rfl,rfl⟩
 cases h3:(s.toList==[109,97,120]) 
 case true=>
  have hk:=Ld (show functionN s=49 by unfold functionN;rw[eq_of_beq h3];rfl)
  go_enter Tryz.func202,Tryz.ntmps202
  go_wp2_with fail
  go_ret
  exact⟨by rw[hk.out];rfl,rfl⟩
 cases h4:(s.toList==[100,111,109]) 
 case true=>
  have hk:=Ld (show functionN s=50 by unfold functionN;rw[eq_of_beq h4];rfl)
  go_enter Tryz.func202,Tryz.ntmps202
  go_wp2_with fail
  go_ret
  exact⟨by rw[hk.out];rfl,rfl⟩
 cases h5:(s.toList==[114,97,110]) 
 case true=>
  have hk:=Ld (show functionN s=51 by unfold functionN;rw[eq_of_beq h5];rfl)
  go_enter Tryz.func202,Tryz.ntmps202
  go_wp2_with fail
  go_ret
  exact⟨by rw[hk.out];rfl,rfl⟩
 have hk:=Ld (show functionN s=0 by
  unfold functionN fns;rw[if_neg]
  simp only[beq_eq_false_iff_ne,ne_eq] at h0 h1 h2 h3 h4 h5
  simp only[List.mem_cons,List.not_mem_nil,h0,h1,h2,h3,h4,h5,or_self,not_false_eq_true])
 go_enter Tryz.func202,Tryz.ntmps202
 go_wp2_with fail
 go_ret
 exact⟨by rw[hk.out];rfl,rfl⟩
inductive Db where
 | fv (s:ByteArray)
 | bv (i:Nat)
 | nd (op N:Int) (ty:Ty) (l:List Db)
def upR (r:Nat→Nat):Nat→Nat
 | 0=>0
 | i+1=>r i+1
mutual
def ren (r:Nat→Nat):Db→Db
 | .fv s=>.fv s
 | .bv i=>.bv (r i)
 | .nd op N ty l=>.nd op N ty (rens (binderB op) r 0 l)
def rens (bi:Bool) (r:Nat→Nat):Nat→List Db→List Db
 | _,[]=>[]
 | i,d::l=>ren (if bi&&i==1 then upR r else r) d::rens bi r (i+1) l
end
def upE (nm:ByteArray) (ρ:ByteArray→Db):ByteArray→Db:=fun s=>if s=nm then .bv 0 else ren Nat.succ (ρ s)
mutual
def ev (ρ:ByteArray→Db):Tm→Db
 | .mk op nm N ty l=>if op=20 then ρ nm else .nd op N ty (evs (binderB op) nm ρ 0 l)
def evs (bi:Bool) (nm:ByteArray) (ρ:ByteArray→Db):Nat→List Tm→List Db
 | _,[]=>[]
 | i,t::l=>ev (if bi&&i==1 then upE nm ρ else ρ) t::evs bi nm ρ (i+1) l
end
mutual
def fr:Tm→List ByteArray
 | .mk op nm _ _ l=>if op=20 then [nm] else frs (binderB op) nm 0 l
def frs (bi:Bool) (nm:ByteArray):Nat→List Tm→List ByteArray
 | _,[]=>[]
 | i,t::l=>(if bi&&i==1 then (fr t).filter (fun s=>!decide (s=nm)) else fr t)++frs bi nm (i+1) l
end
def mb (s:ByteArray) (l:List ByteArray):Bool:=l.any fun x=>decide (x=s)
theorem mb_iff (s:ByteArray) (l:List ByteArray):mb s l=true↔s∈l:=by
 unfold mb;rw[List.any_eq_true];constructor
 ·rintro⟨x,h1,h2⟩;rw[← of_decide_eq_true h2];exact h1
 ·intro h;exact⟨s,h,by simp⟩
theorem mb_app (s:ByteArray) (l r:List ByteArray):mb s (l++r)=(mb s l||mb s r):=by unfold mb;rw[List.any_append]
mutual
def frL (B:List ByteArray):Tm→List ByteArray
 | .mk op nm _ _ l=>if op=20 then (if mb nm B then [] else [nm]) else frLs B (binderB op) nm 0 l
def frLs (B:List ByteArray) (bi:Bool) (nm:ByteArray):Nat→List Tm→List ByteArray
 | _,[]=>[]
 | i,t::l=>frL (if bi&&i==1 then B++[nm] else B) t++frLs B bi nm (i+1) l
end
theorem frL_eq:∀ (t:Tm) (B:List ByteArray),frL B t=(fr t).filter (fun s=>!mb s B):=by
 intro t
 induction t using Tm.rec (motive_2:=fun l=>∀ (B:List ByteArray) (bi:Bool) (nm:ByteArray) (i:Nat),frLs B bi nm i l=(frs bi nm i l).filter (fun s=>!mb s B)) with
 | mk op nm N ty l ih=>
  intro B
  rw[frL,fr]
  by_cases h:op=20
  ·rw[if_pos h,if_pos h]
   cases hb:mb nm B <;> simp[hb]
  ·rw[if_neg h,if_neg h];exact ih _ _ _ _
 | nil=>rename_i B bi nm i;rfl
 | cons t l iht ihl=>
  rename_i B bi nm i
  rw[frLs,frs,List.filter_append,ihl]
  congr 1
  cases hb:(bi&&i==1)
  ·simp only[Bool.false_eq_true,if_false];exact iht B
  ·simp only[if_true]
   rw[iht,List.filter_filter]
   congr 1
   funext s
   rw[mb_app]
   have:mb s [nm]=decide (s=nm):=by simp[mb,eq_comm]
   rw[this]
   cases mb s B <;> simp
theorem ren_ren:∀ (d:Db) (r q:Nat→Nat),ren r (ren q d)=ren (fun i=>r (q i)) d:=by
 intro d
 induction d using Db.rec (motive_2:=fun l=>∀ (bi:Bool) (r q:Nat→Nat) (i:Nat),rens bi r i (rens bi q i l)=rens bi (fun i=>r (q i)) i l) with
 | fv s=>intro r q;rfl
 | bv i=>intro r q;rfl
 | nd op N ty l ih=>intro r q;rw[ren,ren,ren,ih]
 | nil=>rename_i bi r q i;rfl
 | cons d l ihd ihl=>
  rename_i bi r q i
  rw[rens,rens,rens,ihl]
  congr 1
  cases hb:(bi&&i==1)
  ·simp only[Bool.false_eq_true,if_false];exact ihd _ _
  ·simp only[if_true]
   rw[ihd]
   congr 1
   funext i
   cases i <;> rfl
theorem upE_ren (nm:ByteArray) (ρ:ByteArray→Db) (r:Nat→Nat):(fun s=>ren (upR r) (upE nm ρ s))=upE nm (fun s=>ren r (ρ s)):=by
 funext s
 unfold upE
 by_cases h:s=nm
 ·rw[if_pos h,if_pos h];rfl
 ·rw[if_neg h,if_neg h,ren_ren,ren_ren];rfl
theorem ren_ev:∀ (t:Tm) (ρ:ByteArray→Db) (r:Nat→Nat),ren r (ev ρ t)=ev (fun s=>ren r (ρ s)) t:=by
 intro t
 induction t using Tm.rec (motive_2:=fun l=>∀ (bi:Bool) (nm:ByteArray) (ρ:ByteArray→Db) (r:Nat→Nat) (i:Nat),rens bi r i (evs bi nm ρ i l)=evs bi nm (fun s=>ren r (ρ s)) i l) with
 | mk op nm N ty l ih=>
  intro ρ r
  rw[ev,ev]
  by_cases h:op=20
  ·rw[if_pos h,if_pos h]
  ·rw[if_neg h,if_neg h,ren,ih]
 | nil=>rename_i bi nm ρ r i;rfl
 | cons t l iht ihl=>
  rename_i bi nm ρ r i
  rw[evs,evs,rens,ihl]
  congr 1
  cases hb:(bi&&i==1)
  ·simp only[Bool.false_eq_true,if_false];exact iht _ _
  ·simp only[if_true]
   rw[iht,upE_ren]
theorem ev_cong:∀ (t:Tm) (ρ ρ':ByteArray→Db),(∀ s,s∈fr t→ρ s=ρ' s)→ev ρ t=ev ρ' t:=by
 intro t
 induction t using Tm.rec (motive_2:=fun l=>∀ (bi:Bool) (nm:ByteArray) (ρ ρ':ByteArray→Db) (i:Nat),(∀ s,s∈frs bi nm i l→ρ s=ρ' s)→evs bi nm ρ i l=evs bi nm ρ' i l) with
 | mk op nm N ty l ih=>
  intro ρ ρ' hh
  rw[fr] at hh
  rw[ev,ev]
  by_cases h:op=20
  ·rw[if_pos h] at hh
   rw[if_pos h,if_pos h];exact hh nm (by simp)
  ·rw[if_neg h] at hh
   rw[if_neg h,if_neg h,ih _ _ _ _ _ hh]
 | nil=>rfl
 | cons t l iht ihl=>
  rename_i bi nm ρ ρ' i hh
  rw[frs] at hh
  rw[evs,evs,ihl bi nm ρ ρ' (i+1) (fun s hs=>hh s (List.mem_append_right _ hs))]
  congr 1
  cases hb:(bi&&i==1)
  ·rw[hb] at hh
   simp only[Bool.false_eq_true,if_false] at hh ⊢
   exact iht _ _ (fun s hs=>hh s (List.mem_append_left _ hs))
  ·rw[hb] at hh
   simp only[if_true] at hh ⊢
   refine iht _ _ (fun s hs=>?_)
   unfold upE
   by_cases h:s=nm
   ·rw[if_pos h,if_pos h]
   ·rw[if_neg h,if_neg h,hh s (List.mem_append_left _ (List.mem_filter.2 ⟨hs,by simp[h]⟩))]
mutual
def bd (σ:ByteArray→Db):Db→Db
 | .fv s=>σ s
 | .bv i=>.bv i
 | .nd op N ty l=>.nd op N ty (bds (binderB op) σ 0 l)
def bds (bi:Bool) (σ:ByteArray→Db):Nat→List Db→List Db
 | _,[]=>[]
 | i,d::l=>bd (if bi&&i==1 then (fun s=>ren Nat.succ (σ s)) else σ) d::bds bi σ (i+1) l
end
theorem bd_ren:∀ (d:Db) (σ:ByteArray→Db) (r:Nat→Nat),bd (fun s=>ren r (σ s)) (ren r d)=ren r (bd σ d):=by
 intro d
 induction d using Db.rec (motive_2:=fun l=>∀ (bi:Bool) (σ:ByteArray→Db) (r:Nat→Nat) (i:Nat),bds bi (fun s=>ren r (σ s)) i (rens bi r i l)=rens bi r i (bds bi σ i l)) with
 | fv s=>intro σ r;rfl
 | bv i=>intro σ r;rfl
 | nd op N ty l ih=>intro σ r;rw[ren,bd,bd,ren,ih]
 | nil=>rename_i bi σ r i;rfl
 | cons d l ihd ihl=>
  rename_i bi σ r i
  rw[rens,bds,bds,rens,ihl]
  congr 1
  cases hb:(bi&&i==1)
  ·simp only[Bool.false_eq_true,if_false];exact ihd _ _
  ·simp only[if_true]
   rw[← ihd]
   congr 1
   funext s
   rw[ren_ren,ren_ren];rfl
theorem bd_ev:∀ (t:Tm) (ρ σ:ByteArray→Db),bd σ (ev ρ t)=ev (fun s=>bd σ (ρ s)) t:=by
 intro t
 induction t using Tm.rec (motive_2:=fun l=>∀ (bi:Bool) (nm:ByteArray) (ρ σ:ByteArray→Db) (i:Nat),bds bi σ i (evs bi nm ρ i l)=evs bi nm (fun s=>bd σ (ρ s)) i l) with
 | mk op nm N ty l ih=>
  intro ρ σ
  rw[ev,ev]
  by_cases h:op=20
  ·rw[if_pos h,if_pos h]
  ·rw[if_neg h,if_neg h,bd,ih]
 | nil=>rename_i bi nm ρ σ i;rfl
 | cons t l iht ihl=>
  rename_i bi nm ρ σ i
  rw[evs,evs,bds,ihl]
  congr 1
  cases hb:(bi&&i==1)
  ·simp only[Bool.false_eq_true,if_false];exact iht _ _
  ·simp only[if_true]
   rw[iht]
   congr 1
   funext s
   unfold upE
   by_cases h:s=nm
   ·rw[if_pos h,if_pos h];rfl
   ·rw[if_neg h,if_neg h,bd_ren]
def dbT (t:Tm):Db:=ev .fv t
theorem ev_dbT (ρ:ByteArray→Db) (t:Tm):ev ρ t=bd ρ (dbT t):=by
 unfold dbT;rw[bd_ev];rfl
theorem ev_alike {t u:Tm} (h:dbT t=dbT u) (ρ:ByteArray→Db):ev ρ t=ev ρ u:=by rw[ev_dbT,ev_dbT,h]
mutual
def frD:Db→List ByteArray
 | .fv s=>[s]
 | .bv _=>[]
 | .nd _ _ _ l=>frDs l
def frDs:List Db→List ByteArray
 | []=>[]
 | d::l=>frD d++frDs l
end
mutual
def szD:Db→Nat
 | .nd _ _ _ l=>szDs l+1
 | _=>1
def szDs:List Db→Nat
 | []=>0
 | d::l=>szD d+szDs l
end
mutual
def dpD:Db→Nat
 | .nd _ _ _ l=>dpDs l+1
 | _=>1
def dpDs:List Db→Nat
 | []=>0
 | d::l=>max (dpD d) (dpDs l)
end
theorem frD_ren:∀ (d:Db) (r:Nat→Nat),frD (ren r d)=frD d:=by
 intro d
 induction d using Db.rec (motive_2:=fun l=>∀ (bi:Bool) (r:Nat→Nat) (i:Nat),frDs (rens bi r i l)=frDs l) with
 | fv s=>intro r;rfl
 | bv i=>intro r;rfl
 | nd op N ty l ih=>intro r;rw[ren,frD,frD,ih]
 | nil=>rename_i bi r i;rfl
 | cons d l ihd ihl=>rename_i bi r i;rw[rens,frDs,frDs,ihd,ihl]
theorem szD_ren:∀ (d:Db) (r:Nat→Nat),szD (ren r d)=szD d:=by
 intro d
 induction d using Db.rec (motive_2:=fun l=>∀ (bi:Bool) (r:Nat→Nat) (i:Nat),szDs (rens bi r i l)=szDs l) with
 | fv s=>intro r;rfl
 | bv i=>intro r;rfl
 | nd op N ty l ih=>intro r;rw[ren,szD,szD,ih]
 | nil=>rename_i bi r i;rfl
 | cons d l ihd ihl=>rename_i bi r i;rw[rens,szDs,szDs,ihd,ihl]
theorem dpD_ren:∀ (d:Db) (r:Nat→Nat),dpD (ren r d)=dpD d:=by
 intro d
 induction d using Db.rec (motive_2:=fun l=>∀ (bi:Bool) (r:Nat→Nat) (i:Nat),dpDs (rens bi r i l)=dpDs l) with
 | fv s=>intro r;rfl
 | bv i=>intro r;rfl
 | nd op N ty l ih=>intro r;rw[ren,dpD,dpD,ih]
 | nil=>rename_i bi r i;rfl
 | cons d l ihd ihl=>rename_i bi r i;rw[rens,dpDs,dpDs,ihd,ihl]
mutual
def tmN:Tm→Nat
 | .mk _ _ _ _ l=>tmNs l+1
def tmNs:List Tm→Nat
 | []=>0
 | t::l=>tmN t+tmNs l
end
mutual
def tmD:Tm→Nat
 | .mk _ _ _ _ l=>tmDs l+1
def tmDs:List Tm→Nat
 | []=>0
 | t::l=>max (tmD t) (tmDs l)
end
def look:List (ByteArray×Tm)→ByteArray→Option Tm
 | [],_=>none
 | b::l,s=>if b.1=s then some b.2 else look l s
theorem look_app (s:ByteArray) (l r:List (ByteArray×Tm)):look (l++r) s=(match look l s with | some u=>some u | none=>look r s):=by
 induction l with
 | nil=>rfl
 | cons b l ih=>
  rw[List.cons_append,look,look,ih]
  by_cases h:b.1=s
  ·rw[if_pos h,if_pos h]
  ·rw[if_neg h,if_neg h]
def remG (x:ByteArray) (F:List ByteArray):List (ByteArray×Tm)→List (ByteArray×Tm)→List (ByteArray×Tm)
 | out,[]=>out
 | out,b::l=>if (look out b.1).isSome||decide (b.1=x)||!mb b.1 F then remG x F out l else remG x F (out++[b]) l
def remL (l:List (ByteArray×Tm)) (x:ByteArray) (F:List ByteArray):List (ByteArray×Tm):=remG x F [] l
theorem remG_look (x:ByteArray) (F:List ByteArray) (s:ByteArray):∀ (l out:List (ByteArray×Tm)),look (remG x F out l) s=(match look out s with | some u=>some u | none=>if s=x∨mb s F=false then none else look l s)
 | [],out=>by
  rw[remG]
  cases h:look out s
  ·simp[look]
  ·rfl
 | b::l,out=>by
  rw[remG]
  split
  ·rename_i h
   rw[remG_look x F s l out]
   cases ho:look out s with
   | some u=>rfl
   | none=>
    simp only
    by_cases hs:s=x∨mb s F=false
    ·rw[if_pos hs,if_pos hs]
    ·rw[if_neg hs,if_neg hs,look]
     rw[if_neg ?_]
     intro e
     subst e
     simp only[Bool.or_eq_true,ho,Option.isSome_none,Bool.false_eq_true,false_or,decide_eq_true_eq,Bool.not_eq_true'] at h
     exact hs h
  ·rename_i h
   rw[remG_look x F s l (out++[b]),look_app]
   cases ho:look out s with
   | some u=>rfl
   | none=>
    simp only[look]
    simp only[Bool.or_eq_true,Bool.not_eq_true,not_or,decide_eq_true_eq,Bool.not_eq_true',Bool.not_eq_false] at h
    by_cases hb:b.1=s
    ·subst hb
     simp only[if_true]
     rw[if_neg (by rintro (e | e);exact h.1.2 e;rw[h.2] at e;cases e)]
    ·simp only[if_neg hb]
theorem remL_look (x:ByteArray) (F:List ByteArray) (s:ByteArray) (l:List (ByteArray×Tm)):look (remL l x F) s=if s=x∨mb s F=false then none else look l s:=by
 unfold remL;rw[remG_look];rfl
def frB:List (ByteArray×Tm)→List ByteArray
 | []=>[]
 | b::l=>fr b.2++frB l
theorem frB_mem {l:List (ByteArray×Tm)} {s x:ByteArray} {u:Tm} (h:look l s=some u) (hx:x∈fr u):x∈frB l:=by
 induction l with
 | nil=>cases h
 | cons b l ih=>
  rw[look] at h
  rw[frB]
  by_cases hb:b.1=s
  ·rw[if_pos hb] at h
   cases h
   exact List.mem_append_left _ hx
  ·rw[if_neg hb] at h
   exact List.mem_append_right _ (ih h)
def nameT (s:ByteArray):Tm:=.mk 20 s 0 ty0 []
section
variable (FS:ByteArray→List ByteArray→ByteArray)
def newN (x:ByteArray) (body:Tm) (l:List (ByteArray×Tm)):ByteArray:=
 if mb x (frB (remL l x (fr body))) then FS x (fr body++frB (remL l x (fr body))) else x
def inner (x:ByteArray) (body:Tm) (l:List (ByteArray×Tm)):List (ByteArray×Tm):=
 if mb x (frB (remL l x (fr body))) then remL l x (fr body)++[(x,nameT (newN FS x body l))] else remL l x (fr body)
mutual
def subT:Tm→List (ByteArray×Tm)→Tm
 | .mk op nm N ty ks,l=>
  if op=20 then (match look l nm with | some u=>u | none=>.mk op nm N ty ks)
  else if binderB op then .mk op (newN FS nm (ks.getD 1 (nameT nm)) l) N ty (subK true l (inner FS nm (ks.getD 1 (nameT nm)) l) 0 ks)
  else .mk op nm N ty (subK false l l 0 ks)
def subK (bi:Bool) (l inn:List (ByteArray×Tm)):Nat→List Tm→List Tm
 | _,[]=>[]
 | i,t::r=>subT t (if bi&&i==1 then inn else l)::subK bi l inn (i+1) r
end
end
def evB (ρ:ByteArray→Db) (l:List (ByteArray×Tm)):ByteArray→Db:=fun s=>match look l s with | some u=>ev ρ u | none=>ρ s
theorem nameT_ev (ρ:ByteArray→Db) (s:ByteArray):ev ρ (nameT s)=ρ s:=by unfold nameT;rw[ev,if_pos rfl]
theorem inner_ev {FS:ByteArray→List ByteArray→ByteArray} {x:ByteArray} {body:Tm} {l:List (ByteArray×Tm)} (hFS:mb x (frB (remL l x (fr body)))=true→mb (FS x (fr body++frB (remL l x (fr body)))) (fr body++frB (remL l x (fr body)))=false) (ρ:ByteArray→Db) (y:ByteArray) (hy:y∈fr body):
  evB (upE (newN FS x body l) ρ) (inner FS x body l) y=upE x (evB ρ l) y:=by
 have hyF:mb y (fr body)=true:=(mb_iff _ _).2 hy
 have key:∀ (z:ByteArray),(∀ u,look (remL l x (fr body)) y=some u→z ∉ fr u)→∀ u,look (remL l x (fr body)) y=some u→ev (upE z ρ) u=ren Nat.succ (ev ρ u):=by
  intro z hz u hu
  rw[ren_ev]
  apply ev_cong
  intro s hs
  unfold upE
  rw[if_neg]
  rintro rfl
  exact hz u hu hs
 unfold newN inner
 cases hc:mb x (frB (remL l x (fr body)))
 ·simp only[Bool.false_eq_true,if_false]
  unfold evB
  rw[remL_look]
  by_cases hyx:y=x
  ·rw[if_pos (Or.inl hyx)]
   unfold upE;rw[if_pos hyx,if_pos hyx]
  ·rw[if_neg (by rintro (e | e);exact hyx e;rw[hyF] at e;cases e)]
   have:upE x (fun s=>match look l s with | some u=>ev ρ u | none=>ρ s) y=ren Nat.succ (match look l y with | some u=>ev ρ u | none=>ρ y):=by unfold upE;rw[if_neg hyx]
   rw[this]
   cases hl:look l y with
   | none=>simp only;unfold upE;rw[if_neg hyx]
   | some u=>
    simp only
    refine key x (fun v hv hx=>?_) u (by rw[remL_look,if_neg (by rintro (e | e);exact hyx e;rw[hyF] at e;cases e),hl])
    have:=frB_mem hv hx
    rw[← mb_iff,hc] at this;cases this
 ·simp only[if_true]
  have hz:=hFS hc
  generalize hzz:FS x (fr body++frB (remL l x (fr body)))=z at *
  rw[mb_app,Bool.or_eq_false_iff] at hz
  unfold evB
  rw[look_app,remL_look]
  by_cases hyx:y=x
  ·rw[if_pos (Or.inl hyx)]
   simp only[look]
   rw[if_pos hyx.symm]
   simp only
   rw[nameT_ev]
   have e2:newN FS x body l=z:=by unfold newN;rw[if_pos hc];exact hzz
   rw[e2]
   unfold upE;rw[if_pos hyx,if_pos rfl]
  ·rw[if_neg (by rintro (e | e);exact hyx e;rw[hyF] at e;cases e)]
   have:upE x (fun s=>match look l s with | some u=>ev ρ u | none=>ρ s) y=ren Nat.succ (match look l y with | some u=>ev ρ u | none=>ρ y):=by unfold upE;rw[if_neg hyx]
   rw[this]
   cases hl:look l y with
   | none=>
    simp only[look]
    rw[if_neg (Ne.symm hyx)]
    simp only
    unfold upE;rw[if_neg]
    rintro rfl
    rw[hyF] at hz;cases hz.1
   | some u=>
    simp only
    refine key z (fun v hv hx=>?_) u (by rw[remL_look,if_neg (by rintro (e | e);exact hyx e;rw[hyF] at e;cases e),hl])
    have:=frB_mem hv hx
    rw[← mb_iff,hz.2] at this;cases this
def GoodFS (FS:ByteArray→List ByteArray→ByteArray) (M:Nat):Prop:=∀ x U,U.length≤M→mb (FS x U) U=false
theorem frs_len:∀ (t:Tm),(fr t).length≤tmN t:=by
 intro t
 induction t using Tm.rec (motive_2:=fun l=>∀ (bi:Bool) (nm:ByteArray) (i:Nat),(frs bi nm i l).length≤tmNs l) with
 | mk op nm N ty l ih=>
  rw[fr,tmN]
  split
  ·simp
  ·have:=ih (binderB op) nm 0;omega
 | nil=>rename_i bi nm i;exact Nat.le_refl _
 | cons t l iht ihl=>
  rename_i bi nm i
  rw[frs,tmNs,List.length_append]
  have:=ihl bi nm (i+1)
  split
  ·have:=List.length_filter_le (fun s=>!decide (s=nm)) (fr t);omega
  ·omega
theorem frB_app (a b:List (ByteArray×Tm)):frB (a++b)=frB a++frB b:=by
 induction a with
 | nil=>rfl
 | cons c a ih=>rw[List.cons_append,frB,ih,frB,List.append_assoc]
theorem remG_len (x:ByteArray) (F:List ByteArray):∀ (l out:List (ByteArray×Tm)),(frB (remG x F out l)).length≤(frB out).length+(frB l).length
 | [],out=>by rw[remG];exact Nat.le_add_right _ _
 | b::l,out=>by
  rw[remG,frB,List.length_append]
  split
  ·have:=remG_len x F l out;omega
  ·have:=remG_len x F l (out++[b])
   rw[frB_app,List.length_append] at this
   have e:(frB [b]).length=(fr b.2).length:=by rw[frB,frB,List.append_nil]
   omega
theorem remL_len (x:ByteArray) (F:List ByteArray) (l:List (ByteArray×Tm)):(frB (remL l x F)).length≤(frB l).length:=by
 have:=remG_len x F l []
 unfold remL
 exact Nat.le_trans this (by show 0+_≤_;omega)
theorem fr_nameT (s:ByteArray):fr (nameT s)=[s]:=by unfold nameT;rw[fr,if_pos rfl]
theorem inner_len (FS:ByteArray→List ByteArray→ByteArray) (x:ByteArray) (body:Tm) (l:List (ByteArray×Tm)):(frB (inner FS x body l)).length≤(frB l).length+1:=by
 have:=remL_len x (fr body) l
 unfold inner
 split
 ·rw[frB_app,List.length_append,frB,frB,fr_nameT];simp;omega
 ·omega
theorem ev_sub {FS:ByteArray→List ByteArray→ByteArray} {M:Nat} (hFS:GoodFS FS M):∀ (t:Tm) (l:List (ByteArray×Tm)) (ρ:ByteArray→Db),tmN t+(frB l).length≤M→ev ρ (subT FS t l)=ev (evB ρ l) t:=by
 intro t
 induction t using Tm.rec (motive_2:=fun ks=>∀ (bi:Bool) (nm z:ByteArray) (l inn:List (ByteArray×Tm)) (ρ:ByteArray→Db) (i:Nat),tmNs ks+(frB l).length≤M→(∀ (j:Nat) (t:Tm),ks[j]?=some t→(bi&&(i+j)==1)=true→tmN t+(frB inn).length≤M∧∀ s,s∈fr t→evB (upE z ρ) inn s=upE nm (evB ρ l) s)→evs bi z ρ i (subK FS bi l inn i ks)=evs bi nm (evB ρ l) i ks) with
 | mk op nm N ty ks ih=>
  intro l ρ hM
  rw[tmN] at hM
  rw[subT]
  by_cases h:op=20
  ·rw[if_pos h]
   rw[ev,if_pos h]
   unfold evB
   cases look l nm with
   | none=>simp only;rw[ev,if_pos h]
   | some u=>rfl
  ·rw[if_neg h]
   cases hb:binderB op
   ·simp only[Bool.false_eq_true,if_false]
    rw[ev,ev,if_neg h,if_neg h,hb,ih false nm nm l l ρ 0 (by omega) (fun j t _ e=>by cases e)]
   ·simp only[if_true]
    rw[ev,ev,if_neg h,if_neg h,hb,ih true nm (newN FS nm (ks.getD 1 (nameT nm)) l) l (inner FS nm (ks.getD 1 (nameT nm)) l) ρ 0 (by omega) (fun j t hj e=>?_)]
    have hj1:j=1:=by simpa using e
    subst hj1
    have e:ks.getD 1 (nameT nm)=t:=by rw[List.getD_eq_getElem?_getD,hj];rfl
    rw[e]
    have hle:tmN t≤tmNs ks:=by
     have:∀ (ks:List Tm) (i:Nat),ks[i]?=some t→tmN t≤tmNs ks:=by
      intro ks
      induction ks with
      | nil=>intro i h;simp at h
      | cons a ks ih=>
       intro i h
       rw[tmNs]
       cases i with
       | zero=>simp at h;subst h;omega
       | succ i=>have:=ih i (by simpa using h);omega
     exact this ks 1 hj
    refine⟨by have:=inner_len FS nm t l;omega,fun s hs=>inner_ev (fun _=>hFS _ _ ?_) ρ s hs⟩
    rw[List.length_append]
    have h1:=frs_len t
    have h2:=remL_len nm (fr t) l
    omega
 | nil=>rfl
 | cons t ks iht ihl=>
  rename_i bi nm z l inn ρ i hM hin
  rw[tmNs] at hM
  rw[subK,evs,evs,ihl bi nm z l inn ρ (i+1) (by omega) (fun j t hj e=>hin (j+1) t (by simpa using hj) (by rw[show i+(j+1)=i+1+j by omega];exact e))]
  congr 1
  cases hb:(bi&&i==1)
  ·simp only[Bool.false_eq_true,if_false];exact iht _ _ (by omega)
  ·simp only[if_true]
   obtain⟨h1,h2⟩:=hin 0 t rfl (by rw[Nat.add_zero];exact hb)
   rw[iht _ _ h1]
   exact ev_cong _ _ _ h2
mutual
def tyEq:Ty→Ty→Bool
 | .mk k n l,.mk k' n' l'=>decide (k=k')&&decide (n=n')&&tysEq l l'
def tysEq:List Ty→List Ty→Bool
 | [],[]=>true
 | t::l,t'::l'=>tyEq t t'&&tysEq l l'
 | _,_=>false
end
theorem tyEq_iff:∀ (a b:Ty),tyEq a b=true↔a=b:=by
 intro a
 induction a using Ty.rec (motive_2:=fun l=>∀ l',tysEq l l'=true↔l=l') with
 | mk k n l ih=>
  intro b
  cases b with
  | mk k' n' l'=>
   simp only[tyEq,Bool.and_eq_true,decide_eq_true_eq,ih l',Ty.mk.injEq]
   constructor
   ·rintro⟨⟨a,b⟩,c⟩;exact⟨a,b,c⟩
   ·rintro⟨a,b,c⟩;exact⟨⟨a,b⟩,c⟩
 | nil=>rename_i l';cases l' <;> simp[tysEq]
 | cons t l iht ihl=>
  rename_i l'
  cases l' with
  | nil=>simp[tysEq]
  | cons t' l'=>simp only[tysEq,Bool.and_eq_true,iht,ihl,List.cons.injEq]
mutual
def tmEq:Tm→Tm→Bool
 | .mk o n N t l,.mk o' n' N' t' l'=>decide (o=o')&&decide (n=n')&&decide (N=N')&&tyEq t t'&&tmsEq l l'
def tmsEq:List Tm→List Tm→Bool
 | [],[]=>true
 | t::l,t'::l'=>tmEq t t'&&tmsEq l l'
 | _,_=>false
end
theorem tmEq_iff:∀ (a b:Tm),tmEq a b=true↔a=b:=by
 intro a
 induction a using Tm.rec (motive_2:=fun l=>∀ l',tmsEq l l'=true↔l=l') with
 | mk o n N t l ih=>
  intro b
  cases b with
  | mk o' n' N' t' l'=>
   simp only[tmEq,Bool.and_eq_true,decide_eq_true_eq,ih l',Tm.mk.injEq,tyEq_iff]
   constructor
   ·rintro⟨⟨⟨⟨a,b⟩,c⟩,d⟩,e⟩;exact⟨a,b,c,d,e⟩
   ·rintro⟨a,b,c,d,e⟩;exact⟨⟨⟨⟨a,b⟩,c⟩,d⟩,e⟩
 | nil=>rename_i l';cases l' <;> simp[tmsEq]
 | cons t l iht ihl=>
  rename_i l'
  cases l' with
  | nil=>simp[tmsEq]
  | cons t' l'=>simp only[tmsEq,Bool.and_eq_true,iht,ihl,List.cons.injEq]
def idx (s:ByteArray):List ByteArray→Option Nat
 | []=>none
 | x::X=>if x=s then some 0 else (idx s X).map (·+1)
theorem idxN_lt {s:ByteArray}:∀ {X:List ByteArray} {i:Nat},idx s X=some i→i<X.length
 | x::X,i,h=>by
  rw[idx] at h
  split at h
  ·cases h;simp
  ·cases hx:idx s X with
   | none=>rw[hx] at h;cases h
   | some j=>
    rw[hx] at h
    have:=idxN_lt hx
    simp only[Option.map_some,Option.some.injEq] at h
    simp;omega
def lastI (s:ByteArray) (l:List ByteArray):Int:=match idx s l.reverse with
 | some i=>(l.length:Int)-1-i
 | none=>-1
def envL (X:List ByteArray):ByteArray→Db:=X.foldl (fun ρ n=>upE n ρ) .fv
theorem envL_snoc (X:List ByteArray) (n:ByteArray):envL (X++[n])=upE n (envL X):=by unfold envL;rw[List.foldl_append];rfl
theorem envL_at (s:ByteArray):∀ (R:List ByteArray),envL R.reverse s=match idx s R with | some i=>.bv i | none=>.fv s
 | []=>rfl
 | x::R=>by
  rw[List.reverse_cons,envL_snoc,idx]
  unfold upE
  by_cases h:x=s
  ·rw[if_pos h.symm,if_pos h]
  ·rw[if_neg (Ne.symm h),if_neg h,envL_at s R]
   cases idx s R <;> rfl
theorem envL_idx (s:ByteArray) (X:List ByteArray):envL X s=match idx s X.reverse with | some i=>.bv i | none=>.fv s:=by
 have:=envL_at s X.reverse
 rw[List.reverse_reverse] at this;exact this
inductive NW:Tm→Prop
 | mk {op:Int} {nm:ByteArray} {N:Int} {ty:Ty} {l:List Tm} (h:op=20→N=0∧ty=ty0∧l=[]) (hl:∀ t,t∈l→NW t):NW (.mk op nm N ty l)
mutual
def alikeT:Tm→Tm→List ByteArray→List ByteArray→Bool
 | .mk op nm N ty l,.mk op' nm' N' ty' l',x,y=>
  (decide (op=op')&&decide (N=N')&&tyEq ty ty'&&decide (l.length=l'.length)) &&
   (if op=20 then decide (lastI nm x=lastI nm' y)&&(decide (0≤lastI nm x)||decide (nm=nm')) else alikeK (binderB op) nm nm' 0 l l' x y)
def alikeK (bi:Bool) (nm nm':ByteArray):Nat→List Tm→List Tm→List ByteArray→List ByteArray→Bool
 | i,a::l,b::l',x,y=>alikeT a b (if bi&&i==1 then x++[nm] else x) (if bi&&i==1 then y++[nm'] else y)&&alikeK bi nm nm' (i+1) l l' x y
 | _,_,_,_,_=>true
end
theorem ev_len (bi:Bool) (nm:ByteArray) (ρ:ByteArray→Db):∀ (l:List Tm) (i:Nat),(evs bi nm ρ i l).length=l.length
 | [],i=>rfl
 | t::l,i=>by rw[evs,List.length_cons,ev_len bi nm ρ l,List.length_cons]
theorem last_eq {s s':ByteArray} {X Y:List ByteArray} (h:X.length=Y.length):(decide (lastI s X=lastI s' Y)&&(decide (0≤lastI s X)||decide (s=s')))=true↔envL X s=envL Y s':=by
 rw[envL_idx,envL_idx]
 unfold lastI
 cases h1:idx s X.reverse with
 | none=>
  cases h2:idx s' Y.reverse with
  | none=>simp
  | some j=>
   have:=idxN_lt h2
   rw[List.length_reverse] at this
   simp only[Bool.and_eq_true,decide_eq_true_eq,reduceCtorEq,iff_false,not_and]
   intro e;omega
 | some i=>
  have hi:=idxN_lt h1
  rw[List.length_reverse] at hi
  cases h2:idx s' Y.reverse with
  | none=>
   simp only[Bool.and_eq_true,decide_eq_true_eq,reduceCtorEq,iff_false,not_and]
   intro e;omega
  | some j=>
   have hj:=idxN_lt h2
   rw[List.length_reverse] at hj
   simp only[Bool.and_eq_true,decide_eq_true_eq,Bool.or_eq_true,Db.bv.injEq]
   constructor
   ·rintro⟨e,_⟩;omega
   ·intro e;exact⟨by omega,Or.inl (by omega)⟩
theorem env_no_nd (X:List ByteArray) (s:ByteArray) (op N:Int) (ty:Ty) (l:List Db):envL X s≠.nd op N ty l:=by
 rw[envL_idx];cases idx s X.reverse <;> simp
theorem alike_iff:∀ (a b:Tm) (X Y:List ByteArray),X.length=Y.length→NW a→NW b→(alikeT a b X Y=true↔ev (envL X) a=ev (envL Y) b):=by
 intro a
 induction a using Tm.rec (motive_2:=fun l=>∀ (l':List Tm) (bi:Bool) (nm nm':ByteArray) (i:Nat) (X Y:List ByteArray),l.length=l'.length→X.length=Y.length→(∀ t,t∈l→NW t)→(∀ t,t∈l'→NW t)→(alikeK bi nm nm' i l l' X Y=true↔evs bi nm (envL X) i l=evs bi nm' (envL Y) i l')) with
 | mk op nm N ty l ih=>
  intro b X Y hXY ha hb
  cases b with
  | mk op' nm' N' ty' l'=>
   cases ha with
   | mk ha hal=>
    cases hb with
    | mk hb hbl=>
     rw[alikeT,ev,ev,Bool.and_eq_true]
     simp only[Bool.and_eq_true,decide_eq_true_eq,tyEq_iff]
     by_cases h:op=20
     ·by_cases h':op'=20
      ·rw[if_pos h,if_pos h,if_pos h']
       obtain⟨a1,a2,a3⟩:=ha h
       obtain⟨b1,b2,b3⟩:=hb h'
       subst h h' a1 a2 a3 b1 b2 b3
       rw[← last_eq hXY]
       simp
      ·rw[if_pos h,if_pos h,if_neg h']
       constructor
       ·rintro⟨⟨⟨⟨e,_⟩,_⟩,_⟩,_⟩;exact absurd (e.symm.trans h) h'
       ·intro e;exact absurd e (env_no_nd _ _ _ _ _ _)
     ·by_cases h':op'=20
      ·rw[if_neg h,if_neg h,if_pos h']
       constructor
       ·rintro⟨⟨⟨⟨e,_⟩,_⟩,_⟩,_⟩;exact absurd (e.trans h') h
       ·intro e;exact absurd e.symm (env_no_nd _ _ _ _ _ _)
      ·rw[if_neg h,if_neg h,if_neg h',Db.nd.injEq]
       constructor
       ·rintro⟨⟨⟨⟨e1,e2⟩,e3⟩,e4⟩,e5⟩
        subst e1
        exact⟨rfl,e2,e3,(ih _ _ _ _ _ _ _ e4 hXY hal hbl).1 e5⟩
       ·rintro⟨e1,e2,e3,e4⟩
        subst e1
        have el:l.length=l'.length:=by
         have:=congrArg List.length e4
         rw[ev_len,ev_len] at this;exact this
        exact⟨⟨⟨⟨rfl,e2⟩,e3⟩,el⟩,(ih _ _ _ _ _ _ _ el hXY hal hbl).2 e4⟩
 | nil=>
  rename_i l' bi nm nm' i X Y hl hXY _ _
  cases l' with
  | nil=>simp[alikeK,evs]
  | cons b l'=>simp at hl
 | cons a l iha ihl=>
  rename_i l' bi nm nm' i X Y hl hXY h1 h2
  cases l' with
  | nil=>simp at hl
  | cons b l'=>
   rw[alikeK,evs,evs,Bool.and_eq_true,List.cons.injEq,ihl l' bi nm nm' (i+1) X Y (by simpa using hl) hXY (fun t ht=>h1 t (List.mem_cons_of_mem _ ht)) (fun t ht=>h2 t (List.mem_cons_of_mem _ ht))]
   cases hb:(bi&&i==1)
   ·simp only[Bool.false_eq_true,if_false]
    rw[iha b X Y hXY (h1 a (by simp)) (h2 b (by simp))]
   ·simp only[if_true]
    rw[iha b (X++[nm]) (Y++[nm']) (by simp[hXY]) (h1 a (by simp)) (h2 b (by simp)),envL_snoc,envL_snoc]
theorem alike_db {a b:Tm} (ha:NW a) (hb:NW b):alikeT a b [] []=true↔dbT a=dbT b:=alike_iff a b [] [] rfl ha hb
theorem ev_size:∀ (t:Tm) (ρ:ByteArray→Db),NW t→(∀ s,szD (ρ s)=1)→szD (ev ρ t)=tmN t:=by
 intro t
 induction t using Tm.rec (motive_2:=fun l=>∀ (bi:Bool) (nm:ByteArray) (ρ:ByteArray→Db) (i:Nat),(∀ t,t∈l→NW t)→(∀ s,szD (ρ s)=1)→szDs (evs bi nm ρ i l)=tmNs l) with
 | mk op nm N ty l ih=>
  intro ρ h1 h2
  cases h1 with
  | mk h1 hl=>
   rw[ev,tmN]
   by_cases h:op=20
   ·rw[if_pos h,(h1 h).2.2,h2];rfl
   ·rw[if_neg h,szD,ih _ _ _ _ hl h2]
 | nil=>rfl
 | cons t l iht ihl=>
  rename_i bi nm ρ i h1 h2
  rw[evs,szDs,tmNs,ihl bi nm ρ (i+1) (fun t ht=>h1 t (List.mem_cons_of_mem _ ht)) h2,iht _ (h1 t (by simp)) ?_]
  intro s
  split
  ·unfold upE
   split
   ·rfl
   ·rw[szD_ren];exact h2 s
  ·exact h2 s
theorem ev_depth:∀ (t:Tm) (ρ:ByteArray→Db),NW t→(∀ s,dpD (ρ s)=1)→dpD (ev ρ t)=tmD t:=by
 intro t
 induction t using Tm.rec (motive_2:=fun l=>∀ (bi:Bool) (nm:ByteArray) (ρ:ByteArray→Db) (i:Nat),(∀ t,t∈l→NW t)→(∀ s,dpD (ρ s)=1)→dpDs (evs bi nm ρ i l)=tmDs l) with
 | mk op nm N ty l ih=>
  intro ρ h1 h2
  cases h1 with
  | mk h1 hl=>
   rw[ev,tmD]
   by_cases h:op=20
   ·rw[if_pos h,(h1 h).2.2,h2];rfl
   ·rw[if_neg h,dpD,ih _ _ _ _ hl h2]
 | nil=>rfl
 | cons t l iht ihl=>
  rename_i bi nm ρ i h1 h2
  rw[evs,dpDs,tmDs,ihl bi nm ρ (i+1) (fun t ht=>h1 t (List.mem_cons_of_mem _ ht)) h2,iht _ (h1 t (by simp)) ?_]
  intro s
  split
  ·unfold upE
   split
   ·rfl
   ·rw[dpD_ren];exact h2 s
  ·exact h2 s
theorem dbT_size {t:Tm} (h:NW t):szD (dbT t)=tmN t:=ev_size t _ h (fun _=>rfl)
theorem dbT_depth {t:Tm} (h:NW t):dpD (dbT t)=tmD t:=ev_depth t _ h (fun _=>rfl)
theorem db_size {t u:Tm} (ht:NW t) (hu:NW u) (h:dbT t=dbT u):tmN t=tmN u:=by rw[← dbT_size ht,← dbT_size hu,h]
theorem db_depth {t u:Tm} (ht:NW t) (hu:NW u) (h:dbT t=dbT u):tmD t=tmD u:=by rw[← dbT_depth ht,← dbT_depth hu,h]
def NmL (ok:Nat→Prop) (w:World) (l:List ByteArray) (v:Value):Prop:=
 ∃ a n c,v=.slice a n c∧n=l.length∧n≤c∧(a=none→c=0)∧∀ i (h:i<l.length),∃ g off,a=some ⟨g,off,none⟩∧ok g∧w.cell? ⟨g,off+i,none⟩=some (.string l[i])
theorem NmL.nil {ok:Nat→Prop} {w:World}:NmL ok w [] (.slice none 0 0):=⟨none,0,0,rfl,rfl,Nat.le_refl _,fun _=>rfl,fun i h=>absurd h (Nat.not_lt_zero _)⟩
theorem NmL.frame {ok:Nat→Prop} {w W:World} {l:List ByteArray} {v:Value} (h:NmL ok w l v) (hs:Same ok w W):NmL ok W l v:=by
 obtain⟨a,n,c,h1,h2,h3,h5,h4⟩:=h
 refine⟨a,n,c,h1,h2,h3,h5,fun i hi=>?_⟩
 obtain⟨g,off,e,hg,hc⟩:=h4 i hi
 exact⟨g,off,e,hg,hs.cell hg hc⟩
theorem NmL.mono {ok ok':Nat→Prop} {w:World} {l:List ByteArray} {v:Value} (h:NmL ok w l v) (ho:∀ k,k<w.heap.size→ok k→ok' k):NmL ok' w l v:=by
 obtain⟨a,n,c,h1,h2,h3,h5,h4⟩:=h
 refine⟨a,n,c,h1,h2,h3,h5,fun i hi=>?_⟩
 obtain⟨g,off,e,hg,hc⟩:=h4 i hi
 exact⟨g,off,e,ho _ (cell_lt hc) hg,hc⟩
theorem NmL.slice {ok:Nat→Prop} {w:World} {l:List ByteArray} {v:Value} (h:NmL ok w l v):∃ a c,v=.slice a l.length c:=by
 obtain⟨a,n,c,h1,h2,_⟩:=h
 exact⟨a,c,by rw[h1,h2]⟩
theorem NmL.at {ok:Nat→Prop} {w:World} {l:List ByteArray} {a:Option Addr} {n c:Nat} (h:NmL ok w l (.slice a n c)) (i:Nat) (hi:i<l.length):∃ g off,a=some ⟨g,off,none⟩∧ok g∧w.cell? ⟨g,off+i,none⟩=some (.string l[i]):=by
 obtain⟨a',n',c',h1,h2,h3,h5,h4⟩:=h
 cases h1
 exact h4 i hi
theorem nm_eq {a b:ByteArray}:(a.toList==b.toList)=decide (a=b):=by
 rw[Bool.eq_iff_iff];simp only[beq_iff_eq,decide_eq_true_eq]
 rw[Go.ByteArray.toList_eq,Go.ByteArray.toList_eq]
 exact⟨fun h=>ByteArray.ext (Array.toList_inj.1 h),fun h=>by rw[h]⟩
theorem idx_take {s:ByteArray}:∀ (l:List ByteArray) (k:Nat) (h:k<l.length),idx s (l.take (k+1)).reverse=if l[k]=s then some 0 else (idx s (l.take k).reverse).map (·+1):=by
 intro l k h
 rw[List.take_succ_eq_append_getElem h,List.reverse_append,List.reverse_cons,List.reverse_nil,List.nil_append,List.singleton_append,idx]
theorem last_take {s:ByteArray} {l:List ByteArray} {k:Nat} (h:k<l.length):lastI s (l.take (k+1))=if l[k]=s then (k:Int) else lastI s (l.take k):=by
 unfold lastI
 rw[idx_take l k h]
 have e1:(l.take (k+1)).length=k+1:=by rw[List.length_take];omega
 have e2:(l.take k).length=k:=by rw[List.length_take];omega
 by_cases hs:l[k]=s
 ·rw[if_pos hs,if_pos hs,e1];simp only;omega
 ·rw[if_neg hs,if_neg hs,e1,e2]
  cases idx s (l.take k).reverse with
  | none=>rfl
  | some i=>simp only[Option.map_some];omega
theorem rlast_any {ok:Nat→Prop} {w:World} {l:List ByteArray} {v:Value} (s:ByteArray) (h:NmL ok w l v) (hn:l.length≤1000000):
  Calls Tryz.prog 107 #[.string s,v] w fun e w'=>e=.returned (.int .i64 (lastI s l))∧w=w':=by
 obtain⟨a,c,rfl⟩:=h.slice
 have HAT:=Ld (fun i hi=>h.at i hi)
 have HN:=Ld hn
 clear h
 go_enter Tryz.func107,Tryz.ntmps107
 go_wp2_with fail
 go_loop [5] (fun i=>∃ k:Nat,k≤l.length∧i=.int .i64 ((k:Int)-1)∧Hid (lastI s l=lastI s (l.take k))) (fun i=>(intOf i+1).toNat)
 case atStart=>exact⟨l.length,Nat.le_refl _,by simp,Ld (by rw[List.take_length])⟩
 case round=>
  obtain⟨k,hk,rfl,hq⟩:=hrel
  cases k with
  | zero=>
   have i0:((0:Nat):Int)-1=-1:=rfl
   have HZ:Hid (lastI s l=-1):=Ld (by rw[hq.out];rfl)
   rw[i0]
   go_wp2_with fail
   go_ret
   exact⟨by rw[HZ.out];rfl,rfl⟩
  | succ k=>
   have hkl:k<l.length:=by omega
   obtain⟨g,off,rfl,_,c0⟩:=HAT.out k hkl
   have i0:((k+1:Nat):Int)-1=k:=by omega
   have i1:(k:Int)<(l.length:Int):=by omega
   have i2:(k:Int)<1000000:=by have:=HN.out;omega
   have i3:decide (0≤(k:Int))=true:=by simp
   have HS:=Ld (last_take (s:=s) hkl)
   rw[i0]
   clear i0 hk
   cases hs:(l[k].toList==s.toList)
   ·have hne:Hid (l[k]≠s):=Ld (by intro e;rw[e] at hs;simp at hs)
    go_wp2_with fail
    go_round
    case rel=>exact⟨k,by omega,rfl,Ld (by rw[hq.out,HS.out,if_neg hne.out])⟩
    case measure=>simp[intOf]
   ·have hye:Hid (l[k]=s):=Ld (by rw[nm_eq] at hs;exact of_decide_eq_true hs)
    go_wp2_with fail
    go_ret
    exact⟨by rw[hq.out,HS.out,if_pos hye.out];rfl,rfl⟩
theorem info_str:∃ i,Tryz.prog.info? 9=some i∧i.zero=some (.string ⟨#[]⟩)∧i.size=1∧i.bytes=16:=by
 have:(Tryz.prog.info? 9).map (fun i=>(i.zero,i.size,i.bytes))=some (some (.string ⟨#[]⟩),1,16):=by kernel_rfl
 cases hh:Tryz.prog.info? 9 with
 | none=>rw[hh] at this;cases this
 | some i=>rw[hh] at this;simp only[Option.map_some,Option.some.injEq,Prod.mk.injEq] at this;exact⟨i,rfl,this.1,this.2.1,this.2.2⟩
theorem strs_one:∀ (l:List ByteArray),∀ u∈l.map Value.string,u.oneCell'=true:=by
 intro l u hu
 obtain⟨x,_,rfl⟩:=List.mem_map.1 hu
 rfl
def Src (w:World) (x:Value) (m:Nat) (news:List Value):Prop:=(x=.slice none 0 0∧m=0∧news=[])∨∃ ad c,x=.slice (some ad) m c∧∀ j u,news[j]?=some u→w.cell? (ad.add j)=some u
theorem wpList_app_src {P:Program} {w:World} {ops:Array Oper} {rest:List Oper} {o:Oper} {a:Act} {Q:Exit→Act→World→Prop} (hgd:o.guard=none) (s x:Operand) (t:TypeId)
  (ho:o.op=.call { callee:=.builtin .append,args:=#[s,x],argTypes:=#[t,t] })
  (base:Nat) (e:TypeId) (i:TypeInfo) (z:Value) (size bytes:Nat) (ht:P.underlying t=some (.slice e)) (hi:P.info? e=some i) (hz:i.zero=some z)
  (hsize:i.size=size) (hby:i.bytes=bytes) (hzs:z.cells.size=size) (hsz:0<size)
  (v:Value) (n:Nat) (xs:List Value) (hs:a.eval s=v) (hown:w.ownsRow base e size v n xs)
  (u:Value) (m:Nat) (news:List Value) (hx:a.eval x=u) (hsrc:Src w u m news) (hl:news.length=m*size) (h1:∀ u∈news,u.oneCell'=true)
  (h63:n+m≤maxLen) (hbytes:(n+m)*bytes≤140737488355328) (hbase:base≤w.heap.size)
  (h:∀ v' w',w'.ownsRow base e size v' (n+m) (xs++news)→w.grownBy w' v.ownBlock→(v'.ownBlock=v.ownBlock∨v'.ownBlock=some w.heap.size)→wpList P ops Q rest (a.put o.dst v') w'):wpList P ops Q (o::rest) a w:=by
 rcases hsrc with ⟨rfl,rfl,rfl⟩ | ⟨ad,c,rfl,hc⟩
 ·exact wpList_append_own_none hgd s x t ho base e i size ht hi v n xs hs hown hx (h v w (by simpa using hown) (World.grownBy.refl w _) (.inl rfl))
 ·exact wpList_append_own_at w hgd s x t ho base e i z size bytes ht hi hz hsize hby hzs hsz v n xs hs hown ad m c news hx hl hc h1 h63 hbytes hbase (fun v' w' h2 h3 _ h5=>h v' w' h2 h3 h5)
theorem run_app_src {P:Program} {w:World} (t ty:TypeId) (base:Nat) (e:TypeId) (i:TypeInfo) (z:Value) (size bytes:Nat) (ht:P.underlying t=some (.slice e)) (hi:P.info? e=some i) (hz:i.zero=some z)
  (hsize:i.size=size) (hby:i.bytes=bytes) (hzs:z.cells.size=size) (hsz:0<size)
  (v:Value) (n:Nat) (xs:List Value) (hown:w.ownsRow base e size v n xs) (u:Value) (m:Nat) (news:List Value) (hsrc:Src w u m news) (hl:news.length=m*size) (h1:∀ u∈news,u.oneCell'=true)
  (h63:n+m≤maxLen) (hbytes:(n+m)*bytes≤140737488355328) (hbase:base≤w.heap.size):
  ∃ v' w',(Builtin.append_ #[t,t] ty #[v,u]).run P w=.ok v' w'∧w'.ownsRow base e size v' (n+m) (xs++news)∧w.grownBy w' v.ownBlock∧(v'.ownBlock=v.ownBlock∨v'.ownBlock=some w.heap.size):=by
 rcases hsrc with ⟨rfl,rfl,rfl⟩ | ⟨ad,c,rfl,hc⟩
 ·exact⟨v,w,run_append_owned_none (P:=P) (w:=w) base t ty e i size ht hi v n xs hown,by simpa using hown,World.grownBy.refl w _,.inl rfl⟩
 ·obtain⟨v',w',hr,h2,h3,_,h5⟩:=run_append_own_at (P:=P) w base t ty e i z size bytes ht hi hz hsize hby hzs hsz v n xs hown ad m c news hl hc h1 h63 hbytes hbase
  exact⟨v',w',hr,h2,h3,h5⟩
theorem step_app_src {P:Program} {w:World} {ops:Array Oper} {o:Oper} {a:Act} {K:Act→World→Prop} {Q:Exit→Act→World→Prop} {X:Prop} (hgd:o.guard=none) (s x:Operand) (t:TypeId)
  (ho:o.op=.call { callee:=.builtin .append,args:=#[s,x],argTypes:=#[t,t] })
  (base:Nat) (e:TypeId) (i:TypeInfo) (z:Value) (size bytes:Nat) (ht:P.underlying t=some (.slice e)) (hi:P.info? e=some i) (hz:i.zero=some z)
  (hsize:i.size=size) (hby:i.bytes=bytes) (hzs:z.cells.size=size) (hsz:0<size)
  (v:Value) (n:Nat) (xs:List Value) (hs:a.eval s=v) (hown:w.ownsRow base e size v n xs)
  (u:Value) (m:Nat) (news:List Value) (hx:a.eval x=u) (hsrc:Src w u m news) (hl:news.length=m*size) (h1:∀ u∈news,u.oneCell'=true)
  (h63:n+m≤maxLen) (hbytes:(n+m)*bytes≤140737488355328) (hbase:base≤w.heap.size)
  (h:∀ v' w',w'.ownsRow base e size v' (n+m) (xs++news)→w.grownBy w' v.ownBlock→(v'.ownBlock=v.ownBlock∨v'.ownBlock=some w.heap.size)→K (a.put o.dst v') w'):
  if Region.wanted o (yielded ops a.tmps)=true then Oper.wp P o a w K Q else X:=by
 have hw:Region.wanted o (yielded ops a.tmps)=true:=by simp[Region.wanted,hgd]
 rw[if_pos hw]
 obtain⟨v',w',hr,h2,h3,h4⟩:=run_app_src (P:=P) (w:=w) t o.type base e i z size bytes ht hi hz hsize hby hzs hsz v n xs hown u m news hsrc hl h1 h63 hbytes hbase
 unfold Oper.wp execOp
 simp only[ho,resolve,invoke,builtin,Sem.run_bind,Sem.run_pure,Result.andThen_ok,List.map_toArray,List.map_cons,List.map_nil,hs,hx,hr]
 exact h v' w' h2 h3 h4
theorem NmL.src {ok:Nat→Prop} {w:World} {l:List ByteArray} {v:Value} (h:NmL ok w l v):Src w v l.length (l.map Value.string):=by
 obtain⟨a,n,c,rfl,rfl,h3,h5,h4⟩:=h
 cases a with
 | none=>
  have hc:=h5 rfl
  subst hc
  have hl:l=[]:=List.length_eq_zero_iff.1 (by omega)
  subst hl
  exact .inl ⟨rfl,rfl,rfl⟩
 | some ad=>
  refine .inr ⟨ad,c,rfl,fun j u hu=>?_⟩
  have hj:j<l.length:=by
   have:=(List.getElem?_eq_some_iff.1 hu).1
   simpa using this
  obtain⟨g,off,e,_,hc⟩:=h4 j hj
  cases e
  rw[List.getElem?_map,List.getElem?_eq_getElem hj] at hu
  cases hu
  have e:(⟨g,off,none⟩:Addr).add j=⟨g,off+j,none⟩:=by unfold Addr.add;split <;> simp_all
  rw[e];exact hc
theorem NmL.of_own {ok:Nat→Prop} {w:World} {base:Nat} {l:List ByteArray} {v:Value} (h:w.ownsRow base 9 1 v l.length (l.map Value.string)) (hok:∀ g,v.ownBlock=some g→ok g):NmL ok w l v:=by
 rcases h.2 with ⟨rfl,hn⟩ | ⟨g,cap,cur,rfl,hbg,hg,hnc,hcm,hcs,htake⟩
 ·have:l=[]:=List.length_eq_zero_iff.1 hn
  subst this;exact .nil
 ·refine⟨some ⟨g,0,none⟩,l.length,cap,rfl,rfl,by omega,(fun e=>by cases e),fun i hi=>⟨g,0,rfl,hok g rfl,?_⟩⟩
  have hb:Blk w g 9 cur.toList:=by show w.heap[g]?=_;rw[hg]
  have h1:(cur.toList.take (l.length*1))[i]?=(l.map Value.string)[i]?:=by rw[htake]
  rw[List.getElem?_take,if_pos (by omega),List.getElem?_map,List.getElem?_eq_getElem hi] at h1
  rw[hb.cell,Nat.zero_add];exact h1
theorem kept_grown1 {w w':World} {row:Option Nat} (h:w.grownBy w' row):Kept (fun k=>row=some k) w w':=⟨h.os,h.tape,h.output,h.size,fun k hk hn=>h.block k hk (fun e=>hn e.symm)⟩
theorem Kept.via1 {S S':Nat→Prop} {w w1 w2:World} (h:Kept S w w1) (k:Kept S' w1 w2) (hS:∀ x,x<w.heap.size→S' x→S x):Kept S w w2:=
 ⟨k.os.trans h.os,k.tape.trans h.tape,k.output.trans h.output,Nat.le_trans h.size k.size,fun i hi hs=>(k.block i (Nat.lt_of_lt_of_le hi h.size) (fun q=>hs (hS i hi q))).trans (h.block i hi hs)⟩
structure NRow (w:World) (base:Nat) (W:World) (l:List ByteArray) (v:Value):Prop where
 kp:Kept (fun _=>False) w W
 own:W.ownsRow base 9 1 v l.length (l.map Value.string)
theorem NRow.nml {w W:World} {base:Nat} {l:List ByteArray} {v:Value} (h:NRow w base W l v):NmL (fun q=>base≤q) W l v:=.of_own h.own (fun g hg=>(h.own.lt g hg).1)
theorem NRow.app {w W W8:World} {base:Nat} {l r:List ByteArray} {v v':Value} (h:NRow w base W l v) (hb:w.heap.size≤base) (own8:W8.ownsRow base 9 1 v' (l.length+r.length) (l.map Value.string++r.map Value.string)) (hgrow:W.grownBy W8 v.ownBlock):NRow w base W8 (l++r) v':=by
 refine⟨h.kp.via1 (kept_grown1 hgrow) (fun x hx e=>by have:=(h.own.lt x e).1;omega),?_⟩
 rw[List.length_append,List.map_append];exact own8
theorem rwith_any {ok:Nat→Prop} {w:World} {l:List ByteArray} {v:Value} (s:ByteArray) (h:NmL ok w l v) (hn:l.length≤1000000):
  Calls Tryz.prog 93 #[v,.string s] w fun e w'=>∃ v',e=.returned v'∧NRow w w.heap.size w' (l++[s]) v':=by
 obtain⟨i9,hi9,hz9,hs9,hb9⟩:=info_str
 have HI:=Ld hi9
 have HZ:=Ld hz9
 have HS:=Ld hs9
 have HB:=Ld hb9
 obtain⟨a,c,rfl⟩:=h.slice
 have HSRC:=Ld (fun W (k:Kept (fun _=>False) w W)=>(h.frame (sK k)).src)
 have HN:=Ld hn
 clear h hi9 hz9 hs9 hb9 hn
 go_enter Tryz.func93,Tryz.ntmps93
 go_wp2_with (at_builtin;refine wpList_app_src rfl (.tmp 5) (.tmp 6) _ rfl w.heap.size 9 i9 _ 1 16 Tryz.underlying28 HI.out HZ.out HS.out HB.out rfl (by decide) (.slice (some ⟨w.heap.size,0,none⟩) 0 0) 0 [] rfl (World.ownsRow_made w #[] 0 (Nat.le_refl _) (by decide) rfl) (.slice a l.length c) l.length (l.map Value.string) rfl (HSRC.out _ (kR.alloc _)) (by simp) (strs_one l) ?_ ?_ (by simp) ?_)
 ·have:=HN.out;unfold maxLen;omega
 ·have:=HN.out;omega
 intro v1 w1 own1 hg1 hat1
 have R1:Hid (NRow w w.heap.size w1 l v1):=Ld (by
  exact⟨((Kept.refl (fun _=>False) w).alloc (.cells #[] 9)).via1 (kept_grown1 hg1) (fun x hx e=>by have e2:some w.heap.size=some x:=e;have:=Option.some.inj e2;omega),by simpa using own1⟩)
 clear own1 hg1 hat1
 go_wp2_with (at_builtin;refine wpList_app_src rfl (.tmp 7) (.tmp 9) _ rfl w.heap.size 9 i9 _ 1 16 Tryz.underlying28 HI.out HZ.out HS.out HB.out rfl (by decide) v1 l.length (l.map Value.string) rfl (R1.out.own.alloc _) (.slice (some ⟨w1.heap.size,0,none⟩) 1 1) 1 [.string s] rfl (.inr ⟨_,_,rfl,cell_one_new _ _ _⟩) rfl (strs_one [s]) ?_ ?_ ?_ ?_)
 ·have:=HN.out;unfold maxLen;omega
 ·have:=HN.out;omega
 ·have:=R1.out.kp.size;simp;omega
 intro v2 w2 own2 hg2 hat2
 go_wp2_with fail
 go_ret
 refine⟨_,rfl,NRow.app (W:=w1.alloc (.cells #[.string s] 9)) (r:=[s]) ⟨R1.out.kp.alloc _,R1.out.own.alloc _⟩ (Nat.le_refl _) own2 hg2⟩
end Go.Proofs.YtdmebjbkccjhbaaGreatDoor
namespace Go.Proofs.YtdmebjbkccjhbaaGreatDoor
open Go.RowKit Go.Maps Go.Sort Go.Shelf
def keysA_ren:Go.Shelf.Ren:=⟨fun | 7=>43 | 10=>90 | n=>n,fun | 23=>69 | 26=>9 | 3=>4 | 28=>67 | 0=>0 | 27=>66 | 33=>32 | 4=>4 | n=>n,fun | n=>n⟩
def collA_ren:Go.Shelf.Ren:=⟨fun | 8=>88 | 11=>142 | n=>n,fun | 26=>9 | 28=>67 | 24=>28 | 0=>0 | 33=>32 | 4=>4 | n=>n,fun | n=>n⟩
theorem keysA:SlLaysZ.n7 Tryz.prog keysA_ren:={
 mixed:=by kernel_rfl
 f7 := ⟨"maps.Keys[map[string]bool,string,bool]", by decide, Tryz.func43.trans (congrArg some (by kernel_rfl))⟩
 f10 := ⟨"maps.Keys[map[string]bool,string,bool]$1", by decide, Tryz.func90.trans (congrArg some (by kernel_rfl))⟩
 t0:=Tryz.underlying0,a0:=Tryz.isAgg0,z0:=Tryz.sizeOf0,v0:=Tryz.zeroValue0
 t4:=Tryz.underlying4,a4:=Tryz.isAgg4,z4:=Tryz.sizeOf4,v4:=Tryz.zeroValue4
 t23:=Tryz.underlying69,a23:=Tryz.isAgg69,z23:=Tryz.sizeOf69,v23:=Tryz.zeroValue69
 t26:=Tryz.underlying9,a26:=Tryz.isAgg9,z26:=Tryz.sizeOf9,v26:=Tryz.zeroValue9
 t27:=Tryz.underlying66,a27:=Tryz.isAgg66,z27:=Tryz.sizeOf66,v27:=Tryz.zeroValue66
 t28:=Tryz.underlying67,a28:=Tryz.isAgg67,z28:=Tryz.sizeOf67,v28:=Tryz.zeroValue67
 t33:=Tryz.underlying32,a33:=Tryz.isAgg32,z33:=Tryz.sizeOf32,v33:=Tryz.zeroValue32 }
theorem collA:SlLaysZ.n8 Tryz.prog collA_ren:={
 mixed:=by kernel_rfl
 f8 := ⟨"slices.Collect[string]", by decide, Tryz.func88.trans (congrArg some (by kernel_rfl))⟩
 f11 := ⟨"slices.AppendSeq[[]string,string]", by decide, Tryz.func142.trans (congrArg some (by kernel_rfl))⟩
 t0:=Tryz.underlying0,a0:=Tryz.isAgg0,z0:=Tryz.sizeOf0,v0:=Tryz.zeroValue0
 t24:=Tryz.underlying28,a24:=Tryz.isAgg28,z24:=Tryz.sizeOf28,v24:=Tryz.zeroValue28
 t26:=Tryz.underlying9,a26:=Tryz.isAgg9,z26:=Tryz.sizeOf9,v26:=Tryz.zeroValue9
 t28:=Tryz.underlying67,a28:=Tryz.isAgg67,z28:=Tryz.sizeOf67,v28:=Tryz.zeroValue67
 i26:=by kernel_rfl }
theorem keys_any (mb:Option Nat) (W:World):Calls Tryz.prog 43 #[.map mb] W fun e w'=>e=.returned (.func (.func 90) #[] #[.pointer (some ⟨W.heap.size,0,none⟩)])∧w'=W.alloc (.cells #[.map mb] 69):=
 (callsIn_wide (n:=5)).1 (AnyZ.keys_in keysA Fence.wide 5 trivial rfl mb W)
theorem mem_strKeys {w:World} {p n:Nat} {R:Value→Option (DataW Value×List MemPlace)} {D:DataW Value} (h:w.ownsMap Tryz.prog 9 R p n D) (x:List UInt8):x∈strKeys D↔Maps.has D (.string x)=true:=by
 obtain⟨es,rfl,hko⟩:=h.keysOf
 rw[Maps.has_eq,List.any_eq_true]
 show x∈es.map (fun p=>Go.strOf p.1)↔_
 rw[List.mem_map]
 constructor
 ·rintro⟨q,hq,rfl⟩
  obtain⟨v,hv⟩:=hko q hq
  obtain⟨y,_,hy,_⟩:=Maps.keyOf_str Tryz.underlying9 hv
  exact⟨q,hq,by rw[hy];simp[Lit.sameKey,Go.strOf]⟩
 ·rintro⟨q,hq,hs⟩
  obtain⟨v,hv⟩:=hko q hq
  obtain⟨y,_,hy,_⟩:=Maps.keyOf_str Tryz.underlying9 hv
  rw[hy] at hs
  exact⟨q,hq,by rw[hy];simpa [Lit.sameKey,Go.strOf] using hs⟩
theorem strKeys_size {w:World} {p n:Nat} {R:Value→Option (DataW Value×List MemPlace)} {D:DataW Value} (h:w.ownsMap Tryz.prog 9 R p n D):(strKeys D).length≤n:=by
 have h1:=h.size_le
 obtain⟨es,rfl,hko⟩:=h.keysOf
 rw[Maps.size_eq] at h1
 simpa [strKeys] using h1
theorem collect_any {w:World} {p n Bm:Nat} {B:ByteArray→Bool} (hM:MapF w p n (bagF B)) (hn:n≤800000) (hBm:Bm<w.heap.size) (hbox:w.cell? ⟨Bm,0,none⟩=some (.map (some p))):
  Calls Tryz.prog 88 #[.func (.func 90) #[] #[.pointer (some ⟨Bm,0,none⟩)]] w fun e w'=>∃ (l:List ByteArray) (v:Value),e=.returned v∧(∀ s,mb s l=B s)∧l.length≤n∧NRow w w.heap.size w' l v:=by
 obtain⟨D,hD,hf⟩:=hM
 have hs:=hD.size_le
 have hseq:SeqGives Fence.wide 3 Tryz.prog 90 #[.pointer (some ⟨Bm,0,none⟩)] encStr (fun ss=>ss.Perm (strKeys D)) (Maps.size D) w:=
  AnyZ.keys_gives (ρ:=keysA_ren) { keysA with } Fence.wide 3 trivial rfl (by omega) Bm p n D w hBm hbox hD
 have h:=AnyZ.collect_in collA Fence.wide 5 trivial trivial rfl (by omega) 90 #[.pointer (some ⟨Bm,0,none⟩)] trivial (enters_of Tryz.func90 (by kernel_rfl) rfl) (fun ss=>ss.Perm (strKeys D)) (Maps.size D) (by unfold maxLen;omega) (by omega) w hseq
 refine ((callsIn_wide (n:=5)).1 h).mono ?_
 rintro e w' ⟨v,ss,rfl,hp,hrow,_,hb⟩
 refine⟨ss.map (fun x=>⟨x.toArray⟩),v,rfl,fun s=>?_,?_,Kept.of_below hb,?_⟩
 ·rw[Bool.eq_iff_iff,mb_iff,List.mem_map]
  have h1:(bagF B s).isSome=B s:=by unfold bagF;cases B s <;> rfl
  rw[← h1,← hf.has s]
  unfold kL
  rw[← mem_strKeys hD,← hp.mem_iff]
  constructor
  ·rintro⟨x,hx,rfl⟩;simpa using hx
  ·intro hx;exact⟨_,hx,by simp⟩
 ·rw[List.length_map,hp.length_eq];exact strKeys_size hD
 ·rw[List.length_map,List.map_map];exact hrow
end Go.Proofs.YtdmebjbkccjhbaaGreatDoor
namespace Go.Proofs.YtdmebjbkccjhbaaGreatDoor
open Go.RowKit
def insS (s:ByteArray):List ByteArray→List ByteArray
 | []=>[s]
 | x::r=>if Op.bytesLess x.toList s.toList then x::insS s r else if x=s then x::r else s::x::r
def srtS (out:List ByteArray):List ByteArray→List ByteArray
 | []=>out
 | s::l=>srtS (insS s out) l
theorem insS_len (s:ByteArray):∀ (l:List ByteArray),l.length≤(insS s l).length∧(insS s l).length≤l.length+1
 | []=>⟨Nat.zero_le _,Nat.le_refl _⟩
 | x::r=>by
  rw[insS]
  have:=insS_len s r
  split
  ·simp only[List.length_cons];omega
  ·split
   ·simp
   ·simp
theorem insS_mb (s t:ByteArray):∀ (l:List ByteArray),mb t (insS s l)=(decide (s=t)||mb t l)
 | []=>by rw[insS];unfold mb;rw[List.any_cons]
 | x::r=>by
  rw[insS]
  have ih:=insS_mb s t r
  unfold mb at ih ⊢
  split
  ·rw[List.any_cons,ih,List.any_cons]
   cases decide (x=t) <;> cases decide (s=t) <;> rfl
  ·split
   ·rename_i _ h
    subst h
    rw[List.any_cons]
    cases decide (x=t) <;> rfl
   ·rw[List.any_cons,List.any_cons]
theorem srtS_mb (t:ByteArray):∀ (l out:List ByteArray),mb t (srtS out l)=(mb t out||mb t l)
 | [],out=>by rw[srtS];simp[mb]
 | s::l,out=>by
  rw[srtS,srtS_mb t l,insS_mb]
  have:mb t (s::l)=(decide (s=t)||mb t l):=by unfold mb;rw[List.any_cons]
  rw[this]
  cases mb t out <;> cases decide (s=t) <;> rfl
theorem srtS_len:∀ (l out:List ByteArray),(srtS out l).length≤out.length+l.length
 | [],out=>Nat.le_refl _
 | s::l,out=>by
  rw[srtS,List.length_cons]
  have:=srtS_len l (insS s out)
  have:=(insS_len s out).2
  omega
theorem insS_skip (s:ByteArray):∀ (l:List ByteArray) (k:Nat),(∀ j (h:j<l.length),j<k→Op.bytesLess l[j].toList s.toList=true)→insS s l=l.take k++insS s (l.drop k)
 | l,0,_=>rfl
 | [],k+1,_=>rfl
 | x::r,k+1,h=>by
  have h0:Op.bytesLess x.toList s.toList=true:=h 0 (by simp) (by omega)
  rw[insS,if_pos h0,insS_skip s r k (fun j hj hk=>h (j+1) (by simpa using hj) (by omega))]
  rfl
theorem insS_end {s:ByteArray} {l:List ByteArray} {k:Nat} (hk:l.length≤k) (h:∀ j (h:j<l.length),j<k→Op.bytesLess l[j].toList s.toList=true):insS s l=l.take k++s::l.drop k:=by
 rw[insS_skip s l k h,List.drop_eq_nil_of_le hk,insS]
theorem insS_eq {s:ByteArray} {l:List ByteArray} {k:Nat} (hk:k<l.length) (h:∀ j (h:j<l.length),j<k→Op.bytesLess l[j].toList s.toList=true) (hn:Op.bytesLess l[k].toList s.toList=false) (he:l[k]=s):insS s l=l:=by
 rw[insS_skip s l k h,List.drop_eq_getElem_cons hk,insS,hn]
 simp only[Bool.false_eq_true,if_false]
 rw[if_pos he,← List.drop_eq_getElem_cons hk,List.take_append_drop]
theorem insS_ne {s:ByteArray} {l:List ByteArray} {k:Nat} (hk:k<l.length) (h:∀ j (h:j<l.length),j<k→Op.bytesLess l[j].toList s.toList=true) (hn:Op.bytesLess l[k].toList s.toList=false) (he:l[k]≠s):insS s l=l.take k++s::l.drop k:=by
 rw[insS_skip s l k h,List.drop_eq_getElem_cons hk,insS,hn]
 simp only[Bool.false_eq_true,if_false]
 rw[if_neg he]
theorem gap_set {l:List ByteArray} {z:ByteArray} {j:Nat} (hj:j+1≤l.length):(l.take (j+1)++z::l.drop (j+1)).set (j+1) (l[j]'(by omega))=l.take j++(l[j]'(by omega))::l.drop j:=by
 have h1:(l.take (j+1)).length=j+1:=List.length_take_of_le hj
 rw[List.set_append_right _ _ (by omega),h1,Nat.sub_self,List.set_cons_zero,List.drop_eq_getElem_cons (show j<l.length by omega),List.take_succ_eq_append_getElem (show j<l.length by omega),List.append_assoc]
 rfl
theorem gap_get {l:List ByteArray} {z:ByteArray} {j:Nat} (hj:j+1≤l.length):(l.take (j+1)++z::l.drop (j+1))[j]?=some (l[j]'(by omega)):=by
 have h1:(l.take (j+1)).length=j+1:=List.length_take_of_le hj
 rw[List.getElem?_append_left (by omega),List.getElem?_take,if_pos (by omega),List.getElem?_eq_getElem (by omega)]
theorem gap_fill {l:List ByteArray} {z s:ByteArray} {k:Nat} (hk:k≤l.length):(l.take k++z::l.drop k).set k s=l.take k++s::l.drop k:=by
 have h1:(l.take k).length=k:=List.length_take_of_le hk
 rw[List.set_append_right _ _ (by omega),h1,Nat.sub_self,List.set_cons_zero]
theorem gap_len {l:List ByteArray} {z:ByteArray} {k:Nat} (hk:k≤l.length):(l.take k++z::l.drop k).length=l.length+1:=by
 rw[List.length_append,List.length_take_of_le hk,List.length_cons,List.length_drop];omega
end Go.Proofs.YtdmebjbkccjhbaaGreatDoor
