/- A part. -/
import Derived.Test.YtdmebjbkccjhbaaGreatDoorU2
import Derived.Deep.MidRow
import Derived.Maps.AppendAt
import Derived.StillTail
set_option linter.unusedVariables false
set_option linter.unusedSimpArgs false
set_option maxRecDepth 100000
set_option maxHeartbeats 32000000
namespace Go.Proofs.YtdmebjbkccjhbaaGreatDoor
open Go.RowKit
variable {bz:Nat}
structure PS where
 p:Nat
 k:Int
 tx:ByteArray
 n:Int
 ta:Nat
 nest:Nat
def PAt (w:World) (b:Nat) (s:ByteArray) (σ:PS):Prop:=Blk w b 142 (pcells s σ.p σ.k σ.tx σ.n σ.ta σ.nest)
structure PW (w:World) (b:Nat) (s:ByteArray) (σ:PS):Prop where
 blk:PAt w b s σ
 le:σ.p≤s.size
 tx:σ.tx.size≤65536
 src:s.size≤65536
 two:6≤b
 gl:Gl w
 nest:σ.nest≤64
def pan (d:Bool) (pos:Nat):PanicEntry:={ v:=.iface (if d then 138 else 137) (.agg #[.int .i64 pos]),recovered:=false }
abbrev ER:=Bool×Nat
def advS (s:ByteArray) (σ:PS):Except ER PS:=
 match tokAt s (skip s σ.p) with
 | some t=>.ok ⟨t.1,t.2.1,t.2.2.1,t.2.2.2,skip s σ.p,σ.nest⟩
 | none=>.error (false,skip s σ.p)
theorem extract_le (s:ByteArray) (a c:Nat):(s.extract a c).size≤s.size:=by rw[ByteArray.size_extract];omega
theorem skip_le (s:ByteArray) (p:Nat) (h:p≤s.size):skip s p≤s.size:=(scan_spec _ s p h).2.1
theorem wordTo_le (s:ByteArray) (fr:Nat) (h:fr≤s.size):wordTo s fr≤s.size:=by
 have:=(scan_spec inWordB s fr h).2.1
 unfold wordTo
 split
 ·exact this
 ·split
  ·split
   ·rename_i h _;exact h
   ·exact this
  ·exact this
theorem sign_le (s:ByteArray) (fr:Nat) (h:fr≤s.size) (hi:¬ sIdx (s.data.toList.drop fr) signs<0):fr+(signs.getD (sIdx (s.data.toList.drop fr) signs).toNat ⟨#[]⟩).size≤s.size:=by
 rcases sIdx_cases (s.data.toList.drop fr) signs with h1 | ⟨j,hj,h1,hp⟩
 ·rw[h1] at hi;exact absurd (by decide) hi
 ·rw[h1,Int.toNat_natCast,List.getD_eq_getElem?_getD,List.getElem?_eq_getElem hj]
  exact pre_len s signs[j] fr h hp
theorem tokAt_le {s:ByteArray} {fr:Nat} {t:Nat×Int×ByteArray×Int} (h:fr≤s.size) (ht:tokAt s fr=some t):t.1≤s.size∧t.2.2.1.size≤s.size:=by
 unfold tokAt at ht
 split at ht
 ·split at ht
  ·split at ht
   ·cases ht
   ·cases ht;exact⟨wordTo_le s fr h,extract_le _ _ _⟩
  ·split at ht
   ·cases hn:numTok (s.extract fr (wend s fr)) with
    | none=>rw[hn] at ht;cases ht
    | some v=>rw[hn] at ht;cases ht;exact⟨(scan_spec inWordB s fr h).2.1,Nat.zero_le _⟩
   ·split at ht
    ·cases ht
    ·rename_i hi;cases ht;exact⟨sign_le s fr h hi,extract_le _ _ _⟩
 ·cases ht;exact⟨h,Nat.zero_le _⟩
theorem adv_ok {w:World} {b:Nat} {s:ByteArray} {σ σ':PS} (h:PW w b s σ) (ha:advS s σ=.ok σ'):
  Calls Tryz.prog 117 #[.pointer (some ⟨b,0,none⟩)] w fun e w'=>e=.returned (.tuple #[])∧PW w' b s σ'∧Kept (·=b) w w':=by
 refine (adv_any b s σ.p σ.ta σ.nest σ.k σ.n σ.tx w h.src h.le h.blk h.two h.gl).mono ?_
 intro e w' hp
 unfold AdvPost at hp
 unfold advS at ha
 cases ht:tokAt s (skip s σ.p) with
 | none=>rw[ht] at ha;cases ha
 | some t=>
  rw[ht] at ha hp
  cases ha
  obtain⟨he,hb,hk⟩:=hp
  have:=tokAt_le (skip_le s σ.p h.le) ht
  exact⟨he,⟨hb,this.1,Nat.le_trans this.2 h.src,h.src,h.two,h.gl.kept hk (by have:=h.two;omega) (by have:=h.two;omega),h.nest⟩,hk⟩
def isB (k:Int) (tx t:ByteArray):Bool:=(k==3&&tx.toList==t.toList)||(k==1&&tx.toList==t.toList&&keywordB t)
def isS (σ:PS) (t:ByteArray):Bool:=isB σ.k σ.tx t
theorem PW.kd {w:World} {b:Nat} {s:ByteArray} {σ:PS} (h:PW w b s σ):w.cell? ⟨b,2,none⟩=some (.int .i64 σ.k):=h.blk.cell 2
theorem PW.txt {w:World} {b:Nat} {s:ByteArray} {σ:PS} (h:PW w b s σ):w.cell? ⟨b,3,none⟩=some (.string σ.tx):=h.blk.cell 3
theorem PW.num {w:World} {b:Nat} {s:ByteArray} {σ:PS} (h:PW w b s σ):w.cell? ⟨b,4,none⟩=some (.int .i64 σ.n):=h.blk.cell 4
theorem PW.tat {w:World} {b:Nat} {s:ByteArray} {σ:PS} (h:PW w b s σ):w.cell? ⟨b,5,none⟩=some (.int .i64 σ.ta):=h.blk.cell 5
theorem PW.nst {w:World} {b:Nat} {s:ByteArray} {σ:PS} (h:PW w b s σ):w.cell? ⟨b,6,none⟩=some (.int .i64 σ.nest):=h.blk.cell 6
theorem PW.nfr {w:World} {b:Nat} {s:ByteArray} {σ:PS} (h:PW w b s σ):w.frozen? ⟨b,6,none⟩=false:=h.blk.frozen 6
theorem PW.lt {w:World} {b:Nat} {s:ByteArray} {σ:PS} (h:PW w b s σ):b<w.heap.size:=Blk.lt h.blk
theorem is_any {w:World} {b:Nat} {s:ByteArray} {σ:PS} (h:PW w b s σ) (t:ByteArray) {v:Bool} (hv:isS σ t=v):
  Calls Tryz.prog 164 #[.pointer (some ⟨b,0,none⟩),.string t] w fun e w'=>e=.returned (.bool v)∧w=w':=by
 have h2:=h.kd
 have h3:=h.txt
 unfold isS isB at hv
 generalize σ.k=k at *
 generalize σ.tx=tx at *
 cases hk3:(k==3) <;> cases hk1:(k==1) <;> cases ht:(tx.toList==t.toList)
 all_goals
  rw[hk3,hk1,ht] at hv
  have HV:=Ld hv
  clear hv
  go_enter Tryz.func164,Tryz.ntmps164
  go_wp2_with (go_at_call 39;refine (keyword_any _ _).mono ?_;rintro e w' ⟨rfl,rfl⟩)
  go_ret
  exact⟨by rw[← HV.out];simp,rfl⟩
def eatS (s:ByteArray) (σ:PS) (t:ByteArray):Except ER (Bool×PS):=
 if isS σ t then match advS s σ with | .ok σ'=>.ok (true,σ') | .error r=>.error r else .ok (false,σ)
theorem eat_ok {w:World} {b:Nat} {s:ByteArray} {σ σ':PS} (h:PW w b s σ) (t:ByteArray) {v:Bool} (hv:eatS s σ t=.ok (v,σ')):
  Calls Tryz.prog 119 #[.pointer (some ⟨b,0,none⟩),.string t] w fun e w'=>e=.returned (.bool v)∧PW w' b s σ'∧Kept (·=b) w w':=by
 unfold eatS at hv
 cases hi:isS σ t
 ·rw[hi] at hv;cases hv
  go_enter Tryz.func119,Tryz.ntmps119
  go_wp2_with (go_at_call 164;refine (is_any h t hi).mono ?_;rintro e w' ⟨rfl,rfl⟩)
  go_ret
  exact⟨rfl,h,Kept.refl _ _⟩
 ·rw[hi,if_pos rfl] at hv
  cases ha:advS s σ with
  | error r=>rw[ha] at hv;cases hv
  | ok σ1=>
   rw[ha] at hv;cases hv
   go_enter Tryz.func119,Tryz.ntmps119
   go_wp2_with (first | (go_at_call 164;refine (is_any h t hi).mono ?_;rintro e w' ⟨rfl,rfl⟩) | (go_at_call 117;refine (adv_ok h ha).mono ?_;rintro e w' ⟨rfl,hp',hk'⟩))
   go_ret
   exact⟨rfl,hp',hk'⟩
def wantS (s:ByteArray) (σ:PS) (t:ByteArray):Except ER PS:=
 match eatS s σ t with
 | .error r=>.error r
 | .ok (true,σ')=>.ok σ'
 | .ok (false,σ')=>.error (false,σ'.ta)
theorem want_ok {w:World} {b:Nat} {s:ByteArray} {σ σ':PS} (h:PW w b s σ) (t:ByteArray) (hv:wantS s σ t=.ok σ'):
  Calls Tryz.prog 228 #[.pointer (some ⟨b,0,none⟩),.string t] w fun e w'=>e=.returned (.tuple #[])∧PW w' b s σ'∧Kept (·=b) w w':=by
 unfold wantS at hv
 cases he:eatS s σ t with
 | error r=>rw[he] at hv;cases hv
 | ok q=>
  obtain⟨v,σ1⟩:=q
  rw[he] at hv
  cases v
  ·cases hv
  ·cases hv
   go_enter Tryz.func228,Tryz.ntmps228
   go_wp2_with (go_at_call 119;refine (eat_ok h t he).mono ?_;rintro e w' ⟨rfl,hp',hk'⟩)
   go_end0
   exact⟨rfl,hp',hk'⟩
def openS (s:ByteArray) (σ:PS) (t:ByteArray):Except ER PS:=
 if isS σ t then (if σ.nest=64 then .error (true,σ.ta) else advS s { σ with nest:=σ.nest+1 }) else .error (false,σ.ta)
theorem PW.nested {w:World} {b:Nat} {s:ByteArray} {σ:PS} (h:PW w b s σ) (m:Nat) (hm:m≤64):PW (w.setCell ⟨b,6,none⟩ (.int .i64 m)) b s { σ with nest:=m }:=
 ⟨h.blk.set 6 _,h.le,h.tx,h.src,h.two,h.gl.kept (S:=(·=b)) ((Kept.refl (fun x=>x=b) _).setCell (Or.inl rfl) _) (by have:=h.two;omega) (by have:=h.two;omega),hm⟩
theorem open_ok {w:World} {b:Nat} {s:ByteArray} {σ σ':PS} (h:PW w b s σ) (t:ByteArray) (hv:openS s σ t=.ok σ'):
  Calls Tryz.prog 200 #[.pointer (some ⟨b,0,none⟩),.string t] w fun e w'=>e=.returned (.tuple #[])∧PW w' b s σ'∧Kept (·=b) w w':=by
 unfold openS at hv
 cases hi:isS σ t
 ·rw[hi] at hv;cases hv
 ·rw[hi,if_pos rfl] at hv
  by_cases hn:σ.nest=64
  ·rw[if_pos hn] at hv;cases hv
  ·rw[if_neg hn] at hv
   have hle:=h.nest
   have c6:=h.nst
   have f6:=h.nfr
   have i1:((σ.nest:Int)==64)=false:=by simp;omega
   have h':=h.nested (σ.nest+1) (by omega)
   go_enter Tryz.func200,Tryz.ntmps200
   go_wp2_with (first | (go_at_call 164;refine (is_any h t hi).mono ?_;rintro e w' ⟨rfl,rfl⟩) | (go_at_call 117;refine (adv_ok h' hv).mono ?_;rintro e w' ⟨rfl,hp',hk'⟩))
   go_end0
   exact⟨rfl,hp',((Kept.refl (fun x=>x=b) _).setCell (Or.inl rfl) _).trans hk'⟩
def shutS (s:ByteArray) (σ:PS) (t:ByteArray):Except ER PS:=
 match wantS s σ t with
 | .error r=>.error r
 | .ok σ'=>.ok { σ' with nest:=σ'.nest-1 }
theorem adv_nest {s:ByteArray} {σ σ':PS} (h:advS s σ=.ok σ'):σ'.nest=σ.nest:=by
 unfold advS at h
 cases ht:tokAt s (skip s σ.p) with
 | none=>rw[ht] at h;cases h
 | some t=>rw[ht] at h;cases h;rfl
theorem eat_nest {s:ByteArray} {σ σ':PS} {t:ByteArray} {v:Bool} (h:eatS s σ t=.ok (v,σ')):σ'.nest=σ.nest:=by
 unfold eatS at h
 split at h
 ·cases ha:advS s σ with
  | ok σ1=>rw[ha] at h;cases h;exact adv_nest ha
  | error r=>rw[ha] at h;cases h
 ·cases h;rfl
theorem want_nest {s:ByteArray} {σ σ':PS} {t:ByteArray} (h:wantS s σ t=.ok σ'):σ'.nest=σ.nest:=by
 unfold wantS at h
 cases he:eatS s σ t with
 | error r=>rw[he] at h;cases h
 | ok q=>
  obtain⟨v,σ1⟩:=q
  rw[he] at h
  cases v
  ·cases h
  ·cases h;exact eat_nest he
theorem shut_ok {w:World} {b:Nat} {s:ByteArray} {σ σ':PS} (h:PW w b s σ) (hn:1≤σ.nest) (t:ByteArray) (hv:shutS s σ t=.ok σ'):
  Calls Tryz.prog 201 #[.pointer (some ⟨b,0,none⟩),.string t] w fun e w'=>e=.returned (.tuple #[])∧PW w' b s σ'∧Kept (·=b) w w':=by
 unfold shutS at hv
 cases he:wantS s σ t with
 | error r=>rw[he] at hv;cases hv
 | ok σ1=>
  rw[he] at hv
  have hn1:=want_nest he
  cases hv
  have HN:=Ld hn1
  clear hn1
  go_enter Tryz.func201,Tryz.ntmps201
  go_wp2_with (fail)
  refine (want_ok h t he).mono ?_
  rintro e w' ⟨rfl,hp',hk'⟩
  have c6:=hp'.nst
  have f6:=hp'.nfr
  have hle:=hp'.nest
  have hn1:1≤σ1.nest:=by rw[HN.out];exact hn
  have hp2:=hp'.nested (σ1.nest-1) (by omega)
  rw[show ((σ1.nest-1:Nat):Int)=(σ1.nest:Int)-1 by omega] at hp2
  go_wp2_with (fail)
  go_end0
  exact⟨rfl,hp2,hk'.setCell (Or.inl rfl) _⟩
theorem heap_allocs (os:List Obj) (w:World) (i:Nat) (h:i<os.length):(os.foldl World.alloc w).heap[w.heap.size+i]?=os[i]?:=by
 induction os generalizing w i with
 | nil=>simp at h
 | cons o os ih=>
  have hb:∀ (l:List Obj) (u:World) (k:Nat),k<u.heap.size→(l.foldl World.alloc u).heap[k]?=u.heap[k]?:=by
   intro l
   induction l with
   | nil=>intro u k _;rfl
   | cons x l ihl=>
    intro u k hk
    rw[List.foldl_cons,ihl (u.alloc x) k (by simp;omega),Below.heap_alloc _ _ _ hk]
  rw[List.foldl_cons]
  cases i with
  | zero=>
   rw[Nat.add_zero,hb os (w.alloc o) w.heap.size (by simp)]
   show (w.heap.push o)[w.heap.size]?=_
   simp
  | succ i=>
   have:=ih (w.alloc o) i (by simpa using h)
   rw[show (w.alloc o).heap.size=w.heap.size+1 by simp] at this
   rw[show w.heap.size+(i+1)=w.heap.size+1+i by omega,this]
   simp
theorem below_allocs (os:List Obj) (w:World):Below w.heap.size w (os.foldl World.alloc w):=by
 induction os generalizing w with
 | nil=>exact Below.refl _ _
 | cons o os ih=>
  rw[List.foldl_cons]
  exact ((Below.refl _ _).alloc (Nat.le_refl _) o).trans ((ih (w.alloc o)).mono (by simp))
theorem heap_setCells (l:List Value) (w:World) (b o:Nat) (k:Nat) (h:k≠b):(w.setCells b o l).heap[k]?=w.heap[k]?:=by
 induction l generalizing w o with
 | nil=>rfl
 | cons v l ih=>
  rw[World.setCells,ih,Below.heap_setCell _ _ _ _ h]
theorem Blk.setCells_at (l':List Value):∀ {w:World} {b:Nat} {t:TypeId} {l:List Value} (o:Nat),Blk w b t l→o+l'.length≤l.length→Blk (w.setCells b o l') b t (l.take o++l'++l.drop (o+l'.length)):=by
 induction l' with
 | nil=>intro w b t l o h _;simpa [World.setCells] using h
 | cons v l' ih=>
  intro w b t l o h ho
  rw[List.length_cons] at ho
  have:=ih (o+1) (h.set o v) (by rw[List.length_set];omega)
  rw[World.setCells]
  have e:(l.set o v).take (o+1)++l'++(l.set o v).drop (o+1+l'.length)=l.take o++(v::l')++l.drop (o+(v::l').length):=by
   rw[List.take_set,List.drop_set_of_lt (by omega),List.length_cons,show o+(l'.length+1)=o+1+l'.length by omega]
   congr 1
   rw[List.take_succ_eq_append_getElem (by omega),List.set_append_right _ _ (by simp;omega)]
   simp[Nat.min_eq_left (show o≤l.length by omega)]
  rw[← e]
  exact this
theorem Blk.setCells {w:World} {b:Nat} {t:TypeId} {l l':List Value} (h:Blk w b t l) (hl:l'.length=l.length):Blk (w.setCells b 0 l') b t l':=by
 have:=Blk.setCells_at l' 0 h (by omega)
 simpa [hl] using this
theorem Blk.there {w:World} {b:Nat} {t:TypeId} {l:List Value} (h:Blk w b t l):w.there b 0 l.length:=by
 intro j hj
 rw[Nat.zero_add,h.cell j,List.getElem?_eq_getElem hj]
 exact⟨rfl,h.frozen j⟩
theorem Blk.rangeAt {w:World} {b:Nat} {t:TypeId} {l:List Value} (h:Blk w b t l):w.rangeAt b 0 l:=by
 intro j v hv
 rw[Nat.zero_add,h.cell j,hv]
theorem Blk.setCells_other {w:World} {b c:Nat} {t:TypeId} {l l':List Value} {o:Nat} (h:Blk w b t l) (hc:b≠c):Blk (w.setCells c o l') b t l:=by
 unfold Blk;rw[heap_setCells _ _ _ _ _ hc];exact h
theorem Kept.setCells {S:Nat→Prop} {a w:World} {b o:Nat} {l:List Value} (h:Kept S a w) (hp:S b∨a.heap.size≤b):Kept S a (w.setCells b o l):=by
 induction l generalizing w o with
 | nil=>exact h
 | cons v l ih=>rw[World.setCells];exact ih (h.setCell hp v)
def lvTab:List (Int×List ByteArray×List Int):=[(0,[],[]),(0,[⟨#[60,61,62]⟩],[7]),(2,[⟨#[61,62]⟩],[6]),(1,[⟨#[111,114]⟩],[5]),(1,[⟨#[38]⟩],[4]),(0,[],[]),(0,[⟨#[61]⟩,⟨#[47,61]⟩,⟨#[60]⟩,⟨#[60,61]⟩,⟨#[62]⟩,⟨#[62,61]⟩,⟨#[105,110]⟩,⟨#[110,111,116,105,110]⟩,⟨#[115,117,98]⟩],[10,11,12,13,14,15,16,17,18]),(0,[⟨#[60,45,62]⟩,⟨#[43,45,62]⟩,⟨#[45,45,62]⟩,⟨#[62,45,62]⟩,⟨#[62,45,62,62]⟩],[41,42,43,44,45]),(1,[⟨#[124,45,62]⟩],[27]),(1,[⟨#[92,47]⟩,⟨#[47,92]⟩,⟨#[92]⟩,⟨#[62,60]⟩,⟨#[60,43]⟩,⟨#[59]⟩,⟨#[60,124]⟩,⟨#[60,60,124]⟩,⟨#[124,62]⟩,⟨#[124,62,62]⟩],[31,32,33,34,35,36,37,38,39,40]),(0,[⟨#[46,46]⟩],[30]),(1,[⟨#[43]⟩,⟨#[45]⟩],[22,23]),(1,[⟨#[42]⟩,⟨#[47]⟩,⟨#[109,111,100]⟩],[24,25,26])]
def lvGroup (n:Nat):Int:=(lvTab.getD n (0,[],[])).1
def lvSigns (n:Nat):List ByteArray:=(lvTab.getD n (0,[],[])).2.1
def lvOps (n:Nat):List Int:=(lvTab.getD n (0,[],[])).2.2
def sl (b n:Nat):Value:=.slice (some ⟨b,0,none⟩) n n
def lvGo:List (Int×List ByteArray×List Int)→Nat→List Value
 | [],_=>[]
 | (g,[],_)::r,b=>.int .i64 g::.slice none 0 0::.slice none 0 0::lvGo r b
 | (g,s::ss,os)::r,b=>.int .i64 g::sl b (s::ss).length::sl (b+1) os.length::lvGo r (b+1+1)
def lvBlocks:List (Int×List ByteArray×List Int)→List Obj
 | []=>[]
 | (_,[],_)::r=>lvBlocks r
 | (_,s::ss,os)::r=>.cells ((s::ss).map Value.string).toArray 9::.cells (os.map (Value.int .i64)).toArray 3::lvBlocks r
def lvZero:List Value:=[.int .i64 0,.slice none 0 0,.slice none 0 0,.int .i64 0,.slice none 0 0,.slice none 0 0,.int .i64 0,.slice none 0 0,.slice none 0 0,.int .i64 0,.slice none 0 0,.slice none 0 0,.int .i64 0,.slice none 0 0,.slice none 0 0,.int .i64 0,.slice none 0 0,.slice none 0 0,.int .i64 0,.slice none 0 0,.slice none 0 0,.int .i64 0,.slice none 0 0,.slice none 0 0,.int .i64 0,.slice none 0 0,.slice none 0 0,.int .i64 0,.slice none 0 0,.slice none 0 0,.int .i64 0,.slice none 0 0,.slice none 0 0,.int .i64 0,.slice none 0 0,.slice none 0 0,.int .i64 0,.slice none 0 0,.slice none 0 0]
def lvObjs:List Obj:=.cells lvZero.toArray 182::lvBlocks lvTab
theorem lv_blk (w:World):Blk (lvObjs.foldl World.alloc w) w.heap.size 182 lvZero:=heap_allocs lvObjs w 0 (by decide)
theorem results_one {P:Program} {fn:Func} {p:Tmp} {ty:TypeId} (h:fn.results=#[.cell p ty]) {tmps:Array Value} {a:Addr} (ha:tmps.getD p undef=.pointer (some a)) {v:Value} {W:World}
  (hl:(loadVar ty a).run P W=.ok v W):(results fn tmps).run P W=.ok v W:=by
 have e:(results fn tmps)=(do let v ← (do loadVar ty (← asAddr (tmps.getD p undef)));pure v):=by
  unfold results;rw[h];simp
 rw[e,ha]
 exact hl
theorem lv_res (w:World) (tmps:Array Value) (h:tmps.getD 0 undef=.pointer (some ⟨w.heap.size,0,none⟩)) (W:World) (hb:Blk W w.heap.size 182 (lvGo lvTab (w.heap.size+1))):
  (results Tryz.f168 tmps).run Tryz.prog W=.ok (.agg (lvGo lvTab (w.heap.size+1)).toArray) W:=
 results_one Tryz.results168 h (run_loadVar_mid W _ 0 182 _ _ hb.rangeAt Tryz.underlying182 rfl (by kernel_rfl))
theorem levels_any (w:World):Calls Tryz.prog 168 #[] w fun e w'=>e=.returned (.agg (lvGo lvTab (w.heap.size+1)).toArray)∧w'=(lvObjs.foldl World.alloc w).setCells w.heap.size 0 (lvGo lvTab (w.heap.size+1)):=by
 have hb:=lv_blk w
 have HB:=Ld hb
 clear hb
 go_enter Tryz.func168,Tryz.ntmps168
 go_wp2_with (refine wpList_store_mid rfl 182 _ _ rfl _ 0 _ rfl rfl ?ht ?hi ?h1 ?_)
 case ht=>exact HB.out.there
 case hi=>kernel_rfl
 case h1=>kernel_rfl
 exact bodyPost_ret (lv_res w _ rfl _ (HB.out.setCells rfl)) rfl ⟨rfl,rfl⟩
def kLpar:ByteArray:=⟨#[40]⟩
def kRpar:ByteArray:=⟨#[41]⟩
theorem eat_no {w:World} {b:Nat} {s:ByteArray} {σ:PS} (h:PW w b s σ) (t:ByteArray) (hv:isS σ t=false):
  Calls Tryz.prog 119 #[.pointer (some ⟨b,0,none⟩),.string t] w fun e w'=>e=.returned (.bool false)∧w=w':=by
 go_enter Tryz.func119,Tryz.ntmps119
 go_wp2_with (go_at_call 164;refine (is_any h t hv).mono ?_;rintro e w' ⟨rfl,rfl⟩)
 go_ret
 exact⟨rfl,rfl⟩
theorem Gl.alloc {w:World} (h:Gl w) (o:Obj):Gl (w.alloc o):=h.kept (S:=fun _=>False) (kR.alloc o) id id
theorem PW.grow {w w':World} {b:Nat} {s:ByteArray} {σ:PS} {S:Nat→Prop} (h:PW w b s σ) (hk:Kept S w w') (hb:¬ S b) (h0:¬ S 4) (h1:¬ S 5):PW w' b s σ:=
 ⟨Blk.kept h.blk hk hb,h.le,h.tx,h.src,h.two,h.gl.kept hk h0 h1,h.nest⟩
theorem PW.store {w:World} {b:Nat} {s:ByteArray} {σ:PS} (h:PW w b s σ) {p:Addr} (hb:p.block≠b) (h2:6≤p.block) (v:Value):PW (w.setCell p v) b s σ:=
 h.grow (S:=(·=p.block)) ((Kept.refl (fun x=>x=p.block) _).setCell (Or.inl rfl) v) (fun e=>hb e.symm) (by show ¬ 4=p.block;omega) (by show ¬ 5=p.block;omega)
theorem PW.alloc {w:World} {b:Nat} {s:ByteArray} {σ:PS} (h:PW w b s σ) (o:Obj):PW (w.alloc o) b s σ:=h.grow (S:=fun _=>False) (kR.alloc o) id id id
def ROk (b:Nat) (s:ByteArray) (σ':PS) (V:World→Value→Prop) (w:World) (e:Ending) (w':World):Prop:=∃ v,e=.returned v∧V w' v∧PW w' b s σ'∧Kept (·=b) w w'
def RErr (b:Nat) (r:ER) (w:World) (e:Ending) (w':World):Prop:=e=.panicked [pan r.1 r.2]∧Kept (·=b) w w'
def RPost {α:Type} (b:Nat) (s:ByteArray) (V:α→World→Value→Prop) (q:Except ER (α×PS)) (w:World) (e:Ending) (w':World):Prop:=
 match q with
 | .error r=>RErr b r w e w'
 | .ok (a,σ')=>ROk b s σ' (V a) w e w'
theorem RPost.ok {α:Type} {b:Nat} {s:ByteArray} {V:α→World→Value→Prop} {q:Except ER (α×PS)} {a:α} {σ':PS} {w:World} {e:Ending} {w':World} (hq:q=.ok (a,σ')) (h:ROk b s σ' (V a) w e w'):RPost b s V q w e w':=by
 rw[hq];exact h
theorem RPost.getOk {α:Type} {b:Nat} {s:ByteArray} {V:α→World→Value→Prop} {q:Except ER (α×PS)} {a:α} {σ':PS} {w:World} {e:Ending} {w':World} (h:RPost b s V q w e w') (hq:q=.ok (a,σ')):ROk b s σ' (V a) w e w':=by
 rw[hq] at h;exact h
def mu (s:ByteArray) (σ:PS):Nat:=(s.size-σ.p)+(if σ.k=0 then 0 else 1)
def VTm (bz:Nat) (n:Nat) (t:Tm) (w:World) (v:Value):Prop:=TmV bz (fun k=>n≤k) w t v
theorem load_ty {W:World} {R:Nat} {t:Ty} {tk:Value} (hb:Blk W R 24 [.int .i64 t.kind,.string t.name,tk]):(loadVar 24 ⟨R,0,none⟩).run Tryz.prog W=.ok (tyVal t tk) W:=
 run_loadVar_mid W R 0 24 _ _ hb.rangeAt Tryz.underlying24 rfl (by kernel_rfl)
theorem load_tm {W:World} {R:Nat} {t:Tm} {tk kk:Value} (hb:Blk W R 27 (tmCells t tk kk)):(loadVar 27 ⟨R,0,none⟩).run Tryz.prog W=.ok (tmVal t tk kk) W:=
 run_loadVar_mid W R 0 27 _ _ hb.rangeAt Tryz.underlying27 rfl (by kernel_rfl)
theorem r3 {W:World} {R:Nat} {l:List Value} {x y z:Value} (h:Blk W R 24 l) (hl:l.length=3):Blk (((W.setCell ⟨R,0,none⟩ x).setCell ⟨R,1,none⟩ y).setCell ⟨R,2,none⟩ z) R 24 [x,y,z]:=by
 match l,hl with
 | [a,c,d],_=>exact ((h.set 0 x).set 1 y).set 2 z
theorem Same.alloc {ok:Nat→Prop} (W:World) (o:Obj):Same ok W (W.alloc o):=fun _ _ hl=>Below.heap_alloc _ _ _ hl
theorem Same.trans {ok:Nat→Prop} {a c d:World} (h:Same ok a c) (h':Same ok c d) (hz:a.heap.size≤c.heap.size):Same ok a d:=fun k hk hl=>(h' k hk (by omega)).trans (h k hk hl)
theorem Same.mono {ok ok':Nat→Prop} {a c:World} (h:Same ok a c) (ho:∀ k,ok' k→ok k):Same ok' a c:=fun k hk hl=>h k (ho k hk) hl
theorem Blk.new' {w:World} {g:Nat} (t:TypeId) (l:List Value) (h:g=w.heap.size):Blk (w.alloc (.cells l.toArray t)) g t l:=h ▸ Blk.new w t l
theorem TyL.slice {ok:Nat→Prop} {w:World} {l:List Ty} {v:Value} (h:TyL bz ok w l v):∃ a n c,v=.slice a n c:=by
 cases h with
 | nil h=>rcases h with rfl | ⟨a,c,rfl⟩ <;> exact⟨_,_,_,rfl⟩
 | mk K hne hb hc hcell hk hs2=>exact⟨_,_,_,rfl⟩
theorem TmL.slice {ok:Nat→Prop} {w:World} {l:List Tm} {v:Value} (h:TmL bz ok w l v):∃ a n c,v=.slice a n c:=by
 cases h with
 | nil h=>rcases h with rfl | ⟨a,c,rfl⟩ <;> exact⟨_,_,_,rfl⟩
 | mk K M hne hb hc hcell hk hm hs2=>exact⟨_,_,_,rfl⟩
def z24:List Value:=[.int .i64 0,.string ⟨#[]⟩,.slice none 0 0]
def kLbr:ByteArray:=⟨#[91]⟩
def kTilde:ByteArray:=⟨#[126]⟩
def kMinus:ByteArray:=⟨#[45]⟩
def kNot:ByteArray:=⟨#[110,111,116]⟩
def nil0:ByteArray:=⟨#[]⟩
def nd (op:Int) (l:List Tm):Tm:=.mk op nil0 0 ty0 l
abbrev RT:=Except ER (Tm×PS)
def opGo (σ:PS):List ByteArray→List Int→Int
 | x::xs,o::os=>match isS σ x with | true=>o | false=>opGo σ xs os
 | _,_=>0
def opOf (n:Nat) (σ:PS):Int:=opGo σ (lvSigns n) (lvOps n)
def good (t:Tm):Prop:=t.op=16→t.kids.length=2
def Inv (s:ByteArray) (σ σ':PS):Prop:=mu s σ'≤mu s σ∧σ'.p≤s.size∧σ'.nest=σ.nest
def Inv1 (s:ByteArray) (σ σ':PS):Prop:=mu s σ'<mu s σ∧σ'.p≤s.size∧σ'.nest=σ.nest
theorem Inv1.inv {s:ByteArray} {σ σ':PS} (h:Inv1 s σ σ'):Inv s σ σ':=⟨Nat.le_of_lt h.1,h.2.1,h.2.2⟩
def z27:List Value:=[.int .i64 0,.string ⟨#[]⟩,.int .i64 0,.int .i64 0,.string ⟨#[]⟩,.slice none 0 0,.slice none 0 0]
theorem r7 {W:World} {R:Nat} {l:List Value} {x0 x1 x2 x3 x4 x5 x6:Value} (h:Blk W R 27 l) (hl:l.length=7):
  Blk (((((((W.setCell ⟨R,0,none⟩ x0).setCell ⟨R,1,none⟩ x1).setCell ⟨R,2,none⟩ x2).setCell ⟨R,3,none⟩ x3).setCell ⟨R,4,none⟩ x4).setCell ⟨R,5,none⟩ x5).setCell ⟨R,6,none⟩ x6) R 27 [x0,x1,x2,x3,x4,x5,x6]:=by
 match l,hl with
 | [a0,a1,a2,a3,a4,a5,a6],_=>exact ((((((h.set 0 x0).set 1 x1).set 2 x2).set 3 x3).set 4 x4).set 5 x5).set 6 x6
theorem p7w {W:World} {b:Nat} {s:ByteArray} {σ:PS} {R:Nat} {x0 x1 x2 x3 x4 x5 x6:Value} (h:PW W b s σ) (hb:R≠b) (h2:6≤R):
  PW (((((((W.setCell ⟨R,0,none⟩ x0).setCell ⟨R,1,none⟩ x1).setCell ⟨R,2,none⟩ x2).setCell ⟨R,3,none⟩ x3).setCell ⟨R,4,none⟩ x4).setCell ⟨R,5,none⟩ x5).setCell ⟨R,6,none⟩ x6) b s σ:=
 ((((((h.store (p:=⟨R,0,none⟩) hb h2 x0).store (p:=⟨R,1,none⟩) hb h2 x1).store (p:=⟨R,2,none⟩) hb h2 x2).store (p:=⟨R,3,none⟩) hb h2 x3).store (p:=⟨R,4,none⟩) hb h2 x4).store (p:=⟨R,5,none⟩) hb h2 x5).store (p:=⟨R,6,none⟩) hb h2 x6
theorem k7w {w W:World} {S:Nat→Prop} {R:Nat} {x0 x1 x2 x3 x4 x5 x6:Value} (h:Kept S w W) (hR:S R∨w.heap.size≤R):
  Kept S w (((((((W.setCell ⟨R,0,none⟩ x0).setCell ⟨R,1,none⟩ x1).setCell ⟨R,2,none⟩ x2).setCell ⟨R,3,none⟩ x3).setCell ⟨R,4,none⟩ x4).setCell ⟨R,5,none⟩ x5).setCell ⟨R,6,none⟩ x6):=
 ((((((h.setCell (p:=⟨R,0,none⟩) hR x0).setCell (p:=⟨R,1,none⟩) hR x1).setCell (p:=⟨R,2,none⟩) hR x2).setCell (p:=⟨R,3,none⟩) hR x3).setCell (p:=⟨R,4,none⟩) hR x4).setCell (p:=⟨R,5,none⟩) hR x5).setCell (p:=⟨R,6,none⟩) hR x6
theorem same7 {W:World} {n R:Nat} {x0 x1 x2 x3 x4 x5 x6:Value} (h:R<n):Same (fun k=>n≤k) W (((((((W.setCell ⟨R,0,none⟩ x0).setCell ⟨R,1,none⟩ x1).setCell ⟨R,2,none⟩ x2).setCell ⟨R,3,none⟩ x3).setCell ⟨R,4,none⟩ x4).setCell ⟨R,5,none⟩ x5).setCell ⟨R,6,none⟩ x6):=by
 intro k hk hl
 exact (k7w (S:=(·=R)) kR (Or.inl rfl)).block k hl (by show ¬ k=R;omega)
theorem b7w {W:World} {R c:Nat} {t:TypeId} {l:List Value} {x0 x1 x2 x3 x4 x5 x6:Value} (h:Blk W c t l) (hc:c≠R):
  Blk (((((((W.setCell ⟨R,0,none⟩ x0).setCell ⟨R,1,none⟩ x1).setCell ⟨R,2,none⟩ x2).setCell ⟨R,3,none⟩ x3).setCell ⟨R,4,none⟩ x4).setCell ⟨R,5,none⟩ x5).setCell ⟨R,6,none⟩ x6) c t l:=
 h.kept (S:=(·=R)) (k7w kR (Or.inl rfl)) hc
theorem ret_tm {fn:Func} {p:Tmp} (hf:fn.results=#[.cell p 27]) {b n:Nat} {s:ByteArray} {q:RT} {σ':PS} {w W:World} {t:Tm} {tk kk:Value} {R:Nat} {a:Act} (hq:q=.ok (t,σ')) (hR:a.tmps.getD p undef=.pointer (some ⟨R,0,none⟩)) (hd:a.defers=[])
  (hb:Blk W R 27 (tmCells t tk kk)) (hk:TyL bz (fun k=>n≤k) W t.ty.kids tk) (hm:TmL bz (fun k=>n≤k) W t.kids kk) (hp:PW W b s σ') (hkp:Kept (·=b) w W):bodyPost Tryz.prog fn (RPost b s (VTm bz n) q w) Exit.ret a W:=
 bodyPost_ret (results_one hf hR (load_tm hb)) hd (RPost.ok hq ⟨_,rfl,⟨tk,kk,rfl,hk,hm⟩,hp,hkp⟩)
theorem TyL.nil0 {ok:Nat→Prop} {w:World}:TyL bz ok w [] (.slice none 0 0):=.nil (Or.inl rfl)
theorem TmL.nil0 {ok:Nat→Prop} {w:World}:TmL bz ok w [] (.slice none 0 0):=.nil (Or.inl rfl)
abbrev E3:=Tm×Value×Value
def flat:List E3→List Value
 | []=>[]
 | e::E=>tmCells e.1 e.2.1 e.2.2++flat E
def EL (bz:Nat) (ok:Nat→Prop) (w:World) (E:List E3):Prop:=∀ e∈E,TyL bz ok w e.1.ty.kids e.2.1∧TmL bz ok w e.1.kids e.2.2
theorem flat_len:∀ (E:List E3),(flat E).length=E.length*7
 | []=>rfl
 | e::E=>by rw[flat,List.length_append,flat_len E,List.length_cons];show 7+_=_;omega
theorem flat_get:∀ (E:List E3) (i j:Nat) (h:i<E.length),j<7→(flat E)[i*7+j]?=(tmCells E[i].1 E[i].2.1 E[i].2.2)[j]?
 | e::E,0,j,_,hj=>by
  rw[flat,Nat.zero_mul,Nat.zero_add,List.getElem?_append_left (by show j<7;exact hj)];rfl
 | e::E,i+1,j,h,hj=>by
  rw[flat,List.getElem?_append_right (by show 7≤_;omega)]
  have:=flat_get E i j (by simpa using h) hj
  rw[show (i+1)*7+j-(tmCells e.1 e.2.1 e.2.2).length=i*7+j by show (i+1)*7+j-7=_;omega,this]
  rfl
theorem tml_of_row {ok:Nat→Prop} {w:World} {base:Nat} {v:Value} {E:List E3} (hE:E≠[]) (hown:w.ownsRow base 27 7 v E.length (flat E)) (hl:EL bz ok w E) (hok:∀ g,v.ownBlock=some g→ok g):TmL bz ok w (E.map (·.1)) v:=by
 have h0:0<E.length:=List.length_pos_iff.2 hE
 obtain⟨_,hv⟩:=hown
 rcases hv with ⟨_,hn⟩ | ⟨g,cap,cur,rfl,hbg,hg,hnc,hcm,hcs,htake⟩
 ·omega
 ·have hb:Blk w g 27 cur.toList:=by show w.heap[g]?=_;rw[hg]
  have hc:∀ i j,i<E.length→j<7→w.cell? ⟨g,0+i*7+j,none⟩=(flat E)[i*7+j]?:=by
   intro i j hi hj
   rw[hb.cell,← htake,List.getElem?_take,if_pos (by omega),Nat.zero_add]
  have:=TmL.mk (bz:=bz) (ok:=ok) (w:=w) (l:=E.map (·.1)) (b:=g) (off:=0) (cap:=cap) (fun i=>(E.getD i (.mk 0 ⟨#[]⟩ 0 ty0 [],undef,undef)).2.1) (fun i=>(E.getD i (.mk 0 ⟨#[]⟩ 0 ty0 [],undef,undef)).2.2) (by simpa using hE) (hok g rfl) (by simpa using hnc) (fun i h=>?_) (fun i h=>?_) (fun i h=>?_) (fun _=>⟨rfl,_,hb,by rw[List.length_map];have h5:=congrArg List.length htake;rw[List.length_take,flat_len] at h5;omega⟩)
  ·rw[List.length_map] at this;exact this
  all_goals
   have hi:i<E.length:=by simpa using h
   have e1:(E.map (·.1))[i]=E[i].1:=List.getElem_map ..
   have e2:E.getD i (.mk 0 ⟨#[]⟩ 0 ty0 [],undef,undef)=E[i]:=by rw[List.getD_eq_getElem?_getD,List.getElem?_eq_getElem hi];rfl
   rw[e1]
   try rw[e2]
  ·exact⟨(hc i 0 hi (by omega)).trans (flat_get E i 0 hi (by omega)),(hc i 1 hi (by omega)).trans (flat_get E i 1 hi (by omega)),(hc i 2 hi (by omega)).trans (flat_get E i 2 hi (by omega)),(hc i 3 hi (by omega)).trans (flat_get E i 3 hi (by omega)),(hc i 4 hi (by omega)).trans (flat_get E i 4 hi (by omega)),(hc i 5 hi (by omega)).trans (flat_get E i 5 hi (by omega)),(hc i 6 hi (by omega)).trans (flat_get E i 6 hi (by omega))⟩
  ·exact (hl _ (List.getElem_mem hi)).1
  ·exact (hl _ (List.getElem_mem hi)).2
theorem EL.frame {ok:Nat→Prop} {w w':World} {E:List E3} (h:EL bz ok w E) (hs:Same ok w w'):EL bz ok w' E:=fun e he=>⟨(h e he).1.frame hs,(h e he).2.frame hs⟩
theorem EL.mono {ok ok':Nat→Prop} {w:World} {E:List E3} (h:EL bz ok w E) (ho:∀ k,k<w.heap.size→ok k→ok' k):EL bz ok' w E:=fun e he=>⟨(h e he).1.mono ho,(h e he).2.mono ho⟩
theorem EL.snoc {ok:Nat→Prop} {w:World} {E:List E3} {e:E3} (h:EL bz ok w E) (ha:TyL bz ok w e.1.ty.kids e.2.1) (hc:TmL bz ok w e.1.kids e.2.2):EL bz ok w (E++[e]):=by
 intro x hx
 rcases List.mem_append.1 hx with hx | hx
 ·exact h x hx
 ·rw[List.mem_singleton.1 hx];exact⟨ha,hc⟩
theorem own_one {w:World} {base g:Nat} {t:Tm} {tk kk:Value} (hb:Blk w g 27 (tmCells t tk kk)) (hg:base≤g):w.ownsRow base 27 7 (.slice (some ⟨g,0,none⟩) 1 1) 1 (flat [(t,tk,kk)]):=
 ⟨rfl,.inr ⟨g,1,_,rfl,hg,hb,by omega,by unfold maxLen;omega,rfl,rfl⟩⟩
theorem info27:(Tryz.prog.info? 27).map (fun i=>(i.zero,i.size,i.bytes))=some (some (.agg #[.int .i64 0,.string ⟨#[]⟩,.int .i64 0,.int .i64 0,.string ⟨#[]⟩,.slice none 0 0,.slice none 0 0]),7,104):=by kernel_rfl
theorem opGo_no {σ:PS}:∀ (k:Nat) (xs:List ByteArray) (os:List Int),k≤xs.length→xs.length=os.length→(∀ j (h:j<k) (h':j<xs.length),isS σ xs[j]=false)→opGo σ xs os=opGo σ (xs.drop k) (os.drop k):=by
 intro k
 induction k with
 | zero=>intro xs os _ _ _;rfl
 | succ k ih=>
  intro xs os hk hl hno
  match xs,os with
  | [],[]=>rfl
  | x::xs,o::os=>
   have h0:=hno 0 (by omega) (by simp)
   simp only[List.getElem_cons_zero] at h0
   rw[opGo,h0]
   simp only[List.drop_succ_cons]
   exact ih xs os (by simpa using hk) (by simpa using hl) (fun j hj hj'=>by have:=hno (j+1) (by omega) (by simp;omega);exact this)
theorem opGo_yes {σ:PS} {k:Nat} {xs:List ByteArray} {os:List Int} (hk:k<xs.length) (hl:xs.length=os.length) (hno:∀ j (_:j<k) (h':j<xs.length),isS σ xs[j]=false) (hy:isS σ xs[k]=true):opGo σ xs os=os[k]'(by omega):=by
 rw[opGo_no k xs os (by omega) hl hno,List.drop_eq_getElem_cons hk,List.drop_eq_getElem_cons (show k<os.length by omega),opGo,hy]
theorem operator_any {w:World} {b:Nat} {s:ByteArray} {σ:PS} (h:PW w b s σ) (gr:Int) (xs:List ByteArray) (os:List Int) (g g':Nat) (hl:xs.length=os.length) (h9:xs.length≤1000)
  (hx:Blk w g 9 (xs.map Value.string)) (ho:Blk w g' 3 (os.map (Value.int .i64))):
  Calls Tryz.prog 169 #[.pointer (some ⟨b,0,none⟩),.agg #[.int .i64 gr,.slice (some ⟨g,0,none⟩) xs.length xs.length,.slice (some ⟨g',0,none⟩) os.length os.length]] w
   fun e w'=>e=.returned (.int .i64 (opGo σ xs os))∧Below w.heap.size w w':=by
 have h0:=h.alloc (.cells #[.int .i64 gr,.slice (some ⟨g,0,none⟩) xs.length xs.length,.slice (some ⟨g',0,none⟩) os.length os.length] 181)
 have HL:=Ld hl
 clear hl
 have X:=Ld (hx.alloc (.cells #[.int .i64 gr,.slice (some ⟨g,0,none⟩) xs.length xs.length,.slice (some ⟨g',0,none⟩) os.length os.length] 181))
 have O:=Ld (ho.alloc (.cells #[.int .i64 gr,.slice (some ⟨g,0,none⟩) xs.length xs.length,.slice (some ⟨g',0,none⟩) os.length os.length] 181))
 have lg:=hx.lt
 have lg':=ho.lt
 go_enter Tryz.func169,Tryz.ntmps169
 go_wp2_with fail
 go_loopg [10] xs.length (fun m i wr=>wr=w.alloc (.cells #[.int .i64 gr,.slice (some ⟨g,0,none⟩) xs.length xs.length,.slice (some ⟨g',0,none⟩) os.length os.length] 181)∧∃ k:Nat,k≤xs.length∧m=xs.length-k∧i=.int .i64 k∧Hid (∀ j (h:j<k) (h':j<xs.length),isS σ xs[j]=false))
 case atStart=>exact⟨rfl,0,Nat.zero_le _,rfl,rfl,Ld (fun j h=>by omega)⟩
 case round=>
  obtain⟨rfl,k,hk,rfl,rfl,hno⟩:=hrel
  by_cases hlt:k<xs.length
  ·have i1:(k:Int)<(xs.length:Int):=by omega
   have i2:(0:Int)≤(k:Int):=by omega
   have hc:=X.out.cell k
   rw[List.getElem?_map,List.getElem?_eq_getElem hlt] at hc
   simp only[Option.map_some] at hc
   cases hy:isS σ xs[k]
   ·have hno':Hid (∀ j (h:j<k+1) (h':j<xs.length),isS σ xs[j]=false):=Ld (fun j h h'=>by
     rcases Nat.lt_succ_iff_lt_or_eq.1 h with h | rfl
     ·exact hno.out j h h'
     ·exact hy)
    go_wp2_with (go_at_call 164;refine (is_any h0 _ hy).mono ?_;rintro e w' ⟨rfl,rfl⟩)
    go_roundg (xs.length-(k+1))
    case measure=>omega
    case rel=>exact⟨rfl,k+1,by omega,rfl,by go_num,hno'⟩
   ·have hr:=Ld (opGo_yes hlt HL.out hno.out hy)
    have hlt':k<os.length:=by have:=HL.out;omega
    have i3:(k:Int)<(os.length:Int):=by omega
    have hc':=O.out.cell k
    rw[List.getElem?_map,List.getElem?_eq_getElem hlt'] at hc'
    simp only[Option.map_some] at hc'
    go_wp2_with (go_at_call 164;refine (is_any h0 _ hy).mono ?_;rintro e w' ⟨rfl,rfl⟩)
    go_ret
    exact⟨by rw[hr.out];rfl,(Below.refl _ _).alloc (Nat.le_refl _) _⟩
  ·have hr:Hid (opGo σ xs os=0):=Ld (by
    rw[opGo_no k xs os hk HL.out hno.out,List.drop_of_length_le (by omega)]
    rfl)
   have i1:decide ((k:Int)<(xs.length:Int))=false:=by simp;omega
   go_wp2_with fail
   go_ret
   exact⟨by rw[hr.out];rfl,(Below.refl _ _).alloc (Nat.le_refl _) _⟩
def lvOK (n:Nat):Prop:=n=1∨n=2∨n=3∨n=4∨n=6∨n=7∨n=8∨n=9∨n=10∨n=11∨n=12
def LvPost (n:Nat) (w:World) (e:Ending) (w':World):Prop:=∃ A:Array Value,e=.returned (.agg A) ∧
 (∃ g g',w.heap.size≤g∧w.heap.size≤g'∧(∀ W,(Instr.index 182 (.agg A) (.int .i64 n)).run Tryz.prog W=.ok (.agg #[.int .i64 (lvGroup n),.slice (some ⟨g,0,none⟩) (lvSigns n).length (lvSigns n).length,.slice (some ⟨g',0,none⟩) (lvOps n).length (lvOps n).length]) W) ∧
  Blk w' g 9 ((lvSigns n).map Value.string)∧Blk w' g' 3 ((lvOps n).map (Value.int .i64)))∧Below w.heap.size w w'
theorem lv_new (w:World) (i:Nat) (t:TypeId) (l:List Value) (h:lvObjs[i+1]?=some (.cells l.toArray t)):Blk ((lvObjs.foldl World.alloc w).setCells w.heap.size 0 (lvGo lvTab (w.heap.size+1))) (w.heap.size+(i+1)) t l:=by
 refine Blk.setCells_other ?_ (by omega)
 have hl:i+1<lvObjs.length:=by
  by_cases hl:i+1<lvObjs.length
  ·exact hl
  ·rw[List.getElem?_eq_none (by omega)] at h;cases h
 exact (heap_allocs lvObjs w (i+1) hl).trans h
theorem lv_below (w:World):Below w.heap.size w ((lvObjs.foldl World.alloc w).setCells w.heap.size 0 (lvGo lvTab (w.heap.size+1))):=
 (Kept.setCells (S:=fun _=>False) (Kept.of_below (below_allocs lvObjs w)) (Or.inr (Nat.le_refl _))).below
theorem levels_1 (w:World):Calls Tryz.prog 168 #[] w (LvPost 1 w):=
 (levels_any w).mono fun e w' h=>⟨_,h.1,⟨w.heap.size+(0+1),w.heap.size+(1+1),by omega,by omega,fun _=>by kernel_rfl,by rw[h.2];exact lv_new w 0 9 _ rfl,by rw[h.2];exact lv_new w 1 3 _ rfl⟩,by rw[h.2];exact lv_below w⟩
theorem levels_2 (w:World):Calls Tryz.prog 168 #[] w (LvPost 2 w):=
 (levels_any w).mono fun e w' h=>⟨_,h.1,⟨w.heap.size+(2+1),w.heap.size+(3+1),by omega,by omega,fun _=>by kernel_rfl,by rw[h.2];exact lv_new w 2 9 _ rfl,by rw[h.2];exact lv_new w 3 3 _ rfl⟩,by rw[h.2];exact lv_below w⟩
theorem levels_3 (w:World):Calls Tryz.prog 168 #[] w (LvPost 3 w):=
 (levels_any w).mono fun e w' h=>⟨_,h.1,⟨w.heap.size+(4+1),w.heap.size+(5+1),by omega,by omega,fun _=>by kernel_rfl,by rw[h.2];exact lv_new w 4 9 _ rfl,by rw[h.2];exact lv_new w 5 3 _ rfl⟩,by rw[h.2];exact lv_below w⟩
theorem levels_4 (w:World):Calls Tryz.prog 168 #[] w (LvPost 4 w):=
 (levels_any w).mono fun e w' h=>⟨_,h.1,⟨w.heap.size+(6+1),w.heap.size+(7+1),by omega,by omega,fun _=>by kernel_rfl,by rw[h.2];exact lv_new w 6 9 _ rfl,by rw[h.2];exact lv_new w 7 3 _ rfl⟩,by rw[h.2];exact lv_below w⟩
theorem levels_6 (w:World):Calls Tryz.prog 168 #[] w (LvPost 6 w):=
 (levels_any w).mono fun e w' h=>⟨_,h.1,⟨w.heap.size+(8+1),w.heap.size+(9+1),by omega,by omega,fun _=>by kernel_rfl,by rw[h.2];exact lv_new w 8 9 _ rfl,by rw[h.2];exact lv_new w 9 3 _ rfl⟩,by rw[h.2];exact lv_below w⟩
theorem levels_7 (w:World):Calls Tryz.prog 168 #[] w (LvPost 7 w):=
 (levels_any w).mono fun e w' h=>⟨_,h.1,⟨w.heap.size+(10+1),w.heap.size+(11+1),by omega,by omega,fun _=>by kernel_rfl,by rw[h.2];exact lv_new w 10 9 _ rfl,by rw[h.2];exact lv_new w 11 3 _ rfl⟩,by rw[h.2];exact lv_below w⟩
theorem levels_8 (w:World):Calls Tryz.prog 168 #[] w (LvPost 8 w):=
 (levels_any w).mono fun e w' h=>⟨_,h.1,⟨w.heap.size+(12+1),w.heap.size+(13+1),by omega,by omega,fun _=>by kernel_rfl,by rw[h.2];exact lv_new w 12 9 _ rfl,by rw[h.2];exact lv_new w 13 3 _ rfl⟩,by rw[h.2];exact lv_below w⟩
theorem levels_9 (w:World):Calls Tryz.prog 168 #[] w (LvPost 9 w):=
 (levels_any w).mono fun e w' h=>⟨_,h.1,⟨w.heap.size+(14+1),w.heap.size+(15+1),by omega,by omega,fun _=>by kernel_rfl,by rw[h.2];exact lv_new w 14 9 _ rfl,by rw[h.2];exact lv_new w 15 3 _ rfl⟩,by rw[h.2];exact lv_below w⟩
theorem levels_10 (w:World):Calls Tryz.prog 168 #[] w (LvPost 10 w):=
 (levels_any w).mono fun e w' h=>⟨_,h.1,⟨w.heap.size+(16+1),w.heap.size+(17+1),by omega,by omega,fun _=>by kernel_rfl,by rw[h.2];exact lv_new w 16 9 _ rfl,by rw[h.2];exact lv_new w 17 3 _ rfl⟩,by rw[h.2];exact lv_below w⟩
theorem levels_11 (w:World):Calls Tryz.prog 168 #[] w (LvPost 11 w):=
 (levels_any w).mono fun e w' h=>⟨_,h.1,⟨w.heap.size+(18+1),w.heap.size+(19+1),by omega,by omega,fun _=>by kernel_rfl,by rw[h.2];exact lv_new w 18 9 _ rfl,by rw[h.2];exact lv_new w 19 3 _ rfl⟩,by rw[h.2];exact lv_below w⟩
theorem levels_12 (w:World):Calls Tryz.prog 168 #[] w (LvPost 12 w):=
 (levels_any w).mono fun e w' h=>⟨_,h.1,⟨w.heap.size+(20+1),w.heap.size+(21+1),by omega,by omega,fun _=>by kernel_rfl,by rw[h.2];exact lv_new w 20 9 _ rfl,by rw[h.2];exact lv_new w 21 3 _ rfl⟩,by rw[h.2];exact lv_below w⟩
theorem levels_at {n:Nat} (hn:lvOK n) (w:World):Calls Tryz.prog 168 #[] w (LvPost n w):=by
 rcases hn with rfl | rfl | rfl | rfl | rfl | rfl | rfl | rfl | rfl | rfl | rfl
 ·exact levels_1 w
 ·exact levels_2 w
 ·exact levels_3 w
 ·exact levels_4 w
 ·exact levels_6 w
 ·exact levels_7 w
 ·exact levels_8 w
 ·exact levels_9 w
 ·exact levels_10 w
 ·exact levels_11 w
 ·exact levels_12 w
theorem lv_lens {n:Nat} (hn:lvOK n):(lvSigns n).length=(lvOps n).length∧(lvSigns n).length≤1000:=by
 rcases hn with rfl | rfl | rfl | rfl | rfl | rfl | rfl | rfl | rfl | rfl | rfl <;> decide
def okk (n0 B R:Nat) (k:Nat):Prop:=n0≤k∧k≠B∧k≠R
theorem same7k {W:World} {n0 B R c:Nat} {x0 x1 x2 x3 x4 x5 x6:Value} (h:c=B∨c=R):Same (okk n0 B R) W (((((((W.setCell ⟨c,0,none⟩ x0).setCell ⟨c,1,none⟩ x1).setCell ⟨c,2,none⟩ x2).setCell ⟨c,3,none⟩ x3).setCell ⟨c,4,none⟩ x4).setCell ⟨c,5,none⟩ x5).setCell ⟨c,6,none⟩ x6):=by
 intro k hk hl
 exact (k7w (S:=(·=c)) kR (Or.inl rfl)).block k hl (by rcases h with rfl | rfl;exact hk.2.1;exact hk.2.2)
theorem wp_gen {P:Program} {c:Code} {Q:Exit→Act→World→Prop} {a:Act} {W:World} (F:World→Prop) (hF:F W) (h:∀ w6,F w6→Code.wp P c Q a w6):Code.wp P c Q a W:=h W hF
theorem PW.drew {w:World} {b:Nat} {s:ByteArray} {σ:PS} (h:PW w b s σ):PW w.drew b s σ:=h.grow (S:=fun _=>False) (kR.drew) id id id
theorem Same.drew {ok:Nat→Prop} (W:World):Same ok W W.drew:=fun _ _ _=>rfl
end Go.Proofs.YtdmebjbkccjhbaaGreatDoor
