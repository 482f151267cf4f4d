/- A part. -/
import Derived.Test.YtdmebjbkccjhbaaGreatDoorU0
import Derived.Test.YtdmebjbkccjhbaaGreatDoorProg
import Derived.Shelf.Strings.Builder1
import Derived.Shelf.Strings.Trim
import Derived.Shelf.Small.Utf8
import Derived.Shelf.Small.Strs
import Derived.Shelf.Strings.BuilderF
import Derived.Shelf.Strings.BuilderK
import Derived.Shelf.Strconv.Atoi
import Derived.Shelf.Strconv.Itoa0
import Derived.Shelf.Strconv.Itoa1
import Derived.Shelf.LaysM
import Derived.Shelf.Strconv.Itoa2
import Derived.Shelf.Strconv.Itoa3
import Derived.Shelf.Strconv.AtoiErrFast
import Derived.Shelf.Strconv.ParseIntEmpty
import Derived.Shelf.Strconv.AtoiFail
import Derived.Shelf.Strconv.Clone
import Derived.Shelf.Strconv.SyntaxError
import Derived.Shelf.LaysC
import Derived.Shelf.Strconv.ToError
import Derived.Shelf.Strconv.Lower
import Derived.Shelf.Strconv.ParseUint10
import Derived.Shelf.Strconv.ParseUint10Empty
import Derived.Shelf.Strconv.ParseUint10Any
import Derived.Shelf.Strconv.ParseInt10
import Derived.Shelf.Strconv.AtoiLong
import Derived.Shelf.Strconv.AtoiInnerAll
import Derived.Shelf.Strconv.RangeError
import Derived.Shelf.Strconv.ToErrorRange
import Derived.Shelf.Strconv.AtoiAll
import Derived.Shelf.Strconv.ErrVarAll
import Derived.Shelf.Strings.Search1
import Derived.Shelf.Strings.Prefix
import Derived.Shelf.Strings.Runes
import Derived.Shelf.Strings.AsciiSet
import Derived.Shelf.Unicode.DecodeSlow
import Derived.Shelf.Slices.Turned
import Derived.Deep.QuietTactic
import Derived.BigQuiet
set_option linter.unusedVariables false
set_option linter.unusedSimpArgs false
set_option maxRecDepth 100000
set_option maxHeartbeats 32000000
namespace Go.Proofs.YtdmebjbkccjhbaaGreatDoor
open Go.RowKit
def scanF (P:Int→Bool) (s:ByteArray):Nat→Nat→Nat
 | 0,p=>p
 | f+1,p=>if h:p<s.size then (if P s[p].toNat then scanF P s f (p+1) else p) else p
def scan (P:Int→Bool) (s:ByteArray) (p:Nat):Nat:=scanF P s (s.size-p) p
theorem scan_yes (P:Int→Bool) (s:ByteArray) (p:Nat) (h:p<s.size) (hp:P s[p].toNat=true):scan P s p=scan P s (p+1):=by
 unfold scan
 rw[show s.size-p=(s.size-(p+1))+1 by omega]
 rw[scanF,dif_pos h,if_pos hp]
theorem scan_no (P:Int→Bool) (s:ByteArray) (p:Nat) (h:p<s.size) (hp:P s[p].toNat=false):scan P s p=p:=by
 unfold scan
 rw[show s.size-p=(s.size-(p+1))+1 by omega]
 rw[scanF,dif_pos h,if_neg (by simp[hp])]
theorem scan_end (P:Int→Bool) (s:ByteArray) (p:Nat) (h:s.size≤p):scan P s p=p:=by
 unfold scan
 rw[show s.size-p=0 by omega];rfl
theorem scan_spec (P:Int→Bool) (s:ByteArray) (p:Nat) (h:p≤s.size):p≤scan P s p∧scan P s p≤s.size ∧
  (∀ hq:scan P s p<s.size,P s[scan P s p].toNat=false)∧∀ q (_:p≤q) (_:q<scan P s p) (hs:q<s.size),P s[q].toNat=true:=by
 generalize hn:s.size-p=n
 induction n generalizing p with
 | zero=>
  rw[scan_end P s p (by omega)]
  exact⟨Nat.le_refl _,h,fun hq=>absurd hq (by omega),fun q _ hq _=>by omega⟩
 | succ n ih=>
  have hlt:p<s.size:=by omega
  cases hp:P s[p].toNat
  ·rw[scan_no P s p hlt hp]
   refine⟨Nat.le_refl _,h,?_,fun q _ hq _=>by omega⟩
   intro hq
   have:∀ (r:Nat) (e:r=p) (hr:r<s.size),P s[r].toNat=false:=by intro r e hr;subst e;exact hp
   exact this _ rfl hq
  ·have e:=scan_yes P s p hlt hp
   obtain⟨a,b,c,d⟩:=ih (p+1) (by omega) (by omega)
   have key:∀ r,r=scan P s (p+1)→p≤r∧r≤s.size∧(∀ hq:r<s.size,P s[r].toNat=false)∧∀ q (_:p≤q) (_:q<r) (hs:q<s.size),P s[q].toNat=true:=by
    intro r hr
    subst hr
    refine⟨by omega,b,c,fun q hq hq' hs=>?_⟩
    by_cases hqp:q=p
    ·subst hqp;exact hp
    ·exact d q (by omega) hq' hs
   exact key _ e
def blankB (c:Int):Bool:=c==32||c==9||c==10
def skip (s:ByteArray) (p:Nat):Nat:=scan blankB s p
def wend (s:ByteArray) (p:Nat):Nat:=scan inWordB s p
def pcells (s:ByteArray) (at_:Nat) (k:Int) (tx:ByteArray) (n:Int) (ta nest:Nat):List Value:=
 [.string s,.int .i64 at_,.int .i64 k,.string tx,.int .i64 n,.int .i64 ta,.int .i64 nest]
end Go.Proofs.YtdmebjbkccjhbaaGreatDoor
namespace Go.Proofs
open Go.Shelf
def Tryz.laysM171_ren:Go.Shelf.Ren:=⟨fun | 171=>38 | 243=>86 | 246=>138 | 283=>176 | 284=>177 | 285=>178 | 286=>179 | 129=>193 | 317=>212 | 318=>213 | 319=>214 | 320=>215 | 337=>231 | 338=>232 | n=>n,fun | 3=>3 | 9=>9 | 2=>2 | 4=>4 | 171=>188 | 0=>0 | 53=>189 | 37=>103 | 5=>5 | 173=>192 | 212=>219 | 51=>204 | 20=>20 | 213=>220 | 46=>163 | 232=>247 | 233=>248 | n=>n,fun | 17=>0 | 18=>6 | 19=>7 | n=>n⟩
theorem Tryz.laysM171:Go.Proofs.LaysM.n171 Tryz.prog Tryz.laysM171_ren:={
 mixed:=by kernel_rfl
 f129:=Tryz.func193.trans (congrArg some (by kernel_rfl))
 f171:=Tryz.func38.trans (congrArg some (by kernel_rfl))
 f243:=Tryz.func86.trans (congrArg some (by kernel_rfl))
 f246:=Tryz.func138.trans (congrArg some (by kernel_rfl))
 f283:=Tryz.func176.trans (congrArg some (by kernel_rfl))
 f284:=Tryz.func177.trans (congrArg some (by kernel_rfl))
 f285:=Tryz.func178.trans (congrArg some (by kernel_rfl))
 f286:=Tryz.func179.trans (congrArg some (by kernel_rfl))
 f317:=Tryz.func212.trans (congrArg some (by kernel_rfl))
 f318:=Tryz.func213.trans (congrArg some (by kernel_rfl))
 f319:=Tryz.func214.trans (congrArg some (by kernel_rfl))
 f320:=Tryz.func215.trans (congrArg some (by kernel_rfl))
 f337:=Tryz.func231.trans (congrArg some (by kernel_rfl))
 f338:=Tryz.func232.trans (congrArg some (by kernel_rfl))
 t0:=Tryz.underlying0
 a0:=Tryz.isAgg0
 z0:=Tryz.sizeOf0
 v0:=Tryz.zeroValue0
 t2:=Tryz.underlying2
 a2:=Tryz.isAgg2
 z2:=Tryz.sizeOf2
 v2:=Tryz.zeroValue2
 t3:=Tryz.underlying3
 a3:=Tryz.isAgg3
 z3:=Tryz.sizeOf3
 v3:=Tryz.zeroValue3
 t4:=Tryz.underlying4
 a4:=Tryz.isAgg4
 z4:=Tryz.sizeOf4
 v4:=Tryz.zeroValue4
 t5:=Tryz.underlying5
 a5:=Tryz.isAgg5
 z5:=Tryz.sizeOf5
 v5:=Tryz.zeroValue5
 t9:=Tryz.underlying9
 a9:=Tryz.isAgg9
 z9:=Tryz.sizeOf9
 v9:=Tryz.zeroValue9
 t20:=Tryz.underlying20
 a20:=Tryz.isAgg20
 z20:=Tryz.sizeOf20
 v20:=Tryz.zeroValue20
 t37:=Tryz.underlying103
 a37:=Tryz.isAgg103
 z37:=Tryz.sizeOf103
 v37:=Tryz.zeroValue103
 t46:=Tryz.underlying163
 a46:=Tryz.isAgg163
 z46:=Tryz.sizeOf163
 v46:=Tryz.zeroValue163
 t51:=Tryz.underlying204
 a51:=Tryz.isAgg204
 z51:=Tryz.sizeOf204
 v51:=Tryz.zeroValue204
 t53:=Tryz.underlying189
 a53:=Tryz.isAgg189
 z53:=Tryz.sizeOf189
 v53:=Tryz.zeroValue189
 t171:=Tryz.underlying188
 a171:=Tryz.isAgg188
 z171:=Tryz.sizeOf188
 v171:=Tryz.zeroValue188
 t173:=Tryz.underlying192
 a173:=Tryz.isAgg192
 z173:=Tryz.sizeOf192
 v173:=Tryz.zeroValue192
 t212:=Tryz.underlying219
 a212:=Tryz.isAgg219
 z212:=Tryz.sizeOf219
 v212:=Tryz.zeroValue219
 t213:=Tryz.underlying220
 a213:=Tryz.isAgg220
 z213:=Tryz.sizeOf220
 t232:=Tryz.underlying247
 a232:=Tryz.isAgg247
 z232:=Tryz.sizeOf247
 v232:=Tryz.zeroValue247
 t233:=Tryz.underlying248
 a233:=Tryz.isAgg248
 z233:=Tryz.sizeOf248
 v233:=Tryz.zeroValue248
 g17:=by kernel_rfl
 g18:=by kernel_rfl
 g19:=by kernel_rfl
 i0:=by kernel_rfl
 i2:=by kernel_rfl
 i3:=by kernel_rfl
 i4:=by kernel_rfl
 i5:=by kernel_rfl
 i9:=by kernel_rfl
 i20:=by kernel_rfl
 i37:=by kernel_rfl
 i46:=by kernel_rfl
 i51:=by kernel_rfl
 i53:=by kernel_rfl
 i171:=by kernel_rfl
 i173:=by kernel_rfl
 i212:=by kernel_rfl
 i232:=by kernel_rfl
 i233:=by kernel_rfl
 m17:=by kernel_rfl
 m18:=by kernel_rfl
 m19:=by kernel_rfl }
open Go.RowKit Go.Sort Go.Lib in
theorem Tryz.strconv_Itoa (n : Int) (h0 : -9223372036854775808 ≤ n) (h1 : n ≤ 9223372036854775807) (w : World) (htab : Lib.TabIs Tryz.prog w "internal/strconv.uint64pow10" .u64 Lib.pow10Tab) :
  Calls Tryz.prog 38 #[.int .i64 n] w fun e w'=>e=.returned (.string ⟨(Lib.itoa n).toArray⟩)∧∃ k os,w'=grow (w.drewN k) os:=Any.strconv_Itoa Tryz.laysM171 n h0 h1 w htab
def Tryz.lays171_ren:Go.Shelf.Ren:=⟨fun | 171=>38 | 243=>86 | 246=>138 | 283=>176 | 284=>177 | 285=>178 | 286=>179 | 129=>193 | 317=>212 | 318=>213 | 319=>214 | 320=>215 | 337=>231 | 338=>232 | n=>n,fun | 3=>3 | 9=>9 | 2=>2 | 4=>4 | 171=>188 | 0=>0 | 53=>189 | 37=>103 | 5=>5 | 173=>192 | 212=>219 | 51=>204 | 20=>20 | 213=>220 | 46=>163 | 232=>247 | 233=>248 | n=>n,fun | 17=>0 | 18=>6 | 19=>7 | n=>n⟩
theorem Tryz.lays171:Go.Proofs.Lays.n171 Tryz.prog Tryz.lays171_ren:={
 mixed:=by kernel_rfl
 f129:=Tryz.func193.trans (congrArg some (by kernel_rfl))
 f171:=Tryz.func38.trans (congrArg some (by kernel_rfl))
 f243:=Tryz.func86.trans (congrArg some (by kernel_rfl))
 f246:=Tryz.func138.trans (congrArg some (by kernel_rfl))
 f283:=Tryz.func176.trans (congrArg some (by kernel_rfl))
 f284:=Tryz.func177.trans (congrArg some (by kernel_rfl))
 f285:=Tryz.func178.trans (congrArg some (by kernel_rfl))
 f286:=Tryz.func179.trans (congrArg some (by kernel_rfl))
 f317:=Tryz.func212.trans (congrArg some (by kernel_rfl))
 f318:=Tryz.func213.trans (congrArg some (by kernel_rfl))
 f319:=Tryz.func214.trans (congrArg some (by kernel_rfl))
 f320:=Tryz.func215.trans (congrArg some (by kernel_rfl))
 f337:=Tryz.func231.trans (congrArg some (by kernel_rfl))
 f338:=Tryz.func232.trans (congrArg some (by kernel_rfl))
 t0:=Tryz.underlying0
 a0:=Tryz.isAgg0
 z0:=Tryz.sizeOf0
 v0:=Tryz.zeroValue0
 t2:=Tryz.underlying2
 a2:=Tryz.isAgg2
 z2:=Tryz.sizeOf2
 v2:=Tryz.zeroValue2
 t3:=Tryz.underlying3
 a3:=Tryz.isAgg3
 z3:=Tryz.sizeOf3
 v3:=Tryz.zeroValue3
 t4:=Tryz.underlying4
 a4:=Tryz.isAgg4
 z4:=Tryz.sizeOf4
 v4:=Tryz.zeroValue4
 t5:=Tryz.underlying5
 a5:=Tryz.isAgg5
 z5:=Tryz.sizeOf5
 v5:=Tryz.zeroValue5
 t9:=Tryz.underlying9
 a9:=Tryz.isAgg9
 z9:=Tryz.sizeOf9
 v9:=Tryz.zeroValue9
 t20:=Tryz.underlying20
 a20:=Tryz.isAgg20
 z20:=Tryz.sizeOf20
 v20:=Tryz.zeroValue20
 t37:=Tryz.underlying103
 a37:=Tryz.isAgg103
 z37:=Tryz.sizeOf103
 v37:=Tryz.zeroValue103
 t46:=Tryz.underlying163
 a46:=Tryz.isAgg163
 z46:=Tryz.sizeOf163
 v46:=Tryz.zeroValue163
 t51:=Tryz.underlying204
 a51:=Tryz.isAgg204
 z51:=Tryz.sizeOf204
 v51:=Tryz.zeroValue204
 t53:=Tryz.underlying189
 a53:=Tryz.isAgg189
 z53:=Tryz.sizeOf189
 v53:=Tryz.zeroValue189
 t171:=Tryz.underlying188
 a171:=Tryz.isAgg188
 z171:=Tryz.sizeOf188
 v171:=Tryz.zeroValue188
 t173:=Tryz.underlying192
 a173:=Tryz.isAgg192
 z173:=Tryz.sizeOf192
 v173:=Tryz.zeroValue192
 t212:=Tryz.underlying219
 a212:=Tryz.isAgg219
 z212:=Tryz.sizeOf219
 v212:=Tryz.zeroValue219
 t213:=Tryz.underlying220
 a213:=Tryz.isAgg220
 z213:=Tryz.sizeOf220
 t232:=Tryz.underlying247
 a232:=Tryz.isAgg247
 z232:=Tryz.sizeOf247
 v232:=Tryz.zeroValue247
 t233:=Tryz.underlying248
 a233:=Tryz.isAgg248
 z233:=Tryz.sizeOf248
 v233:=Tryz.zeroValue248
 g17:=by kernel_rfl
 g18:=by kernel_rfl
 g19:=by kernel_rfl }
open Go.RowKit Go.Sort Go.Lib in
theorem Tryz.strconv_Itoa_small (i:Nat) (hi:i<100) (w:World):
  Calls Tryz.prog 38 #[.int .i64 i] w fun e w'=>e=.returned (.string ⟨(Lib.decDigits i).toArray⟩)∧w'=w:=Any.strconv_Itoa_small Tryz.lays171 i hi w
def Tryz.laysC172_ren:Go.Shelf.Ren:=⟨fun | 172=>159 | 244=>197 | 245=>198 | 247=>223 | 279=>224 | 280=>225 | 281=>226 | 282=>227 | 287=>236 | 316=>237 | 171=>38 | 205=>238 | 321=>241 | 322=>242 | 243=>86 | 246=>138 | 283=>176 | 284=>177 | 285=>178 | 286=>179 | 129=>193 | 317=>212 | 318=>213 | 319=>214 | 320=>215 | 337=>231 | 338=>232 | n=>n,fun | 9=>9 | 3=>3 | 75=>147 | 76=>148 | 4=>4 | 5=>5 | 167=>228 | 37=>103 | 0=>0 | 85=>229 | 2=>2 | 168=>231 | 53=>189 | 175=>241 | 46=>163 | 210=>245 | 127=>153 | 145=>253 | 143=>251 | 21=>21 | 171=>188 | 173=>192 | 212=>219 | 51=>204 | 20=>20 | 213=>220 | 232=>247 | 233=>248 | 80=>109 | n=>n,fun | 15=>4 | 16=>5 | 17=>0 | 18=>6 | 19=>7 | n=>n⟩
theorem Tryz.laysC172:Go.Proofs.LaysC.n172 Tryz.prog Tryz.laysC172_ren:={
 mixed:=by kernel_rfl
 f129:=Tryz.func193.trans (congrArg some (by kernel_rfl))
 f171:=Tryz.func38.trans (congrArg some (by kernel_rfl))
 f172:=Tryz.func159.trans (congrArg some (by kernel_rfl))
 f205:=Tryz.func238.trans (congrArg some (by kernel_rfl))
 f243:=Tryz.func86.trans (congrArg some (by kernel_rfl))
 f244:=Tryz.func197.trans (congrArg some (by kernel_rfl))
 f245:=Tryz.func198.trans (congrArg some (by kernel_rfl))
 f246:=Tryz.func138.trans (congrArg some (by kernel_rfl))
 f247:=Tryz.func223.trans (congrArg some (by kernel_rfl))
 f279:=Tryz.func224.trans (congrArg some (by kernel_rfl))
 f280:=Tryz.func225.trans (congrArg some (by kernel_rfl))
 f281:=Tryz.func226.trans (congrArg some (by kernel_rfl))
 f282:=Tryz.func227.trans (congrArg some (by kernel_rfl))
 f283:=Tryz.func176.trans (congrArg some (by kernel_rfl))
 f284:=Tryz.func177.trans (congrArg some (by kernel_rfl))
 f285:=Tryz.func178.trans (congrArg some (by kernel_rfl))
 f286:=Tryz.func179.trans (congrArg some (by kernel_rfl))
 f287:=Tryz.func236.trans (congrArg some (by kernel_rfl))
 f316:=Tryz.func237.trans (congrArg some (by kernel_rfl))
 f317:=Tryz.func212.trans (congrArg some (by kernel_rfl))
 f318:=Tryz.func213.trans (congrArg some (by kernel_rfl))
 f319:=Tryz.func214.trans (congrArg some (by kernel_rfl))
 f320:=Tryz.func215.trans (congrArg some (by kernel_rfl))
 f321:=Tryz.func241.trans (congrArg some (by kernel_rfl))
 f322:=Tryz.func242.trans (congrArg some (by kernel_rfl))
 f337:=Tryz.func231.trans (congrArg some (by kernel_rfl))
 f338:=Tryz.func232.trans (congrArg some (by kernel_rfl))
 t0:=Tryz.underlying0
 a0:=Tryz.isAgg0
 z0:=Tryz.sizeOf0
 v0:=Tryz.zeroValue0
 t2:=Tryz.underlying2
 a2:=Tryz.isAgg2
 z2:=Tryz.sizeOf2
 v2:=Tryz.zeroValue2
 t3:=Tryz.underlying3
 a3:=Tryz.isAgg3
 z3:=Tryz.sizeOf3
 v3:=Tryz.zeroValue3
 t4:=Tryz.underlying4
 a4:=Tryz.isAgg4
 z4:=Tryz.sizeOf4
 v4:=Tryz.zeroValue4
 t5:=Tryz.underlying5
 a5:=Tryz.isAgg5
 z5:=Tryz.sizeOf5
 v5:=Tryz.zeroValue5
 t9:=Tryz.underlying9
 a9:=Tryz.isAgg9
 z9:=Tryz.sizeOf9
 v9:=Tryz.zeroValue9
 t20:=Tryz.underlying20
 a20:=Tryz.isAgg20
 z20:=Tryz.sizeOf20
 v20:=Tryz.zeroValue20
 t21:=Tryz.underlying21
 a21:=Tryz.isAgg21
 z21:=Tryz.sizeOf21
 v21:=Tryz.zeroValue21
 t37:=Tryz.underlying103
 a37:=Tryz.isAgg103
 z37:=Tryz.sizeOf103
 v37:=Tryz.zeroValue103
 t46:=Tryz.underlying163
 a46:=Tryz.isAgg163
 z46:=Tryz.sizeOf163
 v46:=Tryz.zeroValue163
 t51:=Tryz.underlying204
 a51:=Tryz.isAgg204
 z51:=Tryz.sizeOf204
 v51:=Tryz.zeroValue204
 t53:=Tryz.underlying189
 a53:=Tryz.isAgg189
 z53:=Tryz.sizeOf189
 v53:=Tryz.zeroValue189
 t75:=Tryz.underlying147
 a75:=Tryz.isAgg147
 z75:=Tryz.sizeOf147
 v75:=Tryz.zeroValue147
 t76:=Tryz.underlying148
 a76:=Tryz.isAgg148
 z76:=Tryz.sizeOf148
 v76:=Tryz.zeroValue148
 t85:=Tryz.underlying229
 a85:=Tryz.isAgg229
 z85:=Tryz.sizeOf229
 v85:=Tryz.zeroValue229
 t127:=Tryz.underlying153
 a127:=Tryz.isAgg153
 z127:=Tryz.sizeOf153
 v127:=Tryz.zeroValue153
 t143:=Tryz.underlying251
 a143:=Tryz.isAgg251
 z143:=Tryz.sizeOf251
 v143:=Tryz.zeroValue251
 t145:=Tryz.underlying253
 a145:=Tryz.isAgg253
 z145:=Tryz.sizeOf253
 v145:=Tryz.zeroValue253
 t167:=Tryz.underlying228
 a167:=Tryz.isAgg228
 z167:=Tryz.sizeOf228
 v167:=Tryz.zeroValue228
 t168:=Tryz.underlying231
 a168:=Tryz.isAgg231
 z168:=Tryz.sizeOf231
 v168:=Tryz.zeroValue231
 t171:=Tryz.underlying188
 a171:=Tryz.isAgg188
 z171:=Tryz.sizeOf188
 v171:=Tryz.zeroValue188
 t173:=Tryz.underlying192
 a173:=Tryz.isAgg192
 z173:=Tryz.sizeOf192
 v173:=Tryz.zeroValue192
 t175:=Tryz.underlying241
 a175:=Tryz.isAgg241
 z175:=Tryz.sizeOf241
 v175:=Tryz.zeroValue241
 t210:=Tryz.underlying245
 a210:=Tryz.isAgg245
 z210:=Tryz.sizeOf245
 v210:=Tryz.zeroValue245
 t212:=Tryz.underlying219
 a212:=Tryz.isAgg219
 z212:=Tryz.sizeOf219
 v212:=Tryz.zeroValue219
 t213:=Tryz.underlying220
 a213:=Tryz.isAgg220
 z213:=Tryz.sizeOf220
 t232:=Tryz.underlying247
 a232:=Tryz.isAgg247
 z232:=Tryz.sizeOf247
 v232:=Tryz.zeroValue247
 t233:=Tryz.underlying248
 a233:=Tryz.isAgg248
 z233:=Tryz.sizeOf248
 v233:=Tryz.zeroValue248
 g15:=by kernel_rfl
 g16:=by kernel_rfl
 g17:=by kernel_rfl
 g18:=by kernel_rfl
 g19:=by kernel_rfl
 t80:=Tryz.underlying109
 a80:=Tryz.isAgg109
 z80:=Tryz.sizeOf109
 v80:=Tryz.zeroValue109
 i0:=by kernel_rfl
 i2:=by kernel_rfl
 i3:=by kernel_rfl
 i4:=by kernel_rfl
 i5:=by kernel_rfl
 i9:=by kernel_rfl
 i20:=by kernel_rfl
 i21:=by kernel_rfl
 i37:=by kernel_rfl
 i46:=by kernel_rfl
 i51:=by kernel_rfl
 i53:=by kernel_rfl
 i75:=by kernel_rfl
 i76:=by kernel_rfl
 i80:=by kernel_rfl
 i85:=by kernel_rfl
 i127:=by kernel_rfl
 i143:=by kernel_rfl
 i145:=by kernel_rfl
 i167:=by kernel_rfl
 i168:=by kernel_rfl
 i171:=by kernel_rfl
 i173:=by kernel_rfl
 i175:=by kernel_rfl
 i210:=by kernel_rfl
 i212:=by kernel_rfl
 i232:=by kernel_rfl
 i233:=by kernel_rfl
 m15:=by kernel_rfl
 m16:=by kernel_rfl
 m17:=by kernel_rfl
 m18:=by kernel_rfl
 m19:=by kernel_rfl
 c0:=by kernel_rfl
 c2:=by kernel_rfl
 c3:=by kernel_rfl
 c4:=by kernel_rfl
 c5:=by kernel_rfl
 c9:=by kernel_rfl
 c20:=by kernel_rfl
 c21:=by kernel_rfl
 c37:=by kernel_rfl
 c46:=by kernel_rfl
 c51:=by kernel_rfl
 c53:=by kernel_rfl
 c75:=by kernel_rfl
 c76:=by kernel_rfl
 c80:=by kernel_rfl
 c85:=by kernel_rfl
 c127:=by kernel_rfl
 c143:=by kernel_rfl
 c145:=by kernel_rfl
 c167:=by kernel_rfl
 c168:=by kernel_rfl
 c171:=by kernel_rfl
 c173:=by kernel_rfl
 c175:=by kernel_rfl
 c210:=by kernel_rfl
 c212:=by kernel_rfl
 c213:=by kernel_rfl
 c232:=by kernel_rfl
 c233:=by kernel_rfl }
open Go.RowKit in
theorem Tryz.strconv_Atoi_ok (s:ByteArray) (hmax:s.size≤9223372036854775806) (v:Int) (h:Lib.atoiAll s.data.toList=.ok v) (w:World):
  Calls Tryz.prog 159 #[.string s] w fun e w'=>e=.returned (.tuple #[.int .i64 v,.nilIface])∧(w'=w∨∃ t,w'=Lib.bytesWorld w 5 t):=Any.strconv_Atoi_ok Tryz.laysC172 s hmax v h w
open Go.RowKit in
theorem Tryz.strconv_Atoi_syntax (s:ByteArray) (hlim:s.size≤281474976710656) (h:Lib.atoiAll s.data.toList=Lib.atoiAll []) (ev:Value) (w:World) (hv:w.cell? ⟨4,0,none⟩=some ev) (hev:ev=.nilIface∨∃ te pe,ev=.iface te pe):
  Calls Tryz.prog 159 #[.string s] w fun e w'=>∃ N,e=.returned (.tuple #[.int .i64 (0),.iface 231 (.pointer (some ⟨N,0,none⟩))])∧w.heap.size≤N∧w'.heap[N]?=some (.cells #[.string ⟨#[65,116,111,105]⟩,.string s,ev] 245 (0,0))∧Below w.heap.size w w':=Any.strconv_Atoi_syntax Tryz.laysC172 s hlim h ev w hv hev
open Go.RowKit in
theorem Tryz.strconv_Atoi_range (s:ByteArray) (hlim:s.size≤281474976710656) (h:Lib.atoiAll s.data.toList=.range) (ev:Value) (w:World) (hv:w.cell? ⟨5,0,none⟩=some ev) (hev:ev=.nilIface∨∃ te pe,ev=.iface te pe):
  Calls Tryz.prog 159 #[.string s] w fun e w'=>∃ N,e=.returned (.tuple #[.int .i64 (Lib.atoiSat s.data.toList),.iface 231 (.pointer (some ⟨N,0,none⟩))])∧w.heap.size≤N∧w'.heap[N]?=some (.cells #[.string ⟨#[65,116,111,105]⟩,.string s,ev] 245 (0,0))∧Below w.heap.size w w':=Any.strconv_Atoi_range Tryz.laysC172 s hlim h ev w hv hev
def Tryz.lays99_ren:Go.Shelf.Ren:=⟨fun | 99=>163 | 206=>199 | n=>n,fun | 9=>9 | 4=>4 | 3=>3 | n=>n,fun | n=>n⟩
theorem Tryz.lays99:Go.Proofs.Lays.n99 Tryz.prog Tryz.lays99_ren:={
 mixed:=by kernel_rfl
 f99:=Tryz.func163.trans (congrArg some (by kernel_rfl))
 f206:=Tryz.func199.trans (congrArg some (by kernel_rfl))
 t3:=Tryz.underlying3
 a3:=Tryz.isAgg3
 z3:=Tryz.sizeOf3
 v3:=Tryz.zeroValue3
 t4:=Tryz.underlying4
 a4:=Tryz.isAgg4
 z4:=Tryz.sizeOf4
 v4:=Tryz.zeroValue4
 t9:=Tryz.underlying9
 a9:=Tryz.isAgg9
 z9:=Tryz.sizeOf9
 v9:=Tryz.zeroValue9 }
open Go.RowKit Go.Lib in
theorem Tryz.strings_HasPrefix (s p:ByteArray) (w:World):
  Calls Tryz.prog 163 #[.string s,.string p] w fun e w'=>e=.returned (.bool (Lib.hasPrefix s.data.toList p.data.toList))∧w'=w:=Any.strings_HasPrefix Tryz.lays99 s p w
def Tryz.lays102_ren:Go.Shelf.Ren:=⟨fun | 102=>37 | 209=>85 | 207=>137 | n=>n,fun | 9=>9 | 4=>4 | 3=>3 | n=>n,fun | n=>n⟩
theorem Tryz.lays102:Go.Proofs.Lays.n102 Tryz.prog Tryz.lays102_ren:={
 mixed:=by kernel_rfl
 f102:=Tryz.func37.trans (congrArg some (by kernel_rfl))
 f207:=Tryz.func137.trans (congrArg some (by kernel_rfl))
 f209:=Tryz.func85.trans (congrArg some (by kernel_rfl))
 t3:=Tryz.underlying3
 a3:=Tryz.isAgg3
 z3:=Tryz.sizeOf3
 v3:=Tryz.zeroValue3
 t4:=Tryz.underlying4
 a4:=Tryz.isAgg4
 z4:=Tryz.sizeOf4
 v4:=Tryz.zeroValue4
 t9:=Tryz.underlying9
 a9:=Tryz.isAgg9
 z9:=Tryz.sizeOf9
 v9:=Tryz.zeroValue9 }
open Go.RowKit Go.Lib in
theorem Tryz.strings_TrimSuffix (s p:ByteArray) (w:World) (hs:s.size≤9223372036854775807):
  Calls Tryz.prog 37 #[.string s,.string p] w fun e w'=>e=.returned (.string ⟨(Lib.trimSuffix s.data.toList p.data.toList).toArray⟩)∧w'=w:=Any.strings_TrimSuffix Tryz.lays102 s p w hs
def Tryz.lays227_ren:Go.Shelf.Ren:=⟨fun | 227=>82 | n=>n,fun | 9=>9 | 116=>113 | 4=>4 | 0=>0 | 3=>3 | 5=>5 | n=>n,fun | n=>n⟩
theorem Tryz.lays227:Go.Proofs.Lays.n227 Tryz.prog Tryz.lays227_ren:={
 mixed:=by kernel_rfl
 f227:=Tryz.func82.trans (congrArg some (by kernel_rfl))
 t0:=Tryz.underlying0
 a0:=Tryz.isAgg0
 z0:=Tryz.sizeOf0
 v0:=Tryz.zeroValue0
 t3:=Tryz.underlying3
 a3:=Tryz.isAgg3
 z3:=Tryz.sizeOf3
 v3:=Tryz.zeroValue3
 t4:=Tryz.underlying4
 a4:=Tryz.isAgg4
 z4:=Tryz.sizeOf4
 v4:=Tryz.zeroValue4
 t5:=Tryz.underlying5
 a5:=Tryz.isAgg5
 z5:=Tryz.sizeOf5
 v5:=Tryz.zeroValue5
 t9:=Tryz.underlying9
 a9:=Tryz.isAgg9
 z9:=Tryz.sizeOf9
 v9:=Tryz.zeroValue9
 t116:=Tryz.underlying113
 a116:=Tryz.isAgg113
 z116:=Tryz.sizeOf113 }
open Go.RowKit Go.Lib in
theorem Tryz.strings_makeASCIISet (hv116:∀ w,(zeroValue 113).run Tryz.prog w=.ok (.agg (Array.replicate 256 (.bool false))) w) (chars:ByteArray) (w:World) (hs:chars.size<4294967281) (hascii:∀ (j:Nat) b,chars.data.toList[j]?=some b→b.toNat<128):
  Calls Tryz.prog 82 #[.string chars] w fun e w'=>e=.returned (.tuple #[.agg (Lib.setCells chars.data.toList),.bool true])∧w'=w.alloc (.cells (Lib.setCells chars.data.toList) 113):=Any.strings_makeASCIISet Tryz.lays227 hv116 (by kernel_rfl) chars w hs hascii
def Tryz.lays228_ren:Go.Shelf.Ren:=⟨fun | 228=>134 | n=>n,fun | 124=>117 | 5=>5 | 4=>4 | 0=>0 | 116=>113 | n=>n,fun | n=>n⟩
theorem Tryz.lays228:Go.Proofs.Lays.n228 Tryz.prog Tryz.lays228_ren:={
 mixed:=by kernel_rfl
 f228:=Tryz.func134.trans (congrArg some (by kernel_rfl))
 t0:=Tryz.underlying0
 a0:=Tryz.isAgg0
 z0:=Tryz.sizeOf0
 v0:=Tryz.zeroValue0
 t4:=Tryz.underlying4
 a4:=Tryz.isAgg4
 z4:=Tryz.sizeOf4
 v4:=Tryz.zeroValue4
 t5:=Tryz.underlying5
 a5:=Tryz.isAgg5
 z5:=Tryz.sizeOf5
 v5:=Tryz.zeroValue5
 t116:=Tryz.underlying113
 a116:=Tryz.isAgg113
 z116:=Tryz.sizeOf113
 t124:=Tryz.underlying117
 a124:=Tryz.isAgg117
 z124:=Tryz.sizeOf117
 v124:=Tryz.zeroValue117 }
open Go.RowKit Go.Lib in
theorem Tryz.asciiSet_contains (b:Nat) (x:UInt8) (v:Bool) (w:World) (hc:w.cell? ⟨b,x.toNat,none⟩=some (.bool v)):
  Calls Tryz.prog 134 #[.pointer (some ⟨b,0,none⟩),.int .u8 x.toNat] w fun e w'=>e=.returned (.bool v)∧w'=w:=Any.asciiSet_contains Tryz.lays228 b x v w hc
def Tryz.lays108_ren:Go.Shelf.Ren:=⟨fun | 108=>170 | n=>n,fun | 28=>52 | 3=>3 | 0=>0 | 4=>4 | n=>n,fun | n=>n⟩
theorem Tryz.lays108:Go.Proofs.Lays.n108 Tryz.prog Tryz.lays108_ren:={
 mixed:=by kernel_rfl
 f108:=Tryz.func170.trans (congrArg some (by kernel_rfl))
 t0:=Tryz.underlying0
 a0:=Tryz.isAgg0
 z0:=Tryz.sizeOf0
 v0:=Tryz.zeroValue0
 t3:=Tryz.underlying3
 a3:=Tryz.isAgg3
 z3:=Tryz.sizeOf3
 v3:=Tryz.zeroValue3
 t4:=Tryz.underlying4
 a4:=Tryz.isAgg4
 z4:=Tryz.sizeOf4
 v4:=Tryz.zeroValue4
 t28:=Tryz.underlying52
 a28:=Tryz.isAgg52
 z28:=Tryz.sizeOf52
 v28:=Tryz.zeroValue52 }
open Go.Lib in
theorem Tryz.slices_Index_int (b off n c:Nat) (zs:List Int) (x:Int) (w:World) (hz:n≤zs.length) (hbig:n≤9223372036854775807) (hc:∀ j,j<zs.length→w.cell? ⟨b,off+j,none⟩=some (.int .i64 (zs.getD j 0))):
  Calls Tryz.prog 170 #[.slice (some ⟨b,off,none⟩) n c,.int .i64 x] w fun e w'=>e=.returned (.int .i64 (Lib.idxOf (zs.take n) x))∧w'=w:=Any.slices_Index_int Tryz.lays108 b off n c zs x w hz hbig hc
open Go.Lib in
theorem Tryz.slices_Index_int_empty (a:Option Addr) (c:Nat) (x:Int) (w:World):
  Calls Tryz.prog 170 #[.slice a 0 c,.int .i64 x] w fun e w'=>e=.returned (.int .i64 (Lib.idxOf [] x))∧w'=w:=Any.slices_Index_int_empty Tryz.lays108 a c x w
def Tryz.lays110_ren:Go.Shelf.Ren:=⟨fun | 110=>35 | 109=>80 | n=>n,fun | 31=>28 | 9=>9 | 4=>4 | 3=>3 | 0=>0 | n=>n,fun | n=>n⟩
theorem Tryz.lays110:Go.Proofs.Lays.n110 Tryz.prog Tryz.lays110_ren:={
 mixed:=by kernel_rfl
 f109:=Tryz.func80.trans (congrArg some (by kernel_rfl))
 f110:=Tryz.func35.trans (congrArg some (by kernel_rfl))
 t0:=Tryz.underlying0
 a0:=Tryz.isAgg0
 z0:=Tryz.sizeOf0
 v0:=Tryz.zeroValue0
 t3:=Tryz.underlying3
 a3:=Tryz.isAgg3
 z3:=Tryz.sizeOf3
 v3:=Tryz.zeroValue3
 t4:=Tryz.underlying4
 a4:=Tryz.isAgg4
 z4:=Tryz.sizeOf4
 v4:=Tryz.zeroValue4
 t9:=Tryz.underlying9
 a9:=Tryz.isAgg9
 z9:=Tryz.sizeOf9
 v9:=Tryz.zeroValue9
 t31:=Tryz.underlying28
 a31:=Tryz.isAgg28
 z31:=Tryz.sizeOf28
 v31:=Tryz.zeroValue28 }
open Go.Lib in
theorem Tryz.slices_Contains_string (b off n c:Nat) (zs:List ByteArray) (x:ByteArray) (w:World) (hz:n≤zs.length) (hbig:n≤9223372036854775807) (hc:∀ j,j<zs.length→w.cell? ⟨b,off+j,none⟩=some (.string (zs.getD j ByteArray.empty))):
  Calls Tryz.prog 35 #[.slice (some ⟨b,off,none⟩) n c,.string x] w fun e w'=>e=.returned (.bool (Lib.containsS (zs.take n) x))∧w'=w:=Any.slices_Contains_string Tryz.lays110 b off n c zs x w hz hbig hc
open Go.Lib in
theorem Tryz.slices_Contains_string_empty (a:Option Addr) (c:Nat) (x:ByteArray) (w:World):
  Calls Tryz.prog 35 #[.slice a 0 c,.string x] w fun e w'=>e=.returned (.bool false)∧w'=w:=Any.slices_Contains_string_empty Tryz.lays110 a c x w
end Go.Proofs
namespace Go.Proofs.YtdmebjbkccjhbaaGreatDoor
open Go.RowKit
theorem adv1_any (x s:ByteArray) (b pb fb fr:Nat) (w:World) (hp:w.cell? ⟨pb,0,none⟩=some (.pointer (some ⟨b,0,none⟩)))
  (h0:w.cell? ⟨b,0,none⟩=some (.string s)) (hf:w.cell? ⟨fb,0,none⟩=some (.int .i64 fr)) (hfs:fr≤s.size) (_hs:s.size≤9223372036854775807):
  Calls Tryz.prog 162 #[.string x,.pointer (some ⟨pb,0,none⟩),.pointer (some ⟨fb,0,none⟩)] w fun e w'=>
   e=.returned (.bool (Lib.hasPrefix (s.data.toList.drop fr) x.data.toList))∧∃ n,w.drewN n=w':=by
 have i1:(0:Int)≤(fr:Int):=by omega
 have i2:(fr:Int)≤(s.size:Int):=by omega
 go_enter Tryz.func162,Tryz.ntmps162
 go_wp2_with fail
 go_quiet ((go_at_call 163;exact Calls.quiet_of_same (Tryz.strings_HasPrefix _ _ _)))
 go_wp2_with fail
 go_ret
 exact⟨by rw[← Lib.extract_to_end];rfl,nq,rfl⟩
def signs:List ByteArray:=[⟨#[60,61,62]⟩,⟨#[62,45,62,62]⟩,⟨#[60,60,124]⟩,⟨#[124,62,62]⟩,⟨#[124,45,62]⟩,⟨#[60,45,62]⟩,⟨#[43,45,62]⟩,⟨#[45,45,62]⟩,⟨#[62,45,62]⟩,⟨#[61,62]⟩,⟨#[47,61]⟩,⟨#[60,61]⟩,⟨#[62,61]⟩,⟨#[46,46]⟩,⟨#[92,47]⟩,⟨#[47,92]⟩,⟨#[62,60]⟩,⟨#[60,43]⟩,⟨#[60,124]⟩,⟨#[124,62]⟩,⟨#[38]⟩,⟨#[61]⟩,⟨#[60]⟩,⟨#[62]⟩,⟨#[43]⟩,⟨#[45]⟩,⟨#[42]⟩,⟨#[47]⟩,⟨#[92]⟩,⟨#[59]⟩,⟨#[126]⟩,⟨#[46]⟩,⟨#[44]⟩,⟨#[124]⟩,⟨#[40]⟩,⟨#[41]⟩,⟨#[91]⟩,⟨#[93]⟩,⟨#[123]⟩,⟨#[125]⟩]
theorem signs_any (w:World):Calls Tryz.prog 161 #[] w fun e w'=>
  e=.returned (.slice (some ⟨w.heap.size,0,none⟩) 40 40)∧w'=w.alloc (.cells (signs.map Value.string).toArray 9):=by
 go_enter Tryz.func161,Tryz.ntmps161
 go_wp2_with fail
 go_ret
 exact⟨rfl,rfl⟩
def sIdx (l:List UInt8) (xs:List ByteArray):Int:=match xs.findIdx? (fun x=>Lib.hasPrefix l x.data.toList) with | some i=>(i:Int) | none=>-1
theorem sIdx_at (l:List UInt8) (xs:List ByteArray) (k:Nat) (hk:k<xs.length) (hno:∀ j (h:j<k),Lib.hasPrefix l (xs[j]'(by omega)).data.toList=false) (hy:Lib.hasPrefix l xs[k].data.toList=true):sIdx l xs=k:=by
 unfold sIdx
 have:xs.findIdx? (fun x=>Lib.hasPrefix l x.data.toList)=some k:=by
  rw[List.findIdx?_eq_some_iff_getElem]
  exact⟨hk,hy,fun j hj=>by simpa using hno j hj⟩
 rw[this]
theorem sIdx_none (l:List UInt8) (xs:List ByteArray) (hno:∀ j (h:j<xs.length),Lib.hasPrefix l xs[j].data.toList=false):sIdx l xs=-1:=by
 unfold sIdx
 have:xs.findIdx? (fun x=>Lib.hasPrefix l x.data.toList)=none:=by
  rw[List.findIdx?_eq_none_iff]
  intro x hx
  obtain⟨j,hj,rfl⟩:=List.getElem_of_mem hx
  exact hno j hj
 rw[this]
theorem idxSign_any (xs:List ByteArray) (s:ByteArray) (g b pb fb fr cap:Nat) (w:World) (hx:∀ i (h:i<xs.length),w.cell? ⟨g,i,none⟩=some (.string xs[i])) (hl:xs.length≤1000)
  (hp:w.cell? ⟨pb,0,none⟩=some (.pointer (some ⟨b,0,none⟩)))
  (h0:w.cell? ⟨b,0,none⟩=some (.string s)) (hf:w.cell? ⟨fb,0,none⟩=some (.int .i64 fr)) (hfs:fr≤s.size) (hs:s.size≤9223372036854775807):
  Calls Tryz.prog 160 #[.slice (some ⟨g,0,none⟩) xs.length cap,.func (.func 162) #[] #[.pointer (some ⟨pb,0,none⟩),.pointer (some ⟨fb,0,none⟩)]] w fun e w'=>
   e=.returned (.int .i64 (sIdx (s.data.toList.drop fr) xs))∧∃ n,w.drewN n=w':=by
 have HX:=Ld hx
 clear hx
 go_enter Tryz.func160,Tryz.ntmps160
 go_wp2_with fail
 go_loopw [8] (fun i wr=>∃ k n:Nat,k≤xs.length∧i=.int .i64 k∧w.drewN n=wr∧Hid (∀ j (h:j<k) (h':j<xs.length),Lib.hasPrefix (s.data.toList.drop fr) xs[j].data.toList=false)) (fun i _=>xs.length-(intOf i).toNat)
 case atStart=>exact⟨0,0,Nat.zero_le _,rfl,rfl,Ld (fun j h=>by omega)⟩
 case round=>
  obtain⟨k,n,hk,rfl,rfl,hno⟩:=hrel
  by_cases hlt:k<xs.length
  ·have hc:=HX.out k hlt
   have i1:(k:Int)<(xs.length:Int):=by omega
   cases hy:Lib.hasPrefix (s.data.toList.drop fr) xs[k].data.toList
   ·have hno':Hid (∀ j (h:j<k+1) (h':j<xs.length),Lib.hasPrefix (s.data.toList.drop fr) xs[j].data.toList=false):=Ld (fun j h h'=>by
     rcases Nat.lt_succ_iff_lt_or_eq.1 h with h | rfl
     ·exact hno.out j h h'
     ·exact hy)
    go_wp2_with (go_at_call 162;refine (adv1_any xs[k] s b pb fb fr _ (by exact hp) (by exact h0) (by exact hf) hfs hs).mono ?_;rintro e w' ⟨rfl,m,rfl⟩)
    go_roundw
    case rel=>exact⟨k+1,n+m,by omega,by go_num,rfl,hno'⟩
    case measure=>simp[intOf];omega
   ·have hi:=Ld (sIdx_at _ xs k hlt (fun j h=>hno.out j h (by omega)) hy)
    go_wp2_with (go_at_call 162;refine (adv1_any xs[k] s b pb fb fr _ (by exact hp) (by exact h0) (by exact hf) hfs hs).mono ?_;rintro e w' ⟨rfl,m,rfl⟩)
    go_ret
    exact⟨by rw[hi.out];rfl,n+m,rfl⟩
  ·go_wp2_with fail
   go_ret
   exact⟨by rw[sIdx_none _ _ (fun j h=>hno.out j (by omega) h)];rfl,n,rfl⟩
def allW (l:List UInt8):Bool:=l.all fun c=>inWordB c.toNat
def identB (s:ByteArray):Bool:=decide (0<s.size)&&decide (s.size≤16)&&letterB (s.data.toList.headD 0).toNat&&!keywordB s&&allW s.data.toList
theorem empty_iff (s:ByteArray):s.toList.isEmpty=!decide (0<s.size):=by
 rw[Go.ByteArray.toList_eq];obtain⟨⟨l⟩⟩:=s;cases l <;> simp[ByteArray.size]
theorem head_of (s:ByteArray) (h:0<s.size):s.data.toList.headD 0=s[0]:=by
 obtain⟨⟨l⟩⟩:=s
 cases l with
 | nil=>simp[ByteArray.size] at h
 | cons a t=>rfl
theorem take_snoc (s:ByteArray) (k:Nat) (h:k<s.size):s.data.toList.take (k+1)=s.data.toList.take k++[s[k]]:=by
 rw[List.take_succ_eq_append_getElem (by simpa using h)];rfl
theorem allW_snoc (l:List UInt8) (c:UInt8):allW (l++[c])=(allW l&&inWordB c.toNat):=by
 simp[allW]
theorem allW_false (s:ByteArray) (k:Nat) (h:k<s.size) (hc:inWordB s[k].toNat=false):allW s.data.toList=false:=by
 have e:s.data.toList=s.data.toList.take (k+1)++s.data.toList.drop (k+1):=(List.take_append_drop _ _).symm
 rw[e,take_snoc s k h];simp only[allW,List.all_append,List.all_cons,List.all_nil,hc];simp
theorem ident_any (s:ByteArray) (w:World) (hs:s.size≤9223372036854775807):
  Calls Tryz.prog 79 #[.string s] w fun e w'=>e=.returned (.bool (identB s))∧w=w':=by
 by_cases h0:0<s.size
 case neg=>
  have h1:s.toList.isEmpty=true:=by rw[empty_iff,decide_eq_false h0];rfl
  have hk:=Ld (show identB s=false by unfold identB;rw[decide_eq_false h0];rfl)
  clear h0
  go_enter Tryz.func79,Tryz.ntmps79
  go_wp2_with fail
  go_ret
  exact⟨by rw[hk.out];rfl,rfl⟩
 have h1:s.toList.isEmpty=false:=by rw[empty_iff,decide_eq_true h0];rfl
 by_cases h16:s.size≤16
 case neg=>
  have hd:decide (16<(s.size:Int))=true:=by simp;omega
  have hk:=Ld (show identB s=false by unfold identB;rw[decide_eq_false h16];simp)
  clear h16
  go_enter Tryz.func79,Tryz.ntmps79
  go_wp2_with fail
  go_ret
  exact⟨by rw[hk.out];rfl,rfl⟩
 have hd:decide (16<(s.size:Int))=false:=by simp;omega
 have hh:=head_of s h0
 cases hl:letterB (s[0].toNat)
 case false=>
  have hk:=Ld (show identB s=false by unfold identB;rw[hh,hl];simp)
  clear hh
  go_enter Tryz.func79,Tryz.ntmps79
  go_wp2_with (first | (go_at_call 132;refine (letter_any _ _).mono ?_;rintro e w' ⟨rfl,rfl⟩) | (go_at_call 39;refine (keyword_any _ _).mono ?_;rintro e w' ⟨rfl,rfl⟩))
  go_ret
  exact⟨by rw[hk.out];rfl,rfl⟩
 cases hkw:keywordB s
 case true=>
  have hk:=Ld (show identB s=false by unfold identB;rw[hkw];simp)
  clear hh
  go_enter Tryz.func79,Tryz.ntmps79
  go_wp2_with (first | (go_at_call 132;refine (letter_any _ _).mono ?_;rintro e w' ⟨rfl,rfl⟩) | (go_at_call 39;refine (keyword_any _ _).mono ?_;rintro e w' ⟨rfl,rfl⟩))
  go_ret
  exact⟨by rw[hk.out];rfl,rfl⟩
 have hk:=Ld (show identB s=allW s.data.toList by unfold identB;rw[hh,hl,hkw,decide_eq_true h0,decide_eq_true h16];simp)
 clear hh
 go_enter Tryz.func79,Tryz.ntmps79
 go_wp2_with (first | (go_at_call 132;refine (letter_any _ _).mono ?_;rintro e w' ⟨rfl,rfl⟩) | (go_at_call 39;refine (keyword_any _ _).mono ?_;rintro e w' ⟨rfl,rfl⟩))
 go_loop [23] (fun i=>∃ k:Nat,k≤s.size∧i=.int .i64 k∧Hid (allW (s.data.toList.take k)=true)) (fun i=>s.size-(intOf i).toNat)
 case atStart=>exact⟨0,Nat.zero_le _,rfl,Ld (by simp[allW])⟩
 case round=>
  obtain⟨k,hks,rfl,hall⟩:=hrel
  by_cases hlt:k<s.size
  ·cases hw:inWordB s[k].toNat
   ·have hf:=Ld (allW_false s k hlt hw)
    go_wp2_with (go_at_call 133;refine (inWord_any _ _).mono ?_;rintro e w' ⟨rfl,rfl⟩)
    go_ret
    exact⟨by rw[hk.out,hf.out];rfl,rfl⟩
   ·have hall':Hid (allW (s.data.toList.take (k+1))=true):=Ld (by rw[take_snoc s k hlt,allW_snoc,hall.out,hw];rfl)
    go_wp2_with (go_at_call 133;refine (inWord_any _ _).mono ?_;rintro e w' ⟨rfl,rfl⟩)
    go_round
    case rel=>exact⟨k+1,by omega,by go_num,hall'⟩
    case measure=>simp[intOf];omega
  ·have hf:Hid (allW s.data.toList=true):=by
    have h:=hall.out
    rw[List.take_of_length_le (by simp;omega)] at h
    exact Ld h
   go_wp2_with fail
   go_ret
   exact⟨by rw[hk.out,hf.out];rfl,rfl⟩
end Go.Proofs.YtdmebjbkccjhbaaGreatDoor
