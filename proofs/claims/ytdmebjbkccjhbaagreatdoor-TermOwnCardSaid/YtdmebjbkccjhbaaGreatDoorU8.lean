/- A part. -/
import Derived.Test.YtdmebjbkccjhbaaGreatDoorU7
set_option linter.unusedVariables false
set_option linter.unusedSimpArgs false
set_option maxRecDepth 100000
set_option maxHeartbeats 32000000
namespace Go.Proofs.YtdmebjbkccjhbaaGreatDoor
open Go.RowKit
variable {bz:Nat}
def big:Nat:=9223372036854775807
theorem typeFits_any {m most deep:Nat} {t:Ty} (hmo:most≤100000) (hdp:deep≤1000) (h:SmTy big t):TyC bz m most deep t:=by
 induction h with
 | mk hn hl ih=>exact typeFits_one hmo hdp hn ih
def validTyB (t:Ty):Bool:=(tfS 16 6 t 1 false 0).1
theorem validTy_any {ok:Nat→Prop} {w:World} {t:Ty} {a:Option Addr} {n c:Nat} (hk:TyL bz ok w t.kids (.slice a n c)) (hs:SmTy big t):
  Calls Tryz.prog 181 #[.agg #[.int .i64 t.kind,.string t.name,.slice a n c]] w fun e w'=>e=.returned (.bool (validTyB t))∧Kept (fun _=>False) w w':=by
 have hC:=Ld (typeFits_any (bz:=bz) (m:=w.heap.size+1) (most:=16) (deep:=6) (t:=t) (by decide) (by decide) hs)
 have hb:Blk ((w.alloc (.cells #[.int .i64 t.kind,.string t.name,.slice a n c] 24)).alloc (.cells #[.int .i64 0,.int .i64 16,.int .i64 6] 119)) (w.heap.size+1) 119 (mcells 0 16 6):=Blk.new' 119 _ (by simp)
 have hk2:=((hk.frame (Same.alloc w (.cells #[.int .i64 t.kind,.string t.name,.slice a n c] 24))).frame (Same.alloc _ (.cells #[.int .i64 0,.int .i64 16,.int .i64 6] 119)))
 have hk3:TyL bz (fun k=>k≠w.heap.size+1) ((w.alloc (.cells #[.int .i64 t.kind,.string t.name,.slice a n c] 24)).alloc (.cells #[.int .i64 0,.int .i64 16,.int .i64 6] 119)) t.kids (.slice a n c):=
  ((hk.mono (ok':=fun k=>k≠w.heap.size+1) (fun k h _=>by omega)).frame (Same.alloc w _)).frame (Same.alloc _ _)
 have K2:Kept (fun _=>False) w ((w.alloc (.cells #[.int .i64 t.kind,.string t.name,.slice a n c] 24)).alloc (.cells #[.int .i64 0,.int .i64 16,.int .i64 6] 119)):=(kR.alloc _).alloc _
 go_enter Tryz.func181,Tryz.ntmps181
 go_wp2_with fail
 refine (hC.out _ 0 1 false _ hb (by decide) (by decide) hk3).mono ?_
 rintro e w' ⟨rfl,h1,h2⟩
 go_wp2_with fail
 go_ret
 exact⟨rfl,K2.via h2 (fun x hx e=>by have:=e;omega)⟩
def nmOk (op:Int) (nm:ByteArray):Bool:=if op=20 then namedB nm else if binderB op=true then identB nm else (nm.toList==[])
def nOk (op N:Int):Bool:=if op=19 then decide (0≤N)&&decide (N≤1000000000) else (N==0)
def tyOk (op:Int) (ty:Ty):Bool:=if op=29 then !(ty.kind==2)&&validTyB ty else zeroTyB ty
def kidOk (op:Int) (n:Nat):Bool:=(kidsN op).2&&(if (kidsN op).1=-1 then !decide (n=0) else decide ((n:Int)=(kidsN op).1))
def formedB (op:Int) (nm:ByteArray) (N:Int) (ty:Ty) (n:Nat):Bool:=kidOk op n&&(nmOk op nm&&nOk op N&&tyOk op ty)
theorem named_t {t:ByteArray} {v:Bool} (h:namedB t=v) (ht:t.size≤9223372036854775807) (w:World):Calls Tryz.prog 34 #[.string t] w fun e w'=>e=.returned (.bool v)∧w=w':=(named_any t w ht).mono fun _ _ q=>⟨by rw[← h];exact q.1,q.2⟩
theorem binder_t {op:Int} {v:Bool} (h:binderB op=v) (w:World):Calls Tryz.prog 100 #[.int .i64 op] w fun e w'=>e=.returned (.bool v)∧w=w':=(binder_any op w).mono fun _ _ q=>⟨by rw[← h];exact q.1,q.2⟩
theorem kids_t {op a:Int} {v:Bool} (h:kidsN op=(a,v)) (w:World):Calls Tryz.prog 180 #[.int .i64 op] w fun e w'=>e=.returned (.tuple #[.int .i64 a,.bool v])∧w=w':=(kids_any op w).mono fun _ _ q=>⟨by rw[q.1,h],q.2⟩
theorem zeroTy_t {ok:Nat→Prop} {w W:World} {t:Ty} {a:Option Addr} {n c:Nat} (hk:TyL bz ok W t.kids (.slice a n c)) {v:Bool} (hv:zeroTyB t=v):
  Calls Tryz.prog 182 #[.agg #[.int .i64 t.kind,.string t.name,.slice a n c]] w fun e w'=>e=.returned (.bool v)∧Kept (fun _=>False) w w':=by
 refine (zeroTy_any t.kind t.name a n c (v:=v) ?_).mono fun e w' ⟨h1,h2⟩=>⟨h1,by rw[h2];exact kR.alloc _⟩
 rw[← hv,hk.len]
 unfold zeroTyB
 cases t.kids <;> simp
theorem validTy_t {ok:Nat→Prop} {w:World} {t:Ty} {a:Option Addr} {n c:Nat} (hk:TyL bz ok w t.kids (.slice a n c)) (hs:SmTy big t) {v:Bool} (hv:validTyB t=v):
  Calls Tryz.prog 181 #[.agg #[.int .i64 t.kind,.string t.name,.slice a n c]] w fun e w'=>e=.returned (.bool v)∧Kept (fun _=>False) w w':=by rw[← hv];exact validTy_any hk hs
theorem formed_name {ok:Nat→Prop} {w:World} {nm:ByteArray} {N:Int} {ty:Ty} {a:Option Addr} {n c:Nat} {ma:Option Addr} {mn mc:Nat} (hk:TyL bz ok w ty.kids (.slice a n c)) (hs:SmTy big ty) (hsz:nm.size≤9223372036854775807) :Calls Tryz.prog 140 #[.agg #[.int .i64 20,.string nm,.int .i64 N,.int .i64 ty.kind,.string ty.name,.slice a n c,.slice ma mn mc]] w fun e w'=>e=.returned (.bool (formedB 20 nm N ty mn))∧Kept (fun _=>False) w w':=by
 have HKI:Hid (kidsN 20=(0,true)):=Ld rfl
 have HBI:Hid (binderB 20=false):=Ld rfl
 have KW:Kept (fun _=>False) w (w.alloc (.cells #[.int .i64 20,.string nm,.int .i64 N,.int .i64 ty.kind,.string ty.name,.slice a n c,.slice ma mn mc] 27)):=kR.alloc _
 have hkW:=hk.frame (Same.alloc w (.cells #[.int .i64 20,.string nm,.int .i64 N,.int .i64 ty.kind,.string ty.name,.slice a n c,.slice ma mn mc] 27))
 have HKW:=Ld hkW
 clear hkW
 by_cases hl:(mn:Int)=0
 case neg=>
  have hl1:decide ((mn:Int)=0)=false:=by simp;omega
  have hl2:((mn:Int)==0)=false:=by simp;omega
  have hl4:¬ mn=0:=by omega
  have HQ:Hid (formedB 20 nm N ty mn=false):=Ld (by unfold formedB kidOk nmOk nOk tyOk;rw[HKI.out];simp[*])
  go_enter Tryz.func140,Tryz.ntmps140
  go_wp2_with (first | (go_at_call 180;refine cR (kids_t HKI.out _) ?_) | (go_at_call 34;refine cR (named_t hnm hsz _) ?_))
  go_ret
  exact⟨by rw[HQ.out];rfl,KW⟩
 have hl3:mn=0:=by omega
 subst hl3
 cases hnm:namedB nm
 case false=>
  have HQ:Hid (formedB 20 nm N ty 0=false):=Ld (by unfold formedB kidOk nmOk nOk tyOk;rw[HKI.out];simp[*,big])
  go_enter Tryz.func140,Tryz.ntmps140
  go_wp2_with (first | (go_at_call 180;refine cR (kids_t HKI.out _) ?_) | (go_at_call 34;refine cR (named_t hnm hsz _) ?_))
  go_ret
  exact⟨by rw[HQ.out];rfl,KW⟩
 cases hN:(N==0)
 case false=>
  have HQ:Hid (formedB 20 nm N ty 0=false):=Ld (by unfold formedB kidOk nmOk nOk tyOk;rw[HKI.out];simp[*])
  go_enter Tryz.func140,Tryz.ntmps140
  go_wp2_with (first | (go_at_call 180;refine cR (kids_t HKI.out _) ?_) | (go_at_call 34;refine cR (named_t hnm hsz _) ?_))
  go_ret
  exact⟨by rw[HQ.out];rfl,KW⟩
 cases hz:zeroTyB ty
 case false=>
  have HQ:Hid (formedB 20 nm N ty 0=false):=Ld (by unfold formedB kidOk nmOk nOk tyOk;rw[HKI.out];simp[*])
  have HZ:=Ld (fun W=>zeroTy_t (w:=W) HKW.out hz)
  clear hz
  go_enter Tryz.func140,Tryz.ntmps140
  go_wp2_with (first | (go_at_call 180;refine cR (kids_t HKI.out _) ?_) | (go_at_call 34;refine cR (named_t hnm hsz _) ?_))
  refine (HZ.out _).mono ?_
  rintro e w' ⟨rfl,h2⟩
  go_wp2_with fail
  go_ret
  exact⟨by rw[HQ.out];rfl,KW.trans h2⟩
 case true=>
  have HQ:Hid (formedB 20 nm N ty 0=true):=Ld (by unfold formedB kidOk nmOk nOk tyOk;rw[HKI.out];simp[*])
  have HZ:=Ld (fun W=>zeroTy_t (w:=W) HKW.out hz)
  clear hz
  go_enter Tryz.func140,Tryz.ntmps140
  go_wp2_with (first | (go_at_call 180;refine cR (kids_t HKI.out _) ?_) | (go_at_call 34;refine cR (named_t hnm hsz _) ?_))
  refine (HZ.out _).mono ?_
  rintro e w' ⟨rfl,h2⟩
  go_wp2_with fail
  go_ret
  exact⟨by rw[HQ.out];rfl,KW.trans h2⟩
theorem formed_int {ok:Nat→Prop} {w:World} {nm:ByteArray} {N:Int} {ty:Ty} {a:Option Addr} {n c:Nat} {ma:Option Addr} {mn mc:Nat} (hk:TyL bz ok w ty.kids (.slice a n c)) (hs:SmTy big ty) (hsz:nm.size≤9223372036854775807) :Calls Tryz.prog 140 #[.agg #[.int .i64 19,.string nm,.int .i64 N,.int .i64 ty.kind,.string ty.name,.slice a n c,.slice ma mn mc]] w fun e w'=>e=.returned (.bool (formedB 19 nm N ty mn))∧Kept (fun _=>False) w w':=by
 have HKI:Hid (kidsN 19=(0,true)):=Ld rfl
 have HBI:Hid (binderB 19=false):=Ld rfl
 have hb0:binderB 19=false:=rfl
 have KW:Kept (fun _=>False) w (w.alloc (.cells #[.int .i64 19,.string nm,.int .i64 N,.int .i64 ty.kind,.string ty.name,.slice a n c,.slice ma mn mc] 27)):=kR.alloc _
 have hkW:=hk.frame (Same.alloc w (.cells #[.int .i64 19,.string nm,.int .i64 N,.int .i64 ty.kind,.string ty.name,.slice a n c,.slice ma mn mc] 27))
 have HKW:=Ld hkW
 clear hkW
 by_cases hl:(mn:Int)=0
 case neg=>
  have hl1:decide ((mn:Int)=0)=false:=by simp;omega
  have hl2:((mn:Int)==0)=false:=by simp;omega
  have hl4:¬ mn=0:=by omega
  have HQ:Hid (formedB 19 nm N ty mn=false):=Ld (by unfold formedB kidOk nmOk nOk tyOk;rw[HKI.out];simp[*])
  go_enter Tryz.func140,Tryz.ntmps140
  go_wp2_with (first | (go_at_call 180;refine cR (kids_t HKI.out _) ?_) | (go_at_call 100;refine cR (binder_t HBI.out _) ?_) | (go_at_call 79;refine cR (ident_t' hnm hsz _) ?_))
  go_ret
  exact⟨by rw[HQ.out];rfl,KW⟩
 have hl3:mn=0:=by omega
 subst hl3
 cases hnm:(nm.toList==[])
 case false=>
  have HQ:Hid (formedB 19 nm N ty 0=false):=Ld (by unfold formedB kidOk nmOk nOk tyOk;rw[HKI.out];simp[*,big])
  go_enter Tryz.func140,Tryz.ntmps140
  go_wp2_with (first | (go_at_call 180;refine cR (kids_t HKI.out _) ?_) | (go_at_call 100;refine cR (binder_t HBI.out _) ?_) | (go_at_call 79;refine cR (ident_t' hnm hsz _) ?_))
  go_ret
  exact⟨by rw[HQ.out];rfl,KW⟩
 by_cases hN:0≤N
 case neg=>
  have hN1:decide (0≤N)=false:=by simp;omega
  have HQ:Hid (formedB 19 nm N ty 0=false):=Ld (by unfold formedB kidOk nmOk nOk tyOk;rw[HKI.out];simp[*])
  go_enter Tryz.func140,Tryz.ntmps140
  go_wp2_with (first | (go_at_call 180;refine cR (kids_t HKI.out _) ?_) | (go_at_call 100;refine cR (binder_t HBI.out _) ?_) | (go_at_call 79;refine cR (ident_t' hnm hsz _) ?_))
  go_ret
  exact⟨by rw[HQ.out];rfl,KW⟩
 by_cases hM:N≤1000000000
 case neg=>
  have hM1:decide (N≤1000000000)=false:=by simp;omega
  have HQ:Hid (formedB 19 nm N ty 0=false):=Ld (by unfold formedB kidOk nmOk nOk tyOk;rw[HKI.out];simp[*])
  go_enter Tryz.func140,Tryz.ntmps140
  go_wp2_with (first | (go_at_call 180;refine cR (kids_t HKI.out _) ?_) | (go_at_call 100;refine cR (binder_t HBI.out _) ?_) | (go_at_call 79;refine cR (ident_t' hnm hsz _) ?_))
  go_ret
  exact⟨by rw[HQ.out];rfl,KW⟩
 cases hz:zeroTyB ty
 case false=>
  have HQ:Hid (formedB 19 nm N ty 0=false):=Ld (by unfold formedB kidOk nmOk nOk tyOk;rw[HKI.out];simp[*])
  have HZ:=Ld (fun W=>zeroTy_t (w:=W) HKW.out hz)
  clear hz
  go_enter Tryz.func140,Tryz.ntmps140
  go_wp2_with (first | (go_at_call 180;refine cR (kids_t HKI.out _) ?_) | (go_at_call 100;refine cR (binder_t HBI.out _) ?_) | (go_at_call 79;refine cR (ident_t' hnm hsz _) ?_))
  refine (HZ.out _).mono ?_
  rintro e w' ⟨rfl,h2⟩
  go_wp2_with fail
  go_ret
  exact⟨by rw[HQ.out];rfl,KW.trans h2⟩
 case true=>
  have HQ:Hid (formedB 19 nm N ty 0=true):=Ld (by unfold formedB kidOk nmOk nOk tyOk;rw[HKI.out];simp[*])
  have HZ:=Ld (fun W=>zeroTy_t (w:=W) HKW.out hz)
  clear hz
  go_enter Tryz.func140,Tryz.ntmps140
  go_wp2_with (first | (go_at_call 180;refine cR (kids_t HKI.out _) ?_) | (go_at_call 100;refine cR (binder_t HBI.out _) ?_) | (go_at_call 79;refine cR (ident_t' hnm hsz _) ?_))
  refine (HZ.out _).mono ?_
  rintro e w' ⟨rfl,h2⟩
  go_wp2_with fail
  go_ret
  exact⟨by rw[HQ.out];rfl,KW.trans h2⟩
theorem formed_empty {ok:Nat→Prop} {w:World} {nm:ByteArray} {N:Int} {ty:Ty} {a:Option Addr} {n c:Nat} {ma:Option Addr} {mn mc:Nat} (hk:TyL bz ok w ty.kids (.slice a n c)) (hs:SmTy big ty) (hsz:nm.size≤9223372036854775807) :Calls Tryz.prog 140 #[.agg #[.int .i64 29,.string nm,.int .i64 N,.int .i64 ty.kind,.string ty.name,.slice a n c,.slice ma mn mc]] w fun e w'=>e=.returned (.bool (formedB 29 nm N ty mn))∧Kept (fun _=>False) w w':=by
 have HKI:Hid (kidsN 29=(0,true)):=Ld rfl
 have HBI:Hid (binderB 29=false):=Ld rfl
 have hb0:binderB 29=false:=rfl
 have KW:Kept (fun _=>False) w (w.alloc (.cells #[.int .i64 29,.string nm,.int .i64 N,.int .i64 ty.kind,.string ty.name,.slice a n c,.slice ma mn mc] 27)):=kR.alloc _
 have hkW:=hk.frame (Same.alloc w (.cells #[.int .i64 29,.string nm,.int .i64 N,.int .i64 ty.kind,.string ty.name,.slice a n c,.slice ma mn mc] 27))
 have HKW:=Ld hkW
 clear hkW
 by_cases hl:(mn:Int)=0
 case neg=>
  have hl1:decide ((mn:Int)=0)=false:=by simp;omega
  have hl2:((mn:Int)==0)=false:=by simp;omega
  have hl4:¬ mn=0:=by omega
  have HQ:Hid (formedB 29 nm N ty mn=false):=Ld (by unfold formedB kidOk nmOk nOk tyOk;rw[HKI.out];simp[*])
  go_enter Tryz.func140,Tryz.ntmps140
  go_wp2_with (first | (go_at_call 180;refine cR (kids_t HKI.out _) ?_) | (go_at_call 100;refine cR (binder_t HBI.out _) ?_) | (go_at_call 79;refine cR (ident_t' hnm hsz _) ?_))
  go_ret
  exact⟨by rw[HQ.out];rfl,KW⟩
 have hl3:mn=0:=by omega
 subst hl3
 cases hnm:(nm.toList==[])
 case false=>
  have HQ:Hid (formedB 29 nm N ty 0=false):=Ld (by unfold formedB kidOk nmOk nOk tyOk;rw[HKI.out];simp[*,big])
  go_enter Tryz.func140,Tryz.ntmps140
  go_wp2_with (first | (go_at_call 180;refine cR (kids_t HKI.out _) ?_) | (go_at_call 100;refine cR (binder_t HBI.out _) ?_) | (go_at_call 79;refine cR (ident_t' hnm hsz _) ?_))
  go_ret
  exact⟨by rw[HQ.out];rfl,KW⟩
 cases hN:(N==0)
 case false=>
  have HQ:Hid (formedB 29 nm N ty 0=false):=Ld (by unfold formedB kidOk nmOk nOk tyOk;rw[HKI.out];simp[*])
  go_enter Tryz.func140,Tryz.ntmps140
  go_wp2_with (first | (go_at_call 180;refine cR (kids_t HKI.out _) ?_) | (go_at_call 100;refine cR (binder_t HBI.out _) ?_) | (go_at_call 79;refine cR (ident_t' hnm hsz _) ?_))
  go_ret
  exact⟨by rw[HQ.out];rfl,KW⟩
 cases hz:(ty.kind==2)
 case true=>
  have hz2:(ty.kind != 2)=false:=by rw[bne,hz];rfl
  have HQ:Hid (formedB 29 nm N ty 0=false):=Ld (by unfold formedB kidOk nmOk nOk tyOk;rw[HKI.out];simp[*])
  go_enter Tryz.func140,Tryz.ntmps140
  go_wp2_with (first | (go_at_call 180;refine cR (kids_t HKI.out _) ?_) | (go_at_call 100;refine cR (binder_t HBI.out _) ?_) | (go_at_call 79;refine cR (ident_t' hnm hsz _) ?_))
  go_ret
  exact⟨by rw[HQ.out];rfl,KW⟩
 have hz2:(ty.kind != 2)=true:=by rw[bne,hz];rfl
 cases hvt:validTyB ty
 case false=>
  have HQ:Hid (formedB 29 nm N ty 0=false):=Ld (by unfold formedB kidOk nmOk nOk tyOk;rw[HKI.out];simp[*])
  have HZ:=Ld (validTy_t HKW.out hs hvt)
  clear hvt
  go_enter Tryz.func140,Tryz.ntmps140
  go_wp2_with (first | (go_at_call 180;refine cR (kids_t HKI.out _) ?_) | (go_at_call 100;refine cR (binder_t HBI.out _) ?_) | (go_at_call 79;refine cR (ident_t' hnm hsz _) ?_))
  refine HZ.out.mono ?_
  rintro e w' ⟨rfl,h2⟩
  go_wp2_with fail
  go_ret
  exact⟨by rw[HQ.out];rfl,KW.trans h2⟩
 case true=>
  have HQ:Hid (formedB 29 nm N ty 0=true):=Ld (by unfold formedB kidOk nmOk nOk tyOk;rw[HKI.out];simp[*])
  have HZ:=Ld (validTy_t HKW.out hs hvt)
  clear hvt
  go_enter Tryz.func140,Tryz.ntmps140
  go_wp2_with (first | (go_at_call 180;refine cR (kids_t HKI.out _) ?_) | (go_at_call 100;refine cR (binder_t HBI.out _) ?_) | (go_at_call 79;refine cR (ident_t' hnm hsz _) ?_))
  refine HZ.out.mono ?_
  rintro e w' ⟨rfl,h2⟩
  go_wp2_with fail
  go_ret
  exact⟨by rw[HQ.out];rfl,KW.trans h2⟩
theorem formed_bind {ok:Nat→Prop} {w:World} {nm:ByteArray} {N:Int} {ty:Ty} {a:Option Addr} {n c:Nat} {ma:Option Addr} {mn mc:Nat} (hk:TyL bz ok w ty.kids (.slice a n c)) (hs:SmTy big ty) (hsz:nm.size≤9223372036854775807) {op:Int} (n20:op≠20) (n19:op≠19) (n29:op≠29) (hbi:binderB op=true) (hki:kidsN op=(2,true)):Calls Tryz.prog 140 #[.agg #[.int .i64 op,.string nm,.int .i64 N,.int .i64 ty.kind,.string ty.name,.slice a n c,.slice ma mn mc]] w fun e w'=>e=.returned (.bool (formedB op nm N ty mn))∧Kept (fun _=>False) w w':=by
 have q20:(op==20)=false:=beq_false_of_ne n20
 have q19:(op==19)=false:=beq_false_of_ne n19
 have q29:(op==29)=false:=beq_false_of_ne n29
 have HKI:=Ld hki
 have HBI:=Ld hbi
 have KW:Kept (fun _=>False) w (w.alloc (.cells #[.int .i64 op,.string nm,.int .i64 N,.int .i64 ty.kind,.string ty.name,.slice a n c,.slice ma mn mc] 27)):=kR.alloc _
 have hkW:=hk.frame (Same.alloc w (.cells #[.int .i64 op,.string nm,.int .i64 N,.int .i64 ty.kind,.string ty.name,.slice a n c,.slice ma mn mc] 27))
 have HKW:=Ld hkW
 clear hkW
 by_cases hl:(mn:Int)=2
 case neg=>
  have hl1:decide ((mn:Int)=2)=false:=by simp;omega
  have hl2:((mn:Int)==2)=false:=by simp;omega
  have hl4:¬ mn=2:=by omega
  have HQ:Hid (formedB op nm N ty mn=false):=Ld (by unfold formedB kidOk nmOk nOk tyOk;rw[HKI.out];simp[*])
  go_enter Tryz.func140,Tryz.ntmps140
  go_wp2_with (first | (go_at_call 180;refine cR (kids_t HKI.out _) ?_) | (go_at_call 100;refine cR (binder_t HBI.out _) ?_) | (go_at_call 79;refine cR (ident_t' hnm hsz _) ?_))
  go_ret
  exact⟨by rw[HQ.out];rfl,KW⟩
 have hl3:mn=2:=by omega
 subst hl3
 cases hnm:identB nm
 case false=>
  have HQ:Hid (formedB op nm N ty 2=false):=Ld (by unfold formedB kidOk nmOk nOk tyOk;rw[HKI.out];simp[*,big])
  go_enter Tryz.func140,Tryz.ntmps140
  go_wp2_with (first | (go_at_call 180;refine cR (kids_t HKI.out _) ?_) | (go_at_call 100;refine cR (binder_t HBI.out _) ?_) | (go_at_call 79;refine cR (ident_t' hnm hsz _) ?_))
  go_ret
  exact⟨by rw[HQ.out];rfl,KW⟩
 cases hN:(N==0)
 case false=>
  have HQ:Hid (formedB op nm N ty 2=false):=Ld (by unfold formedB kidOk nmOk nOk tyOk;rw[HKI.out];simp[*])
  go_enter Tryz.func140,Tryz.ntmps140
  go_wp2_with (first | (go_at_call 180;refine cR (kids_t HKI.out _) ?_) | (go_at_call 100;refine cR (binder_t HBI.out _) ?_) | (go_at_call 79;refine cR (ident_t' hnm hsz _) ?_))
  go_ret
  exact⟨by rw[HQ.out];rfl,KW⟩
 cases hz:zeroTyB ty
 case false=>
  have HQ:Hid (formedB op nm N ty 2=false):=Ld (by unfold formedB kidOk nmOk nOk tyOk;rw[HKI.out];simp[*])
  have HZ:=Ld (fun W=>zeroTy_t (w:=W) HKW.out hz)
  clear hz
  go_enter Tryz.func140,Tryz.ntmps140
  go_wp2_with (first | (go_at_call 180;refine cR (kids_t HKI.out _) ?_) | (go_at_call 100;refine cR (binder_t HBI.out _) ?_) | (go_at_call 79;refine cR (ident_t' hnm hsz _) ?_))
  refine (HZ.out _).mono ?_
  rintro e w' ⟨rfl,h2⟩
  go_wp2_with fail
  go_ret
  exact⟨by rw[HQ.out];rfl,KW.trans h2⟩
 case true=>
  have HQ:Hid (formedB op nm N ty 2=true):=Ld (by unfold formedB kidOk nmOk nOk tyOk;rw[HKI.out];simp[*])
  have HZ:=Ld (fun W=>zeroTy_t (w:=W) HKW.out hz)
  clear hz
  go_enter Tryz.func140,Tryz.ntmps140
  go_wp2_with (first | (go_at_call 180;refine cR (kids_t HKI.out _) ?_) | (go_at_call 100;refine cR (binder_t HBI.out _) ?_) | (go_at_call 79;refine cR (ident_t' hnm hsz _) ?_))
  refine (HZ.out _).mono ?_
  rintro e w' ⟨rfl,h2⟩
  go_wp2_with fail
  go_ret
  exact⟨by rw[HQ.out];rfl,KW.trans h2⟩
theorem formed_one {ok:Nat→Prop} {w:World} {nm:ByteArray} {N:Int} {ty:Ty} {a:Option Addr} {n c:Nat} {ma:Option Addr} {mn mc:Nat} (hk:TyL bz ok w ty.kids (.slice a n c)) (hs:SmTy big ty) (hsz:nm.size≤9223372036854775807) {op:Int} (n20:op≠20) (n19:op≠19) (n29:op≠29) (hbi:binderB op=false) (hki:kidsN op=(1,true)):Calls Tryz.prog 140 #[.agg #[.int .i64 op,.string nm,.int .i64 N,.int .i64 ty.kind,.string ty.name,.slice a n c,.slice ma mn mc]] w fun e w'=>e=.returned (.bool (formedB op nm N ty mn))∧Kept (fun _=>False) w w':=by
 have q20:(op==20)=false:=beq_false_of_ne n20
 have q19:(op==19)=false:=beq_false_of_ne n19
 have q29:(op==29)=false:=beq_false_of_ne n29
 have HKI:=Ld hki
 have HBI:=Ld hbi
 have KW:Kept (fun _=>False) w (w.alloc (.cells #[.int .i64 op,.string nm,.int .i64 N,.int .i64 ty.kind,.string ty.name,.slice a n c,.slice ma mn mc] 27)):=kR.alloc _
 have hkW:=hk.frame (Same.alloc w (.cells #[.int .i64 op,.string nm,.int .i64 N,.int .i64 ty.kind,.string ty.name,.slice a n c,.slice ma mn mc] 27))
 have HKW:=Ld hkW
 clear hkW
 by_cases hl:(mn:Int)=1
 case neg=>
  have hl1:decide ((mn:Int)=1)=false:=by simp;omega
  have hl2:((mn:Int)==1)=false:=by simp;omega
  have hl4:¬ mn=1:=by omega
  have HQ:Hid (formedB op nm N ty mn=false):=Ld (by unfold formedB kidOk nmOk nOk tyOk;rw[HKI.out];simp[*])
  go_enter Tryz.func140,Tryz.ntmps140
  go_wp2_with (first | (go_at_call 180;refine cR (kids_t HKI.out _) ?_) | (go_at_call 100;refine cR (binder_t HBI.out _) ?_) | (go_at_call 79;refine cR (ident_t' hnm hsz _) ?_))
  go_ret
  exact⟨by rw[HQ.out];rfl,KW⟩
 have hl3:mn=1:=by omega
 subst hl3
 cases hnm:(nm.toList==[])
 case false=>
  have HQ:Hid (formedB op nm N ty 1=false):=Ld (by unfold formedB kidOk nmOk nOk tyOk;rw[HKI.out];simp[*,big])
  go_enter Tryz.func140,Tryz.ntmps140
  go_wp2_with (first | (go_at_call 180;refine cR (kids_t HKI.out _) ?_) | (go_at_call 100;refine cR (binder_t HBI.out _) ?_) | (go_at_call 79;refine cR (ident_t' hnm hsz _) ?_))
  go_ret
  exact⟨by rw[HQ.out];rfl,KW⟩
 cases hN:(N==0)
 case false=>
  have HQ:Hid (formedB op nm N ty 1=false):=Ld (by unfold formedB kidOk nmOk nOk tyOk;rw[HKI.out];simp[*])
  go_enter Tryz.func140,Tryz.ntmps140
  go_wp2_with (first | (go_at_call 180;refine cR (kids_t HKI.out _) ?_) | (go_at_call 100;refine cR (binder_t HBI.out _) ?_) | (go_at_call 79;refine cR (ident_t' hnm hsz _) ?_))
  go_ret
  exact⟨by rw[HQ.out];rfl,KW⟩
 cases hz:zeroTyB ty
 case false=>
  have HQ:Hid (formedB op nm N ty 1=false):=Ld (by unfold formedB kidOk nmOk nOk tyOk;rw[HKI.out];simp[*])
  have HZ:=Ld (fun W=>zeroTy_t (w:=W) HKW.out hz)
  clear hz
  go_enter Tryz.func140,Tryz.ntmps140
  go_wp2_with (first | (go_at_call 180;refine cR (kids_t HKI.out _) ?_) | (go_at_call 100;refine cR (binder_t HBI.out _) ?_) | (go_at_call 79;refine cR (ident_t' hnm hsz _) ?_))
  refine (HZ.out _).mono ?_
  rintro e w' ⟨rfl,h2⟩
  go_wp2_with fail
  go_ret
  exact⟨by rw[HQ.out];rfl,KW.trans h2⟩
 case true=>
  have HQ:Hid (formedB op nm N ty 1=true):=Ld (by unfold formedB kidOk nmOk nOk tyOk;rw[HKI.out];simp[*])
  have HZ:=Ld (fun W=>zeroTy_t (w:=W) HKW.out hz)
  clear hz
  go_enter Tryz.func140,Tryz.ntmps140
  go_wp2_with (first | (go_at_call 180;refine cR (kids_t HKI.out _) ?_) | (go_at_call 100;refine cR (binder_t HBI.out _) ?_) | (go_at_call 79;refine cR (ident_t' hnm hsz _) ?_))
  refine (HZ.out _).mono ?_
  rintro e w' ⟨rfl,h2⟩
  go_wp2_with fail
  go_ret
  exact⟨by rw[HQ.out];rfl,KW.trans h2⟩
theorem formed_two {ok:Nat→Prop} {w:World} {nm:ByteArray} {N:Int} {ty:Ty} {a:Option Addr} {n c:Nat} {ma:Option Addr} {mn mc:Nat} (hk:TyL bz ok w ty.kids (.slice a n c)) (hs:SmTy big ty) (hsz:nm.size≤9223372036854775807) {op:Int} (n20:op≠20) (n19:op≠19) (n29:op≠29) (hbi:binderB op=false) (hki:kidsN op=(2,true)):Calls Tryz.prog 140 #[.agg #[.int .i64 op,.string nm,.int .i64 N,.int .i64 ty.kind,.string ty.name,.slice a n c,.slice ma mn mc]] w fun e w'=>e=.returned (.bool (formedB op nm N ty mn))∧Kept (fun _=>False) w w':=by
 have q20:(op==20)=false:=beq_false_of_ne n20
 have q19:(op==19)=false:=beq_false_of_ne n19
 have q29:(op==29)=false:=beq_false_of_ne n29
 have HKI:=Ld hki
 have HBI:=Ld hbi
 have KW:Kept (fun _=>False) w (w.alloc (.cells #[.int .i64 op,.string nm,.int .i64 N,.int .i64 ty.kind,.string ty.name,.slice a n c,.slice ma mn mc] 27)):=kR.alloc _
 have hkW:=hk.frame (Same.alloc w (.cells #[.int .i64 op,.string nm,.int .i64 N,.int .i64 ty.kind,.string ty.name,.slice a n c,.slice ma mn mc] 27))
 have HKW:=Ld hkW
 clear hkW
 by_cases hl:(mn:Int)=2
 case neg=>
  have hl1:decide ((mn:Int)=2)=false:=by simp;omega
  have hl2:((mn:Int)==2)=false:=by simp;omega
  have hl4:¬ mn=2:=by omega
  have HQ:Hid (formedB op nm N ty mn=false):=Ld (by unfold formedB kidOk nmOk nOk tyOk;rw[HKI.out];simp[*])
  go_enter Tryz.func140,Tryz.ntmps140
  go_wp2_with (first | (go_at_call 180;refine cR (kids_t HKI.out _) ?_) | (go_at_call 100;refine cR (binder_t HBI.out _) ?_) | (go_at_call 79;refine cR (ident_t' hnm hsz _) ?_))
  go_ret
  exact⟨by rw[HQ.out];rfl,KW⟩
 have hl3:mn=2:=by omega
 subst hl3
 cases hnm:(nm.toList==[])
 case false=>
  have HQ:Hid (formedB op nm N ty 2=false):=Ld (by unfold formedB kidOk nmOk nOk tyOk;rw[HKI.out];simp[*,big])
  go_enter Tryz.func140,Tryz.ntmps140
  go_wp2_with (first | (go_at_call 180;refine cR (kids_t HKI.out _) ?_) | (go_at_call 100;refine cR (binder_t HBI.out _) ?_) | (go_at_call 79;refine cR (ident_t' hnm hsz _) ?_))
  go_ret
  exact⟨by rw[HQ.out];rfl,KW⟩
 cases hN:(N==0)
 case false=>
  have HQ:Hid (formedB op nm N ty 2=false):=Ld (by unfold formedB kidOk nmOk nOk tyOk;rw[HKI.out];simp[*])
  go_enter Tryz.func140,Tryz.ntmps140
  go_wp2_with (first | (go_at_call 180;refine cR (kids_t HKI.out _) ?_) | (go_at_call 100;refine cR (binder_t HBI.out _) ?_) | (go_at_call 79;refine cR (ident_t' hnm hsz _) ?_))
  go_ret
  exact⟨by rw[HQ.out];rfl,KW⟩
 cases hz:zeroTyB ty
 case false=>
  have HQ:Hid (formedB op nm N ty 2=false):=Ld (by unfold formedB kidOk nmOk nOk tyOk;rw[HKI.out];simp[*])
  have HZ:=Ld (fun W=>zeroTy_t (w:=W) HKW.out hz)
  clear hz
  go_enter Tryz.func140,Tryz.ntmps140
  go_wp2_with (first | (go_at_call 180;refine cR (kids_t HKI.out _) ?_) | (go_at_call 100;refine cR (binder_t HBI.out _) ?_) | (go_at_call 79;refine cR (ident_t' hnm hsz _) ?_))
  refine (HZ.out _).mono ?_
  rintro e w' ⟨rfl,h2⟩
  go_wp2_with fail
  go_ret
  exact⟨by rw[HQ.out];rfl,KW.trans h2⟩
 case true=>
  have HQ:Hid (formedB op nm N ty 2=true):=Ld (by unfold formedB kidOk nmOk nOk tyOk;rw[HKI.out];simp[*])
  have HZ:=Ld (fun W=>zeroTy_t (w:=W) HKW.out hz)
  clear hz
  go_enter Tryz.func140,Tryz.ntmps140
  go_wp2_with (first | (go_at_call 180;refine cR (kids_t HKI.out _) ?_) | (go_at_call 100;refine cR (binder_t HBI.out _) ?_) | (go_at_call 79;refine cR (ident_t' hnm hsz _) ?_))
  refine (HZ.out _).mono ?_
  rintro e w' ⟨rfl,h2⟩
  go_wp2_with fail
  go_ret
  exact⟨by rw[HQ.out];rfl,KW.trans h2⟩
theorem formed_zero {ok:Nat→Prop} {w:World} {nm:ByteArray} {N:Int} {ty:Ty} {a:Option Addr} {n c:Nat} {ma:Option Addr} {mn mc:Nat} (hk:TyL bz ok w ty.kids (.slice a n c)) (hs:SmTy big ty) (hsz:nm.size≤9223372036854775807) {op:Int} (n20:op≠20) (n19:op≠19) (n29:op≠29) (hbi:binderB op=false) (hki:kidsN op=(0,true)):Calls Tryz.prog 140 #[.agg #[.int .i64 op,.string nm,.int .i64 N,.int .i64 ty.kind,.string ty.name,.slice a n c,.slice ma mn mc]] w fun e w'=>e=.returned (.bool (formedB op nm N ty mn))∧Kept (fun _=>False) w w':=by
 have q20:(op==20)=false:=beq_false_of_ne n20
 have q19:(op==19)=false:=beq_false_of_ne n19
 have q29:(op==29)=false:=beq_false_of_ne n29
 have HKI:=Ld hki
 have HBI:=Ld hbi
 have KW:Kept (fun _=>False) w (w.alloc (.cells #[.int .i64 op,.string nm,.int .i64 N,.int .i64 ty.kind,.string ty.name,.slice a n c,.slice ma mn mc] 27)):=kR.alloc _
 have hkW:=hk.frame (Same.alloc w (.cells #[.int .i64 op,.string nm,.int .i64 N,.int .i64 ty.kind,.string ty.name,.slice a n c,.slice ma mn mc] 27))
 have HKW:=Ld hkW
 clear hkW
 by_cases hl:(mn:Int)=0
 case neg=>
  have hl1:decide ((mn:Int)=0)=false:=by simp;omega
  have hl2:((mn:Int)==0)=false:=by simp;omega
  have hl4:¬ mn=0:=by omega
  have HQ:Hid (formedB op nm N ty mn=false):=Ld (by unfold formedB kidOk nmOk nOk tyOk;rw[HKI.out];simp[*])
  go_enter Tryz.func140,Tryz.ntmps140
  go_wp2_with (first | (go_at_call 180;refine cR (kids_t HKI.out _) ?_) | (go_at_call 100;refine cR (binder_t HBI.out _) ?_) | (go_at_call 79;refine cR (ident_t' hnm hsz _) ?_))
  go_ret
  exact⟨by rw[HQ.out];rfl,KW⟩
 have hl3:mn=0:=by omega
 subst hl3
 cases hnm:(nm.toList==[])
 case false=>
  have HQ:Hid (formedB op nm N ty 0=false):=Ld (by unfold formedB kidOk nmOk nOk tyOk;rw[HKI.out];simp[*,big])
  go_enter Tryz.func140,Tryz.ntmps140
  go_wp2_with (first | (go_at_call 180;refine cR (kids_t HKI.out _) ?_) | (go_at_call 100;refine cR (binder_t HBI.out _) ?_) | (go_at_call 79;refine cR (ident_t' hnm hsz _) ?_))
  go_ret
  exact⟨by rw[HQ.out];rfl,KW⟩
 cases hN:(N==0)
 case false=>
  have HQ:Hid (formedB op nm N ty 0=false):=Ld (by unfold formedB kidOk nmOk nOk tyOk;rw[HKI.out];simp[*])
  go_enter Tryz.func140,Tryz.ntmps140
  go_wp2_with (first | (go_at_call 180;refine cR (kids_t HKI.out _) ?_) | (go_at_call 100;refine cR (binder_t HBI.out _) ?_) | (go_at_call 79;refine cR (ident_t' hnm hsz _) ?_))
  go_ret
  exact⟨by rw[HQ.out];rfl,KW⟩
 cases hz:zeroTyB ty
 case false=>
  have HQ:Hid (formedB op nm N ty 0=false):=Ld (by unfold formedB kidOk nmOk nOk tyOk;rw[HKI.out];simp[*])
  have HZ:=Ld (fun W=>zeroTy_t (w:=W) HKW.out hz)
  clear hz
  go_enter Tryz.func140,Tryz.ntmps140
  go_wp2_with (first | (go_at_call 180;refine cR (kids_t HKI.out _) ?_) | (go_at_call 100;refine cR (binder_t HBI.out _) ?_) | (go_at_call 79;refine cR (ident_t' hnm hsz _) ?_))
  refine (HZ.out _).mono ?_
  rintro e w' ⟨rfl,h2⟩
  go_wp2_with fail
  go_ret
  exact⟨by rw[HQ.out];rfl,KW.trans h2⟩
 case true=>
  have HQ:Hid (formedB op nm N ty 0=true):=Ld (by unfold formedB kidOk nmOk nOk tyOk;rw[HKI.out];simp[*])
  have HZ:=Ld (fun W=>zeroTy_t (w:=W) HKW.out hz)
  clear hz
  go_enter Tryz.func140,Tryz.ntmps140
  go_wp2_with (first | (go_at_call 180;refine cR (kids_t HKI.out _) ?_) | (go_at_call 100;refine cR (binder_t HBI.out _) ?_) | (go_at_call 79;refine cR (ident_t' hnm hsz _) ?_))
  refine (HZ.out _).mono ?_
  rintro e w' ⟨rfl,h2⟩
  go_wp2_with fail
  go_ret
  exact⟨by rw[HQ.out];rfl,KW.trans h2⟩
theorem formed_set {ok:Nat→Prop} {w:World} {nm:ByteArray} {N:Int} {ty:Ty} {a:Option Addr} {n c:Nat} {ma:Option Addr} {mn mc:Nat} (hk:TyL bz ok w ty.kids (.slice a n c)) (hs:SmTy big ty) (hsz:nm.size≤9223372036854775807) {op:Int} (n20:op≠20) (n19:op≠19) (n29:op≠29) (hbi:binderB op=false) (hki:kidsN op=(-1,true)):Calls Tryz.prog 140 #[.agg #[.int .i64 op,.string nm,.int .i64 N,.int .i64 ty.kind,.string ty.name,.slice a n c,.slice ma mn mc]] w fun e w'=>e=.returned (.bool (formedB op nm N ty mn))∧Kept (fun _=>False) w w':=by
 have q20:(op==20)=false:=beq_false_of_ne n20
 have q19:(op==19)=false:=beq_false_of_ne n19
 have q29:(op==29)=false:=beq_false_of_ne n29
 have HKI:=Ld hki
 have HBI:=Ld hbi
 have KW:Kept (fun _=>False) w (w.alloc (.cells #[.int .i64 op,.string nm,.int .i64 N,.int .i64 ty.kind,.string ty.name,.slice a n c,.slice ma mn mc] 27)):=kR.alloc _
 have hkW:=hk.frame (Same.alloc w (.cells #[.int .i64 op,.string nm,.int .i64 N,.int .i64 ty.kind,.string ty.name,.slice a n c,.slice ma mn mc] 27))
 have HKW:=Ld hkW
 clear hkW
 by_cases hl:mn=0
 ·subst hl
  have HQ:Hid (formedB op nm N ty 0=false):=Ld (by unfold formedB kidOk nmOk nOk tyOk;rw[HKI.out];simp[*])
  go_enter Tryz.func140,Tryz.ntmps140
  go_wp2_with (first | (go_at_call 180;refine cR (kids_t HKI.out _) ?_) | (go_at_call 100;refine cR (binder_t HBI.out _) ?_) | (go_at_call 79;refine cR (ident_t' hnm hsz _) ?_))
  go_ret
  exact⟨by rw[HQ.out];rfl,KW⟩
 have hl1:decide ((mn:Int)=0)=false:=by simp;omega
 have hl2:((mn:Int)==0)=false:=by simp;omega
 cases hnm:(nm.toList==[])
 case false=>
  have HQ:Hid (formedB op nm N ty mn=false):=Ld (by unfold formedB kidOk nmOk nOk tyOk;rw[HKI.out];simp[*,big])
  go_enter Tryz.func140,Tryz.ntmps140
  go_wp2_with (first | (go_at_call 180;refine cR (kids_t HKI.out _) ?_) | (go_at_call 100;refine cR (binder_t HBI.out _) ?_) | (go_at_call 79;refine cR (ident_t' hnm hsz _) ?_))
  go_ret
  exact⟨by rw[HQ.out];rfl,KW⟩
 cases hN:(N==0)
 case false=>
  have HQ:Hid (formedB op nm N ty mn=false):=Ld (by unfold formedB kidOk nmOk nOk tyOk;rw[HKI.out];simp[*])
  go_enter Tryz.func140,Tryz.ntmps140
  go_wp2_with (first | (go_at_call 180;refine cR (kids_t HKI.out _) ?_) | (go_at_call 100;refine cR (binder_t HBI.out _) ?_) | (go_at_call 79;refine cR (ident_t' hnm hsz _) ?_))
  go_ret
  exact⟨by rw[HQ.out];rfl,KW⟩
 cases hz:zeroTyB ty
 case false=>
  have HQ:Hid (formedB op nm N ty mn=false):=Ld (by unfold formedB kidOk nmOk nOk tyOk;rw[HKI.out];simp[*])
  have HZ:=Ld (fun W=>zeroTy_t (w:=W) HKW.out hz)
  clear hz
  go_enter Tryz.func140,Tryz.ntmps140
  go_wp2_with (first | (go_at_call 180;refine cR (kids_t HKI.out _) ?_) | (go_at_call 100;refine cR (binder_t HBI.out _) ?_) | (go_at_call 79;refine cR (ident_t' hnm hsz _) ?_))
  refine (HZ.out _).mono ?_
  rintro e w' ⟨rfl,h2⟩
  go_wp2_with fail
  go_ret
  exact⟨by rw[HQ.out];rfl,KW.trans h2⟩
 case true=>
  have HQ:Hid (formedB op nm N ty mn=true):=Ld (by unfold formedB kidOk nmOk nOk tyOk;rw[HKI.out];simp[*])
  have HZ:=Ld (fun W=>zeroTy_t (w:=W) HKW.out hz)
  clear hz
  go_enter Tryz.func140,Tryz.ntmps140
  go_wp2_with (first | (go_at_call 180;refine cR (kids_t HKI.out _) ?_) | (go_at_call 100;refine cR (binder_t HBI.out _) ?_) | (go_at_call 79;refine cR (ident_t' hnm hsz _) ?_))
  refine (HZ.out _).mono ?_
  rintro e w' ⟨rfl,h2⟩
  go_wp2_with fail
  go_ret
  exact⟨by rw[HQ.out];rfl,KW.trans h2⟩
theorem formed_not {ok:Nat→Prop} {w:World} {nm:ByteArray} {N:Int} {ty:Ty} {a:Option Addr} {n c:Nat} {ma:Option Addr} {mn mc:Nat} (hk:TyL bz ok w ty.kids (.slice a n c)) (hs:SmTy big ty) (hsz:nm.size≤9223372036854775807) {op a0:Int} (hki:kidsN op=(a0,false)):Calls Tryz.prog 140 #[.agg #[.int .i64 op,.string nm,.int .i64 N,.int .i64 ty.kind,.string ty.name,.slice a n c,.slice ma mn mc]] w fun e w'=>e=.returned (.bool (formedB op nm N ty mn))∧Kept (fun _=>False) w w':=by
 have HKI:=Ld hki
 have KW:Kept (fun _=>False) w (w.alloc (.cells #[.int .i64 op,.string nm,.int .i64 N,.int .i64 ty.kind,.string ty.name,.slice a n c,.slice ma mn mc] 27)):=kR.alloc _
 have HQ:Hid (formedB op nm N ty mn=false):=Ld (by unfold formedB kidOk;rw[hki];rfl)
 clear hki
 go_enter Tryz.func140,Tryz.ntmps140
 go_wp2_with (go_at_call 180;refine cR (kids_t HKI.out _) ?_)
 go_ret
 exact⟨by rw[HQ.out];rfl,KW⟩
theorem kids_cases (op:Int):(∃ a,kidsN op=(a,false))∨kidsN op=(0,true)∨kidsN op=(1,true)∨kidsN op=(2,true)∨kidsN op=(-1,true):=by
 unfold kidsN
 split
 ·simp
 split
 ·simp
 split
 ·simp
 split <;> simp
theorem bind_kids (op:Int) (h:binderB op=true):kidsN op=(2,true):=by
 unfold binderB at h
 simp at h
 rcases h with ((rfl | rfl) | rfl) | rfl <;> rfl
theorem formed_any {ok:Nat→Prop} {w:World} {nm:ByteArray} {N:Int} {ty:Ty} {a:Option Addr} {n c:Nat} {ma:Option Addr} {mn mc:Nat} (hk:TyL bz ok w ty.kids (.slice a n c)) (hs:SmTy big ty) (hsz:nm.size≤9223372036854775807) (op:Int):Calls Tryz.prog 140 #[.agg #[.int .i64 op,.string nm,.int .i64 N,.int .i64 ty.kind,.string ty.name,.slice a n c,.slice ma mn mc]] w fun e w'=>e=.returned (.bool (formedB op nm N ty mn))∧Kept (fun _=>False) w w':=by
 by_cases n20:op=20
 ·subst n20;exact formed_name hk hs hsz
 by_cases n19:op=19
 ·subst n19;exact formed_int hk hs hsz
 by_cases n29:op=29
 ·subst n29;exact formed_empty hk hs hsz
 cases hbi:binderB op
 case true=>exact formed_bind hk hs hsz n20 n19 n29 hbi (bind_kids op hbi)
 rcases kids_cases op with ⟨a,h⟩ | h | h | h | h
 ·exact formed_not hk hs hsz h
 ·exact formed_zero hk hs hsz n20 n19 n29 hbi h
 ·exact formed_one hk hs hsz n20 n19 n29 hbi h
 ·exact formed_two hk hs hsz n20 n19 n29 hbi h
 ·exact formed_set hk hs hsz n20 n19 n29 hbi h
end Go.Proofs.YtdmebjbkccjhbaaGreatDoor
