/- A part. -/
import Derived.Test.YtfhedienjnfdcaaGreatDoorQ18
import Derived.Test.YtfhedienjnfdcaaGreatDoorRows
import Derived.Test.YtfhedienjnfdcaaGreatDoorCards
import Derived.Test.YtfhedienjnfdcaaGreatDoorTie
import Derived.Deep.DeepLaidRun
import Derived.ProofKit
import Derived.OpenShut
import Derived.Deep.DeepHandedRow
import Derived.Stop.LaidErr
import Derived.LaidLaws
import Derived.ChangeMaps5
set_option linter.unusedVariables false
set_option linter.unusedSimpArgs false
set_option maxRecDepth 100000
set_option maxHeartbeats 32000000
namespace Go.Proofs.YtfhedienjnfdcaaGreatDoor
open Go.RowKit
def TO (s:ByteArray) (n:Nat) (σ:PS) (t:Tm) (σ':PS):Prop:=∀ (b:Nat) (w:World),PW w b s σ→Calls Tryz.prog 94 #[.pointer (some ⟨b,0,none⟩),.int .i64 n] w (RPost b s (VTm w.heap.size) (.ok (t,σ')) w)
def AO (s:ByteArray) (σ:PS) (t:Tm) (σ':PS):Prop:=∀ (b:Nat) (w:World),PW w b s σ→Calls Tryz.prog 150 #[.pointer (some ⟨b,0,none⟩)] w (RPost b s (VTm w.heap.size) (.ok (t,σ')) w)
def WO (s:ByteArray) (σ:PS) (t:Tm) (σ':PS):Prop:=∀ (b:Nat) (w:World),PW w b s σ→Calls Tryz.prog 197 #[.pointer (some ⟨b,0,none⟩),.string σ.tx] w (RPost b s (VTm w.heap.size) (.ok (t,σ')) w)
def IO (s:ByteArray) (σ:PS) (t:Tm) (σ':PS):Prop:=∀ (b:Nat) (w:World),PW w b s σ→Calls Tryz.prog 196 #[.pointer (some ⟨b,0,none⟩),.string kLpar,.string kRpar] w (RPost b s (VTm w.heap.size) (.ok (t,σ')) w)
def FO (s:ByteArray) (t:Tm) (σ:PS) (t':Tm) (σ':PS):Prop:=∀ (b:Nat) (w:World) (ta:Option Addr) (tn tc:Nat) (ma:Option Addr) (mn mc n0:Nat),PW w b s σ→b<n0→n0≤w.heap.size→TyL (fun k=>n0≤k) w t.ty.kids (.slice ta tn tc)→TmL (fun k=>n0≤k) w t.kids (.slice ma mn mc) →
 Calls Tryz.prog 149 #[.pointer (some ⟨b,0,none⟩),tmVal t (.slice ta tn tc) (.slice ma mn mc)] w (RPost b s (VTm n0) (.ok (t',σ')) w)
def RO (s:ByteArray) (n:Nat) (t:Tm) (σ:PS) (t':Tm) (σ':PS):Prop:=∀ (b:Nat) (w:World) (ta:Option Addr) (tn tc:Nat) (ma:Option Addr) (mn mc n0:Nat),PW w b s σ→b<n0→n0≤w.heap.size→TyL (fun k=>n0≤k) w t.ty.kids (.slice ta tn tc)→TmL (fun k=>n0≤k) w t.kids (.slice ma mn mc) →
 Calls Tryz.prog 151 #[.pointer (some ⟨b,0,none⟩),tmVal t (.slice ta tn tc) (.slice ma mn mc),.int .i64 n] w (RPost b s (VTm n0) (.ok (t',σ')) w)
theorem set7' {W:World} {ok:Nat→Prop} {g:Nat} {x0 x1 x2 x3 x4 x5 x6:Value} (h:∀ k,ok k→k≠g):Same ok W (((((((W.setCell ⟨g,0,none⟩ x0).setCell ⟨g,1,none⟩ x1).setCell ⟨g,2,none⟩ x2).setCell ⟨g,3,none⟩ x3).setCell ⟨g,4,none⟩ x4).setCell ⟨g,5,none⟩ x5).setCell ⟨g,6,none⟩ x6):=
 Same.of_kept (S:=(·=g)) (k7w kR (Or.inl rfl)) h
structure PQ (w:World) (b:Nat) (s:ByteArray) (σ:PS) (W:World):Prop where
 p:PW W b s σ
 r:Blk W w.heap.size 28 z27
 k:Kept (·=b) w W
 lo:b<w.heap.size
theorem PQ.start {w:World} {b:Nat} {s:ByteArray} {σ:PS} (h:PW w b s σ):PQ w b s σ (w.alloc Z7):=⟨h.alloc _,Blk.new w 28 z27,kR.alloc _,h.lt⟩
theorem PQ.call {w W W':World} {b:Nat} {s:ByteArray} {σ σ':PS} (h:PQ w b s σ W) (p:PW W' b s σ') (k:Kept (·=b) W W'):PQ w b s σ' W':=⟨p,h.r.kept k (by have:=h.lo;show ¬ w.heap.size=b;omega),h.k.trans k,h.lo⟩
theorem PQ.al {w W:World} {b:Nat} {s:ByteArray} {σ:PS} (h:PQ w b s σ W) (o:Obj):PQ w b s σ (W.alloc o):=⟨h.p.alloc _,h.r.alloc _,h.k.alloc _,h.lo⟩
theorem PQ.sz {w W:World} {b:Nat} {s:ByteArray} {σ:PS} (h:PQ w b s σ W):w.heap.size<W.heap.size:=h.r.lt
theorem PQ.fin {fn:Func} {p:Tmp} (hf:fn.results=#[.cell p 28]) {w W:World} {b:Nat} {s:ByteArray} {σ:PS} (h:PQ w b s σ W) {a:Act} {t:Tm} {tk kk:Value} (hR:a.tmps.getD p undef=.pointer (some ⟨w.heap.size,0,none⟩)) (hd:a.defers=[]) (hk:TyL (fun q=>w.heap.size<q) W t.ty.kids tk) (hm:TmL (fun q=>w.heap.size<q) W t.kids kk):
  bodyPost Tryz.prog fn (RPost b s (VTm w.heap.size) (.ok (t,σ)) w) Exit.ret a (((((((W.setCell ⟨w.heap.size,0,none⟩ (.int .i64 t.op)).setCell ⟨w.heap.size,1,none⟩ (.string t.name)).setCell ⟨w.heap.size,2,none⟩ (.int .i64 t.n)).setCell ⟨w.heap.size,3,none⟩ (.int .i64 t.ty.kind)).setCell ⟨w.heap.size,4,none⟩ (.string t.ty.name)).setCell ⟨w.heap.size,5,none⟩ tk).setCell ⟨w.heap.size,6,none⟩ kk):=by
 have hl:=h.lo
 refine ret_tm hf rfl hR hd (r7 h.r rfl) ?_ ?_ (p7w h.p (by omega) (by have:=h.p.two;omega)) (k7w h.k (Or.inr (Nat.le_refl _)))
 ·exact (hk.frame (set7' (fun q hq=>by omega))).mono (fun q _ h=>by omega)
 ·exact (hm.frame (set7' (fun q hq=>by omega))).mono (fun q _ h=>by omega)
theorem PQ.fin1 {fn:Func} {p:Tmp} (hf:fn.results=#[.cell p 28]) {w W:World} {b:Nat} {s:ByteArray} {σ:PS} (h:PQ w b s σ W) {a:Act} {op:Int} {t:Tm} {tk kk:Value} (hR:a.tmps.getD p undef=.pointer (some ⟨w.heap.size,0,none⟩)) (hd:a.defers=[]) (hk:TyL (fun q=>w.heap.size<q) W t.ty.kids tk) (hm:TmL (fun q=>w.heap.size<q) W t.kids kk):
  bodyPost Tryz.prog fn (RPost b s (VTm w.heap.size) (.ok (nd op [t],σ)) w) Exit.ret a ((((((((W.setCell ⟨w.heap.size,0,none⟩ (.int .i64 op)).setCell ⟨w.heap.size,1,none⟩ (.string ⟨#[]⟩)).setCell ⟨w.heap.size,2,none⟩ (.int .i64 0)).setCell ⟨w.heap.size,3,none⟩ (.int .i64 0)).setCell ⟨w.heap.size,4,none⟩ (.string ⟨#[]⟩)).setCell ⟨w.heap.size,5,none⟩ (.slice none 0 0)).setCell ⟨w.heap.size,6,none⟩ (.slice (some ⟨W.heap.size,0,none⟩) 1 1)).alloc (.cells #[.int .i64 t.op,.string t.name,.int .i64 t.n,.int .i64 t.ty.kind,.string t.ty.name,tk,kk] 28)):=by
 have hl:=h.lo
 have hz:=h.sz
 refine ret_tm hf rfl hR hd ((r7 h.r rfl).alloc _) .nil0 ?_ ((p7w h.p (by omega) (by have:=h.p.two;omega)).alloc _) ((k7w h.k (Or.inr (Nat.le_refl _))).alloc _)
 exact TmL.one (ty:=28) (by omega) (Nat.le_refl _) (Blk.new' 28 _ (by simp)) (((hk.frame (set7' (fun q hq=>by omega))).frame (Same.alloc _ _)).mono (fun q _ h=>by omega)) (((hm.frame (set7' (fun q hq=>by omega))).frame (Same.alloc _ _)).mono (fun q _ h=>by omega))
theorem to_13 {s:ByteArray} {σ σ1:PS} {t:Tm} (hm:isS σ kMinus=false) (hA:AO s σ t σ1) (hF:FO s t σ1 t σ1):TO s 13 σ t σ1:=by
 intro b w h
 have q0:=PQ.start h
 go_enter Tryz.func94,Tryz.ntmps94
 go_wp2_with fail
 refine (eat_no q0.p kMinus hm).mono ?_
 rintro e w' ⟨rfl,rfl⟩
 go_wp2_with fail
 refine (hA b _ q0.p).mono ?_
 rintro e w1 hr
 obtain⟨v,rfl,⟨tk,kk,rfl,a1,c1⟩,p1,k1⟩:=hr.getOk rfl
 obtain⟨ta1,tn1,tc1,rfl⟩:=a1.slice
 obtain⟨ma1,mn1,mc1,rfl⟩:=c1.slice
 have q1:=q0.call p1 k1
 clear hr
 unfold tmVal
 go_wp2_with fail
 have z1:=q0.sz
 refine (hF b w1 ta1 tn1 tc1 ma1 mn1 mc1 _ p1 q0.p.lt k1.size a1 c1).mono ?_
 rintro e w2 hr
 obtain⟨v,rfl,⟨tk,kk,rfl,a2,c2⟩,p2,k2⟩:=hr.getOk rfl
 obtain⟨ta2,tn2,tc2,rfl⟩:=a2.slice
 obtain⟨ma2,mn2,mc2,rfl⟩:=c2.slice
 have q2:=q1.call p2 k2
 clear hr
 unfold tmVal
 have gR:∀ i,w2.cell? ⟨w.heap.size,i,none⟩=[Value.int .i64 0,.string ⟨#[]⟩,.int .i64 0,.int .i64 0,.string ⟨#[]⟩,.slice none 0 0,.slice none 0 0][i]?:=q2.r.cell
 have fR:∀ i,w2.frozen? ⟨w.heap.size,i,none⟩=false:=q2.r.frozen
 go_wp2_with fail
 exact q2.fin Tryz.results94 rfl rfl (a2.mono (fun q _ h=>by omega)) (c2.mono (fun q _ h=>by omega))
theorem to_5 {s:ByteArray} {σ σ1:PS} {t:Tm} (hm:isS σ kNot=false) (hT:TO s 6 σ t σ1):TO s 5 σ t σ1:=by
 intro b w h
 have q0:=PQ.start h
 go_enter Tryz.func94,Tryz.ntmps94
 go_wp2_with fail
 refine (eat_no q0.p kNot hm).mono ?_
 rintro e w' ⟨rfl,rfl⟩
 go_wp2_with fail
 have z1:=q0.sz
 refine (hT b _ q0.p).mono ?_
 rintro e w2 hr
 obtain⟨v,rfl,⟨tk,kk,rfl,a2,c2⟩,p2,k2⟩:=hr.getOk rfl
 obtain⟨ta2,tn2,tc2,rfl⟩:=a2.slice
 obtain⟨ma2,mn2,mc2,rfl⟩:=c2.slice
 have q2:=q0.call p2 k2
 clear hr
 unfold tmVal
 have gR:∀ i,w2.cell? ⟨w.heap.size,i,none⟩=[Value.int .i64 0,.string ⟨#[]⟩,.int .i64 0,.int .i64 0,.string ⟨#[]⟩,.slice none 0 0,.slice none 0 0][i]?:=q2.r.cell
 have fR:∀ i,w2.frozen? ⟨w.heap.size,i,none⟩=false:=q2.r.frozen
 go_wp2_with fail
 exact q2.fin Tryz.results94 rfl rfl (a2.mono (fun q _ h=>by omega)) (c2.mono (fun q _ h=>by omega))
theorem to_n {n:Nat} (hv:lvOK n) {s:ByteArray} {σ σ1 σ2:PS} {t u:Tm} (hT:TO s (n+1) σ t σ1) (hR:RO s n t σ1 u σ2):TO s n σ u σ2:=by
 have i5:((n:Int)==5)=false:=by rw[beq_eq_false_iff_ne];unfold lvOK at hv;omega
 have i13:((n:Int)==13)=false:=by rw[beq_eq_false_iff_ne];unfold lvOK at hv;omega
 have iw:IntKind.i64.wrap ((n:Int)+1)=((n+1:Nat):Int):=by rw[IntKind.wrap_i64];unfold lvOK at hv;omega
 clear hv
 intro b w h
 have q0:=PQ.start h
 go_enter Tryz.func94,Tryz.ntmps94
 go_wp2_with fail
 have z1:=q0.sz
 refine (hT b _ q0.p).mono ?_
 rintro e w1 hr
 obtain⟨v,rfl,⟨tk,kk,rfl,a1,c1⟩,p1,k1⟩:=hr.getOk rfl
 obtain⟨ta1,tn1,tc1,rfl⟩:=a1.slice
 obtain⟨ma1,mn1,mc1,rfl⟩:=c1.slice
 have q1:=q0.call p1 k1
 clear hr
 unfold tmVal
 have lt:Blk (w1.alloc (.cells #[.int .i64 t.op,.string t.name,.int .i64 t.n,.int .i64 t.ty.kind,.string t.ty.name,.slice ta1 tn1 tc1,.slice ma1 mn1 mc1] 28)) w1.heap.size 28 (tmCells t (.slice ta1 tn1 tc1) (.slice ma1 mn1 mc1)):=Blk.new w1 28 _
 have q3:=q1.al (.cells #[.int .i64 t.op,.string t.name,.int .i64 t.n,.int .i64 t.ty.kind,.string t.ty.name,.slice ta1 tn1 tc1,.slice ma1 mn1 mc1] 28)
 have a3:=a1.frame (Same.alloc _ (.cells #[.int .i64 t.op,.string t.name,.int .i64 t.n,.int .i64 t.ty.kind,.string t.ty.name,.slice ta1 tn1 tc1,.slice ma1 mn1 mc1] 28))
 have c3:=c1.frame (Same.alloc _ (.cells #[.int .i64 t.op,.string t.name,.int .i64 t.n,.int .i64 t.ty.kind,.string t.ty.name,.slice ta1 tn1 tc1,.slice ma1 mn1 mc1] 28))
 have z3:(w1.alloc (.cells #[.int .i64 t.op,.string t.name,.int .i64 t.n,.int .i64 t.ty.kind,.string t.ty.name,.slice ta1 tn1 tc1,.slice ma1 mn1 mc1] 28)).heap.size=w1.heap.size+1:=by simp
 have yt:∀ i,(w1.alloc (.cells #[.int .i64 t.op,.string t.name,.int .i64 t.n,.int .i64 t.ty.kind,.string t.ty.name,.slice ta1 tn1 tc1,.slice ma1 mn1 mc1] 28)).cell? ⟨w1.heap.size,i,none⟩=[Value.int .i64 t.op,.string t.name,.int .i64 t.n,.int .i64 t.ty.kind,.string t.ty.name,.slice ta1 tn1 tc1,.slice ma1 mn1 mc1][i]?:=lt.cell
 have hb0:=q0.p.lt
 have k1z:=k1.size
 clear iw
 go_upto_region 10 with (fail)
 generalize w1.alloc (.cells #[.int .i64 t.op,.string t.name,.int .i64 t.n,.int .i64 t.ty.kind,.string t.ty.name,.slice ta1 tn1 tc1,.slice ma1 mn1 mc1] 28)=w3 at *
 go_wp2_with fail
 refine (hR b w3 ta1 tn1 tc1 ma1 mn1 mc1 _ q3.p hb0 (by omega) a3 c3).mono ?_
 rintro e w2 hr
 obtain⟨v,rfl,⟨tk,kk,rfl,a2,c2⟩,p2,k2⟩:=hr.getOk rfl
 obtain⟨ta2,tn2,tc2,rfl⟩:=a2.slice
 obtain⟨ma2,mn2,mc2,rfl⟩:=c2.slice
 have q2:=q3.call p2 k2
 clear hr
 unfold tmVal
 have gR:∀ i,w2.cell? ⟨w.heap.size,i,none⟩=[Value.int .i64 0,.string ⟨#[]⟩,.int .i64 0,.int .i64 0,.string ⟨#[]⟩,.slice none 0 0,.slice none 0 0][i]?:=q2.r.cell
 have fR:∀ i,w2.frozen? ⟨w.heap.size,i,none⟩=false:=q2.r.frozen
 clear yt lt
 go_wp2_with fail
 exact q2.fin Tryz.results94 rfl rfl (a2.mono (fun q _ h=>by omega)) (c2.mono (fun q _ h=>by omega))
theorem io_any {s:ByteArray} {σ σ1 σ2 σ3:PS} {t:Tm} (h1:openS s σ kLpar=.ok σ1) (hT:TO s 1 σ1 t σ2) (h3:1≤σ2.nest) (h4:shutS s σ2 kRpar=.ok σ3):IO s σ t σ3:=by
 intro b w h
 have q0:=PQ.start h
 go_enter Tryz.func196,Tryz.ntmps196
 go_wp2_with fail
 refine (open_ok q0.p kLpar h1).mono ?_
 rintro e w1 ⟨rfl,p1,k1⟩
 have q1:=q0.call p1 k1
 have z1:=q1.sz
 go_wp2_with fail
 refine (hT b w1 p1).mono ?_
 rintro e w2 hr
 obtain⟨v,rfl,⟨tk,kk,rfl,a2,c2⟩,p2,k2⟩:=hr.getOk rfl
 obtain⟨ta2,tn2,tc2,rfl⟩:=a2.slice
 obtain⟨ma2,mn2,mc2,rfl⟩:=c2.slice
 have q2:=q1.call p2 k2
 clear hr
 unfold tmVal
 have lt:Blk (w2.alloc (.cells #[.int .i64 t.op,.string t.name,.int .i64 t.n,.int .i64 t.ty.kind,.string t.ty.name,.slice ta2 tn2 tc2,.slice ma2 mn2 mc2] 28)) w2.heap.size 28 (tmCells t (.slice ta2 tn2 tc2) (.slice ma2 mn2 mc2)):=Blk.new w2 28 _
 have q3:=q2.al (.cells #[.int .i64 t.op,.string t.name,.int .i64 t.n,.int .i64 t.ty.kind,.string t.ty.name,.slice ta2 tn2 tc2,.slice ma2 mn2 mc2] 28)
 have a3:=a2.frame (Same.alloc _ (.cells #[.int .i64 t.op,.string t.name,.int .i64 t.n,.int .i64 t.ty.kind,.string t.ty.name,.slice ta2 tn2 tc2,.slice ma2 mn2 mc2] 28))
 have c3:=c2.frame (Same.alloc _ (.cells #[.int .i64 t.op,.string t.name,.int .i64 t.n,.int .i64 t.ty.kind,.string t.ty.name,.slice ta2 tn2 tc2,.slice ma2 mn2 mc2] 28))
 have z2:=k2.size
 go_upto_region 3 with (fail)
 generalize w2.alloc (.cells #[.int .i64 t.op,.string t.name,.int .i64 t.n,.int .i64 t.ty.kind,.string t.ty.name,.slice ta2 tn2 tc2,.slice ma2 mn2 mc2] 28)=w3 at *
 generalize w2.heap.size=L at *
 have lb:=q3.p.lt
 have l0:=q0.lo
 go_wp2_with fail
 refine (shut_ok q3.p h3 kRpar h4).mono ?_
 rintro e w4 ⟨rfl,p4,k4⟩
 have q4:=q3.call p4 k4
 have yt:∀ i,w4.cell? ⟨L,i,none⟩=[Value.int .i64 t.op,.string t.name,.int .i64 t.n,.int .i64 t.ty.kind,.string t.ty.name,.slice ta2 tn2 tc2,.slice ma2 mn2 mc2][i]?:=(lt.kept k4 (by show ¬ L=b;omega)).cell
 have a4:=a3.frame (Same.of_kept k4 (fun q hq e=>by omega))
 have c4:=c3.frame (Same.of_kept k4 (fun q hq e=>by omega))
 have gR:∀ i,w4.cell? ⟨w.heap.size,i,none⟩=[Value.int .i64 0,.string ⟨#[]⟩,.int .i64 0,.int .i64 0,.string ⟨#[]⟩,.slice none 0 0,.slice none 0 0][i]?:=q4.r.cell
 have fR:∀ i,w4.frozen? ⟨w.heap.size,i,none⟩=false:=q4.r.frozen
 go_wp2_with fail
 exact q4.fin Tryz.results196 rfl rfl (a4.mono (fun q _ h=>by omega)) (c4.mono (fun q _ h=>by omega))
theorem wo_name {s:ByteArray} {σ σ1:PS} (hk:keywordB σ.tx=false) (ha:advS s σ=.ok σ1):WO s σ (.mk 20 σ.tx 0 ty0 []) σ1:=by
 intro b w h
 have q0:=PQ.start h
 go_enter Tryz.func197,Tryz.ntmps197
 go_wp2_with (first | (go_at_call 101;refine cR (keyword_t hk _) ?_) | (go_at_call 220;refine (function_any _ _).mono ?_;rintro e w' ⟨rfl,rfl⟩))
 refine (adv_ok q0.p ha).mono ?_
 rintro e w1 ⟨rfl,p1,k1⟩
 have q1:=q0.call p1 k1
 have gR:∀ i,w1.cell? ⟨w.heap.size,i,none⟩=[Value.int .i64 0,.string ⟨#[]⟩,.int .i64 0,.int .i64 0,.string ⟨#[]⟩,.slice none 0 0,.slice none 0 0][i]?:=q1.r.cell
 have fR:∀ i,w1.frozen? ⟨w.heap.size,i,none⟩=false:=q1.r.frozen
 go_wp2_with fail
 exact q1.fin (t:=.mk 20 σ.tx 0 ty0 []) Tryz.results197 rfl rfl .nil0 .nil0
theorem wo_fun {s:ByteArray} {σ σ1 σ2:PS} {t:Tm} (hk:keywordB σ.tx=true) (hf:(functionN σ.tx != 0)=true) (ha:advS s σ=.ok σ1) (hI:IO s σ1 t σ2):WO s σ (nd (functionN σ.tx) [t]) σ2:=by
 intro b w h
 have q0:=PQ.start h
 go_enter Tryz.func197,Tryz.ntmps197
 go_wp2_with (first | (go_at_call 101;refine cR (keyword_t hk _) ?_) | (go_at_call 220;refine (function_any _ _).mono ?_;rintro e w' ⟨rfl,rfl⟩))
 refine (adv_ok q0.p ha).mono ?_
 rintro e w1 ⟨rfl,p1,k1⟩
 have q1:=q0.call p1 k1
 have z1:=q1.sz
 go_wp2_with fail
 refine (hI b w1 p1).mono ?_
 rintro e w2 hr
 obtain⟨v,rfl,⟨tk,kk,rfl,a2,c2⟩,p2,k2⟩:=hr.getOk rfl
 obtain⟨ta2,tn2,tc2,rfl⟩:=a2.slice
 obtain⟨ma2,mn2,mc2,rfl⟩:=c2.slice
 have q2:=q1.call p2 k2
 clear hr
 unfold tmVal
 have gR:∀ i,w2.cell? ⟨w.heap.size,i,none⟩=[Value.int .i64 0,.string ⟨#[]⟩,.int .i64 0,.int .i64 0,.string ⟨#[]⟩,.slice none 0 0,.slice none 0 0][i]?:=q2.r.cell
 have fR:∀ i,w2.frozen? ⟨w.heap.size,i,none⟩=false:=q2.r.frozen
 have l9:=q2.sz
 go_wp2_with fail
 exact q2.fin1 Tryz.results197 rfl rfl (a2.mono (fun q _ h=>by omega)) (c2.mono (fun q _ h=>by omega))
theorem ao_num {s:ByteArray} {σ σ1:PS} (hk:(σ.k==2)=true) (ha:advS s σ=.ok σ1):AO s σ (.mk 19 nil0 σ.n ty0 []) σ1:=by
 intro b w h
 have q0:=PQ.start h
 have c2:=q0.p.kd
 have c3:=q0.p.txt
 have c4:=q0.p.num
 have c5:=q0.p.tat
 have lx:Blk ((w.alloc Z7).alloc (.cells #[.int .i64 σ.k,.string σ.tx,.int .i64 σ.n,.int .i64 σ.ta] 151)) (w.heap.size+1) 151 [.int .i64 σ.k,.string σ.tx,.int .i64 σ.n,.int .i64 σ.ta]:=Blk.new' 151 _ (by simp)
 have q1:=q0.al (.cells #[.int .i64 σ.k,.string σ.tx,.int .i64 σ.n,.int .i64 σ.ta] 151)
 have zt:((w.alloc Z7).alloc (.cells #[.int .i64 σ.k,.string σ.tx,.int .i64 σ.n,.int .i64 σ.ta] 151)).heap.size=w.heap.size+2:=by simp
 go_enter Tryz.func150,Tryz.ntmps150
 go_upto_region 2 with (fail)
 generalize (w.alloc Z7).alloc (.cells #[.int .i64 σ.k,.string σ.tx,.int .i64 σ.n,.int .i64 σ.ta] 151)=wt at *
 clear c2 c3 c4 c5 q0
 have yx:=lx.cell
 go_wp2_with fail
 refine (adv_ok q1.p ha).mono ?_
 rintro e w1 ⟨rfl,p1,k1⟩
 have q2:=q1.call p1 k1
 have lb:=q1.lo
 clear yx
 have yx:=(lx.kept k1 (by show ¬ w.heap.size+1=b;omega)).cell
 have gR:∀ i,w1.cell? ⟨w.heap.size,i,none⟩=[Value.int .i64 0,.string ⟨#[]⟩,.int .i64 0,.int .i64 0,.string ⟨#[]⟩,.slice none 0 0,.slice none 0 0][i]?:=q2.r.cell
 have fR:∀ i,w1.frozen? ⟨w.heap.size,i,none⟩=false:=q2.r.frozen
 go_wp2_with fail
 exact q2.fin (t:=.mk 19 nil0 σ.n ty0 []) Tryz.results150 rfl rfl .nil0 .nil0
theorem ao_word {s:ByteArray} {σ σ1:PS} {t:Tm} (hk:(σ.k==2)=false) (hk1:(σ.k==1)=true) (hW:WO s σ t σ1):AO s σ t σ1:=by
 intro b w h
 have q0:=PQ.start h
 have c2:=q0.p.kd
 have c3:=q0.p.txt
 have c4:=q0.p.num
 have c5:=q0.p.tat
 have lx:Blk ((w.alloc Z7).alloc (.cells #[.int .i64 σ.k,.string σ.tx,.int .i64 σ.n,.int .i64 σ.ta] 151)) (w.heap.size+1) 151 [.int .i64 σ.k,.string σ.tx,.int .i64 σ.n,.int .i64 σ.ta]:=Blk.new' 151 _ (by simp)
 have q1:=q0.al (.cells #[.int .i64 σ.k,.string σ.tx,.int .i64 σ.n,.int .i64 σ.ta] 151)
 have zt:((w.alloc Z7).alloc (.cells #[.int .i64 σ.k,.string σ.tx,.int .i64 σ.n,.int .i64 σ.ta] 151)).heap.size=w.heap.size+2:=by simp
 go_enter Tryz.func150,Tryz.ntmps150
 go_upto_region 2 with (fail)
 generalize (w.alloc Z7).alloc (.cells #[.int .i64 σ.k,.string σ.tx,.int .i64 σ.n,.int .i64 σ.ta] 151)=wt at *
 clear c2 c3 c4 c5 q0
 have yx:=lx.cell
 go_wp2_with fail
 refine (hW b wt q1.p).mono ?_
 have z1:=q1.sz
 rintro e w2 hr
 obtain⟨v,rfl,⟨tk,kk,rfl,a2,c2⟩,p2,k2⟩:=hr.getOk rfl
 obtain⟨ta2,tn2,tc2,rfl⟩:=a2.slice
 obtain⟨ma2,mn2,mc2,rfl⟩:=c2.slice
 have q2:=q1.call p2 k2
 clear hr
 unfold tmVal
 clear yx
 have gR:∀ i,w2.cell? ⟨w.heap.size,i,none⟩=[Value.int .i64 0,.string ⟨#[]⟩,.int .i64 0,.int .i64 0,.string ⟨#[]⟩,.slice none 0 0,.slice none 0 0][i]?:=q2.r.cell
 have fR:∀ i,w2.frozen? ⟨w.heap.size,i,none⟩=false:=q2.r.frozen
 go_wp2_with fail
 exact q2.fin Tryz.results150 rfl rfl (a2.mono (fun q _ h=>by omega)) (c2.mono (fun q _ h=>by omega))
inductive Rst (s:ByteArray) (n:Nat):Nat→Tm→PS→Tm→PS→Prop
 | stop {t:Tm} {σ:PS} (h:opOf n σ=0):Rst s n 0 t σ t σ
 | never {t u:Tm} {σ σ1 σ2:PS} {o:Int} (ho:opOf n σ=o) (hne:(o==0)=false) (ha:advS s σ=.ok σ1) (hg:lvGroup n=0) (hT:TO s (n+1) σ1 u σ2):Rst s n 0 t σ (nd o [t,u]) σ2
 | left {k:Nat} {t u t':Tm} {σ σ1 σ2 σ':PS} {o:Int} (ho:opOf n σ=o) (hne:(o==0)=false) (ha:advS s σ=.ok σ1) (hg:lvGroup n=1) (hT:TO s (n+1) σ1 u σ2) (hr:Rst s n k (nd o [t,u]) σ2 t' σ'):Rst s n (k+1) t σ t' σ'
structure RQ (w:World) (b n0:Nat) (s:ByteArray) (t:Tm) (tk kk:Value) (σ:PS) (W:World):Prop where
 p:PW W b s σ
 bx:Blk W w.heap.size 28 (tmCells t tk kk)
 r:Blk W (w.heap.size+1) 28 z27
 y:TyL (okk n0 w.heap.size (w.heap.size+1)) W t.ty.kids tk
 m:TmL (okk n0 w.heap.size (w.heap.size+1)) W t.kids kk
 k:Kept (·=b) w W
 lo:b<n0∧n0≤w.heap.size
section
variable {w W W':World} {b n0:Nat} {s:ByteArray} {t:Tm} {tk kk:Value} {σ σ':PS}
theorem RQ.start {ta ma:Option Addr} {tn tc mn mc:Nat} (h:PW w b s σ) (h1:b<n0) (h2:n0≤w.heap.size) (a:TyL (fun k=>n0≤k) w t.ty.kids (.slice ta tn tc)) (c:TmL (fun k=>n0≤k) w t.kids (.slice ma mn mc)):RQ w b n0 s t (.slice ta tn tc) (.slice ma mn mc) σ ((w.alloc (.cells #[.int .i64 t.op,.string t.name,.int .i64 t.n,.int .i64 t.ty.kind,.string t.ty.name,.slice ta tn tc,.slice ma mn mc] 28)).alloc Z7):=
 ⟨(h.alloc _).alloc _,(Blk.new w 28 (tmCells t (.slice ta tn tc) (.slice ma mn mc))).alloc _,Blk.new' 28 z27 (by simp),((a.mono (fun k hk h=>⟨h,by omega,by omega⟩)).frame (Same.alloc _ _)).frame (Same.alloc _ _),((c.mono (fun k hk h=>⟨h,by omega,by omega⟩)).frame (Same.alloc _ _)).frame (Same.alloc _ _),(kR.alloc _).alloc _,h1,h2⟩
theorem RQ.still (h:RQ w b n0 s t tk kk σ W) (k:Kept (fun _=>False) W W'):RQ w b n0 s t tk kk σ W':=⟨h.p.grow k id id id,h.bx.kept k id,h.r.kept k id,h.y.frame (Same.of_kept k (fun _ _=>id)),h.m.frame (Same.of_kept k (fun _ _=>id)),h.k.trans (k.mono (fun _ _ e=>e.elim)),h.lo⟩
theorem RQ.call (h:RQ w b n0 s t tk kk σ W) (p:PW W' b s σ') (k:Kept (·=b) W W'):RQ w b n0 s t tk kk σ' W':=by
 have hl:=h.lo
 exact⟨p,h.bx.kept k (by show ¬ w.heap.size=b;omega),h.r.kept k (by show ¬ w.heap.size+1=b;omega),h.y.frame (Same.of_kept k (fun q hq e=>by have:=hq.1;omega)),h.m.frame (Same.of_kept k (fun q hq e=>by have:=hq.1;omega)),h.k.trans k,h.lo⟩
theorem RQ.fin {fn:Func} {p:Tmp} (hf:fn.results=#[.cell p 28]) (h:RQ w b n0 s t tk kk σ W) {a:Act} (hR:a.tmps.getD p undef=.pointer (some ⟨w.heap.size+1,0,none⟩)) (hd:a.defers=[]):
  bodyPost Tryz.prog fn (RPost b s (VTm n0) (.ok (t,σ)) w) Exit.ret a (((((((W.setCell ⟨w.heap.size+1,0,none⟩ (.int .i64 t.op)).setCell ⟨w.heap.size+1,1,none⟩ (.string t.name)).setCell ⟨w.heap.size+1,2,none⟩ (.int .i64 t.n)).setCell ⟨w.heap.size+1,3,none⟩ (.int .i64 t.ty.kind)).setCell ⟨w.heap.size+1,4,none⟩ (.string t.ty.name)).setCell ⟨w.heap.size+1,5,none⟩ tk).setCell ⟨w.heap.size+1,6,none⟩ kk):=by
 have hl:=h.lo
 refine ret_tm hf rfl hR hd (r7 h.r rfl) ?_ ?_ (p7w h.p (by omega) (by have:=h.p.two;omega)) (k7w h.k (Or.inr (by omega)))
 ·exact (h.y.frame (same7k (Or.inr rfl))).mono (fun k _ h=>h.1)
 ·exact (h.m.frame (same7k (Or.inr rfl))).mono (fun k _ h=>h.1)
theorem RQ.two {o:Int} {u:Tm} {uk uu:Value} (h:RQ w b n0 s t tk kk σ W) (a:TyL (fun q=>w.heap.size+2≤q) W u.ty.kids uk) (c:TmL (fun q=>w.heap.size+2≤q) W u.kids uu):
  RQ w b n0 s (nd o [t,u]) (.slice none 0 0) (.slice (some ⟨W.heap.size+1,0,none⟩) 2 2) σ ((((((((((W.setCell ⟨w.heap.size,0,none⟩ (.int .i64 o)).setCell ⟨w.heap.size,1,none⟩ (.string ⟨#[]⟩)).setCell ⟨w.heap.size,2,none⟩ (.int .i64 0)).setCell ⟨w.heap.size,3,none⟩ (.int .i64 0)).setCell ⟨w.heap.size,4,none⟩ (.string ⟨#[]⟩)).setCell ⟨w.heap.size,5,none⟩ (.slice none 0 0)).setCell ⟨w.heap.size,6,none⟩ (.slice (some ⟨W.heap.size+1,0,none⟩) 2 2)).alloc (.cells #[.int .i64 u.op,.string u.name,.int .i64 u.n,.int .i64 u.ty.kind,.string u.ty.name,uk,uu] 28)).alloc (.cells #[.int .i64 t.op,.string t.name,.int .i64 t.n,.int .i64 t.ty.kind,.string t.ty.name,tk,kk,.int .i64 u.op,.string u.name,.int .i64 u.n,.int .i64 u.ty.kind,.string u.ty.name,uk,uu] 28))):=by
 have hl:=h.lo
 have hz:=h.r.lt
 refine⟨((p7w h.p (by omega) (by have:=h.p.two;omega)).alloc _).alloc _,((r7 h.bx rfl).alloc _).alloc _,((b7w h.r (by omega)).alloc _).alloc _,.nil0,?_,((k7w h.k (Or.inr (Nat.le_refl _))).alloc _).alloc _,h.lo⟩
 exact TmL.two (ty:=28) ⟨by omega,by omega,by omega⟩ (Nat.le_refl _) (Blk.new' 28 _ (by simp)) (((h.y.frame (same7k (Or.inl rfl))).frame (Same.alloc _ _)).frame (Same.alloc _ _)) (((h.m.frame (same7k (Or.inl rfl))).frame (Same.alloc _ _)).frame (Same.alloc _ _)) ((((a.mono (ok':=okk n0 w.heap.size (w.heap.size+1)) (fun k _ h=>⟨by omega,by omega,by omega⟩)).frame (same7k (Or.inl rfl))).frame (Same.alloc _ _)).frame (Same.alloc _ _)) ((((c.mono (ok':=okk n0 w.heap.size (w.heap.size+1)) (fun k _ h=>⟨by omega,by omega,by omega⟩)).frame (same7k (Or.inl rfl))).frame (Same.alloc _ _)).frame (Same.alloc _ _))
end
theorem fo_stop {s:ByteArray} {σ:PS} {t:Tm} (h1:isS σ kLpar=false) (h2:isS σ kLbr=false) (h3:isS σ kTilde=false):FO s t σ t σ:=by
 intro b w ta tn tc ma mn mc n0 h hb hn a c
 unfold tmVal
 have q0:=RQ.start h hb hn a c
 clear a c
 go_enter Tryz.func149,Tryz.ntmps149
 go_wp2_with fail
 generalize ((w.alloc (.cells #[.int .i64 t.op,.string t.name,.int .i64 t.n,.int .i64 t.ty.kind,.string t.ty.name,.slice ta tn tc,.slice ma mn mc] 28)).alloc Z7)=w2 at *
 go_loopw [5] (fun _ wr=>wr=w2) (fun _ _=>0)
 case atStart=>rfl
 case round=>
  obtain rfl:=hrel
  have yt:∀ i,wr.cell? ⟨w.heap.size,i,none⟩=[Value.int .i64 t.op,.string t.name,.int .i64 t.n,.int .i64 t.ty.kind,.string t.ty.name,.slice ta tn tc,.slice ma mn mc][i]?:=q0.bx.cell
  have l0:=q0.bx.lt
  have q1:=q0.still (kR.alloc (.cells #[.int .i64 t.op,.string t.name,.int .i64 t.n,.int .i64 t.ty.kind,.string t.ty.name,.slice ta tn tc,.slice ma mn mc] 28))
  go_upto_region 3 with (fail)
  generalize wr.alloc (.cells #[.int .i64 t.op,.string t.name,.int .i64 t.n,.int .i64 t.ty.kind,.string t.ty.name,.slice ta tn tc,.slice ma mn mc] 28)=w3 at *
  clear yt l0 q0
  go_wp2_with fail
  refine (is_any q1.p kLpar h1).mono ?_
  rintro e w' ⟨rfl,rfl⟩
  go_wp2_with fail
  refine (is_any q1.p kLbr h2).mono ?_
  rintro e w' ⟨rfl,rfl⟩
  go_wp2_with fail
  refine (eat_no q1.p kTilde h3).mono ?_
  rintro e w' ⟨rfl,rfl⟩
  have yt:∀ i,w3.cell? ⟨w.heap.size,i,none⟩=[Value.int .i64 t.op,.string t.name,.int .i64 t.n,.int .i64 t.ty.kind,.string t.ty.name,.slice ta tn tc,.slice ma mn mc][i]?:=q1.bx.cell
  have gR:∀ i,w3.cell? ⟨w.heap.size+1,i,none⟩=[Value.int .i64 0,.string ⟨#[]⟩,.int .i64 0,.int .i64 0,.string ⟨#[]⟩,.slice none 0 0,.slice none 0 0][i]?:=q1.r.cell
  have fR:∀ i,w3.frozen? ⟨w.heap.size+1,i,none⟩=false:=q1.r.frozen
  go_wp2_with fail
  exact q1.fin Tryz.results149 rfl rfl
theorem ro_any {n:Nat} (hn:lvOK n) {s:ByteArray} {k0:Nat} {t t':Tm} {σ σ':PS} (hr:Rst s n k0 t σ t' σ'):RO s n t σ t' σ':=by
 intro b w ta tn tc ma mn mc n0 h hb hn0 a c
 unfold tmVal
 have HLEN:=Ld (lv_lens hn)
 have iw:IntKind.i64.wrap ((n:Int)+1)=((n+1:Nat):Int):=by rw[IntKind.wrap_i64];unfold lvOK at hn;omega
 have HIW:=Ld iw
 have q0:=RQ.start h hb hn0 a c
 clear a c iw
 go_enter Tryz.func151,Tryz.ntmps151
 go_wp2_with fail
 have zW:((w.alloc (.cells #[.int .i64 t.op,.string t.name,.int .i64 t.n,.int .i64 t.ty.kind,.string t.ty.name,.slice ta tn tc,.slice ma mn mc] 28)).alloc Z7).heap.size=w.heap.size+2:=by simp
 refine (levels_at hn _).mono ?_
 rintro e w1 ⟨A,rfl,⟨g,g',hgg,hgg',hix,hx,ho⟩,hbw⟩
 have q1:=q0.still (Kept.of_below hbw)
 rw[zW] at hgg hgg'
 clear q0 hbw zW
 go_wp2_with fail
 have hL:Blk (w1.alloc (.cells #[.int .i64 (lvGroup n),.slice (some ⟨g,0,none⟩) (lvSigns n).length (lvSigns n).length,.slice (some ⟨g',0,none⟩) (lvOps n).length (lvOps n).length] 189)) w1.heap.size 189 [.int .i64 (lvGroup n),.slice (some ⟨g,0,none⟩) (lvSigns n).length (lvSigns n).length,.slice (some ⟨g',0,none⟩) (lvOps n).length (lvOps n).length]:=Blk.new w1 189 _
 have q2:=q1.still (kR.alloc (.cells #[.int .i64 (lvGroup n),.slice (some ⟨g,0,none⟩) (lvSigns n).length (lvSigns n).length,.slice (some ⟨g',0,none⟩) (lvOps n).length (lvOps n).length] 189))
 have hx2:=hx.alloc (.cells #[.int .i64 (lvGroup n),.slice (some ⟨g,0,none⟩) (lvSigns n).length (lvSigns n).length,.slice (some ⟨g',0,none⟩) (lvOps n).length (lvOps n).length] 189)
 have ho2:=ho.alloc (.cells #[.int .i64 (lvGroup n),.slice (some ⟨g,0,none⟩) (lvSigns n).length (lvSigns n).length,.slice (some ⟨g',0,none⟩) (lvOps n).length (lvOps n).length] 189)
 have hl1:=q1.r.lt
 generalize hW:w1.alloc (.cells #[.int .i64 (lvGroup n),.slice (some ⟨g,0,none⟩) (lvSigns n).length (lvSigns n).length,.slice (some ⟨g',0,none⟩) (lvOps n).length (lvOps n).length] 189)=w2 at *
 generalize w1.heap.size=L at *
 clear hW hix q1 hx ho
 go_loopg [8] (k0+1) (fun m _ wr=>∃ (k:Nat) (tc':Tm) (σc:PS) (ua:Option Addr) (un uc:Nat) (va:Option Addr) (vn vc:Nat),m=k+1∧Rst s n k tc' σc t' σ'∧RQ w b n0 s tc' (.slice ua un uc) (.slice va vn vc) σc wr∧Blk wr L 189 [.int .i64 (lvGroup n),.slice (some ⟨g,0,none⟩) (lvSigns n).length (lvSigns n).length,.slice (some ⟨g',0,none⟩) (lvOps n).length (lvOps n).length]∧Blk wr g 9 ((lvSigns n).map Value.string)∧Blk wr g' 3 ((lvOps n).map (Value.int .i64)))
 case atStart=>exact⟨k0,t,σ,ta,tn,tc,ma,mn,mc,rfl,hr,q2,hL,hx2,ho2⟩
 case round=>
  clear q2 hL hx2 ho2 hr
  obtain⟨k,tx,σc,ua,un,uc,va,vn,vc,rfl,hr,q,hL,hX,hO⟩:=hrel
  have l0:∀ i,wr.cell? ⟨L,i,none⟩=[.int .i64 (lvGroup n),.slice (some ⟨g,0,none⟩) (lvSigns n).length (lvSigns n).length,.slice (some ⟨g',0,none⟩) (lvOps n).length (lvOps n).length][i]?:=hL.cell
  go_wp2_with fail
  refine (operator_any q.p (lvGroup n) (lvSigns n) (lvOps n) g g' HLEN.out.1 HLEN.out.2 hX hO).mono ?_
  rintro e w3 ⟨rfl,hb3⟩
  have kF:Kept (fun _=>False) wr w3:=Kept.of_below hb3
  have q3:=q.still kF
  have hL3:=hL.kept kF id
  have hX3:=hX.kept kF id
  have hO3:=hO.kept kF id
  clear kF q hL hX hO hb3 l0
  have HO:Hid (opOf n σc=opGo σc (lvSigns n) (lvOps n)):=Ld rfl
  generalize opGo σc (lvSigns n) (lvOps n)=o at *
  have gR:∀ i,w3.cell? ⟨w.heap.size+1,i,none⟩=[Value.int .i64 0,.string ⟨#[]⟩,.int .i64 0,.int .i64 0,.string ⟨#[]⟩,.slice none 0 0,.slice none 0 0][i]?:=q3.r.cell
  have fR:∀ i,w3.frozen? ⟨w.heap.size+1,i,none⟩=false:=q3.r.frozen
  have yt:∀ i,w3.cell? ⟨w.heap.size,i,none⟩=[Value.int .i64 tx.op,.string tx.name,.int .i64 tx.n,.int .i64 tx.ty.kind,.string tx.ty.name,.slice ua un uc,.slice va vn vc][i]?:=q3.bx.cell
  cases hr with
  | stop h0=>
   have hz:(o==0)=true:=by rw[← HO.out,h0];rfl
   go_wp2_with fail
   exact q3.fin Tryz.results151 rfl rfl
  | @never _ u _ σ1 _ o' h0 hne ha hg hT=>
   obtain rfl:o'=o:=h0.symm.trans HO.out
   have HG:=Ld hg
   clear gR fR yt h0 hg
   go_wp2_with fail
   refine (adv_ok q3.p ha).mono ?_
   rintro e w4 ⟨rfl,p4,k4⟩
   have hl:=q3.lo
   have q4:=q3.call p4 k4
   have hL4:=hL3.kept k4 (by show ¬ L=b;omega)
   have hX4:=hX3.kept k4 (by show ¬ g=b;omega)
   have hO4:=hO3.kept k4 (by show ¬ g'=b;omega)
   have l0:∀ i,w4.cell? ⟨L,i,none⟩=[.int .i64 (lvGroup n),.slice (some ⟨g,0,none⟩) (lvSigns n).length (lvSigns n).length,.slice (some ⟨g',0,none⟩) (lvOps n).length (lvOps n).length][i]?:=hL4.cell
   have hg2:(lvGroup n==2)=false:=by rw[HG.out];rfl
   have iw:=HIW.out
   have lz:=q4.r.lt
   clear k4 p4 q3 hL3 hX3 hO3
   go_wp2_with fail
   refine (hT b w4 q4.p).mono ?_
   rintro e w5 hrr
   obtain⟨v,rfl,⟨tk5,kk5,rfl,au,cu⟩,p5,k5⟩:=hrr.getOk rfl
   obtain⟨ta5,tn5,tc5,rfl⟩:=au.slice
   obtain⟨ma5,mn5,mc5,rfl⟩:=cu.slice
   clear hrr l0
   unfold tmVal
   have q5:=q4.call p5 k5
   have hL5:=hL4.kept k5 (by show ¬ L=b;omega)
   have hX5:=hX4.kept k5 (by show ¬ g=b;omega)
   have hO5:=hO4.kept k5 (by show ¬ g'=b;omega)
   have lB5:=q5.bx.lt
   have lR5:=q5.r.lt
   have yt:∀ i,w5.cell? ⟨w.heap.size,i,none⟩=[Value.int .i64 tx.op,.string tx.name,.int .i64 tx.n,.int .i64 tx.ty.kind,.string tx.ty.name,.slice ua un uc,.slice va vn vc][i]?:=q5.bx.cell
   have fB:∀ i,w5.frozen? ⟨w.heap.size,i,none⟩=false:=q5.bx.frozen
   clear q4 hL4 hX4 hO4 k5 p5
   go_upto_region 11 with (fail)
   have q6:=q5.two (o:=o') (u:=u) (au.mono (fun q _ h=>by omega)) (cu.mono (fun q _ h=>by omega))
   have hL6:=((b7w (x0:=.int .i64 o') (x1:=.string ⟨#[]⟩) (x2:=.int .i64 0) (x3:=.int .i64 0) (x4:=.string ⟨#[]⟩) (x5:=.slice none 0 0) (x6:=.slice (some ⟨w5.heap.size+1,0,none⟩) 2 2) (R:=w.heap.size) hL5 (by omega)).alloc (.cells #[.int .i64 u.op,.string u.name,.int .i64 u.n,.int .i64 u.ty.kind,.string u.ty.name,.slice ta5 tn5 tc5,.slice ma5 mn5 mc5] 28)).alloc (.cells #[.int .i64 tx.op,.string tx.name,.int .i64 tx.n,.int .i64 tx.ty.kind,.string tx.ty.name,.slice ua un uc,.slice va vn vc,.int .i64 u.op,.string u.name,.int .i64 u.n,.int .i64 u.ty.kind,.string u.ty.name,.slice ta5 tn5 tc5,.slice ma5 mn5 mc5] 28)
   have hX6:=((b7w (x0:=.int .i64 o') (x1:=.string ⟨#[]⟩) (x2:=.int .i64 0) (x3:=.int .i64 0) (x4:=.string ⟨#[]⟩) (x5:=.slice none 0 0) (x6:=.slice (some ⟨w5.heap.size+1,0,none⟩) 2 2) (R:=w.heap.size) hX5 (by omega)).alloc (.cells #[.int .i64 u.op,.string u.name,.int .i64 u.n,.int .i64 u.ty.kind,.string u.ty.name,.slice ta5 tn5 tc5,.slice ma5 mn5 mc5] 28)).alloc (.cells #[.int .i64 tx.op,.string tx.name,.int .i64 tx.n,.int .i64 tx.ty.kind,.string tx.ty.name,.slice ua un uc,.slice va vn vc,.int .i64 u.op,.string u.name,.int .i64 u.n,.int .i64 u.ty.kind,.string u.ty.name,.slice ta5 tn5 tc5,.slice ma5 mn5 mc5] 28)
   have hO6:=((b7w (x0:=.int .i64 o') (x1:=.string ⟨#[]⟩) (x2:=.int .i64 0) (x3:=.int .i64 0) (x4:=.string ⟨#[]⟩) (x5:=.slice none 0 0) (x6:=.slice (some ⟨w5.heap.size+1,0,none⟩) 2 2) (R:=w.heap.size) hO5 (by omega)).alloc (.cells #[.int .i64 u.op,.string u.name,.int .i64 u.n,.int .i64 u.ty.kind,.string u.ty.name,.slice ta5 tn5 tc5,.slice ma5 mn5 mc5] 28)).alloc (.cells #[.int .i64 tx.op,.string tx.name,.int .i64 tx.n,.int .i64 tx.ty.kind,.string tx.ty.name,.slice ua un uc,.slice va vn vc,.int .i64 u.op,.string u.name,.int .i64 u.n,.int .i64 u.ty.kind,.string u.ty.name,.slice ta5 tn5 tc5,.slice ma5 mn5 mc5] 28)
   clear yt fB hL5 hX5 hO5 au cu
   refine wp_gen (fun w6=>RQ w b n0 s (nd o' [tx,u]) (.slice none 0 0) (.slice (some ⟨w5.heap.size+1,0,none⟩) 2 2) σ' w6∧Blk w6 L 189 [.int .i64 (lvGroup n),.slice (some ⟨g,0,none⟩) (lvSigns n).length (lvSigns n).length,.slice (some ⟨g',0,none⟩) (lvOps n).length (lvOps n).length]∧Blk w6 g 9 ((lvSigns n).map Value.string)∧Blk w6 g' 3 ((lvOps n).map (Value.int .i64))) ⟨q6,hL6,hX6,hO6⟩ ?_
   clear q6 hL6 hX6 hO6
   rintro w6 ⟨q6,hL6,hX6,hO6⟩
   have l0:∀ i,w6.cell? ⟨L,i,none⟩=[.int .i64 (lvGroup n),.slice (some ⟨g,0,none⟩) (lvSigns n).length (lvSigns n).length,.slice (some ⟨g',0,none⟩) (lvOps n).length (lvOps n).length][i]?:=hL6.cell
   have hg1:(lvGroup n != 1)=true:=by rw[HG.out];rfl
   have gR:∀ i,w6.cell? ⟨w.heap.size+1,i,none⟩=[Value.int .i64 0,.string ⟨#[]⟩,.int .i64 0,.int .i64 0,.string ⟨#[]⟩,.slice none 0 0,.slice none 0 0][i]?:=q6.r.cell
   have fR:∀ i,w6.frozen? ⟨w.heap.size+1,i,none⟩=false:=q6.r.frozen
   have yt:∀ i,w6.cell? ⟨w.heap.size,i,none⟩=[Value.int .i64 o',.string ⟨#[]⟩,.int .i64 0,.int .i64 0,.string ⟨#[]⟩,.slice none 0 0,.slice (some ⟨w5.heap.size+1,0,none⟩) 2 2][i]?:=q6.bx.cell
   go_wp2_with fail
   exact q6.fin (t:=nd o' [tx,u]) Tryz.results151 rfl rfl
  | @left k _ u _ _ σ1 σ2 _ o' h0 hne ha hg hT hr=>
   obtain rfl:o'=o:=h0.symm.trans HO.out
   have HG:=Ld hg
   clear gR fR yt h0 hg
   go_wp2_with fail
   refine (adv_ok q3.p ha).mono ?_
   rintro e w4 ⟨rfl,p4,k4⟩
   have hl:=q3.lo
   have q4:=q3.call p4 k4
   have hL4:=hL3.kept k4 (by show ¬ L=b;omega)
   have hX4:=hX3.kept k4 (by show ¬ g=b;omega)
   have hO4:=hO3.kept k4 (by show ¬ g'=b;omega)
   have l0:∀ i,w4.cell? ⟨L,i,none⟩=[.int .i64 (lvGroup n),.slice (some ⟨g,0,none⟩) (lvSigns n).length (lvSigns n).length,.slice (some ⟨g',0,none⟩) (lvOps n).length (lvOps n).length][i]?:=hL4.cell
   have hg2:(lvGroup n==2)=false:=by rw[HG.out];rfl
   have iw:=HIW.out
   have lz:=q4.r.lt
   clear k4 p4 q3 hL3 hX3 hO3
   go_wp2_with fail
   refine (hT b w4 q4.p).mono ?_
   rintro e w5 hrr
   obtain⟨v,rfl,⟨tk5,kk5,rfl,au,cu⟩,p5,k5⟩:=hrr.getOk rfl
   obtain⟨ta5,tn5,tc5,rfl⟩:=au.slice
   obtain⟨ma5,mn5,mc5,rfl⟩:=cu.slice
   clear hrr l0
   unfold tmVal
   have q5:=q4.call p5 k5
   have hL5:=hL4.kept k5 (by show ¬ L=b;omega)
   have hX5:=hX4.kept k5 (by show ¬ g=b;omega)
   have hO5:=hO4.kept k5 (by show ¬ g'=b;omega)
   have lB5:=q5.bx.lt
   have lR5:=q5.r.lt
   have yt:∀ i,w5.cell? ⟨w.heap.size,i,none⟩=[Value.int .i64 tx.op,.string tx.name,.int .i64 tx.n,.int .i64 tx.ty.kind,.string tx.ty.name,.slice ua un uc,.slice va vn vc][i]?:=q5.bx.cell
   have fB:∀ i,w5.frozen? ⟨w.heap.size,i,none⟩=false:=q5.bx.frozen
   clear q4 hL4 hX4 hO4 k5 p5
   go_upto_region 11 with (fail)
   have q6:=q5.two (o:=o') (u:=u) (au.mono (fun q _ h=>by omega)) (cu.mono (fun q _ h=>by omega))
   have hL6:=((b7w (x0:=.int .i64 o') (x1:=.string ⟨#[]⟩) (x2:=.int .i64 0) (x3:=.int .i64 0) (x4:=.string ⟨#[]⟩) (x5:=.slice none 0 0) (x6:=.slice (some ⟨w5.heap.size+1,0,none⟩) 2 2) (R:=w.heap.size) hL5 (by omega)).alloc (.cells #[.int .i64 u.op,.string u.name,.int .i64 u.n,.int .i64 u.ty.kind,.string u.ty.name,.slice ta5 tn5 tc5,.slice ma5 mn5 mc5] 28)).alloc (.cells #[.int .i64 tx.op,.string tx.name,.int .i64 tx.n,.int .i64 tx.ty.kind,.string tx.ty.name,.slice ua un uc,.slice va vn vc,.int .i64 u.op,.string u.name,.int .i64 u.n,.int .i64 u.ty.kind,.string u.ty.name,.slice ta5 tn5 tc5,.slice ma5 mn5 mc5] 28)
   have hX6:=((b7w (x0:=.int .i64 o') (x1:=.string ⟨#[]⟩) (x2:=.int .i64 0) (x3:=.int .i64 0) (x4:=.string ⟨#[]⟩) (x5:=.slice none 0 0) (x6:=.slice (some ⟨w5.heap.size+1,0,none⟩) 2 2) (R:=w.heap.size) hX5 (by omega)).alloc (.cells #[.int .i64 u.op,.string u.name,.int .i64 u.n,.int .i64 u.ty.kind,.string u.ty.name,.slice ta5 tn5 tc5,.slice ma5 mn5 mc5] 28)).alloc (.cells #[.int .i64 tx.op,.string tx.name,.int .i64 tx.n,.int .i64 tx.ty.kind,.string tx.ty.name,.slice ua un uc,.slice va vn vc,.int .i64 u.op,.string u.name,.int .i64 u.n,.int .i64 u.ty.kind,.string u.ty.name,.slice ta5 tn5 tc5,.slice ma5 mn5 mc5] 28)
   have hO6:=((b7w (x0:=.int .i64 o') (x1:=.string ⟨#[]⟩) (x2:=.int .i64 0) (x3:=.int .i64 0) (x4:=.string ⟨#[]⟩) (x5:=.slice none 0 0) (x6:=.slice (some ⟨w5.heap.size+1,0,none⟩) 2 2) (R:=w.heap.size) hO5 (by omega)).alloc (.cells #[.int .i64 u.op,.string u.name,.int .i64 u.n,.int .i64 u.ty.kind,.string u.ty.name,.slice ta5 tn5 tc5,.slice ma5 mn5 mc5] 28)).alloc (.cells #[.int .i64 tx.op,.string tx.name,.int .i64 tx.n,.int .i64 tx.ty.kind,.string tx.ty.name,.slice ua un uc,.slice va vn vc,.int .i64 u.op,.string u.name,.int .i64 u.n,.int .i64 u.ty.kind,.string u.ty.name,.slice ta5 tn5 tc5,.slice ma5 mn5 mc5] 28)
   clear yt fB hL5 hX5 hO5 au cu
   refine wp_gen (fun w6=>RQ w b n0 s (nd o' [tx,u]) (.slice none 0 0) (.slice (some ⟨w5.heap.size+1,0,none⟩) 2 2) σ2 w6∧Blk w6 L 189 [.int .i64 (lvGroup n),.slice (some ⟨g,0,none⟩) (lvSigns n).length (lvSigns n).length,.slice (some ⟨g',0,none⟩) (lvOps n).length (lvOps n).length]∧Blk w6 g 9 ((lvSigns n).map Value.string)∧Blk w6 g' 3 ((lvOps n).map (Value.int .i64))) ⟨q6,hL6,hX6,hO6⟩ ?_
   clear q6 hL6 hX6 hO6
   rintro w6 ⟨q6,hL6,hX6,hO6⟩
   have l0:∀ i,w6.cell? ⟨L,i,none⟩=[.int .i64 (lvGroup n),.slice (some ⟨g,0,none⟩) (lvSigns n).length (lvSigns n).length,.slice (some ⟨g',0,none⟩) (lvOps n).length (lvOps n).length][i]?:=hL6.cell
   have hg1:(lvGroup n != 1)=false:=by rw[HG.out];rfl
   go_wp2_with fail
   go_roundg (k+1)
   case measure=>omega
   case rel=>exact⟨k,nd o' [tx,u],σ2,none,0,0,_,2,2,rfl,hr,q6,hL6,hX6,hO6⟩
theorem p1_ok {b o:Nat} {s:ByteArray} {σ σ':PS} {t:Tm} {w:World} (hT:TO s 1 σ t σ') (h:PW w b s σ) (ho:Blk w o 28 z27) (hob:o≠b) (ho2:4≤o):
  Calls Tryz.prog 93 #[.pointer (some ⟨b,0,none⟩),.pointer (some ⟨o,0,none⟩)] w (fun e w'=>e=.returned (.tuple #[])∧Lies o w.heap.size t w'∧PW w' b s σ'∧Kept (fun k=>k=b∨k=o) w w'):=by
 have hlt:=h.lt
 have holt:=ho.lt
 go_enter Tryz.func93,Tryz.ntmps93
 go_wp2_with fail
 refine (hT b w h).mono ?_
 rintro e w1 hr
 obtain⟨v,rfl,⟨tk,kk,rfl,at1,ct1⟩,p1,k1⟩:=hr.getOk rfl
 clear hr
 obtain⟨ta1,tn1,tc1,rfl⟩:=at1.slice
 obtain⟨ma1,mn1,mc1,rfl⟩:=ct1.slice
 unfold tmVal
 have hO:=ho.kept k1 (by show ¬ o=b;exact hob)
 have gO:∀ i,w1.cell? ⟨o,i,none⟩=[Value.int .i64 0,.string ⟨#[]⟩,.int .i64 0,.int .i64 0,.string ⟨#[]⟩,.slice none 0 0,.slice none 0 0][i]?:=hO.cell
 have fO:∀ i,w1.frozen? ⟨o,i,none⟩=false:=hO.frozen
 go_wp2_with fail
 go_end0
 exact⟨rfl,⟨_,_,r7 hO rfl,at1.frame (same7 holt),ct1.frame (same7 holt)⟩,p7w p1 hob ho2,k7w (k1.mono (fun _ _ h=>Or.inl h)) (Or.inl (Or.inr rfl))⟩
theorem rd_ok {o:Nat} {s:ByteArray} {σ1 σ2:PS} {t:Tm} {w:World} (hs:s.size≤65536) (hgl:Gl w) (ho:Blk w o 28 z27) (ho2:4≤o) (ha:advS s ps0=.ok σ1) (hT:TO s 1 σ1 t σ2) (hk:(σ2.k==0)=true):
  Calls Tryz.prog 92 #[.string s,.func (.func 93) #[] #[.pointer (some ⟨o,0,none⟩)]] w fun e w'=>e=.returned (.tuple #[.int .i64 0,.int .i64 0])∧Kept (·=o) w w'∧Lies o w.heap.size t w':=by
 have hmf:∀ (fn:Fn) (first cap:Array Value) (w:World),(Instr.makeFunc fn first cap).run Tryz.prog w=.ok (.func fn first cap) w:=fun _ _ _ _=>rfl
 have hgt:=hgl.lt
 have i1:(s.size:Int)≤65536:=by omega
 have h0:PW (((w.alloc (.cells #[.int .i64 0] 3)).alloc (.cells #[.int .i64 0] 29)).alloc (.cells #[.string s,.int .i64 0,.int .i64 0,.string ⟨#[]⟩,.int .i64 0,.int .i64 0,.int .i64 0] 153)) (w.heap.size+2) s ps0:=
  ⟨Blk.new' 153 _ (by simp),Nat.zero_le _,Nat.zero_le _,hs,by omega,((hgl.alloc _).alloc _).alloc _,Nat.zero_le _⟩
 have K0:Kept (fun _=>False) w (((w.alloc (.cells #[.int .i64 0] 3)).alloc (.cells #[.int .i64 0] 29)).alloc (.cells #[.string s,.int .i64 0,.int .i64 0,.string ⟨#[]⟩,.int .i64 0,.int .i64 0,.int .i64 0] 153)):=((kR.alloc _).alloc _).alloc _
 have bA:Blk (((w.alloc (.cells #[.int .i64 0] 3)).alloc (.cells #[.int .i64 0] 29)).alloc (.cells #[.string s,.int .i64 0,.int .i64 0,.string ⟨#[]⟩,.int .i64 0,.int .i64 0,.int .i64 0] 153)) w.heap.size 3 [.int .i64 0]:=((Blk.new w 3 [.int .i64 0]).alloc _).alloc _
 have bE:Blk (((w.alloc (.cells #[.int .i64 0] 3)).alloc (.cells #[.int .i64 0] 29)).alloc (.cells #[.string s,.int .i64 0,.int .i64 0,.string ⟨#[]⟩,.int .i64 0,.int .i64 0,.int .i64 0] 153)) (w.heap.size+1) 29 [.int .i64 0]:=(Blk.new' 29 [.int .i64 0] (by simp)).alloc _
 have lo:=ho.lt
 go_enter_defers Tryz.func92,Tryz.ntmps92
 go_wp2_with fail
 refine (adv_ok h0 ha).mono ?_
 rintro e w1 ⟨rfl,p1,k1⟩
 have a1:=bA.kept k1 (by show ¬ w.heap.size=w.heap.size+2;omega)
 have e1:=bE.kept k1 (by show ¬ w.heap.size+1=w.heap.size+2;omega)
 have K1:Kept (fun _=>False) w w1:=K0.via k1 (fun x hx h=>by omega)
 have z1:=p1.lt
 have o1:=ho.kept K1 (fun h=>h)
 go_wp2_with fail
 refine (p1_ok hT p1 o1 (by omega) ho2).mono ?_
 rintro e w2 ⟨rfl,⟨tk,kk,hb,hty,htm⟩,p2,k2⟩
 have a2:=a1.kept k2 (by show ¬ (w.heap.size=w.heap.size+2∨w.heap.size=o);omega)
 have e2:=e1.kept k2 (by show ¬ (w.heap.size+1=w.heap.size+2∨w.heap.size+1=o);omega)
 have K2:Kept (·=o) w w2:=(K1.mono (T:=(·=o)) (fun _ _ h=>h.elim)).via k2 (fun x hx h=>by rcases h with h | h;omega;exact h)
 have c2:=p2.kd
 have ca:=a2.cell 0
 have ce:=e2.cell 0
 have fa:=a2.frozen 0
 have fe:=e2.frozen 0
 have hk0:σ2.k=0:=eq_of_beq hk
 rw[hk0] at c2
 clear hk hk0
 go_wp2_with fail
 refine leaves_cons (f:=145) (args:=#[.pointer (some ⟨w.heap.size,0,none⟩),.pointer (some ⟨w.heap.size+1,0,none⟩)]) (by simp) (by simp[go_sem]) ?_
 refine (rd_idle w.heap.size (w.heap.size+1) _).mono ?_
 rintro e u' w'' ⟨rfl,rfl,rfl⟩
 have a3:=(a2.set 0 (.int .i64 0)).set_other ⟨w.heap.size+1,0,none⟩ (.int .i64 0) (by show w.heap.size≠w.heap.size+1;omega)
 have e3:=(e2.set_other ⟨w.heap.size,0,none⟩ (.int .i64 0) (by show w.heap.size+1≠w.heap.size;omega)).set 0 (.int .i64 0)
 have k3:Kept (fun q=>q=w.heap.size∨q=w.heap.size+1) w2 ((w2.setCell ⟨w.heap.size,0,none⟩ (.int .i64 0)).setCell ⟨w.heap.size+1,0,none⟩ (.int .i64 0)):=((kR.setCell (p:=⟨w.heap.size,0,none⟩) (Or.inl (Or.inl rfl)) _).setCell (p:=⟨w.heap.size+1,0,none⟩) (Or.inl (Or.inr rfl)) _)
 refine⟨_,results_cc Tryz.results92 rfl rfl (load_i a3) (load_e e3),rfl,(K2.setCell (p:=⟨w.heap.size,0,none⟩) (Or.inr (Nat.le_refl _)) _).setCell (p:=⟨w.heap.size+1,0,none⟩) (Or.inr (by show w.heap.size≤w.heap.size+1;omega)) _,tk,kk,hb.kept k3 (by show ¬ (o=w.heap.size∨o=w.heap.size+1);omega),?_,?_⟩
 ·exact (hty.frame (Same.of_kept k3 (fun q hq e=>by omega))).mono (fun q _ h=>by omega)
 ·exact (htm.frame (Same.of_kept k3 (fun q hq e=>by omega))).mono (fun q _ h=>by omega)
theorem parse_ok {s:ByteArray} {σ1 σ2:PS} {t:Tm} {w:World} (hs:s.size≤65536) (hgl:Gl w) (ha:advS s ps0=.ok σ1) (hT:TO s 1 σ1 t σ2) (hk:(σ2.k==0)=true) (hv:validB t=true) (hsm:SmTm big t):
  Calls Tryz.prog 46 #[.string s] w fun e w'=>∃ tv,e=.returned (.tuple #[tv,.int .i64 0,.int .i64 0])∧VTm w.heap.size t w' tv∧Kept (fun _=>False) w w':=by
 have hmf:∀ (fn:Fn) (first cap:Array Value) (w:World),(Instr.makeFunc fn first cap).run Tryz.prog w=.ok (.func fn first cap) w:=fun _ _ _ _=>rfl
 have hgt:=hgl.lt
 have bR:Blk ((w.alloc Z7).alloc Z7) w.heap.size 28 z27:=(Blk.new w 28 _).alloc _
 have bO:Blk ((w.alloc Z7).alloc Z7) (w.heap.size+1) 28 z27:=Blk.new' 28 _ (by simp)
 have K0:Kept (fun _=>False) w ((w.alloc Z7).alloc Z7):=(kR.alloc _).alloc _
 have G0:Gl ((w.alloc Z7).alloc Z7):=(hgl.alloc _).alloc _
 have Z0:Hid (((w.alloc Z7).alloc Z7).heap.size=w.heap.size+2):=Ld (by simp)
 have HRD:=Ld (rd_ok hs G0 bO (by omega) ha hT hk)
 have HSM:=Ld hsm
 have HVB:=Ld hv
 clear hsm hv hT ha hk
 go_enter Tryz.func46,Tryz.ntmps46
 go_wp2_with fail
 refine HRD.out.mono ?_
 rintro e w1 ⟨rfl,k1,tk,kk,bT,hty,htm⟩
 rw[Z0.out] at hty htm
 obtain⟨ta,tn,tc,rfl⟩:=hty.slice
 obtain⟨ma,mn,mc,rfl⟩:=htm.slice
 have bR1:=bR.kept k1 (by show ¬ w.heap.size=w.heap.size+1;omega)
 have K1:=K0.via k1 (fun x hx e=>by omega)
 have yT:∀ i,w1.cell? ⟨w.heap.size+1,i,none⟩=[Value.int .i64 t.op,.string t.name,.int .i64 t.n,.int .i64 t.ty.kind,.string t.ty.name,.slice ta tn tc,.slice ma mn mc][i]?:=bT.cell
 have HV:=Ld (valid_any hty htm HSM.out)
 rw[HVB.out] at HV
 go_wp2_with fail
 refine HV.out.mono ?_
 rintro e w2 ⟨rfl,k2⟩
 have bR2:=bR1.kept k2 (fun h=>h)
 have bT2:=bT.kept k2 (fun h=>h)
 have K2:=K1.trans k2
 have l2:=bT2.lt
 clear yT
 have yT:∀ i,w2.cell? ⟨w.heap.size+1,i,none⟩=[Value.int .i64 t.op,.string t.name,.int .i64 t.n,.int .i64 t.ty.kind,.string t.ty.name,.slice ta tn tc,.slice ma mn mc][i]?:=bT2.cell
 have HC:=Ld (clone_any (valid_bd HVB.out) w2 _ _ _ (hty.frame (sK k2)) (htm.frame (sK k2)))
 go_wp2_with fail
 refine HC.out.mono ?_
 rintro e w3 ⟨v,u,rfl,hv3,hu3,k3⟩
 obtain⟨va,vn,vc,rfl⟩:=hv3.slice
 obtain⟨ua,un,uc,rfl⟩:=hu3.slice
 unfold tmVal
 have BR:=Ld (bR2.kept k3 (fun h=>h))
 have KP:=Ld (K2.trans k3)
 have V3:=Ld hv3
 have U3:=Ld hu3
 have gR:∀ i,w3.cell? ⟨w.heap.size,i,none⟩=[Value.int .i64 0,.string ⟨#[]⟩,.int .i64 0,.int .i64 0,.string ⟨#[]⟩,.slice none 0 0,.slice none 0 0][i]?:=BR.out.cell
 have fR:∀ i,w3.frozen? ⟨w.heap.size,i,none⟩=false:=BR.out.frozen
 clear bR1 K1 bR2 K2 bT bT2 hv3 hu3 yT
 go_wp2_with fail
 exact bodyPost_ret (results_ctt Tryz.results46 rfl (load_tm (t:=t) (r7 BR.out rfl))) rfl ⟨_,rfl,⟨_,_,rfl,(V3.out.frame (set7' (g:=w.heap.size) (fun q h=>by omega))).mono (fun q _ h=>by omega),(U3.out.frame (set7' (g:=w.heap.size) (fun q h=>by omega))).mono (fun q _ h=>by omega)⟩,k7w KP.out (Or.inr (Nat.le_refl _))⟩
def awkS:ByteArray:=⟨#[120,32,43,32,49,32,60,61,32,99,97,114,100,40,115,41]⟩
def awX:Tm:=.mk 20 ⟨#[120]⟩ 0 ty0 []
def aw1:Tm:=.mk 19 nil0 1 ty0 []
def awS:Tm:=.mk 20 ⟨#[115]⟩ 0 ty0 []
def awAdd:Tm:=nd 22 [awX,aw1]
def awCard:Tm:=nd 47 [awS]
def awT:Tm:=nd 13 [awAdd,awCard]
def nxS (σ:PS):PS:=match advS awkS σ with | .ok q=>q | .error _=>σ
def g1:PS:=nxS ps0
def g2:PS:=nxS g1
def g3:PS:=nxS g2
def g4:PS:=nxS g3
def g5:PS:=nxS g4
def g6:PS:=nxS g5
def g7:PS:=match openS awkS g6 kLpar with | .ok q=>q | .error _=>g6
def g8:PS:=nxS g7
def g9:PS:=match shutS awkS g8 kRpar with | .ok q=>q | .error _=>g8
theorem dn {n:Nat} (hn:lvOK n) {s:ByteArray} {σ σ':PS} {t:Tm} (h:TO s (n+1) σ t σ') (ho:opOf n σ'=0):TO s n σ t σ':=to_n hn h (ro_any hn (.stop ho))
theorem lv_in (n:Nat) (h:(1≤n∧n≤4)∨(6≤n∧n≤12)):lvOK n:=by unfold lvOK;omega
theorem at13 {s:ByteArray} {σ σ':PS} {t:Tm} (hm:isS σ kMinus=false) (hA:AO s σ t σ') (h:(isS σ' kLpar||isS σ' kLbr||isS σ' kTilde)=false):TO s 13 σ t σ':=by
 simp only[Bool.or_eq_false_iff] at h
 exact to_13 hm hA (fo_stop h.1.1 h.1.2 h.2)
theorem to7 {s:ByteArray} {σ σ':PS} {t:Tm} (h:TO s 13 σ t σ') (ho:[7,8,9,10,11,12].all (fun n=>opOf n σ'==0)=true):TO s 7 σ t σ':=by
 simp only[List.all_cons,List.all_nil,Bool.and_true,Bool.and_eq_true,beq_iff_eq] at ho
 exact dn (lv_in 7 (by omega)) (dn (lv_in 8 (by omega)) (dn (lv_in 9 (by omega)) (dn (lv_in 10 (by omega)) (dn (lv_in 11 (by omega)) (dn (lv_in 12 (by omega)) h ho.2.2.2.2.2) ho.2.2.2.2.1) ho.2.2.2.1) ho.2.2.1) ho.2.1) ho.1
theorem to1 {s:ByteArray} {σ σ':PS} {t:Tm} (hn:isS σ kNot=false) (h:TO s 6 σ t σ') (ho:[1,2,3,4].all (fun n=>opOf n σ'==0)=true):TO s 1 σ t σ':=by
 simp only[List.all_cons,List.all_nil,Bool.and_true,Bool.and_eq_true,beq_iff_eq] at ho
 exact dn (lv_in 1 (by omega)) (dn (lv_in 2 (by omega)) (dn (lv_in 3 (by omega)) (dn (lv_in 4 (by omega)) (to_5 hn h) ho.2.2.2) ho.2.2.1) ho.2.1) ho.1
theorem aw_x:TO awkS 13 g1 awX g2:=by
 refine at13 (by kernel_rfl) (ao_word (by kernel_rfl) (by kernel_rfl) ?_) (by kernel_rfl)
 rw[show awX=.mk 20 g1.tx 0 ty0 [] by kernel_rfl]
 exact wo_name (by kernel_rfl) (by kernel_rfl)
theorem aw_1:TO awkS 13 g3 aw1 g4:=by
 refine at13 (by kernel_rfl) ?_ (by kernel_rfl)
 rw[show aw1=.mk 19 nil0 g3.n ty0 [] by kernel_rfl]
 exact ao_num (by kernel_rfl) (by kernel_rfl)
theorem aw_s:TO awkS 1 g7 awS g8:=by
 refine to1 (by kernel_rfl) (dn (lv_in 6 (by omega)) (to7 (at13 (by kernel_rfl) (ao_word (by kernel_rfl) (by kernel_rfl) ?_) (by kernel_rfl)) (by kernel_rfl)) (by kernel_rfl)) (by kernel_rfl)
 rw[show awS=.mk 20 g7.tx 0 ty0 [] by kernel_rfl]
 exact wo_name (by kernel_rfl) (by kernel_rfl)
theorem aw_card:TO awkS 13 g5 awCard g9:=by
 refine at13 (by kernel_rfl) (ao_word (by kernel_rfl) (by kernel_rfl) ?_) (by kernel_rfl)
 rw[show awCard=nd (functionN g5.tx) [awS] by kernel_rfl]
 exact wo_fun (σ1:=g6) (by kernel_rfl) (by kernel_rfl) (by kernel_rfl) (io_any (σ1:=g7) (by kernel_rfl) aw_s (of_decide_eq_true (by kernel_rfl)) (by kernel_rfl))
theorem aw_add:TO awkS 7 g1 awAdd g4:=
 dn (lv_in 7 (by omega)) (dn (lv_in 8 (by omega)) (dn (lv_in 9 (by omega)) (dn (lv_in 10 (by omega)) (to_n (lv_in 11 (by omega)) (dn (lv_in 12 (by omega)) aw_x (by kernel_rfl))
  (ro_any (lv_in 11 (by omega)) (.left (o:=22) (σ1:=g3) (by kernel_rfl) rfl (by kernel_rfl) (by kernel_rfl) (dn (lv_in 12 (by omega)) aw_1 (by kernel_rfl)) (.stop (by kernel_rfl))))) (by kernel_rfl)) (by kernel_rfl)) (by kernel_rfl)) (by kernel_rfl)
theorem aw_all:TO awkS 1 g1 awT g9:=
 to1 (by kernel_rfl) (to_n (lv_in 6 (by omega)) aw_add (ro_any (lv_in 6 (by omega)) (.never (o:=13) (σ1:=g5) (by kernel_rfl) rfl (by kernel_rfl) (by kernel_rfl) (to7 aw_card (by kernel_rfl))))) (by kernel_rfl)
theorem awk_V:validB awT=true:=by kernel_rfl
def awOut:List UInt8:=[40,120,32,43,32,49,41,32,60,61,32,99,97,114,100,40,115,41]
theorem pc_x:PC awX [120]:=pt_name (nm:=⟨#[120]⟩) (N:=0) (ty:=ty0) (kl:=[])
theorem pc_s:PC awS [115]:=pt_name (nm:=⟨#[115]⟩) (N:=0) (ty:=ty0) (kl:=[])
theorem pc_1:PC aw1 [49]:=pt_int (nm:=nil0) (N:=1) (ty:=ty0) (kl:=[]) (ds:=⟨#[49]⟩) (fun W=>(Tryz.strconv_Itoa_small 1 (by decide) W).mono fun e w' ⟨q1,q2⟩=>⟨by rw[q1,fx5],q2.symm⟩)
theorem oc_x:OC awX [120]:=by
 have h:=operand_any pc_x
 rw[show parS awX.op [120]=[120] by kernel_rfl] at h
 exact h
theorem oc_1:OC aw1 [49]:=by
 have h:=operand_any pc_1
 rw[show parS aw1.op [49]=[49] by kernel_rfl] at h
 exact h
theorem pc_add:PC awAdd [120,32,43,32,49]:=pt_bin (t:=awAdd) rfl (by kernel_rfl) oc_x oc_1
theorem oc_add:OC awAdd [40,120,32,43,32,49,41]:=by
 have h:=operand_any pc_add
 rw[show parS awAdd.op [120,32,43,32,49]=[40,120,32,43,32,49,41] by kernel_rfl] at h
 exact h
theorem pc_kid:∀ i (h:i<[awS].length),PC [awS][i] ((fun _=>[115]:Nat→List UInt8) i):=by
 intro i h
 have h1:i=0:=by have:i<1:=h;omega
 subst h1
 exact pc_s
theorem pc_card:PC awCard [99,97,114,100,40,115,41]:=pt_card (nm:=nil0) (N:=0) (ty:=ty0) (kl:=[awS]) (list_one (kl:=[awS]) (O:=fun _=>[115]) pc_kid (by decide))
theorem oc_card:OC awCard [99,97,114,100,40,115,41]:=by
 have h:=operand_any pc_card
 rw[show parS awCard.op [99,97,114,100,40,115,41]=[99,97,114,100,40,115,41] by kernel_rfl] at h
 exact h
theorem pc_aw:PC awT awOut:=pt_bin (t:=awT) rfl (by kernel_rfl) oc_add oc_card
theorem sm_aw:SmTm big awT:=by
 have h0:∀ (n:ByteArray),n.size≤big→∀ (o i:Int),SmTm big (.mk o n i ty0 []):=fun n hn o i=>.mk hn (sm_ty0 _) (fun k h=>by cases h)
 exact sm_nd (all2 (sm_nd (all2 (h0 _ (by decide) _ _) (h0 _ (by decide) _ _))) (sm_nd (all1 (h0 _ (by decide) _ _))))
theorem awake_any (w:World) (hgl:Gl w):Calls Tryz.prog 15 #[] w fun e w'=>e=.returned (.bool true)∧Kept (fun _=>False) w w':=by
 have HP:Hid (Calls Tryz.prog 46 #[.string ⟨#[120,32,43,32,49,32,60,61,32,99,97,114,100,40,115,41]⟩] w fun e w'=>∃ tv,e=.returned (.tuple #[tv,.int .i64 0,.int .i64 0])∧VTm w.heap.size awT w' tv∧Kept (fun _=>False) w w'):=Ld (parse_ok (s:=awkS) (by decide) hgl (by kernel_rfl:advS awkS ps0=.ok g1) aw_all (by kernel_rfl) awk_V (sm_aw))
 go_enter Tryz.func15,Tryz.ntmps15
 go_wp2_with fail
 refine HP.out.mono ?_
 rintro e w1 ⟨tv,rfl,⟨tk,kk,rfl,hty,htm⟩,k1⟩
 obtain⟨ta,tn,tc,rfl⟩:=hty.slice
 obtain⟨ma,mn,mc,rfl⟩:=htm.slice
 have hmn:mn=2:=htm.len
 subst hmn
 have HF:Hid (Calls Tryz.prog 47 #[.agg #[.int .i64 13,.string nil0,.int .i64 0,.int .i64 0,.string ⟨#[]⟩,.slice ta tn tc,.slice ma 2 mc]] (w1.alloc (.cells #[.int .i64 13,.string nil0,.int .i64 0,.int .i64 0,.string ⟨#[]⟩,.slice ta tn tc,.slice ma 2 mc] 28)) fun e w'=>e=.returned (.string ⟨awOut.toArray⟩)∧Kept (fun _=>False) (w1.alloc (.cells #[.int .i64 13,.string nil0,.int .i64 0,.int .i64 0,.string ⟨#[]⟩,.slice ta tn tc,.slice ma 2 mc] 28)) w'):=Ld (format_ok (t:=awT) (hty.frame (Same.alloc w1 _)) (htm.frame (Same.alloc w1 _)) pc_aw awk_V sm_aw (by decide) (by decide))
 have K1:Kept (fun _=>False) w (w1.alloc (.cells #[.int .i64 13,.string nil0,.int .i64 0,.int .i64 0,.string ⟨#[]⟩,.slice ta tn tc,.slice ma 2 mc] 28)):=k1.alloc _
 clear hty htm
 have htv:tmVal awT (.slice ta tn tc) (.slice ma 2 mc)=.agg #[.int .i64 13,.string nil0,.int .i64 0,.int .i64 0,.string ⟨#[]⟩,.slice ta tn tc,.slice ma 2 mc]:=rfl
 rw[htv]
 clear htv
 have HN:Hid (nil0=⟨#[]⟩):=Ld rfl
 generalize nil0=nl at *
 go_wp2_with fail
 refine HF.out.mono ?_
 rintro e w2 ⟨rfl,k2⟩
 have K2:=K1.trans k2
 have e1:((⟨awOut.toArray⟩:ByteArray).toList==[40,120,32,43,32,49,41,32,60,61,32,99,97,114,100,40,115,41])=true:=by kernel_rfl
 generalize (⟨awOut.toArray⟩:ByteArray)=ao at *
 have bS:Blk (w2.alloc (.cells #[.string ⟨#[120,49,50]⟩,.string ⟨#[120,49]⟩] 9)) w2.heap.size 9 [.string ⟨#[120,49,50]⟩,.string ⟨#[120,49]⟩]:=Blk.new w2 9 _
 have HX:=Ld (fresh_x _ w2.heap.size (bS.cell 0) (bS.cell 1))
 go_wp2_with fail
 refine HX.out.mono ?_
 rintro e w3 ⟨rfl,k3⟩
 go_wp2_with fail
 go_ret
 exact⟨rfl,(K2.alloc _).trans k3⟩
end Go.Proofs.YtfhedienjnfdcaaGreatDoor
namespace Go.Proofs.YtfhedienjnfdcaaGreatDoor
open Go.ChangeShapes Go.WideShapes Go.ChangeAt Go.RowKit
theorem own0:ownKnob Tryz.prog.godebug=none:=by kernel_rfl
def EsOk (w:World) (e:Ending) (w':World):Prop:=e=.returned (.bool true)∧Kept (fun _=>False) w w'
end Go.Proofs.YtfhedienjnfdcaaGreatDoor
namespace Go.Proofs.YtfhedienjnfdcaaGreatDoor
open Go.RowKit
structure VS (w:World) (op:Int) (nm:ByteArray) (N:Int) (ty:Ty) (v:Value) (O b0:Nat) (E:List E3) (u:Value) (W:World):Prop where
 kp:Kept (fun _=>False) w W
 rb:Blk W (w.heap.size+1) 28 z27
 o:Blk W O 28 [.int .i64 op,.string nm,.int .i64 N,.int .i64 ty.kind,.string ty.name,v,.slice none 0 0]
 ho:w.heap.size+2≤O∧O<b0∧b0≤W.heap.size
 ty:TyL (fun q=>w.heap.size+2≤q∧q≠O∧q<b0) W ty.kids v
 own:W.ownsRow b0 28 7 u E.length (flat E)
 el:EL (fun q=>q≠O∧q≠w.heap.size+1∧u.ownBlock≠some q) W E
section
variable {w W W1 w5 w6:World} {op:Int} {nm:ByteArray} {N:Int} {ty:Ty} {v u:Value} {O b0:Nat} {E:List E3}
theorem VS.start {ak bk:Value} (h:CT w op nm N ty ak bk v O w5) (hE:EL (fun q=>q<w.heap.size) w E) (hg:(w5.alloc (.cells #[] 28)).grownBy w6 (some w5.heap.size)) (own6:w6.ownsRow w5.heap.size 28 7 u E.length (flat E)):VS w op nm N ty v O w5.heap.size E u w6:=by
 have kG:=kept_grown1 hg
 have l5:=h.o.lt
 have hw:=h.kp.size
 have hho:=h.ho
 have e1:∀ x,some w5.heap.size=some x→x=w5.heap.size:=fun x e=>(Option.some.inj e).symm
 have k6:Kept (fun q=>q=w5.heap.size) w5 w6:=((Kept.refl (fun q=>q=w5.heap.size) w5).alloc _).via1 kG (fun x hx e=>e1 x e)
 have kw:Kept (fun _=>False) w w6:=h.kp.via1 k6 (fun x hx e=>by omega)
 exact⟨kw,h.r.kept k6 (fun e=>by omega),h.o.kept k6 (fun e=>by omega),⟨h.ho,l5,k6.size⟩,(h.ty.mono (ok':=fun q=>w.heap.size+2≤q∧q≠O∧q<w5.heap.size) (fun q hq h=>⟨h.1,h.2,hq⟩)).frame (Same.of_kept k6 (fun q hq e=>by omega)),own6,
  (hE.frame (sK kw)).mono (fun q _ hq=>⟨by omega,by omega,fun e=>by have:=(World.ownsRow.lt own6 q e).1;omega⟩)⟩
theorem VS.kept (h:VS w op nm N ty v O b0 E u W) (k:Kept (fun _=>False) W W1):VS w op nm N ty v O b0 E u W1:=
 ⟨h.kp.trans k,h.rb.kept k (fun h=>h),h.o.kept k (fun h=>h),⟨h.ho.1,h.ho.2.1,Nat.le_trans h.ho.2.2 k.size⟩,h.ty.frame (sK k),own_keptT h.own k (fun _ _ h=>h),h.el.frame (sK k)⟩
theorem VS.name (h:VS w op nm N ty v O b0 E u W) (s:ByteArray):VS w op s N ty v O b0 E u (W.setCell ⟨O,1,none⟩ (.string s)):=by
 have kS:Kept (fun q=>q=O) W (W.setCell ⟨O,1,none⟩ (.string s)):=(Kept.refl (fun q=>q=O) W).setCell (p:=⟨O,1,none⟩) (Or.inl rfl) _
 obtain⟨h1,h2,h3⟩:=h.ho
 exact⟨h.kp.setCell (p:=⟨O,1,none⟩) (Or.inr (by show w.heap.size≤O;omega)) _,h.rb.kept kS (fun e=>by omega),h.o.set 1 (.string s),⟨h1,h2,Nat.le_trans h3 kS.size⟩,h.ty.frame (Same.of_kept kS (fun q hq e=>hq.2.1 e)),own_keptT h.own kS (fun g hg e=>by have:=(World.ownsRow.lt h.own g hg).1;omega),h.el.frame (Same.of_kept kS (fun q hq e=>hq.1 e))⟩
theorem VS.body {g c B:Nat} {d y z:Tm} {dk dm yk ym zk zm:Value} (h:VS w op nm N ty v O b0 [(d,dk,dm),(y,yk,ym)] (.slice (some ⟨g,0,none⟩) 2 c) W) (hB:b0≤B∧g<B) (h1:TyL (fun q=>B≤q) W z.ty.kids zk) (h2:TmL (fun q=>B≤q) W z.kids zm) (W3:World)
  (hW:W3=((((((W.setCell ⟨g,7,none⟩ (.int .i64 z.op)).setCell ⟨g,8,none⟩ (.string z.name)).setCell ⟨g,9,none⟩ (.int .i64 z.n)).setCell ⟨g,10,none⟩ (.int .i64 z.ty.kind)).setCell ⟨g,11,none⟩ (.string z.ty.name)).setCell ⟨g,12,none⟩ zk).setCell ⟨g,13,none⟩ zm):
  VS w op nm N ty v O b0 [(d,dk,dm),(z,zk,zm)] (.slice (some ⟨g,0,none⟩) 2 c) W3:=by
 have lg:=(World.ownsRow.lt h.own g rfl).1
 obtain⟨l1,l2,l3⟩:=h.ho
 have kS:Kept (fun q=>q=g) W W3:=by
  rw[hW]
  exact (((((((Kept.refl (fun q=>q=g) W).setCell (p:=⟨g,7,none⟩) (Or.inl rfl) _).setCell (p:=⟨g,8,none⟩) (Or.inl rfl) _).setCell (p:=⟨g,9,none⟩) (Or.inl rfl) _).setCell (p:=⟨g,10,none⟩) (Or.inl rfl) _).setCell (p:=⟨g,11,none⟩) (Or.inl rfl) _).setCell (p:=⟨g,12,none⟩) (Or.inl rfl) _).setCell (p:=⟨g,13,none⟩) (Or.inl rfl) _
 have own3:W3.ownsRow b0 28 7 (.slice (some ⟨g,0,none⟩) 2 c) 2 (flat [(d,dk,dm),(z,zk,zm)]):=by
  rw[hW]
  exact (((((((World.ownsRow.stored h.own 7 (.int .i64 z.op)).1.stored 8 (.string z.name)).1.stored 9 (.int .i64 z.n)).1.stored 10 (.int .i64 z.ty.kind)).1.stored 11 (.string z.ty.name)).1.stored 12 zk).1.stored 13 zm).1
 refine⟨h.kp.via1 kS (fun x hx e=>by have:=h.kp.size;omega),h.rb.kept kS (fun e=>by omega),h.o.kept kS (fun e=>by omega),⟨l1,l2,Nat.le_trans l3 kS.size⟩,h.ty.frame (Same.of_kept kS (fun q hq e=>by omega)),own3,fun e he=>?_⟩
 rcases List.mem_cons.1 he with rfl | he
 ·have:=h.el _ (List.mem_cons_self ..)
  exact⟨this.1.frame (Same.of_kept kS (fun q hq e=>hq.2.2 (by rw[e];rfl))),this.2.frame (Same.of_kept kS (fun q hq e=>hq.2.2 (by rw[e];rfl)))⟩
 ·rw[List.mem_singleton.1 he]
  exact⟨(h1.frame (Same.of_kept kS (fun q hq e=>by omega))).mono (fun q _ hq=>⟨by omega,by omega,fun e=>by have:g=q:=Option.some.inj e;omega⟩),(h2.frame (Same.of_kept kS (fun q hq e=>by omega))).mono (fun q _ hq=>⟨by omega,by omega,fun e=>by have:g=q:=Option.some.inj e;omega⟩)⟩
structure VL (w:World) (op:Int) (nm:ByteArray) (N:Int) (ty:Ty) (v:Value) (O b0 base:Nat) (K:List E3) (ku:Value) (E:List E3) (W:World) (U:Value):Prop where
 row:RowT w base W E U
 rb:Blk W (w.heap.size+1) 28 z27
 o:Blk W O 28 [.int .i64 op,.string nm,.int .i64 N,.int .i64 ty.kind,.string ty.name,v,U]
 ho:w.heap.size+2≤O∧O<b0∧b0≤base∧base≤W.heap.size
 ty:TyL (fun q=>w.heap.size+2≤q∧q≠O∧q<b0) W ty.kids v
 kown:W.ownsRow b0 28 7 ku K.length (flat K)
 kel:EL (fun q=>q≠O∧q<base) W K
 kb:∀ g,ku.ownBlock=some g→g<base
theorem VL.start (h:VS w op nm N ty v O b0 E u W):VL w op nm N ty v O b0 W.heap.size E u [] W (.slice none 0 0):=
 ⟨RowT.nil h.kp,h.rb,h.o,⟨h.ho.1,h.ho.2.1,h.ho.2.2,Nat.le_refl _⟩,h.ty,h.own,h.el.mono (fun q hq ho=>⟨ho.1,hq⟩),fun g hg=>(World.ownsRow.lt h.own g hg).2⟩
variable {K:List E3} {ku U U8:Value} {base:Nat} {W8:World} {E8:List E3}
theorem VL.kept (h:VL w op nm N ty v O b0 base K ku E W U) (k:Kept (fun _=>False) W W1):VL w op nm N ty v O b0 base K ku E W1 U:=
 ⟨h.row.kept k,h.rb.kept k (fun h=>h),h.o.kept k (fun h=>h),⟨h.ho.1,h.ho.2.1,h.ho.2.2.1,Nat.le_trans h.ho.2.2.2 k.size⟩,h.ty.frame (sK k),own_keptT h.kown k (fun _ _ h=>h),h.kel.frame (sK k),h.kb⟩
theorem VL.kids (h:VL w op nm N ty v O b0 base K ku E W U):TmL (fun _=>True) W (K.map (·.1)) ku:=
 tml_of_row' h.kown (h.kel.mono (fun _ _ _=>trivial)) (fun g hg=>trivial)
theorem VL.step (h:VL w op nm N ty v O b0 base K ku E W U) (hg:W.grownBy W8 U.ownBlock) (hr:RowT w base W8 E8 U8):
  Blk W8 O 28 [.int .i64 op,.string nm,.int .i64 N,.int .i64 ty.kind,.string ty.name,v,U]∧VL w op nm N ty v O b0 base K ku E8 (W8.setCell ⟨O,6,none⟩ U8) U8:=by
 have kG:=kept_grown1 hg
 have hub:∀ x,U.ownBlock=some x→base≤x:=fun x e=>(h.row.own.lt x e).1
 have hub8:∀ x,U8.ownBlock=some x→base≤x:=fun x e=>(hr.own.lt x e).1
 obtain⟨h1,h2,h3,h4⟩:=h.ho
 have bO:=h.o.kept kG (fun e=>by have:=hub O e;omega)
 have kS:Kept (fun q=>q=O) W8 (W8.setCell ⟨O,6,none⟩ U8):=(Kept.refl (fun q=>q=O) W8).setCell (p:=⟨O,6,none⟩) (Or.inl rfl) _
 refine⟨bO,⟨⟨hr.kp.via1 kS (fun x hx e=>by omega),own_keptT hr.own kS (fun g hg e=>by have:=hub8 g hg;omega),hr.el.frame (Same.of_kept kS (fun q hq e=>by have:=hq.1;omega))⟩,?_,bO.set 6 _,⟨h1,h2,h3,Nat.le_trans h4 (Nat.le_trans kG.size kS.size)⟩,?_,?_,?_,h.kb⟩⟩
 ·exact (h.rb.kept kG (fun e=>by have:=hub _ e;omega)).kept kS (fun e=>by omega)
 ·exact (h.ty.frame (Same.of_kept kG (fun q hq e=>by have:=hub q e;omega))).frame (Same.of_kept kS (fun q hq e=>hq.2.1 e))
 ·exact own_keptT (own_keptT h.kown kG (fun g hg e=>by have:=hub g e;have:=h.kb g hg;omega)) kS (fun g hg e=>by have:=(World.ownsRow.lt h.kown g hg).1;omega)
 ·exact (h.kel.frame (Same.of_kept kG (fun q hq e=>by have:=hub q e;omega))).frame (Same.of_kept kS (fun q hq e=>hq.1 e))
end
def insS (s:ByteArray):List ByteArray→List ByteArray
 | []=>[s]
 | x::r=>if Op.bytesLess x.toList s.toList then x::insS s r else if x=s then x::r else s::x::r
def srtS (out:List ByteArray):List ByteArray→List ByteArray
 | []=>out
 | s::l=>srtS (insS s out) l
theorem insS_len (s:ByteArray):∀ (l:List ByteArray),l.length≤(insS s l).length∧(insS s l).length≤l.length+1
 | []=>⟨Nat.zero_le _,Nat.le_refl _⟩
 | x::r=>by
  rw[insS]
  have:=insS_len s r
  split
  ·simp only[List.length_cons];omega
  ·split
   ·simp
   ·simp
theorem insS_mb (s t:ByteArray):∀ (l:List ByteArray),mb t (insS s l)=(decide (s=t)||mb t l)
 | []=>by rw[insS];unfold mb;rw[List.any_cons]
 | x::r=>by
  rw[insS]
  have ih:=insS_mb s t r
  unfold mb at ih ⊢
  split
  ·rw[List.any_cons,ih,List.any_cons]
   cases decide (x=t) <;> cases decide (s=t) <;> rfl
  ·split
   ·rename_i _ h
    subst h
    rw[List.any_cons]
    cases decide (x=t) <;> rfl
   ·rw[List.any_cons,List.any_cons]
theorem srtS_mb (t:ByteArray):∀ (l out:List ByteArray),mb t (srtS out l)=(mb t out||mb t l)
 | [],out=>by rw[srtS];simp[mb]
 | s::l,out=>by
  rw[srtS,srtS_mb t l,insS_mb]
  have:mb t (s::l)=(decide (s=t)||mb t l):=by unfold mb;rw[List.any_cons]
  rw[this]
  cases mb t out <;> cases decide (s=t) <;> rfl
theorem srtS_len:∀ (l out:List ByteArray),(srtS out l).length≤out.length+l.length
 | [],out=>Nat.le_refl _
 | s::l,out=>by
  rw[srtS,List.length_cons]
  have:=srtS_len l (insS s out)
  have:=(insS_len s out).2
  omega
theorem insS_skip (s:ByteArray):∀ (l:List ByteArray) (k:Nat),(∀ j (h:j<l.length),j<k→Op.bytesLess l[j].toList s.toList=true)→insS s l=l.take k++insS s (l.drop k)
 | l,0,_=>rfl
 | [],k+1,_=>rfl
 | x::r,k+1,h=>by
  have h0:Op.bytesLess x.toList s.toList=true:=h 0 (by simp) (by omega)
  rw[insS,if_pos h0,insS_skip s r k (fun j hj hk=>h (j+1) (by simpa using hj) (by omega))]
  rfl
theorem insS_end {s:ByteArray} {l:List ByteArray} {k:Nat} (hk:l.length≤k) (h:∀ j (h:j<l.length),j<k→Op.bytesLess l[j].toList s.toList=true):insS s l=l.take k++s::l.drop k:=by
 rw[insS_skip s l k h,List.drop_eq_nil_of_le hk,insS]
theorem insS_eq {s:ByteArray} {l:List ByteArray} {k:Nat} (hk:k<l.length) (h:∀ j (h:j<l.length),j<k→Op.bytesLess l[j].toList s.toList=true) (hn:Op.bytesLess l[k].toList s.toList=false) (he:l[k]=s):insS s l=l:=by
 rw[insS_skip s l k h,List.drop_eq_getElem_cons hk,insS,hn]
 simp only[Bool.false_eq_true,if_false]
 rw[if_pos he,← List.drop_eq_getElem_cons hk,List.take_append_drop]
theorem insS_ne {s:ByteArray} {l:List ByteArray} {k:Nat} (hk:k<l.length) (h:∀ j (h:j<l.length),j<k→Op.bytesLess l[j].toList s.toList=true) (hn:Op.bytesLess l[k].toList s.toList=false) (he:l[k]≠s):insS s l=l.take k++s::l.drop k:=by
 rw[insS_skip s l k h,List.drop_eq_getElem_cons hk,insS,hn]
 simp only[Bool.false_eq_true,if_false]
 rw[if_neg he]
theorem gap_set {l:List ByteArray} {z:ByteArray} {j:Nat} (hj:j+1≤l.length):(l.take (j+1)++z::l.drop (j+1)).set (j+1) (l[j]'(by omega))=l.take j++(l[j]'(by omega))::l.drop j:=by
 have h1:(l.take (j+1)).length=j+1:=List.length_take_of_le hj
 rw[List.set_append_right _ _ (by omega),h1,Nat.sub_self,List.set_cons_zero,List.drop_eq_getElem_cons (show j<l.length by omega),List.take_succ_eq_append_getElem (show j<l.length by omega),List.append_assoc]
 rfl
theorem gap_get {l:List ByteArray} {z:ByteArray} {j:Nat} (hj:j+1≤l.length):(l.take (j+1)++z::l.drop (j+1))[j]?=some (l[j]'(by omega)):=by
 have h1:(l.take (j+1)).length=j+1:=List.length_take_of_le hj
 rw[List.getElem?_append_left (by omega),List.getElem?_take,if_pos (by omega),List.getElem?_eq_getElem (by omega)]
theorem gap_fill {l:List ByteArray} {z s:ByteArray} {k:Nat} (hk:k≤l.length):(l.take k++z::l.drop k).set k s=l.take k++s::l.drop k:=by
 have h1:(l.take k).length=k:=List.length_take_of_le hk
 rw[List.set_append_right _ _ (by omega),h1,Nat.sub_self,List.set_cons_zero]
theorem gap_len {l:List ByteArray} {z:ByteArray} {k:Nat} (hk:k≤l.length):(l.take k++z::l.drop k).length=l.length+1:=by
 rw[List.length_append,List.length_take_of_le hk,List.length_cons,List.length_drop];omega
theorem srtS_drop {out l:List ByteArray} {m:Nat} (h:m<l.length):srtS out (l.drop m)=srtS (insS l[m] out) (l.drop (m+1)):=by
 rw[List.drop_eq_getElem_cons h,srtS]
theorem own_get {W:World} {base g n cap:Nat} {L:List ByteArray} (h:W.ownsRow base 9 1 (.slice (some ⟨g,0,none⟩) n cap) n (L.map Value.string)) {j:Nat} (hj:j<n) {s:ByteArray} (hs:L[j]?=some s):W.cell? ⟨g,j,none⟩=some (.string s):=by
 rw[h.cellAt j (by omega),List.getElem?_map,hs];rfl
theorem own_put {w W:World} {base g n cap:Nat} {L:List ByteArray} (k:Kept (fun _=>False) w W) (hb:w.heap.size≤base) (h:W.ownsRow base 9 1 (.slice (some ⟨g,0,none⟩) n cap) n (L.map Value.string)) (j:Nat) (s:ByteArray):
  (W.setCell ⟨g,j,none⟩ (.string s)).ownsRow base 9 1 (.slice (some ⟨g,0,none⟩) n cap) n ((L.set j s).map Value.string)∧Kept (fun _=>False) w (W.setCell ⟨g,j,none⟩ (.string s)):=by
 have h2:=(h.lt g rfl).1
 exact⟨by rw[List.map_set];exact (h.stored j (.string s)).1,k.setCell (p:=⟨g,j,none⟩) (Or.inr (by show w.heap.size≤g;omega)) _⟩
theorem rsort_any {ok:Nat→Prop} {w:World} {l:List ByteArray} {v:Value} (h:NmL ok w l v) (hn:l.length≤1000000):
  Calls Tryz.prog 182 #[v] w fun e w'=>∃ v',e=.returned v'∧NRow w w.heap.size w' (srtS [] l) v':=by
 obtain⟨i9,hi9,hz9,hs9,hb9⟩:=info_str
 have HI:=Ld hi9
 have HZ:=Ld hz9
 have HS:=Ld hs9
 have HB:=Ld hb9
 obtain⟨a,c,rfl⟩:=h.slice
 have HAT:=Ld (fun W (k:Kept (fun _=>False) w W)=>(h.frame (sK k)).at)
 have HN:=Ld hn
 clear h hi9 hz9 hs9 hb9 hn
 go_enter Tryz.func182,Tryz.ntmps182
 go_wp2_with fail
 go_loopw [3,4,5,6] (fun v i x y wr=>∃ (m:Nat) (out:List ByteArray),m≤l.length∧i=.int .i64 m∧NRow w w.heap.size wr out v∧Hid (srtS [] l=srtS out (l.drop m)∧out.length≤m)) (fun v i x y _=>l.length-(intOf i).toNat)
 case atStart=>exact⟨0,[],Nat.zero_le _,rfl,⟨Kept.refl _ _,World.ownsRow_nil _ _ _ _⟩,Ld ⟨rfl,Nat.le_refl _⟩⟩
 case round=>
  obtain⟨m,out,hml,rfl,hR,hq⟩:=hrel
  obtain⟨va,vc,hv⟩:=hR.nml.slice
  subst hv
  have R:=Ld hR
  clear hR
  by_cases hlt:m<l.length
  ·have i1:(m:Int)<(l.length:Int):=by omega
   have i2:(m:Int)<1000000:=by have:=HN.out;omega
   have HD:=Ld (srtS_drop (out:=out) hlt)
   have HOL:=Ld hq.out.2
   have HQ1:=Ld hq.out.1
   obtain⟨g,off,had,_,_⟩:=HAT.out wr R.out.kp m hlt
   subst had
   have HS0:=Ld (fun W (k:Kept (fun _=>False) w W)=>(by obtain⟨g',off',e,_,h⟩:=HAT.out W k m hlt;cases e;exact h:W.cell? ⟨g,off+m,none⟩=some (.string l[m])))
   clear hq
   generalize hs:l[m]=s at *
   clear hs
   go_wp2_with fail
   go_loopw [5] (fun x wr'=>∃ k:Nat,k≤out.length∧x=.int .i64 k∧NRow w w.heap.size wr' out (.slice va out.length vc)∧Hid (∀ j (h:j<out.length),j<k→Op.bytesLess out[j].toList s.toList=true)) (fun x _=>out.length-(intOf x).toNat)
   case atStart=>exact⟨0,Nat.zero_le _,rfl,R.out,Ld (fun j _ h=>absurd h (Nat.not_lt_zero _))⟩
   case round=>
    obtain⟨k,hkl,rfl,hR2,hless⟩:=hrel
    have R2:=Ld hR2
    have c0:=HS0.out _ hR2.kp
    clear hR2
    by_cases hko:k<out.length
    ·have k1:(k:Int)<(out.length:Int):=by omega
     have k2:(k:Int)<1000000:=by have:=HN.out;have:=HOL.out;omega
     have t1:decide ((k:Int)<(out.length:Int))=true:=decide_eq_true k1
     obtain⟨g2,off2,had2,_,c2⟩:=R2.out.nml.at k hko
     subst had2
     obtain⟨x,hx⟩:∃ x,x=out[k]:=⟨_,rfl⟩
     have HX:=Ld hx
     rw[← hx] at c2
     clear hx
     cases hlo:Op.bytesLess x.toList s.toList
     ·go_upto_region 6 with (fail)
      go_quiet (fail)
      have kd:Kept (fun _=>False) wr (World.drewN wr nq):=kR.drewN nq
      generalize World.drewN wr nq=wd at *
      have Rd:=Ld (NRow.mk (R2.out.kp.trans kd) (own_keptT R2.out.own kd (fun _ _ h=>h)))
      have c0d:=HS0.out _ Rd.out.kp
      have c2d:wd.cell? ⟨g2,off2+k,none⟩=some (.string x):=by rw[kd.cell (p:=⟨g2,off2+k,none⟩) (cell_lt c2) (fun h=>h)];exact c2
      clear kd c0 c2
      cases heq:(x.toList==s.toList)
      ·have HNE:Hid (x≠s):=Ld (by rw[nm_eq] at heq;exact of_decide_eq_false heq)
       go_upto_region 8 with (fail)
       go_quiet (fail)
       have kd:Kept (fun _=>False) wd (World.drewN wd nq):=kR.drewN nq
       have R3:=Ld (NRow.mk (Rd.out.kp.trans kd) (own_keptT Rd.out.own kd (fun _ _ h=>h)))
       generalize World.drewN wd nq=w3 at *
       clear kd c0d c2d Rd heq t1
       have HINS:Hid (insS s out=out.take k++s::out.drop k):=Ld (insS_ne hko hless.out (by rw[← HX.out];exact hlo) (by rw[← HX.out];exact HNE.out))
       clear hless
       have HKL:=Ld hkl
       clear hkl
       clear hlo HX HNE hko k1 k2
       go_wp2_with (at_builtin;refine wpList_app_src rfl (.tmp 45) (.tmp 46) _ rfl w.heap.size 9 i9 _ 1 16 Tryz.underlying41 HI.out HZ.out HS.out HB.out rfl (by decide) (.slice (some ⟨g2,off2,none⟩) out.length vc) out.length (out.map Value.string) rfl (R3.out.own.alloc _) (.slice (some ⟨w3.heap.size,0,none⟩) 1 1) 1 [.string ⟨#[]⟩] rfl (.inr ⟨_,_,rfl,cell_one_new _ _ _⟩) rfl (strs_one [⟨#[]⟩]) ?_ ?_ ?_ ?_)
       ·have:=HOL.out;have:=HN.out;unfold maxLen;omega
       ·have:=HOL.out;have:=HN.out;omega
       ·have:=R3.out.kp.size;simp;omega
       intro v4 w4 own4 hg4 hat4
       have R4:NRow w w.heap.size w4 (out++[⟨#[]⟩]) v4:=NRow.app (W:=w3.alloc (.cells #[.string ⟨#[]⟩] 9)) (r:=[⟨#[]⟩]) ⟨R3.out.kp.alloc _,R3.out.own.alloc _⟩ (Nat.le_refl _) own4 hg4
       clear own4 hg4 hat4
       obtain⟨g4,cap4,hv4⟩:∃ g4 cap4,v4=.slice (some ⟨g4,0,none⟩) (out.length+1) cap4:=by
        rcases R4.own.2 with ⟨_,hn⟩ | ⟨g',cap',cur,hv,_⟩
        ·simp at hn
        ·exact⟨g',cap',by rw[hv];simp⟩
       subst hv4
       have O4:Hid (w4.ownsRow w.heap.size 9 1 (.slice (some ⟨g4,0,none⟩) (out.length+1) cap4) (out.length+1) ((out.take out.length++(⟨#[]⟩:ByteArray)::out.drop out.length).map Value.string)):=Ld (by
        have h:=R4.own
        rw[List.length_append,List.length_singleton] at h
        rw[List.take_length,List.drop_length]
        exact h)
       have K4:=Ld R4.kp
       clear R4 R3 R2
       have j0:((out.length+1:Nat):Int)-1=(out.length:Int):=by omega
       have jb:(out.length:Int)<1000000:=by have:=HOL.out;have:=HN.out;omega
       go_wp2_with fail
       go_loopw [6] (fun y wr'=>∃ (j:Nat) (z:ByteArray),k≤j∧j≤out.length∧y=.int .i64 j∧Kept (fun _=>False) w wr'∧Hid (wr'.ownsRow w.heap.size 9 1 (.slice (some ⟨g4,0,none⟩) (out.length+1) cap4) (out.length+1) ((out.take j++z::out.drop j).map Value.string))) (fun y _=>(intOf y).toNat)
       case atStart=>exact⟨out.length,⟨#[]⟩,HKL.out,Nat.le_refl _,by go_num,K4.out,O4⟩
       case round=>
        obtain⟨j,z,hkj,hjo,rfl,kr,HO⟩:=hrel
        have KR:=Ld kr
        have f4:∀ i,wr.frozen? ⟨g4,i,none⟩=false:=HO.out.frozenAt
        have l4:g4<wr.heap.size:=(HO.out.lt g4 rfl).2
        have c0:=HS0.out _ kr
        clear kr
        by_cases hj:k<j
        ·obtain⟨j',hjj⟩:∃ j',j=j'+1:=⟨j-1,by omega⟩
         have hx1:(out.take j++z::out.drop j)[j']?=some (out[j']'(by omega)):=by subst hjj;exact gap_get hjo
         have x1:wr.cell? ⟨g4,j',none⟩=some (.string (out[j']'(by omega))):=own_get HO.out (by omega) hx1
         have x2:wr.cell? ⟨g4,j,none⟩=some (.string z):=own_get HO.out (by omega) (by have h1:(out.take j).length=j:=List.length_take_of_le hjo;rw[List.getElem?_append_right (by omega),h1,Nat.sub_self];rfl)
         have HP:=Ld (own_put KR.out (Nat.le_refl _) HO.out j (out[j']'(by omega)))
         have hg:(out.take j++z::out.drop j).set j (out[j']'(by omega))=out.take j'++(out[j']'(by omega))::out.drop j':=by subst hjj;exact gap_set hjo
         rw[hg] at HP
         generalize hu:out[j']'(by omega)=u at *
         have j1:(j:Int)-1=(j':Int):=by omega
         have j2:(k:Int)<(j:Int):=by omega
         have j3:(j':Int)<(out.length:Int)+1:=by omega
         have j4:(j:Int)<(out.length:Int)+1:=by omega
         have j5:(j:Int)<1000001:=by omega
         have HJJ:=Ld hjj
         clear hu HO c0 hx1 hg hjj
         go_wp2_with fail
         go_roundw
         case rel=>exact⟨j',u,by have:=HJJ.out;omega,by have:=HJJ.out;omega,by go_num,HP.out.2,Ld HP.out.1⟩
         case measure=>have:=HJJ.out;simp[intOf];omega
        ·obtain rfl:j=k:=by omega
         have x2:wr.cell? ⟨g4,j,none⟩=some (.string z):=own_get HO.out (by omega) (by have h1:(out.take j).length=j:=List.length_take_of_le hjo;rw[List.getElem?_append_right (by omega),h1,Nat.sub_self];rfl)
         have HP:=Ld (own_put KR.out (Nat.le_refl _) HO.out j s)
         rw[gap_fill hjo,← HINS.out] at HP
         have j4:(j:Int)<(out.length:Int)+1:=by omega
         have HLN:Hid (out.length+1=(insS s out).length):=Ld (by rw[HINS.out,gap_len hjo])
         clear HO
         go_wp2_with fail
         go_roundw
         case rel=>exact⟨m+1,insS s out,by omega,by go_num,⟨HP.out.2,by have h:=HP.out.1;rw[HLN.out] at h;rw[← HLN.out] at h ⊢;exact h⟩,Ld ⟨by rw[HQ1.out,HD.out],by have:=(insS_len s out).2;have:=HOL.out;omega⟩⟩
         case measure=>simp[intOf];omega
      ·have hye:x=s:=by rw[nm_eq] at heq;exact of_decide_eq_true heq
       have HSAME:Hid (insS s out=out):=Ld (insS_eq hko hless.out (by rw[← HX.out];exact hlo) (by rw[← HX.out];exact hye))
       go_upto_region 8 with (fail)
       go_quiet (fail)
       have kd:Kept (fun _=>False) wd (World.drewN wd nq):=kR.drewN nq
       have R3:=Ld (NRow.mk (Rd.out.kp.trans kd) (own_keptT Rd.out.own kd (fun _ _ h=>h)))
       generalize World.drewN wd nq=w3 at *
       clear kd c0d c2d Rd heq hye t1
       go_wp2_with fail
       go_roundw
       case rel=>exact⟨m+1,out,by omega,by go_num,R3.out,Ld ⟨by rw[HQ1.out,HD.out,HSAME.out],by have:=HOL.out;omega⟩⟩
       case measure=>simp[intOf];omega
     ·go_upto_region 6 with (fail)
      go_quiet (fail)
      have kd:Kept (fun _=>False) wr (World.drewN wr nq):=kR.drewN nq
      have Rd:=Ld (NRow.mk (R2.out.kp.trans kd) (own_keptT R2.out.own kd (fun _ _ h=>h)))
      generalize World.drewN wr nq=wd at *
      clear kd c0 c2 t1
      go_wp2_with fail
      go_roundw
      case rel=>exact⟨k+1,by omega,by go_num,Rd.out,Ld (fun j hj hjk=>by
       by_cases e:j<k
       ·exact hless.out j hj e
       ·obtain rfl:j=k:=by omega
        rw[← HX.out];exact hlo)⟩
      case measure=>simp[intOf];omega
    ·have t1:decide ((k:Int)<(out.length:Int))=false:=by simp;omega
     have hko':out.length≤k:=by omega
     go_upto_region 6 with (fail)
     go_quiet (fail)
     have kd:Kept (fun _=>False) wr (World.drewN wr nq):=kR.drewN nq
     have Rd:=Ld (NRow.mk (R2.out.kp.trans kd) (own_keptT R2.out.own kd (fun _ _ h=>h)))
     generalize World.drewN wr nq=wd at *
     clear kd c0
     go_upto_region 8 with (fail)
     go_quiet (fail)
     have kd:Kept (fun _=>False) wd (World.drewN wd nq):=kR.drewN nq
     have R3:=Ld (NRow.mk (Rd.out.kp.trans kd) (own_keptT Rd.out.own kd (fun _ _ h=>h)))
     generalize World.drewN wd nq=w3 at *
     clear kd Rd t1
     have HINS:Hid (insS s out=out.take k++s::out.drop k):=Ld (insS_end hko' hless.out)
     clear hless
     have HKL:=Ld hkl
     clear hkl
     clear hko hko'
     go_wp2_with (at_builtin;refine wpList_app_src rfl (.tmp 45) (.tmp 46) _ rfl w.heap.size 9 i9 _ 1 16 Tryz.underlying41 HI.out HZ.out HS.out HB.out rfl (by decide) (.slice va out.length vc) out.length (out.map Value.string) rfl (R3.out.own.alloc _) (.slice (some ⟨w3.heap.size,0,none⟩) 1 1) 1 [.string ⟨#[]⟩] rfl (.inr ⟨_,_,rfl,cell_one_new _ _ _⟩) rfl (strs_one [⟨#[]⟩]) ?_ ?_ ?_ ?_)
     ·have:=HOL.out;have:=HN.out;unfold maxLen;omega
     ·have:=HOL.out;have:=HN.out;omega
     ·have:=R3.out.kp.size;simp;omega
     intro v4 w4 own4 hg4 hat4
     have R4:NRow w w.heap.size w4 (out++[⟨#[]⟩]) v4:=NRow.app (W:=w3.alloc (.cells #[.string ⟨#[]⟩] 9)) (r:=[⟨#[]⟩]) ⟨R3.out.kp.alloc _,R3.out.own.alloc _⟩ (Nat.le_refl _) own4 hg4
     clear own4 hg4 hat4
     obtain⟨g4,cap4,hv4⟩:∃ g4 cap4,v4=.slice (some ⟨g4,0,none⟩) (out.length+1) cap4:=by
      rcases R4.own.2 with ⟨_,hn⟩ | ⟨g',cap',cur,hv,_⟩
      ·simp at hn
      ·exact⟨g',cap',by rw[hv];simp⟩
     subst hv4
     have O4:Hid (w4.ownsRow w.heap.size 9 1 (.slice (some ⟨g4,0,none⟩) (out.length+1) cap4) (out.length+1) ((out.take out.length++(⟨#[]⟩:ByteArray)::out.drop out.length).map Value.string)):=Ld (by
      have h:=R4.own
      rw[List.length_append,List.length_singleton] at h
      rw[List.take_length,List.drop_length]
      exact h)
     have K4:=Ld R4.kp
     clear R4 R3 R2
     have j0:((out.length+1:Nat):Int)-1=(out.length:Int):=by omega
     have jb:(out.length:Int)<1000000:=by have:=HOL.out;have:=HN.out;omega
     go_wp2_with fail
     go_loopw [6] (fun y wr'=>∃ (j:Nat) (z:ByteArray),k≤j∧j≤out.length∧y=.int .i64 j∧Kept (fun _=>False) w wr'∧Hid (wr'.ownsRow w.heap.size 9 1 (.slice (some ⟨g4,0,none⟩) (out.length+1) cap4) (out.length+1) ((out.take j++z::out.drop j).map Value.string))) (fun y _=>(intOf y).toNat)
     case atStart=>exact⟨out.length,⟨#[]⟩,HKL.out,Nat.le_refl _,by go_num,K4.out,O4⟩
     case round=>
      obtain⟨j,z,hkj,hjo,rfl,kr,HO⟩:=hrel
      have KR:=Ld kr
      have f4:∀ i,wr.frozen? ⟨g4,i,none⟩=false:=HO.out.frozenAt
      have l4:g4<wr.heap.size:=(HO.out.lt g4 rfl).2
      have c0:=HS0.out _ kr
      clear kr
      by_cases hj:k<j
      ·obtain⟨j',hjj⟩:∃ j',j=j'+1:=⟨j-1,by omega⟩
       have hx1:(out.take j++z::out.drop j)[j']?=some (out[j']'(by omega)):=by subst hjj;exact gap_get hjo
       have x1:wr.cell? ⟨g4,j',none⟩=some (.string (out[j']'(by omega))):=own_get HO.out (by omega) hx1
       have x2:wr.cell? ⟨g4,j,none⟩=some (.string z):=own_get HO.out (by omega) (by have h1:(out.take j).length=j:=List.length_take_of_le hjo;rw[List.getElem?_append_right (by omega),h1,Nat.sub_self];rfl)
       have HP:=Ld (own_put KR.out (Nat.le_refl _) HO.out j (out[j']'(by omega)))
       have hg:(out.take j++z::out.drop j).set j (out[j']'(by omega))=out.take j'++(out[j']'(by omega))::out.drop j':=by subst hjj;exact gap_set hjo
       rw[hg] at HP
       generalize hu:out[j']'(by omega)=u at *
       have j1:(j:Int)-1=(j':Int):=by omega
       have j2:(k:Int)<(j:Int):=by omega
       have j3:(j':Int)<(out.length:Int)+1:=by omega
       have j4:(j:Int)<(out.length:Int)+1:=by omega
       have j5:(j:Int)<1000001:=by omega
       have HJJ:=Ld hjj
       clear hu HO c0 hx1 hg hjj
       go_wp2_with fail
       go_roundw
       case rel=>exact⟨j',u,by have:=HJJ.out;omega,by have:=HJJ.out;omega,by go_num,HP.out.2,Ld HP.out.1⟩
       case measure=>have:=HJJ.out;simp[intOf];omega
      ·obtain rfl:j=k:=by omega
       have x2:wr.cell? ⟨g4,j,none⟩=some (.string z):=own_get HO.out (by omega) (by have h1:(out.take j).length=j:=List.length_take_of_le hjo;rw[List.getElem?_append_right (by omega),h1,Nat.sub_self];rfl)
       have HP:=Ld (own_put KR.out (Nat.le_refl _) HO.out j s)
       rw[gap_fill hjo,← HINS.out] at HP
       have j4:(j:Int)<(out.length:Int)+1:=by omega
       have HLN:Hid (out.length+1=(insS s out).length):=Ld (by rw[HINS.out,gap_len hjo])
       clear HO
       go_wp2_with fail
       go_roundw
       case rel=>exact⟨m+1,insS s out,by omega,by go_num,⟨HP.out.2,by have h:=HP.out.1;rw[HLN.out] at h;rw[← HLN.out] at h ⊢;exact h⟩,Ld ⟨by rw[HQ1.out,HD.out],by have:=(insS_len s out).2;have:=HOL.out;omega⟩⟩
       case measure=>simp[intOf];omega
  ·have hmm:m=l.length:=by omega
   subst hmm
   have HE:Hid (srtS [] l=out):=Ld (by rw[hq.out.1,List.drop_length,srtS])
   go_wp2_with fail
   go_ret
   exact⟨_,rfl,by rw[HE.out];exact R.out⟩
def freS (t:Tm):List ByteArray:=if validB t then srtS [] (fr t) else []
theorem freS_mb {t:Tm} (h:validB t=true) (s:ByteArray):mb s (freS t)=mb s (fr t):=by
 unfold freS;rw[h];simp only[if_true];rw[srtS_mb];simp[mb]
theorem freS_len (t:Tm):(freS t).length≤700000:=by
 unfold freS
 split
 ·rename_i h
  have h1:=srtS_len (fr t) []
  have h2:=frs_len t
  have h3:=((valid_iff t).1 h).2.1
  simp at h1
  omega
 ·simp
theorem rFree_any {t:Tm} {ok:Nat→Prop} {w:World} {tk kk:Value} (h1:TyL ok w t.ty.kids tk) (h2:TmL ok w t.kids kk) (hs:SmTm big t):
  Calls Tryz.prog 125 #[tmVal t tk kk] w fun e w'=>∃ v',e=.returned v'∧NRow w w.heap.size w' (freS t) v':=by
 obtain⟨a,n,c,rfl⟩:=h1.slice
 obtain⟨ma,mn,mc,rfl⟩:=h2.slice
 have K0:Kept (fun _=>False) w (w.alloc (.cells #[.int .i64 t.op,.string t.name,.int .i64 t.n,.int .i64 t.ty.kind,.string t.ty.name,.slice a n c,.slice ma mn mc] 28)):=kR.alloc _
 have BA:=Ld (Blk.new w 28 [.int .i64 t.op,.string t.name,.int .i64 t.n,.int .i64 t.ty.kind,.string t.ty.name,.slice a n c,.slice ma mn mc])
 change Hid (Blk (w.alloc (.cells #[.int .i64 t.op,.string t.name,.int .i64 t.n,.int .i64 t.ty.kind,.string t.ty.name,.slice a n c,.slice ma mn mc] 28)) _ _ _) at BA
 have HV:=Ld (rvalid_any (h1.frame (sK K0)) (h2.frame (sK K0)) hs)
 have HF:=Ld (fun (hv:validB t=true) W (k:Kept (fun _=>False) w W)=>rfree_any (valid_bd hv) [] W ok (fun _=>True) _ _ _ (h1.frame (sK k)) (h2.frame (sK k)) .nil (by have:=((valid_iff t).1 hv).2.2;simp;omega) (by have:=((valid_iff t).1 hv).2.1;omega))
 rw[frL_nil] at HF
 have HK:=Ld K0
 have HFL:Hid (validB t=true→(fr t).length≤1000000):=Ld (fun hv=>by have h2:=frs_len t;have h3:=((valid_iff t).1 hv).2.1;omega)
 have HQ:Hid (freS t=if validB t then srtS [] (fr t) else []):=Ld rfl
 clear h1 h2 hs K0
 unfold tmVal at HF ⊢
 generalize freS t=q at *
 generalize fr t=F at *
 go_enter Tryz.func125,Tryz.ntmps125
 go_wp2_with fail
 generalize w.alloc (.cells #[.int .i64 t.op,.string t.name,.int .i64 t.n,.int .i64 t.ty.kind,.string t.ty.name,.slice a n c,.slice ma mn mc] 28)=w1 at *
 refine HV.out.mono ?_
 rintro e w2 ⟨rfl,k2⟩
 have K2:=Ld (HK.out.trans k2)
 have B2:=Ld (BA.out.kept k2 (fun h=>h))
 clear k2 HV HK BA
 cases hv:validB t
 ·have HE:Hid (q=[]):=Ld (by rw[HQ.out,hv];rfl)
  clear HF HFL HQ hv
  go_wp2_with fail
  go_ret
  exact⟨_,rfl,by rw[HE.out];exact⟨K2.out,World.ownsRow_nil _ _ _ _⟩⟩
 ·have HE:Hid (q=srtS [] F):=Ld (by rw[HQ.out,hv];rfl)
  have HF2:=Ld (HF.out hv w2 K2.out)
  have HL2:=Ld (HFL.out hv)
  have gA:∀ i,w2.cell? ⟨w.heap.size,i,none⟩=[Value.int .i64 t.op,.string t.name,.int .i64 t.n,.int .i64 t.ty.kind,.string t.ty.name,.slice a n c,.slice ma mn mc][i]?:=B2.out.cell
  clear HF HFL HQ hv
  go_wp2_with fail
  clear gA
  refine HF2.out.mono ?_
  rintro e w3 ⟨v3,rfl,h3⟩
  obtain⟨xa,xc,hv3⟩:=h3.nml.slice
  subst hv3
  have HS:=Ld (rsort_any h3.nml HL2.out)
  have K3:=Ld (K2.out.trans h3.kp)
  clear h3 HF2
  go_wp2_with fail
  refine HS.out.mono ?_
  rintro e w4 ⟨v4,rfl,h4⟩
  obtain⟨ya,yc,hv4⟩:=h4.nml.slice
  subst hv4
  have R4:Hid (NRow w w.heap.size w4 (srtS [] F) (.slice ya (srtS [] F).length yc)):=Ld ⟨K3.out.trans h4.kp,own_base h4.own (fun g hg=>by have h5:=(h4.own.lt g hg).1;have h6:=K3.out.size;omega)⟩
  clear h4 HS
  go_wp2_with fail
  go_ret
  exact⟨_,rfl,by rw[HE.out];exact R4.out⟩
theorem varK_at {g:Tm→Nat→Tm×Nat}:∀ {ks:List Tm} {i:Nat},(∀ t∈ks,∀ j,(g t j).2≤j+tmN t)→(varK g ks i).2≤i+tmNs ks
 | [],i,h=>Nat.le_refl _
 | t::ks,i,h=>by
  rw[varK,tmNs]
  have h1:=h t (by simp) i
  have h2:=varK_at (i:=(g t i).2) (fun t ht=>h t (List.mem_cons_of_mem _ ht))
  show (varK g ks (g t i).2).2≤_
  omega
theorem varK_drop {g:Tm→Nat→Tm×Nat} {ks:List Tm} {k a:Nat} (h:k<ks.length):varK g (ks.drop k) a=((g ks[k] a).1::(varK g (ks.drop (k+1)) (g ks[k] a).2).1,(varK g (ks.drop (k+1)) (g ks[k] a).2).2):=by
 rw[List.drop_eq_getElem_cons h,varK]
theorem tmNs_drop {ks:List Tm} {k:Nat} (h:k<ks.length):tmNs (ks.drop k)=tmN ks[k]+tmNs (ks.drop (k+1)):=by
 rw[List.drop_eq_getElem_cons h,tmNs]
theorem var_body {l:List Int} {i:Nat} {op:Int} {nm:ByteArray} {N:Int} {ty:Ty} {d y:Tm} (h:OkTm (.mk op nm N ty [d,y])) (hb:binderB op=true) (hM:tmN y≤700000):
  OkTm (subT freshS y [(nm,nameT (varZ l nm y i))])∧tmN (subT freshS y [(nm,nameT (varZ l nm y i))])=tmN y∧tmD (subT freshS y [(nm,nameT (varZ l nm y i))])=tmD y∧identB (varZ l nm y i)=true:=by
 have hy:OkTm y:=h.kid (by simp[Tm.kids])
 have hid:=formed_ident h.formed hb
 have hz1:=varZ_ident (l:=l) (i:=i) hid hM
 have hz2:=fun s hs hn=>varZ_not (l:=l) (nm:=nm) (body:=y) (i:=i) hM (s:=s) hs hn
 obtain⟨h1,h2⟩:=sub1_size hy (ident_named hz1) hz2 hM
 exact⟨sub1_ok hy (ident_named hz1) hM,h1,h2,hz1⟩
theorem varF_at (l:List Int):∀ (f:Nat) (t:Tm) (i:Nat),OkTm t→tmN t≤700000→tmD t≤f→(varF l f t i).2≤i+tmN t:=by
 intro f
 induction f with
 | zero=>intro t i _ _ h;rw[varF];omega
 | succ f ih=>
  intro t i h hM hD
  cases t with
  | mk op nm N ty ks=>
   rw[tmN] at hM ⊢
   rw[tmD] at hD
   rw[varF]
   cases hb:binderB op
   ·simp only[Bool.false_eq_true,if_false]
    have:=varK_at (g:=varF l f) (i:=i) (ks:=ks) (fun t ht j=>ih t j (h.kid ht) (by have:=(tmD_kid ht).2;omega) (by have:=(tmD_kid ht).1;omega))
    omega
   ·simp only[if_true]
    have e2:=binder_kids hb (formed_parts h.formed).1
    match ks,e2 with
    | [d,y],_=>
     have eg:([d,y]:List Tm).getD 1 (nameT nm)=y:=rfl
     rw[eg]
     simp only[tmNs] at hM ⊢
     simp only[tmDs] at hD
     obtain⟨h1,h2,h3,_⟩:=var_body (l:=l) (i:=i) h hb (by omega)
     generalize subT freshS y [(nm,nameT (varZ l nm y i))]=y' at *
     have:=varK_at (g:=varF l f) (i:=i+1) (ks:=([d,y]:List Tm).set 1 y') (fun t ht j=>by
      have ht:t∈[d,y']:=ht
      rcases List.mem_cons.1 ht with rfl | ht
      ·exact ih _ j (h.kid (by simp[Tm.kids])) (by omega) (by omega)
      ·rw[List.mem_singleton.1 ht]
       exact ih _ j h1 (by omega) (by omega))
     have e3:tmNs (([d,y]:List Tm).set 1 y')=tmN d+(tmN y'+0):=rfl
     rw[e3] at this
     show (varK (varF l f) (([d,y]:List Tm).set 1 y') (i+1)).2≤_
     omega
theorem exL_mb (s x:ByteArray) (L:List ByteArray):mb s (exL L x)=(mb s L&&!decide (s=x)):=by
 rw[Bool.eq_iff_iff,mb_iff,exL_mem,Bool.and_eq_true,mb_iff]
 simp
theorem varZ_free {l:List Int} {nm:ByteArray} {y:Tm} {i:Nat} (hv:validB y=true):freshS (wordV nm (pickV l i)) (exL (freS y) nm)=varZ l nm y i:=by
 unfold varZ
 exact freshS_ext (fun s=>by rw[exL_mb,exL_mb,freS_mb hv]) _
theorem pickV_lt (l:List Int) (i:Nat):pickV l i<8:=by
 unfold pickV
 split
 ·omega
 ·have:=Int.emod_lt_of_pos (l.getD (i % l.length) 0) (show (0:Int)<8 by omega)
  have:=Int.emod_nonneg (l.getD (i % l.length) 0) (show (8:Int)≠0 by omega)
  omega
end Go.Proofs.YtfhedienjnfdcaaGreatDoor
