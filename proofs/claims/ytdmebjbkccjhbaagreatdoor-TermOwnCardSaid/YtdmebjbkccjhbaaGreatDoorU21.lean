/- A part. -/
import Derived.Test.YtdmebjbkccjhbaaGreatDoorU20
import Derived.Test.YtdmebjbkccjhbaaGreatDoorRows
import Derived.Test.YtdmebjbkccjhbaaGreatDoorCards
import Derived.Test.YtdmebjbkccjhbaaGreatDoorTie
import Derived.Deep.DeepLaidRun
import Derived.ProofKit
import Derived.OpenShut
import Derived.Deep.DeepHandedRow
import Derived.Stop.LaidErr
import Derived.LaidLaws
import Derived.ChangeMaps5
set_option linter.unusedVariables false
set_option linter.unusedSimpArgs false
set_option maxRecDepth 100000
set_option maxHeartbeats 32000000
namespace Go.Proofs.YtdmebjbkccjhbaaGreatDoor
open Go.RowKit
variable {bz:Nat}
structure RS2 (w:World) (ce:List Value) (W:World):Prop where
 kp:Kept (fun _=>False) w W
 a:Blk W w.heap.size 27 ce
 r:Blk W (w.heap.size+1) 27 z27
theorem RS2.kept {w W W':World} {ce:List Value} (h:RS2 w ce W) (q:Kept (fun _=>False) W W'):RS2 w ce W':=⟨h.kp.trans q,h.a.kept q (fun e=>e),h.r.kept q (fun e=>e)⟩
theorem bnl_one' {W:World} {g:Nat} {nm:ByteArray} {u:Tm} {tk kk:Value} {ok:Nat→Prop} (hb:Blk W g 38 (bCells ((nm,u),tk,kk))) (h1:TyL bz ok W u.ty.kids tk) (h2:TmL bz ok W u.kids kk):BnL bz (fun _=>True) W [(nm,u)] (.slice (some ⟨g,0,none⟩) 1 1):=by
 have h:W.ownsRow 0 38 8 (.slice (some ⟨g,0,none⟩) 1 1) 1 (flatB [((nm,u),tk,kk)]):=⟨rfl,.inr ⟨g,1,_,rfl,Nat.zero_le _,hb,by omega,by unfold maxLen;omega,rfl,rfl⟩⟩
 exact bnl_of_row (E:=[((nm,u),tk,kk)]) h (fun e he=>by rw[List.mem_singleton.1 he];exact⟨h1.mono (fun _ _ _=>trivial),h2.mono (fun _ _ _=>trivial)⟩) (fun _ _=>trivial)
abbrev xO:ByteArray:=⟨#[120]⟩
def CpO (bz:Nat) (t:Tm) (w:World) (e:Ending) (w':World):Prop:=∃ tk kk,e=.returned (tmVal t tk kk)∧TyL bz (fun q=>w.heap.size≤q) w' t.ty.kids tk∧TmL bz (fun q=>w.heap.size≤q) w' t.kids kk∧Kept (fun _=>False) w w'
theorem cpo_of {t:Tm} {w:World} {e:Ending} {w':World} (h:CpyP bz t w e w'):CpO bz t w e w':=by
 obtain⟨tk,E,kk,h1,h2,R,hm⟩:=h
 have hu:=R.tml
 rw[hm] at hu
 exact⟨tk,kk,h1,h2.mono (fun _ _ q=>q.1),hu,R.kp⟩
theorem cpg_any {t:Tm} (hb:BgTm t) {ok:Nat→Prop} {w:World} {tk kk:Value} (h1:TyL bz ok w t.ty.kids tk) (h2:TmL bz ok w t.kids kk):Calls Tryz.prog 26 #[tmVal t tk kk] w (CpO bz t w):=
 (rcopy_anyG hb w ok tk kk h1 h2).mono fun _ _ h=>cpo_of h
theorem cpd_any {t:Tm} (hb:BdTm t) {ok:Nat→Prop} {w:World} {tk kk:Value} (h1:TyL bz ok w t.ty.kids tk) (h2:TmL bz ok w t.kids kk):Calls Tryz.prog 26 #[tmVal t tk kk] w (CpO bz t w):=
 (rcopy_any hb w ok tk kk h1 h2).mono fun _ _ h=>cpo_of h
theorem sbst1_z {t u:Tm} {nm:ByteArray} {tk kk tk' kk':Value} {ok ok':Nat→Prop} {W:World} {g:Nat} (hnm:nm.size≤maxLen) (h1:TyL bz ok W t.ty.kids tk) (h2:TmL bz ok W t.kids kk) (ht:SmTm big t) (hb:Blk W g 38 (bCells ((nm,u),tk',kk'))) (h3:TyL bz ok' W u.ty.kids tk') (h4:TmL bz ok' W u.kids kk') (hu:SmTm big u) (hp:P10 W):
  Calls Tryz.prog 18 #[tmVal t tk kk,.slice (some ⟨g,0,none⟩) 1 1] W (TmB bz W.heap.size (sbstR t [(nm,u)]) W):=
 subst_any h1 h2 ht (bnl_one' hb h3 h4) (fun b hb=>by rw[List.mem_singleton.1 hb];exact hu) (fun b hb=>by rw[List.mem_singleton.1 hb];exact hnm) (by show 1≤200;decide) hp
def CopV (bz:Nat) (w1:World) (t:Tm) (v:Value) (W:World):Prop:=∃ x1 x2 x3 y1 y2 y3,v=.agg #[.int .i64 t.op,.string t.name,.int .i64 t.n,.int .i64 t.ty.kind,.string t.ty.name,.slice x1 x2 x3,.slice y1 y2 y3]∧TyL bz (fun q=>w1.heap.size≤q) W t.ty.kids (.slice x1 x2 x3)∧TmL bz (fun q=>w1.heap.size≤q) W t.kids (.slice y1 y2 y3)
def ZB (w1:World) (v:Value) (W:World):Prop:=∃ g,v=.pointer (some ⟨g,0,none⟩)∧Blk W g 27 z27∧w1.heap.size≤g
def OwT (bz:Nat) (w1:World) (t u:Tm) (AA AB:Value) (i:Nat) (v:Value) (W:World):Prop:=match i with
 | 0=>v=AA
 | 1=>CopV bz w1 t v W
 | 2=>v=AB
 | 3=>CopV bz w1 u v W
 | 4=>ZB w1 v W
 | 5=>ZB w1 v W
 | _=>True
def Ap (bz:Nat) (t:Tm) (v v':Value) (W:World):Prop:=∀ g tk kk,v'=.pointer (some ⟨g,0,none⟩)→v=tmVal t tk kk→TyL bz (fun q=>q≠g) W t.ty.kids tk∧TmL bz (fun q=>q≠g) W t.kids kk
def OwR (bz:Nat) (t u:Tm) (i j:Nat) (v v':Value) (W:World):Prop:=
 (i=4∧j=5∨i=5∧j=4→v≠v')∧(i=1∧(j=4∨j=5)→Ap bz t v v' W)∧(j=1∧(i=4∨i=5)→Ap bz t v' v W)∧(i=3∧(j=4∨j=5)→Ap bz u v v' W)∧(j=3∧(i=4∨i=5)→Ap bz u v' v W)
theorem Ap.kept {t:Tm} {v v':Value} {W W':World} (k:Kept (fun _=>False) W W') (h:Ap bz t v v' W):Ap bz t v v' W':=fun g tk kk e1 e2=>by
 obtain⟨h1,h2⟩:=h g tk kk e1 e2
 exact⟨h1.frame (sK k),h2.frame (sK k)⟩
theorem OwR.kept {t u:Tm} (i j:Nat) (v v':Value) (W W':World) (k:Kept (fun _=>False) W W') (h:OwR bz t u i j v v' W):OwR bz t u i j v v' W':=
 ⟨h.1,fun q=>(h.2.1 q).kept k,fun q=>(h.2.2.1 q).kept k,fun q=>(h.2.2.2.1 q).kept k,fun q=>(h.2.2.2.2 q).kept k⟩
theorem pr_load {w1 W w':World} {t u:Tm} {AA AB v:Value} {i:Nat} (hi:i=0∨i=2):PrB (Kept (fun _=>False)) (OwT bz w1 t u AA AB) (OwR bz t u) i v W w':=by
 intro j v' _
 have hn:¬ (i=1∨i=3∨i=4∨i=5):=by omega
 exact⟨fun h=>absurd h (by omega),fun h=>absurd h (by omega),fun h=>absurd h (by omega),fun h=>absurd h (by omega),fun h=>absurd h (by omega)⟩
theorem ap_new {w1 W w':World} {t t2:Tm} {tk kk v':Value} (hz:Up (Kept (fun _=>False)) (ZB w1) v' W) (h1:TyL bz (fun q=>W.heap.size≤q) w' t.ty.kids tk) (h2:TmL bz (fun q=>W.heap.size≤q) w' t.kids kk):Ap bz t (tmVal t tk kk) v' w':=by
 obtain⟨w2,k2,g,rfl,hb,_⟩:=hz
 intro g' tk' kk' e1 e2
 injection e1 with e1
 have e1:=Option.some.inj e1
 injection e1 with e1
 subst e1
 have hl:=hb.lt
 have hs:=k2.size
 unfold tmVal at e2
 simp only[Value.agg.injEq,Array.mk.injEq,List.cons.injEq,and_true,true_and] at e2
 obtain⟨rfl,rfl⟩:=e2
 exact⟨h1.mono (fun q _ h=>by omega),h2.mono (fun q _ h=>by omega)⟩
theorem pr_cpT {w1 W w':World} {t u:Tm} {AA AB tk kk:Value} (h1:TyL bz (fun q=>W.heap.size≤q) w' t.ty.kids tk) (h2:TmL bz (fun q=>W.heap.size≤q) w' t.kids kk):PrB (Kept (fun _=>False)) (OwT bz w1 t u AA AB) (OwR bz t u) 1 (tmVal t tk kk) W w':=by
 intro j v' hu
 refine⟨fun h=>absurd h (by omega),fun h=>?_,fun h=>absurd h (by omega),fun h=>absurd h (by omega),fun h=>absurd h (by omega)⟩
 rcases h.2 with rfl | rfl
 ·exact ap_new (t2:=u) hu h1 h2
 ·exact ap_new (t2:=u) hu h1 h2
theorem pr_cpU {w1 W w':World} {t u:Tm} {AA AB tk kk:Value} (h1:TyL bz (fun q=>W.heap.size≤q) w' u.ty.kids tk) (h2:TmL bz (fun q=>W.heap.size≤q) w' u.kids kk):PrB (Kept (fun _=>False)) (OwT bz w1 t u AA AB) (OwR bz t u) 3 (tmVal u tk kk) W w':=by
 intro j v' hu
 refine⟨fun h=>absurd h (by omega),fun h=>absurd h (by omega),fun h=>absurd h (by omega),fun h=>?_,fun h=>absurd h (by omega)⟩
 rcases h.2 with rfl | rfl
 ·exact ap_new (t2:=t) hu h1 h2
 ·exact ap_new (t2:=t) hu h1 h2
theorem ap_box {w1 W w':World} {t:Tm} {v':Value} (hc:Up (Kept (fun _=>False)) (CopV bz w1 t) v' W) (k:Kept (fun _=>False) W w'):Ap bz t v' (.pointer (some ⟨W.heap.size,0,none⟩)) w':=by
 obtain⟨w2,k2,x1,x2,x3,y1,y2,y3,rfl,h1,h2⟩:=hc
 intro g' tk' kk' e1 e2
 injection e1 with e1
 have e1:=Option.some.inj e1
 injection e1 with e1
 subst e1
 have hs:=k2.size
 unfold tmVal at e2
 simp only[Value.agg.injEq,Array.mk.injEq,List.cons.injEq,and_true,true_and] at e2
 obtain⟨rfl,rfl⟩:=e2
 have k3:=k2.trans k
 exact⟨(h1.mono (ok':=fun q=>q≠W.heap.size) (fun q hq _=>by omega)).frame (sK k3),(h2.mono (ok':=fun q=>q≠W.heap.size) (fun q hq _=>by omega)).frame (sK k3)⟩
theorem ne_box {w1 W:World} {v':Value} (hz:Up (Kept (fun _=>False)) (ZB w1) v' W):Value.pointer (some ⟨W.heap.size,0,none⟩)≠v':=by
 obtain⟨w2,k2,g,rfl,hb,_⟩:=hz
 intro e
 injection e with e
 have e:=Option.some.inj e
 injection e with e
 have hl:=hb.lt
 have hs:=k2.size
 omega
theorem pr_box {w1 W w':World} {t u:Tm} {AA AB:Value} {i:Nat} (hi:i=4∨i=5) (k:Kept (fun _=>False) W w'):PrB (Kept (fun _=>False)) (OwT bz w1 t u AA AB) (OwR bz t u) i (.pointer (some ⟨W.heap.size,0,none⟩)) W w':=by
 intro j v' hu
 refine⟨fun h=>?_,fun h=>absurd h (by omega),fun h=>?_,fun h=>absurd h (by omega),fun h=>?_⟩
 ·rcases h with ⟨_,rfl⟩ | ⟨_,rfl⟩
  ·exact ne_box (w1:=w1) hu
  ·exact ne_box (w1:=w1) hu
 ·obtain⟨rfl,_⟩:=h
  exact ap_box (w1:=w1) hu k
 ·obtain⟨rfl,_⟩:=h
  exact ap_box (w1:=w1) hu k
theorem ow_join {t u:Tm} {W:World} {P Q:Nat} {tk kk tk' kk':Value}
  (h45:OwR bz t u 4 5 (.pointer (some ⟨P,0,none⟩)) (.pointer (some ⟨Q,0,none⟩)) W∨OwR bz t u 5 4 (.pointer (some ⟨Q,0,none⟩)) (.pointer (some ⟨P,0,none⟩)) W)
  (h14:OwR bz t u 1 4 (tmVal t tk kk) (.pointer (some ⟨P,0,none⟩)) W∨OwR bz t u 4 1 (.pointer (some ⟨P,0,none⟩)) (tmVal t tk kk) W)
  (h15:OwR bz t u 1 5 (tmVal t tk kk) (.pointer (some ⟨Q,0,none⟩)) W∨OwR bz t u 5 1 (.pointer (some ⟨Q,0,none⟩)) (tmVal t tk kk) W)
  (h34:OwR bz t u 3 4 (tmVal u tk' kk') (.pointer (some ⟨P,0,none⟩)) W∨OwR bz t u 4 3 (.pointer (some ⟨P,0,none⟩)) (tmVal u tk' kk') W)
  (h35:OwR bz t u 3 5 (tmVal u tk' kk') (.pointer (some ⟨Q,0,none⟩)) W∨OwR bz t u 5 3 (.pointer (some ⟨Q,0,none⟩)) (tmVal u tk' kk') W):
  P≠Q∧(TyL bz (fun q=>q≠P∧q≠Q) W t.ty.kids tk∧TmL bz (fun q=>q≠P∧q≠Q) W t.kids kk)∧TyL bz (fun q=>q≠P∧q≠Q) W u.ty.kids tk'∧TmL bz (fun q=>q≠P∧q≠Q) W u.kids kk':=by
 have a1:=(h14.elim (fun h=>h.2.1 ⟨rfl,Or.inl rfl⟩) (fun h=>h.2.2.1 ⟨rfl,Or.inl rfl⟩)) P tk kk rfl rfl
 have a2:=(h15.elim (fun h=>h.2.1 ⟨rfl,Or.inr rfl⟩) (fun h=>h.2.2.1 ⟨rfl,Or.inr rfl⟩)) Q tk kk rfl rfl
 have a3:=(h34.elim (fun h=>h.2.2.2.1 ⟨rfl,Or.inl rfl⟩) (fun h=>h.2.2.2.2 ⟨rfl,Or.inl rfl⟩)) P tk' kk' rfl rfl
 have a4:=(h35.elim (fun h=>h.2.2.2.1 ⟨rfl,Or.inr rfl⟩) (fun h=>h.2.2.2.2 ⟨rfl,Or.inr rfl⟩)) Q tk' kk' rfl rfl
 refine⟨fun e=>?_,⟨a1.1.both a2.1,a1.2.both a2.2⟩,a3.1.both a4.1,a3.2.both a4.2⟩
 subst e
 exact h45.elim (fun h=>h.1 (Or.inl ⟨rfl,rfl⟩) rfl) (fun h=>h.1 (Or.inr ⟨rfl,rfl⟩) rfl)
theorem allV_gen {ops:Array Oper} {L:World→World→Prop} {T:Nat→Value→World→Prop} {K:Act→Prop} {W:World} {js:List Nat} {b:Act} (h:∀ KK:Act→Prop,KK=K→allV ops L T KK W js b):allV ops L T K W js b:=h K rfl
def TO (bz:Nat) (s:ByteArray) (n:Nat) (σ:PS) (t:Tm) (σ':PS):Prop:=∀ (b:Nat) (w:World),PW w b s σ→Calls Tryz.prog 76 #[.pointer (some ⟨b,0,none⟩),.int .i64 n] w (RPost b s (VTm bz w.heap.size) (.ok (t,σ')) w)
def AO (bz:Nat) (s:ByteArray) (σ:PS) (t:Tm) (σ':PS):Prop:=∀ (b:Nat) (w:World),PW w b s σ→Calls Tryz.prog 121 #[.pointer (some ⟨b,0,none⟩)] w (RPost b s (VTm bz w.heap.size) (.ok (t,σ')) w)
def WO (bz:Nat) (s:ByteArray) (σ:PS) (t:Tm) (σ':PS):Prop:=∀ (b:Nat) (w:World),PW w b s σ→Calls Tryz.prog 166 #[.pointer (some ⟨b,0,none⟩),.string σ.tx] w (RPost b s (VTm bz w.heap.size) (.ok (t,σ')) w)
def IO (bz:Nat) (s:ByteArray) (σ:PS) (t:Tm) (σ':PS):Prop:=∀ (b:Nat) (w:World),PW w b s σ→Calls Tryz.prog 165 #[.pointer (some ⟨b,0,none⟩),.string kLpar,.string kRpar] w (RPost b s (VTm bz w.heap.size) (.ok (t,σ')) w)
def FO (bz:Nat) (s:ByteArray) (t:Tm) (σ:PS) (t':Tm) (σ':PS):Prop:=∀ (b:Nat) (w:World) (ta:Option Addr) (tn tc:Nat) (ma:Option Addr) (mn mc n0:Nat),PW w b s σ→b<n0→n0≤w.heap.size→TyL bz (fun k=>n0≤k) w t.ty.kids (.slice ta tn tc)→TmL bz (fun k=>n0≤k) w t.kids (.slice ma mn mc) →
 Calls Tryz.prog 120 #[.pointer (some ⟨b,0,none⟩),tmVal t (.slice ta tn tc) (.slice ma mn mc)] w (RPost b s (VTm bz n0) (.ok (t',σ')) w)
def RO (bz:Nat) (s:ByteArray) (n:Nat) (t:Tm) (σ:PS) (t':Tm) (σ':PS):Prop:=∀ (b:Nat) (w:World) (ta:Option Addr) (tn tc:Nat) (ma:Option Addr) (mn mc n0:Nat),PW w b s σ→b<n0→n0≤w.heap.size→TyL bz (fun k=>n0≤k) w t.ty.kids (.slice ta tn tc)→TmL bz (fun k=>n0≤k) w t.kids (.slice ma mn mc) →
 Calls Tryz.prog 122 #[.pointer (some ⟨b,0,none⟩),tmVal t (.slice ta tn tc) (.slice ma mn mc),.int .i64 n] w (RPost b s (VTm bz n0) (.ok (t',σ')) w)
theorem set7' {W:World} {ok:Nat→Prop} {g:Nat} {x0 x1 x2 x3 x4 x5 x6:Value} (h:∀ k,ok k→k≠g):Same ok W (((((((W.setCell ⟨g,0,none⟩ x0).setCell ⟨g,1,none⟩ x1).setCell ⟨g,2,none⟩ x2).setCell ⟨g,3,none⟩ x3).setCell ⟨g,4,none⟩ x4).setCell ⟨g,5,none⟩ x5).setCell ⟨g,6,none⟩ x6):=
 Same.of_kept (S:=(·=g)) (k7w kR (Or.inl rfl)) h
structure PQ (w:World) (b:Nat) (s:ByteArray) (σ:PS) (W:World):Prop where
 p:PW W b s σ
 r:Blk W w.heap.size 27 z27
 k:Kept (·=b) w W
 lo:b<w.heap.size
theorem PQ.start {w:World} {b:Nat} {s:ByteArray} {σ:PS} (h:PW w b s σ):PQ w b s σ (w.alloc Z7):=⟨h.alloc _,Blk.new w 27 z27,kR.alloc _,h.lt⟩
theorem PQ.call {w W W':World} {b:Nat} {s:ByteArray} {σ σ':PS} (h:PQ w b s σ W) (p:PW W' b s σ') (k:Kept (·=b) W W'):PQ w b s σ' W':=⟨p,h.r.kept k (by have:=h.lo;show ¬ w.heap.size=b;omega),h.k.trans k,h.lo⟩
theorem PQ.al {w W:World} {b:Nat} {s:ByteArray} {σ:PS} (h:PQ w b s σ W) (o:Obj):PQ w b s σ (W.alloc o):=⟨h.p.alloc _,h.r.alloc _,h.k.alloc _,h.lo⟩
theorem PQ.sz {w W:World} {b:Nat} {s:ByteArray} {σ:PS} (h:PQ w b s σ W):w.heap.size<W.heap.size:=h.r.lt
theorem PQ.fin {fn:Func} {p:Tmp} (hf:fn.results=#[.cell p 27]) {w W:World} {b:Nat} {s:ByteArray} {σ:PS} (h:PQ w b s σ W) {a:Act} {t:Tm} {tk kk:Value} (hR:a.tmps.getD p undef=.pointer (some ⟨w.heap.size,0,none⟩)) (hd:a.defers=[]) (hk:TyL bz (fun q=>w.heap.size<q) W t.ty.kids tk) (hm:TmL bz (fun q=>w.heap.size<q) W t.kids kk):
  bodyPost Tryz.prog fn (RPost b s (VTm bz w.heap.size) (.ok (t,σ)) w) Exit.ret a (((((((W.setCell ⟨w.heap.size,0,none⟩ (.int .i64 t.op)).setCell ⟨w.heap.size,1,none⟩ (.string t.name)).setCell ⟨w.heap.size,2,none⟩ (.int .i64 t.n)).setCell ⟨w.heap.size,3,none⟩ (.int .i64 t.ty.kind)).setCell ⟨w.heap.size,4,none⟩ (.string t.ty.name)).setCell ⟨w.heap.size,5,none⟩ tk).setCell ⟨w.heap.size,6,none⟩ kk):=by
 have hl:=h.lo
 refine ret_tm hf rfl hR hd (r7 h.r rfl) ?_ ?_ (p7w h.p (by omega) (by have:=h.p.two;omega)) (k7w h.k (Or.inr (Nat.le_refl _)))
 ·exact (hk.frame (set7' (fun q hq=>by omega))).mono (fun q _ h=>by omega)
 ·exact (hm.frame (set7' (fun q hq=>by omega))).mono (fun q _ h=>by omega)
theorem PQ.fin1 {fn:Func} {p:Tmp} (hf:fn.results=#[.cell p 27]) {w W:World} {b:Nat} {s:ByteArray} {σ:PS} (h:PQ w b s σ W) {a:Act} {op:Int} {t:Tm} {tk kk:Value} (hR:a.tmps.getD p undef=.pointer (some ⟨w.heap.size,0,none⟩)) (hd:a.defers=[]) (hk:TyL bz (fun q=>w.heap.size<q) W t.ty.kids tk) (hm:TmL bz (fun q=>w.heap.size<q) W t.kids kk):
  bodyPost Tryz.prog fn (RPost b s (VTm bz w.heap.size) (.ok (nd op [t],σ)) w) Exit.ret a ((((((((W.setCell ⟨w.heap.size,0,none⟩ (.int .i64 op)).setCell ⟨w.heap.size,1,none⟩ (.string ⟨#[]⟩)).setCell ⟨w.heap.size,2,none⟩ (.int .i64 0)).setCell ⟨w.heap.size,3,none⟩ (.int .i64 0)).setCell ⟨w.heap.size,4,none⟩ (.string ⟨#[]⟩)).setCell ⟨w.heap.size,5,none⟩ (.slice none 0 0)).setCell ⟨w.heap.size,6,none⟩ (.slice (some ⟨W.heap.size,0,none⟩) 1 1)).alloc (.cells #[.int .i64 t.op,.string t.name,.int .i64 t.n,.int .i64 t.ty.kind,.string t.ty.name,tk,kk] 27)):=by
 have hl:=h.lo
 have hz:=h.sz
 refine ret_tm hf rfl hR hd ((r7 h.r rfl).alloc _) .nil0 ?_ ((p7w h.p (by omega) (by have:=h.p.two;omega)).alloc _) ((k7w h.k (Or.inr (Nat.le_refl _))).alloc _)
 exact TmL.one (by omega) (Nat.le_refl _) (Blk.new' 27 _ (by simp)) (((hk.frame (set7' (fun q hq=>by omega))).frame (Same.alloc _ _)).mono (fun q _ h=>by omega)) (((hm.frame (set7' (fun q hq=>by omega))).frame (Same.alloc _ _)).mono (fun q _ h=>by omega))
theorem to_13 {s:ByteArray} {σ σ1:PS} {t:Tm} (hm:isS σ kMinus=false) (hA:AO bz s σ t σ1) (hF:FO bz s t σ1 t σ1):TO bz s 13 σ t σ1:=by
 intro b w h
 have q0:=PQ.start h
 go_enter Tryz.func76,Tryz.ntmps76
 go_wp2_with fail
 refine (eat_no q0.p kMinus hm).mono ?_
 rintro e w' ⟨rfl,rfl⟩
 go_wp2_with fail
 refine (hA b _ q0.p).mono ?_
 rintro e w1 hr
 obtain⟨v,rfl,⟨tk,kk,rfl,a1,c1⟩,p1,k1⟩:=hr.getOk rfl
 obtain⟨ta1,tn1,tc1,rfl⟩:=a1.slice
 obtain⟨ma1,mn1,mc1,rfl⟩:=c1.slice
 have q1:=q0.call p1 k1
 clear hr
 unfold tmVal
 go_wp2_with fail
 have z1:=q0.sz
 refine (hF b w1 ta1 tn1 tc1 ma1 mn1 mc1 _ p1 q0.p.lt k1.size a1 c1).mono ?_
 rintro e w2 hr
 obtain⟨v,rfl,⟨tk,kk,rfl,a2,c2⟩,p2,k2⟩:=hr.getOk rfl
 obtain⟨ta2,tn2,tc2,rfl⟩:=a2.slice
 obtain⟨ma2,mn2,mc2,rfl⟩:=c2.slice
 have q2:=q1.call p2 k2
 clear hr
 unfold tmVal
 have gR:∀ i,w2.cell? ⟨w.heap.size,i,none⟩=[Value.int .i64 0,.string ⟨#[]⟩,.int .i64 0,.int .i64 0,.string ⟨#[]⟩,.slice none 0 0,.slice none 0 0][i]?:=q2.r.cell
 have fR:∀ i,w2.frozen? ⟨w.heap.size,i,none⟩=false:=q2.r.frozen
 go_wp2_with fail
 exact q2.fin Tryz.results76 rfl rfl (a2.mono (fun q _ h=>by omega)) (c2.mono (fun q _ h=>by omega))
theorem to_5 {s:ByteArray} {σ σ1:PS} {t:Tm} (hm:isS σ kNot=false) (hT:TO bz s 6 σ t σ1):TO bz s 5 σ t σ1:=by
 intro b w h
 have q0:=PQ.start h
 go_enter Tryz.func76,Tryz.ntmps76
 go_wp2_with fail
 refine (eat_no q0.p kNot hm).mono ?_
 rintro e w' ⟨rfl,rfl⟩
 go_wp2_with fail
 have z1:=q0.sz
 refine (hT b _ q0.p).mono ?_
 rintro e w2 hr
 obtain⟨v,rfl,⟨tk,kk,rfl,a2,c2⟩,p2,k2⟩:=hr.getOk rfl
 obtain⟨ta2,tn2,tc2,rfl⟩:=a2.slice
 obtain⟨ma2,mn2,mc2,rfl⟩:=c2.slice
 have q2:=q0.call p2 k2
 clear hr
 unfold tmVal
 have gR:∀ i,w2.cell? ⟨w.heap.size,i,none⟩=[Value.int .i64 0,.string ⟨#[]⟩,.int .i64 0,.int .i64 0,.string ⟨#[]⟩,.slice none 0 0,.slice none 0 0][i]?:=q2.r.cell
 have fR:∀ i,w2.frozen? ⟨w.heap.size,i,none⟩=false:=q2.r.frozen
 go_wp2_with fail
 exact q2.fin Tryz.results76 rfl rfl (a2.mono (fun q _ h=>by omega)) (c2.mono (fun q _ h=>by omega))
theorem to_n {n:Nat} (hv:lvOK n) {s:ByteArray} {σ σ1 σ2:PS} {t u:Tm} (hT:TO bz s (n+1) σ t σ1) (hR:RO bz s n t σ1 u σ2):TO bz s n σ u σ2:=by
 have i5:((n:Int)==5)=false:=by rw[beq_eq_false_iff_ne];unfold lvOK at hv;omega
 have i13:((n:Int)==13)=false:=by rw[beq_eq_false_iff_ne];unfold lvOK at hv;omega
 have iw:IntKind.i64.wrap ((n:Int)+1)=((n+1:Nat):Int):=by rw[IntKind.wrap_i64];unfold lvOK at hv;omega
 clear hv
 intro b w h
 have q0:=PQ.start h
 go_enter Tryz.func76,Tryz.ntmps76
 go_wp2_with fail
 have z1:=q0.sz
 refine (hT b _ q0.p).mono ?_
 rintro e w1 hr
 obtain⟨v,rfl,⟨tk,kk,rfl,a1,c1⟩,p1,k1⟩:=hr.getOk rfl
 obtain⟨ta1,tn1,tc1,rfl⟩:=a1.slice
 obtain⟨ma1,mn1,mc1,rfl⟩:=c1.slice
 have q1:=q0.call p1 k1
 clear hr
 unfold tmVal
 have lt:Blk (w1.alloc (.cells #[.int .i64 t.op,.string t.name,.int .i64 t.n,.int .i64 t.ty.kind,.string t.ty.name,.slice ta1 tn1 tc1,.slice ma1 mn1 mc1] 27)) w1.heap.size 27 (tmCells t (.slice ta1 tn1 tc1) (.slice ma1 mn1 mc1)):=Blk.new w1 27 _
 have q3:=q1.al (.cells #[.int .i64 t.op,.string t.name,.int .i64 t.n,.int .i64 t.ty.kind,.string t.ty.name,.slice ta1 tn1 tc1,.slice ma1 mn1 mc1] 27)
 have a3:=a1.frame (Same.alloc _ (.cells #[.int .i64 t.op,.string t.name,.int .i64 t.n,.int .i64 t.ty.kind,.string t.ty.name,.slice ta1 tn1 tc1,.slice ma1 mn1 mc1] 27))
 have c3:=c1.frame (Same.alloc _ (.cells #[.int .i64 t.op,.string t.name,.int .i64 t.n,.int .i64 t.ty.kind,.string t.ty.name,.slice ta1 tn1 tc1,.slice ma1 mn1 mc1] 27))
 have z3:(w1.alloc (.cells #[.int .i64 t.op,.string t.name,.int .i64 t.n,.int .i64 t.ty.kind,.string t.ty.name,.slice ta1 tn1 tc1,.slice ma1 mn1 mc1] 27)).heap.size=w1.heap.size+1:=by simp
 have yt:∀ i,(w1.alloc (.cells #[.int .i64 t.op,.string t.name,.int .i64 t.n,.int .i64 t.ty.kind,.string t.ty.name,.slice ta1 tn1 tc1,.slice ma1 mn1 mc1] 27)).cell? ⟨w1.heap.size,i,none⟩=[Value.int .i64 t.op,.string t.name,.int .i64 t.n,.int .i64 t.ty.kind,.string t.ty.name,.slice ta1 tn1 tc1,.slice ma1 mn1 mc1][i]?:=lt.cell
 have hb0:=q0.p.lt
 have k1z:=k1.size
 clear iw
 go_upto_region 10 with (fail)
 generalize w1.alloc (.cells #[.int .i64 t.op,.string t.name,.int .i64 t.n,.int .i64 t.ty.kind,.string t.ty.name,.slice ta1 tn1 tc1,.slice ma1 mn1 mc1] 27)=w3 at *
 go_wp2_with fail
 refine (hR b w3 ta1 tn1 tc1 ma1 mn1 mc1 _ q3.p hb0 (by omega) a3 c3).mono ?_
 rintro e w2 hr
 obtain⟨v,rfl,⟨tk,kk,rfl,a2,c2⟩,p2,k2⟩:=hr.getOk rfl
 obtain⟨ta2,tn2,tc2,rfl⟩:=a2.slice
 obtain⟨ma2,mn2,mc2,rfl⟩:=c2.slice
 have q2:=q3.call p2 k2
 clear hr
 unfold tmVal
 have gR:∀ i,w2.cell? ⟨w.heap.size,i,none⟩=[Value.int .i64 0,.string ⟨#[]⟩,.int .i64 0,.int .i64 0,.string ⟨#[]⟩,.slice none 0 0,.slice none 0 0][i]?:=q2.r.cell
 have fR:∀ i,w2.frozen? ⟨w.heap.size,i,none⟩=false:=q2.r.frozen
 clear yt lt
 go_wp2_with fail
 exact q2.fin Tryz.results76 rfl rfl (a2.mono (fun q _ h=>by omega)) (c2.mono (fun q _ h=>by omega))
theorem io_any {s:ByteArray} {σ σ1 σ2 σ3:PS} {t:Tm} (h1:openS s σ kLpar=.ok σ1) (hT:TO bz s 1 σ1 t σ2) (h3:1≤σ2.nest) (h4:shutS s σ2 kRpar=.ok σ3):IO bz s σ t σ3:=by
 intro b w h
 have q0:=PQ.start h
 go_enter Tryz.func165,Tryz.ntmps165
 go_wp2_with fail
 refine (open_ok q0.p kLpar h1).mono ?_
 rintro e w1 ⟨rfl,p1,k1⟩
 have q1:=q0.call p1 k1
 have z1:=q1.sz
 go_wp2_with fail
 refine (hT b w1 p1).mono ?_
 rintro e w2 hr
 obtain⟨v,rfl,⟨tk,kk,rfl,a2,c2⟩,p2,k2⟩:=hr.getOk rfl
 obtain⟨ta2,tn2,tc2,rfl⟩:=a2.slice
 obtain⟨ma2,mn2,mc2,rfl⟩:=c2.slice
 have q2:=q1.call p2 k2
 clear hr
 unfold tmVal
 have lt:Blk (w2.alloc (.cells #[.int .i64 t.op,.string t.name,.int .i64 t.n,.int .i64 t.ty.kind,.string t.ty.name,.slice ta2 tn2 tc2,.slice ma2 mn2 mc2] 27)) w2.heap.size 27 (tmCells t (.slice ta2 tn2 tc2) (.slice ma2 mn2 mc2)):=Blk.new w2 27 _
 have q3:=q2.al (.cells #[.int .i64 t.op,.string t.name,.int .i64 t.n,.int .i64 t.ty.kind,.string t.ty.name,.slice ta2 tn2 tc2,.slice ma2 mn2 mc2] 27)
 have a3:=a2.frame (Same.alloc _ (.cells #[.int .i64 t.op,.string t.name,.int .i64 t.n,.int .i64 t.ty.kind,.string t.ty.name,.slice ta2 tn2 tc2,.slice ma2 mn2 mc2] 27))
 have c3:=c2.frame (Same.alloc _ (.cells #[.int .i64 t.op,.string t.name,.int .i64 t.n,.int .i64 t.ty.kind,.string t.ty.name,.slice ta2 tn2 tc2,.slice ma2 mn2 mc2] 27))
 have z2:=k2.size
 go_upto_region 3 with (fail)
 generalize w2.alloc (.cells #[.int .i64 t.op,.string t.name,.int .i64 t.n,.int .i64 t.ty.kind,.string t.ty.name,.slice ta2 tn2 tc2,.slice ma2 mn2 mc2] 27)=w3 at *
 generalize w2.heap.size=L at *
 have lb:=q3.p.lt
 have l0:=q0.lo
 go_wp2_with fail
 refine (shut_ok q3.p h3 kRpar h4).mono ?_
 rintro e w4 ⟨rfl,p4,k4⟩
 have q4:=q3.call p4 k4
 have yt:∀ i,w4.cell? ⟨L,i,none⟩=[Value.int .i64 t.op,.string t.name,.int .i64 t.n,.int .i64 t.ty.kind,.string t.ty.name,.slice ta2 tn2 tc2,.slice ma2 mn2 mc2][i]?:=(lt.kept k4 (by show ¬ L=b;omega)).cell
 have a4:=a3.frame (Same.of_kept k4 (fun q hq e=>by omega))
 have c4:=c3.frame (Same.of_kept k4 (fun q hq e=>by omega))
 have gR:∀ i,w4.cell? ⟨w.heap.size,i,none⟩=[Value.int .i64 0,.string ⟨#[]⟩,.int .i64 0,.int .i64 0,.string ⟨#[]⟩,.slice none 0 0,.slice none 0 0][i]?:=q4.r.cell
 have fR:∀ i,w4.frozen? ⟨w.heap.size,i,none⟩=false:=q4.r.frozen
 go_wp2_with fail
 exact q4.fin Tryz.results165 rfl rfl (a4.mono (fun q _ h=>by omega)) (c4.mono (fun q _ h=>by omega))
theorem wo_name {s:ByteArray} {σ σ1:PS} (hk:keywordB σ.tx=false) (ha:advS s σ=.ok σ1):WO bz s σ (.mk 20 σ.tx 0 ty0 []) σ1:=by
 intro b w h
 have q0:=PQ.start h
 go_enter Tryz.func166,Tryz.ntmps166
 go_wp2_with (first | (go_at_call 39;refine cR (keyword_t hk _) ?_) | (go_at_call 202;refine (function_any _ _).mono ?_;rintro e w' ⟨rfl,rfl⟩))
 refine (adv_ok q0.p ha).mono ?_
 rintro e w1 ⟨rfl,p1,k1⟩
 have q1:=q0.call p1 k1
 have gR:∀ i,w1.cell? ⟨w.heap.size,i,none⟩=[Value.int .i64 0,.string ⟨#[]⟩,.int .i64 0,.int .i64 0,.string ⟨#[]⟩,.slice none 0 0,.slice none 0 0][i]?:=q1.r.cell
 have fR:∀ i,w1.frozen? ⟨w.heap.size,i,none⟩=false:=q1.r.frozen
 go_wp2_with fail
 exact q1.fin (t:=.mk 20 σ.tx 0 ty0 []) Tryz.results166 rfl rfl .nil0 .nil0
theorem wo_fun {s:ByteArray} {σ σ1 σ2:PS} {t:Tm} (hk:keywordB σ.tx=true) (hf:(functionN σ.tx != 0)=true) (ha:advS s σ=.ok σ1) (hI:IO bz s σ1 t σ2):WO bz s σ (nd (functionN σ.tx) [t]) σ2:=by
 intro b w h
 have q0:=PQ.start h
 go_enter Tryz.func166,Tryz.ntmps166
 go_wp2_with (first | (go_at_call 39;refine cR (keyword_t hk _) ?_) | (go_at_call 202;refine (function_any _ _).mono ?_;rintro e w' ⟨rfl,rfl⟩))
 refine (adv_ok q0.p ha).mono ?_
 rintro e w1 ⟨rfl,p1,k1⟩
 have q1:=q0.call p1 k1
 have z1:=q1.sz
 go_wp2_with fail
 refine (hI b w1 p1).mono ?_
 rintro e w2 hr
 obtain⟨v,rfl,⟨tk,kk,rfl,a2,c2⟩,p2,k2⟩:=hr.getOk rfl
 obtain⟨ta2,tn2,tc2,rfl⟩:=a2.slice
 obtain⟨ma2,mn2,mc2,rfl⟩:=c2.slice
 have q2:=q1.call p2 k2
 clear hr
 unfold tmVal
 have gR:∀ i,w2.cell? ⟨w.heap.size,i,none⟩=[Value.int .i64 0,.string ⟨#[]⟩,.int .i64 0,.int .i64 0,.string ⟨#[]⟩,.slice none 0 0,.slice none 0 0][i]?:=q2.r.cell
 have fR:∀ i,w2.frozen? ⟨w.heap.size,i,none⟩=false:=q2.r.frozen
 have l9:=q2.sz
 go_wp2_with fail
 exact q2.fin1 Tryz.results166 rfl rfl (a2.mono (fun q _ h=>by omega)) (c2.mono (fun q _ h=>by omega))
theorem ao_num {s:ByteArray} {σ σ1:PS} (hk:(σ.k==2)=true) (ha:advS s σ=.ok σ1):AO bz s σ (.mk 19 nil0 σ.n ty0 []) σ1:=by
 intro b w h
 have q0:=PQ.start h
 have c2:=q0.p.kd
 have c3:=q0.p.txt
 have c4:=q0.p.num
 have c5:=q0.p.tat
 have lx:Blk ((w.alloc Z7).alloc (.cells #[.int .i64 σ.k,.string σ.tx,.int .i64 σ.n,.int .i64 σ.ta] 140)) (w.heap.size+1) 140 [.int .i64 σ.k,.string σ.tx,.int .i64 σ.n,.int .i64 σ.ta]:=Blk.new' 140 _ (by simp)
 have q1:=q0.al (.cells #[.int .i64 σ.k,.string σ.tx,.int .i64 σ.n,.int .i64 σ.ta] 140)
 have zt:((w.alloc Z7).alloc (.cells #[.int .i64 σ.k,.string σ.tx,.int .i64 σ.n,.int .i64 σ.ta] 140)).heap.size=w.heap.size+2:=by simp
 go_enter Tryz.func121,Tryz.ntmps121
 go_upto_region 2 with (fail)
 generalize (w.alloc Z7).alloc (.cells #[.int .i64 σ.k,.string σ.tx,.int .i64 σ.n,.int .i64 σ.ta] 140)=wt at *
 clear c2 c3 c4 c5 q0
 have yx:=lx.cell
 go_wp2_with fail
 refine (adv_ok q1.p ha).mono ?_
 rintro e w1 ⟨rfl,p1,k1⟩
 have q2:=q1.call p1 k1
 have lb:=q1.lo
 clear yx
 have yx:=(lx.kept k1 (by show ¬ w.heap.size+1=b;omega)).cell
 have gR:∀ i,w1.cell? ⟨w.heap.size,i,none⟩=[Value.int .i64 0,.string ⟨#[]⟩,.int .i64 0,.int .i64 0,.string ⟨#[]⟩,.slice none 0 0,.slice none 0 0][i]?:=q2.r.cell
 have fR:∀ i,w1.frozen? ⟨w.heap.size,i,none⟩=false:=q2.r.frozen
 go_wp2_with fail
 exact q2.fin (t:=.mk 19 nil0 σ.n ty0 []) Tryz.results121 rfl rfl .nil0 .nil0
theorem ao_word {s:ByteArray} {σ σ1:PS} {t:Tm} (hk:(σ.k==2)=false) (hk1:(σ.k==1)=true) (hW:WO bz s σ t σ1):AO bz s σ t σ1:=by
 intro b w h
 have q0:=PQ.start h
 have c2:=q0.p.kd
 have c3:=q0.p.txt
 have c4:=q0.p.num
 have c5:=q0.p.tat
 have lx:Blk ((w.alloc Z7).alloc (.cells #[.int .i64 σ.k,.string σ.tx,.int .i64 σ.n,.int .i64 σ.ta] 140)) (w.heap.size+1) 140 [.int .i64 σ.k,.string σ.tx,.int .i64 σ.n,.int .i64 σ.ta]:=Blk.new' 140 _ (by simp)
 have q1:=q0.al (.cells #[.int .i64 σ.k,.string σ.tx,.int .i64 σ.n,.int .i64 σ.ta] 140)
 have zt:((w.alloc Z7).alloc (.cells #[.int .i64 σ.k,.string σ.tx,.int .i64 σ.n,.int .i64 σ.ta] 140)).heap.size=w.heap.size+2:=by simp
 go_enter Tryz.func121,Tryz.ntmps121
 go_upto_region 2 with (fail)
 generalize (w.alloc Z7).alloc (.cells #[.int .i64 σ.k,.string σ.tx,.int .i64 σ.n,.int .i64 σ.ta] 140)=wt at *
 clear c2 c3 c4 c5 q0
 have yx:=lx.cell
 go_wp2_with fail
 refine (hW b wt q1.p).mono ?_
 have z1:=q1.sz
 rintro e w2 hr
 obtain⟨v,rfl,⟨tk,kk,rfl,a2,c2⟩,p2,k2⟩:=hr.getOk rfl
 obtain⟨ta2,tn2,tc2,rfl⟩:=a2.slice
 obtain⟨ma2,mn2,mc2,rfl⟩:=c2.slice
 have q2:=q1.call p2 k2
 clear hr
 unfold tmVal
 clear yx
 have gR:∀ i,w2.cell? ⟨w.heap.size,i,none⟩=[Value.int .i64 0,.string ⟨#[]⟩,.int .i64 0,.int .i64 0,.string ⟨#[]⟩,.slice none 0 0,.slice none 0 0][i]?:=q2.r.cell
 have fR:∀ i,w2.frozen? ⟨w.heap.size,i,none⟩=false:=q2.r.frozen
 go_wp2_with fail
 exact q2.fin Tryz.results121 rfl rfl (a2.mono (fun q _ h=>by omega)) (c2.mono (fun q _ h=>by omega))
inductive Rst (bz:Nat) (s:ByteArray) (n:Nat):Nat→Tm→PS→Tm→PS→Prop
 | stop {t:Tm} {σ:PS} (h:opOf n σ=0):Rst bz s n 0 t σ t σ
 | never {t u:Tm} {σ σ1 σ2:PS} {o:Int} (ho:opOf n σ=o) (hne:(o==0)=false) (ha:advS s σ=.ok σ1) (hg:lvGroup n=0) (hT:TO bz s (n+1) σ1 u σ2):Rst bz s n 0 t σ (nd o [t,u]) σ2
 | left {k:Nat} {t u t':Tm} {σ σ1 σ2 σ':PS} {o:Int} (ho:opOf n σ=o) (hne:(o==0)=false) (ha:advS s σ=.ok σ1) (hg:lvGroup n=1) (hT:TO bz s (n+1) σ1 u σ2) (hr:Rst bz s n k (nd o [t,u]) σ2 t' σ'):Rst bz s n (k+1) t σ t' σ'
structure RQ (bz:Nat) (w:World) (b n0:Nat) (s:ByteArray) (t:Tm) (tk kk:Value) (σ:PS) (W:World):Prop where
 p:PW W b s σ
 bx:Blk W w.heap.size 27 (tmCells t tk kk)
 r:Blk W (w.heap.size+1) 27 z27
 y:TyL bz (okk n0 w.heap.size (w.heap.size+1)) W t.ty.kids tk
 m:TmL bz (okk n0 w.heap.size (w.heap.size+1)) W t.kids kk
 k:Kept (·=b) w W
 lo:b<n0∧n0≤w.heap.size
section
variable {w W W':World} {b n0:Nat} {s:ByteArray} {t:Tm} {tk kk:Value} {σ σ':PS}
theorem RQ.start {ta ma:Option Addr} {tn tc mn mc:Nat} (h:PW w b s σ) (h1:b<n0) (h2:n0≤w.heap.size) (a:TyL bz (fun k=>n0≤k) w t.ty.kids (.slice ta tn tc)) (c:TmL bz (fun k=>n0≤k) w t.kids (.slice ma mn mc)):RQ bz w b n0 s t (.slice ta tn tc) (.slice ma mn mc) σ ((w.alloc (.cells #[.int .i64 t.op,.string t.name,.int .i64 t.n,.int .i64 t.ty.kind,.string t.ty.name,.slice ta tn tc,.slice ma mn mc] 27)).alloc Z7):=
 ⟨(h.alloc _).alloc _,(Blk.new w 27 (tmCells t (.slice ta tn tc) (.slice ma mn mc))).alloc _,Blk.new' 27 z27 (by simp),((a.mono (fun k hk h=>⟨h,by omega,by omega⟩)).frame (Same.alloc _ _)).frame (Same.alloc _ _),((c.mono (fun k hk h=>⟨h,by omega,by omega⟩)).frame (Same.alloc _ _)).frame (Same.alloc _ _),(kR.alloc _).alloc _,h1,h2⟩
theorem RQ.still (h:RQ bz w b n0 s t tk kk σ W) (k:Kept (fun _=>False) W W'):RQ bz w b n0 s t tk kk σ W':=⟨h.p.grow k id id id,h.bx.kept k id,h.r.kept k id,h.y.frame (Same.of_kept k (fun _ _=>id)),h.m.frame (Same.of_kept k (fun _ _=>id)),h.k.trans (k.mono (fun _ _ e=>e.elim)),h.lo⟩
theorem RQ.call (h:RQ bz w b n0 s t tk kk σ W) (p:PW W' b s σ') (k:Kept (·=b) W W'):RQ bz w b n0 s t tk kk σ' W':=by
 have hl:=h.lo
 exact⟨p,h.bx.kept k (by show ¬ w.heap.size=b;omega),h.r.kept k (by show ¬ w.heap.size+1=b;omega),h.y.frame (Same.of_kept k (fun q hq e=>by have:=hq.1;omega)),h.m.frame (Same.of_kept k (fun q hq e=>by have:=hq.1;omega)),h.k.trans k,h.lo⟩
theorem RQ.fin {fn:Func} {p:Tmp} (hf:fn.results=#[.cell p 27]) (h:RQ bz w b n0 s t tk kk σ W) {a:Act} (hR:a.tmps.getD p undef=.pointer (some ⟨w.heap.size+1,0,none⟩)) (hd:a.defers=[]):
  bodyPost Tryz.prog fn (RPost b s (VTm bz n0) (.ok (t,σ)) w) Exit.ret a (((((((W.setCell ⟨w.heap.size+1,0,none⟩ (.int .i64 t.op)).setCell ⟨w.heap.size+1,1,none⟩ (.string t.name)).setCell ⟨w.heap.size+1,2,none⟩ (.int .i64 t.n)).setCell ⟨w.heap.size+1,3,none⟩ (.int .i64 t.ty.kind)).setCell ⟨w.heap.size+1,4,none⟩ (.string t.ty.name)).setCell ⟨w.heap.size+1,5,none⟩ tk).setCell ⟨w.heap.size+1,6,none⟩ kk):=by
 have hl:=h.lo
 refine ret_tm hf rfl hR hd (r7 h.r rfl) ?_ ?_ (p7w h.p (by omega) (by have:=h.p.two;omega)) (k7w h.k (Or.inr (by omega)))
 ·exact (h.y.frame (same7k (Or.inr rfl))).mono (fun k _ h=>h.1)
 ·exact (h.m.frame (same7k (Or.inr rfl))).mono (fun k _ h=>h.1)
theorem RQ.two {o:Int} {u:Tm} {uk uu:Value} (h:RQ bz w b n0 s t tk kk σ W) (a:TyL bz (fun q=>w.heap.size+2≤q) W u.ty.kids uk) (c:TmL bz (fun q=>w.heap.size+2≤q) W u.kids uu):
  RQ bz w b n0 s (nd o [t,u]) (.slice none 0 0) (.slice (some ⟨W.heap.size+1,0,none⟩) 2 2) σ ((((((((((W.setCell ⟨w.heap.size,0,none⟩ (.int .i64 o)).setCell ⟨w.heap.size,1,none⟩ (.string ⟨#[]⟩)).setCell ⟨w.heap.size,2,none⟩ (.int .i64 0)).setCell ⟨w.heap.size,3,none⟩ (.int .i64 0)).setCell ⟨w.heap.size,4,none⟩ (.string ⟨#[]⟩)).setCell ⟨w.heap.size,5,none⟩ (.slice none 0 0)).setCell ⟨w.heap.size,6,none⟩ (.slice (some ⟨W.heap.size+1,0,none⟩) 2 2)).alloc (.cells #[.int .i64 u.op,.string u.name,.int .i64 u.n,.int .i64 u.ty.kind,.string u.ty.name,uk,uu] 27)).alloc (.cells #[.int .i64 t.op,.string t.name,.int .i64 t.n,.int .i64 t.ty.kind,.string t.ty.name,tk,kk,.int .i64 u.op,.string u.name,.int .i64 u.n,.int .i64 u.ty.kind,.string u.ty.name,uk,uu] 27))):=by
 have hl:=h.lo
 have hz:=h.r.lt
 refine⟨((p7w h.p (by omega) (by have:=h.p.two;omega)).alloc _).alloc _,((r7 h.bx rfl).alloc _).alloc _,((b7w h.r (by omega)).alloc _).alloc _,.nil0,?_,((k7w h.k (Or.inr (Nat.le_refl _))).alloc _).alloc _,h.lo⟩
 exact TmL.two ⟨by omega,by omega,by omega⟩ (Nat.le_refl _) (Blk.new' 27 _ (by simp)) (((h.y.frame (same7k (Or.inl rfl))).frame (Same.alloc _ _)).frame (Same.alloc _ _)) (((h.m.frame (same7k (Or.inl rfl))).frame (Same.alloc _ _)).frame (Same.alloc _ _)) ((((a.mono (ok':=okk n0 w.heap.size (w.heap.size+1)) (fun k _ h=>⟨by omega,by omega,by omega⟩)).frame (same7k (Or.inl rfl))).frame (Same.alloc _ _)).frame (Same.alloc _ _)) ((((c.mono (ok':=okk n0 w.heap.size (w.heap.size+1)) (fun k _ h=>⟨by omega,by omega,by omega⟩)).frame (same7k (Or.inl rfl))).frame (Same.alloc _ _)).frame (Same.alloc _ _))
end
theorem fo_stop {s:ByteArray} {σ:PS} {t:Tm} (h1:isS σ kLpar=false) (h2:isS σ kLbr=false) (h3:isS σ kTilde=false):FO bz s t σ t σ:=by
 intro b w ta tn tc ma mn mc n0 h hb hn a c
 unfold tmVal
 have q0:=RQ.start h hb hn a c
 clear a c
 go_enter Tryz.func120,Tryz.ntmps120
 go_wp2_with fail
 generalize ((w.alloc (.cells #[.int .i64 t.op,.string t.name,.int .i64 t.n,.int .i64 t.ty.kind,.string t.ty.name,.slice ta tn tc,.slice ma mn mc] 27)).alloc Z7)=w2 at *
 go_loopw [5] (fun _ wr=>wr=w2) (fun _ _=>0)
 case atStart=>rfl
 case round=>
  obtain rfl:=hrel
  have yt:∀ i,wr.cell? ⟨w.heap.size,i,none⟩=[Value.int .i64 t.op,.string t.name,.int .i64 t.n,.int .i64 t.ty.kind,.string t.ty.name,.slice ta tn tc,.slice ma mn mc][i]?:=q0.bx.cell
  have l0:=q0.bx.lt
  have q1:=q0.still (kR.alloc (.cells #[.int .i64 t.op,.string t.name,.int .i64 t.n,.int .i64 t.ty.kind,.string t.ty.name,.slice ta tn tc,.slice ma mn mc] 27))
  go_upto_region 3 with (fail)
  generalize wr.alloc (.cells #[.int .i64 t.op,.string t.name,.int .i64 t.n,.int .i64 t.ty.kind,.string t.ty.name,.slice ta tn tc,.slice ma mn mc] 27)=w3 at *
  clear yt l0 q0
  go_wp2_with fail
  refine (is_any q1.p kLpar h1).mono ?_
  rintro e w' ⟨rfl,rfl⟩
  go_wp2_with fail
  refine (is_any q1.p kLbr h2).mono ?_
  rintro e w' ⟨rfl,rfl⟩
  go_wp2_with fail
  refine (eat_no q1.p kTilde h3).mono ?_
  rintro e w' ⟨rfl,rfl⟩
  have yt:∀ i,w3.cell? ⟨w.heap.size,i,none⟩=[Value.int .i64 t.op,.string t.name,.int .i64 t.n,.int .i64 t.ty.kind,.string t.ty.name,.slice ta tn tc,.slice ma mn mc][i]?:=q1.bx.cell
  have gR:∀ i,w3.cell? ⟨w.heap.size+1,i,none⟩=[Value.int .i64 0,.string ⟨#[]⟩,.int .i64 0,.int .i64 0,.string ⟨#[]⟩,.slice none 0 0,.slice none 0 0][i]?:=q1.r.cell
  have fR:∀ i,w3.frozen? ⟨w.heap.size+1,i,none⟩=false:=q1.r.frozen
  go_wp2_with fail
  exact q1.fin Tryz.results120 rfl rfl
theorem ro_any {n:Nat} (hn:lvOK n) {s:ByteArray} {k0:Nat} {t t':Tm} {σ σ':PS} (hr:Rst bz s n k0 t σ t' σ'):RO bz s n t σ t' σ':=by
 intro b w ta tn tc ma mn mc n0 h hb hn0 a c
 unfold tmVal
 have HLEN:=Ld (lv_lens hn)
 have iw:IntKind.i64.wrap ((n:Int)+1)=((n+1:Nat):Int):=by rw[IntKind.wrap_i64];unfold lvOK at hn;omega
 have HIW:=Ld iw
 have q0:=RQ.start h hb hn0 a c
 clear a c iw
 go_enter Tryz.func122,Tryz.ntmps122
 go_wp2_with fail
 have zW:((w.alloc (.cells #[.int .i64 t.op,.string t.name,.int .i64 t.n,.int .i64 t.ty.kind,.string t.ty.name,.slice ta tn tc,.slice ma mn mc] 27)).alloc Z7).heap.size=w.heap.size+2:=by simp
 refine (levels_at hn _).mono ?_
 rintro e w1 ⟨A,rfl,⟨g,g',hgg,hgg',hix,hx,ho⟩,hbw⟩
 have q1:=q0.still (Kept.of_below hbw)
 rw[zW] at hgg hgg'
 clear q0 hbw zW
 go_wp2_with fail
 have hL:Blk (w1.alloc (.cells #[.int .i64 (lvGroup n),.slice (some ⟨g,0,none⟩) (lvSigns n).length (lvSigns n).length,.slice (some ⟨g',0,none⟩) (lvOps n).length (lvOps n).length] 181)) w1.heap.size 181 [.int .i64 (lvGroup n),.slice (some ⟨g,0,none⟩) (lvSigns n).length (lvSigns n).length,.slice (some ⟨g',0,none⟩) (lvOps n).length (lvOps n).length]:=Blk.new w1 181 _
 have q2:=q1.still (kR.alloc (.cells #[.int .i64 (lvGroup n),.slice (some ⟨g,0,none⟩) (lvSigns n).length (lvSigns n).length,.slice (some ⟨g',0,none⟩) (lvOps n).length (lvOps n).length] 181))
 have hx2:=hx.alloc (.cells #[.int .i64 (lvGroup n),.slice (some ⟨g,0,none⟩) (lvSigns n).length (lvSigns n).length,.slice (some ⟨g',0,none⟩) (lvOps n).length (lvOps n).length] 181)
 have ho2:=ho.alloc (.cells #[.int .i64 (lvGroup n),.slice (some ⟨g,0,none⟩) (lvSigns n).length (lvSigns n).length,.slice (some ⟨g',0,none⟩) (lvOps n).length (lvOps n).length] 181)
 have hl1:=q1.r.lt
 generalize hW:w1.alloc (.cells #[.int .i64 (lvGroup n),.slice (some ⟨g,0,none⟩) (lvSigns n).length (lvSigns n).length,.slice (some ⟨g',0,none⟩) (lvOps n).length (lvOps n).length] 181)=w2 at *
 generalize w1.heap.size=L at *
 clear hW hix q1 hx ho
 go_loopg [8] (k0+1) (fun m _ wr=>∃ (k:Nat) (tc':Tm) (σc:PS) (ua:Option Addr) (un uc:Nat) (va:Option Addr) (vn vc:Nat),m=k+1∧Rst bz s n k tc' σc t' σ'∧RQ bz w b n0 s tc' (.slice ua un uc) (.slice va vn vc) σc wr∧Blk wr L 181 [.int .i64 (lvGroup n),.slice (some ⟨g,0,none⟩) (lvSigns n).length (lvSigns n).length,.slice (some ⟨g',0,none⟩) (lvOps n).length (lvOps n).length]∧Blk wr g 9 ((lvSigns n).map Value.string)∧Blk wr g' 3 ((lvOps n).map (Value.int .i64)))
 case atStart=>exact⟨k0,t,σ,ta,tn,tc,ma,mn,mc,rfl,hr,q2,hL,hx2,ho2⟩
 case round=>
  clear q2 hL hx2 ho2 hr
  obtain⟨k,tx,σc,ua,un,uc,va,vn,vc,rfl,hr,q,hL,hX,hO⟩:=hrel
  have l0:∀ i,wr.cell? ⟨L,i,none⟩=[.int .i64 (lvGroup n),.slice (some ⟨g,0,none⟩) (lvSigns n).length (lvSigns n).length,.slice (some ⟨g',0,none⟩) (lvOps n).length (lvOps n).length][i]?:=hL.cell
  go_wp2_with fail
  refine (operator_any q.p (lvGroup n) (lvSigns n) (lvOps n) g g' HLEN.out.1 HLEN.out.2 hX hO).mono ?_
  rintro e w3 ⟨rfl,hb3⟩
  have kF:Kept (fun _=>False) wr w3:=Kept.of_below hb3
  have q3:=q.still kF
  have hL3:=hL.kept kF id
  have hX3:=hX.kept kF id
  have hO3:=hO.kept kF id
  clear kF q hL hX hO hb3 l0
  have HO:Hid (opOf n σc=opGo σc (lvSigns n) (lvOps n)):=Ld rfl
  generalize opGo σc (lvSigns n) (lvOps n)=o at *
  have gR:∀ i,w3.cell? ⟨w.heap.size+1,i,none⟩=[Value.int .i64 0,.string ⟨#[]⟩,.int .i64 0,.int .i64 0,.string ⟨#[]⟩,.slice none 0 0,.slice none 0 0][i]?:=q3.r.cell
  have fR:∀ i,w3.frozen? ⟨w.heap.size+1,i,none⟩=false:=q3.r.frozen
  have yt:∀ i,w3.cell? ⟨w.heap.size,i,none⟩=[Value.int .i64 tx.op,.string tx.name,.int .i64 tx.n,.int .i64 tx.ty.kind,.string tx.ty.name,.slice ua un uc,.slice va vn vc][i]?:=q3.bx.cell
  cases hr with
  | stop h0=>
   have hz:(o==0)=true:=by rw[← HO.out,h0];rfl
   go_wp2_with fail
   exact q3.fin Tryz.results122 rfl rfl
  | @never _ u _ σ1 _ o' h0 hne ha hg hT=>
   obtain rfl:o'=o:=h0.symm.trans HO.out
   have HG:=Ld hg
   clear gR fR yt h0 hg
   go_wp2_with fail
   refine (adv_ok q3.p ha).mono ?_
   rintro e w4 ⟨rfl,p4,k4⟩
   have hl:=q3.lo
   have q4:=q3.call p4 k4
   have hL4:=hL3.kept k4 (by show ¬ L=b;omega)
   have hX4:=hX3.kept k4 (by show ¬ g=b;omega)
   have hO4:=hO3.kept k4 (by show ¬ g'=b;omega)
   have l0:∀ i,w4.cell? ⟨L,i,none⟩=[.int .i64 (lvGroup n),.slice (some ⟨g,0,none⟩) (lvSigns n).length (lvSigns n).length,.slice (some ⟨g',0,none⟩) (lvOps n).length (lvOps n).length][i]?:=hL4.cell
   have hg2:(lvGroup n==2)=false:=by rw[HG.out];rfl
   have iw:=HIW.out
   have lz:=q4.r.lt
   clear k4 p4 q3 hL3 hX3 hO3
   go_wp2_with fail
   refine (hT b w4 q4.p).mono ?_
   rintro e w5 hrr
   obtain⟨v,rfl,⟨tk5,kk5,rfl,au,cu⟩,p5,k5⟩:=hrr.getOk rfl
   obtain⟨ta5,tn5,tc5,rfl⟩:=au.slice
   obtain⟨ma5,mn5,mc5,rfl⟩:=cu.slice
   clear hrr l0
   unfold tmVal
   have q5:=q4.call p5 k5
   have hL5:=hL4.kept k5 (by show ¬ L=b;omega)
   have hX5:=hX4.kept k5 (by show ¬ g=b;omega)
   have hO5:=hO4.kept k5 (by show ¬ g'=b;omega)
   have lB5:=q5.bx.lt
   have lR5:=q5.r.lt
   have yt:∀ i,w5.cell? ⟨w.heap.size,i,none⟩=[Value.int .i64 tx.op,.string tx.name,.int .i64 tx.n,.int .i64 tx.ty.kind,.string tx.ty.name,.slice ua un uc,.slice va vn vc][i]?:=q5.bx.cell
   have fB:∀ i,w5.frozen? ⟨w.heap.size,i,none⟩=false:=q5.bx.frozen
   clear q4 hL4 hX4 hO4 k5 p5
   go_upto_region 11 with (fail)
   have q6:=q5.two (o:=o') (u:=u) (au.mono (fun q _ h=>by omega)) (cu.mono (fun q _ h=>by omega))
   have hL6:=((b7w (x0:=.int .i64 o') (x1:=.string ⟨#[]⟩) (x2:=.int .i64 0) (x3:=.int .i64 0) (x4:=.string ⟨#[]⟩) (x5:=.slice none 0 0) (x6:=.slice (some ⟨w5.heap.size+1,0,none⟩) 2 2) (R:=w.heap.size) hL5 (by omega)).alloc (.cells #[.int .i64 u.op,.string u.name,.int .i64 u.n,.int .i64 u.ty.kind,.string u.ty.name,.slice ta5 tn5 tc5,.slice ma5 mn5 mc5] 27)).alloc (.cells #[.int .i64 tx.op,.string tx.name,.int .i64 tx.n,.int .i64 tx.ty.kind,.string tx.ty.name,.slice ua un uc,.slice va vn vc,.int .i64 u.op,.string u.name,.int .i64 u.n,.int .i64 u.ty.kind,.string u.ty.name,.slice ta5 tn5 tc5,.slice ma5 mn5 mc5] 27)
   have hX6:=((b7w (x0:=.int .i64 o') (x1:=.string ⟨#[]⟩) (x2:=.int .i64 0) (x3:=.int .i64 0) (x4:=.string ⟨#[]⟩) (x5:=.slice none 0 0) (x6:=.slice (some ⟨w5.heap.size+1,0,none⟩) 2 2) (R:=w.heap.size) hX5 (by omega)).alloc (.cells #[.int .i64 u.op,.string u.name,.int .i64 u.n,.int .i64 u.ty.kind,.string u.ty.name,.slice ta5 tn5 tc5,.slice ma5 mn5 mc5] 27)).alloc (.cells #[.int .i64 tx.op,.string tx.name,.int .i64 tx.n,.int .i64 tx.ty.kind,.string tx.ty.name,.slice ua un uc,.slice va vn vc,.int .i64 u.op,.string u.name,.int .i64 u.n,.int .i64 u.ty.kind,.string u.ty.name,.slice ta5 tn5 tc5,.slice ma5 mn5 mc5] 27)
   have hO6:=((b7w (x0:=.int .i64 o') (x1:=.string ⟨#[]⟩) (x2:=.int .i64 0) (x3:=.int .i64 0) (x4:=.string ⟨#[]⟩) (x5:=.slice none 0 0) (x6:=.slice (some ⟨w5.heap.size+1,0,none⟩) 2 2) (R:=w.heap.size) hO5 (by omega)).alloc (.cells #[.int .i64 u.op,.string u.name,.int .i64 u.n,.int .i64 u.ty.kind,.string u.ty.name,.slice ta5 tn5 tc5,.slice ma5 mn5 mc5] 27)).alloc (.cells #[.int .i64 tx.op,.string tx.name,.int .i64 tx.n,.int .i64 tx.ty.kind,.string tx.ty.name,.slice ua un uc,.slice va vn vc,.int .i64 u.op,.string u.name,.int .i64 u.n,.int .i64 u.ty.kind,.string u.ty.name,.slice ta5 tn5 tc5,.slice ma5 mn5 mc5] 27)
   clear yt fB hL5 hX5 hO5 au cu
   refine wp_gen (fun w6=>RQ bz w b n0 s (nd o' [tx,u]) (.slice none 0 0) (.slice (some ⟨w5.heap.size+1,0,none⟩) 2 2) σ' w6∧Blk w6 L 181 [.int .i64 (lvGroup n),.slice (some ⟨g,0,none⟩) (lvSigns n).length (lvSigns n).length,.slice (some ⟨g',0,none⟩) (lvOps n).length (lvOps n).length]∧Blk w6 g 9 ((lvSigns n).map Value.string)∧Blk w6 g' 3 ((lvOps n).map (Value.int .i64))) ⟨q6,hL6,hX6,hO6⟩ ?_
   clear q6 hL6 hX6 hO6
   rintro w6 ⟨q6,hL6,hX6,hO6⟩
   have l0:∀ i,w6.cell? ⟨L,i,none⟩=[.int .i64 (lvGroup n),.slice (some ⟨g,0,none⟩) (lvSigns n).length (lvSigns n).length,.slice (some ⟨g',0,none⟩) (lvOps n).length (lvOps n).length][i]?:=hL6.cell
   have hg1:(lvGroup n != 1)=true:=by rw[HG.out];rfl
   have gR:∀ i,w6.cell? ⟨w.heap.size+1,i,none⟩=[Value.int .i64 0,.string ⟨#[]⟩,.int .i64 0,.int .i64 0,.string ⟨#[]⟩,.slice none 0 0,.slice none 0 0][i]?:=q6.r.cell
   have fR:∀ i,w6.frozen? ⟨w.heap.size+1,i,none⟩=false:=q6.r.frozen
   have yt:∀ i,w6.cell? ⟨w.heap.size,i,none⟩=[Value.int .i64 o',.string ⟨#[]⟩,.int .i64 0,.int .i64 0,.string ⟨#[]⟩,.slice none 0 0,.slice (some ⟨w5.heap.size+1,0,none⟩) 2 2][i]?:=q6.bx.cell
   go_wp2_with fail
   exact q6.fin (t:=nd o' [tx,u]) Tryz.results122 rfl rfl
  | @left k _ u _ _ σ1 σ2 _ o' h0 hne ha hg hT hr=>
   obtain rfl:o'=o:=h0.symm.trans HO.out
   have HG:=Ld hg
   clear gR fR yt h0 hg
   go_wp2_with fail
   refine (adv_ok q3.p ha).mono ?_
   rintro e w4 ⟨rfl,p4,k4⟩
   have hl:=q3.lo
   have q4:=q3.call p4 k4
   have hL4:=hL3.kept k4 (by show ¬ L=b;omega)
   have hX4:=hX3.kept k4 (by show ¬ g=b;omega)
   have hO4:=hO3.kept k4 (by show ¬ g'=b;omega)
   have l0:∀ i,w4.cell? ⟨L,i,none⟩=[.int .i64 (lvGroup n),.slice (some ⟨g,0,none⟩) (lvSigns n).length (lvSigns n).length,.slice (some ⟨g',0,none⟩) (lvOps n).length (lvOps n).length][i]?:=hL4.cell
   have hg2:(lvGroup n==2)=false:=by rw[HG.out];rfl
   have iw:=HIW.out
   have lz:=q4.r.lt
   clear k4 p4 q3 hL3 hX3 hO3
   go_wp2_with fail
   refine (hT b w4 q4.p).mono ?_
   rintro e w5 hrr
   obtain⟨v,rfl,⟨tk5,kk5,rfl,au,cu⟩,p5,k5⟩:=hrr.getOk rfl
   obtain⟨ta5,tn5,tc5,rfl⟩:=au.slice
   obtain⟨ma5,mn5,mc5,rfl⟩:=cu.slice
   clear hrr l0
   unfold tmVal
   have q5:=q4.call p5 k5
   have hL5:=hL4.kept k5 (by show ¬ L=b;omega)
   have hX5:=hX4.kept k5 (by show ¬ g=b;omega)
   have hO5:=hO4.kept k5 (by show ¬ g'=b;omega)
   have lB5:=q5.bx.lt
   have lR5:=q5.r.lt
   have yt:∀ i,w5.cell? ⟨w.heap.size,i,none⟩=[Value.int .i64 tx.op,.string tx.name,.int .i64 tx.n,.int .i64 tx.ty.kind,.string tx.ty.name,.slice ua un uc,.slice va vn vc][i]?:=q5.bx.cell
   have fB:∀ i,w5.frozen? ⟨w.heap.size,i,none⟩=false:=q5.bx.frozen
   clear q4 hL4 hX4 hO4 k5 p5
   go_upto_region 11 with (fail)
   have q6:=q5.two (o:=o') (u:=u) (au.mono (fun q _ h=>by omega)) (cu.mono (fun q _ h=>by omega))
   have hL6:=((b7w (x0:=.int .i64 o') (x1:=.string ⟨#[]⟩) (x2:=.int .i64 0) (x3:=.int .i64 0) (x4:=.string ⟨#[]⟩) (x5:=.slice none 0 0) (x6:=.slice (some ⟨w5.heap.size+1,0,none⟩) 2 2) (R:=w.heap.size) hL5 (by omega)).alloc (.cells #[.int .i64 u.op,.string u.name,.int .i64 u.n,.int .i64 u.ty.kind,.string u.ty.name,.slice ta5 tn5 tc5,.slice ma5 mn5 mc5] 27)).alloc (.cells #[.int .i64 tx.op,.string tx.name,.int .i64 tx.n,.int .i64 tx.ty.kind,.string tx.ty.name,.slice ua un uc,.slice va vn vc,.int .i64 u.op,.string u.name,.int .i64 u.n,.int .i64 u.ty.kind,.string u.ty.name,.slice ta5 tn5 tc5,.slice ma5 mn5 mc5] 27)
   have hX6:=((b7w (x0:=.int .i64 o') (x1:=.string ⟨#[]⟩) (x2:=.int .i64 0) (x3:=.int .i64 0) (x4:=.string ⟨#[]⟩) (x5:=.slice none 0 0) (x6:=.slice (some ⟨w5.heap.size+1,0,none⟩) 2 2) (R:=w.heap.size) hX5 (by omega)).alloc (.cells #[.int .i64 u.op,.string u.name,.int .i64 u.n,.int .i64 u.ty.kind,.string u.ty.name,.slice ta5 tn5 tc5,.slice ma5 mn5 mc5] 27)).alloc (.cells #[.int .i64 tx.op,.string tx.name,.int .i64 tx.n,.int .i64 tx.ty.kind,.string tx.ty.name,.slice ua un uc,.slice va vn vc,.int .i64 u.op,.string u.name,.int .i64 u.n,.int .i64 u.ty.kind,.string u.ty.name,.slice ta5 tn5 tc5,.slice ma5 mn5 mc5] 27)
   have hO6:=((b7w (x0:=.int .i64 o') (x1:=.string ⟨#[]⟩) (x2:=.int .i64 0) (x3:=.int .i64 0) (x4:=.string ⟨#[]⟩) (x5:=.slice none 0 0) (x6:=.slice (some ⟨w5.heap.size+1,0,none⟩) 2 2) (R:=w.heap.size) hO5 (by omega)).alloc (.cells #[.int .i64 u.op,.string u.name,.int .i64 u.n,.int .i64 u.ty.kind,.string u.ty.name,.slice ta5 tn5 tc5,.slice ma5 mn5 mc5] 27)).alloc (.cells #[.int .i64 tx.op,.string tx.name,.int .i64 tx.n,.int .i64 tx.ty.kind,.string tx.ty.name,.slice ua un uc,.slice va vn vc,.int .i64 u.op,.string u.name,.int .i64 u.n,.int .i64 u.ty.kind,.string u.ty.name,.slice ta5 tn5 tc5,.slice ma5 mn5 mc5] 27)
   clear yt fB hL5 hX5 hO5 au cu
   refine wp_gen (fun w6=>RQ bz w b n0 s (nd o' [tx,u]) (.slice none 0 0) (.slice (some ⟨w5.heap.size+1,0,none⟩) 2 2) σ2 w6∧Blk w6 L 181 [.int .i64 (lvGroup n),.slice (some ⟨g,0,none⟩) (lvSigns n).length (lvSigns n).length,.slice (some ⟨g',0,none⟩) (lvOps n).length (lvOps n).length]∧Blk w6 g 9 ((lvSigns n).map Value.string)∧Blk w6 g' 3 ((lvOps n).map (Value.int .i64))) ⟨q6,hL6,hX6,hO6⟩ ?_
   clear q6 hL6 hX6 hO6
   rintro w6 ⟨q6,hL6,hX6,hO6⟩
   have l0:∀ i,w6.cell? ⟨L,i,none⟩=[.int .i64 (lvGroup n),.slice (some ⟨g,0,none⟩) (lvSigns n).length (lvSigns n).length,.slice (some ⟨g',0,none⟩) (lvOps n).length (lvOps n).length][i]?:=hL6.cell
   have hg1:(lvGroup n != 1)=false:=by rw[HG.out];rfl
   go_wp2_with fail
   go_roundg (k+1)
   case measure=>omega
   case rel=>exact⟨k,nd o' [tx,u],σ2,none,0,0,_,2,2,rfl,hr,q6,hL6,hX6,hO6⟩
theorem p1_ok {b o:Nat} {s:ByteArray} {σ σ':PS} {t:Tm} {w:World} (hT:TO bz s 1 σ t σ') (h:PW w b s σ) (ho:Blk w o 27 z27) (hob:o≠b) (ho2:6≤o):
  Calls Tryz.prog 75 #[.pointer (some ⟨b,0,none⟩),.pointer (some ⟨o,0,none⟩)] w (fun e w'=>e=.returned (.tuple #[])∧Lies bz o w.heap.size t w'∧PW w' b s σ'∧Kept (fun k=>k=b∨k=o) w w'):=by
 have hlt:=h.lt
 have holt:=ho.lt
 go_enter Tryz.func75,Tryz.ntmps75
 go_wp2_with fail
 refine (hT b w h).mono ?_
 rintro e w1 hr
 obtain⟨v,rfl,⟨tk,kk,rfl,at1,ct1⟩,p1,k1⟩:=hr.getOk rfl
 clear hr
 obtain⟨ta1,tn1,tc1,rfl⟩:=at1.slice
 obtain⟨ma1,mn1,mc1,rfl⟩:=ct1.slice
 unfold tmVal
 have hO:=ho.kept k1 (by show ¬ o=b;exact hob)
 have gO:∀ i,w1.cell? ⟨o,i,none⟩=[Value.int .i64 0,.string ⟨#[]⟩,.int .i64 0,.int .i64 0,.string ⟨#[]⟩,.slice none 0 0,.slice none 0 0][i]?:=hO.cell
 have fO:∀ i,w1.frozen? ⟨o,i,none⟩=false:=hO.frozen
 go_wp2_with fail
 go_end0
 exact⟨rfl,⟨_,_,r7 hO rfl,at1.frame (same7 holt),ct1.frame (same7 holt)⟩,p7w p1 hob ho2,k7w (k1.mono (fun _ _ h=>Or.inl h)) (Or.inl (Or.inr rfl))⟩
theorem rd_ok {o:Nat} {s:ByteArray} {σ1 σ2:PS} {t:Tm} {w:World} (hs:s.size≤65536) (hgl:Gl w) (ho:Blk w o 27 z27) (ho2:6≤o) (ha:advS s ps0=.ok σ1) (hT:TO bz s 1 σ1 t σ2) (hk:(σ2.k==0)=true):
  Calls Tryz.prog 74 #[.string s,.func (.func 75) #[] #[.pointer (some ⟨o,0,none⟩)]] w fun e w'=>e=.returned (.tuple #[.int .i64 0,.int .i64 0])∧Kept (·=o) w w'∧Lies bz o w.heap.size t w':=by
 have hmf:∀ (fn:Fn) (first cap:Array Value) (w:World),(Instr.makeFunc fn first cap).run Tryz.prog w=.ok (.func fn first cap) w:=fun _ _ _ _=>rfl
 have hgt:=hgl.lt
 have i1:(s.size:Int)≤65536:=by omega
 have h0:PW (((w.alloc (.cells #[.int .i64 0] 3)).alloc (.cells #[.int .i64 0] 40)).alloc (.cells #[.string s,.int .i64 0,.int .i64 0,.string ⟨#[]⟩,.int .i64 0,.int .i64 0,.int .i64 0] 142)) (w.heap.size+2) s ps0:=
  ⟨Blk.new' 142 _ (by simp),Nat.zero_le _,Nat.zero_le _,hs,by omega,((hgl.alloc _).alloc _).alloc _,Nat.zero_le _⟩
 have K0:Kept (fun _=>False) w (((w.alloc (.cells #[.int .i64 0] 3)).alloc (.cells #[.int .i64 0] 40)).alloc (.cells #[.string s,.int .i64 0,.int .i64 0,.string ⟨#[]⟩,.int .i64 0,.int .i64 0,.int .i64 0] 142)):=((kR.alloc _).alloc _).alloc _
 have bA:Blk (((w.alloc (.cells #[.int .i64 0] 3)).alloc (.cells #[.int .i64 0] 40)).alloc (.cells #[.string s,.int .i64 0,.int .i64 0,.string ⟨#[]⟩,.int .i64 0,.int .i64 0,.int .i64 0] 142)) w.heap.size 3 [.int .i64 0]:=((Blk.new w 3 [.int .i64 0]).alloc _).alloc _
 have bE:Blk (((w.alloc (.cells #[.int .i64 0] 3)).alloc (.cells #[.int .i64 0] 40)).alloc (.cells #[.string s,.int .i64 0,.int .i64 0,.string ⟨#[]⟩,.int .i64 0,.int .i64 0,.int .i64 0] 142)) (w.heap.size+1) 40 [.int .i64 0]:=(Blk.new' 40 [.int .i64 0] (by simp)).alloc _
 have lo:=ho.lt
 go_enter_defers Tryz.func74,Tryz.ntmps74
 go_wp2_with fail
 refine (adv_ok h0 ha).mono ?_
 rintro e w1 ⟨rfl,p1,k1⟩
 have a1:=bA.kept k1 (by show ¬ w.heap.size=w.heap.size+2;omega)
 have e1:=bE.kept k1 (by show ¬ w.heap.size+1=w.heap.size+2;omega)
 have K1:Kept (fun _=>False) w w1:=K0.via k1 (fun x hx h=>by omega)
 have z1:=p1.lt
 have o1:=ho.kept K1 (fun h=>h)
 go_wp2_with fail
 refine (p1_ok hT p1 o1 (by omega) ho2).mono ?_
 rintro e w2 ⟨rfl,⟨tk,kk,hb,hty,htm⟩,p2,k2⟩
 have a2:=a1.kept k2 (by show ¬ (w.heap.size=w.heap.size+2∨w.heap.size=o);omega)
 have e2:=e1.kept k2 (by show ¬ (w.heap.size+1=w.heap.size+2∨w.heap.size+1=o);omega)
 have K2:Kept (·=o) w w2:=(K1.mono (T:=(·=o)) (fun _ _ h=>h.elim)).via k2 (fun x hx h=>by rcases h with h | h;omega;exact h)
 have c2:=p2.kd
 have ca:=a2.cell 0
 have ce:=e2.cell 0
 have fa:=a2.frozen 0
 have fe:=e2.frozen 0
 have hk0:σ2.k=0:=eq_of_beq hk
 rw[hk0] at c2
 clear hk hk0
 go_wp2_with fail
 refine leaves_cons (f:=116) (args:=#[.pointer (some ⟨w.heap.size,0,none⟩),.pointer (some ⟨w.heap.size+1,0,none⟩)]) (by simp) (by simp[go_sem]) ?_
 refine (rd_idle w.heap.size (w.heap.size+1) _).mono ?_
 rintro e u' w'' ⟨rfl,rfl,rfl⟩
 have a3:=(a2.set 0 (.int .i64 0)).set_other ⟨w.heap.size+1,0,none⟩ (.int .i64 0) (by show w.heap.size≠w.heap.size+1;omega)
 have e3:=(e2.set_other ⟨w.heap.size,0,none⟩ (.int .i64 0) (by show w.heap.size+1≠w.heap.size;omega)).set 0 (.int .i64 0)
 have k3:Kept (fun q=>q=w.heap.size∨q=w.heap.size+1) w2 ((w2.setCell ⟨w.heap.size,0,none⟩ (.int .i64 0)).setCell ⟨w.heap.size+1,0,none⟩ (.int .i64 0)):=((kR.setCell (p:=⟨w.heap.size,0,none⟩) (Or.inl (Or.inl rfl)) _).setCell (p:=⟨w.heap.size+1,0,none⟩) (Or.inl (Or.inr rfl)) _)
 refine⟨_,results_cc Tryz.results74 rfl rfl (load_i a3) (load_e e3),rfl,(K2.setCell (p:=⟨w.heap.size,0,none⟩) (Or.inr (Nat.le_refl _)) _).setCell (p:=⟨w.heap.size+1,0,none⟩) (Or.inr (by show w.heap.size≤w.heap.size+1;omega)) _,tk,kk,hb.kept k3 (by show ¬ (o=w.heap.size∨o=w.heap.size+1);omega),?_,?_⟩
 ·exact (hty.frame (Same.of_kept k3 (fun q hq e=>by omega))).mono (fun q _ h=>by omega)
 ·exact (htm.frame (Same.of_kept k3 (fun q hq e=>by omega))).mono (fun q _ h=>by omega)
theorem parse_ok {s:ByteArray} {σ1 σ2:PS} {t:Tm} {w:World} (hs:s.size≤65536) (hgl:Gl w) (ha:advS s ps0=.ok σ1) (hT:TO bz s 1 σ1 t σ2) (hk:(σ2.k==0)=true) (hv:validB t=true) (hsm:SmTm big t):
  Calls Tryz.prog 32 #[.string s] w fun e w'=>∃ tv,e=.returned (.tuple #[tv,.int .i64 0,.int .i64 0])∧VTm bz w.heap.size t w' tv∧Kept (fun _=>False) w w':=by
 have hmf:∀ (fn:Fn) (first cap:Array Value) (w:World),(Instr.makeFunc fn first cap).run Tryz.prog w=.ok (.func fn first cap) w:=fun _ _ _ _=>rfl
 have hgt:=hgl.lt
 have bR:Blk ((w.alloc Z7).alloc Z7) w.heap.size 27 z27:=(Blk.new w 27 _).alloc _
 have bO:Blk ((w.alloc Z7).alloc Z7) (w.heap.size+1) 27 z27:=Blk.new' 27 _ (by simp)
 have K0:Kept (fun _=>False) w ((w.alloc Z7).alloc Z7):=(kR.alloc _).alloc _
 have G0:Gl ((w.alloc Z7).alloc Z7):=(hgl.alloc _).alloc _
 have Z0:Hid (((w.alloc Z7).alloc Z7).heap.size=w.heap.size+2):=Ld (by simp)
 have HRD:=Ld (rd_ok hs G0 bO (by omega) ha hT hk)
 have HSM:=Ld hsm
 have HVB:=Ld hv
 clear hsm hv hT ha hk
 go_enter Tryz.func32,Tryz.ntmps32
 go_wp2_with fail
 refine HRD.out.mono ?_
 rintro e w1 ⟨rfl,k1,tk,kk,bT,hty,htm⟩
 rw[Z0.out] at hty htm
 obtain⟨ta,tn,tc,rfl⟩:=hty.slice
 obtain⟨ma,mn,mc,rfl⟩:=htm.slice
 have bR1:=bR.kept k1 (by show ¬ w.heap.size=w.heap.size+1;omega)
 have K1:=K0.via k1 (fun x hx e=>by omega)
 have yT:∀ i,w1.cell? ⟨w.heap.size+1,i,none⟩=[Value.int .i64 t.op,.string t.name,.int .i64 t.n,.int .i64 t.ty.kind,.string t.ty.name,.slice ta tn tc,.slice ma mn mc][i]?:=bT.cell
 have HV:=Ld (valid_any hty htm HSM.out)
 rw[HVB.out] at HV
 go_wp2_with fail
 refine HV.out.mono ?_
 rintro e w2 ⟨rfl,k2⟩
 have bR2:=bR1.kept k2 (fun h=>h)
 have bT2:=bT.kept k2 (fun h=>h)
 have K2:=K1.trans k2
 have l2:=bT2.lt
 clear yT
 have yT:∀ i,w2.cell? ⟨w.heap.size+1,i,none⟩=[Value.int .i64 t.op,.string t.name,.int .i64 t.n,.int .i64 t.ty.kind,.string t.ty.name,.slice ta tn tc,.slice ma mn mc][i]?:=bT2.cell
 have HC:=Ld (clone_any (valid_bd HVB.out) w2 _ _ _ (hty.frame (sK k2)) (htm.frame (sK k2)))
 go_wp2_with fail
 refine HC.out.mono ?_
 rintro e w3 ⟨v,u,rfl,hv3,hu3,k3⟩
 obtain⟨va,vn,vc,rfl⟩:=hv3.slice
 obtain⟨ua,un,uc,rfl⟩:=hu3.slice
 unfold tmVal
 have BR:=Ld (bR2.kept k3 (fun h=>h))
 have KP:=Ld (K2.trans k3)
 have V3:=Ld hv3
 have U3:=Ld hu3
 have gR:∀ i,w3.cell? ⟨w.heap.size,i,none⟩=[Value.int .i64 0,.string ⟨#[]⟩,.int .i64 0,.int .i64 0,.string ⟨#[]⟩,.slice none 0 0,.slice none 0 0][i]?:=BR.out.cell
 have fR:∀ i,w3.frozen? ⟨w.heap.size,i,none⟩=false:=BR.out.frozen
 clear bR1 K1 bR2 K2 bT bT2 hv3 hu3 yT
 go_wp2_with fail
 exact bodyPost_ret (results_ctt Tryz.results32 rfl (load_tm (t:=t) (r7 BR.out rfl))) rfl ⟨_,rfl,⟨_,_,rfl,(V3.out.frame (set7' (g:=w.heap.size) (fun q h=>by omega))).mono (fun q _ h=>by omega),(U3.out.frame (set7' (g:=w.heap.size) (fun q h=>by omega))).mono (fun q _ h=>by omega)⟩,k7w KP.out (Or.inr (Nat.le_refl _))⟩
def awkS:ByteArray:=⟨#[120,32,43,32,49,32,60,61,32,99,97,114,100,40,115,41]⟩
def awX:Tm:=.mk 20 ⟨#[120]⟩ 0 ty0 []
def aw1:Tm:=.mk 19 nil0 1 ty0 []
def awS:Tm:=.mk 20 ⟨#[115]⟩ 0 ty0 []
def awAdd:Tm:=nd 22 [awX,aw1]
def awCard:Tm:=nd 47 [awS]
def awT:Tm:=nd 13 [awAdd,awCard]
def nxS (σ:PS):PS:=match advS awkS σ with | .ok q=>q | .error _=>σ
def g1:PS:=nxS ps0
def g2:PS:=nxS g1
def g3:PS:=nxS g2
def g4:PS:=nxS g3
def g5:PS:=nxS g4
def g6:PS:=nxS g5
def g7:PS:=match openS awkS g6 kLpar with | .ok q=>q | .error _=>g6
def g8:PS:=nxS g7
def g9:PS:=match shutS awkS g8 kRpar with | .ok q=>q | .error _=>g8
theorem dn {n:Nat} (hn:lvOK n) {s:ByteArray} {σ σ':PS} {t:Tm} (h:TO bz s (n+1) σ t σ') (ho:opOf n σ'=0):TO bz s n σ t σ':=to_n hn h (ro_any hn (.stop ho))
theorem lv_in (n:Nat) (h:(1≤n∧n≤4)∨(6≤n∧n≤12)):lvOK n:=by unfold lvOK;omega
theorem at13 {s:ByteArray} {σ σ':PS} {t:Tm} (hm:isS σ kMinus=false) (hA:AO bz s σ t σ') (h:(isS σ' kLpar||isS σ' kLbr||isS σ' kTilde)=false):TO bz s 13 σ t σ':=by
 simp only[Bool.or_eq_false_iff] at h
 exact to_13 hm hA (fo_stop h.1.1 h.1.2 h.2)
theorem to7 {s:ByteArray} {σ σ':PS} {t:Tm} (h:TO bz s 13 σ t σ') (ho:[7,8,9,10,11,12].all (fun n=>opOf n σ'==0)=true):TO bz s 7 σ t σ':=by
 simp only[List.all_cons,List.all_nil,Bool.and_true,Bool.and_eq_true,beq_iff_eq] at ho
 exact dn (lv_in 7 (by omega)) (dn (lv_in 8 (by omega)) (dn (lv_in 9 (by omega)) (dn (lv_in 10 (by omega)) (dn (lv_in 11 (by omega)) (dn (lv_in 12 (by omega)) h ho.2.2.2.2.2) ho.2.2.2.2.1) ho.2.2.2.1) ho.2.2.1) ho.2.1) ho.1
theorem to1 {s:ByteArray} {σ σ':PS} {t:Tm} (hn:isS σ kNot=false) (h:TO bz s 6 σ t σ') (ho:[1,2,3,4].all (fun n=>opOf n σ'==0)=true):TO bz s 1 σ t σ':=by
 simp only[List.all_cons,List.all_nil,Bool.and_true,Bool.and_eq_true,beq_iff_eq] at ho
 exact dn (lv_in 1 (by omega)) (dn (lv_in 2 (by omega)) (dn (lv_in 3 (by omega)) (dn (lv_in 4 (by omega)) (to_5 hn h) ho.2.2.2) ho.2.2.1) ho.2.1) ho.1
theorem aw_x:TO bz awkS 13 g1 awX g2:=by
 refine at13 (by kernel_rfl) (ao_word (by kernel_rfl) (by kernel_rfl) ?_) (by kernel_rfl)
 rw[show awX=.mk 20 g1.tx 0 ty0 [] by kernel_rfl]
 exact wo_name (by kernel_rfl) (by kernel_rfl)
theorem aw_1:TO bz awkS 13 g3 aw1 g4:=by
 refine at13 (by kernel_rfl) ?_ (by kernel_rfl)
 rw[show aw1=.mk 19 nil0 g3.n ty0 [] by kernel_rfl]
 exact ao_num (by kernel_rfl) (by kernel_rfl)
theorem aw_s:TO bz awkS 1 g7 awS g8:=by
 refine to1 (by kernel_rfl) (dn (lv_in 6 (by omega)) (to7 (at13 (by kernel_rfl) (ao_word (by kernel_rfl) (by kernel_rfl) ?_) (by kernel_rfl)) (by kernel_rfl)) (by kernel_rfl)) (by kernel_rfl)
 rw[show awS=.mk 20 g7.tx 0 ty0 [] by kernel_rfl]
 exact wo_name (by kernel_rfl) (by kernel_rfl)
theorem aw_card:TO bz awkS 13 g5 awCard g9:=by
 refine at13 (by kernel_rfl) (ao_word (by kernel_rfl) (by kernel_rfl) ?_) (by kernel_rfl)
 rw[show awCard=nd (functionN g5.tx) [awS] by kernel_rfl]
 exact wo_fun (σ1:=g6) (by kernel_rfl) (by kernel_rfl) (by kernel_rfl) (io_any (σ1:=g7) (by kernel_rfl) aw_s (of_decide_eq_true (by kernel_rfl)) (by kernel_rfl))
theorem aw_add:TO bz awkS 7 g1 awAdd g4:=
 dn (lv_in 7 (by omega)) (dn (lv_in 8 (by omega)) (dn (lv_in 9 (by omega)) (dn (lv_in 10 (by omega)) (to_n (lv_in 11 (by omega)) (dn (lv_in 12 (by omega)) aw_x (by kernel_rfl))
  (ro_any (lv_in 11 (by omega)) (.left (o:=22) (σ1:=g3) (by kernel_rfl) rfl (by kernel_rfl) (by kernel_rfl) (dn (lv_in 12 (by omega)) aw_1 (by kernel_rfl)) (.stop (by kernel_rfl))))) (by kernel_rfl)) (by kernel_rfl)) (by kernel_rfl)) (by kernel_rfl)
theorem aw_all:TO bz awkS 1 g1 awT g9:=
 to1 (by kernel_rfl) (to_n (lv_in 6 (by omega)) aw_add (ro_any (lv_in 6 (by omega)) (.never (o:=13) (σ1:=g5) (by kernel_rfl) rfl (by kernel_rfl) (by kernel_rfl) (to7 aw_card (by kernel_rfl))))) (by kernel_rfl)
theorem awk_V:validB awT=true:=by kernel_rfl
def awOut:List UInt8:=[40,120,32,43,32,49,41,32,60,61,32,99,97,114,100,40,115,41]
theorem pc_x:PC bz awX [120]:=pt_name (nm:=⟨#[120]⟩) (N:=0) (ty:=ty0) (kl:=[])
theorem pc_s:PC bz awS [115]:=pt_name (nm:=⟨#[115]⟩) (N:=0) (ty:=ty0) (kl:=[])
theorem pc_1:PC bz aw1 [49]:=pt_int (nm:=nil0) (N:=1) (ty:=ty0) (kl:=[]) (ds:=⟨#[49]⟩) (fun W=>(Tryz.strconv_Itoa_small 1 (by decide) W).mono fun e w' ⟨q1,q2⟩=>⟨by rw[q1,fx5],q2.symm⟩)
theorem oc_x:OC bz awX [120]:=by
 have h:=operand_any (pc_x (bz:=bz))
 rw[show parS awX.op [120]=[120] by kernel_rfl] at h
 exact h
theorem oc_1:OC bz aw1 [49]:=by
 have h:=operand_any (pc_1 (bz:=bz))
 rw[show parS aw1.op [49]=[49] by kernel_rfl] at h
 exact h
theorem pc_add:PC bz awAdd [120,32,43,32,49]:=pt_bin (t:=awAdd) rfl (by kernel_rfl) oc_x oc_1
theorem oc_add:OC bz awAdd [40,120,32,43,32,49,41]:=by
 have h:=operand_any (pc_add (bz:=bz))
 rw[show parS awAdd.op [120,32,43,32,49]=[40,120,32,43,32,49,41] by kernel_rfl] at h
 exact h
theorem pc_kid:∀ i (h:i<[awS].length),PC bz [awS][i] ((fun _=>[115]:Nat→List UInt8) i):=by
 intro i h
 have h1:i=0:=by have:i<1:=h;omega
 subst h1
 exact pc_s
theorem pc_card:PC bz awCard [99,97,114,100,40,115,41]:=pt_card (nm:=nil0) (N:=0) (ty:=ty0) (kl:=[awS]) (list_one (kl:=[awS]) (O:=fun _=>[115]) pc_kid (by decide))
theorem oc_card:OC bz awCard [99,97,114,100,40,115,41]:=by
 have h:=operand_any (pc_card (bz:=bz))
 rw[show parS awCard.op [99,97,114,100,40,115,41]=[99,97,114,100,40,115,41] by kernel_rfl] at h
 exact h
theorem pc_aw:PC bz awT awOut:=pt_bin (t:=awT) rfl (by kernel_rfl) oc_add oc_card
theorem sm_aw:SmTm big awT:=by
 have h0:∀ (n:ByteArray),n.size≤big→∀ (o i:Int),SmTm big (.mk o n i ty0 []):=fun n hn o i=>.mk hn (sm_ty0 _) (fun k h=>by cases h)
 exact sm_nd (all2 (sm_nd (all2 (h0 _ (by decide) _ _) (h0 _ (by decide) _ _))) (sm_nd (all1 (h0 _ (by decide) _ _))))
theorem awake_any (w:World) (hgl:Gl w):Calls Tryz.prog 9 #[] w fun e w'=>e=.returned (.bool true)∧Kept (fun _=>False) w w':=by
 have HP:Hid (Calls Tryz.prog 32 #[.string ⟨#[120,32,43,32,49,32,60,61,32,99,97,114,100,40,115,41]⟩] w fun e w'=>∃ tv,e=.returned (.tuple #[tv,.int .i64 0,.int .i64 0])∧VTm 0 w.heap.size awT w' tv∧Kept (fun _=>False) w w'):=Ld (parse_ok (s:=awkS) (by decide) hgl (by kernel_rfl:advS awkS ps0=.ok g1) aw_all (by kernel_rfl) awk_V (sm_aw))
 go_enter Tryz.func9,Tryz.ntmps9
 go_wp2_with fail
 refine HP.out.mono ?_
 rintro e w1 ⟨tv,rfl,⟨tk,kk,rfl,hty,htm⟩,k1⟩
 obtain⟨ta,tn,tc,rfl⟩:=hty.slice
 obtain⟨ma,mn,mc,rfl⟩:=htm.slice
 have hmn:mn=2:=htm.len
 subst hmn
 have HF:Hid (Calls Tryz.prog 33 #[.agg #[.int .i64 13,.string nil0,.int .i64 0,.int .i64 0,.string ⟨#[]⟩,.slice ta tn tc,.slice ma 2 mc]] (w1.alloc (.cells #[.int .i64 13,.string nil0,.int .i64 0,.int .i64 0,.string ⟨#[]⟩,.slice ta tn tc,.slice ma 2 mc] 27)) fun e w'=>e=.returned (.string ⟨awOut.toArray⟩)∧Kept (fun _=>False) (w1.alloc (.cells #[.int .i64 13,.string nil0,.int .i64 0,.int .i64 0,.string ⟨#[]⟩,.slice ta tn tc,.slice ma 2 mc] 27)) w'):=Ld (format_ok (t:=awT) (hty.frame (Same.alloc w1 _)) (htm.frame (Same.alloc w1 _)) pc_aw awk_V sm_aw (by decide) (by decide))
 have K1:Kept (fun _=>False) w (w1.alloc (.cells #[.int .i64 13,.string nil0,.int .i64 0,.int .i64 0,.string ⟨#[]⟩,.slice ta tn tc,.slice ma 2 mc] 27)):=k1.alloc _
 clear hty htm
 have htv:tmVal awT (.slice ta tn tc) (.slice ma 2 mc)=.agg #[.int .i64 13,.string nil0,.int .i64 0,.int .i64 0,.string ⟨#[]⟩,.slice ta tn tc,.slice ma 2 mc]:=rfl
 rw[htv]
 clear htv
 have HN:Hid (nil0=⟨#[]⟩):=Ld rfl
 generalize nil0=nl at *
 go_wp2_with fail
 refine HF.out.mono ?_
 rintro e w2 ⟨rfl,k2⟩
 have K2:=K1.trans k2
 have e1:((⟨awOut.toArray⟩:ByteArray).toList==[40,120,32,43,32,49,41,32,60,61,32,99,97,114,100,40,115,41])=true:=by kernel_rfl
 generalize (⟨awOut.toArray⟩:ByteArray)=ao at *
 have bS:Blk (w2.alloc (.cells #[.string ⟨#[120,49,50]⟩,.string ⟨#[120,49]⟩] 9)) w2.heap.size 9 [.string ⟨#[120,49,50]⟩,.string ⟨#[120,49]⟩]:=Blk.new w2 9 _
 have HX:=Ld (fresh_x _ w2.heap.size (bS.cell 0) (bS.cell 1))
 go_wp2_with fail
 refine HX.out.mono ?_
 rintro e w3 ⟨rfl,k3⟩
 go_wp2_with fail
 go_ret
 exact⟨rfl,(K2.alloc _).trans k3⟩
end Go.Proofs.YtdmebjbkccjhbaaGreatDoor
namespace Go.Proofs.YtdmebjbkccjhbaaGreatDoor
open Go.ChangeShapes Go.WideShapes Go.ChangeAt Go.RowKit
theorem own0:ownKnob Tryz.prog.godebug=none:=by kernel_rfl
def EsOk (w:World) (e:Ending) (w':World):Prop:=e=.returned (.bool true)∧Kept (fun _=>False) w w'
end Go.Proofs.YtdmebjbkccjhbaaGreatDoor
