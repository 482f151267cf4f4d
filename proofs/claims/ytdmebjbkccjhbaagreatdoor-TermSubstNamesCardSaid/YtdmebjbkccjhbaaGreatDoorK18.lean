/- A part. -/
import Derived.Test.YtdmebjbkccjhbaaGreatDoorK15
import Derived.Test.YtdmebjbkccjhbaaGreatDoorK17
import Derived.Lib.SliceRun
set_option linter.unusedVariables false
set_option linter.unusedSimpArgs false
set_option maxRecDepth 100000
set_option maxHeartbeats 32000000
namespace Go.Proofs.YtdmebjbkccjhbaaGreatDoor
open Go.RowKit
theorem clnN_any {ok:Nat→Prop} {w:World} {l:List ByteArray} {v:Value} (h:NmL ok w l v) (hn:l.length≤1000000):
  Calls Tryz.prog 106 #[v] w fun e w'=>∃ v',e=.returned v'∧NRow w w.heap.size w' l v':=by
 obtain⟨i9,hi9,hz9,hs9,hb9⟩:=info_str
 have HI:=Ld hi9
 have HZ:=Ld hz9
 have HS:=Ld hs9
 have HB:=Ld hb9
 have HN:=Ld hn
 have HSRC:=Ld (fun W (k:Kept (fun _=>False) w W)=>(h.frame (sK k)).src)
 obtain⟨a,n,c,rfl,rfl,h3,h5,h4⟩:=h
 have q41:∀ (w:World) (a:Option Addr) (n c n' c':Nat),(binOp .eql 28 (.slice a n c) (.slice none n' c')).run Tryz.prog w=.ok (.bool a.isNone) w:=fun w a n c n' c'=>Lib.run_eql_slice_nil w _ _ a n c n' c' Tryz.underlying28
 clear hi9 hz9 hs9 hb9 hn h4
 cases a with
 | none=>
  obtain rfl:c=0:=h5 rfl
  have hl:l=[]:=List.length_eq_zero_iff.1 (by omega)
  subst hl
  go_enter Tryz.func106,Tryz.ntmps106
  go_wp2_with fail
  go_ret
  exact⟨_,rfl,Kept.refl _ _,rfl,.inl ⟨rfl,rfl⟩⟩
 | some ad=>
  go_enter Tryz.func106,Tryz.ntmps106
  go_wp2_with (at_builtin;refine wpList_app_src rfl (.tmp 5) (.tmp 6) _ rfl w.heap.size 9 i9 _ 1 16 Tryz.underlying28 HI.out HZ.out HS.out HB.out rfl (by decide) (.slice (some ⟨w.heap.size,0,none⟩) 0 0) 0 [] rfl (World.ownsRow_made w #[] 0 (Nat.le_refl _) (by decide) rfl) (.slice (some ad) l.length c) l.length (l.map Value.string) rfl (HSRC.out _ (kR.alloc _)) (by simp) (strs_one l) ?_ ?_ (by simp) ?_)
  ·have:=HN.out;unfold maxLen;omega
  ·have:=HN.out;omega
  intro v1 w1 own1 hg1 hat1
  have R1:Hid (NRow w w.heap.size w1 l v1):=Ld (by
   exact⟨((Kept.refl (fun _=>False) w).alloc (.cells #[] 9)).via1 (kept_grown1 hg1) (fun x hx e=>by have e2:some w.heap.size=some x:=e;have:=Option.some.inj e2;omega),by simpa using own1⟩)
  clear own1 hg1 hat1
  go_wp2_with fail
  go_ret
  exact⟨_,rfl,R1.out⟩
theorem nml_new (W:World) (s:ByteArray):NmL (fun q=>W.heap.size≤q) (W.alloc (.cells #[.string s] 9)) [s] (.slice (some ⟨W.heap.size,0,none⟩) 1 1):=
 ⟨_,1,1,rfl,rfl,Nat.le_refl _,(fun e=>by cases e),fun i hi=>⟨_,0,rfl,Nat.le_refl _,by have h0:i=0:=(by simpa using hi);subst h0;exact (Blk.new W 9 [Value.string s]).cell 0⟩⟩
theorem nml_new1 (W:World) (o:Obj) (s:ByteArray):NmL (fun q=>W.heap.size≤q) ((W.alloc o).alloc (.cells #[.string s] 9)) [s] (.slice (some ⟨W.heap.size+1,0,none⟩) 1 1):=by
 have h:=nml_new (W.alloc o) s
 have e:(W.alloc o).heap.size=W.heap.size+1:=by simp
 rw[e] at h
 exact h.mono (fun q _ h=>by omega)
theorem nml_pre {W w':World} {Z l:List ByteArray} {v u:Value} {ok:Nat→Prop} (R:NRow W W.heap.size w' Z v) (h:NmL ok W l u):NmL (fun q=>ok q∧v.ownBlock≠some q) w' l u:=
 (h.mono (ok':=fun q=>ok q∧v.ownBlock≠some q) (fun q hq ho=>⟨ho,fun e=>by have:=(R.own.lt q e).1;omega⟩)).frame (sK R.kp)
theorem nml_post {W w' W2:World} {base:Nat} {Z l:List ByteArray} {v u:Value} (R:NRow W base w' Z v) (h:NmL (fun q=>w'.heap.size≤q) W2 l u):NmL (fun q=>w'.heap.size≤q∧v.ownBlock≠some q) W2 l u:=
 h.mono (fun q _ h=>⟨h,fun e=>by have:=(R.own.lt q e).2;omega⟩)
theorem nml_grow {W w':World} {l:List ByteArray} {u:Value} {ok:Nat→Prop} {r:Option Nat} (g:W.grownBy w' r) (h:NmL (fun q=>ok q∧r≠some q) W l u):NmL ok w' l u:=
 (h.frame (Same.of_kept (kept_grown1 g) (fun q h e=>h.2 e))).mono (fun _ _ h=>h.1)
theorem keep2 {W:World} {b i:Nat} {g:Nat} {v x y:Value} (h:W.cell? ⟨b,i,none⟩=some v) (n:b≠g):((W.setCell ⟨g,0,none⟩ x).setCell ⟨g,1,none⟩ y).cell? ⟨b,i,none⟩=some v:=by
 have h1:Kept (fun q=>q=g) W ((W.setCell ⟨g,0,none⟩ x).setCell ⟨g,1,none⟩ y):=((Kept.refl (fun q=>q=g) W).setCell (p:=⟨g,0,none⟩) (Or.inl rfl) x).setCell (p:=⟨g,1,none⟩) (Or.inl rfl) y
 exact (Same.of_kept (ok:=fun q=>q≠g) h1 (fun q h e=>h e)).cell n h
structure E11 (w2:World) (T:Nat) (X Y:List ByteArray) (u v:Value) (W:World):Prop where
 kp:Kept (fun _=>False) w2 W
 b:Blk W T 84 [u,v]
 x:NmL (fun _=>True) W X u
 y:NmL (fun _=>True) W Y v
theorem e11 {w2 w8 wb:World} {T:Nat} {X Y:List ByteArray} {u v x0 x1:Value} {ok1 ok2:Nat→Prop} (KW:Kept (fun _=>False) w2 w8) (KB:Kept (fun _=>False) w8 wb) (hT:w2.heap.size≤T) (hT8:T<w8.heap.size) (bT:Blk wb T 84 [x0,x1])
  (A1:NmL ok1 wb X u) (A2:NmL ok2 wb Y v) (h1:∀ q,ok1 q→w8.heap.size≤q) (h2:∀ q,ok2 q→w8.heap.size≤q):E11 w2 T X Y u v ((wb.setCell ⟨T,0,none⟩ u).setCell ⟨T,1,none⟩ v):=by
 have k:Kept (fun q=>q=T) wb ((wb.setCell ⟨T,0,none⟩ u).setCell ⟨T,1,none⟩ v):=((Kept.refl (fun q=>q=T) wb).setCell (p:=⟨T,0,none⟩) (Or.inl rfl) u).setCell (p:=⟨T,1,none⟩) (Or.inl rfl) v
 refine⟨((KW.trans KB).setCell (p:=⟨T,0,none⟩) (Or.inr hT) u).setCell (p:=⟨T,1,none⟩) (Or.inr hT) v,(bT.set 0 u).set 1 v,?_,?_⟩
 ·exact (A1.frame (Same.of_kept k (fun q h e=>by have:=h1 q h;omega))).mono (fun _ _ _=>trivial)
 ·exact (A2.frame (Same.of_kept k (fun q h e=>by have:=h2 q h;omega))).mono (fun _ _ _=>trivial)
theorem nml_own {w2:World} {base:Nat} {Z r:List ByteArray} {v':Value} (own:w2.ownsRow base 9 1 v' (Z.length+r.length) (Z.map Value.string++r.map Value.string)):NmL (fun q=>base≤q) w2 (Z++r) v':=
 .of_own (base:=base) (by rw[List.length_append,List.map_append];exact own) (fun g hg=>by
  have h2:w2.ownsRow base 9 1 v' (Z++r).length ((Z++r).map Value.string):=by rw[List.length_append,List.map_append];exact own
  exact (h2.lt g hg).1)
def SAlC (t:Tm):Prop:=∀ (t':Tm) (X Y:List ByteArray) (w:World) (ok ok' kx ky:Nat→Prop) (tk kk tk' kk' vx vy:Value),TyL ok w t.ty.kids tk→TmL ok w t.kids kk→TyL ok' w t'.ty.kids tk'→TmL ok' w t'.kids kk'→NmL kx w X vx→NmL ky w Y vy→X.length+tmD t≤900000→Y.length+tmD t≤900000 →
 Calls Tryz.prog 57 #[.agg #[vx,vy],tmVal t tk kk,tmVal t' tk' kk'] w fun e w'=>e=.returned (.bool (alikeT t t' X Y))∧Kept (fun _=>False) w w'
theorem salike_name {nm:ByteArray} {N:Int} {ty:Ty} {l:List Tm} (hty:BdTy ty) (hn:l.length≤1000000):SAlC (.mk 20 nm N ty l):=by
 rintro⟨op',nm',N',ty',l'⟩ X Y w ok ok' kx ky tk kk tk' kk' vx vy h1 h2 h3 h4 hx hy bx bY
 have h1:TyL ok w ty.kids tk:=h1
 have h2:TmL ok w l kk:=h2
 have h3:TyL ok' w ty'.kids tk':=h3
 have h4:TmL ok' w l' kk':=h4
 obtain⟨a,n,c,rfl⟩:=h1.slice
 obtain⟨ma,mn,mc,rfl⟩:=h2.slice
 obtain⟨a',n',c',rfl⟩:=h3.slice
 obtain⟨ma',mn',mc',rfl⟩:=h4.slice
 obtain rfl:mn=l.length:=h2.len
 obtain rfl:mn'=l'.length:=h4.len
 obtain⟨xa,xc,rfl⟩:=hx.slice
 obtain⟨ya,yc,rfl⟩:=hy.slice
 change Calls Tryz.prog 57 #[.agg #[.slice xa X.length xc,.slice ya Y.length yc],.agg #[.int .i64 20,.string nm,.int .i64 N,.int .i64 ty.kind,.string ty.name,.slice a n c,.slice ma l.length mc],.agg #[.int .i64 op',.string nm',.int .i64 N',.int .i64 ty'.kind,.string ty'.name,.slice a' n' c',.slice ma' l'.length mc']] w _
 have bS:Blk (((w.alloc (.cells #[.slice xa X.length xc,.slice ya Y.length yc] 84)).alloc (.cells #[.int .i64 20,.string nm,.int .i64 N,.int .i64 ty.kind,.string ty.name,.slice a n c,.slice ma l.length mc] 27)).alloc (.cells #[.int .i64 op',.string nm',.int .i64 N',.int .i64 ty'.kind,.string ty'.name,.slice a' n' c',.slice ma' l'.length mc'] 27)) w.heap.size 84 [.slice xa X.length xc,.slice ya Y.length yc]:=((Blk.new w 84 _).alloc _).alloc _
 have bA:Blk (((w.alloc (.cells #[.slice xa X.length xc,.slice ya Y.length yc] 84)).alloc (.cells #[.int .i64 20,.string nm,.int .i64 N,.int .i64 ty.kind,.string ty.name,.slice a n c,.slice ma l.length mc] 27)).alloc (.cells #[.int .i64 op',.string nm',.int .i64 N',.int .i64 ty'.kind,.string ty'.name,.slice a' n' c',.slice ma' l'.length mc'] 27)) (w.heap.size+1) 27 [.int .i64 20,.string nm,.int .i64 N,.int .i64 ty.kind,.string ty.name,.slice a n c,.slice ma l.length mc]:=(Blk.new' 27 _ (by simp)).alloc _
 have bB:Blk (((w.alloc (.cells #[.slice xa X.length xc,.slice ya Y.length yc] 84)).alloc (.cells #[.int .i64 20,.string nm,.int .i64 N,.int .i64 ty.kind,.string ty.name,.slice a n c,.slice ma l.length mc] 27)).alloc (.cells #[.int .i64 op',.string nm',.int .i64 N',.int .i64 ty'.kind,.string ty'.name,.slice a' n' c',.slice ma' l'.length mc'] 27)) (w.heap.size+2) 27 [.int .i64 op',.string nm',.int .i64 N',.int .i64 ty'.kind,.string ty'.name,.slice a' n' c',.slice ma' l'.length mc']:=Blk.new' 27 _ (by simp)
 have K1:Kept (fun _=>False) w (((w.alloc (.cells #[.slice xa X.length xc,.slice ya Y.length yc] 84)).alloc (.cells #[.int .i64 20,.string nm,.int .i64 N,.int .i64 ty.kind,.string ty.name,.slice a n c,.slice ma l.length mc] 27)).alloc (.cells #[.int .i64 op',.string nm',.int .i64 N',.int .i64 ty'.kind,.string ty'.name,.slice a' n' c',.slice ma' l'.length mc'] 27)):=((kR.alloc _).alloc _).alloc _
 have HT:=Ld (fun W (kW:Kept (fun _=>False) w W)=>sameType_any hty ty' W ok ok' _ _ (h1.frame (Same.of_kept kW (fun k h e=>e))) (h3.frame (Same.of_kept kW (fun k h e=>e))))
 have HLX:=Ld (fun W (kW:Kept (fun _=>False) w W)=>last_any nm (hx.frame (Same.of_kept kW (fun k h e=>e))) (by omega))
 have HLY:=Ld (fun W (kW:Kept (fun _=>False) w W)=>last_any nm' (hy.frame (Same.of_kept kW (fun k h e=>e))) (by omega))
 unfold tyVal at HT
 have HD:=Ld (show alikeT (.mk 20 nm N ty l) (.mk op' nm' N' ty' l') X Y=((decide (20=op')&&decide (N=N')&&tyEq ty ty'&&decide (l.length=l'.length))&&(decide (lastI nm X=lastI nm' Y)&&(decide (0≤lastI nm X)||decide (nm=nm')))) by rw[alikeT];simp)
 clear h1 h2 h3 h4 hx hy bx bY
 generalize alikeT (.mk 20 nm N ty l) (.mk op' nm' N' ty' l') X Y=rr at *
 by_cases e1:(20:Int)=op'
 case neg=>
  have t1:((20:Int)==op')=false:=by simpa using e1
  have t2:((20:Int) != op')=true:=by simpa using e1
  have HR:Hid (rr=false):=Ld (by rw[HD.out];simp[e1])
  clear e1
  go_enter Tryz.func57,Tryz.ntmps57
  go_wp2_with fail
  go_ret
  exact⟨by rw[HR.out];rfl,K1⟩
 subst e1
 by_cases e3:N=N'
 case neg=>
  have t1:(N==N')=false:=by simpa using e3
  have t2:(N != N')=true:=by simpa using e3
  have HR:Hid (rr=false):=Ld (by rw[HD.out];simp[e3])
  clear e3
  go_enter Tryz.func57,Tryz.ntmps57
  go_wp2_with fail
  go_ret
  exact⟨by rw[HR.out];rfl,K1⟩
 subst e3
 go_enter Tryz.func57,Tryz.ntmps57
 go_wp2_with fail
 generalize (((w.alloc (.cells #[.slice xa X.length xc,.slice ya Y.length yc] 84)).alloc (.cells #[.int .i64 20,.string nm,.int .i64 N,.int .i64 ty.kind,.string ty.name,.slice a n c,.slice ma l.length mc] 27)).alloc (.cells #[.int .i64 20,.string nm',.int .i64 N,.int .i64 ty'.kind,.string ty'.name,.slice a' n' c',.slice ma' l'.length mc'] 27))=w1 at *
 cases ht:tyEq ty ty'
 ·have HR:Hid (rr=false):=Ld (by rw[HD.out,ht];simp)
  refine (HT.out _ K1).mono ?_
  rintro e w2 ⟨rfl,k2⟩
  go_wp2_with fail
  go_ret
  exact⟨by rw[HR.out];rfl,K1.trans k2⟩
 refine (HT.out _ K1).mono ?_
 rintro e w2 ⟨rfl,k2⟩
 have gA2:∀ i,w2.cell? ⟨w.heap.size+1,i,none⟩=[Value.int .i64 20,.string nm,.int .i64 N,.int .i64 ty.kind,.string ty.name,.slice a n c,.slice ma l.length mc][i]?:=(bA.kept k2 (fun h=>h)).cell
 have gB2:∀ i,w2.cell? ⟨w.heap.size+2,i,none⟩=[Value.int .i64 20,.string nm',.int .i64 N,.int .i64 ty'.kind,.string ty'.name,.slice a' n' c',.slice ma' l'.length mc'][i]?:=(bB.kept k2 (fun h=>h)).cell
 have K2:=K1.trans k2
 clear gA2 gB2
 have bA2:=bA.kept k2 (fun h=>h)
 have bS2:=bS.kept k2 (fun h=>h)
 have bB2:=bB.kept k2 (fun h=>h)
 clear bA bB bS K1 k2
 have gA:∀ i,w2.cell? ⟨w.heap.size+1,i,none⟩=[Value.int .i64 20,.string nm,.int .i64 N,.int .i64 ty.kind,.string ty.name,.slice a n c,.slice ma l.length mc][i]?:=bA2.cell
 have gB:∀ i,w2.cell? ⟨w.heap.size+2,i,none⟩=[Value.int .i64 20,.string nm',.int .i64 N,.int .i64 ty'.kind,.string ty'.name,.slice a' n' c',.slice ma' l'.length mc'][i]?:=bB2.cell
 by_cases e4:l.length=l'.length
 case neg=>
  have t1:((l.length:Int) != (l'.length:Int))=true:=by simp;omega
  have t2:((l.length:Int)==(l'.length:Int))=false:=by simp;omega
  have HR:Hid (rr=false):=Ld (by rw[HD.out];simp[e4])
  clear e4
  go_wp2_with fail
  go_ret
  exact⟨by rw[HR.out];rfl,K2⟩
 have HR:Hid (rr=(decide (lastI nm X=lastI nm' Y)&&(decide (0≤lastI nm X)||(nm.toList==nm'.toList)))):=Ld (by rw[HD.out,ht,nm_eq];simp[e4])
 clear HD
 rw[← e4] at gB ⊢
 clear e4
 have t4:((l.length:Int) != (l.length:Int))=false:=by simp
 have x1:w2.cell? ⟨w.heap.size+1,1,none⟩=some (.string nm):=gA 1
 have x2:w2.cell? ⟨w.heap.size+2,1,none⟩=some (.string nm'):=gB 1
 have z1:w2.cell? ⟨w.heap.size,0,none⟩=some (.slice xa X.length xc):=bS2.cell 0
 have z2:w2.cell? ⟨w.heap.size,1,none⟩=some (.slice ya Y.length yc):=bS2.cell 1
 have HS:=Ld (fun W (k:Kept (fun _=>False) w2 W)=>(⟨(bS2.kept k (fun h=>h)).cell 0,(bS2.kept k (fun h=>h)).cell 1,(bA2.kept k (fun h=>h)).cell 1,(bB2.kept k (fun h=>h)).cell 1⟩:W.cell? ⟨w.heap.size,0,none⟩=some (.slice xa X.length xc)∧W.cell? ⟨w.heap.size,1,none⟩=some (.slice ya Y.length yc)∧W.cell? ⟨w.heap.size+1,1,none⟩=some (.string nm)∧W.cell? ⟨w.heap.size+2,1,none⟩=some (.string nm')))
 have KD:Kept (fun _=>False) w2 w2.drew:=kR.drew
 have HXY:Hid (∀ (W:World) (v:Value) (s:ByteArray) (r:Int),Kept (fun _=>False) w2 W→((s=nm∧v=(.slice xa X.length xc)∧r=lastI nm X)∨(s=nm'∧v=(.slice ya Y.length yc)∧r=lastI nm' Y))→Calls Tryz.prog 105 #[v,.string s] W fun e w'=>e=.returned (.int .i64 r)∧Kept (fun _=>False) W w'):=Ld (by
  rintro W v s r k (⟨rfl,rfl,rfl⟩ | ⟨rfl,rfl,rfl⟩)
  ·exact HLX.out W (K2.trans k)
  ·exact HLY.out W (K2.trans k))
 go_wp2_with fail
 clear HT bA2 bB2 bS2 HLX HLY t4 ht gA gB
 generalize lastI nm X=p at *
 generalize lastI nm' Y=q at *
 go_region_held3 (fun w'=>w'.cell? ⟨w.heap.size,0,none⟩=some (.slice xa X.length xc)∧w'.cell? ⟨w.heap.size,1,none⟩=some (.slice ya Y.length yc)∧w'.cell? ⟨w.heap.size+1,1,none⟩=some (.string nm)∧w'.cell? ⟨w.heap.size+2,1,none⟩=some (.string nm')) (go_keep)
  (first | (go_at_call 105;refine (HXY.out _ _ _ _ (by first | exact KD | exact KE) (by first | exact Or.inl ⟨rfl,rfl,rfl⟩ | exact Or.inr ⟨rfl,rfl,rfl⟩)).mono ?_;rintro e wq ⟨rfl,kq⟩;first | (have KF:=KE.trans kq;obtain⟨n0,n1,n2,n3⟩:=HS.out _ KF) | (have KE:=KD.trans kq;obtain⟨m0,m1,m2,m3⟩:=HS.out _ KE)))
 all_goals
  by_cases f1:p=q
  case neg=>
   have g1:(p==q)=false:=by simpa using f1
   go_wp2_with fail
   go_ret
   exact⟨by rw[HR.out];simp[f1],K2.trans KF⟩
  subst f1
  by_cases f2:0≤p
  case pos=>
   have g2:decide (0≤p)=true:=by simpa using f2
   go_wp2_with fail
   go_ret
   exact⟨by rw[HR.out];simp[f2],K2.trans KF⟩
  have g2:decide (0≤p)=false:=by simpa using f2
  cases f3:(nm.toList==nm'.toList)
  ·go_wp2_with fail
   go_ret
   exact⟨by rw[HR.out];simp[f2,f3],K2.trans KF⟩
  ·go_wp2_with fail
   go_ret
   exact⟨by rw[HR.out];simp[f2,f3],K2.trans KF⟩
theorem salike_one {op:Int} {nm:ByteArray} {N:Int} {ty:Ty} {l:List Tm} (h20:op≠20) (hty:BdTy ty) (IH:∀ u,u∈l→SAlC u) (hn:l.length≤1000000):SAlC (.mk op nm N ty l):=by
 rintro⟨op',nm',N',ty',l'⟩ X Y w ok ok' kx ky tk kk tk' kk' vx vy h1 h2 h3 h4 hx hy bx bY
 have h1:TyL ok w ty.kids tk:=h1
 have h2:TmL ok w l kk:=h2
 have h3:TyL ok' w ty'.kids tk':=h3
 have h4:TmL ok' w l' kk':=h4
 obtain⟨a,n,c,rfl⟩:=h1.slice
 obtain⟨ma,mn,mc,rfl⟩:=h2.slice
 obtain⟨a',n',c',rfl⟩:=h3.slice
 obtain⟨ma',mn',mc',rfl⟩:=h4.slice
 obtain rfl:mn=l.length:=h2.len
 obtain rfl:mn'=l'.length:=h4.len
 obtain⟨xa,xc,rfl⟩:=hx.slice
 obtain⟨ya,yc,rfl⟩:=hy.slice
 change Calls Tryz.prog 57 #[.agg #[.slice xa X.length xc,.slice ya Y.length yc],.agg #[.int .i64 op,.string nm,.int .i64 N,.int .i64 ty.kind,.string ty.name,.slice a n c,.slice ma l.length mc],.agg #[.int .i64 op',.string nm',.int .i64 N',.int .i64 ty'.kind,.string ty'.name,.slice a' n' c',.slice ma' l'.length mc']] w _
 have bS:Blk (((w.alloc (.cells #[.slice xa X.length xc,.slice ya Y.length yc] 84)).alloc (.cells #[.int .i64 op,.string nm,.int .i64 N,.int .i64 ty.kind,.string ty.name,.slice a n c,.slice ma l.length mc] 27)).alloc (.cells #[.int .i64 op',.string nm',.int .i64 N',.int .i64 ty'.kind,.string ty'.name,.slice a' n' c',.slice ma' l'.length mc'] 27)) w.heap.size 84 [.slice xa X.length xc,.slice ya Y.length yc]:=((Blk.new w 84 _).alloc _).alloc _
 have bA:Blk (((w.alloc (.cells #[.slice xa X.length xc,.slice ya Y.length yc] 84)).alloc (.cells #[.int .i64 op,.string nm,.int .i64 N,.int .i64 ty.kind,.string ty.name,.slice a n c,.slice ma l.length mc] 27)).alloc (.cells #[.int .i64 op',.string nm',.int .i64 N',.int .i64 ty'.kind,.string ty'.name,.slice a' n' c',.slice ma' l'.length mc'] 27)) (w.heap.size+1) 27 [.int .i64 op,.string nm,.int .i64 N,.int .i64 ty.kind,.string ty.name,.slice a n c,.slice ma l.length mc]:=(Blk.new' 27 _ (by simp)).alloc _
 have bB:Blk (((w.alloc (.cells #[.slice xa X.length xc,.slice ya Y.length yc] 84)).alloc (.cells #[.int .i64 op,.string nm,.int .i64 N,.int .i64 ty.kind,.string ty.name,.slice a n c,.slice ma l.length mc] 27)).alloc (.cells #[.int .i64 op',.string nm',.int .i64 N',.int .i64 ty'.kind,.string ty'.name,.slice a' n' c',.slice ma' l'.length mc'] 27)) (w.heap.size+2) 27 [.int .i64 op',.string nm',.int .i64 N',.int .i64 ty'.kind,.string ty'.name,.slice a' n' c',.slice ma' l'.length mc']:=Blk.new' 27 _ (by simp)
 have K1:Kept (fun _=>False) w (((w.alloc (.cells #[.slice xa X.length xc,.slice ya Y.length yc] 84)).alloc (.cells #[.int .i64 op,.string nm,.int .i64 N,.int .i64 ty.kind,.string ty.name,.slice a n c,.slice ma l.length mc] 27)).alloc (.cells #[.int .i64 op',.string nm',.int .i64 N',.int .i64 ty'.kind,.string ty'.name,.slice a' n' c',.slice ma' l'.length mc'] 27)):=((kR.alloc _).alloc _).alloc _
 have HT:=Ld (fun W (kW:Kept (fun _=>False) w W)=>sameType_any hty ty' W ok ok' _ _ (h1.frame (Same.of_kept kW (fun k h e=>e))) (h3.frame (Same.of_kept kW (fun k h e=>e))))
 have bX:X.length+(tmDs l+1)≤900000:=by rw[tmD] at bx;exact bx
 have bY2:Y.length+(tmDs l+1)≤900000:=by rw[tmD] at bY;exact bY
 have HIH:=Ld IH
 have HAT:=Ld (fun W (k:Kept (fun _=>False) w W)=>(h2.frame (sK k)).at)
 have HAT':=Ld (fun W (k:Kept (fun _=>False) w W)=>(h4.frame (sK k)).at)
 have HX:=Ld (fun W (k:Kept (fun _=>False) w W)=>hx.frame (sK k))
 have HY:=Ld (fun W (k:Kept (fun _=>False) w W)=>hy.frame (sK k))
 have HBX:=Ld bX
 have HBY:=Ld bY2
 unfold tyVal at HT
 have HD:=Ld (show alikeT (.mk op nm N ty l) (.mk op' nm' N' ty' l') X Y=((decide (op=op')&&decide (N=N')&&tyEq ty ty'&&decide (l.length=l'.length))&&alikeK (binderB op) nm nm' 0 l l' X Y) by rw[alikeT,if_neg h20])
 clear h1 h2 h3 h4 hx hy bx bY bX bY2 IH
 generalize alikeT (.mk op nm N ty l) (.mk op' nm' N' ty' l') X Y=rr at *
 by_cases e1:op=op'
 case neg=>
  have t1:(op==op')=false:=by simpa using e1
  have t2:(op != op')=true:=by simpa using e1
  have HR:Hid (rr=false):=Ld (by rw[HD.out];simp[e1])
  clear e1
  go_enter Tryz.func57,Tryz.ntmps57
  go_wp2_with fail
  go_ret
  exact⟨by rw[HR.out];rfl,K1⟩
 subst e1
 by_cases e3:N=N'
 case neg=>
  have t1:(N==N')=false:=by simpa using e3
  have t2:(N != N')=true:=by simpa using e3
  have HR:Hid (rr=false):=Ld (by rw[HD.out];simp[e3])
  clear e3
  go_enter Tryz.func57,Tryz.ntmps57
  go_wp2_with fail
  go_ret
  exact⟨by rw[HR.out];rfl,K1⟩
 subst e3
 go_enter Tryz.func57,Tryz.ntmps57
 go_wp2_with fail
 generalize (((w.alloc (.cells #[.slice xa X.length xc,.slice ya Y.length yc] 84)).alloc (.cells #[.int .i64 op,.string nm,.int .i64 N,.int .i64 ty.kind,.string ty.name,.slice a n c,.slice ma l.length mc] 27)).alloc (.cells #[.int .i64 op,.string nm',.int .i64 N,.int .i64 ty'.kind,.string ty'.name,.slice a' n' c',.slice ma' l'.length mc'] 27))=w1 at *
 cases ht:tyEq ty ty'
 ·have HR:Hid (rr=false):=Ld (by rw[HD.out,ht];simp)
  refine (HT.out _ K1).mono ?_
  rintro e w2 ⟨rfl,k2⟩
  go_wp2_with fail
  go_ret
  exact⟨by rw[HR.out];rfl,K1.trans k2⟩
 refine (HT.out _ K1).mono ?_
 rintro e w2 ⟨rfl,k2⟩
 have gA2:∀ i,w2.cell? ⟨w.heap.size+1,i,none⟩=[Value.int .i64 op,.string nm,.int .i64 N,.int .i64 ty.kind,.string ty.name,.slice a n c,.slice ma l.length mc][i]?:=(bA.kept k2 (fun h=>h)).cell
 have gB2:∀ i,w2.cell? ⟨w.heap.size+2,i,none⟩=[Value.int .i64 op,.string nm',.int .i64 N,.int .i64 ty'.kind,.string ty'.name,.slice a' n' c',.slice ma' l'.length mc'][i]?:=(bB.kept k2 (fun h=>h)).cell
 have K2:=K1.trans k2
 clear gA2 gB2
 have bA2:=bA.kept k2 (fun h=>h)
 have bS2:=bS.kept k2 (fun h=>h)
 have bB2:=bB.kept k2 (fun h=>h)
 clear bA bB bS K1 k2
 have gA:∀ i,w2.cell? ⟨w.heap.size+1,i,none⟩=[Value.int .i64 op,.string nm,.int .i64 N,.int .i64 ty.kind,.string ty.name,.slice a n c,.slice ma l.length mc][i]?:=bA2.cell
 have gB:∀ i,w2.cell? ⟨w.heap.size+2,i,none⟩=[Value.int .i64 op,.string nm',.int .i64 N,.int .i64 ty'.kind,.string ty'.name,.slice a' n' c',.slice ma' l'.length mc'][i]?:=bB2.cell
 by_cases e4:l.length=l'.length
 case neg=>
  have t1:((l.length:Int) != (l'.length:Int))=true:=by simp;omega
  have t2:((l.length:Int)==(l'.length:Int))=false:=by simp;omega
  have HR:Hid (rr=false):=Ld (by rw[HD.out];simp[e4])
  clear e4
  go_wp2_with fail
  go_ret
  exact⟨by rw[HR.out];rfl,K2⟩
 have HR:Hid (rr=alikeK (binderB op) nm nm' 0 l l' X Y):=Ld (by rw[HD.out,ht];simp[e4])
 clear HD
 have E4:=Ld e4
 rw[← e4] at gB ⊢
 clear e4
 have t4:((l.length:Int) != (l.length:Int))=false:=by simp
 have t5:(op==20)=false:=by simpa using h20
 have BA:=Ld bA2
 have BB:=Ld bB2
 have BS:=Ld bS2
 clear bA2 bB2 bS2
 go_wp2_with fail
 clear HT t4 ht gA gB
 go_loopw [70] (fun i wr=>∃ j:Nat,j≤l.length∧i=.int .i64 j∧Kept (fun _=>False) w2 wr∧Hid (rr=alikeK (binderB op) nm nm' j (l.drop j) (l'.drop j) X Y)) (fun i _=>l.length-(intOf i).toNat)
 case atStart=>exact⟨0,Nat.zero_le _,rfl,Kept.refl _ _,HR⟩
 case round=>
  obtain⟨j,hj,rfl,kr,hq⟩:=hrel
  have gS:∀ i,wr.cell? ⟨w.heap.size,i,none⟩=[Value.slice xa X.length xc,.slice ya Y.length yc][i]?:=(BS.out.kept kr (fun h=>h)).cell
  have gA:∀ i,wr.cell? ⟨w.heap.size+1,i,none⟩=[Value.int .i64 op,.string nm,.int .i64 N,.int .i64 ty.kind,.string ty.name,.slice a n c,.slice ma l.length mc][i]?:=(BA.out.kept kr (fun h=>h)).cell
  by_cases hlt:j<l.length
  ·have hlt':j<l'.length:=by rw[← E4.out];exact hlt
   have gB:∀ i,wr.cell? ⟨w.heap.size+2,i,none⟩=[Value.int .i64 op,.string nm',.int .i64 N,.int .i64 ty'.kind,.string ty'.name,.slice a' n' c',.slice ma' l.length mc'][i]?:=by rw[E4.out];exact (BB.out.kept kr (fun h=>h)).cell
   have hj2:(j:Int)<(l.length:Int):=by omega
   have hj3:(j:Int)<1000000:=by omega
   cases hbi:binderB op
   ·have hco:(binderB op&&j==1)=false:=by rw[hbi];rfl
    have bT:Blk (wr.alloc (.cells #[.slice xa X.length xc,.slice ya Y.length yc] 84)) wr.heap.size 84 [.slice xa X.length xc,.slice ya Y.length yc]:=Blk.new wr 84 _
    have KW:Kept (fun _=>False) w2 (wr.alloc (.cells #[.slice xa X.length xc,.slice ya Y.length yc] 84)):=kr.alloc _
    have hA:∀ i,(wr.alloc (.cells #[.slice xa X.length xc,.slice ya Y.length yc] 84)).cell? ⟨w.heap.size+1,i,none⟩=[Value.int .i64 op,.string nm,.int .i64 N,.int .i64 ty.kind,.string ty.name,.slice a n c,.slice ma l.length mc][i]?:=(BA.out.kept KW (fun h=>h)).cell
    clear gB
    go_wp2_with (go_at_call 100;refine cR (binder_t hbi _) ?_)
    clear gA gS hA
    generalize (wr.alloc (.cells #[.slice xa X.length xc,.slice ya Y.length yc] 84))=w8 at *
    have gT:∀ i,w8.cell? ⟨wr.heap.size,i,none⟩=[Value.slice xa X.length xc,.slice ya Y.length yc][i]?:=bT.cell
    obtain⟨g,off,ta,tn,tc,na,nn,nc,e2,_,lg,⟨c0,c1,c2,c3,c4,c5,c6⟩,hty,htm⟩:=HAT.out w8 (K2.trans KW) j hlt
    cases e2
    obtain⟨g',off',ta',tn',tc',na',nn',nc',e2,_,lg',⟨d0,d1,d2,d3,d4,d5,d6⟩,hty',htm'⟩:=HAT'.out w8 (K2.trans KW) j hlt'
    cases e2
    have gA:∀ i,w8.cell? ⟨w.heap.size+1,i,none⟩=[Value.int .i64 op,.string nm,.int .i64 N,.int .i64 ty.kind,.string ty.name,.slice a n c,.slice (some ⟨g,off,none⟩) l.length mc][i]?:=(BA.out.kept KW (fun h=>h)).cell
    have gB:∀ i,w8.cell? ⟨w.heap.size+2,i,none⟩=[Value.int .i64 op,.string nm',.int .i64 N,.int .i64 ty'.kind,.string ty'.name,.slice a' n' c',.slice (some ⟨g',off',none⟩) l.length mc'][i]?:=by rw[E4.out];exact (BB.out.kept KW (fun h=>h)).cell
    have hcon:=Ld (fun (W:World) (kW:Kept (fun _=>False) w8 W)=>HIH.out _ (List.getElem_mem hlt) l'[j] X Y W ok ok' _ _ _ _ _ _ _ _ (hty.frame (Same.of_kept kW (fun k h e=>e))) (htm.frame (Same.of_kept kW (fun k h e=>e))) (hty'.frame (Same.of_kept kW (fun k h e=>e))) (htm'.frame (Same.of_kept kW (fun k h e=>e))) ((HX.out w8 (K2.trans KW)).frame (Same.of_kept kW (fun k h e=>e))) ((HY.out w8 (K2.trans KW)).frame (Same.of_kept kW (fun k h e=>e))) (by have:=HBX.out;have:=tmDs_mem (List.getElem_mem hlt);simp;omega) (by have:=HBY.out;have:=tmDs_mem (List.getElem_mem hlt);simp;omega))
    unfold tmVal at hcon
    have HS:=Ld (alikeK_drop (bi:=binderB op) (nm:=nm) (nm':=nm') (X:=X) (Y:=Y) hlt hlt')
    rw[hco] at HS
    simp only[Bool.false_eq_true,if_false,if_true] at HS
    clear hty hty' htm htm'
    go_wp2_with fail
    go_still_tail 11,(by kernel_rfl)
    change wpList _ _ _ _ _ (World.drew w8)
    have kd:Kept (fun _=>False) w8 (World.drew w8):=kR.drew
    generalize World.drew w8=w4 at *
    cases hr:alikeT l[j] l'[j] X Y
    ·rw[hr] at hcon HS
     go_wp2_with (go_at_call 57;refine (hcon.out _ kd).mono ?_;rintro e w' ⟨rfl,k2⟩)
     go_ret
     exact⟨by rw[hq.out,HS.out];rfl,((K2.trans KW).trans kd).trans k2⟩
    ·rw[hr] at hcon HS
     go_wp2_with (go_at_call 57;refine (hcon.out _ kd).mono ?_;rintro e w' ⟨rfl,k2⟩)
     go_roundw
     case rel=>exact⟨j+1,by omega,by go_num,(KW.trans kd).trans k2,Ld (by rw[hq.out,HS.out];first | rfl | (rw[hbi];rfl))⟩
     case measure=>simp[intOf];omega
   by_cases hj1:j=1
   case neg=>
    have hco:(binderB op&&j==1)=false:=by simp[hj1]
    have hj4:((j:Int)==1)=false:=by simp;omega
    have bT:Blk (wr.alloc (.cells #[.slice xa X.length xc,.slice ya Y.length yc] 84)) wr.heap.size 84 [.slice xa X.length xc,.slice ya Y.length yc]:=Blk.new wr 84 _
    have KW:Kept (fun _=>False) w2 (wr.alloc (.cells #[.slice xa X.length xc,.slice ya Y.length yc] 84)):=kr.alloc _
    have hA:∀ i,(wr.alloc (.cells #[.slice xa X.length xc,.slice ya Y.length yc] 84)).cell? ⟨w.heap.size+1,i,none⟩=[Value.int .i64 op,.string nm,.int .i64 N,.int .i64 ty.kind,.string ty.name,.slice a n c,.slice ma l.length mc][i]?:=(BA.out.kept KW (fun h=>h)).cell
    clear gB
    go_wp2_with (go_at_call 100;refine cR (binder_t hbi _) ?_)
    clear gA gS hA
    generalize (wr.alloc (.cells #[.slice xa X.length xc,.slice ya Y.length yc] 84))=w8 at *
    have gT:∀ i,w8.cell? ⟨wr.heap.size,i,none⟩=[Value.slice xa X.length xc,.slice ya Y.length yc][i]?:=bT.cell
    obtain⟨g,off,ta,tn,tc,na,nn,nc,e2,_,lg,⟨c0,c1,c2,c3,c4,c5,c6⟩,hty,htm⟩:=HAT.out w8 (K2.trans KW) j hlt
    cases e2
    obtain⟨g',off',ta',tn',tc',na',nn',nc',e2,_,lg',⟨d0,d1,d2,d3,d4,d5,d6⟩,hty',htm'⟩:=HAT'.out w8 (K2.trans KW) j hlt'
    cases e2
    have gA:∀ i,w8.cell? ⟨w.heap.size+1,i,none⟩=[Value.int .i64 op,.string nm,.int .i64 N,.int .i64 ty.kind,.string ty.name,.slice a n c,.slice (some ⟨g,off,none⟩) l.length mc][i]?:=(BA.out.kept KW (fun h=>h)).cell
    have gB:∀ i,w8.cell? ⟨w.heap.size+2,i,none⟩=[Value.int .i64 op,.string nm',.int .i64 N,.int .i64 ty'.kind,.string ty'.name,.slice a' n' c',.slice (some ⟨g',off',none⟩) l.length mc'][i]?:=by rw[E4.out];exact (BB.out.kept KW (fun h=>h)).cell
    have hcon:=Ld (fun (W:World) (kW:Kept (fun _=>False) w8 W)=>HIH.out _ (List.getElem_mem hlt) l'[j] X Y W ok ok' _ _ _ _ _ _ _ _ (hty.frame (Same.of_kept kW (fun k h e=>e))) (htm.frame (Same.of_kept kW (fun k h e=>e))) (hty'.frame (Same.of_kept kW (fun k h e=>e))) (htm'.frame (Same.of_kept kW (fun k h e=>e))) ((HX.out w8 (K2.trans KW)).frame (Same.of_kept kW (fun k h e=>e))) ((HY.out w8 (K2.trans KW)).frame (Same.of_kept kW (fun k h e=>e))) (by have:=HBX.out;have:=tmDs_mem (List.getElem_mem hlt);simp;omega) (by have:=HBY.out;have:=tmDs_mem (List.getElem_mem hlt);simp;omega))
    unfold tmVal at hcon
    have HS:=Ld (alikeK_drop (bi:=binderB op) (nm:=nm) (nm':=nm') (X:=X) (Y:=Y) hlt hlt')
    rw[hco] at HS
    simp only[Bool.false_eq_true,if_false,if_true] at HS
    clear hty hty' htm htm'
    go_wp2_with fail
    go_still_tail 11,(by kernel_rfl)
    change wpList _ _ _ _ _ (World.drew w8)
    have kd:Kept (fun _=>False) w8 (World.drew w8):=kR.drew
    generalize World.drew w8=w4 at *
    cases hr:alikeT l[j] l'[j] X Y
    ·rw[hr] at hcon HS
     go_wp2_with (go_at_call 57;refine (hcon.out _ kd).mono ?_;rintro e w' ⟨rfl,k2⟩)
     go_ret
     exact⟨by rw[hq.out,HS.out];rfl,((K2.trans KW).trans kd).trans k2⟩
    ·rw[hr] at hcon HS
     go_wp2_with (go_at_call 57;refine (hcon.out _ kd).mono ?_;rintro e w' ⟨rfl,k2⟩)
     go_roundw
     case rel=>exact⟨j+1,by omega,by go_num,(KW.trans kd).trans k2,Ld (by rw[hq.out,HS.out];first | rfl | (rw[hbi];rfl))⟩
     case measure=>simp[intOf];omega
   subst hj1
   have hco:(binderB op&&1==1)=true:=by rw[hbi];rfl
   have bT:Blk (wr.alloc (.cells #[.slice xa X.length xc,.slice ya Y.length yc] 84)) wr.heap.size 84 [.slice xa X.length xc,.slice ya Y.length yc]:=Blk.new wr 84 _
   have KW:Kept (fun _=>False) w2 (wr.alloc (.cells #[.slice xa X.length xc,.slice ya Y.length yc] 84)):=kr.alloc _
   have hA:∀ i,(wr.alloc (.cells #[.slice xa X.length xc,.slice ya Y.length yc] 84)).cell? ⟨w.heap.size+1,i,none⟩=[Value.int .i64 op,.string nm,.int .i64 N,.int .i64 ty.kind,.string ty.name,.slice a n c,.slice ma l.length mc][i]?:=(BA.out.kept KW (fun h=>h)).cell
   clear gB
   go_wp2_with (go_at_call 100;refine cR (binder_t hbi _) ?_)
   clear gA gS hA
   generalize (wr.alloc (.cells #[.slice xa X.length xc,.slice ya Y.length yc] 84))=w8 at *
   have gT:∀ i,w8.cell? ⟨wr.heap.size,i,none⟩=[Value.slice xa X.length xc,.slice ya Y.length yc][i]?:=bT.cell
   obtain⟨i9,hi9,hz9,hs9,hb9⟩:=info_str
   have HI:=Ld hi9
   have HZ:=Ld hz9
   have HS9:=Ld hs9
   have HB:=Ld hb9
   clear hi9 hz9 hs9 hb9
   have hmx:Hid (X.length+1≤maxLen∧(X.length+1)*16≤140737488355328):=Ld (by have:=HBX.out;unfold maxLen;constructor <;> omega)
   have hmy:Hid (Y.length+1≤maxLen∧(Y.length+1)*16≤140737488355328):=Ld (by have:=HBY.out;unfold maxLen;constructor <;> omega)
   have HS2:=Ld (fun W (k:Kept (fun _=>False) w8 W)=>(⟨(BS.out.kept (KW.trans k) (fun h=>h)).cell 0,(BS.out.kept (KW.trans k) (fun h=>h)).cell 1,(BA.out.kept (KW.trans k) (fun h=>h)).cell 1,(BB.out.kept (KW.trans k) (fun h=>h)).cell 1⟩:W.cell? ⟨w.heap.size,0,none⟩=some (.slice xa X.length xc)∧W.cell? ⟨w.heap.size,1,none⟩=some (.slice ya Y.length yc)∧W.cell? ⟨w.heap.size+1,1,none⟩=some (.string nm)∧W.cell? ⟨w.heap.size+1+1,1,none⟩=some (.string nm')))
   have HC:Hid (∀ (W:World) (v:Value) (Z:List ByteArray),Kept (fun _=>False) w8 W→((v=.slice xa X.length xc∧Z=X)∨(v=.slice ya Y.length yc∧Z=Y))→Calls Tryz.prog 106 #[v] W fun e w'=>∃ v',e=.returned v'∧NRow W W.heap.size w' Z v'):=Ld (by
    have h1:=HBX.out
    have h2:=HBY.out
    rintro W v Z k (⟨rfl,rfl⟩ | ⟨rfl,rfl⟩)
    ·exact clnN_any (HX.out W ((K2.trans KW).trans k)) (by omega)
    ·exact clnN_any (HY.out W ((K2.trans KW).trans k)) (by omega))
   have KD:Kept (fun _=>False) w8 w8.drew:=kR.drew
   obtain⟨e0,e1,e2,e3⟩:=HS2.out _ kR
   clear gT
   have lT:w.heap.size+2<wr.heap.size:=(BB.out.kept kr (fun h=>h)).lt
   have n0:w.heap.size≠wr.heap.size:=by omega
   have n1:w.heap.size+1≠wr.heap.size:=by omega
   have n2:w.heap.size+1+1≠wr.heap.size:=by omega
   have hT8:wr.heap.size<w8.heap.size:=bT.lt
   have hT:w2.heap.size≤wr.heap.size:=kr.size
   clear lT
   go_region_held3 (fun w'=>w'.cell? ⟨w.heap.size,0,none⟩=some (.slice xa X.length xc)∧w'.cell? ⟨w.heap.size,1,none⟩=some (.slice ya Y.length yc)∧w'.cell? ⟨w.heap.size+1,1,none⟩=some (.string nm)∧w'.cell? ⟨w.heap.size+1+1,1,none⟩=some (.string nm')) (first | go_keep | exact⟨keep2 b0 n0,keep2 b1 n0,keep2 b2 n1,keep2 b3 n2⟩)
    (first | (go_at_call 106;refine (HC.out _ _ _ (by first | exact KA1 | exact KA1.alloc _ | exact KD | exact KD.alloc _ | exact (KD.alloc _).alloc _) (by first | exact Or.inl ⟨rfl,rfl⟩ | exact Or.inr ⟨rfl,rfl⟩)).mono ?_;first | (rintro e wc2 ⟨v3,rfl,R2⟩;have KC2:Kept (fun _=>False) w8 wc2:=(by first | exact KA1.trans R2.kp | exact (KA1.alloc _).trans R2.kp);have A1c:=nml_pre R2 (by first | exact A1 | exact A1.frame (Same.alloc _ _));obtain⟨d0,d1,d2,d3⟩:=HS2.out _ KC2;(try (first | (have P3:=nml_pre R2 P2) | (have P3:=nml_pre R2 (nml_new _ _))))) | (rintro e wc ⟨v1,rfl,R1⟩;have KC1:Kept (fun _=>False) w8 wc:=(by first | exact KD.trans R1.kp | exact (KD.alloc _).trans R1.kp | exact ((KD.alloc _).alloc _).trans R1.kp);obtain⟨c0,c1,c2,c3⟩:=HS2.out _ KC1;(try (first | (have P1:=nml_pre R1 (nml_new1 _ _ _)) | (have P1:=nml_pre R1 (nml_new _ _))));(try have Q1:=nml_pre R1 ((nml_new _ _).frame (Same.alloc _ _))))) | ((first | (refine step_app_src rfl (.tmp 83) (.tmp 86) _ rfl _ 9 i9 _ 1 16 Tryz.underlying28 HI.out HZ.out HS9.out HB.out rfl (by decide) v1 X.length (X.map Value.string) rfl R1.own _ 1 [.string nm] rfl P1.src rfl (strs_one [nm]) hmx.out.1 hmx.out.2 (Nat.le_trans R1.kp.size (by simp <;> omega)) ?_) | (refine step_app_src rfl (.tmp 83) (.tmp 86) _ rfl _ 9 i9 _ 1 16 Tryz.underlying28 HI.out HZ.out HS9.out HB.out rfl (by decide) v1 X.length (X.map Value.string) rfl R1.own _ 1 [.string nm] rfl Q1.src rfl (strs_one [nm]) hmx.out.1 hmx.out.2 (Nat.le_trans R1.kp.size (by simp <;> omega)) ?_) | (refine step_app_src rfl (.tmp 83) (.tmp 86) _ rfl _ 9 i9 _ 1 16 Tryz.underlying28 HI.out HZ.out HS9.out HB.out rfl (by decide) v1 X.length (X.map Value.string) rfl (R1.own.alloc _) _ 1 [.string nm] rfl (nml_new _ _).src rfl (strs_one [nm]) hmx.out.1 hmx.out.2 (Nat.le_trans R1.kp.size (by simp <;> omega)) ?_) | (refine step_app_src rfl (.tmp 83) (.tmp 86) _ rfl _ 9 i9 _ 1 16 Tryz.underlying28 HI.out HZ.out HS9.out HB.out rfl (by decide) v1 X.length (X.map Value.string) rfl (R1.own.alloc _) _ 1 [.string nm] rfl (P1.frame (Same.alloc _ _)).src rfl (strs_one [nm]) hmx.out.1 hmx.out.2 (Nat.le_trans R1.kp.size (by simp <;> omega)) ?_) | (refine step_app_src rfl (.tmp 83) (.tmp 86) _ rfl _ 9 i9 _ 1 16 Tryz.underlying28 HI.out HZ.out HS9.out HB.out rfl (by decide) v1 X.length (X.map Value.string) rfl ((R1.own.alloc _).alloc _) _ 1 [.string nm] rfl (nml_new1 _ _ _).src rfl (strs_one [nm]) hmx.out.1 hmx.out.2 (Nat.le_trans R1.kp.size (by simp <;> omega)) ?_) | (refine step_app_src rfl (.tmp 83) (.tmp 86) _ rfl _ 9 i9 _ 1 16 Tryz.underlying28 HI.out HZ.out HS9.out HB.out rfl (by decide) v1 X.length (X.map Value.string) rfl ((R1.own.alloc _).alloc _) _ 1 [.string nm] rfl ((nml_new _ _).frame (Same.alloc _ _)).src rfl (strs_one [nm]) hmx.out.1 hmx.out.2 (Nat.le_trans R1.kp.size (by simp <;> omega)) ?_));intro v2 wa own2 gr2 hat2;have A1:=nml_own (Z:=X) (r:=[nm]) own2;have KA1:Kept (fun _=>False) w8 wa:=(by first | exact KC1.via1 (kept_grown1 gr2) (fun x hx e=>by have h1:=(R1.own.lt x e).1;have h2:w8.drew.heap.size=w8.heap.size:=rfl;(try simp at h1);omega) | exact (KC1.alloc _).via1 (kept_grown1 gr2) (fun x hx e=>by have h1:=(R1.own.lt x e).1;have h2:w8.drew.heap.size=w8.heap.size:=rfl;(try simp at h1);omega) | exact ((KC1.alloc _).alloc _).via1 (kept_grown1 gr2) (fun x hx e=>by have h1:=(R1.own.lt x e).1;have h2:w8.drew.heap.size=w8.heap.size:=rfl;(try simp at h1);omega));obtain⟨p2,q2,rfl⟩:=A1.slice;obtain⟨a0,a1,a2,a3⟩:=HS2.out _ KA1;(try (first | (have P2:=nml_grow (l:=[nm']) gr2 P1) | (have P2:=nml_grow (l:=[nm']) gr2 Q1) | (have P2:=nml_grow (l:=[nm']) gr2 (P1.frame (Same.alloc _ _))) | (have P2:=nml_grow (l:=[nm']) gr2 (nml_post R1 (nml_new _ _))) | (have P2:=nml_grow (l:=[nm']) gr2 ((nml_post R1 (nml_new _ _)).frame (Same.alloc _ _))) | (have P2:=nml_grow (l:=[nm']) gr2 (nml_post R1 (nml_new1 _ _ _)))))) | ((first | (refine step_app_src rfl (.tmp 90) (.tmp 93) _ rfl _ 9 i9 _ 1 16 Tryz.underlying28 HI.out HZ.out HS9.out HB.out rfl (by decide) v3 Y.length (Y.map Value.string) rfl R2.own _ 1 [.string nm'] rfl P3.src rfl (strs_one [nm']) hmy.out.1 hmy.out.2 (Nat.le_trans R2.kp.size (by simp <;> omega)) ?_) | (refine step_app_src rfl (.tmp 90) (.tmp 93) _ rfl _ 9 i9 _ 1 16 Tryz.underlying28 HI.out HZ.out HS9.out HB.out rfl (by decide) v3 Y.length (Y.map Value.string) rfl (R2.own.alloc _) _ 1 [.string nm'] rfl (nml_new _ _).src rfl (strs_one [nm']) hmy.out.1 hmy.out.2 (Nat.le_trans R2.kp.size (by simp <;> omega)) ?_));intro v4 wb own4 gr4 hat4;have A2:=nml_own (Z:=Y) (r:=[nm']) own4;have KB:Kept (fun _=>False) w8 wb:=(by first | exact KC2.via1 (kept_grown1 gr4) (fun x hx e=>by have h1:=(R2.own.lt x e).1;have h2:w8.drew.heap.size=w8.heap.size:=rfl;have h3:=KA1.size;(try simp at h1);omega) | exact (KC2.alloc _).via1 (kept_grown1 gr4) (fun x hx e=>by have h1:=(R2.own.lt x e).1;have h2:w8.drew.heap.size=w8.heap.size:=rfl;have h3:=KA1.size;(try simp at h1);omega));have A1d:=nml_grow gr4 (by first | exact A1c | exact A1c.frame (Same.alloc _ _));obtain⟨p4,q4,rfl⟩:=A2.slice;have bT9:=bT.kept KB (fun h=>h);have fT9:∀ i,wb.frozen? ⟨wr.heap.size,i,none⟩=false:=bT9.frozen;have gT9:∀ i,wb.cell? ⟨wr.heap.size,i,none⟩=[Value.slice xa X.length xc,.slice ya Y.length yc][i]?:=bT9.cell;obtain⟨b0,b1,b2,b3⟩:=HS2.out _ KB))
   all_goals
    have HE0:=(e11 KW KB hT hT8 bT9 A1d A2 (by intro q h;have h:_≤q:=h;have h2:w8.drew.heap.size=w8.heap.size:=rfl;(try simp at h);omega) (by intro q h;have h:_≤q:=h;have h2:=KA1.size;(try simp at h);omega))
    simp only[List.length_append,List.length_cons,List.length_nil,Nat.zero_add] at HE0
    have HE:=Ld HE0
    clear HE0
    generalize (wb.setCell ⟨wr.heap.size,0,none⟩ (.slice p2 (X.length+1) q2)).setCell ⟨wr.heap.size,1,none⟩ (.slice p4 (Y.length+1) q4)=w9 at *
    have K9:=HE.out.kp
    have gT:∀ i,w9.cell? ⟨wr.heap.size,i,none⟩=[Value.slice p2 (X.length+1) q2,.slice p4 (Y.length+1) q4][i]?:=HE.out.b.cell
    have NX9:=HE.out.x
    have NY9:=HE.out.y
    clear b0 b1 b2 b3 fT9 gT9 bT9 A1d A2 KB HE HS2 HC e0 e1 e2 e3 bT
    obtain⟨g,off,ta,tn,tc,na,nn,nc,e2,_,lg,⟨c0,c1,c2,c3,c4,c5,c6⟩,hty,htm⟩:=HAT.out w9 (K2.trans K9) 1 hlt
    cases e2
    obtain⟨g',off',ta',tn',tc',na',nn',nc',e2,_,lg',⟨d0,d1,d2,d3,d4,d5,d6⟩,hty',htm'⟩:=HAT'.out w9 (K2.trans K9) 1 hlt'
    cases e2
    have gA:∀ i,w9.cell? ⟨w.heap.size+1,i,none⟩=[Value.int .i64 op,.string nm,.int .i64 N,.int .i64 ty.kind,.string ty.name,.slice a n c,.slice (some ⟨g,off,none⟩) l.length mc][i]?:=(BA.out.kept K9 (fun h=>h)).cell
    have gB:∀ i,w9.cell? ⟨w.heap.size+2,i,none⟩=[Value.int .i64 op,.string nm',.int .i64 N,.int .i64 ty'.kind,.string ty'.name,.slice a' n' c',.slice (some ⟨g',off',none⟩) l.length mc'][i]?:=by rw[E4.out];exact (BB.out.kept K9 (fun h=>h)).cell
    have hcon:=Ld (fun (W:World) (kW:Kept (fun _=>False) w9 W)=>HIH.out _ (List.getElem_mem hlt) l'[1] (X++[nm]) (Y++[nm']) W ok ok' _ _ _ _ _ _ _ _ (hty.frame (Same.of_kept kW (fun k h e=>e))) (htm.frame (Same.of_kept kW (fun k h e=>e))) (hty'.frame (Same.of_kept kW (fun k h e=>e))) (htm'.frame (Same.of_kept kW (fun k h e=>e))) ((NX9).frame (Same.of_kept kW (fun k h e=>e))) ((NY9).frame (Same.of_kept kW (fun k h e=>e))) (by have:=HBX.out;have:=tmDs_mem (List.getElem_mem hlt);simp;omega) (by have:=HBY.out;have:=tmDs_mem (List.getElem_mem hlt);simp;omega))
    unfold tmVal at hcon
    have HS:=Ld (alikeK_drop (bi:=binderB op) (nm:=nm) (nm':=nm') (X:=X) (Y:=Y) hlt hlt')
    rw[hco] at HS
    simp only[Bool.false_eq_true,if_false,if_true] at HS
    clear hty hty' htm htm'
    go_wp2_with fail
    go_still_tail 11,(by kernel_rfl)
    change wpList _ _ _ _ _ (World.drew w9)
    have kd:Kept (fun _=>False) w9 (World.drew w9):=kR.drew
    generalize World.drew w9=w4 at *
    cases hr:alikeT l[1] l'[1] (X++[nm]) (Y++[nm'])
    ·rw[hr] at hcon HS
     go_wp2_with (go_at_call 57;refine (hcon.out _ kd).mono ?_;rintro e w' ⟨rfl,k2⟩)
     go_ret
     exact⟨by rw[hq.out,HS.out];rfl,((K2.trans K9).trans kd).trans k2⟩
    ·rw[hr] at hcon HS
     go_wp2_with (go_at_call 57;refine (hcon.out _ kd).mono ?_;rintro e w' ⟨rfl,k2⟩)
     go_roundw
     case rel=>exact⟨1+1,by omega,by go_num,(K9.trans kd).trans k2,Ld (by rw[hq.out,HS.out];first | rfl | (rw[hbi];rfl))⟩
     case measure=>simp[intOf];omega
  ·have HZ:Hid (rr=true):=Ld (by rw[hq.out,alikeK_end (by omega)])
   go_wp2_with fail
   go_ret
   exact⟨by rw[HZ.out];rfl,K2.trans kr⟩
theorem salike_any {t:Tm} (hb:BdTm t):SAlC t:=by
 induction hb with
 | mk hn ht hl ih=>
  rename_i o n i t l
  by_cases h:o=20
  ·subst h;exact salike_name ht hn
  ·exact salike_one h ht ih hn
end Go.Proofs.YtdmebjbkccjhbaaGreatDoor
