/- A part. -/
import Derived.Test.YtdmebjbkccjhbaaGreatDoorU18
set_option linter.unusedVariables false
set_option linter.unusedSimpArgs false
set_option maxRecDepth 100000
set_option maxHeartbeats 32000000
namespace Go.Proofs.YtdmebjbkccjhbaaGreatDoor
open Go.RowKit
variable {bz:Nat}
structure B13 (bz:Nat) (w5:World) (r y:Tm) (tk kk a b:Value) (O9 O10:Nat) (W:World):Prop where
 kp:Kept (fun _=>False) w5 W
 b9:Blk W O9 27 (tmCells r tk kk)
 b10:Blk W O10 27 (tmCells y a b)
 lo:w5.heap.size≤O9∧w5.heap.size≤O10
 ty:TyL bz (fun q=>w5.heap.size≤q) W r.ty.kids tk
 tm:TmL bz (fun q=>w5.heap.size≤q) W r.kids kk
structure B13s (bz:Nat) (w5:World) (r:Tm) (tk kk:Value) (c:Nat) (W:World):Prop where
 kp:Kept (fun _=>False) w5 W
 ty:TyL bz (fun q=>c≤q) W r.ty.kids tk
 tm:TmL bz (fun q=>c≤q) W r.kids kk
theorem B13s.al {w5 W:World} {r:Tm} {tk kk:Value} {c:Nat} (h:B13s bz w5 r tk kk c W) (o:Obj):B13s bz w5 r tk kk c (W.alloc o):=⟨h.kp.alloc _,h.ty.frame (Same.alloc _ _),h.tm.frame (Same.alloc _ _)⟩
theorem B13s.fin {w5 W:World} {r y:Tm} {tk kk a b:Value} {c O9 O10:Nat} (h:B13s bz w5 r tk kk c W) (hc:w5.heap.size≤c) (h9:w5.heap.size≤O9) (h10:w5.heap.size≤O10) (b9:Blk W O9 27 (tmCells r tk kk)) (b10:Blk W O10 27 (tmCells y a b)):B13 bz w5 r y tk kk a b O9 O10 W:=
 ⟨h.kp,b9,b10,⟨h9,h10⟩,h.ty.mono (fun q _ hq=>by omega),h.tm.mono (fun q _ hq=>by omega)⟩
structure S20 (bz:Nat) (w:World) (op:Int) (nm:ByteArray) (N:Int) (ty:Ty) (v:Value) (r y:Tm) (tk kk a b:Value) (O O9 O10 B:Nat) (W:World):Prop where
 kp:Kept (fun _=>False) w W
 rb:Blk W (w.heap.size+1) 27 z27
 o:Blk W O 27 [.int .i64 op,.string nm,.int .i64 N,.int .i64 ty.kind,.string ty.name,v,.slice none 0 0]
 b9:Blk W O9 27 (tmCells r tk kk)
 b10:Blk W O10 27 (tmCells y a b)
 lo:w.heap.size+2≤O∧O<O9∧O<O10∧O9<B∧O10<B
 ty:TyL bz (fun q=>w.heap.size+2≤q∧q≠O∧q<B) W ty.kids v
 rt:TyL bz (fun q=>O<q∧q<B) W r.ty.kids tk
 rm:TmL bz (fun q=>O<q∧q<B) W r.kids kk
section
variable {w W W1 w5:World} {op:Int} {nm:ByteArray} {N:Int} {ty:Ty} {v:Value} {r y z:Tm} {tk kk a b zt zk:Value} {O O9 O10 B:Nat}
theorem S20.start {ak bk:Value} (h:CT bz w op nm N ty ak bk v O w5) (g:B13 bz w5 r y tk kk a b O9 O10 W):S20 bz w op nm N ty v r y tk kk a b O O9 O10 W.heap.size W:=
 have h5:=h.kept g.kp
 have l5:=h.o.lt
 ⟨h5.kp,h5.r,h5.o,g.b9,g.b10,⟨h.ho,by have:=g.lo.1;omega,by have:=g.lo.2;omega,g.b9.lt,g.b10.lt⟩,h5.ty.mono (fun q hq h=>⟨h.1,h.2,hq⟩),g.ty.mono (fun q hq h=>⟨by omega,hq⟩),g.tm.mono (fun q hq h=>⟨by omega,hq⟩)⟩
theorem S20.keptS {S:Nat→Prop} (h:S20 bz w op nm N ty v r y tk kk a b O O9 O10 B W) (k:Kept S W W1) (hS:∀ q,S q→B≤q):S20 bz w op nm N ty v r y tk kk a b O O9 O10 B W1:=by
 obtain⟨l1,l2,l3,l4,l5⟩:=h.lo
 have l6:=h.kp.size
 exact⟨h.kp.via1 k (fun x hx hs=>by have:=hS x hs;omega),h.rb.kept k (fun e=>by have:=hS _ e;omega),h.o.kept k (fun e=>by have:=hS _ e;omega),h.b9.kept k (fun e=>by have:=hS _ e;omega),h.b10.kept k (fun e=>by have:=hS _ e;omega),h.lo,h.ty.frame (Same.of_kept k (fun q hq e=>by have:=hS _ e;omega)),h.rt.frame (Same.of_kept k (fun q hq e=>by have:=hS _ e;omega)),h.rm.frame (Same.of_kept k (fun q hq e=>by have:=hS _ e;omega))⟩
theorem S20.kept (h:S20 bz w op nm N ty v r y tk kk a b O O9 O10 B W) (k:Kept (fun _=>False) W W1):S20 bz w op nm N ty v r y tk kk a b O O9 O10 B W1:=h.keptS k (fun _ e=>e.elim)
theorem S20.name (h:S20 bz w op nm N ty v r y tk kk a b O O9 O10 B W) (s:ByteArray):S20 bz w op s N ty v r y tk kk a b O O9 O10 B (W.setCell ⟨O,1,none⟩ (.string s)):=by
 have kS:Kept (fun q=>q=O) W (W.setCell ⟨O,1,none⟩ (.string s)):=(Kept.refl (fun q=>q=O) W).setCell (p:=⟨O,1,none⟩) (Or.inl rfl) _
 obtain⟨h1,h2,h3,h4,h5⟩:=h.lo
 exact⟨h.kp.setCell (p:=⟨O,1,none⟩) (Or.inr (by show w.heap.size≤O;omega)) _,h.rb.kept kS (fun e=>by omega),h.o.set 1 (.string s),h.b9.kept kS (fun e=>by omega),h.b10.kept kS (fun e=>by omega),h.lo,h.ty.frame (Same.of_kept kS (fun q hq e=>hq.2.1 e)),h.rt.frame (Same.of_kept kS (fun q hq e=>by omega)),h.rm.frame (Same.of_kept kS (fun q hq e=>by omega))⟩
theorem two_row {base g:Nat} (k:Kept (fun _=>False) w W) (hb:Blk W g 27 (tmCells r tk kk++tmCells z zt zk)) (hg:base≤g) (h1:TyL bz (fun q=>base≤q∧q≠g) W r.ty.kids tk) (h2:TmL bz (fun q=>base≤q∧q≠g) W r.kids kk) (h3:TyL bz (fun q=>base≤q∧q≠g) W z.ty.kids zt) (h4:TmL bz (fun q=>base≤q∧q≠g) W z.kids zk):
  RowT bz w base W [(r,tk,kk),(z,zt,zk)] (.slice (some ⟨g,0,none⟩) 2 2):=
 ⟨k,⟨rfl,.inr ⟨g,2,_,rfl,hg,hb,Nat.le_refl _,by unfold maxLen;omega,rfl,rfl⟩⟩,fun e he=>by
  rcases List.mem_cons.1 he with rfl | he
  ·exact⟨h1.mono (fun q _ h=>⟨h.1,fun e=>h.2 (Option.some.inj e).symm⟩),h2.mono (fun q _ h=>⟨h.1,fun e=>h.2 (Option.some.inj e).symm⟩)⟩
  ·rw[List.mem_singleton.1 he]
   exact⟨h3.mono (fun q _ h=>⟨h.1,fun e=>h.2 (Option.some.inj e).symm⟩),h4.mono (fun q _ h=>⟨h.1,fun e=>h.2 (Option.some.inj e).symm⟩)⟩⟩
theorem S20.done (h:S20 bz w op nm N ty v r y tk kk a b O O9 O10 B W) (k1:Kept (fun _=>False) W W1) (h3:TyL bz (fun q=>W.heap.size≤q) W1 z.ty.kids zt) (h4:TmL bz (fun q=>W.heap.size≤q) W1 z.kids zk) (W3:World)
  (hW:W3=(W1.setCell ⟨O,6,none⟩ (.slice (some ⟨W1.heap.size,0,none⟩) 2 2)).alloc (.cells #[.int .i64 r.op,.string r.name,.int .i64 r.n,.int .i64 r.ty.kind,.string r.ty.name,tk,kk,.int .i64 z.op,.string z.name,.int .i64 z.n,.int .i64 z.ty.kind,.string z.ty.name,zt,zk] 27)):
  Blk W3 (w.heap.size+1) 27 z27∧Blk W3 O 27 [.int .i64 op,.string nm,.int .i64 N,.int .i64 ty.kind,.string ty.name,v,.slice (some ⟨W1.heap.size,0,none⟩) 2 2]∧Kept (fun _=>False) w W3∧TyL bz (fun q=>w.heap.size+2≤q) W3 ty.kids v∧TmL bz (fun q=>w.heap.size+2≤q) W3 [r,z] (.slice (some ⟨W1.heap.size,0,none⟩) 2 2):=by
 subst hW
 have h1:=h.kept k1
 obtain⟨l1,l2,l3,l4,l5⟩:=h.lo
 have lO:=h1.o.lt
 have l9:=h.b9.lt
 have zsz:=k1.size
 have kS:Kept (fun q=>q=O) W1 (W1.setCell ⟨O,6,none⟩ (.slice (some ⟨W1.heap.size,0,none⟩) 2 2)):=(Kept.refl (fun q=>q=O) W1).setCell (p:=⟨O,6,none⟩) (Or.inl rfl) _
 have kp2:Kept (fun _=>False) w (W1.setCell ⟨O,6,none⟩ (.slice (some ⟨W1.heap.size,0,none⟩) 2 2)):=h1.kp.setCell (p:=⟨O,6,none⟩) (Or.inr (by show w.heap.size≤O;omega)) _
 have bO:=h1.o.set 6 (.slice (some ⟨W1.heap.size,0,none⟩) 2 2)
 have bR:=h1.rb.kept kS (fun e=>by omega)
 have eT:=h1.ty.frame (Same.of_kept kS (fun q hq e=>hq.2.1 e))
 have e1:=(h1.rt.mono (ok':=fun q=>O<q∧q≠W1.heap.size) (fun q hq ho=>⟨ho.1,by omega⟩)).frame (Same.of_kept kS (fun q hq e=>by omega))
 have e2:=(h1.rm.mono (ok':=fun q=>O<q∧q≠W1.heap.size) (fun q hq ho=>⟨ho.1,by omega⟩)).frame (Same.of_kept kS (fun q hq e=>by omega))
 have e3:=(h3.mono (ok':=fun q=>W.heap.size≤q∧q≠W1.heap.size) (fun q hq ho=>⟨ho,by omega⟩)).frame (Same.of_kept kS (fun q hq e=>by omega))
 have e4:=(h4.mono (ok':=fun q=>W.heap.size≤q∧q≠W1.heap.size) (fun q hq ho=>⟨ho,by omega⟩)).frame (Same.of_kept kS (fun q hq e=>by omega))
 have z2:(W1.setCell ⟨O,6,none⟩ (.slice (some ⟨W1.heap.size,0,none⟩) 2 2)).heap.size=W1.heap.size:=by simp[World.setCell]
 generalize W1.setCell ⟨O,6,none⟩ (.slice (some ⟨W1.heap.size,0,none⟩) 2 2)=W2 at *
 have kA:Kept (fun _=>False) W2 (W2.alloc (.cells #[.int .i64 r.op,.string r.name,.int .i64 r.n,.int .i64 r.ty.kind,.string r.ty.name,tk,kk,.int .i64 z.op,.string z.name,.int .i64 z.n,.int .i64 z.ty.kind,.string z.ty.name,zt,zk] 27)):=kR.alloc _
 have bG:Blk (W2.alloc (.cells #[.int .i64 r.op,.string r.name,.int .i64 r.n,.int .i64 r.ty.kind,.string r.ty.name,tk,kk,.int .i64 z.op,.string z.name,.int .i64 z.n,.int .i64 z.ty.kind,.string z.ty.name,zt,zk] 27)) W1.heap.size 27 (tmCells r tk kk++tmCells z zt zk):=Blk.new' 27 (tmCells r tk kk++tmCells z zt zk) z2.symm
 have kp3:=kp2.trans kA
 refine⟨bR.kept kA (fun e=>e),bO.kept kA (fun e=>e),kp3,(eT.frame (sK kA)).mono (fun q _ hq=>hq.1),?_⟩
 exact RowT.tml (two_row (base:=w.heap.size+2) kp3 bG (by omega)
  ((e1.frame (sK kA)).mono (fun q _ hq=>⟨by omega,hq.2⟩)) ((e2.frame (sK kA)).mono (fun q _ hq=>⟨by omega,hq.2⟩))
  ((e3.frame (sK kA)).mono (fun q _ hq=>⟨by omega,hq.2⟩)) ((e4.frame (sK kA)).mono (fun q _ hq=>⟨by omega,hq.2⟩)))
theorem RowB.to {ok:Nat→Prop} {w6 W:World} {base:Nat} {E:List E4} {u:Value} (h:RowB bz ok w6 base W E u) (hw:Kept (fun _=>False) w W):RowB bz ok w base W E u:=⟨hw,h.own,h.el,h.lo⟩
theorem RowB.put {ok:Nat→Prop} {base:Nat} {E:List E4} {u:Value} (h:RowB bz ok w base W E u) (hO:w.heap.size≤O) (hb:O<base) (hok:∀ q,ok q→q≠O) (i:Nat) (x:Value):RowB bz ok w base (W.setCell ⟨O,i,none⟩ x) E u:=by
 have kS:Kept (fun q=>q=O) W (W.setCell ⟨O,i,none⟩ x):=(Kept.refl (fun q=>q=O) W).setCell (p:=⟨O,i,none⟩) (Or.inl rfl) _
 exact⟨h.kp.setCell (p:=⟨O,i,none⟩) (Or.inr hO) _,own_keptT h.own kS (fun g hg e=>by have:=(World.ownsRow.lt h.own g hg).1;omega),h.el.frame (Same.of_kept kS (fun q hq e=>hok q hq e)),h.lo⟩
end
end Go.Proofs.YtdmebjbkccjhbaaGreatDoor
