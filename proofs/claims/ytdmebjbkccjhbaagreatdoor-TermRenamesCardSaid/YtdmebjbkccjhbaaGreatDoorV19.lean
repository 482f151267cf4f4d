/- A part. -/
import Derived.Test.YtdmebjbkccjhbaaGreatDoorV18
set_option linter.unusedVariables false
set_option linter.unusedSimpArgs false
set_option maxRecDepth 100000
set_option maxHeartbeats 32000000
namespace Go.Proofs.YtdmebjbkccjhbaaGreatDoor
open Go.RowKit
variable {bz:Nat}
theorem remG_frB (x:ByteArray) (F:List ByteArray):∀ (l out:List (ByteArray×Tm)),(frB (remG x F out l)).length≤(frB out).length+(frB l).length∧(remG x F out l).length≤out.length+l.length
 | [],out=>⟨Nat.le_refl _,Nat.le_refl _⟩
 | b::l,out=>by
  rw[remG,frB,List.length_append,List.length_cons]
  split
  ·have:=remG_frB x F l out;omega
  ·have:=remG_frB x F l (out++[b])
   rw[frB_app,List.length_append,frB,List.length_append,List.length_append,List.length_singleton] at this
   simp only[frB,List.length_nil] at this
   omega
theorem remL_count (l:List (ByteArray×Tm)) (x:ByteArray) (F:List ByteArray):(remL l x F).length≤l.length:=by
 have:=(remG_frB x F l []).2;unfold remL;simpa using this
theorem remL_frB (l:List (ByteArray×Tm)) (x:ByteArray) (F:List ByteArray):(frB (remL l x F)).length≤(frB l).length:=by
 have:=(remG_frB x F l []).1;unfold remL;simpa [frB] using this
theorem fr_bind {op:Int} {nm:ByteArray} {N:Int} {ty:Ty} {d y:Tm} (hop:op≠20) (hb:binderB op=true):fr (.mk op nm N ty [d,y])=fr d++(fr y).filter (fun s=>!decide (s=nm)):=by
 rw[fr,if_neg hop,hb,frs,frs,frs,List.append_nil];rfl
theorem FitB.dom {l:List (ByteArray×Tm)} {op:Int} {nm:ByteArray} {N:Int} {ty:Ty} {d y:Tm} {M:Nat} (hop:op≠20) (hb:binderB op=true) (h:FitB l (.mk op nm N ty [d,y]) M):FitB l d M:=
 fun x F hF=>h x F (fun s hs hx=>by rw[fr_bind hop hb,mb_app,hF s hs hx];rfl)
theorem FitB.rem {l:List (ByteArray×Tm)} {op:Int} {nm:ByteArray} {N:Int} {ty:Ty} {d y:Tm} {M:Nat} (hop:op≠20) (hb:binderB op=true) (h:FitB l (.mk op nm N ty [d,y]) M):(frB (remL l nm (fr y))).length≤M:=
 h nm (fr y) (fun s hs hx=>by
  rw[fr_bind hop hb,mb_app]
  have:mb s ((fr y).filter (fun s=>!decide (s=nm)))=true:=(mb_iff _ _).2 (List.mem_filter.2 ⟨(mb_iff _ _).1 hs,by simp[hx]⟩)
  rw[this];simp)
theorem inner_frB (nm:ByteArray) (y:Tm) (l:List (ByteArray×Tm)):(frB (inner freshS nm y l)).length≤(frB (remL l nm (fr y))).length+1∧(inner freshS nm y l).length≤l.length+1:=by
 have h:=remL_count l nm (fr y)
 unfold inner
 split
 ·rw[frB_app,List.length_append,List.length_append,List.length_singleton,frB,fr_nameT]
  simp only[frB,List.append_nil,List.length_singleton]
  omega
 ·omega
theorem FitB.inn {l:List (ByteArray×Tm)} {op:Int} {nm:ByteArray} {N:Int} {ty:Ty} {d y:Tm} {M:Nat} (hop:op≠20) (hb:binderB op=true) (h:FitB l (.mk op nm N ty [d,y]) M):FitB (inner freshS nm y l) y (M+1):=
 fun x F _=>by
  have h1:=remL_frB (inner freshS nm y l) x F
  have h2:=(inner_frB nm y l).1
  have h3:=FitB.rem hop hb h
  omega
theorem bd_nameT (z:ByteArray):BdTm (nameT z):=.mk (by decide) (.mk (by decide) (fun t h=>by cases h)) (fun t h=>by cases h)
theorem inner_bd {nm:ByteArray} {y:Tm} {l:List (ByteArray×Tm)} (h:∀ b∈l,BdTm b.2∧tmD b.2≤900000∧tmN b.2≤700000):∀ b∈inner freshS nm y l,BdTm b.2∧tmD b.2≤900000∧tmN b.2≤700000:=by
 have hz:∀ z,BdTm (nameT z)∧tmD (nameT z)≤900000∧tmN (nameT z)≤700000:=fun z=>⟨bd_nameT z,by unfold nameT;rw[tmD];simp only[tmDs];omega,by unfold nameT;rw[tmN];simp only[tmNs];omega⟩
 intro b hb
 unfold inner at hb
 split at hb
 ·rcases List.mem_append.1 hb with hb | hb
  ·exact h b (remL_mem hb)
  ·rw[List.mem_singleton.1 hb];exact hz _
 ·exact h b (remL_mem hb)
theorem frB_drop {l:List (ByteArray×Tm)} {k:Nat} (h:k<l.length):frB (l.drop k)=fr l[k].2++frB (l.drop (k+1)):=by
 rw[List.drop_eq_getElem_cons h,frB]
structure B13 (bz:Nat) (w5:World) (r y:Tm) (tk kk a b:Value) (O9 O10:Nat) (W:World):Prop where
 kp:Kept (fun _=>False) w5 W
 b9:Blk W O9 27 (tmCells r tk kk)
 b10:Blk W O10 27 (tmCells y a b)
 lo:w5.heap.size≤O9∧w5.heap.size≤O10
 ty:TyL bz (fun q=>w5.heap.size≤q) W r.ty.kids tk
 tm:TmL bz (fun q=>w5.heap.size≤q) W r.kids kk
structure B13s (bz:Nat) (w5:World) (r:Tm) (tk kk:Value) (c:Nat) (W:World):Prop where
 kp:Kept (fun _=>False) w5 W
 ty:TyL bz (fun q=>c≤q) W r.ty.kids tk
 tm:TmL bz (fun q=>c≤q) W r.kids kk
theorem B13s.al {w5 W:World} {r:Tm} {tk kk:Value} {c:Nat} (h:B13s bz w5 r tk kk c W) (o:Obj):B13s bz w5 r tk kk c (W.alloc o):=⟨h.kp.alloc _,h.ty.frame (Same.alloc _ _),h.tm.frame (Same.alloc _ _)⟩
def st7 (W:World) (g:Nat) (t:Tm) (a b:Value):World:=((((((W.setCell ⟨g,0,none⟩ (.int .i64 t.op)).setCell ⟨g,1,none⟩ (.string t.name)).setCell ⟨g,2,none⟩ (.int .i64 t.n)).setCell ⟨g,3,none⟩ (.int .i64 t.ty.kind)).setCell ⟨g,4,none⟩ (.string t.ty.name)).setCell ⟨g,5,none⟩ a).setCell ⟨g,6,none⟩ b
def al7 (W:World) (t:Tm) (a b:Value):World:=W.alloc (.cells #[.int .i64 t.op,.string t.name,.int .i64 t.n,.int .i64 t.ty.kind,.string t.ty.name,a,b] 27)
theorem B13s.st {w5 W:World} {r:Tm} {tk kk:Value} {c g:Nat} {t:Tm} {a b:Value} (h:B13s bz w5 r tk kk c W) (h1:w5.heap.size≤g) (h2:g<c):B13s bz w5 r tk kk c (st7 W g t a b):=
 ⟨k7w h.kp (Or.inr h1),h.ty.frame (set7 (fun q hq=>by omega)),h.tm.frame (set7 (fun q hq=>by omega))⟩
theorem B13s.a7 {w5 W:World} {r:Tm} {tk kk:Value} {c:Nat} {t:Tm} {a b:Value} (h:B13s bz w5 r tk kk c W):B13s bz w5 r tk kk c (al7 W t a b):=h.al _
theorem so7 {W:World} {b g:Nat} {l:List Value} {t:Tm} {x y:Value} (h:Blk W b 27 l) (hn:b≠g):Blk (st7 W g t x y) b 27 l:=
 (((((((h.set_other _ _ hn).set_other _ _ hn).set_other _ _ hn).set_other _ _ hn).set_other _ _ hn).set_other _ _ hn).set_other _ _ hn)
theorem at7 {W:World} {g:Nat} {t:Tm} {x y:Value} (h:Blk W g 27 z27):Blk (st7 W g t x y) g 27 (tmCells t x y):=r7 h rfl
theorem nw7 {W:World} {g:Nat} {t:Tm} {x y:Value} (h:g=W.heap.size):Blk (al7 W t x y) g 27 (tmCells t x y):=Blk.new' 27 _ h
theorem ao7 {W:World} {b:Nat} {l:List Value} {t:Tm} {x y:Value} (h:Blk W b 27 l):Blk (al7 W t x y) b 27 l:=h.alloc _
theorem sz7 (W:World) (g:Nat) (t:Tm) (x y:Value):(st7 W g t x y).heap.size=W.heap.size:=by simp[st7,World.setCell]
theorem za7 (W:World) (t:Tm) (x y:Value):(al7 W t x y).heap.size=W.heap.size+1:=by simp[al7]
theorem B13s.fin {w5 W:World} {r y:Tm} {tk kk a b:Value} {c O9 O10:Nat} (h:B13s bz w5 r tk kk c W) (hc:w5.heap.size≤c) (h9:w5.heap.size≤O9) (h10:w5.heap.size≤O10) (b9:Blk W O9 27 (tmCells r tk kk)) (b10:Blk W O10 27 (tmCells y a b)):B13 bz w5 r y tk kk a b O9 O10 W:=
 ⟨h.kp,b9,b10,⟨h9,h10⟩,h.ty.mono (fun q _ hq=>by omega),h.tm.mono (fun q _ hq=>by omega)⟩
section
variable {w5 w4:World} {r y:Tm} {tk kk a b:Value} {c:Nat}
theorem b13_ll (h:B13s bz w5 r tk kk c w4) (hc:w5.heap.size≤c):B13 bz w5 r y tk kk a b w4.heap.size (w4.heap.size+1) (al7 (al7 w4 r tk kk) y a b):=
 h.a7.a7.fin hc h.kp.size (by have:=h.kp.size;omega) (ao7 (nw7 rfl)) (nw7 (by rw[za7]))
theorem b13_ll' (h:B13s bz w5 r tk kk c w4) (hc:w5.heap.size≤c):B13 bz w5 r y tk kk a b (w4.heap.size+1) w4.heap.size (al7 (al7 w4 y a b) r tk kk):=
 h.a7.a7.fin hc (by have:=h.kp.size;omega) h.kp.size (nw7 (by rw[za7])) (ao7 (nw7 rfl))
theorem b13_el (h:B13s bz w5 r tk kk c w4) (hc:w5.heap.size+1≤c) (bP:Blk w4 w5.heap.size 27 z27):B13 bz w5 r y tk kk a b w5.heap.size w4.heap.size (al7 (st7 w4 w5.heap.size r tk kk) y a b):=
 (h.st (Nat.le_refl _) (by omega)).a7.fin (by omega) (Nat.le_refl _) h.kp.size (ao7 (at7 bP)) (nw7 (by rw[sz7]))
theorem b13_le2 (h:B13s bz w5 r tk kk c w4) (hc:w5.heap.size+1≤c) (bP:Blk w4 w5.heap.size 27 z27):B13 bz w5 r y tk kk a b w4.heap.size w5.heap.size (al7 (st7 w4 w5.heap.size y a b) r tk kk):=
 (h.st (Nat.le_refl _) (by omega)).a7.fin (by omega) h.kp.size (Nat.le_refl _) (nw7 (by rw[sz7])) (ao7 (at7 bP))
theorem b13_ee (h:B13s bz w5 r tk kk c w4) (hc:w5.heap.size+2≤c) (bP:Blk w4 w5.heap.size 27 z27) (bQ:Blk w4 (w5.heap.size+1) 27 z27):B13 bz w5 r y tk kk a b w5.heap.size (w5.heap.size+1) (st7 (st7 w4 w5.heap.size r tk kk) (w5.heap.size+1) y a b):=
 ((h.st (Nat.le_refl _) (by omega)).st (Nat.le_succ _) (by omega)).fin (by omega) (Nat.le_refl _) (Nat.le_succ _) (so7 (at7 bP) (by omega)) (at7 (so7 bQ (by omega)))
theorem b13_ee' (h:B13s bz w5 r tk kk c w4) (hc:w5.heap.size+2≤c) (bP:Blk w4 w5.heap.size 27 z27) (bQ:Blk w4 (w5.heap.size+1) 27 z27):B13 bz w5 r y tk kk a b (w5.heap.size+1) w5.heap.size (st7 (st7 w4 (w5.heap.size+1) r tk kk) w5.heap.size y a b):=
 ((h.st (Nat.le_succ _) (by omega)).st (Nat.le_refl _) (by omega)).fin (by omega) (Nat.le_succ _) (Nat.le_refl _) (so7 (at7 bQ) (by omega)) (at7 (so7 bP (by omega)))
end
structure S20 (bz:Nat) (w:World) (op:Int) (nm:ByteArray) (N:Int) (ty:Ty) (v:Value) (r y:Tm) (tk kk a b:Value) (O O9 O10 B:Nat) (W:World):Prop where
 kp:Kept (fun _=>False) w W
 rb:Blk W (w.heap.size+1) 27 z27
 o:Blk W O 27 [.int .i64 op,.string nm,.int .i64 N,.int .i64 ty.kind,.string ty.name,v,.slice none 0 0]
 b9:Blk W O9 27 (tmCells r tk kk)
 b10:Blk W O10 27 (tmCells y a b)
 lo:w.heap.size+2≤O∧O<O9∧O<O10∧O9<B∧O10<B
 ty:TyL bz (fun q=>w.heap.size+2≤q∧q≠O∧q<B) W ty.kids v
 rt:TyL bz (fun q=>O<q∧q<B) W r.ty.kids tk
 rm:TmL bz (fun q=>O<q∧q<B) W r.kids kk
section
variable {w W W1 w5:World} {op:Int} {nm:ByteArray} {N:Int} {ty:Ty} {v:Value} {r y z:Tm} {tk kk a b zt zk:Value} {O O9 O10 B:Nat}
theorem S20.start {ak bk:Value} (h:CT bz w op nm N ty ak bk v O w5) (g:B13 bz w5 r y tk kk a b O9 O10 W):S20 bz w op nm N ty v r y tk kk a b O O9 O10 W.heap.size W:=
 have h5:=h.kept g.kp
 have l5:=h.o.lt
 ⟨h5.kp,h5.r,h5.o,g.b9,g.b10,⟨h.ho,by have:=g.lo.1;omega,by have:=g.lo.2;omega,g.b9.lt,g.b10.lt⟩,h5.ty.mono (fun q hq h=>⟨h.1,h.2,hq⟩),g.ty.mono (fun q hq h=>⟨by omega,hq⟩),g.tm.mono (fun q hq h=>⟨by omega,hq⟩)⟩
theorem S20.keptS {S:Nat→Prop} (h:S20 bz w op nm N ty v r y tk kk a b O O9 O10 B W) (k:Kept S W W1) (hS:∀ q,S q→B≤q):S20 bz w op nm N ty v r y tk kk a b O O9 O10 B W1:=by
 obtain⟨l1,l2,l3,l4,l5⟩:=h.lo
 have l6:=h.kp.size
 exact⟨h.kp.via1 k (fun x hx hs=>by have:=hS x hs;omega),h.rb.kept k (fun e=>by have:=hS _ e;omega),h.o.kept k (fun e=>by have:=hS _ e;omega),h.b9.kept k (fun e=>by have:=hS _ e;omega),h.b10.kept k (fun e=>by have:=hS _ e;omega),h.lo,h.ty.frame (Same.of_kept k (fun q hq e=>by have:=hS _ e;omega)),h.rt.frame (Same.of_kept k (fun q hq e=>by have:=hS _ e;omega)),h.rm.frame (Same.of_kept k (fun q hq e=>by have:=hS _ e;omega))⟩
theorem S20.kept (h:S20 bz w op nm N ty v r y tk kk a b O O9 O10 B W) (k:Kept (fun _=>False) W W1):S20 bz w op nm N ty v r y tk kk a b O O9 O10 B W1:=h.keptS k (fun _ e=>e.elim)
theorem S20.name (h:S20 bz w op nm N ty v r y tk kk a b O O9 O10 B W) (s:ByteArray):S20 bz w op s N ty v r y tk kk a b O O9 O10 B (W.setCell ⟨O,1,none⟩ (.string s)):=by
 have kS:Kept (fun q=>q=O) W (W.setCell ⟨O,1,none⟩ (.string s)):=(Kept.refl (fun q=>q=O) W).setCell (p:=⟨O,1,none⟩) (Or.inl rfl) _
 obtain⟨h1,h2,h3,h4,h5⟩:=h.lo
 exact⟨h.kp.setCell (p:=⟨O,1,none⟩) (Or.inr (by show w.heap.size≤O;omega)) _,h.rb.kept kS (fun e=>by omega),h.o.set 1 (.string s),h.b9.kept kS (fun e=>by omega),h.b10.kept kS (fun e=>by omega),h.lo,h.ty.frame (Same.of_kept kS (fun q hq e=>hq.2.1 e)),h.rt.frame (Same.of_kept kS (fun q hq e=>by omega)),h.rm.frame (Same.of_kept kS (fun q hq e=>by omega))⟩
theorem two_row {base g:Nat} (k:Kept (fun _=>False) w W) (hb:Blk W g 27 (tmCells r tk kk++tmCells z zt zk)) (hg:base≤g) (h1:TyL bz (fun q=>base≤q∧q≠g) W r.ty.kids tk) (h2:TmL bz (fun q=>base≤q∧q≠g) W r.kids kk) (h3:TyL bz (fun q=>base≤q∧q≠g) W z.ty.kids zt) (h4:TmL bz (fun q=>base≤q∧q≠g) W z.kids zk):
  RowT bz w base W [(r,tk,kk),(z,zt,zk)] (.slice (some ⟨g,0,none⟩) 2 2):=
 ⟨k,⟨rfl,.inr ⟨g,2,_,rfl,hg,hb,Nat.le_refl _,by unfold maxLen;omega,rfl,rfl⟩⟩,fun e he=>by
  rcases List.mem_cons.1 he with rfl | he
  ·exact⟨h1.mono (fun q _ h=>⟨h.1,fun e=>h.2 (Option.some.inj e).symm⟩),h2.mono (fun q _ h=>⟨h.1,fun e=>h.2 (Option.some.inj e).symm⟩)⟩
  ·rw[List.mem_singleton.1 he]
   exact⟨h3.mono (fun q _ h=>⟨h.1,fun e=>h.2 (Option.some.inj e).symm⟩),h4.mono (fun q _ h=>⟨h.1,fun e=>h.2 (Option.some.inj e).symm⟩)⟩⟩
theorem S20.done (h:S20 bz w op nm N ty v r y tk kk a b O O9 O10 B W) (k1:Kept (fun _=>False) W W1) (h3:TyL bz (fun q=>W.heap.size≤q) W1 z.ty.kids zt) (h4:TmL bz (fun q=>W.heap.size≤q) W1 z.kids zk) (W3:World)
  (hW:W3=(W1.setCell ⟨O,6,none⟩ (.slice (some ⟨W1.heap.size,0,none⟩) 2 2)).alloc (.cells #[.int .i64 r.op,.string r.name,.int .i64 r.n,.int .i64 r.ty.kind,.string r.ty.name,tk,kk,.int .i64 z.op,.string z.name,.int .i64 z.n,.int .i64 z.ty.kind,.string z.ty.name,zt,zk] 27)):
  Blk W3 (w.heap.size+1) 27 z27∧Blk W3 O 27 [.int .i64 op,.string nm,.int .i64 N,.int .i64 ty.kind,.string ty.name,v,.slice (some ⟨W1.heap.size,0,none⟩) 2 2]∧Kept (fun _=>False) w W3∧TyL bz (fun q=>w.heap.size+2≤q) W3 ty.kids v∧TmL bz (fun q=>w.heap.size+2≤q) W3 [r,z] (.slice (some ⟨W1.heap.size,0,none⟩) 2 2):=by
 subst hW
 have h1:=h.kept k1
 obtain⟨l1,l2,l3,l4,l5⟩:=h.lo
 have lO:=h1.o.lt
 have l9:=h.b9.lt
 have zsz:=k1.size
 have kS:Kept (fun q=>q=O) W1 (W1.setCell ⟨O,6,none⟩ (.slice (some ⟨W1.heap.size,0,none⟩) 2 2)):=(Kept.refl (fun q=>q=O) W1).setCell (p:=⟨O,6,none⟩) (Or.inl rfl) _
 have kp2:Kept (fun _=>False) w (W1.setCell ⟨O,6,none⟩ (.slice (some ⟨W1.heap.size,0,none⟩) 2 2)):=h1.kp.setCell (p:=⟨O,6,none⟩) (Or.inr (by show w.heap.size≤O;omega)) _
 have bO:=h1.o.set 6 (.slice (some ⟨W1.heap.size,0,none⟩) 2 2)
 have bR:=h1.rb.kept kS (fun e=>by omega)
 have eT:=h1.ty.frame (Same.of_kept kS (fun q hq e=>hq.2.1 e))
 have e1:=(h1.rt.mono (ok':=fun q=>O<q∧q≠W1.heap.size) (fun q hq ho=>⟨ho.1,by omega⟩)).frame (Same.of_kept kS (fun q hq e=>by omega))
 have e2:=(h1.rm.mono (ok':=fun q=>O<q∧q≠W1.heap.size) (fun q hq ho=>⟨ho.1,by omega⟩)).frame (Same.of_kept kS (fun q hq e=>by omega))
 have e3:=(h3.mono (ok':=fun q=>W.heap.size≤q∧q≠W1.heap.size) (fun q hq ho=>⟨ho,by omega⟩)).frame (Same.of_kept kS (fun q hq e=>by omega))
 have e4:=(h4.mono (ok':=fun q=>W.heap.size≤q∧q≠W1.heap.size) (fun q hq ho=>⟨ho,by omega⟩)).frame (Same.of_kept kS (fun q hq e=>by omega))
 have z2:(W1.setCell ⟨O,6,none⟩ (.slice (some ⟨W1.heap.size,0,none⟩) 2 2)).heap.size=W1.heap.size:=by simp[World.setCell]
 generalize W1.setCell ⟨O,6,none⟩ (.slice (some ⟨W1.heap.size,0,none⟩) 2 2)=W2 at *
 have kA:Kept (fun _=>False) W2 (W2.alloc (.cells #[.int .i64 r.op,.string r.name,.int .i64 r.n,.int .i64 r.ty.kind,.string r.ty.name,tk,kk,.int .i64 z.op,.string z.name,.int .i64 z.n,.int .i64 z.ty.kind,.string z.ty.name,zt,zk] 27)):=kR.alloc _
 have bG:Blk (W2.alloc (.cells #[.int .i64 r.op,.string r.name,.int .i64 r.n,.int .i64 r.ty.kind,.string r.ty.name,tk,kk,.int .i64 z.op,.string z.name,.int .i64 z.n,.int .i64 z.ty.kind,.string z.ty.name,zt,zk] 27)) W1.heap.size 27 (tmCells r tk kk++tmCells z zt zk):=Blk.new' 27 (tmCells r tk kk++tmCells z zt zk) z2.symm
 have kp3:=kp2.trans kA
 refine⟨bR.kept kA (fun e=>e),bO.kept kA (fun e=>e),kp3,(eT.frame (sK kA)).mono (fun q _ hq=>hq.1),?_⟩
 exact RowT.tml (two_row (base:=w.heap.size+2) kp3 bG (by omega)
  ((e1.frame (sK kA)).mono (fun q _ hq=>⟨by omega,hq.2⟩)) ((e2.frame (sK kA)).mono (fun q _ hq=>⟨by omega,hq.2⟩))
  ((e3.frame (sK kA)).mono (fun q _ hq=>⟨by omega,hq.2⟩)) ((e4.frame (sK kA)).mono (fun q _ hq=>⟨by omega,hq.2⟩)))
theorem RowB.to {ok:Nat→Prop} {w6 W:World} {base:Nat} {E:List E4} {u:Value} (h:RowB bz ok w6 base W E u) (hw:Kept (fun _=>False) w W):RowB bz ok w base W E u:=⟨hw,h.own,h.el,h.lo⟩
theorem RowB.put {ok:Nat→Prop} {base:Nat} {E:List E4} {u:Value} (h:RowB bz ok w base W E u) (hO:w.heap.size≤O) (hb:O<base) (hok:∀ q,ok q→q≠O) (i:Nat) (x:Value):RowB bz ok w base (W.setCell ⟨O,i,none⟩ x) E u:=by
 have kS:Kept (fun q=>q=O) W (W.setCell ⟨O,i,none⟩ x):=(Kept.refl (fun q=>q=O) W).setCell (p:=⟨O,i,none⟩) (Or.inl rfl) _
 exact⟨h.kp.setCell (p:=⟨O,i,none⟩) (Or.inr hO) _,own_keptT h.own kS (fun g hg e=>by have:=(World.ownsRow.lt h.own g hg).1;omega),h.el.frame (Same.of_kept kS (fun q hq e=>hok q hq e)),h.lo⟩
end
end Go.Proofs.YtdmebjbkccjhbaaGreatDoor
