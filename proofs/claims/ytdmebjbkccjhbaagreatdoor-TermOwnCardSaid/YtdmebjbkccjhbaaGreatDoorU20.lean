/- A part. -/
import Derived.Test.YtdmebjbkccjhbaaGreatDoorU19
set_option linter.unusedVariables false
set_option linter.unusedSimpArgs false
set_option maxRecDepth 100000
set_option maxHeartbeats 32000000
namespace Go.Proofs.YtdmebjbkccjhbaaGreatDoor
open Go.RowKit
variable {bz:Nat}
theorem frs_mem {nm:ByteArray} {s:ByteArray}:∀ {l:List Tm} {u:Tm} (i:Nat),u∈l→mb s (fr u)=true→mb s (frs false nm i l)=true
 | t::l,u,i,h,hs=>by
  rw[frs,mb_app]
  rcases List.mem_cons.1 h with rfl | h
  ·simp[hs]
  ·rw[frs_mem (i+1) h hs];simp
theorem FitB.kid {l:List (ByteArray×Tm)} {op:Int} {nm:ByteArray} {N:Int} {ty:Ty} {ks:List Tm} {M:Nat} (hop:op≠20) (hb:binderB op=false) (h:FitB l (.mk op nm N ty ks) M) {u:Tm} (hu:u∈ks):FitB l u M:=
 fun x F hF=>h x F (fun s hs hx=>by
  rw[fr,if_neg hop,hb]
  exact frs_mem 0 hu (hF s hs hx))
structure SuL (bz:Nat) (w:World) (op:Int) (nm:ByteArray) (N:Int) (ty:Ty) (tk kk v:Value) (O base:Nat) (E:List E3) (W:World) (u:Value):Prop where
 row:RowT bz w base W E u
 a:Blk W w.heap.size 27 [.int .i64 op,.string nm,.int .i64 N,.int .i64 ty.kind,.string ty.name,tk,kk]
 r:Blk W (w.heap.size+1) 27 z27
 o:Blk W O 27 [.int .i64 op,.string nm,.int .i64 N,.int .i64 ty.kind,.string ty.name,v,u]
 ho:w.heap.size+2≤O∧O<base∧base≤W.heap.size
 ty:TyL bz (fun q=>w.heap.size+2≤q∧q≠O∧q<base) W ty.kids v
theorem SuL.start {w W:World} {op:Int} {nm:ByteArray} {N:Int} {ty:Ty} {tk kk v:Value} {O:Nat} (h:CT bz w op nm N ty tk kk v O W):SuL bz w op nm N ty tk kk v O W.heap.size [] W (.slice none 0 0):=
 ⟨RowT.nil h.kp,h.a,h.r,h.o,⟨h.ho,h.o.lt,Nat.le_refl _⟩,h.ty.mono (fun q hq h=>⟨h.1,h.2,hq⟩)⟩
theorem SuL.kept {w W W':World} {op:Int} {nm:ByteArray} {N:Int} {ty:Ty} {tk kk v u:Value} {O base:Nat} {E:List E3} (h:SuL bz w op nm N ty tk kk v O base E W u) (k:Kept (fun _=>False) W W'):SuL bz w op nm N ty tk kk v O base E W' u:=
 ⟨h.row.kept k,h.a.kept k (fun h=>h),h.r.kept k (fun h=>h),h.o.kept k (fun h=>h),⟨h.ho.1,h.ho.2.1,Nat.le_trans h.ho.2.2 k.size⟩,h.ty.frame (sK k)⟩
theorem SuL.step {w W W8:World} {op:Int} {nm:ByteArray} {N:Int} {ty:Ty} {tk kk v u u8:Value} {O base:Nat} {E E8:List E3} (h:SuL bz w op nm N ty tk kk v O base E W u) (hg:W.grownBy W8 u.ownBlock) (hr:RowT bz w base W8 E8 u8):
  Blk W8 O 27 [.int .i64 op,.string nm,.int .i64 N,.int .i64 ty.kind,.string ty.name,v,u]∧SuL bz w op nm N ty tk kk v O base E8 (W8.setCell ⟨O,6,none⟩ u8) u8:=by
 have kG:=kept_grown1 hg
 have hub:∀ x,u.ownBlock=some x→base≤x:=fun x e=>(h.row.own.lt x e).1
 have hub8:∀ x,u8.ownBlock=some x→base≤x:=fun x e=>(hr.own.lt x e).1
 obtain⟨h1,h2,h3⟩:=h.ho
 have bO:=h.o.kept kG (fun e=>by have:=hub O e;omega)
 have kS:Kept (fun q=>q=O) W8 (W8.setCell ⟨O,6,none⟩ u8):=(Kept.refl (fun q=>q=O) W8).setCell (p:=⟨O,6,none⟩) (Or.inl rfl) _
 refine⟨bO,⟨⟨hr.kp.via1 kS (fun x hx e=>by omega),own_keptT hr.own kS (fun g hg e=>by have:=hub8 g hg;omega),hr.el.frame (Same.of_kept kS (fun q hq e=>by have:=hq.1;omega))⟩,?_,?_,bO.set 6 _,⟨h1,h2,Nat.le_trans h3 (Nat.le_trans kG.size kS.size)⟩,?_⟩⟩
 ·exact (h.a.kept kG (fun e=>by have:=hub _ e;omega)).kept kS (fun e=>by omega)
 ·exact (h.r.kept kG (fun e=>by have:=hub _ e;omega)).kept kS (fun e=>by omega)
 ·exact (h.ty.frame (Same.of_kept kG (fun q hq e=>by have:=hub q e;omega))).frame (Same.of_kept kS (fun q hq e=>hq.2.1 e))
end Go.Proofs.YtdmebjbkccjhbaaGreatDoor
