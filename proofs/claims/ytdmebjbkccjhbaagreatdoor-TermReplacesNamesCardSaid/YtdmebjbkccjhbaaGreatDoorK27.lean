/- A part. -/
import Derived.Test.YtdmebjbkccjhbaaGreatDoorK16
import Derived.Test.YtdmebjbkccjhbaaGreatDoorK21
import Derived.Test.YtdmebjbkccjhbaaGreatDoorK26
set_option linter.unusedVariables false
set_option linter.unusedSimpArgs false
set_option maxRecDepth 100000
set_option maxHeartbeats 32000000
namespace Go.Proofs.YtdmebjbkccjhbaaGreatDoor
open Go.RowKit
theorem MapF.ne {W:World} {p n q T:Nat} {f:ByteArray→Option Value} {l:List Value} (h:MapF W p n f) (hb:Blk W q T l):p≠q:=by
 rintro rfl
 obtain⟨D,⟨es,clock,h1,h2⟩,h3⟩:=h
 have h4:W.heap[p]?=some _:=hb
 rw[h1] at h4
 cases h4
theorem tml_three {ok:Nat→Prop} {W:World} {g:Nat} {t u v:Tm} {tk kk tk' kk' tk2 kk2:Value} {ok' ok2:Nat→Prop} (hb:Blk W g 27 (tmCells t tk kk++(tmCells u tk' kk'++(tmCells v tk2 kk2++[])))) (h1:TyL ok W t.ty.kids tk) (h2:TmL ok W t.kids kk) (h3:TyL ok' W u.ty.kids tk') (h4:TmL ok' W u.kids kk') (h5:TyL ok2 W v.ty.kids tk2) (h6:TmL ok2 W v.kids kk2):TmL (fun _=>True) W [t,u,v] (.slice (some ⟨g,0,none⟩) 3 3):=by
 refine tml_of_row' (base:=0) (E:=[(t,tk,kk),(u,tk',kk'),(v,tk2,kk2)]) ⟨rfl,.inr ⟨g,3,_,rfl,Nat.zero_le g,hb,Nat.le_refl 3,(by unfold maxLen;decide),rfl,rfl⟩⟩ (fun e he=>?_) (fun _ _=>trivial)
 rcases List.mem_cons.1 he with rfl | he
 ·exact⟨h1.mono (fun _ _ _=>trivial),h2.mono (fun _ _ _=>trivial)⟩
 ·rcases List.mem_cons.1 he with rfl | he
  ·exact⟨h3.mono (fun _ _ _=>trivial),h4.mono (fun _ _ _=>trivial)⟩
  ·rw[List.mem_singleton.1 he];exact⟨h5.mono (fun _ _ _=>trivial),h6.mono (fun _ _ _=>trivial)⟩
theorem cgB_zero (l:List ByteArray):cgB l (fun _=>0)=false:=by
 unfold cgB
 induction l with
 | nil=>rfl
 | cons s r ih=>rw[List.any_cons,ih];rfl
def TmB3 (B:Nat) (r:Tm×Nat×Int) (w:World) (e:Ending) (w':World):Prop:=∃ tk kk,e=.returned (.tuple #[tmVal r.1 tk kk,.int .i64 (r.2.1:Nat),.int .i64 r.2.2])∧TyL (fun k=>B≤k) w' r.1.ty.kids tk∧TmL (fun k=>B≤k) w' r.1.kids kk∧Kept (fun _=>False) w w'
def St4 (w:World) (c0 c1 c2:List Value) (W:World):Prop:=Kept (fun _=>False) w W∧w.heap.size+4≤W.heap.size∧Blk W w.heap.size 27 c0∧Blk W (w.heap.size+1) 27 c1∧Blk W (w.heap.size+2) 27 c2∧Blk W (w.heap.size+3) 27 z27
theorem St4.kept {w W W':World} {c0 c1 c2:List Value} (h:St4 w c0 c1 c2 W) (k:Kept (fun _=>False) W W'):St4 w c0 c1 c2 W':=
 ⟨h.1.trans k,Nat.le_trans h.2.1 k.size,h.2.2.1.kept k (fun e=>e),h.2.2.2.1.kept k (fun e=>e),h.2.2.2.2.1.kept k (fun e=>e),h.2.2.2.2.2.kept k (fun e=>e)⟩
theorem St4.via {w W W':World} {c0 c1 c2:List Value} {S:Nat→Prop} (h:St4 w c0 c1 c2 W) (k:Kept S W W') (hS:∀ q,S q→w.heap.size+4≤q):St4 w c0 c1 c2 W':=
 ⟨h.1.via1 k (fun x hx e=>by have:=hS x e;omega),Nat.le_trans h.2.1 k.size,h.2.2.1.kept k (fun e=>by have:=hS _ e;omega),h.2.2.2.1.kept k (fun e=>by have:=hS _ e;omega),h.2.2.2.2.1.kept k (fun e=>by have:=hS _ e;omega),h.2.2.2.2.2.kept k (fun e=>by have:=hS _ e;omega)⟩
theorem St4.fin {w W:World} {c0 c1 c2:List Value} (h:St4 w c0 c1 c2 W) {R:Nat} (hR:R=w.heap.size+3) {x0 x1 x2 x3 x4 x5 x6:Value}:Kept (fun _=>False) w (World.drew (((((((W.setCell ⟨R,0,none⟩ x0).setCell ⟨R,1,none⟩ x1).setCell ⟨R,2,none⟩ x2).setCell ⟨R,3,none⟩ x3).setCell ⟨R,4,none⟩ x4).setCell ⟨R,5,none⟩ x5).setCell ⟨R,6,none⟩ x6))∧Blk (World.drew (((((((W.setCell ⟨R,0,none⟩ x0).setCell ⟨R,1,none⟩ x1).setCell ⟨R,2,none⟩ x2).setCell ⟨R,3,none⟩ x3).setCell ⟨R,4,none⟩ x4).setCell ⟨R,5,none⟩ x5).setCell ⟨R,6,none⟩ x6)) (w.heap.size+3) 27 [x0,x1,x2,x3,x4,x5,x6]∧(∀ l v,TyL (fun k=>w.heap.size+4≤k) W l v→TyL (fun k=>w.heap.size+4≤k) (World.drew (((((((W.setCell ⟨R,0,none⟩ x0).setCell ⟨R,1,none⟩ x1).setCell ⟨R,2,none⟩ x2).setCell ⟨R,3,none⟩ x3).setCell ⟨R,4,none⟩ x4).setCell ⟨R,5,none⟩ x5).setCell ⟨R,6,none⟩ x6)) l v)∧(∀ l v,TmL (fun k=>w.heap.size+4≤k) W l v→TmL (fun k=>w.heap.size+4≤k) (World.drew (((((((W.setCell ⟨R,0,none⟩ x0).setCell ⟨R,1,none⟩ x1).setCell ⟨R,2,none⟩ x2).setCell ⟨R,3,none⟩ x3).setCell ⟨R,4,none⟩ x4).setCell ⟨R,5,none⟩ x5).setCell ⟨R,6,none⟩ x6)) l v):=by
 subst hR
 have KD:Kept (fun _=>False) (((((((W.setCell ⟨w.heap.size+3,0,none⟩ x0).setCell ⟨w.heap.size+3,1,none⟩ x1).setCell ⟨w.heap.size+3,2,none⟩ x2).setCell ⟨w.heap.size+3,3,none⟩ x3).setCell ⟨w.heap.size+3,4,none⟩ x4).setCell ⟨w.heap.size+3,5,none⟩ x5).setCell ⟨w.heap.size+3,6,none⟩ x6) (World.drew (((((((W.setCell ⟨w.heap.size+3,0,none⟩ x0).setCell ⟨w.heap.size+3,1,none⟩ x1).setCell ⟨w.heap.size+3,2,none⟩ x2).setCell ⟨w.heap.size+3,3,none⟩ x3).setCell ⟨w.heap.size+3,4,none⟩ x4).setCell ⟨w.heap.size+3,5,none⟩ x5).setCell ⟨w.heap.size+3,6,none⟩ x6)):=kR.drew
 exact⟨(k7w h.1 (Or.inr (by omega))).trans KD,(r7 h.2.2.2.2.2 rfl).kept KD (fun e=>e),fun l v hT=>(hT.frame (set7 (fun q hq=>by omega))).frame (sK KD),fun l v hT=>(hT.frame (set7 (fun q hq=>by omega))).frame (sK KD)⟩
def z93:List Value:=[Value.int .i64 0,.string ⟨#[]⟩,.int .i64 0,.int .i64 0,.string ⟨#[]⟩,.slice none 0 0,.slice none 0 0,.int .i64 0,.string ⟨#[]⟩,.int .i64 0,.int .i64 0,.string ⟨#[]⟩,.slice none 0 0,.slice none 0 0,.map none,.map none,.int .i64 0]
theorem r17 {W:World} {R:Nat} {l:List Value} {x0 x1 x2 x3 x4 x5 x6 x7 x8 x9 x10 x11 x12 x13 x14 x15 x16:Value} (h:Blk W R 87 l) (hl:l.length=17):
  Blk (((((((((((((((((W.setCell ⟨R,0,none⟩ x0).setCell ⟨R,1,none⟩ x1).setCell ⟨R,2,none⟩ x2).setCell ⟨R,3,none⟩ x3).setCell ⟨R,4,none⟩ x4).setCell ⟨R,5,none⟩ x5).setCell ⟨R,6,none⟩ x6).setCell ⟨R,7,none⟩ x7).setCell ⟨R,8,none⟩ x8).setCell ⟨R,9,none⟩ x9).setCell ⟨R,10,none⟩ x10).setCell ⟨R,11,none⟩ x11).setCell ⟨R,12,none⟩ x12).setCell ⟨R,13,none⟩ x13).setCell ⟨R,14,none⟩ x14).setCell ⟨R,15,none⟩ x15).setCell ⟨R,16,none⟩ x16) R 87 [x0,x1,x2,x3,x4,x5,x6,x7,x8,x9,x10,x11,x12,x13,x14,x15,x16]:=by
 match l,hl with
 | [a0,a1,a2,a3,a4,a5,a6,a7,a8,a9,a10,a11,a12,a13,a14,a15,a16],_=>
  have q:=((((((((((((((((h.set 0 x0).set 1 x1).set 2 x2).set 3 x3).set 4 x4).set 5 x5).set 6 x6).set 7 x7).set 8 x8).set 9 x9).set 10 x10).set 11 x11).set 12 x12).set 13 x13).set 14 x14).set 15 x15).set 16 x16
  simp only[List.set_cons_succ,List.set_cons_zero] at q
  exact q
theorem k17 {W:World} {R:Nat} {x0 x1 x2 x3 x4 x5 x6 x7 x8 x9 x10 x11 x12 x13 x14 x15 x16:Value}:
  Kept (fun q=>q=R) W (((((((((((((((((W.setCell ⟨R,0,none⟩ x0).setCell ⟨R,1,none⟩ x1).setCell ⟨R,2,none⟩ x2).setCell ⟨R,3,none⟩ x3).setCell ⟨R,4,none⟩ x4).setCell ⟨R,5,none⟩ x5).setCell ⟨R,6,none⟩ x6).setCell ⟨R,7,none⟩ x7).setCell ⟨R,8,none⟩ x8).setCell ⟨R,9,none⟩ x9).setCell ⟨R,10,none⟩ x10).setCell ⟨R,11,none⟩ x11).setCell ⟨R,12,none⟩ x12).setCell ⟨R,13,none⟩ x13).setCell ⟨R,14,none⟩ x14).setCell ⟨R,15,none⟩ x15).setCell ⟨R,16,none⟩ x16):=by
 have h1:Kept (fun q=>q=R) W (((((((W.setCell ⟨R,0,none⟩ x0).setCell ⟨R,1,none⟩ x1).setCell ⟨R,2,none⟩ x2).setCell ⟨R,3,none⟩ x3).setCell ⟨R,4,none⟩ x4).setCell ⟨R,5,none⟩ x5).setCell ⟨R,6,none⟩ x6):=k7g
 generalize (((((((W.setCell ⟨R,0,none⟩ x0).setCell ⟨R,1,none⟩ x1).setCell ⟨R,2,none⟩ x2).setCell ⟨R,3,none⟩ x3).setCell ⟨R,4,none⟩ x4).setCell ⟨R,5,none⟩ x5).setCell ⟨R,6,none⟩ x6)=W1 at *
 have h2:Kept (fun q=>q=R) W1 (((((((W1.setCell ⟨R,7,none⟩ x7).setCell ⟨R,8,none⟩ x8).setCell ⟨R,9,none⟩ x9).setCell ⟨R,10,none⟩ x10).setCell ⟨R,11,none⟩ x11).setCell ⟨R,12,none⟩ x12).setCell ⟨R,13,none⟩ x13):=k7g
 generalize (((((((W1.setCell ⟨R,7,none⟩ x7).setCell ⟨R,8,none⟩ x8).setCell ⟨R,9,none⟩ x9).setCell ⟨R,10,none⟩ x10).setCell ⟨R,11,none⟩ x11).setCell ⟨R,12,none⟩ x12).setCell ⟨R,13,none⟩ x13)=W2 at *
 exact (((h1.trans h2).setCell (p:=⟨R,14,none⟩) (Or.inl rfl) _).setCell (p:=⟨R,15,none⟩) (Or.inl rfl) _).setCell (p:=⟨R,16,none⟩) (Or.inl rfl) _
theorem prd_any {t fm tu:Tm} {ok okf oku:Nat→Prop} {w:World} {tk kk fk fkk uk ukk:Value} (h1:TyL ok w t.ty.kids tk) (h2:TmL ok w t.kids kk) (hs:SmTm big t) (h3:TyL okf w fm.ty.kids fk) (h4:TmL okf w fm.kids fkk) (hs':SmTm big fm) (h5:TyL oku w tu.ty.kids uk) (h6:TmL oku w tu.kids ukk) (hs2:SmTm big tu) (hp:P10 w):
  Calls Tryz.prog 23 #[tmVal t tk kk,tmVal fm fk fkk,tmVal tu uk ukk] w (TmB3 w.heap.size (rplR t fm tu) w):=by
 obtain⟨p0,n0,c0,rfl⟩:=h1.slice
 obtain⟨ma0,mn0,mc0,rfl⟩:=h2.slice
 obtain⟨p1,n1,c1,rfl⟩:=h3.slice
 obtain⟨ma1,mn1,mc1,rfl⟩:=h4.slice
 obtain⟨p2,n2,c2,rfl⟩:=h5.slice
 obtain⟨ma2,mn2,mc2,rfl⟩:=h6.slice
 have h1:=h1.mono (ok':=fun q=>q<w.heap.size) (fun q hq _=>hq)
 have h2:=h2.mono (ok':=fun q=>q<w.heap.size) (fun q hq _=>hq)
 have h3:=h3.mono (ok':=fun q=>q<w.heap.size) (fun q hq _=>hq)
 have h4:=h4.mono (ok':=fun q=>q<w.heap.size) (fun q hq _=>hq)
 have h5:=h5.mono (ok':=fun q=>q<w.heap.size) (fun q hq _=>hq)
 have h6:=h6.mono (ok':=fun q=>q<w.heap.size) (fun q hq _=>hq)
 have HM:=Ld (fun W (k:Kept (fun _=>False) w W)=>(⟨h1.frame (sK k),h2.frame (sK k),h3.frame (sK k),h4.frame (sK k),h5.frame (sK k),h6.frame (sK k)⟩:_∧_∧_∧_∧_∧_))
 have HP:=Ld (fun W (k:Kept (fun _=>False) w W)=>hp.kept k)
 have HSM:Hid (∀ x,x∈[t,fm,tu]→SmTm big x):=Ld (fun x hx=>by
  rcases List.mem_cons.1 hx with rfl | hx
  ·exact hs
  ·rcases List.mem_cons.1 hx with rfl | hx
   ·exact hs'
   ·rw[List.mem_singleton.1 hx];exact hs2)
 have S1:Hid (St4 w [Value.int .i64 t.op,.string t.name,.int .i64 t.n,.int .i64 t.ty.kind,.string t.ty.name,.slice p0 n0 c0,.slice ma0 mn0 mc0] [Value.int .i64 fm.op,.string fm.name,.int .i64 fm.n,.int .i64 fm.ty.kind,.string fm.ty.name,.slice p1 n1 c1,.slice ma1 mn1 mc1] [Value.int .i64 tu.op,.string tu.name,.int .i64 tu.n,.int .i64 tu.ty.kind,.string tu.ty.name,.slice p2 n2 c2,.slice ma2 mn2 mc2] ((((w.alloc (.cells #[.int .i64 t.op,.string t.name,.int .i64 t.n,.int .i64 t.ty.kind,.string t.ty.name,.slice p0 n0 c0,.slice ma0 mn0 mc0] 27)).alloc (.cells #[.int .i64 fm.op,.string fm.name,.int .i64 fm.n,.int .i64 fm.ty.kind,.string fm.ty.name,.slice p1 n1 c1,.slice ma1 mn1 mc1] 27)).alloc (.cells #[.int .i64 tu.op,.string tu.name,.int .i64 tu.n,.int .i64 tu.ty.kind,.string tu.ty.name,.slice p2 n2 c2,.slice ma2 mn2 mc2] 27)).alloc Z7)):=Ld ⟨(((kR.alloc _).alloc _).alloc _).alloc _,by simp,(((Blk.new w 27 [Value.int .i64 t.op,.string t.name,.int .i64 t.n,.int .i64 t.ty.kind,.string t.ty.name,.slice p0 n0 c0,.slice ma0 mn0 mc0]).alloc _).alloc _).alloc _,((Blk.new' 27 [Value.int .i64 fm.op,.string fm.name,.int .i64 fm.n,.int .i64 fm.ty.kind,.string fm.ty.name,.slice p1 n1 c1,.slice ma1 mn1 mc1] (by simp)).alloc _).alloc _,(Blk.new' 27 [Value.int .i64 tu.op,.string tu.name,.int .i64 tu.n,.int .i64 tu.ty.kind,.string tu.ty.name,.slice p2 n2 c2,.slice ma2 mn2 mc2] (by simp)).alloc _,Blk.new' 27 _ (by simp)⟩
 clear h1 h2 h3 h4 h5 h6 hs hs' hs2 hp
 change Calls Tryz.prog 23 #[.agg #[.int .i64 t.op,.string t.name,.int .i64 t.n,.int .i64 t.ty.kind,.string t.ty.name,.slice p0 n0 c0,.slice ma0 mn0 mc0],.agg #[.int .i64 fm.op,.string fm.name,.int .i64 fm.n,.int .i64 fm.ty.kind,.string fm.ty.name,.slice p1 n1 c1,.slice ma1 mn1 mc1],.agg #[.int .i64 tu.op,.string tu.name,.int .i64 tu.n,.int .i64 tu.ty.kind,.string tu.ty.name,.slice p2 n2 c2,.slice ma2 mn2 mc2]] w _
 go_enter Tryz.func23,Tryz.ntmps23
 go_upto_region 1 with (fail)
 generalize ((((w.alloc (.cells #[.int .i64 t.op,.string t.name,.int .i64 t.n,.int .i64 t.ty.kind,.string t.ty.name,.slice p0 n0 c0,.slice ma0 mn0 mc0] 27)).alloc (.cells #[.int .i64 fm.op,.string fm.name,.int .i64 fm.n,.int .i64 fm.ty.kind,.string fm.ty.name,.slice p1 n1 c1,.slice ma1 mn1 mc1] 27)).alloc (.cells #[.int .i64 tu.op,.string tu.name,.int .i64 tu.n,.int .i64 tu.ty.kind,.string tu.ty.name,.slice p2 n2 c2,.slice ma2 mn2 mc2] 27)).alloc Z7)=w1 at *
 have HV:=Ld (valids_any (l:=[t,fm,tu]) (w:=w1.alloc (.cells #[.int .i64 t.op,.string t.name,.int .i64 t.n,.int .i64 t.ty.kind,.string t.ty.name,.slice p0 n0 c0,.slice ma0 mn0 mc0,.int .i64 fm.op,.string fm.name,.int .i64 fm.n,.int .i64 fm.ty.kind,.string fm.ty.name,.slice p1 n1 c1,.slice ma1 mn1 mc1,.int .i64 tu.op,.string tu.name,.int .i64 tu.n,.int .i64 tu.ty.kind,.string tu.ty.name,.slice p2 n2 c2,.slice ma2 mn2 mc2] 27)) (by simp) HSM.out (tml_three (Blk.new w1 27 [Value.int .i64 t.op,.string t.name,.int .i64 t.n,.int .i64 t.ty.kind,.string t.ty.name,.slice p0 n0 c0,.slice ma0 mn0 mc0,.int .i64 fm.op,.string fm.name,.int .i64 fm.n,.int .i64 fm.ty.kind,.string fm.ty.name,.slice p1 n1 c1,.slice ma1 mn1 mc1,.int .i64 tu.op,.string tu.name,.int .i64 tu.n,.int .i64 tu.ty.kind,.string tu.ty.name,.slice p2 n2 c2,.slice ma2 mn2 mc2]) (HM.out _ (S1.out.1.alloc _)).1 (HM.out _ (S1.out.1.alloc _)).2.1 (HM.out _ (S1.out.1.alloc _)).2.2.1 (HM.out _ (S1.out.1.alloc _)).2.2.2.1 (HM.out _ (S1.out.1.alloc _)).2.2.2.2.1 (HM.out _ (S1.out.1.alloc _)).2.2.2.2.2))
 have gT:=S1.out.2.2.1.cell
 have gF:∀ i,w1.cell? ⟨w.heap.size+1,i,none⟩=[Value.int .i64 fm.op,.string fm.name,.int .i64 fm.n,.int .i64 fm.ty.kind,.string fm.ty.name,.slice p1 n1 c1,.slice ma1 mn1 mc1][i]?:=S1.out.2.2.2.1.cell
 have gU:∀ i,w1.cell? ⟨w.heap.size+2,i,none⟩=[Value.int .i64 tu.op,.string tu.name,.int .i64 tu.n,.int .i64 tu.ty.kind,.string tu.ty.name,.slice p2 n2 c2,.slice ma2 mn2 mc2][i]?:=S1.out.2.2.2.2.1.cell
 go_wp2_with fail
 refine HV.out.mono ?_
 rintro e w2 ⟨rfl,k2⟩
 have S2:=Ld ((S1.out.kept (kR.alloc _)).kept k2)
 have HVE:Hid ([t,fm,tu].all validB=(validB t&&validB fm&&validB tu)):=Ld (by simp[Bool.and_assoc])
 clear HV gT gF gU k2 S1 HSM
 rw[HVE.out]
 cases hv:(validB t&&validB fm&&validB tu)
 case false=>
  have HQ:=Ld (rplR_bad hv)
  have lR:=S2.out.2.2.2.2.2.lt
  have gR:∀ i,w2.cell? ⟨w.heap.size+3,i,none⟩=[Value.int .i64 0,.string ⟨#[]⟩,.int .i64 0,.int .i64 0,.string ⟨#[]⟩,.slice none 0 0,.slice none 0 0][i]?:=S2.out.2.2.2.2.2.cell
  have fR:=S2.out.2.2.2.2.2.frozen
  clear HM HP HVE hv
  go_wp2_with fail
  exact bodyPost_ret (results_ctt Tryz.results23 rfl (load_tm (t:=tm0) (r7 S2.out.2.2.2.2.2 rfl))) rfl ⟨_,_,by rw[HQ.out];rfl,by rw[HQ.out];exact .nil (Or.inl rfl),by rw[HQ.out];exact .nil (Or.inl rfl),k7w S2.out.1 (Or.inr (by omega))⟩
 case true=>
  have HV3:Hid (validB t=true∧validB fm=true∧validB tu=true):=Ld (by rw[Bool.and_eq_true,Bool.and_eq_true] at hv;exact⟨hv.1.1,hv.1.2,hv.2⟩)
  have HQ:=Ld (rplR_of HV3.out.1 HV3.out.2.1 HV3.out.2.2)
  have HO3:Hid (OkTm t∧OkTm fm∧OkTm tu∧(tmN t≤2000∧tmN fm≤2000∧tmN tu≤2000)∧(tmD t≤64∧tmD fm≤64∧tmD tu≤64)):=Ld (by have e1:=(valid_iff t).1 HV3.out.1;have e2:=(valid_iff fm).1 HV3.out.2.1;have e3:=(valid_iff tu).1 HV3.out.2.2;exact⟨e1.1,e2.1,e3.1,⟨e1.2.1,e2.2.1,e3.2.1⟩,e1.2.2,e2.2.2,e3.2.2⟩)
  have HOUT:=Ld (rpO_db HV3.out.1 HV3.out.2.1 HV3.out.2.2).1
  clear hv HVE
  go_upto_region 3 with (fail)
  have KD:Kept (fun _=>False) w2 (World.drew w2):=kR.drew
  refine wp_region_mono (L:=Kept (fun _=>False)) (fun i v W=>match i with
          | 0=>v=.agg #[.int .i64 fm.op,.string fm.name,.int .i64 fm.n,.int .i64 fm.ty.kind,.string fm.ty.name,.slice p1 n1 c1,.slice ma1 mn1 mc1]
          | 1=>v=.agg #[.int .i64 tu.op,.string tu.name,.int .i64 tu.n,.int .i64 tu.ty.kind,.string tu.ty.name,.slice p2 n2 c2,.slice ma2 mn2 mc2]
          | 2=>v=.agg #[.int .i64 fm.op,.string fm.name,.int .i64 fm.n,.int .i64 fm.ty.kind,.string fm.ty.name,.slice p1 n1 c1,.slice ma1 mn1 mc1]
          | 3=>∃ g,v=.slice (some ⟨g,0,none⟩) 1 1∧Blk W g 27 (tmCells fm (.slice p1 n1 c1) (.slice ma1 mn1 mc1))
          | 4=>∃ p,v=.map (some p)∧MapF W p (tmN fm) (bagF (fun s=>mb s (fr fm)))∧w2.heap.size≤p
          | 5=>v=.agg #[.int .i64 tu.op,.string tu.name,.int .i64 tu.n,.int .i64 tu.ty.kind,.string tu.ty.name,.slice p2 n2 c2,.slice ma2 mn2 mc2]
          | 6=>∃ g,v=.slice (some ⟨g,0,none⟩) 1 1∧Blk W g 27 (tmCells tu (.slice p2 n2 c2) (.slice ma2 mn2 mc2))
          | 7=>∃ p,v=.map (some p)∧MapF W p (tmN tu) (bagF (fun s=>mb s (fr tu)))∧w2.heap.size≤p
          | 8=>∃ q1 q2,v=.agg #[.int .i64 fm.op,.string fm.name,.int .i64 fm.n,.int .i64 fm.ty.kind,.string fm.ty.name,.slice p1 n1 c1,.slice ma1 mn1 mc1,.int .i64 tu.op,.string tu.name,.int .i64 tu.n,.int .i64 tu.ty.kind,.string tu.ty.name,.slice p2 n2 c2,.slice ma2 mn2 mc2,.map (some q1),.map (some q2),.int .i64 0]∧MapF W q1 (tmN fm) (bagF (fun s=>mb s (fr fm)))∧MapF W q2 (tmN tu) (bagF (fun s=>mb s (fr tu)))∧w2.heap.size≤q1∧w2.heap.size≤q2
          | 9=>∃ g,v=.pointer (some ⟨g,0,none⟩)∧Blk W g 87 z93∧w2.heap.size≤g
          | _=>True) [10] [] 42 (by kernel_rfl) rfl (by kernel_rfl) (by kernel_rfl) (fun w=>Kept.refl _ w) (fun _ _ _ h1 h2=>h1.trans h2) (fun c d v a w h=>by cases d <;> exact h) ?_ ?_
  ·refine allM_cons rfl (stepM_of [] rfl fun W k'=>allV_nil ?_) ?_
   ·have q:=KD.trans k'
    have gF:=(S2.out.2.2.2.1.kept q (fun e=>e)).cell
    refine opW_go rfl fun K hK=>?_
    go_simp
    exact hK _ _ (KT.mk kR rfl 19 rfl rfl)
   refine allM_cons rfl (stepM_of [] rfl fun W k'=>allV_nil ?_) ?_
   ·have q:=KD.trans k'
    have gU:∀ i,W.cell? ⟨w.heap.size+2,i,none⟩=[Value.int .i64 tu.op,.string tu.name,.int .i64 tu.n,.int .i64 tu.ty.kind,.string tu.ty.name,.slice p2 n2 c2,.slice ma2 mn2 mc2][i]?:=(S2.out.2.2.2.2.1.kept q (fun e=>e)).cell
    refine opW_go rfl fun K hK=>?_
    go_simp
    exact hK _ _ (KT.mk kR rfl 20 rfl rfl)
   refine allM_cons rfl (stepM_of [] rfl fun W k'=>allV_nil ?_) ?_
   ·have q:=KD.trans k'
    have gF:∀ i,W.cell? ⟨w.heap.size+1,i,none⟩=[Value.int .i64 fm.op,.string fm.name,.int .i64 fm.n,.int .i64 fm.ty.kind,.string fm.ty.name,.slice p1 n1 c1,.slice ma1 mn1 mc1][i]?:=(S2.out.2.2.2.1.kept q (fun e=>e)).cell
    refine opW_go rfl fun K hK=>?_
    go_simp
    exact hK _ _ (KT.mk kR rfl 21 rfl rfl)
   refine allM_cons rfl (stepM_of [2] rfl fun W k'=>allV_some 21 rfl fun v0 h0=>allV_nil ?_) ?_
   ·obtain⟨w1,k1,rfl⟩:=h0
    refine opW_go rfl fun K hK=>?_
    go_simp
    exact hK _ _ (KT.mk (kR.alloc _) rfl 22 rfl ⟨_,rfl,Blk.new W 27 (tmCells fm (.slice p1 n1 c1) (.slice ma1 mn1 mc1))⟩)
   refine allM_cons rfl (stepM_of [3] rfl fun W k'=>allV_some 22 rfl fun v0 h0=>allV_nil ?_) ?_
   ·obtain⟨w1,k1,g,rfl,hb⟩:=h0
    refine opW_go rfl fun K hK=>?_
    go_simp
    go_at_call 44
    have q:=KD.trans k'
    have kW:=S2.out.1.trans q
    refine (free_any HO3.out.2.1 (by have:=HO3.out;omega) (by have:=HO3.out;omega) (tml_one (hb.kept k1 (fun e=>e)) (HM.out W kW).2.2.1 (HM.out W kW).2.2.2.1)).mono ?_
    rintro e w' ⟨p,rfl,hp,hm,k7⟩
    exact hK _ _ (KT.mk k7 rfl 23 rfl ⟨p,rfl,hm,Nat.le_trans q.size hp⟩)
   refine allM_cons rfl (stepM_of [] rfl fun W k'=>allV_nil ?_) ?_
   ·have q:=KD.trans k'
    have gU:=(S2.out.2.2.2.2.1.kept q (fun e=>e)).cell
    refine opW_go rfl fun K hK=>?_
    go_simp
    exact hK _ _ (KT.mk kR rfl 24 rfl rfl)
   refine allM_cons rfl (stepM_of [5] rfl fun W k'=>allV_some 24 rfl fun v0 h0=>allV_nil ?_) ?_
   ·obtain⟨w1,k1,rfl⟩:=h0
    refine opW_go rfl fun K hK=>?_
    go_simp
    exact hK _ _ (KT.mk (kR.alloc _) rfl 25 rfl ⟨_,rfl,Blk.new W 27 (tmCells tu (.slice p2 n2 c2) (.slice ma2 mn2 mc2))⟩)
   refine allM_cons rfl (stepM_of [6,4] rfl fun W k'=>allV_some 25 rfl fun v0 h0=>allV_some 23 rfl fun v1 h1=>allV_nil ?_) ?_
   ·obtain⟨w1,k1,g,rfl,hb⟩:=h0
    clear h1
    refine opW_go rfl fun K hK=>?_
    go_simp
    go_at_call 44
    have q:=KD.trans k'
    have kW:=S2.out.1.trans q
    refine (free_any HO3.out.2.2.1 (by have:=HO3.out;omega) (by have:=HO3.out;omega) (tml_one (hb.kept k1 (fun e=>e)) (HM.out W kW).2.2.2.2.1 (HM.out W kW).2.2.2.2.2)).mono ?_
    rintro e w' ⟨p,rfl,hp,hm,k7⟩
    exact hK _ _ (KT.mk k7 rfl 26 rfl ⟨p,rfl,hm,Nat.le_trans q.size hp⟩)
   refine allM_cons rfl (stepM_of [0,1,4,7] rfl fun W k'=>allV_some 19 rfl fun v0 h0=>allV_some 20 rfl fun v1 h1=>allV_some 23 rfl fun v2 h2=>allV_some 26 rfl fun v3 h3=>allV_nil ?_) ?_
   ·obtain⟨w1,k1,rfl⟩:=h0
    obtain⟨w2,k2,rfl⟩:=h1
    obtain⟨w3,k3,q1,rfl,m1,g1⟩:=h2
    obtain⟨w4,k4,q2,rfl,m2,g2⟩:=h3
    refine opW_go rfl fun K hK=>?_
    go_simp
    exact hK _ _ (KT.mk kR rfl 27 rfl ⟨q1,q2,rfl,m1.kept k3 (fun e=>e),m2.kept k4 (fun e=>e),g1,g2⟩)
   refine allM_cons rfl (stepM_of [] rfl fun W k'=>allV_nil ?_) ?_
   ·refine opW_go rfl fun K hK=>?_
    go_simp
    exact hK _ _ (KT.mk (kR.alloc _) rfl 9 rfl ⟨_,rfl,Blk.new W 87 z93,(KD.trans k').size⟩)
   refine allM_tail rfl ?_
   exact allM_nil
  ·intro W kW
   have hh:(List.range 11).filter (fun i=>!([10]:List Nat).contains i)=[0,1,2,3,4,5,6,7,8,9]:=by decide
   change allV _ _ _ _ _ ((List.range 11).filter (fun i=>!([10]:List Nat).contains i)) _
   rw[hh]
   generalize hKK:(fun a1=>wpList Tryz.prog _ _ (pickT [10] 0 _) a1 W)=KK
   refine allV_some 19 (by kernel_rfl) ?_
   intro v0 h0
   refine allV_some 20 (by kernel_rfl) ?_
   intro v1 h1
   refine allV_some 21 (by kernel_rfl) ?_
   intro v2 h2
   refine allV_some 22 (by kernel_rfl) ?_
   intro v3 h3
   refine allV_some 23 (by kernel_rfl) ?_
   intro v4 h4
   refine allV_some 24 (by kernel_rfl) ?_
   intro v5 h5
   refine allV_some 25 (by kernel_rfl) ?_
   intro v6 h6
   refine allV_some 26 (by kernel_rfl) ?_
   intro v7 h7
   refine allV_some 27 (by kernel_rfl) ?_
   intro v8 h8
   refine allV_some 9 (by kernel_rfl) ?_
   intro v9 h9
   refine allV_nil ?_
   clear h0
   clear h1
   clear h2
   clear h3
   clear h4
   clear h5
   clear h6
   clear h7
   obtain⟨w8,k8,fB,tB,rfl,m1,m2,g1,g2⟩:=h8
   obtain⟨w9,k9,R,rfl,hb,hge⟩:=h9
   subst hKK
   have S3:=Ld (S2.out.kept (KD.trans kW))
   have HR:=Ld (hb.kept k9 (fun h=>h))
   have HMF:=Ld (m1.kept k8 (fun e=>e))
   have HMT:=Ld (m2.kept k8 (fun e=>e))
   have LZ:Hid (w2.heap.size≤R∧w2.heap.size≤fB∧w2.heap.size≤tB∧fB≠R∧tB≠R):=Ld ⟨hge,g1,g2,HMF.out.ne HR.out,HMT.out.ne HR.out⟩
   have LS:=Ld S2.out.2.1
   have gZ:∀ i,W.cell? ⟨R,i,none⟩=[Value.int .i64 0,.string ⟨#[]⟩,.int .i64 0,.int .i64 0,.string ⟨#[]⟩,.slice none 0 0,.slice none 0 0,.int .i64 0,.string ⟨#[]⟩,.int .i64 0,.int .i64 0,.string ⟨#[]⟩,.slice none 0 0,.slice none 0 0,.map none,.map none,.int .i64 0][i]?:=HR.out.cell
   have fZ:=HR.out.frozen
   have lZ:=HR.out.lt
   clear hb hge m1 m2 g1 g2 KD kW k8 k9 hh S2
   show wpList Tryz.prog _ _ [_] _ W
   simp only[Act.put,List.setIfInBounds_toArray,List.set_cons_succ,List.set_cons_zero]
   go_upto_region 4 with (fail)
   have K4:Kept (fun q=>q=R) W (((((((((((((((((W.setCell ⟨R,0,none⟩ (.int .i64 fm.op)).setCell ⟨R,1,none⟩ (.string fm.name)).setCell ⟨R,2,none⟩ (.int .i64 fm.n)).setCell ⟨R,3,none⟩ (.int .i64 fm.ty.kind)).setCell ⟨R,4,none⟩ (.string fm.ty.name)).setCell ⟨R,5,none⟩ (.slice p1 n1 c1)).setCell ⟨R,6,none⟩ (.slice ma1 mn1 mc1)).setCell ⟨R,7,none⟩ (.int .i64 tu.op)).setCell ⟨R,8,none⟩ (.string tu.name)).setCell ⟨R,9,none⟩ (.int .i64 tu.n)).setCell ⟨R,10,none⟩ (.int .i64 tu.ty.kind)).setCell ⟨R,11,none⟩ (.string tu.ty.name)).setCell ⟨R,12,none⟩ (.slice p2 n2 c2)).setCell ⟨R,13,none⟩ (.slice ma2 mn2 mc2)).setCell ⟨R,14,none⟩ (.map (some fB))).setCell ⟨R,15,none⟩ (.map (some tB))).setCell ⟨R,16,none⟩ (.int .i64 0)):=k17
   have B4:=Ld (r17 HR.out rfl:Blk (((((((((((((((((W.setCell ⟨R,0,none⟩ (.int .i64 fm.op)).setCell ⟨R,1,none⟩ (.string fm.name)).setCell ⟨R,2,none⟩ (.int .i64 fm.n)).setCell ⟨R,3,none⟩ (.int .i64 fm.ty.kind)).setCell ⟨R,4,none⟩ (.string fm.ty.name)).setCell ⟨R,5,none⟩ (.slice p1 n1 c1)).setCell ⟨R,6,none⟩ (.slice ma1 mn1 mc1)).setCell ⟨R,7,none⟩ (.int .i64 tu.op)).setCell ⟨R,8,none⟩ (.string tu.name)).setCell ⟨R,9,none⟩ (.int .i64 tu.n)).setCell ⟨R,10,none⟩ (.int .i64 tu.ty.kind)).setCell ⟨R,11,none⟩ (.string tu.ty.name)).setCell ⟨R,12,none⟩ (.slice p2 n2 c2)).setCell ⟨R,13,none⟩ (.slice ma2 mn2 mc2)).setCell ⟨R,14,none⟩ (.map (some fB))).setCell ⟨R,15,none⟩ (.map (some tB))).setCell ⟨R,16,none⟩ (.int .i64 0)) R 87 (rpCells fm tu (.slice p1 n1 c1) (.slice ma1 mn1 mc1) (.slice p2 n2 c2) (.slice ma2 mn2 mc2) fB tB ((0:Nat):Int)))
   have S4:=Ld (S3.out.via K4 (fun q e=>by have:=LZ.out;have:=LS.out;omega))
   have HMF4:=Ld (HMF.out.kept K4 (fun e=>LZ.out.2.2.2.1 e))
   have HMT4:=Ld (HMT.out.kept K4 (fun e=>LZ.out.2.2.2.2 e))
   clear gZ fZ lZ HMF HMT HR S3 K4
   generalize (((((((((((((((((W.setCell ⟨R,0,none⟩ (.int .i64 fm.op)).setCell ⟨R,1,none⟩ (.string fm.name)).setCell ⟨R,2,none⟩ (.int .i64 fm.n)).setCell ⟨R,3,none⟩ (.int .i64 fm.ty.kind)).setCell ⟨R,4,none⟩ (.string fm.ty.name)).setCell ⟨R,5,none⟩ (.slice p1 n1 c1)).setCell ⟨R,6,none⟩ (.slice ma1 mn1 mc1)).setCell ⟨R,7,none⟩ (.int .i64 tu.op)).setCell ⟨R,8,none⟩ (.string tu.name)).setCell ⟨R,9,none⟩ (.int .i64 tu.n)).setCell ⟨R,10,none⟩ (.int .i64 tu.ty.kind)).setCell ⟨R,11,none⟩ (.string tu.ty.name)).setCell ⟨R,12,none⟩ (.slice p2 n2 c2)).setCell ⟨R,13,none⟩ (.slice ma2 mn2 mc2)).setCell ⟨R,14,none⟩ (.map (some fB))).setCell ⟨R,15,none⟩ (.map (some tB))).setCell ⟨R,16,none⟩ (.int .i64 0))=w4 at *
   obtain⟨b,hb⟩:∃ b,b=w4.heap.size:=⟨_,rfl⟩
   have M5:=Ld (MapF.made w4)
   have K5:Hid (Kept (fun _=>False) w4 (w4.alloc (.map #[] 0))):=Ld (kR.alloc _)
   rw[← hb] at M5
   have S5:=Ld (S4.out.kept K5.out)
   have LB:Hid (R<b∧fB<b∧tB<b):=Ld ⟨by rw[hb];exact B4.out.lt,by rw[hb];exact HMF4.out.lt,by rw[hb];exact HMT4.out.lt⟩
   have HE:Hid (WkE fm tu (fun q=>q<w.heap.size) (fun q=>q<w.heap.size) (.slice p1 n1 c1) (.slice ma1 mn1 mc1) (.slice p2 n2 c2) (.slice ma2 mn2 mc2) R fB tB b (tmN fm) (tmN tu) (w4.alloc (.map #[] 0))):=Ld (by
    have q:=HM.out _ S5.out.1
    have lb:=LB.out
    have lz:=LZ.out
    have ls:=LS.out
    exact⟨HO3.out.2.1.nw,HO3.out.2.2.1,by have:=HO3.out;omega,q.2.2.1,q.2.2.2.1,q.2.2.2.2.1,q.2.2.2.2.2,HMF4.out.kept K5.out (fun e=>e),HMT4.out.kept K5.out (fun e=>e),⟨by omega,by omega,lz.2.2.2.1,by omega,lz.2.2.2.2⟩,fun q hq=>by omega,fun q hq=>by omega,fun W' k'=>HP.out W' (S5.out.1.via1 k' (fun x hx e=>by rcases e with e | e <;> omega))⟩)
   have HW:=Ld (wk_any (tmD t) t fm tu (fun _=>0) (w4.alloc (.map #[] 0)) (fun q=>q<w.heap.size) _ _ _ _ _ _ _ _ R fB tB b _ _ 0 0 HO3.out.1 (Nat.le_refl _) (by have:=HO3.out;omega) (by have:=HO3.out;omega) (HM.out _ S5.out.1).1 (HM.out _ S5.out.1).2.1 (fun q hq=>by have:=LB.out;have:=LZ.out;have:=LS.out;omega) HE.out (B4.out.kept K5.out (fun e=>e)) ⟨_,M5.out,cnt_none⟩ (by have:=HO3.out;omega) (fun s=>by have:=HO3.out;omega) (by have:=HO3.out;omega))
   have HEQ:Hid (wkT fm tu (tmD t) (fun _=>0) t=rpO t fm tu∧wkN fm (fun _=>0) t=cntT fm (fr fm) t):=Ld (by unfold wkT wkN;rw[cgB_zero];exact⟨rfl,rfl⟩)
   rw[HEQ.out.1,HEQ.out.2] at HW
   generalize rpO t fm tu=r at *
   generalize cntT fm (fr fm) t=d at *
   unfold WkP tmVal at HW
   clear M5 HE HEQ HMF4 HMT4 B4 HM HP
   have hmm:=@run_makeMap Tryz.prog
   have gT:=S4.out.2.2.1.cell
   rw[hb] at HW
   go_wp2_with fail
   clear gT
   refine HW.out.mono ?_
   rw[← hb]
   rintro e w6 ⟨tk,kk,rfl,hty,htm,k6,_,b6⟩
   obtain⟨pa,pn,pc,rfl⟩:=hty.slice
   obtain⟨qa,qn,qc,rfl⟩:=htm.slice
   have LZ5:Hid (w.heap.size+4≤(w4.alloc (.map #[] 0)).heap.size∧w.heap.size+4≤R∧w.heap.size+4≤b):=Ld (by have h1:=S5.out.2.1;have h2:=LB.out;have h3:=LZ.out;have h4:=LS.out;omega)
   have S6:=Ld (S5.out.via k6 (fun q e=>by have:=LZ5.out;rcases e with e | e <;> omega))
   have B6:=Ld b6
   obtain⟨⟨s1,e1⟩,hrr⟩:∃ x:Tm×Int,x=if validB r then (r,0) else (tm0,5):=⟨_,rfl⟩
   have HCK:=Ld (checked_any (t:=r) (rr:=(s1,e1)) (Ld hrr) (B:=w.heap.size+4) S6.out.2.1 (hty.mono (fun q hq h=>⟨Nat.le_trans LZ5.out.1 h,hq⟩)) (htm.mono (fun q hq h=>⟨Nat.le_trans LZ5.out.1 h,hq⟩)) (ok_smt HOUT.out))
   have HC:Hid ((e1=0∧s1=r∧validB r=true)∨(e1=5∧s1=tm0∧validB r=false)):=Ld (by
    cases hv:validB r
    ·rw[hv] at hrr;cases hrr;exact Or.inr ⟨rfl,rfl,rfl⟩
    ·rw[hv] at hrr;simp only[if_true] at hrr;cases hrr;exact Or.inl ⟨rfl,rfl,rfl⟩)
   have LQ:Hid (w.heap.size+4≤w6.heap.size∧w.heap.size+4≤R):=Ld ⟨S6.out.2.1,LZ5.out.2.1⟩
   unfold TmB tmVal at HCK
   clear hty htm k6 b6 HW S4 S5 hmm hb LB LZ LS hrr LZ5 HOUT HO3 HV3 K5
   go_wp2_with fail
   refine HCK.out.mono ?_
   rintro e w7 ⟨tk,kk,rfl,hty,htm,k7⟩
   have hty:TyL (fun k=>w.heap.size+4≤k) w7 s1.ty.kids tk:=hty
   have htm:TmL (fun k=>w.heap.size+4≤k) w7 s1.kids kk:=htm
   obtain⟨x1,x2,x3,rfl⟩:=hty.slice
   obtain⟨y1,y2,y3,rfl⟩:=htm.slice
   have S7:=Ld (S6.out.kept k7)
   have B7:=Ld (B6.out.kept k7 (fun e=>e))
   have T7:=Ld hty
   have M7:=Ld htm
   have LP:Hid (w.heap.size+4≤w7.heap.size):=Ld S7.out.2.1
   clear hty htm k7 HCK S6 B6
   go_upto_region 5 with (fail)
   have K8:Kept (fun _=>False) w7 (w7.alloc (.cells #[.int .i64 s1.op,.string s1.name,.int .i64 s1.n,.int .i64 s1.ty.kind,.string s1.ty.name,.slice x1 x2 x3,.slice y1 y2 y3] 27)):=kR.alloc _
   have S8:=Ld (S7.out.kept K8)
   have B8:=Ld (B7.out.kept K8 (fun e=>e))
   have T8:=Ld (T7.out.frame (sK K8))
   have M8:=Ld (M7.out.frame (sK K8))
   have BP:=Ld (Blk.new w7 27 [Value.int .i64 s1.op,.string s1.name,.int .i64 s1.n,.int .i64 s1.ty.kind,.string s1.ty.name,.slice x1 x2 x3,.slice y1 y2 y3])
   change Hid (Blk (w7.alloc (.cells #[.int .i64 s1.op,.string s1.name,.int .i64 s1.n,.int .i64 s1.ty.kind,.string s1.ty.name,.slice x1 x2 x3,.slice y1 y2 y3] 27)) _ _ _) at BP
   clear S7 B7 T7 M7 K8
   generalize w7.alloc (.cells #[.int .i64 s1.op,.string s1.name,.int .i64 s1.n,.int .i64 s1.ty.kind,.string s1.ty.name,.slice x1 x2 x3,.slice y1 y2 y3] 27)=w8 at *
   generalize w7.heap.size=P at *
   have lR:=S8.out.2.2.2.2.2.lt
   have gR:∀ i,w8.cell? ⟨w.heap.size+3,i,none⟩=[Value.int .i64 0,.string ⟨#[]⟩,.int .i64 0,.int .i64 0,.string ⟨#[]⟩,.slice none 0 0,.slice none 0 0][i]?:=S8.out.2.2.2.2.2.cell
   have fR:=S8.out.2.2.2.2.2.frozen
   rcases HC.out with ⟨rfl,rfl,hv⟩ | ⟨rfl,rfl,hv⟩
   ·have HQ2:Hid (rplR t fm tu=(s1,d,0)):=Ld (by rw[HQ.out,hv];rfl)
    have b0:w8.cell? ⟨P,0,none⟩=some (.int .i64 s1.op):=BP.out.cell 0
    have b1:w8.cell? ⟨P,1,none⟩=some (.string s1.name):=BP.out.cell 1
    have b2:w8.cell? ⟨P,2,none⟩=some (.int .i64 s1.n):=BP.out.cell 2
    have b3:w8.cell? ⟨P,3,none⟩=some (.int .i64 s1.ty.kind):=BP.out.cell 3
    have b4:w8.cell? ⟨P,4,none⟩=some (.string s1.ty.name):=BP.out.cell 4
    have b5:w8.cell? ⟨P,5,none⟩=some (.slice x1 x2 x3):=BP.out.cell 5
    have b6:w8.cell? ⟨P,6,none⟩=some (.slice y1 y2 y3):=BP.out.cell 6
    have bc:w8.cell? ⟨R,16,none⟩=some (.int .i64 (d:Int)):=by have h:=B8.out.cell 16;rw[Nat.zero_add] at h;exact h
    have nR:R≠w.heap.size+3:=by have:=LQ.out;omega
    have nR2:w.heap.size+3≠R:=by have:=LQ.out;omega
    have nP:P≠w.heap.size+3:=by have:=LP.out;omega
    have nP2:w.heap.size+3≠P:=by have:=LP.out;omega
    clear HC hv HQ
    go_upto_region 7 with (fail)
    go_cut [7,8] (fun v7 v8 wd=>v7=.int .i64 (d:Int)∧v8=.int .i64 0∧Kept (fun _=>False) w wd∧Blk wd (w.heap.size+3) 27 [Value.int .i64 s1.op,.string s1.name,.int .i64 s1.n,.int .i64 s1.ty.kind,.string s1.ty.name,.slice x1 x2 x3,.slice y1 y2 y3]∧TyL (fun k=>w.heap.size+4≤k) wd s1.ty.kids (.slice x1 x2 x3)∧TmL (fun k=>w.heap.size+4≤k) wd s1.kids (.slice y1 y2 y3))
    case first=>
     go_region_law (fail)
     all_goals
      clear b0 b1 b2 b3 b4 b5 b6 bc gR
      go_wp2_with fail
      go_meet
      case rel=>exact⟨rfl,rfl,(St4.fin S8.out rfl).1,(St4.fin S8.out rfl).2.1,(St4.fin S8.out rfl).2.2.1 _ _ T8.out,(St4.fin S8.out rfl).2.2.2 _ _ M8.out⟩
    case rest=>
     obtain⟨rfl,rfl,hK,hB,hT,hM⟩:=hcut
     clear b0 b1 b2 b3 b4 b5 b6 bc gR
     have HW:Hid (Kept (fun _=>False) w wc∧Blk wc (w.heap.size+3) 27 [Value.int .i64 s1.op,.string s1.name,.int .i64 s1.n,.int .i64 s1.ty.kind,.string s1.ty.name,.slice x1 x2 x3,.slice y1 y2 y3]∧TyL (fun k=>w.heap.size+4≤k) wc s1.ty.kids (.slice x1 x2 x3)∧TmL (fun k=>w.heap.size+4≤k) wc s1.kids (.slice y1 y2 y3)):=Ld ⟨hK,hB,hT,hM⟩
     clear hK hB hT hM
     go_wp2_with fail
     exact bodyPost_ret (results_ctt Tryz.results23 rfl (load_tm (t:=s1) HW.out.2.1)) rfl ⟨_,_,by rw[HQ2.out];rfl,by rw[HQ2.out];exact HW.out.2.2.1.mono (fun q _ hq=>by omega),by rw[HQ2.out];exact HW.out.2.2.2.mono (fun q _ hq=>by omega),HW.out.1⟩
   ·have HQ2:Hid (rplR t fm tu=(tm0,0,5)):=Ld (by rw[HQ.out,hv];rfl)
    clear HC hv HQ
    go_wp2_with fail
    exact bodyPost_ret (results_ctt Tryz.results23 rfl (load_tm (t:=tm0) (r7 S8.out.2.2.2.2.2 rfl))) rfl ⟨_,_,by rw[HQ2.out];rfl,by rw[HQ2.out];exact .nil (Or.inl rfl),by rw[HQ2.out];exact .nil (Or.inl rfl),k7w S8.out.1 (Or.inr (by omega))⟩
theorem rn_any {a c:Tm} {nm:ByteArray} {w:World} {tk kk tk2 kk2:Value} (hgl:Gl w) (hp:P10 w) (h1:TyL (fun _=>True) w a.ty.kids tk) (h2:TmL (fun _=>True) w a.kids kk) (ha:SmTm big a) (hnm:nm.size≤maxLen) (h3:TyL (fun _=>True) w c.ty.kids tk2) (h4:TmL (fun _=>True) w c.kids kk2) (hc:SmTm big c):
  Calls Tryz.prog 6 #[tmVal a tk kk,.string nm,tmVal c tk2 kk2] w (EsOk w):=by
 obtain⟨p0,n0,c0,rfl⟩:=h1.slice
 obtain⟨ma0,mn0,mc0,rfl⟩:=h2.slice
 obtain⟨p2,n2,c2,rfl⟩:=h3.slice
 obtain⟨ma2,mn2,mc2,rfl⟩:=h4.slice
 have H15:=Ld (fun W (k:Kept (fun _=>False) w W)=>awake_any W (hgl.kept k (fun h=>h) (fun h=>h)))
 have HSM:Hid (SmTm big a∧SmTm big c):=Ld ⟨ha,hc⟩
 have HNM:=Ld hnm
 have HN1:=Ld (fun (b:Bool) (h:namedB nm=b)=>rnamed_t h (by unfold maxLen at hnm;omega))
 have K0:Kept (fun _=>False) w ((w.alloc (.cells #[.int .i64 a.op,.string a.name,.int .i64 a.n,.int .i64 a.ty.kind,.string a.ty.name,.slice p0 n0 c0,.slice ma0 mn0 mc0] 27)).alloc (.cells #[.int .i64 c.op,.string c.name,.int .i64 c.n,.int .i64 c.ty.kind,.string c.ty.name,.slice p2 n2 c2,.slice ma2 mn2 mc2] 27)):=(kR.alloc _).alloc _
 have B0:Hid (Blk ((w.alloc (.cells #[.int .i64 a.op,.string a.name,.int .i64 a.n,.int .i64 a.ty.kind,.string a.ty.name,.slice p0 n0 c0,.slice ma0 mn0 mc0] 27)).alloc (.cells #[.int .i64 c.op,.string c.name,.int .i64 c.n,.int .i64 c.ty.kind,.string c.ty.name,.slice p2 n2 c2,.slice ma2 mn2 mc2] 27)) w.heap.size 27 [Value.int .i64 a.op,.string a.name,.int .i64 a.n,.int .i64 a.ty.kind,.string a.ty.name,.slice p0 n0 c0,.slice ma0 mn0 mc0]∧Blk ((w.alloc (.cells #[.int .i64 a.op,.string a.name,.int .i64 a.n,.int .i64 a.ty.kind,.string a.ty.name,.slice p0 n0 c0,.slice ma0 mn0 mc0] 27)).alloc (.cells #[.int .i64 c.op,.string c.name,.int .i64 c.n,.int .i64 c.ty.kind,.string c.ty.name,.slice p2 n2 c2,.slice ma2 mn2 mc2] 27)) (w.heap.size+1) 27 [Value.int .i64 c.op,.string c.name,.int .i64 c.n,.int .i64 c.ty.kind,.string c.ty.name,.slice p2 n2 c2,.slice ma2 mn2 mc2]∧Kept (fun _=>False) w ((w.alloc (.cells #[.int .i64 a.op,.string a.name,.int .i64 a.n,.int .i64 a.ty.kind,.string a.ty.name,.slice p0 n0 c0,.slice ma0 mn0 mc0] 27)).alloc (.cells #[.int .i64 c.op,.string c.name,.int .i64 c.n,.int .i64 c.ty.kind,.string c.ty.name,.slice p2 n2 c2,.slice ma2 mn2 mc2] 27))∧P10 ((w.alloc (.cells #[.int .i64 a.op,.string a.name,.int .i64 a.n,.int .i64 a.ty.kind,.string a.ty.name,.slice p0 n0 c0,.slice ma0 mn0 mc0] 27)).alloc (.cells #[.int .i64 c.op,.string c.name,.int .i64 c.n,.int .i64 c.ty.kind,.string c.ty.name,.slice p2 n2 c2,.slice ma2 mn2 mc2] 27))∧TyL (fun _=>True) ((w.alloc (.cells #[.int .i64 a.op,.string a.name,.int .i64 a.n,.int .i64 a.ty.kind,.string a.ty.name,.slice p0 n0 c0,.slice ma0 mn0 mc0] 27)).alloc (.cells #[.int .i64 c.op,.string c.name,.int .i64 c.n,.int .i64 c.ty.kind,.string c.ty.name,.slice p2 n2 c2,.slice ma2 mn2 mc2] 27)) a.ty.kids (.slice p0 n0 c0)∧TmL (fun _=>True) ((w.alloc (.cells #[.int .i64 a.op,.string a.name,.int .i64 a.n,.int .i64 a.ty.kind,.string a.ty.name,.slice p0 n0 c0,.slice ma0 mn0 mc0] 27)).alloc (.cells #[.int .i64 c.op,.string c.name,.int .i64 c.n,.int .i64 c.ty.kind,.string c.ty.name,.slice p2 n2 c2,.slice ma2 mn2 mc2] 27)) a.kids (.slice ma0 mn0 mc0)∧TyL (fun _=>True) ((w.alloc (.cells #[.int .i64 a.op,.string a.name,.int .i64 a.n,.int .i64 a.ty.kind,.string a.ty.name,.slice p0 n0 c0,.slice ma0 mn0 mc0] 27)).alloc (.cells #[.int .i64 c.op,.string c.name,.int .i64 c.n,.int .i64 c.ty.kind,.string c.ty.name,.slice p2 n2 c2,.slice ma2 mn2 mc2] 27)) c.ty.kids (.slice p2 n2 c2)∧TmL (fun _=>True) ((w.alloc (.cells #[.int .i64 a.op,.string a.name,.int .i64 a.n,.int .i64 a.ty.kind,.string a.ty.name,.slice p0 n0 c0,.slice ma0 mn0 mc0] 27)).alloc (.cells #[.int .i64 c.op,.string c.name,.int .i64 c.n,.int .i64 c.ty.kind,.string c.ty.name,.slice p2 n2 c2,.slice ma2 mn2 mc2] 27)) c.kids (.slice ma2 mn2 mc2)):=Ld ⟨(Blk.new w 27 _).alloc _,Blk.new' 27 _ (by simp),K0,hp.kept K0,(h1.frame (sK K0)),(h2.frame (sK K0)),(h3.frame (sK K0)),(h4.frame (sK K0))⟩
 clear h1 h2 h3 h4 ha hc hgl hp K0 hnm
 unfold tmVal
 go_enter Tryz.func6,Tryz.ntmps6
 go_upto_region 1 with (fail)
 generalize ((w.alloc (.cells #[.int .i64 a.op,.string a.name,.int .i64 a.n,.int .i64 a.ty.kind,.string a.ty.name,.slice p0 n0 c0,.slice ma0 mn0 mc0] 27)).alloc (.cells #[.int .i64 c.op,.string c.name,.int .i64 c.n,.int .i64 c.ty.kind,.string c.ty.name,.slice p2 n2 c2,.slice ma2 mn2 mc2] 27))=w1 at *
 cases hn:namedB nm
 case false=>
  have HNN:=Ld (HN1.out false hn w1)
  have K1:=Ld B0.out.2.2.1
  clear hn HN1 B0 HSM HNM
  go_wp2_with fail
  refine HNN.out.mono ?_
  rintro e w3 ⟨rfl,k3⟩
  have K3:=Ld (K1.out.trans k3)
  clear k3 K1 HNN
  go_wp2_with fail
  refine (H15.out w3 K3.out).mono ?_
  rintro e w99 ⟨rfl,k99⟩
  have HK99:=Ld (K3.out.trans k99)
  clear k99
  go_wp2_with fail
  go_ret
  exact⟨rfl,HK99.out⟩
 case true=>
  have HNN:=Ld (HN1.out true hn w1)
  have HPL:=Ld (rn_plain (t:=a) (tu:=c) hn)
  have HOX:Hid (SmTm big (nameT nm)):=Ld (ok_smt (nameT_ok hn))
  clear hn HN1
  go_wp2_with fail
  refine HNN.out.mono ?_
  rintro e w2 ⟨rfl,k⟩
  have B1:Hid (Blk w2 w.heap.size 27 [Value.int .i64 a.op,.string a.name,.int .i64 a.n,.int .i64 a.ty.kind,.string a.ty.name,.slice p0 n0 c0,.slice ma0 mn0 mc0]∧Blk w2 (w.heap.size+1) 27 [Value.int .i64 c.op,.string c.name,.int .i64 c.n,.int .i64 c.ty.kind,.string c.ty.name,.slice p2 n2 c2,.slice ma2 mn2 mc2]∧Kept (fun _=>False) w w2∧P10 w2∧TyL (fun _=>True) w2 a.ty.kids (.slice p0 n0 c0)∧TmL (fun _=>True) w2 a.kids (.slice ma0 mn0 mc0)∧TyL (fun _=>True) w2 c.ty.kids (.slice p2 n2 c2)∧TmL (fun _=>True) w2 c.kids (.slice ma2 mn2 mc2)):=Ld ⟨(B0.out.1).kept k (fun h=>h),(B0.out.2.1).kept k (fun h=>h),(B0.out.2.2.1).trans k,(B0.out.2.2.2.1).kept k,(B0.out.2.2.2.2.1).frame (sK k),(B0.out.2.2.2.2.2.1).frame (sK k),(B0.out.2.2.2.2.2.2.1).frame (sK k),(B0.out.2.2.2.2.2.2.2).frame (sK k)⟩
  clear k HNN B0
  go_upto_region 4 with (fail)
  have k:Kept (fun _=>False) w2 (w2.alloc (.cells #[.int .i64 20,.string nm,.int .i64 0,.int .i64 0,.string ⟨#[]⟩,.slice none 0 0,.slice none 0 0] 27)):=kR.alloc _
  have B2:Hid (Blk (w2.alloc (.cells #[.int .i64 20,.string nm,.int .i64 0,.int .i64 0,.string ⟨#[]⟩,.slice none 0 0,.slice none 0 0] 27)) w.heap.size 27 [Value.int .i64 a.op,.string a.name,.int .i64 a.n,.int .i64 a.ty.kind,.string a.ty.name,.slice p0 n0 c0,.slice ma0 mn0 mc0]∧Blk (w2.alloc (.cells #[.int .i64 20,.string nm,.int .i64 0,.int .i64 0,.string ⟨#[]⟩,.slice none 0 0,.slice none 0 0] 27)) (w.heap.size+1) 27 [Value.int .i64 c.op,.string c.name,.int .i64 c.n,.int .i64 c.ty.kind,.string c.ty.name,.slice p2 n2 c2,.slice ma2 mn2 mc2]∧Kept (fun _=>False) w (w2.alloc (.cells #[.int .i64 20,.string nm,.int .i64 0,.int .i64 0,.string ⟨#[]⟩,.slice none 0 0,.slice none 0 0] 27))∧P10 (w2.alloc (.cells #[.int .i64 20,.string nm,.int .i64 0,.int .i64 0,.string ⟨#[]⟩,.slice none 0 0,.slice none 0 0] 27))∧TyL (fun _=>True) (w2.alloc (.cells #[.int .i64 20,.string nm,.int .i64 0,.int .i64 0,.string ⟨#[]⟩,.slice none 0 0,.slice none 0 0] 27)) a.ty.kids (.slice p0 n0 c0)∧TmL (fun _=>True) (w2.alloc (.cells #[.int .i64 20,.string nm,.int .i64 0,.int .i64 0,.string ⟨#[]⟩,.slice none 0 0,.slice none 0 0] 27)) a.kids (.slice ma0 mn0 mc0)∧TyL (fun _=>True) (w2.alloc (.cells #[.int .i64 20,.string nm,.int .i64 0,.int .i64 0,.string ⟨#[]⟩,.slice none 0 0,.slice none 0 0] 27)) c.ty.kids (.slice p2 n2 c2)∧TmL (fun _=>True) (w2.alloc (.cells #[.int .i64 20,.string nm,.int .i64 0,.int .i64 0,.string ⟨#[]⟩,.slice none 0 0,.slice none 0 0] 27)) c.kids (.slice ma2 mn2 mc2)∧Blk (w2.alloc (.cells #[.int .i64 20,.string nm,.int .i64 0,.int .i64 0,.string ⟨#[]⟩,.slice none 0 0,.slice none 0 0] 27)) w2.heap.size 27 [Value.int .i64 20,.string nm,.int .i64 0,.int .i64 0,.string ⟨#[]⟩,.slice none 0 0,.slice none 0 0]):=Ld ⟨(B1.out.1).kept k (fun h=>h),(B1.out.2.1).kept k (fun h=>h),(B1.out.2.2.1).trans k,(B1.out.2.2.2.1).kept k,(B1.out.2.2.2.2.1).frame (sK k),(B1.out.2.2.2.2.2.1).frame (sK k),(B1.out.2.2.2.2.2.2.1).frame (sK k),(B1.out.2.2.2.2.2.2.2).frame (sK k),Blk.new w2 27 _⟩
  clear k B1
  generalize w2.alloc (.cells #[.int .i64 20,.string nm,.int .i64 0,.int .i64 0,.string ⟨#[]⟩,.slice none 0 0,.slice none 0 0] 27)=w3 at *
  generalize w2.heap.size=X at *
  have gA:∀ i,w3.cell? ⟨w.heap.size,i,none⟩=[Value.int .i64 a.op,.string a.name,.int .i64 a.n,.int .i64 a.ty.kind,.string a.ty.name,.slice p0 n0 c0,.slice ma0 mn0 mc0][i]?:=(B2.out.1).cell
  have gX:∀ i,w3.cell? ⟨X,i,none⟩=[Value.int .i64 20,.string nm,.int .i64 0,.int .i64 0,.string ⟨#[]⟩,.slice none 0 0,.slice none 0 0][i]?:=(B2.out.2.2.2.2.2.2.2.2).cell
  have gC:∀ i,w3.cell? ⟨(w.heap.size+1),i,none⟩=[Value.int .i64 c.op,.string c.name,.int .i64 c.n,.int .i64 c.ty.kind,.string c.ty.name,.slice p2 n2 c2,.slice ma2 mn2 mc2][i]?:=(B2.out.2.1).cell
  have HR:=Ld (prd_any (okf:=fun _=>True) (t:=a) (fm:=nameT nm) (tu:=c) B2.out.2.2.2.2.1 B2.out.2.2.2.2.2.1 HSM.out.1 (.nil (Or.inl rfl)) (.nil (Or.inl rfl)) HOX.out B2.out.2.2.2.2.2.2.1 B2.out.2.2.2.2.2.2.2.1 HSM.out.2 B2.out.2.2.2.1)
  change Hid (Calls _ _ #[_,.agg #[.int .i64 20,.string nm,.int .i64 0,.int .i64 0,.string ⟨#[]⟩,.slice none 0 0,.slice none 0 0],_] _ _) at HR
  unfold TmB3 tmVal at HR
  have HOA:=Ld (rplR_ok a (nameT nm) c)
  obtain⟨r1,hr1⟩:∃ r1,r1=rplR a (nameT nm) c:=⟨_,rfl⟩
  rw[← hr1] at HR HOA HPL
  clear hr1
  obtain⟨s1,m1,e1⟩:=r1
  go_wp2_with fail
  clear gA gX gC
  refine HR.out.mono ?_
  rintro e w4 ⟨tc4,kc4,rfl,hty,htm,k⟩
  have hty:TyL _ w4 s1.ty.kids tc4:=hty
  have htm:TmL _ w4 s1.kids kc4:=htm
  obtain⟨p4,n4,c4,rfl⟩:=hty.slice
  obtain⟨ma4,mn4,mc4,rfl⟩:=htm.slice
  have B3:Hid (Blk w4 w.heap.size 27 [Value.int .i64 a.op,.string a.name,.int .i64 a.n,.int .i64 a.ty.kind,.string a.ty.name,.slice p0 n0 c0,.slice ma0 mn0 mc0]∧Blk w4 (w.heap.size+1) 27 [Value.int .i64 c.op,.string c.name,.int .i64 c.n,.int .i64 c.ty.kind,.string c.ty.name,.slice p2 n2 c2,.slice ma2 mn2 mc2]∧Kept (fun _=>False) w w4∧P10 w4∧TyL (fun _=>True) w4 a.ty.kids (.slice p0 n0 c0)∧TmL (fun _=>True) w4 a.kids (.slice ma0 mn0 mc0)∧TyL (fun _=>True) w4 c.ty.kids (.slice p2 n2 c2)∧TmL (fun _=>True) w4 c.kids (.slice ma2 mn2 mc2)∧Blk w4 X 27 [Value.int .i64 20,.string nm,.int .i64 0,.int .i64 0,.string ⟨#[]⟩,.slice none 0 0,.slice none 0 0]∧TyL (fun _=>True) w4 s1.ty.kids (.slice p4 n4 c4)∧TmL (fun _=>True) w4 s1.kids (.slice ma4 mn4 mc4)):=Ld ⟨(B2.out.1).kept k (fun h=>h),(B2.out.2.1).kept k (fun h=>h),(B2.out.2.2.1).trans k,(B2.out.2.2.2.1).kept k,(B2.out.2.2.2.2.1).frame (sK k),(B2.out.2.2.2.2.2.1).frame (sK k),(B2.out.2.2.2.2.2.2.1).frame (sK k),(B2.out.2.2.2.2.2.2.2.1).frame (sK k),(B2.out.2.2.2.2.2.2.2.2).kept k (fun h=>h),hty.mono (fun _ _ _=>trivial),htm.mono (fun _ _ _=>trivial)⟩
  clear hty htm k HR B2
  go_upto_region 5 with (fail)
  have k:Kept (fun _=>False) w4 (w4.alloc (.cells #[.int .i64 s1.op,.string s1.name,.int .i64 s1.n,.int .i64 s1.ty.kind,.string s1.ty.name,.slice p4 n4 c4,.slice ma4 mn4 mc4] 27)):=kR.alloc _
  have B4:Hid (Blk (w4.alloc (.cells #[.int .i64 s1.op,.string s1.name,.int .i64 s1.n,.int .i64 s1.ty.kind,.string s1.ty.name,.slice p4 n4 c4,.slice ma4 mn4 mc4] 27)) w.heap.size 27 [Value.int .i64 a.op,.string a.name,.int .i64 a.n,.int .i64 a.ty.kind,.string a.ty.name,.slice p0 n0 c0,.slice ma0 mn0 mc0]∧Blk (w4.alloc (.cells #[.int .i64 s1.op,.string s1.name,.int .i64 s1.n,.int .i64 s1.ty.kind,.string s1.ty.name,.slice p4 n4 c4,.slice ma4 mn4 mc4] 27)) (w.heap.size+1) 27 [Value.int .i64 c.op,.string c.name,.int .i64 c.n,.int .i64 c.ty.kind,.string c.ty.name,.slice p2 n2 c2,.slice ma2 mn2 mc2]∧Kept (fun _=>False) w (w4.alloc (.cells #[.int .i64 s1.op,.string s1.name,.int .i64 s1.n,.int .i64 s1.ty.kind,.string s1.ty.name,.slice p4 n4 c4,.slice ma4 mn4 mc4] 27))∧P10 (w4.alloc (.cells #[.int .i64 s1.op,.string s1.name,.int .i64 s1.n,.int .i64 s1.ty.kind,.string s1.ty.name,.slice p4 n4 c4,.slice ma4 mn4 mc4] 27))∧TyL (fun _=>True) (w4.alloc (.cells #[.int .i64 s1.op,.string s1.name,.int .i64 s1.n,.int .i64 s1.ty.kind,.string s1.ty.name,.slice p4 n4 c4,.slice ma4 mn4 mc4] 27)) a.ty.kids (.slice p0 n0 c0)∧TmL (fun _=>True) (w4.alloc (.cells #[.int .i64 s1.op,.string s1.name,.int .i64 s1.n,.int .i64 s1.ty.kind,.string s1.ty.name,.slice p4 n4 c4,.slice ma4 mn4 mc4] 27)) a.kids (.slice ma0 mn0 mc0)∧TyL (fun _=>True) (w4.alloc (.cells #[.int .i64 s1.op,.string s1.name,.int .i64 s1.n,.int .i64 s1.ty.kind,.string s1.ty.name,.slice p4 n4 c4,.slice ma4 mn4 mc4] 27)) c.ty.kids (.slice p2 n2 c2)∧TmL (fun _=>True) (w4.alloc (.cells #[.int .i64 s1.op,.string s1.name,.int .i64 s1.n,.int .i64 s1.ty.kind,.string s1.ty.name,.slice p4 n4 c4,.slice ma4 mn4 mc4] 27)) c.kids (.slice ma2 mn2 mc2)∧Blk (w4.alloc (.cells #[.int .i64 s1.op,.string s1.name,.int .i64 s1.n,.int .i64 s1.ty.kind,.string s1.ty.name,.slice p4 n4 c4,.slice ma4 mn4 mc4] 27)) X 27 [Value.int .i64 20,.string nm,.int .i64 0,.int .i64 0,.string ⟨#[]⟩,.slice none 0 0,.slice none 0 0]∧TyL (fun _=>True) (w4.alloc (.cells #[.int .i64 s1.op,.string s1.name,.int .i64 s1.n,.int .i64 s1.ty.kind,.string s1.ty.name,.slice p4 n4 c4,.slice ma4 mn4 mc4] 27)) s1.ty.kids (.slice p4 n4 c4)∧TmL (fun _=>True) (w4.alloc (.cells #[.int .i64 s1.op,.string s1.name,.int .i64 s1.n,.int .i64 s1.ty.kind,.string s1.ty.name,.slice p4 n4 c4,.slice ma4 mn4 mc4] 27)) s1.kids (.slice ma4 mn4 mc4)∧Blk (w4.alloc (.cells #[.int .i64 s1.op,.string s1.name,.int .i64 s1.n,.int .i64 s1.ty.kind,.string s1.ty.name,.slice p4 n4 c4,.slice ma4 mn4 mc4] 27)) w4.heap.size 27 [Value.int .i64 s1.op,.string s1.name,.int .i64 s1.n,.int .i64 s1.ty.kind,.string s1.ty.name,.slice p4 n4 c4,.slice ma4 mn4 mc4]):=Ld ⟨(B3.out.1).kept k (fun h=>h),(B3.out.2.1).kept k (fun h=>h),(B3.out.2.2.1).trans k,(B3.out.2.2.2.1).kept k,(B3.out.2.2.2.2.1).frame (sK k),(B3.out.2.2.2.2.2.1).frame (sK k),(B3.out.2.2.2.2.2.2.1).frame (sK k),(B3.out.2.2.2.2.2.2.2.1).frame (sK k),(B3.out.2.2.2.2.2.2.2.2.1).kept k (fun h=>h),(B3.out.2.2.2.2.2.2.2.2.2.1).frame (sK k),(B3.out.2.2.2.2.2.2.2.2.2.2).frame (sK k),Blk.new w4 27 _⟩
  clear k B3
  generalize w4.alloc (.cells #[.int .i64 s1.op,.string s1.name,.int .i64 s1.n,.int .i64 s1.ty.kind,.string s1.ty.name,.slice p4 n4 c4,.slice ma4 mn4 mc4] 27)=w5 at *
  generalize w4.heap.size=P at *
  have gA:∀ i,w5.cell? ⟨w.heap.size,i,none⟩=[Value.int .i64 a.op,.string a.name,.int .i64 a.n,.int .i64 a.ty.kind,.string a.ty.name,.slice p0 n0 c0,.slice ma0 mn0 mc0][i]?:=(B4.out.1).cell
  have gC:∀ i,w5.cell? ⟨(w.heap.size+1),i,none⟩=[Value.int .i64 c.op,.string c.name,.int .i64 c.n,.int .i64 c.ty.kind,.string c.ty.name,.slice p2 n2 c2,.slice ma2 mn2 mc2][i]?:=(B4.out.2.1).cell
  have HB:=Ld (Blk.new w5 38 (bCells ((nm,c),.slice p2 n2 c2,.slice ma2 mn2 mc2)))
  change Hid (Blk (w5.alloc (.cells #[.string nm,.int .i64 c.op,.string c.name,.int .i64 c.n,.int .i64 c.ty.kind,.string c.ty.name,.slice p2 n2 c2,.slice ma2 mn2 mc2] 38)) w5.heap.size _ _) at HB
  have k:Kept (fun _=>False) w5 (w5.alloc (.cells #[.string nm,.int .i64 c.op,.string c.name,.int .i64 c.n,.int .i64 c.ty.kind,.string c.ty.name,.slice p2 n2 c2,.slice ma2 mn2 mc2] 38)):=kR.alloc _
  have B5:Hid (Blk (w5.alloc (.cells #[.string nm,.int .i64 c.op,.string c.name,.int .i64 c.n,.int .i64 c.ty.kind,.string c.ty.name,.slice p2 n2 c2,.slice ma2 mn2 mc2] 38)) w.heap.size 27 [Value.int .i64 a.op,.string a.name,.int .i64 a.n,.int .i64 a.ty.kind,.string a.ty.name,.slice p0 n0 c0,.slice ma0 mn0 mc0]∧Blk (w5.alloc (.cells #[.string nm,.int .i64 c.op,.string c.name,.int .i64 c.n,.int .i64 c.ty.kind,.string c.ty.name,.slice p2 n2 c2,.slice ma2 mn2 mc2] 38)) (w.heap.size+1) 27 [Value.int .i64 c.op,.string c.name,.int .i64 c.n,.int .i64 c.ty.kind,.string c.ty.name,.slice p2 n2 c2,.slice ma2 mn2 mc2]∧Kept (fun _=>False) w (w5.alloc (.cells #[.string nm,.int .i64 c.op,.string c.name,.int .i64 c.n,.int .i64 c.ty.kind,.string c.ty.name,.slice p2 n2 c2,.slice ma2 mn2 mc2] 38))∧P10 (w5.alloc (.cells #[.string nm,.int .i64 c.op,.string c.name,.int .i64 c.n,.int .i64 c.ty.kind,.string c.ty.name,.slice p2 n2 c2,.slice ma2 mn2 mc2] 38))∧TyL (fun _=>True) (w5.alloc (.cells #[.string nm,.int .i64 c.op,.string c.name,.int .i64 c.n,.int .i64 c.ty.kind,.string c.ty.name,.slice p2 n2 c2,.slice ma2 mn2 mc2] 38)) a.ty.kids (.slice p0 n0 c0)∧TmL (fun _=>True) (w5.alloc (.cells #[.string nm,.int .i64 c.op,.string c.name,.int .i64 c.n,.int .i64 c.ty.kind,.string c.ty.name,.slice p2 n2 c2,.slice ma2 mn2 mc2] 38)) a.kids (.slice ma0 mn0 mc0)∧TyL (fun _=>True) (w5.alloc (.cells #[.string nm,.int .i64 c.op,.string c.name,.int .i64 c.n,.int .i64 c.ty.kind,.string c.ty.name,.slice p2 n2 c2,.slice ma2 mn2 mc2] 38)) c.ty.kids (.slice p2 n2 c2)∧TmL (fun _=>True) (w5.alloc (.cells #[.string nm,.int .i64 c.op,.string c.name,.int .i64 c.n,.int .i64 c.ty.kind,.string c.ty.name,.slice p2 n2 c2,.slice ma2 mn2 mc2] 38)) c.kids (.slice ma2 mn2 mc2)∧Blk (w5.alloc (.cells #[.string nm,.int .i64 c.op,.string c.name,.int .i64 c.n,.int .i64 c.ty.kind,.string c.ty.name,.slice p2 n2 c2,.slice ma2 mn2 mc2] 38)) X 27 [Value.int .i64 20,.string nm,.int .i64 0,.int .i64 0,.string ⟨#[]⟩,.slice none 0 0,.slice none 0 0]∧TyL (fun _=>True) (w5.alloc (.cells #[.string nm,.int .i64 c.op,.string c.name,.int .i64 c.n,.int .i64 c.ty.kind,.string c.ty.name,.slice p2 n2 c2,.slice ma2 mn2 mc2] 38)) s1.ty.kids (.slice p4 n4 c4)∧TmL (fun _=>True) (w5.alloc (.cells #[.string nm,.int .i64 c.op,.string c.name,.int .i64 c.n,.int .i64 c.ty.kind,.string c.ty.name,.slice p2 n2 c2,.slice ma2 mn2 mc2] 38)) s1.kids (.slice ma4 mn4 mc4)∧Blk (w5.alloc (.cells #[.string nm,.int .i64 c.op,.string c.name,.int .i64 c.n,.int .i64 c.ty.kind,.string c.ty.name,.slice p2 n2 c2,.slice ma2 mn2 mc2] 38)) P 27 [Value.int .i64 s1.op,.string s1.name,.int .i64 s1.n,.int .i64 s1.ty.kind,.string s1.ty.name,.slice p4 n4 c4,.slice ma4 mn4 mc4]):=Ld ⟨(B4.out.1).kept k (fun h=>h),(B4.out.2.1).kept k (fun h=>h),(B4.out.2.2.1).trans k,(B4.out.2.2.2.1).kept k,(B4.out.2.2.2.2.1).frame (sK k),(B4.out.2.2.2.2.2.1).frame (sK k),(B4.out.2.2.2.2.2.2.1).frame (sK k),(B4.out.2.2.2.2.2.2.2.1).frame (sK k),(B4.out.2.2.2.2.2.2.2.2.1).kept k (fun h=>h),(B4.out.2.2.2.2.2.2.2.2.2.1).frame (sK k),(B4.out.2.2.2.2.2.2.2.2.2.2.1).frame (sK k),(B4.out.2.2.2.2.2.2.2.2.2.2.2).kept k (fun h=>h)⟩
  clear k B4
  have HS:=Ld (sbst1_any (nm:=nm) HNM.out B5.out.2.2.2.2.1 B5.out.2.2.2.2.2.1 HSM.out.1 HB.out B5.out.2.2.2.2.2.2.1 B5.out.2.2.2.2.2.2.2.1 HSM.out.2 B5.out.2.2.2.1)
  change Hid (Calls _ _ _ (w5.alloc (.cells #[.string nm,.int .i64 c.op,.string c.name,.int .i64 c.n,.int .i64 c.ty.kind,.string c.ty.name,.slice p2 n2 c2,.slice ma2 mn2 mc2] 38)) (TmB (w5.alloc (.cells #[.string nm,.int .i64 c.op,.string c.name,.int .i64 c.n,.int .i64 c.ty.kind,.string c.ty.name,.slice p2 n2 c2,.slice ma2 mn2 mc2] 38)).heap.size (sbstR a [(nm,c)]) (w5.alloc (.cells #[.string nm,.int .i64 c.op,.string c.name,.int .i64 c.n,.int .i64 c.ty.kind,.string c.ty.name,.slice p2 n2 c2,.slice ma2 mn2 mc2] 38)))) at HS
  unfold tmVal at HS
  go_wp2_with fail
  clear gA HB gC
  refine HS.out.mono ?_
  generalize w5.alloc (.cells #[.string nm,.int .i64 c.op,.string c.name,.int .i64 c.n,.int .i64 c.ty.kind,.string c.ty.name,.slice p2 n2 c2,.slice ma2 mn2 mc2] 38)=w6 at *
  have HSO:Hid (SmTm big (sbstR a [(nm,c)]).1):=Ld (sbst_sm a c nm)
  obtain⟨r2,hr2⟩:∃ r,r=sbstR a [(nm,c)]:=⟨_,rfl⟩
  rw[← hr2]
  rw[← hr2] at HPL HSO
  clear hr2
  obtain⟨s2,e2⟩:=r2
  have hee:e1=e2:=HPL.out.1
  subst hee
  rintro e w7 ⟨tc,kc,rfl,hty,htm,k⟩
  have hty:TyL _ w7 s2.ty.kids tc:=hty
  have htm:TmL _ w7 s2.kids kc:=htm
  obtain⟨p5,n5,c5,rfl⟩:=hty.slice
  obtain⟨ma5,mn5,mc5,rfl⟩:=htm.slice
  have B6:Hid (Blk w7 w.heap.size 27 [Value.int .i64 a.op,.string a.name,.int .i64 a.n,.int .i64 a.ty.kind,.string a.ty.name,.slice p0 n0 c0,.slice ma0 mn0 mc0]∧Blk w7 (w.heap.size+1) 27 [Value.int .i64 c.op,.string c.name,.int .i64 c.n,.int .i64 c.ty.kind,.string c.ty.name,.slice p2 n2 c2,.slice ma2 mn2 mc2]∧Kept (fun _=>False) w w7∧P10 w7∧TyL (fun _=>True) w7 a.ty.kids (.slice p0 n0 c0)∧TmL (fun _=>True) w7 a.kids (.slice ma0 mn0 mc0)∧TyL (fun _=>True) w7 c.ty.kids (.slice p2 n2 c2)∧TmL (fun _=>True) w7 c.kids (.slice ma2 mn2 mc2)∧Blk w7 X 27 [Value.int .i64 20,.string nm,.int .i64 0,.int .i64 0,.string ⟨#[]⟩,.slice none 0 0,.slice none 0 0]∧TyL (fun _=>True) w7 s1.ty.kids (.slice p4 n4 c4)∧TmL (fun _=>True) w7 s1.kids (.slice ma4 mn4 mc4)∧Blk w7 P 27 [Value.int .i64 s1.op,.string s1.name,.int .i64 s1.n,.int .i64 s1.ty.kind,.string s1.ty.name,.slice p4 n4 c4,.slice ma4 mn4 mc4]∧TyL (fun _=>True) w7 s2.ty.kids (.slice p5 n5 c5)∧TmL (fun _=>True) w7 s2.kids (.slice ma5 mn5 mc5)):=Ld ⟨(B5.out.1).kept k (fun h=>h),(B5.out.2.1).kept k (fun h=>h),(B5.out.2.2.1).trans k,(B5.out.2.2.2.1).kept k,(B5.out.2.2.2.2.1).frame (sK k),(B5.out.2.2.2.2.2.1).frame (sK k),(B5.out.2.2.2.2.2.2.1).frame (sK k),(B5.out.2.2.2.2.2.2.2.1).frame (sK k),(B5.out.2.2.2.2.2.2.2.2.1).kept k (fun h=>h),(B5.out.2.2.2.2.2.2.2.2.2.1).frame (sK k),(B5.out.2.2.2.2.2.2.2.2.2.2.1).frame (sK k),(B5.out.2.2.2.2.2.2.2.2.2.2.2).kept k (fun h=>h),hty.mono (fun _ _ _=>trivial),htm.mono (fun _ _ _=>trivial)⟩
  clear hty htm k HS B5
  unfold tmVal
  go_upto_region 6 with (fail)
  have k:Kept (fun _=>False) w7 (w7.alloc (.cells #[.int .i64 s2.op,.string s2.name,.int .i64 s2.n,.int .i64 s2.ty.kind,.string s2.ty.name,.slice p5 n5 c5,.slice ma5 mn5 mc5] 27)):=kR.alloc _
  have B7:Hid (Blk (w7.alloc (.cells #[.int .i64 s2.op,.string s2.name,.int .i64 s2.n,.int .i64 s2.ty.kind,.string s2.ty.name,.slice p5 n5 c5,.slice ma5 mn5 mc5] 27)) w.heap.size 27 [Value.int .i64 a.op,.string a.name,.int .i64 a.n,.int .i64 a.ty.kind,.string a.ty.name,.slice p0 n0 c0,.slice ma0 mn0 mc0]∧Blk (w7.alloc (.cells #[.int .i64 s2.op,.string s2.name,.int .i64 s2.n,.int .i64 s2.ty.kind,.string s2.ty.name,.slice p5 n5 c5,.slice ma5 mn5 mc5] 27)) (w.heap.size+1) 27 [Value.int .i64 c.op,.string c.name,.int .i64 c.n,.int .i64 c.ty.kind,.string c.ty.name,.slice p2 n2 c2,.slice ma2 mn2 mc2]∧Kept (fun _=>False) w (w7.alloc (.cells #[.int .i64 s2.op,.string s2.name,.int .i64 s2.n,.int .i64 s2.ty.kind,.string s2.ty.name,.slice p5 n5 c5,.slice ma5 mn5 mc5] 27))∧P10 (w7.alloc (.cells #[.int .i64 s2.op,.string s2.name,.int .i64 s2.n,.int .i64 s2.ty.kind,.string s2.ty.name,.slice p5 n5 c5,.slice ma5 mn5 mc5] 27))∧TyL (fun _=>True) (w7.alloc (.cells #[.int .i64 s2.op,.string s2.name,.int .i64 s2.n,.int .i64 s2.ty.kind,.string s2.ty.name,.slice p5 n5 c5,.slice ma5 mn5 mc5] 27)) a.ty.kids (.slice p0 n0 c0)∧TmL (fun _=>True) (w7.alloc (.cells #[.int .i64 s2.op,.string s2.name,.int .i64 s2.n,.int .i64 s2.ty.kind,.string s2.ty.name,.slice p5 n5 c5,.slice ma5 mn5 mc5] 27)) a.kids (.slice ma0 mn0 mc0)∧TyL (fun _=>True) (w7.alloc (.cells #[.int .i64 s2.op,.string s2.name,.int .i64 s2.n,.int .i64 s2.ty.kind,.string s2.ty.name,.slice p5 n5 c5,.slice ma5 mn5 mc5] 27)) c.ty.kids (.slice p2 n2 c2)∧TmL (fun _=>True) (w7.alloc (.cells #[.int .i64 s2.op,.string s2.name,.int .i64 s2.n,.int .i64 s2.ty.kind,.string s2.ty.name,.slice p5 n5 c5,.slice ma5 mn5 mc5] 27)) c.kids (.slice ma2 mn2 mc2)∧Blk (w7.alloc (.cells #[.int .i64 s2.op,.string s2.name,.int .i64 s2.n,.int .i64 s2.ty.kind,.string s2.ty.name,.slice p5 n5 c5,.slice ma5 mn5 mc5] 27)) X 27 [Value.int .i64 20,.string nm,.int .i64 0,.int .i64 0,.string ⟨#[]⟩,.slice none 0 0,.slice none 0 0]∧TyL (fun _=>True) (w7.alloc (.cells #[.int .i64 s2.op,.string s2.name,.int .i64 s2.n,.int .i64 s2.ty.kind,.string s2.ty.name,.slice p5 n5 c5,.slice ma5 mn5 mc5] 27)) s1.ty.kids (.slice p4 n4 c4)∧TmL (fun _=>True) (w7.alloc (.cells #[.int .i64 s2.op,.string s2.name,.int .i64 s2.n,.int .i64 s2.ty.kind,.string s2.ty.name,.slice p5 n5 c5,.slice ma5 mn5 mc5] 27)) s1.kids (.slice ma4 mn4 mc4)∧Blk (w7.alloc (.cells #[.int .i64 s2.op,.string s2.name,.int .i64 s2.n,.int .i64 s2.ty.kind,.string s2.ty.name,.slice p5 n5 c5,.slice ma5 mn5 mc5] 27)) P 27 [Value.int .i64 s1.op,.string s1.name,.int .i64 s1.n,.int .i64 s1.ty.kind,.string s1.ty.name,.slice p4 n4 c4,.slice ma4 mn4 mc4]∧TyL (fun _=>True) (w7.alloc (.cells #[.int .i64 s2.op,.string s2.name,.int .i64 s2.n,.int .i64 s2.ty.kind,.string s2.ty.name,.slice p5 n5 c5,.slice ma5 mn5 mc5] 27)) s2.ty.kids (.slice p5 n5 c5)∧TmL (fun _=>True) (w7.alloc (.cells #[.int .i64 s2.op,.string s2.name,.int .i64 s2.n,.int .i64 s2.ty.kind,.string s2.ty.name,.slice p5 n5 c5,.slice ma5 mn5 mc5] 27)) s2.kids (.slice ma5 mn5 mc5)∧Blk (w7.alloc (.cells #[.int .i64 s2.op,.string s2.name,.int .i64 s2.n,.int .i64 s2.ty.kind,.string s2.ty.name,.slice p5 n5 c5,.slice ma5 mn5 mc5] 27)) w7.heap.size 27 [Value.int .i64 s2.op,.string s2.name,.int .i64 s2.n,.int .i64 s2.ty.kind,.string s2.ty.name,.slice p5 n5 c5,.slice ma5 mn5 mc5]):=Ld ⟨(B6.out.1).kept k (fun h=>h),(B6.out.2.1).kept k (fun h=>h),(B6.out.2.2.1).trans k,(B6.out.2.2.2.1).kept k,(B6.out.2.2.2.2.1).frame (sK k),(B6.out.2.2.2.2.2.1).frame (sK k),(B6.out.2.2.2.2.2.2.1).frame (sK k),(B6.out.2.2.2.2.2.2.2.1).frame (sK k),(B6.out.2.2.2.2.2.2.2.2.1).kept k (fun h=>h),(B6.out.2.2.2.2.2.2.2.2.2.1).frame (sK k),(B6.out.2.2.2.2.2.2.2.2.2.2.1).frame (sK k),(B6.out.2.2.2.2.2.2.2.2.2.2.2.1).kept k (fun h=>h),(B6.out.2.2.2.2.2.2.2.2.2.2.2.2.1).frame (sK k),(B6.out.2.2.2.2.2.2.2.2.2.2.2.2.2).frame (sK k),Blk.new w7 27 _⟩
  clear k B6
  generalize w7.alloc (.cells #[.int .i64 s2.op,.string s2.name,.int .i64 s2.n,.int .i64 s2.ty.kind,.string s2.ty.name,.slice p5 n5 c5,.slice ma5 mn5 mc5] 27)=w8 at *
  generalize w7.heap.size=Q at *
  have HP2:Hid ((e1≠0→m1=0)∧(e1=0→validB a=true∧alB s1 s2=true∧decide (0<m1)=mb nm (fr a))):=Ld ⟨HPL.out.2.1,fun h=>⟨(HPL.out.2.2 h).1,(HPL.out.2.2 h).2.2.1,(HPL.out.2.2 h).2.2.2⟩⟩
  have HSS:Hid (SmTm big a∧SmTm big s1∧SmTm big s2):=Ld ⟨HSM.out.1,HOA.out.2.1,HSO.out⟩
  clear HPL HSM HOA HSO HOX HNM
  by_cases he:e1=0
  case neg=>
   have hm:=HP2.out.1 he
   subst hm
   have KZ:=Ld B7.out.2.2.1
   have i1:(e1==0)=false:=by simpa using he
   clear HP2 HSS B7
   go_wp2_with fail
   refine (H15.out w8 KZ.out).mono ?_
   rintro e w99 ⟨rfl,k99⟩
   have HK99:=Ld (KZ.out.trans k99)
   clear k99
   go_wp2_with fail
   go_ret
   exact⟨rfl,HK99.out⟩
  case pos=>
   subst he
   have HP3:=Ld (HP2.out.2 rfl)
   clear HP2
   have gP:∀ i,w8.cell? ⟨P,i,none⟩=[Value.int .i64 s1.op,.string s1.name,.int .i64 s1.n,.int .i64 s1.ty.kind,.string s1.ty.name,.slice p4 n4 c4,.slice ma4 mn4 mc4][i]?:=(B7.out.2.2.2.2.2.2.2.2.2.2.2.1).cell
   have gQ:∀ i,w8.cell? ⟨Q,i,none⟩=[Value.int .i64 s2.op,.string s2.name,.int .i64 s2.n,.int .i64 s2.ty.kind,.string s2.ty.name,.slice p5 n5 c5,.slice ma5 mn5 mc5][i]?:=(B7.out.2.2.2.2.2.2.2.2.2.2.2.2.2.2).cell
   have HA:=Ld (ralikes_any B7.out.2.2.2.2.2.2.2.2.2.1 B7.out.2.2.2.2.2.2.2.2.2.2.1 B7.out.2.2.2.2.2.2.2.2.2.2.2.2.1 B7.out.2.2.2.2.2.2.2.2.2.2.2.2.2.1 HSS.out.2.1 HSS.out.2.2)
   rw[HP3.out.2.1] at HA
   unfold tmVal at HA
   go_wp2_with fail
   clear gP gQ
   refine HA.out.mono ?_
   rintro e w9 ⟨rfl,k⟩
   have B8:Hid (Blk w9 w.heap.size 27 [Value.int .i64 a.op,.string a.name,.int .i64 a.n,.int .i64 a.ty.kind,.string a.ty.name,.slice p0 n0 c0,.slice ma0 mn0 mc0]∧Blk w9 (w.heap.size+1) 27 [Value.int .i64 c.op,.string c.name,.int .i64 c.n,.int .i64 c.ty.kind,.string c.ty.name,.slice p2 n2 c2,.slice ma2 mn2 mc2]∧Kept (fun _=>False) w w9∧P10 w9∧TyL (fun _=>True) w9 a.ty.kids (.slice p0 n0 c0)∧TmL (fun _=>True) w9 a.kids (.slice ma0 mn0 mc0)∧TyL (fun _=>True) w9 c.ty.kids (.slice p2 n2 c2)∧TmL (fun _=>True) w9 c.kids (.slice ma2 mn2 mc2)∧Blk w9 X 27 [Value.int .i64 20,.string nm,.int .i64 0,.int .i64 0,.string ⟨#[]⟩,.slice none 0 0,.slice none 0 0]∧TyL (fun _=>True) w9 s1.ty.kids (.slice p4 n4 c4)∧TmL (fun _=>True) w9 s1.kids (.slice ma4 mn4 mc4)∧Blk w9 P 27 [Value.int .i64 s1.op,.string s1.name,.int .i64 s1.n,.int .i64 s1.ty.kind,.string s1.ty.name,.slice p4 n4 c4,.slice ma4 mn4 mc4]∧TyL (fun _=>True) w9 s2.ty.kids (.slice p5 n5 c5)∧TmL (fun _=>True) w9 s2.kids (.slice ma5 mn5 mc5)∧Blk w9 Q 27 [Value.int .i64 s2.op,.string s2.name,.int .i64 s2.n,.int .i64 s2.ty.kind,.string s2.ty.name,.slice p5 n5 c5,.slice ma5 mn5 mc5]):=Ld ⟨(B7.out.1).kept k (fun h=>h),(B7.out.2.1).kept k (fun h=>h),(B7.out.2.2.1).trans k,(B7.out.2.2.2.1).kept k,(B7.out.2.2.2.2.1).frame (sK k),(B7.out.2.2.2.2.2.1).frame (sK k),(B7.out.2.2.2.2.2.2.1).frame (sK k),(B7.out.2.2.2.2.2.2.2.1).frame (sK k),(B7.out.2.2.2.2.2.2.2.2.1).kept k (fun h=>h),(B7.out.2.2.2.2.2.2.2.2.2.1).frame (sK k),(B7.out.2.2.2.2.2.2.2.2.2.2.1).frame (sK k),(B7.out.2.2.2.2.2.2.2.2.2.2.2.1).kept k (fun h=>h),(B7.out.2.2.2.2.2.2.2.2.2.2.2.2.1).frame (sK k),(B7.out.2.2.2.2.2.2.2.2.2.2.2.2.2.1).frame (sK k),(B7.out.2.2.2.2.2.2.2.2.2.2.2.2.2.2).kept k (fun h=>h)⟩
   clear k HA B7
   have gA:∀ i,w9.cell? ⟨w.heap.size,i,none⟩=[Value.int .i64 a.op,.string a.name,.int .i64 a.n,.int .i64 a.ty.kind,.string a.ty.name,.slice p0 n0 c0,.slice ma0 mn0 mc0][i]?:=(B8.out.1).cell
   have HF:=Ld (pfree_any B8.out.2.2.2.2.1 B8.out.2.2.2.2.2.1 HSS.out.1)
   have HFL:=Ld (freS_len a)
   have HFM:=Ld ((freS_mb HP3.out.1 nm).trans HP3.out.2.2.symm)
   unfold PFr tmVal at HF
   generalize freS a=q at *
   have HM:Hid (m1=0∧mb nm q=false∨0<m1∧mb nm q=true):=Ld (by
    have h:=HFM.out
    rcases Nat.eq_zero_or_pos m1 with h0 | h0
    ·left;refine⟨h0,?_⟩;rw[h,h0];rfl
    ·right;refine⟨h0,?_⟩;rw[h,decide_eq_true h0])
   clear HFM HP3 HSS
   rcases HM.out with ⟨hm,hb⟩ | ⟨hm,hb⟩
   ·subst hm
    have HB:=Ld hb
    clear hb HM
    go_wp2_with fail
    clear gA
    refine HF.out.mono ?_
    rintro e w10 ⟨xa,xc,rfl,hN,k⟩
    have K10:=Ld ((B8.out.2.2.1).trans k)
    have HIN:=Ld (rinN_any nm hN (by have:=HFL.out;omega))
    rw[HB.out] at HIN
    clear k hN HF HB B8
    go_wp2_with fail
    refine HIN.out.mono ?_
    rintro e w11 ⟨rfl,rfl⟩
    clear HIN
    go_wp2_with fail
    refine (H15.out w10 K10.out).mono ?_
    rintro e w99 ⟨rfl,k99⟩
    have HK99:=Ld (K10.out.trans k99)
    clear k99
    go_wp2_with fail
    go_ret
    exact⟨rfl,HK99.out⟩
   ·have i2:(0:Int)<((m1:Nat):Int):=by omega
    have HB:=Ld hb
    clear hb HM
    go_wp2_with fail
    clear gA
    refine HF.out.mono ?_
    rintro e w10 ⟨xa,xc,rfl,hN,k⟩
    have K10:=Ld ((B8.out.2.2.1).trans k)
    have HIN:=Ld (rinN_any nm hN (by have:=HFL.out;omega))
    rw[HB.out] at HIN
    clear k hN HF HB B8
    go_wp2_with fail
    refine HIN.out.mono ?_
    rintro e w11 ⟨rfl,rfl⟩
    clear HIN
    go_wp2_with fail
    refine (H15.out w10 K10.out).mono ?_
    rintro e w99 ⟨rfl,k99⟩
    have HK99:=Ld (K10.out.trans k99)
    clear k99
    go_wp2_with fail
    go_ret
    exact⟨rfl,HK99.out⟩
end Go.Proofs.YtdmebjbkccjhbaaGreatDoor
