/- A part. -/
import Derived.Test.YtdmebjbkccjhbaaGreatDoorV19
set_option linter.unusedVariables false
set_option linter.unusedSimpArgs false
set_option maxRecDepth 100000
set_option maxHeartbeats 32000000
namespace Go.Proofs.YtdmebjbkccjhbaaGreatDoor
open Go.RowKit
variable {bz:Nat}
theorem subK_drop {bi:Bool} {l inn:List (ByteArray×Tm)} {ks:List Tm} {k:Nat} (h:k<ks.length):subK freshS bi l inn k (ks.drop k)=subT freshS ks[k] (if bi&&k==1 then inn else l)::subK freshS bi l inn (k+1) (ks.drop (k+1)):=by
 rw[List.drop_eq_getElem_cons h,subK]
theorem frs_mem {nm:ByteArray} {s:ByteArray}:∀ {l:List Tm} {u:Tm} (i:Nat),u∈l→mb s (fr u)=true→mb s (frs false nm i l)=true
 | t::l,u,i,h,hs=>by
  rw[frs,mb_app]
  rcases List.mem_cons.1 h with rfl | h
  ·simp[hs]
  ·rw[frs_mem (i+1) h hs];simp
theorem FitB.kid {l:List (ByteArray×Tm)} {op:Int} {nm:ByteArray} {N:Int} {ty:Ty} {ks:List Tm} {M:Nat} (hop:op≠20) (hb:binderB op=false) (h:FitB l (.mk op nm N ty ks) M) {u:Tm} (hu:u∈ks):FitB l u M:=
 fun x F hF=>h x F (fun s hs hx=>by
  rw[fr,if_neg hop,hb]
  exact frs_mem 0 hu (hF s hs hx))
structure SuL (bz:Nat) (w:World) (op:Int) (nm:ByteArray) (N:Int) (ty:Ty) (tk kk v:Value) (O base:Nat) (E:List E3) (W:World) (u:Value):Prop where
 row:RowT bz w base W E u
 a:Blk W w.heap.size 27 [.int .i64 op,.string nm,.int .i64 N,.int .i64 ty.kind,.string ty.name,tk,kk]
 r:Blk W (w.heap.size+1) 27 z27
 o:Blk W O 27 [.int .i64 op,.string nm,.int .i64 N,.int .i64 ty.kind,.string ty.name,v,u]
 ho:w.heap.size+2≤O∧O<base∧base≤W.heap.size
 ty:TyL bz (fun q=>w.heap.size+2≤q∧q≠O∧q<base) W ty.kids v
theorem SuL.start {w W:World} {op:Int} {nm:ByteArray} {N:Int} {ty:Ty} {tk kk v:Value} {O:Nat} (h:CT bz w op nm N ty tk kk v O W):SuL bz w op nm N ty tk kk v O W.heap.size [] W (.slice none 0 0):=
 ⟨RowT.nil h.kp,h.a,h.r,h.o,⟨h.ho,h.o.lt,Nat.le_refl _⟩,h.ty.mono (fun q hq h=>⟨h.1,h.2,hq⟩)⟩
theorem SuL.kept {w W W':World} {op:Int} {nm:ByteArray} {N:Int} {ty:Ty} {tk kk v u:Value} {O base:Nat} {E:List E3} (h:SuL bz w op nm N ty tk kk v O base E W u) (k:Kept (fun _=>False) W W'):SuL bz w op nm N ty tk kk v O base E W' u:=
 ⟨h.row.kept k,h.a.kept k (fun h=>h),h.r.kept k (fun h=>h),h.o.kept k (fun h=>h),⟨h.ho.1,h.ho.2.1,Nat.le_trans h.ho.2.2 k.size⟩,h.ty.frame (sK k)⟩
theorem SuL.step {w W W8:World} {op:Int} {nm:ByteArray} {N:Int} {ty:Ty} {tk kk v u u8:Value} {O base:Nat} {E E8:List E3} (h:SuL bz w op nm N ty tk kk v O base E W u) (hg:W.grownBy W8 u.ownBlock) (hr:RowT bz w base W8 E8 u8):
  Blk W8 O 27 [.int .i64 op,.string nm,.int .i64 N,.int .i64 ty.kind,.string ty.name,v,u]∧SuL bz w op nm N ty tk kk v O base E8 (W8.setCell ⟨O,6,none⟩ u8) u8:=by
 have kG:=kept_grown1 hg
 have hub:∀ x,u.ownBlock=some x→base≤x:=fun x e=>(h.row.own.lt x e).1
 have hub8:∀ x,u8.ownBlock=some x→base≤x:=fun x e=>(hr.own.lt x e).1
 obtain⟨h1,h2,h3⟩:=h.ho
 have bO:=h.o.kept kG (fun e=>by have:=hub O e;omega)
 have kS:Kept (fun q=>q=O) W8 (W8.setCell ⟨O,6,none⟩ u8):=(Kept.refl (fun q=>q=O) W8).setCell (p:=⟨O,6,none⟩) (Or.inl rfl) _
 refine⟨bO,⟨⟨hr.kp.via1 kS (fun x hx e=>by omega),own_keptT hr.own kS (fun g hg e=>by have:=hub8 g hg;omega),hr.el.frame (Same.of_kept kS (fun q hq e=>by have:=hq.1;omega))⟩,?_,?_,bO.set 6 _,⟨h1,h2,Nat.le_trans h3 (Nat.le_trans kG.size kS.size)⟩,?_⟩⟩
 ·exact (h.a.kept kG (fun e=>by have:=hub _ e;omega)).kept kS (fun e=>by omega)
 ·exact (h.r.kept kG (fun e=>by have:=hub _ e;omega)).kept kS (fun e=>by omega)
 ·exact (h.ty.frame (Same.of_kept kG (fun q hq e=>by have:=hub q e;omega))).frame (Same.of_kept kS (fun q hq e=>hq.2.1 e))
theorem rsub_one {op:Int} {nm:ByteArray} {N:Int} {ty:Ty} {ks:List Tm} (hop:op≠20) (hty:BdTy ty) (IH:∀ u,u∈ks→RSuC bz u) (hkn:ks.length≤1000000) (hbd:∀ u,u∈ks→BdTm u) (hk2:binderB op=true→ks.length=2) (hnz:nm.size≤9223372036854775807):RSuC bz (.mk op nm N ty ks):=by
 intro l M w ok okB tk kk vl h1 h2 hB hbl hn hfit hM
 have h1:TyL bz ok w ty.kids tk:=h1
 have h2:TmL bz ok w ks kk:=h2
 obtain⟨a,n,c,rfl⟩:=h1.slice
 obtain⟨ma,mn,mc,rfl⟩:=h2.slice
 obtain⟨la,lc,rfl⟩:=hB.slice
 change Calls Tryz.prog 113 #[.agg #[.int .i64 op,.string nm,.int .i64 N,.int .i64 ty.kind,.string ty.name,.slice a n c,.slice ma mn mc],.slice la l.length lc] w _
 have HMN:Hid (mn=ks.length):=Ld h2.len
 have HT:=Ld (fun W (k:Kept (fun _=>False) w W)=>rcopyTy_any hty W ok _ (h1.frame (sK k)))
 unfold tyVal at HT
 have hop2:(op==20)=false:=by simp[hop]
 have bA:Blk ((w.alloc (.cells #[.int .i64 op,.string nm,.int .i64 N,.int .i64 ty.kind,.string ty.name,.slice a n c,.slice ma mn mc] 27)).alloc Z7) w.heap.size 27 [.int .i64 op,.string nm,.int .i64 N,.int .i64 ty.kind,.string ty.name,.slice a n c,.slice ma mn mc]:=(Blk.new w 27 _).alloc _
 have bR:Blk ((w.alloc (.cells #[.int .i64 op,.string nm,.int .i64 N,.int .i64 ty.kind,.string ty.name,.slice a n c,.slice ma mn mc] 27)).alloc Z7) (w.heap.size+1) 27 z27:=Blk.new' 27 _ (by simp)
 have K0:Kept (fun _=>False) w ((w.alloc (.cells #[.int .i64 op,.string nm,.int .i64 N,.int .i64 ty.kind,.string ty.name,.slice a n c,.slice ma mn mc] 27)).alloc Z7):=(kR.alloc _).alloc _
 have HIH:=Ld IH
 have HAT:=Ld (fun W (k:Kept (fun _=>False) w W)=>(h2.frame (sK k)).at)
 have HBN:=Ld (fun W (k:Kept (fun _=>False) w W)=>hB.frame (sK k))
 have HBN2:=Ld (fun W (k:Kept (fun _=>False) w W)=>(hB.mono (ok':=fun q=>okB q∧q<w.heap.size) (fun q h1 h2=>⟨h2,h1⟩)).frame (sK k))
 have HBL:=Ld hbl
 have HLN:=Ld hn
 have HFT:=Ld hfit
 have HMB:=Ld hM
 have HKN:=Ld hkn
 have HBD:=Ld hbd
 have HK2:=Ld hk2
 have HOP:=Ld hop
 have HNZ:=Ld hnz
 clear h1 h2 hB hbl hn hfit hM IH hkn hbd hk2 hnz
 have HRE:Hid (subT freshS (.mk op nm N ty ks) l=if binderB op then .mk op (newN freshS nm (ks.getD 1 (nameT nm)) l) N ty (subK freshS true l (inner freshS nm (ks.getD 1 (nameT nm)) l) 0 ks) else .mk op nm N ty (subK freshS false l l 0 ks)):=Ld (by rw[subT,if_neg hop])
 have HFK:=Ld (fun (hb:binderB op=false) (u:Tm) (hu:u∈ks)=>FitB.kid hop hb HFT.out hu)
 generalize subT freshS (.mk op nm N ty ks) l=res at *
 clear hop
 go_enter Tryz.func113,Tryz.ntmps113
 go_upto_region 6 with (fail)
 refine wp_gen (F:=fun W3=>Kept (fun _=>False) w W3∧W3.heap.size=w.heap.size+2∧Blk W3 w.heap.size 27 [.int .i64 op,.string nm,.int .i64 N,.int .i64 ty.kind,.string ty.name,.slice a n c,.slice ma mn mc]∧Blk W3 (w.heap.size+1) 27 z27) ⟨K0,by simp,bA,bR⟩ ?_
 clear K0 bA bR
 rintro w1 ⟨K1,z1,bA,bR⟩
 go_cut [7] (fun v wc=>∃ O va vn vc,v=.pointer (some ⟨O,0,none⟩)∧CT bz w op nm N ty (.slice a n c) (.slice ma mn mc) (.slice va vn vc) O wc)
 case first=>
  have gA:=bA.cell
  have Z1:=Ld z1
  have KK1:=Ld K1
  have BA:=Ld bA
  have BR:=Ld bR
  have lA:=bA.lt
  have lR:=bR.lt
  have nA:w.heap.size≠w1.heap.size:=by omega
  have nA2:w1.heap.size≠w.heap.size:=by omega
  clear z1 K1 bA bR HIH HAT HBN
  have x0:w1.cell? ⟨w.heap.size,0,none⟩=some (.int .i64 op):=gA 0
  have x1:w1.cell? ⟨w.heap.size,1,none⟩=some (.string nm):=gA 1
  have x2:w1.cell? ⟨w.heap.size,2,none⟩=some (.int .i64 N):=gA 2
  have x3:w1.cell? ⟨w.heap.size,3,none⟩=some (.int .i64 ty.kind):=gA 3
  have x4:w1.cell? ⟨w.heap.size,4,none⟩=some (.string ty.name):=gA 4
  have x5:w1.cell? ⟨w.heap.size,5,none⟩=some (.slice a n c):=gA 5
  go_region_held3 (fun w'=>w'.cell? ⟨w.heap.size,0,none⟩=some (.int .i64 op)∧w'.cell? ⟨w.heap.size,1,none⟩=some (.string nm)∧w'.cell? ⟨w.heap.size,2,none⟩=some (.int .i64 N)∧w'.cell? ⟨w.heap.size,3,none⟩=some (.int .i64 ty.kind)∧w'.cell? ⟨w.heap.size,4,none⟩=some (.string ty.name)∧w'.cell? ⟨w.heap.size,5,none⟩=some (.slice a n c)) (go_keep) (first | (go_at_call 64;refine (HT.out _ (by first | exact KK1.out.drew | exact KK1.out.drew.alloc _ | exact (KK1.out.alloc _).drew)).mono ?_;rintro e w4 ⟨v,rfl,hv,k4⟩;obtain⟨va,vn,vc,rfl⟩:=hv.slice;have k5:Kept (fun _=>False) w1 w4:=(by first | exact kR.drew.trans k4 | exact (kR.drew.alloc _).trans k4);have lA4:=(BA.out.kept k5 (fun h=>h)).lt;(try (have bO:Blk w4 w1.heap.size 27 [.int .i64 0,.string ⟨#[]⟩,.int .i64 0,.int .i64 0,.string ⟨#[]⟩,.slice none 0 0,.slice none 0 0]:=(by first | exact ((Blk.new w1 27 [.int .i64 0,.string ⟨#[]⟩,.int .i64 0,.int .i64 0,.string ⟨#[]⟩,.slice none 0 0,.slice none 0 0]).drew).kept k4 (fun h=>h) | exact (Blk.new w1.drew 27 [.int .i64 0,.string ⟨#[]⟩,.int .i64 0,.int .i64 0,.string ⟨#[]⟩,.slice none 0 0,.slice none 0 0]).kept k4 (fun h=>h));have gO:∀ i,w4.cell? ⟨w1.heap.size,i,none⟩=[Value.int .i64 0,.string ⟨#[]⟩,.int .i64 0,.int .i64 0,.string ⟨#[]⟩,.slice none 0 0,.slice none 0 0][i]?:=bO.cell;have fO:∀ i,w4.frozen? ⟨w1.heap.size,i,none⟩=false:=bO.frozen;have lO:=bO.lt));have y0:w4.cell? ⟨w.heap.size,0,none⟩=some (.int .i64 op):=(BA.out.kept k5 (fun h=>h)).cell 0;have y1:w4.cell? ⟨w.heap.size,1,none⟩=some (.string nm):=(BA.out.kept k5 (fun h=>h)).cell 1;have y2:w4.cell? ⟨w.heap.size,2,none⟩=some (.int .i64 N):=(BA.out.kept k5 (fun h=>h)).cell 2;have y3:w4.cell? ⟨w.heap.size,3,none⟩=some (.int .i64 ty.kind):=(BA.out.kept k5 (fun h=>h)).cell 3;have y4:w4.cell? ⟨w.heap.size,4,none⟩=some (.string ty.name):=(BA.out.kept k5 (fun h=>h)).cell 4;have y5:w4.cell? ⟨w.heap.size,5,none⟩=some (.slice a n c):=(BA.out.kept k5 (fun h=>h)).cell 5))
  all_goals
   first
   | (have HX:=Ld (CT.late (KK1.out.trans k5) (BA.out.kept k5 (fun h=>h)) (BR.out.kept k5 (fun h=>h)) (hv.mono (fun q _ hq=>by have:=Z1.out;have hq2:w1.heap.size≤q:=hq;omega)))
      go_wp2_with fail
      go_meet
      case rel=>exact⟨_,_,_,_,rfl,HX.out⟩)
   | (have HX:=Ld (CT.early (O:=w1.heap.size) (KK1.out.trans k5) (BA.out.kept k5 (fun h=>h)) (BR.out.kept k5 (fun h=>h)) bO (by have:=Z1.out;omega) (hv.mono (fun q _ hq=>by have:=Z1.out;have hq2:w1.heap.size+1≤q:=(by simpa using hq);omega)))
      go_wp2_with fail
      go_meet
      case rel=>exact⟨_,_,_,_,rfl,HX.out⟩)
 case rest=>
  obtain⟨O,va,vn,vc,rfl,hX⟩:=hcut
  have HX:=Ld hX
  clear hX K1 z1 bA bR HT
  generalize wc=w5 at *
  have gA5:=HX.out.a.cell
  go_wp2_with fail
  cases hbi:binderB op
  ·refine (rbinder_t hbi _).mono ?_
   rintro e w5' ⟨rfl,rfl⟩
   have hres:Hid (res=.mk op nm N ty (subK freshS false l l 0 ks)):=Ld (by rw[HRE.out,hbi];rfl)
   have S0:=Ld (SuL.start HX.out)
   have HFK2:=Ld (HFK.out hbi)
   clear hbi HRE HX gA5 HFK HFT
   go_wp2_with fail
   obtain⟨base,hbase⟩:∃ base,base=w5.heap.size:=⟨_,rfl⟩
   rw[← hbase] at S0
   clear hbase
   go_loopw [8] (fun i wr=>∃ (k:Nat) (E:List E3) (u:Value),k≤ks.length∧i=.int .i64 k∧SuL bz w op nm N ty (.slice a n c) (.slice ma mn mc) (.slice va vn vc) O base E wr u∧Hid (subK freshS false l l 0 ks=E.map (·.1)++subK freshS false l l k (ks.drop k))∧E.length=k) (fun i _=>ks.length-(intOf i).toNat)
   case atStart=>exact⟨0,[],_,Nat.zero_le _,rfl,S0.out,Ld rfl,rfl⟩
   case round=>
    obtain⟨k,E,u,hkl,rfl,hS,hq,hEk⟩:=hrel
    obtain⟨ua,un,uc,hu⟩:=hS.row.tml.slice
    subst hu
    obtain rfl:un=E.length:=by have:=hS.row.tml.len;rw[List.length_map] at this;exact this
    have S:=Ld hS
    have HEK:=Ld hEk
    clear hS S0 hEk
    obtain rfl:mn=ks.length:=HMN.out
    by_cases hlt:k<ks.length
    ·have i1:(k:Int)<(ks.length:Int):=by omega
     have i2:(k:Int)<1000000:=by have:=HKN.out;omega
     obtain⟨q0,o1,ta,tn,tc,pa,pn,pc,rfl,_,lq,⟨c0,c1,c2,c3,c4,c5,c6⟩,hkt,hkm⟩:=HAT.out wr S.out.row.kp k hlt
     have HK3:=Ld (fun W (kW:Kept (fun _=>False) wr W)=>HIH.out _ (List.getElem_mem hlt) l M W ok okB _ _ _ (hkt.frame (sK kW)) (hkm.frame (sK kW)) (HBN.out W (S.out.row.kp.trans kW)) HBL.out
      (by have h5:=HLN.out;have h6:=tmDs_mem (List.getElem_mem hlt);rw[tmD] at h5;omega) (HFK2.out _ (List.getElem_mem hlt)) (by have h5:=HMB.out;have h6:=(tmD_kid (List.getElem_mem hlt)).2;rw[tmN] at h5;omega))
     have HD:=Ld (subK_drop (bi:=false) (l:=l) (inn:=l) hlt)
     unfold PutP tmVal at HK3
     have HRK:Hid (subK freshS false l l 0 ks=(E.map (·.1)++[subT freshS ks[k] l])++subK freshS false l l (k+1) (ks.drop (k+1))):=Ld (by rw[hq.out,HD.out,List.append_assoc];rfl)
     generalize subT freshS ks[k] l=r at *
     obtain⟨i28,hi28,hz28,hs28,hb28⟩:=info_tm
     have HI:=Ld hi28
     have HZ:=Ld hz28
     have HS:=Ld hs28
     have HB:=Ld hb28
     clear hkt hkm hi28 hz28 hs28 hb28 HD hq
     have gA:=S.out.a.cell
     have gO:∀ i,wr.cell? ⟨O,i,none⟩=[Value.int .i64 op,.string nm,.int .i64 N,.int .i64 ty.kind,.string ty.name,.slice va vn vc,.slice ua E.length uc][i]?:=S.out.o.cell
     go_upto_region 11 with (fail)
     have KD:Kept (fun _=>False) wr (World.drew wr):=kR.drew
     go_region_law (first
      | (refine step_app_src rfl (.tmp 51) (.tmp 59) _ rfl base 27 i28 _ 7 104 Tryz.underlying25 HI.out HZ.out HS.out HB.out rfl (by decide) (.slice ua E.length uc) E.length (flat E) rfl (own_keptT S6.out.row.own ((Kept.refl (fun _=>False) w6).alloc (.cells (tmCells r (.slice va6 vn6 vc6) (.slice ya6 yn6 yc6)).toArray 27)) (fun _ _ h=>h)) (.slice (some ⟨w6.heap.size,0,none⟩) 1 1) 1 (tmCells r (.slice va6 vn6 vc6) (.slice ya6 yn6 yc6)) rfl (.inr ⟨_,_,rfl,newsT (Blk.new w6 27 (tmCells r (.slice va6 vn6 vc6) (.slice ya6 yn6 yc6)))⟩) rfl oneT (by have:=HEK.out;unfold maxLen;omega) (by have:=HEK.out;omega) (by have:=S6.out.ho.2.2;simp;omega) ?_;intro v8 w8 own8 hg8 hat8;have R8:=Ld (RowT.app2 (F:=[(r,.slice va6 vn6 vc6,.slice ya6 yn6 yc6)]) (by have:=S6.out.ho;have:=S6.out.row.kp.size;omega) (S6.out.row.kept ((Kept.refl (fun _=>False) w6).alloc (.cells (tmCells r (.slice va6 vn6 vc6) (.slice ya6 yn6 yc6)).toArray 27))) (HEL6.out _) (by show w8.ownsRow base 27 7 v8 (E.length+1) (flat E++(tmCells r (.slice va6 vn6 vc6) (.slice ya6 yn6 yc6)++[]));rw[List.append_nil];exact own8) hg8 hat8);have S8:=Ld (SuL.step (S6.out.kept ((Kept.refl (fun _=>False) w6).alloc (.cells (tmCells r (.slice va6 vn6 vc6) (.slice ya6 yn6 yc6)).toArray 27))) hg8 R8.out);obtain⟨xa8,xn8,xc8,hv8⟩:=R8.out.tml.slice;subst hv8;have gO8:=S8.out.1.cell;have fO8:=S8.out.1.frozen;clear own8 hg8 hat8)
      | (go_simp;go_at_call 113;refine (HK3.out _ KD).mono ?_;rintro e w6 ⟨tk6,kk6,rfl,hv6,hu6,k6⟩;obtain⟨va6,vn6,vc6,rfl⟩:=hv6.slice;obtain⟨ya6,yn6,yc6,rfl⟩:=hu6.slice;have S6:=Ld (S.out.kept (KD.trans k6));have HEL6:Hid (∀ o,EL bz (okb base (.slice ua E.length uc)) (w6.alloc o) [(r,.slice va6 vn6 vc6,.slice ya6 yn6 yc6)]):=Ld (fun o e he=>by rw[List.mem_singleton.1 he];exact⟨(hv6.mono (fun q _ hq=>⟨Nat.le_trans S.out.ho.2.2 hq,fun e=>by have h7:=(S.out.row.own.lt q e).2;have h8:wr.heap.size≤q:=hq;omega⟩)).frame (Same.alloc _ _),(hu6.mono (fun q _ hq=>⟨Nat.le_trans S.out.ho.2.2 hq,fun e=>by have h7:=(S.out.row.own.lt q e).2;have h8:wr.heap.size≤q:=hq;omega⟩)).frame (Same.alloc _ _)⟩);have gO6:∀ i,w6.cell? ⟨O,i,none⟩=[Value.int .i64 op,.string nm,.int .i64 N,.int .i64 ty.kind,.string ty.name,.slice va vn vc,.slice ua E.length uc][i]?:=S6.out.o.cell;have gA6:∀ i,w6.cell? ⟨w.heap.size,i,none⟩=[Value.int .i64 op,.string nm,.int .i64 N,.int .i64 ty.kind,.string ty.name,.slice a n c,.slice (some ⟨q0,o1,none⟩) ks.length mc][i]?:=S6.out.a.cell;have lO6:O<w6.heap.size:=S6.out.o.lt;have lw6:w.heap.size<w6.heap.size:=S6.out.a.lt;have nO6:O≠w6.heap.size:=by omega))
     all_goals
      clear gA gO c0 c1 c2 c3 c4 c5 c6
      go_wp2_with fail
      go_roundw
      case rel=>exact⟨k+1,_,_,by omega,by go_num,S8.out.2,Ld (by rw[List.map_append];exact HRK.out),by have:=HEK.out;simp;omega⟩
      case measure=>simp[intOf];omega
    ·have hkk:k=ks.length:=by omega
     subst hkk
     have HE:Hid (res=.mk op nm N ty (E.map (·.1))):=Ld (by rw[hres.out,hq.out,List.drop_length];simp[subK])
     have gA:=S.out.a.cell
     have gO:∀ i,wr.cell? ⟨O,i,none⟩=[Value.int .i64 op,.string nm,.int .i64 N,.int .i64 ty.kind,.string ty.name,.slice va vn vc,.slice ua E.length uc][i]?:=S.out.o.cell
     have gR:∀ i,wr.cell? ⟨w.heap.size+1,i,none⟩=[Value.int .i64 0,.string ⟨#[]⟩,.int .i64 0,.int .i64 0,.string ⟨#[]⟩,.slice none 0 0,.slice none 0 0][i]?:=S.out.r.cell
     have fR:∀ i,wr.frozen? ⟨w.heap.size+1,i,none⟩=false:=S.out.r.frozen
     have HTM:=S.out.row.tml
     have hoo:=S.out.ho
     have hbw:=S.out.row.kp.size
     go_wp2_with fail
     exact bodyPost_ret (results_one Tryz.results113 rfl (load_tm (t:=.mk op nm N ty (E.map (·.1))) (r7 S.out.r rfl))) rfl ⟨_,_,by rw[HE.out],by rw[HE.out];exact (S.out.ty.frame (set7 (fun q hq=>by omega))).mono (fun q _ hq=>by omega),by rw[HE.out];exact (HTM.frame (set7 (fun q hq=>by omega))).mono (fun q _ hq=>by omega),k7w S.out.row.kp (Or.inr (Nat.le_succ _))⟩
  ·refine (rbinder_t hbi _).mono ?_
   rintro e w5' ⟨rfl,rfl⟩
   obtain⟨d,y,rfl⟩:∃ d y,ks=[d,y]:=by
    have h2:=HK2.out hbi
    match ks,h2 with
    | [d,y],_=>exact⟨d,y,rfl⟩
   have hres:Hid (res=.mk op (newN freshS nm y l) N ty [subT freshS d l,subT freshS y (inner freshS nm y l)]):=Ld (by rw[HRE.out,hbi];simp only[if_true,subK];rfl)
   have HF1:=Ld (FitB.dom HOP.out hbi HFT.out)
   have HF2:=Ld (FitB.rem HOP.out hbi HFT.out)
   have HF3:=Ld (FitB.inn HOP.out hbi HFT.out)
   clear HRE HFK HFT hbi HK2 HOP
   go_upto_region 13 with (fail)
   obtain rfl:mn=2:=HMN.out
   obtain⟨q0,o1,ta,tn,tc,pa,pn,pc,rfl,_,lq,hC,hkt,hkm⟩:=HAT.out w kR 0 (by simp)
   obtain⟨q0',o1',ta',tn',tc',pa',pn',pc',hqq,_,lq',hC',hkt',hkm'⟩:=HAT.out w kR 1 (by simp)
   cases hqq
   have zw5:=HX.out.kp.size
   obtain⟨c0,c1,c2,c3,c4,c5,c6⟩:=hC.kept HX.out.kp (fun h=>h)
   obtain⟨e0,e1,e2,e3,e4,e5,e6⟩:=hC'.kept HX.out.kp (fun h=>h)
   clear hC hC'
   change TyL bz ok w d.ty.kids _ at hkt
   change TmL bz ok w d.kids _ at hkm
   change TyL bz ok w y.ty.kids _ at hkt'
   change TmL bz ok w y.kids _ at hkm'
   have HDM:Hid (tmD d+1≤tmD (.mk op nm N ty [d,y])∧tmD y+1≤tmD (.mk op nm N ty [d,y])∧tmN d+tmN y+1=tmN (.mk op nm N ty [d,y])):=Ld (by rw[tmD,tmN];simp only[tmDs,tmNs];omega)
   have HK3:Hid (∀ W,Kept (fun _=>False) w5 W→Calls Tryz.prog 113 #[tmVal d (.slice ta tn tc) (.slice pa pn pc),.slice la l.length lc] W (PutP bz (subT freshS d l) W)):=Ld (fun W kW=>HIH.out d (by simp) l M W ok okB _ _ _ (hkt.frame (sK (HX.out.kp.trans kW))) (hkm.frame (sK (HX.out.kp.trans kW))) (HBN.out W (HX.out.kp.trans kW)) HBL.out (by have:=HLN.out;have:=HDM.out;omega) HF1.out (by have:=HMB.out;have:=HDM.out;omega))
   unfold PutP tmVal at HK3
   generalize subT freshS d l=r at *
   go_cut [9,10] (fun v9 v10 wc=>∃ O9 O10 tk9 kk9,v9=.pointer (some ⟨O9,0,none⟩)∧v10=.pointer (some ⟨O10,0,none⟩)∧B13 bz w5 r y tk9 kk9 (.slice ta' tn' tc') (.slice pa' pn' pc') O9 O10 wc)
   case first=>
    have lA:=HX.out.a.lt
    have lw5:w.heap.size+2≤w5.heap.size:=by have h1:=HX.out.ho;have h2:=HX.out.o.lt;omega
    have nA:w.heap.size≠w5.heap.size:=by omega
    have nQ:q0≠w5.heap.size:=by omega
    have nA2:w5.heap.size≠w.heap.size:=by omega
    have nQ2:w5.heap.size≠q0:=by omega
    have nA3:w5.heap.size+1≠w.heap.size:=by omega
    have nQ3:w5.heap.size+1≠q0:=by omega
    have nA4:w.heap.size≠w5.heap.size+1:=by omega
    have nQ4:q0≠w5.heap.size+1:=by omega
    rw[show o1+0*7=o1 by omega] at c0 c1 c2 c3 c4 c5 c6
    rw[show o1+1*7=o1+7 by omega] at e0 e1 e2 e3 e4 e5 e6
    have x0:w5.cell? ⟨w.heap.size,6,none⟩=some (.slice (some ⟨q0,o1,none⟩) 2 mc):=HX.out.a.cell 6
    have x1:w5.cell? ⟨q0,o1,none⟩=some (.int .i64 d.op):=c0
    have x2:w5.cell? ⟨q0,o1+1,none⟩=some (.string d.name):=c1
    have x3:w5.cell? ⟨q0,o1+2,none⟩=some (.int .i64 d.n):=c2
    have x4:w5.cell? ⟨q0,o1+3,none⟩=some (.int .i64 d.ty.kind):=c3
    have x5:w5.cell? ⟨q0,o1+4,none⟩=some (.string d.ty.name):=c4
    have x6:w5.cell? ⟨q0,o1+5,none⟩=some (.slice ta tn tc):=c5
    have x7:w5.cell? ⟨q0,o1+6,none⟩=some (.slice pa pn pc):=c6
    have x8:w5.cell? ⟨q0,o1+7,none⟩=some (.int .i64 y.op):=e0
    have x9:w5.cell? ⟨q0,o1+7+1,none⟩=some (.string y.name):=e1
    have x10:w5.cell? ⟨q0,o1+7+2,none⟩=some (.int .i64 y.n):=e2
    have x11:w5.cell? ⟨q0,o1+7+3,none⟩=some (.int .i64 y.ty.kind):=e3
    have x12:w5.cell? ⟨q0,o1+7+4,none⟩=some (.string y.ty.name):=e4
    have x13:w5.cell? ⟨q0,o1+7+5,none⟩=some (.slice ta' tn' tc'):=e5
    have x14:w5.cell? ⟨q0,o1+7+6,none⟩=some (.slice pa' pn' pc'):=e6
    go_region_held3 (fun w'=>w'.cell? ⟨w.heap.size,6,none⟩=some (.slice (some ⟨q0,o1,none⟩) 2 mc)∧w'.cell? ⟨q0,o1,none⟩=some (.int .i64 d.op)∧w'.cell? ⟨q0,o1+1,none⟩=some (.string d.name)∧w'.cell? ⟨q0,o1+2,none⟩=some (.int .i64 d.n)∧w'.cell? ⟨q0,o1+3,none⟩=some (.int .i64 d.ty.kind)∧w'.cell? ⟨q0,o1+4,none⟩=some (.string d.ty.name)∧w'.cell? ⟨q0,o1+5,none⟩=some (.slice ta tn tc)∧w'.cell? ⟨q0,o1+6,none⟩=some (.slice pa pn pc)∧w'.cell? ⟨q0,o1+7,none⟩=some (.int .i64 y.op)∧w'.cell? ⟨q0,o1+7+1,none⟩=some (.string y.name)∧w'.cell? ⟨q0,o1+7+2,none⟩=some (.int .i64 y.n)∧w'.cell? ⟨q0,o1+7+3,none⟩=some (.int .i64 y.ty.kind)∧w'.cell? ⟨q0,o1+7+4,none⟩=some (.string y.ty.name)∧w'.cell? ⟨q0,o1+7+5,none⟩=some (.slice ta' tn' tc')∧w'.cell? ⟨q0,o1+7+6,none⟩=some (.slice pa' pn' pc')) (go_keep) (first | (go_at_call 113;refine (HK3.out _ (by first | exact kR.drew | exact kR.drew.alloc _ | exact (kR.alloc _).drew | exact (kR.drew.alloc _).alloc _)).mono ?_;rintro e w4 ⟨tk4,kk4,rfl,hv,hu,k4⟩;obtain⟨va4,vn4,vc4,rfl⟩:=hv.slice;obtain⟨ya4,yn4,yc4,rfl⟩:=hu.slice;have k5:Kept (fun _=>False) w5 w4:=(by first | exact kR.drew.trans k4 | exact (kR.drew.alloc _).trans k4 | exact ((kR.drew.alloc _).alloc _).trans k4);have lA4:=(HX.out.a.kept k5 (fun h=>h)).lt;(try (have bQ:Blk w4 (w5.heap.size+1) 27 [.int .i64 0,.string ⟨#[]⟩,.int .i64 0,.int .i64 0,.string ⟨#[]⟩,.slice none 0 0,.slice none 0 0]:=(by first | exact (Blk.new' (w:=w5.drew.alloc Z7) 27 [.int .i64 0,.string ⟨#[]⟩,.int .i64 0,.int .i64 0,.string ⟨#[]⟩,.slice none 0 0,.slice none 0 0] (by simp)).kept k4 (fun h=>h));have gQ:∀ i,w4.cell? ⟨w5.heap.size+1,i,none⟩=[Value.int .i64 0,.string ⟨#[]⟩,.int .i64 0,.int .i64 0,.string ⟨#[]⟩,.slice none 0 0,.slice none 0 0][i]?:=bQ.cell;have fQ:∀ i,w4.frozen? ⟨w5.heap.size+1,i,none⟩=false:=bQ.frozen;have lQ:=bQ.lt));(try (have bP:Blk w4 w5.heap.size 27 [.int .i64 0,.string ⟨#[]⟩,.int .i64 0,.int .i64 0,.string ⟨#[]⟩,.slice none 0 0,.slice none 0 0]:=(by first | exact (((Blk.new w5.drew 27 [.int .i64 0,.string ⟨#[]⟩,.int .i64 0,.int .i64 0,.string ⟨#[]⟩,.slice none 0 0,.slice none 0 0]).alloc _)).kept k4 (fun h=>h) | exact (Blk.new w5.drew 27 [.int .i64 0,.string ⟨#[]⟩,.int .i64 0,.int .i64 0,.string ⟨#[]⟩,.slice none 0 0,.slice none 0 0]).kept k4 (fun h=>h));have gP:∀ i,w4.cell? ⟨w5.heap.size,i,none⟩=[Value.int .i64 0,.string ⟨#[]⟩,.int .i64 0,.int .i64 0,.string ⟨#[]⟩,.slice none 0 0,.slice none 0 0][i]?:=bP.cell;have fP:∀ i,w4.frozen? ⟨w5.heap.size,i,none⟩=false:=bP.frozen;have lP:=bP.lt));have y0:w4.cell? ⟨w.heap.size,6,none⟩=some (.slice (some ⟨q0,o1,none⟩) 2 mc):=(HX.out.a.kept k5 (fun h=>h)).cell 6;have y1:w4.cell? ⟨q0,o1,none⟩=some (.int .i64 d.op):=(by rw[k5.cell (p:=⟨q0,o1,none⟩) (by show q0<_;omega) (fun h=>h)];exact x1);have y2:w4.cell? ⟨q0,o1+1,none⟩=some (.string d.name):=(by rw[k5.cell (p:=⟨q0,o1+1,none⟩) (by show q0<_;omega) (fun h=>h)];exact x2);have y3:w4.cell? ⟨q0,o1+2,none⟩=some (.int .i64 d.n):=(by rw[k5.cell (p:=⟨q0,o1+2,none⟩) (by show q0<_;omega) (fun h=>h)];exact x3);have y4:w4.cell? ⟨q0,o1+3,none⟩=some (.int .i64 d.ty.kind):=(by rw[k5.cell (p:=⟨q0,o1+3,none⟩) (by show q0<_;omega) (fun h=>h)];exact x4);have y5:w4.cell? ⟨q0,o1+4,none⟩=some (.string d.ty.name):=(by rw[k5.cell (p:=⟨q0,o1+4,none⟩) (by show q0<_;omega) (fun h=>h)];exact x5);have y6:w4.cell? ⟨q0,o1+5,none⟩=some (.slice ta tn tc):=(by rw[k5.cell (p:=⟨q0,o1+5,none⟩) (by show q0<_;omega) (fun h=>h)];exact x6);have y7:w4.cell? ⟨q0,o1+6,none⟩=some (.slice pa pn pc):=(by rw[k5.cell (p:=⟨q0,o1+6,none⟩) (by show q0<_;omega) (fun h=>h)];exact x7);have y8:w4.cell? ⟨q0,o1+7,none⟩=some (.int .i64 y.op):=(by rw[k5.cell (p:=⟨q0,o1+7,none⟩) (by show q0<_;omega) (fun h=>h)];exact x8);have y9:w4.cell? ⟨q0,o1+7+1,none⟩=some (.string y.name):=(by rw[k5.cell (p:=⟨q0,o1+7+1,none⟩) (by show q0<_;omega) (fun h=>h)];exact x9);have y10:w4.cell? ⟨q0,o1+7+2,none⟩=some (.int .i64 y.n):=(by rw[k5.cell (p:=⟨q0,o1+7+2,none⟩) (by show q0<_;omega) (fun h=>h)];exact x10);have y11:w4.cell? ⟨q0,o1+7+3,none⟩=some (.int .i64 y.ty.kind):=(by rw[k5.cell (p:=⟨q0,o1+7+3,none⟩) (by show q0<_;omega) (fun h=>h)];exact x11);have y12:w4.cell? ⟨q0,o1+7+4,none⟩=some (.string y.ty.name):=(by rw[k5.cell (p:=⟨q0,o1+7+4,none⟩) (by show q0<_;omega) (fun h=>h)];exact x12);have y13:w4.cell? ⟨q0,o1+7+5,none⟩=some (.slice ta' tn' tc'):=(by rw[k5.cell (p:=⟨q0,o1+7+5,none⟩) (by show q0<_;omega) (fun h=>h)];exact x13);have y14:w4.cell? ⟨q0,o1+7+6,none⟩=some (.slice pa' pn' pc'):=(by rw[k5.cell (p:=⟨q0,o1+7+6,none⟩) (by show q0<_;omega) (fun h=>h)];exact x14)))
    all_goals
     have S4:=Ld (B13s.mk k5 hv hu)
     clear hv hu y0 y1 y2 y3 y4 y5 y6 y7 y8 y9 y10 y11 y12 y13 y14 x0 x1 x2 x3 x4 x5 x6 x7 x8 x9 x10 x11 x12 x13 x14 c0 c1 c2 c3 c4 c5 c6 e0 e1 e2 e3 e4 e5 e6 hkt hkm hkt' hkm' k4
     (try clear gP)
     (try clear gQ)
     (try clear fP)
     (try clear fQ)
    ·have HB:=Ld (b13_ll (y:=y) (a:=.slice ta' tn' tc') (b:=.slice pa' pn' pc') S4.out (by simp) )
     (try unfold al7 at HB)
     (try unfold st7 at HB)
     generalize ((w4).alloc (.cells #[.int .i64 r.op,.string r.name,.int .i64 r.n,.int .i64 r.ty.kind,.string r.ty.name,.slice va4 vn4 vc4,.slice ya4 yn4 yc4] 27)).alloc (.cells #[.int .i64 y.op,.string y.name,.int .i64 y.n,.int .i64 y.ty.kind,.string y.ty.name,.slice ta' tn' tc',.slice pa' pn' pc'] 27)=W13 at *
     clear S4 k5 
     go_wp2_with fail
     go_meet
     case rel=>exact⟨_,_,_,_,rfl,rfl,HB.out⟩
    ·have HB:=Ld (b13_ll' (y:=y) (a:=.slice ta' tn' tc') (b:=.slice pa' pn' pc') S4.out (by simp) )
     (try unfold al7 at HB)
     (try unfold st7 at HB)
     generalize ((w4).alloc (.cells #[.int .i64 y.op,.string y.name,.int .i64 y.n,.int .i64 y.ty.kind,.string y.ty.name,.slice ta' tn' tc',.slice pa' pn' pc'] 27)).alloc (.cells #[.int .i64 r.op,.string r.name,.int .i64 r.n,.int .i64 r.ty.kind,.string r.ty.name,.slice va4 vn4 vc4,.slice ya4 yn4 yc4] 27)=W13 at *
     clear S4 k5 
     go_wp2_with fail
     go_meet
     case rel=>exact⟨_,_,_,_,rfl,rfl,HB.out⟩
    ·have HB:=Ld (b13_el (y:=y) (a:=.slice ta' tn' tc') (b:=.slice pa' pn' pc') S4.out (by simp) bP)
     (try unfold al7 at HB)
     (try unfold st7 at HB)
     generalize ((((((((w4).setCell ⟨w5.heap.size,0,none⟩ (.int .i64 r.op)).setCell ⟨w5.heap.size,1,none⟩ (.string r.name)).setCell ⟨w5.heap.size,2,none⟩ (.int .i64 r.n)).setCell ⟨w5.heap.size,3,none⟩ (.int .i64 r.ty.kind)).setCell ⟨w5.heap.size,4,none⟩ (.string r.ty.name)).setCell ⟨w5.heap.size,5,none⟩ (.slice va4 vn4 vc4)).setCell ⟨w5.heap.size,6,none⟩ (.slice ya4 yn4 yc4)).alloc (.cells #[.int .i64 y.op,.string y.name,.int .i64 y.n,.int .i64 y.ty.kind,.string y.ty.name,.slice ta' tn' tc',.slice pa' pn' pc'] 27)=W13 at *
     clear S4 k5 bP
     go_wp2_with fail
     go_meet
     case rel=>exact⟨_,_,_,_,rfl,rfl,HB.out⟩
    ·have HB:=Ld (b13_ee (y:=y) (a:=.slice ta' tn' tc') (b:=.slice pa' pn' pc') S4.out (by simp) bP bQ)
     (try unfold al7 at HB)
     (try unfold st7 at HB)
     generalize ((((((((((((((w4).setCell ⟨w5.heap.size,0,none⟩ (.int .i64 r.op)).setCell ⟨w5.heap.size,1,none⟩ (.string r.name)).setCell ⟨w5.heap.size,2,none⟩ (.int .i64 r.n)).setCell ⟨w5.heap.size,3,none⟩ (.int .i64 r.ty.kind)).setCell ⟨w5.heap.size,4,none⟩ (.string r.ty.name)).setCell ⟨w5.heap.size,5,none⟩ (.slice va4 vn4 vc4)).setCell ⟨w5.heap.size,6,none⟩ (.slice ya4 yn4 yc4)).setCell ⟨w5.heap.size+1,0,none⟩ (.int .i64 y.op)).setCell ⟨w5.heap.size+1,1,none⟩ (.string y.name)).setCell ⟨w5.heap.size+1,2,none⟩ (.int .i64 y.n)).setCell ⟨w5.heap.size+1,3,none⟩ (.int .i64 y.ty.kind)).setCell ⟨w5.heap.size+1,4,none⟩ (.string y.ty.name)).setCell ⟨w5.heap.size+1,5,none⟩ (.slice ta' tn' tc')).setCell ⟨w5.heap.size+1,6,none⟩ (.slice pa' pn' pc')=W13 at *
     clear S4 k5 bP bQ
     go_wp2_with fail
     go_meet
     case rel=>exact⟨_,_,_,_,rfl,rfl,HB.out⟩
    ·have HB:=Ld (b13_le2 (y:=y) (a:=.slice ta' tn' tc') (b:=.slice pa' pn' pc') S4.out (by simp) bP)
     (try unfold al7 at HB)
     (try unfold st7 at HB)
     generalize ((((((((w4).setCell ⟨w5.heap.size,0,none⟩ (.int .i64 y.op)).setCell ⟨w5.heap.size,1,none⟩ (.string y.name)).setCell ⟨w5.heap.size,2,none⟩ (.int .i64 y.n)).setCell ⟨w5.heap.size,3,none⟩ (.int .i64 y.ty.kind)).setCell ⟨w5.heap.size,4,none⟩ (.string y.ty.name)).setCell ⟨w5.heap.size,5,none⟩ (.slice ta' tn' tc')).setCell ⟨w5.heap.size,6,none⟩ (.slice pa' pn' pc')).alloc (.cells #[.int .i64 r.op,.string r.name,.int .i64 r.n,.int .i64 r.ty.kind,.string r.ty.name,.slice va4 vn4 vc4,.slice ya4 yn4 yc4] 27)=W13 at *
     clear S4 k5 bP
     go_wp2_with fail
     go_meet
     case rel=>exact⟨_,_,_,_,rfl,rfl,HB.out⟩
    ·have HB:=Ld (b13_ee' (y:=y) (a:=.slice ta' tn' tc') (b:=.slice pa' pn' pc') S4.out (by simp) bP bQ)
     (try unfold al7 at HB)
     (try unfold st7 at HB)
     generalize ((((((((((((((w4).setCell ⟨w5.heap.size+1,0,none⟩ (.int .i64 r.op)).setCell ⟨w5.heap.size+1,1,none⟩ (.string r.name)).setCell ⟨w5.heap.size+1,2,none⟩ (.int .i64 r.n)).setCell ⟨w5.heap.size+1,3,none⟩ (.int .i64 r.ty.kind)).setCell ⟨w5.heap.size+1,4,none⟩ (.string r.ty.name)).setCell ⟨w5.heap.size+1,5,none⟩ (.slice va4 vn4 vc4)).setCell ⟨w5.heap.size+1,6,none⟩ (.slice ya4 yn4 yc4)).setCell ⟨w5.heap.size,0,none⟩ (.int .i64 y.op)).setCell ⟨w5.heap.size,1,none⟩ (.string y.name)).setCell ⟨w5.heap.size,2,none⟩ (.int .i64 y.n)).setCell ⟨w5.heap.size,3,none⟩ (.int .i64 y.ty.kind)).setCell ⟨w5.heap.size,4,none⟩ (.string y.ty.name)).setCell ⟨w5.heap.size,5,none⟩ (.slice ta' tn' tc')).setCell ⟨w5.heap.size,6,none⟩ (.slice pa' pn' pc')=W13 at *
     clear S4 k5 bP bQ
     go_wp2_with fail
     go_meet
     case rel=>exact⟨_,_,_,_,rfl,rfl,HB.out⟩
   case rest=>
    obtain⟨O9,O10,tk9,kk9,rfl,rfl,hG⟩:=hcut
    obtain⟨ua,un,uc,rfl⟩:=hG.ty.slice
    obtain⟨ka,kn,kc,rfl⟩:=hG.tm.slice
    generalize wc=w6 at *
    have S6:=Ld (S20.start HX.out hG)
    have A6:Hid (Blk w6 w.heap.size 27 [.int .i64 op,.string nm,.int .i64 N,.int .i64 ty.kind,.string ty.name,.slice a n c,.slice (some ⟨q0,o1,none⟩) 2 mc]):=Ld (HX.out.a.kept hG.kp (fun h=>h))
    have HYB:=Ld (HBD.out y (by simp))
    have HYT:=Ld (fun W (k:Kept (fun _=>False) w W)=>hkt'.frame (sK k))
    have HYM:=Ld (fun W (k:Kept (fun _=>False) w W)=>hkm'.frame (sK k))
    have HYD:Hid (tmD y≤900000∧tmN y≤700000):=Ld ⟨by have:=HLN.out;have:=HDM.out;omega,by have:=HMB.out;have:=HDM.out;omega⟩
    have HRM:=Ld (rrem_any (x:=nm) (body:=y) (HBN2.out w6 S6.out.kp) (by have:=HLN.out;omega) (HYT.out w6 S6.out.kp) (HYM.out w6 S6.out.kp) HYB.out HYD.out.1 HYD.out.2)
    unfold tmVal at HRM
    have HIX:=Ld (inner_bd (nm:=nm) (y:=y) HBL.out)
    have HIL:Hid ((inner freshS nm y l).length+tmD y≤100000):=Ld (by have:=(inner_frB nm y l).2;have:=HLN.out;have:=HDM.out;omega)
    have HIHY:=Ld (fun W (kW:Kept (fun _=>False) w W) (okI:Nat→Prop) (vI:Value) (hI:BnL bz okI W (inner freshS nm y l) vI)=>HIH.out y (by simp) (inner freshS nm y l) (M+1) W ok okI _ _ vI (HYT.out W kW) (HYM.out W kW) hI HIX.out HIL.out HF3.out (by have:=HMB.out;have:=HDM.out;omega))
    unfold PutP tmVal at HIHY
    have HI0:Hid (mb nm (frB (remL l nm (fr y)))=false→inner freshS nm y l=remL l nm (fr y)∧newN freshS nm y l=nm):=Ld (fun h=>by unfold inner newN;rw[h];exact⟨rfl,rfl⟩)
    have HI1:Hid (mb nm (frB (remL l nm (fr y)))=true→newN freshS nm y l=freshS nm (fr y++frB (remL l nm (fr y)))∧inner freshS nm y l=remL l nm (fr y)++[(nm,nameT (newN freshS nm y l))]):=Ld (fun h=>by unfold inner newN;rw[h];exact⟨rfl,rfl⟩)
    have HRB:Hid (∀ b∈remL l nm (fr y),BdTm b.2∧tmD b.2≤900000∧tmN b.2≤700000):=Ld (fun b hb=>HBL.out b (remL_mem hb))
    have HRL:Hid ((remL l nm (fr y)).length≤100000):=Ld (by have:=remL_count l nm (fr y);have:=HLN.out;omega)
    have HML:Hid ((frB (remL l nm (fr y))).length≤700000):=Ld (by have:=HF2.out;have:=HMB.out;omega)
    have HFY:Hid ((fr y).length+(frB (remL l nm (fr y))).length≤700000):=Ld (by have h5:=frL_len y [];rw[frL_nil] at h5;have:=HF2.out;have:=HMB.out;have:=HDM.out;omega)
    have HRF:=Ld (fun W (k:Kept (fun _=>False) w W)=>rfree_any HYB.out [] W ok (fun _=>True) _ _ _ (HYT.out W k) (HYM.out W k) .nil (by have:=HYD.out.1;simp;omega) HYD.out.2)
    rw[frL_nil] at HRF
    unfold tmVal at HRF
    clear hkt hkm hkt' hkm' hG HF1 HF2 HF3 HIH HBN HBN2 HBL HAT HYT HYM HIX HIL HLN HMB HK3 c0 c1 c2 c3 c4 c5 c6 e0 e1 e2 e3 e4 e5 e6 gA5 HBD HKN HDM HX
    generalize remL l nm (fr y)=rl at *
    generalize subT freshS y (inner freshS nm y l)=z at *
    generalize inner freshS nm y l=inn at *
    generalize newN freshS nm y l=zn at *
    generalize hFY:fr y=FY at *
    clear hFY
    have gA:=A6.out.cell
    have g10:∀ i,w6.cell? ⟨O10,i,none⟩=[Value.int .i64 y.op,.string y.name,.int .i64 y.n,.int .i64 y.ty.kind,.string y.ty.name,.slice ta' tn' tc',.slice pa' pn' pc'][i]?:=S6.out.b10.cell
    go_wp2_with fail
    clear gA g10
    refine HRM.out.mono ?_
    rintro e w7 ⟨E,v11,rfl,R7,hE⟩
    have BN7:BnL bz _ w7 rl v11:=hE ▸ R7.bnl
    obtain⟨xa,xc,hv11⟩:=BN7.slice
    subst hv11
    have S7:=Ld (S6.out.kept R7.kp)
    have A7:=Ld (A6.out.kept R7.kp (fun h=>h))
    have RB7:=Ld (R7.to S7.out.kp)
    have L6:Hid (O<w6.heap.size∧w.heap.size≤w6.heap.size):=Ld ⟨S6.out.o.lt,S6.out.kp.size⟩
    have HE:=Ld hE
    have hz67:Hid (w6.heap.size≤w7.heap.size):=Ld R7.kp.size
    have HB7:=Ld (fun W (k:Kept (fun _=>False) w7 W)=>BN7.frame (sK k))
    clear R7 hE BN7 HRM S6 A6
    go_wp2_with fail
    go_loopw [12,13] (fun v i wr=>∃ (k:Nat) (names:List ByteArray),k≤rl.length∧i=.int .i64 k∧NRow w7 w7.heap.size wr names v∧Hid (frB rl=names++frB (rl.drop k))) (fun v i _=>rl.length-(intOf i).toNat)
    case atStart=>exact⟨0,[],Nat.zero_le _,rfl,⟨Kept.refl _ _,World.ownsRow_nil _ _ _ _⟩,Ld rfl⟩
    case round=>
     obtain⟨k,names,hkl,rfl,hR,hq⟩:=hrel
     obtain⟨na,nc,hv⟩:=hR.nml.slice
     subst hv
     have R:=Ld hR
     clear hR
     by_cases hlt:k<rl.length
     ·have i1:(k:Int)<(rl.length:Int):=by omega
      have i2:(k:Int)<1000000:=by have:=HRL.out;omega
      obtain⟨g,off,xta,xtn,xtc,xpa,xpn,xpc,rfl,_,lg,c0,C0,hty,htm⟩:=(HB7.out wr R.out.kp).at k hlt
      obtain⟨c1,c2,c3,c4,c5,c6,c7⟩:=C0
      have HD:=Ld (frB_drop hlt)
      have HF:=Ld (rfree_any (HRB.out _ (List.getElem_mem hlt)).1 [] wr _ (fun _=>True) _ _ _ hty htm .nil (by have:=(HRB.out _ (List.getElem_mem hlt)).2.1;simp;omega) (HRB.out _ (List.getElem_mem hlt)).2.2)
      rw[frL_nil] at HF
      unfold tmVal at HF
      have HNL:Hid (names.length+(fr rl[k].2).length≤700000):=Ld (by have h5:=HML.out;rw[hq.out,HD.out,List.length_append,List.length_append] at h5;omega)
      have HNQ:Hid (frB rl=(names++fr rl[k].2)++frB (rl.drop (k+1))):=Ld (by rw[hq.out,HD.out,List.append_assoc])
      obtain⟨i9,hi9,hz9,hs9,hb9⟩:=info_str
      have HI9:=Ld hi9
      have HZ9:=Ld hz9
      have HS9:=Ld hs9
      have HB9:=Ld hb9
      clear hty htm hi9 hz9 hs9 hb9 hq HD
      generalize fr rl[k].2=fu at *
      go_wp2_with fail
      refine HF.out.mono ?_
      rintro e w8 ⟨v3,rfl,h3⟩
      obtain⟨za,zc,hv3⟩:=h3.nml.slice
      subst hv3
      have R8:Hid (NRow w7 w7.heap.size w8 names (.slice na names.length nc)):=Ld ⟨R.out.kp.trans h3.kp,own_keptT R.out.own h3.kp (fun _ _ h=>h)⟩
      have S3:=Ld h3.nml.src
      have zw8:=R8.out.kp.size
      clear h3 c0 c1 c2 c3 c4 c5 c6 c7 HF
      go_wp2_with (at_builtin;refine wpList_app_src rfl (.tmp 84) (.tmp 90) _ rfl w7.heap.size 9 i9 _ 1 16 Tryz.underlying28 HI9.out HZ9.out HS9.out HB9.out rfl (by decide) (.slice na names.length nc) names.length (names.map Value.string) rfl R8.out.own (.slice za fu.length zc) fu.length (fu.map Value.string) rfl S3.out (by simp) (strs_one _) ?_ ?_ zw8 ?_)
      ·have:=HNL.out;unfold maxLen;omega
      ·have:=HNL.out;omega
      intro v9 w9 own9 hg9 hat9
      have R9:=Ld (NRow.app R8.out (Nat.le_refl _) own9 hg9)
      clear own9 hg9 hat9 zw8
      go_wp2_with fail
      go_roundw
      case rel=>exact⟨k+1,_,by omega,by go_num,R9.out,HNQ⟩
      case measure=>simp[intOf];omega
     ·have hkk:k=rl.length:=by omega
      subst hkk
      have HEQ:names=frB rl:=by rw[hq.out,List.drop_length,frB,List.append_nil]
      subst HEQ
      clear hq
      have S8:=Ld (S7.out.kept R.out.kp)
      have A8:=Ld (A7.out.kept R.out.kp (fun h=>h))
      have RB8:=Ld (RB7.out.kept R.out.kp)
      have gA:=A8.out.cell
      have HNI:=Ld (rinN_any nm R.out.nml (by have:=HML.out;omega))
      have h67:Hid (w7.heap.size≤wr.heap.size):=Ld R.out.kp.size
      clear S7 A7 RB7
      go_wp2_with fail
      clear gA
      refine HNI.out.mono ?_
      rintro e wr' ⟨rfl,rfl⟩
      clear HNI
      cases hm:mb nm (frB rl)
      ·have HIQ:=HI0.out hm
       have hinn:inn=rl:=HIQ.1
       have hzn:zn=nm:=HIQ.2
       subst hinn
       subst hzn
       have BNI:BnL bz _ wr inn (.slice xa inn.length xc):=HE.out ▸ RB8.out.bnl
       have HBI:=Ld (fun W (k:Kept (fun _=>False) wr W)=>HIHY.out W (S8.out.kp.trans k) _ _ (BNI.frame (sK k)))
       clear HI0 HI1 HIQ BNI HIHY hm RB8 HE HB7 HRB HML HFY HRF A8
       have b9:∀ i,wr.cell? ⟨O9,i,none⟩=[Value.int .i64 r.op,.string r.name,.int .i64 r.n,.int .i64 r.ty.kind,.string r.ty.name,.slice ua un uc,.slice ka kn kc][i]?:=S8.out.b9.cell
       have b10:∀ i,wr.cell? ⟨O10,i,none⟩=[Value.int .i64 y.op,.string y.name,.int .i64 y.n,.int .i64 y.ty.kind,.string y.ty.name,.slice ta' tn' tc',.slice pa' pn' pc'][i]?:=S8.out.b10.cell
       go_upto_region 23 with (fail)
       have x0:wr.cell? ⟨O9,0,none⟩=some (.int .i64 r.op):=b9 0
       have x1:wr.cell? ⟨O9,1,none⟩=some (.string r.name):=b9 1
       have x2:wr.cell? ⟨O9,2,none⟩=some (.int .i64 r.n):=b9 2
       have x3:wr.cell? ⟨O9,3,none⟩=some (.int .i64 r.ty.kind):=b9 3
       have x4:wr.cell? ⟨O9,4,none⟩=some (.string r.ty.name):=b9 4
       have x5:wr.cell? ⟨O9,5,none⟩=some (.slice ua un uc):=b9 5
       have x6:wr.cell? ⟨O9,6,none⟩=some (.slice ka kn kc):=b9 6
       have x7:wr.cell? ⟨O10,0,none⟩=some (.int .i64 y.op):=b10 0
       have x8:wr.cell? ⟨O10,1,none⟩=some (.string y.name):=b10 1
       have x9:wr.cell? ⟨O10,2,none⟩=some (.int .i64 y.n):=b10 2
       have x10:wr.cell? ⟨O10,3,none⟩=some (.int .i64 y.ty.kind):=b10 3
       have x11:wr.cell? ⟨O10,4,none⟩=some (.string y.ty.name):=b10 4
       have x12:wr.cell? ⟨O10,5,none⟩=some (.slice ta' tn' tc'):=b10 5
       have x13:wr.cell? ⟨O10,6,none⟩=some (.slice pa' pn' pc'):=b10 6
       have l9:=S8.out.b9.lt
       have l10:=S8.out.b10.lt
       have lO:=S8.out.o.lt
       have n9:O9≠wr.heap.size:=by omega
       have n10:O10≠wr.heap.size:=by omega
       have nO:O≠wr.heap.size:=by omega
       have n9':wr.heap.size≠O9:=by omega
       have n10':wr.heap.size≠O10:=by omega
       have nO9:O≠O9:=by have:=S8.out.lo;omega
       have nO10:O≠O10:=by have:=S8.out.lo;omega
       clear b9 b10
       go_region_held3 (fun w'=>w'.cell? ⟨O9,0,none⟩=some (.int .i64 r.op)∧w'.cell? ⟨O9,1,none⟩=some (.string r.name)∧w'.cell? ⟨O9,2,none⟩=some (.int .i64 r.n)∧w'.cell? ⟨O9,3,none⟩=some (.int .i64 r.ty.kind)∧w'.cell? ⟨O9,4,none⟩=some (.string r.ty.name)∧w'.cell? ⟨O9,5,none⟩=some (.slice ua un uc)∧w'.cell? ⟨O9,6,none⟩=some (.slice ka kn kc)∧w'.cell? ⟨O10,0,none⟩=some (.int .i64 y.op)∧w'.cell? ⟨O10,1,none⟩=some (.string y.name)∧w'.cell? ⟨O10,2,none⟩=some (.int .i64 y.n)∧w'.cell? ⟨O10,3,none⟩=some (.int .i64 y.ty.kind)∧w'.cell? ⟨O10,4,none⟩=some (.string y.ty.name)∧w'.cell? ⟨O10,5,none⟩=some (.slice ta' tn' tc')∧w'.cell? ⟨O10,6,none⟩=some (.slice pa' pn' pc')) (go_keep) (first | (go_at_call 113;refine (HBI.out _ (by first | exact kR.drew | exact Kept.refl _ _)).mono ?_;rintro e w4 ⟨zt,zk,rfl,hzt,hzk,k4⟩;obtain⟨za4,zn4,zc4,rfl⟩:=hzt.slice;obtain⟨ya4,yn4,yc4,rfl⟩:=hzk.slice;have k5:Kept (fun _=>False) wr w4:=(by first | exact kR.drew.trans k4 | exact k4);have T4:=Ld (S8.out.kept k5);have HD:=Ld (S20.done S8.out k5 hzt hzk _ rfl);have gO:∀ i,w4.cell? ⟨O,i,none⟩=[Value.int .i64 op,.string zn,.int .i64 N,.int .i64 ty.kind,.string ty.name,.slice va vn vc,.slice none 0 0][i]?:=T4.out.o.cell;have fO:∀ i,w4.frozen? ⟨O,i,none⟩=false:=T4.out.o.frozen;have lO4:=T4.out.o.lt;have nO4:O≠w4.heap.size:=(by omega);have nO4':w4.heap.size≠O:=(by omega);have y0:w4.cell? ⟨O9,0,none⟩=some (.int .i64 r.op):=T4.out.b9.cell 0;have y1:w4.cell? ⟨O9,1,none⟩=some (.string r.name):=T4.out.b9.cell 1;have y2:w4.cell? ⟨O9,2,none⟩=some (.int .i64 r.n):=T4.out.b9.cell 2;have y3:w4.cell? ⟨O9,3,none⟩=some (.int .i64 r.ty.kind):=T4.out.b9.cell 3;have y4:w4.cell? ⟨O9,4,none⟩=some (.string r.ty.name):=T4.out.b9.cell 4;have y5:w4.cell? ⟨O9,5,none⟩=some (.slice ua un uc):=T4.out.b9.cell 5;have y6:w4.cell? ⟨O9,6,none⟩=some (.slice ka kn kc):=T4.out.b9.cell 6;have y7:w4.cell? ⟨O10,0,none⟩=some (.int .i64 y.op):=T4.out.b10.cell 0;have y8:w4.cell? ⟨O10,1,none⟩=some (.string y.name):=T4.out.b10.cell 1;have y9:w4.cell? ⟨O10,2,none⟩=some (.int .i64 y.n):=T4.out.b10.cell 2;have y10:w4.cell? ⟨O10,3,none⟩=some (.int .i64 y.ty.kind):=T4.out.b10.cell 3;have y11:w4.cell? ⟨O10,4,none⟩=some (.string y.ty.name):=T4.out.b10.cell 4;have y12:w4.cell? ⟨O10,5,none⟩=some (.slice ta' tn' tc'):=T4.out.b10.cell 5;have y13:w4.cell? ⟨O10,6,none⟩=some (.slice pa' pn' pc'):=T4.out.b10.cell 6))
       all_goals
        clear hzt hzk k4 T4 gO fO x0 y0 x1 y1 x2 y2 x3 y3 x4 y4 x5 y5 x6 y6 x7 y7 x8 y8 x9 y9 x10 y10 x11 y11 x12 y12 x13 y13
        generalize hW3:(w4.setCell ⟨O,6,none⟩ (.slice (some ⟨w4.heap.size,0,none⟩) 2 2)).alloc (.cells #[.int .i64 r.op,.string r.name,.int .i64 r.n,.int .i64 r.ty.kind,.string r.ty.name,.slice ua un uc,.slice ka kn kc,.int .i64 z.op,.string z.name,.int .i64 z.n,.int .i64 z.ty.kind,.string z.ty.name,.slice za4 zn4 zc4,.slice ya4 yn4 yc4] 27)=W3 at *
        have gO:=HD.out.2.1.cell
        have gR:∀ i,W3.cell? ⟨w.heap.size+1,i,none⟩=[Value.int .i64 0,.string ⟨#[]⟩,.int .i64 0,.int .i64 0,.string ⟨#[]⟩,.slice none 0 0,.slice none 0 0][i]?:=HD.out.1.cell
        have fR:∀ i,W3.frozen? ⟨w.heap.size+1,i,none⟩=false:=HD.out.1.frozen
        clear hW3
        go_wp2_with fail
        exact bodyPost_ret (results_one Tryz.results113 rfl (load_tm (t:=.mk op zn N ty [r,z]) (r7 HD.out.1 rfl))) rfl ⟨_,_,by rw[hres.out],by rw[hres.out];exact (HD.out.2.2.2.1.frame (set7 (fun q hq=>by omega))).mono (fun q _ hq=>by omega),by rw[hres.out];exact (HD.out.2.2.2.2.frame (set7 (fun q hq=>by omega))).mono (fun q _ hq=>by omega),k7w HD.out.2.2.1 (Or.inr (Nat.le_succ _))⟩
      ·have HIQ:=HI1.out hm
       have hinn:inn=rl++[(nm,nameT zn)]:=HIQ.2
       have HZN:Hid (zn=freshS nm (FY++frB rl)):=Ld HIQ.1
       subst hinn
       clear HI0 HI1 HIQ hm
       have HFR:=Ld (fun W (vN:Value) (okN:Nat→Prop) (hN:NmL okN W (FY++frB rl) vN)=>rfresh_any nm hN (by rw[List.length_append];have:=HFY.out;omega) HNZ.out)
       rw[← HZN.out] at HFR
       have HSR:=Ld (fun W (k:Kept (fun _=>False) wr W)=>(R.out.nml.frame (sK k)).src)
       obtain⟨i9,hi9,hz9,hs9,hb9⟩:=info_str
       have HI9:=Ld hi9
       have HZ9:=Ld hz9
       have HS9:=Ld hs9
       have HB9:=Ld hb9
       clear hi9 hz9 hs9 hb9
       have a1:wr.cell? ⟨w.heap.size,1,none⟩=some (.string nm):=A8.out.cell 1
       have b10:∀ i,wr.cell? ⟨O10,i,none⟩=[Value.int .i64 y.op,.string y.name,.int .i64 y.n,.int .i64 y.ty.kind,.string y.ty.name,.slice ta' tn' tc',.slice pa' pn' pc'][i]?:=S8.out.b10.cell
       go_upto_region 21 with (fail)
       have KD:Kept (fun _=>False) wr (World.drew wr):=kR.drew
       go_region_law (first
        | (refine step_app_src rfl (.tmp 99) (.tmp 100) _ rfl wr.heap.size 9 i9 _ 1 16 Tryz.underlying28 HI9.out HZ9.out HS9.out HB9.out rfl (by decide) (.slice za FY.length zc) FY.length (FY.map Value.string) rfl H3.out.own (.slice na (frB rl).length nc) (frB rl).length ((frB rl).map Value.string) rfl N3.out (by simp) (strs_one _) (by have:=HFY.out;unfold maxLen;omega) (by have:=HFY.out;omega) H3.out.kp.size ?_;intro v8 w8 own8 hg8 hat8;have R8:=Ld (NRow.app H3.out (Nat.le_refl _) own8 hg8);have HN8:=Ld R8.out.nml;have a8:w8.cell? ⟨w.heap.size,1,none⟩=some (.string nm):=(A8.out.kept (KD.trans R8.out.kp) (fun h=>h)).cell 1;clear own8 hg8 hat8)
        | (go_simp;go_at_call 45;refine (HRF.out _ (S8.out.kp.trans KD)).mono ?_;rintro e w3 ⟨v3,rfl,h3⟩;obtain⟨za,zc,hv3⟩:=h3.nml.slice;subst hv3;have H3:=Ld h3;have a3:w3.cell? ⟨w.heap.size,1,none⟩=some (.string nm):=(A8.out.kept (KD.trans h3.kp) (fun h=>h)).cell 1;have N3:=Ld (HSR.out w3 (KD.trans h3.kp));clear h3)
        | (go_simp;go_at_call 13;refine (HFR.out _ _ _ HN8.out).mono ?_;rintro e w9 ⟨rfl,k9⟩;have K9:=Ld ((KD.trans R8.out.kp).trans k9);have S9:=Ld (S8.out.kept K9.out);have T9:=Ld (S9.out.name zn);have gO9:∀ i,w9.cell? ⟨O,i,none⟩=[Value.int .i64 op,.string nm,.int .i64 N,.int .i64 ty.kind,.string ty.name,.slice va vn vc,.slice none 0 0][i]?:=S9.out.o.cell;have fO9:∀ i,w9.frozen? ⟨O,i,none⟩=false:=S9.out.o.frozen;have lO9:=S9.out.o.lt))
       all_goals
        have A10:=Ld ((A8.out.kept K9.out (fun h=>h)).set_other ⟨O,1,none⟩ (.string zn) (by show w.heap.size≠O;have:=S9.out.lo;omega))
        have RB10:=Ld ((RB8.out.kept K9.out).put (O:=O) (by have:=S9.out.lo;omega) (by have:=L6.out.1;omega) (fun q hq e=>by have h1:=hq.1.2;have:=S9.out.lo;omega) 1 (.string zn))
        have h69:Hid (w6.heap.size≤(w9.setCell ⟨O,1,none⟩ (.string zn)).heap.size):=Ld (by have h1:=h67.out;have h2:=K9.out.size;have h3:=hz67.out;have h4:(w9.setCell ⟨O,1,none⟩ (.string zn)).heap.size=w9.heap.size:=(by simp[World.setCell]);omega)
        clear gO9 fO9 a1 b10 a3 a8 S8 A8 RB8 S9 K9 N3 H3 R8 HN8 HSR HFR HRF k9 KD R HZN
        generalize hW10:w9.setCell ⟨O,1,none⟩ (.string zn)=w10 at *
        clear hW10
        have gA:=A10.out.cell
        have gO:∀ i,w10.cell? ⟨O,i,none⟩=[Value.int .i64 op,.string zn,.int .i64 N,.int .i64 ty.kind,.string ty.name,.slice va vn vc,.slice none 0 0][i]?:=T9.out.o.cell
        obtain⟨i53,hi,hz,hsz,hby⟩:=info_bd
        have HI:=Ld hi
        have HZ:=Ld hz
        have HS:=Ld hsz
        have HB:=Ld hby
        have HEL:Hid (E.length≤100000):=Ld (by have h1:=HRL.out;rw[← HE.out,List.length_map] at h1;exact h1)
        clear hi hz hsz hby
        go_wp2_with (at_builtin;refine wpList_app_src rfl (.tmp 104) (.tmp 111) _ rfl (w6.heap.size+1) 38 i53 _ 8 120 Tryz.underlying34 HI.out HZ.out HS.out HB.out rfl (by decide) (.slice xa rl.length xc) E.length (flatB E) rfl (own_keptT RB10.out.own ((Kept.refl (fun _=>False) w10).alloc (.cells (bCells ((nm,nameT zn),.slice none 0 0,.slice none 0 0)).toArray 38)) (fun _ _ h=>h)) (.slice (some ⟨w10.heap.size,0,none⟩) 1 1) 1 (bCells ((nm,nameT zn),.slice none 0 0,.slice none 0 0)) rfl (.inr ⟨_,_,rfl,newsT (Blk.new w10 38 (bCells ((nm,nameT zn),.slice none 0 0,.slice none 0 0)))⟩) rfl oneB ?_ ?_ ?_ ?_)
        ·have:=HEL.out;unfold maxLen;omega
        ·have:=HEL.out;omega
        ·have:=h69.out;simp;omega
        intro v12 w12 own12 hg12 hat12
        have R12:=Ld (RowB.app1 (e:=((nm,nameT zn),.slice none 0 0,.slice none 0 0)) (by have:=L6.out.2;omega) RB10.out ((Kept.refl (fun _=>False) w10).alloc (.cells (bCells ((nm,nameT zn),.slice none 0 0,.slice none 0 0)).toArray 38)) (.nil (.inl rfl)) (.nil (.inl rfl)) own12 hg12)
        have S12:=Ld ((T9.out.kept ((Kept.refl (fun _=>False) w10).alloc (.cells (bCells ((nm,nameT zn),.slice none 0 0,.slice none 0 0)).toArray 38))).keptS (kept_grown1 hg12) (fun q hq=>by have:=(World.ownsRow.lt RB10.out.own q hq).1;omega))
        obtain⟨ok12,BNI⟩:∃ okq,BnL bz okq w12 (rl++[(nm,nameT zn)]) v12:=by
         have h:=R12.out.bnl
         rw[List.map_append,HE.out] at h
         exact⟨_,h⟩
        obtain⟨ia,ic,hv12⟩:=BNI.slice
        rw[List.length_append,List.length_singleton] at hv12
        subst hv12
        have HBI:=Ld (fun W (k:Kept (fun _=>False) w12 W)=>HIHY.out W (S12.out.kp.trans k) _ _ (BNI.frame (sK k)))
        clear own12 hg12 hat12 BNI HIHY T9 A10 RB10 R12 HE HB7 HRB HML HFY HRL
        have b9:∀ i,w12.cell? ⟨O9,i,none⟩=[Value.int .i64 r.op,.string r.name,.int .i64 r.n,.int .i64 r.ty.kind,.string r.ty.name,.slice ua un uc,.slice ka kn kc][i]?:=S12.out.b9.cell
        have b10:∀ i,w12.cell? ⟨O10,i,none⟩=[Value.int .i64 y.op,.string y.name,.int .i64 y.n,.int .i64 y.ty.kind,.string y.ty.name,.slice ta' tn' tc',.slice pa' pn' pc'][i]?:=S12.out.b10.cell
        go_upto_region 23 with (fail)
        have x0:w12.cell? ⟨O9,0,none⟩=some (.int .i64 r.op):=b9 0
        have x1:w12.cell? ⟨O9,1,none⟩=some (.string r.name):=b9 1
        have x2:w12.cell? ⟨O9,2,none⟩=some (.int .i64 r.n):=b9 2
        have x3:w12.cell? ⟨O9,3,none⟩=some (.int .i64 r.ty.kind):=b9 3
        have x4:w12.cell? ⟨O9,4,none⟩=some (.string r.ty.name):=b9 4
        have x5:w12.cell? ⟨O9,5,none⟩=some (.slice ua un uc):=b9 5
        have x6:w12.cell? ⟨O9,6,none⟩=some (.slice ka kn kc):=b9 6
        have x7:w12.cell? ⟨O10,0,none⟩=some (.int .i64 y.op):=b10 0
        have x8:w12.cell? ⟨O10,1,none⟩=some (.string y.name):=b10 1
        have x9:w12.cell? ⟨O10,2,none⟩=some (.int .i64 y.n):=b10 2
        have x10:w12.cell? ⟨O10,3,none⟩=some (.int .i64 y.ty.kind):=b10 3
        have x11:w12.cell? ⟨O10,4,none⟩=some (.string y.ty.name):=b10 4
        have x12:w12.cell? ⟨O10,5,none⟩=some (.slice ta' tn' tc'):=b10 5
        have x13:w12.cell? ⟨O10,6,none⟩=some (.slice pa' pn' pc'):=b10 6
        have l9:=S12.out.b9.lt
        have l10:=S12.out.b10.lt
        have lO:=S12.out.o.lt
        have n9:O9≠w12.heap.size:=by omega
        have n10:O10≠w12.heap.size:=by omega
        have nO:O≠w12.heap.size:=by omega
        have n9':w12.heap.size≠O9:=by omega
        have n10':w12.heap.size≠O10:=by omega
        have nO9:O≠O9:=by have:=S12.out.lo;omega
        have nO10:O≠O10:=by have:=S12.out.lo;omega
        clear b9 b10
        go_region_held3 (fun w'=>w'.cell? ⟨O9,0,none⟩=some (.int .i64 r.op)∧w'.cell? ⟨O9,1,none⟩=some (.string r.name)∧w'.cell? ⟨O9,2,none⟩=some (.int .i64 r.n)∧w'.cell? ⟨O9,3,none⟩=some (.int .i64 r.ty.kind)∧w'.cell? ⟨O9,4,none⟩=some (.string r.ty.name)∧w'.cell? ⟨O9,5,none⟩=some (.slice ua un uc)∧w'.cell? ⟨O9,6,none⟩=some (.slice ka kn kc)∧w'.cell? ⟨O10,0,none⟩=some (.int .i64 y.op)∧w'.cell? ⟨O10,1,none⟩=some (.string y.name)∧w'.cell? ⟨O10,2,none⟩=some (.int .i64 y.n)∧w'.cell? ⟨O10,3,none⟩=some (.int .i64 y.ty.kind)∧w'.cell? ⟨O10,4,none⟩=some (.string y.ty.name)∧w'.cell? ⟨O10,5,none⟩=some (.slice ta' tn' tc')∧w'.cell? ⟨O10,6,none⟩=some (.slice pa' pn' pc')) (go_keep) (first | (go_at_call 113;refine (HBI.out _ (by first | exact kR.drew | exact Kept.refl _ _)).mono ?_;rintro e w4 ⟨zt,zk,rfl,hzt,hzk,k4⟩;obtain⟨za4,zn4,zc4,rfl⟩:=hzt.slice;obtain⟨ya4,yn4,yc4,rfl⟩:=hzk.slice;have k5:Kept (fun _=>False) w12 w4:=(by first | exact kR.drew.trans k4 | exact k4);have T4:=Ld (S12.out.kept k5);have HD:=Ld (S20.done S12.out k5 hzt hzk _ rfl);have gO:∀ i,w4.cell? ⟨O,i,none⟩=[Value.int .i64 op,.string zn,.int .i64 N,.int .i64 ty.kind,.string ty.name,.slice va vn vc,.slice none 0 0][i]?:=T4.out.o.cell;have fO:∀ i,w4.frozen? ⟨O,i,none⟩=false:=T4.out.o.frozen;have lO4:=T4.out.o.lt;have nO4:O≠w4.heap.size:=(by omega);have nO4':w4.heap.size≠O:=(by omega);have y0:w4.cell? ⟨O9,0,none⟩=some (.int .i64 r.op):=T4.out.b9.cell 0;have y1:w4.cell? ⟨O9,1,none⟩=some (.string r.name):=T4.out.b9.cell 1;have y2:w4.cell? ⟨O9,2,none⟩=some (.int .i64 r.n):=T4.out.b9.cell 2;have y3:w4.cell? ⟨O9,3,none⟩=some (.int .i64 r.ty.kind):=T4.out.b9.cell 3;have y4:w4.cell? ⟨O9,4,none⟩=some (.string r.ty.name):=T4.out.b9.cell 4;have y5:w4.cell? ⟨O9,5,none⟩=some (.slice ua un uc):=T4.out.b9.cell 5;have y6:w4.cell? ⟨O9,6,none⟩=some (.slice ka kn kc):=T4.out.b9.cell 6;have y7:w4.cell? ⟨O10,0,none⟩=some (.int .i64 y.op):=T4.out.b10.cell 0;have y8:w4.cell? ⟨O10,1,none⟩=some (.string y.name):=T4.out.b10.cell 1;have y9:w4.cell? ⟨O10,2,none⟩=some (.int .i64 y.n):=T4.out.b10.cell 2;have y10:w4.cell? ⟨O10,3,none⟩=some (.int .i64 y.ty.kind):=T4.out.b10.cell 3;have y11:w4.cell? ⟨O10,4,none⟩=some (.string y.ty.name):=T4.out.b10.cell 4;have y12:w4.cell? ⟨O10,5,none⟩=some (.slice ta' tn' tc'):=T4.out.b10.cell 5;have y13:w4.cell? ⟨O10,6,none⟩=some (.slice pa' pn' pc'):=T4.out.b10.cell 6))
        all_goals
         clear hzt hzk k4 T4 gO fO x0 y0 x1 y1 x2 y2 x3 y3 x4 y4 x5 y5 x6 y6 x7 y7 x8 y8 x9 y9 x10 y10 x11 y11 x12 y12 x13 y13
         generalize hW3:(w4.setCell ⟨O,6,none⟩ (.slice (some ⟨w4.heap.size,0,none⟩) 2 2)).alloc (.cells #[.int .i64 r.op,.string r.name,.int .i64 r.n,.int .i64 r.ty.kind,.string r.ty.name,.slice ua un uc,.slice ka kn kc,.int .i64 z.op,.string z.name,.int .i64 z.n,.int .i64 z.ty.kind,.string z.ty.name,.slice za4 zn4 zc4,.slice ya4 yn4 yc4] 27)=W3 at *
         have gO:=HD.out.2.1.cell
         have gR:∀ i,W3.cell? ⟨w.heap.size+1,i,none⟩=[Value.int .i64 0,.string ⟨#[]⟩,.int .i64 0,.int .i64 0,.string ⟨#[]⟩,.slice none 0 0,.slice none 0 0][i]?:=HD.out.1.cell
         have fR:∀ i,W3.frozen? ⟨w.heap.size+1,i,none⟩=false:=HD.out.1.frozen
         clear hW3
         go_wp2_with fail
         exact bodyPost_ret (results_one Tryz.results113 rfl (load_tm (t:=.mk op zn N ty [r,z]) (r7 HD.out.1 rfl))) rfl ⟨_,_,by rw[hres.out],by rw[hres.out];exact (HD.out.2.2.2.1.frame (set7 (fun q hq=>by omega))).mono (fun q _ hq=>by omega),by rw[hres.out];exact (HD.out.2.2.2.2.frame (set7 (fun q hq=>by omega))).mono (fun q _ hq=>by omega),k7w HD.out.2.2.1 (Or.inr (Nat.le_succ _))⟩
end Go.Proofs.YtdmebjbkccjhbaaGreatDoor
