/- A part. -/
import Derived.Test.YtdmebjbkccjhbaaGreatDoorU17
set_option linter.unusedVariables false
set_option linter.unusedSimpArgs false
set_option maxRecDepth 100000
set_option maxHeartbeats 32000000
namespace Go.Proofs.YtdmebjbkccjhbaaGreatDoor
open Go.RowKit
variable {bz:Nat}
inductive BgTy:Ty→Prop
 | mk {k:Int} {n:ByteArray} {l:List Ty} (hn:l.length≤2932031007402) (hl:∀ t,t∈l→BgTy t):BgTy (.mk k n l)
inductive BgTm:Tm→Prop
 | mk {o:Int} {n:ByteArray} {i:Int} {t:Ty} {l:List Tm} (hn:l.length≤1353245080339) (ht:BgTy t) (hl:∀ k,k∈l→BgTm k):BgTm (.mk o n i t l)
theorem rcopyTy_oneG {kd:Int} {nm:ByteArray} {l:List Ty} (IH:∀ t,t∈l→RCpC bz t) (hn1:l.length≤2932031007402):RCpC bz (.mk kd nm l):=by
 intro w ok tk hk
 obtain⟨a,n,c,rfl⟩:=hk.slice
 have hn:n=l.length:=hk.len
 subst hn
 have hk':TyL bz ok w l (.slice a l.length c):=hk
 clear hk
 have HIH:=Ld IH
 have HN1:=Ld hn1
 clear IH hn1
 have HAT:=Ld (fun W (k:Kept (fun _=>False) w W)=>(hk'.frame (sK k)).at)
 clear hk'
 change Calls Tryz.prog 64 #[.agg #[.int .i64 kd,.string nm,.slice a l.length c]] w _
 have b3:=Blk.new' (w:=(w.alloc (.cells #[.int .i64 kd,.string nm,.slice a l.length c] 24)).alloc (.cells #[.int .i64 0,.string ⟨#[]⟩,.slice none 0 0] 24)) (g:=w.heap.size+2) 24 [.int .i64 kd,.string nm,.slice none 0 0] (by simp)
 have bA:=(((Blk.new w 24 [.int .i64 kd,.string nm,.slice a l.length c]).alloc (.cells #[.int .i64 0,.string ⟨#[]⟩,.slice none 0 0] 24)).alloc (.cells #[.int .i64 kd,.string nm,.slice none 0 0] 24))
 have bR:=((Blk.new' (w:=w.alloc (.cells #[.int .i64 kd,.string nm,.slice a l.length c] 24)) (g:=w.heap.size+1) 24 [.int .i64 0,.string ⟨#[]⟩,.slice none 0 0] (by simp)).alloc (.cells #[.int .i64 kd,.string nm,.slice none 0 0] 24))
 have K0:Kept (fun _=>False) w (((w.alloc (.cells #[.int .i64 kd,.string nm,.slice a l.length c] 24)).alloc (.cells #[.int .i64 0,.string ⟨#[]⟩,.slice none 0 0] 24)).alloc (.cells #[.int .i64 kd,.string nm,.slice none 0 0] 24)):=((kR.alloc _).alloc _).alloc _
 have HRC:Hid (RC bz w kd nm l a c 0 (((w.alloc (.cells #[.int .i64 kd,.string nm,.slice a l.length c] 24)).alloc (.cells #[.int .i64 0,.string ⟨#[]⟩,.slice none 0 0] 24)).alloc (.cells #[.int .i64 kd,.string nm,.slice none 0 0] 24)) [] (.slice none 0 0)):=Ld
  ⟨K0,bA,bR,b3,World.ownsRow_nil _ _ _ _,(fun e he=>by cases he),rfl,by simp⟩
 clear b3 bA bR K0
 go_enter Tryz.func64,Tryz.ntmps64
 go_wp2_with fail
 go_loopw [4] (fun i wr=>∃ (k:Nat) (E:List E2) (v:Value),k≤l.length∧i=.int .i64 k∧RC bz w kd nm l a c k wr E v) (fun i _=>l.length-(intOf i).toNat)
 case atStart=>exact⟨0,[],_,Nat.zero_le _,rfl,HRC.out⟩
 case round=>
  clear HRC
  obtain⟨k,E,v,hkl,rfl,h⟩:=hrel
  obtain⟨va,vn,vc,rfl⟩:=(tyl_of_row (ok:=fun _=>True) h.own (h.el.mono (fun _ _ _=>trivial)) (fun _ _=>trivial)).slice
  have gA:∀ i,wr.cell? ⟨w.heap.size,i,none⟩=[Value.int .i64 kd,.string nm,.slice a l.length c][i]?:=h.a.cell
  have gO:∀ i,wr.cell? ⟨w.heap.size+1+1,i,none⟩=[Value.int .i64 kd,.string nm,.slice va vn vc][i]?:=h.o.cell
  have gR:∀ i,wr.cell? ⟨w.heap.size+1,i,none⟩=[Value.int .i64 0,.string ⟨#[]⟩,.slice none 0 0][i]?:=h.r.cell
  have fO:∀ i,wr.frozen? ⟨w.heap.size+1+1,i,none⟩=false:=h.o.frozen
  have fR:∀ i,wr.frozen? ⟨w.heap.size+1,i,none⟩=false:=h.r.frozen
  have lO:=h.o.lt
  have H:=Ld h
  clear h
  by_cases hlt:k<l.length
  ·have hn2:=HN1.out
   have i1:(k:Int)<(l.length:Int):=by omega
   have i2:(k:Int)<2932031007402:=by omega
   obtain⟨g,off,ta,tn,tc,rfl,_,lg,⟨c0,c1,c2⟩,hty⟩:=HAT.out wr H.out.kp k hlt
   have hcon:=Ld ((HIH.out _ (List.getElem_mem hlt)) wr.drew ok _ (hty.frame (Same.drew _)))
   unfold tyVal at hcon
   have hlen:=Ld H.out.len
   have hmx:Hid (E.length+1≤maxLen):=Ld (by have:=hlen.out;unfold maxLen;omega)
   have hby:Hid ((E.length+1)*48≤140737488355328):=Ld (by have:=hlen.out;omega)
   obtain⟨i26,hi26,hz26,hs26,hb26⟩:=info_ty
   have HI26:=Ld hi26
   have HZ26:=Ld hz26
   have HS26:=Ld hs26
   have HB26:=Ld hb26
   clear hty hn2 hi26 hz26 hs26 hb26
   go_upto_region 5 with (fail)
   go_region_law (first | (refine step_append_lies _ (by rfl) _ _ _ (by rfl) (w.heap.size+3) 24 i26 _ 3 48 Tryz.underlying22 HI26.out HZ26.out HS26.out HB26.out rfl (by decide) (.slice va vn vc) E.length (flatY E) (by rfl) (own6.alloc _) ⟨w6.heap.size,0,none⟩ 1 1 (tyCells l[k] (.slice ua un uc)) (by rfl) rfl (newsT (Blk.new w6 24 (tyCells l[k] (.slice ua un uc)))) oneY (by omega) hmx.out hby.out (by simp;omega) (w6.heap.size+1) (by simp) ?_;intro gg cap w8 own8 hgrow hatg hltg;have hO8:=(hO6.alloc (.cells #[.int .i64 l[k].kind,.string l[k].name,.slice ua un uc] 24)).kept (kept_grown hgrow) (fun e=>hvS e);have q8:w8.cell? ⟨w.heap.size+1+1,2,none⟩=some (.slice va vn vc):=hO8.cell 2;have f8:w8.frozen? ⟨w.heap.size+1+1,2,none⟩=false:=hO8.frozen 2) | (go_simp;go_at_call 64;refine hcon.out.mono ?_;rintro e w6 ⟨u,rfl,hu,k6'⟩;obtain⟨ua,un,uc,rfl⟩:=hu.slice;have k6:Kept (fun _=>False) wr w6:=(kR.drew).trans k6';have hO6:=H.out.o.kept k6 (fun h=>h);have own6:=own_keptT H.out.own k6 (fun _ _ h=>h);have gO6:∀ i,w6.cell? ⟨w.heap.size+1+1,i,none⟩=[Value.int .i64 kd,.string nm,.slice va vn vc][i]?:=hO6.cell;have hvS:(Value.slice va vn vc).ownBlock≠some (w.heap.size+2):=(fun e=>by have:=(own6.lt _ e).1;omega);have l6:=hO6.lt))
   all_goals
    have HX:=Ld (RC.step H.out hlt k6 (hu.mono (fun q _ h=>h)) rfl _ own8 hgrow hatg)
    clear hO6 hO8 own6 own8 hgrow hu k6' hcon
    go_wp2_with fail
    go_roundw
    case rel=>exact⟨k+1,_,_,by omega,by go_num,HX.out⟩
    case measure=>simp[intOf];omega
  ·have hkk:k=l.length:=by omega
   subst hkk
   go_wp2_with fail
   have bF:=r3' (x:=.int .i64 kd) (y:=.string nm) (z:=.slice va vn vc) H.out.r rfl
   have hml:=tyl_of_row (ok:=fun q=>w.heap.size+3≤q) H.out.own (H.out.el.mono (fun _ _ h=>h.1)) (fun g hg=>(H.out.own.lt g hg).1)
   rw[H.out.mp,List.take_length] at hml
   refine bodyPost_ret (results_one Tryz.results64 rfl (load_ty (t:=.mk kd nm l) bF)) rfl ⟨_,rfl,?_,?_⟩
   ·exact (hml.frame (set3 (g:=w.heap.size+1) (fun q h=>by omega))).mono (fun q _ h=>by omega)
   ·exact ((H.out.kp.setCell (p:=⟨w.heap.size+1,0,none⟩) (Or.inr (by show w.heap.size≤w.heap.size+1;omega)) _).setCell (p:=⟨w.heap.size+1,1,none⟩) (Or.inr (by show w.heap.size≤w.heap.size+1;omega)) _).setCell (p:=⟨w.heap.size+1,2,none⟩) (Or.inr (by show w.heap.size≤w.heap.size+1;omega)) _
theorem rcopyTy_anyG {t:Ty} (hb:BgTy t):RCpC bz t:=by
 induction hb with
 | mk hn hl ih=>exact rcopyTy_oneG ih hn
theorem rcopies_anyG {l:List Tm} {ok:Nat→Prop} {w:World} {a:Option Addr} {n c:Nat} (IH:∀ t,t∈l→RClC bz t) (hn1:l.length≤1353245080339) (hk:TmL bz ok w l (.slice a n c)):
  Calls Tryz.prog 65 #[.slice a n c] w fun e w'=>∃ (E:List E3) (v:Value),e=.returned v∧RowT bz w w.heap.size w' E v∧E.map (·.1)=l:=by
 have hn:n=l.length:=hk.len
 subst hn
 have HIH:=Ld IH
 have HN1:=Ld hn1
 have HAT:=Ld (fun W (k:Kept (fun _=>False) w W)=>(hk.frame (sK k)).at)
 clear IH hn1 hk
 go_enter Tryz.func65,Tryz.ntmps65
 go_wp2_with fail
 go_loopw [3,4] (fun v i wr=>∃ (k:Nat) (E:List E3),k≤l.length∧i=.int .i64 k∧RowT bz w w.heap.size wr E v∧E.map (·.1)=l.take k) (fun v i _=>l.length-(intOf i).toNat)
 case atStart=>exact⟨0,[],Nat.zero_le _,rfl,RowT.nil kR,by simp⟩
 case round=>
  obtain⟨k,E,hkl,rfl,h,hmp⟩:=hrel
  obtain⟨va,vn,vc,rfl⟩:=h.tml.slice
  have hEk:E.length=k:=by have:=congrArg List.length hmp;simpa [Nat.min_eq_left hkl] using this
  have H:=Ld h
  have HM:=Ld hmp
  have HE:=Ld hEk
  clear h hmp hEk
  by_cases hlt:k<l.length
  ·have hn2:=HN1.out
   have i1:(k:Int)<(l.length:Int):=by omega
   have i2:(k:Int)<1353245080339:=by omega
   obtain⟨g,off,ta,tn,tc,ma,mn,mc,rfl,_,lg,⟨c0,c1,c2,c3,c4,c5,c6⟩,hty,htm⟩:=HAT.out wr H.out.kp k hlt
   have hcon:=Ld ((HIH.out _ (List.getElem_mem hlt)) wr ok _ _ hty htm)
   unfold tmVal at hcon
   obtain⟨i28,hi28,hz28,hs28,hb28⟩:=info_tm
   have HI:=Ld hi28
   have HZ:=Ld hz28
   have HS:=Ld hs28
   have HB:=Ld hb28
   clear hty htm hn2 hi28 hz28 hs28 hb28
   go_wp2_with fail
   refine hcon.out.mono ?_
   rintro e w6 ⟨tk,F,kk,rfl,hty6,hr6,hm6⟩
   have htm6:TmL bz (fun q=>wr.heap.size≤q) w6 l[k].kids kk:=by rw[← hm6];exact hr6.tml
   obtain⟨ua,un,uc,rfl⟩:=hty6.slice
   obtain⟨ud,ue,uf,rfl⟩:=htm6.slice
   have k6:=hr6.kp
   have H6:=H.out.kept k6
   unfold tmVal
   go_wp2_with (at_builtin;refine wpList_append_lies _ rfl _ _ _ rfl w.heap.size 27 i28 _ 7 104 Tryz.underlying25 HI.out HZ.out HS.out HB.out rfl (by decide) (.slice va vn vc) E.length (flat E) rfl (H6.own.alloc _) ⟨w6.heap.size,0,none⟩ 1 1 (tmCells l[k] (.slice ua un uc) (.slice ud ue uf)) rfl rfl (newsT (Blk.new w6 27 (tmCells l[k] (.slice ua un uc) (.slice ud ue uf)))) oneT (by omega) ?_ ?_ ?_ (w6.heap.size+1) (by simp) ?_)
   ·have:=HE.out;unfold maxLen;omega
   ·have:=HE.out;omega
   ·have:=H6.kp.size;simp;omega
   ·intro gg cap w8 own8 hgrow hatg hltg
    have HX:=Ld (RowT.step (Nat.le_refl _) H.out k6 H.out.kp.size (hty6.mono (fun q _ h=>h.1)) htm6 own8 _ hgrow hatg rfl)
    clear own8 hgrow hty6 hr6 htm6 H6
    go_wp2_with fail
    go_roundw
    case rel=>exact⟨k+1,_,by omega,by go_num,HX.out,by rw[List.map_append,HM.out,List.take_succ_eq_append_getElem hlt];rfl⟩
    case measure=>simp[intOf];omega
  ·have hkk:k=l.length:=by omega
   subst hkk
   go_wp2_with fail
   go_ret
   exact⟨E,_,rfl,H.out,by rw[HM.out,List.take_length]⟩
theorem rcopy_oneG {op:Int} {nm:ByteArray} {N:Int} {ty:Ty} {l:List Tm} (hty:BgTy ty) (IH:∀ u,u∈l→RClC bz u) (hn:l.length≤1353245080339):RClC bz (.mk op nm N ty l):=by
 intro w ok tk kk h1 h2
 have h1:TyL bz ok w ty.kids tk:=h1
 have h2:TmL bz ok w l kk:=h2
 obtain⟨a,n,c,rfl⟩:=h1.slice
 obtain⟨ma,mn,mc,rfl⟩:=h2.slice
 have HT:=Ld (fun W (k:Kept (fun _=>False) w W)=>rcopyTy_anyG hty W ok _ (h1.frame (sK k)))
 have HK:=Ld (fun W (k:Kept (fun _=>False) w W)=>rcopies_anyG IH hn (h2.frame (sK k)))
 unfold tyVal at HT
 change Calls Tryz.prog 26 #[.agg #[.int .i64 op,.string nm,.int .i64 N,.int .i64 ty.kind,.string ty.name,.slice a n c,.slice ma mn mc]] w _
 clear h1 h2 IH
 have bA:Blk ((w.alloc (.cells #[.int .i64 op,.string nm,.int .i64 N,.int .i64 ty.kind,.string ty.name,.slice a n c,.slice ma mn mc] 27)).alloc Z7) w.heap.size 27 [.int .i64 op,.string nm,.int .i64 N,.int .i64 ty.kind,.string ty.name,.slice a n c,.slice ma mn mc]:=(Blk.new w 27 _).alloc _
 have bR:Blk ((w.alloc (.cells #[.int .i64 op,.string nm,.int .i64 N,.int .i64 ty.kind,.string ty.name,.slice a n c,.slice ma mn mc] 27)).alloc Z7) (w.heap.size+1) 27 z27:=Blk.new' 27 _ (by simp)
 have K0:Kept (fun _=>False) w ((w.alloc (.cells #[.int .i64 op,.string nm,.int .i64 N,.int .i64 ty.kind,.string ty.name,.slice a n c,.slice ma mn mc] 27)).alloc Z7):=(kR.alloc _).alloc _
 go_enter Tryz.func26,Tryz.ntmps26
 go_upto_region 1 with (fail)
 refine wp_gen (F:=fun W3=>Kept (fun _=>False) w W3∧W3.heap.size=w.heap.size+2∧Blk W3 w.heap.size 27 [.int .i64 op,.string nm,.int .i64 N,.int .i64 ty.kind,.string ty.name,.slice a n c,.slice ma mn mc]∧Blk W3 (w.heap.size+1) 27 z27) ⟨K0,by simp,bA,bR⟩ ?_
 clear K0 bA bR
 rintro w1 ⟨K1,z1,bA,bR⟩
 have gA:∀ i,w1.cell? ⟨w.heap.size,i,none⟩=[Value.int .i64 op,.string nm,.int .i64 N,.int .i64 ty.kind,.string ty.name,.slice a n c,.slice ma mn mc][i]?:=bA.cell
 have Z1:=Ld z1
 have KK1:=Ld K1
 have BA:=Ld bA
 have BR:=Ld bR
 have lA:=bA.lt
 have lR:=bR.lt
 have nA:w.heap.size≠w1.heap.size:=by omega
 have nA2:w1.heap.size≠w.heap.size:=by omega
 clear z1 K1 bA bR
 have x0:w1.cell? ⟨w.heap.size,0,none⟩=some (.int .i64 op):=gA 0
 have x1:w1.cell? ⟨w.heap.size,1,none⟩=some (.string nm):=gA 1
 have x2:w1.cell? ⟨w.heap.size,2,none⟩=some (.int .i64 N):=gA 2
 have x3:w1.cell? ⟨w.heap.size,3,none⟩=some (.int .i64 ty.kind):=gA 3
 have x4:w1.cell? ⟨w.heap.size,4,none⟩=some (.string ty.name):=gA 4
 have x5:w1.cell? ⟨w.heap.size,5,none⟩=some (.slice a n c):=gA 5
 go_region_held3 (fun w'=>w'.cell? ⟨w.heap.size,0,none⟩=some (.int .i64 op)∧w'.cell? ⟨w.heap.size,1,none⟩=some (.string nm)∧w'.cell? ⟨w.heap.size,2,none⟩=some (.int .i64 N)∧w'.cell? ⟨w.heap.size,3,none⟩=some (.int .i64 ty.kind)∧w'.cell? ⟨w.heap.size,4,none⟩=some (.string ty.name)∧w'.cell? ⟨w.heap.size,5,none⟩=some (.slice a n c)) (go_keep) (first | (go_at_call 64;refine (HT.out _ (by first | exact KK1.out.drew | exact KK1.out.drew.alloc _ | exact (KK1.out.alloc _).drew)).mono ?_;rintro e w4 ⟨v,rfl,hv,k4⟩;obtain⟨va,vn,vc,rfl⟩:=hv.slice;have k5:Kept (fun _=>False) w1 w4:=(by first | exact kR.drew.trans k4 | exact (kR.drew.alloc _).trans k4);have lA4:=(BA.out.kept k5 (fun h=>h)).lt;(try (have bO:Blk w4 w1.heap.size 27 [.int .i64 0,.string ⟨#[]⟩,.int .i64 0,.int .i64 0,.string ⟨#[]⟩,.slice none 0 0,.slice none 0 0]:=(by first | exact ((Blk.new w1 27 [.int .i64 0,.string ⟨#[]⟩,.int .i64 0,.int .i64 0,.string ⟨#[]⟩,.slice none 0 0,.slice none 0 0]).drew).kept k4 (fun h=>h) | exact (Blk.new w1.drew 27 [.int .i64 0,.string ⟨#[]⟩,.int .i64 0,.int .i64 0,.string ⟨#[]⟩,.slice none 0 0,.slice none 0 0]).kept k4 (fun h=>h));have gO:∀ i,w4.cell? ⟨w1.heap.size,i,none⟩=[Value.int .i64 0,.string ⟨#[]⟩,.int .i64 0,.int .i64 0,.string ⟨#[]⟩,.slice none 0 0,.slice none 0 0][i]?:=bO.cell;have fO:∀ i,w4.frozen? ⟨w1.heap.size,i,none⟩=false:=bO.frozen;have lO:=bO.lt));have y0:w4.cell? ⟨w.heap.size,0,none⟩=some (.int .i64 op):=(BA.out.kept k5 (fun h=>h)).cell 0;have y1:w4.cell? ⟨w.heap.size,1,none⟩=some (.string nm):=(BA.out.kept k5 (fun h=>h)).cell 1;have y2:w4.cell? ⟨w.heap.size,2,none⟩=some (.int .i64 N):=(BA.out.kept k5 (fun h=>h)).cell 2;have y3:w4.cell? ⟨w.heap.size,3,none⟩=some (.int .i64 ty.kind):=(BA.out.kept k5 (fun h=>h)).cell 3;have y4:w4.cell? ⟨w.heap.size,4,none⟩=some (.string ty.name):=(BA.out.kept k5 (fun h=>h)).cell 4;have y5:w4.cell? ⟨w.heap.size,5,none⟩=some (.slice a n c):=(BA.out.kept k5 (fun h=>h)).cell 5))
 all_goals
  first
  | (have HX:=Ld (CT.late (KK1.out.trans k5) (BA.out.kept k5 (fun h=>h)) (BR.out.kept k5 (fun h=>h)) (hv.mono (fun q _ hq=>by have:=Z1.out;have hq2:w1.heap.size≤q:=hq;omega)))
     generalize hOO:w4.heap.size=O at *
     generalize w4.alloc (.cells #[.int .i64 op,.string nm,.int .i64 N,.int .i64 ty.kind,.string ty.name,.slice va vn vc,.slice none 0 0] 27)=w5 at *
     clear hOO)
  | (have HX:=Ld (CT.early (O:=w1.heap.size) (KK1.out.trans k5) (BA.out.kept k5 (fun h=>h)) (BR.out.kept k5 (fun h=>h)) bO (by have:=Z1.out;omega) (hv.mono (fun q _ hq=>by have:=Z1.out;have hq2:w1.heap.size+1≤q:=(by simpa using hq);omega)))
     generalize hOO:w1.heap.size=O at *
     generalize (((((((w4.setCell ⟨O,0,none⟩ (.int .i64 op)).setCell ⟨O,1,none⟩ (.string nm)).setCell ⟨O,2,none⟩ (.int .i64 N)).setCell ⟨O,3,none⟩ (.int .i64 ty.kind)).setCell ⟨O,4,none⟩ (.string ty.name)).setCell ⟨O,5,none⟩ (.slice va vn vc)).setCell ⟨O,6,none⟩ (.slice none 0 0))=w5 at *
     clear hOO)
 all_goals
  have h6:Hid (Calls Tryz.prog 65 #[.slice ma mn mc] w5 fun e w'=>∃ (E:List E3) (v:Value),e=.returned v∧RowT bz w5 w5.heap.size w' E v∧E.map (·.1)=l):=Ld (HK.out w5 HX.out.kp)
  clear HK HT hv KK1 Z1 BA BR k4 k5 gA x0 x1 x2 x3 x4 x5
  have gA5:∀ i,w5.cell? ⟨w.heap.size,i,none⟩=[Value.int .i64 op,.string nm,.int .i64 N,.int .i64 ty.kind,.string ty.name,.slice a n c,.slice ma mn mc][i]?:=HX.out.a.cell
  go_wp2_with fail
  refine h6.out.mono ?_
  rintro e w6 ⟨E,u,rfl,R6,hm6⟩
  have HX6:=Ld (HX.out.kept R6.kp)
  have gO6:∀ i,w6.cell? ⟨O,i,none⟩=[Value.int .i64 op,.string nm,.int .i64 N,.int .i64 ty.kind,.string ty.name,.slice va vn vc,.slice none 0 0][i]?:=HX6.out.o.cell
  have fO6:∀ i,w6.frozen? ⟨O,i,none⟩=false:=HX6.out.o.frozen
  have gR6:∀ i,w6.cell? ⟨w.heap.size+1,i,none⟩=[Value.int .i64 0,.string ⟨#[]⟩,.int .i64 0,.int .i64 0,.string ⟨#[]⟩,.slice none 0 0,.slice none 0 0][i]?:=HX6.out.r.cell
  have fR6:∀ i,w6.frozen? ⟨w.heap.size+1,i,none⟩=false:=HX6.out.r.frozen
  have nO:O≠w.heap.size+1:=by have:=HX6.out.ho;omega
  have nO2:w.heap.size+1≠O:=by have:=HX6.out.ho;omega
  have lO5:=HX.out.o.lt
  obtain⟨ua,un,uc,rfl⟩:=R6.tml.slice
  have hv6:TyL bz (fun q=>w.heap.size+2≤q∧q≠O∧(Value.slice ua un uc).ownBlock≠some q) w6 ty.kids (.slice va vn vc):=
   (HX.out.ty.mono (ok':=fun q=>(w.heap.size+2≤q∧q≠O)∧q<w5.heap.size) (fun q hq h=>⟨h,hq⟩)).frame (sK R6.kp) |>.mono (fun q _ h=>⟨h.1.1,h.1.2,fun e=>by have:=(R6.own.lt q e).1;omega⟩)
  have HM:=Ld hm6
  have HD:=Ld (CT.done HX6.out R6.kp.size lO5 R6.own R6.el hm6 hv6 _ rfl)
  clear gA5 HX R6 hm6 hv6 h6 lO5
  go_wp2_with fail
  exact bodyPost_ret (results_one Tryz.results26 rfl (load_tm (t:=.mk op nm N ty l) HD.out.1)) rfl ⟨_,E,_,rfl,HD.out.2.1,HD.out.2.2,HM.out⟩
theorem rcopy_anyG {t:Tm} (hb:BgTm t):RClC bz t:=by
 induction hb with
 | mk hn ht hl ih=>exact rcopy_oneG ht ih hn
theorem rsame_oneG {kd:Int} {nm:ByteArray} {l:List Ty} (IH:∀ u,u∈l→EqyC bz 54 u) (hn:l.length≤2932031007402):EqyC bz 54 (.mk kd nm l):=by
 rintro⟨kd',nm',l'⟩ w ok ok' tk tk' h h'
 have h:TyL bz ok w l tk:=h
 have h':TyL bz ok' w l' tk':=h'
 obtain⟨a,n,c,rfl⟩:=h.slice
 obtain⟨a',n',c',rfl⟩:=h'.slice
 obtain rfl:n=l.length:=h.len
 obtain rfl:n'=l'.length:=h'.len
 have HIH:=Ld IH
 have HAT:=Ld (fun W (k:Kept (fun _=>False) w W)=>(h.frame (sK k)).at)
 have HAT':=Ld (fun W (k:Kept (fun _=>False) w W)=>(h'.frame (sK k)).at)
 clear h h' IH
 change Calls Tryz.prog 54 #[.agg #[.int .i64 kd,.string nm,.slice a l.length c],.agg #[.int .i64 kd',.string nm',.slice a' l'.length c']] w _
 have bA:Blk ((w.alloc (.cells #[.int .i64 kd,.string nm,.slice a l.length c] 24)).alloc (.cells #[.int .i64 kd',.string nm',.slice a' l'.length c'] 24)) w.heap.size 24 [.int .i64 kd,.string nm,.slice a l.length c]:=(Blk.new w 24 _).alloc _
 have bB:Blk ((w.alloc (.cells #[.int .i64 kd,.string nm,.slice a l.length c] 24)).alloc (.cells #[.int .i64 kd',.string nm',.slice a' l'.length c'] 24)) (w.heap.size+1) 24 [.int .i64 kd',.string nm',.slice a' l'.length c']:=Blk.new' 24 _ (by simp)
 have K1:Kept (fun _=>False) w ((w.alloc (.cells #[.int .i64 kd,.string nm,.slice a l.length c] 24)).alloc (.cells #[.int .i64 kd',.string nm',.slice a' l'.length c'] 24)):=(kR.alloc _).alloc _
 have HD:=Ld (show tyEq (.mk kd nm l) (.mk kd' nm' l')=(decide (kd=kd')&&decide (nm=nm')&&tysEq l l') from rfl)
 by_cases e1:kd=kd'
 case neg=>
  have t1:(kd==kd')=false:=by simpa using e1
  have t2:(kd != kd')=true:=by simpa using e1
  have HR:Hid (tyEq (.mk kd nm l) (.mk kd' nm' l')=false):=Ld (by rw[HD.out];simp[e1])
  clear e1
  go_enter Tryz.func54,Tryz.ntmps54
  go_wp2_with fail
  go_ret
  exact⟨by rw[HR.out];rfl,K1⟩
 subst e1
 cases e2:(nm.toList==nm'.toList)
 case false=>
  have t2:(nm.toList != nm'.toList)=true:=by rw[bne,e2];rfl
  have HR:Hid (tyEq (.mk kd nm l) (.mk kd nm' l')=false):=Ld (by rw[HD.out,← nm_eq,e2];simp)
  go_enter Tryz.func54,Tryz.ntmps54
  go_wp2_with fail
  go_ret
  exact⟨by rw[HR.out];rfl,K1⟩
 have t2:(nm.toList != nm'.toList)=false:=by rw[bne,e2];rfl
 have HD2:Hid (tyEq (.mk kd nm l) (.mk kd nm' l')=tysEq l l'):=Ld (by rw[HD.out,← nm_eq,e2];simp)
 clear HD
 by_cases e3:l.length=l'.length
 case neg=>
  have t3:((l.length:Int) != (l'.length:Int))=true:=by simp;omega
  have t4:((l.length:Int)==(l'.length:Int))=false:=by simp;omega
  have HR:Hid (tyEq (.mk kd nm l) (.mk kd nm' l')=false):=Ld (by rw[HD2.out,tysEq_len _ _ e3])
  clear e3
  go_enter Tryz.func54,Tryz.ntmps54
  go_wp2_with fail
  go_ret
  exact⟨by rw[HR.out];rfl,K1⟩
 have E3:=Ld e3
 rw[← e3] at bA bB K1 ⊢
 clear e3
 go_enter Tryz.func54,Tryz.ntmps54
 go_wp2_with fail
 generalize ((w.alloc (.cells #[.int .i64 kd,.string nm,.slice a l.length c] 24)).alloc (.cells #[.int .i64 kd,.string nm',.slice a' l.length c'] 24))=w1 at *
 go_loopw [5] (fun i wr=>∃ j:Nat,j≤l.length∧i=.int .i64 j∧Kept (fun _=>False) w1 wr∧Hid (tysEq l l'=tysEq (l.drop j) (l'.drop j))) (fun i _=>l.length-(intOf i).toNat)
 case atStart=>exact⟨0,Nat.zero_le _,rfl,Kept.refl _ _,Ld rfl⟩
 case round=>
  obtain⟨j,hj,rfl,kr,hq⟩:=hrel
  have g2:wr.cell? ⟨w.heap.size,2,none⟩=some (.slice a l.length c):=(bA.kept kr (fun h=>h)).cell 2
  have g2':wr.cell? ⟨w.heap.size+1,2,none⟩=some (.slice a' l.length c'):=(bB.kept kr (fun h=>h)).cell 2
  by_cases hlt:j<l.length
  ·have KR:=K1.trans kr
   have hlt':j<l'.length:=by rw[← E3.out];exact hlt
   obtain⟨g,off,ta,tn,tc,rfl,_,lg,⟨c0,c1,c2⟩,hty⟩:=HAT.out wr KR j hlt
   obtain⟨g',off',ta',tn',tc',rfl,_,lg',⟨d0,d1,d2⟩,hty'⟩:=HAT'.out wr KR j hlt'
   have hcon:=Ld (fun (W:World) (kW:Kept (fun _=>False) wr W)=>HIH.out _ (List.getElem_mem hlt) l'[j] W ok ok' _ _ (hty.frame (Same.of_kept kW (fun k h e=>e))) (hty'.frame (Same.of_kept kW (fun k h e=>e))))
   unfold tyVal at hcon
   have HS:=Ld (tysEq_drop hlt hlt')
   clear hty hty'
   have hj2:(j:Int)<(l.length:Int):=by omega
   have hj3:(j:Int)<2932031007402:=by omega
   go_wp2_with fail
   go_still_tail 10,(by kernel_rfl)
   change wpList _ _ _ _ _ wr.drew
   have kd:Kept (fun _=>False) wr wr.drew:=kR.drew
   generalize wr.drew=w2 at *
   cases hr:tyEq l[j] l'[j]
   ·rw[hr] at hcon
    go_wp2_with (go_at_call 54;refine (hcon.out _ kd).mono ?_;rintro e w' ⟨rfl,k2⟩)
    go_ret
    exact⟨by rw[HD2.out,hq.out,HS.out,hr];rfl,K1.trans (kr.trans (kd.trans k2))⟩
   ·rw[hr] at hcon
    go_wp2_with (go_at_call 54;refine (hcon.out _ kd).mono ?_;rintro e w' ⟨rfl,k2⟩)
    go_roundw
    case rel=>exact⟨j+1,by omega,by go_num,kr.trans (kd.trans k2),Ld (by rw[hq.out,HS.out,hr];rfl)⟩
    case measure=>simp[intOf];omega
  ·have HZ:Hid (tysEq l l'=true):=Ld (by rw[hq.out,tysEq_end (by omega) (by rw[← E3.out];omega)])
   go_wp2_with fail
   go_ret
   exact⟨by rw[HD2.out,HZ.out];rfl,K1.trans kr⟩
theorem rsameTy_anyG {t:Ty} (hb:BgTy t):EqyC bz 54 t:=by
 induction hb with
 | mk hn hl ih=>exact rsame_oneG ih hn
theorem rsames_anyG {l l':List Tm} {w:World} {ok ok':Nat→Prop} {v v':Value} (IH:∀ u,u∈l→EqmC bz u) (hn:l.length≤1353245080339) (h:TmL bz ok w l v) (h':TmL bz ok' w l' v'):
  Calls Tryz.prog 55 #[v,v'] w fun e w'=>e=.returned (.bool (tmsEq l l'))∧Kept (fun _=>False) w w':=by
 obtain⟨a,n,c,rfl⟩:=h.slice
 obtain⟨a',n',c',rfl⟩:=h'.slice
 obtain rfl:n=l.length:=h.len
 obtain rfl:n'=l'.length:=h'.len
 have HIH:=Ld IH
 have HAT:=Ld (fun W (k:Kept (fun _=>False) w W)=>(h.frame (sK k)).at)
 have HAT':=Ld (fun W (k:Kept (fun _=>False) w W)=>(h'.frame (sK k)).at)
 clear h h' IH
 by_cases e3:l.length=l'.length
 case neg=>
  have t3:((l.length:Int) != (l'.length:Int))=true:=by simp;omega
  have t4:((l.length:Int)==(l'.length:Int))=false:=by simp;omega
  have HR:Hid (tmsEq l l'=false):=Ld (by rw[tmsEq_len _ _ e3])
  clear e3
  go_enter Tryz.func55,Tryz.ntmps55
  go_wp2_with fail
  go_ret
  exact⟨by rw[HR.out];rfl,Kept.refl _ _⟩
 have E3:=Ld e3
 rw[← e3]
 clear e3
 go_enter Tryz.func55,Tryz.ntmps55
 go_wp2_with fail
 go_loopw [5] (fun i wr=>∃ j:Nat,j≤l.length∧i=.int .i64 j∧Kept (fun _=>False) w wr∧Hid (tmsEq l l'=tmsEq (l.drop j) (l'.drop j))) (fun i _=>l.length-(intOf i).toNat)
 case atStart=>exact⟨0,Nat.zero_le _,rfl,Kept.refl _ _,Ld rfl⟩
 case round=>
  obtain⟨j,hj,rfl,kr,hq⟩:=hrel
  by_cases hlt:j<l.length
  ·have hlt':j<l'.length:=by rw[← E3.out];exact hlt
   obtain⟨g,off,ta,tn,tc,ma,mn,mc,rfl,_,lg,⟨c0,c1,c2,c3,c4,c5,c6⟩,hty,htm⟩:=HAT.out wr kr j hlt
   obtain⟨g',off',ta',tn',tc',ma',mn',mc',rfl,_,lg',⟨d0,d1,d2,d3,d4,d5,d6⟩,hty',htm'⟩:=HAT'.out wr kr j hlt'
   have hcon:=Ld (fun (W:World) (kW:Kept (fun _=>False) wr W)=>HIH.out _ (List.getElem_mem hlt) l'[j] W ok ok' _ _ _ _ (hty.frame (Same.of_kept kW (fun k h e=>e))) (htm.frame (Same.of_kept kW (fun k h e=>e))) (hty'.frame (Same.of_kept kW (fun k h e=>e))) (htm'.frame (Same.of_kept kW (fun k h e=>e))))
   unfold tmVal at hcon
   have HS:=Ld (tmsEq_drop hlt hlt')
   clear hty hty' htm htm'
   have hj2:(j:Int)<(l.length:Int):=by omega
   have hj3:(j:Int)<1353245080339:=by omega
   go_wp2_with fail
   go_still_tail 8,(by kernel_rfl)
   change wpList _ _ _ _ _ wr.drew
   have kd:Kept (fun _=>False) wr wr.drew:=kR.drew
   generalize wr.drew=w2 at *
   cases hr:tmEq l[j] l'[j]
   ·rw[hr] at hcon
    go_wp2_with (go_at_call 20;refine (hcon.out _ kd).mono ?_;rintro e w' ⟨rfl,k2⟩)
    go_ret
    exact⟨by rw[hq.out,HS.out,hr];rfl,kr.trans (kd.trans k2)⟩
   ·rw[hr] at hcon
    go_wp2_with (go_at_call 20;refine (hcon.out _ kd).mono ?_;rintro e w' ⟨rfl,k2⟩)
    go_roundw
    case rel=>exact⟨j+1,by omega,by go_num,kr.trans (kd.trans k2),Ld (by rw[hq.out,HS.out,hr];rfl)⟩
    case measure=>simp[intOf];omega
  ·have HZ:Hid (tmsEq l l'=true):=Ld (by rw[hq.out,tmsEq_end (by omega) (by rw[← E3.out];omega)])
   go_wp2_with fail
   go_ret
   exact⟨by rw[HZ.out];rfl,kr⟩
theorem rsameTm_oneG {op:Int} {nm:ByteArray} {N:Int} {ty:Ty} {l:List Tm} (hty:BgTy ty) (IH:∀ u,u∈l→EqmC bz u) (hn:l.length≤1353245080339):EqmC bz (.mk op nm N ty l):=by
 rintro⟨op',nm',N',ty',l'⟩ w ok ok' tk kk tk' kk' h1 h2 h3 h4
 have h1:TyL bz ok w ty.kids tk:=h1
 have h2:TmL bz ok w l kk:=h2
 have h3:TyL bz ok' w ty'.kids tk':=h3
 have h4:TmL bz ok' w l' kk':=h4
 obtain⟨a,n,c,rfl⟩:=h1.slice
 obtain⟨ma,mn,mc,rfl⟩:=h2.slice
 obtain⟨a',n',c',rfl⟩:=h3.slice
 obtain⟨ma',mn',mc',rfl⟩:=h4.slice
 change Calls Tryz.prog 20 #[.agg #[.int .i64 op,.string nm,.int .i64 N,.int .i64 ty.kind,.string ty.name,.slice a n c,.slice ma mn mc],.agg #[.int .i64 op',.string nm',.int .i64 N',.int .i64 ty'.kind,.string ty'.name,.slice a' n' c',.slice ma' mn' mc']] w _
 have bA:Blk ((w.alloc (.cells #[.int .i64 op,.string nm,.int .i64 N,.int .i64 ty.kind,.string ty.name,.slice a n c,.slice ma mn mc] 27)).alloc (.cells #[.int .i64 op',.string nm',.int .i64 N',.int .i64 ty'.kind,.string ty'.name,.slice a' n' c',.slice ma' mn' mc'] 27)) w.heap.size 27 [.int .i64 op,.string nm,.int .i64 N,.int .i64 ty.kind,.string ty.name,.slice a n c,.slice ma mn mc]:=(Blk.new w 27 _).alloc _
 have bB:Blk ((w.alloc (.cells #[.int .i64 op,.string nm,.int .i64 N,.int .i64 ty.kind,.string ty.name,.slice a n c,.slice ma mn mc] 27)).alloc (.cells #[.int .i64 op',.string nm',.int .i64 N',.int .i64 ty'.kind,.string ty'.name,.slice a' n' c',.slice ma' mn' mc'] 27)) (w.heap.size+1) 27 [.int .i64 op',.string nm',.int .i64 N',.int .i64 ty'.kind,.string ty'.name,.slice a' n' c',.slice ma' mn' mc']:=Blk.new' 27 _ (by simp)
 have K1:Kept (fun _=>False) w ((w.alloc (.cells #[.int .i64 op,.string nm,.int .i64 N,.int .i64 ty.kind,.string ty.name,.slice a n c,.slice ma mn mc] 27)).alloc (.cells #[.int .i64 op',.string nm',.int .i64 N',.int .i64 ty'.kind,.string ty'.name,.slice a' n' c',.slice ma' mn' mc'] 27)):=(kR.alloc _).alloc _
 have HT:=Ld (fun W (kW:Kept (fun _=>False) w W)=>rsameTy_anyG hty ty' W ok ok' _ _ (h1.frame (Same.of_kept kW (fun k h e=>e))) (h3.frame (Same.of_kept kW (fun k h e=>e))))
 have HS:=Ld (fun W (kW:Kept (fun _=>False) w W)=>rsames_anyG IH hn (h2.frame (Same.of_kept kW (fun k h e=>e))) (h4.frame (Same.of_kept kW (fun k h e=>e))))
 unfold tyVal at HT
 have HD:=Ld (show tmEq (.mk op nm N ty l) (.mk op' nm' N' ty' l')=(decide (op=op')&&decide (nm=nm')&&decide (N=N')&&tyEq ty ty'&&tmsEq l l') from rfl)
 clear h1 h2 h3 h4 IH
 generalize tmEq (.mk op nm N ty l) (.mk op' nm' N' ty' l')=rr at *
 by_cases e1:op=op'
 case neg=>
  have t1:(op==op')=false:=by simpa using e1
  have HR:Hid (rr=false):=Ld (by rw[HD.out];simp[e1])
  clear e1
  go_enter Tryz.func20,Tryz.ntmps20
  go_wp2_with fail
  go_ret
  exact⟨by rw[HR.out];rfl,K1⟩
 subst e1
 cases e2:(nm.toList==nm'.toList)
 case false=>
  have HR:Hid (rr=false):=Ld (by rw[HD.out,← nm_eq,e2];simp)
  go_enter Tryz.func20,Tryz.ntmps20
  go_wp2_with fail
  go_ret
  exact⟨by rw[HR.out];rfl,K1⟩
 by_cases e3:N=N'
 case neg=>
  have t1:(N==N')=false:=by simpa using e3
  have HR:Hid (rr=false):=Ld (by rw[HD.out];simp[e3])
  clear e3
  go_enter Tryz.func20,Tryz.ntmps20
  go_wp2_with fail
  go_ret
  exact⟨by rw[HR.out];rfl,K1⟩
 subst e3
 have HD2:Hid (rr=(tyEq ty ty'&&tmsEq l l')):=Ld (by rw[HD.out,← nm_eq,e2];simp)
 clear HD
 go_enter Tryz.func20,Tryz.ntmps20
 go_wp2_with fail
 generalize ((w.alloc (.cells #[.int .i64 op,.string nm,.int .i64 N,.int .i64 ty.kind,.string ty.name,.slice a n c,.slice ma mn mc] 27)).alloc (.cells #[.int .i64 op,.string nm',.int .i64 N,.int .i64 ty'.kind,.string ty'.name,.slice a' n' c',.slice ma' mn' mc'] 27))=w1 at *
 cases ht:tyEq ty ty'
 ·have HR:Hid (rr=false):=Ld (by rw[HD2.out,ht];rfl)
  refine (HT.out _ K1).mono ?_
  rintro e w2 ⟨rfl,k2⟩
  go_wp2_with fail
  go_ret
  exact⟨by rw[HR.out];rfl,K1.trans k2⟩
 ·have HR:Hid (rr=tmsEq l l'):=Ld (by rw[HD2.out,ht];rfl)
  refine (HT.out _ K1).mono ?_
  rintro e w2 ⟨rfl,k2⟩
  have gA2:∀ i,w2.cell? ⟨w.heap.size,i,none⟩=[Value.int .i64 op,.string nm,.int .i64 N,.int .i64 ty.kind,.string ty.name,.slice a n c,.slice ma mn mc][i]?:=(bA.kept k2 (fun h=>h)).cell
  have gB2:∀ i,w2.cell? ⟨w.heap.size+1,i,none⟩=[Value.int .i64 op,.string nm',.int .i64 N,.int .i64 ty'.kind,.string ty'.name,.slice a' n' c',.slice ma' mn' mc'][i]?:=(bB.kept k2 (fun h=>h)).cell
  go_wp2_with fail
  refine (HS.out _ (K1.trans k2)).mono ?_
  rintro e w3 ⟨rfl,k3⟩
  go_wp2_with fail
  go_ret
  exact⟨by rw[HR.out];rfl,(K1.trans k2).trans k3⟩
theorem rsameTm_anyG {t:Tm} (hb:BgTm t):EqmC bz t:=by
 induction hb with
 | mk hn ht hl ih=>exact rsameTm_oneG ht ih hn
end Go.Proofs.YtdmebjbkccjhbaaGreatDoor
namespace Go.Proofs.YtdmebjbkccjhbaaGreatDoor
section
variable {P:Program} {ops:Array Oper} {L:World→World→Prop} {T:Nat→Value→World→Prop} {PR:Nat→Nat→Value→Value→World→Prop}
def PrB (L:World→World→Prop) (T:Nat→Value→World→Prop) (PR:Nat→Nat→Value→Value→World→Prop) (i:Nat) (v:Value) (W w':World):Prop:=∀ j v',Up L (T j) v' W→PR i j v v' w'
def KT2 (L:World→World→Prop) (T:Nat→Value→World→Prop) (PR:Nat→Nat→Value→Value→World→Prop) (i:Nat) (o:Oper) (b:Act) (W:World) (a':Act) (w':World):Prop:=
 L W w'∧a'.defers=b.defers∧(match o.dst with | some d=>T i (a'.eval (.tmp d)) w'∧PrB L T PR i (a'.eval (.tmp d)) W w' | none=>True)
def stepM2 (P:Program) (ops:Array Oper) (L:World→World→Prop) (T:Nat→Value→World→Prop) (PR:Nat→Nat→Value→Value→World→Prop) (a0:Act) (w0:World) (i:Nat) (o:Oper):Prop:=
 ∀ W,L w0 W→allV ops L T (fun b=>if Region.wanted o (yielded ops b.tmps)=true then o.wp P b W (KT2 L T PR i o b W) (fun _ _ _=>False) else KT2 L T PR i o b W (b.put o.dst undef) W) W (depsOf o) a0
def stepE2 (P:Program) (ops:Array Oper) (L:World→World→Prop) (T:Nat→Value→World→Prop) (PR:Nat→Nat→Value→Value→World→Prop) (a0:Act) (w0:World) (i:Nat) (o:Oper):Prop:=
 ∀ W,L w0 W→allV ops L T (fun b=>∃ v,Yields P ops o v b∧T i v W∧PrB L T PR i v W W) W (depsOf o) a0
def stepA2 (P:Program) (ops:Array Oper) (L:World→World→Prop) (T:Nat→Value→World→Prop) (PR:Nat→Nat→Value→Value→World→Prop) (late:List Nat) (a0:Act) (w0:World) (i:Nat) (o:Oper):Prop:=
 stepE2 P ops L T PR a0 w0 i o∨(late.contains i=false∧stepM2 P ops L T PR a0 w0 i o)
def allM2 (P:Program) (ops:Array Oper) (L:World→World→Prop) (T:Nat→Value→World→Prop) (PR:Nat→Nat→Value→Value→World→Prop) (late tl:List Nat) (a0:Act) (w0:World):Nat→List Oper→Prop
 | _,[]=>True
 | i,o::os=>(tl.contains i=true∨stepA2 P ops L T PR late a0 w0 i o)∧allM2 P ops L T PR late tl a0 w0 (i+1) os
theorem allM_nil2 {late tl:List Nat} {a0:Act} {w0:World} {i:Nat}:allM2 P ops L T PR late tl a0 w0 i []:=trivial
theorem allM_cons2 {late tl:List Nat} {a0:Act} {w0:World} {i:Nat} {o:Oper} {os:List Oper} (hl:late.contains i=false) (h:stepM2 P ops L T PR a0 w0 i o) (h':allM2 P ops L T PR late tl a0 w0 (i+1) os):allM2 P ops L T PR late tl a0 w0 i (o::os):=⟨Or.inr (Or.inr ⟨hl,h⟩),h'⟩
theorem allM_tail2 {late tl:List Nat} {a0:Act} {w0:World} {i:Nat} {o:Oper} {os:List Oper} (h:tl.contains i=true) (h':allM2 P ops L T PR late tl a0 w0 (i+1) os):allM2 P ops L T PR late tl a0 w0 i (o::os):=⟨Or.inl h,h'⟩
theorem allM_at2 {late tl:List Nat} {a0:Act} {w0:World}:∀ {os:List Oper} {k i:Nat} {o:Oper},allM2 P ops L T PR late tl a0 w0 k os→os[i]?=some o→tl.contains (k+i)=false→stepA2 P ops L T PR late a0 w0 (k+i) o
 | [],_,_,_,_,h,_=>by simp at h
 | x::os,k,0,o,h,e,ht=>by
  simp only[List.getElem?_cons_zero,Option.some.injEq] at e;subst e
  rcases h.1 with h1 | h1
  ·rw[Nat.add_zero] at ht;rw[ht] at h1;cases h1
  ·exact h1
 | x::os,k,i+1,o,h,e,ht=>by
  rw[List.getElem?_cons_succ] at e
  have e2:k+(i+1)=k+1+i:=by omega
  rw[e2] at ht ⊢
  exact allM_at2 h.2 e ht
structure MInv2 (ops:Array Oper) (L:World→World→Prop) (T:Nat→Value→World→Prop) (PR:Nat→Nat→Value→Value→World→Prop) (tl:List Nat) (a0:Act) (w0:World) (s:Array Bool) (a:Act) (w:World):Prop where
 size:s.size=ops.size
 closed:∀ j oj,ops[j]?=some oj→s.getD j false=true→∀ e∈oj.after,Region.binds .any e=true→s.getD e.on false=true
 tail:∀ t,tl.contains t=true→s.getD t false=false
 kp:L w0 w
 df:a.defers=a0.defers
 tz:a.tmps.size=a0.tmps.size
 dn:∀ j d,s.getD j false=true→dstOf ops j=some d→Up L (T j) (a.eval (.tmp d)) w
 un:∀ t,(∀ j,j<ops.size→tl.contains j=false→dstOf ops j≠some t)→a.tmps[t]?=a0.tmps[t]?
 pr:∀ i j di dj,i≠j→s.getD i false=true→s.getD j false=true→dstOf ops i=some di→dstOf ops j=some dj→PR i j (a.eval (.tmp di)) (a.eval (.tmp dj)) w∨PR j i (a.eval (.tmp dj)) (a.eval (.tmp di)) w
theorem MInv2.set {tl:List Nat} {a0:Act} {w0 w:World} {s:Array Bool} {a:Act} {i:Nat} (inv:MInv2 ops L T PR tl a0 w0 s a w) (hi:i∈Region.ready .any ops s) (hit:tl.contains i=false):
  (s.setIfInBounds i true).size=ops.size∧(∀ j oj,ops[j]?=some oj→(s.setIfInBounds i true).getD j false=true→∀ e∈oj.after,Region.binds .any e=true→(s.setIfInBounds i true).getD e.on false=true)∧(∀ t,tl.contains t=true→(s.setIfInBounds i true).getD t false=false):=by
 obtain⟨_,oi,hoi,hall⟩:=mem_ready.1 hi
 refine⟨by simp[inv.size],fun j oj hj hl e he hb=>?_,fun t ht=>?_⟩
 ·by_cases hij:i=j
  ·subst hij
   have:oj=oi:=Option.some.inj (hj.symm.trans hoi)
   subst this
   exact getD_set_true (hall e he hb)
  ·rw[getD_set_ne false hij] at hl
   exact getD_set_true (inv.closed j oj hj hl e he hb)
 ·have hne:i≠t:=fun e=>by rw[e,ht] at hit;cases hit
  rw[getD_set_ne false hne];exact inv.tail t ht
theorem mono_at2 {tl late:List Nat} {a0:Act} {w0:World} (hPL:∀ i j v v' W W',L W W'→PR i j v v' W→PR i j v v' W') (hrf:∀ w,L w w) (htr:∀ a b c,L a b→L b c→L a c) (hB:monoB ops a0.tmps.size tl late=true)
  {i:Nat} {o:Oper} (hi:ops[i]?=some o) (hit:tl.contains i=false) {F:Act→Prop} {s:Array Bool} {a:Act} {w:World} (inv:MInv2 ops L T PR tl a0 w0 s a w) (hr:i∈Region.ready .any ops s) (hst:allV ops L T F w (depsOf o) a0):
  ∃ b:Act,F b∧execOp a.eval o=execOp b.eval o∧Region.wanted o (yielded ops a.tmps)=Region.wanted o (yielded ops b.tmps)∧b.tmps.size=a0.tmps.size ∧
   ∀ (v:Value) (w':World),L w w'→(∀ d,o.dst=some d→T i v w'∧PrB L T PR i v w w')→MInv2 ops L T PR tl a0 w0 (s.setIfInBounds i true) (a.put o.dst v) w':=by
 obtain⟨hun,o',ho',hall⟩:=mem_ready.1 hr
 rw[hi] at ho';cases ho'
 obtain⟨b1,b2,b3⟩:=monoB_op hB hit hi
 have hin:i<ops.size:=(Array.getElem?_eq_some_iff.1 hi).1
 have hsel:∀ cs b,o.op≠.select cs b:=by
  unfold monoB at hB
  simp only[Bool.and_eq_true] at hB
  exact fun cs b=>Region.noSelect_spec hB.1.1.1 i o cs b hi
 have hdep:∀ j,j∈depsOf o→s.getD j false=true:=by
  intro j hj
  unfold depsOf at hj
  obtain⟨e,he,rfl⟩:=List.mem_map.1 hj
  rw[List.mem_filter] at he
  exact hall e (Array.mem_toList_iff.1 he.1) he.2
 have h:=allV_at (c:=a) hst (fun j hj d hd=>inv.dn j d (hdep j hj) hd)
 have hev:∀ t,t∈o.looksAt ops→(putD ops a (depsOf o) a0).tmps[t]?=a.tmps[t]?:=by
  intro t ht
  refine putD_get inv.tz.symm ?_
  by_cases e:∃ j,j<ops.size∧tl.contains j=false∧dstOf ops j=some t
  ·obtain⟨j,hj,hjt,hd⟩:=e
   exact Or.inr ⟨j,b3 t ht j hj hjt hd,hd⟩
  ·exact Or.inl (inv.un t fun j hj hjt hd=>e ⟨j,hj,hjt,hd⟩).symm
 have hz:(putD ops a (depsOf o) a0).tmps.size=a0.tmps.size:=putD_size
 generalize putD ops a (depsOf o) a0=b at *
 have he:execOp a.eval o=execOp b.eval o:=by
  refine execOp_congr o hsel fun x hx=>?_
  cases x with
  | tmp t=>
   have ht:t∈o.looksAt ops:=List.mem_append_left _ (List.mem_filterMap.2 ⟨.tmp t,by simpa using hx,rfl⟩)
   have:=hev t ht
   simp[Act.eval,this]
  | _=>rfl
 have hw:Region.wanted o (yielded ops a.tmps)=Region.wanted o (yielded ops b.tmps):=by
  unfold Region.wanted
  cases hg:o.guard with
  | none=>rfl
  | some gw=>
   obtain⟨g,want⟩:=gw
   have hy:yielded ops a.tmps g=yielded ops b.tmps g:=by
    unfold yielded
    cases ht:(ops[g]?).bind (·.dst) with
    | none=>rfl
    | some t=>
     have hm:t∈o.looksAt ops:=List.mem_append_right _ (by simp[hg,ht])
     have:=hev t hm
     simp[this]
   simp only[hy]
 have hdst:dstOf ops i=o.dst:=by unfold dstOf;rw[hi];rfl
 -- the new state
 have next:∀ (v:Value) (w':World),L w w'→(∀ d,o.dst=some d→T i v w'∧PrB L T PR i v w w')→MInv2 ops L T PR tl a0 w0 (s.setIfInBounds i true) (a.put o.dst v) w':=by
  intro v w' hl ht
  obtain⟨q1,q2,q3⟩:=inv.set hr hit
  have evi:∀ d,dstOf ops i=some d→(a.put o.dst v).eval (.tmp d)=v:=by
   intro d hd
   rw[hdst] at hd
   rw[hd,eval_get]
   have hlt:d<a.tmps.size:=by rw[inv.tz];exact (b2 d hd).1
   simp[Act.put,hlt]
  have evn:∀ j d,j≠i→s.getD j false=true→dstOf ops j=some d→(a.put o.dst v).eval (.tmp d)=a.eval (.tmp d):=by
   intro j d e hj hd
   have hjs:j<ops.size:=by
    unfold dstOf at hd
    cases hq:ops[j]? with
    | none=>rw[hq] at hd;cases hd
    | some _=>exact (Array.getElem?_eq_some_iff.1 hq).1
   have hjt:tl.contains j=false:=by
    cases hc:tl.contains j with
    | false=>rfl
    | true=>rw[inv.tail j hc] at hj;cases hj
   have hne:∀ d',o.dst=some d'→d'≠d:=fun d' hd' q=>(b2 d' hd').2 j hjs hjt e (by rw[hd,q])
   rw[Act.eval_put (fun d' hd' q=>hne d' hd' (by cases q;rfl))]
  refine⟨q1,q2,q3,htr _ _ _ inv.kp hl,?_,?_,?_,?_,?_⟩
  ·rw[← inv.df];cases o.dst <;> rfl
  ·rw[← inv.tz];cases o.dst <;> simp[Act.put]
  ·intro j d hj hd
   by_cases e:j=i
   ·subst e
    rw[hdst] at hd
    rw[hd,eval_get]
    have hlt:d<a.tmps.size:=by rw[inv.tz];exact (b2 d hd).1
    have:((a.put (some d) v).tmps.getD d undef)=v:=by simp[Act.put,hlt]
    rw[this]
    exact⟨w',hrf w',(ht d hd).1⟩
   ·rw[getD_set_ne false (Ne.symm e)] at hj
    have hjs:j<ops.size:=by
     unfold dstOf at hd
     cases hq:ops[j]? with
     | none=>rw[hq] at hd;cases hd
     | some _=>exact (Array.getElem?_eq_some_iff.1 hq).1
    have hjt:tl.contains j=false:=by
     cases hc:tl.contains j with
     | false=>rfl
     | true=>rw[inv.tail j hc] at hj;cases hj
    obtain⟨w1,h1,h2⟩:=inv.dn j d hj hd
    have hne:∀ d',o.dst=some d'→d'≠d:=fun d' hd' q=>(b2 d' hd').2 j hjs hjt e (by rw[hd,q])
    refine⟨w1,htr _ _ _ h1 hl,?_⟩
    rw[Act.eval_put (fun d' hd' q=>hne d' hd' (by cases q;rfl))]
    exact h2
  ·intro t ht'
   cases hd:o.dst with
   | none=>exact inv.un t ht'
   | some d=>
    rw[put_get,if_neg (fun q=>ht' i hin hit (by rw[hdst,hd,q]))]
    exact inv.un t ht'
  ·intro i' j' di dj hne h1 h2 h3 h4
   by_cases e:i'=i
   ·subst e
    have hj:=(Ne.symm hne)
    rw[getD_set_ne false hne] at h2
    rw[evi di h3,evn j' dj hj h2 h4]
    have hu:=inv.dn j' dj h2 h4
    exact Or.inl ((ht di (by rw[← hdst];exact h3)).2 j' _ hu)
   ·rw[getD_set_ne false (Ne.symm e)] at h1
    by_cases e2:j'=i
    ·subst e2
     rw[evi dj h4,evn i' di e h1 h3]
     have hu:=inv.dn i' di h1 h3
     exact Or.inr ((ht dj (by rw[← hdst];exact h4)).2 i' _ hu)
    ·rw[getD_set_ne false (Ne.symm e2)] at h2
     rw[evn i' di e h1 h3,evn j' dj e2 h2 h4]
     exact (inv.pr i' j' di dj hne h1 h2 h3 h4).imp (hPL _ _ _ _ _ _ hl) (hPL _ _ _ _ _ _ hl)
 exact⟨b,h,he,hw,hz,next⟩
theorem mono_step2 {tl late:List Nat} {Q:Exit→Act→World→Prop} {a0:Act} {w0:World} (hPL:∀ i j v v' W W',L W W'→PR i j v v' W→PR i j v v' W') (hrf:∀ w,L w w) (htr:∀ a b c,L a b→L b c→L a c) (hB:monoB ops a0.tmps.size tl late=true)
  {i:Nat} {o:Oper} (hi:ops[i]?=some o) (hit:tl.contains i=false) (hst:stepA2 P ops L T PR late a0 w0 i o) {s:Array Bool} {a:Act} {w:World} (inv:MInv2 ops L T PR tl a0 w0 s a w) (hr:i∈Region.ready .any ops s) {K:Act→World→Prop}
  (hK:∀ a' w',MInv2 ops L T PR tl a0 w0 (s.setIfInBounds i true) a' w'→K a' w'):wpOp P ops Q i K a w:=by
 rcases hst with hst | ⟨_,hst⟩
 ·obtain⟨b,⟨v,hy,ht⟩,he,hw,_,next⟩:=mono_at2 hPL hrf htr hB hi hit inv hr (hst w inv.kp)
  exact (hy.of_same he hw).wpOp hi (hK _ _ (next v w (hrf w) (fun _ _=>ht)))
 obtain⟨b,h,he,hw,hz,next0⟩:=mono_at2 hPL hrf htr hB hi hit inv hr (hst w inv.kp)
 have next:∀ (v:Value) (w':World),L w w'→(∀ d,o.dst=some d→T i v w'∧PrB L T PR i v w w')→K (a.put o.dst v) w':=fun v w' hl ht=>hK _ _ (next0 v w' hl ht)
 obtain⟨b1,b2,b3⟩:=monoB_op hB hit hi
 unfold wpOp
 simp only[hi]
 rw[hw]
 split
 ·rename_i hwt
  rw[if_pos hwt] at h
  refine Or.inl ?_
  unfold Oper.wp at *
  rw[he]
  have evd:∀ d v,o.dst=some d→(b.put o.dst v).eval (.tmp d)=v:=by
   intro d v hd
   rw[hd,eval_get]
   have hlt:d<b.tmps.size:=by rw[hz];exact (b2 d hd).1
   simp[Act.put,hlt]
  have fin:∀ (v:Value) (w':World),KT2 L T PR i o b w (b.put o.dst v) w'→K (a.put o.dst v) w':=by
   intro v w' hk
   refine next v w' hk.1 fun d hd=>?_
   have:=hk.2.2
   have e1:=evd d v hd
   rw[hd] at this e1
   simp only[] at this
   rwa [e1] at this
  generalize (execOp b.eval o).run P w=r at *
  cases r with
  | ok nx w'=>
   cases nx <;> simp only[Oper.upon] at h ⊢
   case value v=>exact fin v w' h
   case skip=>exact fin _ w' h
   case defer d=>
    have:=h.2.1
    exfalso
    have e1:((({ b with defers:=d::b.defers }:Act).put o.dst undef)).defers=d::b.defers:=by cases o.dst <;> rfl
    rw[e1] at this
    exact absurd (congrArg List.length this) (by simp)
   case enter f args=>
    refine Calls.mono h fun e w'' hq=>?_
    cases e with
    | returned v=>exact fin v w'' hq
    | panicked c=>exact hq.elim
    | outgrown=>obtain⟨_,_,hq⟩:=hq;exact hq.elim
   case row row args=>exact Rows.mono h fun v w'' hq=>fin v w'' hq
  | halt x w'=>
   cases x <;> simp only[Oper.upon] at h ⊢
 ·rename_i hwt
  rw[if_neg hwt] at h
  refine next _ _ h.1 fun d hd=>?_
  have:=h.2.2
  have e1:(b.put o.dst undef).eval (.tmp d)=undef:=by
   rw[hd,eval_get]
   have hlt:d<b.tmps.size:=by rw[hz];exact (b2 d hd).1
   simp[Act.put,hlt]
  rw[hd] at this e1
  simp only[] at this
  rwa [e1] at this
theorem tail_waitsL2 {tl late:List Nat} {t0:Nat} {ts:List Nat} (htl:tl=t0::ts) (hs:sinkL ops tl late=true) {a0 a:Act} {w0 w:World} {s:Array Bool} (inv:MInv2 ops L T PR tl a0 w0 s a w):
  ∀ (d i:Nat),ops.size-i=d→i<ops.size→tl.contains i=false→late.contains i=false→s.getD i false=false→t0 ∉ Region.ready .any ops s:=by
 intro d
 induction d using Nat.strongRecOn with
 | _ d ih=>
  intro i hd hi hit hla hun hr
  obtain⟨_,ot,hot,hall⟩:=mem_ready.1 hr
  subst htl
  unfold sinkL at hs
  have h1:=List.all_eq_true.1 hs i (List.mem_range.2 hi)
  rw[hla,hit,Bool.false_or,Bool.false_or,Bool.or_eq_true] at h1
  rcases h1 with h1 | h1
  ·obtain⟨oj,hoj,e,he,hb,hon⟩:=Region.waitsFor_spec h1
   have:oj=ot:=Option.some.inj (hoj.symm.trans hot)
   subst this
   have h2:=hall e he hb
   rw[hon,hun] at h2
   cases h2
  ·obtain⟨j,hj,hj2⟩:=List.any_eq_true.1 h1
   simp only[Bool.and_eq_true,decide_eq_true_eq,Bool.not_eq_true'] at hj2
   obtain⟨⟨⟨hij,hwt⟩,hjt⟩,hjl⟩:=hj2
   obtain⟨oj,hoj,e,he,hb,hon⟩:=Region.waitsFor_spec hwt
   have hjs:=List.mem_range.1 hj
   cases hl:s.getD j false with
   | true=>
    have h2:=inv.closed j oj hoj hl e he hb
    rw[hon,hun] at h2
    cases h2
   | false=>exact ih (ops.size-j) (by omega) j rfl hjs hjt hjl hl hr
theorem mono_run2 {g:Nat} {tl late:List Nat} {Q:Exit→Act→World→Prop} {a0:Act} {w0:World} (hPL:∀ i j v v' W W',L W W'→PR i j v v' W→PR i j v v' W') (hrf:∀ w,L w w) (htr:∀ a b c,L a b→L b c→L a c) (hB:monoB ops a0.tmps.size tl late=true) (hQ:∀ c d v a w,Q (.panic c) (Act.put a d v) w→Q (.panic c) a w)
  (hst:∀ i o,tl.contains i=false→ops[i]?=some o→stepA2 P ops L T PR late a0 w0 i o) (hfin:∀ s a w,MInv2 ops L T PR tl a0 w0 s a w→(∀ j,j<ops.size→tl.contains j=false→s.getD j false=true)→wpAny P .any ops Q g s a w):
  ∀ (f:Nat) (s:Array Bool) (a:Act) (w:World),unl tl s ops.size≤f→MInv2 ops L T PR tl a0 w0 s a w→wpAny P .any ops Q (f+g) s a w
 | 0,s,a,w,hf,inv=>by rw[Nat.zero_add];exact hfin s a w inv (unl_zero (by omega))
 | f+1,s,a,w,hf,inv=>by
  by_cases h0:unl tl s ops.size=0
  ·have:=wpAny_more _ _ _ _ (mono_run2 hPL hrf htr hB hQ hst hfin f s a w (by omega) inv)
   rwa [Nat.add_right_comm] at this
  ·obtain⟨i0,hi0,ht0,hu0,hl0⟩:=unl_pos (Nat.pos_of_ne_zero h0)
   have hBB:=hB
   unfold monoB at hBB
   simp only[Bool.and_eq_true] at hBB
   have hgo:∀ i,i<ops.size→∃ o,ops[i]?=some o:=fun i hi=>⟨_,Array.getElem?_eq_getElem hi⟩
   have hs:s.size=ops.size:=inv.size
   have hr0:i0∈Region.ready .any ops s:=by
    obtain⟨o,ho⟩:=hgo i0 hi0
    refine mem_ready.2 ⟨getD_in (by omega) hu0,o,ho,fun e he hb=>?_⟩
    have h1:=(monoB_op hB ht0 ho).1 e.on (by
     unfold depsOf
     exact List.mem_map.2 ⟨e,List.mem_filter.2 ⟨Array.mem_toList_iff.2 he,hb⟩,rfl⟩)
    exact hl0 _ h1.1 h1.2
   have hdec:∀ i,i<ops.size→tl.contains i=false→s.getD i false=false→unl tl (s.setIfInBounds i true) ops.size≤f:=fun i hin hit hiu=>by
    have:=unl_set (s:=s) (by omega:i<s.size) hiu hit ops.size
    rw[if_pos hin] at this
    omega
   rw[Nat.add_right_comm]
   by_cases hlt:∃ i,i<ops.size∧tl.contains i=false∧late.contains i=false∧s.getD i false=false
   ·obtain⟨i1,hi1,hit1,hla1,hu1⟩:=hlt
    refine⟨fun e=>(by rw[e] at hr0;cases hr0),fun i hi=>?_⟩
    have hit:tl.contains i=false:=by
     cases hc:tl.contains i with
     | false=>rfl
     | true=>
      exfalso
      have hmem:i∈tl:=by simpa using hc
      have hh:=chain_waits (tl:=tl) hBB.1.1.2.1.2 (fun t ht=>inv.tail t (by simpa using ht)) hmem hi
      match tl,hh with
      | t0::ts,hh=>
       obtain rfl:t0=i:=Option.some.inj hh
       exact tail_waitsL2 rfl hBB.1.1.2.1.1 inv _ i1 rfl hi1 hit1 hla1 hu1 hi
    have hio:i<ops.size:=by
     obtain⟨_,o,ho,_⟩:=mem_ready.1 hi
     exact (Array.getElem?_eq_some_iff.1 ho).1
    obtain⟨o,ho⟩:=hgo i hio
    have hiu:s.getD i false=false:=getD_both (mem_ready.1 hi).1
    exact mono_step2 hPL hrf htr hB ho hit (hst i o hit ho) inv hi fun a' w' inv'=>mono_run2 hPL hrf htr hB hQ hst hfin f _ a' w' (hdec i hio hit hiu) inv'
   ·have hla:late.contains i0=true:=by
     cases hc:late.contains i0 with
     | true=>rfl
     | false=>exact absurd ⟨i0,hi0,ht0,hc,hu0⟩ hlt
    obtain⟨o,ho⟩:=hgo i0 hi0
    have hE:stepE2 P ops L T PR a0 w0 i0 o:=by
     rcases hst i0 o ht0 ho with h | ⟨h,_⟩
     ·exact h
     ·rw[h] at hla;cases hla
    obtain⟨b,⟨v,hy,ht⟩,he,hw,_,next⟩:=mono_at2 hPL hrf htr hB ho ht0 inv hr0 (hE w inv.kp)
    have hfr:=List.all_eq_true.1 hBB.1.1.2.2 i0 (by simpa using hla)
    unfold freeS at hfr
    rw[ho] at hfr
    simp only[List.all_eq_true,List.mem_range,Bool.or_eq_true,decide_eq_true_eq] at hfr
    refine wpAny_first ho (Region.noSelect_spec hBB.1.1.1) (fun c a w h=>hQ c _ _ a w h) (f+g) s a w ?_ hr0 (hy.of_same he hw) (mono_run2 hPL hrf htr hB hQ hst hfin f _ _ _ (hdec i0 hi0 ht0 hu0) (next v w (hrf w) (fun _ _=>ht)))
    intro j oj hj hne hjun hno
    have h1:=hfr j (Array.getElem?_eq_some_iff.1 hj).1
    rcases h1 with ((h1 | h1) | h1) | h1
    ·exact absurd h1 hne
    ·obtain⟨o',ho',e,he',hb,hon⟩:=Region.waitsFor_spec h1
     rw[hj] at ho';cases ho'
     exact absurd hon (hno e he' hb)
    ·exfalso
     obtain⟨_,o',ho',hall⟩:=mem_ready.1 hr0
     rw[ho] at ho';cases ho'
     have:s.getD j false=true:=by
      have hm:j∈depsOf o:=by simpa using h1
      unfold depsOf at hm
      obtain⟨e,he',rfl⟩:=List.mem_map.1 hm
      rw[List.mem_filter] at he'
      exact hall e (Array.mem_toList_iff.1 he'.1) he'.2
     rw[getD_both hjun] at this;cases this
    ·rw[hj] at h1;exact h1
theorem wp_region_mono2 {L:World→World→Prop} (T:Nat→Value→World→Prop) (PR:Nat→Nat→Value→Value→World→Prop) {id:Nat} {Q:Exit→Act→World→Prop} {a0:Act} {w:World} {l:List Oper} (tl late:List Nat) (m:Nat) (hm:P.follows .mixedOrders=true) (hz:a0.tmps.size=m) (hB:monoB l.toArray m tl late=true)
  (htl:tl=(List.range l.length).filter (tl.contains ·))
  (hPL:∀ i j v v' W W',L W W'→PR i j v v' W→PR i j v v' W') (hrf:∀ w,L w w) (htr:∀ a b c,L a b→L b c→L a c) (hQ:∀ c d v a w,Q (.panic c) (Act.put a d v) w→Q (.panic c) a w)
  (hst:allM2 P l.toArray L T PR late tl a0 w.drew 0 l)
  (hfin:∀ w',L w.drew w'→allV l.toArray L T (fun a'=>(∀ i j di dj,i≠j→i<l.length→j<l.length→tl.contains i=false→tl.contains j=false→dstOf l.toArray i=some di→dstOf l.toArray j=some dj→PR i j (a'.eval (.tmp di)) (a'.eval (.tmp dj)) w'∨PR j i (a'.eval (.tmp dj)) (a'.eval (.tmp di)) w')→wpList P l.toArray Q (pickT tl 0 l) a' w') w' ((List.range l.length).filter (fun i=>!tl.contains i)) a0):(Code.region id l.toArray true).wp P Q a0 w:=by
 subst hz
 have hseq:seqL l.toArray tl (sT l.toArray tl)=true:=by
  have:=hB
  unfold monoB at this
  simp only[Bool.and_eq_true] at this
  exact this.1.2
 have hrep:∀ j,(Array.replicate l.toArray.size false).getD j false=false:=fun j=>getD_replicate_false _ _
 have inv0:MInv2 l.toArray L T PR tl a0 w.drew (Array.replicate l.toArray.size false) a0 w.drew:=
  ⟨by simp,fun j oj _ hl=>(by rw[hrep] at hl;cases hl),fun t _=>hrep t,hrf _,rfl,rfl,fun j d hj=>(by rw[hrep] at hj;cases hj),fun _ _=>rfl,fun i j di dj _ h=>(by rw[hrep] at h;cases h)⟩
 have hpick:pickT tl 0 l=tl.filterMap (fun t:Nat=>l[t]?):=by
  rw[pick_get]
  simp only[Nat.sub_zero]
  rw[← List.range_eq_range',← htl]
 have hpl:∀ j:Nat,(tl[j]?).bind (fun t:Nat=>l.toArray[t]?)=(pickT tl 0 l)[j]?:=by
  rw[hpick]
  have hall:∀ t,t∈tl→∃ o,l[t]?=some o:=fun t ht=>by
   rw[htl] at ht
   exact⟨_,List.getElem?_eq_getElem (List.mem_range.1 (List.mem_filter.1 ht).1)⟩
  clear hfin hst hseq inv0 hB htl hpick
  induction tl with
  | nil=>intro j;simp
  | cons t ts ih=>
   obtain⟨o,ho⟩:=hall t (List.mem_cons_self ..)
   intro j
   rw[List.filterMap_cons,ho]
   cases j with
   | zero=>simp[ho]
   | succ j=>simpa using ih (fun t h=>hall t (List.mem_cons_of_mem _ h)) j
 refine wp_region_any hm ?_
 have hlen:(pickT tl 0 l).length=tl.length:=by
  rw[hpick]
  have hall:∀ t,t∈tl→∃ o,l[t]?=some o:=fun t ht=>by
   rw[htl] at ht
   exact⟨_,List.getElem?_eq_getElem (List.mem_range.1 (List.mem_filter.1 ht).1)⟩
  clear hfin hst hseq inv0 hB htl hpick hpl
  induction tl with
  | nil=>rfl
  | cons t ts ih=>
   obtain⟨o,ho⟩:=hall t (List.mem_cons_self ..)
   rw[List.filterMap_cons,ho,List.length_cons,List.length_cons,ih (fun t h=>hall t (List.mem_cons_of_mem _ h))]
 have hcnt:unl tl (Array.replicate l.toArray.size false) l.toArray.size+tl.length≤l.toArray.size:=by
  have h1:=unl_count tl (Array.replicate l.toArray.size false) l.toArray.size
  have h2:((List.range l.toArray.size).filter (tl.contains ·)).length=tl.length:=by
   have h3:=congrArg List.length htl
   simpa using h3.symm
  omega
 have H:=mono_run2 (P:=P) (Q:=Q) (g:=(pickT tl 0 l).length) hPL hrf htr hB hQ (fun i o hi ho=>by
  have:=allM_at2 (k:=0) hst (show l[i]?=some o by simpa using ho) (by rwa [Nat.zero_add])
  rwa [Nat.zero_add] at this) (fun s a' w' inv hall=>by
  have es:s=sT l.toArray tl:=by
   refine Array.ext_getElem? fun j=>?_
   rw[sT_get]
   by_cases hj:j<l.toArray.size
   ·rw[if_pos hj]
    have hjs:j<s.size:=by rw[inv.size];exact hj
    cases hc:tl.contains j with
    | false=>
     have:=hall j hj hc
     simp[hjs] at this
     simp[hjs,this]
    | true=>
     have:=inv.tail j hc
     simp[hjs] at this
     simp[hjs,this]
   ·rw[if_neg hj,Array.getElem?_eq_none (by rw[inv.size];omega)]
  have ea:putD l.toArray a' ((List.range l.length).filter (fun i=>!tl.contains i)) a0=a':=by
   have e1:(putD l.toArray a' ((List.range l.length).filter (fun i=>!tl.contains i)) a0).tmps=a'.tmps:=by
    refine Array.ext_getElem? fun t=>putD_get inv.tz.symm ?_
    by_cases e:∃ j,j<l.toArray.size∧tl.contains j=false∧dstOf l.toArray j=some t
    ·obtain⟨j,hj,hjt,hd⟩:=e
     exact Or.inr ⟨j,List.mem_filter.2 ⟨List.mem_range.2 (by simpa using hj),by rw[hjt];rfl⟩,hd⟩
    ·exact Or.inl (inv.un t fun j hj hjt hd=>e ⟨j,hj,hjt,hd⟩).symm
   have e2:(putD l.toArray a' ((List.range l.length).filter (fun i=>!tl.contains i)) a0).defers=a'.defers:=by rw[putD_defers,inv.df]
   generalize putD l.toArray a' ((List.range l.length).filter (fun i=>!tl.contains i)) a0=b at *
   obtain⟨t1,d1⟩:=b
   obtain⟨t2,d2⟩:=a'
   simp only at e1 e2
   subst e1;subst e2;rfl
  have h:=allV_at (c:=a') (hfin w' inv.kp) (fun j hj d hd=>by
   have hj2:=List.mem_filter.1 hj
   exact inv.dn j d (hall j (by simpa using hj2.1) (by simpa using hj2.2)) hd)
  rw[ea] at h
  have h:=h (fun i j di dj hne hi hj hit hjt hdi hdj=>inv.pr i j di dj hne (hall i (by simpa using hi) hit) (hall j (by simpa using hj) hjt) hdi hdj)
  exact wpAny_seqL tl _ s a' w' hpl (by rw[es];exact hseq) h) (l.toArray.size-tl.length) (Array.replicate l.toArray.size false) a0 w.drew (by omega) inv0
 rw[hlen,show l.toArray.size-tl.length+tl.length=l.toArray.size by omega] at H
 exact H
def opW2 (P:Program) (ops:Array Oper) (L:World→World→Prop) (T:Nat→Value→World→Prop) (PR:Nat→Nat→Value→Value→World→Prop) (i:Nat) (o:Oper) (b:Act) (W:World):Prop:=
 if Region.wanted o (yielded ops b.tmps)=true then o.wp P b W (KT2 L T PR i o b W) (fun _ _ _=>False) else KT2 L T PR i o b W (b.put o.dst undef) W
theorem stepM_of2 {a0:Act} {w0:World} {i:Nat} {o:Oper} (js:List Nat) (hj:depsOf o=js) (h:∀ W,L w0 W→allV ops L T (fun b=>opW2 P ops L T PR i o b W) W js a0):stepM2 P ops L T PR a0 w0 i o:=by
 subst hj;exact h
theorem opW_go2 {i:Nat} {o:Oper} {b:Act} {W:World} (hw:Region.wanted o (yielded ops b.tmps)=true) (h:∀ K:Act→World→Prop,(∀ a' w',KT2 L T PR i o b W a' w'→K a' w')→o.wp P b W K (fun _ _ _=>False)):opW2 P ops L T PR i o b W:=by
 unfold opW2;rw[if_pos hw];exact h _ (fun _ _ h=>h)
theorem KT2.mk {L:World→World→Prop} {T:Nat→Value→World→Prop} {PR:Nat→Nat→Value→Value→World→Prop} {i:Nat} {o:Oper} {b a':Act} {W w':World} (h:L W w') (hd:a'.defers=b.defers) (d:Tmp) (ho:o.dst=some d) (ht:T i (a'.eval (.tmp d)) w') (hp:PrB L T PR i (a'.eval (.tmp d)) W w'):KT2 L T PR i o b W a' w':=by
 refine⟨h,hd,?_⟩
 rw[ho];exact⟨ht,hp⟩
end
end Go.Proofs.YtdmebjbkccjhbaaGreatDoor
namespace Go.Proofs.YtdmebjbkccjhbaaGreatDoor
open Go.RowKit
variable {bz:Nat}
structure PRow (x y:ByteArray) (ok:Nat→Prop) (W:World) (b:Nat) (l:List Ty) (j:Nat):Prop where
 row:∃ (L:List Value) (K:Nat→Value),Blk W b 24 L∧l.length*3≤L.length∧∀ i (h:i<l.length),L[i*3]?=some (.int .i64 l[i].kind)∧(∃ m,L[i*3+1]?=some (.string m)∧Part x y l[i].kind l[i].name m∧(i<j→m=rnN x y l[i].kind l[i].name))∧L[i*3+2]?=some (K i)∧PyL (Part x y) ok W l[i].kids (K i)∧(i<j→PyL (Full x y) ok W l[i].kids (K i))
theorem PRow.lt {x y:ByteArray} {ok:Nat→Prop} {W:World} {b:Nat} {l:List Ty} {j:Nat} (h:PRow x y ok W b l j):b<W.heap.size:=by
 obtain⟨L,K,bG,_⟩:=h.row;exact bG.lt
theorem PRow.frame {x y:ByteArray} {ok:Nat→Prop} {W W':World} {b:Nat} {l:List Ty} {j:Nat} (h:PRow x y ok W b l j) (hb:ok b) (hr:RwB x y ok W W'):PRow x y ok W' b l j:=by
 obtain⟨L,K,bG,hL,hR⟩:=h.row
 obtain⟨L',bG',hq⟩:=hr _ _ _ hb bG
 refine⟨⟨L',K,bG',by rw[hq.1];exact hL,fun i hi=>?_⟩⟩
 obtain⟨c0,c1,c2,c3,c4⟩:=hR i hi
 refine⟨hq.keep c0 (by unfold posY;omega),?_,hq.keep c2 (by unfold posY;omega),c3.frame (fun _=>part_stay) hr,fun q=>(c4 q).frame (fun _=>full_stay) hr⟩
 obtain⟨m,e,p⟩:=hq.name (P:=fun k n m=>Part x y k n m∧(i<j→m=rnN x y k n)) (fun n q=>⟨part_stay q.1,fun w=>full_stay (q.2 w)⟩) c0 (by obtain⟨m,e,p,q⟩:=c1;exact⟨m,e,p,q⟩)
 exact⟨m,e,p.1,p.2⟩
theorem PRow.of {x y:ByteArray} {ok:Nat→Prop} {W:World} {l:List Ty} {v:Value} (h:PyL (Part x y) ok W l v) (hne:l≠[]):∃ b c,v=.slice (some ⟨b,0,none⟩) l.length c∧ok b∧l.length≤c∧PRow x y ok W b l 0:=by
 cases h with
 | nil h=>exact absurd rfl hne
 | mk K L hne hb hc hL hl hcell hk=>
  refine⟨_,_,rfl,hb,hc,⟨⟨L,K,hL,hl,fun i hi=>?_⟩⟩⟩
  obtain⟨c0,⟨m,c1,p⟩,c2⟩:=hcell i hi
  exact⟨c0,⟨m,c1,p,fun e=>absurd e (Nat.not_lt_zero _)⟩,c2,hk i hi,fun e=>absurd e (Nat.not_lt_zero _)⟩
theorem PRow.whole {x y:ByteArray} {ok:Nat→Prop} {W:World} {b c:Nat} {l:List Ty} (h:PRow x y ok W b l l.length) (hne:l≠[]) (hb:ok b) (hc:l.length≤c):PyL (Full x y) ok W l (.slice (some ⟨b,0,none⟩) l.length c):=by
 obtain⟨L,K,bG,hL,hR⟩:=h.row
 refine .mk K L hne hb hc bG hL (fun i hi=>?_) (fun i hi=>(hR i hi).2.2.2.2 hi)
 obtain⟨c0,⟨m,c1,_,p⟩,c2,_⟩:=hR i hi
 exact⟨c0,⟨m,c1,p hi⟩,c2⟩
theorem PRow.at {x y:ByteArray} {ok:Nat→Prop} {W:World} {b:Nat} {l:List Ty} {j:Nat} (h:PRow x y ok W b l j) (hj:j<l.length):∃ m ta tn tc,W.cell? ⟨b,j*3,none⟩=some (.int .i64 l[j].kind)∧W.cell? ⟨b,j*3+1,none⟩=some (.string m)∧W.cell? ⟨b,j*3+2,none⟩=some (.slice ta tn tc)∧Part x y l[j].kind l[j].name m∧PyL (Part x y) ok W l[j].kids (.slice ta tn tc):=by
 obtain⟨L,K,bG,hL,hR⟩:=h.row
 obtain⟨c0,⟨m,c1,p,_⟩,c2,c3,_⟩:=hR j hj
 obtain⟨ta,tc,hK⟩:=c3.slice
 rw[hK] at c2 c3
 exact⟨m,ta,_,tc,by rw[bG.cell];exact c0,by rw[bG.cell];exact c1,by rw[bG.cell];exact c2,p,c3⟩
theorem PRow.step {x y:ByteArray} {ok:Nat→Prop} {W:World} {b:Nat} {l:List Ty} {j:Nat} {ta:Option Addr} {tn tc:Nat} (h:PRow x y ok W b l j) (hb:ok b) (hj:j<l.length) (hc:W.cell? ⟨b,j*3+2,none⟩=some (.slice ta tn tc)) (hf:PyL (Full x y) ok W l[j].kids (.slice ta tn tc)):
  Rw x y ok W (((W.setCell ⟨b,j*3,none⟩ (.int .i64 l[j].kind)).setCell ⟨b,j*3+1,none⟩ (.string (rnN x y l[j].kind l[j].name))).setCell ⟨b,j*3+2,none⟩ (.slice ta tn tc))∧PRow x y ok (((W.setCell ⟨b,j*3,none⟩ (.int .i64 l[j].kind)).setCell ⟨b,j*3+1,none⟩ (.string (rnN x y l[j].kind l[j].name))).setCell ⟨b,j*3+2,none⟩ (.slice ta tn tc)) b l (j+1):=by
 obtain⟨L,K,bG,hL,hR⟩:=h.row
 obtain⟨d0,⟨m,d1,dp,_⟩,d2,d3,_⟩:=hR j hj
 rw[bG.cell,d2] at hc
 have hK:K j=.slice ta tn tc:=Option.some.inj hc
 have hR1:Rw x y ok W (((W.setCell ⟨b,j*3,none⟩ (.int .i64 l[j].kind)).setCell ⟨b,j*3+1,none⟩ (.string (rnN x y l[j].kind l[j].name))).setCell ⟨b,j*3+2,none⟩ (.slice ta tn tc)):=by
  refine⟨((((Kept.refl ok W).setCell (p:=⟨b,j*3,none⟩) (Or.inl hb) _).setCell (p:=⟨b,j*3+1,none⟩) (Or.inl hb) _).setCell (p:=⟨b,j*3+2,none⟩) (Or.inl hb) _),fun b' T L0 hb' hL0=>?_⟩
  by_cases e:b'=b
  ·subst e
   have e1:(some (Obj.cells L0.toArray T (0,0)):Option Obj)=some (Obj.cells L.toArray 24 (0,0)):=hL0.symm.trans bG
   injection e1 with e1
   injection e1 with e1 e2
   subst e2
   have e3:L0=L:=by simpa using congrArg Array.toList e1
   subst e3
   refine⟨((L0.set (j*3) (.int .i64 l[j].kind)).set (j*3+1) (.string (rnN x y l[j].kind l[j].name))).set (j*3+2) (.slice ta tn tc),((bG.set _ _).set _ _).set _ _,by simp,fun c=>?_⟩
   by_cases h2:c=j*3+2
   ·subst h2;left;rw[List.getElem?_set_self (by simp;omega),d2,hK]
   ·rw[List.getElem?_set_ne (Ne.symm h2)]
    by_cases h1:c=j*3+1
    ·subst h1
     rw[List.getElem?_set_self (by simp;omega)]
     rcases part_turn dp with e | ⟨e1,e2,e3⟩
     ·left;rw[d1,e]
     ·right;refine⟨Or.inl ⟨rfl,by omega⟩,by rw[d1,e2],by rw[e3],?_⟩
      rw[Nat.add_sub_cancel,d0,e1]
    ·rw[List.getElem?_set_ne (Ne.symm h1)]
     left
     by_cases h0:c=j*3
     ·subst h0;rw[List.getElem?_set_self (by omega),d0]
     ·rw[List.getElem?_set_ne (Ne.symm h0)]
  ·exact⟨L0,((hL0.set_other _ _ e).set_other _ _ e).set_other _ _ e,RL.refl⟩
 refine⟨hR1,?_⟩
 refine⟨⟨((L.set (j*3) (.int .i64 l[j].kind)).set (j*3+1) (.string (rnN x y l[j].kind l[j].name))).set (j*3+2) (.slice ta tn tc),K,((bG.set _ _).set _ _).set _ _,by simpa using hL,fun i hi=>?_⟩⟩
 obtain⟨c0,c1,c2,c3,c4⟩:=hR i hi
 by_cases e:i=j
 ·subst e
  refine⟨?_,⟨_,?_,Or.inr rfl,fun _=>rfl⟩,?_,c3.frame (fun _=>part_stay) hR1.bl,fun _=>by rw[hK];exact hf.frame (fun _=>full_stay) hR1.bl⟩
  ·rw[List.getElem?_set_ne (by omega),List.getElem?_set_ne (by omega),List.getElem?_set_self (by omega)]
  ·rw[List.getElem?_set_ne (by omega),List.getElem?_set_self (by simp;omega)]
  ·rw[List.getElem?_set_self (by simp;omega),hK]
 ·refine⟨?_,?_,?_,c3.frame (fun _=>part_stay) hR1.bl,fun q=>(c4 (by omega)).frame (fun _=>full_stay) hR1.bl⟩
  ·rw[List.getElem?_set_ne (by omega),List.getElem?_set_ne (by omega),List.getElem?_set_ne (by omega)];exact c0
  ·obtain⟨m',e1,e2,e3⟩:=c1
   exact⟨m',by rw[List.getElem?_set_ne (by omega),List.getElem?_set_ne (by omega),List.getElem?_set_ne (by omega)];exact e1,e2,fun q=>e3 (by omega)⟩
  ·rw[List.getElem?_set_ne (by omega),List.getElem?_set_ne (by omega),List.getElem?_set_ne (by omega)];exact c2
structure CaI (x y:ByteArray) (ok:Nat→Prop) (w:World) (kd:Int) (rn:ByteArray) (l:List Ty) (a:Option Addr) (c b j:Nat) (wr:World):Prop where
 rr:Rw x y ok w wr
 bx:Blk wr w.heap.size 24 [.int .i64 kd,.string rn,.slice a l.length c]
 br:Blk wr (w.heap.size+1) 24 [Value.int .i64 0,.string ⟨#[]⟩,.slice none 0 0]
 row:l≠[]→a=some ⟨b,0,none⟩∧ok b∧l.length≤c∧PRow x y ok wr b l j
theorem CaI.rwd {x y:ByteArray} {ok:Nat→Prop} {w wr W:World} {kd:Int} {rn:ByteArray} {l:List Ty} {a:Option Addr} {c b j:Nat} (h:CaI x y ok w kd rn l a c b j wr) (hok:∀ q,ok q→q<w.heap.size) (k:Rw x y ok wr W):CaI x y ok w kd rn l a c b j W:=
 ⟨h.rr.trans k,k.out h.bx (fun e=>by have:=hok _ e;omega),k.out h.br (fun e=>by have:=hok _ e;omega),fun hne=>by
  obtain⟨h1,h2,h3,h4⟩:=h.row hne
  exact⟨h1,h2,h3,h4.frame h2 k.bl⟩⟩
theorem CaI.step {x y:ByteArray} {ok:Nat→Prop} {w W:World} {kd:Int} {rn:ByteArray} {l:List Ty} {a:Option Addr} {c b j:Nat} {ta:Option Addr} {tn tc:Nat} (h:CaI x y ok w kd rn l a c b j W) (hok:∀ q,ok q→q<w.heap.size) (hj:j<l.length) (hc:W.cell? ⟨b,j*3+2,none⟩=some (.slice ta tn tc)) (hf:PyL (Full x y) ok W l[j].kids (.slice ta tn tc)):
  CaI x y ok w kd rn l a c b (j+1) (((W.setCell ⟨b,j*3,none⟩ (.int .i64 l[j].kind)).setCell ⟨b,j*3+1,none⟩ (.string (rnN x y l[j].kind l[j].name))).setCell ⟨b,j*3+2,none⟩ (.slice ta tn tc)):=by
 have hne:l≠[]:=fun e=>by subst e;simp at hj
 obtain⟨h1,h2,h3,h4⟩:=h.row hne
 obtain⟨q1,q2⟩:=h4.step h2 hj hc hf
 have h':=h.rwd hok q1
 exact⟨h'.rr,h'.bx,h'.br,fun _=>⟨h1,h2,h3,q2⟩⟩
structure MRow (x y:ByteArray) (ok:Nat→Prop) (W:World) (b:Nat) (l:List Tm) (j:Nat):Prop where
 row:∃ (L:List Value) (K M:Nat→Value),Blk W b 27 L∧l.length*7≤L.length∧∀ i (h:i<l.length),(L[i*7]?=some (.int .i64 l[i].op)∧L[i*7+1]?=some (.string l[i].name)∧L[i*7+2]?=some (.int .i64 l[i].n)∧L[i*7+3]?=some (.int .i64 l[i].ty.kind))∧(∃ m,L[i*7+4]?=some (.string m)∧Part x y l[i].ty.kind l[i].ty.name m∧(i<j→m=rnN x y l[i].ty.kind l[i].ty.name))∧(L[i*7+5]?=some (K i)∧L[i*7+6]?=some (M i))∧(PyL (Part x y) ok W l[i].ty.kids (K i)∧PmL (Part x y) ok W l[i].kids (M i))∧(i<j→PyL (Full x y) ok W l[i].ty.kids (K i)∧PmL (Full x y) ok W l[i].kids (M i))
theorem MRow.lt {x y:ByteArray} {ok:Nat→Prop} {W:World} {b:Nat} {l:List Tm} {j:Nat} (h:MRow x y ok W b l j):b<W.heap.size:=by
 obtain⟨L,K,M,bG,_⟩:=h.row;exact bG.lt
theorem MRow.frame {x y:ByteArray} {ok:Nat→Prop} {W W':World} {b:Nat} {l:List Tm} {j:Nat} (h:MRow x y ok W b l j) (hb:ok b) (hr:RwB x y ok W W'):MRow x y ok W' b l j:=by
 obtain⟨L,K,M,bG,hL,hR⟩:=h.row
 obtain⟨L',bG',hq⟩:=hr _ _ _ hb bG
 refine⟨⟨L',K,M,bG',by rw[hq.1];exact hL,fun i hi=>?_⟩⟩
 obtain⟨⟨c0,c1,c2,c3⟩,c4,⟨c5,c6⟩,⟨c7,c8⟩,c9⟩:=hR i hi
 refine⟨⟨hq.keep c0 (by unfold posY;omega),hq.keep c1 (by unfold posY;omega),hq.keep c2 (by unfold posY;omega),hq.keep c3 (by unfold posY;omega)⟩,?_,⟨hq.keep c5 (by unfold posY;omega),hq.keep c6 (by unfold posY;omega)⟩,⟨c7.frame (fun _=>part_stay) hr,c8.frame (fun _=>part_stay) hr⟩,fun q=>⟨(c9 q).1.frame (fun _=>full_stay) hr,(c9 q).2.frame (fun _=>full_stay) hr⟩⟩
 obtain⟨m,e,p⟩:=hq.name (c:=i*7+3) (P:=fun k n m=>Part x y k n m∧(i<j→m=rnN x y k n)) (fun n q=>⟨part_stay q.1,fun w=>full_stay (q.2 w)⟩) c3 (by obtain⟨m,e,p,q⟩:=c4;exact⟨m,e,p,q⟩)
 exact⟨m,e,p.1,p.2⟩
theorem MRow.of {x y:ByteArray} {ok:Nat→Prop} {W:World} {l:List Tm} {v:Value} (h:PmL (Part x y) ok W l v) (hne:l≠[]):∃ b c,v=.slice (some ⟨b,0,none⟩) l.length c∧ok b∧l.length≤c∧MRow x y ok W b l 0:=by
 cases h with
 | nil h=>exact absurd rfl hne
 | mk K M L hne hb hc hL hl hcell hk hm=>
  refine⟨_,_,rfl,hb,hc,⟨⟨L,K,M,hL,hl,fun i hi=>?_⟩⟩⟩
  obtain⟨c0,c1,c2,c3,⟨m,c4,p⟩,c5,c6⟩:=hcell i hi
  exact⟨⟨c0,c1,c2,c3⟩,⟨m,c4,p,fun e=>absurd e (Nat.not_lt_zero _)⟩,⟨c5,c6⟩,⟨hk i hi,hm i hi⟩,fun e=>absurd e (Nat.not_lt_zero _)⟩
theorem MRow.whole {x y:ByteArray} {ok:Nat→Prop} {W:World} {b c:Nat} {l:List Tm} (h:MRow x y ok W b l l.length) (hne:l≠[]) (hb:ok b) (hc:l.length≤c):PmL (Full x y) ok W l (.slice (some ⟨b,0,none⟩) l.length c):=by
 obtain⟨L,K,M,bG,hL,hR⟩:=h.row
 refine .mk K M L hne hb hc bG hL (fun i hi=>?_) (fun i hi=>((hR i hi).2.2.2.2 hi).1) (fun i hi=>((hR i hi).2.2.2.2 hi).2)
 obtain⟨⟨c0,c1,c2,c3⟩,⟨m,c4,_,p⟩,⟨c5,c6⟩,_⟩:=hR i hi
 exact⟨c0,c1,c2,c3,⟨m,c4,p hi⟩,c5,c6⟩
theorem MRow.at {x y:ByteArray} {ok:Nat→Prop} {W:World} {b:Nat} {l:List Tm} {j:Nat} (h:MRow x y ok W b l j) (hj:j<l.length):∃ m ta tn tc ua un uc,(W.cell? ⟨b,j*7,none⟩=some (.int .i64 l[j].op)∧W.cell? ⟨b,j*7+1,none⟩=some (.string l[j].name)∧W.cell? ⟨b,j*7+2,none⟩=some (.int .i64 l[j].n)∧W.cell? ⟨b,j*7+3,none⟩=some (.int .i64 l[j].ty.kind)∧W.cell? ⟨b,j*7+4,none⟩=some (.string m)∧W.cell? ⟨b,j*7+5,none⟩=some (.slice ta tn tc)∧W.cell? ⟨b,j*7+6,none⟩=some (.slice ua un uc))∧Part x y l[j].ty.kind l[j].ty.name m∧PyL (Part x y) ok W l[j].ty.kids (.slice ta tn tc)∧PmL (Part x y) ok W l[j].kids (.slice ua un uc):=by
 obtain⟨L,K,M,bG,hL,hR⟩:=h.row
 obtain⟨⟨c0,c1,c2,c3⟩,⟨m,c4,p,_⟩,⟨c5,c6⟩,⟨c7,c8⟩,_⟩:=hR j hj
 obtain⟨ta,tc,hK⟩:=c7.slice
 obtain⟨ua,uc,hM⟩:=c8.slice
 rw[hK] at c5 c7
 rw[hM] at c6 c8
 exact⟨m,ta,_,tc,ua,_,uc,⟨by rw[bG.cell];exact c0,by rw[bG.cell];exact c1,by rw[bG.cell];exact c2,by rw[bG.cell];exact c3,by rw[bG.cell];exact c4,by rw[bG.cell];exact c5,by rw[bG.cell];exact c6⟩,p,c7,c8⟩
theorem MRow.step {x y:ByteArray} {ok:Nat→Prop} {W:World} {b:Nat} {l:List Tm} {j:Nat} {ta:Option Addr} {tn tc:Nat} {ua:Option Addr} {un uc:Nat} (h:MRow x y ok W b l j) (hb:ok b) (hj:j<l.length) (hc:W.cell? ⟨b,j*7+5,none⟩=some (.slice ta tn tc)) (hc':W.cell? ⟨b,j*7+6,none⟩=some (.slice ua un uc)) (hf:PyL (Full x y) ok W l[j].ty.kids (.slice ta tn tc)) (hg:PmL (Full x y) ok W l[j].kids (.slice ua un uc)):
  Rw x y ok W (((((((W.setCell ⟨b,j*7,none⟩ (.int .i64 l[j].op)).setCell ⟨b,j*7+1,none⟩ (.string l[j].name)).setCell ⟨b,j*7+2,none⟩ (.int .i64 l[j].n)).setCell ⟨b,j*7+3,none⟩ (.int .i64 l[j].ty.kind)).setCell ⟨b,j*7+4,none⟩ (.string (rnN x y l[j].ty.kind l[j].ty.name))).setCell ⟨b,j*7+5,none⟩ (.slice ta tn tc)).setCell ⟨b,j*7+6,none⟩ (.slice ua un uc))∧MRow x y ok (((((((W.setCell ⟨b,j*7,none⟩ (.int .i64 l[j].op)).setCell ⟨b,j*7+1,none⟩ (.string l[j].name)).setCell ⟨b,j*7+2,none⟩ (.int .i64 l[j].n)).setCell ⟨b,j*7+3,none⟩ (.int .i64 l[j].ty.kind)).setCell ⟨b,j*7+4,none⟩ (.string (rnN x y l[j].ty.kind l[j].ty.name))).setCell ⟨b,j*7+5,none⟩ (.slice ta tn tc)).setCell ⟨b,j*7+6,none⟩ (.slice ua un uc)) b l (j+1):=by
 obtain⟨L,K,M,bG,hL,hR⟩:=h.row
 obtain⟨⟨d0,d1,d2,d3⟩,⟨m,d4,dp,_⟩,⟨d5,d6⟩,_,_⟩:=hR j hj
 rw[bG.cell,d5] at hc
 rw[bG.cell,d6] at hc'
 have hK:K j=.slice ta tn tc:=Option.some.inj hc
 have hM:M j=.slice ua un uc:=Option.some.inj hc'
 have bG7:Blk (((((((W.setCell ⟨b,j*7,none⟩ (.int .i64 l[j].op)).setCell ⟨b,j*7+1,none⟩ (.string l[j].name)).setCell ⟨b,j*7+2,none⟩ (.int .i64 l[j].n)).setCell ⟨b,j*7+3,none⟩ (.int .i64 l[j].ty.kind)).setCell ⟨b,j*7+4,none⟩ (.string (rnN x y l[j].ty.kind l[j].ty.name))).setCell ⟨b,j*7+5,none⟩ (.slice ta tn tc)).setCell ⟨b,j*7+6,none⟩ (.slice ua un uc)) b 27 (((((((L.set (j*7) (.int .i64 l[j].op)).set (j*7+1) (.string l[j].name)).set (j*7+2) (.int .i64 l[j].n)).set (j*7+3) (.int .i64 l[j].ty.kind)).set (j*7+4) (.string (rnN x y l[j].ty.kind l[j].ty.name))).set (j*7+5) (.slice ta tn tc)).set (j*7+6) (.slice ua un uc)):=((((((bG.set _ _).set _ _).set _ _).set _ _).set _ _).set _ _).set _ _
 have hRL:RL x y 27 L (((((((L.set (j*7) (.int .i64 l[j].op)).set (j*7+1) (.string l[j].name)).set (j*7+2) (.int .i64 l[j].n)).set (j*7+3) (.int .i64 l[j].ty.kind)).set (j*7+4) (.string (rnN x y l[j].ty.kind l[j].ty.name))).set (j*7+5) (.slice ta tn tc)).set (j*7+6) (.slice ua un uc)):=by
  refine⟨by simp,fun c=>?_⟩
  by_cases h6:c=j*7+6
  ·subst h6;left;rw[List.getElem?_set_self (by simp;omega),d6,hM]
  ·rw[List.getElem?_set_ne (Ne.symm h6)]
   by_cases h5:c=j*7+5
   ·subst h5;left;rw[List.getElem?_set_self (by simp;omega),d5,hK]
   ·rw[List.getElem?_set_ne (Ne.symm h5)]
    by_cases h4:c=j*7+4
    ·subst h4
     rw[List.getElem?_set_self (by simp;omega)]
     rcases part_turn dp with e | ⟨e1,e2,e3⟩
     ·left;rw[d4,e]
     ·right;refine⟨Or.inr ⟨rfl,by omega⟩,by rw[d4,e2],by rw[e3],?_⟩
      show L[j*7+3]?=_
      rw[d3,e1]
    ·rw[List.getElem?_set_ne (Ne.symm h4)]
     left
     by_cases h3:c=j*7+3
     ·subst h3;rw[List.getElem?_set_self (by simp;omega),d3]
     ·rw[List.getElem?_set_ne (Ne.symm h3)]
      by_cases h2:c=j*7+2
      ·subst h2;rw[List.getElem?_set_self (by simp;omega),d2]
      ·rw[List.getElem?_set_ne (Ne.symm h2)]
       by_cases h1:c=j*7+1
       ·subst h1;rw[List.getElem?_set_self (by simp;omega),d1]
       ·rw[List.getElem?_set_ne (Ne.symm h1)]
        by_cases h0:c=j*7
        ·subst h0;rw[List.getElem?_set_self (by omega),d0]
        ·rw[List.getElem?_set_ne (Ne.symm h0)]
 have hR1:Rw x y ok W (((((((W.setCell ⟨b,j*7,none⟩ (.int .i64 l[j].op)).setCell ⟨b,j*7+1,none⟩ (.string l[j].name)).setCell ⟨b,j*7+2,none⟩ (.int .i64 l[j].n)).setCell ⟨b,j*7+3,none⟩ (.int .i64 l[j].ty.kind)).setCell ⟨b,j*7+4,none⟩ (.string (rnN x y l[j].ty.kind l[j].ty.name))).setCell ⟨b,j*7+5,none⟩ (.slice ta tn tc)).setCell ⟨b,j*7+6,none⟩ (.slice ua un uc)):=by
  refine⟨((((((((Kept.refl ok W).setCell (p:=⟨b,j*7,none⟩) (Or.inl hb) _).setCell (p:=⟨b,j*7+1,none⟩) (Or.inl hb) _).setCell (p:=⟨b,j*7+2,none⟩) (Or.inl hb) _).setCell (p:=⟨b,j*7+3,none⟩) (Or.inl hb) _).setCell (p:=⟨b,j*7+4,none⟩) (Or.inl hb) _).setCell (p:=⟨b,j*7+5,none⟩) (Or.inl hb) _).setCell (p:=⟨b,j*7+6,none⟩) (Or.inl hb) _),fun b' T L0 hb' hL0=>?_⟩
  by_cases e:b'=b
  ·subst e
   have e1:(some (Obj.cells L0.toArray T (0,0)):Option Obj)=some (Obj.cells L.toArray 27 (0,0)):=hL0.symm.trans bG
   injection e1 with e1
   injection e1 with e1 e2
   subst e2
   have e3:L0=L:=by simpa using congrArg Array.toList e1
   subst e3
   exact⟨_,bG7,hRL⟩
  ·exact⟨L0,((((((hL0.set_other _ _ e).set_other _ _ e).set_other _ _ e).set_other _ _ e).set_other _ _ e).set_other _ _ e).set_other _ _ e,RL.refl⟩
 refine⟨hR1,?_⟩
 refine⟨⟨_,K,M,bG7,by simpa using hL,fun i hi=>?_⟩⟩
 obtain⟨⟨c0,c1,c2,c3⟩,c4,⟨c5,c6⟩,⟨c7,c8⟩,c9⟩:=hR i hi
 by_cases e:i=j
 ·subst e
  refine⟨⟨?_,?_,?_,?_⟩,⟨_,?_,Or.inr rfl,fun _=>rfl⟩,⟨?_,?_⟩,⟨c7.frame (fun _=>part_stay) hR1.bl,c8.frame (fun _=>part_stay) hR1.bl⟩,fun _=>⟨by rw[hK];exact hf.frame (fun _=>full_stay) hR1.bl,by rw[hM];exact hg.frame (fun _=>full_stay) hR1.bl⟩⟩
  ·rw[List.getElem?_set_ne (by omega),List.getElem?_set_ne (by omega),List.getElem?_set_ne (by omega),List.getElem?_set_ne (by omega),List.getElem?_set_ne (by omega),List.getElem?_set_ne (by omega),List.getElem?_set_self (by omega)]
  ·rw[List.getElem?_set_ne (by omega),List.getElem?_set_ne (by omega),List.getElem?_set_ne (by omega),List.getElem?_set_ne (by omega),List.getElem?_set_ne (by omega),List.getElem?_set_self (by simp;omega)]
  ·rw[List.getElem?_set_ne (by omega),List.getElem?_set_ne (by omega),List.getElem?_set_ne (by omega),List.getElem?_set_ne (by omega),List.getElem?_set_self (by simp;omega)]
  ·rw[List.getElem?_set_ne (by omega),List.getElem?_set_ne (by omega),List.getElem?_set_ne (by omega),List.getElem?_set_self (by simp;omega)]
  ·rw[List.getElem?_set_ne (by omega),List.getElem?_set_ne (by omega),List.getElem?_set_self (by simp;omega)]
  ·rw[List.getElem?_set_ne (by omega),List.getElem?_set_self (by simp;omega),hK]
  ·rw[List.getElem?_set_self (by simp;omega),hM]
 ·have key:∀ r,r<7→(((((((L.set (j*7) (.int .i64 l[j].op)).set (j*7+1) (.string l[j].name)).set (j*7+2) (.int .i64 l[j].n)).set (j*7+3) (.int .i64 l[j].ty.kind)).set (j*7+4) (.string (rnN x y l[j].ty.kind l[j].ty.name))).set (j*7+5) (.slice ta tn tc)).set (j*7+6) (.slice ua un uc))[i*7+r]?=L[i*7+r]?:=fun r hr=>by
   rw[List.getElem?_set_ne (by omega),List.getElem?_set_ne (by omega),List.getElem?_set_ne (by omega),List.getElem?_set_ne (by omega),List.getElem?_set_ne (by omega),List.getElem?_set_ne (by omega),List.getElem?_set_ne (by omega)]
  refine⟨⟨?_,?_,?_,?_⟩,?_,⟨?_,?_⟩,⟨c7.frame (fun _=>part_stay) hR1.bl,c8.frame (fun _=>part_stay) hR1.bl⟩,fun q=>⟨(c9 (by omega)).1.frame (fun _=>full_stay) hR1.bl,(c9 (by omega)).2.frame (fun _=>full_stay) hR1.bl⟩⟩
  ·exact (key 0 (by decide)).trans c0
  ·exact (key 1 (by decide)).trans c1
  ·exact (key 2 (by decide)).trans c2
  ·exact (key 3 (by decide)).trans c3
  ·obtain⟨m',e1,e2,e3⟩:=c4
   exact⟨m',(key 4 (by decide)).trans e1,e2,fun q=>e3 (by omega)⟩
  ·exact (key 5 (by decide)).trans c5
  ·exact (key 6 (by decide)).trans c6
structure CmI (x y:ByteArray) (ok:Nat→Prop) (w:World) (A:List Value) (tys:List Ty) (tv:Value) (l:List Tm) (a:Option Addr) (c b j:Nat) (wr:World):Prop where
 rr:Rw x y ok w wr
 bx:Blk wr w.heap.size 27 A
 br:Blk wr (w.heap.size+1) 27 [Value.int .i64 0,.string ⟨#[]⟩,.int .i64 0,.int .i64 0,.string ⟨#[]⟩,.slice none 0 0,.slice none 0 0]
 ty:PyL (Full x y) ok wr tys tv
 row:l≠[]→a=some ⟨b,0,none⟩∧ok b∧l.length≤c∧MRow x y ok wr b l j
theorem CmI.rwd {x y:ByteArray} {ok:Nat→Prop} {w wr W:World} {A:List Value} {tys:List Ty} {tv:Value} {l:List Tm} {a:Option Addr} {c b j:Nat} (h:CmI x y ok w A tys tv l a c b j wr) (hok:∀ q,ok q→q<w.heap.size) (k:Rw x y ok wr W):CmI x y ok w A tys tv l a c b j W:=
 ⟨h.rr.trans k,k.out h.bx (fun e=>by have:=hok _ e;omega),k.out h.br (fun e=>by have:=hok _ e;omega),h.ty.frame (fun _=>full_stay) k.bl,fun hne=>by
  obtain⟨h1,h2,h3,h4⟩:=h.row hne
  exact⟨h1,h2,h3,h4.frame h2 k.bl⟩⟩
theorem CmI.step {x y:ByteArray} {ok:Nat→Prop} {w W:World} {A:List Value} {tys:List Ty} {tv:Value} {l:List Tm} {a:Option Addr} {c b j:Nat} {ta:Option Addr} {tn tc:Nat} {ua:Option Addr} {un uc:Nat} (h:CmI x y ok w A tys tv l a c b j W) (hok:∀ q,ok q→q<w.heap.size) (hj:j<l.length) (hc:W.cell? ⟨b,j*7+5,none⟩=some (.slice ta tn tc)) (hc':W.cell? ⟨b,j*7+6,none⟩=some (.slice ua un uc)) (hf:PyL (Full x y) ok W l[j].ty.kids (.slice ta tn tc)) (hg:PmL (Full x y) ok W l[j].kids (.slice ua un uc)):
  CmI x y ok w A tys tv l a c b (j+1) (((((((W.setCell ⟨b,j*7,none⟩ (.int .i64 l[j].op)).setCell ⟨b,j*7+1,none⟩ (.string l[j].name)).setCell ⟨b,j*7+2,none⟩ (.int .i64 l[j].n)).setCell ⟨b,j*7+3,none⟩ (.int .i64 l[j].ty.kind)).setCell ⟨b,j*7+4,none⟩ (.string (rnN x y l[j].ty.kind l[j].ty.name))).setCell ⟨b,j*7+5,none⟩ (.slice ta tn tc)).setCell ⟨b,j*7+6,none⟩ (.slice ua un uc)):=by
 have hne:l≠[]:=fun e=>by subst e;simp at hj
 obtain⟨h1,h2,h3,h4⟩:=h.row hne
 obtain⟨q1,q2⟩:=h4.step h2 hj hc hc' hf hg
 have h':=h.rwd hok q1
 exact⟨h'.rr,h'.bx,h'.br,h'.ty,fun _=>⟨h1,h2,h3,q2⟩⟩
abbrev E4:=(ByteArray×Tm)×Value×Value
def bCells (e:E4):List Value:=.string e.1.1::tmCells e.1.2 e.2.1 e.2.2
def flatB:List E4→List Value
 | []=>[]
 | e::E=>bCells e++flatB E
def BEL (bz:Nat) (ok:Nat→Prop) (w:World) (E:List E4):Prop:=∀ e∈E,TyL bz ok w e.1.2.ty.kids e.2.1∧TmL bz ok w e.1.2.kids e.2.2
theorem flatB_get:∀ (E:List E4) (i j:Nat) (h:i<E.length),j<8→(flatB E)[i*8+j]?=(bCells E[i])[j]?
 | e::E,0,j,_,hj=>by
  rw[flatB,Nat.zero_mul,Nat.zero_add,List.getElem?_append_left (by show j<8;exact hj)];rfl
 | e::E,i+1,j,h,hj=>by
  rw[flatB,List.getElem?_append_right (by show 8≤_;omega)]
  have:=flatB_get E i j (by simpa using h) hj
  rw[show (i+1)*8+j-(bCells e).length=i*8+j by show (i+1)*8+j-8=_;omega,this]
  rfl
theorem BEL.frame {ok:Nat→Prop} {w w':World} {E:List E4} (h:BEL bz ok w E) (hs:Same ok w w'):BEL bz ok w' E:=fun e he=>⟨(h e he).1.frame hs,(h e he).2.frame hs⟩
theorem BEL.snoc {ok:Nat→Prop} {w:World} {E:List E4} {e:E4} (h:BEL bz ok w E) (ha:TyL bz ok w e.1.2.ty.kids e.2.1) (hc:TmL bz ok w e.1.2.kids e.2.2):BEL bz ok w (E++[e]):=by
 intro x hx
 rcases List.mem_append.1 hx with hx | hx
 ·exact h x hx
 ·rw[List.mem_singleton.1 hx];exact⟨ha,hc⟩
theorem bnl_of_row {ok:Nat→Prop} {w:World} {base:Nat} {v:Value} {E:List E4} (hown:w.ownsRow base 38 8 v E.length (flatB E)) (hl:BEL bz ok w E) (hok:∀ g,v.ownBlock=some g→ok g):BnL bz ok w (E.map (·.1)) v:=by
 rcases hown.2 with ⟨rfl,hn⟩ | ⟨g,cap,cur,rfl,hbg,hg,hnc,hcm,hcs,htake⟩
 ·have:E=[]:=List.length_eq_zero_iff.1 hn
  subst this;exact .nil
 ·have hb:Blk w g 38 cur.toList:=by show w.heap[g]?=_;rw[hg]
  have hc:∀ i j,i<E.length→j<8→w.cell? ⟨g,0+i*8+j,none⟩=(flatB E)[i*8+j]?:=by
   intro i j hi hj
   rw[hb.cell,← htake,List.getElem?_take,if_pos (by omega),Nat.zero_add]
  refine⟨some ⟨g,0,none⟩,E.length,cap,rfl,by simp,by omega,(fun e=>by cases e),fun i hi=>?_⟩
  have hi':i<E.length:=by simpa using hi
  have e1:(E.map (·.1))[i]=E[i].1:=List.getElem_map ..
  obtain⟨ta,tn,tc,hT⟩:=(hl _ (List.getElem_mem hi')).1.slice
  obtain⟨ma,mn,mc,hM⟩:=(hl _ (List.getElem_mem hi')).2.slice
  have q:∀ j (hj:j<8),w.cell? ⟨g,0+i*8+j,none⟩=(bCells E[i])[j]?:=fun j hj=>(hc i j hi' hj).trans (flatB_get E i j hi' hj)
  rw[e1]
  refine⟨g,0,ta,tn,tc,ma,mn,mc,rfl,hok g rfl,hb.lt,q 0 (by omega),⟨?_,?_,?_,?_,?_,?_,?_⟩,by rw[← hT];exact (hl _ (List.getElem_mem hi')).1,by rw[← hM];exact (hl _ (List.getElem_mem hi')).2⟩
  ·exact q 1 (by omega)
  ·exact q 2 (by omega)
  ·exact q 3 (by omega)
  ·exact q 4 (by omega)
  ·exact q 5 (by omega)
  ·rw[← hT];exact q 6 (by omega)
  ·rw[← hM];exact q 7 (by omega)
structure RowB (bz:Nat) (ok:Nat→Prop) (w:World) (base:Nat) (wr:World) (E:List E4) (v:Value):Prop where
 kp:Kept (fun _=>False) w wr
 own:wr.ownsRow base 38 8 v E.length (flatB E)
 el:BEL bz ok wr E
 lo:∀ q,ok q→q<base
theorem RowB.nil {ok:Nat→Prop} {w wr:World} {base:Nat} (k:Kept (fun _=>False) w wr) (lo:∀ q,ok q→q<base):RowB bz ok w base wr [] (.slice none 0 0):=⟨k,World.ownsRow_nil _ _ _ _,(fun e he=>by cases he),lo⟩
theorem RowB.kept {ok:Nat→Prop} {w wr w':World} {base:Nat} {E:List E4} {v:Value} (h:RowB bz ok w base wr E v) (k:Kept (fun _=>False) wr w'):RowB bz ok w base w' E v:=
 ⟨h.kp.trans k,own_keptT h.own k (fun _ _ h=>h),h.el.frame (sK k),h.lo⟩
theorem BEL.mono {ok ok':Nat→Prop} {w:World} {E:List E4} (h:BEL bz ok w E) (ho:∀ k,k<w.heap.size→ok k→ok' k):BEL bz ok' w E:=fun e he=>⟨(h e he).1.mono ho,(h e he).2.mono ho⟩
def FitB (l:List (ByteArray×Tm)) (t:Tm) (M:Nat):Prop:=∀ (x:ByteArray) (F:List ByteArray),(∀ s,mb s F=true→s≠x→mb s (fr t)=true)→(frB (remL l x F)).length≤M
theorem remG_frB (x:ByteArray) (F:List ByteArray):∀ (l out:List (ByteArray×Tm)),(frB (remG x F out l)).length≤(frB out).length+(frB l).length∧(remG x F out l).length≤out.length+l.length
 | [],out=>⟨Nat.le_refl _,Nat.le_refl _⟩
 | b::l,out=>by
  rw[remG,frB,List.length_append,List.length_cons]
  split
  ·have:=remG_frB x F l out;omega
  ·have:=remG_frB x F l (out++[b])
   rw[frB_app,List.length_append,frB,List.length_append,List.length_append,List.length_singleton] at this
   simp only[frB,List.length_nil] at this
   omega
theorem remL_count (l:List (ByteArray×Tm)) (x:ByteArray) (F:List ByteArray):(remL l x F).length≤l.length:=by
 have:=(remG_frB x F l []).2;unfold remL;simpa using this
theorem remL_frB (l:List (ByteArray×Tm)) (x:ByteArray) (F:List ByteArray):(frB (remL l x F)).length≤(frB l).length:=by
 have:=(remG_frB x F l []).1;unfold remL;simpa [frB] using this
theorem fr_bind {op:Int} {nm:ByteArray} {N:Int} {ty:Ty} {d y:Tm} (hop:op≠20) (hb:binderB op=true):fr (.mk op nm N ty [d,y])=fr d++(fr y).filter (fun s=>!decide (s=nm)):=by
 rw[fr,if_neg hop,hb,frs,frs,frs,List.append_nil];rfl
theorem FitB.rem {l:List (ByteArray×Tm)} {op:Int} {nm:ByteArray} {N:Int} {ty:Ty} {d y:Tm} {M:Nat} (hop:op≠20) (hb:binderB op=true) (h:FitB l (.mk op nm N ty [d,y]) M):(frB (remL l nm (fr y))).length≤M:=
 h nm (fr y) (fun s hs hx=>by
  rw[fr_bind hop hb,mb_app]
  have:mb s ((fr y).filter (fun s=>!decide (s=nm)))=true:=(mb_iff _ _).2 (List.mem_filter.2 ⟨(mb_iff _ _).1 hs,by simp[hx]⟩)
  rw[this];simp)
theorem inner_frB (nm:ByteArray) (y:Tm) (l:List (ByteArray×Tm)):(frB (inner freshS nm y l)).length≤(frB (remL l nm (fr y))).length+1∧(inner freshS nm y l).length≤l.length+1:=by
 have h:=remL_count l nm (fr y)
 unfold inner
 split
 ·rw[frB_app,List.length_append,List.length_append,List.length_singleton,frB,fr_nameT]
  simp only[frB,List.append_nil,List.length_singleton]
  omega
 ·omega
theorem FitB.inn {l:List (ByteArray×Tm)} {op:Int} {nm:ByteArray} {N:Int} {ty:Ty} {d y:Tm} {M:Nat} (hop:op≠20) (hb:binderB op=true) (h:FitB l (.mk op nm N ty [d,y]) M):FitB (inner freshS nm y l) y (M+1):=
 fun x F _=>by
  have h1:=remL_frB (inner freshS nm y l) x F
  have h2:=(inner_frB nm y l).1
  have h3:=FitB.rem hop hb h
  omega
end Go.Proofs.YtdmebjbkccjhbaaGreatDoor
