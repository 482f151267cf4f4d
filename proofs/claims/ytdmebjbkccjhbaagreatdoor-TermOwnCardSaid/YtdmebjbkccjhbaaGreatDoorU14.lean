/- A part. -/
import Derived.Test.YtdmebjbkccjhbaaGreatDoorU13
set_option linter.unusedVariables false
set_option linter.unusedSimpArgs false
set_option maxRecDepth 100000
set_option maxHeartbeats 32000000
namespace Go.Proofs.YtdmebjbkccjhbaaGreatDoor
open Go.RowKit
variable {bz:Nat}
def InL (ok:Nat→Prop) (w:World) (l:List Int) (v:Value):Prop:=
 ∃ a n c,v=.slice a n c∧n=l.length∧n≤c∧∀ i (h:i<l.length),∃ g off,a=some ⟨g,off,none⟩∧ok g∧w.cell? ⟨g,off+i,none⟩=some (.int .i64 l[i])
theorem InL.frame {ok:Nat→Prop} {w W:World} {l:List Int} {v:Value} (h:InL ok w l v) (hs:Same ok w W):InL ok W l v:=by
 obtain⟨a,n,c,h1,h2,h3,h4⟩:=h
 refine⟨a,n,c,h1,h2,h3,fun i hi=>?_⟩
 obtain⟨g,off,e,hg,hc⟩:=h4 i hi
 exact⟨g,off,e,hg,hs.cell hg hc⟩
theorem InL.mono {ok ok':Nat→Prop} {w:World} {l:List Int} {v:Value} (h:InL ok w l v) (ho:∀ k,k<w.heap.size→ok k→ok' k):InL ok' w l v:=by
 obtain⟨a,n,c,h1,h2,h3,h4⟩:=h
 refine⟨a,n,c,h1,h2,h3,fun i hi=>?_⟩
 obtain⟨g,off,e,hg,hc⟩:=h4 i hi
 exact⟨g,off,e,ho _ (cell_lt hc) hg,hc⟩
theorem InL.slice {ok:Nat→Prop} {w:World} {l:List Int} {v:Value} (h:InL ok w l v):∃ a c,v=.slice a l.length c:=by
 obtain⟨a,n,c,h1,h2,_⟩:=h
 exact⟨a,c,by rw[h1,h2]⟩
theorem InL.at {ok:Nat→Prop} {w:World} {l:List Int} {a:Option Addr} {n c:Nat} (h:InL ok w l (.slice a n c)) (i:Nat) (hi:i<l.length):∃ g off,a=some ⟨g,off,none⟩∧ok g∧w.cell? ⟨g,off+i,none⟩=some (.int .i64 l[i]):=by
 obtain⟨a',n',c',h1,h2,h3,h4⟩:=h
 cases h1
 exact h4 i hi
theorem atP_drop {t:Tm} {l:List Int} {k:Nat} (h:k<l.length):atP t (l.drop k)=if stepB t l[k] then atP (kidI t l[k]) (l.drop (k+1)) else none:=by
 rw[List.drop_eq_getElem_cons h,atP]
theorem stepB_no {t:Tm} {i:Int} (h:i<0∨(t.kids.length:Int)≤i):stepB t i=false:=by
 unfold stepB;simp;omega
theorem stepB_yes {t:Tm} {i:Int} (h1:0≤i) (h2:i<t.kids.length):stepB t i=true:=by
 unfold stepB;simp;omega
def AtP (bz:Nat) (t:Tm) (l:List Int) (w:World) (e:Ending) (w':World):Prop:=∃ tk kk,e=.returned (.tuple #[tmVal ((atP t l).getD tm0) tk kk,.bool (atP t l).isSome])∧TyL bz (fun q=>q<w.heap.size) w' ((atP t l).getD tm0).ty.kids tk∧TmL bz (fun q=>q<w.heap.size) w' ((atP t l).getD tm0).kids kk∧Kept (fun _=>False) w w'
structure AtI (bz:Nat) (w:World) (u:Tm) (wr:World) (tk kk:Value):Prop where
 kp:Kept (fun _=>False) w wr
 b:Blk wr w.heap.size 27 (tmCells u tk kk)
 r:Blk wr (w.heap.size+1) 27 z27
 ty:TyL bz (fun q=>q<w.heap.size) wr u.ty.kids tk
 tm:TmL bz (fun q=>q<w.heap.size) wr u.kids kk
theorem noop57_any (W:World) (op:Int) (nm:ByteArray) (N k:Int) (q:ByteArray) (a:Option Addr) (n c:Nat) (ma:Option Addr) (mn mc:Nat) (i:Int):Calls Tryz.prog 69 #[.agg #[.int .i64 op,.string nm,.int .i64 N,.int .i64 k,.string q,.slice a n c,.slice ma mn mc],.int .i64 i] W fun e w'=>e=.returned (.tuple #[])∧Kept (fun _=>False) W w':=by
 have K0:Kept (fun _=>False) W (W.alloc (.cells #[.int .i64 op,.string nm,.int .i64 N,.int .i64 k,.string q,.slice a n c,.slice ma mn mc] 27)):=kR.alloc _
 go_enter Tryz.func69,Tryz.ntmps69
 go_wp2_with fail
 go_end0
 exact⟨rfl,K0⟩
theorem at_noop57 {t:Tm} {l:List Int} {ok ok':Nat→Prop} {w:World} {tk kk vl:Value} (h1:TyL bz ok w t.ty.kids tk) (h2:TmL bz ok w t.kids kk) (hl:InL ok' w l vl) (hb:l.length≤9223372036854775807):
  Calls Tryz.prog 66 #[tmVal t tk kk,vl,.func (.func 69) #[] #[]] w (AtP bz t l w):=by
 obtain⟨a,c,rfl⟩:=hl.slice
 obtain⟨p,n,cp,rfl⟩:=h1.slice
 obtain⟨ma,mn,mc,rfl⟩:=h2.slice
 have HIN:=Ld (fun W (k:Kept (fun _=>False) w W)=>(hl.frame (sK k)).at)
 have HB:=Ld hb
 have HJ0:Hid (AtI bz w t ((w.alloc (.cells #[.int .i64 t.op,.string t.name,.int .i64 t.n,.int .i64 t.ty.kind,.string t.ty.name,.slice p n cp,.slice ma mn mc] 27)).alloc Z7) (.slice p n cp) (.slice ma mn mc)):=Ld
  ⟨(kR.alloc _).alloc _,(Blk.new w 27 (tmCells t (.slice p n cp) (.slice ma mn mc))).alloc _,Blk.new' 27 _ (by simp),((h1.mono (fun q hq _=>hq)).frame (Same.alloc _ _)).frame (Same.alloc _ _),((h2.mono (fun q hq _=>hq)).frame (Same.alloc _ _)).frame (Same.alloc _ _)⟩
 clear hl hb h1 h2
 unfold tmVal
 go_enter Tryz.func66,Tryz.ntmps66
 go_wp2_with fail
 go_loopw [9,12] (fun x i wr=>∃ (k:Nat) (u:Tm) (tk kk:Value),k≤l.length∧i=.int .i64 k∧AtI bz w u wr tk kk∧Hid (atP t l=atP u (l.drop k))) (fun x i _=>l.length-(intOf i).toNat)
 case atStart=>exact⟨0,t,_,_,Nat.zero_le _,rfl,HJ0.out,Ld rfl⟩
 case round=>
  obtain⟨k,u,tk,kk,hkl,rfl,hJ,hL⟩:=hrel
  obtain⟨xa,xn,xc,rfl⟩:=hJ.ty.slice
  obtain⟨ya,yn,yc,rfl⟩:=hJ.tm.slice
  obtain rfl:yn=u.kids.length:=hJ.tm.len
  have gB:∀ i,wr.cell? ⟨w.heap.size,i,none⟩=[Value.int .i64 u.op,.string u.name,.int .i64 u.n,.int .i64 u.ty.kind,.string u.ty.name,.slice xa xn xc,.slice ya u.kids.length yc][i]?:=hJ.b.cell
  have fB:∀ i,wr.frozen? ⟨w.heap.size,i,none⟩=false:=hJ.b.frozen
  have fR:∀ i,wr.frozen? ⟨w.heap.size+1,i,none⟩=false:=hJ.r.frozen
  have gR:∀ i,wr.cell? ⟨w.heap.size+1,i,none⟩=[Value.int .i64 0,.string ⟨#[]⟩,.int .i64 0,.int .i64 0,.string ⟨#[]⟩,.slice none 0 0,.slice none 0 0][i]?:=hJ.r.cell
  have HJ:=Ld hJ
  clear hJ
  by_cases hlt:k<l.length
  ·have i1:(k:Int)<(l.length:Int):=by omega
   have i2:(k:Int)<9223372036854775807:=by have:=HB.out;omega
   obtain⟨g,off,rfl,_,c0⟩:=HIN.out wr HJ.out.kp k hlt
   have HS:=Ld (atP_drop (t:=u) hlt)
   generalize hx:l[k]=x at *
   clear hx
   by_cases n1:x<0
   ·have t1:decide (x<0)=true:=decide_eq_true n1
    have HN:Hid (atP t l=none):=Ld (by rw[hL.out,HS.out,stepB_no (Or.inl n1)];rfl)
    clear n1
    go_wp2_with fail
    exact bodyPost_ret (results_ct Tryz.results66 rfl (load_tm (t:=tm0) (r7 HJ.out.r rfl))) rfl ⟨_,_,by rw[HN.out];rfl,by rw[HN.out];exact .nil (Or.inl rfl),by rw[HN.out];exact .nil (Or.inl rfl),k7w HJ.out.kp (Or.inr (Nat.le_succ _))⟩
   ·have t1:decide (x<0)=false:=decide_eq_false n1
    by_cases n2:(u.kids.length:Int)≤x
    ·have t2:decide ((u.kids.length:Int)≤x)=true:=by simp[n2]
     have HN:Hid (atP t l=none):=Ld (by rw[hL.out,HS.out,stepB_no (Or.inr (by omega))];rfl)
     clear n1 n2
     go_wp2_with fail
     exact bodyPost_ret (results_ct Tryz.results66 rfl (load_tm (t:=tm0) (r7 HJ.out.r rfl))) rfl ⟨_,_,by rw[HN.out];rfl,by rw[HN.out];exact .nil (Or.inl rfl),by rw[HN.out];exact .nil (Or.inl rfl),k7w HJ.out.kp (Or.inr (Nat.le_succ _))⟩
    ·have t2:decide ((u.kids.length:Int)≤x)=false:=decide_eq_false n2
     go_upto_region 6 with (fail)
     clear t1 t2
     obtain⟨j,rfl⟩:∃ j:Nat,x=(j:Int):=⟨x.toNat,by omega⟩
     have hj:j<u.kids.length:=by omega
     have HN:Hid (atP t l=atP u.kids[j] (l.drop (k+1))):=Ld (by
      rw[hL.out,HS.out,stepB_yes (by omega) (by omega),if_pos rfl,kid_get (by simpa using hj)];simp)
     clear n1 n2
     go_wp2_with fail
     refine (noop57_any _ _ _ _ _ _ _ _ _ _ _ _ _).mono ?_
     rintro e w6 ⟨rfl,k6⟩
     have HJ6:Hid (AtI bz w u w6 (.slice xa xn xc) (.slice ya u.kids.length yc)):=Ld ⟨HJ.out.kp.trans k6,HJ.out.b.kept k6 (fun h=>h),HJ.out.r.kept k6 (fun h=>h),HJ.out.ty.frame (sK k6),HJ.out.tm.frame (sK k6)⟩
     clear HJ gB fB fR gR k6 c0
     have gB:∀ i,w6.cell? ⟨w.heap.size,i,none⟩=[Value.int .i64 u.op,.string u.name,.int .i64 u.n,.int .i64 u.ty.kind,.string u.ty.name,.slice xa xn xc,.slice ya u.kids.length yc][i]?:=HJ6.out.b.cell
     have fB:∀ i,w6.frozen? ⟨w.heap.size,i,none⟩=false:=HJ6.out.b.frozen
     obtain⟨g',off',pa,pn,pc,qa,qn,qc,rfl,hg',lg',⟨c0,c1,c2,c3,c4,c5,c6⟩,hty,htm⟩:=HJ6.out.tm.at j hj
     have hjj:(j:Int)<(u.kids.length:Int):=by omega
     have hne:g'≠w.heap.size:=by omega
     have hn1:w.heap.size+1≠w.heap.size:=by omega
     have HX:Hid (AtI bz w u.kids[j] (((((((w6.setCell ⟨w.heap.size,0,none⟩ (.int .i64 u.kids[j].op)).setCell ⟨w.heap.size,1,none⟩ (.string u.kids[j].name)).setCell ⟨w.heap.size,2,none⟩ (.int .i64 u.kids[j].n)).setCell ⟨w.heap.size,3,none⟩ (.int .i64 u.kids[j].ty.kind)).setCell ⟨w.heap.size,4,none⟩ (.string u.kids[j].ty.name)).setCell ⟨w.heap.size,5,none⟩ (.slice pa pn pc)).setCell ⟨w.heap.size,6,none⟩ (.slice qa qn qc)) (.slice pa pn pc) (.slice qa qn qc)):=Ld
      ⟨k7w HJ6.out.kp (Or.inr (Nat.le_refl _)),r7 HJ6.out.b rfl,(((((((HJ6.out.r.set_other _ _ hn1).set_other _ _ hn1).set_other _ _ hn1).set_other _ _ hn1).set_other _ _ hn1).set_other _ _ hn1).set_other _ _ hn1),hty.frame (set7 (fun q hq=>by omega)),htm.frame (set7 (fun q hq=>by omega))⟩
     clear hty htm hn1
     go_wp2_with fail
     go_roundw
     case rel=>exact⟨k+1,_,_,_,by omega,by go_num,HX.out,HN⟩
     case measure=>simp[intOf];omega
  ·have hkk:k=l.length:=by omega
   subst hkk
   have HN:Hid (atP t l=some u):=Ld (by rw[hL.out,List.drop_length];rfl)
   go_wp2_with fail
   exact bodyPost_ret (results_ct Tryz.results66 rfl (load_tm (t:=u) (r7 HJ.out.r rfl))) rfl ⟨_,_,by rw[HN.out];rfl,by rw[HN.out];exact HJ.out.ty.frame (set7 (fun q hq=>by omega)),by rw[HN.out];exact HJ.out.tm.frame (set7 (fun q hq=>by omega)),k7w HJ.out.kp (Or.inr (Nat.le_succ _))⟩
theorem noop61_any (W:World) (op:Int) (nm:ByteArray) (N k:Int) (q:ByteArray) (a:Option Addr) (n c:Nat) (ma:Option Addr) (mn mc:Nat) (i:Int):Calls Tryz.prog 67 #[.agg #[.int .i64 op,.string nm,.int .i64 N,.int .i64 k,.string q,.slice a n c,.slice ma mn mc],.int .i64 i] W fun e w'=>e=.returned (.tuple #[])∧Kept (fun _=>False) W w':=by
 have K0:Kept (fun _=>False) W (W.alloc (.cells #[.int .i64 op,.string nm,.int .i64 N,.int .i64 k,.string q,.slice a n c,.slice ma mn mc] 27)):=kR.alloc _
 go_enter Tryz.func67,Tryz.ntmps67
 go_wp2_with fail
 go_end0
 exact⟨rfl,K0⟩
theorem at_noop61 {t:Tm} {l:List Int} {ok ok':Nat→Prop} {w:World} {tk kk vl:Value} (h1:TyL bz ok w t.ty.kids tk) (h2:TmL bz ok w t.kids kk) (hl:InL ok' w l vl) (hb:l.length≤9223372036854775807):
  Calls Tryz.prog 66 #[tmVal t tk kk,vl,.func (.func 67) #[] #[]] w (AtP bz t l w):=by
 obtain⟨a,c,rfl⟩:=hl.slice
 obtain⟨p,n,cp,rfl⟩:=h1.slice
 obtain⟨ma,mn,mc,rfl⟩:=h2.slice
 have HIN:=Ld (fun W (k:Kept (fun _=>False) w W)=>(hl.frame (sK k)).at)
 have HB:=Ld hb
 have HJ0:Hid (AtI bz w t ((w.alloc (.cells #[.int .i64 t.op,.string t.name,.int .i64 t.n,.int .i64 t.ty.kind,.string t.ty.name,.slice p n cp,.slice ma mn mc] 27)).alloc Z7) (.slice p n cp) (.slice ma mn mc)):=Ld
  ⟨(kR.alloc _).alloc _,(Blk.new w 27 (tmCells t (.slice p n cp) (.slice ma mn mc))).alloc _,Blk.new' 27 _ (by simp),((h1.mono (fun q hq _=>hq)).frame (Same.alloc _ _)).frame (Same.alloc _ _),((h2.mono (fun q hq _=>hq)).frame (Same.alloc _ _)).frame (Same.alloc _ _)⟩
 clear hl hb h1 h2
 unfold tmVal
 go_enter Tryz.func66,Tryz.ntmps66
 go_wp2_with fail
 go_loopw [9,12] (fun x i wr=>∃ (k:Nat) (u:Tm) (tk kk:Value),k≤l.length∧i=.int .i64 k∧AtI bz w u wr tk kk∧Hid (atP t l=atP u (l.drop k))) (fun x i _=>l.length-(intOf i).toNat)
 case atStart=>exact⟨0,t,_,_,Nat.zero_le _,rfl,HJ0.out,Ld rfl⟩
 case round=>
  obtain⟨k,u,tk,kk,hkl,rfl,hJ,hL⟩:=hrel
  obtain⟨xa,xn,xc,rfl⟩:=hJ.ty.slice
  obtain⟨ya,yn,yc,rfl⟩:=hJ.tm.slice
  obtain rfl:yn=u.kids.length:=hJ.tm.len
  have gB:∀ i,wr.cell? ⟨w.heap.size,i,none⟩=[Value.int .i64 u.op,.string u.name,.int .i64 u.n,.int .i64 u.ty.kind,.string u.ty.name,.slice xa xn xc,.slice ya u.kids.length yc][i]?:=hJ.b.cell
  have fB:∀ i,wr.frozen? ⟨w.heap.size,i,none⟩=false:=hJ.b.frozen
  have fR:∀ i,wr.frozen? ⟨w.heap.size+1,i,none⟩=false:=hJ.r.frozen
  have gR:∀ i,wr.cell? ⟨w.heap.size+1,i,none⟩=[Value.int .i64 0,.string ⟨#[]⟩,.int .i64 0,.int .i64 0,.string ⟨#[]⟩,.slice none 0 0,.slice none 0 0][i]?:=hJ.r.cell
  have HJ:=Ld hJ
  clear hJ
  by_cases hlt:k<l.length
  ·have i1:(k:Int)<(l.length:Int):=by omega
   have i2:(k:Int)<9223372036854775807:=by have:=HB.out;omega
   obtain⟨g,off,rfl,_,c0⟩:=HIN.out wr HJ.out.kp k hlt
   have HS:=Ld (atP_drop (t:=u) hlt)
   generalize hx:l[k]=x at *
   clear hx
   by_cases n1:x<0
   ·have t1:decide (x<0)=true:=decide_eq_true n1
    have HN:Hid (atP t l=none):=Ld (by rw[hL.out,HS.out,stepB_no (Or.inl n1)];rfl)
    clear n1
    go_wp2_with fail
    exact bodyPost_ret (results_ct Tryz.results66 rfl (load_tm (t:=tm0) (r7 HJ.out.r rfl))) rfl ⟨_,_,by rw[HN.out];rfl,by rw[HN.out];exact .nil (Or.inl rfl),by rw[HN.out];exact .nil (Or.inl rfl),k7w HJ.out.kp (Or.inr (Nat.le_succ _))⟩
   ·have t1:decide (x<0)=false:=decide_eq_false n1
    by_cases n2:(u.kids.length:Int)≤x
    ·have t2:decide ((u.kids.length:Int)≤x)=true:=by simp[n2]
     have HN:Hid (atP t l=none):=Ld (by rw[hL.out,HS.out,stepB_no (Or.inr (by omega))];rfl)
     clear n1 n2
     go_wp2_with fail
     exact bodyPost_ret (results_ct Tryz.results66 rfl (load_tm (t:=tm0) (r7 HJ.out.r rfl))) rfl ⟨_,_,by rw[HN.out];rfl,by rw[HN.out];exact .nil (Or.inl rfl),by rw[HN.out];exact .nil (Or.inl rfl),k7w HJ.out.kp (Or.inr (Nat.le_succ _))⟩
    ·have t2:decide ((u.kids.length:Int)≤x)=false:=decide_eq_false n2
     go_upto_region 6 with (fail)
     clear t1 t2
     obtain⟨j,rfl⟩:∃ j:Nat,x=(j:Int):=⟨x.toNat,by omega⟩
     have hj:j<u.kids.length:=by omega
     have HN:Hid (atP t l=atP u.kids[j] (l.drop (k+1))):=Ld (by
      rw[hL.out,HS.out,stepB_yes (by omega) (by omega),if_pos rfl,kid_get (by simpa using hj)];simp)
     clear n1 n2
     go_wp2_with fail
     refine (noop61_any _ _ _ _ _ _ _ _ _ _ _ _ _).mono ?_
     rintro e w6 ⟨rfl,k6⟩
     have HJ6:Hid (AtI bz w u w6 (.slice xa xn xc) (.slice ya u.kids.length yc)):=Ld ⟨HJ.out.kp.trans k6,HJ.out.b.kept k6 (fun h=>h),HJ.out.r.kept k6 (fun h=>h),HJ.out.ty.frame (sK k6),HJ.out.tm.frame (sK k6)⟩
     clear HJ gB fB fR gR k6 c0
     have gB:∀ i,w6.cell? ⟨w.heap.size,i,none⟩=[Value.int .i64 u.op,.string u.name,.int .i64 u.n,.int .i64 u.ty.kind,.string u.ty.name,.slice xa xn xc,.slice ya u.kids.length yc][i]?:=HJ6.out.b.cell
     have fB:∀ i,w6.frozen? ⟨w.heap.size,i,none⟩=false:=HJ6.out.b.frozen
     obtain⟨g',off',pa,pn,pc,qa,qn,qc,rfl,hg',lg',⟨c0,c1,c2,c3,c4,c5,c6⟩,hty,htm⟩:=HJ6.out.tm.at j hj
     have hjj:(j:Int)<(u.kids.length:Int):=by omega
     have hne:g'≠w.heap.size:=by omega
     have hn1:w.heap.size+1≠w.heap.size:=by omega
     have HX:Hid (AtI bz w u.kids[j] (((((((w6.setCell ⟨w.heap.size,0,none⟩ (.int .i64 u.kids[j].op)).setCell ⟨w.heap.size,1,none⟩ (.string u.kids[j].name)).setCell ⟨w.heap.size,2,none⟩ (.int .i64 u.kids[j].n)).setCell ⟨w.heap.size,3,none⟩ (.int .i64 u.kids[j].ty.kind)).setCell ⟨w.heap.size,4,none⟩ (.string u.kids[j].ty.name)).setCell ⟨w.heap.size,5,none⟩ (.slice pa pn pc)).setCell ⟨w.heap.size,6,none⟩ (.slice qa qn qc)) (.slice pa pn pc) (.slice qa qn qc)):=Ld
      ⟨k7w HJ6.out.kp (Or.inr (Nat.le_refl _)),r7 HJ6.out.b rfl,(((((((HJ6.out.r.set_other _ _ hn1).set_other _ _ hn1).set_other _ _ hn1).set_other _ _ hn1).set_other _ _ hn1).set_other _ _ hn1).set_other _ _ hn1),hty.frame (set7 (fun q hq=>by omega)),htm.frame (set7 (fun q hq=>by omega))⟩
     clear hty htm hn1
     go_wp2_with fail
     go_roundw
     case rel=>exact⟨k+1,_,_,_,by omega,by go_num,HX.out,HN⟩
     case measure=>simp[intOf];omega
  ·have hkk:k=l.length:=by omega
   subst hkk
   have HN:Hid (atP t l=some u):=Ld (by rw[hL.out,List.drop_length];rfl)
   go_wp2_with fail
   exact bodyPost_ret (results_ct Tryz.results66 rfl (load_tm (t:=u) (r7 HJ.out.r rfl))) rfl ⟨_,_,by rw[HN.out];rfl,by rw[HN.out];exact HJ.out.ty.frame (set7 (fun q hq=>by omega)),by rw[HN.out];exact HJ.out.tm.frame (set7 (fun q hq=>by omega)),k7w HJ.out.kp (Or.inr (Nat.le_succ _))⟩
structure Bx3 (w:World) (ca cb cc:List Value) (W:World):Prop where
 a:Blk W w.heap.size 27 ca
 b:Blk W (w.heap.size+1) 27 cb
 c:Blk W (w.heap.size+1+1) 27 cc
 k:Kept (fun _=>False) w W
theorem Bx3.kept {w:World} {ca cb cc:List Value} {W W':World} (h:Bx3 w ca cb cc W) (k:Kept (fun _=>False) W W'):Bx3 w ca cb cc W':=
 ⟨h.a.kept k (fun h=>h),h.b.kept k (fun h=>h),h.c.kept k (fun h=>h),h.k.trans k⟩
theorem Bx3.new (w:World) (ca cb cc:List Value):Bx3 w ca cb cc (((w.alloc (.cells ca.toArray 27)).alloc (.cells cb.toArray 27)).alloc (.cells cc.toArray 27)):=
 ⟨((Blk.new w 27 ca).alloc _).alloc _,(Blk.new' 27 _ (by simp)).alloc _,Blk.new' 27 _ (by simp),((kR.alloc _).alloc _).alloc _⟩
def PutP (bz:Nat) (r:Tm) (w:World) (e:Ending) (w':World):Prop:=∃ tk kk,e=.returned (tmVal r tk kk)∧TyL bz (fun q=>w.heap.size≤q) w' r.ty.kids tk∧TmL bz (fun q=>w.heap.size≤q) w' r.kids kk∧Kept (fun _=>False) w w'
theorem put_nil {t u:Tm} {ok ok':Nat→Prop} {w:World} {tk kk tk' kk':Value} {a:Option Addr} {c:Nat} (hu:BdTm u) (h1:TyL bz ok w t.ty.kids tk) (h2:TmL bz ok w t.kids kk) (h3:TyL bz ok' w u.ty.kids tk') (h4:TmL bz ok' w u.kids kk'):
  Calls Tryz.prog 68 #[tmVal t tk kk,.slice a 0 c,tmVal u tk' kk'] w (PutP bz u w):=by
 obtain⟨p,n,cp,rfl⟩:=h1.slice
 obtain⟨ma,mn,mc,rfl⟩:=h2.slice
 obtain⟨p',n',cp',rfl⟩:=h3.slice
 obtain⟨ma',mn',mc',rfl⟩:=h4.slice
 have B0:=Ld (Bx3.new w [.int .i64 t.op,.string t.name,.int .i64 t.n,.int .i64 t.ty.kind,.string t.ty.name,.slice p n cp,.slice ma mn mc] [.int .i64 u.op,.string u.name,.int .i64 u.n,.int .i64 u.ty.kind,.string u.ty.name,.slice p' n' cp',.slice ma' mn' mc'] z27)
 change Hid (Bx3 _ _ _ _ (((w.alloc (.cells #[.int .i64 t.op,.string t.name,.int .i64 t.n,.int .i64 t.ty.kind,.string t.ty.name,.slice p n cp,.slice ma mn mc] 27)).alloc (.cells #[.int .i64 u.op,.string u.name,.int .i64 u.n,.int .i64 u.ty.kind,.string u.ty.name,.slice p' n' cp',.slice ma' mn' mc'] 27)).alloc Z7)) at B0
 have HC:=Ld (fun W (k:Kept (fun _=>False) w W)=>clone_any hu W ok' _ _ (h3.frame (sK k)) (h4.frame (sK k)))
 clear h1 h2 h3 h4 hu
 unfold tmVal at HC ⊢
 go_enter Tryz.func68,Tryz.ntmps68
 go_wp2_with fail
 generalize (((w.alloc (.cells #[.int .i64 t.op,.string t.name,.int .i64 t.n,.int .i64 t.ty.kind,.string t.ty.name,.slice p n cp,.slice ma mn mc] 27)).alloc (.cells #[.int .i64 u.op,.string u.name,.int .i64 u.n,.int .i64 u.ty.kind,.string u.ty.name,.slice p' n' cp',.slice ma' mn' mc'] 27)).alloc Z7)=w1 at *
 refine (HC.out w1 B0.out.k).mono ?_
 rintro e w2 ⟨tk,kk,rfl,hty,htm,k2⟩
 obtain⟨ua,un,uc,rfl⟩:=hty.slice
 obtain⟨va,vn,vc,rfl⟩:=htm.slice
 unfold tmVal
 have BR:=Ld (B0.out.kept k2)
 have HTY:=Ld (hty.mono (ok':=fun q=>w.heap.size+1+1<q) (fun q _ hq=>by have:=B0.out.c.lt;omega))
 have HTM:=Ld (htm.mono (ok':=fun q=>w.heap.size+1+1<q) (fun q _ hq=>by have:=B0.out.c.lt;omega))
 clear hty htm k2 B0 HC
 have gR:∀ i,w2.cell? ⟨w.heap.size+1+1,i,none⟩=[Value.int .i64 0,.string ⟨#[]⟩,.int .i64 0,.int .i64 0,.string ⟨#[]⟩,.slice none 0 0,.slice none 0 0][i]?:=BR.out.c.cell
 have fR:∀ i,w2.frozen? ⟨w.heap.size+1+1,i,none⟩=false:=BR.out.c.frozen
 go_wp2_with fail
 exact bodyPost_ret (results_one Tryz.results68 rfl (load_tm (t:=u) (r7 BR.out.c rfl))) rfl ⟨_,_,rfl,(HTY.out.frame (set7 (fun q hq=>by omega))).mono (fun q _ hq=>by omega),(HTM.out.frame (set7 (fun q hq=>by omega))).mono (fun q _ hq=>by omega),k7w BR.out.k (Or.inr (by omega))⟩
theorem put_cons {t u r:Tm} {j:Nat} {l:List Int} {ok ok':Nat→Prop} {w:World} {tk kk tk' kk':Value} {g0 o0 c m:Nat} {ad:Option Addr} (had:(if c=1 then some (⟨g0,o0,none⟩:Addr) else some ⟨g0,o0+1,none⟩)=ad) (ht:BdTm t) (hj:j<t.kids.length) (hl:(m:Int)≤9223372036854775807) (hm1:1≤m)
  (IH:∀ (W:World) (vk vm:Value),Kept (fun _=>False) w W→TyL bz (fun _=>True) W t.kids[j].ty.kids vk→TmL bz (fun _=>True) W t.kids[j].kids vm→Calls Tryz.prog 68 #[tmVal t.kids[j] vk vm,.slice ad (m-1) (c-1),tmVal u tk' kk'] W (PutP bz r W))
  (h1:TyL bz ok w t.ty.kids tk) (h2:TmL bz ok w t.kids kk) (h3:TyL bz ok' w u.ty.kids tk') (h4:TmL bz ok' w u.kids kk') (h5:w.cell? ⟨g0,o0,none⟩=some (.int .i64 j)) (hc:m≤c):
  Calls Tryz.prog 68 #[tmVal t tk kk,.slice (some ⟨g0,o0,none⟩) m c,tmVal u tk' kk'] w (PutP bz (setKid t j r) w):=by
 obtain⟨p,n,cp,rfl⟩:=h1.slice
 obtain⟨ma,mn,mc,rfl⟩:=h2.slice
 obtain⟨p',n',cp',rfl⟩:=h3.slice
 obtain⟨ma',mn',mc',rfl⟩:=h4.slice
 obtain rfl:mn=t.kids.length:=h2.len
 have B0:=Ld (Bx3.new w [.int .i64 t.op,.string t.name,.int .i64 t.n,.int .i64 t.ty.kind,.string t.ty.name,.slice p n cp,.slice ma t.kids.length mc] [.int .i64 u.op,.string u.name,.int .i64 u.n,.int .i64 u.ty.kind,.string u.ty.name,.slice p' n' cp',.slice ma' mn' mc'] z27)
 change Hid (Bx3 _ _ _ _ (((w.alloc (.cells #[.int .i64 t.op,.string t.name,.int .i64 t.n,.int .i64 t.ty.kind,.string t.ty.name,.slice p n cp,.slice ma t.kids.length mc] 27)).alloc (.cells #[.int .i64 u.op,.string u.name,.int .i64 u.n,.int .i64 u.ty.kind,.string u.ty.name,.slice p' n' cp',.slice ma' mn' mc'] 27)).alloc Z7)) at B0
 have HC:=Ld (fun W (k:Kept (fun _=>False) w W)=>clone_kids ht (by intro e;rw[e] at hj;exact absurd hj (Nat.not_lt_zero _)) (h1.frame (sK k)) (h2.frame (sK k)))
 have HAT:=Ld (fun W (k:Kept (fun _=>False) w W)=>((h2.mono (ok':=fun q=>q<w.heap.size) (fun q hq _=>hq)).frame (sK k)).at j hj)
 have HP:=Ld (fun W (k:Kept (fun _=>False) w W)=>k.cell (p:=⟨g0,o0,none⟩) (cell_lt h5) (fun h=>h))
 have H5:=Ld h5
 have HIH:=Ld IH
 clear h1 h2 h3 h4 ht IH
 unfold tmVal at HC ⊢
 have lg0:g0<w.heap.size:=cell_lt h5
 have tm:((m:Int)==0)=false:=by simp;omega
 have HM1:=Ld hm1
 clear hm1
 clear h5
 go_enter Tryz.func68,Tryz.ntmps68
 go_wp2_with fail
 generalize (((w.alloc (.cells #[.int .i64 t.op,.string t.name,.int .i64 t.n,.int .i64 t.ty.kind,.string t.ty.name,.slice p n cp,.slice ma t.kids.length mc] 27)).alloc (.cells #[.int .i64 u.op,.string u.name,.int .i64 u.n,.int .i64 u.ty.kind,.string u.ty.name,.slice p' n' cp',.slice ma' mn' mc'] 27)).alloc Z7)=w1 at *
 refine (HC.out w1 B0.out.k).mono ?_
 rintro e w2 ⟨v,g,cg,rfl,hcg,hg,hty,hrow,k2⟩
 obtain⟨va,vn,vc,rfl⟩:=hty.slice
 unfold tmVal
 have B2:=Ld (B0.out.kept k2)
 have zg:w.heap.size+1+1<g:=by have:=B0.out.c.lt;omega
 have ZB:=Ld B0.out.c.lt
 have HROW:=Ld hrow
 have HTY:=Ld hty
 have HCG:=Ld hcg
 clear hrow hty k2 HC B0 hcg
 go_upto_region 4 with (fail)
 have lw2:=B2.out.c.lt
 refine wp_gen (F:=fun W3=>Kept (fun _=>False) w2 W3∧Blk W3 w2.heap.size 27 [.int .i64 t.op,.string t.name,.int .i64 t.n,.int .i64 t.ty.kind,.string t.ty.name,.slice va vn vc,.slice (some ⟨g,0,none⟩) t.kids.length cg]) ⟨kR.alloc _,Blk.new w2 27 _⟩ ?_
 rintro W3 ⟨k3,b3⟩
 have B3:=Ld (B2.out.kept k3)
 have N3:=Ld b3
 have R3:=Ld (HROW.out.kept k3 (fun h=>h) (fun _ _ _ h=>h))
 have T3:=Ld (HTY.out.frame (sK k3))
 have KW:=Ld B3.out.k
 have hgw1:w.heap.size+1+1<w1.heap.size:=ZB.out
 have hgw2:g<w2.heap.size:=by obtain⟨L,K',M',bG,_⟩:=HROW.out.row;exact bG.lt
 clear k3 b3 B2 HROW HTY
 obtain⟨q0,o1,pa,pn,pc,qa,qn,qc,rfl,oq,lq,⟨c0,c1,c2,c3,c4,c5,c6⟩,hkt,hkm⟩:=HAT.out W3 KW.out
 have x0:W3.cell? ⟨w2.heap.size,6,none⟩=some (.slice (some ⟨g,0,none⟩) t.kids.length cg):=N3.out.cell 6
 have x1:W3.cell? ⟨g0,o0,none⟩=some (.int .i64 j):=(by rw[HP.out W3 KW.out];exact H5.out)
 have x2:W3.cell? ⟨w.heap.size,6,none⟩=some (.slice (some ⟨q0,o1,none⟩) t.kids.length mc):=B3.out.a.cell 6
 have x10:W3.cell? ⟨w.heap.size+1,0,none⟩=some (.int .i64 u.op):=B3.out.b.cell 0
 have x11:W3.cell? ⟨w.heap.size+1,1,none⟩=some (.string u.name):=B3.out.b.cell 1
 have x12:W3.cell? ⟨w.heap.size+1,2,none⟩=some (.int .i64 u.n):=B3.out.b.cell 2
 have x13:W3.cell? ⟨w.heap.size+1,3,none⟩=some (.int .i64 u.ty.kind):=B3.out.b.cell 3
 have x14:W3.cell? ⟨w.heap.size+1,4,none⟩=some (.string u.ty.name):=B3.out.b.cell 4
 have x15:W3.cell? ⟨w.heap.size+1,5,none⟩=some (.slice p' n' cp'):=B3.out.b.cell 5
 have x16:W3.cell? ⟨w.heap.size+1,6,none⟩=some (.slice ma' mn' mc'):=B3.out.b.cell 6
 obtain⟨L,K',M',bG,hLn,hLd⟩:=R3.out.row
 have BG:=Ld bG
 have HLn:=Ld (show j*7+6<L.length by omega)
 clear bG hLn hLd
 have HC4:Hid (Calls Tryz.prog 68 #[.agg #[.int .i64 t.kids[j].op,.string t.kids[j].name,.int .i64 t.kids[j].n,.int .i64 t.kids[j].ty.kind,.string t.kids[j].ty.name,.slice pa pn pc,.slice qa qn qc],.slice ad (m-1) (c-1),.agg #[.int .i64 u.op,.string u.name,.int .i64 u.n,.int .i64 u.ty.kind,.string u.ty.name,.slice p' n' cp',.slice ma' mn' mc']] W3.drew fun e w'=>∃ tk kk,e=.returned (tmVal r tk kk)∧TyL bz (fun q=>W3.heap.size≤q) w' r.ty.kids tk∧TmL bz (fun q=>W3.heap.size≤q) w' r.kids kk∧Kept (fun _=>False) W3 w'):=Ld ((HIH.out W3.drew _ _ (KW.out.trans kR.drew) ((hkt.frame (Same.drew _)).mono (fun _ _ _=>trivial)) ((hkm.frame (Same.drew _)).mono (fun _ _ _=>trivial))).mono fun e w' ⟨a1,a2,h1,h2,h3,h4⟩=>⟨a1,a2,h1,h2,h3,(kR.drew).trans h4⟩)
 clear hkt hkm HIH
 have ng1:g≠w.heap.size:=by omega
 have ng2:g≠w.heap.size+1:=by omega
 have ng3:g≠w2.heap.size:=by omega
 have ng4:g≠g0:=by omega
 have ng5:g≠q0:=by omega
 have hw3:w2.heap.size<W3.heap.size:=N3.out.lt
 have hB3:w.heap.size+1+1<W3.heap.size:=B3.out.c.lt
 have hjm:(j:Int)<(t.kids.length:Int):=by omega
 have hg3:g<W3.heap.size:=BG.out.lt
 have i0:(0:Int)<(m:Int):=by have:=HM1.out;omega
 have i1:(1:Int)≤(m:Int):=by omega
 have i2:(m:Int)≤(c:Int):=by omega
 have i3:0<m:=by omega
 clear tm
 go_region_held3 (fun w'=>w'.cell? ⟨w2.heap.size,6,none⟩=some (.slice (some ⟨g,0,none⟩) t.kids.length cg)∧w'.cell? ⟨g0,o0,none⟩=some (.int .i64 j)∧w'.cell? ⟨w.heap.size,6,none⟩=some (.slice (some ⟨q0,o1,none⟩) t.kids.length mc)∧w'.cell? ⟨q0,o1+j*7,none⟩=some (.int .i64 t.kids[j].op)∧w'.cell? ⟨q0,o1+j*7+1,none⟩=some (.string t.kids[j].name)∧w'.cell? ⟨q0,o1+j*7+2,none⟩=some (.int .i64 t.kids[j].n)∧w'.cell? ⟨q0,o1+j*7+3,none⟩=some (.int .i64 t.kids[j].ty.kind)∧w'.cell? ⟨q0,o1+j*7+4,none⟩=some (.string t.kids[j].ty.name)∧w'.cell? ⟨q0,o1+j*7+5,none⟩=some (.slice pa pn pc)∧w'.cell? ⟨q0,o1+j*7+6,none⟩=some (.slice qa qn qc)∧w'.cell? ⟨w.heap.size+1,0,none⟩=some (.int .i64 u.op)∧w'.cell? ⟨w.heap.size+1,1,none⟩=some (.string u.name)∧w'.cell? ⟨w.heap.size+1,2,none⟩=some (.int .i64 u.n)∧w'.cell? ⟨w.heap.size+1,3,none⟩=some (.int .i64 u.ty.kind)∧w'.cell? ⟨w.heap.size+1,4,none⟩=some (.string u.ty.name)∧w'.cell? ⟨w.heap.size+1,5,none⟩=some (.slice p' n' cp')∧w'.cell? ⟨w.heap.size+1,6,none⟩=some (.slice ma' mn' mc')) (go_keep)
  (first | (go_at_call 68;refine HC4.out.mono ?_;rintro e w4 ⟨tk4,kk4,rfl,hv,hu,k4⟩;obtain⟨va4,vn4,vc4,rfl⟩:=hv.slice;obtain⟨ua4,un4,uc4,rfl⟩:=hu.slice;unfold tmVal;have G4:=BG.out.kept k4 (fun h=>h);have y0:w4.cell? ⟨w2.heap.size,6,none⟩=some (.slice (some ⟨g,0,none⟩) t.kids.length cg):=(N3.out.kept k4 (fun h=>h)).cell 6;have y1:w4.cell? ⟨g0,o0,none⟩=some (.int .i64 j):=(by rw[HP.out w4 (KW.out.trans k4)];exact H5.out);have y2:w4.cell? ⟨w.heap.size,6,none⟩=some (.slice (some ⟨q0,o1,none⟩) t.kids.length mc):=(B3.out.kept k4).a.cell 6;have y3:w4.cell? ⟨q0,o1+j*7,none⟩=some (.int .i64 t.kids[j].op):=(by rw[k4.cell (p:=⟨q0,o1+j*7,none⟩) (by show q0<_;omega) (fun h=>h)];exact c0);have y4:w4.cell? ⟨q0,o1+j*7+1,none⟩=some (.string t.kids[j].name):=(by rw[k4.cell (p:=⟨q0,o1+j*7+1,none⟩) (by show q0<_;omega) (fun h=>h)];exact c1);have y5:w4.cell? ⟨q0,o1+j*7+2,none⟩=some (.int .i64 t.kids[j].n):=(by rw[k4.cell (p:=⟨q0,o1+j*7+2,none⟩) (by show q0<_;omega) (fun h=>h)];exact c2);have y6:w4.cell? ⟨q0,o1+j*7+3,none⟩=some (.int .i64 t.kids[j].ty.kind):=(by rw[k4.cell (p:=⟨q0,o1+j*7+3,none⟩) (by show q0<_;omega) (fun h=>h)];exact c3);have y7:w4.cell? ⟨q0,o1+j*7+4,none⟩=some (.string t.kids[j].ty.name):=(by rw[k4.cell (p:=⟨q0,o1+j*7+4,none⟩) (by show q0<_;omega) (fun h=>h)];exact c4);have y8:w4.cell? ⟨q0,o1+j*7+5,none⟩=some (.slice pa pn pc):=(by rw[k4.cell (p:=⟨q0,o1+j*7+5,none⟩) (by show q0<_;omega) (fun h=>h)];exact c5);have y9:w4.cell? ⟨q0,o1+j*7+6,none⟩=some (.slice qa qn qc):=(by rw[k4.cell (p:=⟨q0,o1+j*7+6,none⟩) (by show q0<_;omega) (fun h=>h)];exact c6);have y10:w4.cell? ⟨w.heap.size+1,0,none⟩=some (.int .i64 u.op):=(B3.out.kept k4).b.cell 0;have y11:w4.cell? ⟨w.heap.size+1,1,none⟩=some (.string u.name):=(B3.out.kept k4).b.cell 1;have y12:w4.cell? ⟨w.heap.size+1,2,none⟩=some (.int .i64 u.n):=(B3.out.kept k4).b.cell 2;have y13:w4.cell? ⟨w.heap.size+1,3,none⟩=some (.int .i64 u.ty.kind):=(B3.out.kept k4).b.cell 3;have y14:w4.cell? ⟨w.heap.size+1,4,none⟩=some (.string u.ty.name):=(B3.out.kept k4).b.cell 4;have y15:w4.cell? ⟨w.heap.size+1,5,none⟩=some (.slice p' n' cp'):=(B3.out.kept k4).b.cell 5;have y16:w4.cell? ⟨w.heap.size+1,6,none⟩=some (.slice ma' mn' mc'):=(B3.out.kept k4).b.cell 6;have t0:w4.cell? ⟨g,j*7,none⟩=some (L[j*7]'(by have:=HLn.out;omega)):=(by rw[G4.cell];exact List.getElem?_eq_getElem _);have t1:w4.cell? ⟨g,j*7+1,none⟩=some (L[j*7+1]'(by have:=HLn.out;omega)):=(by rw[G4.cell];exact List.getElem?_eq_getElem _);have t2:w4.cell? ⟨g,j*7+2,none⟩=some (L[j*7+2]'(by have:=HLn.out;omega)):=(by rw[G4.cell];exact List.getElem?_eq_getElem _);have t3:w4.cell? ⟨g,j*7+3,none⟩=some (L[j*7+3]'(by have:=HLn.out;omega)):=(by rw[G4.cell];exact List.getElem?_eq_getElem _);have t4:w4.cell? ⟨g,j*7+4,none⟩=some (L[j*7+4]'(by have:=HLn.out;omega)):=(by rw[G4.cell];exact List.getElem?_eq_getElem _);have t5:w4.cell? ⟨g,j*7+5,none⟩=some (L[j*7+5]'(by have:=HLn.out;omega)):=(by rw[G4.cell];exact List.getElem?_eq_getElem _);have t6:w4.cell? ⟨g,j*7+6,none⟩=some (L[j*7+6]'(by have:=HLn.out;omega)):=(by rw[G4.cell];exact List.getElem?_eq_getElem _);have f0:=G4.frozen (j*7);have f1:=G4.frozen (j*7+1);have f2:=G4.frozen (j*7+2);have f3:=G4.frozen (j*7+3);have f4:=G4.frozen (j*7+4);have f5:=G4.frozen (j*7+5);have f6:=G4.frozen (j*7+6);clear hl hc))
 clear y0 y1 y2 y3 y4 y5 y6 y7 y8 y9 y10 y11 y12 y13 y14 y15 y16 t0 t1 t2 t3 t4 t5 t6 f0 f1 f2 f3 f4 f5 f6 x0 x1 x2 c0 c1 c2 c3 c4 c5 c6 x10 x11 x12 x13 x14 x15 x16 i0 i1 i2 i3 had
 have zw1:w1.heap.size≤w2.heap.size:=by omega
 have R4:=R3.out.kept k4 (fun h=>h) (fun _ _ _ h=>h)
 have HX:=Ld (R4.put hj (hv.mono (fun q _ hq=>⟨by omega,by omega⟩)) (hu.mono (fun q _ hq=>⟨by omega,by omega⟩)))
 have hn1:w2.heap.size≠g:=by omega
 have hn2:w.heap.size+1+1≠g:=by omega
 have N5:Hid (Blk (((((((w4.setCell ⟨g,j*7,none⟩ (.int .i64 r.op)).setCell ⟨g,j*7+1,none⟩ (.string r.name)).setCell ⟨g,j*7+2,none⟩ (.int .i64 r.n)).setCell ⟨g,j*7+3,none⟩ (.int .i64 r.ty.kind)).setCell ⟨g,j*7+4,none⟩ (.string r.ty.name)).setCell ⟨g,j*7+5,none⟩ (.slice va4 vn4 vc4)).setCell ⟨g,j*7+6,none⟩ (.slice ua4 un4 uc4)) w2.heap.size 27 [.int .i64 t.op,.string t.name,.int .i64 t.n,.int .i64 t.ty.kind,.string t.ty.name,.slice va vn vc,.slice (some ⟨g,0,none⟩) t.kids.length cg]):=Ld (((((((((N3.out.kept k4 (fun h=>h)).set_other _ _ hn1).set_other _ _ hn1).set_other _ _ hn1).set_other _ _ hn1).set_other _ _ hn1).set_other _ _ hn1).set_other _ _ hn1))
 have C5:Hid (Blk (((((((w4.setCell ⟨g,j*7,none⟩ (.int .i64 r.op)).setCell ⟨g,j*7+1,none⟩ (.string r.name)).setCell ⟨g,j*7+2,none⟩ (.int .i64 r.n)).setCell ⟨g,j*7+3,none⟩ (.int .i64 r.ty.kind)).setCell ⟨g,j*7+4,none⟩ (.string r.ty.name)).setCell ⟨g,j*7+5,none⟩ (.slice va4 vn4 vc4)).setCell ⟨g,j*7+6,none⟩ (.slice ua4 un4 uc4)) (w.heap.size+1+1) 27 z27):=Ld (((((((((B3.out.c.kept k4 (fun h=>h)).set_other _ _ hn2).set_other _ _ hn2).set_other _ _ hn2).set_other _ _ hn2).set_other _ _ hn2).set_other _ _ hn2).set_other _ _ hn2))
 have T5:=Ld ((T3.out.frame (sK k4)).frame (set7 (W:=w4) (g:=g) (i0:=j*7) (i1:=j*7+1) (i2:=j*7+2) (i3:=j*7+3) (i4:=j*7+4) (i5:=j*7+5) (i6:=j*7+6) (x0:=.int .i64 r.op) (x1:=.string r.name) (x2:=.int .i64 r.n) (x3:=.int .i64 r.ty.kind) (x4:=.string r.ty.name) (x5:=.slice va4 vn4 vc4) (x6:=.slice ua4 un4 uc4) (fun q hq=>hq.2)))
 have hgw:w.heap.size≤g:=by omega
 have K5:Hid (Kept (fun _=>False) w (((((((w4.setCell ⟨g,j*7,none⟩ (.int .i64 r.op)).setCell ⟨g,j*7+1,none⟩ (.string r.name)).setCell ⟨g,j*7+2,none⟩ (.int .i64 r.n)).setCell ⟨g,j*7+3,none⟩ (.int .i64 r.ty.kind)).setCell ⟨g,j*7+4,none⟩ (.string r.ty.name)).setCell ⟨g,j*7+5,none⟩ (.slice va4 vn4 vc4)).setCell ⟨g,j*7+6,none⟩ (.slice ua4 un4 uc4))):=Ld ((((((((KW.out.trans k4).setCell (p:=⟨g,j*7,none⟩) (Or.inr hgw) _).setCell (p:=⟨g,j*7+1,none⟩) (Or.inr hgw) _).setCell (p:=⟨g,j*7+2,none⟩) (Or.inr hgw) _).setCell (p:=⟨g,j*7+3,none⟩) (Or.inr hgw) _).setCell (p:=⟨g,j*7+4,none⟩) (Or.inr hgw) _).setCell (p:=⟨g,j*7+5,none⟩) (Or.inr hgw) _).setCell (p:=⟨g,j*7+6,none⟩) (Or.inr hgw) _)
 clear hv hu G4 R4 HC4 B3 N3 R3 T3 BG HLn hn1 hn2
 generalize (((((((w4.setCell ⟨g,j*7,none⟩ (.int .i64 r.op)).setCell ⟨g,j*7+1,none⟩ (.string r.name)).setCell ⟨g,j*7+2,none⟩ (.int .i64 r.n)).setCell ⟨g,j*7+3,none⟩ (.int .i64 r.ty.kind)).setCell ⟨g,j*7+4,none⟩ (.string r.ty.name)).setCell ⟨g,j*7+5,none⟩ (.slice va4 vn4 vc4)).setCell ⟨g,j*7+6,none⟩ (.slice ua4 un4 uc4))=w5 at *
 have gN:∀ i,w5.cell? ⟨w2.heap.size,i,none⟩=[Value.int .i64 t.op,.string t.name,.int .i64 t.n,.int .i64 t.ty.kind,.string t.ty.name,.slice va vn vc,.slice (some ⟨g,0,none⟩) t.kids.length cg][i]?:=N5.out.cell
 have gR:∀ i,w5.cell? ⟨w.heap.size+1+1,i,none⟩=[Value.int .i64 0,.string ⟨#[]⟩,.int .i64 0,.int .i64 0,.string ⟨#[]⟩,.slice none 0 0,.slice none 0 0][i]?:=C5.out.cell
 have fR:∀ i,w5.frozen? ⟨w.heap.size+1+1,i,none⟩=false:=C5.out.frozen
 go_wp2_with fail
 have hk:=HX.out.tml (by omega) (by rw[List.length_set];exact HCG.out)
 rw[List.length_set] at hk
 exact bodyPost_ret (results_one Tryz.results68 rfl (load_tm (t:=setKid t j r) (r7 C5.out rfl))) rfl ⟨_,_,rfl,(T5.out.frame (set7 (fun q hq=>by omega))).mono (fun q _ hq=>by omega),((hk.mono (ok':=fun q=>w1.heap.size≤q) (fun q _ hq=>hq)).frame (set7 (fun q hq=>by omega))).mono (fun q _ hq=>by omega),k7w K5.out (Or.inr (by omega))⟩
theorem put_any:∀ (l:List Int) (t u:Tm),BdTm t→BdTm u→(atP t l).isSome=true→l.length≤9223372036854775807→∀ (w:World) (ok ok' ok2:Nat→Prop) (tk kk tk' kk' vl:Value),TyL bz ok w t.ty.kids tk→TmL bz ok w t.kids kk→InL ok2 w l vl→TyL bz ok' w u.ty.kids tk'→TmL bz ok' w u.kids kk' →
  Calls Tryz.prog 68 #[tmVal t tk kk,vl,tmVal u tk' kk'] w (PutP bz (putP t l u) w):=by
 intro l
 induction l with
 | nil=>
  intro t u ht hu _ _ w ok ok' ok2 tk kk tk' kk' vl h1 h2 hl h3 h4
  obtain⟨a,c,rfl⟩:=hl.slice
  exact put_nil hu h1 h2 h3 h4
 | cons i l ih=>
  intro t u ht hu hat hlen w ok ok' ok2 tk kk tk' kk' vl h1 h2 hl h3 h4
  rw[atP] at hat
  have hs:stepB t i=true:=by
   cases hs:stepB t i with
   | true=>rfl
   | false=>rw[hs] at hat;cases hat
  rw[if_pos hs] at hat
  have hj:=step_lt hs
  have hkg:=kid_get hj
  obtain⟨a,n,c,rfl,rfl,hnc,hcell⟩:=hl
  obtain⟨g0,o0,rfl,_,h5⟩:=hcell 0 (by simp)
  have hi:i=((i.toNat:Nat):Int):=by
   simp only[stepB,Bool.and_eq_true,decide_eq_true_eq] at hs;omega
  have h5':w.cell? ⟨g0,o0,none⟩=some (.int .i64 (i.toNat:Nat)):=by rw[← hi];exact h5
  rw[putP]
  refine put_cons (l:=l) (u:=u) (ok':=ok') (ad:=if c=1 then some ⟨g0,o0,none⟩ else some ⟨g0,o0+1,none⟩) rfl ht hj (by rw[List.length_cons] at hlen ⊢;omega) (by rw[List.length_cons];omega) ?_ h1 h2 h3 h4 h5' hnc
  intro W vk vm k hk hm
  rw[List.length_cons,Nat.add_sub_cancel]
  rw[hkg] at hat ⊢
  have hb:BdTm t.kids[i.toNat]:=by
   cases ht with
   | mk _ _ hl=>exact hl _ (List.getElem_mem _)
  refine ih _ u hb hu hat (by rw[List.length_cons] at hlen;omega) W _ ok' (fun _=>True) _ _ _ _ _ hk hm ?_ (h3.frame (sK k)) (h4.frame (sK k))
  refine⟨_,_,_,rfl,rfl,by rw[List.length_cons] at hnc;omega,fun q hq=>?_⟩
  obtain⟨g1,o1,e1,_,h6⟩:=hcell (q+1) (by simpa using hq)
  cases e1
  rw[List.length_cons] at hnc
  refine⟨g0,o0+1,by rw[if_neg (by omega)],trivial,?_⟩
  rw[k.cell (p:=⟨g0,o0+1+q,none⟩) (by have:=cell_lt h6;exact this) (fun h=>h),show o0+1+q=o0+(q+1) by omega]
  exact h6
end Go.Proofs.YtdmebjbkccjhbaaGreatDoor
