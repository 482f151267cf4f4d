/- A part. -/
import Derived.Test.YtfhedienjnfdcaaGreatDoorQ21
set_option linter.unusedVariables false
set_option linter.unusedSimpArgs false
set_option maxRecDepth 100000
set_option maxHeartbeats 32000000
namespace Go.Proofs.YtfhedienjnfdcaaGreatDoor
open Go.RowKit
def VrP (r:Tm×Nat) (w:World) (e:Ending) (w':World):Prop:=∃ tk kk,e=.returned (.tuple #[tmVal r.1 tk kk,.int .i64 r.2])∧TyL (fun q=>w.heap.size≤q) w' r.1.ty.kids tk∧TmL (fun q=>w.heap.size≤q) w' r.1.kids kk∧Kept (fun _=>False) w w'
def VrC (f:Nat) (t:Tm):Prop:=∀ (l:List Int) (i:Nat) (w:World) (ok okL:Nat→Prop) (tk kk vl:Value),TyL ok w t.ty.kids tk→TmL ok w t.kids kk→InL okL w l vl→l.length≤9223372036854775807→i+tmN t≤1000000→Calls Tryz.prog 73 #[tmVal t tk kk,vl,.int .i64 i] w (VrP (varF l f t i) w)
def VrK (f:Nat) (t:Tm):Prop:=OkTm t∧tmN t≤2000∧tmD t≤64∧tmD t≤f
theorem varF_eq (l:List Int) (f:Nat) (op:Int) (nm:ByteArray) (N:Int) (ty:Ty) (ks:List Tm) (i:Nat):varF l (f+1) (.mk op nm N ty ks) i=if binderB op then
   (.mk op (varZ l nm (ks.getD 1 (nameT nm)) i) N ty (varK (varF l f) (ks.set 1 (subT freshS (ks.getD 1 (nameT nm)) [(nm,nameT (varZ l nm (ks.getD 1 (nameT nm)) i))])) (i+1)).1,
    (varK (varF l f) (ks.set 1 (subT freshS (ks.getD 1 (nameT nm)) [(nm,nameT (varZ l nm (ks.getD 1 (nameT nm)) i))])) (i+1)).2)
  else (.mk op nm N ty (varK (varF l f) ks i).1,(varK (varF l f) ks i).2):=by rw[varF]
theorem cell_lt9 {w:World} {p:Addr} {v:Value} (h:w.cell? p=some v):p.block<w.heap.size:=by
 by_cases hl:p.block<w.heap.size
 ·exact hl
 ·unfold World.cell? at h
  rw[Array.getElem?_eq_none (by omega)] at h
  simp at h
theorem src_kept {w W:World} {v:Value} {m:Nat} {news:List Value} (h:Src w v m news) (k:Kept (fun _=>False) w W):Src W v m news:=by
 rcases h with h | ⟨ad,c,e,hc⟩
 ·exact .inl h
 ·exact .inr ⟨ad,c,e,fun j u hu=>(k.cell (cell_lt9 (hc j u hu)) (fun h=>h)).trans (hc j u hu)⟩
theorem ct_a {w w5 w6:World} {op:Int} {nm:ByteArray} {N:Int} {ty:Ty} {ak bk v:Value} {O:Nat} (h:CT w op nm N ty ak bk v O w5) (hg:(w5.alloc (.cells #[] 28)).grownBy w6 (some w5.heap.size)):Blk w6 w.heap.size 28 [.int .i64 op,.string nm,.int .i64 N,.int .i64 ty.kind,.string ty.name,ak,bk]:=by
 have k6:Kept (fun q=>q=w5.heap.size) w5 w6:=((Kept.refl (fun q=>q=w5.heap.size) w5).alloc _).via1 (kept_grown1 hg) (fun x hx e=>(Option.some.inj e).symm)
 exact h.a.kept k6 (fun e=>by have h1:w.heap.size=w5.heap.size:=e;have:=h.a.lt;omega)
theorem map_two {E:List E3} {d y:Tm} (h:E.map (·.1)=[d,y]):∃ dk dm yk ym,E=[(d,dk,dm),(y,yk,ym)]:=by
 match E,h with
 | [(d',dk,dm),(y',yk,ym)],h=>
  simp only[List.map_cons,List.map_nil,List.cons.injEq,and_true] at h
  obtain⟨rfl,rfl⟩:=h
  exact⟨dk,dm,yk,ym,rfl⟩
theorem VrK.kid {f:Nat} {op:Int} {nm:ByteArray} {N:Int} {ty:Ty} {ks:List Tm} (h:VrK (f+1) (.mk op nm N ty ks)) {u:Tm} (hu:u∈ks):VrK f u:=by
 obtain⟨h1,h2,h3,h4⟩:=h
 have h5:=tmD_kid hu
 rw[tmN] at h2
 rw[tmD] at h3 h4
 exact⟨h1.kid hu,by omega,by omega,by omega⟩
theorem pick_eq {l:List Int} {i:Nat} (h:¬ l.length=0):wrap64 ((IntKind.u64.wrap (l[i % l.length]'(Nat.mod_lt _ (by omega)))).tmod 8)=((pickV l i:Nat):Int):=by
 have hm:i % l.length<l.length:=Nat.mod_lt _ (by omega)
 unfold pickV
 rw[if_neg h,List.getD_eq_getElem?_getD,List.getElem?_eq_getElem hm,Option.getD_some]
 generalize l[i % l.length]=x
 have h1:IntKind.u64.wrap x=x % 18446744073709551616:=by simp[IntKind.wrap,IntKind.bits,IntKind.signed]
 rw[h1,Int.tmod_eq_emod_of_nonneg (by omega)]
 unfold wrap64
 omega
theorem VrK.two {f:Nat} {op:Int} {nm:ByteArray} {N:Int} {ty:Ty} {d y:Tm} (h:VrK (f+1) (.mk op nm N ty [d,y])):VrK f d∧VrK f y:=⟨h.kid (by simp),h.kid (by simp)⟩
theorem vs_row {w W:World} {op:Int} {nm:ByteArray} {N:Int} {ty:Ty} {v:Value} {O b0:Nat} {d y:Tm} {dk dm yk ym:Value} {ua:Option Addr} {uc:Nat} (h:VS w op nm N ty v O b0 [(d,dk,dm),(y,yk,ym)] (.slice ua 2 uc) W):∃ g,ua=some ⟨g,0,none⟩:=by
 rcases h.own.2 with ⟨_,hn⟩ | ⟨g,cap,cur,hv,hbg,hg,hnc,hcm,hcs,htake⟩
 ·simp at hn
 ·cases hv;exact⟨g,rfl⟩
theorem VS.row {w W:World} {op:Int} {nm:ByteArray} {N:Int} {ty:Ty} {v:Value} {O b0:Nat} {d y:Tm} {dk dm yk ym:Value} {g uc:Nat} (h:VS w op nm N ty v O b0 [(d,dk,dm),(y,yk,ym)] (.slice (some ⟨g,0,none⟩) 2 uc) W):(∀ i,W.frozen? ⟨g,i,none⟩=false)∧∀ j x,(tmCells d dk dm++tmCells y yk ym)[j]?=some x→W.cell? ⟨g,j,none⟩=some x:=by
 have h0:=own_cells h.own
 rcases h.own.2 with ⟨_,hn⟩ | ⟨g,cap,cur,hv,hbg,hg,hnc,hcm,hcs,htake⟩
 ·simp at hn
 ·cases hv
  have hb:Blk W g 28 cur.toList:=by show W.heap[g]?=_;rw[hg]
  refine⟨hb.frozen,fun j x hx=>?_⟩
  have h1:=h0 j x (by rw[flat,flat,flat,List.append_nil];exact hx)
  by_cases hj:j=0
  ·subst hj;simpa [Addr.add] using h1
  ·simpa [Addr.add,hj] using h1
theorem bnl_one {W:World} {g:Nat} {nm z:ByteArray} (hb:Blk W g 53 (bCells ((nm,nameT z),.slice none 0 0,.slice none 0 0))):BnL (fun _=>True) W [(nm,nameT z)] (.slice (some ⟨g,0,none⟩) 1 1):=by
 have h:W.ownsRow 0 53 8 (.slice (some ⟨g,0,none⟩) 1 1) 1 (flatB [((nm,nameT z),.slice none 0 0,.slice none 0 0)]):=⟨rfl,.inr ⟨g,1,_,rfl,Nat.zero_le _,hb,by omega,by unfold maxLen;omega,rfl,rfl⟩⟩
 exact bnl_of_row (E:=[((nm,nameT z),.slice none 0 0,.slice none 0 0)]) h (fun e he=>by rw[List.mem_singleton.1 he];exact⟨.nil (.inl rfl),.nil (.inl rfl)⟩) (fun _ _=>trivial)
theorem VrK.valid {f:Nat} {t:Tm} (h:VrK f t):validB t=true:=by rw[valid_of h.1];simp[h.2.1,h.2.2.1]
theorem vary_one {f:Nat} {op:Int} {nm:ByteArray} {N:Int} {ty:Ty} {ks:List Tm} (hok:VrK (f+1) (.mk op nm N ty ks)) (IH:∀ u,VrK f u→VrC f u) (hty:BdTy ty) (hkn:ks.length≤1000000) (hnz:nm.size≤9223372036854775807):VrC (f+1) (.mk op nm N ty ks):=by
 intro l i w ok okL tk kk vl h1 h2 hL hl hi
 have h1:TyL ok w ty.kids tk:=h1
 have h2:TmL ok w ks kk:=h2
 obtain⟨a,n,c,rfl⟩:=h1.slice
 obtain⟨ma,mn,mc,rfl⟩:=h2.slice
 obtain⟨la,lc,rfl⟩:=hL.slice
 change Calls Tryz.prog 73 #[.agg #[.int .i64 op,.string nm,.int .i64 N,.int .i64 ty.kind,.string ty.name,.slice a n c,.slice ma mn mc],.slice la l.length lc,.int .i64 i] w _
 have HMN:Hid (mn=ks.length):=Ld h2.len
 have HT:=Ld (fun W (k:Kept (fun _=>False) w W)=>rcopyTy_any hty W ok _ (h1.frame (sK k)))
 unfold tyVal at HT
 have bA:Blk ((w.alloc (.cells #[.int .i64 op,.string nm,.int .i64 N,.int .i64 ty.kind,.string ty.name,.slice a n c,.slice ma mn mc] 28)).alloc Z7) w.heap.size 28 [Value.int .i64 op,.string nm,.int .i64 N,.int .i64 ty.kind,.string ty.name,.slice a n c,.slice ma mn mc]:=(Blk.new w 28 _).alloc _
 have bR:Blk ((w.alloc (.cells #[.int .i64 op,.string nm,.int .i64 N,.int .i64 ty.kind,.string ty.name,.slice a n c,.slice ma mn mc] 28)).alloc Z7) (w.heap.size+1) 28 z27:=Blk.new' 28 _ (by simp)
 have K0:Kept (fun _=>False) w ((w.alloc (.cells #[.int .i64 op,.string nm,.int .i64 N,.int .i64 ty.kind,.string ty.name,.slice a n c,.slice ma mn mc] 28)).alloc Z7):=(kR.alloc _).alloc _
 have HIH:=Ld IH
 have HOK:=Ld hok
 have HE:Hid (∃ E:List E3,E.map (·.1)=ks∧EL (fun q=>q<w.heap.size) w E∧Src w (.slice ma mn mc) ks.length (flat E)):=Ld (h2.mono (ok':=fun q=>q<w.heap.size) (fun q hq _=>hq)).src
 have HIN:=Ld (fun W (k:Kept (fun _=>False) w W)=>(hL.frame (sK k)))
 have HLL:=Ld hl
 have HI:=Ld hi
 have HKN:=Ld hkn
 have HNZ:=Ld hnz
 clear h1 h2 hL hl hi IH hok hkn hnz
 have HRE:=Ld (varF_eq l f op nm N ty ks i)
 generalize varF l (f+1) (.mk op nm N ty ks) i=res at *
 go_enter Tryz.func73,Tryz.ntmps73
 go_upto_region 1 with (fail)
 refine wp_gen (F:=fun W3=>Kept (fun _=>False) w W3∧W3.heap.size=w.heap.size+2∧Blk W3 w.heap.size 28 [Value.int .i64 op,.string nm,.int .i64 N,.int .i64 ty.kind,.string ty.name,.slice a n c,.slice ma mn mc]∧Blk W3 (w.heap.size+1) 28 z27) ⟨K0,by simp,bA,bR⟩ ?_
 clear K0 bA bR
 rintro w1 ⟨K1,z1,bA,bR⟩
 go_cut [8] (fun v wc=>∃ O va vn vc,v=.pointer (some ⟨O,0,none⟩)∧CT w op nm N ty (.slice a n c) (.slice ma mn mc) (.slice va vn vc) O wc)
 case first=>
  have gA:∀ i,w1.cell? ⟨w.heap.size,i,none⟩=[Value.int .i64 op,.string nm,.int .i64 N,.int .i64 ty.kind,.string ty.name,.slice a n c,.slice ma mn mc][i]?:=bA.cell
  have Z1:=Ld z1
  have KK1:=Ld K1
  have BA:=Ld bA
  have BR:=Ld bR
  have lA:=bA.lt
  have lR:=bR.lt
  have nA:w.heap.size≠w1.heap.size:=by omega
  have nA2:w1.heap.size≠w.heap.size:=by omega
  clear z1 K1 bA bR HIH HE HIN
  have x0:w1.cell? ⟨w.heap.size,0,none⟩=some (.int .i64 op):=gA 0
  have x1:w1.cell? ⟨w.heap.size,1,none⟩=some (.string nm):=gA 1
  have x2:w1.cell? ⟨w.heap.size,2,none⟩=some (.int .i64 N):=gA 2
  have x3:w1.cell? ⟨w.heap.size,3,none⟩=some (.int .i64 ty.kind):=gA 3
  have x4:w1.cell? ⟨w.heap.size,4,none⟩=some (.string ty.name):=gA 4
  have x5:w1.cell? ⟨w.heap.size,5,none⟩=some (.slice a n c):=gA 5
  go_region_held3 (fun w'=>w'.cell? ⟨w.heap.size,0,none⟩=some (.int .i64 op)∧w'.cell? ⟨w.heap.size,1,none⟩=some (.string nm)∧w'.cell? ⟨w.heap.size,2,none⟩=some (.int .i64 N)∧w'.cell? ⟨w.heap.size,3,none⟩=some (.int .i64 ty.kind)∧w'.cell? ⟨w.heap.size,4,none⟩=some (.string ty.name)∧w'.cell? ⟨w.heap.size,5,none⟩=some (.slice a n c)) (go_keep) (first | (go_at_call 84;refine (HT.out _ (by first | exact KK1.out.drew | exact KK1.out.drew.alloc _ | exact (KK1.out.alloc _).drew)).mono ?_;rintro e w4 ⟨v,rfl,hv,k4⟩;obtain⟨va,vn,vc,rfl⟩:=hv.slice;have k5:Kept (fun _=>False) w1 w4:=(by first | exact kR.drew.trans k4 | exact (kR.drew.alloc _).trans k4);have lA4:=(BA.out.kept k5 (fun h=>h)).lt;(try (have bO:Blk w4 w1.heap.size 28 [.int .i64 0,.string ⟨#[]⟩,.int .i64 0,.int .i64 0,.string ⟨#[]⟩,.slice none 0 0,.slice none 0 0]:=(by first | exact ((Blk.new w1 28 [.int .i64 0,.string ⟨#[]⟩,.int .i64 0,.int .i64 0,.string ⟨#[]⟩,.slice none 0 0,.slice none 0 0]).drew).kept k4 (fun h=>h) | exact (Blk.new w1.drew 28 [.int .i64 0,.string ⟨#[]⟩,.int .i64 0,.int .i64 0,.string ⟨#[]⟩,.slice none 0 0,.slice none 0 0]).kept k4 (fun h=>h));have gO:∀ i,w4.cell? ⟨w1.heap.size,i,none⟩=[Value.int .i64 0,.string ⟨#[]⟩,.int .i64 0,.int .i64 0,.string ⟨#[]⟩,.slice none 0 0,.slice none 0 0][i]?:=bO.cell;have fO:∀ i,w4.frozen? ⟨w1.heap.size,i,none⟩=false:=bO.frozen;have lO:=bO.lt));have y0:w4.cell? ⟨w.heap.size,0,none⟩=some (.int .i64 op):=(BA.out.kept k5 (fun h=>h)).cell 0;have y1:w4.cell? ⟨w.heap.size,1,none⟩=some (.string nm):=(BA.out.kept k5 (fun h=>h)).cell 1;have y2:w4.cell? ⟨w.heap.size,2,none⟩=some (.int .i64 N):=(BA.out.kept k5 (fun h=>h)).cell 2;have y3:w4.cell? ⟨w.heap.size,3,none⟩=some (.int .i64 ty.kind):=(BA.out.kept k5 (fun h=>h)).cell 3;have y4:w4.cell? ⟨w.heap.size,4,none⟩=some (.string ty.name):=(BA.out.kept k5 (fun h=>h)).cell 4;have y5:w4.cell? ⟨w.heap.size,5,none⟩=some (.slice a n c):=(BA.out.kept k5 (fun h=>h)).cell 5))
  all_goals
   first
   | (have HX:=Ld (CT.late (KK1.out.trans k5) (BA.out.kept k5 (fun h=>h)) (BR.out.kept k5 (fun h=>h)) (hv.mono (fun q _ hq=>by have:=Z1.out;have hq2:w1.heap.size≤q:=hq;omega)))
      go_wp2_with fail
      go_meet
      case rel=>exact⟨_,_,_,_,rfl,HX.out⟩)
   | (have HX:=Ld (CT.early (O:=w1.heap.size) (KK1.out.trans k5) (BA.out.kept k5 (fun h=>h)) (BR.out.kept k5 (fun h=>h)) bO (by have:=Z1.out;omega) (hv.mono (fun q _ hq=>by have:=Z1.out;have hq2:w1.heap.size+1≤q:=(by simpa using hq);omega)))
      go_wp2_with fail
      go_meet
      case rel=>exact⟨_,_,_,_,rfl,HX.out⟩)
 case rest=>
  obtain⟨O,va,vn,vc,rfl,hX⟩:=hcut
  have HX:=Ld hX
  clear hX K1 z1 bA bR HT
  generalize wc=w5 at *
  have gA5:∀ i,(w5.alloc (.cells #[] 28)).cell? ⟨w.heap.size,i,none⟩=[Value.int .i64 op,.string nm,.int .i64 N,.int .i64 ty.kind,.string ty.name,.slice a n c,.slice ma mn mc][i]?:=(HX.out.a.alloc _).cell
  obtain⟨i28,hi28,hz28,hs28,hb28⟩:=info_tm
  have HI28:=Ld hi28
  have HZ28:=Ld hz28
  have HS28:=Ld hs28
  have HB28:=Ld hb28
  obtain⟨E0,hE0,hEL0,hSRC0⟩:=HE.out
  have HSR:=Ld (src_kept hSRC0 (HX.out.kp.alloc (.cells #[] 28)))
  have HEL:=Ld hEL0
  have HEM:=Ld hE0
  have HEN:Hid (E0.length=ks.length):=Ld (by rw[← hE0,List.length_map])
  clear hi28 hz28 hs28 hb28 hSRC0 hEL0 hE0 HE
  go_wp2_with (at_builtin;refine wpList_app_src rfl (.tmp 24) (.tmp 26) _ rfl w5.heap.size 28 i28 _ 7 104 Tryz.underlying22 HI28.out HZ28.out HS28.out HB28.out rfl (by decide) (.slice (some ⟨w5.heap.size,0,none⟩) 0 0) 0 [] rfl (World.ownsRow_made w5 #[] 0 (Nat.le_refl _) (by decide) rfl) (.slice ma mn mc) ks.length (flat E0) rfl HSR.out (by rw[flat_size,HEN.out]) HEL.out.one ?_ ?_ (by simp) ?_)
  ·have:=HKN.out;unfold maxLen;omega
  ·have:=HKN.out;omega
  intro u6 w6 own6 hg6 hat6
  have S6:=Ld (VS.start HX.out HEL.out hg6 (by rw[HEN.out];simpa using own6))
  have A6:=Ld (ct_a HX.out hg6)
  have HU6:=(tml_of_row' S6.out.own (S6.out.el.mono (fun _ _ _=>trivial)) (fun g hg=>trivial):TmL (fun _=>True) w6 _ _)
  obtain⟨ua,un,uc,hu6⟩:=HU6.slice
  subst hu6
  have HUN:Hid (un=E0.length):=Ld (by have:=HU6.len;rw[List.length_map] at this;exact this)
  clear own6 hg6 hat6 HSR HEL gA5 HX HU6
  generalize w5.heap.size=b0 at *
  have gA6:∀ i,w6.cell? ⟨w.heap.size,i,none⟩=[Value.int .i64 op,.string nm,.int .i64 N,.int .i64 ty.kind,.string ty.name,.slice a n c,.slice ma mn mc][i]?:=A6.out.cell
  go_wp2_with fail
  refine (rbinderB_any op _).mono ?_
  rintro e w6' ⟨rfl,rfl⟩
  clear gA6
  go_upto_if 30 with (fail)
  go_cut [2,9] (fun v2 v9 wc=>∃ (z:ByteArray) (E:List E3) (ua:Option Addr) (un uc i2 b0:Nat),v2=.int .i64 i2∧v9=.slice ua un uc∧VS w op z N ty (.slice va vn vc) O b0 E (.slice ua un uc) wc∧Hid (res=(.mk op z N ty (varK (varF l f) (E.map (·.1)) i2).1,(varK (varF l f) (E.map (·.1)) i2).2))∧Hid (∀ u,u∈E.map (·.1)→VrK f u)∧Hid (i2+tmNs (E.map (·.1))≤1000000)∧Hid (E.length≤1000000))
  case first=>
   cases hbi:binderB op
   ·have HQ0:Hid (res=(.mk op nm N ty (varK (varF l f) (E0.map (·.1)) i).1,(varK (varF l f) (E0.map (·.1)) i).2)):=Ld (by rw[HRE.out,hbi,HEM.out];rfl)
    have HK0:Hid (∀ u,u∈E0.map (·.1)→VrK f u):=Ld (fun u hu=>HOK.out.kid (by rw[← HEM.out];exact hu))
    have HB0:Hid (i+tmNs (E0.map (·.1))≤1000000):=Ld (by have h5:=HI.out;rw[tmN] at h5;rw[HEM.out];omega)
    clear HRE HIH HIN A6 hbi
    go_wp2_with fail
    go_meet
    case rel=>exact⟨nm,E0,ua,_,uc,i,b0,rfl,rfl,S6.out,HQ0,HK0,HB0,Ld (by rw[HEN.out];exact HKN.out)⟩
   ·have HQ0:=Ld (HRE.out.trans (if_pos hbi))
    obtain⟨d,y,rfl⟩:∃ d y,ks=[d,y]:=by
     have h2:=binder_kids hbi (formed_parts HOK.out.1.formed).1
     match ks,h2 with
     | [d,y],_=>exact⟨d,y,rfl⟩
    obtain⟨dk,dm,yk,ym,rfl⟩:=map_two HEM.out
    obtain rfl:un=2:=HUN.out
    have HYT:=Ld (S6.out.el _ (by simp:(y,yk,ym)∈[(d,dk,dm),(y,yk,ym)]))
    obtain⟨yka,ykn,ykc,rfl⟩:=HYT.out.1.slice
    obtain⟨yma,ymn,ymc,rfl⟩:=HYT.out.2.slice
    have HVB:=Ld HOK.out.two
    have HVB2:=Ld (var_body (l:=l) (i:=i) HOK.out.1 hbi (by have:=HVB.out.2.2.1;omega))
    have HHI:Hid (i+1+tmN d+tmN y≤1000000):=Ld (by have h5:=HI.out;rw[tmN] at h5;simp only[tmNs] at h5;omega)
    obtain⟨g,rfl⟩:=vs_row S6.out
    change Hid (res=(.mk op (varZ l nm y i) N ty (varK (varF l f) [d,subT freshS y [(nm,nameT (varZ l nm y i))]] (i+1)).1,(varK (varF l f) [d,subT freshS y [(nm,nameT (varZ l nm y i))]] (i+1)).2)) at HQ0
    have HSB:=Ld (fun W (b1 b2:Nat→Prop) (t1 t2 vb:Value) (h1:TyL b1 W y.ty.kids t1) (h2:TmL b1 W y.kids t2) (h3:BnL b2 W [(nm,nameT (varZ l nm y i))] vb)=>rsub_any HVB.out.2.1 [(nm,nameT (varZ l nm y i))] 1 W b1 b2 t1 t2 vb h1 h2 h3 (fun b hb=>by rw[List.mem_singleton.1 hb];exact⟨bd_nameT _,by show tmD (nameT _)≤_;unfold nameT;rw[tmD];simp[tmDs],by show tmN (nameT _)≤_;unfold nameT;rw[tmN];simp[tmNs]⟩) (by have:=HVB.out.2.2.2.1;simp;omega) (fitB_one _ _ _) (by have:=HVB.out.2.2.1;omega))
    have HZF:=Ld (varZ_free (l:=l) (nm:=nm) (y:=y) (i:=i) HVB.out.2.valid)
    have HZD:Hid (∀ u,u∈[d,subT freshS y [(nm,nameT (varZ l nm y i))]]→VrK f u):=Ld (fun u hu=>by
     rcases List.mem_cons.1 hu with rfl | hu
     ·exact HVB.out.1
     ·rw[List.mem_singleton.1 hu]
      obtain⟨q1,q2,q3,q4⟩:=HVB2.out
      obtain⟨_,r2,r3,r4⟩:=HVB.out.2
      exact⟨q1,by omega,by omega,by omega⟩)
    have HZN:Hid (i+1+tmNs [d,subT freshS y [(nm,nameT (varZ l nm y i))]]≤1000000):=Ld (by
     obtain⟨q1,q2,q3,q4⟩:=HVB2.out
     have:=HHI.out
     simp only[tmNs]
     omega)
    have HSM:=Ld (ok_sm HVB.out.2.1)
    have HII:Hid (i≤1000000):=Ld (by have:=HHI.out;omega)
    clear HRE HEM hbi HVB2 HHI HIH HOK HI HEN HKN HYT
    generalize hz:varZ l nm y i=z at *
    clear hz
    generalize subT freshS y [(nm,nameT z)]=yz at *
    have gA6:∀ i,w6.cell? ⟨w.heap.size,i,none⟩=[Value.int .i64 op,.string nm,.int .i64 N,.int .i64 ty.kind,.string ty.name,.slice a n c,.slice ma mn mc][i]?:=A6.out.cell
    have HWD:Hid (∀ k,k<8→(w6.alloc (.cells #[.string nm,.string ⟨#[120]⟩,.string ⟨#[121]⟩,.string ⟨#[122]⟩,.string ⟨#[110]⟩,.string ⟨#[120,49]⟩,.string ⟨#[97]⟩,.string ⟨#[102]⟩] 9)).cell? ⟨w6.heap.size,k,none⟩=some (.string (wordV nm k))):=Ld (fun k hk=>by
     have h5:=(Blk.new w6 9 [.string nm,.string ⟨#[120]⟩,.string ⟨#[121]⟩,.string ⟨#[122]⟩,.string ⟨#[110]⟩,.string ⟨#[120,49]⟩,.string ⟨#[97]⟩,.string ⟨#[102]⟩]).cell k
     refine Eq.trans h5 ?_
     match k,hk with
     | 0,_ | 1,_ | 2,_ | 3,_ | 4,_ | 5,_ | 6,_ | 7,_=>rfl)
    have KW:Hid (Kept (fun _=>False) w6 (w6.alloc (.cells #[.string nm,.string ⟨#[120]⟩,.string ⟨#[121]⟩,.string ⟨#[122]⟩,.string ⟨#[110]⟩,.string ⟨#[120,49]⟩,.string ⟨#[97]⟩,.string ⟨#[102]⟩] 9))):=Ld (kR.alloc _)
    go_upto_if 36 with (fail)
    generalize w6.alloc (.cells #[.string nm,.string ⟨#[120]⟩,.string ⟨#[121]⟩,.string ⟨#[122]⟩,.string ⟨#[110]⟩,.string ⟨#[120,49]⟩,.string ⟨#[97]⟩,.string ⟨#[102]⟩] 9)=w7 at *
    have S7:=Ld (S6.out.kept KW.out)
    have A7:=Ld (A6.out.kept KW.out (fun h=>h))
    have L7:=Ld (HIN.out w7 S7.out.kp)
    clear gA6 S6 A6 HIN KW
    go_cut [11] (fun v11 wc=>v11=.int .i64 (pickV l i)∧wc=w7)
    case first=>
     by_cases h0:l.length=0
     ·have hp:pickV l i=0:=by unfold pickV;rw[if_pos h0]
      have hgt:¬ ((0:Int)<(l.length:Int)):=by omega
      have HP:=Ld hp
      clear h0 hp
      go_wp2_with fail
      go_meet
      case rel=>exact⟨by rw[HP.out];rfl,rfl⟩
     ·have hgt:(0:Int)<(l.length:Int):=by omega
      have hlp:0<l.length:=by omega
      have hmod:i % l.length<l.length:=Nat.mod_lt _ hlp
      have hrem:IntKind.i64.wrap ((i:Int).tmod (l.length:Int))=((i % l.length:Nat):Int):=by
       have:=HLL.out
       rw[Int.tmod_eq_emod_of_nonneg (by omega),IntKind.wrap_i64] <;> omega
      obtain⟨gl,ol,hla,_,hcl⟩:=L7.out.at (i % l.length) hmod
      cases hla
      have h1:((i % l.length:Nat):Int)<(l.length:Int):=by omega
      have hpk:wrap64 ((IntKind.u64.wrap l[i % l.length]).tmod 8)=((pickV l i:Nat):Int):=pick_eq h0
      go_wp2_with fail
      go_meet
      case rel=>exact⟨rfl,rfl⟩
    case rest=>
     obtain⟨rfl,rfl⟩:=hcut
     have hk8:=pickV_lt l i
     generalize pickV l i=kp at *
     have hk8':(kp:Int)<8:=by omega
     have xw:=HWD.out kp hk8
     have hws:Hid ((wordV nm kp).size≤9223372036854775807):=Ld (by have:=HNZ.out;unfold wordV;split <;> first | exact this | decide)
     generalize wordV nm kp=wd at *
     clear HWD
     go_upto_region 9 with (fail)
     go_cut [] (fun wd=>VS w op z N ty (.slice va vn vc) O b0 [(d,dk,dm),(y,.slice yka ykn ykc,.slice yma ymn ymc)] (.slice (some ⟨g,0,none⟩) 2 uc) wd∧Blk wd w.heap.size 28 [Value.int .i64 op,.string nm,.int .i64 N,.int .i64 ty.kind,.string ty.name,.slice a n c,.slice ma mn mc])
     case first=>
      have xn:wc.cell? ⟨w.heap.size,1,none⟩=some (.string nm):=A7.out.cell 1
      have x0:wc.cell? ⟨g,7,none⟩=some (.int .i64 y.op):=S7.out.row.2 7 _ rfl
      have x1:wc.cell? ⟨g,7+1,none⟩=some (.string y.name):=S7.out.row.2 8 _ rfl
      have x2:wc.cell? ⟨g,7+2,none⟩=some (.int .i64 y.n):=S7.out.row.2 9 _ rfl
      have x3:wc.cell? ⟨g,7+3,none⟩=some (.int .i64 y.ty.kind):=S7.out.row.2 10 _ rfl
      have x4:wc.cell? ⟨g,7+4,none⟩=some (.string y.ty.name):=S7.out.row.2 11 _ rfl
      have x5:wc.cell? ⟨g,7+5,none⟩=some (.slice yka ykn ykc):=S7.out.row.2 12 _ rfl
      have x6:wc.cell? ⟨g,7+6,none⟩=some (.slice yma ymn ymc):=S7.out.row.2 13 _ rfl
      have KD:Kept (fun _=>False) wc (World.drew wc):=kR.drew
      have HF:=Ld (fun W (k:Kept (fun _=>False) wc W)=>rFree_any ((S7.out.kept k).el (y,.slice yka ykn ykc,.slice yma ymn ymc) (by simp)).1 ((S7.out.kept k).el (y,.slice yka ykn ykc,.slice yma ymn ymc) (by simp)).2 HSM.out)
      unfold tmVal at HF
      have HFL:=Ld (freS_len y)
      generalize freS y=FY at *
      go_region_law (first
       | (go_simp;go_at_call 125;refine (HF.out _ KD).mono ?_;rintro e w8 ⟨v8,rfl,h8⟩;obtain⟨a8,c8,hv8⟩:=h8.nml.slice;subst hv8;have K8:=Ld (KD.trans h8.kp);have H8:=Ld h8.nml;have xn8:w8.cell? ⟨w.heap.size,1,none⟩=some (.string nm):=(A7.out.kept K8.out (fun h=>h)).cell 1;have xw8:w8.cell? ⟨w6.heap.size,kp,none⟩=some (.string wd):=(K8.out.cell (cell_lt9 xw) (fun h=>h)).trans xw;clear h8)
       | (go_simp;go_at_call 124;refine (rexc_any nm H8.out (by have:=HFL.out;omega)).mono ?_;rintro e w9 ⟨v9,rfl,h9⟩;obtain⟨a9,c9,hv9⟩:=h9.nml.slice;subst hv9;have K9:=Ld (K8.out.trans h9.kp);have H9:=Ld h9.nml;have xn9:w9.cell? ⟨w.heap.size,1,none⟩=some (.string nm):=(A7.out.kept K9.out (fun h=>h)).cell 1;have xw9:w9.cell? ⟨w6.heap.size,kp,none⟩=some (.string wd):=(K9.out.cell (cell_lt9 xw) (fun h=>h)).trans xw;clear h9)
       | (go_simp;go_at_call 123;refine (rfresh_any wd H9.out (by have:=HFL.out;have:=exL_len FY nm;omega) hws.out).mono ?_;rw[HZF.out];rintro e w10 ⟨rfl,k10⟩;have K10:=Ld (K9.out.trans k10);have S10:=Ld (S7.out.kept K10.out);have gO10:∀ i,w10.cell? ⟨O,i,none⟩=[Value.int .i64 op,.string nm,.int .i64 N,.int .i64 ty.kind,.string ty.name,.slice va vn vc,.slice none 0 0][i]?:=S10.out.o.cell;have fO10:∀ i,w10.frozen? ⟨O,i,none⟩=false:=S10.out.o.frozen;have lO10:=S10.out.o.lt))
      all_goals
       have T10:=Ld (S10.out.name z)
       have A10:=Ld ((A7.out.kept K10.out (fun h=>h)).set_other ⟨O,1,none⟩ (.string z) (by show w.heap.size≠O;have:=S10.out.ho;omega))
       clear xn x0 x1 x2 x3 x4 x5 x6 xw xn8 xw8 xn9 xw9 H8 H9 K8 K9 K10 k10 KD HF HFL HZF S7 A7 L7
       go_wp2_with fail
       go_meet
       case rel=>exact⟨T10.out,A10.out⟩
     case rest=>
      obtain⟨hT10,hA10⟩:=hcut
      have T10:=Ld hT10
      have A10:=Ld hA10
      clear hT10 hA10 S7 A7 L7 HZF
      generalize wc=w11 at *
      go_upto_region 10 with (fail)
      have y0:w11.cell? ⟨g,7,none⟩=some (.int .i64 y.op):=T10.out.row.2 7 _ rfl
      have y1:w11.cell? ⟨g,7+1,none⟩=some (.string y.name):=T10.out.row.2 8 _ rfl
      have y2:w11.cell? ⟨g,7+2,none⟩=some (.int .i64 y.n):=T10.out.row.2 9 _ rfl
      have y3:w11.cell? ⟨g,7+3,none⟩=some (.int .i64 y.ty.kind):=T10.out.row.2 10 _ rfl
      have y4:w11.cell? ⟨g,7+4,none⟩=some (.string y.ty.name):=T10.out.row.2 11 _ rfl
      have y5:w11.cell? ⟨g,7+5,none⟩=some (.slice yka ykn ykc):=T10.out.row.2 12 _ rfl
      have y6:w11.cell? ⟨g,7+6,none⟩=some (.slice yma ymn ymc):=T10.out.row.2 13 _ rfl
      have fg:=T10.out.row.1
      have xn:w11.cell? ⟨w.heap.size,1,none⟩=some (.string nm):=A10.out.cell 1
      have xz:w11.cell? ⟨O,1,none⟩=some (.string z):=T10.out.o.cell 1
      have lg:=(World.ownsRow.lt T10.out.own g rfl).2
      have ng:g≠w11.heap.size:=by omega
      have TYK:=Ld (fun W (k:Kept (fun _=>False) w11 W)=>(T10.out.kept k).el (y,.slice yka ykn ykc,.slice yma ymn ymc) (by simp))
      unfold PutP tmVal at HSB
      go_region_law (first
       | (go_simp;go_at_call 78;refine (HSB.out _ _ _ _ _ _ (TYK.out _ (by first | exact kR.drew.alloc _ | exact (kR.alloc _).drew | exact kR.alloc _)).1 (TYK.out _ (by first | exact kR.drew.alloc _ | exact (kR.alloc _).drew | exact kR.alloc _)).2 (bnl_one (by first | exact Blk.new _ 53 (bCells ((nm,nameT z),.slice none 0 0,.slice none 0 0)) | exact (Blk.new _ 53 (bCells ((nm,nameT z),.slice none 0 0,.slice none 0 0))).drew))).mono ?_;rintro e w12 ⟨zk,zm,rfl,hzk,hzm,k12⟩;obtain⟨zka,zkn,zkc,rfl⟩:=hzk.slice;obtain⟨zma,zmn,zmc,rfl⟩:=hzm.slice;have K12:Kept (fun _=>False) w11 w12:=(by first | exact (kR.drew.alloc _).trans k12 | exact ((kR.alloc _).drew).trans k12 | exact (kR.alloc _).trans k12);have S12:=Ld (T10.out.kept K12);have z0:w12.cell? ⟨g,7,none⟩=some (.int .i64 y.op):=S12.out.row.2 7 _ rfl;have z1:w12.cell? ⟨g,7+1,none⟩=some (.string y.name):=S12.out.row.2 8 _ rfl;have z2:w12.cell? ⟨g,7+2,none⟩=some (.int .i64 y.n):=S12.out.row.2 9 _ rfl;have z3:w12.cell? ⟨g,7+3,none⟩=some (.int .i64 y.ty.kind):=S12.out.row.2 10 _ rfl;have z4:w12.cell? ⟨g,7+4,none⟩=some (.string y.ty.name):=S12.out.row.2 11 _ rfl;have z5:w12.cell? ⟨g,7+5,none⟩=some (.slice yka ykn ykc):=S12.out.row.2 12 _ rfl;have z6:w12.cell? ⟨g,7+6,none⟩=some (.slice yma ymn ymc):=S12.out.row.2 13 _ rfl;have fg12:=S12.out.row.1;have HD:=Ld (VS.body (B:=w11.heap.size) (z:=yz) S12.out ⟨T10.out.ho.2.2,lg⟩ (hzk.mono (fun q _ hq=>by first | (have h5:_≤q:=hq;simp at h5;omega))) (hzm.mono (fun q _ hq=>by first | (have h5:_≤q:=hq;simp at h5;omega))) _ rfl);clear hzk hzm k12))
      all_goals
       clear y0 z0 y1 z1 y2 z2 y3 z3 y4 z4 y5 z5 y6 z6 xn xz fg fg12 S12 T10 A10 K12 TYK HSB HSM lg ng
       generalize hW:((((((w12.setCell ⟨g,7,none⟩ (.int .i64 yz.op)).setCell ⟨g,8,none⟩ (.string yz.name)).setCell ⟨g,9,none⟩ (.int .i64 yz.n)).setCell ⟨g,10,none⟩ (.int .i64 yz.ty.kind)).setCell ⟨g,11,none⟩ (.string yz.ty.name)).setCell ⟨g,12,none⟩ (.slice zka zkn zkc)).setCell ⟨g,13,none⟩ (.slice zma zmn zmc)=w13 at *
       clear hW
       have hi9:wrap64 ((i:Int)+1)=((i+1:Nat):Int):=by unfold wrap64;have:=HII.out;omega
       rw[hi9]
       clear hi9
       have HQ1:=HQ0
       go_wp2_with fail
       go_meet
       case rel=>exact⟨z,[(d,dk,dm),(yz,.slice zka zkn zkc,.slice zma zmn zmc)],some ⟨g,0,none⟩,2,uc,i+1,b0,rfl,rfl,HD.out,HQ0,HZD,HZN,Ld (by simp)⟩
  case rest=>
   obtain⟨z,E,ua,un,uc,i2,b1,rfl,rfl,hS,HQ,HKD,HB2,HEL⟩:=hcut
   clear S6 A6 HRE HEM HEN HOK HI
   have L0:=Ld (VL.start hS)
   have KS:=Ld hS.kp
   clear hS
   obtain⟨base,hbase⟩:∃ base,base=wc.heap.size:=⟨_,rfl⟩
   rw[← hbase] at L0
   obtain rfl:un=E.length:=by have:=L0.out.kids.len;rw[List.length_map] at this;exact this
   have L1:Hid (wc.heap.size≤base):=Ld (by omega)
   clear hbase
   go_wp2_with fail
   go_loopw [2,12] (fun v2 v12 wr=>∃ (k a2:Nat) (E':List E3) (U:Value),k≤E.length∧v12=.int .i64 k∧v2=.int .i64 a2∧VL w op z N ty (.slice va vn vc) O b1 base E (.slice ua E.length uc) E' wr U∧Hid (varK (varF l f) (E.map (·.1)) i2=(E'.map (·.1)++(varK (varF l f) ((E.map (·.1)).drop k) a2).1,(varK (varF l f) ((E.map (·.1)).drop k) a2).2))∧E'.length=k∧Hid (a2+tmNs ((E.map (·.1)).drop k)≤1000000)) (fun v2 i _=>E.length-(intOf i).toNat)
   case atStart=>exact⟨0,i2,[],_,Nat.zero_le _,rfl,rfl,L0.out,Ld rfl,rfl,HB2⟩
   case round=>
    obtain⟨k,a2,E',U,hk,rfl,rfl,hL,hq,hEk,ha⟩:=hrel
    obtain⟨xa,xn,xc,hU⟩:=hL.row.tml.slice
    subst hU
    obtain rfl:xn=E'.length:=by have:=hL.row.tml.len;rw[List.length_map] at this;exact this
    have L:=Ld hL
    have HEK:=Ld hEk
    clear hL L0 hEk
    by_cases hlt:k<E.length
    ·have i1:(k:Int)<(E.length:Int):=by omega
     have i2':(k:Int)<1000000:=by have:=HEL.out;omega
     have hltm:k<(E.map (·.1)).length:=by rw[List.length_map];exact hlt
     have LA:=Ld (L.out.kept ((Kept.refl (fun _=>False) wr).alloc Z7))
     obtain⟨q0,o1,ta,tn,tc,pa,pn,pc,hua,_,lq,hC,hkt,hkm⟩:=LA.out.kids.at k hltm
     cases hua
     have HC:=Ld (HIH.out _ (HKD.out _ (List.getElem_mem hltm)) l a2 _ _ okL _ _ _ hkt hkm (HIN.out _ LA.out.row.kp) HLL.out (by have h5:=ha.out;rw[tmNs_drop hltm] at h5;omega))
     have HD:=Ld (varK_drop (g:=varF l f) (a:=a2) hltm)
     have HAt:Hid (∀ b,b≤a2+tmN (E.map (·.1))[k]→b+tmNs ((E.map (·.1)).drop (k+1))≤1000000):=Ld (fun b hb=>by have h5:=ha.out;rw[tmNs_drop hltm] at h5;omega)
     have HAr:=Ld (HAt.out _ (varF_at l f _ a2 (HKD.out _ (List.getElem_mem hltm)).1 (by have:=(HKD.out _ (List.getElem_mem hltm)).2.1;omega) (HKD.out _ (List.getElem_mem hltm)).2.2.2))
     unfold VrP tmVal at HC
     have HRK:Hid (varK (varF l f) (E.map (·.1)) i2=((E'.map (·.1)++[(varF l f (E.map (·.1))[k] a2).1])++(varK (varF l f) ((E.map (·.1)).drop (k+1)) (varF l f (E.map (·.1))[k] a2).2).1,(varK (varF l f) ((E.map (·.1)).drop (k+1)) (varF l f (E.map (·.1))[k] a2).2).2)):=Ld (by rw[hq.out,HD.out,List.append_assoc];rfl)
     generalize (varF l f (E.map (·.1))[k] a2).2=ra at *
     generalize (varF l f (E.map (·.1))[k] a2).1=r at *
     have HAL:Hid (ra≤1000000):=Ld (by have:=HAr.out;omega)
     obtain⟨c0,c1,c2,c3,c4,c5,c6⟩:=hC
     generalize (E.map (·.1))[k]=tk0 at *
     clear hkt hkm HD hq ha HAt
     go_wp2_with fail
     clear c0 c1 c2 c3 c4 c5 c6
     refine HC.out.mono ?_
     rintro e w14 ⟨tk4,kk4,rfl,hv4,hu4,k4⟩
     obtain⟨va4,vn4,vc4,rfl⟩:=hv4.slice
     obtain⟨ya4,yn4,yc4,rfl⟩:=hu4.slice
     have KW:=Ld (((Kept.refl (fun _=>False) wr).alloc Z7).trans k4)
     have bP:=Ld ((Blk.new wr 28 z27).kept k4 (fun h=>h))
     have HV4:Hid (TyL (fun q=>wr.heap.size+1≤q) w14 r.ty.kids (.slice va4 vn4 vc4)):=Ld (hv4.mono (fun q _ hq=>by have h:(wr.alloc Z7).heap.size≤q:=hq;simpa using h))
     have HU4:Hid (TmL (fun q=>wr.heap.size+1≤q) w14 r.kids (.slice ya4 yn4 yc4)):=Ld (hu4.mono (fun q _ hq=>by have h:(wr.alloc Z7).heap.size≤q:=hq;simpa using h))
     clear hv4 hu4 k4 HC LA lq
     have lwr:=bP.out.lt
     have gP:∀ i,w14.cell? ⟨wr.heap.size,i,none⟩=[Value.int .i64 0,.string ⟨#[]⟩,.int .i64 0,.int .i64 0,.string ⟨#[]⟩,.slice none 0 0,.slice none 0 0][i]?:=bP.out.cell
     have fP:∀ i,w14.frozen? ⟨wr.heap.size,i,none⟩=false:=bP.out.frozen
     go_upto_region 16 with (fail)
     have bP5:Hid (Blk (((((((w14.setCell ⟨wr.heap.size,0,none⟩ (.int .i64 r.op)).setCell ⟨wr.heap.size,1,none⟩ (.string r.name)).setCell ⟨wr.heap.size,2,none⟩ (.int .i64 r.n)).setCell ⟨wr.heap.size,3,none⟩ (.int .i64 r.ty.kind)).setCell ⟨wr.heap.size,4,none⟩ (.string r.ty.name)).setCell ⟨wr.heap.size,5,none⟩ (.slice va4 vn4 vc4)).setCell ⟨wr.heap.size,6,none⟩ (.slice ya4 yn4 yc4)) wr.heap.size 28 (tmCells r (.slice va4 vn4 vc4) (.slice ya4 yn4 yc4))):=Ld (r7 bP.out rfl)
     have KW5:Hid (Kept (fun _=>False) wr (((((((w14.setCell ⟨wr.heap.size,0,none⟩ (.int .i64 r.op)).setCell ⟨wr.heap.size,1,none⟩ (.string r.name)).setCell ⟨wr.heap.size,2,none⟩ (.int .i64 r.n)).setCell ⟨wr.heap.size,3,none⟩ (.int .i64 r.ty.kind)).setCell ⟨wr.heap.size,4,none⟩ (.string r.ty.name)).setCell ⟨wr.heap.size,5,none⟩ (.slice va4 vn4 vc4)).setCell ⟨wr.heap.size,6,none⟩ (.slice ya4 yn4 yc4))):=Ld (k7w KW.out (Or.inr (Nat.le_refl _)))
     have HV5:Hid (TyL (fun q=>wr.heap.size+1≤q) (((((((w14.setCell ⟨wr.heap.size,0,none⟩ (.int .i64 r.op)).setCell ⟨wr.heap.size,1,none⟩ (.string r.name)).setCell ⟨wr.heap.size,2,none⟩ (.int .i64 r.n)).setCell ⟨wr.heap.size,3,none⟩ (.int .i64 r.ty.kind)).setCell ⟨wr.heap.size,4,none⟩ (.string r.ty.name)).setCell ⟨wr.heap.size,5,none⟩ (.slice va4 vn4 vc4)).setCell ⟨wr.heap.size,6,none⟩ (.slice ya4 yn4 yc4)) r.ty.kids (.slice va4 vn4 vc4)):=Ld (HV4.out.frame (set7 (fun q hq=>by omega)))
     have HU5:Hid (TmL (fun q=>wr.heap.size+1≤q) (((((((w14.setCell ⟨wr.heap.size,0,none⟩ (.int .i64 r.op)).setCell ⟨wr.heap.size,1,none⟩ (.string r.name)).setCell ⟨wr.heap.size,2,none⟩ (.int .i64 r.n)).setCell ⟨wr.heap.size,3,none⟩ (.int .i64 r.ty.kind)).setCell ⟨wr.heap.size,4,none⟩ (.string r.ty.name)).setCell ⟨wr.heap.size,5,none⟩ (.slice va4 vn4 vc4)).setCell ⟨wr.heap.size,6,none⟩ (.slice ya4 yn4 yc4)) r.kids (.slice ya4 yn4 yc4)):=Ld (HU4.out.frame (set7 (fun q hq=>by omega)))
     clear gP fP KW bP HV4 HU4 lwr
     generalize ((((((w14.setCell ⟨wr.heap.size,0,none⟩ (.int .i64 r.op)).setCell ⟨wr.heap.size,1,none⟩ (.string r.name)).setCell ⟨wr.heap.size,2,none⟩ (.int .i64 r.n)).setCell ⟨wr.heap.size,3,none⟩ (.int .i64 r.ty.kind)).setCell ⟨wr.heap.size,4,none⟩ (.string r.ty.name)).setCell ⟨wr.heap.size,5,none⟩ (.slice va4 vn4 vc4)).setCell ⟨wr.heap.size,6,none⟩ (.slice ya4 yn4 yc4)=w15 at *
     have L5:=Ld (L.out.kept KW5.out)
     have lP5:=bP5.out.lt
     have lO5:=L5.out.o.lt
     have nP5:wr.heap.size≠w15.heap.size:=by omega
     have nO5:O≠w15.heap.size:=by omega
     have gP5:∀ i,w15.cell? ⟨wr.heap.size,i,none⟩=[Value.int .i64 r.op,.string r.name,.int .i64 r.n,.int .i64 r.ty.kind,.string r.ty.name,.slice va4 vn4 vc4,.slice ya4 yn4 yc4][i]?:=bP5.out.cell
     have gO5:∀ i,w15.cell? ⟨O,i,none⟩=[Value.int .i64 op,.string z,.int .i64 N,.int .i64 ty.kind,.string ty.name,.slice va vn vc,.slice xa E'.length xc][i]?:=L5.out.o.cell
     have HEL5:Hid (∀ o,EL (okb base (.slice xa E'.length xc)) (w15.alloc o) [(r,.slice va4 vn4 vc4,.slice ya4 yn4 yc4)]):=Ld (fun o e he=>by
      rw[List.mem_singleton.1 he]
      have hq1:∀ q,wr.heap.size+1≤q→okb base (.slice xa E'.length xc) q:=fun q hq=>⟨by have:=L.out.ho.2.2.2;omega,fun e=>by have:=(L.out.row.own.lt q e).2;omega⟩
      exact⟨(HV5.out.mono (fun q _ hq=>hq1 q hq)).frame (Same.alloc _ _),(HU5.out.mono (fun q _ hq=>hq1 q hq)).frame (Same.alloc _ _)⟩)
     go_wp2_with (at_builtin;refine wpList_app_src rfl (.tmp 95) (.tmp 97) _ rfl base 28 i28 _ 7 104 Tryz.underlying22 HI28.out HZ28.out HS28.out HB28.out rfl (by decide) (.slice xa E'.length xc) E'.length (flat E') rfl (own_keptT L5.out.row.own ((Kept.refl (fun _=>False) w15).alloc (.cells (tmCells r (.slice va4 vn4 vc4) (.slice ya4 yn4 yc4)).toArray 28)) (fun _ _ h=>h)) (.slice (some ⟨w15.heap.size,0,none⟩) 1 1) 1 (tmCells r (.slice va4 vn4 vc4) (.slice ya4 yn4 yc4)) rfl (.inr ⟨_,_,rfl,newsT (Blk.new w15 28 (tmCells r (.slice va4 vn4 vc4) (.slice ya4 yn4 yc4)))⟩) rfl oneT ?_ ?_ ?_ ?_)
     ·have:=HEK.out;unfold maxLen;omega
     ·have:=HEK.out;omega
     ·have:=L5.out.ho.2.2.2;simp;omega
     intro v8 w8 own8 hg8 hat8
     have R8:=Ld (RowT.app2 (F:=[(r,.slice va4 vn4 vc4,.slice ya4 yn4 yc4)]) (by have:=L5.out.ho;have:=L5.out.row.kp.size;omega) (L5.out.row.kept ((Kept.refl (fun _=>False) w15).alloc (.cells (tmCells r (.slice va4 vn4 vc4) (.slice ya4 yn4 yc4)).toArray 28))) (HEL5.out _) (by show w8.ownsRow base 28 7 v8 (E'.length+1) (flat E'++((tmCells r (.slice va4 vn4 vc4) (.slice ya4 yn4 yc4))++[]));rw[List.append_nil];exact own8) hg8 (by rw[World.size_alloc];exact hat8))
     have S8:=Ld (VL.step (L5.out.kept ((Kept.refl (fun _=>False) w15).alloc (.cells (tmCells r (.slice va4 vn4 vc4) (.slice ya4 yn4 yc4)).toArray 28))) hg8 R8.out)
     obtain⟨xa8,xn8,xc8,hv8⟩:=R8.out.tml.slice
     subst hv8
     have gO8:=S8.out.1.cell
     have fO8:=S8.out.1.frozen
     clear own8 hg8 hat8 gP5 gO5 HEL5 bP5 KW5 HV5 HU5 R8 L5 L
     go_wp2_with fail
     go_roundw
     case rel=>exact⟨k+1,ra,_,_,by omega,by go_num,rfl,S8.out.2,Ld (by rw[List.map_append];exact HRK.out),by have:=HEK.out;simp;omega,HAr⟩
     case measure=>simp[intOf];omega
    ·have hkk:k=E.length:=by omega
     subst hkk
     have HEQ:Hid (res=(.mk op z N ty (E'.map (·.1)),a2)):=Ld (by rw[HQ.out,hq.out,List.drop_eq_nil_of_le (by rw[List.length_map];exact Nat.le_refl _),varK];simp)
     have gO:∀ i,wr.cell? ⟨O,i,none⟩=[Value.int .i64 op,.string z,.int .i64 N,.int .i64 ty.kind,.string ty.name,.slice va vn vc,.slice xa E'.length xc][i]?:=L.out.o.cell
     have gR:∀ i,wr.cell? ⟨w.heap.size+1,i,none⟩=[Value.int .i64 0,.string ⟨#[]⟩,.int .i64 0,.int .i64 0,.string ⟨#[]⟩,.slice none 0 0,.slice none 0 0][i]?:=L.out.rb.cell
     have fR:∀ i,wr.frozen? ⟨w.heap.size+1,i,none⟩=false:=L.out.rb.frozen
     have HTM:=L.out.row.tml
     have hoo:=L.out.ho
     have hbw:=L.out.row.kp.size
     go_wp2_with fail
     exact bodyPost_ret (results_ct Tryz.results73 rfl (load_tm (t:=.mk op z N ty (E'.map (·.1))) (r7 L.out.rb rfl))) rfl ⟨_,_,by rw[HEQ.out];rfl,by rw[HEQ.out];exact (L.out.ty.frame (set7 (fun q hq=>by omega))).mono (fun q _ hq=>by omega),by rw[HEQ.out];exact (HTM.frame (set7 (fun q hq=>by omega))).mono (fun q _ hq=>by omega),k7w L.out.row.kp (Or.inr (Nat.le_succ _))⟩
theorem vary_any:∀ (f:Nat) (t:Tm),VrK f t→VrC f t
 | 0,t,h=>absurd h.2.2.2 (by cases t with | mk op nm N ty ks=>rw[tmD];omega)
 | f+1,.mk op nm N ty ks,h=>by
  have hb:=ok_bd h.1
  have hn:=ok_name h.1
  cases hb with
  | mk hn1 ht hl=>exact vary_one h (fun u hu=>vary_any f u hu) ht hn1 (by omega)
end Go.Proofs.YtfhedienjnfdcaaGreatDoor
