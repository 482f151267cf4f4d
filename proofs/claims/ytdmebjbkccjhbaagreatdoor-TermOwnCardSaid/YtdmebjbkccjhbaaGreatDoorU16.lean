/- A part. -/
import Derived.Test.YtdmebjbkccjhbaaGreatDoorU15
import Derived.StillTailTactics
import Derived.Lib.SliceRun
import Derived.Laws.EntriesVeiled
set_option linter.unusedVariables false
set_option linter.unusedSimpArgs false
set_option maxRecDepth 100000
set_option maxHeartbeats 32000000
namespace Go.Proofs.YtdmebjbkccjhbaaGreatDoor
open Go.RowKit
variable {bz:Nat}
def EqyC (bz:Nat) (f:FuncId) (t:Ty):Prop:=∀ (t':Ty) (w:World) (ok ok':Nat→Prop) (tk tk':Value),TyL bz ok w t.kids tk→TyL bz ok' w t'.kids tk' →
 Calls Tryz.prog f #[tyVal t tk,tyVal t' tk'] w fun e w'=>e=.returned (.bool (tyEq t t'))∧Kept (fun _=>False) w w'
theorem tysEq_len:∀ (l l':List Ty),l.length≠l'.length→tysEq l l'=false
 | [],[],h=>absurd rfl h
 | [],_::_,_=>rfl
 | _::_,[],_=>rfl
 | a::l,b::l',h=>by rw[tysEq,tysEq_len l l' (by simpa using h),Bool.and_false]
theorem tysEq_drop {l l':List Ty} {k:Nat} (h:k<l.length) (h':k<l'.length):tysEq (l.drop k) (l'.drop k)=(tyEq l[k] l'[k]&&tysEq (l.drop (k+1)) (l'.drop (k+1))):=by
 rw[List.drop_eq_getElem_cons h,List.drop_eq_getElem_cons h',tysEq]
theorem tysEq_end {l l':List Ty} {k:Nat} (h:l.length≤k) (h':l'.length≤k):tysEq (l.drop k) (l'.drop k)=true:=by
 rw[List.drop_eq_nil_of_le h,List.drop_eq_nil_of_le h'];rfl
theorem rsame_one {kd:Int} {nm:ByteArray} {l:List Ty} (IH:∀ u,u∈l→EqyC bz 54 u) (hn:l.length≤1000000):EqyC bz 54 (.mk kd nm l):=by
 rintro⟨kd',nm',l'⟩ w ok ok' tk tk' h h'
 have h:TyL bz ok w l tk:=h
 have h':TyL bz ok' w l' tk':=h'
 obtain⟨a,n,c,rfl⟩:=h.slice
 obtain⟨a',n',c',rfl⟩:=h'.slice
 obtain rfl:n=l.length:=h.len
 obtain rfl:n'=l'.length:=h'.len
 have HIH:=Ld IH
 have HAT:=Ld (fun W (k:Kept (fun _=>False) w W)=>(h.frame (sK k)).at)
 have HAT':=Ld (fun W (k:Kept (fun _=>False) w W)=>(h'.frame (sK k)).at)
 clear h h' IH
 change Calls Tryz.prog 54 #[.agg #[.int .i64 kd,.string nm,.slice a l.length c],.agg #[.int .i64 kd',.string nm',.slice a' l'.length c']] w _
 have bA:Blk ((w.alloc (.cells #[.int .i64 kd,.string nm,.slice a l.length c] 24)).alloc (.cells #[.int .i64 kd',.string nm',.slice a' l'.length c'] 24)) w.heap.size 24 [.int .i64 kd,.string nm,.slice a l.length c]:=(Blk.new w 24 _).alloc _
 have bB:Blk ((w.alloc (.cells #[.int .i64 kd,.string nm,.slice a l.length c] 24)).alloc (.cells #[.int .i64 kd',.string nm',.slice a' l'.length c'] 24)) (w.heap.size+1) 24 [.int .i64 kd',.string nm',.slice a' l'.length c']:=Blk.new' 24 _ (by simp)
 have K1:Kept (fun _=>False) w ((w.alloc (.cells #[.int .i64 kd,.string nm,.slice a l.length c] 24)).alloc (.cells #[.int .i64 kd',.string nm',.slice a' l'.length c'] 24)):=(kR.alloc _).alloc _
 have HD:=Ld (show tyEq (.mk kd nm l) (.mk kd' nm' l')=(decide (kd=kd')&&decide (nm=nm')&&tysEq l l') from rfl)
 by_cases e1:kd=kd'
 case neg=>
  have t1:(kd==kd')=false:=by simpa using e1
  have t2:(kd != kd')=true:=by simpa using e1
  have HR:Hid (tyEq (.mk kd nm l) (.mk kd' nm' l')=false):=Ld (by rw[HD.out];simp[e1])
  clear e1
  go_enter Tryz.func54,Tryz.ntmps54
  go_wp2_with fail
  go_ret
  exact⟨by rw[HR.out];rfl,K1⟩
 subst e1
 cases e2:(nm.toList==nm'.toList)
 case false=>
  have t2:(nm.toList != nm'.toList)=true:=by rw[bne,e2];rfl
  have HR:Hid (tyEq (.mk kd nm l) (.mk kd nm' l')=false):=Ld (by rw[HD.out,← nm_eq,e2];simp)
  go_enter Tryz.func54,Tryz.ntmps54
  go_wp2_with fail
  go_ret
  exact⟨by rw[HR.out];rfl,K1⟩
 have t2:(nm.toList != nm'.toList)=false:=by rw[bne,e2];rfl
 have HD2:Hid (tyEq (.mk kd nm l) (.mk kd nm' l')=tysEq l l'):=Ld (by rw[HD.out,← nm_eq,e2];simp)
 clear HD
 by_cases e3:l.length=l'.length
 case neg=>
  have t3:((l.length:Int) != (l'.length:Int))=true:=by simp;omega
  have t4:((l.length:Int)==(l'.length:Int))=false:=by simp;omega
  have HR:Hid (tyEq (.mk kd nm l) (.mk kd nm' l')=false):=Ld (by rw[HD2.out,tysEq_len _ _ e3])
  clear e3
  go_enter Tryz.func54,Tryz.ntmps54
  go_wp2_with fail
  go_ret
  exact⟨by rw[HR.out];rfl,K1⟩
 have E3:=Ld e3
 rw[← e3] at bA bB K1 ⊢
 clear e3
 go_enter Tryz.func54,Tryz.ntmps54
 go_wp2_with fail
 generalize ((w.alloc (.cells #[.int .i64 kd,.string nm,.slice a l.length c] 24)).alloc (.cells #[.int .i64 kd,.string nm',.slice a' l.length c'] 24))=w1 at *
 go_loopw [5] (fun i wr=>∃ j:Nat,j≤l.length∧i=.int .i64 j∧Kept (fun _=>False) w1 wr∧Hid (tysEq l l'=tysEq (l.drop j) (l'.drop j))) (fun i _=>l.length-(intOf i).toNat)
 case atStart=>exact⟨0,Nat.zero_le _,rfl,Kept.refl _ _,Ld rfl⟩
 case round=>
  obtain⟨j,hj,rfl,kr,hq⟩:=hrel
  have g2:wr.cell? ⟨w.heap.size,2,none⟩=some (.slice a l.length c):=(bA.kept kr (fun h=>h)).cell 2
  have g2':wr.cell? ⟨w.heap.size+1,2,none⟩=some (.slice a' l.length c'):=(bB.kept kr (fun h=>h)).cell 2
  by_cases hlt:j<l.length
  ·have KR:=K1.trans kr
   have hlt':j<l'.length:=by rw[← E3.out];exact hlt
   obtain⟨g,off,ta,tn,tc,rfl,_,lg,⟨c0,c1,c2⟩,hty⟩:=HAT.out wr KR j hlt
   obtain⟨g',off',ta',tn',tc',rfl,_,lg',⟨d0,d1,d2⟩,hty'⟩:=HAT'.out wr KR j hlt'
   have hcon:=Ld (fun (W:World) (kW:Kept (fun _=>False) wr W)=>HIH.out _ (List.getElem_mem hlt) l'[j] W ok ok' _ _ (hty.frame (Same.of_kept kW (fun k h e=>e))) (hty'.frame (Same.of_kept kW (fun k h e=>e))))
   unfold tyVal at hcon
   have HS:=Ld (tysEq_drop hlt hlt')
   clear hty hty'
   have hj2:(j:Int)<(l.length:Int):=by omega
   have hj3:(j:Int)<1000000:=by omega
   go_wp2_with fail
   go_still_tail 10,(by kernel_rfl)
   change wpList _ _ _ _ _ wr.drew
   have kd:Kept (fun _=>False) wr wr.drew:=kR.drew
   generalize wr.drew=w2 at *
   cases hr:tyEq l[j] l'[j]
   ·rw[hr] at hcon
    go_wp2_with (go_at_call 54;refine (hcon.out _ kd).mono ?_;rintro e w' ⟨rfl,k2⟩)
    go_ret
    exact⟨by rw[HD2.out,hq.out,HS.out,hr];rfl,K1.trans (kr.trans (kd.trans k2))⟩
   ·rw[hr] at hcon
    go_wp2_with (go_at_call 54;refine (hcon.out _ kd).mono ?_;rintro e w' ⟨rfl,k2⟩)
    go_roundw
    case rel=>exact⟨j+1,by omega,by go_num,kr.trans (kd.trans k2),Ld (by rw[hq.out,HS.out,hr];rfl)⟩
    case measure=>simp[intOf];omega
  ·have HZ:Hid (tysEq l l'=true):=Ld (by rw[hq.out,tysEq_end (by omega) (by rw[← E3.out];omega)])
   go_wp2_with fail
   go_ret
   exact⟨by rw[HD2.out,HZ.out];rfl,K1.trans kr⟩
theorem rsameTy_any {t:Ty} (hb:BdTy t):EqyC bz 54 t:=by
 induction hb with
 | mk hn hl ih=>exact rsame_one ih hn
def EqmC (bz:Nat) (t:Tm):Prop:=∀ (t':Tm) (w:World) (ok ok':Nat→Prop) (tk kk tk' kk':Value),TyL bz ok w t.ty.kids tk→TmL bz ok w t.kids kk→TyL bz ok' w t'.ty.kids tk'→TmL bz ok' w t'.kids kk' →
 Calls Tryz.prog 20 #[tmVal t tk kk,tmVal t' tk' kk'] w fun e w'=>e=.returned (.bool (tmEq t t'))∧Kept (fun _=>False) w w'
theorem tmsEq_len:∀ (l l':List Tm),l.length≠l'.length→tmsEq l l'=false
 | [],[],h=>absurd rfl h
 | [],_::_,_=>rfl
 | _::_,[],_=>rfl
 | a::l,b::l',h=>by rw[tmsEq,tmsEq_len l l' (by simpa using h),Bool.and_false]
theorem tmsEq_drop {l l':List Tm} {k:Nat} (h:k<l.length) (h':k<l'.length):tmsEq (l.drop k) (l'.drop k)=(tmEq l[k] l'[k]&&tmsEq (l.drop (k+1)) (l'.drop (k+1))):=by
 rw[List.drop_eq_getElem_cons h,List.drop_eq_getElem_cons h',tmsEq]
theorem tmsEq_end {l l':List Tm} {k:Nat} (h:l.length≤k) (h':l'.length≤k):tmsEq (l.drop k) (l'.drop k)=true:=by
 rw[List.drop_eq_nil_of_le h,List.drop_eq_nil_of_le h'];rfl
theorem rsames_any {l l':List Tm} {w:World} {ok ok':Nat→Prop} {v v':Value} (IH:∀ u,u∈l→EqmC bz u) (hn:l.length≤1000000) (h:TmL bz ok w l v) (h':TmL bz ok' w l' v'):
  Calls Tryz.prog 55 #[v,v'] w fun e w'=>e=.returned (.bool (tmsEq l l'))∧Kept (fun _=>False) w w':=by
 obtain⟨a,n,c,rfl⟩:=h.slice
 obtain⟨a',n',c',rfl⟩:=h'.slice
 obtain rfl:n=l.length:=h.len
 obtain rfl:n'=l'.length:=h'.len
 have HIH:=Ld IH
 have HAT:=Ld (fun W (k:Kept (fun _=>False) w W)=>(h.frame (sK k)).at)
 have HAT':=Ld (fun W (k:Kept (fun _=>False) w W)=>(h'.frame (sK k)).at)
 clear h h' IH
 by_cases e3:l.length=l'.length
 case neg=>
  have t3:((l.length:Int) != (l'.length:Int))=true:=by simp;omega
  have t4:((l.length:Int)==(l'.length:Int))=false:=by simp;omega
  have HR:Hid (tmsEq l l'=false):=Ld (by rw[tmsEq_len _ _ e3])
  clear e3
  go_enter Tryz.func55,Tryz.ntmps55
  go_wp2_with fail
  go_ret
  exact⟨by rw[HR.out];rfl,Kept.refl _ _⟩
 have E3:=Ld e3
 rw[← e3]
 clear e3
 go_enter Tryz.func55,Tryz.ntmps55
 go_wp2_with fail
 go_loopw [5] (fun i wr=>∃ j:Nat,j≤l.length∧i=.int .i64 j∧Kept (fun _=>False) w wr∧Hid (tmsEq l l'=tmsEq (l.drop j) (l'.drop j))) (fun i _=>l.length-(intOf i).toNat)
 case atStart=>exact⟨0,Nat.zero_le _,rfl,Kept.refl _ _,Ld rfl⟩
 case round=>
  obtain⟨j,hj,rfl,kr,hq⟩:=hrel
  by_cases hlt:j<l.length
  ·have hlt':j<l'.length:=by rw[← E3.out];exact hlt
   obtain⟨g,off,ta,tn,tc,ma,mn,mc,rfl,_,lg,⟨c0,c1,c2,c3,c4,c5,c6⟩,hty,htm⟩:=HAT.out wr kr j hlt
   obtain⟨g',off',ta',tn',tc',ma',mn',mc',rfl,_,lg',⟨d0,d1,d2,d3,d4,d5,d6⟩,hty',htm'⟩:=HAT'.out wr kr j hlt'
   have hcon:=Ld (fun (W:World) (kW:Kept (fun _=>False) wr W)=>HIH.out _ (List.getElem_mem hlt) l'[j] W ok ok' _ _ _ _ (hty.frame (Same.of_kept kW (fun k h e=>e))) (htm.frame (Same.of_kept kW (fun k h e=>e))) (hty'.frame (Same.of_kept kW (fun k h e=>e))) (htm'.frame (Same.of_kept kW (fun k h e=>e))))
   unfold tmVal at hcon
   have HS:=Ld (tmsEq_drop hlt hlt')
   clear hty hty' htm htm'
   have hj2:(j:Int)<(l.length:Int):=by omega
   have hj3:(j:Int)<1000000:=by omega
   go_wp2_with fail
   go_still_tail 8,(by kernel_rfl)
   change wpList _ _ _ _ _ wr.drew
   have kd:Kept (fun _=>False) wr wr.drew:=kR.drew
   generalize wr.drew=w2 at *
   cases hr:tmEq l[j] l'[j]
   ·rw[hr] at hcon
    go_wp2_with (go_at_call 20;refine (hcon.out _ kd).mono ?_;rintro e w' ⟨rfl,k2⟩)
    go_ret
    exact⟨by rw[hq.out,HS.out,hr];rfl,kr.trans (kd.trans k2)⟩
   ·rw[hr] at hcon
    go_wp2_with (go_at_call 20;refine (hcon.out _ kd).mono ?_;rintro e w' ⟨rfl,k2⟩)
    go_roundw
    case rel=>exact⟨j+1,by omega,by go_num,kr.trans (kd.trans k2),Ld (by rw[hq.out,HS.out,hr];rfl)⟩
    case measure=>simp[intOf];omega
  ·have HZ:Hid (tmsEq l l'=true):=Ld (by rw[hq.out,tmsEq_end (by omega) (by rw[← E3.out];omega)])
   go_wp2_with fail
   go_ret
   exact⟨by rw[HZ.out];rfl,kr⟩
theorem rsameTm_one {op:Int} {nm:ByteArray} {N:Int} {ty:Ty} {l:List Tm} (hty:BdTy ty) (IH:∀ u,u∈l→EqmC bz u) (hn:l.length≤1000000):EqmC bz (.mk op nm N ty l):=by
 rintro⟨op',nm',N',ty',l'⟩ w ok ok' tk kk tk' kk' h1 h2 h3 h4
 have h1:TyL bz ok w ty.kids tk:=h1
 have h2:TmL bz ok w l kk:=h2
 have h3:TyL bz ok' w ty'.kids tk':=h3
 have h4:TmL bz ok' w l' kk':=h4
 obtain⟨a,n,c,rfl⟩:=h1.slice
 obtain⟨ma,mn,mc,rfl⟩:=h2.slice
 obtain⟨a',n',c',rfl⟩:=h3.slice
 obtain⟨ma',mn',mc',rfl⟩:=h4.slice
 change Calls Tryz.prog 20 #[.agg #[.int .i64 op,.string nm,.int .i64 N,.int .i64 ty.kind,.string ty.name,.slice a n c,.slice ma mn mc],.agg #[.int .i64 op',.string nm',.int .i64 N',.int .i64 ty'.kind,.string ty'.name,.slice a' n' c',.slice ma' mn' mc']] w _
 have bA:Blk ((w.alloc (.cells #[.int .i64 op,.string nm,.int .i64 N,.int .i64 ty.kind,.string ty.name,.slice a n c,.slice ma mn mc] 27)).alloc (.cells #[.int .i64 op',.string nm',.int .i64 N',.int .i64 ty'.kind,.string ty'.name,.slice a' n' c',.slice ma' mn' mc'] 27)) w.heap.size 27 [.int .i64 op,.string nm,.int .i64 N,.int .i64 ty.kind,.string ty.name,.slice a n c,.slice ma mn mc]:=(Blk.new w 27 _).alloc _
 have bB:Blk ((w.alloc (.cells #[.int .i64 op,.string nm,.int .i64 N,.int .i64 ty.kind,.string ty.name,.slice a n c,.slice ma mn mc] 27)).alloc (.cells #[.int .i64 op',.string nm',.int .i64 N',.int .i64 ty'.kind,.string ty'.name,.slice a' n' c',.slice ma' mn' mc'] 27)) (w.heap.size+1) 27 [.int .i64 op',.string nm',.int .i64 N',.int .i64 ty'.kind,.string ty'.name,.slice a' n' c',.slice ma' mn' mc']:=Blk.new' 27 _ (by simp)
 have K1:Kept (fun _=>False) w ((w.alloc (.cells #[.int .i64 op,.string nm,.int .i64 N,.int .i64 ty.kind,.string ty.name,.slice a n c,.slice ma mn mc] 27)).alloc (.cells #[.int .i64 op',.string nm',.int .i64 N',.int .i64 ty'.kind,.string ty'.name,.slice a' n' c',.slice ma' mn' mc'] 27)):=(kR.alloc _).alloc _
 have HT:=Ld (fun W (kW:Kept (fun _=>False) w W)=>rsameTy_any hty ty' W ok ok' _ _ (h1.frame (Same.of_kept kW (fun k h e=>e))) (h3.frame (Same.of_kept kW (fun k h e=>e))))
 have HS:=Ld (fun W (kW:Kept (fun _=>False) w W)=>rsames_any IH hn (h2.frame (Same.of_kept kW (fun k h e=>e))) (h4.frame (Same.of_kept kW (fun k h e=>e))))
 unfold tyVal at HT
 have HD:=Ld (show tmEq (.mk op nm N ty l) (.mk op' nm' N' ty' l')=(decide (op=op')&&decide (nm=nm')&&decide (N=N')&&tyEq ty ty'&&tmsEq l l') from rfl)
 clear h1 h2 h3 h4 IH
 generalize tmEq (.mk op nm N ty l) (.mk op' nm' N' ty' l')=rr at *
 by_cases e1:op=op'
 case neg=>
  have t1:(op==op')=false:=by simpa using e1
  have HR:Hid (rr=false):=Ld (by rw[HD.out];simp[e1])
  clear e1
  go_enter Tryz.func20,Tryz.ntmps20
  go_wp2_with fail
  go_ret
  exact⟨by rw[HR.out];rfl,K1⟩
 subst e1
 cases e2:(nm.toList==nm'.toList)
 case false=>
  have HR:Hid (rr=false):=Ld (by rw[HD.out,← nm_eq,e2];simp)
  go_enter Tryz.func20,Tryz.ntmps20
  go_wp2_with fail
  go_ret
  exact⟨by rw[HR.out];rfl,K1⟩
 by_cases e3:N=N'
 case neg=>
  have t1:(N==N')=false:=by simpa using e3
  have HR:Hid (rr=false):=Ld (by rw[HD.out];simp[e3])
  clear e3
  go_enter Tryz.func20,Tryz.ntmps20
  go_wp2_with fail
  go_ret
  exact⟨by rw[HR.out];rfl,K1⟩
 subst e3
 have HD2:Hid (rr=(tyEq ty ty'&&tmsEq l l')):=Ld (by rw[HD.out,← nm_eq,e2];simp)
 clear HD
 go_enter Tryz.func20,Tryz.ntmps20
 go_wp2_with fail
 generalize ((w.alloc (.cells #[.int .i64 op,.string nm,.int .i64 N,.int .i64 ty.kind,.string ty.name,.slice a n c,.slice ma mn mc] 27)).alloc (.cells #[.int .i64 op,.string nm',.int .i64 N,.int .i64 ty'.kind,.string ty'.name,.slice a' n' c',.slice ma' mn' mc'] 27))=w1 at *
 cases ht:tyEq ty ty'
 ·have HR:Hid (rr=false):=Ld (by rw[HD2.out,ht];rfl)
  refine (HT.out _ K1).mono ?_
  rintro e w2 ⟨rfl,k2⟩
  go_wp2_with fail
  go_ret
  exact⟨by rw[HR.out];rfl,K1.trans k2⟩
 ·have HR:Hid (rr=tmsEq l l'):=Ld (by rw[HD2.out,ht];rfl)
  refine (HT.out _ K1).mono ?_
  rintro e w2 ⟨rfl,k2⟩
  have gA2:∀ i,w2.cell? ⟨w.heap.size,i,none⟩=[Value.int .i64 op,.string nm,.int .i64 N,.int .i64 ty.kind,.string ty.name,.slice a n c,.slice ma mn mc][i]?:=(bA.kept k2 (fun h=>h)).cell
  have gB2:∀ i,w2.cell? ⟨w.heap.size+1,i,none⟩=[Value.int .i64 op,.string nm',.int .i64 N,.int .i64 ty'.kind,.string ty'.name,.slice a' n' c',.slice ma' mn' mc'][i]?:=(bB.kept k2 (fun h=>h)).cell
  go_wp2_with fail
  refine (HS.out _ (K1.trans k2)).mono ?_
  rintro e w3 ⟨rfl,k3⟩
  go_wp2_with fail
  go_ret
  exact⟨by rw[HR.out];rfl,(K1.trans k2).trans k3⟩
theorem rsameTm_any {t:Tm} (hb:BdTm t):EqmC bz t:=by
 induction hb with
 | mk hn ht hl ih=>exact rsameTm_one ht ih hn
theorem pair_valid {a b:Tm} {ok ok':Nat→Prop} {w:World} {tk kk tk' kk':Value} (h1:TyL bz ok w a.ty.kids tk) (h2:TmL bz ok w a.kids kk) (h3:TyL bz ok' w b.ty.kids tk') (h4:TmL bz ok' w b.kids kk') (ha:SmTm big a) (hb:SmTm big b):
  ∀ (W9:World) (g9:Nat),W9=w.alloc (.cells (tmCells a tk kk++tmCells b tk' kk').toArray 27)→g9=w.heap.size→Calls Tryz.prog 56 #[.slice (some ⟨g9,0,none⟩) 2 2] W9 fun e w'=>e=.returned (.bool (validB a&&validB b))∧Kept (fun _=>False) W9 w':=by
 rintro W9 g9 rfl rfl
 have hL:TmL bz (fun _=>True) (w.alloc (.cells (tmCells a tk kk++tmCells b tk' kk').toArray 27)) [a,b] (.slice (some ⟨w.heap.size,0,none⟩) 2 2):=
  TmL.two trivial (Nat.le_refl _) (Blk.new w 27 (tmCells a tk kk++tmCells b tk' kk')) ((h1.frame (Same.alloc _ _)).mono (fun _ _ _=>trivial)) ((h2.frame (Same.alloc _ _)).mono (fun _ _ _=>trivial)) ((h3.frame (Same.alloc _ _)).mono (fun _ _ _=>trivial)) ((h4.frame (Same.alloc _ _)).mono (fun _ _ _=>trivial))
 refine (valids_any (by simp) (fun t ht=>?_) hL).mono fun e w' ⟨h,k⟩=>⟨?_,k⟩
 ·rcases List.mem_cons.1 ht with rfl | ht
  ·exact ha
  ·rw[List.mem_singleton.1 ht];exact hb
 ·rw[h];simp
theorem TmL.cap {ok:Nat→Prop} {w:World} {l:List Tm} {a:Option Addr} {n c:Nat} (h:TmL bz ok w l (.slice a n c)):l.length≤c:=by
 generalize hv:Value.slice a n c=v at h
 cases h with
 | nil he=>exact Nat.zero_le _
 | mk K M hne hb hc hcell hk hm hs2=>cases hv;exact hc
def TmE (bz:Nat) (r:Tm×Int) (w:World) (e:Ending) (w':World):Prop:=∃ tk kk,e=.returned (.tuple #[tmVal r.1 tk kk,.int .i64 r.2])∧TyL bz (fun k=>w.heap.size≤k) w' r.1.ty.kids tk∧TmL bz (fun k=>w.heap.size≤k) w' r.1.kids kk∧Kept (fun _=>False) w w'
structure JI (bz:Nat) (w:World) (R O:Nat) (o:Tm) (wr:World) (tk kk:Value):Prop where
 kp:Kept (fun _=>False) w wr
 r:Blk wr R 27 z27
 ob:Blk wr O 27 (tmCells o tk kk)
 ty:TyL bz (fun q=>R+1≤q∧q≠O) wr o.ty.kids tk
 tm:TmL bz (fun q=>R+1≤q∧q≠O) wr o.kids kk
theorem JI.step {w wr w4:World} {R O:Nat} {o t:Tm} {op:Int} {tk kk v u:Value} (h:JI bz w R O o wr tk kk) (hR0:w.heap.size≤R) (hO:R+1≤O) (k4:Kept (fun _=>False) wr w4) (hv:TyL bz (fun q=>wr.heap.size≤q) w4 t.ty.kids v) (hu:TmL bz (fun q=>wr.heap.size≤q) w4 t.kids u):
  JI bz w R O (mkJ op o t) ((((((((w4.setCell ⟨O,0,none⟩ (.int .i64 op)).setCell ⟨O,1,none⟩ (.string ⟨#[]⟩)).setCell ⟨O,2,none⟩ (.int .i64 0)).setCell ⟨O,3,none⟩ (.int .i64 0)).setCell ⟨O,4,none⟩ (.string ⟨#[]⟩)).setCell ⟨O,5,none⟩ (.slice none 0 0)).setCell ⟨O,6,none⟩ (.slice (some ⟨w4.heap.size,0,none⟩) 2 2)).alloc (.cells (tmCells o tk kk++tmCells t v u).toArray 27)) (.slice none 0 0) (.slice (some ⟨w4.heap.size,0,none⟩) 2 2):=by
 have lO:=h.ob.lt
 have z4:=k4.size
 have kw:=h.kp.size
 have hB:w4.heap.size≠O:=by omega
 have hs7:Same (fun q=>R+1≤q∧q≠O) w4 (((((((w4.setCell ⟨O,0,none⟩ (.int .i64 op)).setCell ⟨O,1,none⟩ (.string ⟨#[]⟩)).setCell ⟨O,2,none⟩ (.int .i64 0)).setCell ⟨O,3,none⟩ (.int .i64 0)).setCell ⟨O,4,none⟩ (.string ⟨#[]⟩)).setCell ⟨O,5,none⟩ (.slice none 0 0)).setCell ⟨O,6,none⟩ (.slice (some ⟨w4.heap.size,0,none⟩) 2 2)):=set7 (fun q hq=>hq.2)
 have hn:R≠O:=by omega
 have hR:=h.r.kept k4 (fun h=>h)
 refine⟨(k7w (h.kp.trans k4) (Or.inr (by omega))).alloc _,(((((((hR.set_other _ _ hn).set_other _ _ hn).set_other _ _ hn).set_other _ _ hn).set_other _ _ hn).set_other _ _ hn).set_other _ _ hn).alloc _,(r7 (h.ob.kept k4 (fun h=>h)) rfl).alloc _,.nil (Or.inl rfl),?_⟩
 have bB:=Blk.new' (w:=((((((w4.setCell ⟨O,0,none⟩ (.int .i64 op)).setCell ⟨O,1,none⟩ (.string ⟨#[]⟩)).setCell ⟨O,2,none⟩ (.int .i64 0)).setCell ⟨O,3,none⟩ (.int .i64 0)).setCell ⟨O,4,none⟩ (.string ⟨#[]⟩)).setCell ⟨O,5,none⟩ (.slice none 0 0)).setCell ⟨O,6,none⟩ (.slice (some ⟨w4.heap.size,0,none⟩) 2 2)) (g:=w4.heap.size) 27 (tmCells o tk kk++tmCells t v u) (by simp)
 exact TmL.two (t:=o) (u:=t) ⟨by omega,hB⟩ (Nat.le_refl _) bB (((h.ty.frame (sK k4)).frame hs7).frame (Same.alloc _ _)) (((h.tm.frame (sK k4)).frame hs7).frame (Same.alloc _ _))
  (((hv.mono (fun q _ hq=>⟨by omega,by omega⟩)).frame hs7).frame (Same.alloc _ _)) (((hu.mono (fun q _ hq=>⟨by omega,by omega⟩)).frame hs7).frame (Same.alloc _ _))
theorem JI.kept {w wr w4:World} {R O:Nat} {o:Tm} {tk kk:Value} (h:JI bz w R O o wr tk kk) (k:Kept (fun _=>False) wr w4):JI bz w R O o w4 tk kk:=
 ⟨h.kp.trans k,h.r.kept k (fun h=>h),h.ob.kept k (fun h=>h),h.ty.frame (sK k),h.tm.frame (sK k)⟩
theorem drop_step {α:Type} {r:List α} {k:Nat} (h:k<r.length):r.drop k=r[k]::r.drop (k+1):=List.drop_eq_getElem_cons h
theorem loop_step {op:Int} {o t:Tm} {l:List Tm} (h:¬ (2000<tmN (mkJ op o t)∨64<tmD (mkJ op o t))):loopJ op o (t::l)=loopJ op (mkJ op o t) l:=by
 show (if 2000<tmN (mkJ op o t)∨64<tmD (mkJ op o t) then (tm0,5) else loopJ op (mkJ op o t) l)=_
 rw[if_neg h]
theorem loop_stop {op:Int} {o t:Tm} {l:List Tm} (h:2000<tmN (mkJ op o t)∨64<tmD (mkJ op o t)):loopJ op o (t::l)=(tm0,5):=by
 show (if 2000<tmN (mkJ op o t)∨64<tmD (mkJ op o t) then (tm0,5) else loopJ op (mkJ op o t) l)=_
 rw[if_pos h]
theorem join_any {ok:Nat→Prop} {l:List Tm} {a:Option Addr} {n c:Nat} {w:World} (op em:Int) (hn1:l.length≤1000) (hs:∀ t,t∈l→SmTm big t) (hk:TmL bz ok w l (.slice a n c)):
  Calls Tryz.prog 73 #[.slice a n c,.int .i64 op,.int .i64 em] w (TmE bz (joinS op em l) w):=by
 have hn:n=l.length:=hk.len
 subst hn
 have bR:Blk (w.alloc Z7) w.heap.size 27 z27:=Blk.new w 27 z27
 have K0:Kept (fun _=>False) w (w.alloc Z7):=kR.alloc _
 have HV:=Ld (valids_any (w:=w.alloc Z7) (by omega) hs (hk.frame (sK K0)))
 have HAT:=Ld (fun W (k:Kept (fun _=>False) w W)=>(hk.frame (sK k)).at)
 have HLN:=Ld hn1
 have HCAP:=Ld hk.cap
 clear hk hs hn1
 go_enter Tryz.func73,Tryz.ntmps73
 go_wp2_with fail
 generalize w.alloc Z7=w1 at *
 refine HV.out.mono ?_
 rintro e w2 ⟨rfl,k2⟩
 have R2:=bR.kept k2 (fun h=>h)
 have K2:=K0.trans k2
 have g2:∀ i,w2.cell? ⟨w.heap.size,i,none⟩=[Value.int .i64 0,.string ⟨#[]⟩,.int .i64 0,.int .i64 0,.string ⟨#[]⟩,.slice none 0 0,.slice none 0 0][i]?:=R2.cell
 have f2:∀ i,w2.frozen? ⟨w.heap.size,i,none⟩=false:=R2.frozen
 cases hv:l.all validB
 ·have hres:Hid (joinS op em l=(tm0,1)):=Ld (by unfold joinS;rw[hv];rfl)
  go_wp2_with fail
  exact bodyPost_ret (results_ct Tryz.results73 rfl (load_tm (t:=tm0) (r7 R2 rfl))) rfl ⟨_,_,by rw[hres.out];rfl,by rw[hres.out];exact .nil (Or.inl rfl),by rw[hres.out];exact .nil (Or.inl rfl),k7w K2 (Or.inr (Nat.le_refl _))⟩
 ·cases l with
  | nil=>
   have hres:Hid (joinS op em []=(.mk em nil0 0 ty0 [],0)):=Ld rfl
   go_wp2_with fail
   exact bodyPost_ret (results_ct Tryz.results73 rfl (load_tm (t:=.mk em nil0 0 ty0 []) (r7 R2 rfl))) rfl ⟨_,_,by rw[hres.out];rfl,by rw[hres.out];exact .nil (Or.inl rfl),by rw[hres.out];exact .nil (Or.inl rfl),k7w K2 (Or.inr (Nat.le_refl _))⟩
  | cons t0 r=>
   have hres:Hid (joinS op em (t0::r)=loopJ op t0 r):=Ld (by unfold joinS;rw[hv];rfl)
   have hv0:∀ t,t∈t0::r→validB t=true:=fun t ht=>(List.all_eq_true.1 hv) t ht
   have HVA:=Ld hv0
   clear hv hv0
   obtain⟨g,off,ta,tn,tc,ma,mn,mc,rfl,_,lg,⟨c0,c1,c2,c3,c4,c5,c6⟩,hty,htm⟩:=HAT.out w2 K2 0 (by simp)
   rw[show off+0*7=off by omega] at c0 c1 c2 c3 c4 c5 c6
   have HC:=Ld (clone_any (bz:=bz) (valid_bd (HVA.out t0 (by simp))) w2 _ _ _ hty htm)
   clear hty htm
   go_wp2_with fail
   refine HC.out.mono ?_
   rintro e w3 ⟨tk,kk,rfl,h1,h2,k3⟩
   obtain⟨ua,un,uc,rfl⟩:=h1.slice
   obtain⟨va,vn,vc,rfl⟩:=h2.slice
   unfold tmVal
   have HC1:=Ld h1
   have HC2:=Ld h2
   have hD0:=(valid_iff t0).1 (HVA.out t0 (by simp))
   have bO:Blk (w3.alloc (.cells #[.int .i64 t0.op,.string t0.name,.int .i64 t0.n,.int .i64 t0.ty.kind,.string t0.ty.name,.slice ua un uc,.slice va vn vc] 27)) w3.heap.size 27 (tmCells t0 (.slice ua un uc) (.slice va vn vc)):=Blk.new w3 27 _
   have z3:=k3.size
   have z2:=k2.size
   have zR:=R2.lt
   have HJ0:Hid (JI bz w w.heap.size w3.heap.size t0 (w3.alloc (.cells #[.int .i64 t0.op,.string t0.name,.int .i64 t0.n,.int .i64 t0.ty.kind,.string t0.ty.name,.slice ua un uc,.slice va vn vc] 27)) (.slice ua un uc) (.slice va vn vc)):=Ld
    ⟨(K2.trans k3).alloc _,(R2.kept k3 (fun h=>h)).alloc _,bO,(h1.mono (fun q hq h=>⟨by omega,by omega⟩)).frame (Same.alloc _ _),(h2.mono (fun q hq h=>⟨by omega,by omega⟩)).frame (Same.alloc _ _)⟩
   have hO1:w.heap.size+1≤w3.heap.size:=by omega
   clear h1 h2 bO z3 z2 zR k3 HC HC1 HC2 g2 f2 R2 k2
   by_cases hc1:c=1
   ·subst hc1
    have hr0:r=[]:=by
     have:=HCAP.out
     simp at this
     exact this
    subst hr0
    have hfin:Hid (joinS op em [t0]=(t0,0)):=Ld (by rw[hres.out];rfl)
    go_wp2_with fail
    generalize w3.alloc (.cells #[.int .i64 t0.op,.string t0.name,.int .i64 t0.n,.int .i64 t0.ty.kind,.string t0.ty.name,.slice ua un uc,.slice va vn vc] 27)=wO at *
    have gO:∀ i,wO.cell? ⟨w3.heap.size,i,none⟩=[Value.int .i64 t0.op,.string t0.name,.int .i64 t0.n,.int .i64 t0.ty.kind,.string t0.ty.name,.slice ua un uc,.slice va vn vc][i]?:=HJ0.out.ob.cell
    have gR:∀ i,wO.cell? ⟨w.heap.size,i,none⟩=[Value.int .i64 0,.string ⟨#[]⟩,.int .i64 0,.int .i64 0,.string ⟨#[]⟩,.slice none 0 0,.slice none 0 0][i]?:=HJ0.out.r.cell
    have fR:∀ i,wO.frozen? ⟨w.heap.size,i,none⟩=false:=HJ0.out.r.frozen
    go_loop [30] (fun i=>i=.int .i64 0) (fun i=>0)
    case atStart=>rfl
    case round=>
     subst hrel
     go_wp2_with fail
     exact bodyPost_ret (results_ct Tryz.results73 rfl (load_tm (t:=t0) (r7 HJ0.out.r rfl))) rfl ⟨_,_,by rw[hfin.out];rfl,by rw[hfin.out];exact (HJ0.out.ty.frame (set7 (fun q hq=>by omega))).mono (fun q _ hq=>by omega),by rw[hfin.out];exact (HJ0.out.tm.frame (set7 (fun q hq=>by omega))).mono (fun q _ hq=>by omega),k7w HJ0.out.kp (Or.inr (Nat.le_refl _))⟩
   ·go_wp2_with fail
    generalize hwO:w3.alloc (.cells #[.int .i64 t0.op,.string t0.name,.int .i64 t0.n,.int .i64 t0.ty.kind,.string t0.ty.name,.slice ua un uc,.slice va vn vc] 27)=wO at *
    go_loopw [30] (fun i wr=>∃ (k:Nat) (o:Tm) (tk kk:Value),k≤r.length∧i=.int .i64 k∧JI bz w w.heap.size w3.heap.size o wr tk kk∧Hid (loopJ op t0 r=loopJ op o (r.drop k))∧Hid (tmN o≤2000∧tmD o≤64)) (fun i _=>r.length-(intOf i).toNat)
    case atStart=>exact⟨0,t0,_,_,Nat.zero_le _,rfl,HJ0.out,Ld rfl,Ld hD0.2⟩
    case round=>
     obtain⟨k,o,tk,kk,hkl,rfl,hJ,hL,hSZ⟩:=hrel
     obtain⟨xa,xn,xc,rfl⟩:=hJ.ty.slice
     obtain⟨ya,yn,yc,rfl⟩:=hJ.tm.slice
     have gO:∀ i,wr.cell? ⟨w3.heap.size,i,none⟩=[Value.int .i64 o.op,.string o.name,.int .i64 o.n,.int .i64 o.ty.kind,.string o.ty.name,.slice xa xn xc,.slice ya yn yc][i]?:=hJ.ob.cell
     have gR:∀ i,wr.cell? ⟨w.heap.size,i,none⟩=[Value.int .i64 0,.string ⟨#[]⟩,.int .i64 0,.int .i64 0,.string ⟨#[]⟩,.slice none 0 0,.slice none 0 0][i]?:=hJ.r.cell
     have fR:∀ i,wr.frozen? ⟨w.heap.size,i,none⟩=false:=hJ.r.frozen
     have lO:w3.heap.size<wr.heap.size:=hJ.ob.lt
     have lR:w.heap.size<wr.heap.size:=hJ.r.lt
     have HJ:=Ld hJ
     by_cases hlt:k<r.length
     ·obtain⟨g',off',pa,pn,pc,qa,qn,qc,e1,_,lg',⟨c0,c1,c2,c3,c4,c5,c6⟩,hty,htm⟩:=HAT.out wr hJ.kp (k+1) (by simp;omega)
      cases e1
      have e2:off+(k+1)*7=off+7+k*7:=by omega
      rw[e2] at c0 c1 c2 c3 c4 c5 c6
      have e3:(t0::r)[k+1]'(by simp;omega)=r[k]:=rfl
      rw[e3] at c0 c1 c2 c3 c4 hty htm
      clear e2 e3 hJ
      have i1:(k:Int)<(r.length:Int):=by omega
      have i2:(k:Int)<1000:=by have:=HLN.out;simp at this;omega
      have HCL:=Ld (clone_any (bz:=bz) (valid_bd (HVA.out r[k] (by simp))))
      go_upto_region 10 with (fail)
      have bT0:Blk ((wr.alloc (.cells #[.int .i64 r[k].op,.string r[k].name,.int .i64 r[k].n,.int .i64 r[k].ty.kind,.string r[k].ty.name,.slice pa pn pc,.slice qa qn qc] 27)).alloc (.cells #[.int .i64 o.op,.string o.name,.int .i64 o.n,.int .i64 o.ty.kind,.string o.ty.name,.slice xa xn xc,.slice ya yn yc] 27)) wr.heap.size 27 [.int .i64 r[k].op,.string r[k].name,.int .i64 r[k].n,.int .i64 r[k].ty.kind,.string r[k].ty.name,.slice pa pn pc,.slice qa qn qc]:=(Blk.new wr 27 _).alloc _
      have bL0:Blk ((wr.alloc (.cells #[.int .i64 r[k].op,.string r[k].name,.int .i64 r[k].n,.int .i64 r[k].ty.kind,.string r[k].ty.name,.slice pa pn pc,.slice qa qn qc] 27)).alloc (.cells #[.int .i64 o.op,.string o.name,.int .i64 o.n,.int .i64 o.ty.kind,.string o.ty.name,.slice xa xn xc,.slice ya yn yc] 27)) (wr.heap.size+1) 27 [.int .i64 o.op,.string o.name,.int .i64 o.n,.int .i64 o.ty.kind,.string o.ty.name,.slice xa xn xc,.slice ya yn yc]:=Blk.new' 27 _ (by simp)
      refine wp_gen (F:=fun W3=>Kept (fun _=>False) wr W3∧Blk W3 wr.heap.size 27 [.int .i64 r[k].op,.string r[k].name,.int .i64 r[k].n,.int .i64 r[k].ty.kind,.string r[k].ty.name,.slice pa pn pc,.slice qa qn qc]∧Blk W3 (wr.heap.size+1) 27 [.int .i64 o.op,.string o.name,.int .i64 o.n,.int .i64 o.ty.kind,.string o.ty.name,.slice xa xn xc,.slice ya yn yc]) ⟨(kR.alloc _).alloc _,bT0,bL0⟩ ?_
      rintro W3 ⟨kW3,bT,bL⟩
      clear bT0 bL0
      have gT3:∀ i,W3.cell? ⟨wr.heap.size,i,none⟩=[Value.int .i64 r[k].op,.string r[k].name,.int .i64 r[k].n,.int .i64 r[k].ty.kind,.string r[k].ty.name,.slice pa pn pc,.slice qa qn qc][i]?:=bT.cell
      have gL3:∀ i,W3.cell? ⟨wr.heap.size+1,i,none⟩=[Value.int .i64 o.op,.string o.name,.int .i64 o.n,.int .i64 o.ty.kind,.string o.ty.name,.slice xa xn xc,.slice ya yn yc][i]?:=bL.cell
      have HC3:Hid (Calls Tryz.prog 70 #[.agg #[.int .i64 r[k].op,.string r[k].name,.int .i64 r[k].n,.int .i64 r[k].ty.kind,.string r[k].ty.name,.slice pa pn pc,.slice qa qn qc]] W3.drew fun e w'=>∃ tk kk,e=.returned (tmVal r[k] tk kk)∧TyL bz (fun q=>wr.heap.size≤q) w' r[k].ty.kids tk∧TmL bz (fun q=>wr.heap.size≤q) w' r[k].kids kk∧Kept (fun _=>False) W3 w'):=Ld
       ((HCL.out W3.drew ok _ _ ((hty.frame (sK kW3)).frame (Same.drew _)) ((htm.frame (sK kW3)).frame (Same.drew _))).mono fun e w' ⟨a1,a2,h1,h2,h3,h4⟩=>⟨a1,a2,h1,h2.mono (fun q _ hq=>Nat.le_trans kW3.size hq),h3.mono (fun q _ hq=>Nat.le_trans kW3.size hq),(kR.drew).trans h4⟩)
      have BT:=Ld bT
      have BL:=Ld bL
      have KW:=Ld kW3
      clear bT bL hty htm HCL c0 c1 c2 c3 c4 c5 c6 gO gR fR kW3
      go_region_law (first | (go_simp;go_at_call 70;refine HC3.out.mono ?_;rintro e w4 ⟨tk4,kk4,rfl,hv,hu,k4⟩;obtain⟨xa4,xn4,xc4,rfl⟩:=hv.slice;obtain⟨ya4,yn4,yc4,rfl⟩:=hu.slice;unfold tmVal;have gT4:∀ i,w4.cell? ⟨wr.heap.size,i,none⟩=[Value.int .i64 r[k].op,.string r[k].name,.int .i64 r[k].n,.int .i64 r[k].ty.kind,.string r[k].ty.name,.slice pa pn pc,.slice qa qn qc][i]?:=(BT.out.kept k4 (fun h=>h)).cell;have gL4:∀ i,w4.cell? ⟨wr.heap.size+1,i,none⟩=[Value.int .i64 o.op,.string o.name,.int .i64 o.n,.int .i64 o.ty.kind,.string o.ty.name,.slice xa xn xc,.slice ya yn yc][i]?:=(BL.out.kept k4 (fun h=>h)).cell;have bO4:=(HJ.out.ob.kept KW.out (fun h=>h)).kept k4 (fun h=>h);have gO4:∀ i,w4.cell? ⟨w3.heap.size,i,none⟩=[Value.int .i64 o.op,.string o.name,.int .i64 o.n,.int .i64 o.ty.kind,.string o.ty.name,.slice xa xn xc,.slice ya yn yc][i]?:=bO4.cell;have fO4:∀ i,w4.frozen? ⟨w3.heap.size,i,none⟩=false:=bO4.frozen;have lO4:w3.heap.size<w4.heap.size:=bO4.lt))
      all_goals
       have HX:=Ld (JI.step (op:=op) HJ.out (Nat.le_refl _) hO1 (KW.out.trans k4) hv hu)
       clear gT4 gL4 gO4 fO4 lO4 bO4 hv hu HC3 BT BL gT3 gL3 lg'
       unfold tmCells at HX
       simp only[List.cons_append,List.nil_append] at HX
       generalize (((((((w4.setCell ⟨w3.heap.size,0,none⟩ (.int .i64 op)).setCell ⟨w3.heap.size,1,none⟩ (.string ⟨#[]⟩)).setCell ⟨w3.heap.size,2,none⟩ (.int .i64 0)).setCell ⟨w3.heap.size,3,none⟩ (.int .i64 0)).setCell ⟨w3.heap.size,4,none⟩ (.string ⟨#[]⟩)).setCell ⟨w3.heap.size,5,none⟩ (.slice none 0 0)).setCell ⟨w3.heap.size,6,none⟩ (.slice (some ⟨w4.heap.size,0,none⟩) 2 2)).alloc (.cells #[.int .i64 o.op,.string o.name,.int .i64 o.n,.int .i64 o.ty.kind,.string o.ty.name,.slice xa xn xc,.slice ya yn yc,.int .i64 r[k].op,.string r[k].name,.int .i64 r[k].n,.int .i64 r[k].ty.kind,.string r[k].ty.name,.slice xa4 xn4 xc4,.slice ya4 yn4 yc4] 27)=w5 at *
       have hN:Hid (tmN (mkJ op o r[k])≤100000):=Ld (by
        have h1:=(valid_iff _).1 (HVA.out r[k] (by simp))
        have h2:=hSZ.out
        rw[mkJ_N];omega)
       have HSI:=Ld (size_any (bz:=bz) (mkJ op o r[k]) w5 _ _ _ hN.out HX.out.ty HX.out.tm)
       have gO5:∀ i,w5.cell? ⟨w3.heap.size,i,none⟩=[Value.int .i64 op,.string ⟨#[]⟩,.int .i64 0,.int .i64 0,.string ⟨#[]⟩,.slice none 0 0,.slice (some ⟨w4.heap.size,0,none⟩) 2 2][i]?:=HX.out.ob.cell
       change Hid (Calls Tryz.prog 99 #[.agg #[.int .i64 op,.string ⟨#[]⟩,.int .i64 0,.int .i64 0,.string ⟨#[]⟩,.slice none 0 0,.slice (some ⟨w4.heap.size,0,none⟩) 2 2]] w5 _) at HSI
       have hNp:(tmN (mkJ op o r[k]):Int)<200000:=by have:=hN.out;omega
       have hDp:(tmD (mkJ op o r[k]):Int)<200000:=by have:=hN.out;have:=tmD_le (mkJ op o r[k]);omega
       go_wp2_with fail
       refine HSI.out.mono ?_
       rintro e w6 ⟨rfl,k6⟩
       have HX6:Hid (JI bz w w.heap.size w3.heap.size (mkJ op o r[k]) w6 (.slice none 0 0) (.slice (some ⟨w4.heap.size,0,none⟩) 2 2)):=Ld
        ⟨HX.out.kp.trans k6,HX.out.r.kept k6 (fun h=>h),HX.out.ob.kept k6 (fun h=>h),HX.out.ty.frame (sK k6),HX.out.tm.frame (sK k6)⟩
       have gR6:∀ i,w6.cell? ⟨w.heap.size,i,none⟩=[Value.int .i64 0,.string ⟨#[]⟩,.int .i64 0,.int .i64 0,.string ⟨#[]⟩,.slice none 0 0,.slice none 0 0][i]?:=HX6.out.r.cell
       have fR6:∀ i,w6.frozen? ⟨w.heap.size,i,none⟩=false:=HX6.out.r.frozen
       by_cases hb1:2000<tmN (mkJ op o r[k])
       ·have t1:decide (2000<(tmN (mkJ op o r[k]):Int))=true:=by simp;omega
        have hst:=Ld (loop_stop (op:=op) (o:=o) (t:=r[k]) (l:=r.drop (k+1)) (Or.inl hb1))
        clear hb1
        go_wp2_with fail
        exact bodyPost_ret (results_ct Tryz.results73 rfl (load_tm (t:=tm0) (r7 HX6.out.r rfl))) rfl ⟨_,_,by rw[hres.out,hL.out,drop_step hlt,hst.out];rfl,by rw[hres.out,hL.out,drop_step hlt,hst.out];exact .nil (Or.inl rfl),by rw[hres.out,hL.out,drop_step hlt,hst.out];exact .nil (Or.inl rfl),k7w HX6.out.kp (Or.inr (Nat.le_refl _))⟩
       ·have t1:decide (2000<(tmN (mkJ op o r[k]):Int))=false:=by simp;omega
        by_cases hb2:64<tmD (mkJ op o r[k])
        ·have t2:decide (64<(tmD (mkJ op o r[k]):Int))=true:=by simp;omega
         have hst:=Ld (loop_stop (op:=op) (o:=o) (t:=r[k]) (l:=r.drop (k+1)) (Or.inr hb2))
         clear hb1 hb2
         go_wp2_with fail
         exact bodyPost_ret (results_ct Tryz.results73 rfl (load_tm (t:=tm0) (r7 HX6.out.r rfl))) rfl ⟨_,_,by rw[hres.out,hL.out,drop_step hlt,hst.out];rfl,by rw[hres.out,hL.out,drop_step hlt,hst.out];exact .nil (Or.inl rfl),by rw[hres.out,hL.out,drop_step hlt,hst.out];exact .nil (Or.inl rfl),k7w HX6.out.kp (Or.inr (Nat.le_refl _))⟩
        ·have t2:decide (64<(tmD (mkJ op o r[k]):Int))=false:=by simp;omega
         have hst:=Ld (loop_step (op:=op) (o:=o) (t:=r[k]) (l:=r.drop (k+1)) (by omega))
         have hsz:Hid (tmN (mkJ op o r[k])≤2000∧tmD (mkJ op o r[k])≤64):=Ld (by omega)
         clear hb1 hb2
         go_wp2_with fail
         go_roundw
         case rel=>exact⟨k+1,_,_,_,by omega,by go_num,HX6.out,Ld (by rw[hL.out,drop_step hlt,hst.out]),hsz⟩
         case measure=>simp[intOf];omega
     ·have hkk:k=r.length:=by omega
      subst hkk
      have hfin:Hid (joinS op em (t0::r)=(o,0)):=Ld (by rw[hres.out,hL.out,List.drop_length];rfl)
      have hty:=hJ.ty
      have htm:=hJ.tm
      clear hJ
      go_wp2_with fail
      exact bodyPost_ret (results_ct Tryz.results73 rfl (load_tm (t:=o) (r7 HJ.out.r rfl))) rfl ⟨_,_,by rw[hfin.out];rfl,by rw[hfin.out];exact (hty.frame (set7 (fun q hq=>by omega))).mono (fun q _ hq=>by omega),by rw[hfin.out];exact (htm.frame (set7 (fun q hq=>by omega))).mono (fun q _ hq=>by omega),k7w HJ.out.kp (Or.inr (Nat.le_refl _))⟩
theorem conj_any {ok:Nat→Prop} {l:List Tm} {a:Option Addr} {n c:Nat} {w:World} (hn1:l.length≤1000) (hs:∀ t,t∈l→SmTm big t) (hk:TmL bz ok w l (.slice a n c)):
  Calls Tryz.prog 30 #[.slice a n c] w (TmE bz (joinS 4 1 l) w):=by
 have HC:=Ld (join_any (w:=w.alloc Z7) 4 1 hn1 hs (hk.frame (Same.alloc _ _)))
 have bR:Blk (w.alloc Z7) w.heap.size 27 z27:=Blk.new w 27 z27
 have K0:Kept (fun _=>False) w (w.alloc Z7):=kR.alloc _
 clear hk hs
 unfold TmE at HC ⊢
 generalize joinS 4 1 l=rr at *
 go_enter Tryz.func30,Tryz.ntmps30
 go_wp2_with fail
 refine HC.out.mono ?_
 rintro e w2 ⟨tk,kk,rfl,h1,h2,k2⟩
 obtain⟨ua,un,uc,rfl⟩:=h1.slice
 obtain⟨va,vn,vc,rfl⟩:=h2.slice
 have b2:=bR.kept k2 (fun h=>h)
 have z1:(w.alloc Z7).heap.size=w.heap.size+1:=by simp
 have H1:=Ld (h1.mono (ok':=fun q=>w.heap.size+1≤q) (fun q _ hq=>by omega))
 have H2:=Ld (h2.mono (ok':=fun q=>w.heap.size+1≤q) (fun q _ hq=>by omega))
 have KK:=Ld (K0.trans k2)
 have B2:=Ld b2
 have g2:∀ i,w2.cell? ⟨w.heap.size,i,none⟩=[Value.int .i64 0,.string ⟨#[]⟩,.int .i64 0,.int .i64 0,.string ⟨#[]⟩,.slice none 0 0,.slice none 0 0][i]?:=b2.cell
 have f2:∀ i,w2.frozen? ⟨w.heap.size,i,none⟩=false:=b2.frozen
 clear h1 h2 z1 k2 K0 bR b2
 unfold tmVal
 go_wp2_with fail
 exact bodyPost_ret (results_ct Tryz.results30 rfl (load_tm (t:=rr.1) (r7 B2.out rfl))) rfl ⟨_,_,rfl,(H1.out.frame (set7 (fun q hq=>by omega))).mono (fun q _ hq=>by omega),(H2.out.frame (set7 (fun q hq=>by omega))).mono (fun q _ hq=>by omega),k7w KK.out (Or.inr (Nat.le_refl _))⟩
theorem at_any {t:Tm} {l:List Int} {ok ok':Nat→Prop} {w:World} {tk kk vl:Value} (h1:TyL bz ok w t.ty.kids tk) (h2:TmL bz ok w t.kids kk) (hs:SmTm big t) (hl:InL ok' w l vl) (hb:l.length≤9223372036854775807):
  Calls Tryz.prog 28 #[tmVal t tk kk,vl] w (TmE bz (atPS t l) w):=by
 obtain⟨a,c,rfl⟩:=hl.slice
 obtain⟨p,n,cp,rfl⟩:=h1.slice
 obtain⟨ma,mn,mc,rfl⟩:=h2.slice
 have B0:Hid (Blk ((w.alloc (.cells #[.int .i64 t.op,.string t.name,.int .i64 t.n,.int .i64 t.ty.kind,.string t.ty.name,.slice p n cp,.slice ma mn mc] 27)).alloc Z7) w.heap.size 27 (tmCells t (.slice p n cp) (.slice ma mn mc))∧Blk ((w.alloc (.cells #[.int .i64 t.op,.string t.name,.int .i64 t.n,.int .i64 t.ty.kind,.string t.ty.name,.slice p n cp,.slice ma mn mc] 27)).alloc Z7) (w.heap.size+1) 27 z27∧Kept (fun _=>False) w ((w.alloc (.cells #[.int .i64 t.op,.string t.name,.int .i64 t.n,.int .i64 t.ty.kind,.string t.ty.name,.slice p n cp,.slice ma mn mc] 27)).alloc Z7)):=Ld
  ⟨(Blk.new w 27 (tmCells t (.slice p n cp) (.slice ma mn mc))).alloc _,Blk.new' 27 _ (by simp),(kR.alloc _).alloc _⟩
 have HV:=Ld (fun W (k:Kept (fun _=>False) w W)=>valid_any (h1.frame (sK k)) (h2.frame (sK k)) hs)
 have HA:=Ld (fun W (k:Kept (fun _=>False) w W)=>at_noop57 (h1.frame (sK k)) (h2.frame (sK k)) (hl.frame (sK k)) hb)
 clear h1 h2 hs hl hb
 unfold AtP tmVal at HA
 unfold tmVal
 have HR:Hid (atPS t l=if validB t then (if (atP t l).isSome then ((atP t l).getD tm0,0) else (tm0,12)) else (tm0,1)):=Ld (by unfold atPS;cases atP t l <;> rfl)
 have HSU:Hid (validB t=true→(atP t l).isSome=true→BdTm ((atP t l).getD tm0)):=Ld (fun hv h=>by
  cases ha:atP t l with
  | none=>rw[ha] at h;cases h
  | some u=>exact valid_bd (at_valid l t u hv ha))
 generalize (atP t l).getD tm0=r at *
 generalize (atP t l).isSome=b at *
 go_enter Tryz.func28,Tryz.ntmps28
 go_wp2_with fail
 generalize ((w.alloc (.cells #[.int .i64 t.op,.string t.name,.int .i64 t.n,.int .i64 t.ty.kind,.string t.ty.name,.slice p n cp,.slice ma mn mc] 27)).alloc Z7)=w1 at *
 refine (HV.out _ B0.out.2.2).mono ?_
 rintro e w2 ⟨rfl,k2⟩
 have bA:=B0.out.1.kept k2 (fun h=>h)
 have bR:=B0.out.2.1.kept k2 (fun h=>h)
 have KK:=Ld (B0.out.2.2.trans k2)
 clear B0 k2 HV
 have gA:∀ i,w2.cell? ⟨w.heap.size,i,none⟩=[Value.int .i64 t.op,.string t.name,.int .i64 t.n,.int .i64 t.ty.kind,.string t.ty.name,.slice p n cp,.slice ma mn mc][i]?:=bA.cell
 have gR:∀ i,w2.cell? ⟨w.heap.size+1,i,none⟩=[Value.int .i64 0,.string ⟨#[]⟩,.int .i64 0,.int .i64 0,.string ⟨#[]⟩,.slice none 0 0,.slice none 0 0][i]?:=bR.cell
 have fR:∀ i,w2.frozen? ⟨w.heap.size+1,i,none⟩=false:=bR.frozen
 have BR:=Ld bR
 clear bA bR
 cases hv:validB t
 ·have hres:Hid (atPS t l=(tm0,1)):=Ld (by rw[HR.out,hv];rfl)
  clear hv HA
  go_wp2_with fail
  exact bodyPost_ret (results_ct Tryz.results28 rfl (load_tm (t:=tm0) (r7 BR.out rfl))) rfl ⟨_,_,by rw[hres.out];rfl,by rw[hres.out];exact .nil (Or.inl rfl),by rw[hres.out];exact .nil (Or.inl rfl),k7w KK.out (Or.inr (Nat.le_succ _))⟩
 ·have HVT:=Ld hv
  clear hv
  go_wp2_with fail
  clear gA gR fR
  refine (HA.out _ KK.out).mono ?_
  rintro e w3 ⟨tk,kk,rfl,hty,htm,k3⟩
  obtain⟨ua,un,uc,rfl⟩:=hty.slice
  obtain⟨va,vn,vc,rfl⟩:=htm.slice
  have BR3:=Ld (BR.out.kept k3 (fun h=>h))
  have KK3:=Ld (KK.out.trans k3)
  have HTY:=Ld hty
  have HTM:=Ld htm
  have hRw:w.heap.size+1<w3.heap.size:=BR3.out.lt
  clear hty htm k3 KK HA BR
  cases b
  ·have hres:Hid (atPS t l=(tm0,12)):=Ld (by rw[HR.out,HVT.out];rfl)
   clear HTY HTM HSU HR
   go_upto_region 4 with (fail)
   have KK4:=Ld (KK3.out.alloc (.cells #[.int .i64 r.op,.string r.name,.int .i64 r.n,.int .i64 r.ty.kind,.string r.ty.name,.slice ua un uc,.slice va vn vc] 27))
   have BR4:=Ld (BR3.out.alloc (.cells #[.int .i64 r.op,.string r.name,.int .i64 r.n,.int .i64 r.ty.kind,.string r.ty.name,.slice ua un uc,.slice va vn vc] 27))
   generalize w3.alloc (.cells #[.int .i64 r.op,.string r.name,.int .i64 r.n,.int .i64 r.ty.kind,.string r.ty.name,.slice ua un uc,.slice va vn vc] 27)=w4 at *
   have gR:∀ i,w4.cell? ⟨w.heap.size+1,i,none⟩=[Value.int .i64 0,.string ⟨#[]⟩,.int .i64 0,.int .i64 0,.string ⟨#[]⟩,.slice none 0 0,.slice none 0 0][i]?:=BR4.out.cell
   have fR:∀ i,w4.frozen? ⟨w.heap.size+1,i,none⟩=false:=BR4.out.frozen
   go_wp2_with fail
   exact bodyPost_ret (results_ct Tryz.results28 rfl (load_tm (t:=tm0) (r7 BR4.out rfl))) rfl ⟨_,_,by rw[hres.out];rfl,by rw[hres.out];exact .nil (Or.inl rfl),by rw[hres.out];exact .nil (Or.inl rfl),k7w KK4.out (Or.inr (Nat.le_succ _))⟩
  ·have hres:Hid (atPS t l=(r,0)):=Ld (by rw[HR.out,HVT.out];rfl)
   have HC:=Ld (clone_any (bz:=bz) (HSU.out HVT.out rfl))
   clear HSU HR
   go_upto_region 4 with (fail)
   have KK4:=Ld (KK3.out.alloc (.cells #[.int .i64 r.op,.string r.name,.int .i64 r.n,.int .i64 r.ty.kind,.string r.ty.name,.slice ua un uc,.slice va vn vc] 27))
   have BR4:=Ld (BR3.out.alloc (.cells #[.int .i64 r.op,.string r.name,.int .i64 r.n,.int .i64 r.ty.kind,.string r.ty.name,.slice ua un uc,.slice va vn vc] 27))
   have BN4:=Ld (Blk.new w3 27 (tmCells r (.slice ua un uc) (.slice va vn vc)))
   have HC4:=Ld (HC.out (w3.alloc (.cells #[.int .i64 r.op,.string r.name,.int .i64 r.n,.int .i64 r.ty.kind,.string r.ty.name,.slice ua un uc,.slice va vn vc] 27)) _ _ _ (HTY.out.frame (Same.alloc _ _)) (HTM.out.frame (Same.alloc _ _)))
   change Hid (Blk (w3.alloc (.cells #[.int .i64 r.op,.string r.name,.int .i64 r.n,.int .i64 r.ty.kind,.string r.ty.name,.slice ua un uc,.slice va vn vc] 27)) _ _ _) at BN4
   clear HC HTY HTM
   unfold tmVal at HC4
   generalize w3.alloc (.cells #[.int .i64 r.op,.string r.name,.int .i64 r.n,.int .i64 r.ty.kind,.string r.ty.name,.slice ua un uc,.slice va vn vc] 27)=w4 at *
   have gN:∀ i,w4.cell? ⟨w3.heap.size,i,none⟩=[Value.int .i64 r.op,.string r.name,.int .i64 r.n,.int .i64 r.ty.kind,.string r.ty.name,.slice ua un uc,.slice va vn vc][i]?:=BN4.out.cell
   go_wp2_with fail
   clear gN
   refine HC4.out.mono ?_
   rintro e w5 ⟨tk,kk,rfl,hty5,htm5,k5⟩
   obtain⟨pa,pn,pc,rfl⟩:=hty5.slice
   obtain⟨qa,qn,qc,rfl⟩:=htm5.slice
   unfold tmVal
   have BR5:=Ld (BR4.out.kept k5 (fun h=>h))
   have KK5:=Ld (KK4.out.trans k5)
   have HTY:=Ld (hty5.mono (ok':=fun q=>w.heap.size+1<q) (fun q _ hq=>by have:=BR4.out.lt;omega))
   have HTM:=Ld (htm5.mono (ok':=fun q=>w.heap.size+1<q) (fun q _ hq=>by have:=BR4.out.lt;omega))
   clear hty5 htm5 k5 BR4 KK4 HC4
   have gR:∀ i,w5.cell? ⟨w.heap.size+1,i,none⟩=[Value.int .i64 0,.string ⟨#[]⟩,.int .i64 0,.int .i64 0,.string ⟨#[]⟩,.slice none 0 0,.slice none 0 0][i]?:=BR5.out.cell
   have fR:∀ i,w5.frozen? ⟨w.heap.size+1,i,none⟩=false:=BR5.out.frozen
   go_wp2_with fail
   exact bodyPost_ret (results_ct Tryz.results28 rfl (load_tm (t:=r) (r7 BR5.out rfl))) rfl ⟨_,_,by rw[hres.out];rfl,by rw[hres.out];exact (HTY.out.frame (set7 (fun q hq=>by omega))).mono (fun q _ hq=>by omega),by rw[hres.out];exact (HTM.out.frame (set7 (fun q hq=>by omega))).mono (fun q _ hq=>by omega),k7w KK5.out (Or.inr (Nat.le_succ _))⟩
theorem setKid_sm {t u:Tm} {j:Nat} (ht:SmTm big t) (hu:SmTm big u):SmTm big (setKid t j u):=by
 obtain⟨op,nm,N,ty,l⟩:=t
 cases ht with
 | mk hn hty hl=>
  refine .mk hn hty (fun k hk=>?_)
  rcases List.mem_or_eq_of_mem_set hk with hk | rfl
  ·exact hl k hk
  ·exact hu
theorem putP_sm:∀ (p:List Int) {t u:Tm},SmTm big t→SmTm big u→(atP t p).isSome=true→SmTm big (putP t p u)
 | [],t,u,_,hu,_=>hu
 | i::p,t,u,ht,hu,h=>by
  rw[atP] at h
  by_cases hs:stepB t i=true
  ·rw[if_pos hs] at h
   rw[putP]
   exact setKid_sm ht (putP_sm p (ht.kids _ (kid_mem hs)) hu h)
  ·rw[if_neg hs] at h;cases h
def TmB (bz:Nat) (B:Nat) (r:Tm×Int) (w:World) (e:Ending) (w':World):Prop:=∃ tk kk,e=.returned (.tuple #[tmVal r.1 tk kk,.int .i64 r.2])∧TyL bz (fun k=>B≤k) w' r.1.ty.kids tk∧TmL bz (fun k=>B≤k) w' r.1.kids kk∧Kept (fun _=>False) w w'
theorem checked_any {t:Tm} {rr:Tm×Int} (hr:Hid (rr=if validB t then (t,0) else (tm0,5))) {B:Nat} {w:World} {tk kk:Value} (hB:B≤w.heap.size) (h1:TyL bz (fun q=>B≤q∧q<w.heap.size) w t.ty.kids tk) (h2:TmL bz (fun q=>B≤q∧q<w.heap.size) w t.kids kk) (hs:SmTm big t):
  Calls Tryz.prog 59 #[tmVal t tk kk] w (TmB bz B rr w):=by
 obtain⟨p,n,c,rfl⟩:=h1.slice
 obtain⟨ma,mn,mc,rfl⟩:=h2.slice
 have B0:Hid (Blk ((w.alloc (.cells #[.int .i64 t.op,.string t.name,.int .i64 t.n,.int .i64 t.ty.kind,.string t.ty.name,.slice p n c,.slice ma mn mc] 27)).alloc Z7) w.heap.size 27 (tmCells t (.slice p n c) (.slice ma mn mc))∧Blk ((w.alloc (.cells #[.int .i64 t.op,.string t.name,.int .i64 t.n,.int .i64 t.ty.kind,.string t.ty.name,.slice p n c,.slice ma mn mc] 27)).alloc Z7) (w.heap.size+1) 27 z27∧Kept (fun _=>False) w ((w.alloc (.cells #[.int .i64 t.op,.string t.name,.int .i64 t.n,.int .i64 t.ty.kind,.string t.ty.name,.slice p n c,.slice ma mn mc] 27)).alloc Z7)):=Ld
  ⟨(Blk.new w 27 (tmCells t (.slice p n c) (.slice ma mn mc))).alloc _,Blk.new' 27 _ (by simp),(kR.alloc _).alloc _⟩
 have HV:=Ld (fun W (k:Kept (fun _=>False) w W)=>valid_any (h1.frame (sK k)) (h2.frame (sK k)) hs)
 have HTY:=Ld (fun W (k:Kept (fun _=>False) w W)=>h1.frame (sK k))
 have HTM:=Ld (fun W (k:Kept (fun _=>False) w W)=>h2.frame (sK k))
 clear h1 h2 hs
 unfold tmVal
 go_enter Tryz.func59,Tryz.ntmps59
 go_wp2_with fail
 generalize ((w.alloc (.cells #[.int .i64 t.op,.string t.name,.int .i64 t.n,.int .i64 t.ty.kind,.string t.ty.name,.slice p n c,.slice ma mn mc] 27)).alloc Z7)=w1 at *
 refine (HV.out _ B0.out.2.2).mono ?_
 rintro e w2 ⟨rfl,k2⟩
 have BA:=Ld (B0.out.1.kept k2 (fun h=>h))
 have BR:=Ld (B0.out.2.1.kept k2 (fun h=>h))
 have KK:=Ld (B0.out.2.2.trans k2)
 clear B0 k2 HV
 have gA:∀ i,w2.cell? ⟨w.heap.size,i,none⟩=[Value.int .i64 t.op,.string t.name,.int .i64 t.n,.int .i64 t.ty.kind,.string t.ty.name,.slice p n c,.slice ma mn mc][i]?:=BA.out.cell
 have gR:∀ i,w2.cell? ⟨w.heap.size+1,i,none⟩=[Value.int .i64 0,.string ⟨#[]⟩,.int .i64 0,.int .i64 0,.string ⟨#[]⟩,.slice none 0 0,.slice none 0 0][i]?:=BR.out.cell
 have fR:∀ i,w2.frozen? ⟨w.heap.size+1,i,none⟩=false:=BR.out.frozen
 cases hv:validB t
 ·have hq:Hid (rr=(tm0,5)):=Ld (by rw[hr.out,hv];rfl)
  clear hv hr
  go_wp2_with fail
  exact bodyPost_ret (results_ct Tryz.results59 rfl (load_tm (t:=tm0) (r7 BR.out rfl))) rfl ⟨_,_,by rw[hq.out];rfl,by rw[hq.out];exact .nil (Or.inl rfl),by rw[hq.out];exact .nil (Or.inl rfl),k7w KK.out (Or.inr (Nat.le_succ _))⟩
 ·have hq:Hid (rr=(t,0)):=Ld (by rw[hr.out,hv];rfl)
  clear hv hr
  go_wp2_with fail
  exact bodyPost_ret (results_ct Tryz.results59 rfl (load_tm (t:=t) (r7 BR.out rfl))) rfl ⟨_,_,by rw[hq.out];rfl,by rw[hq.out];exact ((HTY.out _ KK.out).frame (set7 (fun q hq=>by omega))).mono (fun q _ hq=>hq.1),by rw[hq.out];exact ((HTM.out _ KK.out).frame (set7 (fun q hq=>by omega))).mono (fun q _ hq=>hq.1),k7w KK.out (Or.inr (Nat.le_succ _))⟩
theorem replace_any {t u:Tm} {l:List Int} {ok ok' ok2:Nat→Prop} {w:World} {tk kk tk' kk' vl:Value} (h1:TyL bz ok w t.ty.kids tk) (h2:TmL bz ok w t.kids kk) (hs:SmTm big t) (hl:InL ok2 w l vl) (hb:l.length≤9223372036854775807) (h3:TyL bz ok' w u.ty.kids tk') (h4:TmL bz ok' w u.kids kk') (hs':SmTm big u):
  Calls Tryz.prog 27 #[tmVal t tk kk,vl,tmVal u tk' kk'] w (TmE bz (repPS t l u) w):=by
 obtain⟨a,c,rfl⟩:=hl.slice
 obtain⟨p,n,cp,rfl⟩:=h1.slice
 obtain⟨ma,mn,mc,rfl⟩:=h2.slice
 obtain⟨p',n',cp',rfl⟩:=h3.slice
 obtain⟨ma',mn',mc',rfl⟩:=h4.slice
 have B0:=Ld (Bx3.new w [.int .i64 t.op,.string t.name,.int .i64 t.n,.int .i64 t.ty.kind,.string t.ty.name,.slice p n cp,.slice ma mn mc] [.int .i64 u.op,.string u.name,.int .i64 u.n,.int .i64 u.ty.kind,.string u.ty.name,.slice p' n' cp',.slice ma' mn' mc'] z27)
 change Hid (Bx3 _ _ _ _ (((w.alloc (.cells #[.int .i64 t.op,.string t.name,.int .i64 t.n,.int .i64 t.ty.kind,.string t.ty.name,.slice p n cp,.slice ma mn mc] 27)).alloc (.cells #[.int .i64 u.op,.string u.name,.int .i64 u.n,.int .i64 u.ty.kind,.string u.ty.name,.slice p' n' cp',.slice ma' mn' mc'] 27)).alloc Z7)) at B0
 have HZ:Hid ((((w.alloc (.cells #[.int .i64 t.op,.string t.name,.int .i64 t.n,.int .i64 t.ty.kind,.string t.ty.name,.slice p n cp,.slice ma mn mc] 27)).alloc (.cells #[.int .i64 u.op,.string u.name,.int .i64 u.n,.int .i64 u.ty.kind,.string u.ty.name,.slice p' n' cp',.slice ma' mn' mc'] 27)).alloc Z7).heap.size=w.heap.size+1+1+1):=Ld (by simp)
 have HP:=Ld (fun W (k:Kept (fun _=>False) w W)=>pair_valid (h1.frame (sK k)) (h2.frame (sK k)) (h3.frame (sK k)) (h4.frame (sK k)) hs hs')
 have HA:=Ld (fun W (k:Kept (fun _=>False) w W)=>at_noop61 (h1.frame (sK k)) (h2.frame (sK k)) (hl.frame (sK k)) (by omega))
 have HU:=Ld (fun (hv:validB t=true) (hv':validB u=true) (hat:(atP t l).isSome=true) W (k:Kept (fun _=>False) w W)=>put_any l t u (valid_bd hv) (valid_bd hv') hat hb W _ _ _ _ _ _ _ _ (h1.frame (sK k)) (h2.frame (sK k)) (hl.frame (sK k)) (h3.frame (sK k)) (h4.frame (sK k)))
 have HSM:=Ld (fun (hat:(atP t l).isSome=true)=>putP_sm l hs hs' hat)
 have HR:Hid (repPS t l u=if validB t&&validB u then (if (atP t l).isSome then (if validB (putP t l u) then (putP t l u,0) else (tm0,5)) else (tm0,12)) else (tm0,1)):=Ld (by unfold repPS;cases atP t l <;> rfl)
 clear h1 h2 h3 h4 hs hs' hl hb
 unfold AtP tmVal at HA
 unfold tmVal at HU ⊢
 generalize (atP t l).getD tm0=o at *
 generalize (atP t l).isSome=b at *
 generalize putP t l u=r at *
 go_enter Tryz.func27,Tryz.ntmps27
 go_wp2_with fail
 generalize (((w.alloc (.cells #[.int .i64 t.op,.string t.name,.int .i64 t.n,.int .i64 t.ty.kind,.string t.ty.name,.slice p n cp,.slice ma mn mc] 27)).alloc (.cells #[.int .i64 u.op,.string u.name,.int .i64 u.n,.int .i64 u.ty.kind,.string u.ty.name,.slice p' n' cp',.slice ma' mn' mc'] 27)).alloc Z7)=w1 at *
 refine (HP.out w1 B0.out.k _ _ rfl HZ.out.symm).mono ?_
 rintro e w2 ⟨rfl,k2⟩
 have B2:=Ld ((B0.out.kept ((Kept.refl (fun _=>False) w1).alloc (.cells (tmCells t (.slice p n cp) (.slice ma mn mc)++tmCells u (.slice p' n' cp') (.slice ma' mn' mc')).toArray 27))).kept k2)
 clear B0 k2 HP HZ
 have gR:∀ i,w2.cell? ⟨w.heap.size+1+1,i,none⟩=[Value.int .i64 0,.string ⟨#[]⟩,.int .i64 0,.int .i64 0,.string ⟨#[]⟩,.slice none 0 0,.slice none 0 0][i]?:=B2.out.c.cell
 have fR:∀ i,w2.frozen? ⟨w.heap.size+1+1,i,none⟩=false:=B2.out.c.frozen
 cases hv:validB t&&validB u
 ·have hres:Hid (repPS t l u=(tm0,1)):=Ld (by rw[HR.out,hv];rfl)
  clear hv HA HU HR HSM
  go_wp2_with fail
  exact bodyPost_ret (results_ct Tryz.results27 rfl (load_tm (t:=tm0) (r7 B2.out.c rfl))) rfl ⟨_,_,by rw[hres.out];rfl,by rw[hres.out];exact .nil (Or.inl rfl),by rw[hres.out];exact .nil (Or.inl rfl),k7w B2.out.k (Or.inr (by omega))⟩
 ·have HVT:=Ld hv
  have HV2:=Ld ((Bool.and_eq_true _ _).mp hv)
  clear hv
  have gA:∀ i,w2.cell? ⟨w.heap.size,i,none⟩=[Value.int .i64 t.op,.string t.name,.int .i64 t.n,.int .i64 t.ty.kind,.string t.ty.name,.slice p n cp,.slice ma mn mc][i]?:=B2.out.a.cell
  go_wp2_with fail
  clear gA gR fR
  refine (HA.out w2 B2.out.k).mono ?_
  rintro e w3 ⟨tk,kk,rfl,hty,htm,k3⟩
  obtain⟨ua,un,uc,rfl⟩:=hty.slice
  obtain⟨va,vn,vc,rfl⟩:=htm.slice
  have B3:=Ld (B2.out.kept k3)
  clear hty htm k3 HA B2
  cases b
  ·have hres:Hid (repPS t l u=(tm0,12)):=Ld (by rw[HR.out,HVT.out];rfl)
   clear HU HR HSM
   go_upto_region 4 with (fail)
   have B4:=Ld (B3.out.kept ((Kept.refl (fun _=>False) w3).alloc (.cells #[.int .i64 o.op,.string o.name,.int .i64 o.n,.int .i64 o.ty.kind,.string o.ty.name,.slice ua un uc,.slice va vn vc] 27)))
   generalize w3.alloc (.cells #[.int .i64 o.op,.string o.name,.int .i64 o.n,.int .i64 o.ty.kind,.string o.ty.name,.slice ua un uc,.slice va vn vc] 27)=w4 at *
   have gR:∀ i,w4.cell? ⟨w.heap.size+1+1,i,none⟩=[Value.int .i64 0,.string ⟨#[]⟩,.int .i64 0,.int .i64 0,.string ⟨#[]⟩,.slice none 0 0,.slice none 0 0][i]?:=B4.out.c.cell
   have fR:∀ i,w4.frozen? ⟨w.heap.size+1+1,i,none⟩=false:=B4.out.c.frozen
   go_wp2_with fail
   exact bodyPost_ret (results_ct Tryz.results27 rfl (load_tm (t:=tm0) (r7 B4.out.c rfl))) rfl ⟨_,_,by rw[hres.out];rfl,by rw[hres.out];exact .nil (Or.inl rfl),by rw[hres.out];exact .nil (Or.inl rfl),k7w B4.out.k (Or.inr (by omega))⟩
  ·have hres:Hid (repPS t l u=if validB r then (r,0) else (tm0,5)):=Ld (by rw[HR.out,HVT.out];rfl)
   have HU2:=Ld (HU.out HV2.out.1 HV2.out.2 rfl)
   have HS2:=Ld (HSM.out rfl)
   clear HU HR HSM
   go_upto_region 4 with (fail)
   have B4:=Ld (B3.out.kept ((Kept.refl (fun _=>False) w3).alloc (.cells #[.int .i64 o.op,.string o.name,.int .i64 o.n,.int .i64 o.ty.kind,.string o.ty.name,.slice ua un uc,.slice va vn vc] 27)))
   generalize w3.alloc (.cells #[.int .i64 o.op,.string o.name,.int .i64 o.n,.int .i64 o.ty.kind,.string o.ty.name,.slice ua un uc,.slice va vn vc] 27)=w4 at *
   have gA:∀ i,w4.cell? ⟨w.heap.size,i,none⟩=[Value.int .i64 t.op,.string t.name,.int .i64 t.n,.int .i64 t.ty.kind,.string t.ty.name,.slice p n cp,.slice ma mn mc][i]?:=B4.out.a.cell
   have gU:∀ i,w4.cell? ⟨w.heap.size+1,i,none⟩=[Value.int .i64 u.op,.string u.name,.int .i64 u.n,.int .i64 u.ty.kind,.string u.ty.name,.slice p' n' cp',.slice ma' mn' mc'][i]?:=B4.out.b.cell
   go_wp2_with fail
   clear gA gU
   refine (HU2.out w4 B4.out.k).mono ?_
   rintro e w5 ⟨tk,kk,rfl,hty5,htm5,k5⟩
   have lw4:=B4.out.c.lt
   have HC:=Ld (checked_any hres (B:=w4.heap.size) k5.size (hty5.mono (ok':=fun q=>w4.heap.size≤q∧q<w5.heap.size) (fun q hq h=>⟨h,hq⟩)) (htm5.mono (ok':=fun q=>w4.heap.size≤q∧q<w5.heap.size) (fun q hq h=>⟨h,hq⟩)) HS2.out)
   obtain⟨pa,pn,pc,rfl⟩:=hty5.slice
   obtain⟨qa,qn,qc,rfl⟩:=htm5.slice
   have B5:=Ld (B4.out.kept k5)
   clear hty5 htm5 k5 B4 HU2
   unfold TmB tmVal at HC
   unfold tmVal
   clear hres
   generalize repPS t l u=rr at *
   go_wp2_with fail
   refine HC.out.mono ?_
   rintro e w6 ⟨tk,kk,rfl,hty6,htm6,k6⟩
   obtain⟨pa,pn,pc,rfl⟩:=hty6.slice
   obtain⟨qa,qn,qc,rfl⟩:=htm6.slice
   have B6:=Ld (B5.out.kept k6)
   have HTY:=Ld hty6
   have HTM:=Ld htm6
   clear hty6 htm6 k6 B5 HC
   have gR:∀ i,w6.cell? ⟨w.heap.size+1+1,i,none⟩=[Value.int .i64 0,.string ⟨#[]⟩,.int .i64 0,.int .i64 0,.string ⟨#[]⟩,.slice none 0 0,.slice none 0 0][i]?:=B6.out.c.cell
   have fR:∀ i,w6.frozen? ⟨w.heap.size+1+1,i,none⟩=false:=B6.out.c.frozen
   go_wp2_with fail
   exact bodyPost_ret (results_ct Tryz.results27 rfl (load_tm (t:=rr.1) (r7 B6.out.c rfl))) rfl ⟨_,_,rfl,(HTY.out.frame (set7 (fun q hq=>by omega))).mono (fun q _ hq=>by omega),(HTM.out.frame (set7 (fun q hq=>by omega))).mono (fun q _ hq=>by omega),k7w B6.out.k (Or.inr (by omega))⟩
theorem szR_le (ρ:ByteArray→Nat) (hρ:∀ s,ρ s≤2000) (u:Tm):szR ρ u≤2000*tmN u:=by
 induction u using Tm.rec (motive_2:=fun ks=>∀ (bi:Bool) (nm:ByteArray) (i:Nat) (ρ:ByteArray→Nat),(∀ s,ρ s≤2000)→szRs bi nm ρ i ks≤2000*tmNs ks) generalizing ρ with
 | mk op nm N ty ks ih=>
  rw[szR,tmN]
  split
  ·have:=hρ nm;omega
  ·have:=ih (binderB op) nm 0 ρ hρ;omega
 | nil=>rename_i bi nm i ρ hρ;simp[szRs,tmNs]
 | cons t ks iht ihl=>
  rename_i bi nm i ρ hρ
  rw[szRs,tmNs]
  have h1:=ihl bi nm (i+1) ρ hρ
  have h2:=iht (if bi&&i==1 then upW nm ρ else ρ) (fun s=>by
   split
   ·unfold upW;split
    ·omega
    ·exact hρ s
   ·exact hρ s)
  omega
theorem ok_smt {t:Tm} (h:OkTm t):SmTm big t:=by
 induction h with
 | mk hf hn hl ih=>exact .mk (by have:=(formed_sm hf).1;unfold big;omega) (formed_sm hf).2 ih
def ltdR (t:Tm) (l:List (ByteArray×Tm)):Tm×Int:=if validB (subT freshS t l) then (subT freshS t l,0) else (tm0,5)
theorem limited_any {t:Tm} {l:List (ByteArray×Tm)} {σ:ByteArray→Option Tm} (ht:validB t=true) (hl:∀ s,look l s=σ s) (hσ:SgOk σ) (hlb:OkB l∧(frB l).length≤700000) {w:World} {ok okm:Nat→Prop} {tk kk:Value} {pm n:Nat} (h1:TyL bz ok w t.ty.kids tk) (h2:TmL bz ok w t.kids kk) (hpm:PrM bz okm w pm n σ) (hp:P10 w) (hn:n≤200):
  Calls Tryz.prog 53 #[.map (some pm),tmVal t tk kk] w (TmB bz w.heap.size (ltdR t l) w):=by
 obtain⟨a,an,ac,rfl⟩:=h1.slice
 obtain⟨ma,mn,mc,rfl⟩:=h2.slice
 have hv:=(valid_iff t).1 ht
 have hok:=valid_ok ht
 have HSZ:Hid (szR (wgC σ (fun _=>0)) t=tmN (subT freshS t l)):=Ld (by
  have h:=(sub_size hok (l:=l) hlb.1 (by have:=hlb.2;have:=hv.2.1;omega)).1
  rw[h]
  congr 1
  funext s
  unfold wgC wgS wgN
  rw[hl s];simp only[if_true];all_goals(cases σ s<;>rfl))
 have HRO:Hid (OkTm (subT freshS t l)):=Ld (sub_ok hok l hlb.1 (by have:=hlb.2;have:=hv.2.1;omega))
 have HB:Hid (szR (wgC σ (fun _=>0)) t≤1000000000):=Ld (by
  have key:∀ (ρ:ByteArray→Nat),(∀ s,ρ s≤2000)→∀ (u:Tm),szR ρ u≤2000*tmN u:=szR_le
  have h:=key (wgC σ (fun _=>0)) (fun s=>by unfold wgC wgS;simp only[if_true];cases hs:σ s with
   | none=>show 1≤2000;omega
   | some u=>exact (hσ s u hs).2.1) t
  have:=hv.2.1
  omega)
 have HR:Hid (ltdR t l=if validB (subT freshS t l) then (subT freshS t l,0) else (tm0,5)):=Ld rfl
 have HVR:Hid (2000<tmN (subT freshS t l)→validB (subT freshS t l)=false):=Ld (fun h=>by
  rw[valid_of HRO.out,decide_eq_false (by omega)];rfl)
 have HTY:=Ld (fun W (k:Kept (fun _=>False) w W)=>(h1.mono (ok':=fun q=>q<w.heap.size) (fun q hq _=>hq)).frame (sK k))
 have HTM:=Ld (fun W (k:Kept (fun _=>False) w W)=>(h2.mono (ok':=fun q=>q<w.heap.size) (fun q hq _=>hq)).frame (sK k))
 have HPM:=Ld (fun W (k:Kept (fun _=>False) w W)=>(show PrM bz (fun q=>q<w.heap.size) W pm n σ from by obtain⟨f,hf,hv⟩:=hpm;exact⟨f,hf.kept k (fun e=>e),(hv.mono (fun q hq _=>hq)).frame (sK k)⟩))
 have HPL:Hid (pm<w.heap.size):=Ld (by obtain⟨f,hf,_⟩:=hpm;exact hf.lt)
 have HOK:=Ld hok
 have HV:=Ld hv
 have HLK:=Ld hl
 have HSG:=Ld hσ
 have HP:=Ld hp
 have HN:=Ld hn
 generalize ltdR t l=rr at *
 clear h1 h2 hpm hv hok hlb hl hσ hp hn ht
 have hmm:=@run_makeMap Tryz.prog
 unfold tmVal
 go_enter Tryz.func53,Tryz.ntmps53
 go_upto_region 3 with (fail)
 have B5:Hid (Blk ((((((w.alloc (.cells #[.map (some pm)] 77)).alloc (.cells #[.int .i64 t.op,.string t.name,.int .i64 t.n,.int .i64 t.ty.kind,.string t.ty.name,.slice a an ac,.slice ma mn mc] 27)).alloc Z7).alloc (.cells #[.int .i64 0] 3)).alloc (.cells #[.nilFunc] 126))) w.heap.size 77 [.map (some pm)]∧Blk ((((((w.alloc (.cells #[.map (some pm)] 77)).alloc (.cells #[.int .i64 t.op,.string t.name,.int .i64 t.n,.int .i64 t.ty.kind,.string t.ty.name,.slice a an ac,.slice ma mn mc] 27)).alloc Z7).alloc (.cells #[.int .i64 0] 3)).alloc (.cells #[.nilFunc] 126))) (w.heap.size+1) 27 [Value.int .i64 t.op,.string t.name,.int .i64 t.n,.int .i64 t.ty.kind,.string t.ty.name,.slice a an ac,.slice ma mn mc]∧Blk ((((((w.alloc (.cells #[.map (some pm)] 77)).alloc (.cells #[.int .i64 t.op,.string t.name,.int .i64 t.n,.int .i64 t.ty.kind,.string t.ty.name,.slice a an ac,.slice ma mn mc] 27)).alloc Z7).alloc (.cells #[.int .i64 0] 3)).alloc (.cells #[.nilFunc] 126))) (w.heap.size+1+1) 27 z27∧Blk ((((((w.alloc (.cells #[.map (some pm)] 77)).alloc (.cells #[.int .i64 t.op,.string t.name,.int .i64 t.n,.int .i64 t.ty.kind,.string t.ty.name,.slice a an ac,.slice ma mn mc] 27)).alloc Z7).alloc (.cells #[.int .i64 0] 3)).alloc (.cells #[.nilFunc] 126))) (w.heap.size+1+1+1) 3 [.int .i64 0]∧Blk ((((((w.alloc (.cells #[.map (some pm)] 77)).alloc (.cells #[.int .i64 t.op,.string t.name,.int .i64 t.n,.int .i64 t.ty.kind,.string t.ty.name,.slice a an ac,.slice ma mn mc] 27)).alloc Z7).alloc (.cells #[.int .i64 0] 3)).alloc (.cells #[.nilFunc] 126))) (w.heap.size+1+1+1+1) 126 [.nilFunc]∧Kept (fun _=>False) w ((((((w.alloc (.cells #[.map (some pm)] 77)).alloc (.cells #[.int .i64 t.op,.string t.name,.int .i64 t.n,.int .i64 t.ty.kind,.string t.ty.name,.slice a an ac,.slice ma mn mc] 27)).alloc Z7).alloc (.cells #[.int .i64 0] 3)).alloc (.cells #[.nilFunc] 126)))):=Ld
  ⟨((((Blk.new w 77 _).alloc _).alloc _).alloc _).alloc _,(((Blk.new' 27 _ (by simp)).alloc _).alloc _).alloc _,((Blk.new' 27 _ (by simp)).alloc _).alloc _,(Blk.new' 3 _ (by simp)).alloc _,Blk.new' 126 _ (by simp),((((kR.alloc _).alloc _).alloc _).alloc _).alloc _⟩
 generalize (((((w.alloc (.cells #[.map (some pm)] 77)).alloc (.cells #[.int .i64 t.op,.string t.name,.int .i64 t.n,.int .i64 t.ty.kind,.string t.ty.name,.slice a an ac,.slice ma mn mc] 27)).alloc Z7).alloc (.cells #[.int .i64 0] 3)).alloc (.cells #[.nilFunc] 126))=w5 at *
 obtain⟨X,hX⟩:∃ X,X=w.heap.size:=⟨_,rfl⟩
 obtain⟨P,hP⟩:∃ P,P=w.heap.size+1:=⟨_,rfl⟩
 obtain⟨R,hR⟩:∃ R,R=w.heap.size+1+1:=⟨_,rfl⟩
 obtain⟨Y,hY⟩:∃ Y,Y=w.heap.size+1+1+1:=⟨_,rfl⟩
 obtain⟨Z,hZ⟩:∃ Z,Z=w.heap.size+1+1+1+1:=⟨_,rfl⟩
 have HD:Hid (X=w.heap.size∧P=w.heap.size+1∧R=w.heap.size+2∧Y=w.heap.size+3∧Z=w.heap.size+4):=Ld ⟨hX,hP,by omega,by omega,by omega⟩
 rw[← hZ,← hY,← hR,← hP,← hX] at B5 ⊢
 obtain⟨b1,b2,b3,b4,b6,k5⟩:=B5.out
 have hres:Kept (fun q=>X≤q) w5 (w5.setCell ⟨Z,0,none⟩ (.func (.func 98) #[] #[.pointer (some ⟨X,0,none⟩),.pointer (some ⟨Y,0,none⟩),.pointer (some ⟨Z,0,none⟩)])):=(Kept.refl (fun q=>X≤q) w5).setCell (p:=⟨Z,0,none⟩) (Or.inl (by show X≤Z;omega)) _
 have kZ:Kept (fun q=>q=Z) w5 (w5.setCell ⟨Z,0,none⟩ (.func (.func 98) #[] #[.pointer (some ⟨X,0,none⟩),.pointer (some ⟨Y,0,none⟩),.pointer (some ⟨Z,0,none⟩)])):=(Kept.refl (fun q=>q=Z) w5).setCell (p:=⟨Z,0,none⟩) (Or.inl rfl) _
 have gZ:=b6.cell
 have fZ:=b6.frozen
 have K6:Hid (Kept (fun _=>False) w (w5.setCell ⟨Z,0,none⟩ (.func (.func 98) #[] #[.pointer (some ⟨X,0,none⟩),.pointer (some ⟨Y,0,none⟩),.pointer (some ⟨Z,0,none⟩)]))):=Ld (k5.via1 kZ (fun x hx e=>by omega))
 have HXZ:Hid (LmX X Y Z pm 0 (w5.setCell ⟨Z,0,none⟩ (.func (.func 98) #[] #[.pointer (some ⟨X,0,none⟩),.pointer (some ⟨Y,0,none⟩),.pointer (some ⟨Z,0,none⟩)]))):=Ld ⟨b1.kept kZ (fun e=>by omega),b4.kept kZ (fun e=>by omega),b6.set 0 _⟩
 have HP6:Hid (Blk (w5.setCell ⟨Z,0,none⟩ (.func (.func 98) #[] #[.pointer (some ⟨X,0,none⟩),.pointer (some ⟨Y,0,none⟩),.pointer (some ⟨Z,0,none⟩)])) P 27 [Value.int .i64 t.op,.string t.name,.int .i64 t.n,.int .i64 t.ty.kind,.string t.ty.name,.slice a an ac,.slice ma mn mc]):=Ld (b2.kept kZ (fun e=>by omega))
 have HR6:Hid (Blk (w5.setCell ⟨Z,0,none⟩ (.func (.func 98) #[] #[.pointer (some ⟨X,0,none⟩),.pointer (some ⟨Y,0,none⟩),.pointer (some ⟨Z,0,none⟩)])) R 27 z27):=Ld (b3.kept kZ (fun e=>by omega))
 clear hres kZ b1 b2 b3 b4 b6 k5 B5 hZ hY hR hP hX
 go_upto_region 4 with (fail)
 clear gZ fZ
 generalize w5.setCell ⟨Z,0,none⟩ (.func (.func 98) #[] #[.pointer (some ⟨X,0,none⟩),.pointer (some ⟨Y,0,none⟩),.pointer (some ⟨Z,0,none⟩)])=w6 at *
 have M7:=Ld (MapF.made w6)
 have K7:Hid (Kept (fun _=>False) w6 (w6.alloc (.map #[] 0))):=Ld (kR.alloc _)
 have HZL:=Ld HXZ.out.z.lt
 have HC:=Ld (lim_any (bz:=bz) HOK.out σ (fun _=>0) 0 (w6.alloc (.map #[] 0)) (fun q=>q<w.heap.size) (fun q=>q<w.heap.size) _ _ w6.heap.size 0 pm n X Y Z (HTY.out _ (K6.out.trans K7.out)) (HTM.out _ (K6.out.trans K7.out)) (HPM.out _ (K6.out.trans K7.out)) HSG.out ⟨_,M7.out,cnt_none⟩ (HXZ.out.kept K7.out (fun e=>e) (fun e=>e) (fun e=>e))
  (fun q hq=>by have:=HD.out;have:=HZL.out;constructor <;> omega) (fun q hq=>by have:=HD.out;have:=HZL.out;constructor <;> omega) (by have:=HD.out;have:=HZL.out;have:=HPL.out;omega) (by have:=HV.out.2.1;omega) (fun s=>by have:=HV.out.2.2;show 0+_≤_;omega) (by have:=HB.out;omega))
 unfold tmVal at HC
 have gP:∀ i,w6.cell? ⟨P,i,none⟩=[Value.int .i64 t.op,.string t.name,.int .i64 t.n,.int .i64 t.ty.kind,.string t.ty.name,.slice a an ac,.slice ma mn mc][i]?:=HP6.out.cell
 have gZ:∀ i,w6.cell? ⟨Z,i,none⟩=[Value.func (.func 98) #[] #[.pointer (some ⟨X,0,none⟩),.pointer (some ⟨Y,0,none⟩),.pointer (some ⟨Z,0,none⟩)]][i]?:=HXZ.out.z.cell
 go_wp2_with fail
 clear gP gZ
 refine HC.out.mono ?_
 rintro e w8 ⟨rfl,hR⟩
 have K8:Hid (Kept (fun _=>False) w w8):=Ld ((K6.out.trans K7.out).via1 hR.kp (fun x hx e=>by have:=HD.out;have:=K6.out.size;rcases e with e | e <;> omega))
 have HP8:Hid (Blk w8 P 27 [Value.int .i64 t.op,.string t.name,.int .i64 t.n,.int .i64 t.ty.kind,.string t.ty.name,.slice a an ac,.slice ma mn mc]):=Ld ((HP6.out.kept K7.out (fun e=>e)).kept hR.kp (fun e=>by have:=HD.out;have:=HZL.out;rcases e with e | e <;> omega))
 have HR8:Hid (Blk w8 R 27 z27):=Ld ((HR6.out.kept K7.out (fun e=>e)).kept hR.kp (fun e=>by have:=HD.out;have:=HZL.out;rcases e with e | e <;> omega))
 have HX8:=Ld hR.bx
 obtain⟨GN,hGN⟩:∃ GN,GN=0+szR (wgC σ (fun _=>0)) t:=⟨_,rfl⟩
 rw[← hGN] at HX8
 have HGN:Hid (GN=tmN (subT freshS t l)):=Ld (by rw[hGN,Nat.zero_add];exact HSZ.out)
 have HGB:Hid (GN≤1000000000):=Ld (by rw[hGN,Nat.zero_add];exact HB.out)
 clear hR hGN HC M7 K7 HXZ HP6 HR6 K6 HB HSZ
 have HSUB:=Ld (psub_any HOK.out l σ w8 (fun q=>q<w.heap.size) (fun q=>q<w.heap.size) _ _ pm n HLK.out HSG.out (HTY.out _ K8.out) (HTM.out _ K8.out) (HPM.out _ K8.out) (HP.out.kept K8.out) (by have:=HV.out.2.2;have:=HN.out;omega) (by have:=HV.out.2.1;omega))
 have HSMM:=Ld (ok_smt HRO.out)
 clear HRO HTY HTM HPM HLK HSG HP HN HV HOK HPL HZL
 generalize subT freshS t l=s at *
 have gY:∀ i,w8.cell? ⟨Y,i,none⟩=[Value.int .i64 GN][i]?:=HX8.out.y.cell
 by_cases hg:2000<GN
 ·have hg':(2000:Int)<(GN:Int):=by omega
  have hq:Hid (rr=(tm0,5)):=Ld (by rw[HR.out,HVR.out (by rw[← HGN.out];exact hg)];rfl)
  have gR:∀ i,w8.cell? ⟨R,i,none⟩=[Value.int .i64 0,.string ⟨#[]⟩,.int .i64 0,.int .i64 0,.string ⟨#[]⟩,.slice none 0 0,.slice none 0 0][i]?:=HR8.out.cell
  have fR:∀ i,w8.frozen? ⟨R,i,none⟩=false:=HR8.out.frozen
  clear hg
  go_wp2_with fail
  exact bodyPost_ret (results_ct Tryz.results53 rfl (load_tm (t:=tm0) (r7 HR8.out rfl))) rfl ⟨_,_,by rw[hq.out];rfl,by rw[hq.out];exact .nil (Or.inl rfl),by rw[hq.out];exact .nil (Or.inl rfl),k7w K8.out (Or.inr (by have:=HD.out;omega))⟩
 ·have hg':¬ (2000:Int)<(GN:Int):=by omega
  clear hg
  have gX:∀ i,w8.cell? ⟨X,i,none⟩=[Value.map (some pm)][i]?:=HX8.out.x.cell
  have gP:∀ i,w8.cell? ⟨P,i,none⟩=[Value.int .i64 t.op,.string t.name,.int .i64 t.n,.int .i64 t.ty.kind,.string t.ty.name,.slice a an ac,.slice ma mn mc][i]?:=HP8.out.cell
  unfold tmVal at HSUB
  go_wp2_with fail
  clear gX gP gY hg'
  refine HSUB.out.mono ?_
  rintro e w9 ⟨tk,kk,rfl,hty5,htm5,k9⟩
  have HC:=Ld (checked_any HR (B:=w8.heap.size) k9.size (hty5.mono (ok':=fun q=>w8.heap.size≤q∧q<w9.heap.size) (fun q hq h=>⟨h,hq⟩)) (htm5.mono (ok':=fun q=>w8.heap.size≤q∧q<w9.heap.size) (fun q hq h=>⟨h,hq⟩)) HSMM.out)
  obtain⟨pa,pn,pc,rfl⟩:=hty5.slice
  obtain⟨qa,qn,qc,rfl⟩:=htm5.slice
  have HR9:=Ld (HR8.out.kept k9 (fun e=>e))
  have HL8:=Ld HR8.out.lt
  have K9:=Ld (K8.out.trans k9)
  clear hty5 htm5 k9 HSUB HR8 HX8 HP8
  unfold TmB tmVal at HC
  unfold tmVal
  clear HR HVR
  go_wp2_with fail
  refine HC.out.mono ?_
  rintro e w6 ⟨tk,kk,rfl,hty6,htm6,k6⟩
  obtain⟨pa,pn,pc,rfl⟩:=hty6.slice
  obtain⟨qa,qn,qc,rfl⟩:=htm6.slice
  have HR10:=Ld (HR9.out.kept k6 (fun e=>e))
  have K10:=Ld (K9.out.trans k6)
  have HTY:=Ld hty6
  have HTM:=Ld htm6
  clear hty6 htm6 k6 HC HR9 K9
  have gR:∀ i,w6.cell? ⟨R,i,none⟩=[Value.int .i64 0,.string ⟨#[]⟩,.int .i64 0,.int .i64 0,.string ⟨#[]⟩,.slice none 0 0,.slice none 0 0][i]?:=HR10.out.cell
  have fR:∀ i,w6.frozen? ⟨R,i,none⟩=false:=HR10.out.frozen
  go_wp2_with fail
  exact bodyPost_ret (results_ct Tryz.results53 rfl (load_tm (t:=rr.1) (r7 HR10.out rfl))) rfl ⟨_,_,rfl,(HTY.out.frame (set7 (fun q hq=>by have:=HL8.out;omega))).mono (fun q _ hq=>by have:=HD.out;have:=K8.out.size;omega),(HTM.out.frame (set7 (fun q hq=>by have:=HL8.out;omega))).mono (fun q _ hq=>by have:=HD.out;have:=K8.out.size;omega),k7w K10.out (Or.inr (by have:=HD.out;omega))⟩
def cjT (t:Tm):List Tm:=if validB t then conjT t else []
def TmsP (bz:Nat) (l:List Tm) (w:World) (e:Ending) (w':World):Prop:=∃ v,e=.returned v∧TmL bz (fun q=>w.heap.size≤q) w' l v∧Kept (fun _=>False) w w'
theorem valid_parts {t:Tm} (h:validB t=true):OkTm t∧BdTm t∧tmN t≤100000:=by
 have:=(valid_iff t).1 h
 exact⟨this.1,valid_bd h,by omega⟩
theorem clipTm_any {w w1:World} {base:Nat} {E:List E3} {v:Value} (h:RowT bz w base w1 E v) (hl:E.length≤1000000):Calls Tryz.prog 71 #[v] w1 fun e w'=>∃ v',e=.returned v'∧TmL bz (fun q=>base≤q) w1 (E.map (·.1)) v'∧w1=w':=by
 have ht:=h.tml
 rcases h.own.2 with ⟨rfl,hn⟩ | ⟨g,cap,cur,rfl,hbg,hg,hnc,hr⟩
 ·exact (clipTm_nil w1).mono fun e w' ⟨h1,h2⟩=>⟨_,h1,ht,h2⟩
 ·refine (clipTm_some w1 g E.length cap hnc hl).mono fun e w' ⟨h1,h2⟩=>⟨_,h1,?_,h2⟩
  generalize hv:Value.slice (some ⟨g,0,none⟩) E.length cap=v at ht
  generalize hll:E.map (·.1)=l at ht
  have hlen:l.length=E.length:=by rw[← hll,List.length_map]
  cases ht with
  | nil he=>
   have:E.length=0:=by rw[← hlen];rfl
   rw[this]
   exact .nil (Or.inr ⟨_,_,rfl⟩)
  | mk K M hne hb hc hcell hk hm hs=>
   injection hv with e1 e2 e3
   injection e1 with e1
   injection e1 with e1 e4 e5
   subst e1 e4
   rw[← hlen]
   exact .mk K M hne hb (Nat.le_refl _) hcell hk hm hs
theorem conjuncts_any {ok:Nat→Prop} {t:Tm} {w:World} {tk kk:Value} (hty:TyL bz ok w t.ty.kids tk) (htm:TmL bz ok w t.kids kk) (hs:SmTm big t):
  Calls Tryz.prog 29 #[tmVal t tk kk] w (TmsP bz (cjT t) w):=by
 obtain⟨a,n,c,rfl⟩:=hty.slice
 obtain⟨ma,mn,mc,rfl⟩:=htm.slice
 have bA:Blk (w.alloc (.cells #[.int .i64 t.op,.string t.name,.int .i64 t.n,.int .i64 t.ty.kind,.string t.ty.name,.slice a n c,.slice ma mn mc] 27)) w.heap.size 27 [.int .i64 t.op,.string t.name,.int .i64 t.n,.int .i64 t.ty.kind,.string t.ty.name,.slice a n c,.slice ma mn mc]:=Blk.new w 27 _
 have K0:Kept (fun _=>False) w (w.alloc (.cells #[.int .i64 t.op,.string t.name,.int .i64 t.n,.int .i64 t.ty.kind,.string t.ty.name,.slice a n c,.slice ma mn mc] 27)):=kR.alloc _
 have HV:=Ld (valid_any (hty.frame (sK K0)) (htm.frame (sK K0)) hs)
 have HC:=Ld (fun (hv:validB t=true) W (k:Kept (fun _=>False) w W)=>conj_main (valid_parts hv).1 (valid_parts hv).2.1 (valid_parts hv).2.2 W ok _ _ (hty.frame (sK k)) (htm.frame (sK k)))
 have HL:Hid (validB t=true→(conjT t).length≤1000000):=Ld (fun hv=>by have:=conj_len t;have:=(valid_parts hv).2.2;omega)
 unfold tmVal at HC ⊢
 clear hty htm hs
 cases hv:validB t
 ·have HE:Hid (cjT t=[]):=Ld (by unfold cjT;rw[hv];rfl)
  go_enter Tryz.func29,Tryz.ntmps29
  go_wp2_with fail
  refine HV.out.mono ?_
  rintro e w2 ⟨rfl,k2⟩
  go_wp2_with fail
  go_ret
  exact⟨_,rfl,by rw[HE.out];exact .nil (Or.inl rfl),K0.trans k2⟩
 ·have HE:Hid (cjT t=conjT t):=Ld (by unfold cjT;rw[hv];rfl)
  go_enter Tryz.func29,Tryz.ntmps29
  go_wp2_with fail
  refine HV.out.mono ?_
  rintro e w2 ⟨rfl,k2⟩
  have gA2:∀ i,w2.cell? ⟨w.heap.size,i,none⟩=[Value.int .i64 t.op,.string t.name,.int .i64 t.n,.int .i64 t.ty.kind,.string t.ty.name,.slice a n c,.slice ma mn mc][i]?:=(bA.kept k2 (fun h=>h)).cell
  have HC2:=Ld (HC.out hv w2 (K0.trans k2))
  clear HC
  go_wp2_with fail
  refine HC2.out.mono ?_
  rintro e w3 ⟨E,v,rfl,R3,hm3⟩
  have HM:=Ld hm3
  have hl:E.length≤1000000:=by have:=HL.out hv;rw[← HM.out,List.length_map] at this;exact this
  have HCL:=Ld (clipTm_any R3 hl)
  have K3:=Ld ((K0.trans k2).trans R3.kp)
  have Z2:=Ld (K0.trans k2).size
  clear R3 hm3 hl gA2 k2
  go_wp2_with fail
  refine HCL.out.mono ?_
  rintro e w4 ⟨v',rfl,h4,rfl⟩
  have H4:=Ld h4
  clear h4
  go_wp2_with fail
  go_ret
  refine⟨_,rfl,?_,K3.out⟩
  rw[HE.out,← HM.out]
  exact H4.out.mono (fun q _ h=>by have:=Z2.out;omega)
def BnL (bz:Nat) (ok:Nat→Prop) (w:World) (l:List (ByteArray×Tm)) (v:Value):Prop:=
 ∃ a n c,v=.slice a n c∧n=l.length∧n≤c∧(a=none→c=0)∧∀ i (h:i<l.length),∃ g off ta tn tc ma mn mc,a=some ⟨g,off,none⟩∧ok g∧g<w.heap.size∧w.cell? ⟨g,off+i*8,none⟩=some (.string l[i].1)∧C7 w g (off+i*8+1) l[i].2 (.slice ta tn tc) (.slice ma mn mc)∧TyL bz ok w l[i].2.ty.kids (.slice ta tn tc)∧TmL bz ok w l[i].2.kids (.slice ma mn mc)
theorem BnL.nil {ok:Nat→Prop} {w:World}:BnL bz ok w [] (.slice none 0 0):=⟨none,0,0,rfl,rfl,Nat.le_refl _,fun _=>rfl,fun i h=>absurd h (Nat.not_lt_zero _)⟩
theorem BnL.frame {ok:Nat→Prop} {w W:World} {l:List (ByteArray×Tm)} {v:Value} (h:BnL bz ok w l v) (hs:Same ok w W):BnL bz ok W l v:=by
 obtain⟨a,n,c,h1,h2,h3,h5,h4⟩:=h
 refine⟨a,n,c,h1,h2,h3,h5,fun i hi=>?_⟩
 obtain⟨g,off,ta,tn,tc,ma,mn,mc,e,hg,_,hc,h7,ht,hm⟩:=h4 i hi
 have hc':=hs.cell hg hc
 exact⟨g,off,ta,tn,tc,ma,mn,mc,e,hg,cell_lt hc',hc',h7.same hs hg,ht.frame hs,hm.frame hs⟩
theorem BnL.mono {ok ok':Nat→Prop} {w:World} {l:List (ByteArray×Tm)} {v:Value} (h:BnL bz ok w l v) (ho:∀ k,k<w.heap.size→ok k→ok' k):BnL bz ok' w l v:=by
 obtain⟨a,n,c,h1,h2,h3,h5,h4⟩:=h
 refine⟨a,n,c,h1,h2,h3,h5,fun i hi=>?_⟩
 obtain⟨g,off,ta,tn,tc,ma,mn,mc,e,hg,hl,hc,h7,ht,hm⟩:=h4 i hi
 exact⟨g,off,ta,tn,tc,ma,mn,mc,e,ho _ hl hg,hl,hc,h7,ht.mono ho,hm.mono ho⟩
theorem BnL.slice {ok:Nat→Prop} {w:World} {l:List (ByteArray×Tm)} {v:Value} (h:BnL bz ok w l v):∃ a c,v=.slice a l.length c:=by
 obtain⟨a,n,c,h1,h2,_⟩:=h
 exact⟨a,c,by rw[h1,h2]⟩
theorem BnL.at {ok:Nat→Prop} {w:World} {l:List (ByteArray×Tm)} {a:Option Addr} {n c:Nat} (h:BnL bz ok w l (.slice a n c)) (i:Nat) (hi:i<l.length):∃ g off ta tn tc ma mn mc,a=some ⟨g,off,none⟩∧ok g∧g<w.heap.size∧w.cell? ⟨g,off+i*8,none⟩=some (.string l[i].1)∧C7 w g (off+i*8+1) l[i].2 (.slice ta tn tc) (.slice ma mn mc)∧TyL bz ok w l[i].2.ty.kids (.slice ta tn tc)∧TmL bz ok w l[i].2.kids (.slice ma mn mc):=by
 obtain⟨a',n',c',h1,h2,h3,h5,h4⟩:=h
 cases h1
 exact h4 i hi
def vB (b:ByteArray×Tm):Bool:=validB b.2
theorem bv1_any {ok:Nat→Prop} {w:World} {s:ByteArray} {t:Tm} {a:Option Addr} {n c:Nat} {ma:Option Addr} {mn mc:Nat} (hk:TyL bz ok w t.ty.kids (.slice a n c)) (hm:TmL bz ok w t.kids (.slice ma mn mc)) (hs:SmTm big t):
  Calls Tryz.prog 52 #[.agg #[.string s,.int .i64 t.op,.string t.name,.int .i64 t.n,.int .i64 t.ty.kind,.string t.ty.name,.slice a n c,.slice ma mn mc]] w fun e w'=>e=.returned (.bool (!validB t))∧Kept (fun _=>False) w w':=by
 have hcon:=Ld (valid_any (hk.frame (Same.alloc w (.cells #[.string s,.int .i64 t.op,.string t.name,.int .i64 t.n,.int .i64 t.ty.kind,.string t.ty.name,.slice a n c,.slice ma mn mc] 38))) (hm.frame (Same.alloc w (.cells #[.string s,.int .i64 t.op,.string t.name,.int .i64 t.n,.int .i64 t.ty.kind,.string t.ty.name,.slice a n c,.slice ma mn mc] 38))) hs)
 clear hk hm hs
 go_enter Tryz.func52,Tryz.ntmps52
 go_wp2_with fail
 refine hcon.out.mono ?_
 rintro e w' ⟨rfl,h⟩
 go_wp2_with fail
 go_ret
 exact⟨rfl,(kR.alloc _).trans h⟩
theorem vb_drop {l:List (ByteArray×Tm)} {k:Nat} (h:k<l.length):(l.drop k).all vB=(vB l[k]&&(l.drop (k+1)).all vB):=by
 rw[List.drop_eq_getElem_cons h,List.all_cons]
theorem bidx_any {ok:Nat→Prop} {l:List (ByteArray×Tm)} {a:Option Addr} {cp:Nat} {w:World} (hn1:l.length≤1000000) (hs:∀ b,b∈l→SmTm big b.2) (hk:BnL bz ok w l (.slice a l.length cp)):
  Calls Tryz.prog 97 #[.slice a l.length cp,.func (.func 52) #[] #[]] w fun e w'=>∃ i:Int,e=.returned (.int .i64 i)∧decide (0≤i)=!(l.all vB)∧Kept (fun _=>False) w w':=by
 have HS:=Ld hs
 have HN:=Ld hn1
 have HAT:=Ld (fun W (k:Kept (fun _=>False) w W)=>(hk.frame (sK k)).at)
 clear hs hn1 hk
 go_enter Tryz.func97,Tryz.ntmps97
 go_wp2_with fail
 go_loopw [8] (fun i wr=>∃ k:Nat,k≤l.length∧i=.int .i64 k∧Kept (fun _=>False) w wr∧Hid (l.all vB=(l.drop k).all vB)) (fun i _=>l.length-(intOf i).toNat)
 case atStart=>exact⟨0,Nat.zero_le _,rfl,Kept.refl _ _,Ld rfl⟩
 case round=>
  obtain⟨k,hkl,rfl,hkr,heq⟩:=hrel
  have HKR:=Ld hkr
  clear hkr
  by_cases hlt:k<l.length
  ·have i1:(k:Int)<(l.length:Int):=by omega
   have i2:(k:Int)<1000000:=by have:=HN.out;omega
   obtain⟨g,off,ta,tn,tc,ma,mn,mc,rfl,hg,lg,c0,⟨d0,d1,d2,d3,d4,d5,d6⟩,hty,htm⟩:=HAT.out wr HKR.out k hlt
   have hst:=Ld (vb_drop hlt)
   have hcon:=Ld (bv1_any (s:=l[k].1) hty htm (HS.out _ (List.getElem_mem hlt)))
   clear hty htm hg lg
   cases hr:validB l[k].2
   ·rw[hr] at hcon
    go_wp2_with (go_at_call 52;refine hcon.out.mono ?_;rintro e w' ⟨rfl,h1⟩)
    go_ret
    exact⟨k,rfl,by rw[heq.out,hst.out];unfold vB;rw[hr];simp,HKR.out.trans h1⟩
   ·rw[hr] at hcon
    go_wp2_with (go_at_call 52;refine hcon.out.mono ?_;rintro e w' ⟨rfl,h1⟩)
    go_roundw
    case rel=>exact⟨k+1,by omega,by go_num,HKR.out.trans h1,Ld (by rw[heq.out,hst.out];unfold vB;rw[hr];rfl)⟩
    case measure=>simp[intOf];omega
  ·have hz:Hid (l.all vB=true):=Ld (by rw[heq.out,List.drop_eq_nil_of_le (by omega)];rfl)
   go_wp2_with fail
   go_ret
   exact⟨-1,rfl,by rw[hz.out];rfl,HKR.out⟩
theorem bcont_any {ok:Nat→Prop} {l:List (ByteArray×Tm)} {a:Option Addr} {cp:Nat} {w:World} (hn1:l.length≤1000000) (hs:∀ b,b∈l→SmTm big b.2) (hk:BnL bz ok w l (.slice a l.length cp)):
  Calls Tryz.prog 51 #[.slice a l.length cp,.func (.func 52) #[] #[]] w fun e w'=>e=.returned (.bool (!(l.all vB)))∧Kept (fun _=>False) w w':=by
 have hcon:=Ld (bidx_any hn1 hs hk)
 clear hs hk hn1
 go_enter Tryz.func51,Tryz.ntmps51
 go_wp2_with fail
 refine hcon.out.mono ?_
 rintro e w' ⟨i,rfl,hi,h1⟩
 go_wp2_with fail
 go_ret
 exact⟨rfl,h1⟩
end Go.Proofs.YtdmebjbkccjhbaaGreatDoor
