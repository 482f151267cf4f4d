/- A part. -/
import Derived.Test.YtfhedienjnfdcaaGreatDoorQ11
set_option linter.unusedVariables false
set_option linter.unusedSimpArgs false
set_option maxRecDepth 100000
set_option maxHeartbeats 32000000
namespace Go.Proofs.YtfhedienjnfdcaaGreatDoor
open Go.RowKit
theorem alikeK_drop {bi:Bool} {nm nm':ByteArray} {l l':List Tm} {k:Nat} {X Y:List ByteArray} (h:k<l.length) (h':k<l'.length):alikeK bi nm nm' k (l.drop k) (l'.drop k) X Y=(alikeT l[k] l'[k] (if bi&&k==1 then X++[nm] else X) (if bi&&k==1 then Y++[nm'] else Y)&&alikeK bi nm nm' (k+1) (l.drop (k+1)) (l'.drop (k+1)) X Y):=by
 rw[List.drop_eq_getElem_cons h,List.drop_eq_getElem_cons h',alikeK]
theorem alikeK_end {bi:Bool} {nm nm':ByteArray} {l l':List Tm} {k:Nat} {X Y:List ByteArray} (h:l.length≤k):alikeK bi nm nm' k (l.drop k) (l'.drop k) X Y=true:=by
 rw[List.drop_eq_nil_of_le h];simp[alikeK]
theorem tmDs_mem {u:Tm}:∀ {l:List Tm},u∈l→tmD u≤tmDs l
 | a::l,h=>by
  rw[tmDs]
  rcases List.mem_cons.1 h with rfl | h
  ·exact Nat.le_max_left _ _
  ·exact Nat.le_trans (tmDs_mem h) (Nat.le_max_right _ _)
def RAlC (t:Tm):Prop:=∀ (t':Tm) (X Y:List ByteArray) (w:World) (ok ok' kx ky:Nat→Prop) (tk kk tk' kk' vx vy:Value),TyL ok w t.ty.kids tk→TmL ok w t.kids kk→TyL ok' w t'.ty.kids tk'→TmL ok' w t'.kids kk'→NmL kx w X vx→NmL ky w Y vy→X.length+tmD t≤900000→Y.length+tmD t≤900000 →
 Calls Tryz.prog 70 #[tmVal t tk kk,tmVal t' tk' kk',vx,vy] w fun e w'=>e=.returned (.bool (alikeT t t' X Y))∧Kept (fun _=>False) w w'
theorem ralike_name {nm:ByteArray} {N:Int} {ty:Ty} {l:List Tm} (hty:BdTy ty) (hn:l.length≤1000000):RAlC (.mk 20 nm N ty l):=by
 rintro⟨op',nm',N',ty',l'⟩ X Y w ok ok' kx ky tk kk tk' kk' vx vy h1 h2 h3 h4 hx hy bx bY
 have h1:TyL ok w ty.kids tk:=h1
 have h2:TmL ok w l kk:=h2
 have h3:TyL ok' w ty'.kids tk':=h3
 have h4:TmL ok' w l' kk':=h4
 obtain⟨a,n,c,rfl⟩:=h1.slice
 obtain⟨ma,mn,mc,rfl⟩:=h2.slice
 obtain⟨a',n',c',rfl⟩:=h3.slice
 obtain⟨ma',mn',mc',rfl⟩:=h4.slice
 obtain rfl:mn=l.length:=h2.len
 obtain rfl:mn'=l'.length:=h4.len
 change Calls Tryz.prog 70 #[.agg #[.int .i64 20,.string nm,.int .i64 N,.int .i64 ty.kind,.string ty.name,.slice a n c,.slice ma l.length mc],.agg #[.int .i64 op',.string nm',.int .i64 N',.int .i64 ty'.kind,.string ty'.name,.slice a' n' c',.slice ma' l'.length mc'],vx,vy] w _
 have bA:Blk ((w.alloc (.cells #[.int .i64 20,.string nm,.int .i64 N,.int .i64 ty.kind,.string ty.name,.slice a n c,.slice ma l.length mc] 28)).alloc (.cells #[.int .i64 op',.string nm',.int .i64 N',.int .i64 ty'.kind,.string ty'.name,.slice a' n' c',.slice ma' l'.length mc'] 28)) w.heap.size 28 [.int .i64 20,.string nm,.int .i64 N,.int .i64 ty.kind,.string ty.name,.slice a n c,.slice ma l.length mc]:=(Blk.new w 28 _).alloc _
 have bB:Blk ((w.alloc (.cells #[.int .i64 20,.string nm,.int .i64 N,.int .i64 ty.kind,.string ty.name,.slice a n c,.slice ma l.length mc] 28)).alloc (.cells #[.int .i64 op',.string nm',.int .i64 N',.int .i64 ty'.kind,.string ty'.name,.slice a' n' c',.slice ma' l'.length mc'] 28)) (w.heap.size+1) 28 [.int .i64 op',.string nm',.int .i64 N',.int .i64 ty'.kind,.string ty'.name,.slice a' n' c',.slice ma' l'.length mc']:=Blk.new' 28 _ (by simp)
 have K1:Kept (fun _=>False) w ((w.alloc (.cells #[.int .i64 20,.string nm,.int .i64 N,.int .i64 ty.kind,.string ty.name,.slice a n c,.slice ma l.length mc] 28)).alloc (.cells #[.int .i64 op',.string nm',.int .i64 N',.int .i64 ty'.kind,.string ty'.name,.slice a' n' c',.slice ma' l'.length mc'] 28)):=(kR.alloc _).alloc _
 have HT:=Ld (fun W (kW:Kept (fun _=>False) w W)=>rsameTy_any hty ty' W ok ok' _ _ (h1.frame (Same.of_kept kW (fun k h e=>e))) (h3.frame (Same.of_kept kW (fun k h e=>e))))
 have HLX:=Ld (fun W (kW:Kept (fun _=>False) w W)=>rlast_any nm (hx.frame (Same.of_kept kW (fun k h e=>e))) (by omega))
 have HLY:=Ld (fun W (kW:Kept (fun _=>False) w W)=>rlast_any nm' (hy.frame (Same.of_kept kW (fun k h e=>e))) (by omega))
 unfold tyVal at HT
 have HD:=Ld (show alikeT (.mk 20 nm N ty l) (.mk op' nm' N' ty' l') X Y=((decide (20=op')&&decide (N=N')&&tyEq ty ty'&&decide (l.length=l'.length))&&(decide (lastI nm X=lastI nm' Y)&&(decide (0≤lastI nm X)||decide (nm=nm')))) by rw[alikeT];simp)
 clear h1 h2 h3 h4 hx hy bx bY
 generalize alikeT (.mk 20 nm N ty l) (.mk op' nm' N' ty' l') X Y=rr at *
 by_cases e1:(20:Int)=op'
 case neg=>
  have t1:((20:Int)==op')=false:=by simpa using e1
  have t2:((20:Int) != op')=true:=by simpa using e1
  have HR:Hid (rr=false):=Ld (by rw[HD.out];simp[e1])
  clear e1
  go_enter Tryz.func70,Tryz.ntmps70
  go_wp2_with fail
  go_ret
  exact⟨by rw[HR.out];rfl,K1⟩
 subst e1
 by_cases e3:N=N'
 case neg=>
  have t1:(N==N')=false:=by simpa using e3
  have t2:(N != N')=true:=by simpa using e3
  have HR:Hid (rr=false):=Ld (by rw[HD.out];simp[e3])
  clear e3
  go_enter Tryz.func70,Tryz.ntmps70
  go_wp2_with fail
  go_ret
  exact⟨by rw[HR.out];rfl,K1⟩
 subst e3
 go_enter Tryz.func70,Tryz.ntmps70
 go_wp2_with fail
 generalize ((w.alloc (.cells #[.int .i64 20,.string nm,.int .i64 N,.int .i64 ty.kind,.string ty.name,.slice a n c,.slice ma l.length mc] 28)).alloc (.cells #[.int .i64 20,.string nm',.int .i64 N,.int .i64 ty'.kind,.string ty'.name,.slice a' n' c',.slice ma' l'.length mc'] 28))=w1 at *
 cases ht:tyEq ty ty'
 ·have HR:Hid (rr=false):=Ld (by rw[HD.out,ht];simp)
  refine (HT.out _ K1).mono ?_
  rintro e w2 ⟨rfl,k2⟩
  go_wp2_with fail
  go_ret
  exact⟨by rw[HR.out];rfl,K1.trans k2⟩
 refine (HT.out _ K1).mono ?_
 rintro e w2 ⟨rfl,k2⟩
 have gA2:∀ i,w2.cell? ⟨w.heap.size,i,none⟩=[Value.int .i64 20,.string nm,.int .i64 N,.int .i64 ty.kind,.string ty.name,.slice a n c,.slice ma l.length mc][i]?:=(bA.kept k2 (fun h=>h)).cell
 have gB2:∀ i,w2.cell? ⟨w.heap.size+1,i,none⟩=[Value.int .i64 20,.string nm',.int .i64 N,.int .i64 ty'.kind,.string ty'.name,.slice a' n' c',.slice ma' l'.length mc'][i]?:=(bB.kept k2 (fun h=>h)).cell
 have K2:=K1.trans k2
 clear gA2 gB2
 have bA2:=bA.kept k2 (fun h=>h)
 have bB2:=bB.kept k2 (fun h=>h)
 clear bA bB K1 k2
 have gA:∀ i,w2.cell? ⟨w.heap.size,i,none⟩=[Value.int .i64 20,.string nm,.int .i64 N,.int .i64 ty.kind,.string ty.name,.slice a n c,.slice ma l.length mc][i]?:=bA2.cell
 have gB:∀ i,w2.cell? ⟨w.heap.size+1,i,none⟩=[Value.int .i64 20,.string nm',.int .i64 N,.int .i64 ty'.kind,.string ty'.name,.slice a' n' c',.slice ma' l'.length mc'][i]?:=bB2.cell
 by_cases e4:l.length=l'.length
 case neg=>
  have t1:((l.length:Int) != (l'.length:Int))=true:=by simp;omega
  have t2:((l.length:Int)==(l'.length:Int))=false:=by simp;omega
  have HR:Hid (rr=false):=Ld (by rw[HD.out];simp[e4])
  clear e4
  go_wp2_with fail
  go_ret
  exact⟨by rw[HR.out];rfl,K2⟩
 have HR:Hid (rr=(decide (lastI nm X=lastI nm' Y)&&(decide (0≤lastI nm X)||(nm.toList==nm'.toList)))):=Ld (by rw[HD.out,ht,nm_eq];simp[e4])
 clear HD
 rw[← e4] at gB ⊢
 clear e4
 have t4:((l.length:Int) != (l.length:Int))=false:=by simp
 have x1:w2.cell? ⟨w.heap.size,1,none⟩=some (.string nm):=gA 1
 have x2:w2.cell? ⟨w.heap.size+1,1,none⟩=some (.string nm'):=gB 1
 have HS:=Ld (fun W (k:Kept (fun _=>False) w2 W)=>(⟨(bA2.kept k (fun h=>h)).cell 1,(bB2.kept k (fun h=>h)).cell 1⟩:W.cell? ⟨w.heap.size,1,none⟩=some (.string nm)∧W.cell? ⟨w.heap.size+1,1,none⟩=some (.string nm')))
 have KD:Kept (fun _=>False) w2 w2.drew:=kR.drew
 have HXY:Hid (∀ (W:World) (v:Value) (s:ByteArray) (r:Int),Kept (fun _=>False) w2 W→((s=nm∧v=vx∧r=lastI nm X)∨(s=nm'∧v=vy∧r=lastI nm' Y))→Calls Tryz.prog 113 #[.string s,v] W fun e w'=>e=.returned (.int .i64 r)∧Kept (fun _=>False) W w'):=Ld (by
  rintro W v s r k (⟨rfl,rfl,rfl⟩ | ⟨rfl,rfl,rfl⟩)
  ·exact (HLX.out W (K2.trans k)).mono fun e w' h=>⟨h.1,h.2 ▸ Kept.refl _ _⟩
  ·exact (HLY.out W (K2.trans k)).mono fun e w' h=>⟨h.1,h.2 ▸ Kept.refl _ _⟩)
 go_wp2_with fail
 clear HT bA2 bB2 HLX HLY t4 ht gA gB
 generalize lastI nm X=p at *
 generalize lastI nm' Y=q at *
 go_region_held3 (fun w'=>w'.cell? ⟨w.heap.size,1,none⟩=some (.string nm)∧w'.cell? ⟨w.heap.size+1,1,none⟩=some (.string nm')) (go_keep)
  (first | (go_at_call 113;refine (HXY.out _ _ _ _ (by first | exact KD | exact KE) (by first | exact Or.inl ⟨rfl,rfl,rfl⟩ | exact Or.inr ⟨rfl,rfl,rfl⟩)).mono ?_;rintro e wq ⟨rfl,kq⟩;first | (have KF:=KE.trans kq;obtain⟨n0,n1⟩:=HS.out _ KF) | (have KE:=KD.trans kq;obtain⟨m0,m1⟩:=HS.out _ KE)))
 all_goals
  by_cases f1:p=q
  case neg=>
   have g1:(p==q)=false:=by simpa using f1
   go_wp2_with fail
   go_ret
   exact⟨by rw[HR.out];simp[f1],K2.trans KF⟩
  subst f1
  by_cases f2:0≤p
  case pos=>
   have g2:decide (0≤p)=true:=by simpa using f2
   go_wp2_with fail
   go_ret
   exact⟨by rw[HR.out];simp[f2],K2.trans KF⟩
  have g2:decide (0≤p)=false:=by simpa using f2
  cases f3:(nm.toList==nm'.toList)
  ·go_wp2_with fail
   go_ret
   exact⟨by rw[HR.out];simp[f2,f3],K2.trans KF⟩
  ·go_wp2_with fail
   go_ret
   exact⟨by rw[HR.out];simp[f2,f3],K2.trans KF⟩
theorem ralike_one {op:Int} {nm:ByteArray} {N:Int} {ty:Ty} {l:List Tm} (h20:op≠20) (hty:BdTy ty) (IH:∀ u,u∈l→RAlC u) (hn:l.length≤1000000):RAlC (.mk op nm N ty l):=by
 rintro⟨op',nm',N',ty',l'⟩ X Y w ok ok' kx ky tk kk tk' kk' vx vy h1 h2 h3 h4 hx hy bx bY
 have h1:TyL ok w ty.kids tk:=h1
 have h2:TmL ok w l kk:=h2
 have h3:TyL ok' w ty'.kids tk':=h3
 have h4:TmL ok' w l' kk':=h4
 obtain⟨a,n,c,rfl⟩:=h1.slice
 obtain⟨ma,mn,mc,rfl⟩:=h2.slice
 obtain⟨a',n',c',rfl⟩:=h3.slice
 obtain⟨ma',mn',mc',rfl⟩:=h4.slice
 obtain rfl:mn=l.length:=h2.len
 obtain rfl:mn'=l'.length:=h4.len
 change Calls Tryz.prog 70 #[.agg #[.int .i64 op,.string nm,.int .i64 N,.int .i64 ty.kind,.string ty.name,.slice a n c,.slice ma l.length mc],.agg #[.int .i64 op',.string nm',.int .i64 N',.int .i64 ty'.kind,.string ty'.name,.slice a' n' c',.slice ma' l'.length mc'],vx,vy] w _
 have bA:Blk ((w.alloc (.cells #[.int .i64 op,.string nm,.int .i64 N,.int .i64 ty.kind,.string ty.name,.slice a n c,.slice ma l.length mc] 28)).alloc (.cells #[.int .i64 op',.string nm',.int .i64 N',.int .i64 ty'.kind,.string ty'.name,.slice a' n' c',.slice ma' l'.length mc'] 28)) w.heap.size 28 [.int .i64 op,.string nm,.int .i64 N,.int .i64 ty.kind,.string ty.name,.slice a n c,.slice ma l.length mc]:=(Blk.new w 28 _).alloc _
 have bB:Blk ((w.alloc (.cells #[.int .i64 op,.string nm,.int .i64 N,.int .i64 ty.kind,.string ty.name,.slice a n c,.slice ma l.length mc] 28)).alloc (.cells #[.int .i64 op',.string nm',.int .i64 N',.int .i64 ty'.kind,.string ty'.name,.slice a' n' c',.slice ma' l'.length mc'] 28)) (w.heap.size+1) 28 [.int .i64 op',.string nm',.int .i64 N',.int .i64 ty'.kind,.string ty'.name,.slice a' n' c',.slice ma' l'.length mc']:=Blk.new' 28 _ (by simp)
 have K1:Kept (fun _=>False) w ((w.alloc (.cells #[.int .i64 op,.string nm,.int .i64 N,.int .i64 ty.kind,.string ty.name,.slice a n c,.slice ma l.length mc] 28)).alloc (.cells #[.int .i64 op',.string nm',.int .i64 N',.int .i64 ty'.kind,.string ty'.name,.slice a' n' c',.slice ma' l'.length mc'] 28)):=(kR.alloc _).alloc _
 have HT:=Ld (fun W (kW:Kept (fun _=>False) w W)=>rsameTy_any hty ty' W ok ok' _ _ (h1.frame (Same.of_kept kW (fun k h e=>e))) (h3.frame (Same.of_kept kW (fun k h e=>e))))
 have bX:X.length+(tmDs l+1)≤900000:=by rw[tmD] at bx;exact bx
 have bY2:Y.length+(tmDs l+1)≤900000:=by rw[tmD] at bY;exact bY
 have HIH:=Ld IH
 have HAT:=Ld (fun W (k:Kept (fun _=>False) w W)=>(h2.frame (sK k)).at)
 have HAT':=Ld (fun W (k:Kept (fun _=>False) w W)=>(h4.frame (sK k)).at)
 have HX:=Ld (fun W (k:Kept (fun _=>False) w W)=>hx.frame (sK k))
 have HY:=Ld (fun W (k:Kept (fun _=>False) w W)=>hy.frame (sK k))
 have HBX:=Ld bX
 have HBY:=Ld bY2
 unfold tyVal at HT
 have HD:=Ld (show alikeT (.mk op nm N ty l) (.mk op' nm' N' ty' l') X Y=((decide (op=op')&&decide (N=N')&&tyEq ty ty'&&decide (l.length=l'.length))&&alikeK (binderB op) nm nm' 0 l l' X Y) by rw[alikeT,if_neg h20])
 clear h1 h2 h3 h4 hx hy bx bY bX bY2 IH
 generalize alikeT (.mk op nm N ty l) (.mk op' nm' N' ty' l') X Y=rr at *
 by_cases e1:op=op'
 case neg=>
  have t1:(op==op')=false:=by simpa using e1
  have t2:(op != op')=true:=by simpa using e1
  have HR:Hid (rr=false):=Ld (by rw[HD.out];simp[e1])
  clear e1
  go_enter Tryz.func70,Tryz.ntmps70
  go_wp2_with fail
  go_ret
  exact⟨by rw[HR.out];rfl,K1⟩
 subst e1
 by_cases e3:N=N'
 case neg=>
  have t1:(N==N')=false:=by simpa using e3
  have t2:(N != N')=true:=by simpa using e3
  have HR:Hid (rr=false):=Ld (by rw[HD.out];simp[e3])
  clear e3
  go_enter Tryz.func70,Tryz.ntmps70
  go_wp2_with fail
  go_ret
  exact⟨by rw[HR.out];rfl,K1⟩
 subst e3
 go_enter Tryz.func70,Tryz.ntmps70
 go_wp2_with fail
 generalize ((w.alloc (.cells #[.int .i64 op,.string nm,.int .i64 N,.int .i64 ty.kind,.string ty.name,.slice a n c,.slice ma l.length mc] 28)).alloc (.cells #[.int .i64 op,.string nm',.int .i64 N,.int .i64 ty'.kind,.string ty'.name,.slice a' n' c',.slice ma' l'.length mc'] 28))=w1 at *
 cases ht:tyEq ty ty'
 ·have HR:Hid (rr=false):=Ld (by rw[HD.out,ht];simp)
  refine (HT.out _ K1).mono ?_
  rintro e w2 ⟨rfl,k2⟩
  go_wp2_with fail
  go_ret
  exact⟨by rw[HR.out];rfl,K1.trans k2⟩
 refine (HT.out _ K1).mono ?_
 rintro e w2 ⟨rfl,k2⟩
 have gA2:∀ i,w2.cell? ⟨w.heap.size,i,none⟩=[Value.int .i64 op,.string nm,.int .i64 N,.int .i64 ty.kind,.string ty.name,.slice a n c,.slice ma l.length mc][i]?:=(bA.kept k2 (fun h=>h)).cell
 have gB2:∀ i,w2.cell? ⟨w.heap.size+1,i,none⟩=[Value.int .i64 op,.string nm',.int .i64 N,.int .i64 ty'.kind,.string ty'.name,.slice a' n' c',.slice ma' l'.length mc'][i]?:=(bB.kept k2 (fun h=>h)).cell
 have K2:=K1.trans k2
 clear gA2 gB2
 have bA2:=bA.kept k2 (fun h=>h)
 have bB2:=bB.kept k2 (fun h=>h)
 clear bA bB K1 k2
 have gA:∀ i,w2.cell? ⟨w.heap.size,i,none⟩=[Value.int .i64 op,.string nm,.int .i64 N,.int .i64 ty.kind,.string ty.name,.slice a n c,.slice ma l.length mc][i]?:=bA2.cell
 have gB:∀ i,w2.cell? ⟨w.heap.size+1,i,none⟩=[Value.int .i64 op,.string nm',.int .i64 N,.int .i64 ty'.kind,.string ty'.name,.slice a' n' c',.slice ma' l'.length mc'][i]?:=bB2.cell
 by_cases e4:l.length=l'.length
 case neg=>
  have t1:((l.length:Int) != (l'.length:Int))=true:=by simp;omega
  have t2:((l.length:Int)==(l'.length:Int))=false:=by simp;omega
  have HR:Hid (rr=false):=Ld (by rw[HD.out];simp[e4])
  clear e4
  go_wp2_with fail
  go_ret
  exact⟨by rw[HR.out];rfl,K2⟩
 have HR:Hid (rr=alikeK (binderB op) nm nm' 0 l l' X Y):=Ld (by rw[HD.out,ht];simp[e4])
 clear HD
 have E4:=Ld e4
 rw[← e4] at gB ⊢
 clear e4
 have t4:((l.length:Int) != (l.length:Int))=false:=by simp
 have t5:(op==20)=false:=by simpa using h20
 have BA:=Ld bA2
 have BB:=Ld bB2
 clear bA2 bB2
 go_wp2_with fail
 clear HT t4 ht gA gB
 go_loopw [11] (fun i wr=>∃ j:Nat,j≤l.length∧i=.int .i64 j∧Kept (fun _=>False) w2 wr∧Hid (rr=alikeK (binderB op) nm nm' j (l.drop j) (l'.drop j) X Y)) (fun i _=>l.length-(intOf i).toNat)
 case atStart=>exact⟨0,Nat.zero_le _,rfl,Kept.refl _ _,HR⟩
 case round=>
  obtain⟨j,hj,rfl,kr,hq⟩:=hrel
  have gA:∀ i,wr.cell? ⟨w.heap.size,i,none⟩=[Value.int .i64 op,.string nm,.int .i64 N,.int .i64 ty.kind,.string ty.name,.slice a n c,.slice ma l.length mc][i]?:=(BA.out.kept kr (fun h=>h)).cell
  by_cases hlt:j<l.length
  ·have hlt':j<l'.length:=by rw[← E4.out];exact hlt
   obtain⟨g,off,ta,tn,tc,na,nn,nc,rfl,_,lg,⟨c0,c1,c2,c3,c4,c5,c6⟩,hty,htm⟩:=HAT.out wr (K2.trans kr) j hlt
   obtain⟨g',off',ta',tn',tc',na',nn',nc',rfl,_,lg',⟨d0,d1,d2,d3,d4,d5,d6⟩,hty',htm'⟩:=HAT'.out wr (K2.trans kr) j hlt'
   have gB:∀ i,wr.cell? ⟨w.heap.size+1,i,none⟩=[Value.int .i64 op,.string nm',.int .i64 N,.int .i64 ty'.kind,.string ty'.name,.slice a' n' c',.slice (some ⟨g',off',none⟩) l.length mc'][i]?:=by rw[E4.out];exact (BB.out.kept kr (fun h=>h)).cell
   cases hbi:binderB op
   ·have hco:(binderB op&&j==1)=false:=by rw[hbi];rfl
    have hcon:=Ld (fun (W:World) (kW:Kept (fun _=>False) wr W)=>HIH.out _ (List.getElem_mem hlt) l'[j] X Y W ok ok' _ _ _ _ _ _ _ _ (hty.frame (Same.of_kept kW (fun k h e=>e))) (htm.frame (Same.of_kept kW (fun k h e=>e))) (hty'.frame (Same.of_kept kW (fun k h e=>e))) (htm'.frame (Same.of_kept kW (fun k h e=>e))) ((HX.out wr (K2.trans kr)).frame (Same.of_kept kW (fun k h e=>e))) ((HY.out wr (K2.trans kr)).frame (Same.of_kept kW (fun k h e=>e))) (by have:=HBX.out;have:=tmDs_mem (List.getElem_mem hlt);simp;omega) (by have:=HBY.out;have:=tmDs_mem (List.getElem_mem hlt);simp;omega))
    unfold tmVal at hcon
    have HS:=Ld (alikeK_drop (bi:=binderB op) (nm:=nm) (nm':=nm') (X:=X) (Y:=Y) hlt hlt')
    rw[hco] at HS
    simp only[Bool.false_eq_true,if_false,if_true] at HS
    clear hty hty' htm htm'
    have hj2:(j:Int)<(l.length:Int):=by omega
    have hj3:(j:Int)<1000000:=by omega
    go_wp2_with (go_at_call 67;refine cR (rbinder_t hbi _) ?_)
    go_still_tail 12,(by kernel_rfl)
    change wpList _ _ _ _ _ (World.drew wr)
    have kd:Kept (fun _=>False) wr (World.drew wr):=kR.drew
    generalize World.drew wr=w4 at *
    cases hr:alikeT l[j] l'[j] X Y
    ·rw[hr] at hcon HS
     go_wp2_with (go_at_call 70;refine (hcon.out _ kd).mono ?_;rintro e w' ⟨rfl,k2⟩)
     go_ret
     exact⟨by rw[hq.out,HS.out];rfl,((K2.trans kr).trans kd).trans k2⟩
    ·rw[hr] at hcon HS
     go_wp2_with (go_at_call 70;refine (hcon.out _ kd).mono ?_;rintro e w' ⟨rfl,k2⟩)
     go_roundw
     case rel=>exact⟨j+1,by omega,by go_num,(kr.trans kd).trans k2,Ld (by rw[hq.out,HS.out];first | rfl | (rw[hbi];rfl))⟩
     case measure=>simp[intOf];omega
   by_cases hj1:j=1
   case neg=>
    have hco:(binderB op&&j==1)=false:=by simp[hj1]
    have hj4:((j:Int)==1)=false:=by simp;omega
    have hcon:=Ld (fun (W:World) (kW:Kept (fun _=>False) wr W)=>HIH.out _ (List.getElem_mem hlt) l'[j] X Y W ok ok' _ _ _ _ _ _ _ _ (hty.frame (Same.of_kept kW (fun k h e=>e))) (htm.frame (Same.of_kept kW (fun k h e=>e))) (hty'.frame (Same.of_kept kW (fun k h e=>e))) (htm'.frame (Same.of_kept kW (fun k h e=>e))) ((HX.out wr (K2.trans kr)).frame (Same.of_kept kW (fun k h e=>e))) ((HY.out wr (K2.trans kr)).frame (Same.of_kept kW (fun k h e=>e))) (by have:=HBX.out;have:=tmDs_mem (List.getElem_mem hlt);simp;omega) (by have:=HBY.out;have:=tmDs_mem (List.getElem_mem hlt);simp;omega))
    unfold tmVal at hcon
    have HS:=Ld (alikeK_drop (bi:=binderB op) (nm:=nm) (nm':=nm') (X:=X) (Y:=Y) hlt hlt')
    rw[hco] at HS
    simp only[Bool.false_eq_true,if_false,if_true] at HS
    clear hty hty' htm htm'
    have hj2:(j:Int)<(l.length:Int):=by omega
    have hj3:(j:Int)<1000000:=by omega
    go_wp2_with (go_at_call 67;refine cR (rbinder_t hbi _) ?_)
    go_still_tail 12,(by kernel_rfl)
    change wpList _ _ _ _ _ (World.drew wr)
    have kd:Kept (fun _=>False) wr (World.drew wr):=kR.drew
    generalize World.drew wr=w4 at *
    cases hr:alikeT l[j] l'[j] X Y
    ·rw[hr] at hcon HS
     go_wp2_with (go_at_call 70;refine (hcon.out _ kd).mono ?_;rintro e w' ⟨rfl,k2⟩)
     go_ret
     exact⟨by rw[hq.out,HS.out];rfl,((K2.trans kr).trans kd).trans k2⟩
    ·rw[hr] at hcon HS
     go_wp2_with (go_at_call 70;refine (hcon.out _ kd).mono ?_;rintro e w' ⟨rfl,k2⟩)
     go_roundw
     case rel=>exact⟨j+1,by omega,by go_num,(kr.trans kd).trans k2,Ld (by rw[hq.out,HS.out];first | rfl | (rw[hbi];rfl))⟩
     case measure=>simp[intOf];omega
   subst hj1
   have hco:(binderB op&&1==1)=true:=by rw[hbi];rfl
   have x1:wr.cell? ⟨w.heap.size,1,none⟩=some (.string nm):=gA 1
   have x2:wr.cell? ⟨w.heap.size+1,1,none⟩=some (.string nm'):=gB 1
   have HS2:=Ld (fun W (k:Kept (fun _=>False) wr W)=>(⟨(BA.out.kept (kr.trans k) (fun h=>h)).cell 1,(BB.out.kept (kr.trans k) (fun h=>h)).cell 1⟩:W.cell? ⟨w.heap.size,1,none⟩=some (.string nm)∧W.cell? ⟨w.heap.size+1,1,none⟩=some (.string nm')))
   have KD:Kept (fun _=>False) wr wr.drew:=kR.drew
   have HXY:Hid (∀ (W:World) (v:Value) (s:ByteArray) (Z:List ByteArray),Kept (fun _=>False) wr W→((s=nm∧v=vx∧Z=X)∨(s=nm'∧v=vy∧Z=Y))→Calls Tryz.prog 114 #[v,.string s] W fun e w'=>∃ v',e=.returned v'∧NmL (fun _=>True) w' (Z++[s]) v'∧Kept (fun _=>False) W w'):=Ld (by
    have h1:=HBX.out
    have h2:=HBY.out
    rintro W v s Z k (⟨rfl,rfl,rfl⟩ | ⟨rfl,rfl,rfl⟩)
    ·exact (rwith_any _ (HX.out W ((K2.trans kr).trans k)) (by omega)).mono fun e w' ⟨v,h1,h2⟩=>⟨v,h1,h2.nml.mono (fun _ _ _=>trivial),h2.kp⟩
    ·exact (rwith_any _ (HY.out W ((K2.trans kr).trans k)) (by omega)).mono fun e w' ⟨v,h1,h2⟩=>⟨v,h1,h2.nml.mono (fun _ _ _=>trivial),h2.kp⟩)
   clear c0 c1 c2 c3 c4 c5 c6 d0 d1 d2 d3 d4 d5 d6 hty hty' htm htm'
   go_wp2_with (go_at_call 67;refine cR (rbinder_t hbi _) ?_)
   clear gA gB
   go_region_held3 (fun w'=>w'.cell? ⟨w.heap.size,1,none⟩=some (.string nm)∧w'.cell? ⟨w.heap.size+1,1,none⟩=some (.string nm')) (go_keep)
    (first | (go_at_call 114;refine (HXY.out _ _ _ _ (by first | exact KD | exact KE) (by first | exact Or.inl ⟨rfl,rfl,rfl⟩ | exact Or.inr ⟨rfl,rfl,rfl⟩)).mono ?_;rintro e wq ⟨vq,rfl,Rq,kq⟩;first | (have KF:=KE.trans kq;have RF:=Rq;have RE2:=RE.frame (sK kq);obtain⟨n0,n1⟩:=HS2.out _ KF) | (have KE:=KD.trans kq;have RE:=Rq;obtain⟨m0,m1⟩:=HS2.out _ KE)))
   all_goals
    have KW:=kr.trans KF
    have gA2:∀ i,wq.cell? ⟨w.heap.size,i,none⟩=[Value.int .i64 op,.string nm,.int .i64 N,.int .i64 ty.kind,.string ty.name,.slice a n c,.slice (some ⟨g,off,none⟩) l.length mc][i]?:=(BA.out.kept KW (fun h=>h)).cell
    have gB2:∀ i,wq.cell? ⟨w.heap.size+1,i,none⟩=[Value.int .i64 op,.string nm',.int .i64 N,.int .i64 ty'.kind,.string ty'.name,.slice a' n' c',.slice (some ⟨g',off',none⟩) l.length mc'][i]?:=by rw[E4.out];exact (BB.out.kept KW (fun h=>h)).cell
    obtain⟨g2,off2,ta,tn,tc,na,nn,nc,e2,_,lg,⟨c0,c1,c2,c3,c4,c5,c6⟩,hty,htm⟩:=HAT.out wq (K2.trans KW) 1 hlt
    cases e2
    obtain⟨g2',off2',ta',tn',tc',na',nn',nc',e2,_,lg',⟨d0,d1,d2,d3,d4,d5,d6⟩,hty',htm'⟩:=HAT'.out wq (K2.trans KW) 1 hlt'
    cases e2
    clear n0 n1 m0 m1 x1 x2 HS2 HXY KD KE RE
    have hcon:=Ld (fun (W:World) (kW:Kept (fun _=>False) wq W)=>HIH.out _ (List.getElem_mem hlt) l'[1] (X++[nm]) (Y++[nm']) W ok ok' _ _ _ _ _ _ _ _ (hty.frame (Same.of_kept kW (fun k h e=>e))) (htm.frame (Same.of_kept kW (fun k h e=>e))) (hty'.frame (Same.of_kept kW (fun k h e=>e))) (htm'.frame (Same.of_kept kW (fun k h e=>e))) ((RE2).frame (Same.of_kept kW (fun k h e=>e))) ((RF).frame (Same.of_kept kW (fun k h e=>e))) (by have:=HBX.out;have:=tmDs_mem (List.getElem_mem hlt);simp;omega) (by have:=HBY.out;have:=tmDs_mem (List.getElem_mem hlt);simp;omega))
    unfold tmVal at hcon
    have HS:=Ld (alikeK_drop (bi:=binderB op) (nm:=nm) (nm':=nm') (X:=X) (Y:=Y) hlt hlt')
    rw[hco] at HS
    simp only[Bool.false_eq_true,if_false,if_true] at HS
    clear hty hty' htm htm'
    have hj2:((1:Nat):Int)<(l.length:Int):=by omega
    have hj3:((1:Nat):Int)<1000000:=by omega
    go_wp2_with fail
    go_still_tail 12,(by kernel_rfl)
    change wpList _ _ _ _ _ (World.drew wq)
    have kd:Kept (fun _=>False) wq (World.drew wq):=kR.drew
    generalize World.drew wq=w4 at *
    cases hr:alikeT l[1] l'[1] (X++[nm]) (Y++[nm'])
    ·rw[hr] at hcon HS
     go_wp2_with (go_at_call 70;refine (hcon.out _ kd).mono ?_;rintro e w' ⟨rfl,k2⟩)
     go_ret
     exact⟨by rw[hq.out,HS.out];rfl,((K2.trans KW).trans kd).trans k2⟩
    ·rw[hr] at hcon HS
     go_wp2_with (go_at_call 70;refine (hcon.out _ kd).mono ?_;rintro e w' ⟨rfl,k2⟩)
     go_roundw
     case rel=>exact⟨1+1,by omega,by go_num,(KW.trans kd).trans k2,Ld (by rw[hq.out,HS.out];first | rfl | (rw[hbi];rfl))⟩
     case measure=>simp[intOf];omega
  ·have HZ:Hid (rr=true):=Ld (by rw[hq.out,alikeK_end (by omega)])
   go_wp2_with fail
   go_ret
   exact⟨by rw[HZ.out];rfl,K2.trans kr⟩
theorem ralike_any {t:Tm} (hb:BdTm t):RAlC t:=by
 induction hb with
 | mk hn ht hl ih=>
  rename_i o n i t l
  by_cases h:o=20
  ·subst h;exact ralike_name ht hn
  ·exact ralike_one h ht ih hn
theorem frLs_drop {B:List ByteArray} {bi:Bool} {nm:ByteArray} {l:List Tm} {k:Nat} (h:k<l.length):frLs B bi nm k (l.drop k)=frL (if bi&&k==1 then B++[nm] else B) l[k]++frLs B bi nm (k+1) (l.drop (k+1)):=by
 rw[List.drop_eq_getElem_cons h,frLs]
theorem frL_len:∀ (t:Tm) (B:List ByteArray),(frL B t).length≤tmN t:=by
 intro t
 induction t using Tm.rec (motive_2:=fun l=>∀ (B:List ByteArray) (bi:Bool) (nm:ByteArray) (i:Nat),(frLs B bi nm i l).length≤tmNs l) with
 | mk op nm N ty l ih=>
  intro B
  rw[frL,tmN]
  split
  ·split <;> simp
  ·have:=ih B (binderB op) nm 0;omega
 | nil=>exact Nat.le_refl _
 | cons t l iht ihl=>
  rename_i B bi nm i
  rw[frLs,List.length_append,tmNs]
  have h1:=iht (if bi&&i==1 then B++[nm] else B)
  have h2:=ihl B bi nm (i+1)
  omega
theorem own_name {w:World} {base g:Nat} {s:ByteArray} (hb:Blk w g 9 [.string s]) (hg:base≤g):w.ownsRow base 9 1 (.slice (some ⟨g,0,none⟩) 1 1) [s].length ([s].map Value.string):=
 ⟨rfl,.inr ⟨g,1,_,rfl,hg,hb,Nat.le_refl _,by unfold maxLen;omega,rfl,rfl⟩⟩
def RFrC (t:Tm):Prop:=∀ (B:List ByteArray) (w:World) (ok okB:Nat→Prop) (tk kk v:Value),TyL ok w t.ty.kids tk→TmL ok w t.kids kk→NmL okB w B v→B.length+tmD t≤900000→tmN t≤700000 →
 Calls Tryz.prog 88 #[tmVal t tk kk,v] w fun e w'=>∃ v',e=.returned v'∧NRow w w.heap.size w' (frL B t) v'
theorem rfree_name {nm:ByteArray} {N:Int} {ty:Ty} {l:List Tm}:RFrC (.mk 20 nm N ty l):=by
 intro B w ok okB tk kk v h1 h2 hB hd hz
 have h1:TyL ok w ty.kids tk:=h1
 have h2:TmL ok w l kk:=h2
 obtain⟨a,n,c,rfl⟩:=h1.slice
 obtain⟨ma,mn,mc,rfl⟩:=h2.slice
 change Calls Tryz.prog 88 #[.agg #[.int .i64 20,.string nm,.int .i64 N,.int .i64 ty.kind,.string ty.name,.slice a n c,.slice ma mn mc],v] w _
 have K1:Kept (fun _=>False) w (w.alloc (.cells #[.int .i64 20,.string nm,.int .i64 N,.int .i64 ty.kind,.string ty.name,.slice a n c,.slice ma mn mc] 28)):=kR.alloc _
 have HI:=Ld (rinN_any nm (hB.frame (sK K1)) (by omega))
 have HK:=Ld K1
 have HR:Hid (frL B (.mk 20 nm N ty l)=if mb nm B then [] else [nm]):=Ld (by rw[frL,if_pos rfl])
 clear h1 h2 hB hd hz K1
 generalize frL B (.mk 20 nm N ty l)=r at *
 go_enter Tryz.func88,Tryz.ntmps88
 go_wp2_with fail
 have bA:=Ld (Blk.new w 28 [.int .i64 20,.string nm,.int .i64 N,.int .i64 ty.kind,.string ty.name,.slice a n c,.slice ma mn mc])
 change Hid (Blk (w.alloc (.cells #[.int .i64 20,.string nm,.int .i64 N,.int .i64 ty.kind,.string ty.name,.slice a n c,.slice ma mn mc] 28)) _ _ _) at bA
 generalize w.alloc (.cells #[.int .i64 20,.string nm,.int .i64 N,.int .i64 ty.kind,.string ty.name,.slice a n c,.slice ma mn mc] 28)=w1 at *
 refine HI.out.mono ?_
 rintro e w2 ⟨rfl,rfl⟩
 cases hm:mb nm B
 ·have hq:Hid (r=[nm]):=Ld (by rw[HR.out,hm];rfl)
  have gA:=bA.out.cell
  clear hm HI
  go_wp2_with fail
  go_ret
  exact⟨_,rfl,by rw[hq.out];exact⟨HK.out.alloc _,own_name (Blk.new w1 9 [.string nm]) HK.out.size⟩⟩
 ·have hq:Hid (r=[]):=Ld (by rw[HR.out,hm];rfl)
  clear hm HI
  go_wp2_with fail
  go_ret
  exact⟨_,rfl,by rw[hq.out];exact⟨HK.out,World.ownsRow_nil _ _ _ _⟩⟩
theorem rfree_one {op:Int} {nm:ByteArray} {N:Int} {ty:Ty} {l:List Tm} (hop:op≠20) (IH:∀ u,u∈l→RFrC u) (hn:l.length≤1000000):RFrC (.mk op nm N ty l):=by
 intro B w ok okB tk kk v h1 h2 hB hd hz
 have h1:TyL ok w ty.kids tk:=h1
 have h2:TmL ok w l kk:=h2
 obtain⟨a,n,c,rfl⟩:=h1.slice
 obtain⟨ma,mn,mc,rfl⟩:=h2.slice
 obtain⟨ba,bc,rfl⟩:=hB.slice
 obtain rfl:mn=l.length:=h2.len
 change Calls Tryz.prog 88 #[.agg #[.int .i64 op,.string nm,.int .i64 N,.int .i64 ty.kind,.string ty.name,.slice a n c,.slice ma l.length mc],.slice ba B.length bc] w _
 have K1:Kept (fun _=>False) w (w.alloc (.cells #[.int .i64 op,.string nm,.int .i64 N,.int .i64 ty.kind,.string ty.name,.slice a n c,.slice ma l.length mc] 28)):=kR.alloc _
 have hop2:(op==20)=false:=by simp[hop]
 have bA:=Ld (Blk.new w 28 [.int .i64 op,.string nm,.int .i64 N,.int .i64 ty.kind,.string ty.name,.slice a n c,.slice ma l.length mc])
 have HR:Hid (frL B (.mk op nm N ty l)=frLs B (binderB op) nm 0 l):=Ld (by rw[frL,if_neg hop])
 rw[tmD] at hd
 rw[tmN] at hz
 have HD:=Ld hd
 have HZ0:=Ld hz
 have HN:=Ld hn
 have HAT:=Ld (fun W (k:Kept (fun _=>False) w W)=>(h2.frame (sK k)).at)
 have HBF:=Ld (fun W (k:Kept (fun _=>False) w W)=>hB.frame (sK k))
 have HIH:=Ld IH
 have HK:=Ld K1
 clear h1 h2 hB hd hz K1 IH hn hop
 have hRL:Hid ((frL B (.mk op nm N ty l)).length≤700000):=Ld (by have h1:=frL_len (.mk op nm N ty l) B;rw[tmN] at h1;have:=HZ0.out;omega)
 generalize frL B (.mk op nm N ty l)=r at *
 go_enter Tryz.func88,Tryz.ntmps88
 go_wp2_with fail
 change Hid (Blk (w.alloc (.cells #[.int .i64 op,.string nm,.int .i64 N,.int .i64 ty.kind,.string ty.name,.slice a n c,.slice ma l.length mc] 28)) _ _ _) at bA
 generalize w.alloc (.cells #[.int .i64 op,.string nm,.int .i64 N,.int .i64 ty.kind,.string ty.name,.slice a n c,.slice ma l.length mc] 28)=w1 at *
 go_loopw [5,6,7] (fun v i b wr=>∃ (k:Nat) (out:List ByteArray),k≤l.length∧i=.int .i64 k∧NRow w w.heap.size wr out v∧Hid (Blk wr w.heap.size 28 [.int .i64 op,.string nm,.int .i64 N,.int .i64 ty.kind,.string ty.name,.slice a n c,.slice ma l.length mc]∧r=out++frLs B (binderB op) nm k (l.drop k)∧v.ownBlock≠some w.heap.size)) (fun v i b _=>l.length-(intOf i).toNat)
 case atStart=>exact⟨0,[],Nat.zero_le _,rfl,⟨HK.out,World.ownsRow_nil _ _ _ _⟩,Ld ⟨bA.out,HR.out,fun e=>by cases e⟩⟩
 case round=>
  obtain⟨k,out,hkl,rfl,hR,hq⟩:=hrel
  obtain⟨va,vc,hv⟩:=hR.nml.slice
  subst hv
  have R:=Ld hR
  clear hR
  have gA:=hq.out.1.cell
  by_cases hlt:k<l.length
  ·have i1:(k:Int)<(l.length:Int):=by omega
   have i2:(k:Int)<1000000:=by have:=HN.out;omega
   obtain⟨g,off,ta,tn,tc,qa,qn,qc,rfl,_,lg,⟨c0,c1,c2,c3,c4,c5,c6⟩,hty,htm⟩:=HAT.out wr R.out.kp k hlt
   have HD2:=Ld (frLs_drop (B:=B) (bi:=binderB op) (nm:=nm) hlt)
   have HBD:Hid (∀ B':List ByteArray,B'.length≤B.length+1→B'.length+tmD l[k]≤900000):=Ld (fun B' hb'=>by
    have h1:=tmDs_mem (List.getElem_mem hlt)
    have h2:=HD.out
    omega)
   have HZ1:Hid (tmN l[k]≤700000):=Ld (by
    have h1:=(tmD_kid (List.getElem_mem hlt)).2
    have h2:=HZ0.out
    omega)
   obtain⟨i9,hi9,hz9,hs9,hb9⟩:=info_str
   have HI9:=Ld hi9
   have HZ9:=Ld hz9
   have HS9:=Ld hs9
   have HB9:=Ld hb9
   have HKF:=Ld (fun (B':List ByteArray) (v':Value) (ok3:Nat→Prop) W (kW:Kept (fun _=>False) wr W) (hb':B'.length≤B.length+1) (hB':NmL ok3 W B' v')=>(HIH.out _ (List.getElem_mem hlt)) B' W ok ok3 _ _ _ (hty.frame (sK kW)) (htm.frame (sK kW)) hB' (HBD.out _ hb') HZ1.out)
   unfold tmVal at HKF
   have RW:=Ld (fun W (kW:Kept (fun _=>False) wr W)=>(⟨R.out.kp.trans kW,own_keptT R.out.own kW (fun _ _ h=>h)⟩:NRow w w.heap.size W out (.slice va out.length vc)))
   have hbx:Hid (∀ W,Kept (fun _=>False) wr W→Blk W w.heap.size 28 [.int .i64 op,.string nm,.int .i64 N,.int .i64 ty.kind,.string ty.name,.slice a n c,.slice (some ⟨g,off,none⟩) l.length mc]):=Ld (fun W kW=>hq.out.1.kept kW (fun h=>h))
   clear hty htm hi9 hz9 hs9 hb9 HBD HZ1
   go_wp2_with fail
   cases hbi:binderB op
   ·have hBI:Hid ((if binderB op&&k==1 then B++[nm] else B)=B):=Ld (by rw[hbi];rfl)
    refine (rbinder_t hbi _).mono ?_
    rintro e w4 ⟨rfl,rfl⟩
    clear hbi
    have KWW:Kept (fun _=>False) wr wr:=Kept.refl _ _
    skip
    go_wp2_with fail
    refine (HKF.out B _ _ wr kR (Nat.le_succ _) (HBF.out wr R.out.kp)).mono ?_
    rintro e w6 ⟨v3,rfl,h3⟩
    obtain⟨xa,xc,hv3⟩:=h3.nml.slice
    subst hv3
    have K6:=(KWW).trans h3.kp
    have R6:=Ld (RW.out w6 K6)
    have B6:=Ld (hbx.out w6 K6)
    have S3:=Ld h3.nml.src
    have hz6:=(frL_len l[k] (B))
    have HLEN:Hid (out.length+(frL (B) l[k]).length≤700000):=Ld (by
     have h5:=hRL.out
     rw[hq.out.2.1,HD2.out,hBI.out,List.length_append,List.length_append] at h5
     omega)
    have hEQ:Hid (r=(out++frL (B) l[k])++frLs B (binderB op) nm (k+1) (l.drop (k+1))):=Ld (by rw[hq.out.2.1,HD2.out,hBI.out,List.append_assoc])
    have hOB:=hq.out.2.2
    have zw6:=R6.out.kp.size
    clear h3 K6 hz6 gA
    go_wp2_with (at_builtin;refine wpList_app_src rfl (.tmp 37) (.tmp 44) _ rfl w.heap.size 9 i9 _ 1 16 Tryz.underlying41 HI9.out HZ9.out HS9.out HB9.out rfl (by decide) (.slice va out.length vc) out.length (out.map Value.string) rfl R6.out.own (.slice xa (frL (B) l[k]).length xc) (frL (B) l[k]).length ((frL (B) l[k]).map Value.string) rfl S3.out (by simp) (strs_one _) ?_ ?_ zw6 ?_)
    ·have:=HLEN.out;unfold maxLen;omega
    ·have:=HLEN.out;omega
    intro v7 w7 own7 hg7 hat7
    have R7:=Ld (NRow.app R6.out (Nat.le_refl _) own7 hg7)
    have B7:=Ld (B6.out.kept (kept_grown1 hg7) (fun e=>hOB e))
    have hO7:Hid (v7.ownBlock≠some w.heap.size):=Ld (by
     have lb:=B6.out.lt
     rcases hat7 with h | h
     ·rw[h];exact hOB
     ·rw[h];intro e;have:=Option.some.inj e;omega)
    clear own7 hg7 hat7 hOB zw6
    go_wp2_with fail
    go_roundw
    case rel=>exact⟨k+1,_,by omega,by go_num,R7.out,Ld ⟨B7.out,hEQ.out,hO7.out⟩⟩
    case measure=>simp[intOf];omega
   ·cases hk1:((k:Int)==1)
    ·have hBI:Hid ((if binderB op&&k==1 then B++[nm] else B)=B):=Ld (by
      have:(k==1)=false:=by simp at hk1;simp;omega
      rw[this];simp)
     refine (rbinder_t hbi _).mono ?_
     rintro e w4 ⟨rfl,rfl⟩
     clear hbi
     have KWW:Kept (fun _=>False) wr wr:=Kept.refl _ _
     skip
     go_wp2_with fail
     refine (HKF.out B _ _ wr kR (Nat.le_succ _) (HBF.out wr R.out.kp)).mono ?_
     rintro e w6 ⟨v3,rfl,h3⟩
     obtain⟨xa,xc,hv3⟩:=h3.nml.slice
     subst hv3
     have K6:=(KWW).trans h3.kp
     have R6:=Ld (RW.out w6 K6)
     have B6:=Ld (hbx.out w6 K6)
     have S3:=Ld h3.nml.src
     have hz6:=(frL_len l[k] (B))
     have HLEN:Hid (out.length+(frL (B) l[k]).length≤700000):=Ld (by
      have h5:=hRL.out
      rw[hq.out.2.1,HD2.out,hBI.out,List.length_append,List.length_append] at h5
      omega)
     have hEQ:Hid (r=(out++frL (B) l[k])++frLs B (binderB op) nm (k+1) (l.drop (k+1))):=Ld (by rw[hq.out.2.1,HD2.out,hBI.out,List.append_assoc])
     have hOB:=hq.out.2.2
     have zw6:=R6.out.kp.size
     clear h3 K6 hz6 gA
     go_wp2_with (at_builtin;refine wpList_app_src rfl (.tmp 37) (.tmp 44) _ rfl w.heap.size 9 i9 _ 1 16 Tryz.underlying41 HI9.out HZ9.out HS9.out HB9.out rfl (by decide) (.slice va out.length vc) out.length (out.map Value.string) rfl R6.out.own (.slice xa (frL (B) l[k]).length xc) (frL (B) l[k]).length ((frL (B) l[k]).map Value.string) rfl S3.out (by simp) (strs_one _) ?_ ?_ zw6 ?_)
     ·have:=HLEN.out;unfold maxLen;omega
     ·have:=HLEN.out;omega
     intro v7 w7 own7 hg7 hat7
     have R7:=Ld (NRow.app R6.out (Nat.le_refl _) own7 hg7)
     have B7:=Ld (B6.out.kept (kept_grown1 hg7) (fun e=>hOB e))
     have hO7:Hid (v7.ownBlock≠some w.heap.size):=Ld (by
      have lb:=B6.out.lt
      rcases hat7 with h | h
      ·rw[h];exact hOB
      ·rw[h];intro e;have:=Option.some.inj e;omega)
     clear own7 hg7 hat7 hOB zw6
     go_wp2_with fail
     go_roundw
     case rel=>exact⟨k+1,_,by omega,by go_num,R7.out,Ld ⟨B7.out,hEQ.out,hO7.out⟩⟩
     case measure=>simp[intOf];omega
    ·have hBI:Hid ((if binderB op&&k==1 then B++[nm] else B)=B++[nm]):=Ld (by
      have:(k==1)=true:=by simp at hk1;simp;omega
      rw[this,hbi];rfl)
     refine (rbinder_t hbi _).mono ?_
     rintro e w4 ⟨rfl,rfl⟩
     clear hbi
     have HW:=Ld (rwith_any nm (HBF.out wr R.out.kp) (by have:=HD.out;omega))
     go_wp2_with fail
     refine HW.out.mono ?_
     rintro e w5 ⟨v5,rfl,h5⟩
     obtain⟨ya,yc,hv5⟩:=h5.nml.slice
     rw[List.length_append,List.length_singleton] at hv5
     subst hv5
     have KWW:Kept (fun _=>False) wr w5:=h5.kp
     have HN5:=Ld h5.nml
     have gA5:=(hbx.out w5 KWW).cell
     have C5:C7 w5 g (off+k*7) l[k] (.slice ta tn tc) (.slice qa qn qc):=C7.kept ⟨c0,c1,c2,c3,c4,c5,c6⟩ KWW (fun h=>h)
     obtain⟨d0,d1,d2,d3,d4,d5,d6⟩:=C5
     clear h5 HW gA c0 c1 c2 c3 c4 c5 c6
     have gA:=gA5
     clear gA5
     skip
     go_wp2_with fail
     refine (HKF.out (B++[nm]) _ _ w5 KWW (by simp) HN5.out).mono ?_
     rintro e w6 ⟨v3,rfl,h3⟩
     obtain⟨xa,xc,hv3⟩:=h3.nml.slice
     subst hv3
     have K6:=(KWW).trans h3.kp
     have R6:=Ld (RW.out w6 K6)
     have B6:=Ld (hbx.out w6 K6)
     have S3:=Ld h3.nml.src
     have hz6:=(frL_len l[k] (B++[nm]))
     have HLEN:Hid (out.length+(frL (B++[nm]) l[k]).length≤700000):=Ld (by
      have h5:=hRL.out
      rw[hq.out.2.1,HD2.out,hBI.out,List.length_append,List.length_append] at h5
      omega)
     have hEQ:Hid (r=(out++frL (B++[nm]) l[k])++frLs B (binderB op) nm (k+1) (l.drop (k+1))):=Ld (by rw[hq.out.2.1,HD2.out,hBI.out,List.append_assoc])
     have hOB:=hq.out.2.2
     have zw6:=R6.out.kp.size
     clear h3 K6 hz6 gA
     go_wp2_with (at_builtin;refine wpList_app_src rfl (.tmp 37) (.tmp 44) _ rfl w.heap.size 9 i9 _ 1 16 Tryz.underlying41 HI9.out HZ9.out HS9.out HB9.out rfl (by decide) (.slice va out.length vc) out.length (out.map Value.string) rfl R6.out.own (.slice xa (frL (B++[nm]) l[k]).length xc) (frL (B++[nm]) l[k]).length ((frL (B++[nm]) l[k]).map Value.string) rfl S3.out (by simp) (strs_one _) ?_ ?_ zw6 ?_)
     ·have:=HLEN.out;unfold maxLen;omega
     ·have:=HLEN.out;omega
     intro v7 w7 own7 hg7 hat7
     have R7:=Ld (NRow.app R6.out (Nat.le_refl _) own7 hg7)
     have B7:=Ld (B6.out.kept (kept_grown1 hg7) (fun e=>hOB e))
     have hO7:Hid (v7.ownBlock≠some w.heap.size):=Ld (by
      have lb:=B6.out.lt
      rcases hat7 with h | h
      ·rw[h];exact hOB
      ·rw[h];intro e;have:=Option.some.inj e;omega)
     clear own7 hg7 hat7 hOB zw6
     go_wp2_with fail
     go_roundw
     case rel=>exact⟨k+1,_,by omega,by go_num,R7.out,Ld ⟨B7.out,hEQ.out,hO7.out⟩⟩
     case measure=>simp[intOf];omega
  ·have hkk:k=l.length:=by omega
   subst hkk
   have HE:Hid (r=out):=Ld (by rw[hq.out.2.1,List.drop_length];simp[frLs])
   go_wp2_with fail
   go_ret
   exact⟨_,rfl,by rw[HE.out];exact R.out⟩
theorem rfree_any {t:Tm} (hb:BdTm t):RFrC t:=by
 induction hb with
 | mk hn ht hl ih=>
  rename_i o n i t l
  by_cases h:o=20
  ·subst h;exact rfree_name
  ·exact rfree_one h ih hn
theorem frL_nil (t:Tm):frL [] t=fr t:=by
 rw[frL_eq]
 exact List.filter_eq_self.2 (fun s _=>rfl)
theorem remG_drop {x:ByteArray} {F:List ByteArray} {out l:List (ByteArray×Tm)} {k:Nat} (h:k<l.length):remG x F out (l.drop k)=if (look out l[k].1).isSome||decide (l[k].1=x)||!mb l[k].1 F then remG x F out (l.drop (k+1)) else remG x F (out++[l[k]]) (l.drop (k+1)):=by
 rw[List.drop_eq_getElem_cons h,remG]
theorem rrem_any {l:List (ByteArray×Tm)} {x:ByteArray} {body:Tm} {ok ok':Nat→Prop} {w:World} {vl tk kk:Value} (hB:BnL ok w l vl) (hn:l.length≤100000) (h1:TyL ok' w body.ty.kids tk) (h2:TmL ok' w body.kids kk) (hb:BdTm body) (hd:tmD body≤900000) (hz:tmN body≤700000):
  Calls Tryz.prog 131 #[vl,.string x,tmVal body tk kk] w fun e w'=>∃ E v,e=.returned v∧RowB (fun q=>ok q∧q<w.heap.size) w (w.heap.size+1) w' E v∧E.map (·.1)=remL l x (fr body):=by
 obtain⟨a,c,rfl⟩:=hB.slice
 obtain⟨p,n,cp,rfl⟩:=h1.slice
 obtain⟨ma,mn,mc,rfl⟩:=h2.slice
 have K0:Kept (fun _=>False) w (w.alloc (.cells #[.int .i64 body.op,.string body.name,.int .i64 body.n,.int .i64 body.ty.kind,.string body.ty.name,.slice p n cp,.slice ma mn mc] 28)):=kR.alloc _
 have z0:w.heap.size+1≤(w.alloc (.cells #[.int .i64 body.op,.string body.name,.int .i64 body.n,.int .i64 body.ty.kind,.string body.ty.name,.slice p n cp,.slice ma mn mc] 28)).heap.size:=by simp
 have HF:=Ld (rfree_any hb [] _ _ (fun _=>True) _ _ _ (h1.frame (sK K0)) (h2.frame (sK K0)) .nil (by simpa using hd) hz)
 rw[frL_nil] at HF
 have HFL:Hid ((fr body).length≤700000):=Ld (by have h5:=frL_len body [];rw[frL_nil] at h5;omega)
 have HAT:=Ld (fun W (k:Kept (fun _=>False) w W)=>((hB.mono (ok':=fun q=>ok q∧q<w.heap.size) (fun q h1 h2=>⟨h2,h1⟩)).frame (sK k)).at)
 have HN:=Ld hn
 have HK:=Ld K0
 have HZ:=Ld z0
 clear hB hn h1 h2 hb hd hz K0 z0
 unfold tmVal at HF ⊢
 have HRL:Hid (remL l x (fr body)=remG x (fr body) [] l):=Ld rfl
 generalize remL l x (fr body)=rr at *
 generalize fr body=F at *
 go_enter Tryz.func131,Tryz.ntmps131
 go_wp2_with fail
 generalize w.alloc (.cells #[.int .i64 body.op,.string body.name,.int .i64 body.n,.int .i64 body.ty.kind,.string body.ty.name,.slice p n cp,.slice ma mn mc] 28)=w1 at *
 refine HF.out.mono ?_
 rintro e w2 ⟨v7,rfl,h7⟩
 obtain⟨fa,fc,hv7⟩:=h7.nml.slice
 subst hv7
 have K2:=HK.out.trans h7.kp
 have HIN:=Ld (fun W (k:Kept (fun _=>False) w2 W) (s:ByteArray)=>rinN_any s (h7.nml.frame (sK k)) (by have:=HFL.out;omega))
 have HK2:=Ld K2
 have hz2:Hid (w.heap.size+1≤w2.heap.size):=Ld (Nat.le_trans HZ.out h7.kp.size)
 clear h7 K2 HF HK HZ
 go_wp2_with fail
 go_loopw [8,9,10,11] (fun v i q b wr=>∃ (k:Nat) (E:List E4),k≤l.length∧i=.int .i64 k∧RowB (fun q=>ok q∧q<w.heap.size) w2 w2.heap.size wr E v∧Hid (rr=remG x F (E.map (·.1)) (l.drop k)∧E.length≤k)) (fun v i q b _=>l.length-(intOf i).toNat)
 case atStart=>exact⟨0,[],Nat.zero_le _,rfl,RowB.nil kR (fun q hq=>by have:=hz2.out;omega),Ld ⟨HRL.out,Nat.le_refl _⟩⟩
 case round=>
  obtain⟨k,E,hkl,rfl,hR,hq⟩:=hrel
  obtain⟨va,vc,hv⟩:=hR.bnl.slice
  rw[List.length_map] at hv
  subst hv
  have R:=Ld hR
  clear hR
  by_cases hlt:k<l.length
  ·have i1:(k:Int)<(l.length:Int):=by omega
   have i2:(k:Int)<1000000:=by have:=HN.out;omega
   obtain⟨g,off,ta,tn,tc,qa,qn,qc,rfl,hg,lg,c0,C0,hty,htm⟩:=HAT.out wr (HK2.out.trans R.out.kp) k hlt
   have HD:=Ld (remG_drop (x:=x) (F:=F) (out:=E.map (·.1)) hlt)
   have hlen:(E.map (·.1)).length≤1000000:=by rw[List.length_map];have:=hq.out.2;have:=HN.out;omega
   have HBO:=Ld (rbof_any l[k].1 R.out.bnl hlen)
   rw[List.length_map] at hlen
   have HTY:=Ld (fun W (kW:Kept (fun _=>False) wr W)=>hty.frame (sK kW))
   have HTM:=Ld (fun W (kW:Kept (fun _=>False) wr W)=>htm.frame (sK kW))
   have HC7:=Ld (fun W (kW:Kept (fun _=>False) wr W)=>C0.kept kW (fun h=>h))
   have HC0:=Ld (fun W (kW:Kept (fun _=>False) wr W)=>(by rw[kW.cell (p:=⟨g,off+k*8,none⟩) (cell_lt c0) (fun h=>h)];exact c0:W.cell? ⟨g,off+k*8,none⟩=some (.string l[k].1)))
   have HSK:Hid (((look (E.map (·.1)) l[k].1).isSome||decide (l[k].1=x)||!mb l[k].1 F)=true→rr=remG x F (E.map (·.1)) (l.drop (k+1))):=Ld (fun h=>by rw[hq.out.1,HD.out,if_pos h])
   have HAD:Hid (((look (E.map (·.1)) l[k].1).isSome||decide (l[k].1=x)||!mb l[k].1 F)=false→rr=remG x F (E.map (·.1)++[l[k]]) (l.drop (k+1))):=Ld (fun h=>by rw[hq.out.1,HD.out,if_neg (by rw[h];simp)])
   clear hty htm C0
   unfold BofP tmVal at HBO
   generalize (look (E.map (·.1)) l[k].1).getD tm0=o at *
   generalize (look (E.map (·.1)) l[k].1).isSome=b0 at *
   go_wp2_with fail
   refine HBO.out.mono ?_
   rintro e w5 ⟨otk,okk,rfl,ht5,hm5,k5⟩
   obtain⟨ua,un,uc,rfl⟩:=ht5.slice
   obtain⟨ya,yn,yc,rfl⟩:=hm5.slice
   clear ht5 hm5 HBO c0
   go_upto_region 7 with (fail)
   have K6:Kept (fun _=>False) wr (w5.alloc (.cells #[.int .i64 o.op,.string o.name,.int .i64 o.n,.int .i64 o.ty.kind,.string o.ty.name,.slice ua un uc,.slice ya yn yc] 28)):=k5.alloc _
   generalize w5.alloc (.cells #[.int .i64 o.op,.string o.name,.int .i64 o.n,.int .i64 o.ty.kind,.string o.ty.name,.slice ua un uc,.slice ya yn yc] 28)=w6 at *
   have R6:=Ld (R.out.kept K6)
   have d0:=HC0.out w6 K6
   obtain⟨e0,e1,e2,e3,e4,e5,e6⟩:=HC7.out w6 K6
   have T6:=Ld (HTY.out w6 K6)
   have M6:=Ld (HTM.out w6 K6)
   have HI6:=Ld (HIN.out w6 R6.out.kp l[k].1)
   clear k5 K6 R HTY HTM HC7 HC0
   cases b0
   ·cases hs:(l[k].1.toList==x.toList)
    ·have hne:decide (l[k].1=x)=false:=by rw[nm_eq] at hs;exact hs
     go_wp2_with fail
     refine HI6.out.mono ?_
     rintro e w7 ⟨rfl,rfl⟩
     cases hm:mb l[k].1 F
     ·have HSK2:Hid (rr=remG x F (E.map (·.1)) (l.drop (k+1))):=Ld (HSK.out (by rw[hne,hm];rfl))
      clear HSK HAD hm hne
      go_wp2_with fail
      go_roundw
      case rel=>exact⟨k+1,E,by omega,by go_num,R6.out,Ld ⟨HSK2.out,by have:=hq.out.2;omega⟩⟩
      case measure=>simp[intOf];omega
     ·have HAD2:Hid (rr=remG x F ((E++[((l[k],Value.slice ta tn tc,Value.slice qa qn qc):E4)]).map (fun e=>e.1)) (l.drop (k+1))):=Ld (by rw[List.map_append];exact HAD.out (by rw[hne,hm];rfl))
      clear HSK HAD hm hne
      obtain⟨i53,hi,hz,hsz,hby⟩:=info_bd
      have HI:=Ld hi
      have HZ:=Ld hz
      have HS:=Ld hsz
      have HB:=Ld hby
      have zw:=R6.out.kp.size
      have HEL:Hid (E.length≤100000):=Ld (by have:=hq.out.2;have:=HN.out;omega)
      clear hi hz hsz hby
      go_wp2_with (at_builtin;refine wpList_app_src rfl (.tmp 50) (.tmp 55) _ rfl w2.heap.size 53 i53 _ 8 120 Tryz.underlying48 HI.out HZ.out HS.out HB.out rfl (by decide) (.slice va E.length vc) E.length (flatB E) rfl (own_keptT R6.out.own ((Kept.refl (fun _=>False) w6).alloc (.cells (bCells (l[k],.slice ta tn tc,.slice qa qn qc)).toArray 53)) (fun _ _ h=>h)) (.slice (some ⟨w6.heap.size,0,none⟩) 1 1) 1 (bCells (l[k],.slice ta tn tc,.slice qa qn qc)) rfl (.inr ⟨_,_,rfl,newsT (Blk.new w6 53 (bCells (l[k],.slice ta tn tc,.slice qa qn qc)))⟩) rfl oneB ?_ ?_ ?_ ?_)
      ·have:=HEL.out;unfold maxLen;omega
      ·have:=HEL.out;omega
      ·simp;omega
      intro v8 w8 own8 hg8 hat8
      have R8:=Ld (RowB.app1 (e:=(l[k],.slice ta tn tc,.slice qa qn qc)) (Nat.le_refl _) R6.out ((Kept.refl (fun _=>False) w6).alloc (.cells (bCells (l[k],.slice ta tn tc,.slice qa qn qc)).toArray 53)) (T6.out.frame (Same.alloc _ _)) (M6.out.frame (Same.alloc _ _)) own8 hg8)
      clear own8 hg8 hat8 zw
      go_wp2_with fail
      go_roundw
      case rel=>exact⟨k+1,_,by omega,by go_num,R8.out,Ld ⟨HAD2.out,by have:=hq.out.2;simp;omega⟩⟩
      case measure=>simp[intOf];omega
    ·have HSK2:Hid (rr=remG x F (E.map (·.1)) (l.drop (k+1))):=Ld (HSK.out (by rw[nm_eq] at hs;rw[hs];rfl))
     clear HSK HAD
     go_wp2_with fail
     go_roundw
     case rel=>exact⟨k+1,E,by omega,by go_num,R6.out,Ld ⟨HSK2.out,by have:=hq.out.2;omega⟩⟩
     case measure=>simp[intOf];omega
   ·have HSK2:Hid (rr=remG x F (E.map (·.1)) (l.drop (k+1))):=Ld (HSK.out rfl)
    clear HSK HAD
    go_wp2_with fail
    go_roundw
    case rel=>exact⟨k+1,E,by omega,by go_num,R6.out,Ld ⟨HSK2.out,by have:=hq.out.2;omega⟩⟩
    case measure=>simp[intOf];omega
  ·have hkk:k=l.length:=by omega
   subst hkk
   have HE:Hid (E.map (·.1)=rr):=Ld (by rw[hq.out.1,List.drop_length,remG])
   go_wp2_with fail
   go_ret
   exact⟨E,_,rfl,⟨HK2.out.trans R.out.kp,own_base R.out.own (fun g hg=>by have:=(World.ownsRow.lt R.out.own g hg).1;have:=hz2.out;omega),R.out.el,fun q hq=>by omega⟩,HE.out⟩
def RCpC (t:Ty):Prop:=∀ (w:World) (ok:Nat→Prop) (tk:Value),TyL ok w t.kids tk →
 Calls Tryz.prog 84 #[tyVal t tk] w fun e w'=>∃ v,e=.returned (tyVal t v)∧TyL (fun k=>w.heap.size≤k) w' t.kids v∧Kept (fun _=>False) w w'
structure RC (w:World) (kd:Int) (nm:ByteArray) (l:List Ty) (a:Option Addr) (c k:Nat) (wr:World) (E:List E2) (v:Value):Prop where
 kp:Kept (fun _=>False) w wr
 a:Blk wr w.heap.size 26 [.int .i64 kd,.string nm,.slice a l.length c]
 r:Blk wr (w.heap.size+1) 26 [.int .i64 0,.string ⟨#[]⟩,.slice none 0 0]
 o:Blk wr (w.heap.size+2) 26 [.int .i64 kd,.string nm,v]
 own:wr.ownsRow (w.heap.size+3) 26 3 v E.length (flatY E)
 el:ELY (fun q=>w.heap.size+3≤q∧v.ownBlock≠some q) wr E
 len:E.length=k
 mp:E.map (·.1)=l.take k
theorem RC.step {w wr w6 W8:World} {kd:Int} {nm:ByteArray} {l:List Ty} {a:Option Addr} {c k:Nat} {E:List E2} {v u:Value} {va:Option Addr} {vn vc gg cap:Nat} (h:RC w kd nm l a c k wr E v) (hk:k<l.length) (k6:Kept (fun _=>False) wr w6) (hu:TyL (fun q=>wr.heap.size≤q) w6 l[k].kids u)
  (hv:v=.slice va vn vc) (o:Obj) (own8:W8.ownsRow (w.heap.size+3) 26 3 (.slice (some ⟨gg,0,none⟩) (E.length+1) cap) (E.length+1) (flatY E++tyCells l[k] u)) (hgrow:(w6.alloc o).grownBy W8 v.ownBlock) (hat:v.ownBlock=some gg∨gg=w6.heap.size+1):
  RC w kd nm l a c (k+1) (W8.setCell ⟨w.heap.size+2,2,none⟩ (.slice (some ⟨gg,0,none⟩) (E.length+1) cap)) (E++[(l[k],u)]) (.slice (some ⟨gg,0,none⟩) (E.length+1) cap):=by
 have kA:Kept (fun _=>False) wr (w6.alloc o):=k6.alloc _
 have kG:=kept_grown hgrow
 have zA:(w6.alloc o).heap.size=w6.heap.size+1:=by simp
 have z6:=k6.size
 have zr:=h.o.lt
 have hg3:w.heap.size+3≤gg:=by
  have:=(own8.lt gg rfl).1;exact this
 have hvb:∀ x,v.ownBlock=some x→w.heap.size+3≤x∧x<wr.heap.size:=fun x e=>h.own.lt x e
 have kS:Kept (·=w.heap.size+2) W8 (W8.setCell ⟨w.heap.size+2,2,none⟩ (.slice (some ⟨gg,0,none⟩) (E.length+1) cap)):=(Kept.refl (fun x=>x=w.heap.size+2) _).setCell (p:=⟨w.heap.size+2,2,none⟩) (Or.inl rfl) _
 refine⟨((h.kp.trans kA).via kG (fun x hx e=>by have:=(hvb x e).1;omega)).via kS (fun x hx e=>by have e':x=w.heap.size+2:=e;omega),
  ((h.a.kept kA (fun h=>h)).kept kG (fun e=>by have:=(hvb _ e).1;omega)).kept kS (by show ¬ w.heap.size=w.heap.size+2;omega),
  ((h.r.kept kA (fun h=>h)).kept kG (fun e=>by have:=(hvb _ e).1;omega)).kept kS (by show ¬ w.heap.size+1=w.heap.size+2;omega),
  ((h.o.kept kA (fun h=>h)).kept kG (fun e=>by have:=(hvb _ e).1;omega)).set 2 _,?_,?_,by simp[h.len],?_⟩
 ·have:=own_keptT own8 kS (fun g hg e=>by have e':some gg=some g:=hg;have e2:=Option.some.inj e';have e3:g=w.heap.size+2:=e;omega)
  rw[flatY_snoc,List.length_append];exact this
 ·have e1:ELY (fun q=>w.heap.size+3≤q∧v.ownBlock≠some q) w6 (E++[(l[k],u)]):=(h.el.frame (sK k6)).snoc (e:=(l[k],u)) (hu.mono (fun q _ hq=>⟨by omega,fun e=>by have:=(hvb q e).2;omega⟩))
  have e2:=(e1.frame (Same.alloc _ o)).mono (ok':=fun q=>(w.heap.size+3≤q∧v.ownBlock≠some q)∧w.heap.size+3≤q∧(Value.slice (some ⟨gg,0,none⟩) (E.length+1) cap).ownBlock≠some q) (fun q hq hh=>⟨hh,hh.1,fun e=>by
   have e1:gg=q:=Option.some.inj e
   rcases hat with hat | hat
   ·exact hh.2 (by rw[hat,e1])
   ·omega⟩)
  exact ((e2.frame (Same.of_kept kG (fun q hq e=>hq.1.2 e))).frame (Same.of_kept kS (fun q hq e=>by have e':q=w.heap.size+2:=e;have:=hq.1.1;omega))).mono (fun q _ hq=>hq.2)
 ·rw[List.map_append,h.mp,List.take_succ_eq_append_getElem hk];rfl
theorem rcopyTy_one {kd:Int} {nm:ByteArray} {l:List Ty} (IH:∀ t,t∈l→RCpC t) (hn1:l.length≤1000000):RCpC (.mk kd nm l):=by
 intro w ok tk hk
 obtain⟨a,n,c,rfl⟩:=hk.slice
 have hn:n=l.length:=hk.len
 subst hn
 have hk':TyL ok w l (.slice a l.length c):=hk
 clear hk
 have HIH:=Ld IH
 have HN1:=Ld hn1
 clear IH hn1
 have HAT:=Ld (fun W (k:Kept (fun _=>False) w W)=>(hk'.frame (sK k)).at)
 clear hk'
 change Calls Tryz.prog 84 #[.agg #[.int .i64 kd,.string nm,.slice a l.length c]] w _
 have b3:=Blk.new' (w:=(w.alloc (.cells #[.int .i64 kd,.string nm,.slice a l.length c] 26)).alloc (.cells #[.int .i64 0,.string ⟨#[]⟩,.slice none 0 0] 26)) (g:=w.heap.size+2) 26 [.int .i64 kd,.string nm,.slice none 0 0] (by simp)
 have bA:=(((Blk.new w 26 [.int .i64 kd,.string nm,.slice a l.length c]).alloc (.cells #[.int .i64 0,.string ⟨#[]⟩,.slice none 0 0] 26)).alloc (.cells #[.int .i64 kd,.string nm,.slice none 0 0] 26))
 have bR:=((Blk.new' (w:=w.alloc (.cells #[.int .i64 kd,.string nm,.slice a l.length c] 26)) (g:=w.heap.size+1) 26 [.int .i64 0,.string ⟨#[]⟩,.slice none 0 0] (by simp)).alloc (.cells #[.int .i64 kd,.string nm,.slice none 0 0] 26))
 have K0:Kept (fun _=>False) w (((w.alloc (.cells #[.int .i64 kd,.string nm,.slice a l.length c] 26)).alloc (.cells #[.int .i64 0,.string ⟨#[]⟩,.slice none 0 0] 26)).alloc (.cells #[.int .i64 kd,.string nm,.slice none 0 0] 26)):=((kR.alloc _).alloc _).alloc _
 have HRC:Hid (RC w kd nm l a c 0 (((w.alloc (.cells #[.int .i64 kd,.string nm,.slice a l.length c] 26)).alloc (.cells #[.int .i64 0,.string ⟨#[]⟩,.slice none 0 0] 26)).alloc (.cells #[.int .i64 kd,.string nm,.slice none 0 0] 26)) [] (.slice none 0 0)):=Ld
  ⟨K0,bA,bR,b3,World.ownsRow_nil _ _ _ _,(fun e he=>by cases he),rfl,by simp⟩
 clear b3 bA bR K0
 go_enter Tryz.func84,Tryz.ntmps84
 go_wp2_with fail
 go_loopw [4] (fun i wr=>∃ (k:Nat) (E:List E2) (v:Value),k≤l.length∧i=.int .i64 k∧RC w kd nm l a c k wr E v) (fun i _=>l.length-(intOf i).toNat)
 case atStart=>exact⟨0,[],_,Nat.zero_le _,rfl,HRC.out⟩
 case round=>
  clear HRC
  obtain⟨k,E,v,hkl,rfl,h⟩:=hrel
  obtain⟨va,vn,vc,rfl⟩:=(tyl_of_row (ok:=fun _=>True) h.own (h.el.mono (fun _ _ _=>trivial)) (fun _ _=>trivial)).slice
  have gA:∀ i,wr.cell? ⟨w.heap.size,i,none⟩=[Value.int .i64 kd,.string nm,.slice a l.length c][i]?:=h.a.cell
  have gO:∀ i,wr.cell? ⟨w.heap.size+1+1,i,none⟩=[Value.int .i64 kd,.string nm,.slice va vn vc][i]?:=h.o.cell
  have gR:∀ i,wr.cell? ⟨w.heap.size+1,i,none⟩=[Value.int .i64 0,.string ⟨#[]⟩,.slice none 0 0][i]?:=h.r.cell
  have fO:∀ i,wr.frozen? ⟨w.heap.size+1+1,i,none⟩=false:=h.o.frozen
  have fR:∀ i,wr.frozen? ⟨w.heap.size+1,i,none⟩=false:=h.r.frozen
  have lO:=h.o.lt
  have H:=Ld h
  clear h
  by_cases hlt:k<l.length
  ·have hn2:=HN1.out
   have i1:(k:Int)<(l.length:Int):=by omega
   have i2:(k:Int)<1000000:=by omega
   obtain⟨g,off,ta,tn,tc,rfl,_,lg,⟨c0,c1,c2⟩,hty⟩:=HAT.out wr H.out.kp k hlt
   have hcon:=Ld ((HIH.out _ (List.getElem_mem hlt)) wr.drew ok _ (hty.frame (Same.drew _)))
   unfold tyVal at hcon
   have hlen:=Ld H.out.len
   have hmx:Hid (E.length+1≤maxLen):=Ld (by have:=hlen.out;unfold maxLen;omega)
   have hby:Hid ((E.length+1)*48≤140737488355328):=Ld (by have:=hlen.out;omega)
   obtain⟨i26,hi26,hz26,hs26,hb26⟩:=info_ty
   have HI26:=Ld hi26
   have HZ26:=Ld hz26
   have HS26:=Ld hs26
   have HB26:=Ld hb26
   clear hty hn2 hi26 hz26 hs26 hb26
   go_upto_region 5 with (fail)
   go_region_law (first | (refine step_append_lies _ (by rfl) _ _ _ (by rfl) (w.heap.size+3) 26 i26 _ 3 48 Tryz.underlying24 HI26.out HZ26.out HS26.out HB26.out rfl (by decide) (.slice va vn vc) E.length (flatY E) (by rfl) (own6.alloc _) ⟨w6.heap.size,0,none⟩ 1 1 (tyCells l[k] (.slice ua un uc)) (by rfl) rfl (newsT (Blk.new w6 26 (tyCells l[k] (.slice ua un uc)))) oneY (by omega) hmx.out hby.out (by simp;omega) (w6.heap.size+1) (by simp) ?_;intro gg cap w8 own8 hgrow hatg hltg;have hO8:=(hO6.alloc (.cells #[.int .i64 l[k].kind,.string l[k].name,.slice ua un uc] 26)).kept (kept_grown hgrow) (fun e=>hvS e);have q8:w8.cell? ⟨w.heap.size+1+1,2,none⟩=some (.slice va vn vc):=hO8.cell 2;have f8:w8.frozen? ⟨w.heap.size+1+1,2,none⟩=false:=hO8.frozen 2) | (go_simp;go_at_call 84;refine hcon.out.mono ?_;rintro e w6 ⟨u,rfl,hu,k6'⟩;obtain⟨ua,un,uc,rfl⟩:=hu.slice;have k6:Kept (fun _=>False) wr w6:=(kR.drew).trans k6';have hO6:=H.out.o.kept k6 (fun h=>h);have own6:=own_keptT H.out.own k6 (fun _ _ h=>h);have gO6:∀ i,w6.cell? ⟨w.heap.size+1+1,i,none⟩=[Value.int .i64 kd,.string nm,.slice va vn vc][i]?:=hO6.cell;have hvS:(Value.slice va vn vc).ownBlock≠some (w.heap.size+2):=(fun e=>by have:=(own6.lt _ e).1;omega);have l6:=hO6.lt))
   all_goals
    have HX:=Ld (RC.step H.out hlt k6 (hu.mono (fun q _ h=>h)) rfl _ own8 hgrow hatg)
    clear hO6 hO8 own6 own8 hgrow hu k6' hcon
    go_wp2_with fail
    go_roundw
    case rel=>exact⟨k+1,_,_,by omega,by go_num,HX.out⟩
    case measure=>simp[intOf];omega
  ·have hkk:k=l.length:=by omega
   subst hkk
   go_wp2_with fail
   have bF:=r3' (x:=.int .i64 kd) (y:=.string nm) (z:=.slice va vn vc) H.out.r rfl
   have hml:=tyl_of_row (ok:=fun q=>w.heap.size+3≤q) H.out.own (H.out.el.mono (fun _ _ h=>h.1)) (fun g hg=>(H.out.own.lt g hg).1)
   rw[H.out.mp,List.take_length] at hml
   refine bodyPost_ret (results_one Tryz.results84 rfl (load_ty (t:=.mk kd nm l) bF)) rfl ⟨_,rfl,?_,?_⟩
   ·exact (hml.frame (set3 (g:=w.heap.size+1) (fun q h=>by omega))).mono (fun q _ h=>by omega)
   ·exact ((H.out.kp.setCell (p:=⟨w.heap.size+1,0,none⟩) (Or.inr (by show w.heap.size≤w.heap.size+1;omega)) _).setCell (p:=⟨w.heap.size+1,1,none⟩) (Or.inr (by show w.heap.size≤w.heap.size+1;omega)) _).setCell (p:=⟨w.heap.size+1,2,none⟩) (Or.inr (by show w.heap.size≤w.heap.size+1;omega)) _
theorem rcopyTy_any {t:Ty} (hb:BdTy t):RCpC t:=by
 induction hb with
 | mk hn hl ih=>exact rcopyTy_one ih hn
def CpyP (t:Tm) (w:World) (e:Ending) (w':World):Prop:=∃ (tk:Value) (E:List E3) (kk:Value),e=.returned (tmVal t tk kk)∧TyL (okb w.heap.size kk) w' t.ty.kids tk∧RowT w w.heap.size w' E kk∧E.map (·.1)=t.kids
def RClC (t:Tm):Prop:=∀ (w:World) (ok:Nat→Prop) (tk kk:Value),TyL ok w t.ty.kids tk→TmL ok w t.kids kk→Calls Tryz.prog 42 #[tmVal t tk kk] w (CpyP t w)
theorem rcopies_any {l:List Tm} {ok:Nat→Prop} {w:World} {a:Option Addr} {n c:Nat} (IH:∀ t,t∈l→RClC t) (hn1:l.length≤1000000) (hk:TmL ok w l (.slice a n c)):
  Calls Tryz.prog 85 #[.slice a n c] w fun e w'=>∃ (E:List E3) (v:Value),e=.returned v∧RowT w w.heap.size w' E v∧E.map (·.1)=l:=by
 have hn:n=l.length:=hk.len
 subst hn
 have HIH:=Ld IH
 have HN1:=Ld hn1
 have HAT:=Ld (fun W (k:Kept (fun _=>False) w W)=>(hk.frame (sK k)).at)
 clear IH hn1 hk
 go_enter Tryz.func85,Tryz.ntmps85
 go_wp2_with fail
 go_loopw [3,4] (fun v i wr=>∃ (k:Nat) (E:List E3),k≤l.length∧i=.int .i64 k∧RowT w w.heap.size wr E v∧E.map (·.1)=l.take k) (fun v i _=>l.length-(intOf i).toNat)
 case atStart=>exact⟨0,[],Nat.zero_le _,rfl,RowT.nil kR,by simp⟩
 case round=>
  obtain⟨k,E,hkl,rfl,h,hmp⟩:=hrel
  obtain⟨va,vn,vc,rfl⟩:=h.tml.slice
  have hEk:E.length=k:=by have:=congrArg List.length hmp;simpa [Nat.min_eq_left hkl] using this
  have H:=Ld h
  have HM:=Ld hmp
  have HE:=Ld hEk
  clear h hmp hEk
  by_cases hlt:k<l.length
  ·have hn2:=HN1.out
   have i1:(k:Int)<(l.length:Int):=by omega
   have i2:(k:Int)<1000000:=by omega
   obtain⟨g,off,ta,tn,tc,ma,mn,mc,rfl,_,lg,⟨c0,c1,c2,c3,c4,c5,c6⟩,hty,htm⟩:=HAT.out wr H.out.kp k hlt
   have hcon:=Ld ((HIH.out _ (List.getElem_mem hlt)) wr ok _ _ hty htm)
   unfold tmVal at hcon
   obtain⟨i28,hi28,hz28,hs28,hb28⟩:=info_tm
   have HI:=Ld hi28
   have HZ:=Ld hz28
   have HS:=Ld hs28
   have HB:=Ld hb28
   clear hty htm hn2 hi28 hz28 hs28 hb28
   go_wp2_with fail
   refine hcon.out.mono ?_
   rintro e w6 ⟨tk,F,kk,rfl,hty6,hr6,hm6⟩
   have htm6:TmL (fun q=>wr.heap.size≤q) w6 l[k].kids kk:=by rw[← hm6];exact hr6.tml
   obtain⟨ua,un,uc,rfl⟩:=hty6.slice
   obtain⟨ud,ue,uf,rfl⟩:=htm6.slice
   have k6:=hr6.kp
   have H6:=H.out.kept k6
   unfold tmVal
   go_wp2_with (at_builtin;refine wpList_append_lies _ rfl _ _ _ rfl w.heap.size 28 i28 _ 7 104 Tryz.underlying22 HI.out HZ.out HS.out HB.out rfl (by decide) (.slice va vn vc) E.length (flat E) rfl (H6.own.alloc _) ⟨w6.heap.size,0,none⟩ 1 1 (tmCells l[k] (.slice ua un uc) (.slice ud ue uf)) rfl rfl (newsT (Blk.new w6 28 (tmCells l[k] (.slice ua un uc) (.slice ud ue uf)))) oneT (by omega) ?_ ?_ ?_ (w6.heap.size+1) (by simp) ?_)
   ·have:=HE.out;unfold maxLen;omega
   ·have:=HE.out;omega
   ·have:=H6.kp.size;simp;omega
   ·intro gg cap w8 own8 hgrow hatg hltg
    have HX:=Ld (RowT.step (Nat.le_refl _) H.out k6 H.out.kp.size (hty6.mono (fun q _ h=>h.1)) htm6 own8 _ hgrow hatg rfl)
    clear own8 hgrow hty6 hr6 htm6 H6
    go_wp2_with fail
    go_roundw
    case rel=>exact⟨k+1,_,by omega,by go_num,HX.out,by rw[List.map_append,HM.out,List.take_succ_eq_append_getElem hlt];rfl⟩
    case measure=>simp[intOf];omega
  ·have hkk:k=l.length:=by omega
   subst hkk
   go_wp2_with fail
   go_ret
   exact⟨E,_,rfl,H.out,by rw[HM.out,List.take_length]⟩
structure CT (w:World) (op:Int) (nm:ByteArray) (N:Int) (ty:Ty) (tk kk v:Value) (O:Nat) (W:World):Prop where
 kp:Kept (fun _=>False) w W
 a:Blk W w.heap.size 28 [.int .i64 op,.string nm,.int .i64 N,.int .i64 ty.kind,.string ty.name,tk,kk]
 r:Blk W (w.heap.size+1) 28 z27
 o:Blk W O 28 [.int .i64 op,.string nm,.int .i64 N,.int .i64 ty.kind,.string ty.name,v,.slice none 0 0]
 ho:w.heap.size+2≤O
 ty:TyL (fun q=>w.heap.size+2≤q∧q≠O) W ty.kids v
theorem CT.late {w w4:World} {op:Int} {nm:ByteArray} {N:Int} {ty:Ty} {tk kk v:Value} (K:Kept (fun _=>False) w w4) (bA:Blk w4 w.heap.size 28 [.int .i64 op,.string nm,.int .i64 N,.int .i64 ty.kind,.string ty.name,tk,kk]) (bR:Blk w4 (w.heap.size+1) 28 z27) (hv:TyL (fun q=>w.heap.size+2≤q) w4 ty.kids v):
  CT w op nm N ty tk kk v w4.heap.size (w4.alloc (.cells #[.int .i64 op,.string nm,.int .i64 N,.int .i64 ty.kind,.string ty.name,v,.slice none 0 0] 28)):=
 ⟨K.alloc _,bA.alloc _,bR.alloc _,Blk.new w4 28 _,by have:=bR.lt;omega,(hv.mono (fun q hq h=>⟨h,by omega⟩)).frame (Same.alloc _ _)⟩
theorem CT.early {w w4:World} {op:Int} {nm:ByteArray} {N:Int} {ty:Ty} {tk kk v:Value} {O:Nat} (K:Kept (fun _=>False) w w4) (bA:Blk w4 w.heap.size 28 [.int .i64 op,.string nm,.int .i64 N,.int .i64 ty.kind,.string ty.name,tk,kk]) (bR:Blk w4 (w.heap.size+1) 28 z27) (bO:Blk w4 O 28 z27) (ho:w.heap.size+2≤O) (hv:TyL (fun q=>w.heap.size+2≤q∧q≠O) w4 ty.kids v):
  CT w op nm N ty tk kk v O (((((((w4.setCell ⟨O,0,none⟩ (.int .i64 op)).setCell ⟨O,1,none⟩ (.string nm)).setCell ⟨O,2,none⟩ (.int .i64 N)).setCell ⟨O,3,none⟩ (.int .i64 ty.kind)).setCell ⟨O,4,none⟩ (.string ty.name)).setCell ⟨O,5,none⟩ v).setCell ⟨O,6,none⟩ (.slice none 0 0)):=by
 have n1:w.heap.size≠O:=by omega
 have n2:w.heap.size+1≠O:=by omega
 exact⟨k7w K (Or.inr (by omega)),((((((bA.set_other _ _ n1).set_other _ _ n1).set_other _ _ n1).set_other _ _ n1).set_other _ _ n1).set_other _ _ n1).set_other _ _ n1,((((((bR.set_other _ _ n2).set_other _ _ n2).set_other _ _ n2).set_other _ _ n2).set_other _ _ n2).set_other _ _ n2).set_other _ _ n2,r7 bO rfl,ho,hv.frame (set7 (fun q hq=>hq.2))⟩
theorem CT.kept {w W W':World} {op:Int} {nm:ByteArray} {N:Int} {ty:Ty} {tk kk v:Value} {O:Nat} (h:CT w op nm N ty tk kk v O W) (k:Kept (fun _=>False) W W'):CT w op nm N ty tk kk v O W':=
 ⟨h.kp.trans k,h.a.kept k (fun h=>h),h.r.kept k (fun h=>h),h.o.kept k (fun h=>h),h.ho,h.ty.frame (sK k)⟩
theorem CT.done {w W:World} {op:Int} {nm:ByteArray} {N:Int} {ty:Ty} {l:List Tm} {tk kk v u:Value} {O:Nat} {E:List E3} {base:Nat} (h:CT w op nm N ty tk kk v O W) (hb:base≤W.heap.size) (hO:O<base) (hu:W.ownsRow base 28 7 u E.length (flat E)) (hel:EL (okb base u) W E) (hm:E.map (·.1)=l) (hv:TyL (fun q=>w.heap.size+2≤q∧q≠O∧u.ownBlock≠some q) W ty.kids v) (W2:World)
  (hW2:W2=(((((((W.setCell ⟨O,6,none⟩ u).setCell ⟨w.heap.size+1,0,none⟩ (.int .i64 op)).setCell ⟨w.heap.size+1,1,none⟩ (.string nm)).setCell ⟨w.heap.size+1,2,none⟩ (.int .i64 N)).setCell ⟨w.heap.size+1,3,none⟩ (.int .i64 ty.kind)).setCell ⟨w.heap.size+1,4,none⟩ (.string ty.name)).setCell ⟨w.heap.size+1,5,none⟩ v).setCell ⟨w.heap.size+1,6,none⟩ u):
  Blk W2 (w.heap.size+1) 28 (tmCells (.mk op nm N ty l) v u)∧TyL (okb w.heap.size u) W2 ty.kids v∧RowT w w.heap.size W2 E u:=by
 subst hW2
 have n1:w.heap.size+1≠O:=by have:=h.ho;omega
 have hub:∀ g,u.ownBlock=some g→base≤g:=fun g hg=>(hu.lt g hg).1
 have kS:Kept (fun q=>q=O∨q=w.heap.size+1) W ((((((((W.setCell ⟨O,6,none⟩ u).setCell ⟨w.heap.size+1,0,none⟩ (.int .i64 op)).setCell ⟨w.heap.size+1,1,none⟩ (.string nm)).setCell ⟨w.heap.size+1,2,none⟩ (.int .i64 N)).setCell ⟨w.heap.size+1,3,none⟩ (.int .i64 ty.kind)).setCell ⟨w.heap.size+1,4,none⟩ (.string ty.name)).setCell ⟨w.heap.size+1,5,none⟩ v).setCell ⟨w.heap.size+1,6,none⟩ u):=
  k7w ((Kept.refl (fun q=>q=O∨q=w.heap.size+1) W).setCell (p:=⟨O,6,none⟩) (Or.inl (Or.inl rfl)) u) (Or.inl (Or.inr rfl))
 have hho:=h.ho
 refine⟨r7 (h.r.set_other ⟨O,6,none⟩ u n1) rfl,(hv.frame (Same.of_kept kS (fun q hq e=>by rcases e with e | e <;> omega))).mono (fun q _ hq=>⟨by omega,hq.2.2⟩),k7w (h.kp.setCell (p:=⟨O,6,none⟩) (Or.inr (by show w.heap.size≤O;omega)) u) (Or.inr (by omega)),?_,?_⟩
 ·exact own_base (own_keptT hu kS (fun g hg e=>by have:=hub g hg;rcases e with e | e <;> omega)) (fun g hg=>by have:=hub g hg;omega)
 ·exact (hel.frame (Same.of_kept kS (fun q hq e=>by have:=hq.1;rcases e with e | e <;> omega))).mono (fun q _ hq=>⟨by have:=hq.1;omega,hq.2⟩)
theorem rcopy_one {op:Int} {nm:ByteArray} {N:Int} {ty:Ty} {l:List Tm} (hty:BdTy ty) (IH:∀ u,u∈l→RClC u) (hn:l.length≤1000000):RClC (.mk op nm N ty l):=by
 intro w ok tk kk h1 h2
 have h1:TyL ok w ty.kids tk:=h1
 have h2:TmL ok w l kk:=h2
 obtain⟨a,n,c,rfl⟩:=h1.slice
 obtain⟨ma,mn,mc,rfl⟩:=h2.slice
 have HT:=Ld (fun W (k:Kept (fun _=>False) w W)=>rcopyTy_any hty W ok _ (h1.frame (sK k)))
 have HK:=Ld (fun W (k:Kept (fun _=>False) w W)=>rcopies_any IH hn (h2.frame (sK k)))
 unfold tyVal at HT
 change Calls Tryz.prog 42 #[.agg #[.int .i64 op,.string nm,.int .i64 N,.int .i64 ty.kind,.string ty.name,.slice a n c,.slice ma mn mc]] w _
 clear h1 h2 IH
 have bA:Blk ((w.alloc (.cells #[.int .i64 op,.string nm,.int .i64 N,.int .i64 ty.kind,.string ty.name,.slice a n c,.slice ma mn mc] 28)).alloc Z7) w.heap.size 28 [.int .i64 op,.string nm,.int .i64 N,.int .i64 ty.kind,.string ty.name,.slice a n c,.slice ma mn mc]:=(Blk.new w 28 _).alloc _
 have bR:Blk ((w.alloc (.cells #[.int .i64 op,.string nm,.int .i64 N,.int .i64 ty.kind,.string ty.name,.slice a n c,.slice ma mn mc] 28)).alloc Z7) (w.heap.size+1) 28 z27:=Blk.new' 28 _ (by simp)
 have K0:Kept (fun _=>False) w ((w.alloc (.cells #[.int .i64 op,.string nm,.int .i64 N,.int .i64 ty.kind,.string ty.name,.slice a n c,.slice ma mn mc] 28)).alloc Z7):=(kR.alloc _).alloc _
 go_enter Tryz.func42,Tryz.ntmps42
 go_upto_region 1 with (fail)
 refine wp_gen (F:=fun W3=>Kept (fun _=>False) w W3∧W3.heap.size=w.heap.size+2∧Blk W3 w.heap.size 28 [.int .i64 op,.string nm,.int .i64 N,.int .i64 ty.kind,.string ty.name,.slice a n c,.slice ma mn mc]∧Blk W3 (w.heap.size+1) 28 z27) ⟨K0,by simp,bA,bR⟩ ?_
 clear K0 bA bR
 rintro w1 ⟨K1,z1,bA,bR⟩
 have gA:∀ i,w1.cell? ⟨w.heap.size,i,none⟩=[Value.int .i64 op,.string nm,.int .i64 N,.int .i64 ty.kind,.string ty.name,.slice a n c,.slice ma mn mc][i]?:=bA.cell
 have Z1:=Ld z1
 have KK1:=Ld K1
 have BA:=Ld bA
 have BR:=Ld bR
 have lA:=bA.lt
 have lR:=bR.lt
 have nA:w.heap.size≠w1.heap.size:=by omega
 have nA2:w1.heap.size≠w.heap.size:=by omega
 clear z1 K1 bA bR
 have x0:w1.cell? ⟨w.heap.size,0,none⟩=some (.int .i64 op):=gA 0
 have x1:w1.cell? ⟨w.heap.size,1,none⟩=some (.string nm):=gA 1
 have x2:w1.cell? ⟨w.heap.size,2,none⟩=some (.int .i64 N):=gA 2
 have x3:w1.cell? ⟨w.heap.size,3,none⟩=some (.int .i64 ty.kind):=gA 3
 have x4:w1.cell? ⟨w.heap.size,4,none⟩=some (.string ty.name):=gA 4
 have x5:w1.cell? ⟨w.heap.size,5,none⟩=some (.slice a n c):=gA 5
 go_region_held3 (fun w'=>w'.cell? ⟨w.heap.size,0,none⟩=some (.int .i64 op)∧w'.cell? ⟨w.heap.size,1,none⟩=some (.string nm)∧w'.cell? ⟨w.heap.size,2,none⟩=some (.int .i64 N)∧w'.cell? ⟨w.heap.size,3,none⟩=some (.int .i64 ty.kind)∧w'.cell? ⟨w.heap.size,4,none⟩=some (.string ty.name)∧w'.cell? ⟨w.heap.size,5,none⟩=some (.slice a n c)) (go_keep) (first | (go_at_call 84;refine (HT.out _ (by first | exact KK1.out.drew | exact KK1.out.drew.alloc _ | exact (KK1.out.alloc _).drew)).mono ?_;rintro e w4 ⟨v,rfl,hv,k4⟩;obtain⟨va,vn,vc,rfl⟩:=hv.slice;have k5:Kept (fun _=>False) w1 w4:=(by first | exact kR.drew.trans k4 | exact (kR.drew.alloc _).trans k4);have lA4:=(BA.out.kept k5 (fun h=>h)).lt;(try (have bO:Blk w4 w1.heap.size 28 [.int .i64 0,.string ⟨#[]⟩,.int .i64 0,.int .i64 0,.string ⟨#[]⟩,.slice none 0 0,.slice none 0 0]:=(by first | exact ((Blk.new w1 28 [.int .i64 0,.string ⟨#[]⟩,.int .i64 0,.int .i64 0,.string ⟨#[]⟩,.slice none 0 0,.slice none 0 0]).drew).kept k4 (fun h=>h) | exact (Blk.new w1.drew 28 [.int .i64 0,.string ⟨#[]⟩,.int .i64 0,.int .i64 0,.string ⟨#[]⟩,.slice none 0 0,.slice none 0 0]).kept k4 (fun h=>h));have gO:∀ i,w4.cell? ⟨w1.heap.size,i,none⟩=[Value.int .i64 0,.string ⟨#[]⟩,.int .i64 0,.int .i64 0,.string ⟨#[]⟩,.slice none 0 0,.slice none 0 0][i]?:=bO.cell;have fO:∀ i,w4.frozen? ⟨w1.heap.size,i,none⟩=false:=bO.frozen;have lO:=bO.lt));have y0:w4.cell? ⟨w.heap.size,0,none⟩=some (.int .i64 op):=(BA.out.kept k5 (fun h=>h)).cell 0;have y1:w4.cell? ⟨w.heap.size,1,none⟩=some (.string nm):=(BA.out.kept k5 (fun h=>h)).cell 1;have y2:w4.cell? ⟨w.heap.size,2,none⟩=some (.int .i64 N):=(BA.out.kept k5 (fun h=>h)).cell 2;have y3:w4.cell? ⟨w.heap.size,3,none⟩=some (.int .i64 ty.kind):=(BA.out.kept k5 (fun h=>h)).cell 3;have y4:w4.cell? ⟨w.heap.size,4,none⟩=some (.string ty.name):=(BA.out.kept k5 (fun h=>h)).cell 4;have y5:w4.cell? ⟨w.heap.size,5,none⟩=some (.slice a n c):=(BA.out.kept k5 (fun h=>h)).cell 5))
 all_goals
  first
  | (have HX:=Ld (CT.late (KK1.out.trans k5) (BA.out.kept k5 (fun h=>h)) (BR.out.kept k5 (fun h=>h)) (hv.mono (fun q _ hq=>by have:=Z1.out;have hq2:w1.heap.size≤q:=hq;omega)))
     generalize hOO:w4.heap.size=O at *
     generalize w4.alloc (.cells #[.int .i64 op,.string nm,.int .i64 N,.int .i64 ty.kind,.string ty.name,.slice va vn vc,.slice none 0 0] 28)=w5 at *
     clear hOO)
  | (have HX:=Ld (CT.early (O:=w1.heap.size) (KK1.out.trans k5) (BA.out.kept k5 (fun h=>h)) (BR.out.kept k5 (fun h=>h)) bO (by have:=Z1.out;omega) (hv.mono (fun q _ hq=>by have:=Z1.out;have hq2:w1.heap.size+1≤q:=(by simpa using hq);omega)))
     generalize hOO:w1.heap.size=O at *
     generalize (((((((w4.setCell ⟨O,0,none⟩ (.int .i64 op)).setCell ⟨O,1,none⟩ (.string nm)).setCell ⟨O,2,none⟩ (.int .i64 N)).setCell ⟨O,3,none⟩ (.int .i64 ty.kind)).setCell ⟨O,4,none⟩ (.string ty.name)).setCell ⟨O,5,none⟩ (.slice va vn vc)).setCell ⟨O,6,none⟩ (.slice none 0 0))=w5 at *
     clear hOO)
 all_goals
  have h6:Hid (Calls Tryz.prog 85 #[.slice ma mn mc] w5 fun e w'=>∃ (E:List E3) (v:Value),e=.returned v∧RowT w5 w5.heap.size w' E v∧E.map (·.1)=l):=Ld (HK.out w5 HX.out.kp)
  clear HK HT hv KK1 Z1 BA BR k4 k5 gA x0 x1 x2 x3 x4 x5
  have gA5:∀ i,w5.cell? ⟨w.heap.size,i,none⟩=[Value.int .i64 op,.string nm,.int .i64 N,.int .i64 ty.kind,.string ty.name,.slice a n c,.slice ma mn mc][i]?:=HX.out.a.cell
  go_wp2_with fail
  refine h6.out.mono ?_
  rintro e w6 ⟨E,u,rfl,R6,hm6⟩
  have HX6:=Ld (HX.out.kept R6.kp)
  have gO6:∀ i,w6.cell? ⟨O,i,none⟩=[Value.int .i64 op,.string nm,.int .i64 N,.int .i64 ty.kind,.string ty.name,.slice va vn vc,.slice none 0 0][i]?:=HX6.out.o.cell
  have fO6:∀ i,w6.frozen? ⟨O,i,none⟩=false:=HX6.out.o.frozen
  have gR6:∀ i,w6.cell? ⟨w.heap.size+1,i,none⟩=[Value.int .i64 0,.string ⟨#[]⟩,.int .i64 0,.int .i64 0,.string ⟨#[]⟩,.slice none 0 0,.slice none 0 0][i]?:=HX6.out.r.cell
  have fR6:∀ i,w6.frozen? ⟨w.heap.size+1,i,none⟩=false:=HX6.out.r.frozen
  have nO:O≠w.heap.size+1:=by have:=HX6.out.ho;omega
  have nO2:w.heap.size+1≠O:=by have:=HX6.out.ho;omega
  have lO5:=HX.out.o.lt
  obtain⟨ua,un,uc,rfl⟩:=R6.tml.slice
  have hv6:TyL (fun q=>w.heap.size+2≤q∧q≠O∧(Value.slice ua un uc).ownBlock≠some q) w6 ty.kids (.slice va vn vc):=
   (HX.out.ty.mono (ok':=fun q=>(w.heap.size+2≤q∧q≠O)∧q<w5.heap.size) (fun q hq h=>⟨h,hq⟩)).frame (sK R6.kp) |>.mono (fun q _ h=>⟨h.1.1,h.1.2,fun e=>by have:=(R6.own.lt q e).1;omega⟩)
  have HM:=Ld hm6
  have HD:=Ld (CT.done HX6.out R6.kp.size lO5 R6.own R6.el hm6 hv6 _ rfl)
  clear gA5 HX R6 hm6 hv6 h6 lO5
  go_wp2_with fail
  exact bodyPost_ret (results_one Tryz.results42 rfl (load_tm (t:=.mk op nm N ty l) HD.out.1)) rfl ⟨_,E,_,rfl,HD.out.2.1,HD.out.2.2,HM.out⟩
theorem rcopy_any {t:Tm} (hb:BdTm t):RClC t:=by
 induction hb with
 | mk hn ht hl ih=>exact rcopy_one ht ih hn
def InL (ok:Nat→Prop) (w:World) (l:List Int) (v:Value):Prop:=
 ∃ a n c,v=.slice a n c∧n=l.length∧n≤c∧∀ i (h:i<l.length),∃ g off,a=some ⟨g,off,none⟩∧ok g∧w.cell? ⟨g,off+i,none⟩=some (.int .i64 l[i])
theorem InL.frame {ok:Nat→Prop} {w W:World} {l:List Int} {v:Value} (h:InL ok w l v) (hs:Same ok w W):InL ok W l v:=by
 obtain⟨a,n,c,h1,h2,h3,h4⟩:=h
 refine⟨a,n,c,h1,h2,h3,fun i hi=>?_⟩
 obtain⟨g,off,e,hg,hc⟩:=h4 i hi
 exact⟨g,off,e,hg,hs.cell hg hc⟩
theorem InL.slice {ok:Nat→Prop} {w:World} {l:List Int} {v:Value} (h:InL ok w l v):∃ a c,v=.slice a l.length c:=by
 obtain⟨a,n,c,h1,h2,_⟩:=h
 exact⟨a,c,by rw[h1,h2]⟩
theorem InL.at {ok:Nat→Prop} {w:World} {l:List Int} {a:Option Addr} {n c:Nat} (h:InL ok w l (.slice a n c)) (i:Nat) (hi:i<l.length):∃ g off,a=some ⟨g,off,none⟩∧ok g∧w.cell? ⟨g,off+i,none⟩=some (.int .i64 l[i]):=by
 obtain⟨a',n',c',h1,h2,h3,h4⟩:=h
 cases h1
 exact h4 i hi
end Go.Proofs.YtfhedienjnfdcaaGreatDoor
