/- A part. -/
import Derived.Test.YtdmebjbkccjhbaaGreatDoorK19
set_option linter.unusedVariables false
set_option linter.unusedSimpArgs false
set_option maxRecDepth 100000
set_option maxHeartbeats 32000000
namespace Go.Proofs.YtdmebjbkccjhbaaGreatDoor
open Go.RowKit
theorem ralikes_any {a b:Tm} {ok ok':Nat→Prop} {w:World} {tk kk tk' kk':Value} (h1:TyL ok w a.ty.kids tk) (h2:TmL ok w a.kids kk) (h3:TyL ok' w b.ty.kids tk') (h4:TmL ok' w b.kids kk') (ha:SmTm big a) (hb:SmTm big b):
  Calls Tryz.prog 22 #[tmVal a tk kk,tmVal b tk' kk'] w fun e w'=>e=.returned (.bool (alB a b))∧Kept (fun _=>False) w w':=by
 obtain⟨p,n,c,rfl⟩:=h1.slice
 obtain⟨ma,mn,mc,rfl⟩:=h2.slice
 obtain⟨p',n',c',rfl⟩:=h3.slice
 obtain⟨ma',mn',mc',rfl⟩:=h4.slice
 have K1:Kept (fun _=>False) w ((w.alloc (.cells #[.int .i64 a.op,.string a.name,.int .i64 a.n,.int .i64 a.ty.kind,.string a.ty.name,.slice p n c,.slice ma mn mc] 27)).alloc (.cells #[.int .i64 b.op,.string b.name,.int .i64 b.n,.int .i64 b.ty.kind,.string b.ty.name,.slice p' n' c',.slice ma' mn' mc'] 27)):=(kR.alloc _).alloc _
 have bA:Blk ((w.alloc (.cells #[.int .i64 a.op,.string a.name,.int .i64 a.n,.int .i64 a.ty.kind,.string a.ty.name,.slice p n c,.slice ma mn mc] 27)).alloc (.cells #[.int .i64 b.op,.string b.name,.int .i64 b.n,.int .i64 b.ty.kind,.string b.ty.name,.slice p' n' c',.slice ma' mn' mc'] 27)) w.heap.size 27 (tmCells a (.slice p n c) (.slice ma mn mc)):=(Blk.new w 27 _).alloc _
 have bB:Blk ((w.alloc (.cells #[.int .i64 a.op,.string a.name,.int .i64 a.n,.int .i64 a.ty.kind,.string a.ty.name,.slice p n c,.slice ma mn mc] 27)).alloc (.cells #[.int .i64 b.op,.string b.name,.int .i64 b.n,.int .i64 b.ty.kind,.string b.ty.name,.slice p' n' c',.slice ma' mn' mc'] 27)) (w.heap.size+1) 27 (tmCells b (.slice p' n' c') (.slice ma' mn' mc')):=Blk.new' 27 _ (by simp)
 have HVA:=Ld (fun W (k:Kept (fun _=>False) w W)=>rvalid_any (h1.frame (sK k)) (h2.frame (sK k)) ha)
 have HVB:=Ld (fun W (k:Kept (fun _=>False) w W)=>rvalid_any (h3.frame (sK k)) (h4.frame (sK k)) hb)
 have HS:=Ld (fun (hv:validB a=true) W (k:Kept (fun _=>False) w W)=>ralike_any (valid_bd hv) b [] [] W ok ok' (fun _=>True) (fun _=>True) _ _ _ _ _ _ (h1.frame (sK k)) (h2.frame (sK k)) (h3.frame (sK k)) (h4.frame (sK k)) .nil .nil (by have:=((valid_iff a).1 hv).2.2;simp only[List.length_nil];omega) (by have:=((valid_iff a).1 hv).2.2;simp only[List.length_nil];omega))
 clear h1 h2 h3 h4 ha hb
 unfold tmVal at HS ⊢
 have HR:Hid (alB a b=((validB a&&validB b)&&alikeT a b [] [])):=Ld rfl
 generalize alikeT a b [] []=z at *
 go_enter Tryz.func22,Tryz.ntmps22
 go_wp2_with fail
 generalize ((w.alloc (.cells #[.int .i64 a.op,.string a.name,.int .i64 a.n,.int .i64 a.ty.kind,.string a.ty.name,.slice p n c,.slice ma mn mc] 27)).alloc (.cells #[.int .i64 b.op,.string b.name,.int .i64 b.n,.int .i64 b.ty.kind,.string b.ty.name,.slice p' n' c',.slice ma' mn' mc'] 27))=w1 at *
 refine (HVA.out w1 K1).mono ?_
 rintro e w2 ⟨rfl,k2⟩
 have KK:=Ld (K1.trans k2)
 have BA2:=Ld (bA.kept k2 (fun h=>h))
 have BB2:=Ld (bB.kept k2 (fun h=>h))
 clear K1 k2 bA bB HVA
 cases hv:validB a
 ·have HR2:Hid (alB a b=false):=Ld (by rw[HR.out,hv];rfl)
  clear hv HS HR HVB
  go_wp2_with fail
  go_ret
  exact⟨by rw[HR2.out];rfl,KK.out⟩
 ·have hvt:=Ld hv
  clear hv
  have gB:∀ i,w2.cell? ⟨w.heap.size+1,i,none⟩=[Value.int .i64 b.op,.string b.name,.int .i64 b.n,.int .i64 b.ty.kind,.string b.ty.name,.slice p' n' c',.slice ma' mn' mc'][i]?:=BB2.out.cell
  go_wp2_with fail
  clear gB
  refine (HVB.out w2 KK.out).mono ?_
  rintro e w3 ⟨rfl,k3⟩
  have KK3:=Ld (KK.out.trans k3)
  have BA3:=Ld (BA2.out.kept k3 (fun h=>h))
  have BB3:=Ld (BB2.out.kept k3 (fun h=>h))
  clear KK k3 BA2 BB2 HVB
  cases hv:validB b
  ·have HR2:Hid (alB a b=false):=Ld (by rw[HR.out,hvt.out,hv];rfl)
   clear hv HS HR
   go_wp2_with fail
   go_ret
   exact⟨by rw[HR2.out];rfl,KK3.out⟩
  ·have HR2:Hid (alB a b=z):=Ld (by rw[HR.out,hvt.out,hv];rfl)
   have HS2:=Ld (HS.out hvt.out w3 KK3.out)
   have gA:∀ i,w3.cell? ⟨w.heap.size,i,none⟩=[Value.int .i64 a.op,.string a.name,.int .i64 a.n,.int .i64 a.ty.kind,.string a.ty.name,.slice p n c,.slice ma mn mc][i]?:=BA3.out.cell
   have gB:∀ i,w3.cell? ⟨w.heap.size+1,i,none⟩=[Value.int .i64 b.op,.string b.name,.int .i64 b.n,.int .i64 b.ty.kind,.string b.ty.name,.slice p' n' c',.slice ma' mn' mc'][i]?:=BB3.out.cell
   clear hv HS HR
   go_wp2_with fail
   refine HS2.out.mono ?_
   rintro e w4 ⟨rfl,k4⟩
   go_wp2_with fail
   go_ret
   exact⟨by rw[HR2.out];rfl,KK3.out.trans k4⟩
end Go.Proofs.YtdmebjbkccjhbaaGreatDoor
