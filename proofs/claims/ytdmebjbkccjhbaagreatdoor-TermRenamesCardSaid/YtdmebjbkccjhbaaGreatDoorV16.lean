/- A part. -/
import Derived.Test.YtdmebjbkccjhbaaGreatDoorV15
set_option linter.unusedVariables false
set_option linter.unusedSimpArgs false
set_option maxRecDepth 100000
set_option maxHeartbeats 32000000
namespace Go.Proofs.YtdmebjbkccjhbaaGreatDoor
open Go.RowKit
mutual
def rnY (x y:ByteArray):Ty→Ty
 | .mk k nm l=>.mk k (if k=3∧nm=x then y else nm) (rnYs x y l)
def rnYs (x y:ByteArray):List Ty→List Ty
 | []=>[]
 | t::l=>rnY x y t::rnYs x y l
end
mutual
def rnT (x y:ByteArray):Tm→Tm
 | .mk op nm N ty l=>.mk op nm N (rnY x y ty) (rnTs x y l)
def rnTs (x y:ByteArray):List Tm→List Tm
 | []=>[]
 | t::l=>rnT x y t::rnTs x y l
end
mutual
def rdT (x y:ByteArray):Tm→Tm
 | .mk op nm N ty l=>.mk op nm N (if op=29 then rnY x y ty else ty) (rdTs x y l)
def rdTs (x y:ByteArray):List Tm→List Tm
 | []=>[]
 | t::l=>rdT x y t::rdTs x y l
end
mutual
def hasY (x:ByteArray):Ty→Bool
 | .mk k nm l=>(decide (k=3)&&decide (nm=x))||hasYs x l
def hasYs (x:ByteArray):List Ty→Bool
 | []=>false
 | t::l=>hasY x t||hasYs x l
end
mutual
def hasC (x:ByteArray):Tm→Bool
 | .mk _ _ _ ty l=>hasY x ty||hasCs x l
def hasCs (x:ByteArray):List Tm→Bool
 | []=>false
 | t::l=>hasC x t||hasCs x l
end
theorem rnYs_len (x y:ByteArray):∀ l:List Ty,(rnYs x y l).length=l.length
 | []=>rfl
 | t::l=>by rw[rnYs,List.length_cons,rnYs_len x y l,List.length_cons]
theorem rnTs_len (x y:ByteArray):∀ l:List Tm,(rnTs x y l).length=l.length
 | []=>rfl
 | t::l=>by rw[rnTs,List.length_cons,rnTs_len x y l,List.length_cons]
theorem rnYs_map (x y:ByteArray):∀ l:List Ty,rnYs x y l=l.map (rnY x y)
 | []=>rfl
 | t::l=>by rw[rnYs,rnYs_map x y l];rfl
theorem rnTs_map (x y:ByteArray):∀ l:List Tm,rnTs x y l=l.map (rnT x y)
 | []=>rfl
 | t::l=>by rw[rnTs,rnTs_map x y l];rfl
theorem rdTs_map (x y:ByteArray):∀ l:List Tm,rdTs x y l=l.map (rdT x y)
 | []=>rfl
 | t::l=>by rw[rdTs,rdTs_map x y l];rfl
theorem rnY_kind (x y:ByteArray) (t:Ty):(rnY x y t).kind=t.kind:=by cases t;rfl
theorem rnY_ty0 (x y:ByteArray):rnY x y ty0=ty0:=by
 unfold ty0;rw[rnY,rnYs,if_neg (fun h=>by have:=h.1;revert this;decide)]
theorem hasY_ty0 (x:ByteArray):hasY x ty0=false:=by
 unfold ty0;rw[hasY,hasYs];rfl
theorem rnY_none {x y:ByteArray}:∀ (t:Ty),hasY x t=false→rnY x y t=t:=by
 intro t
 induction t using Ty.rec (motive_2:=fun l=>hasYs x l=false→rnYs x y l=l) with
 | mk k nm l ih=>
  intro h
  rw[hasY,Bool.or_eq_false_iff] at h
  rw[rnY,ih h.2,if_neg (fun e=>by have:=h.1;rw[decide_eq_true e.1,decide_eq_true e.2] at this;cases this)]
 | nil=>rfl
 | cons t l iht ihl=>
  rename_i h
  rw[hasYs,Bool.or_eq_false_iff] at h
  rw[rnYs,iht h.1,ihl h.2]
theorem rnT_none {x y:ByteArray}:∀ (t:Tm),hasC x t=false→rnT x y t=t:=by
 intro t
 induction t using Tm.rec (motive_2:=fun l=>hasCs x l=false→rnTs x y l=l) with
 | mk op nm N ty l ih=>
  intro h
  rw[hasC,Bool.or_eq_false_iff] at h
  rw[rnT,ih h.2,rnY_none ty h.1]
 | nil=>rfl
 | cons t l iht ihl=>
  rename_i h
  rw[hasCs,Bool.or_eq_false_iff] at h
  rw[rnTs,iht h.1,ihl h.2]
theorem rnY_fix {x y:ByteArray} (hxy:x≠y):∀ (t:Ty),rnY x y t=t→hasY x t=false:=by
 intro t
 induction t using Ty.rec (motive_2:=fun l=>rnYs x y l=l→hasYs x l=false) with
 | mk k nm l ih=>
  intro h
  rw[rnY] at h
  injection h with h1 h2 h3
  rw[hasY,ih h3,Bool.or_false]
  by_cases e:k=3∧nm=x
  ·rw[if_pos e] at h2;exact absurd (e.2.symm.trans h2.symm) hxy
  ·rw[← Bool.not_eq_true]
   intro q
   rw[Bool.and_eq_true,decide_eq_true_iff,decide_eq_true_iff] at q
   exact e q
 | nil=>rfl
 | cons t l iht ihl=>
  rename_i h
  rw[rnYs] at h
  injection h with h1 h2
  rw[hasYs,iht h1,ihl h2];rfl
theorem rnT_fix {x y:ByteArray} (hxy:x≠y):∀ (t:Tm),rnT x y t=t→hasC x t=false:=by
 intro t
 induction t using Tm.rec (motive_2:=fun l=>rnTs x y l=l→hasCs x l=false) with
 | mk op nm N ty l ih=>
  intro h
  rw[rnT] at h
  injection h with h1 h2 h3 h4 h5
  rw[hasC,ih h5,rnY_fix hxy ty h4];rfl
 | nil=>rfl
 | cons t l iht ihl=>
  rename_i h
  rw[rnTs] at h
  injection h with h1 h2
  rw[hasCs,iht h1,ihl h2];rfl
theorem head_rn {x y:ByteArray} (hy:identB y=true) {k:Int} {nm:ByteArray} {n:Nat} {wi:Bool} (h:tyHead k nm n wi=true):tyHead k (if k=3∧nm=x then y else nm) n wi=true:=by
 by_cases e:k=3∧nm=x
 ·obtain⟨rfl,rfl⟩:=e
  rw[if_pos ⟨rfl,rfl⟩]
  unfold tyHead at h ⊢
  simp only[show ((3:Int)=1)=False by simp,show ((3:Int)=2)=False by simp,if_true,if_false] at h ⊢
  rw[Bool.and_eq_true] at h
  rw[hy,h.2];rfl
 ·rw[if_neg e];exact h
theorem tf_rn {x y:ByteArray} (hy:identB y=true) (most deep:Nat):∀ (t:Ty) (d:Nat) (wi:Bool) (c:Nat),(tfS most deep t d wi c).1=true→tfS most deep (rnY x y t) d wi c=tfS most deep t d wi c:=by
 intro t
 induction t using Ty.rec (motive_2:=fun l=>∀ (d c:Nat),(tfsS most deep l d c).1=true→tfsS most deep (rnYs x y l) d c=tfsS most deep l d c) with
 | mk k nm l ih=>
  intro d wi c h
  rw[tf_eq] at h
  split at h
  ·rename_i hb
   rw[Bool.and_eq_true] at hb
   rw[rnY,tf_eq,tf_eq,rnYs_len,hb.1,hb.2,head_rn hy hb.2]
   exact ih _ _ h
  ·cases h
 | nil=>rename_i d c h;rfl
 | cons t l iht ihl=>
  rename_i d c h
  rw[tfsS] at h
  rw[rnYs,tfsS,tfsS]
  cases hr:tfS most deep t d true c with
  | mk b c'=>
   cases b
   ·rw[hr] at h;cases h
   ·rw[hr] at h
    rw[iht d true c (by rw[hr]),hr]
    exact ihl d c' h
theorem tf_bad {x y:ByteArray} (hy:identB y=false) (most deep:Nat):∀ (t:Ty) (d:Nat) (wi:Bool) (c:Nat),(tfS most deep (rnY x y t) d wi c).1=true→hasY x t=false:=by
 intro t
 induction t using Ty.rec (motive_2:=fun l=>∀ (d c:Nat),(tfsS most deep (rnYs x y l) d c).1=true→hasYs x l=false) with
 | mk k nm l ih=>
  intro d wi c h
  rw[rnY,tf_eq] at h
  generalize hnm:(if k=3∧nm=x then y else nm)=nm' at h
  split at h
  ·rename_i hb
   rw[Bool.and_eq_true] at hb
   rw[hasY,ih _ _ h,Bool.or_false,← Bool.not_eq_true]
   intro q
   rw[Bool.and_eq_true,decide_eq_true_iff,decide_eq_true_iff] at q
   have h2:=hb.2
   obtain⟨rfl,rfl⟩:=q
   rw[if_pos ⟨rfl,rfl⟩] at hnm
   subst hnm
   unfold tyHead at h2
   simp only[show ((3:Int)=1)=False by simp,show ((3:Int)=2)=False by simp,if_true,if_false] at h2
   rw[hy] at h2;cases h2
  ·cases h
 | nil=>rename_i d c h;rfl
 | cons t l iht ihl=>
  rename_i d c h
  rw[rnYs,tfsS] at h
  cases hr:tfS most deep (rnY x y t) d true c with
  | mk b c'=>
   cases b
   ·rw[hr] at h;cases h
   ·rw[hr] at h
    rw[hasYs,iht d true c (by rw[hr]),ihl d c' h];rfl
theorem tyOk_rn {x y:ByteArray} (hy:identB y=true) {op:Int} {ty:Ty} (h:tyOk op ty=true):tyOk op (rnY x y ty)=true:=by
 unfold tyOk at h ⊢
 by_cases e:op=29
 ·rw[if_pos e,Bool.and_eq_true] at h
  rw[if_pos e,rnY_kind,h.1]
  unfold validTyB at h ⊢
  rw[tf_rn hy _ _ _ _ _ _ h.2,h.2];rfl
 ·rw[if_neg e] at h
  rw[if_neg e,zero_ty h,rnY_ty0]
  rw[zero_ty h] at h;exact h
theorem tyOk_bad {x y:ByteArray} (hy:identB y=false) {op:Int} {ty:Ty} (h:tyOk op ty=true) (h2:tyOk op (rnY x y ty)=true):hasY x ty=false:=by
 unfold tyOk at h h2
 by_cases e:op=29
 ·rw[if_pos e,Bool.and_eq_true] at h2
  exact tf_bad hy _ _ _ _ _ _ h2.2
 ·rw[if_neg e] at h
  rw[zero_ty h];exact hasY_ty0 x
theorem formed_with {op:Int} {nm:ByteArray} {N:Int} {ty ty':Ty} {n:Nat} (h:formedB op nm N ty n=true) (h2:tyOk op ty'=true):formedB op nm N ty' n=true:=by
 obtain⟨a,b,c,d⟩:=formed_parts h
 unfold formedB
 rw[a,b,c,h2];rfl
theorem OkTm.rn {x y:ByteArray} (hy:identB y=true) {t:Tm} (h:OkTm t):OkTm (rnT x y t):=by
 induction h with
 | mk hf hn hl ih=>
  rw[rnT]
  refine .mk ?_ (by rw[rnTs_len];exact hn) (fun u hu=>?_)
  ·rw[rnTs_len];exact formed_with hf (tyOk_rn hy (formed_parts hf).2.2.2)
  ·rw[rnTs_map,List.mem_map] at hu
   obtain⟨v,hv,rfl⟩:=hu
   exact ih v hv
theorem ok_bad {x y:ByteArray} (hy:identB y=false):∀ (t:Tm),OkTm t→OkTm (rnT x y t)→hasC x t=false:=by
 intro t
 induction t using Tm.rec (motive_2:=fun l=>(∀ t,t∈l→OkTm t)→(∀ t,t∈rnTs x y l→OkTm t)→hasCs x l=false) with
 | mk op nm N ty l ih=>
  intro h h2
  rw[rnT] at h2
  cases h with
  | mk hf hn hl=>
   cases h2 with
   | mk hf2 hn2 hl2=>
    rw[hasC,ih hl hl2,tyOk_bad hy (formed_parts hf).2.2.2 (formed_parts hf2).2.2.2];rfl
 | nil=>rename_i h h2;rfl
 | cons t l iht ihl=>
  rename_i h h2
  rw[rnTs] at h2
  rw[hasCs,iht (h t (by simp)) (h2 _ (by simp)),ihl (fun u hu=>h u (List.mem_cons_of_mem _ hu)) (fun u hu=>h2 u (List.mem_cons_of_mem _ hu))];rfl
theorem tmN_rn (x y:ByteArray):∀ (t:Tm),tmN (rnT x y t)=tmN t:=by
 intro t
 induction t using Tm.rec (motive_2:=fun l=>tmNs (rnTs x y l)=tmNs l) with
 | mk op nm N ty l ih=>rw[rnT,tmN,tmN,ih]
 | nil=>rfl
 | cons t l iht ihl=>rw[rnTs,tmNs,tmNs,iht,ihl]
theorem tmD_rn (x y:ByteArray):∀ (t:Tm),tmD (rnT x y t)=tmD t:=by
 intro t
 induction t using Tm.rec (motive_2:=fun l=>tmDs (rnTs x y l)=tmDs l) with
 | mk op nm N ty l ih=>rw[rnT,tmD,tmD,ih]
 | nil=>rfl
 | cons t l iht ihl=>rw[rnTs,tmDs,tmDs,iht,ihl]
theorem rd_rn {x y:ByteArray} {t:Tm} (h:OkTm t):rdT x y t=rnT x y t:=by
 induction h with
 | mk hf hn hl ih=>
  rename_i op nm N ty l
  rw[rdT,rnT,rdTs_map,rnTs_map,List.map_congr_left (fun u hu=>ih u hu)]
  congr 1
  by_cases e:op=29
  ·rw[if_pos e]
  ·have h4:=(formed_parts hf).2.2.2
   unfold tyOk at h4
   rw[if_neg e] at h4
   rw[if_neg e,zero_ty h4,rnY_ty0]
theorem hasC_name (x z:ByteArray):hasC x (nameT z)=false:=by
 unfold nameT;rw[hasC,hasY_ty0,hasCs];rfl
theorem name_zero {nm:ByteArray} {N:Int} {ty:Ty} {l:List Tm} (h:formedB 20 nm N ty l.length=true):ty=ty0∧l=[]:=by
 obtain⟨a,_,_,d⟩:=formed_parts h
 refine⟨?_,?_⟩
 ·unfold tyOk at d
  rw[if_neg (by decide)] at d
  exact zero_ty d
 ·unfold kidOk at a
  rw[Bool.and_eq_true] at a
  have h2:=a.2
  have e:(kidsN 20).1=0:=by decide
  rw[e,if_neg (by decide),decide_eq_true_iff] at h2
  exact List.length_eq_zero_iff.1 (by omega)
theorem hasCs_sub {FS:ByteArray→List ByteArray→ByteArray} {x:ByteArray} {bi:Bool} {l inn:List (ByteArray×Tm)}:∀ (ks:List Tm) (i:Nat),(∀ t,t∈ks→hasC x (subT FS t l)=hasC x t∧(bi=true→hasC x (subT FS t inn)=hasC x t))→hasCs x (subK FS bi l inn i ks)=hasCs x ks
 | [],_,_=>rfl
 | t::r,i,h=>by
  rw[subK,hasCs,hasCs,hasCs_sub r (i+1) (fun u hu=>h u (List.mem_cons_of_mem _ hu))]
  congr 1
  have h0:=h t (by simp)
  cases hb:bi&&i==1
  ·rw[if_neg Bool.false_ne_true];exact h0.1
  ·rw[if_pos rfl]
   rw[Bool.and_eq_true] at hb
   exact h0.2 hb.1
theorem sub_hasC {FS:ByteArray→List ByteArray→ByteArray} {x:ByteArray} {t:Tm} (ht:OkTm t):∀ (l:List (ByteArray×Tm)),(∀ s u,look l s=some u→hasC x u=false)→hasC x (subT FS t l)=hasC x t:=by
 induction ht with
 | mk hf hn hl ih=>
  rename_i op nm N ty ks
  intro l h
  rw[subT]
  by_cases h20:op=20
  ·rw[if_pos h20]
   cases hk:look l nm with
   | none=>rfl
   | some u=>
    subst h20
    obtain⟨rfl,rfl⟩:=name_zero hf
    simp only
    rw[h _ _ hk,hasC,hasY_ty0,hasCs];rfl
  ·rw[if_neg h20]
   cases hb:binderB op with
   | false=>
    rw[if_neg Bool.false_ne_true,hasC,hasC,hasCs_sub ks 0 (fun u hu=>⟨ih u hu l h,fun e=>by cases e⟩)]
   | true=>
    rw[if_pos rfl,hasC,hasC,hasCs_sub ks 0 (fun u hu=>⟨ih u hu l h,fun _=>ih u hu _ (fun s v hv=>?_)⟩)]
    have hr:∀ {s v},look (remL l nm (fr (ks.getD 1 (nameT nm)))) s=some v→hasC x v=false:=fun {s v} hq=>by
     rw[remL_look] at hq
     split at hq
     ·cases hq
     ·exact h _ _ hq
    unfold inner at hv
    split at hv
    ·rw[look_app] at hv
     split at hv
     ·rename_i w hw
      cases hv
      exact hr hw
     ·rw[look] at hv
      split at hv
      ·cases hv;exact hasC_name _ _
      ·cases hv
    ·exact hr hv
theorem prim_ident {y:ByteArray} (h:primB y=true):identB y=false:=by
 rw[← Bool.not_eq_true]
 intro e
 rcases prim_trim (ident_named e) with ⟨_,h2,h3⟩ | ⟨h2,_⟩
 ·rw[ident_end e] at h3
  have h4:=congrArg ByteArray.size h3
  rw[ByteArray.size_extract] at h4
  omega
 ·rw[h] at h2;cases h2
theorem frB_nm1 (x y:ByteArray):frB [(x,nameT y)]=[y]:=by
 rw[frB,frB,List.append_nil];exact fr_nameT y
theorem one_ev (x y s:ByteArray):evB .fv [(x,nameT y)] s=.fv (if x=s then y else s):=by
 unfold evB
 rw[look]
 by_cases e:x=s
 ·rw[if_pos e,if_pos e];simp only;rw[nameT_ev]
 ·rw[if_neg e,if_neg e,look]
theorem nm_sub {t:Tm} {x y:ByteArray} (ht:validB t=true) (hy:namedB y=true):OkTm (subT freshS t [(x,nameT y)])∧validB (subT freshS t [(x,nameT y)])=true:=by
 have h1:=(valid_iff t).1 ht
 have hM:tmN t+(frB [(x,nameT y)]).length≤800000:=by rw[frB_nm1,List.length_singleton];omega
 have ho:=sub_ok h1.1 [(x,nameT y)] (fun b hb=>by rw[List.mem_singleton.1 hb];exact nameT_ok hy) hM
 have e:=ev_sub freshS_FS t [(x,nameT y)] .fv hM
 refine⟨ho,(valid_iff _).2 ⟨ho,?_,?_⟩⟩
 ·rw[← ev_size _ .fv ho.nw (fun _=>rfl),e,ev_size _ _ h1.1.nw (fun s=>by rw[one_ev];rfl)];exact h1.2.1
 ·rw[← ev_depth _ .fv ho.nw (fun _=>rfl),e,ev_depth _ _ h1.1.nw (fun s=>by rw[one_ev];rfl)];exact h1.2.2
def rnmR (t:Tm) (x y:ByteArray):Tm×Int:=
 if validB t&&namedB y then (if validB (rnT x y (subT freshS t [(x,nameT y)])) then (rnT x y (subT freshS t [(x,nameT y)]),0) else (tm0,1)) else (tm0,1)
theorem rnm_plain {t:Tm} {x y:ByteArray} (ht:validB t=true) (hy:namedB y=true):
  sbstR t [(x,nameT y)]=(subT freshS t [(x,nameT y)],0)∧validB (subT freshS t [(x,nameT y)])=true∧(primB y&&!tmEq (rdT x y t) t)=!validB (rnT x y (subT freshS t [(x,nameT y)]))∧rdT x y (subT freshS t [(x,nameT y)])=rnT x y (subT freshS t [(x,nameT y)]):=by
 have hn:validB (nameT y)=true:=by rw[valid_of (nameT_ok hy)];rfl
 have hs:=nm_sub (x:=x) ht hy
 have h1:=(valid_iff t).1 ht
 have h3:=(valid_iff _).1 hs.2
 refine⟨by rw[sbst_one ht hn,hs.2];rfl,hs.2,?_,rd_rn hs.1⟩
 have hc:hasC x (subT freshS t [(x,nameT y)])=hasC x t:=sub_hasC h1.1 _ (fun s u h=>by
  rw[look] at h
  split at h
  ·cases h;exact hasC_name _ _
  ·cases h)
 rw[rd_rn h1.1]
 generalize subT freshS t [(x,nameT y)]=s at *
 have hV:OkTm (rnT x y s)→validB (rnT x y s)=true:=fun ho=>(valid_iff _).2 ⟨ho,by rw[tmN_rn];exact h3.2.1,by rw[tmD_rn];exact h3.2.2⟩
 rw[named_or,Bool.or_eq_true] at hy
 cases hp:primB y with
 | false=>
  have hi:identB y=true:=by rcases hy with h | h;exact h;rw[hp] at h;cases h
  rw[hV (OkTm.rn hi hs.1)];rfl
 | true=>
  have hi:=prim_ident hp
  rw[Bool.true_and]
  congr 1
  rw[Bool.eq_iff_iff,tmEq_iff]
  constructor
  ·intro e
   have hxy:x≠y∨x=y:=by by_cases q:x=y;exact Or.inr q;exact Or.inl q
   rcases hxy with hxy | hxy
   ·rw[rnT_none s (by rw[hc];exact rnT_fix hxy t e)];exact hs.2
   ·subst hxy
    have q:∀ (t:Tm),rnT x x t=t:=fun t=>by
     induction t using Tm.rec (motive_2:=fun l=>rnTs x x l=l) with
     | mk op nm N ty l ih=>
      rw[rnT,ih]
      congr 1
      induction ty using Ty.rec (motive_2:=fun l=>rnYs x x l=l) with
      | mk k nm l ih2=>
       rw[rnY,ih2]
       congr 1
       split
       ·rename_i h;exact h.2.symm
       ·rfl
      | nil=>rfl
      | cons t l iht ihl=>rw[rnYs,iht,ihl]
     | nil=>rfl
     | cons t l iht ihl=>rw[rnTs,iht,ihl]
    rw[q];exact hs.2
  ·intro h
   have h5:=ok_bad hi s hs.1 ((valid_iff _).1 h).1
   rw[hc] at h5
   exact rnT_none t h5
end Go.Proofs.YtdmebjbkccjhbaaGreatDoor
namespace Go.Proofs.YtdmebjbkccjhbaaGreatDoor
open Go
section
variable {P:Program} {ops:Array Oper} {L:World→World→Prop} {T:Nat→Value→World→Prop}
def Up (L:World→World→Prop) (T:Value→World→Prop) (v:Value) (w:World):Prop:=∃ w1,L w1 w∧T v w1
def dstOf (ops:Array Oper) (j:Nat):Option Tmp:=(ops[j]?).bind (·.dst)
def depsOf (o:Oper):List Nat:=(o.after.toList.filter (Region.binds .any)).map (·.on)
def allV (ops:Array Oper) (L:World→World→Prop) (T:Nat→Value→World→Prop) (K:Act→Prop) (W:World):List Nat→Act→Prop
 | [],b=>K b
 | j::js,b=>match dstOf ops j with
  | some d=>∀ v,Up L (T j) v W→allV ops L T K W js (b.put (some d) v)
  | none=>allV ops L T K W js b
def KT (L:World→World→Prop) (T:Value→World→Prop) (o:Oper) (b:Act) (W:World) (a':Act) (w':World):Prop:=
 L W w'∧a'.defers=b.defers∧(match o.dst with | some d=>T (a'.eval (.tmp d)) w' | none=>True)
def stepM (P:Program) (ops:Array Oper) (L:World→World→Prop) (T:Nat→Value→World→Prop) (a0:Act) (w0:World) (i:Nat) (o:Oper):Prop:=
 ∀ W,L w0 W→allV ops L T (fun b=>if Region.wanted o (yielded ops b.tmps)=true then o.wp P b W (KT L (T i) o b W) (fun _ _ _=>False) else KT L (T i) o b W (b.put o.dst undef) W) W (depsOf o) a0
def stepE (P:Program) (ops:Array Oper) (L:World→World→Prop) (T:Nat→Value→World→Prop) (a0:Act) (w0:World) (i:Nat) (o:Oper):Prop:=
 ∀ W,L w0 W→allV ops L T (fun b=>∃ v,Yields P ops o v b∧T i v W) W (depsOf o) a0
def stepA (P:Program) (ops:Array Oper) (L:World→World→Prop) (T:Nat→Value→World→Prop) (late:List Nat) (a0:Act) (w0:World) (i:Nat) (o:Oper):Prop:=
 stepE P ops L T a0 w0 i o∨(late.contains i=false∧stepM P ops L T a0 w0 i o)
def allM (P:Program) (ops:Array Oper) (L:World→World→Prop) (T:Nat→Value→World→Prop) (late tl:List Nat) (a0:Act) (w0:World):Nat→List Oper→Prop
 | _,[]=>True
 | i,o::os=>(tl.contains i=true∨stepA P ops L T late a0 w0 i o)∧allM P ops L T late tl a0 w0 (i+1) os
theorem allM_nil {late tl:List Nat} {a0:Act} {w0:World} {i:Nat}:allM P ops L T late tl a0 w0 i []:=trivial
theorem allM_cons {late tl:List Nat} {a0:Act} {w0:World} {i:Nat} {o:Oper} {os:List Oper} (hl:late.contains i=false) (h:stepM P ops L T a0 w0 i o) (h':allM P ops L T late tl a0 w0 (i+1) os):allM P ops L T late tl a0 w0 i (o::os):=⟨Or.inr (Or.inr ⟨hl,h⟩),h'⟩
theorem allM_tail {late tl:List Nat} {a0:Act} {w0:World} {i:Nat} {o:Oper} {os:List Oper} (h:tl.contains i=true) (h':allM P ops L T late tl a0 w0 (i+1) os):allM P ops L T late tl a0 w0 i (o::os):=⟨Or.inl h,h'⟩
theorem allM_at {late tl:List Nat} {a0:Act} {w0:World}:∀ {os:List Oper} {k i:Nat} {o:Oper},allM P ops L T late tl a0 w0 k os→os[i]?=some o→tl.contains (k+i)=false→stepA P ops L T late a0 w0 (k+i) o
 | [],_,_,_,_,h,_=>by simp at h
 | x::os,k,0,o,h,e,ht=>by
  simp only[List.getElem?_cons_zero,Option.some.injEq] at e;subst e
  rcases h.1 with h1 | h1
  ·rw[Nat.add_zero] at ht;rw[ht] at h1;cases h1
  ·exact h1
 | x::os,k,i+1,o,h,e,ht=>by
  rw[List.getElem?_cons_succ] at e
  have e2:k+(i+1)=k+1+i:=by omega
  rw[e2] at ht ⊢
  exact allM_at h.2 e ht
def pickT (tl:List Nat):Nat→List Oper→List Oper
 | _,[]=>[]
 | i,o::os=>if tl.contains i then o::pickT tl (i+1) os else pickT tl (i+1) os
def putD (ops:Array Oper) (c:Act):List Nat→Act→Act
 | [],b=>b
 | j::js,b=>match dstOf ops j with
  | some d=>putD ops c js (b.put (some d) (c.eval (.tmp d)))
  | none=>putD ops c js b
theorem allV_at {K:Act→Prop} {W:World} {c:Act}:∀ {js:List Nat} {b:Act},allV ops L T K W js b→(∀ j,j∈js→∀ d,dstOf ops j=some d→Up L (T j) (c.eval (.tmp d)) W)→K (putD ops c js b)
 | [],_,h,_=>h
 | j::js,b,h,hU=>by
  unfold allV at h
  unfold putD
  cases hd:dstOf ops j with
  | none=>rw[hd] at h;exact allV_at h fun k hk=>hU k (List.mem_cons_of_mem _ hk)
  | some d=>rw[hd] at h;exact allV_at (h _ (hU j (List.mem_cons_self ..) d hd)) fun k hk=>hU k (List.mem_cons_of_mem _ hk)
theorem putD_defers {c:Act}:∀ {js:List Nat} {b:Act},(putD ops c js b).defers=b.defers
 | [],_=>rfl
 | j::js,b=>by
  unfold putD
  cases dstOf ops j with
  | none=>exact putD_defers
  | some d=>rw[putD_defers];rfl
theorem putD_size {c:Act}:∀ {js:List Nat} {b:Act},(putD ops c js b).tmps.size=b.tmps.size
 | [],_=>rfl
 | j::js,b=>by
  unfold putD
  cases dstOf ops j with
  | none=>exact putD_size
  | some d=>rw[putD_size];simp[Act.put]
theorem eval_get {a:Act} {t:Tmp}:a.eval (.tmp t)=a.tmps.getD t undef:=by
 simp[Act.eval,Array.getD_eq_getD_getElem?]
theorem put_get {b:Act} {d t:Tmp} {v:Value}:(b.put (some d) v).tmps[t]?=if d=t then (if d<b.tmps.size then some v else none) else b.tmps[t]?:=by
 simp only[Act.put]
 rw[Array.getElem?_setIfInBounds]
theorem get_eval {c:Act} {d:Tmp}:(if d<c.tmps.size then some (c.eval (.tmp d)) else none)=c.tmps[d]?:=by
 by_cases h:d<c.tmps.size
 ·rw[if_pos h,eval_get];simp[h]
 ·rw[if_neg h];simp[Nat.le_of_not_lt h]
theorem putD_get {c:Act} {t:Tmp}:∀ {js:List Nat} {b:Act},b.tmps.size=c.tmps.size→(b.tmps[t]?=c.tmps[t]?∨∃ j,j∈js∧dstOf ops j=some t)→(putD ops c js b).tmps[t]?=c.tmps[t]?
 | [],b,_,h=>by
  rcases h with h | ⟨j,hj,_⟩
  ·exact h
  ·cases hj
 | j::js,b,hz,h=>by
  unfold putD
  cases hd:dstOf ops j with
  | none=>
   refine putD_get hz (h.imp id ?_)
   rintro⟨k,hk,hkd⟩
   rcases List.mem_cons.1 hk with rfl | hk
   ·rw[hd] at hkd;cases hkd
   ·exact⟨k,hk,hkd⟩
  | some d=>
   have hz':(b.put (some d) (c.eval (.tmp d))).tmps.size=c.tmps.size:=by simp[Act.put,hz]
   refine putD_get hz' ?_
   rw[put_get]
   by_cases e:d=t
   ·subst e
    refine Or.inl ?_
    rw[if_pos rfl,hz,get_eval]
   ·rw[if_neg e]
    refine h.imp id ?_
    rintro⟨k,hk,hkd⟩
    rcases List.mem_cons.1 hk with rfl | hk
    ·rw[hd] at hkd;cases hkd;exact absurd rfl e
    ·exact⟨k,hk,hkd⟩
def unl (tl:List Nat) (s:Array Bool):Nat→Nat
 | 0=>0
 | n+1=>unl tl s n+(if s.getD n false=true∨tl.contains n=true then 0 else 1)
theorem unl_set {tl:List Nat} {s:Array Bool} {i:Nat} (hi:i<s.size) (h:s.getD i false=false) (ht:tl.contains i=false):∀ n,unl tl (s.setIfInBounds i true) n+(if i<n then 1 else 0)=unl tl s n
 | 0=>by simp[unl]
 | n+1=>by
  have ih:=unl_set hi h ht n
  unfold unl
  by_cases e:i=n
  ·subst e
   have h1:(s.setIfInBounds i true).getD i false=true:=by simp[hi]
   rw[h1,h,ht]
   simp only[if_true,true_or,Nat.lt_irrefl,if_false,Nat.lt_succ_self,Bool.false_eq_true,or_self] at ih ⊢
   omega
  ·rw[getD_set_ne false e]
   have e3:(if i<n+1 then 1 else 0)=(if i<n then 1 else 0):=by split <;> split <;> omega
   rw[e3]
   omega
theorem unl_zero {tl:List Nat} {s:Array Bool}:∀ {n},unl tl s n=0→∀ j,j<n→tl.contains j=false→s.getD j false=true
 | 0,_,j,hj,_=>by omega
 | n+1,h,j,hj,ht=>by
  unfold unl at h
  by_cases e:s.getD n false=true∨tl.contains n=true
  ·rcases Nat.lt_succ_iff_lt_or_eq.1 hj with h1 | h1
   ·exact unl_zero (by omega) j h1 ht
   ·rw[h1] at ht ⊢
    rcases e with e | e
    ·exact e
    ·rw[ht] at e;cases e
  ·rw[if_neg e] at h;omega
theorem unl_pos {tl:List Nat} {s:Array Bool}:∀ {n},0<unl tl s n→∃ i,i<n∧tl.contains i=false∧s.getD i false=false∧∀ j,j<i→tl.contains j=false→s.getD j false=true
 | 0,h=>by simp[unl] at h
 | n+1,h=>by
  by_cases e:unl tl s n=0
  ·have h0:=unl_zero e
   unfold unl at h
   by_cases e2:s.getD n false=true∨tl.contains n=true
   ·rw[if_pos e2] at h;omega
   ·exact⟨n,Nat.lt_succ_self _,by cases hc:tl.contains n with
     | false=>rfl
     | true=>exact absurd (Or.inr hc) e2,by cases hc:s.getD n false with
     | false=>rfl
     | true=>exact absurd (Or.inl hc) e2,h0⟩
  ·obtain⟨i,h1,h2,h3,h4⟩:=unl_pos (tl:=tl) (s:=s) (n:=n) (by omega)
   exact⟨i,by omega,h2,h3,h4⟩
def sT (ops:Array Oper) (tl:List Nat):Array Bool:=((List.range ops.size).map fun j=>!tl.contains j).toArray
def sinkL (ops:Array Oper) (tl late:List Nat):Bool:=
 match tl with
 | []=>true
 | t0::_=>(List.range ops.size).all fun i=>tl.contains i||late.contains i||Region.waitsFor .any ops t0 i||(List.range ops.size).any fun j=>decide (i<j)&&Region.waitsFor .any ops j i&&!tl.contains j&&!late.contains j
def chainL (ops:Array Oper):List Nat→Bool
 | []=>true
 | t::ts=>(match ts with | []=>true | t'::_=>Region.waitsFor .any ops t' t)&&chainL ops ts
def seqL (ops:Array Oper):List Nat→Array Bool→Bool
 | [],s=>(Region.ready .any ops s).isEmpty
 | t::ts,s=>decide (Region.ready .any ops s=[t])&&seqL ops ts (s.setIfInBounds t true)
def freeS (ops:Array Oper) (i:Nat):Bool:=
 match ops[i]? with
 | none=>false
 | some oi=>(List.range ops.size).all fun j=>decide (j=i)||Region.waitsFor .any ops j i||(depsOf oi).contains j||(match ops[j]? with
   | some oj=>oi.apart ops oj
   | none=>true)
def monoB (ops:Array Oper) (m:Nat) (tl late:List Nat):Bool:=
 Region.noSelect ops&&(sinkL ops tl late&&chainL ops tl&&late.all (fun i=>freeS ops i))&&seqL ops tl (sT ops tl) &&
 (List.range ops.size).all fun i=>tl.contains i||match ops[i]? with
  | none=>false
  | some o=>(depsOf o).all (fun j=>decide (j<i)&&!tl.contains j) &&
   (match o.dst with
    | none=>true
    | some d=>decide (d<m)&&(List.range ops.size).all fun j=>decide (j=i)||tl.contains j||decide (dstOf ops j≠some d)) &&
   (o.looksAt ops).all fun t=>(List.range ops.size).all fun j=>tl.contains j||decide (dstOf ops j≠some t)||(depsOf o).contains j
structure MInv (ops:Array Oper) (L:World→World→Prop) (T:Nat→Value→World→Prop) (tl:List Nat) (a0:Act) (w0:World) (s:Array Bool) (a:Act) (w:World):Prop where
 size:s.size=ops.size
 closed:∀ j oj,ops[j]?=some oj→s.getD j false=true→∀ e∈oj.after,Region.binds .any e=true→s.getD e.on false=true
 tail:∀ t,tl.contains t=true→s.getD t false=false
 kp:L w0 w
 df:a.defers=a0.defers
 tz:a.tmps.size=a0.tmps.size
 dn:∀ j d,s.getD j false=true→dstOf ops j=some d→Up L (T j) (a.eval (.tmp d)) w
 un:∀ t,(∀ j,j<ops.size→tl.contains j=false→dstOf ops j≠some t)→a.tmps[t]?=a0.tmps[t]?
theorem wpAny_more {md:Region.Mode} {Q:Exit→Act→World→Prop}:∀ (f:Nat) (s:Array Bool) (a:Act) (w:World),wpAny P md ops Q f s a w→wpAny P md ops Q (f+1) s a w
 | 0,s,a,w,h=>⟨fun _=>h.2,fun i hi=>by rw[h.1] at hi;cases hi⟩
 | f+1,s,a,w,h=>⟨h.1,fun i hi=>wpOp_mono (fun a' w' h'=>wpAny_more f _ a' w' h') (h.2 i hi)⟩
theorem wpAny_seqL {Q:Exit→Act→World→Prop}:∀ (ts:List Nat) (l:List Oper) (s:Array Bool) (a:Act) (w:World),(∀ j:Nat,(ts[j]?).bind (fun t:Nat=>ops[t]?)=l[j]?) →
  seqL ops ts s=true→wpList P ops Q l a w→wpAny P .any ops Q l.length s a w
 | [],[],s,a,w,_,hB,h=>⟨by simpa [seqL] using hB,h⟩
 | [],_::_,_,_,_,hl,_,_=>by have:=hl 0;simp at this
 | t::ts,[],s,a,w,hl,hB,h=>by
  simp only[seqL,Bool.and_eq_true,decide_eq_true_eq] at hB
  have h1:t∈Region.ready .any ops s:=by rw[hB.1];exact List.mem_singleton.2 rfl
  obtain⟨_,o,ho,_⟩:=mem_ready.1 h1
  have:=hl 0
  simp[ho] at this
 | t::ts,o::l,s,a,w,hl,hB,h=>by
  have h0:ops[t]?=some o:=by simpa using hl 0
  simp only[seqL,Bool.and_eq_true,decide_eq_true_eq] at hB
  refine⟨fun h1=>(by rw[hB.1] at h1;cases h1),fun i hi=>?_⟩
  rw[hB.1] at hi
  obtain rfl:i=t:=by simpa using hi
  have hw:wpOp P ops Q i (wpList P ops Q l) a w:=by unfold wpOp;simp only[h0];exact h
  exact wpOp_mono (fun a' w' h'=>wpAny_seqL ts l _ a' w' (fun j=>by have:=hl (j+1);simpa using this) hB.2 h') hw
theorem monoB_op {m i:Nat} {tl late:List Nat} {o:Oper} (hB:monoB ops m tl late=true) (hit:tl.contains i=false) (hi:ops[i]?=some o):
  (∀ j,j∈depsOf o→j<i∧tl.contains j=false)∧(∀ d,o.dst=some d→d<m∧∀ j,j<ops.size→tl.contains j=false→j≠i→dstOf ops j≠some d)∧(∀ t,t∈o.looksAt ops→∀ j,j<ops.size→tl.contains j=false→dstOf ops j=some t→j∈depsOf o):=by
 have hin:i<ops.size:=(Array.getElem?_eq_some_iff.1 hi).1
 unfold monoB at hB
 rw[Bool.and_eq_true] at hB
 have h:=List.all_eq_true.1 hB.2 i (List.mem_range.2 hin)
 rw[hi,hit,Bool.false_or] at h
 simp only[Bool.and_eq_true,List.all_eq_true,decide_eq_true_eq,List.mem_range,Bool.or_eq_true,Bool.not_eq_true'] at h
 refine⟨h.1.1,fun d hd=>?_,fun t ht j hj hjt e=>?_⟩
 ·have h2:=h.1.2
  rw[hd] at h2
  simp only[Bool.and_eq_true,List.all_eq_true,decide_eq_true_eq,List.mem_range,Bool.or_eq_true] at h2
  exact⟨h2.1,fun j hj hjt hne=>by
   rcases h2.2 j hj with (h3 | h3) | h3
   ·exact absurd h3 hne
   ·rw[hjt] at h3;cases h3
   ·exact h3⟩
 ·rcases h.2 t ht j hj with (h3 | h3) | h3
  ·rw[hjt] at h3;cases h3
  ·exact absurd e h3
  ·simpa using h3
theorem MInv.set {tl:List Nat} {a0:Act} {w0 w:World} {s:Array Bool} {a:Act} {i:Nat} (inv:MInv ops L T tl a0 w0 s a w) (hi:i∈Region.ready .any ops s) (hit:tl.contains i=false):
  (s.setIfInBounds i true).size=ops.size∧(∀ j oj,ops[j]?=some oj→(s.setIfInBounds i true).getD j false=true→∀ e∈oj.after,Region.binds .any e=true→(s.setIfInBounds i true).getD e.on false=true)∧(∀ t,tl.contains t=true→(s.setIfInBounds i true).getD t false=false):=by
 obtain⟨_,oi,hoi,hall⟩:=mem_ready.1 hi
 refine⟨by simp[inv.size],fun j oj hj hl e he hb=>?_,fun t ht=>?_⟩
 ·by_cases hij:i=j
  ·subst hij
   have:oj=oi:=Option.some.inj (hj.symm.trans hoi)
   subst this
   exact getD_set_true (hall e he hb)
  ·rw[getD_set_ne false hij] at hl
   exact getD_set_true (inv.closed j oj hj hl e he hb)
 ·have hne:i≠t:=fun e=>by rw[e,ht] at hit;cases hit
  rw[getD_set_ne false hne];exact inv.tail t ht
theorem mono_at {tl late:List Nat} {a0:Act} {w0:World} (hrf:∀ w,L w w) (htr:∀ a b c,L a b→L b c→L a c) (hB:monoB ops a0.tmps.size tl late=true)
  {i:Nat} {o:Oper} (hi:ops[i]?=some o) (hit:tl.contains i=false) {F:Act→Prop} {s:Array Bool} {a:Act} {w:World} (inv:MInv ops L T tl a0 w0 s a w) (hr:i∈Region.ready .any ops s) (hst:allV ops L T F w (depsOf o) a0):
  ∃ b:Act,F b∧execOp a.eval o=execOp b.eval o∧Region.wanted o (yielded ops a.tmps)=Region.wanted o (yielded ops b.tmps)∧b.tmps.size=a0.tmps.size ∧
   ∀ (v:Value) (w':World),L w w'→(∀ d,o.dst=some d→T i v w')→MInv ops L T tl a0 w0 (s.setIfInBounds i true) (a.put o.dst v) w':=by
 obtain⟨hun,o',ho',hall⟩:=mem_ready.1 hr
 rw[hi] at ho';cases ho'
 obtain⟨b1,b2,b3⟩:=monoB_op hB hit hi
 have hin:i<ops.size:=(Array.getElem?_eq_some_iff.1 hi).1
 have hsel:∀ cs b,o.op≠.select cs b:=by
  unfold monoB at hB
  simp only[Bool.and_eq_true] at hB
  exact fun cs b=>Region.noSelect_spec hB.1.1.1 i o cs b hi
 have hdep:∀ j,j∈depsOf o→s.getD j false=true:=by
  intro j hj
  unfold depsOf at hj
  obtain⟨e,he,rfl⟩:=List.mem_map.1 hj
  rw[List.mem_filter] at he
  exact hall e (Array.mem_toList_iff.1 he.1) he.2
 have h:=allV_at (c:=a) hst (fun j hj d hd=>inv.dn j d (hdep j hj) hd)
 have hev:∀ t,t∈o.looksAt ops→(putD ops a (depsOf o) a0).tmps[t]?=a.tmps[t]?:=by
  intro t ht
  refine putD_get inv.tz.symm ?_
  by_cases e:∃ j,j<ops.size∧tl.contains j=false∧dstOf ops j=some t
  ·obtain⟨j,hj,hjt,hd⟩:=e
   exact Or.inr ⟨j,b3 t ht j hj hjt hd,hd⟩
  ·exact Or.inl (inv.un t fun j hj hjt hd=>e ⟨j,hj,hjt,hd⟩).symm
 have hz:(putD ops a (depsOf o) a0).tmps.size=a0.tmps.size:=putD_size
 generalize putD ops a (depsOf o) a0=b at *
 have he:execOp a.eval o=execOp b.eval o:=by
  refine execOp_congr o hsel fun x hx=>?_
  cases x with
  | tmp t=>
   have ht:t∈o.looksAt ops:=List.mem_append_left _ (List.mem_filterMap.2 ⟨.tmp t,by simpa using hx,rfl⟩)
   have:=hev t ht
   simp[Act.eval,this]
  | _=>rfl
 have hw:Region.wanted o (yielded ops a.tmps)=Region.wanted o (yielded ops b.tmps):=by
  unfold Region.wanted
  cases hg:o.guard with
  | none=>rfl
  | some gw=>
   obtain⟨g,want⟩:=gw
   have hy:yielded ops a.tmps g=yielded ops b.tmps g:=by
    unfold yielded
    cases ht:(ops[g]?).bind (·.dst) with
    | none=>rfl
    | some t=>
     have hm:t∈o.looksAt ops:=List.mem_append_right _ (by simp[hg,ht])
     have:=hev t hm
     simp[this]
   simp only[hy]
 have hdst:dstOf ops i=o.dst:=by unfold dstOf;rw[hi];rfl
 -- the new state
 have next:∀ (v:Value) (w':World),L w w'→(∀ d,o.dst=some d→T i v w')→MInv ops L T tl a0 w0 (s.setIfInBounds i true) (a.put o.dst v) w':=by
  intro v w' hl ht
  obtain⟨q1,q2,q3⟩:=inv.set hr hit
  refine⟨q1,q2,q3,htr _ _ _ inv.kp hl,?_,?_,?_,?_⟩
  ·rw[← inv.df];cases o.dst <;> rfl
  ·rw[← inv.tz];cases o.dst <;> simp[Act.put]
  ·intro j d hj hd
   by_cases e:j=i
   ·subst e
    rw[hdst] at hd
    rw[hd,eval_get]
    have hlt:d<a.tmps.size:=by rw[inv.tz];exact (b2 d hd).1
    have:((a.put (some d) v).tmps.getD d undef)=v:=by simp[Act.put,hlt]
    rw[this]
    exact⟨w',hrf w',ht d hd⟩
   ·rw[getD_set_ne false (Ne.symm e)] at hj
    have hjs:j<ops.size:=by
     unfold dstOf at hd
     cases hq:ops[j]? with
     | none=>rw[hq] at hd;cases hd
     | some _=>exact (Array.getElem?_eq_some_iff.1 hq).1
    have hjt:tl.contains j=false:=by
     cases hc:tl.contains j with
     | false=>rfl
     | true=>rw[inv.tail j hc] at hj;cases hj
    obtain⟨w1,h1,h2⟩:=inv.dn j d hj hd
    have hne:∀ d',o.dst=some d'→d'≠d:=fun d' hd' q=>(b2 d' hd').2 j hjs hjt e (by rw[hd,q])
    refine⟨w1,htr _ _ _ h1 hl,?_⟩
    rw[Act.eval_put (fun d' hd' q=>hne d' hd' (by cases q;rfl))]
    exact h2
  ·intro t ht'
   cases hd:o.dst with
   | none=>exact inv.un t ht'
   | some d=>
    rw[put_get,if_neg (fun q=>ht' i hin hit (by rw[hdst,hd,q]))]
    exact inv.un t ht'
 exact⟨b,h,he,hw,hz,next⟩
theorem mono_step {tl late:List Nat} {Q:Exit→Act→World→Prop} {a0:Act} {w0:World} (hrf:∀ w,L w w) (htr:∀ a b c,L a b→L b c→L a c) (hB:monoB ops a0.tmps.size tl late=true)
  {i:Nat} {o:Oper} (hi:ops[i]?=some o) (hit:tl.contains i=false) (hst:stepA P ops L T late a0 w0 i o) {s:Array Bool} {a:Act} {w:World} (inv:MInv ops L T tl a0 w0 s a w) (hr:i∈Region.ready .any ops s) {K:Act→World→Prop}
  (hK:∀ a' w',MInv ops L T tl a0 w0 (s.setIfInBounds i true) a' w'→K a' w'):wpOp P ops Q i K a w:=by
 rcases hst with hst | ⟨_,hst⟩
 ·obtain⟨b,⟨v,hy,ht⟩,he,hw,_,next⟩:=mono_at hrf htr hB hi hit inv hr (hst w inv.kp)
  exact (hy.of_same he hw).wpOp hi (hK _ _ (next v w (hrf w) (fun _ _=>ht)))
 obtain⟨b,h,he,hw,hz,next0⟩:=mono_at hrf htr hB hi hit inv hr (hst w inv.kp)
 have next:∀ (v:Value) (w':World),L w w'→(∀ d,o.dst=some d→T i v w')→K (a.put o.dst v) w':=fun v w' hl ht=>hK _ _ (next0 v w' hl ht)
 obtain⟨b1,b2,b3⟩:=monoB_op hB hit hi
 unfold wpOp
 simp only[hi]
 rw[hw]
 split
 ·rename_i hwt
  rw[if_pos hwt] at h
  refine Or.inl ?_
  unfold Oper.wp at *
  rw[he]
  have evd:∀ d v,o.dst=some d→(b.put o.dst v).eval (.tmp d)=v:=by
   intro d v hd
   rw[hd,eval_get]
   have hlt:d<b.tmps.size:=by rw[hz];exact (b2 d hd).1
   simp[Act.put,hlt]
  have fin:∀ (v:Value) (w':World),KT L (T i) o b w (b.put o.dst v) w'→K (a.put o.dst v) w':=by
   intro v w' hk
   refine next v w' hk.1 fun d hd=>?_
   have:=hk.2.2
   have e1:=evd d v hd
   rw[hd] at this e1
   simp only[] at this
   rwa [e1] at this
  generalize (execOp b.eval o).run P w=r at *
  cases r with
  | ok nx w'=>
   cases nx <;> simp only[Oper.upon] at h ⊢
   case value v=>exact fin v w' h
   case skip=>exact fin _ w' h
   case defer d=>
    have:=h.2.1
    exfalso
    have e1:((({ b with defers:=d::b.defers }:Act).put o.dst undef)).defers=d::b.defers:=by cases o.dst <;> rfl
    rw[e1] at this
    exact absurd (congrArg List.length this) (by simp)
   case enter f args=>
    refine Calls.mono h fun e w'' hq=>?_
    cases e with
    | returned v=>exact fin v w'' hq
    | panicked c=>exact hq.elim
    | outgrown=>obtain⟨_,_,hq⟩:=hq;exact hq.elim
   case row row args=>exact Rows.mono h fun v w'' hq=>fin v w'' hq
  | halt x w'=>
   cases x <;> simp only[Oper.upon] at h ⊢
 ·rename_i hwt
  rw[if_neg hwt] at h
  refine next _ _ h.1 fun d hd=>?_
  have:=h.2.2
  have e1:(b.put o.dst undef).eval (.tmp d)=undef:=by
   rw[hd,eval_get]
   have hlt:d<b.tmps.size:=by rw[hz];exact (b2 d hd).1
   simp[Act.put,hlt]
  rw[hd] at this e1
  simp only[] at this
  rwa [e1] at this
theorem tail_waitsL {tl late:List Nat} {t0:Nat} {ts:List Nat} (htl:tl=t0::ts) (hs:sinkL ops tl late=true) {a0 a:Act} {w0 w:World} {s:Array Bool} (inv:MInv ops L T tl a0 w0 s a w):
  ∀ (d i:Nat),ops.size-i=d→i<ops.size→tl.contains i=false→late.contains i=false→s.getD i false=false→t0 ∉ Region.ready .any ops s:=by
 intro d
 induction d using Nat.strongRecOn with
 | _ d ih=>
  intro i hd hi hit hla hun hr
  obtain⟨_,ot,hot,hall⟩:=mem_ready.1 hr
  subst htl
  unfold sinkL at hs
  have h1:=List.all_eq_true.1 hs i (List.mem_range.2 hi)
  rw[hla,hit,Bool.false_or,Bool.false_or,Bool.or_eq_true] at h1
  rcases h1 with h1 | h1
  ·obtain⟨oj,hoj,e,he,hb,hon⟩:=Region.waitsFor_spec h1
   have:oj=ot:=Option.some.inj (hoj.symm.trans hot)
   subst this
   have h2:=hall e he hb
   rw[hon,hun] at h2
   cases h2
  ·obtain⟨j,hj,hj2⟩:=List.any_eq_true.1 h1
   simp only[Bool.and_eq_true,decide_eq_true_eq,Bool.not_eq_true'] at hj2
   obtain⟨⟨⟨hij,hwt⟩,hjt⟩,hjl⟩:=hj2
   obtain⟨oj,hoj,e,he,hb,hon⟩:=Region.waitsFor_spec hwt
   have hjs:=List.mem_range.1 hj
   cases hl:s.getD j false with
   | true=>
    have h2:=inv.closed j oj hoj hl e he hb
    rw[hon,hun] at h2
    cases h2
   | false=>exact ih (ops.size-j) (by omega) j rfl hjs hjt hjl hl hr
theorem chain_waits {tl:List Nat} {s:Array Bool}:∀ {l:List Nat} {t:Nat},chainL ops l=true→(∀ t,t∈l→s.getD t false=false)→t∈l→t∈Region.ready .any ops s→l.head?=some t
 | [],t,_,_,ht,_=>by cases ht
 | x::l,t,hc,hn,ht,hr=>by
  rcases List.mem_cons.1 ht with rfl | ht
  ·rfl
  ·exfalso
   unfold chainL at hc
   rw[Bool.and_eq_true] at hc
   have h1:=chain_waits (tl:=tl) hc.2 (fun t h=>hn t (List.mem_cons_of_mem _ h)) ht hr
   match l,h1,hc with
   | y::l,h1,hc=>
    obtain rfl:y=t:=Option.some.inj h1
    obtain⟨o',ho',e,he,hb,hon⟩:=Region.waitsFor_spec hc.1
    obtain⟨_,o,ho,hall⟩:=mem_ready.1 hr
    rw[ho'] at ho;cases ho
    have h2:=hall e he hb
    rw[hon,hn x (List.mem_cons_self ..)] at h2
    cases h2
theorem mono_run {g:Nat} {tl late:List Nat} {Q:Exit→Act→World→Prop} {a0:Act} {w0:World} (hrf:∀ w,L w w) (htr:∀ a b c,L a b→L b c→L a c) (hB:monoB ops a0.tmps.size tl late=true) (hQ:∀ c d v a w,Q (.panic c) (Act.put a d v) w→Q (.panic c) a w)
  (hst:∀ i o,tl.contains i=false→ops[i]?=some o→stepA P ops L T late a0 w0 i o) (hfin:∀ s a w,MInv ops L T tl a0 w0 s a w→(∀ j,j<ops.size→tl.contains j=false→s.getD j false=true)→wpAny P .any ops Q g s a w):
  ∀ (f:Nat) (s:Array Bool) (a:Act) (w:World),unl tl s ops.size≤f→MInv ops L T tl a0 w0 s a w→wpAny P .any ops Q (f+g) s a w
 | 0,s,a,w,hf,inv=>by rw[Nat.zero_add];exact hfin s a w inv (unl_zero (by omega))
 | f+1,s,a,w,hf,inv=>by
  by_cases h0:unl tl s ops.size=0
  ·have:=wpAny_more _ _ _ _ (mono_run hrf htr hB hQ hst hfin f s a w (by omega) inv)
   rwa [Nat.add_right_comm] at this
  ·obtain⟨i0,hi0,ht0,hu0,hl0⟩:=unl_pos (Nat.pos_of_ne_zero h0)
   have hBB:=hB
   unfold monoB at hBB
   simp only[Bool.and_eq_true] at hBB
   have hgo:∀ i,i<ops.size→∃ o,ops[i]?=some o:=fun i hi=>⟨_,Array.getElem?_eq_getElem hi⟩
   have hs:s.size=ops.size:=inv.size
   have hr0:i0∈Region.ready .any ops s:=by
    obtain⟨o,ho⟩:=hgo i0 hi0
    refine mem_ready.2 ⟨getD_in (by omega) hu0,o,ho,fun e he hb=>?_⟩
    have h1:=(monoB_op hB ht0 ho).1 e.on (by
     unfold depsOf
     exact List.mem_map.2 ⟨e,List.mem_filter.2 ⟨Array.mem_toList_iff.2 he,hb⟩,rfl⟩)
    exact hl0 _ h1.1 h1.2
   have hdec:∀ i,i<ops.size→tl.contains i=false→s.getD i false=false→unl tl (s.setIfInBounds i true) ops.size≤f:=fun i hin hit hiu=>by
    have:=unl_set (s:=s) (by omega:i<s.size) hiu hit ops.size
    rw[if_pos hin] at this
    omega
   rw[Nat.add_right_comm]
   by_cases hlt:∃ i,i<ops.size∧tl.contains i=false∧late.contains i=false∧s.getD i false=false
   ·obtain⟨i1,hi1,hit1,hla1,hu1⟩:=hlt
    refine⟨fun e=>(by rw[e] at hr0;cases hr0),fun i hi=>?_⟩
    have hit:tl.contains i=false:=by
     cases hc:tl.contains i with
     | false=>rfl
     | true=>
      exfalso
      have hmem:i∈tl:=by simpa using hc
      have hh:=chain_waits (tl:=tl) hBB.1.1.2.1.2 (fun t ht=>inv.tail t (by simpa using ht)) hmem hi
      match tl,hh with
      | t0::ts,hh=>
       obtain rfl:t0=i:=Option.some.inj hh
       exact tail_waitsL rfl hBB.1.1.2.1.1 inv _ i1 rfl hi1 hit1 hla1 hu1 hi
    have hio:i<ops.size:=by
     obtain⟨_,o,ho,_⟩:=mem_ready.1 hi
     exact (Array.getElem?_eq_some_iff.1 ho).1
    obtain⟨o,ho⟩:=hgo i hio
    have hiu:s.getD i false=false:=getD_both (mem_ready.1 hi).1
    exact mono_step hrf htr hB ho hit (hst i o hit ho) inv hi fun a' w' inv'=>mono_run hrf htr hB hQ hst hfin f _ a' w' (hdec i hio hit hiu) inv'
   ·have hla:late.contains i0=true:=by
     cases hc:late.contains i0 with
     | true=>rfl
     | false=>exact absurd ⟨i0,hi0,ht0,hc,hu0⟩ hlt
    obtain⟨o,ho⟩:=hgo i0 hi0
    have hE:stepE P ops L T a0 w0 i0 o:=by
     rcases hst i0 o ht0 ho with h | ⟨h,_⟩
     ·exact h
     ·rw[h] at hla;cases hla
    obtain⟨b,⟨v,hy,ht⟩,he,hw,_,next⟩:=mono_at hrf htr hB ho ht0 inv hr0 (hE w inv.kp)
    have hfr:=List.all_eq_true.1 hBB.1.1.2.2 i0 (by simpa using hla)
    unfold freeS at hfr
    rw[ho] at hfr
    simp only[List.all_eq_true,List.mem_range,Bool.or_eq_true,decide_eq_true_eq] at hfr
    refine wpAny_first ho (Region.noSelect_spec hBB.1.1.1) (fun c a w h=>hQ c _ _ a w h) (f+g) s a w ?_ hr0 (hy.of_same he hw) (mono_run hrf htr hB hQ hst hfin f _ _ _ (hdec i0 hi0 ht0 hu0) (next v w (hrf w) (fun _ _=>ht)))
    intro j oj hj hne hjun hno
    have h1:=hfr j (Array.getElem?_eq_some_iff.1 hj).1
    rcases h1 with ((h1 | h1) | h1) | h1
    ·exact absurd h1 hne
    ·obtain⟨o',ho',e,he',hb,hon⟩:=Region.waitsFor_spec h1
     rw[hj] at ho';cases ho'
     exact absurd hon (hno e he' hb)
    ·exfalso
     obtain⟨_,o',ho',hall⟩:=mem_ready.1 hr0
     rw[ho] at ho';cases ho'
     have:s.getD j false=true:=by
      have hm:j∈depsOf o:=by simpa using h1
      unfold depsOf at hm
      obtain⟨e,he',rfl⟩:=List.mem_map.1 hm
      rw[List.mem_filter] at he'
      exact hall e (Array.mem_toList_iff.1 he'.1) he'.2
     rw[getD_both hjun] at this;cases this
    ·rw[hj] at h1;exact h1
theorem sT_get (tl:List Nat) (j:Nat):(sT ops tl)[j]?=if j<ops.size then some (!tl.contains j) else none:=by
 unfold sT
 rw[List.getElem?_toArray,List.getElem?_map]
 by_cases h:j<ops.size
 ·rw[if_pos h,List.getElem?_range h];rfl
 ·rw[if_neg h,List.getElem?_eq_none (by simpa using h)];rfl
theorem fm_congr {α β:Type} {f g:α→Option β}:∀ {l:List α},(∀ x,x∈l→f x=g x)→l.filterMap f=l.filterMap g
 | [],_=>rfl
 | a::l,h=>by rw[List.filterMap_cons,List.filterMap_cons,h a (List.mem_cons_self ..),fm_congr (fun x hx=>h x (List.mem_cons_of_mem _ hx))]
theorem unl_count (tl:List Nat) (s:Array Bool):∀ n,unl tl s n+((List.range n).filter (tl.contains ·)).length≤n
 | 0=>by simp[unl]
 | n+1=>by
  have ih:=unl_count tl s n
  rw[List.range_succ,List.filter_append,List.length_append]
  unfold unl
  cases hc:tl.contains n with
  | true=>
   have:([n].filter (tl.contains ·)).length=1:=by rw[List.filter_cons,if_pos hc];rfl
   rw[this,if_pos (Or.inr rfl)];omega
  | false=>
   have:([n].filter (tl.contains ·)).length=0:=by rw[List.filter_cons,if_neg (by rw[hc];exact Bool.false_ne_true)];rfl
   rw[this];split <;> omega
theorem pick_get {tl:List Nat}:∀ (l:List Oper) (k:Nat),pickT tl k l=((List.range' k l.length).filter (tl.contains ·)).filterMap (fun i=>l[i-k]?)
 | [],k=>by simp[pickT]
 | o::l,k=>by
  have ih:=pick_get (tl:=tl) l (k+1)
  have e:((List.range' (k+1) l.length).filter (tl.contains ·)).filterMap (fun i=>(o::l)[i-k]?)=((List.range' (k+1) l.length).filter (tl.contains ·)).filterMap (fun i=>l[i-(k+1)]?):=by
   apply fm_congr
   intro i hi
   have:=List.mem_range'_1.1 (List.mem_filter.1 hi).1
   obtain⟨q,rfl⟩:∃ q,i=k+1+q:=⟨i-(k+1),by omega⟩
   rw[show k+1+q-k=q+1 by omega,List.getElem?_cons_succ,show k+1+q-(k+1)=q by omega]
  rw[pickT,ih,List.length_cons,List.range'_succ,List.filter_cons]
  split
  ·rw[List.filterMap_cons,Nat.sub_self];simp only[List.getElem?_cons_zero];rw[e]
  ·rw[e]
theorem wp_region_mono {L:World→World→Prop} (T:Nat→Value→World→Prop) {id:Nat} {Q:Exit→Act→World→Prop} {a0:Act} {w:World} {l:List Oper} (tl late:List Nat) (m:Nat) (hm:P.follows .mixedOrders=true) (hz:a0.tmps.size=m) (hB:monoB l.toArray m tl late=true)
  (htl:tl=(List.range l.length).filter (tl.contains ·))
  (hrf:∀ w,L w w) (htr:∀ a b c,L a b→L b c→L a c) (hQ:∀ c d v a w,Q (.panic c) (Act.put a d v) w→Q (.panic c) a w)
  (hst:allM P l.toArray L T late tl a0 w.drew 0 l)
  (hfin:∀ w',L w.drew w'→allV l.toArray L T (fun a'=>wpList P l.toArray Q (pickT tl 0 l) a' w') w' ((List.range l.length).filter (fun i=>!tl.contains i)) a0):(Code.region id l.toArray true).wp P Q a0 w:=by
 subst hz
 have hseq:seqL l.toArray tl (sT l.toArray tl)=true:=by
  have:=hB
  unfold monoB at this
  simp only[Bool.and_eq_true] at this
  exact this.1.2
 have hrep:∀ j,(Array.replicate l.toArray.size false).getD j false=false:=fun j=>getD_replicate_false _ _
 have inv0:MInv l.toArray L T tl a0 w.drew (Array.replicate l.toArray.size false) a0 w.drew:=
  ⟨by simp,fun j oj _ hl=>(by rw[hrep] at hl;cases hl),fun t _=>hrep t,hrf _,rfl,rfl,fun j d hj=>(by rw[hrep] at hj;cases hj),fun _ _=>rfl⟩
 have hpick:pickT tl 0 l=tl.filterMap (fun t:Nat=>l[t]?):=by
  rw[pick_get]
  simp only[Nat.sub_zero]
  rw[← List.range_eq_range',← htl]
 have hpl:∀ j:Nat,(tl[j]?).bind (fun t:Nat=>l.toArray[t]?)=(pickT tl 0 l)[j]?:=by
  rw[hpick]
  have hall:∀ t,t∈tl→∃ o,l[t]?=some o:=fun t ht=>by
   rw[htl] at ht
   exact⟨_,List.getElem?_eq_getElem (List.mem_range.1 (List.mem_filter.1 ht).1)⟩
  clear hfin hst hseq inv0 hB htl hpick
  induction tl with
  | nil=>intro j;simp
  | cons t ts ih=>
   obtain⟨o,ho⟩:=hall t (List.mem_cons_self ..)
   intro j
   rw[List.filterMap_cons,ho]
   cases j with
   | zero=>simp[ho]
   | succ j=>simpa using ih (fun t h=>hall t (List.mem_cons_of_mem _ h)) j
 refine wp_region_any hm ?_
 have hlen:(pickT tl 0 l).length=tl.length:=by
  rw[hpick]
  have hall:∀ t,t∈tl→∃ o,l[t]?=some o:=fun t ht=>by
   rw[htl] at ht
   exact⟨_,List.getElem?_eq_getElem (List.mem_range.1 (List.mem_filter.1 ht).1)⟩
  clear hfin hst hseq inv0 hB htl hpick hpl
  induction tl with
  | nil=>rfl
  | cons t ts ih=>
   obtain⟨o,ho⟩:=hall t (List.mem_cons_self ..)
   rw[List.filterMap_cons,ho,List.length_cons,List.length_cons,ih (fun t h=>hall t (List.mem_cons_of_mem _ h))]
 have hcnt:unl tl (Array.replicate l.toArray.size false) l.toArray.size+tl.length≤l.toArray.size:=by
  have h1:=unl_count tl (Array.replicate l.toArray.size false) l.toArray.size
  have h2:((List.range l.toArray.size).filter (tl.contains ·)).length=tl.length:=by
   have h3:=congrArg List.length htl
   simpa using h3.symm
  omega
 have H:=mono_run (P:=P) (Q:=Q) (g:=(pickT tl 0 l).length) hrf htr hB hQ (fun i o hi ho=>by
  have:=allM_at (k:=0) hst (show l[i]?=some o by simpa using ho) (by rwa [Nat.zero_add])
  rwa [Nat.zero_add] at this) (fun s a' w' inv hall=>by
  have es:s=sT l.toArray tl:=by
   refine Array.ext_getElem? fun j=>?_
   rw[sT_get]
   by_cases hj:j<l.toArray.size
   ·rw[if_pos hj]
    have hjs:j<s.size:=by rw[inv.size];exact hj
    cases hc:tl.contains j with
    | false=>
     have:=hall j hj hc
     simp[hjs] at this
     simp[hjs,this]
    | true=>
     have:=inv.tail j hc
     simp[hjs] at this
     simp[hjs,this]
   ·rw[if_neg hj,Array.getElem?_eq_none (by rw[inv.size];omega)]
  have ea:putD l.toArray a' ((List.range l.length).filter (fun i=>!tl.contains i)) a0=a':=by
   have e1:(putD l.toArray a' ((List.range l.length).filter (fun i=>!tl.contains i)) a0).tmps=a'.tmps:=by
    refine Array.ext_getElem? fun t=>putD_get inv.tz.symm ?_
    by_cases e:∃ j,j<l.toArray.size∧tl.contains j=false∧dstOf l.toArray j=some t
    ·obtain⟨j,hj,hjt,hd⟩:=e
     exact Or.inr ⟨j,List.mem_filter.2 ⟨List.mem_range.2 (by simpa using hj),by rw[hjt];rfl⟩,hd⟩
    ·exact Or.inl (inv.un t fun j hj hjt hd=>e ⟨j,hj,hjt,hd⟩).symm
   have e2:(putD l.toArray a' ((List.range l.length).filter (fun i=>!tl.contains i)) a0).defers=a'.defers:=by rw[putD_defers,inv.df]
   generalize putD l.toArray a' ((List.range l.length).filter (fun i=>!tl.contains i)) a0=b at *
   obtain⟨t1,d1⟩:=b
   obtain⟨t2,d2⟩:=a'
   simp only at e1 e2
   subst e1;subst e2;rfl
  have h:=allV_at (c:=a') (hfin w' inv.kp) (fun j hj d hd=>by
   have hj2:=List.mem_filter.1 hj
   exact inv.dn j d (hall j (by simpa using hj2.1) (by simpa using hj2.2)) hd)
  rw[ea] at h
  exact wpAny_seqL tl _ s a' w' hpl (by rw[es];exact hseq) h) (l.toArray.size-tl.length) (Array.replicate l.toArray.size false) a0 w.drew (by omega) inv0
 rw[hlen,show l.toArray.size-tl.length+tl.length=l.toArray.size by omega] at H
 exact H
def opW (P:Program) (ops:Array Oper) (L:World→World→Prop) (T:Value→World→Prop) (o:Oper) (b:Act) (W:World):Prop:=
 if Region.wanted o (yielded ops b.tmps)=true then o.wp P b W (KT L T o b W) (fun _ _ _=>False) else KT L T o b W (b.put o.dst undef) W
theorem stepM_of {a0:Act} {w0:World} {i:Nat} {o:Oper} (js:List Nat) (hj:depsOf o=js) (h:∀ W,L w0 W→allV ops L T (fun b=>opW P ops L (T i) o b W) W js a0):stepM P ops L T a0 w0 i o:=by
 subst hj;exact h
theorem allV_nil {K:Act→Prop} {W:World} {b:Act} (h:K b):allV ops L T K W [] b:=h
theorem allV_some {K:Act→Prop} {W:World} {b:Act} {j:Nat} {js:List Nat} (d:Tmp) (hd:dstOf ops j=some d) (h:∀ v,Up L (T j) v W→allV ops L T K W js (b.put (some d) v)):allV ops L T K W (j::js) b:=by
 unfold allV;rw[hd];exact h
theorem opW_go {T:Value→World→Prop} {o:Oper} {b:Act} {W:World} (hw:Region.wanted o (yielded ops b.tmps)=true) (h:∀ K:Act→World→Prop,(∀ a' w',KT L T o b W a' w'→K a' w')→o.wp P b W K (fun _ _ _=>False)):opW P ops L T o b W:=by
 unfold opW;rw[if_pos hw];exact h _ (fun _ _ h=>h)
theorem opW_skip {T:Value→World→Prop} {o:Oper} {b:Act} {W:World} (hw:Region.wanted o (yielded ops b.tmps)=false) (h:KT L T o b W (b.put o.dst undef) W):opW P ops L T o b W:=by
 unfold opW;rw[if_neg (by rw[hw];exact Bool.false_ne_true)];exact h
theorem KT.mk {L:World→World→Prop} {T:Value→World→Prop} {o:Oper} {b a':Act} {W w':World} (h:L W w') (hd:a'.defers=b.defers) (d:Tmp) (ho:o.dst=some d) (ht:T (a'.eval (.tmp d)) w'):KT L T o b W a' w':=by
 refine⟨h,hd,?_⟩
 rw[ho];exact ht
end
end Go.Proofs.YtdmebjbkccjhbaaGreatDoor
namespace Go.Proofs.YtdmebjbkccjhbaaGreatDoor
open Go.RowKit
variable {bz:Nat}
theorem KRowY.keptL {W W':World} {base g:Nat} {l:List Ty} (h:KRowY bz W base g l) {S:Nat→Prop} (k:Kept S W W') (h1:¬ S g) (h2:∀ q,base≤q→q≠g→q<W.heap.size→¬ S q):KRowY bz W' base g l:=by
 obtain⟨L,K,bG,hL,hR⟩:=h.row
 refine⟨⟨L,K,bG.kept k h1,hL,fun i hi=>?_⟩⟩
 obtain⟨e0,e1,e2,e3⟩:=hR i hi
 exact⟨e0,e1,e2,e3.frame (fun q hq hl=>k.block q hl (h2 q hq.1 hq.2 hl))⟩
theorem KRowY.at {W:World} {base g:Nat} {l:List Ty} (h:KRowY bz W base g l) (i:Nat) (hi:i<l.length):∃ ta tn tc,W.cell? ⟨g,i*3,none⟩=some (.int .i64 l[i].kind)∧W.cell? ⟨g,i*3+1,none⟩=some (.string l[i].name)∧W.cell? ⟨g,i*3+2,none⟩=some (.slice ta tn tc)∧TyL bz (fun q=>base≤q∧q≠g) W l[i].kids (.slice ta tn tc)∧W.frozen? ⟨g,i*3,none⟩=false∧W.frozen? ⟨g,i*3+1,none⟩=false∧W.frozen? ⟨g,i*3+2,none⟩=false∧g<W.heap.size:=by
 obtain⟨L,K,bG,hL,hR⟩:=h.row
 obtain⟨e0,e1,e2,e3⟩:=hR i hi
 obtain⟨ta,tn,tc,hK⟩:=e3.slice
 rw[hK] at e2 e3
 exact⟨ta,tn,tc,by rw[bG.cell];exact e0,by rw[bG.cell];exact e1,by rw[bG.cell];exact e2,e3,bG.frozen _,bG.frozen _,bG.frozen _,bG.lt⟩
theorem rcopyTy_row {t:Ty} (hb:BdTy t) {w:World} {ok:Nat→Prop} {tk:Value} (h:TyL bz ok w t.kids tk):Calls Tryz.prog 64 #[tyVal t tk] w fun e w'=>∃ a c g,e=.returned (tyVal t (.slice a t.kids.length c))∧TyL bz (fun q=>w.heap.size≤q) w' t.kids (.slice a t.kids.length c)∧(t.kids≠[]→a=some ⟨g,0,none⟩∧w.heap.size≤g∧g<w'.heap.size∧t.kids.length≤c∧KRowY bz w' w.heap.size g t.kids)∧Kept (fun _=>False) w w':=by
 by_cases hne:t.kids=[]
 ·refine (rcopyTy_any hb w ok tk h).mono ?_
  rintro e w' ⟨v,rfl,h1,k⟩
  obtain⟨a,n,c,rfl⟩:=h1.slice
  obtain rfl:n=t.kids.length:=h1.len
  exact⟨a,c,0,rfl,h1,fun h=>absurd hne h,k⟩
 ·refine (rcopyTy_kids hb hne h).mono ?_
  rintro e w' ⟨g,c,rfl,hc,hg,hr,k⟩
  exact⟨_,c,g,rfl,hr.tyl hg hc,fun _=>⟨rfl,hg,(by obtain⟨L,K,bG,_⟩:=hr.row;exact bG.lt),hc,hr⟩,k⟩
def rlY (x y:ByteArray) (l:List Ty) (j:Nat):List Ty:=(l.take j).map (rnY x y)++l.drop j
theorem rlY_len {x y:ByteArray} {l:List Ty} {j:Nat}:(rlY x y l j).length=l.length:=by unfold rlY;simp;omega
theorem rlY_at {x y:ByteArray} {l:List Ty} {j:Nat} (h:j<l.length) (h':j<(rlY x y l j).length):(rlY x y l j)[j]=l[j]:=by
 have h1:(rlY x y l j)[j]?=some l[j]:=by
  unfold rlY
  rw[List.getElem?_append_right (by simp;omega),List.length_map,List.length_take,Nat.min_eq_left (Nat.le_of_lt h),Nat.sub_self,List.getElem?_drop,Nat.add_zero,List.getElem?_eq_getElem h]
 rw[List.getElem?_eq_getElem h'] at h1
 exact Option.some.inj h1
theorem rlY_set {x y:ByteArray} {l:List Ty} {j:Nat} (h:j<l.length):(rlY x y l j).set j (rnY x y l[j])=rlY x y l (j+1):=by
 unfold rlY
 rw[List.take_succ_eq_append_getElem h,List.map_append,List.drop_eq_getElem_cons h,List.set_append_right _ _ (by simp;omega)]
 have e:j-((l.take j).map (rnY x y)).length=0:=by simp;omega
 rw[e,List.set_cons_zero,List.append_assoc]
 rfl
theorem rlY_zero {x y:ByteArray} {l:List Ty}:rlY x y l 0=l:=by unfold rlY;simp
theorem rlY_all {x y:ByteArray} {l:List Ty}:rlY x y l l.length=rnYs x y l:=by unfold rlY;rw[rnYs_map];simp
def RnYC (bz:Nat) (x y:ByteArray) (t:Ty):Prop:=∀ (w:World) (ok:Nat→Prop) (tk:Value),TyL bz ok w t.kids tk →
 Calls Tryz.prog 111 #[tyVal t tk,.string x,.string y] w fun e w'=>∃ v,e=.returned (tyVal (rnY x y t) v)∧TyL bz (fun q=>w.heap.size≤q) w' (rnYs x y t.kids) v∧Kept (fun _=>False) w w'
structure RnI (bz:Nat) (w:World) (kd:Int) (nm x y:ByteArray) (l:List Ty) (a:Option Addr) (c g O j:Nat) (wr:World):Prop where
 kp:Kept (fun _=>False) w wr
 r:Blk wr (w.heap.size+1) 24 [Value.int .i64 0,.string ⟨#[]⟩,.slice none 0 0]
 o:Blk wr O 24 [.int .i64 kd,.string nm,.slice a l.length c]
 ob:w.heap.size+2≤O
 ol:l=[]→empty0 (.slice a l.length c)
 row:l≠[]→a=some ⟨g,0,none⟩∧w.heap.size+2≤g∧g≠O∧l.length≤c∧KRowY bz wr (w.heap.size+2) g (rlY x y l j)
theorem RnI.kept {w wr W:World} {kd:Int} {nm x y:ByteArray} {l:List Ty} {a:Option Addr} {c g O j:Nat} (h:RnI bz w kd nm x y l a c g O j wr) (k:Kept (fun _=>False) wr W):RnI bz w kd nm x y l a c g O j W:=
 ⟨h.kp.trans k,h.r.kept k (fun e=>e),h.o.kept k (fun e=>e),h.ob,h.ol,fun hne=>by
  obtain⟨h1,h2,h3,h4,h5⟩:=h.row hne
  exact⟨h1,h2,h3,h4,h5.kept k (fun e=>e) (fun _ _ _ e=>e)⟩⟩
theorem RnI.step {w wr W:World} {kd:Int} {nm x y:ByteArray} {l:List Ty} {a:Option Addr} {c g O j:Nat} {v:Value} (h:RnI bz w kd nm x y l a c g O j wr) (hj:j<l.length) (k:Kept (fun _=>False) wr W) (hv:TyL bz (fun q=>wr.heap.size≤q) W (rnY x y l[j]).kids v):
  RnI bz w kd nm x y l a c g O (j+1) (((W.setCell ⟨g,j*3,none⟩ (.int .i64 (rnY x y l[j]).kind)).setCell ⟨g,j*3+1,none⟩ (.string (rnY x y l[j]).name)).setCell ⟨g,j*3+2,none⟩ v):=by
 have hne:l≠[]:=fun e=>by subst e;simp at hj
 have h0:=h.kept k
 obtain⟨h1,h2,h3,h4,h5⟩:=h0.row hne
 have hgl:g<wr.heap.size:=by
  obtain⟨_,_,_,_,h6⟩:=h.row hne
  obtain⟨L,K,bG,_⟩:=h6.row
  exact bG.lt
 have kS:Kept (·=g) W (((W.setCell ⟨g,j*3,none⟩ (.int .i64 (rnY x y l[j]).kind)).setCell ⟨g,j*3+1,none⟩ (.string (rnY x y l[j]).name)).setCell ⟨g,j*3+2,none⟩ v):=(((Kept.refl (fun x=>x=g) _).setCell (p:=⟨g,j*3,none⟩) (Or.inl rfl) _).setCell (p:=⟨g,j*3+1,none⟩) (Or.inl rfl) _).setCell (p:=⟨g,j*3+2,none⟩) (Or.inl rfl) _
 refine⟨h0.kp.via1 kS (fun q hq e=>by have e':q=g:=e;omega),h0.r.kept kS (by show ¬ w.heap.size+1=g;omega),h0.o.kept kS (by show ¬ O=g;omega),h.ob,fun e=>absurd e hne,fun _=>⟨h1,h2,h3,h4,?_⟩⟩
 have hp:=h5.put (j:=j) (u:=rnY x y l[j]) (v:=v) (by rw[rlY_len];exact hj) (hv.mono (fun q _ hq=>⟨by have:=h.kp.size;have:=h.ob;have:=h.r.lt;omega,by omega⟩))
 rw[rlY_set hj] at hp
 exact hp
theorem rny_one {x y:ByteArray} {kd:Int} {nm:ByteArray} {l:List Ty} (hb:BdTy (.mk kd nm l)) (IH:∀ t,t∈l→RnYC bz x y t):RnYC bz x y (.mk kd nm l):=by
 intro w ok tk hk
 obtain⟨a0,n0,c0,rfl⟩:=hk.slice
 have hn:n0=l.length:=hk.len
 subst hn
 have hk':TyL bz ok w l (.slice a0 l.length c0):=hk
 have HIH:=Ld IH
 have HN1:Hid (l.length≤1000000):=Ld (by cases hb;assumption)
 change Calls Tryz.prog 111 #[.agg #[.int .i64 kd,.string nm,.slice a0 l.length c0],.string x,.string y] w _
 have K0:Kept (fun _=>False) w ((w.alloc (.cells #[.int .i64 kd,.string nm,.slice a0 l.length c0] 24)).alloc (.cells #[.int .i64 0,.string ⟨#[]⟩,.slice none 0 0] 24)):=(kR.alloc _).alloc _
 have HC:Hid (Calls Tryz.prog 64 #[.agg #[.int .i64 kd,.string nm,.slice a0 l.length c0]] ((w.alloc (.cells #[.int .i64 kd,.string nm,.slice a0 l.length c0] 24)).alloc (.cells #[.int .i64 0,.string ⟨#[]⟩,.slice none 0 0] 24)) fun e w'=>∃ a c g,e=.returned (.agg #[.int .i64 kd,.string nm,.slice a l.length c])∧TyL bz (fun q=>((w.alloc (.cells #[.int .i64 kd,.string nm,.slice a0 l.length c0] 24)).alloc (.cells #[.int .i64 0,.string ⟨#[]⟩,.slice none 0 0] 24)).heap.size≤q) w' l (.slice a l.length c)∧(l≠[]→a=some ⟨g,0,none⟩∧((w.alloc (.cells #[.int .i64 kd,.string nm,.slice a0 l.length c0] 24)).alloc (.cells #[.int .i64 0,.string ⟨#[]⟩,.slice none 0 0] 24)).heap.size≤g∧g<w'.heap.size∧l.length≤c∧KRowY bz w' ((w.alloc (.cells #[.int .i64 kd,.string nm,.slice a0 l.length c0] 24)).alloc (.cells #[.int .i64 0,.string ⟨#[]⟩,.slice none 0 0] 24)).heap.size g l)∧Kept (fun _=>False) ((w.alloc (.cells #[.int .i64 kd,.string nm,.slice a0 l.length c0] 24)).alloc (.cells #[.int .i64 0,.string ⟨#[]⟩,.slice none 0 0] 24)) w'):=Ld (rcopyTy_row (t:=.mk kd nm l) hb (hk'.frame (sK K0):TyL bz ok ((w.alloc (.cells #[.int .i64 kd,.string nm,.slice a0 l.length c0] 24)).alloc (.cells #[.int .i64 0,.string ⟨#[]⟩,.slice none 0 0] 24)) (Ty.mk kd nm l).kids _))
 have BA:Hid (Blk ((w.alloc (.cells #[.int .i64 kd,.string nm,.slice a0 l.length c0] 24)).alloc (.cells #[.int .i64 0,.string ⟨#[]⟩,.slice none 0 0] 24)) w.heap.size 24 [.int .i64 kd,.string nm,.slice a0 l.length c0]):=Ld ((Blk.new w 24 _).alloc _)
 have BR:Hid (Blk ((w.alloc (.cells #[.int .i64 kd,.string nm,.slice a0 l.length c0] 24)).alloc (.cells #[.int .i64 0,.string ⟨#[]⟩,.slice none 0 0] 24)) (w.heap.size+1) 24 [Value.int .i64 0,.string ⟨#[]⟩,.slice none 0 0]):=Ld (Blk.new' 24 _ (by simp))
 have Z1:Hid (((w.alloc (.cells #[.int .i64 kd,.string nm,.slice a0 l.length c0] 24)).alloc (.cells #[.int .i64 0,.string ⟨#[]⟩,.slice none 0 0] 24)).heap.size=w.heap.size+2):=Ld (by simp)
 have HK:=Ld K0
 have HRN:Hid (rnY x y (.mk kd nm l)=.mk kd (if kd=3∧nm=x then y else nm) (rnYs x y l)):=Ld (by rw[rnY])
 have HEQ:Hid (∀ b,(nm.toList==x.toList)=b→(b=true↔nm=x)):=Ld (fun b h=>by rw[← h,nm_eq,decide_eq_true_iff])
 clear hk hk' IH K0 hb
 go_enter Tryz.func111,Tryz.ntmps111
 go_wp2_with fail
 generalize ((w.alloc (.cells #[.int .i64 kd,.string nm,.slice a0 l.length c0] 24)).alloc (.cells #[.int .i64 0,.string ⟨#[]⟩,.slice none 0 0] 24))=w1 at *
 refine HC.out.mono ?_
 rintro e w2 ⟨a,c,g,rfl,hty,hrow,k2⟩
 rw[Z1.out] at hrow
 have HROW:=Ld hrow
 have HOL:Hid (l=[]→empty0 (.slice a l.length c)):=Ld (fun e=>by
  subst e
  cases hty with
  | nil h=>exact h
  | mk K hne=>exact absurd rfl hne)
 have K2:=Ld (HK.out.trans k2)
 have BR2:=Ld (BR.out.kept k2 (fun e=>e))
 have Z2:Hid (w.heap.size+2≤w2.heap.size):=Ld (by have:=k2.size;have:=Z1.out;omega)
 clear hty hrow k2 HC BA BR HK Z1
 go_upto_region 2 with (fail)
 have KO:Kept (fun _=>False) w2 (w2.alloc (.cells #[.int .i64 kd,.string nm,.slice a l.length c] 24)):=kR.alloc _
 have BO:Hid (Blk (w2.alloc (.cells #[.int .i64 kd,.string nm,.slice a l.length c] 24)) w2.heap.size 24 [.int .i64 kd,.string nm,.slice a l.length c]):=Ld (Blk.new w2 24 _)
 have K3:=Ld (K2.out.trans KO)
 have BR3:=Ld (BR2.out.kept KO (fun e=>e))
 have HRW3:Hid (l≠[]→a=some ⟨g,0,none⟩∧w.heap.size+2≤g∧g<w2.heap.size∧l.length≤c∧KRowY bz (w2.alloc (.cells #[.int .i64 kd,.string nm,.slice a l.length c] 24)) (w.heap.size+2) g l):=Ld (fun h=>by
  obtain⟨h1,h2,h3,h4,h5⟩:=HROW.out h
  exact⟨h1,h2,h3,h4,h5.kept KO (fun e=>e) (fun _ _ _ e=>e)⟩)
 have HSM:Hid (∀ q,w.heap.size+2≤q→q<w2.heap.size→q≠w2.heap.size):=Ld (fun q _ h=>by omega)
 have HROW2:Hid (∀ W,Kept (·=w2.heap.size) (w2.alloc (.cells #[.int .i64 kd,.string nm,.slice a l.length c] 24)) W→l≠[]→a=some ⟨g,0,none⟩∧w.heap.size+2≤g∧g<w2.heap.size∧l.length≤c∧KRowY bz W (w.heap.size+2) g l):=Ld (fun W k h=>by
  obtain⟨h1,h2,h3,h4,h5⟩:=HROW.out h
  have k4:Kept (·=w2.heap.size) w2 W:=by
   have k5:Kept (·=w2.heap.size) w2 (w2.alloc (.cells #[.int .i64 kd,.string nm,.slice a l.length c] 24)):=kR.alloc _
   exact k5.trans k
  exact⟨h1,h2,h3,h4,h5.keptL k4 (by show ¬ g=_;omega) (fun q _ _ hq=>by show ¬ q=_;omega)⟩)
 clear KO HROW HRW3 HSM K2 BR2
 generalize (w2.alloc (.cells #[.int .i64 kd,.string nm,.slice a l.length c] 24))=w3 at *
 generalize w2.heap.size=O at *
 obtain⟨db,hdb⟩:∃ db,db=decide (kd=3∧nm=x):=⟨_,rfl⟩
 have HDB:=Ld hdb
 clear hdb
 go_cut [19] (fun v wc=>v=.bool db∧wc=w3)
 case first=>
  have gO:∀ i,w3.cell? ⟨O,i,none⟩=[Value.int .i64 kd,.string nm,.slice a l.length c][i]?:=BO.out.cell
  cases h3:(kd==3)
  ·have hd:Hid (decide (kd=3∧nm=x)=false):=Ld (decide_eq_false (fun e=>by rw[e.1] at h3;cases h3))
   go_wp2_with fail
   go_meet
   case rel=>exact⟨by rw[HDB.out,hd.out],rfl⟩
  ·cases hx:(nm.toList==x.toList)
   ·have hd:Hid (decide (kd=3∧nm=x)=false):=Ld (decide_eq_false (fun e=>by have:=(HEQ.out false hx).2 e.2;cases this))
    go_wp2_with fail
    go_meet
    case rel=>exact⟨by rw[HDB.out,hd.out],rfl⟩
   ·have hd:Hid (decide (kd=3∧nm=x)=true):=Ld (decide_eq_true ⟨by simpa using h3,(HEQ.out true hx).1 rfl⟩)
    go_wp2_with fail
    go_meet
    case rel=>exact⟨by rw[HDB.out,hd.out],rfl⟩
 case rest=>
  obtain⟨rfl,hwc⟩:=hcut
  subst hwc
  generalize wc=v3 at *
  generalize hrn:(if kd=3∧nm=x then y else nm)=rn at *
  have HR:=Ld hrn
  clear hrn HEQ
  go_upto_if 19 with (fail)
  go_cut [19,20] (fun _ _ wd=>Kept (·=O) v3 wd∧Blk wd O 24 [.int .i64 kd,.string rn,.slice a l.length c])
  case first=>
   have gO:∀ i,v3.cell? ⟨O,i,none⟩=[Value.int .i64 kd,.string nm,.slice a l.length c][i]?:=BO.out.cell
   have fO:∀ i,v3.frozen? ⟨O,i,none⟩=false:=BO.out.frozen
   by_cases hb:kd=3∧nm=x
   ·have hd:db=true:=HDB.out.trans (decide_eq_true hb)
    have hr:rn=y:=by rw[← HR.out,if_pos hb]
    subst hr hd
    have BO2:=Ld (BO.out.set 1 (.string rn))
    clear hb HDB
    go_wp2_with fail
    go_meet
    case rel=>exact⟨(Kept.refl (fun x=>x=O) _).setCell (p:=⟨O,1,none⟩) (Or.inl rfl) _,BO2.out⟩
   ·have hd:db=false:=HDB.out.trans (decide_eq_false hb)
    have hr:rn=nm:=by rw[← HR.out,if_neg hb]
    subst hr hd
    clear hb HDB
    go_wp2_with fail
    go_meet
    case rel=>exact⟨Kept.refl _ _,BO.out⟩
  case rest=>
   obtain⟨hk4,hb4⟩:=hcut
   have I0:Hid (RnI bz w kd rn x y l a c g O 0 wc):=Ld (by
    have hO:w.heap.size+2≤O:=Z2.out
    refine⟨K3.out.via1 hk4 (fun q hq e=>by have e':q=O:=e;omega),BR3.out.kept hk4 (by show ¬ w.heap.size+1=O;omega),hb4,hO,HOL.out,fun hne=>?_⟩
    obtain⟨h1,h2,h3,h4,h5⟩:=HROW2.out wc hk4 hne
    exact⟨h1,h2,by omega,h4,by rw[rlY_zero];exact h5⟩)
   clear hk4 hb4 HROW2 K3 BR3 BO HOL Z2
   generalize wc=w4 at *
   go_wp2_with fail
   go_loopw [8] (fun i wr=>∃ j:Nat,j≤l.length∧i=.int .i64 j∧Hid (RnI bz w kd rn x y l a c g O j wr)) (fun i _=>l.length-(intOf i).toNat)
   case atStart=>exact⟨0,Nat.zero_le _,rfl,I0⟩
   case round=>
    clear I0
    obtain⟨j,hj,rfl,HI⟩:=hrel
    have gO:∀ i,wr.cell? ⟨O,i,none⟩=[Value.int .i64 kd,.string rn,.slice a l.length c][i]?:=HI.out.o.cell
    by_cases hlt:j<l.length
    ·have i1:(j:Int)<(l.length:Int):=by omega
     have i2:(j:Int)<1000000:=by have:=HN1.out;omega
     have hne:l≠[]:=fun e=>by subst e;simp at hlt
     obtain⟨ha,hg2,hgO,hlc,hrow⟩:=HI.out.row hne
     subst ha
     have HGL:Hid (g<wr.heap.size):=Ld (by obtain⟨L,K,bG,_⟩:=hrow.row;exact bG.lt)
     have HAT:=Ld (fun W (k:Kept (fun _=>False) wr W)=>(hrow.kept k (fun e=>e) (fun _ _ _ e=>e)).at j (by rw[rlY_len];exact hlt))
     rw[rlY_at hlt] at HAT
     obtain⟨ta,tn,tc,c0,c1,c2,hty,_⟩:=HAT.out wr kR
     have HJ:=Ld (fun W (k:Kept (fun _=>False) wr W)=>HIH.out _ (List.getElem_mem hlt) W _ _ (hty.frame (sK k)))
     unfold tyVal at HJ
     have HRK:Hid ((rnY x y l[j]).kids=rnYs x y l[j].kids):=Ld (by cases l[j];rfl)
     clear hrow hty hne HAT
     go_upto_region 7 with (fail)
     have KD:Kept (fun _=>False) wr wr.drew:=kR.drew
     refine wp_region_mono (L:=Kept (fun _=>False)) (fun i v W=>match i with
      | 0=>v=.pointer (some ⟨O,2,none⟩)
      | 1=>v=.slice (some ⟨g,0,none⟩) l.length c
      | 2=>v=.int .i64 (j:Nat)
      | 3=>v=.pointer (some ⟨O,2,none⟩)
      | 4=>v=.slice (some ⟨g,0,none⟩) l.length c
      | 5=>v=.int .i64 (j:Nat)
      | 6=>v=.pointer (some ⟨g,j*3,none⟩)
      | 7=>v=.agg #[.int .i64 l[j].kind,.string l[j].name,.slice ta tn tc]
      | 8=>v=.string x
      | 9=>v=.string y
      | 10=>∃ x1 x2 x3,v=.agg #[.int .i64 (rnY x y l[j]).kind,.string (rnY x y l[j]).name,.slice x1 x2 x3]∧TyL bz (fun q=>wr.heap.size≤q) W (rnYs x y l[j].kids) (.slice x1 x2 x3)
      | _=>True) [11,12] [] 42 (by kernel_rfl) rfl (by kernel_rfl) (by kernel_rfl) (fun w=>Kept.refl _ w) (fun _ _ _ h1 h2=>h1.trans h2) (fun c d v a w h=>by cases d <;> exact h) ?_ ?_
     ·refine allM_cons rfl (stepM_of [] rfl fun W k=>allV_nil ?_) ?_
      ·refine opW_go rfl fun K hK=>?_
       go_simp
       exact hK _ _ (KT.mk kR rfl 29 rfl rfl)
      refine allM_cons rfl (stepM_of [0] rfl fun W k=>allV_some 29 rfl fun v0 h0=>allV_nil ?_) ?_
      ·obtain⟨w1,k1,rfl⟩:=h0
       have q:=KD.trans k
       have gX:∀ i,W.cell? ⟨O,i,none⟩=[Value.int .i64 kd,.string rn,.slice (some ⟨g,0,none⟩) l.length c][i]?:=(HI.out.o.kept q (fun h=>h)).cell
       refine opW_go rfl fun K hK=>?_
       go_simp
       exact hK _ _ (KT.mk kR rfl 30 rfl rfl)
      refine allM_cons rfl (stepM_of [] rfl fun W k=>allV_nil ?_) ?_
      ·refine opW_go rfl fun K hK=>?_
       go_simp
       exact hK _ _ (KT.mk kR rfl 31 rfl rfl)
      refine allM_cons rfl (stepM_of [] rfl fun W k=>allV_nil ?_) ?_
      ·refine opW_go rfl fun K hK=>?_
       go_simp
       exact hK _ _ (KT.mk kR rfl 32 rfl rfl)
      refine allM_cons rfl (stepM_of [3] rfl fun W k=>allV_some 32 rfl fun v0 h0=>allV_nil ?_) ?_
      ·obtain⟨w1,k1,rfl⟩:=h0
       have q:=KD.trans k
       have gX:∀ i,W.cell? ⟨O,i,none⟩=[Value.int .i64 kd,.string rn,.slice (some ⟨g,0,none⟩) l.length c][i]?:=(HI.out.o.kept q (fun h=>h)).cell
       refine opW_go rfl fun K hK=>?_
       go_simp
       exact hK _ _ (KT.mk kR rfl 33 rfl rfl)
      refine allM_cons rfl (stepM_of [] rfl fun W k=>allV_nil ?_) ?_
      ·refine opW_go rfl fun K hK=>?_
       go_simp
       exact hK _ _ (KT.mk kR rfl 34 rfl rfl)
      refine allM_cons rfl (stepM_of [4,5] rfl fun W k=>allV_some 33 rfl fun v0 h0=>allV_some 34 rfl fun v1 h1=>allV_nil ?_) ?_
      ·obtain⟨w1,k1,rfl⟩:=h0
       obtain⟨w2,k2,rfl⟩:=h1
       refine opW_go rfl fun K hK=>?_
       go_simp
       exact hK _ _ (KT.mk kR rfl 35 rfl rfl)
      refine allM_cons rfl (stepM_of [6] rfl fun W k=>allV_some 35 rfl fun v0 h0=>allV_nil ?_) ?_
      ·obtain⟨w1,k1,rfl⟩:=h0
       have q:=KD.trans k
       have y0:W.cell? ⟨g,j*3,none⟩=some (.int .i64 l[j].kind):=(q.cell (p:=⟨g,j*3,none⟩) HGL.out (fun h=>h)).trans c0
       have y1:W.cell? ⟨g,j*3+1,none⟩=some (.string l[j].name):=(q.cell (p:=⟨g,j*3+1,none⟩) HGL.out (fun h=>h)).trans c1
       have y2:W.cell? ⟨g,j*3+2,none⟩=some (.slice ta tn tc):=(q.cell (p:=⟨g,j*3+2,none⟩) HGL.out (fun h=>h)).trans c2
       refine opW_go rfl fun K hK=>?_
       go_simp
       exact hK _ _ (KT.mk kR rfl 36 rfl rfl)
      refine allM_cons rfl (stepM_of [] rfl fun W k=>allV_nil ?_) ?_
      ·refine opW_go rfl fun K hK=>?_
       go_simp
       exact hK _ _ (KT.mk kR rfl 37 rfl rfl)
      refine allM_cons rfl (stepM_of [] rfl fun W k=>allV_nil ?_) ?_
      ·refine opW_go rfl fun K hK=>?_
       go_simp
       exact hK _ _ (KT.mk kR rfl 38 rfl rfl)
      refine allM_cons rfl (stepM_of [7,8,9] rfl fun W k=>allV_some 36 rfl fun v0 h0=>allV_some 37 rfl fun v1 h1=>allV_some 38 rfl fun v2 h2=>allV_nil ?_) ?_
      ·obtain⟨w1,k1,rfl⟩:=h0
       obtain⟨w2,k2,rfl⟩:=h1
       obtain⟨w3,k3,rfl⟩:=h2
       refine opW_go rfl fun K hK=>?_
       go_simp
       go_at_call 111
       refine (HJ.out W (KD.trans k)).mono ?_
       rintro e w' ⟨tk,rfl,h5,k'⟩
       obtain⟨x1,x2,x3,rfl⟩:=h5.slice
       exact hK _ _ (KT.mk k' rfl 39 rfl ⟨x1,x2,x3,rfl,h5.mono (fun q _ hq=>by have:=(KD.trans k).size;omega)⟩)
      refine allM_tail rfl ?_
      refine allM_tail rfl ?_
      exact allM_nil
     ·intro W kW
      have hh:(List.range 13).filter (fun i=>!([11,12]:List Nat).contains i)=[0,1,2,3,4,5,6,7,8,9,10]:=by decide
      change allV _ _ _ _ _ ((List.range 13).filter (fun i=>!([11,12]:List Nat).contains i)) _
      rw[hh]
      generalize hKK:(fun a1=>wpList Tryz.prog _ _ (pickT [11,12] 0 _) a1 W)=KK
      refine allV_some 29 (by kernel_rfl) ?_
      intro v0 h0
      refine allV_some 30 (by kernel_rfl) ?_
      intro v1 h1
      refine allV_some 31 (by kernel_rfl) ?_
      intro v2 h2
      refine allV_some 32 (by kernel_rfl) ?_
      intro v3 h3
      refine allV_some 33 (by kernel_rfl) ?_
      intro v4 h4
      refine allV_some 34 (by kernel_rfl) ?_
      intro v5 h5
      refine allV_some 35 (by kernel_rfl) ?_
      intro v6 h6
      refine allV_some 36 (by kernel_rfl) ?_
      intro v7 h7
      refine allV_some 37 (by kernel_rfl) ?_
      intro v8 h8
      refine allV_some 38 (by kernel_rfl) ?_
      intro v9 h9
      refine allV_some 39 (by kernel_rfl) ?_
      intro v10 h10
      refine allV_nil ?_
      obtain⟨w0,k0,rfl⟩:=h0
      obtain⟨w1,k1,rfl⟩:=h1
      obtain⟨w2,k2,rfl⟩:=h2
      obtain⟨w3,k3,rfl⟩:=h3
      obtain⟨w4,k4,rfl⟩:=h4
      obtain⟨w5,k5,rfl⟩:=h5
      obtain⟨w6,k6,rfl⟩:=h6
      obtain⟨w7,k7,rfl⟩:=h7
      obtain⟨w8,k8,rfl⟩:=h8
      obtain⟨w9,k9,rfl⟩:=h9
      obtain⟨w10,k10,x1,x2,x3,rfl,hq⟩:=h10
      subst hKK
      have KW:Kept (fun _=>False) wr W:=KD.trans kW
      have HS:=Ld (HI.out.step hlt KW (v:=.slice x1 x2 x3) (by rw[HRK.out];exact hq.frame (sK k10)))
      have BG:=Ld (((HI.out.kept KW).row (fun e=>by subst e;simp at hlt)).2.2.2.2)
      have fg:Hid (∀ i,W.frozen? ⟨g,i,none⟩=false):=Ld (by obtain⟨L,K,bG,_⟩:=BG.out.row;exact bG.frozen)
      have e0:=(KW.cell (p:=⟨g,j*3,none⟩) HGL.out (fun h=>h)).trans c0
      have e1:=(KW.cell (p:=⟨g,j*3+1,none⟩) HGL.out (fun h=>h)).trans c1
      have e2:=(KW.cell (p:=⟨g,j*3+2,none⟩) HGL.out (fun h=>h)).trans c2
      have f0:=fg.out (j*3)
      have f1:=fg.out (j*3+1)
      have f2:=fg.out (j*3+2)
      clear hq k0 k1 k2 k3 k4 k5 k6 k7 k8 k9 k10 hh HJ c0 c1 c2 BG fg HI
      show wpList Tryz.prog _ _ [_,_] _ W
      simp only[Act.put,List.setIfInBounds_toArray,List.set_cons_succ,List.set_cons_zero]
      go_wp2_with fail
      go_roundw
      case rel=>exact⟨j+1,by omega,by go_num,HS⟩
      case measure=>simp[intOf];omega
    ·obtain rfl:j=l.length:=by omega
     have i1:¬ (l.length:Int)<(l.length:Int):=by omega
     have gR:∀ i,wr.cell? ⟨w.heap.size+1,i,none⟩=[Value.int .i64 0,.string ⟨#[]⟩,.slice none 0 0][i]?:=HI.out.r.cell
     have fR:∀ i,wr.frozen? ⟨w.heap.size+1,i,none⟩=false:=HI.out.r.frozen
     clear hlt
     go_wp2_with fail
     have bF:=r3' (x:=.int .i64 kd) (y:=.string rn) (z:=.slice a l.length c) HI.out.r rfl
     have HLEN:(rnYs x y l).length=l.length:=rnYs_len x y l
     refine bodyPost_ret (results_one Tryz.results111 rfl (load_ty (t:=.mk kd rn (rnYs x y l)) bF)) rfl ⟨_,by rw[HRN.out],?_,?_⟩
     ·show TyL bz _ _ (rnYs x y l) _
      by_cases hne:l=[]
      ·have:=HI.out.ol hne
       subst hne
       exact .nil this
      ·obtain⟨ha,hg2,hgO,hlc,hrow⟩:=HI.out.row hne
       rw[rlY_all] at hrow
       subst ha
       have ht:=hrow.tyl (c:=c) hg2 (by rw[HLEN];exact hlc)
       rw[HLEN] at ht
       exact (ht.frame (set3 (fun q h=>by omega))).mono (fun q _ h=>by omega)
     ·exact ((HI.out.kp.setCell (p:=⟨w.heap.size+1,0,none⟩) (Or.inr (by show w.heap.size≤w.heap.size+1;omega)) _).setCell (p:=⟨w.heap.size+1,1,none⟩) (Or.inr (by show w.heap.size≤w.heap.size+1;omega)) _).setCell (p:=⟨w.heap.size+1,2,none⟩) (Or.inr (by show w.heap.size≤w.heap.size+1;omega)) _
theorem rny_any {x y:ByteArray} {t:Ty} (hb:BdTy t):RnYC bz x y t:=by
 induction hb with
 | mk hn hl ih=>exact rny_one (.mk hn hl) ih
end Go.Proofs.YtdmebjbkccjhbaaGreatDoor
