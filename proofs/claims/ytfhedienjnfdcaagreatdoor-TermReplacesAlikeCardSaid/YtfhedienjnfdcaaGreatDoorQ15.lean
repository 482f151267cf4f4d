/- A part. -/
import Derived.Test.YtfhedienjnfdcaaGreatDoorQ14
import Derived.RangeFuncBox
import Derived.RangeFuncLeaves
import Derived.Shelf.Abstract
import Derived.OwnWalkIn
import Derived.TacticsInMore
import Derived.LoopNIn
import Derived.LoopIn
set_option linter.unusedVariables false
set_option linter.unusedSimpArgs false
set_option maxRecDepth 100000
set_option maxHeartbeats 32000000
namespace Go.Proofs.YtfhedienjnfdcaaGreatDoor
open Go.RowKit
theorem ident_sz {s:ByteArray} (h:identB s=true):s.size≤16:=by
 unfold identB at h
 simp only[Bool.and_eq_true,decide_eq_true_eq] at h
 omega
theorem named_sz {s:ByteArray} (h:namedB s=true):s.size≤17:=by
 unfold namedB at h
 have h1:=ident_sz h
 rcases trim_parts s with ⟨_,h2,h3⟩ | ⟨_,h2⟩
 ·rw[h3] at h1
  have:s.size≤(s.extract 0 (s.size-1)).size+1:=by simp[ByteArray.size_extract];omega
  omega
 ·rw[h2] at h1;omega
theorem head_sz {k:Int} {nm:ByteArray} {n:Nat} {wi:Bool} (h:tyHead k nm n wi=true):nm.size≤17:=by
 have key:∀ {s:ByteArray},(s.toList==[])=true→s.size≤17:=by
  intro s h
  rw[beq_iff_eq,Go.ByteArray.toList_eq] at h
  cases s with | mk a=>simp at h;rw[h];decide
 unfold tyHead at h
 split at h
 ·rw[Bool.and_eq_true] at h;exact key h.2
 ·split at h
  ·rw[Bool.and_eq_true] at h;exact key h.2
  ·split at h
   ·rw[Bool.and_eq_true] at h;have:=ident_sz h.1;omega
   ·split at h
    ·rw[Bool.and_eq_true] at h;exact key h.2
    ·split at h
     ·rw[Bool.and_eq_true] at h;exact key h.2
     ·cases h
theorem tf_sm (most deep:Nat):∀ (t:Ty) (d:Nat) (wi:Bool) (c:Nat),(tfS most deep t d wi c).1=true→SmTy big t:=by
 intro t
 induction t using Ty.rec (motive_2:=fun l=>∀ (d c:Nat),(tfsS most deep l d c).1=true→∀ t,t∈l→SmTy big t) with
 | mk k nm l ih=>
  intro d wi c h
  rw[tf_eq] at h
  split at h
  ·rename_i hb
   have hh:tyHead k nm l.length wi=true:=by simp at hb;exact hb.2
   have:=head_sz hh
   exact .mk (by unfold big;omega) (ih _ _ h)
  ·cases h
 | nil=>rename_i d c h t ht;cases ht
 | cons t l iht ihl=>
  rename_i d c h t' h'
  rw[tfsS] at h
  cases hr:tfS most deep t d true c with
  | mk b c'=>
   cases b
   ·rw[hr] at h;cases h
   ·rw[hr] at h
    rcases List.mem_cons.1 h' with rfl | h'
    ·exact iht d true c (by rw[hr])
    ·exact ihl d c' h t' h'
theorem formed_sm {op:Int} {nm:ByteArray} {N:Int} {ty:Ty} {n:Nat} (h:formedB op nm N ty n=true):nm.size≤17∧SmTy big ty:=by
 obtain⟨_,h2,_,h4⟩:=formed_parts h
 constructor
 ·unfold nmOk at h2
  split at h2
  ·exact named_sz h2
  ·split at h2
   ·have:=ident_sz h2;omega
   ·have:nm=⟨#[]⟩:=by
     rw[beq_iff_eq] at h2
     rw[Go.ByteArray.toList_eq] at h2
     cases nm with | mk a=>simp at h2;rw[h2]
    rw[this];decide
 ·unfold tyOk at h4
  split at h4
  ·rw[Bool.and_eq_true] at h4
   exact tf_sm 16 6 ty 1 false 0 h4.2
  ·rw[zero_ty h4];exact .mk (by decide) (fun t h=>by cases h)
theorem ok_sm {t:Tm} (h:OkTm t):SmTm big t:=by
 induction h with
 | mk h hn hl ih=>exact .mk (by have:=(formed_sm h).1;unfold big;omega) (formed_sm h).2 ih
theorem ok_bd {t:Tm} (h:OkTm t):BdTm t:=by
 induction h with
 | mk h hn hl ih=>exact .mk (by omega) (formed_bd h) ih
theorem ok_name {op:Int} {nm:ByteArray} {N:Int} {ty:Ty} {ks:List Tm} (h:OkTm (.mk op nm N ty ks)):nm.size≤17:=(formed_sm h.formed).1
theorem rsub_any {t:Tm} (h:OkTm t):RSuC t:=by
 induction h with
 | mk hf hn hl ih=>
  rename_i op nm N ty ks
  have hb:BdTm (.mk op nm N ty ks):=.mk (by omega) (formed_bd hf) (fun u hu=>ok_bd (hl u hu))
  by_cases h:op=20
  ·subst h;exact rsub_name hb
  ·exact rsub_one h (formed_bd hf) ih (by omega) (fun u hu=>ok_bd (hl u hu)) (fun hbi=>binder_kids hbi (formed_parts hf).1) (by have:=(formed_sm hf).1;omega)
end Go.Proofs.YtfhedienjnfdcaaGreatDoor
namespace Go.Proofs.YtfhedienjnfdcaaGreatDoor
open Go.RowKit
/-! Replacing a term: the document's way, and what it does to nameless terms. -/
mutual
def occT (fm:Tm) (names:List ByteArray):Tm→Bool
 | .mk op nm N ty ks=>alikeT (.mk op nm N ty ks) fm [] []||occK fm names (binderB op) nm 0 ks
def occK (fm:Tm) (names:List ByteArray) (bi:Bool) (nm:ByteArray):Nat→List Tm→Bool
 | _,[]=>false
 | i,t::r=>(if bi&&i==1&&mb nm names then false else occT fm names t)||occK fm names bi nm (i+1) r
end
mutual
def cntT (fm:Tm) (names:List ByteArray):Tm→Nat
 | .mk op nm N ty ks=>if alikeT (.mk op nm N ty ks) fm [] [] then 1 else cntK fm names (binderB op) nm 0 ks
def cntK (fm:Tm) (names:List ByteArray) (bi:Bool) (nm:ByteArray):Nat→List Tm→Nat
 | _,[]=>0
 | i,t::r=>(if bi&&i==1&&mb nm names then 0 else cntT fm names t)+cntK fm names bi nm (i+1) r
end
def repK (g:Tm→Tm) (skip:Bool):Nat→List Tm→List Tm
 | _,[]=>[]
 | i,t::r=>(if skip&&i==1 then t else g t)::repK g skip (i+1) r
def repZ (fm:Tm) (names used:List ByteArray) (nm:ByteArray) (body:Tm):ByteArray:=if mb nm used&&occT fm names body then freshS nm (fr body++used) else nm
def repB (fm:Tm) (names used:List ByteArray) (nm:ByteArray) (body:Tm):Tm:=if mb nm used&&occT fm names body then subT freshS body [(nm,nameT (repZ fm names used nm body))] else body
def repF (fm tu:Tm) (names used:List ByteArray):Nat→Tm→Tm
 | 0,t=>t
 | f+1,.mk op nm N ty ks=>
  if alikeT (.mk op nm N ty ks) fm [] [] then tu
  else if binderB op then
   (if mb nm names then .mk op nm N ty (repK (repF fm tu names used f) true 0 ks)
   else .mk op (repZ fm names used nm (ks.getD 1 (nameT nm))) N ty (repK (repF fm tu names used f) false 0 (ks.set 1 (repB fm names used nm (ks.getD 1 (nameT nm))))))
  else .mk op nm N ty (repK (repF fm tu names used f) false 0 ks)
open Classical in
mutual
noncomputable def rpD (F T:Db):Db→Db
 | .fv s=>if Db.fv s=F then T else .fv s
 | .bv i=>if Db.bv i=F then T else .bv i
 | .nd op N ty l=>if Db.nd op N ty l=F then T else .nd op N ty (rpDs (binderB op) F T 0 l)
noncomputable def rpDs (bi:Bool) (F T:Db):Nat→List Db→List Db
 | _,[]=>[]
 | i,d::l=>rpD (if bi&&i==1 then ren Nat.succ F else F) (if bi&&i==1 then ren Nat.succ T else T) d::rpDs bi F T (i+1) l
end
open Classical in
mutual
noncomputable def ctD (F:Db):Db→Nat
 | .fv s=>if Db.fv s=F then 1 else 0
 | .bv i=>if Db.bv i=F then 1 else 0
 | .nd op N ty l=>if Db.nd op N ty l=F then 1 else ctDs (binderB op) F 0 l
noncomputable def ctDs (bi:Bool) (F:Db):Nat→List Db→Nat
 | _,[]=>0
 | i,d::l=>ctD (if bi&&i==1 then ren Nat.succ F else F) d+ctDs bi F (i+1) l
end
/-! The names that are bound around a place, taken back. -/
def upS (τ:Nat→Db):Nat→Db
 | 0=>.bv 0
 | i+1=>ren Nat.succ (τ i)
mutual
def sb (τ:Nat→Db):Db→Db
 | .fv s=>.fv s
 | .bv i=>τ i
 | .nd op N ty l=>.nd op N ty (sbs (binderB op) τ 0 l)
def sbs (bi:Bool) (τ:Nat→Db):Nat→List Db→List Db
 | _,[]=>[]
 | i,d::l=>sb (if bi&&i==1 then upS τ else τ) d::sbs bi τ (i+1) l
end
theorem sb_ren2:∀ (d:Db) (τ τ':Nat→Db) (r q:Nat→Nat),(∀ i,τ' (r i)=ren q (τ i))→sb τ' (ren r d)=ren q (sb τ d):=by
 intro d
 induction d using Db.rec (motive_2:=fun l=>∀ (bi:Bool) (τ τ':Nat→Db) (r q:Nat→Nat) (i:Nat),(∀ i,τ' (r i)=ren q (τ i))→sbs bi τ' i (rens bi r i l)=rens bi q i (sbs bi τ i l)) with
 | fv s=>intro τ τ' r q h;rfl
 | bv i=>intro τ τ' r q h;rw[ren,sb,sb,h]
 | nd op N ty l ih=>intro τ τ' r q h;rw[ren,sb,sb,ren,ih _ _ _ _ _ _ h]
 | nil=>rfl
 | cons d l ihd ihl=>
  rename_i bi τ τ' r q i h
  rw[rens,sbs,sbs,rens,ihl _ _ _ _ _ _ h]
  congr 1
  cases hb:(bi&&i==1)
  ·simp only[Bool.false_eq_true,if_false];exact ihd _ _ _ _ h
  ·simp only[if_true]
   refine ihd _ _ _ _ (fun j=>?_)
   cases j with
   | zero=>rfl
   | succ j=>
    show ren Nat.succ (τ' (r j))=ren (upR q) (ren Nat.succ (τ j))
    rw[h,ren_ren,ren_ren];rfl
theorem sb_ev:∀ (t:Tm) (τ:Nat→Db) (ρ:ByteArray→Db),sb τ (ev ρ t)=ev (fun s=>sb τ (ρ s)) t:=by
 intro t
 induction t using Tm.rec (motive_2:=fun l=>∀ (bi:Bool) (nm:ByteArray) (τ:Nat→Db) (ρ:ByteArray→Db) (i:Nat),sbs bi τ i (evs bi nm ρ i l)=evs bi nm (fun s=>sb τ (ρ s)) i l) with
 | mk op nm N ty l ih=>
  intro τ ρ
  rw[ev,ev]
  by_cases h:op=20
  ·rw[if_pos h,if_pos h]
  ·rw[if_neg h,if_neg h,sb,ih]
 | nil=>rfl
 | cons t l iht ihl=>
  rename_i bi nm τ ρ i
  rw[evs,evs,sbs,ihl]
  congr 1
  cases hb:(bi&&i==1)
  ·simp only[Bool.false_eq_true,if_false];exact iht _ _
  ·simp only[if_true]
   rw[iht]
   congr 1
   funext s
   unfold upE
   by_cases h:s=nm
   ·rw[if_pos h,if_pos h];rfl
   ·rw[if_neg h,if_neg h]
    exact sb_ren2 _ _ _ _ _ (fun j=>rfl)
theorem idx_get {s:ByteArray}:∀ {X:List ByteArray} {i:Nat},idx s X=some i→X.getD i s=s
 | x::X,i,h=>by
  rw[idx] at h
  split at h
  ·rename_i hx;cases h;exact hx
  ·cases hx:idx s X with
   | none=>rw[hx] at h;cases h
   | some j=>
    rw[hx] at h
    have hj:=idx_get hx
    simp only[Option.map_some,Option.some.injEq] at h
    rw[← h,List.getD_cons_succ];exact hj
theorem idx_none {s:ByteArray}:∀ {X:List ByteArray},idx s X=none↔s ∉ X
 | []=>by simp[idx]
 | x::X=>by
  rw[idx]
  by_cases h:x=s
  ·rw[if_pos h];simp[h]
  ·rw[if_neg h,Option.map_eq_none_iff,idx_none]
   simp[Ne.symm h]
theorem env_back (X:List ByteArray) (t:Tm):sb (fun i=>.fv (X.reverse.getD i ⟨#[]⟩)) (ev (envL X) t)=dbT t:=by
 rw[sb_ev]
 unfold dbT
 congr 1
 funext s
 rw[envL_idx]
 cases h:idx s X.reverse with
 | none=>rfl
 | some i=>
  show Db.fv _=_
  have h1:=idx_get h
  have h2:=idxN_lt h
  rw[List.getD_eq_getElem?_getD,List.getElem?_eq_getElem h2] at h1
  rw[List.getD_eq_getElem?_getD,List.getElem?_eq_getElem h2]
  exact congrArg _ h1
theorem env_inj {X:List ByteArray} {t u:Tm}:ev (envL X) t=ev (envL X) u↔dbT t=dbT u:=
 ⟨fun h=>by rw[← env_back X t,h,env_back],fun h=>ev_alike h _⟩
theorem env_fr (X:List ByteArray) (s x:ByteArray):x∈frD (envL X s)↔x=s∧s ∉ X:=by
 rw[envL_idx]
 cases h:idx s X.reverse with
 | none=>
  have:=idx_none.1 h
  rw[List.mem_reverse] at this
  simp[frD,this]
 | some i=>
  have:¬ s ∉ X.reverse:=fun hn=>by rw[idx_none.2 hn] at h;cases h
  rw[List.mem_reverse,Classical.not_not] at this
  simp[frD,this]
def shN (k:Nat) (d:Db):Db:=ren (fun i=>i+k) d
theorem shN_succ (k:Nat) (d:Db):ren Nat.succ (shN k d)=shN (k+1) d:=by unfold shN;rw[ren_ren];rfl
theorem ren_id:∀ (d:Db) (r:Nat→Nat),(∀ i,r i=i)→ren r d=d:=by
 intro d
 induction d using Db.rec (motive_2:=fun l=>∀ (bi:Bool) (r:Nat→Nat) (i:Nat),(∀ i,r i=i)→rens bi r i l=l) with
 | fv s=>intro r h;rfl
 | bv i=>intro r h;rw[ren,h]
 | nd op N ty l ih=>intro r h;rw[ren,ih _ _ _ h]
 | nil=>rfl
 | cons d l ihd ihl=>
  rename_i bi r i h
  rw[rens,ihl _ _ _ h,ihd]
  intro j
  split
  ·cases j with
   | zero=>rfl
   | succ j=>show r j+1=j+1;rw[h]
  ·exact h j
theorem shN_zero (d:Db):shN 0 d=d:=ren_id d _ (fun _=>rfl)
theorem ev_clear {t:Tm}:∀ (X:List ByteArray),(∀ s,s∈fr t→s ∉ X)→ev (envL X) t=shN X.length (dbT t):=by
 intro X h
 unfold dbT shN
 rw[ren_ev]
 apply ev_cong
 intro s hs
 rw[envL_idx,idx_none.2 (by rw[List.mem_reverse];exact h s hs)]
 rfl
section
variable {fm tu:Tm} (hfm:NW fm)
include hfm
theorem caught_ne {t:Tm} {X:List ByteArray} (ht:NW t) (hX:∃ s,s∈fr fm∧s∈X):ev (envL X) t≠shN X.length (dbT fm):=by
 obtain⟨s,h1,h2⟩:=hX
 intro e
 have h3:s∈frD (shN X.length (dbT fm)):=by unfold shN;rw[frD_ren,fr_db hfm];exact h1
 rw[← e,mem_fr_db t _ _ ht] at h3
 obtain⟨q,_,h4⟩:=h3
 rw[env_fr] at h4
 rw[← h4.1] at h4
 exact h4.2 h2
theorem rp_caught:∀ (t:Tm) (X:List ByteArray) (T:Db),NW t→(∃ s,s∈fr fm∧s∈X)→rpD (shN X.length (dbT fm)) T (ev (envL X) t)=ev (envL X) t∧ctD (shN X.length (dbT fm)) (ev (envL X) t)=0:=by
 intro t
 induction t using Tm.rec (motive_2:=fun l=>∀ (bi:Bool) (nm:ByteArray) (X:List ByteArray) (T:Db) (i:Nat),(∀ t,t∈l→NW t)→(∃ s,s∈fr fm∧s∈X)→rpDs bi (shN X.length (dbT fm)) T i (evs bi nm (envL X) i l)=evs bi nm (envL X) i l∧ctDs bi (shN X.length (dbT fm)) i (evs bi nm (envL X) i l)=0) with
 | mk op nm N ty l ih=>
  intro X T ht hX
  have hne:=caught_ne hfm ht hX
  cases ht with
  | mk ht hl=>
   rw[ev] at hne ⊢
   by_cases h:op=20
   ·rw[if_pos h] at hne ⊢
    rw[envL_idx] at hne ⊢
    cases hx:idx nm X.reverse with
    | none=>rw[hx] at hne;simp only at hne ⊢;rw[rpD,ctD,if_neg hne,if_neg hne];exact⟨rfl,rfl⟩
    | some j=>rw[hx] at hne;simp only at hne ⊢;rw[rpD,ctD,if_neg hne,if_neg hne];exact⟨rfl,rfl⟩
   ·rw[if_neg h] at hne ⊢
    rw[rpD,ctD,if_neg hne,if_neg hne]
    obtain⟨h1,h2⟩:=ih (binderB op) nm X T 0 hl hX
    exact⟨by rw[h1],h2⟩
 | nil=>exact⟨rfl,rfl⟩
 | cons t l iht ihl=>
  rename_i bi nm X T i hl hX
  rw[evs,rpDs,ctDs]
  obtain⟨h1,h2⟩:=ihl bi nm X T (i+1) (fun t ht=>hl t (List.mem_cons_of_mem _ ht)) hX
  rw[h1,h2]
  cases hb:(bi&&i==1)
  ·simp only[Bool.false_eq_true,if_false]
   obtain⟨h3,h4⟩:=iht X T (hl t (by simp)) hX
   rw[h3,h4];exact⟨rfl,rfl⟩
  ·simp only[if_true]
   rw[shN_succ,← envL_snoc]
   obtain⟨s,q1,q2⟩:=hX
   obtain⟨h3,h4⟩:=iht (X++[nm]) (ren Nat.succ T) (hl t (by simp)) ⟨s,q1,List.mem_append_left _ q2⟩
   rw[List.length_append,List.length_singleton] at h3 h4
   rw[h3,h4];exact⟨rfl,rfl⟩
theorem alike_here {t:Tm} {X:List ByteArray} (ht:NW t) (hX:∀ s,s∈fr fm→s ∉ X):alikeT t fm [] []=true↔ev (envL X) t=shN X.length (dbT fm):=by
 rw[← ev_clear X hX,alike_db ht hfm,env_inj]
theorem cnt_db:∀ (t:Tm) (X:List ByteArray),NW t→(∀ s,s∈fr fm→s ∉ X)→cntT fm (fr fm) t=ctD (shN X.length (dbT fm)) (ev (envL X) t):=by
 intro t
 induction t using Tm.rec (motive_2:=fun l=>∀ (bi:Bool) (nm:ByteArray) (X:List ByteArray) (i:Nat),(∀ t,t∈l→NW t)→(∀ s,s∈fr fm→s ∉ X)→cntK fm (fr fm) bi nm i l=ctDs bi (shN X.length (dbT fm)) i (evs bi nm (envL X) i l)) with
 | mk op nm N ty l ih=>
  intro X ht hX
  have ha:=alike_here hfm ht hX
  have hl:∀ t,t∈l→NW t:=by cases ht;assumption
  have h20:op=20→l=[]:=by cases ht with | mk h _=>exact fun e=>(h e).2.2
  rw[cntT]
  rw[ev] at ha ⊢
  by_cases h:op=20
  ·rw[if_pos h] at ha ⊢
   rw[h20 h] at ha ⊢
   rw[envL_idx] at ha ⊢
   cases hx:idx nm X.reverse with
   | none=>
    rw[hx] at ha;simp only at ha ⊢;rw[ctD]
    by_cases hh:alikeT (.mk op nm N ty []) fm [] []=true
    ·rw[if_pos hh,if_pos (ha.1 hh)]
    ·rw[if_neg hh,if_neg (fun e=>hh (ha.2 e))];rfl
   | some j=>
    rw[hx] at ha;simp only at ha ⊢;rw[ctD]
    by_cases hh:alikeT (.mk op nm N ty []) fm [] []=true
    ·rw[if_pos hh,if_pos (ha.1 hh)]
    ·rw[if_neg hh,if_neg (fun e=>hh (ha.2 e))];rfl
  ·rw[if_neg h] at ha ⊢
   rw[ctD]
   by_cases hh:alikeT (.mk op nm N ty l) fm [] []=true
   ·rw[if_pos hh,if_pos (ha.1 hh)]
   ·rw[if_neg hh,if_neg (fun e=>hh (ha.2 e))]
    exact ih (binderB op) nm X 0 hl hX
 | nil=>rfl
 | cons t l iht ihl=>
  rename_i bi nm X i hl hX
  rw[cntK,evs,ctDs,ihl bi nm X (i+1) (fun t ht=>hl t (List.mem_cons_of_mem _ ht)) hX]
  congr 1
  cases hb:(bi&&i==1)
  ·simp only[Bool.false_eq_true,if_false,Bool.false_and]
   exact iht X (hl t (by simp)) hX
  ·simp only[if_true,Bool.true_and]
   rw[shN_succ,← envL_snoc]
   have hlen:(X++[nm]).length=X.length+1:=by simp
   rw[← hlen]
   cases hm:mb nm (fr fm)
   ·simp only[Bool.false_eq_true,if_false]
    refine iht (X++[nm]) (hl t (by simp)) (fun s hs hX2=>?_)
    rcases List.mem_append.1 hX2 with h | h
    ·exact hX s hs h
    ·rw[List.mem_singleton.1 h] at hs
     rw[(mb_iff _ _).2 hs] at hm;cases hm
   ·simp only[if_true]
    exact (rp_caught hfm t (X++[nm]) (.bv 0) (hl t (by simp)) ⟨nm,(mb_iff _ _).1 hm,by simp⟩).2.symm
theorem rp_none:∀ (t:Tm) (X:List ByteArray) (T:Db),NW t→(∀ s,s∈fr fm→s ∉ X)→occT fm (fr fm) t=false→rpD (shN X.length (dbT fm)) T (ev (envL X) t)=ev (envL X) t:=by
 intro t
 induction t using Tm.rec (motive_2:=fun l=>∀ (bi:Bool) (nm:ByteArray) (X:List ByteArray) (T:Db) (i:Nat),(∀ t,t∈l→NW t)→(∀ s,s∈fr fm→s ∉ X)→occK fm (fr fm) bi nm i l=false→rpDs bi (shN X.length (dbT fm)) T i (evs bi nm (envL X) i l)=evs bi nm (envL X) i l) with
 | mk op nm N ty l ih=>
  intro X T ht hX ho
  have ha:=alike_here hfm ht hX
  have hl:∀ t,t∈l→NW t:=by cases ht;assumption
  rw[occT,Bool.or_eq_false_iff] at ho
  have hh:¬ alikeT (.mk op nm N ty l) fm [] []=true:=by rw[ho.1];decide
  rw[ev] at ha ⊢
  by_cases h:op=20
  ·rw[if_pos h] at ha ⊢
   rw[envL_idx] at ha ⊢
   cases hx:idx nm X.reverse with
   | none=>rw[hx] at ha;simp only at ha ⊢;rw[rpD,if_neg (fun e=>hh (ha.2 e))]
   | some j=>rw[hx] at ha;simp only at ha ⊢;rw[rpD,if_neg (fun e=>hh (ha.2 e))]
  ·rw[if_neg h] at ha ⊢
   rw[rpD,if_neg (fun e=>hh (ha.2 e)),ih (binderB op) nm X T 0 hl hX ho.2]
 | nil=>rfl
 | cons t l iht ihl=>
  rename_i bi nm X T i hl hX ho
  rw[occK,Bool.or_eq_false_iff] at ho
  rw[evs,rpDs,ihl bi nm X T (i+1) (fun t ht=>hl t (List.mem_cons_of_mem _ ht)) hX ho.2]
  congr 1
  have ho1:=ho.1
  cases hb:(bi&&i==1)
  ·rw[hb] at ho1
   simp only[Bool.false_eq_true,if_false,Bool.false_and] at ho1 ⊢
   exact iht X T (hl t (by simp)) hX ho1
  ·rw[hb] at ho1
   simp only[if_true,Bool.true_and] at ho1 ⊢
   rw[shN_succ,← envL_snoc]
   have hlen:(X++[nm]).length=X.length+1:=by simp
   rw[← hlen]
   cases hm:mb nm (fr fm)
   ·rw[hm] at ho1
    simp only[Bool.false_eq_true,if_false] at ho1
    refine iht (X++[nm]) _ (hl t (by simp)) (fun s hs hX2=>?_) ho1
    rcases List.mem_append.1 hX2 with h | h
    ·exact hX s hs h
    ·rw[List.mem_singleton.1 h] at hs
     rw[(mb_iff _ _).2 hs] at hm;cases hm
   ·exact (rp_caught hfm t (X++[nm]) _ (hl t (by simp)) ⟨nm,(mb_iff _ _).1 hm,by simp⟩).1
theorem occ_fr:∀ (t:Tm),NW t→occT fm (fr fm) t=true→∀ s,s∈fr fm→s∈fr t:=by
 intro t
 induction t using Tm.rec (motive_2:=fun l=>∀ (bi:Bool) (nm:ByteArray) (i:Nat),(∀ t,t∈l→NW t)→occK fm (fr fm) bi nm i l=true→∀ s,s∈fr fm→s∈frs bi nm i l) with
 | mk op nm N ty l ih=>
  intro ht ho s hs
  rw[occT,Bool.or_eq_true] at ho
  rcases ho with ho | ho
  ·have:=(alike_db ht hfm).1 ho
   rw[← fr_db ht,this,fr_db hfm];exact hs
  ·have hl:∀ t,t∈l→NW t:=by cases ht;assumption
   have h20:op=20→l=[]:=by cases ht with | mk h _=>exact fun e=>(h e).2.2
   rw[fr]
   by_cases h:op=20
   ·rw[h20 h] at ho;cases ho
   ·rw[if_neg h];exact ih _ _ _ hl ho s hs
 | nil=>rename_i ho _ _;cases ho
 | cons t l iht ihl=>
  rename_i bi nm i hl ho s hs
  rw[occK,Bool.or_eq_true] at ho
  rw[frs]
  rcases ho with ho | ho
  ·apply List.mem_append_left
   cases hb:(bi&&i==1)
   ·rw[hb] at ho
    simp only[Bool.false_eq_true,if_false,Bool.false_and] at ho ⊢
    exact iht (hl t (by simp)) ho s hs
   ·rw[hb] at ho
    simp only[if_true,Bool.true_and] at ho ⊢
    cases hm:mb nm (fr fm)
    ·rw[hm] at ho
     simp only[Bool.false_eq_true,if_false] at ho
     refine List.mem_filter.2 ⟨iht (hl t (by simp)) ho s hs,?_⟩
     simp only[Bool.not_eq_true',decide_eq_false_iff_not]
     rintro rfl
     rw[(mb_iff _ _).2 hs] at hm;cases hm
    ·rw[hm] at ho;simp at ho
  ·exact List.mem_append_right _ (ihl bi nm (i+1) (fun t ht=>hl t (List.mem_cons_of_mem _ ht)) ho s hs)
omit hfm in
theorem repK_id {g:Tm→Tm} {skip:Bool}:∀ {ks:List Tm} {i:Nat},(∀ (j:Nat) (t:Tm),ks[j]?=some t→(skip&&(i+j)==1)=false→g t=t)→repK g skip i ks=ks
 | [],i,h=>rfl
 | t::r,i,h=>by
  rw[repK,repK_id (ks:=r) (i:=i+1) (fun j u hj e=>h (j+1) u (by simpa using hj) (by rw[show i+(j+1)=i+1+j by omega];exact e))]
  congr 1
  cases hb:(skip&&i==1)
  ·simp only[Bool.false_eq_true,if_false];exact h 0 t rfl (by rw[Nat.add_zero];exact hb)
  ·rfl
omit hfm in
theorem repK_len (g:Tm→Tm) (skip:Bool):∀ (ks:List Tm) (i:Nat),(repK g skip i ks).length=ks.length
 | [],i=>rfl
 | t::r,i=>by rw[repK,List.length_cons,repK_len g skip r,List.length_cons]
omit hfm in
theorem occK_get {names:List ByteArray} {bi:Bool} {nm:ByteArray}:∀ {ks:List Tm} {i:Nat},occK fm names bi nm i ks=false→∀ (j:Nat) (t:Tm),ks[j]?=some t→(bi&&(i+j)==1&&mb nm names)=false→occT fm names t=false
 | [],i,h,j,t,hj,e=>by simp at hj
 | u::r,i,h,j,t,hj,e=>by
  rw[occK,Bool.or_eq_false_iff] at h
  cases j with
  | zero=>
   simp at hj;subst hj
   have h1:=h.1
   rw[Nat.add_zero] at e
   rw[e] at h1
   simpa using h1
  | succ j=>exact occK_get h.2 j t (by simpa using hj) (by rw[show i+1+j=i+(j+1) by omega];exact e)
omit hfm in
theorem rep_none {used:List ByteArray}:∀ (f:Nat) (t:Tm),OkTm t→occT fm (fr fm) t=false→repF fm tu (fr fm) used f t=t:=by
 intro f
 induction f with
 | zero=>intro t _ _;rfl
 | succ f ih=>
  intro t ht ho
  cases ht with
  | mk hf hn hk=>
   rename_i op nm N ty ks
   rw[occT,Bool.or_eq_false_iff] at ho
   have hh:¬ alikeT (.mk op nm N ty ks) fm [] []=true:=by rw[ho.1];decide
   rw[repF,if_neg hh]
   have hg:=occK_get ho.2
   cases hb:binderB op
   ·simp only[Bool.false_eq_true,if_false]
    rw[repK_id (fun j t hj _=>ih t (hk t (List.mem_of_getElem? hj)) (hg j t hj (by rw[hb];rfl)))]
   ·simp only[if_true]
    have e2:=binder_kids hb (formed_parts hf).1
    match ks,e2 with
    | [d,body],_=>
     cases hm:mb nm (fr fm)
     ·simp only[Bool.false_eq_true,if_false]
      have eg:([d,body]:List Tm).getD 1 (nameT nm)=body:=rfl
      have hbo:occT fm (fr fm) body=false:=hg 1 body rfl (by rw[hm];simp)
      have ez:repZ fm (fr fm) used nm body=nm:=by unfold repZ;rw[hbo];simp
      have eb:repB fm (fr fm) used nm body=body:=by unfold repB;rw[hbo];simp
      rw[eg,ez,eb]
      show Tm.mk op nm N ty (repK _ false 0 [d,body])=_
      rw[repK_id (fun j t hj _=>ih t (hk t (List.mem_of_getElem? hj)) (hg j t hj (by rw[hm];simp)))]
     ·simp only[if_true]
      rw[repK_id (fun j t hj e=>ih t (hk t (List.mem_of_getElem? hj)) (hg j t hj (by rw[hb];rw[show (true&&0+j==1)=false from e];rfl)))]
omit hfm in
theorem rp_nd {op N:Int} {ty:Ty} {l:List Db} {F T:Db} (h:¬ Db.nd op N ty l=F):rpD F T (.nd op N ty l)=.nd op N ty (rpDs (binderB op) F T 0 l):=by rw[rpD,if_neg h]
theorem rep_main (hto:OkTm tu) (hTN:tmN tu≤100000):∀ (f:Nat) (t:Tm) (X:List ByteArray),OkTm t→tmN t≤700000→tmD t≤f→(∀ s,s∈fr fm→s ∉ X)→(∀ s,s∈fr tu→s ∉ X) →
  OkTm (repF fm tu (fr fm) (fr tu) f t)∧ev (envL X) (repF fm tu (fr fm) (fr tu) f t)=rpD (shN X.length (dbT fm)) (shN X.length (dbT tu)) (ev (envL X) t):=by
 intro f
 induction f with
 | zero=>intro t X ht _ hD _ _;cases t;rw[tmD] at hD;omega
 | succ f ih=>
  intro t X ht hM hD hX hX2
  have ha:=alike_here hfm ht.nw hX
  have hnw:=ht.nw
  cases ht with
  | mk hf hn hk=>
   rename_i op nm N ty ks
   rw[tmN] at hM
   rw[tmD] at hD
   rw[repF]
   by_cases hh:alikeT (.mk op nm N ty ks) fm [] []=true
   ·rw[if_pos hh]
    refine⟨hto,?_⟩
    rw[ha.1 hh,ev_clear X hX2]
    cases hF:shN X.length (dbT fm) with
    | fv s=>rw[rpD,if_pos rfl]
    | bv i=>rw[rpD,if_pos rfl]
    | nd a b c d=>rw[rpD,if_pos rfl]
   ·rw[if_neg hh]
    have hne:¬ ev (envL X) (.mk op nm N ty ks)=shN X.length (dbT fm):=fun e=>hh (ha.2 e)
    by_cases h20:op=20
    ·subst h20
     cases hnw with
     | mk h20 _=>
      obtain⟨rfl,rfl,rfl⟩:=h20 rfl
      have e':∀ (A:Tm),(if binderB 20=true then A else Tm.mk 20 nm 0 ty0 (repK (repF fm tu (fr fm) (fr tu) f) false 0 []))=Tm.mk 20 nm 0 ty0 []:=fun A=>rfl
      rw[e']
      refine⟨.mk hf hn hk,?_⟩
      rw[ev,if_pos rfl] at hne ⊢
      rw[envL_idx] at hne ⊢
      cases hx:idx nm X.reverse with
      | none=>rw[hx] at hne;simp only at hne ⊢;rw[rpD,if_neg hne]
      | some j=>rw[hx] at hne;simp only at hne ⊢;rw[rpD,if_neg hne]
    ·rw[ev,if_neg h20] at hne ⊢
     rw[rp_nd hne]
     have hkk:∀ t∈ks,OkTm (repF fm tu (fr fm) (fr tu) f t)∧ev (envL X) (repF fm tu (fr fm) (fr tu) f t)=rpD (shN X.length (dbT fm)) (shN X.length (dbT tu)) (ev (envL X) t):=fun t ht=>ih t X (hk t ht) (by have:=(tmD_kid ht).2;omega) (by have:=(tmD_kid ht).1;omega) hX hX2
     cases hb:binderB op
     ·simp only[Bool.false_eq_true,if_false]
      refine⟨.mk (by rw[repK_len];exact hf) (by rw[repK_len];exact hn) ?_,?_⟩
      ·have:∀ (ks:List Tm) (i:Nat),(∀ t∈ks,OkTm (repF fm tu (fr fm) (fr tu) f t))→∀ u∈repK (repF fm tu (fr fm) (fr tu) f) false i ks,OkTm u:=by
        intro ks
        induction ks with
        | nil=>intro i _ u hu;cases hu
        | cons t r ihr=>
         intro i h u hu
         rw[repK] at hu
         rcases List.mem_cons.1 hu with rfl | hu
         ·exact h t (by simp)
         ·exact ihr (i+1) (fun t ht=>h t (List.mem_cons_of_mem _ ht)) u hu
       exact this ks 0 (fun t ht=>(hkk t ht).1)
      ·rw[ev,if_neg h20,hb]
       congr 1
       have:∀ (ks:List Tm) (i:Nat),(∀ t∈ks,ev (envL X) (repF fm tu (fr fm) (fr tu) f t)=rpD (shN X.length (dbT fm)) (shN X.length (dbT tu)) (ev (envL X) t))→evs false nm (envL X) i (repK (repF fm tu (fr fm) (fr tu) f) false i ks)=rpDs false (shN X.length (dbT fm)) (shN X.length (dbT tu)) i (evs false nm (envL X) i ks):=by
        intro ks
        induction ks with
        | nil=>intro i _;rfl
        | cons t r ihr=>
         intro i h
         rw[repK,evs,evs,rpDs,ihr (i+1) (fun t ht=>h t (List.mem_cons_of_mem _ ht))]
         simp only[Bool.false_and,Bool.false_eq_true,if_false]
         rw[h t (by simp)]
       exact this ks 0 (fun t ht=>(hkk t ht).2)
     ·simp only[if_true]
      have hid:=formed_ident hf hb
      have e2:=binder_kids hb (formed_parts hf).1
      match ks,e2 with
      | [d,body],_=>
       obtain⟨hd1,hd2⟩:=hkk d (by simp)
       have hbo:=hk body (by simp)
       simp only[tmNs] at hM
       simp only[tmDs] at hD
       have eL:∀ (z:ByteArray) (a b:Tm),evs true z (envL X) 0 [a,b]=[ev (envL X) a,ev (envL (X++[z])) b]:=fun z a b=>by rw[envL_snoc];rfl
       have eR:∀ (F T a b:Db),rpDs true F T 0 [a,b]=[rpD F T a,rpD (ren Nat.succ F) (ren Nat.succ T) b]:=fun F T a b=>rfl
       have hlen:∀ z:ByteArray,(X++[z]).length=X.length+1:=fun z=>by simp
       cases hm:mb nm (fr fm)
       ·simp only[Bool.false_eq_true,if_false]
        have eg:([d,body]:List Tm).getD 1 (nameT nm)=body:=rfl
        rw[eg]
        have hnm:nm ∉ fr fm:=fun e=>by rw[(mb_iff _ _).2 e] at hm;cases hm
        have hXn:∀ s,s∈fr fm→s ∉ X++[nm]:=fun s hs e=>by
         rcases List.mem_append.1 e with e | e
         ·exact hX s hs e
         ·rw[List.mem_singleton.1 e] at hs;exact hnm hs
        show OkTm (Tm.mk op _ N ty (repK _ false 0 [d,repB fm (fr fm) (fr tu) nm body]))∧_
        have eK:∀ (g:Tm→Tm) (b:Tm),repK g false 0 [d,b]=[g d,g b]:=fun g b=>rfl
        rw[eK]
        -- three ways
        have main:∀ (z:ByteArray) (b:Tm),identB z=true→OkTm (repF fm tu (fr fm) (fr tu) f b)→ev (envL (X++[z])) (repF fm tu (fr fm) (fr tu) f b)=rpD (shN (X.length+1) (dbT fm)) (shN (X.length+1) (dbT tu)) (ev (envL (X++[nm])) body) →
          OkTm (Tm.mk op z N ty [repF fm tu (fr fm) (fr tu) f d,repF fm tu (fr fm) (fr tu) f b])∧ev (envL X) (Tm.mk op z N ty [repF fm tu (fr fm) (fr tu) f d,repF fm tu (fr fm) (fr tu) f b])=Db.nd op N ty (rpDs true (shN X.length (dbT fm)) (shN X.length (dbT tu)) 0 (evs true nm (envL X) 0 [d,body])):=by
         intro z b hz h1 h2
         refine⟨.mk (formed_name2 hf hb hz) hn (fun u hu=>?_),?_⟩
         ·rcases List.mem_cons.1 hu with rfl | hu
          ·exact hd1
          ·rw[List.mem_singleton.1 hu];exact h1
         ·rw[ev,if_neg h20,hb,eL,eL,eR,shN_succ,shN_succ,hd2,h2]
        cases hu:mb nm (fr tu) with
        | false=>
         have ez:repZ fm (fr fm) (fr tu) nm body=nm:=by unfold repZ;rw[hu];simp
         have eb:repB fm (fr fm) (fr tu) nm body=body:=by unfold repB;rw[hu];simp
         rw[ez,eb]
         have hnt:nm ∉ fr tu:=fun e=>by rw[(mb_iff _ _).2 e] at hu;cases hu
         obtain⟨h1,h2⟩:=ih body (X++[nm]) hbo (by omega) (by omega) hXn (fun s hs e=>by
          rcases List.mem_append.1 e with e | e
          ·exact hX2 s hs e
          ·rw[List.mem_singleton.1 e] at hs;exact hnt hs)
         rw[hlen] at h2
         exact main nm body hid h1 h2
        | true=>
         cases ho:occT fm (fr fm) body with
         | false=>
          have ez:repZ fm (fr fm) (fr tu) nm body=nm:=by unfold repZ;rw[ho];simp
          have eb:repB fm (fr fm) (fr tu) nm body=body:=by unfold repB;rw[ho];simp
          rw[ez,eb]
          have hrn:=rep_none (tu:=tu) (used:=fr tu) f body hbo ho
          have hrp:=rp_none hfm body (X++[nm]) (shN (X.length+1) (dbT tu)) hbo.nw hXn ho
          rw[hlen] at hrp
          refine main nm body hid (by rw[hrn];exact hbo) ?_
          rw[hrn,hrp]
         | true=>
          have ez:repZ fm (fr fm) (fr tu) nm body=freshS nm (fr body++fr tu):=by unfold repZ;rw[hu,ho];rfl
          have eb:repB fm (fr fm) (fr tu) nm body=subT freshS body [(nm,nameT (freshS nm (fr body++fr tu)))]:=by unfold repB;rw[hu,ho,ez];rfl
          rw[ez,eb]
          have hul:(fr body++fr tu).length≤800000:=by
           rw[List.length_append]
           have:=frs_len body
           have:=frs_len tu
           omega
          have hz1:=freshS_ident hid hul
          have hz2:=freshS_good nm _ hul
          generalize freshS nm (fr body++fr tu)=z at *
          rw[mb_app,Bool.or_eq_false_iff] at hz2
          have hzb:∀ s,s∈fr body→s≠nm→s≠z:=fun s hs _ e=>by rw[e] at hs;rw[(mb_iff _ _).2 hs] at hz2;cases hz2.1
          have hsz:=sub1_size hbo (ident_named hz1) hzb (by omega)
          have hso:=sub1_ok (nm:=nm) hbo (ident_named hz1) (by omega)
          have hre:=rename_body (nm:=nm) (z:=z) (body:=body) (by omega) hzb (envL X)
          rw[← envL_snoc,← envL_snoc] at hre
          obtain⟨h1,h2⟩:=ih (subT freshS body [(nm,nameT z)]) (X++[z]) hso (by omega) (by omega) (fun s hs e=>by
           rcases List.mem_append.1 e with e | e
           ·exact hX s hs e
           ·have:=occ_fr hfm body hbo.nw ho s hs
            rw[List.mem_singleton.1 e] at this
            rw[(mb_iff _ _).2 this] at hz2;cases hz2.1) (fun s hs e=>by
           rcases List.mem_append.1 e with e | e
           ·exact hX2 s hs e
           ·rw[List.mem_singleton.1 e] at hs
            rw[(mb_iff _ _).2 hs] at hz2;cases hz2.2)
          rw[hlen,hre] at h2
          exact main z _ hz1 h1 h2
       ·simp only[if_true]
        show OkTm (Tm.mk op nm N ty [repF fm tu (fr fm) (fr tu) f d,body])∧ev (envL X) (Tm.mk op nm N ty [repF fm tu (fr fm) (fr tu) f d,body])=_
        refine⟨.mk hf hn (fun u hu=>?_),?_⟩
        ·rcases List.mem_cons.1 hu with rfl | hu
         ·exact hd1
         ·rw[List.mem_singleton.1 hu];exact hbo
        ·rw[ev,if_neg h20,hb,eL,eL,eR,shN_succ,shN_succ,hd2]
         have:=(rp_caught hfm body (X++[nm]) (shN (X.length+1) (dbT tu)) hbo.nw ⟨nm,(mb_iff _ _).1 hm,by simp⟩).1
         rw[hlen] at this
         rw[this]
theorem rep_db (hto:OkTm tu) (hTN:tmN tu≤100000) {t:Tm} (ht:OkTm t) (hM:tmN t≤700000):
  OkTm (repF fm tu (fr fm) (fr tu) (tmD t) t)∧dbT (repF fm tu (fr fm) (fr tu) (tmD t) t)=rpD (dbT fm) (dbT tu) (dbT t)∧cntT fm (fr fm) t=ctD (dbT fm) (dbT t):=by
 obtain⟨h1,h2⟩:=rep_main hfm hto hTN (tmD t) t [] ht hM (Nat.le_refl _) (fun s _ e=>by cases e) (fun s _ e=>by cases e)
 have h3:=cnt_db hfm t [] ht.nw (fun s _ e=>by cases e)
 rw[show ([]:List ByteArray).length=0 from rfl,shN_zero] at h2 h3
 rw[shN_zero] at h2
 exact⟨h1,h2,h3⟩
end
end Go.Proofs.YtfhedienjnfdcaaGreatDoor
namespace Go.Proofs.YtfhedienjnfdcaaGreatDoor
open Go
section
variable {P:Program} {ops:Array Oper} {L:World→World→Prop} {T:Nat→Value→World→Prop}
def Up (L:World→World→Prop) (T:Value→World→Prop) (v:Value) (w:World):Prop:=∃ w1,L w1 w∧T v w1
def dstOf (ops:Array Oper) (j:Nat):Option Tmp:=(ops[j]?).bind (·.dst)
def depsOf (o:Oper):List Nat:=(o.after.toList.filter (Region.binds .any)).map (·.on)
def allV (ops:Array Oper) (L:World→World→Prop) (T:Nat→Value→World→Prop) (K:Act→Prop) (W:World):List Nat→Act→Prop
 | [],b=>K b
 | j::js,b=>match dstOf ops j with
  | some d=>∀ v,Up L (T j) v W→allV ops L T K W js (b.put (some d) v)
  | none=>allV ops L T K W js b
def KT (L:World→World→Prop) (T:Value→World→Prop) (o:Oper) (b:Act) (W:World) (a':Act) (w':World):Prop:=
 L W w'∧a'.defers=b.defers∧(match o.dst with | some d=>T (a'.eval (.tmp d)) w' | none=>True)
def stepM (P:Program) (ops:Array Oper) (L:World→World→Prop) (T:Nat→Value→World→Prop) (a0:Act) (w0:World) (i:Nat) (o:Oper):Prop:=
 ∀ W,L w0 W→allV ops L T (fun b=>if Region.wanted o (yielded ops b.tmps)=true then o.wp P b W (KT L (T i) o b W) (fun _ _ _=>False) else KT L (T i) o b W (b.put o.dst undef) W) W (depsOf o) a0
def stepE (P:Program) (ops:Array Oper) (L:World→World→Prop) (T:Nat→Value→World→Prop) (a0:Act) (w0:World) (i:Nat) (o:Oper):Prop:=
 ∀ W,L w0 W→allV ops L T (fun b=>∃ v,Yields P ops o v b∧T i v W) W (depsOf o) a0
def stepA (P:Program) (ops:Array Oper) (L:World→World→Prop) (T:Nat→Value→World→Prop) (late:List Nat) (a0:Act) (w0:World) (i:Nat) (o:Oper):Prop:=
 stepE P ops L T a0 w0 i o∨(late.contains i=false∧stepM P ops L T a0 w0 i o)
def allM (P:Program) (ops:Array Oper) (L:World→World→Prop) (T:Nat→Value→World→Prop) (late tl:List Nat) (a0:Act) (w0:World):Nat→List Oper→Prop
 | _,[]=>True
 | i,o::os=>(tl.contains i=true∨stepA P ops L T late a0 w0 i o)∧allM P ops L T late tl a0 w0 (i+1) os
theorem allM_nil {late tl:List Nat} {a0:Act} {w0:World} {i:Nat}:allM P ops L T late tl a0 w0 i []:=trivial
theorem allM_cons {late tl:List Nat} {a0:Act} {w0:World} {i:Nat} {o:Oper} {os:List Oper} (hl:late.contains i=false) (h:stepM P ops L T a0 w0 i o) (h':allM P ops L T late tl a0 w0 (i+1) os):allM P ops L T late tl a0 w0 i (o::os):=⟨Or.inr (Or.inr ⟨hl,h⟩),h'⟩
theorem allM_pure {late tl:List Nat} {a0:Act} {w0:World} {i:Nat} {o:Oper} {os:List Oper} (h:stepE P ops L T a0 w0 i o) (h':allM P ops L T late tl a0 w0 (i+1) os):allM P ops L T late tl a0 w0 i (o::os):=⟨Or.inr (Or.inl h),h'⟩
theorem allM_tail {late tl:List Nat} {a0:Act} {w0:World} {i:Nat} {o:Oper} {os:List Oper} (h:tl.contains i=true) (h':allM P ops L T late tl a0 w0 (i+1) os):allM P ops L T late tl a0 w0 i (o::os):=⟨Or.inl h,h'⟩
theorem allM_at {late tl:List Nat} {a0:Act} {w0:World}:∀ {os:List Oper} {k i:Nat} {o:Oper},allM P ops L T late tl a0 w0 k os→os[i]?=some o→tl.contains (k+i)=false→stepA P ops L T late a0 w0 (k+i) o
 | [],_,_,_,_,h,_=>by simp at h
 | x::os,k,0,o,h,e,ht=>by
  simp only[List.getElem?_cons_zero,Option.some.injEq] at e;subst e
  rcases h.1 with h1 | h1
  ·rw[Nat.add_zero] at ht;rw[ht] at h1;cases h1
  ·exact h1
 | x::os,k,i+1,o,h,e,ht=>by
  rw[List.getElem?_cons_succ] at e
  have e2:k+(i+1)=k+1+i:=by omega
  rw[e2] at ht ⊢
  exact allM_at h.2 e ht
def pickT (tl:List Nat):Nat→List Oper→List Oper
 | _,[]=>[]
 | i,o::os=>if tl.contains i then o::pickT tl (i+1) os else pickT tl (i+1) os
def putD (ops:Array Oper) (c:Act):List Nat→Act→Act
 | [],b=>b
 | j::js,b=>match dstOf ops j with
  | some d=>putD ops c js (b.put (some d) (c.eval (.tmp d)))
  | none=>putD ops c js b
theorem allV_at {K:Act→Prop} {W:World} {c:Act}:∀ {js:List Nat} {b:Act},allV ops L T K W js b→(∀ j,j∈js→∀ d,dstOf ops j=some d→Up L (T j) (c.eval (.tmp d)) W)→K (putD ops c js b)
 | [],_,h,_=>h
 | j::js,b,h,hU=>by
  unfold allV at h
  unfold putD
  cases hd:dstOf ops j with
  | none=>rw[hd] at h;exact allV_at h fun k hk=>hU k (List.mem_cons_of_mem _ hk)
  | some d=>rw[hd] at h;exact allV_at (h _ (hU j (List.mem_cons_self ..) d hd)) fun k hk=>hU k (List.mem_cons_of_mem _ hk)
theorem putD_defers {c:Act}:∀ {js:List Nat} {b:Act},(putD ops c js b).defers=b.defers
 | [],_=>rfl
 | j::js,b=>by
  unfold putD
  cases dstOf ops j with
  | none=>exact putD_defers
  | some d=>rw[putD_defers];rfl
theorem putD_size {c:Act}:∀ {js:List Nat} {b:Act},(putD ops c js b).tmps.size=b.tmps.size
 | [],_=>rfl
 | j::js,b=>by
  unfold putD
  cases dstOf ops j with
  | none=>exact putD_size
  | some d=>rw[putD_size];simp[Act.put]
theorem eval_get {a:Act} {t:Tmp}:a.eval (.tmp t)=a.tmps.getD t undef:=by
 simp[Act.eval,Array.getD_eq_getD_getElem?]
theorem put_get {b:Act} {d t:Tmp} {v:Value}:(b.put (some d) v).tmps[t]?=if d=t then (if d<b.tmps.size then some v else none) else b.tmps[t]?:=by
 simp only[Act.put]
 rw[Array.getElem?_setIfInBounds]
theorem get_eval {c:Act} {d:Tmp}:(if d<c.tmps.size then some (c.eval (.tmp d)) else none)=c.tmps[d]?:=by
 by_cases h:d<c.tmps.size
 ·rw[if_pos h,eval_get];simp[h]
 ·rw[if_neg h];simp[Nat.le_of_not_lt h]
theorem putD_get {c:Act} {t:Tmp}:∀ {js:List Nat} {b:Act},b.tmps.size=c.tmps.size→(b.tmps[t]?=c.tmps[t]?∨∃ j,j∈js∧dstOf ops j=some t)→(putD ops c js b).tmps[t]?=c.tmps[t]?
 | [],b,_,h=>by
  rcases h with h | ⟨j,hj,_⟩
  ·exact h
  ·cases hj
 | j::js,b,hz,h=>by
  unfold putD
  cases hd:dstOf ops j with
  | none=>
   refine putD_get hz (h.imp id ?_)
   rintro⟨k,hk,hkd⟩
   rcases List.mem_cons.1 hk with rfl | hk
   ·rw[hd] at hkd;cases hkd
   ·exact⟨k,hk,hkd⟩
  | some d=>
   have hz':(b.put (some d) (c.eval (.tmp d))).tmps.size=c.tmps.size:=by simp[Act.put,hz]
   refine putD_get hz' ?_
   rw[put_get]
   by_cases e:d=t
   ·subst e
    refine Or.inl ?_
    rw[if_pos rfl,hz,get_eval]
   ·rw[if_neg e]
    refine h.imp id ?_
    rintro⟨k,hk,hkd⟩
    rcases List.mem_cons.1 hk with rfl | hk
    ·rw[hd] at hkd;cases hkd;exact absurd rfl e
    ·exact⟨k,hk,hkd⟩
def unl (tl:List Nat) (s:Array Bool):Nat→Nat
 | 0=>0
 | n+1=>unl tl s n+(if s.getD n false=true∨tl.contains n=true then 0 else 1)
theorem unl_set {tl:List Nat} {s:Array Bool} {i:Nat} (hi:i<s.size) (h:s.getD i false=false) (ht:tl.contains i=false):∀ n,unl tl (s.setIfInBounds i true) n+(if i<n then 1 else 0)=unl tl s n
 | 0=>by simp[unl]
 | n+1=>by
  have ih:=unl_set hi h ht n
  unfold unl
  by_cases e:i=n
  ·subst e
   have h1:(s.setIfInBounds i true).getD i false=true:=by simp[hi]
   rw[h1,h,ht]
   simp only[if_true,true_or,Nat.lt_irrefl,if_false,Nat.lt_succ_self,Bool.false_eq_true,or_self] at ih ⊢
   omega
  ·rw[getD_set_ne false e]
   have e3:(if i<n+1 then 1 else 0)=(if i<n then 1 else 0):=by split <;> split <;> omega
   rw[e3]
   omega
theorem unl_zero {tl:List Nat} {s:Array Bool}:∀ {n},unl tl s n=0→∀ j,j<n→tl.contains j=false→s.getD j false=true
 | 0,_,j,hj,_=>by omega
 | n+1,h,j,hj,ht=>by
  unfold unl at h
  by_cases e:s.getD n false=true∨tl.contains n=true
  ·rcases Nat.lt_succ_iff_lt_or_eq.1 hj with h1 | h1
   ·exact unl_zero (by omega) j h1 ht
   ·rw[h1] at ht ⊢
    rcases e with e | e
    ·exact e
    ·rw[ht] at e;cases e
  ·rw[if_neg e] at h;omega
theorem unl_pos {tl:List Nat} {s:Array Bool}:∀ {n},0<unl tl s n→∃ i,i<n∧tl.contains i=false∧s.getD i false=false∧∀ j,j<i→tl.contains j=false→s.getD j false=true
 | 0,h=>by simp[unl] at h
 | n+1,h=>by
  by_cases e:unl tl s n=0
  ·have h0:=unl_zero e
   unfold unl at h
   by_cases e2:s.getD n false=true∨tl.contains n=true
   ·rw[if_pos e2] at h;omega
   ·exact⟨n,Nat.lt_succ_self _,by cases hc:tl.contains n with
     | false=>rfl
     | true=>exact absurd (Or.inr hc) e2,by cases hc:s.getD n false with
     | false=>rfl
     | true=>exact absurd (Or.inl hc) e2,h0⟩
  ·obtain⟨i,h1,h2,h3,h4⟩:=unl_pos (tl:=tl) (s:=s) (n:=n) (by omega)
   exact⟨i,by omega,h2,h3,h4⟩
def sT (ops:Array Oper) (tl:List Nat):Array Bool:=((List.range ops.size).map fun j=>!tl.contains j).toArray
def sinkL (ops:Array Oper) (tl late:List Nat):Bool:=
 match tl with
 | []=>true
 | t0::_=>(List.range ops.size).all fun i=>tl.contains i||late.contains i||Region.waitsFor .any ops t0 i||(List.range ops.size).any fun j=>decide (i<j)&&Region.waitsFor .any ops j i&&!tl.contains j&&!late.contains j
def chainL (ops:Array Oper):List Nat→Bool
 | []=>true
 | t::ts=>(match ts with | []=>true | t'::_=>Region.waitsFor .any ops t' t)&&chainL ops ts
def seqL (ops:Array Oper):List Nat→Array Bool→Bool
 | [],s=>(Region.ready .any ops s).isEmpty
 | t::ts,s=>decide (Region.ready .any ops s=[t])&&seqL ops ts (s.setIfInBounds t true)
def freeS (ops:Array Oper) (i:Nat):Bool:=
 match ops[i]? with
 | none=>false
 | some oi=>(List.range ops.size).all fun j=>decide (j=i)||Region.waitsFor .any ops j i||(depsOf oi).contains j||(match ops[j]? with
   | some oj=>oi.apart ops oj
   | none=>true)
def monoB (ops:Array Oper) (m:Nat) (tl late:List Nat):Bool:=
 Region.noSelect ops&&(sinkL ops tl late&&chainL ops tl&&late.all (fun i=>freeS ops i))&&seqL ops tl (sT ops tl) &&
 (List.range ops.size).all fun i=>tl.contains i||match ops[i]? with
  | none=>false
  | some o=>(depsOf o).all (fun j=>decide (j<i)&&!tl.contains j) &&
   (match o.dst with
    | none=>true
    | some d=>decide (d<m)&&(List.range ops.size).all fun j=>decide (j=i)||tl.contains j||decide (dstOf ops j≠some d)) &&
   (o.looksAt ops).all fun t=>(List.range ops.size).all fun j=>tl.contains j||decide (dstOf ops j≠some t)||(depsOf o).contains j
structure MInv (ops:Array Oper) (L:World→World→Prop) (T:Nat→Value→World→Prop) (tl:List Nat) (a0:Act) (w0:World) (s:Array Bool) (a:Act) (w:World):Prop where
 size:s.size=ops.size
 closed:∀ j oj,ops[j]?=some oj→s.getD j false=true→∀ e∈oj.after,Region.binds .any e=true→s.getD e.on false=true
 tail:∀ t,tl.contains t=true→s.getD t false=false
 kp:L w0 w
 df:a.defers=a0.defers
 tz:a.tmps.size=a0.tmps.size
 dn:∀ j d,s.getD j false=true→dstOf ops j=some d→Up L (T j) (a.eval (.tmp d)) w
 un:∀ t,(∀ j,j<ops.size→tl.contains j=false→dstOf ops j≠some t)→a.tmps[t]?=a0.tmps[t]?
theorem wpAny_more {md:Region.Mode} {Q:Exit→Act→World→Prop}:∀ (f:Nat) (s:Array Bool) (a:Act) (w:World),wpAny P md ops Q f s a w→wpAny P md ops Q (f+1) s a w
 | 0,s,a,w,h=>⟨fun _=>h.2,fun i hi=>by rw[h.1] at hi;cases hi⟩
 | f+1,s,a,w,h=>⟨h.1,fun i hi=>wpOp_mono (fun a' w' h'=>wpAny_more f _ a' w' h') (h.2 i hi)⟩
theorem wpAny_seqL {Q:Exit→Act→World→Prop}:∀ (ts:List Nat) (l:List Oper) (s:Array Bool) (a:Act) (w:World),(∀ j:Nat,(ts[j]?).bind (fun t:Nat=>ops[t]?)=l[j]?) →
  seqL ops ts s=true→wpList P ops Q l a w→wpAny P .any ops Q l.length s a w
 | [],[],s,a,w,_,hB,h=>⟨by simpa [seqL] using hB,h⟩
 | [],_::_,_,_,_,hl,_,_=>by have:=hl 0;simp at this
 | t::ts,[],s,a,w,hl,hB,h=>by
  simp only[seqL,Bool.and_eq_true,decide_eq_true_eq] at hB
  have h1:t∈Region.ready .any ops s:=by rw[hB.1];exact List.mem_singleton.2 rfl
  obtain⟨_,o,ho,_⟩:=mem_ready.1 h1
  have:=hl 0
  simp[ho] at this
 | t::ts,o::l,s,a,w,hl,hB,h=>by
  have h0:ops[t]?=some o:=by simpa using hl 0
  simp only[seqL,Bool.and_eq_true,decide_eq_true_eq] at hB
  refine⟨fun h1=>(by rw[hB.1] at h1;cases h1),fun i hi=>?_⟩
  rw[hB.1] at hi
  obtain rfl:i=t:=by simpa using hi
  have hw:wpOp P ops Q i (wpList P ops Q l) a w:=by unfold wpOp;simp only[h0];exact h
  exact wpOp_mono (fun a' w' h'=>wpAny_seqL ts l _ a' w' (fun j=>by have:=hl (j+1);simpa using this) hB.2 h') hw
theorem monoB_op {m i:Nat} {tl late:List Nat} {o:Oper} (hB:monoB ops m tl late=true) (hit:tl.contains i=false) (hi:ops[i]?=some o):
  (∀ j,j∈depsOf o→j<i∧tl.contains j=false)∧(∀ d,o.dst=some d→d<m∧∀ j,j<ops.size→tl.contains j=false→j≠i→dstOf ops j≠some d)∧(∀ t,t∈o.looksAt ops→∀ j,j<ops.size→tl.contains j=false→dstOf ops j=some t→j∈depsOf o):=by
 have hin:i<ops.size:=(Array.getElem?_eq_some_iff.1 hi).1
 unfold monoB at hB
 rw[Bool.and_eq_true] at hB
 have h:=List.all_eq_true.1 hB.2 i (List.mem_range.2 hin)
 rw[hi,hit,Bool.false_or] at h
 simp only[Bool.and_eq_true,List.all_eq_true,decide_eq_true_eq,List.mem_range,Bool.or_eq_true,Bool.not_eq_true'] at h
 refine⟨h.1.1,fun d hd=>?_,fun t ht j hj hjt e=>?_⟩
 ·have h2:=h.1.2
  rw[hd] at h2
  simp only[Bool.and_eq_true,List.all_eq_true,decide_eq_true_eq,List.mem_range,Bool.or_eq_true] at h2
  exact⟨h2.1,fun j hj hjt hne=>by
   rcases h2.2 j hj with (h3 | h3) | h3
   ·exact absurd h3 hne
   ·rw[hjt] at h3;cases h3
   ·exact h3⟩
 ·rcases h.2 t ht j hj with (h3 | h3) | h3
  ·rw[hjt] at h3;cases h3
  ·exact absurd e h3
  ·simpa using h3
theorem MInv.set {tl:List Nat} {a0:Act} {w0 w:World} {s:Array Bool} {a:Act} {i:Nat} (inv:MInv ops L T tl a0 w0 s a w) (hi:i∈Region.ready .any ops s) (hit:tl.contains i=false):
  (s.setIfInBounds i true).size=ops.size∧(∀ j oj,ops[j]?=some oj→(s.setIfInBounds i true).getD j false=true→∀ e∈oj.after,Region.binds .any e=true→(s.setIfInBounds i true).getD e.on false=true)∧(∀ t,tl.contains t=true→(s.setIfInBounds i true).getD t false=false):=by
 obtain⟨_,oi,hoi,hall⟩:=mem_ready.1 hi
 refine⟨by simp[inv.size],fun j oj hj hl e he hb=>?_,fun t ht=>?_⟩
 ·by_cases hij:i=j
  ·subst hij
   have:oj=oi:=Option.some.inj (hj.symm.trans hoi)
   subst this
   exact getD_set_true (hall e he hb)
  ·rw[getD_set_ne false hij] at hl
   exact getD_set_true (inv.closed j oj hj hl e he hb)
 ·have hne:i≠t:=fun e=>by rw[e,ht] at hit;cases hit
  rw[getD_set_ne false hne];exact inv.tail t ht
theorem mono_at {tl late:List Nat} {a0:Act} {w0:World} (hrf:∀ w,L w w) (htr:∀ a b c,L a b→L b c→L a c) (hB:monoB ops a0.tmps.size tl late=true)
  {i:Nat} {o:Oper} (hi:ops[i]?=some o) (hit:tl.contains i=false) {F:Act→Prop} {s:Array Bool} {a:Act} {w:World} (inv:MInv ops L T tl a0 w0 s a w) (hr:i∈Region.ready .any ops s) (hst:allV ops L T F w (depsOf o) a0):
  ∃ b:Act,F b∧execOp a.eval o=execOp b.eval o∧Region.wanted o (yielded ops a.tmps)=Region.wanted o (yielded ops b.tmps)∧b.tmps.size=a0.tmps.size ∧
   ∀ (v:Value) (w':World),L w w'→(∀ d,o.dst=some d→T i v w')→MInv ops L T tl a0 w0 (s.setIfInBounds i true) (a.put o.dst v) w':=by
 obtain⟨hun,o',ho',hall⟩:=mem_ready.1 hr
 rw[hi] at ho';cases ho'
 obtain⟨b1,b2,b3⟩:=monoB_op hB hit hi
 have hin:i<ops.size:=(Array.getElem?_eq_some_iff.1 hi).1
 have hsel:∀ cs b,o.op≠.select cs b:=by
  unfold monoB at hB
  simp only[Bool.and_eq_true] at hB
  exact fun cs b=>Region.noSelect_spec hB.1.1.1 i o cs b hi
 have hdep:∀ j,j∈depsOf o→s.getD j false=true:=by
  intro j hj
  unfold depsOf at hj
  obtain⟨e,he,rfl⟩:=List.mem_map.1 hj
  rw[List.mem_filter] at he
  exact hall e (Array.mem_toList_iff.1 he.1) he.2
 have h:=allV_at (c:=a) hst (fun j hj d hd=>inv.dn j d (hdep j hj) hd)
 have hev:∀ t,t∈o.looksAt ops→(putD ops a (depsOf o) a0).tmps[t]?=a.tmps[t]?:=by
  intro t ht
  refine putD_get inv.tz.symm ?_
  by_cases e:∃ j,j<ops.size∧tl.contains j=false∧dstOf ops j=some t
  ·obtain⟨j,hj,hjt,hd⟩:=e
   exact Or.inr ⟨j,b3 t ht j hj hjt hd,hd⟩
  ·exact Or.inl (inv.un t fun j hj hjt hd=>e ⟨j,hj,hjt,hd⟩).symm
 have hz:(putD ops a (depsOf o) a0).tmps.size=a0.tmps.size:=putD_size
 generalize putD ops a (depsOf o) a0=b at *
 have he:execOp a.eval o=execOp b.eval o:=by
  refine execOp_congr o hsel fun x hx=>?_
  cases x with
  | tmp t=>
   have ht:t∈o.looksAt ops:=List.mem_append_left _ (List.mem_filterMap.2 ⟨.tmp t,by simpa using hx,rfl⟩)
   have:=hev t ht
   simp[Act.eval,this]
  | _=>rfl
 have hw:Region.wanted o (yielded ops a.tmps)=Region.wanted o (yielded ops b.tmps):=by
  unfold Region.wanted
  cases hg:o.guard with
  | none=>rfl
  | some gw=>
   obtain⟨g,want⟩:=gw
   have hy:yielded ops a.tmps g=yielded ops b.tmps g:=by
    unfold yielded
    cases ht:(ops[g]?).bind (·.dst) with
    | none=>rfl
    | some t=>
     have hm:t∈o.looksAt ops:=List.mem_append_right _ (by simp[hg,ht])
     have:=hev t hm
     simp[this]
   simp only[hy]
 have hdst:dstOf ops i=o.dst:=by unfold dstOf;rw[hi];rfl
 -- the new state
 have next:∀ (v:Value) (w':World),L w w'→(∀ d,o.dst=some d→T i v w')→MInv ops L T tl a0 w0 (s.setIfInBounds i true) (a.put o.dst v) w':=by
  intro v w' hl ht
  obtain⟨q1,q2,q3⟩:=inv.set hr hit
  refine⟨q1,q2,q3,htr _ _ _ inv.kp hl,?_,?_,?_,?_⟩
  ·rw[← inv.df];cases o.dst <;> rfl
  ·rw[← inv.tz];cases o.dst <;> simp[Act.put]
  ·intro j d hj hd
   by_cases e:j=i
   ·subst e
    rw[hdst] at hd
    rw[hd,eval_get]
    have hlt:d<a.tmps.size:=by rw[inv.tz];exact (b2 d hd).1
    have:((a.put (some d) v).tmps.getD d undef)=v:=by simp[Act.put,hlt]
    rw[this]
    exact⟨w',hrf w',ht d hd⟩
   ·rw[getD_set_ne false (Ne.symm e)] at hj
    have hjs:j<ops.size:=by
     unfold dstOf at hd
     cases hq:ops[j]? with
     | none=>rw[hq] at hd;cases hd
     | some _=>exact (Array.getElem?_eq_some_iff.1 hq).1
    have hjt:tl.contains j=false:=by
     cases hc:tl.contains j with
     | false=>rfl
     | true=>rw[inv.tail j hc] at hj;cases hj
    obtain⟨w1,h1,h2⟩:=inv.dn j d hj hd
    have hne:∀ d',o.dst=some d'→d'≠d:=fun d' hd' q=>(b2 d' hd').2 j hjs hjt e (by rw[hd,q])
    refine⟨w1,htr _ _ _ h1 hl,?_⟩
    rw[Act.eval_put (fun d' hd' q=>hne d' hd' (by cases q;rfl))]
    exact h2
  ·intro t ht'
   cases hd:o.dst with
   | none=>exact inv.un t ht'
   | some d=>
    rw[put_get,if_neg (fun q=>ht' i hin hit (by rw[hdst,hd,q]))]
    exact inv.un t ht'
 exact⟨b,h,he,hw,hz,next⟩
theorem mono_step {tl late:List Nat} {Q:Exit→Act→World→Prop} {a0:Act} {w0:World} (hrf:∀ w,L w w) (htr:∀ a b c,L a b→L b c→L a c) (hB:monoB ops a0.tmps.size tl late=true)
  {i:Nat} {o:Oper} (hi:ops[i]?=some o) (hit:tl.contains i=false) (hst:stepA P ops L T late a0 w0 i o) {s:Array Bool} {a:Act} {w:World} (inv:MInv ops L T tl a0 w0 s a w) (hr:i∈Region.ready .any ops s) {K:Act→World→Prop}
  (hK:∀ a' w',MInv ops L T tl a0 w0 (s.setIfInBounds i true) a' w'→K a' w'):wpOp P ops Q i K a w:=by
 rcases hst with hst | ⟨_,hst⟩
 ·obtain⟨b,⟨v,hy,ht⟩,he,hw,_,next⟩:=mono_at hrf htr hB hi hit inv hr (hst w inv.kp)
  exact (hy.of_same he hw).wpOp hi (hK _ _ (next v w (hrf w) (fun _ _=>ht)))
 obtain⟨b,h,he,hw,hz,next0⟩:=mono_at hrf htr hB hi hit inv hr (hst w inv.kp)
 have next:∀ (v:Value) (w':World),L w w'→(∀ d,o.dst=some d→T i v w')→K (a.put o.dst v) w':=fun v w' hl ht=>hK _ _ (next0 v w' hl ht)
 obtain⟨b1,b2,b3⟩:=monoB_op hB hit hi
 unfold wpOp
 simp only[hi]
 rw[hw]
 split
 ·rename_i hwt
  rw[if_pos hwt] at h
  refine Or.inl ?_
  unfold Oper.wp at *
  rw[he]
  have evd:∀ d v,o.dst=some d→(b.put o.dst v).eval (.tmp d)=v:=by
   intro d v hd
   rw[hd,eval_get]
   have hlt:d<b.tmps.size:=by rw[hz];exact (b2 d hd).1
   simp[Act.put,hlt]
  have fin:∀ (v:Value) (w':World),KT L (T i) o b w (b.put o.dst v) w'→K (a.put o.dst v) w':=by
   intro v w' hk
   refine next v w' hk.1 fun d hd=>?_
   have:=hk.2.2
   have e1:=evd d v hd
   rw[hd] at this e1
   simp only[] at this
   rwa [e1] at this
  generalize (execOp b.eval o).run P w=r at *
  cases r with
  | ok nx w'=>
   cases nx <;> simp only[Oper.upon] at h ⊢
   case value v=>exact fin v w' h
   case skip=>exact fin _ w' h
   case defer d=>
    have:=h.2.1
    exfalso
    have e1:((({ b with defers:=d::b.defers }:Act).put o.dst undef)).defers=d::b.defers:=by cases o.dst <;> rfl
    rw[e1] at this
    exact absurd (congrArg List.length this) (by simp)
   case enter f args=>
    refine Calls.mono h fun e w'' hq=>?_
    cases e with
    | returned v=>exact fin v w'' hq
    | panicked c=>exact hq.elim
    | outgrown=>obtain⟨_,_,hq⟩:=hq;exact hq.elim
   case row row args=>exact Rows.mono h fun v w'' hq=>fin v w'' hq
  | halt x w'=>
   cases x <;> simp only[Oper.upon] at h ⊢
 ·rename_i hwt
  rw[if_neg hwt] at h
  refine next _ _ h.1 fun d hd=>?_
  have:=h.2.2
  have e1:(b.put o.dst undef).eval (.tmp d)=undef:=by
   rw[hd,eval_get]
   have hlt:d<b.tmps.size:=by rw[hz];exact (b2 d hd).1
   simp[Act.put,hlt]
  rw[hd] at this e1
  simp only[] at this
  rwa [e1] at this
theorem tail_waitsL {tl late:List Nat} {t0:Nat} {ts:List Nat} (htl:tl=t0::ts) (hs:sinkL ops tl late=true) {a0 a:Act} {w0 w:World} {s:Array Bool} (inv:MInv ops L T tl a0 w0 s a w):
  ∀ (d i:Nat),ops.size-i=d→i<ops.size→tl.contains i=false→late.contains i=false→s.getD i false=false→t0 ∉ Region.ready .any ops s:=by
 intro d
 induction d using Nat.strongRecOn with
 | _ d ih=>
  intro i hd hi hit hla hun hr
  obtain⟨_,ot,hot,hall⟩:=mem_ready.1 hr
  subst htl
  unfold sinkL at hs
  have h1:=List.all_eq_true.1 hs i (List.mem_range.2 hi)
  rw[hla,hit,Bool.false_or,Bool.false_or,Bool.or_eq_true] at h1
  rcases h1 with h1 | h1
  ·obtain⟨oj,hoj,e,he,hb,hon⟩:=Region.waitsFor_spec h1
   have:oj=ot:=Option.some.inj (hoj.symm.trans hot)
   subst this
   have h2:=hall e he hb
   rw[hon,hun] at h2
   cases h2
  ·obtain⟨j,hj,hj2⟩:=List.any_eq_true.1 h1
   simp only[Bool.and_eq_true,decide_eq_true_eq,Bool.not_eq_true'] at hj2
   obtain⟨⟨⟨hij,hwt⟩,hjt⟩,hjl⟩:=hj2
   obtain⟨oj,hoj,e,he,hb,hon⟩:=Region.waitsFor_spec hwt
   have hjs:=List.mem_range.1 hj
   cases hl:s.getD j false with
   | true=>
    have h2:=inv.closed j oj hoj hl e he hb
    rw[hon,hun] at h2
    cases h2
   | false=>exact ih (ops.size-j) (by omega) j rfl hjs hjt hjl hl hr
theorem chain_waits {tl:List Nat} {s:Array Bool}:∀ {l:List Nat} {t:Nat},chainL ops l=true→(∀ t,t∈l→s.getD t false=false)→t∈l→t∈Region.ready .any ops s→l.head?=some t
 | [],t,_,_,ht,_=>by cases ht
 | x::l,t,hc,hn,ht,hr=>by
  rcases List.mem_cons.1 ht with rfl | ht
  ·rfl
  ·exfalso
   unfold chainL at hc
   rw[Bool.and_eq_true] at hc
   have h1:=chain_waits (tl:=tl) hc.2 (fun t h=>hn t (List.mem_cons_of_mem _ h)) ht hr
   match l,h1,hc with
   | y::l,h1,hc=>
    obtain rfl:y=t:=Option.some.inj h1
    obtain⟨o',ho',e,he,hb,hon⟩:=Region.waitsFor_spec hc.1
    obtain⟨_,o,ho,hall⟩:=mem_ready.1 hr
    rw[ho'] at ho;cases ho
    have h2:=hall e he hb
    rw[hon,hn x (List.mem_cons_self ..)] at h2
    cases h2
theorem mono_run {g:Nat} {tl late:List Nat} {Q:Exit→Act→World→Prop} {a0:Act} {w0:World} (hrf:∀ w,L w w) (htr:∀ a b c,L a b→L b c→L a c) (hB:monoB ops a0.tmps.size tl late=true) (hQ:∀ c d v a w,Q (.panic c) (Act.put a d v) w→Q (.panic c) a w)
  (hst:∀ i o,tl.contains i=false→ops[i]?=some o→stepA P ops L T late a0 w0 i o) (hfin:∀ s a w,MInv ops L T tl a0 w0 s a w→(∀ j,j<ops.size→tl.contains j=false→s.getD j false=true)→wpAny P .any ops Q g s a w):
  ∀ (f:Nat) (s:Array Bool) (a:Act) (w:World),unl tl s ops.size≤f→MInv ops L T tl a0 w0 s a w→wpAny P .any ops Q (f+g) s a w
 | 0,s,a,w,hf,inv=>by rw[Nat.zero_add];exact hfin s a w inv (unl_zero (by omega))
 | f+1,s,a,w,hf,inv=>by
  by_cases h0:unl tl s ops.size=0
  ·have:=wpAny_more _ _ _ _ (mono_run hrf htr hB hQ hst hfin f s a w (by omega) inv)
   rwa [Nat.add_right_comm] at this
  ·obtain⟨i0,hi0,ht0,hu0,hl0⟩:=unl_pos (Nat.pos_of_ne_zero h0)
   have hBB:=hB
   unfold monoB at hBB
   simp only[Bool.and_eq_true] at hBB
   have hgo:∀ i,i<ops.size→∃ o,ops[i]?=some o:=fun i hi=>⟨_,Array.getElem?_eq_getElem hi⟩
   have hs:s.size=ops.size:=inv.size
   have hr0:i0∈Region.ready .any ops s:=by
    obtain⟨o,ho⟩:=hgo i0 hi0
    refine mem_ready.2 ⟨getD_in (by omega) hu0,o,ho,fun e he hb=>?_⟩
    have h1:=(monoB_op hB ht0 ho).1 e.on (by
     unfold depsOf
     exact List.mem_map.2 ⟨e,List.mem_filter.2 ⟨Array.mem_toList_iff.2 he,hb⟩,rfl⟩)
    exact hl0 _ h1.1 h1.2
   have hdec:∀ i,i<ops.size→tl.contains i=false→s.getD i false=false→unl tl (s.setIfInBounds i true) ops.size≤f:=fun i hin hit hiu=>by
    have:=unl_set (s:=s) (by omega:i<s.size) hiu hit ops.size
    rw[if_pos hin] at this
    omega
   rw[Nat.add_right_comm]
   by_cases hlt:∃ i,i<ops.size∧tl.contains i=false∧late.contains i=false∧s.getD i false=false
   ·obtain⟨i1,hi1,hit1,hla1,hu1⟩:=hlt
    refine⟨fun e=>(by rw[e] at hr0;cases hr0),fun i hi=>?_⟩
    have hit:tl.contains i=false:=by
     cases hc:tl.contains i with
     | false=>rfl
     | true=>
      exfalso
      have hmem:i∈tl:=by simpa using hc
      have hh:=chain_waits (tl:=tl) hBB.1.1.2.1.2 (fun t ht=>inv.tail t (by simpa using ht)) hmem hi
      match tl,hh with
      | t0::ts,hh=>
       obtain rfl:t0=i:=Option.some.inj hh
       exact tail_waitsL rfl hBB.1.1.2.1.1 inv _ i1 rfl hi1 hit1 hla1 hu1 hi
    have hio:i<ops.size:=by
     obtain⟨_,o,ho,_⟩:=mem_ready.1 hi
     exact (Array.getElem?_eq_some_iff.1 ho).1
    obtain⟨o,ho⟩:=hgo i hio
    have hiu:s.getD i false=false:=getD_both (mem_ready.1 hi).1
    exact mono_step hrf htr hB ho hit (hst i o hit ho) inv hi fun a' w' inv'=>mono_run hrf htr hB hQ hst hfin f _ a' w' (hdec i hio hit hiu) inv'
   ·have hla:late.contains i0=true:=by
     cases hc:late.contains i0 with
     | true=>rfl
     | false=>exact absurd ⟨i0,hi0,ht0,hc,hu0⟩ hlt
    obtain⟨o,ho⟩:=hgo i0 hi0
    have hE:stepE P ops L T a0 w0 i0 o:=by
     rcases hst i0 o ht0 ho with h | ⟨h,_⟩
     ·exact h
     ·rw[h] at hla;cases hla
    obtain⟨b,⟨v,hy,ht⟩,he,hw,_,next⟩:=mono_at hrf htr hB ho ht0 inv hr0 (hE w inv.kp)
    have hfr:=List.all_eq_true.1 hBB.1.1.2.2 i0 (by simpa using hla)
    unfold freeS at hfr
    rw[ho] at hfr
    simp only[List.all_eq_true,List.mem_range,Bool.or_eq_true,decide_eq_true_eq] at hfr
    refine wpAny_first ho (Region.noSelect_spec hBB.1.1.1) (fun c a w h=>hQ c _ _ a w h) (f+g) s a w ?_ hr0 (hy.of_same he hw) (mono_run hrf htr hB hQ hst hfin f _ _ _ (hdec i0 hi0 ht0 hu0) (next v w (hrf w) (fun _ _=>ht)))
    intro j oj hj hne hjun hno
    have h1:=hfr j (Array.getElem?_eq_some_iff.1 hj).1
    rcases h1 with ((h1 | h1) | h1) | h1
    ·exact absurd h1 hne
    ·obtain⟨o',ho',e,he',hb,hon⟩:=Region.waitsFor_spec h1
     rw[hj] at ho';cases ho'
     exact absurd hon (hno e he' hb)
    ·exfalso
     obtain⟨_,o',ho',hall⟩:=mem_ready.1 hr0
     rw[ho] at ho';cases ho'
     have:s.getD j false=true:=by
      have hm:j∈depsOf o:=by simpa using h1
      unfold depsOf at hm
      obtain⟨e,he',rfl⟩:=List.mem_map.1 hm
      rw[List.mem_filter] at he'
      exact hall e (Array.mem_toList_iff.1 he'.1) he'.2
     rw[getD_both hjun] at this;cases this
    ·rw[hj] at h1;exact h1
theorem sT_get (tl:List Nat) (j:Nat):(sT ops tl)[j]?=if j<ops.size then some (!tl.contains j) else none:=by
 unfold sT
 rw[List.getElem?_toArray,List.getElem?_map]
 by_cases h:j<ops.size
 ·rw[if_pos h,List.getElem?_range h];rfl
 ·rw[if_neg h,List.getElem?_eq_none (by simpa using h)];rfl
theorem fm_congr {α β:Type} {f g:α→Option β}:∀ {l:List α},(∀ x,x∈l→f x=g x)→l.filterMap f=l.filterMap g
 | [],_=>rfl
 | a::l,h=>by rw[List.filterMap_cons,List.filterMap_cons,h a (List.mem_cons_self ..),fm_congr (fun x hx=>h x (List.mem_cons_of_mem _ hx))]
theorem unl_count (tl:List Nat) (s:Array Bool):∀ n,unl tl s n+((List.range n).filter (tl.contains ·)).length≤n
 | 0=>by simp[unl]
 | n+1=>by
  have ih:=unl_count tl s n
  rw[List.range_succ,List.filter_append,List.length_append]
  unfold unl
  cases hc:tl.contains n with
  | true=>
   have:([n].filter (tl.contains ·)).length=1:=by rw[List.filter_cons,if_pos hc];rfl
   rw[this,if_pos (Or.inr rfl)];omega
  | false=>
   have:([n].filter (tl.contains ·)).length=0:=by rw[List.filter_cons,if_neg (by rw[hc];exact Bool.false_ne_true)];rfl
   rw[this];split <;> omega
theorem pick_get {tl:List Nat}:∀ (l:List Oper) (k:Nat),pickT tl k l=((List.range' k l.length).filter (tl.contains ·)).filterMap (fun i=>l[i-k]?)
 | [],k=>by simp[pickT]
 | o::l,k=>by
  have ih:=pick_get (tl:=tl) l (k+1)
  have e:((List.range' (k+1) l.length).filter (tl.contains ·)).filterMap (fun i=>(o::l)[i-k]?)=((List.range' (k+1) l.length).filter (tl.contains ·)).filterMap (fun i=>l[i-(k+1)]?):=by
   apply fm_congr
   intro i hi
   have:=List.mem_range'_1.1 (List.mem_filter.1 hi).1
   obtain⟨q,rfl⟩:∃ q,i=k+1+q:=⟨i-(k+1),by omega⟩
   rw[show k+1+q-k=q+1 by omega,List.getElem?_cons_succ,show k+1+q-(k+1)=q by omega]
  rw[pickT,ih,List.length_cons,List.range'_succ,List.filter_cons]
  split
  ·rw[List.filterMap_cons,Nat.sub_self];simp only[List.getElem?_cons_zero];rw[e]
  ·rw[e]
theorem wp_region_mono {L:World→World→Prop} (T:Nat→Value→World→Prop) {id:Nat} {Q:Exit→Act→World→Prop} {a0:Act} {w:World} {l:List Oper} (tl late:List Nat) (m:Nat) (hm:P.follows .mixedOrders=true) (hz:a0.tmps.size=m) (hB:monoB l.toArray m tl late=true)
  (htl:tl=(List.range l.length).filter (tl.contains ·))
  (hrf:∀ w,L w w) (htr:∀ a b c,L a b→L b c→L a c) (hQ:∀ c d v a w,Q (.panic c) (Act.put a d v) w→Q (.panic c) a w)
  (hst:allM P l.toArray L T late tl a0 w.drew 0 l)
  (hfin:∀ w',L w.drew w'→allV l.toArray L T (fun a'=>wpList P l.toArray Q (pickT tl 0 l) a' w') w' ((List.range l.length).filter (fun i=>!tl.contains i)) a0):(Code.region id l.toArray true).wp P Q a0 w:=by
 subst hz
 have hseq:seqL l.toArray tl (sT l.toArray tl)=true:=by
  have:=hB
  unfold monoB at this
  simp only[Bool.and_eq_true] at this
  exact this.1.2
 have hrep:∀ j,(Array.replicate l.toArray.size false).getD j false=false:=fun j=>getD_replicate_false _ _
 have inv0:MInv l.toArray L T tl a0 w.drew (Array.replicate l.toArray.size false) a0 w.drew:=
  ⟨by simp,fun j oj _ hl=>(by rw[hrep] at hl;cases hl),fun t _=>hrep t,hrf _,rfl,rfl,fun j d hj=>(by rw[hrep] at hj;cases hj),fun _ _=>rfl⟩
 have hpick:pickT tl 0 l=tl.filterMap (fun t:Nat=>l[t]?):=by
  rw[pick_get]
  simp only[Nat.sub_zero]
  rw[← List.range_eq_range',← htl]
 have hpl:∀ j:Nat,(tl[j]?).bind (fun t:Nat=>l.toArray[t]?)=(pickT tl 0 l)[j]?:=by
  rw[hpick]
  have hall:∀ t,t∈tl→∃ o,l[t]?=some o:=fun t ht=>by
   rw[htl] at ht
   exact⟨_,List.getElem?_eq_getElem (List.mem_range.1 (List.mem_filter.1 ht).1)⟩
  clear hfin hst hseq inv0 hB htl hpick
  induction tl with
  | nil=>intro j;simp
  | cons t ts ih=>
   obtain⟨o,ho⟩:=hall t (List.mem_cons_self ..)
   intro j
   rw[List.filterMap_cons,ho]
   cases j with
   | zero=>simp[ho]
   | succ j=>simpa using ih (fun t h=>hall t (List.mem_cons_of_mem _ h)) j
 refine wp_region_any hm ?_
 have hlen:(pickT tl 0 l).length=tl.length:=by
  rw[hpick]
  have hall:∀ t,t∈tl→∃ o,l[t]?=some o:=fun t ht=>by
   rw[htl] at ht
   exact⟨_,List.getElem?_eq_getElem (List.mem_range.1 (List.mem_filter.1 ht).1)⟩
  clear hfin hst hseq inv0 hB htl hpick hpl
  induction tl with
  | nil=>rfl
  | cons t ts ih=>
   obtain⟨o,ho⟩:=hall t (List.mem_cons_self ..)
   rw[List.filterMap_cons,ho,List.length_cons,List.length_cons,ih (fun t h=>hall t (List.mem_cons_of_mem _ h))]
 have hcnt:unl tl (Array.replicate l.toArray.size false) l.toArray.size+tl.length≤l.toArray.size:=by
  have h1:=unl_count tl (Array.replicate l.toArray.size false) l.toArray.size
  have h2:((List.range l.toArray.size).filter (tl.contains ·)).length=tl.length:=by
   have h3:=congrArg List.length htl
   simpa using h3.symm
  omega
 have H:=mono_run (P:=P) (Q:=Q) (g:=(pickT tl 0 l).length) hrf htr hB hQ (fun i o hi ho=>by
  have:=allM_at (k:=0) hst (show l[i]?=some o by simpa using ho) (by rwa [Nat.zero_add])
  rwa [Nat.zero_add] at this) (fun s a' w' inv hall=>by
  have es:s=sT l.toArray tl:=by
   refine Array.ext_getElem? fun j=>?_
   rw[sT_get]
   by_cases hj:j<l.toArray.size
   ·rw[if_pos hj]
    have hjs:j<s.size:=by rw[inv.size];exact hj
    cases hc:tl.contains j with
    | false=>
     have:=hall j hj hc
     simp[hjs] at this
     simp[hjs,this]
    | true=>
     have:=inv.tail j hc
     simp[hjs] at this
     simp[hjs,this]
   ·rw[if_neg hj,Array.getElem?_eq_none (by rw[inv.size];omega)]
  have ea:putD l.toArray a' ((List.range l.length).filter (fun i=>!tl.contains i)) a0=a':=by
   have e1:(putD l.toArray a' ((List.range l.length).filter (fun i=>!tl.contains i)) a0).tmps=a'.tmps:=by
    refine Array.ext_getElem? fun t=>putD_get inv.tz.symm ?_
    by_cases e:∃ j,j<l.toArray.size∧tl.contains j=false∧dstOf l.toArray j=some t
    ·obtain⟨j,hj,hjt,hd⟩:=e
     exact Or.inr ⟨j,List.mem_filter.2 ⟨List.mem_range.2 (by simpa using hj),by rw[hjt];rfl⟩,hd⟩
    ·exact Or.inl (inv.un t fun j hj hjt hd=>e ⟨j,hj,hjt,hd⟩).symm
   have e2:(putD l.toArray a' ((List.range l.length).filter (fun i=>!tl.contains i)) a0).defers=a'.defers:=by rw[putD_defers,inv.df]
   generalize putD l.toArray a' ((List.range l.length).filter (fun i=>!tl.contains i)) a0=b at *
   obtain⟨t1,d1⟩:=b
   obtain⟨t2,d2⟩:=a'
   simp only at e1 e2
   subst e1;subst e2;rfl
  have h:=allV_at (c:=a') (hfin w' inv.kp) (fun j hj d hd=>by
   have hj2:=List.mem_filter.1 hj
   exact inv.dn j d (hall j (by simpa using hj2.1) (by simpa using hj2.2)) hd)
  rw[ea] at h
  exact wpAny_seqL tl _ s a' w' hpl (by rw[es];exact hseq) h) (l.toArray.size-tl.length) (Array.replicate l.toArray.size false) a0 w.drew (by omega) inv0
 rw[hlen,show l.toArray.size-tl.length+tl.length=l.toArray.size by omega] at H
 exact H
def opW (P:Program) (ops:Array Oper) (L:World→World→Prop) (T:Value→World→Prop) (o:Oper) (b:Act) (W:World):Prop:=
 if Region.wanted o (yielded ops b.tmps)=true then o.wp P b W (KT L T o b W) (fun _ _ _=>False) else KT L T o b W (b.put o.dst undef) W
def opY (P:Program) (ops:Array Oper) (T:Value→World→Prop) (o:Oper) (b:Act) (W:World):Prop:=∃ v,Yields P ops o v b∧T v W
theorem stepM_of {a0:Act} {w0:World} {i:Nat} {o:Oper} (js:List Nat) (hj:depsOf o=js) (h:∀ W,L w0 W→allV ops L T (fun b=>opW P ops L (T i) o b W) W js a0):stepM P ops L T a0 w0 i o:=by
 subst hj;exact h
theorem stepE_of {a0:Act} {w0:World} {i:Nat} {o:Oper} (js:List Nat) (hj:depsOf o=js) (h:∀ W,L w0 W→allV ops L T (fun b=>opY P ops (T i) o b W) W js a0):stepE P ops L T a0 w0 i o:=by
 subst hj;exact h
theorem allV_nil {K:Act→Prop} {W:World} {b:Act} (h:K b):allV ops L T K W [] b:=h
theorem allV_some {K:Act→Prop} {W:World} {b:Act} {j:Nat} {js:List Nat} (d:Tmp) (hd:dstOf ops j=some d) (h:∀ v,Up L (T j) v W→allV ops L T K W js (b.put (some d) v)):allV ops L T K W (j::js) b:=by
 unfold allV;rw[hd];exact h
theorem opW_go {T:Value→World→Prop} {o:Oper} {b:Act} {W:World} (hw:Region.wanted o (yielded ops b.tmps)=true) (h:∀ K:Act→World→Prop,(∀ a' w',KT L T o b W a' w'→K a' w')→o.wp P b W K (fun _ _ _=>False)):opW P ops L T o b W:=by
 unfold opW;rw[if_pos hw];exact h _ (fun _ _ h=>h)
theorem opW_skip {T:Value→World→Prop} {o:Oper} {b:Act} {W:World} (hw:Region.wanted o (yielded ops b.tmps)=false) (h:KT L T o b W (b.put o.dst undef) W):opW P ops L T o b W:=by
 unfold opW;rw[if_neg (by rw[hw];exact Bool.false_ne_true)];exact h
theorem KT.mk {L:World→World→Prop} {T:Value→World→Prop} {o:Oper} {b a':Act} {W w':World} (h:L W w') (hd:a'.defers=b.defers) (d:Tmp) (ho:o.dst=some d) (ht:T (a'.eval (.tmp d)) w'):KT L T o b W a' w':=by
 refine⟨h,hd,?_⟩
 rw[ho];exact ht
theorem opY_mk {T:Value→World→Prop} {o:Oper} {b:Act} {W:World} (v:Value) (hw:Region.wanted o (yielded ops b.tmps)=true) (h:∀ w,(execOp b.eval o).run P w=.ok (.value v) w) (ht:T v W):opY P ops T o b W:=⟨v,Or.inl ⟨hw,h⟩,ht⟩
end
end Go.Proofs.YtfhedienjnfdcaaGreatDoor
namespace Go.Proofs.YtfhedienjnfdcaaGreatDoor
open Go.RowKit
inductive Kz:Ty→Prop
 | mk {k:Int} {nm:ByteArray} {l:List Ty} (h:∀ t,t∈l→t.kind≠0) (h':∀ t,t∈l→Kz t):Kz (.mk k nm l)
theorem Kz.kids {t:Ty} (h:Kz t):∀ u,u∈t.kids→u.kind≠0∧Kz u:=by
 cases h with
 | mk h h'=>exact fun u hu=>⟨h u hu,h' u hu⟩
theorem head_kz {k:Int} {nm:ByteArray} {n:Nat} {wi:Bool} (h:tyHead k nm n wi=true):k≠0:=by
 intro e
 subst e
 unfold tyHead at h
 simp at h
theorem tf_kz (most deep:Nat):∀ (t:Ty) (d:Nat) (wi:Bool) (c:Nat),(tfS most deep t d wi c).1=true→t.kind≠0∧Kz t:=by
 intro t
 induction t using Ty.rec (motive_2:=fun l=>∀ (d c:Nat),(tfsS most deep l d c).1=true→∀ t,t∈l→t.kind≠0∧Kz t) with
 | mk k nm l ih=>
  intro d wi c h
  rw[tf_eq] at h
  split at h
  ·rename_i hb
   have hh:tyHead k nm l.length wi=true:=by simp at hb;exact hb.2
   have h2:=ih _ _ h
   exact⟨head_kz hh,.mk (fun t ht=>(h2 t ht).1) (fun t ht=>(h2 t ht).2)⟩
  ·cases h
 | nil=>rename_i d c h t ht;cases ht
 | cons t l iht ihl=>
  rename_i d c h t' h'
  rw[tfsS] at h
  cases hr:tfS most deep t d true c with
  | mk b c'=>
   cases b
   ·rw[hr] at h;cases h
   ·rw[hr] at h
    rcases List.mem_cons.1 h' with rfl | h'
    ·exact iht d true c (by rw[hr])
    ·exact ihl d c' h t' h'
theorem formed_kz {op:Int} {nm:ByteArray} {N:Int} {ty:Ty} {n:Nat} (h:formedB op nm N ty n=true):Kz ty:=by
 obtain⟨_,h2,_,h4⟩:=formed_parts h
 unfold tyOk at h4
 split at h4
 ·rw[Bool.and_eq_true] at h4
  exact (tf_kz 16 6 ty 1 false 0 h4.2).2
 ·rw[zero_ty h4];exact .mk (fun t h=>by cases h) (fun t h=>by cases h)
theorem z_cell {W:World} {g i:Nat} (hb:Blk W g 28 z27) {v:Value} (h:W.cell? ⟨g,i,none⟩=some v):i≤6∧z27[i]?=some v:=by
 have h2:=hb.cell i
 rw[h] at h2
 refine⟨?_,h2.symm⟩
 have h3:=(List.getElem?_eq_some_iff.1 h2.symm).1
 have h4:z27.length=7:=rfl
 omega
theorem TyL.nz {ok:Nat→Prop} {W:World} {g:Nat} (hb:Blk W g 28 z27) {l:List Ty} {v:Value} (h:TyL ok W l v):(∀ t,t∈l→t.kind≠0∧Kz t)→TyL (fun q=>ok q∧q≠g) W l v:=by
 induction h with
 | nil h=>intro _;exact .nil h
 | mk K hne hok hc hcell hk ih=>
  rename_i l b off cap
  intro hz
  have h0:0<l.length:=List.length_pos_iff.2 hne
  refine .mk K hne ⟨hok,fun e=>?_⟩ hc hcell (fun i h=>ih i h (hz _ (List.getElem_mem h)).2.kids)
  subst e
  obtain⟨c0,c1,c2⟩:=hcell 0 h0
  obtain⟨a,n,c,hs⟩:=(hk 0 h0).slice
  rw[hs] at c2
  obtain⟨e0,d0⟩:=z_cell hb c0
  obtain⟨e1,d1⟩:=z_cell hb c1
  obtain⟨e2,d2⟩:=z_cell hb c2
  have hkd:=(hz _ (List.getElem_mem h0)).1
  have ho:off=0∨off=1∨off=2∨off=3∨off=4:=by omega
  rcases ho with rfl | rfl | rfl | rfl | rfl
  ·cases d2
  ·cases d0
  ·cases d1
  ·have:l[0].kind=0:=by
    have:=Option.some.inj d0
    injection this with h1 h2
    exact h2.symm
   exact hkd this
  ·cases d0
theorem TmL.nz {ok:Nat→Prop} {W:World} {g:Nat} (hb:Blk W g 28 z27) {l:List Tm} {v:Value} (h:TmL ok W l v):(∀ t,t∈l→OkTm t)→TmL (fun q=>ok q∧q≠g) W l v:=by
 induction h with
 | nil h=>intro _;exact .nil h
 | mk K M hne hok hc hcell hk hm ih=>
  rename_i l b off cap
  intro hz
  have h0:0<l.length:=List.length_pos_iff.2 hne
  have kid:∀ {t:Tm},OkTm t→Kz t.ty∧∀ u,u∈t.kids→OkTm u:=by
   intro t h
   cases h with
   | mk hf hn hl=>exact⟨formed_kz hf,hl⟩
  refine .mk K M hne ⟨hok,fun e=>?_⟩ hc hcell (fun i h=>(hk i h).nz hb (kid (hz _ (List.getElem_mem h))).1.kids) (fun i h=>ih i h (kid (hz _ (List.getElem_mem h))).2)
  subst e
  obtain⟨c0,c1,c2,c3,c4,c5,c6⟩:=hcell 0 h0
  obtain⟨e0,d0⟩:=z_cell hb c0
  obtain⟨e6,d6⟩:=z_cell hb c6
  have ho:off=0:=by omega
  subst ho
  have h1:l[0].op=0:=by
   have:=Option.some.inj d0
   injection this with h1 h2
   exact h2.symm
  have:=(hz _ (List.getElem_mem h0)).range.1
  omega
def OkZ (t:Tm):Prop:=OkTm t∨t=tm0
theorem OkZ.nz {t:Tm} (h:OkZ t) {ok:Nat→Prop} {W:World} {g:Nat} (hb:Blk W g 28 z27) {tk kk:Value} (h1:TyL ok W t.ty.kids tk) (h2:TmL ok W t.kids kk):TyL (fun q=>ok q∧q≠g) W t.ty.kids tk∧TmL (fun q=>ok q∧q≠g) W t.kids kk:=by
 rcases h with h | rfl
 ·cases h with
  | mk hf hn hl=>exact⟨h1.nz hb (formed_kz hf).kids,h2.nz hb hl⟩
 ·exact⟨h1.nz hb (fun t h=>by cases h),h2.nz hb (fun t h=>by cases h)⟩
end Go.Proofs.YtfhedienjnfdcaaGreatDoor
namespace Go.Proofs.YtfhedienjnfdcaaGreatDoor
open Go.RowKit Go.Shelf
attribute [local go_sem] Oper.semAt_some
theorem lastI_at {s:ByteArray} {l:List ByteArray} {m:Nat} (hm:m<l.length) (h:l[m]=s) (hn:∀ j (hj:j<l.length),m<j→l[j]≠s):lastI s l=m:=by
 have key:∀ d,m+1+d≤l.length→lastI s (l.take (m+1+d))=m:=by
  intro d
  induction d with
  | zero=>intro _;rw[Nat.add_zero,last_take hm,if_pos h]
  | succ d ih=>
   intro hd
   rw[show m+1+(d+1)=(m+1+d)+1 by omega,last_take (by omega),if_neg (hn _ (by omega) (by omega))]
   exact ih (by omega)
 have:=key (l.length-(m+1)) (by omega)
 rw[show m+1+(l.length-(m+1))=l.length by omega,List.take_length] at this
 exact this
theorem lastI_no {s:ByteArray} {l:List ByteArray} (hn:∀ j (hj:j<l.length),l[j]≠s):lastI s l=-1:=by
 have key:∀ d,d≤l.length→lastI s (l.take d)=-1:=by
  intro d
  induction d with
  | zero=>intro _;rfl
  | succ d ih=>
   intro hd
   rw[last_take (by omega),if_neg (hn _ (by omega))]
   exact ih (by omega)
 have:=key l.length (Nat.le_refl _)
 rwa [List.take_length] at this
def upto {α:Type} (f:Nat→α) (k:Nat):List α:=(List.range k).map f
theorem upto_succ {α:Type} (f:Nat→α) (k:Nat):upto f (k+1)=upto f k++[f k]:=by simp[upto,List.range_succ]
theorem upto_len {α:Type} (f:Nat→α) (k:Nat):(upto f k).length=k:=by simp[upto]
theorem upto_mem {α:Type} {f:Nat→α} {k j:Nat} (h:j<k):f j∈upto f k:=by simp only[upto,List.mem_map,List.mem_range];exact⟨j,h,rfl⟩
def bwF (l:List ByteArray) (j:Nat):Nat×ByteArray:=(l.length-1-j,l[l.length-1-j]?.getD ⟨#[]⟩)
theorem bwF_at {l:List ByteArray} {m:Nat} (h:m<l.length):bwF l (l.length-(m+1))=(m,l[m]):=by
 unfold bwF
 rw[show l.length-1-(l.length-(m+1))=m by omega,List.getElem?_eq_getElem h];rfl
theorem back1_in (F:Fence) (n:Nat) (h7:F.fn 213) (hro:F.round=none) (hn:1≤n) (L Bs n₀:Nat) (l:List ByteArray) (a:Option Addr) (cap:Nat) (hl:l.length≤1000000) (hBn:Bs<n₀) (J Jx:List (Nat×ByteArray)→World→Prop)
  (hY:∀ pre x W,J pre W→pre.length<l.length→YieldAt F (n-1) Tryz.prog L #[.int .i64 (x.1:Int),.string x.2] W fun e W'=>
   (e=.returned (.bool true)∧J (pre++[x]) W'∧Below n₀ W W')∨(e=.returned (.bool false)∧Jx (pre++[x]) W'))
  (W:World) (hBs:W.cell? ⟨Bs,0,none⟩=some (.slice a l.length cap)) (hc:NmL (fun q=>q<n₀) W l (.slice a l.length cap)) (h0:J [] W):
  CallsIn F n Tryz.prog 213 #[.func (.yield L) #[] #[],.pointer (some ⟨Bs,0,none⟩)] W fun e W'=>(∃ v,e=.returned v) ∧
   ((∃ ys,ys=upto (bwF l) l.length∧J ys W')∨(∃ pre,(∃ k,k≤l.length∧pre=upto (bwF l) k)∧Jx pre W')):=by
 have HAT:=Ld hc.at
 have HL:=Ld hl
 have hBS:=Ld hBs
 have hln:(l.length:Int)≤1000000:=by omega
 clear hc hl
 refine callsIn_of_wp Tryz.func213 rfl h7 ?_ hro
 simp only[Tryz.ntmps213,List.size_toArray,List.length_cons,List.length_nil,Nat.reduceAdd,Nat.reduceSub,Array.replicate_succ,Array.replicate_zero,List.push_toArray,List.append_toArray,List.nil_append,List.cons_append]
 gi_wp2
 gi_loopw [3] (fun i wr=>∃ m:Nat,m≤l.length∧i=.int .i64 ((m:Int)-1)∧J (upto (bwF l) (l.length-m)) wr∧Below n₀ W wr)
  (fun i _=>(intOf i+1).toNat)
 case atStart=>
  exact⟨l.length,Nat.le_refl _,rfl,by rw[Nat.sub_self];exact h0,Below.refl _ _⟩
 case round=>
  obtain⟨m,hm,rfl,hJs,hnx⟩:=hrel
  have hb2:wr.cell? ⟨Bs,0,none⟩=some (.slice a l.length cap):=(hnx.cell (p:=⟨Bs,0,none⟩) hBn).trans hBS.out
  clear hBs
  cases m with
  | zero=>
   have i0:((0:Nat):Int)-1=-1:=rfl
   rw[i0]
   have HJ:=Ld hJs
   clear hJs hY
   gi_wp2
   go_end0
   exact⟨⟨_,rfl⟩,.inl ⟨_,rfl,HJ.out⟩⟩
  | succ m=>
   have hml:m<l.length:=by omega
   obtain⟨g,off,rfl,hg,c0⟩:=HAT.out m hml
   have c1:wr.cell? ⟨g,off+m,none⟩=some (.string l[m]):=(hnx.cell (p:=⟨g,off+m,none⟩) hg).trans c0
   have i0:((m+1:Nat):Int)-1=m:=by omega
   have i1:(m:Int)<(l.length:Int):=by omega
   have i2:(m:Int)<1000000:=by have:=HL.out;omega
   have HX:=Ld (bwF_at hml)
   have HU:Hid (upto (bwF l) (l.length-m)=upto (bwF l) (l.length-(m+1))++[(m,l[m])]):=Ld (by
    rw[show l.length-m=(l.length-(m+1))+1 by omega,upto_succ,HX.out])
   obtain⟨fn,tmps,assign,body,hy,hR⟩:=hY _ (m,l[m]) wr hJs (by rw[upto_len];omega)
   dsimp only at hy
   rw[i0]
   have HN:=Ld hnx
   clear i0 hm hY c0 hnx hJs
   gi_wp2
   refine hR.mono ?_
   rintro e W3 (⟨rfl,hJ3,hk3⟩ | ⟨rfl,hJx3⟩)
   ·gi_wp2
    go_roundw
    case rel=>exact⟨m,by omega,rfl,by rw[HU.out];exact hJ3,HN.out.trans hk3⟩
    case measure=>simp[intOf]
   ·gi_wp2
    refine bodyPost_ret (results_none rfl _ _ _) rfl ?_
    exact⟨⟨_,rfl⟩,.inr ⟨_,⟨l.length-m,by omega,HU.out.symm⟩,hJx3⟩⟩
theorem back_in (F:Fence) (n:Nat) (h5:F.fn 177) (hro:F.round=none) (a:Option Addr) (len cap:Nat) (w:World):
  CallsIn F n Tryz.prog 177 #[.slice a len cap] w fun e w'=>e=.returned (.func (.func 213) #[] #[.pointer (some ⟨w.heap.size,0,none⟩)])∧w'=w.alloc (.cells #[.slice a len cap] 41):=by
 refine callsIn_of_wp Tryz.func177 rfl h5 ?_ hro
 simp only[Tryz.ntmps177,List.size_toArray,List.length_cons,List.length_nil,Nat.reduceAdd,Nat.reduceSub,Array.replicate_succ,Array.replicate_zero,List.push_toArray,List.append_toArray,List.nil_append,List.cons_append]
 gi_wp2
 go_ret
 exact⟨rfl,rfl⟩
theorem NmL.belowF {n₀:Nat} {l:List ByteArray} {v:Value} {A B:World} (h:NmL (fun q=>q<n₀) A l v) (hb:Below n₀ A B):NmL (fun q=>q<n₀) B l v:=by
 refine h.frame (fun k hk _=>hb.block k hk)
theorem back_stops (F:Fence) (n:Nat) (h7:F.fn 213) (hro:F.round=none) (hn:1≤n) (Bs n₀:Nat) (l:List ByteArray) (a:Option Addr) (cap:Nat) (hl:l.length≤1000000) (hBn:Bs<n₀) (w:World) (hn₀:n₀≤w.heap.size)
  (hc:w.cell? ⟨Bs,0,none⟩=some (.slice a l.length cap)) (hI:NmL (fun q=>q<n₀) w l (.slice a l.length cap)):
  SeqStopsK F n Tryz.prog 213 #[.pointer (some ⟨Bs,0,none⟩)] (fun x:Nat×ByteArray=>#[Value.int .i64 (x.1:Int),Value.string x.2]) (Below n₀) (fun ys=>ys=upto (bwF l) l.length) (fun pre=>∃ k,k≤l.length∧pre=upto (bwF l) k) l.length w:=fun L J Jx W hW _ _ hY h0=>
 back1_in F n h7 hro hn L Bs n₀ l a cap hl hBn J Jx hY W ((hW.cell (p:=⟨Bs,0,none⟩) (by show Bs<_;omega)).trans hc) (hI.belowF (hW.mono hn₀)) h0
theorem last_in (F:Fence) (n:Nat) (h4:F.fn 111) (h6:F.fn 177) (h8:F.fn 213) (hro:F.round=none) (hn:3≤n) (a:Option Addr) (cap:Nat) (l:List ByteArray) (s:ByteArray) (hl:l.length≤1000000) (w:World) (hI:NmL (fun q=>q<w.heap.size) w l (.slice a l.length cap)):
  CallsIn F n Tryz.prog 111 #[.slice a l.length cap,.string s] w fun e W'=>e=.returned (.int .i64 (lastI s l))∧Below w.heap.size w W':=by
 have h1:1≤n:=by omega
 refine callsIn_of_wp_marks Tryz.func111 rfl h4 ?_ hro
 simp only[Tryz.ntmps111,List.size_toArray,List.length_cons,List.length_nil,Nat.reduceAdd,Nat.reduceSub,Array.replicate_succ,Array.replicate_zero,List.push_toArray,List.append_toArray,List.nil_append,List.cons_append]
 gi_wp2_with (gi_at_call 177;refine (back_in F (n-1) h6 hro _ _ _ _).mono ?_;rintro e w' ⟨rfl,rfl⟩)
 have bS:=Boxed.new w 9 (.string s)
 have bR:=Boxed.new (w.alloc (.cells #[.string s] 9)) 3 (.int .i64 0)
 have bN:=Boxed.new ((w.alloc (.cells #[.string s] 9)).alloc (.cells #[.int .i64 0] 3)) 41 (.slice a l.length cap)
 rw[World.size_alloc] at bR
 rw[World.size_alloc,World.size_alloc] at bN
 have hB0:Below w.heap.size w (((w.alloc (.cells #[.string s] 9)).alloc (.cells #[.int .i64 0] 3)).alloc (.cells #[.slice a l.length cap] 41)):=(((Below.refl _ w).alloc (Nat.le_refl _) _).alloc (by simp) _).alloc (by simp;omega) _
 have hI2:NmL (fun q=>q<w.heap.size+3) (((w.alloc (.cells #[.string s] 9)).alloc (.cells #[.int .i64 0] 3)).alloc (.cells #[.slice a l.length cap] 41)) l (.slice a l.length cap):=(hI.belowF hB0).mono (fun q _ h=>by omega)
 refine wpIn_rangeFunc_ownG hro h1 (gf:=213) (lb:=#[.pointer (some ⟨w.heap.size+2,0,none⟩)]) rfl h8 (enters_of Tryz.func213 (by kernel_rfl) rfl)
  (back_stops F (n-1) h8 hro (by omega) (w.heap.size+2) (w.heap.size+3) l a cap hl (by omega) _ (by simp) bN.cell hI2) belowK_t (belowK_b (by simp)) (Below.refl _ _) (fun _=>rfl)
  (fun pre W=>((∀ p∈pre,p.2≠s)∧W.cell? ⟨w.heap.size,0,none⟩=some (.string s)∧W.cell? ⟨w.heap.size+1,0,none⟩=some (.int .i64 0)∧W.frozen? ⟨w.heap.size+1,0,none⟩=false)∧Below w.heap.size w W)
  (fun c pre W=>(c=.ret∧∃ ini last,pre=ini++[last]∧(∀ p∈ini,p.2≠s)∧last.2=s∧W.cell? ⟨w.heap.size+1,0,none⟩=some (.int .i64 (last.1:Int)))∧Below w.heap.size w W)
  (OwnFrom.and (Own.from (fun s A B row hs hg hr=>⟨hs.1,cell_kept hs.2.1 hg hr,cell_kept hs.2.2.1 hg hr,(frozen_kept hs.2.2.1 hg hr).trans hs.2.2.2⟩) _) (ownFrom_below (Nat.le_refl _) (by simp;omega)))
  (fun c=>OwnFrom.and (Own.from (fun s A B row hs hg hr=>by obtain⟨hc,ini,last,e1,e2,e3,e4⟩:=hs;exact⟨hc,ini,last,e1,e2,e3,cell_kept e4 hg hr⟩) _) (ownFrom_below (Nat.le_refl _) (by simp;omega)))
  ⟨⟨by simp,((bS.alloc _).alloc _).cell,(bR.alloc _).cell,(bR.alloc _).frozen⟩,hB0⟩
  (fun x=>{ tmps:=#[.slice a l.length cap,.string s,undef,.pointer (some ⟨w.heap.size,0,none⟩),.pointer (some ⟨w.heap.size+1,0,none⟩),.int .i64 (x.1:Int),.string x.2,.slice a l.length cap,.func (.func 213) #[] #[.pointer (some ⟨w.heap.size+2,0,none⟩)],.int .i64 (x.1:Int),.string x.2,undef,undef,undef,undef],defers:=[] }) ?assign ?body ?done ?stop
 case assign=>
  intro l x W K hK
  gi_wp2
  exact hK
 case body=>
  rintro L pre x W ⟨⟨hp,hcs,hcr,hfr⟩,hB⟩ _
  have HP:=Ld hp
  clear hp
  cases hx:(x.2.toList==s.toList)
  ·have hne:Hid (x.2≠s):=Ld (by intro e;rw[e] at hx;simp at hx)
   gi_wp2
   exact⟨KeepsFrom.refl _ _,Below.refl _ _,⟨fun p hp'=>(List.mem_append.1 hp').elim (HP.out p) (fun e=>by simp at e;subst e;exact hne.out),hcs,hcr,hfr⟩,hB⟩
  ·have hye:Hid (x.2=s):=Ld (by rw[nm_eq] at hx;exact of_decide_eq_true hx)
   gi_wp2
   exact⟨(KeepsOthers.setCell _ _ _).from _,⟨rfl,pre,x,rfl,HP.out,hye.out,World.cell?_setCell_same' _ _ _ (by rw[hcr];rfl)⟩,hB.setCell (p:=⟨w.heap.size+1,0,none⟩) (by show w.heap.size≤w.heap.size+1;omega) _⟩
 case done=>
  rintro D ys W hD rfl ⟨⟨hne,hcs,hcr,hfr⟩,hB⟩ hK
  have HNE:=Ld hne
  clear hne
  gi_wp2
  have hK':=(KeepsOthers.setCell W ⟨w.heap.size+1,0,none⟩ (.int .i64 (-1))).same D _ hK rfl
  refine⟨by simp,.inl ⟨_,_,rfl,run_takeDeferred hK',?_⟩⟩
  have hc5:=cell_kept (World.cell?_setCell_same' W ⟨w.heap.size+1,0,none⟩ (.int .i64 (-1)) (by rw[hcr];rfl)) (grownBy_putObj' _ D (.deferred none)) (fun r e=>by cases e;exact⟨_,hK',rfl⟩)
  have hno:lastI s l=-1:=lastI_no (fun j hj=>by
   have:=HNE.out _ (upto_mem (f:=bwF l) (k:=l.length) (j:=l.length-(j+1)) (by omega))
   rw[bwF_at hj] at this;exact this)
  refine⟨.int .i64 (-1),?_,by rw[hno],(hB.setCell (p:=⟨w.heap.size+1,0,none⟩) (by show w.heap.size≤w.heap.size+1;omega) _).trans (belowK_b (w:=w) (Nat.le_refl _) _ D _ _ (by simp at hD;omega) hK' rfl rfl)⟩
  simp[results,Tryz.f111,go_sem,hc5]
 case stop=>
  rintro D c pre W hD ⟨k,hk,rfl⟩ ⟨⟨rfl,ini,last,e1,e2,e3,hcr⟩,hB⟩ hK
  have E1:=Ld e1
  have E2:=Ld e2
  have E3:=Ld e3
  clear e1 e2 e3
  gi_wp2
  refine⟨by simp,.inl ⟨_,_,rfl,run_takeDeferred hK,?_⟩⟩
  have hc5:=cell_kept hcr (grownBy_putObj' _ D (.deferred none)) (fun r e=>by cases e;exact⟨_,hK,rfl⟩)
  have e1:=E1.out
  obtain⟨k',rfl⟩:∃ k',k=k'+1:=by
   cases k with
   | zero=>simp[upto] at e1
   | succ k'=>exact⟨k',rfl⟩
  rw[upto_succ] at e1
  obtain⟨e6,e5⟩:=List.append_inj' e1 rfl
  have e5:bwF l k'=last:=by simpa using e5
  have hm:bwF l k'=(l.length-(k'+1),l[l.length-(k'+1)]'(by omega)):=by
   have:=bwF_at (l:=l) (m:=l.length-(k'+1)) (by omega)
   rw[show l.length-(l.length-(k'+1)+1)=k' by omega] at this;exact this
  have hla:lastI s l=(last.1:Int):=by
   have e7:=E3.out
   rw[← e5,hm] at e7 ⊢
   refine lastI_at (by omega) e7 (fun j hj hjm=>?_)
   have:=E2.out (bwF l (l.length-(j+1))) (by rw[← e6];exact upto_mem (by omega))
   rw[bwF_at hj] at this;exact this
  refine⟨.int .i64 (last.1:Int),?_,by rw[hla],hB.trans (belowK_b (w:=w) (Nat.le_refl _) W D _ _ (by simp at hD;omega) hK rfl rfl)⟩
  simp[results,Tryz.f111,go_sem,hc5]
theorem last_any {ok:Nat→Prop} {w:World} {l:List ByteArray} {v:Value} (s:ByteArray) (h:NmL ok w l v) (hn:l.length≤1000000):
  Calls Tryz.prog 111 #[v,.string s] w fun e w'=>e=.returned (.int .i64 (lastI s l))∧Kept (fun _=>False) w w':=by
 obtain⟨a,c,rfl⟩:=h.slice
 have h2:NmL (fun q=>q<w.heap.size) w l (.slice a l.length c):=by
  obtain⟨a',n',c',h1,h2,h3,h5,h4⟩:=h
  refine⟨a',n',c',h1,h2,h3,h5,fun i hi=>?_⟩
  obtain⟨g,off,e,_,hc⟩:=h4 i hi
  exact⟨g,off,e,cell_lt hc,hc⟩
 exact ((callsIn_wide (n:=3)).1 (last_in Fence.wide 3 trivial trivial trivial rfl (by omega) a c l s hn w h2)).mono fun e w' ⟨h1,h2⟩=>⟨h1,.of_below h2⟩
end Go.Proofs.YtfhedienjnfdcaaGreatDoor
