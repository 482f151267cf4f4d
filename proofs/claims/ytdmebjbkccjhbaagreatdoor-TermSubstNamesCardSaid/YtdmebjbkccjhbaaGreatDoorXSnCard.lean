/- TermSubstNames, the tied card: for every term and every list of bindings the law returns true, and its arguments read as they did. No further condition. -/
import Derived.Test.YtdmebjbkccjhbaaGreatDoorK23
import Derived.Test.YtdmebjbkccjhbaaGreatDoorB0
set_option linter.unusedVariables false
set_option linter.unusedSimpArgs false
set_option maxRecDepth 100000
set_option maxHeartbeats 32000000
namespace Go.Proofs.YtdmebjbkccjhbaaGreatDoor
open Go.ChangeShapes Go.WideShapes Go.ChangeAt Go.RowKit
theorem snc_contract (H:Type) (enc:TypeId×Value→H) (W:World) (base:Nat) (args:Array Value) (ds gs:List (DataW H)) (before:List MemPlace)
  (hval:∀ (j:Nat) t v,Tryz.f4.params[j]?=some t→args[j]?=some v→Value.okWide Tryz.prog W .any base t v)
  (hW:DataW.Whole enc Tryz.prog Tryz.f4.params.toList Rows.termSubstNamesSpec.vars false W args.toList ds gs before)
  (hwt:(DataW.weightsEach Tryz.prog (Tryz.f4.params.toList++(OpenSpec.ofChange Rows.termSubstNamesSpec).bare.plain.varTypes Tryz.prog) (ds++gs)).all (·≤reachBytes)=true) (hL:laidMetH Tryz.prog Rows.termSubstNamesRow.laid W):
  Calls Tryz.prog 4 args W fun e W'=>∃ v,e=.returned v∧Rows.termSubstNamesSpec.post enc Tryz.prog Tryz.f4 false true false false W args v W':=by
 have hW':=hW
 obtain⟨p,q,hT0,hV,rfl,hfz,hnd⟩:=hW
 have hT:DataW.TrodAll enc Tryz.prog W 0 (fun _=>true) true Tryz.f4.params.toList args.toList ds p:=hT0
 rw[Tryz.params4] at hT hval hwt
 obtain⟨v0,v1,d0,d1,p0,p1,rfl,rfl,rfl,h0,h1⟩:=trodAll_two hT
 obtain⟨rfl,rfl⟩:=trodVars_none hV
 obtain⟨t0,tk0,kk0,rfl,hA0,hM0,hs0⟩:=arg_tm h0
 obtain⟨l1,a1,n1,c1,rfl,hB1,hsb1,hnb1,hlb1⟩:=arg_binds (hval 1 34 v1 rfl rfl) h1
 clear hT0
 refine (sn_any (gl_of_laid hL) (p10_of_laid hL) hA0 hM0 hs0 hB1 hsb1 hnb1).mono fun e W' hE=>?_
 obtain⟨rfl,hk⟩:=hE
 have e1:Rows.termSubstNamesSpec.fn H ([d0,d1]++[])={ results:=[.lit (.bool true)],args:=[d0,d1] }:=by simp[Rows.termSubstNamesSpec]
 have hlt:∀ x∈p0++p1,x.block<W.heap.size:=fun x hx=>by simpa using hW'.lt x (by simpa using hx)
 refine⟨_,rfl,_,_,_,[],p0++p1,[],hW',?_,?_,?_,keptBut_of_kept hk _,fun h=>by cases h⟩
 ·rw[e1];exact trodAll_mk1 (shut_bool Tryz.underlying4 true)
 ·rw[e1];exact trodAll_mk2 (back_tm h0 hk (fun x hx=>hlt x (List.mem_append_left _ hx))) (back_binds h1 hk (fun x hx=>hlt x (List.mem_append_right _ hx)))
 ·rw[e1];rfl
theorem snc_laid (os:Os):laidMet Tryz.prog Rows.termSubstNamesRow.laid ((laidWorld os).forCall (fun _ _=>0) ⟨#[],#[.agg #[.int .i64 0,.string ⟨#[]⟩,.int .i64 0,.int .i64 0,.string ⟨#[]⟩,.slice none 0 0,.slice none 0 0],.slice none 0 0],[]⟩).memory:=
 laidMet_of_run3 8 (by kernel_rfl) (by kernel_rfl) (by kernel_rfl)
theorem snc_reads (os:Os) {H:Type} (enc:TypeId×Value→H):∃ places,DataW.whole enc Tryz.prog ((laidWorld os).forCall (fun _ _=>0) ⟨#[],#[.agg #[.int .i64 0,.string ⟨#[]⟩,.int .i64 0,.int .i64 0,.string ⟨#[]⟩,.slice none 0 0,.slice none 0 0],.slice none 0 0],[]⟩).memory Tryz.f4.params.toList Rows.termSubstNamesSpec.vars false (#[.agg #[.int .i64 0,.string ⟨#[]⟩,.int .i64 0,.int .i64 0,.string ⟨#[]⟩,.slice none 0 0,.slice none 0 0],.slice none 0 0]:Array Value).toList 8=some ([.agg [.lit (.int .i64 0),.lit (.string []),.lit (.int .i64 0),.agg [.lit (.int .i64 0),.lit (.string []),.nil],.nil],.nil],[],places):=
 ⟨[],by kernel_rfl⟩
theorem snc_lifted (os:Os) (started:os.Started) (H:Type) (enc:TypeId×Value→H) (F:Stop.Interp):
  ReturnsInHanded {} Tryz.checked os 4 .any ((OpenSpec.ofChange Rows.termSubstNamesSpec).preRow enc Tryz.prog Tryz.f4 Rows.termSubstNamesRow.domain false Rows.termSubstNamesRow.laid) (((OpenSpec.ofChange Rows.termSubstNamesSpec).at F).post enc Tryz.prog Tryz.f4 false true false false):=by
 obtain⟨places,hx⟩:=snc_reads os enc
 refine returnsInHanded_of_row (C:=Tryz.checked) (s:=OpenSpec.ofChange Rows.termSubstNamesSpec) own0 started (by kernel_rfl) Tryz.func4
  (witness_row_at (enc:=enc) (C:=Tryz.checked) false (laidWorld os) #[.agg #[.int .i64 0,.string ⟨#[]⟩,.int .i64 0,.int .i64 0,.string ⟨#[]⟩,.slice none 0 0,.slice none 0 0],.slice none 0 0] rfl (by kernel_rfl) (by kernel_rfl) (by kernel_rfl)
   (OpenSpec.preRow_of_cond 8 hx (by kernel_rfl) (fun k hk=>by cases hk) (by kernel_rfl) (snc_laid os))) ?_
 intro W base args ds gs before hval hW _ _ hwt hL _ _
 exact snc_contract H enc W base args ds gs before hval hW hwt hL
theorem snc_f1:(Rows.termSubstNamesRow.inPlace==Tryz.prog.inPlace 4)=true:=by kernel_rfl
theorem snc_f2:(Rows.termSubstNamesRow.unfollowed==Tryz.prog.unfollowed 4)=true:=by kernel_rfl
theorem snc_f3:(Rows.termSubstNamesRow.recurses==Tryz.prog.recurses 4)=true:=by kernel_rfl
theorem snc_f4:(Rows.termSubstNamesRow.named==Tryz.prog.varsNamed 4)=true:=by kernel_rfl
theorem snc_named : Tryz.prog.funcNamed "refinement/refinementlaw01.TermSubstNames" = some 4 := by kernel_rfl
theorem snc_facts:joinedFacts Tryz.prog 4 Tryz.f4 (OpenSpec.ofChange Rows.termSubstNamesSpec).bare Rows.termSubstNamesRow=true:=by
 unfold joinedFacts
 rw[snc_f1,snc_f2,snc_f3,snc_f4,laidOut0]
 kernel_rfl
theorem snc_said:Rows.TermSubstNamesSaid:=
 OpenClaim.holds_of_cond 4 Tryz.f4 rfl rfl rfl rfl rfl rfl rfl ⟨rfl,rfl,rfl,rfl,rfl⟩ rfl rfl rfl rfl rfl snc_named Tryz.func4 snc_facts
  (of_decide_eq_true (by kernel_rfl)) (by unfold Func.isWrapper;first | (rw[if_pos (by decide +kernel)];kernel_rfl) | (rw[if_neg (by decide +kernel)];exact⟨rfl,rfl⟩))
  (fun os started H enc _ F=>by rw[OpenClaim.pre_eq_preRow];exact snc_lifted os started H enc F)
theorem snc_plain (f : FuncId) (fn : Func) (hf : Tryz.pinned.checked.prog.funcNamed "refinement/refinementlaw01.TermSubstNames" = some f) (hfn : Tryz.pinned.checked.prog.funcs[f]? = some fn) :
  true=Tryz.pinned.checked.prog.looks []∧∀ (j:Nat) t,fn.params[j]?=some t→Tryz.pinned.checked.prog.wantsStandIn t=false:=by
 obtain rfl:f=4:=Option.some.inj (snc_named.symm.trans hf) |>.symm
 obtain rfl:fn=Tryz.f4:=(Option.some.inj (Tryz.func4.symm.trans hfn)).symm
 refine⟨by kernel_rfl,fun j t ht=>?_⟩
 rw[Tryz.params4] at ht
 have hm:=Array.mem_of_getElem? ht
 simp at hm
 rcases hm with rfl | rfl
 ·exact (show Tryz.prog.wantsStandIn 27=false by kernel_rfl)
 ·exact (show Tryz.prog.wantsStandIn 34=false by kernel_rfl)
theorem termSubstNames_card:Rows.TermSubstNamesCardSaid:=
 Claim7.holds_tied_plain_at .later [] _ _ _ _ snc_said (fun _ h=>by cases h) (by kernel_rfl) (fun _ h=>by cases h) termSubstNames_row_tie rfl ⟨rfl,rfl⟩ (by kernel_rfl) rfl snc_plain (by kernel_rfl)
#print axioms termSubstNames_card
end Go.Proofs.YtdmebjbkccjhbaaGreatDoor
