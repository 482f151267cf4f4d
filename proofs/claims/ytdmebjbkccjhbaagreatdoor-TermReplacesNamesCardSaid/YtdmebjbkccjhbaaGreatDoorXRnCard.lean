/- TermReplacesNames, the tied card: for every term and every string and every term the law returns true, and its arguments read as they did. No further condition. -/
import Derived.Test.YtdmebjbkccjhbaaGreatDoorK27
import Derived.Test.YtdmebjbkccjhbaaGreatDoorD0
set_option linter.unusedVariables false
set_option linter.unusedSimpArgs false
set_option maxRecDepth 100000
set_option maxHeartbeats 32000000
namespace Go.Proofs.YtdmebjbkccjhbaaGreatDoor
open Go.ChangeShapes Go.WideShapes Go.ChangeAt Go.RowKit
theorem rnc_contract (H:Type) (enc:TypeId×Value→H) (W:World) (base:Nat) (args:Array Value) (ds gs:List (DataW H)) (before:List MemPlace)
  (hval:∀ (j:Nat) t v,Tryz.f6.params[j]?=some t→args[j]?=some v→Value.okWide Tryz.prog W .any base t v)
  (hW:DataW.Whole enc Tryz.prog Tryz.f6.params.toList Rows.termReplacesNamesSpec.vars false W args.toList ds gs before)
  (hwt:(DataW.weightsEach Tryz.prog (Tryz.f6.params.toList++(OpenSpec.ofChange Rows.termReplacesNamesSpec).bare.plain.varTypes Tryz.prog) (ds++gs)).all (·≤reachBytes)=true) (hL:laidMetH Tryz.prog Rows.termReplacesNamesRow.laid W):
  Calls Tryz.prog 6 args W fun e W'=>∃ v,e=.returned v∧Rows.termReplacesNamesSpec.post enc Tryz.prog Tryz.f6 false true false false W args v W':=by
 have hW':=hW
 obtain⟨p,q,hT0,hV,rfl,hfz,hnd⟩:=hW
 have hT:DataW.TrodAll enc Tryz.prog W 0 (fun _=>true) true Tryz.f6.params.toList args.toList ds p:=hT0
 rw[Tryz.params6] at hT hval hwt
 obtain⟨v0,v1,v2,d0,d1,d2,p0,p1,p2,rfl,rfl,rfl,h0,h1,h2⟩:=trodAll_three hT
 obtain⟨rfl,rfl⟩:=trodVars_none hV
 obtain⟨t0,tk0,kk0,rfl,hA0,hM0,hs0⟩:=arg_tm h0
 obtain⟨s1,rfl,hs1⟩:=arg_string (hval 1 9 v1 rfl rfl) h1
 obtain⟨t2,tk2,kk2,rfl,hA2,hM2,hs2⟩:=arg_tm h2
 clear hT0
 refine (rn_any (gl_of_laid hL) (p10_of_laid hL) hA0 hM0 hs0 hs1 hA2 hM2 hs2).mono fun e W' hE=>?_
 obtain⟨rfl,hk⟩:=hE
 have e1:Rows.termReplacesNamesSpec.fn H ([d0,d1,d2]++[])={ results:=[.lit (.bool true)],args:=[d0,d1,d2] }:=by simp[Rows.termReplacesNamesSpec]
 have hlt:∀ x∈p0++(p1++p2),x.block<W.heap.size:=fun x hx=>by simpa using hW'.lt x (by simpa using hx)
 refine⟨_,rfl,_,_,_,[],p0++(p1++p2),[],hW',?_,?_,?_,keptBut_of_kept hk _,fun h=>by cases h⟩
 ·rw[e1];exact trodAll_mk1 (shut_bool Tryz.underlying4 true)
 ·rw[e1];exact trodAll_mk3 (back_tm h0 hk (fun x hx=>hlt x (List.mem_append_left _ hx))) (back_string h1 hk (fun x hx=>hlt x (List.mem_append_right _ (List.mem_append_left _ hx)))) (back_tm h2 hk (fun x hx=>hlt x (List.mem_append_right _ (List.mem_append_right _ hx))))
 ·rw[e1];rfl
theorem rnc_laid (os:Os):laidMet Tryz.prog Rows.termReplacesNamesRow.laid ((laidWorld os).forCall (fun _ _=>0) ⟨#[],#[.agg #[.int .i64 0,.string ⟨#[]⟩,.int .i64 0,.int .i64 0,.string ⟨#[]⟩,.slice none 0 0,.slice none 0 0],.string ⟨#[]⟩,.agg #[.int .i64 0,.string ⟨#[]⟩,.int .i64 0,.int .i64 0,.string ⟨#[]⟩,.slice none 0 0,.slice none 0 0]],[]⟩).memory:=
 laidMet_of_run3 8 (by kernel_rfl) (by kernel_rfl) (by kernel_rfl)
theorem rnc_reads (os:Os) {H:Type} (enc:TypeId×Value→H):∃ places,DataW.whole enc Tryz.prog ((laidWorld os).forCall (fun _ _=>0) ⟨#[],#[.agg #[.int .i64 0,.string ⟨#[]⟩,.int .i64 0,.int .i64 0,.string ⟨#[]⟩,.slice none 0 0,.slice none 0 0],.string ⟨#[]⟩,.agg #[.int .i64 0,.string ⟨#[]⟩,.int .i64 0,.int .i64 0,.string ⟨#[]⟩,.slice none 0 0,.slice none 0 0]],[]⟩).memory Tryz.f6.params.toList Rows.termReplacesNamesSpec.vars false (#[.agg #[.int .i64 0,.string ⟨#[]⟩,.int .i64 0,.int .i64 0,.string ⟨#[]⟩,.slice none 0 0,.slice none 0 0],.string ⟨#[]⟩,.agg #[.int .i64 0,.string ⟨#[]⟩,.int .i64 0,.int .i64 0,.string ⟨#[]⟩,.slice none 0 0,.slice none 0 0]]:Array Value).toList 8=some ([.agg [.lit (.int .i64 0),.lit (.string []),.lit (.int .i64 0),.agg [.lit (.int .i64 0),.lit (.string []),.nil],.nil],.lit (.string []),.agg [.lit (.int .i64 0),.lit (.string []),.lit (.int .i64 0),.agg [.lit (.int .i64 0),.lit (.string []),.nil],.nil]],[],places):=
 ⟨[],by kernel_rfl⟩
theorem rnc_lifted (os:Os) (started:os.Started) (H:Type) (enc:TypeId×Value→H) (F:Stop.Interp):
  ReturnsInHanded {} Tryz.checked os 6 .any ((OpenSpec.ofChange Rows.termReplacesNamesSpec).preRow enc Tryz.prog Tryz.f6 Rows.termReplacesNamesRow.domain false Rows.termReplacesNamesRow.laid) (((OpenSpec.ofChange Rows.termReplacesNamesSpec).at F).post enc Tryz.prog Tryz.f6 false true false false):=by
 obtain⟨places,hx⟩:=rnc_reads os enc
 refine returnsInHanded_of_row (C:=Tryz.checked) (s:=OpenSpec.ofChange Rows.termReplacesNamesSpec) own0 started (by kernel_rfl) Tryz.func6
  (witness_row_at (enc:=enc) (C:=Tryz.checked) false (laidWorld os) #[.agg #[.int .i64 0,.string ⟨#[]⟩,.int .i64 0,.int .i64 0,.string ⟨#[]⟩,.slice none 0 0,.slice none 0 0],.string ⟨#[]⟩,.agg #[.int .i64 0,.string ⟨#[]⟩,.int .i64 0,.int .i64 0,.string ⟨#[]⟩,.slice none 0 0,.slice none 0 0]] rfl (by kernel_rfl) (by kernel_rfl) (by kernel_rfl)
   (OpenSpec.preRow_of_cond 8 hx (by kernel_rfl) (fun k hk=>by cases hk) (by kernel_rfl) (rnc_laid os))) ?_
 intro W base args ds gs before hval hW _ _ hwt hL _ _
 exact rnc_contract H enc W base args ds gs before hval hW hwt hL
theorem rnc_f1:(Rows.termReplacesNamesRow.inPlace==Tryz.prog.inPlace 6)=true:=by kernel_rfl
theorem rnc_f2:(Rows.termReplacesNamesRow.unfollowed==Tryz.prog.unfollowed 6)=true:=by kernel_rfl
theorem rnc_f3:(Rows.termReplacesNamesRow.recurses==Tryz.prog.recurses 6)=true:=by kernel_rfl
theorem rnc_f4:(Rows.termReplacesNamesRow.named==Tryz.prog.varsNamed 6)=true:=by kernel_rfl
theorem rnc_named : Tryz.prog.funcNamed "refinement/refinementlaw01.TermReplacesNames" = some 6 := by kernel_rfl
theorem rnc_facts:joinedFacts Tryz.prog 6 Tryz.f6 (OpenSpec.ofChange Rows.termReplacesNamesSpec).bare Rows.termReplacesNamesRow=true:=by
 unfold joinedFacts
 rw[rnc_f1,rnc_f2,rnc_f3,rnc_f4,laidOut0]
 kernel_rfl
theorem rnc_said:Rows.TermReplacesNamesSaid:=
 OpenClaim.holds_of_cond 6 Tryz.f6 rfl rfl rfl rfl rfl rfl rfl ⟨rfl,rfl,rfl,rfl,rfl⟩ rfl rfl rfl rfl rfl rnc_named Tryz.func6 rnc_facts
  (of_decide_eq_true (by kernel_rfl)) (by unfold Func.isWrapper;first | (rw[if_pos (by decide +kernel)];kernel_rfl) | (rw[if_neg (by decide +kernel)];exact⟨rfl,rfl⟩))
  (fun os started H enc _ F=>by rw[OpenClaim.pre_eq_preRow];exact rnc_lifted os started H enc F)
theorem rnc_plain (f : FuncId) (fn : Func) (hf : Tryz.pinned.checked.prog.funcNamed "refinement/refinementlaw01.TermReplacesNames" = some f) (hfn : Tryz.pinned.checked.prog.funcs[f]? = some fn) :
  true=Tryz.pinned.checked.prog.looks []∧∀ (j:Nat) t,fn.params[j]?=some t→Tryz.pinned.checked.prog.wantsStandIn t=false:=by
 obtain rfl:f=6:=Option.some.inj (rnc_named.symm.trans hf) |>.symm
 obtain rfl:fn=Tryz.f6:=(Option.some.inj (Tryz.func6.symm.trans hfn)).symm
 refine⟨by kernel_rfl,fun j t ht=>?_⟩
 rw[Tryz.params6] at ht
 have hm:=Array.mem_of_getElem? ht
 simp at hm
 rcases hm with rfl | rfl | rfl
 ·exact (show Tryz.prog.wantsStandIn 27=false by kernel_rfl)
 ·exact (show Tryz.prog.wantsStandIn 9=false by kernel_rfl)
 ·exact (show Tryz.prog.wantsStandIn 27=false by kernel_rfl)
theorem termReplacesNames_card:Rows.TermReplacesNamesCardSaid:=
 Claim7.holds_tied_plain_at .later [] _ _ _ _ rnc_said (fun _ h=>by cases h) (by kernel_rfl) (fun _ h=>by cases h) termReplacesNames_row_tie rfl ⟨rfl,rfl⟩ (by kernel_rfl) rfl rnc_plain (by kernel_rfl)
#print axioms termReplacesNames_card
end Go.Proofs.YtdmebjbkccjhbaaGreatDoor
