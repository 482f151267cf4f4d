/- TermSubstTwice, the tied card: for every term and every term and every term the law returns true, and its arguments read as they did. No further condition. -/
import Derived.Test.YtdmebjbkccjhbaaGreatDoorK24
import Derived.Test.YtdmebjbkccjhbaaGreatDoorC0
set_option linter.unusedVariables false
set_option linter.unusedSimpArgs false
set_option maxRecDepth 100000
set_option maxHeartbeats 32000000
namespace Go.Proofs.YtdmebjbkccjhbaaGreatDoor
open Go.ChangeShapes Go.WideShapes Go.ChangeAt Go.RowKit
theorem twc_contract (H:Type) (enc:TypeId×Value→H) (W:World) (base:Nat) (args:Array Value) (ds gs:List (DataW H)) (before:List MemPlace)
  (hval:∀ (j:Nat) t v,Tryz.f5.params[j]?=some t→args[j]?=some v→Value.okWide Tryz.prog W .any base t v)
  (hW:DataW.Whole enc Tryz.prog Tryz.f5.params.toList Rows.termSubstTwiceSpec.vars false W args.toList ds gs before)
  (hwt:(DataW.weightsEach Tryz.prog (Tryz.f5.params.toList++(OpenSpec.ofChange Rows.termSubstTwiceSpec).bare.plain.varTypes Tryz.prog) (ds++gs)).all (·≤reachBytes)=true) (hL:laidMetH Tryz.prog Rows.termSubstTwiceRow.laid W):
  Calls Tryz.prog 5 args W fun e W'=>∃ v,e=.returned v∧Rows.termSubstTwiceSpec.post enc Tryz.prog Tryz.f5 false true false false W args v W':=by
 have hW':=hW
 obtain⟨p,q,hT0,hV,rfl,hfz,hnd⟩:=hW
 have hT:DataW.TrodAll enc Tryz.prog W 0 (fun _=>true) true Tryz.f5.params.toList args.toList ds p:=hT0
 rw[Tryz.params5] at hT hval hwt
 obtain⟨v0,v1,v2,d0,d1,d2,p0,p1,p2,rfl,rfl,rfl,h0,h1,h2⟩:=trodAll_three hT
 obtain⟨rfl,rfl⟩:=trodVars_none hV
 obtain⟨t0,tk0,kk0,rfl,hA0,hM0,hs0⟩:=arg_tm h0
 obtain⟨t1,tk1,kk1,rfl,hA1,hM1,hs1⟩:=arg_tm h1
 obtain⟨t2,tk2,kk2,rfl,hA2,hM2,hs2⟩:=arg_tm h2
 clear hT0
 refine (tw_any (gl_of_laid hL) (p10_of_laid hL) hA0 hM0 hs0 hA1 hM1 hs1 hA2 hM2 hs2).mono fun e W' hE=>?_
 obtain⟨rfl,hk⟩:=hE
 have e1:Rows.termSubstTwiceSpec.fn H ([d0,d1,d2]++[])={ results:=[.lit (.bool true)],args:=[d0,d1,d2] }:=by simp[Rows.termSubstTwiceSpec]
 have hlt:∀ x∈p0++(p1++p2),x.block<W.heap.size:=fun x hx=>by simpa using hW'.lt x (by simpa using hx)
 refine⟨_,rfl,_,_,_,[],p0++(p1++p2),[],hW',?_,?_,?_,keptBut_of_kept hk _,fun h=>by cases h⟩
 ·rw[e1];exact trodAll_mk1 (shut_bool Tryz.underlying4 true)
 ·rw[e1];exact trodAll_mk3 (back_tm h0 hk (fun x hx=>hlt x (List.mem_append_left _ hx))) (back_tm h1 hk (fun x hx=>hlt x (List.mem_append_right _ (List.mem_append_left _ hx)))) (back_tm h2 hk (fun x hx=>hlt x (List.mem_append_right _ (List.mem_append_right _ hx))))
 ·rw[e1];rfl
theorem twc_laid (os:Os):laidMet Tryz.prog Rows.termSubstTwiceRow.laid ((laidWorld os).forCall (fun _ _=>0) ⟨#[],#[.agg #[.int .i64 0,.string ⟨#[]⟩,.int .i64 0,.int .i64 0,.string ⟨#[]⟩,.slice none 0 0,.slice none 0 0],.agg #[.int .i64 0,.string ⟨#[]⟩,.int .i64 0,.int .i64 0,.string ⟨#[]⟩,.slice none 0 0,.slice none 0 0],.agg #[.int .i64 0,.string ⟨#[]⟩,.int .i64 0,.int .i64 0,.string ⟨#[]⟩,.slice none 0 0,.slice none 0 0]],[]⟩).memory:=
 laidMet_of_run3 8 (by kernel_rfl) (by kernel_rfl) (by kernel_rfl)
theorem twc_reads (os:Os) {H:Type} (enc:TypeId×Value→H):∃ places,DataW.whole enc Tryz.prog ((laidWorld os).forCall (fun _ _=>0) ⟨#[],#[.agg #[.int .i64 0,.string ⟨#[]⟩,.int .i64 0,.int .i64 0,.string ⟨#[]⟩,.slice none 0 0,.slice none 0 0],.agg #[.int .i64 0,.string ⟨#[]⟩,.int .i64 0,.int .i64 0,.string ⟨#[]⟩,.slice none 0 0,.slice none 0 0],.agg #[.int .i64 0,.string ⟨#[]⟩,.int .i64 0,.int .i64 0,.string ⟨#[]⟩,.slice none 0 0,.slice none 0 0]],[]⟩).memory Tryz.f5.params.toList Rows.termSubstTwiceSpec.vars false (#[.agg #[.int .i64 0,.string ⟨#[]⟩,.int .i64 0,.int .i64 0,.string ⟨#[]⟩,.slice none 0 0,.slice none 0 0],.agg #[.int .i64 0,.string ⟨#[]⟩,.int .i64 0,.int .i64 0,.string ⟨#[]⟩,.slice none 0 0,.slice none 0 0],.agg #[.int .i64 0,.string ⟨#[]⟩,.int .i64 0,.int .i64 0,.string ⟨#[]⟩,.slice none 0 0,.slice none 0 0]]:Array Value).toList 8=some ([.agg [.lit (.int .i64 0),.lit (.string []),.lit (.int .i64 0),.agg [.lit (.int .i64 0),.lit (.string []),.nil],.nil],.agg [.lit (.int .i64 0),.lit (.string []),.lit (.int .i64 0),.agg [.lit (.int .i64 0),.lit (.string []),.nil],.nil],.agg [.lit (.int .i64 0),.lit (.string []),.lit (.int .i64 0),.agg [.lit (.int .i64 0),.lit (.string []),.nil],.nil]],[],places):=
 ⟨[],by kernel_rfl⟩
theorem twc_lifted (os:Os) (started:os.Started) (H:Type) (enc:TypeId×Value→H) (F:Stop.Interp):
  ReturnsInHanded {} Tryz.checked os 5 .any ((OpenSpec.ofChange Rows.termSubstTwiceSpec).preRow enc Tryz.prog Tryz.f5 Rows.termSubstTwiceRow.domain false Rows.termSubstTwiceRow.laid) (((OpenSpec.ofChange Rows.termSubstTwiceSpec).at F).post enc Tryz.prog Tryz.f5 false true false false):=by
 obtain⟨places,hx⟩:=twc_reads os enc
 refine returnsInHanded_of_row (C:=Tryz.checked) (s:=OpenSpec.ofChange Rows.termSubstTwiceSpec) own0 started (by kernel_rfl) Tryz.func5
  (witness_row_at (enc:=enc) (C:=Tryz.checked) false (laidWorld os) #[.agg #[.int .i64 0,.string ⟨#[]⟩,.int .i64 0,.int .i64 0,.string ⟨#[]⟩,.slice none 0 0,.slice none 0 0],.agg #[.int .i64 0,.string ⟨#[]⟩,.int .i64 0,.int .i64 0,.string ⟨#[]⟩,.slice none 0 0,.slice none 0 0],.agg #[.int .i64 0,.string ⟨#[]⟩,.int .i64 0,.int .i64 0,.string ⟨#[]⟩,.slice none 0 0,.slice none 0 0]] rfl (by kernel_rfl) (by kernel_rfl) (by kernel_rfl)
   (OpenSpec.preRow_of_cond 8 hx (by kernel_rfl) (fun k hk=>by cases hk) (by kernel_rfl) (twc_laid os))) ?_
 intro W base args ds gs before hval hW _ _ hwt hL _ _
 exact twc_contract H enc W base args ds gs before hval hW hwt hL
theorem twc_f1:(Rows.termSubstTwiceRow.inPlace==Tryz.prog.inPlace 5)=true:=by kernel_rfl
theorem twc_f2:(Rows.termSubstTwiceRow.unfollowed==Tryz.prog.unfollowed 5)=true:=by kernel_rfl
theorem twc_f3:(Rows.termSubstTwiceRow.recurses==Tryz.prog.recurses 5)=true:=by kernel_rfl
theorem twc_f4:(Rows.termSubstTwiceRow.named==Tryz.prog.varsNamed 5)=true:=by kernel_rfl
theorem twc_named : Tryz.prog.funcNamed "refinement/refinementlaw01.TermSubstTwice" = some 5 := by kernel_rfl
theorem twc_facts:joinedFacts Tryz.prog 5 Tryz.f5 (OpenSpec.ofChange Rows.termSubstTwiceSpec).bare Rows.termSubstTwiceRow=true:=by
 unfold joinedFacts
 rw[twc_f1,twc_f2,twc_f3,twc_f4,laidOut0]
 kernel_rfl
theorem twc_said:Rows.TermSubstTwiceSaid:=
 OpenClaim.holds_of_cond 5 Tryz.f5 rfl rfl rfl rfl rfl rfl rfl ⟨rfl,rfl,rfl,rfl,rfl⟩ rfl rfl rfl rfl rfl twc_named Tryz.func5 twc_facts
  (of_decide_eq_true (by kernel_rfl)) (by unfold Func.isWrapper;first | (rw[if_pos (by decide +kernel)];kernel_rfl) | (rw[if_neg (by decide +kernel)];exact⟨rfl,rfl⟩))
  (fun os started H enc _ F=>by rw[OpenClaim.pre_eq_preRow];exact twc_lifted os started H enc F)
theorem twc_plain (f : FuncId) (fn : Func) (hf : Tryz.pinned.checked.prog.funcNamed "refinement/refinementlaw01.TermSubstTwice" = some f) (hfn : Tryz.pinned.checked.prog.funcs[f]? = some fn) :
  true=Tryz.pinned.checked.prog.looks []∧∀ (j:Nat) t,fn.params[j]?=some t→Tryz.pinned.checked.prog.wantsStandIn t=false:=by
 obtain rfl:f=5:=Option.some.inj (twc_named.symm.trans hf) |>.symm
 obtain rfl:fn=Tryz.f5:=(Option.some.inj (Tryz.func5.symm.trans hfn)).symm
 refine⟨by kernel_rfl,fun j t ht=>?_⟩
 rw[Tryz.params5] at ht
 have hm:=Array.mem_of_getElem? ht
 obtain rfl:t=27:=by simpa using hm
 exact (show Tryz.prog.wantsStandIn 27=false by kernel_rfl)
theorem termSubstTwice_card:Rows.TermSubstTwiceCardSaid:=
 Claim7.holds_tied_plain_at .later [] _ _ _ _ twc_said (fun _ h=>by cases h) (by kernel_rfl) (fun _ h=>by cases h) termSubstTwice_row_tie rfl ⟨rfl,rfl⟩ (by kernel_rfl) rfl twc_plain (by kernel_rfl)
#print axioms termSubstTwice_card
end Go.Proofs.YtdmebjbkccjhbaaGreatDoor
