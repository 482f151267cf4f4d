/- TermRenames, the tied card: for every term and every string and every string the law returns true, and its arguments read as they did. No further condition. -/
import Derived.Test.YtdmebjbkccjhbaaGreatDoorE0
set_option linter.unusedVariables false
set_option linter.unusedSimpArgs false
set_option maxRecDepth 100000
set_option maxHeartbeats 32000000
namespace Go.Proofs.YtdmebjbkccjhbaaGreatDoor
open Go.ChangeShapes Go.WideShapes Go.ChangeAt Go.RowKit
theorem rmc_contract (H:Type) (enc:TypeId×Value→H) (W:World) (base:Nat) (args:Array Value) (ds gs:List (DataW H)) (before:List MemPlace)
  (hval:∀ (j:Nat) t v,Tryz.f7.params[j]?=some t→args[j]?=some v→Value.okWide Tryz.prog W .any base t v)
  (hW:DataW.Whole enc Tryz.prog Tryz.f7.params.toList Rows.termRenamesSpec.vars false W args.toList ds gs before)
  (hwt:(DataW.weightsEach Tryz.prog (Tryz.f7.params.toList++(OpenSpec.ofChange Rows.termRenamesSpec).bare.plain.varTypes Tryz.prog) (ds++gs)).all (·≤reachBytes)=true) (hL:laidMetH Tryz.prog Rows.termRenamesRow.laid W):
  Calls Tryz.prog 7 args W fun e W'=>∃ v,e=.returned v∧Rows.termRenamesSpec.post enc Tryz.prog Tryz.f7 false true false false W args v W':=by
 have hW':=hW
 obtain⟨p,q,hT0,hV,rfl,hfz,hnd⟩:=hW
 have hT:DataW.TrodAll enc Tryz.prog W 0 (fun _=>true) true Tryz.f7.params.toList args.toList ds p:=hT0
 rw[Tryz.params7] at hT hval hwt
 obtain⟨v0,v1,v2,d0,d1,d2,p0,p1,p2,rfl,rfl,rfl,h0,h1,h2⟩:=trodAll_three hT
 obtain⟨rfl,rfl⟩:=trodVars_none hV
 obtain⟨t0,tk0,kk0,rfl,hA0,hM0,hs0⟩:=arg_tm h0
 obtain⟨s1,rfl,hs1⟩:=arg_string (hval 1 9 v1 rfl rfl) h1
 obtain⟨s2,rfl,hs2⟩:=arg_string (hval 2 9 v2 rfl rfl) h2
 clear hT0
 refine (rm_any (gl_of_laid hL) (p10_of_laid hL) hA0 hM0 hs0 hs1 hs2).mono fun e W' hE=>?_
 obtain⟨rfl,hk⟩:=hE
 have e1:Rows.termRenamesSpec.fn H ([d0,d1,d2]++[])={ results:=[.lit (.bool true)],args:=[d0,d1,d2] }:=by simp[Rows.termRenamesSpec]
 have hlt:∀ x∈p0++(p1++p2),x.block<W.heap.size:=fun x hx=>by simpa using hW'.lt x (by simpa using hx)
 refine⟨_,rfl,_,_,_,[],p0++(p1++p2),[],hW',?_,?_,?_,keptBut_of_kept hk _,fun h=>by cases h⟩
 ·rw[e1];exact trodAll_mk1 (shut_bool Tryz.underlying4 true)
 ·rw[e1];exact trodAll_mk3 (back_tm h0 hk (fun x hx=>hlt x (List.mem_append_left _ hx))) (back_string h1 hk (fun x hx=>hlt x (List.mem_append_right _ (List.mem_append_left _ hx)))) (back_string h2 hk (fun x hx=>hlt x (List.mem_append_right _ (List.mem_append_right _ hx))))
 ·rw[e1];rfl
theorem rmc_laid (os:Os):laidMet Tryz.prog Rows.termRenamesRow.laid ((laidWorld os).forCall (fun _ _=>0) ⟨#[],#[.agg #[.int .i64 0,.string ⟨#[]⟩,.int .i64 0,.int .i64 0,.string ⟨#[]⟩,.slice none 0 0,.slice none 0 0],.string ⟨#[]⟩,.string ⟨#[]⟩],[]⟩).memory:=
 laidMet_of_run3 8 (by kernel_rfl) (by kernel_rfl) (by kernel_rfl)
theorem rmc_reads (os:Os) {H:Type} (enc:TypeId×Value→H):∃ places,DataW.whole enc Tryz.prog ((laidWorld os).forCall (fun _ _=>0) ⟨#[],#[.agg #[.int .i64 0,.string ⟨#[]⟩,.int .i64 0,.int .i64 0,.string ⟨#[]⟩,.slice none 0 0,.slice none 0 0],.string ⟨#[]⟩,.string ⟨#[]⟩],[]⟩).memory Tryz.f7.params.toList Rows.termRenamesSpec.vars false (#[.agg #[.int .i64 0,.string ⟨#[]⟩,.int .i64 0,.int .i64 0,.string ⟨#[]⟩,.slice none 0 0,.slice none 0 0],.string ⟨#[]⟩,.string ⟨#[]⟩]:Array Value).toList 8=some ([.agg [.lit (.int .i64 0),.lit (.string []),.lit (.int .i64 0),.agg [.lit (.int .i64 0),.lit (.string []),.nil],.nil],.lit (.string []),.lit (.string [])],[],places):=
 ⟨[],by kernel_rfl⟩
theorem rmc_lifted (os:Os) (started:os.Started) (H:Type) (enc:TypeId×Value→H) (F:Stop.Interp):
  ReturnsInHanded {} Tryz.checked os 7 .any ((OpenSpec.ofChange Rows.termRenamesSpec).preRow enc Tryz.prog Tryz.f7 Rows.termRenamesRow.domain false Rows.termRenamesRow.laid) (((OpenSpec.ofChange Rows.termRenamesSpec).at F).post enc Tryz.prog Tryz.f7 false true false false):=by
 obtain⟨places,hx⟩:=rmc_reads os enc
 refine returnsInHanded_of_row (C:=Tryz.checked) (s:=OpenSpec.ofChange Rows.termRenamesSpec) own0 started (by kernel_rfl) Tryz.func7
  (witness_row_at (enc:=enc) (C:=Tryz.checked) false (laidWorld os) #[.agg #[.int .i64 0,.string ⟨#[]⟩,.int .i64 0,.int .i64 0,.string ⟨#[]⟩,.slice none 0 0,.slice none 0 0],.string ⟨#[]⟩,.string ⟨#[]⟩] rfl (by kernel_rfl) (by kernel_rfl) (by kernel_rfl)
   (OpenSpec.preRow_of_cond 8 hx (by kernel_rfl) (fun k hk=>by cases hk) (by kernel_rfl) (rmc_laid os))) ?_
 intro W base args ds gs before hval hW _ _ hwt hL _ _
 exact rmc_contract H enc W base args ds gs before hval hW hwt hL
theorem rmc_f1:(Rows.termRenamesRow.inPlace==Tryz.prog.inPlace 7)=true:=by kernel_rfl
theorem rmc_f2:(Rows.termRenamesRow.unfollowed==Tryz.prog.unfollowed 7)=true:=by kernel_rfl
theorem rmc_f3:(Rows.termRenamesRow.recurses==Tryz.prog.recurses 7)=true:=by kernel_rfl
theorem rmc_f4:(Rows.termRenamesRow.named==Tryz.prog.varsNamed 7)=true:=by kernel_rfl
theorem rmc_named : Tryz.prog.funcNamed "refinement/refinementlaw01.TermRenames" = some 7 := by kernel_rfl
theorem rmc_facts:joinedFacts Tryz.prog 7 Tryz.f7 (OpenSpec.ofChange Rows.termRenamesSpec).bare Rows.termRenamesRow=true:=by
 unfold joinedFacts
 rw[rmc_f1,rmc_f2,rmc_f3,rmc_f4,laidOut0]
 kernel_rfl
theorem rmc_said:Rows.TermRenamesSaid:=
 OpenClaim.holds_of_cond 7 Tryz.f7 rfl rfl rfl rfl rfl rfl rfl ⟨rfl,rfl,rfl,rfl,rfl⟩ rfl rfl rfl rfl rfl rmc_named Tryz.func7 rmc_facts
  (of_decide_eq_true (by kernel_rfl)) (by unfold Func.isWrapper;first | (rw[if_pos (by decide +kernel)];kernel_rfl) | (rw[if_neg (by decide +kernel)];exact⟨rfl,rfl⟩))
  (fun os started H enc _ F=>by rw[OpenClaim.pre_eq_preRow];exact rmc_lifted os started H enc F)
theorem rmc_plain (f : FuncId) (fn : Func) (hf : Tryz.pinned.checked.prog.funcNamed "refinement/refinementlaw01.TermRenames" = some f) (hfn : Tryz.pinned.checked.prog.funcs[f]? = some fn) :
  true=Tryz.pinned.checked.prog.looks []∧∀ (j:Nat) t,fn.params[j]?=some t→Tryz.pinned.checked.prog.wantsStandIn t=false:=by
 obtain rfl:f=7:=Option.some.inj (rmc_named.symm.trans hf) |>.symm
 obtain rfl:fn=Tryz.f7:=(Option.some.inj (Tryz.func7.symm.trans hfn)).symm
 refine⟨by kernel_rfl,fun j t ht=>?_⟩
 rw[Tryz.params7] at ht
 have hm:=Array.mem_of_getElem? ht
 simp at hm
 rcases hm with rfl | rfl
 ·exact (show Tryz.prog.wantsStandIn 27=false by kernel_rfl)
 ·exact (show Tryz.prog.wantsStandIn 9=false by kernel_rfl)
theorem termRenames_card:Rows.TermRenamesCardSaid:=
 Claim7.holds_tied_plain_at .later [] _ _ _ _ rmc_said (fun _ h=>by cases h) (by kernel_rfl) (fun _ h=>by cases h) termRenames_row_tie rfl ⟨rfl,rfl⟩ (by kernel_rfl) rfl rmc_plain (by kernel_rfl)
#print axioms termRenames_card
end Go.Proofs.YtdmebjbkccjhbaaGreatDoor
