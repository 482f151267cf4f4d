/- TermOwn, the tied card: for every term and every term and every list of integers the law returns true, and its arguments read as they did. No further condition. -/
import Derived.Test.YtdmebjbkccjhbaaGreatDoorU22
import Derived.Test.YtdmebjbkccjhbaaGreatDoorF0
set_option linter.unusedVariables false
set_option linter.unusedSimpArgs false
set_option maxRecDepth 100000
set_option maxHeartbeats 32000000
namespace Go.Proofs.YtdmebjbkccjhbaaGreatDoor
open Go.ChangeShapes Go.WideShapes Go.ChangeAt Go.RowKit
theorem owc_contract (H:Type) (enc:TypeId×Value→H) (W:World) (base:Nat) (args:Array Value) (ds gs:List (DataW H)) (before:List MemPlace)
  (hval:∀ (j:Nat) t v,Tryz.f8.params[j]?=some t→args[j]?=some v→Value.okWide Tryz.prog W .any base t v)
  (hW:DataW.Whole enc Tryz.prog Tryz.f8.params.toList Rows.termOwnSpec.vars false W args.toList ds gs before)
  (hwt:(DataW.weightsEach Tryz.prog (Tryz.f8.params.toList++(OpenSpec.ofChange Rows.termOwnSpec).bare.plain.varTypes Tryz.prog) (ds++gs)).all (·≤reachBytes)=true) (hL:laidMetH Tryz.prog Rows.termOwnRow.laid W):
  Calls Tryz.prog 8 args W fun e W'=>∃ v,e=.returned v∧Rows.termOwnSpec.post enc Tryz.prog Tryz.f8 false true false false W args v W':=by
 have hW':=hW
 obtain⟨p,q,hT0,hV,rfl,hfz,hnd⟩:=hW
 have hT:DataW.TrodAll enc Tryz.prog W 0 (fun _=>true) true Tryz.f8.params.toList args.toList ds p:=hT0
 rw[Tryz.params8] at hT hval hwt
 obtain⟨v0,v1,v2,d0,d1,d2,p0,p1,p2,rfl,rfl,rfl,h0,h1,h2⟩:=trodAll_three hT
 obtain⟨rfl,rfl⟩:=trodVars_none hV
 obtain⟨t0,tk0,kk0,rfl,hA0,hM0,hs0,hb0⟩:=arg_tmG h0 (fun n hn=>by simpa using List.all_eq_true.1 hwt n (DataW.weights_mem_each (j:=0) rfl rfl n hn))
 obtain⟨t1,tk1,kk1,rfl,hA1,hM1,hs1,hb1⟩:=arg_tmG h1 (fun n hn=>by simpa using List.all_eq_true.1 hwt n (DataW.weights_mem_each (j:=1) rfl rfl n hn))
 obtain⟨l2,a2,n2,c2,rfl,hI2,hn2⟩:=arg_ints (hval 2 52 v2 rfl rfl) h2
 clear hT0
 refine (ow_any (gl_of_laid hL) (p10_of_laid hL) hA0 hM0 hs0 hb0 hA1 hM1 hs1 hb1 hI2 hn2).mono fun e W' hE=>?_
 obtain⟨rfl,hk⟩:=hE
 have e1:Rows.termOwnSpec.fn H ([d0,d1,d2]++[])={ results:=[.lit (.bool true)],args:=[d0,d1,d2] }:=by simp[Rows.termOwnSpec]
 have hlt:∀ x∈p0++(p1++p2),x.block<W.heap.size:=fun x hx=>by simpa using hW'.lt x (by simpa using hx)
 refine⟨_,rfl,_,_,_,[],p0++(p1++p2),[],hW',?_,?_,?_,keptBut_of_kept hk _,fun h=>by cases h⟩
 ·rw[e1];exact trodAll_mk1 (shut_bool Tryz.underlying4 true)
 ·rw[e1];exact trodAll_mk3 (back_tm h0 hk (fun x hx=>hlt x (List.mem_append_left _ hx))) (back_tm h1 hk (fun x hx=>hlt x (List.mem_append_right _ (List.mem_append_left _ hx)))) (back_ints h2 hk (fun x hx=>hlt x (List.mem_append_right _ (List.mem_append_right _ hx))))
 ·rw[e1];rfl
theorem owc_laid (os:Os):laidMet Tryz.prog Rows.termOwnRow.laid ((laidWorld os).forCall (fun _ _=>0) ⟨#[],#[.agg #[.int .i64 0,.string ⟨#[]⟩,.int .i64 0,.int .i64 0,.string ⟨#[]⟩,.slice none 0 0,.slice none 0 0],.agg #[.int .i64 0,.string ⟨#[]⟩,.int .i64 0,.int .i64 0,.string ⟨#[]⟩,.slice none 0 0,.slice none 0 0],.slice none 0 0],[]⟩).memory:=
 laidMet_of_run3 8 (by kernel_rfl) (by kernel_rfl) (by kernel_rfl)
theorem owc_reads (os:Os) {H:Type} (enc:TypeId×Value→H):∃ places,DataW.whole enc Tryz.prog ((laidWorld os).forCall (fun _ _=>0) ⟨#[],#[.agg #[.int .i64 0,.string ⟨#[]⟩,.int .i64 0,.int .i64 0,.string ⟨#[]⟩,.slice none 0 0,.slice none 0 0],.agg #[.int .i64 0,.string ⟨#[]⟩,.int .i64 0,.int .i64 0,.string ⟨#[]⟩,.slice none 0 0,.slice none 0 0],.slice none 0 0],[]⟩).memory Tryz.f8.params.toList Rows.termOwnSpec.vars false (#[.agg #[.int .i64 0,.string ⟨#[]⟩,.int .i64 0,.int .i64 0,.string ⟨#[]⟩,.slice none 0 0,.slice none 0 0],.agg #[.int .i64 0,.string ⟨#[]⟩,.int .i64 0,.int .i64 0,.string ⟨#[]⟩,.slice none 0 0,.slice none 0 0],.slice none 0 0]:Array Value).toList 8=some ([.agg [.lit (.int .i64 0),.lit (.string []),.lit (.int .i64 0),.agg [.lit (.int .i64 0),.lit (.string []),.nil],.nil],.agg [.lit (.int .i64 0),.lit (.string []),.lit (.int .i64 0),.agg [.lit (.int .i64 0),.lit (.string []),.nil],.nil],.nil],[],places):=
 ⟨[],by kernel_rfl⟩
theorem owc_lifted (os:Os) (started:os.Started) (H:Type) (enc:TypeId×Value→H) (F:Stop.Interp):
  ReturnsInHanded {} Tryz.checked os 8 .any ((OpenSpec.ofChange Rows.termOwnSpec).preRow enc Tryz.prog Tryz.f8 Rows.termOwnRow.domain false Rows.termOwnRow.laid) (((OpenSpec.ofChange Rows.termOwnSpec).at F).post enc Tryz.prog Tryz.f8 false true false false):=by
 obtain⟨places,hx⟩:=owc_reads os enc
 refine returnsInHanded_of_row (C:=Tryz.checked) (s:=OpenSpec.ofChange Rows.termOwnSpec) own0 started (by kernel_rfl) Tryz.func8
  (witness_row_at (enc:=enc) (C:=Tryz.checked) false (laidWorld os) #[.agg #[.int .i64 0,.string ⟨#[]⟩,.int .i64 0,.int .i64 0,.string ⟨#[]⟩,.slice none 0 0,.slice none 0 0],.agg #[.int .i64 0,.string ⟨#[]⟩,.int .i64 0,.int .i64 0,.string ⟨#[]⟩,.slice none 0 0,.slice none 0 0],.slice none 0 0] rfl (by kernel_rfl) (by kernel_rfl) (by kernel_rfl)
   (OpenSpec.preRow_of_cond 8 hx (by kernel_rfl) (fun k hk=>by cases hk) (by kernel_rfl) (owc_laid os))) ?_
 intro W base args ds gs before hval hW _ _ hwt hL _ _
 exact owc_contract H enc W base args ds gs before hval hW hwt hL
theorem owc_f1:(Rows.termOwnRow.inPlace==Tryz.prog.inPlace 8)=true:=by kernel_rfl
theorem owc_f2:(Rows.termOwnRow.unfollowed==Tryz.prog.unfollowed 8)=true:=by kernel_rfl
theorem owc_f3:(Rows.termOwnRow.recurses==Tryz.prog.recurses 8)=true:=by kernel_rfl
theorem owc_f4:(Rows.termOwnRow.named==Tryz.prog.varsNamed 8)=true:=by kernel_rfl
theorem owc_named : Tryz.prog.funcNamed "refinement/refinementlaw01.TermOwn" = some 8 := by kernel_rfl
theorem owc_facts:joinedFacts Tryz.prog 8 Tryz.f8 (OpenSpec.ofChange Rows.termOwnSpec).bare Rows.termOwnRow=true:=by
 unfold joinedFacts
 rw[owc_f1,owc_f2,owc_f3,owc_f4,laidOut0]
 kernel_rfl
theorem owc_said:Rows.TermOwnSaid:=
 OpenClaim.holds_of_cond 8 Tryz.f8 rfl rfl rfl rfl rfl rfl rfl ⟨rfl,rfl,rfl,rfl,rfl⟩ rfl rfl rfl rfl rfl owc_named Tryz.func8 owc_facts
  (of_decide_eq_true (by kernel_rfl)) (by unfold Func.isWrapper;first | (rw[if_pos (by decide +kernel)];kernel_rfl) | (rw[if_neg (by decide +kernel)];exact⟨rfl,rfl⟩))
  (fun os started H enc _ F=>by rw[OpenClaim.pre_eq_preRow];exact owc_lifted os started H enc F)
theorem owc_plain (f : FuncId) (fn : Func) (hf : Tryz.pinned.checked.prog.funcNamed "refinement/refinementlaw01.TermOwn" = some f) (hfn : Tryz.pinned.checked.prog.funcs[f]? = some fn) :
  true=Tryz.pinned.checked.prog.looks []∧∀ (j:Nat) t,fn.params[j]?=some t→Tryz.pinned.checked.prog.wantsStandIn t=false:=by
 obtain rfl:f=8:=Option.some.inj (owc_named.symm.trans hf) |>.symm
 obtain rfl:fn=Tryz.f8:=(Option.some.inj (Tryz.func8.symm.trans hfn)).symm
 refine⟨by kernel_rfl,fun j t ht=>?_⟩
 rw[Tryz.params8] at ht
 have hm:=Array.mem_of_getElem? ht
 simp at hm
 rcases hm with rfl | rfl
 ·exact (show Tryz.prog.wantsStandIn 27=false by kernel_rfl)
 ·exact (show Tryz.prog.wantsStandIn 52=false by kernel_rfl)
theorem termOwn_card:Rows.TermOwnCardSaid:=
 Claim7.holds_tied_plain_at .later [] _ _ _ _ owc_said (fun _ h=>by cases h) (by kernel_rfl) (fun _ h=>by cases h) termOwn_row_tie rfl ⟨rfl,rfl⟩ (by kernel_rfl) rfl owc_plain (by kernel_rfl)
#print axioms termOwn_card
end Go.Proofs.YtdmebjbkccjhbaaGreatDoor
