/- TermAgain, the tied card: for every string the law returns true, and its argument reads as it did. No further condition. -/
import Derived.Test.YtckjlliobebodaaGreatDoorBe0

set_option linter.unusedVariables false
set_option linter.unusedSimpArgs false
namespace Go.Proofs.YtckjlliobebodaaGreatDoor
open Go.ChangeShapes Go.WideShapes Go.ChangeAt Go.RowKit
set_option maxRecDepth 100000 in
theorem ag_contract (H : Type) (enc : TypeId × Value → H) (W : World) (base : Nat) (args : Array Value) (ds gs : List (DataW H)) (before : List MemPlace)
    (hval : ∀ (j : Nat) t v, Tryz.f7.params[j]? = some t → args[j]? = some v → Value.okWide Tryz.prog W .any base t v)
    (hW : DataW.Whole enc Tryz.prog Tryz.f7.params.toList Rows.termAgainSpec.vars false W args.toList ds gs before)
    (hwt : (DataW.weightsEach Tryz.prog (Tryz.f7.params.toList ++ (OpenSpec.ofChange Rows.termAgainSpec).bare.plain.varTypes Tryz.prog) (ds ++ gs)).all (· ≤ reachBytes) = true) (hL : laidMetH Tryz.prog Rows.termAgainRow.laid W) :
    Calls Tryz.prog 7 args W fun e W' => ∃ v, e = .returned v ∧ Rows.termAgainSpec.post enc Tryz.prog Tryz.f7 false true false false W args v W' := by
  have hW' := hW
  obtain ⟨p, q, hT0, hV, rfl, hfz, hnd⟩ := hW
  have hT : DataW.TrodAll enc Tryz.prog W 0 (fun _ => true) true Tryz.f7.params.toList args.toList ds p := hT0
  rw [Tryz.params7] at hT hval hwt
  obtain ⟨v0, d0, rfl, rfl, h0⟩ := trodAll_one hT
  obtain ⟨rfl, rfl⟩ := trodVars_none hV
  obtain ⟨s0, rfl, rfl, rfl, hs0⟩ := ChangeMaps.open_string Tryz.underlying9 (hval 0 9 v0 rfl rfl) h0
  clear hT0
  have hz : s0.size ≤ 140737488351232 := by
    simp only [List.append_nil, DataW.weightsEach, DataW.weights, List.all_cons, List.all_nil, Bool.and_true, Bool.and_eq_true, decide_eq_true_eq, List.cons_append, List.nil_append, ba_len, reachBytes] at hwt
    first | exact of_decide_eq_true hwt | exact of_decide_eq_true hwt.1 | exact hwt
  refine (ag_any s0 W (gl_of_laid hL) (p10_of_laid hL) (by omega)).mono fun e W' hE => ?_
  obtain ⟨rfl, hk⟩ := hE
  have e1 : Rows.termAgainSpec.fn H ([.lit (.string s0.data.toList)] ++ []) = { results := [.lit (.bool true)], args := [.lit (.string s0.data.toList)] } := by simp [Rows.termAgainSpec]
  refine ⟨_, rfl, _, _, _, [], [], [], hW', ?_, ?_, ?_, keptBut_of_kept hk _, fun h => by cases h⟩
  · rw [e1]; exact trodAll_mk1 (shut_bool Tryz.underlying4 true)
  · rw [e1]; exact trodAll_mk1 (ChangeMaps.shut_string Tryz.underlying9 hs0)
  · rw [e1]; rfl
set_option maxRecDepth 100000 in
theorem ag_laid (os : Os) : laidMet Tryz.prog Rows.termAgainRow.laid ((laidWorld os).forCall (fun _ _ => 0) ⟨#[], #[.string ⟨#[]⟩], []⟩).memory :=
  laidMet_of_run3 8 (by kernel_rfl) (by kernel_rfl) (by kernel_rfl)
theorem ag_reads (os : Os) {H : Type} (enc : TypeId × Value → H) : ∃ places, DataW.whole enc Tryz.prog ((laidWorld os).forCall (fun _ _ => 0) ⟨#[], #[.string ⟨#[]⟩], []⟩).memory Tryz.f7.params.toList Rows.termAgainSpec.vars false (#[.string ⟨#[]⟩] : Array Value).toList 8 = some ([.lit (.string [])], [], places) :=
  ⟨[], by kernel_rfl⟩
set_option maxRecDepth 100000 in
theorem ag_lifted (os : Os) (started : os.Started) (H : Type) (enc : TypeId × Value → H) (F : Stop.Interp) :
    ReturnsInHanded {} Tryz.checked os 7 .any ((OpenSpec.ofChange Rows.termAgainSpec).preRow enc Tryz.prog Tryz.f7 Rows.termAgainRow.domain false Rows.termAgainRow.laid) (((OpenSpec.ofChange Rows.termAgainSpec).at F).post enc Tryz.prog Tryz.f7 false true false false) := by
  obtain ⟨places, hx⟩ := ag_reads os enc
  refine returnsInHanded_of_row (C := Tryz.checked) (s := OpenSpec.ofChange Rows.termAgainSpec) own0 started (by kernel_rfl) Tryz.func7
    (witness_row_at (enc := enc) (C := Tryz.checked) false (laidWorld os) #[.string ⟨#[]⟩] rfl (by kernel_rfl) (by kernel_rfl) (by kernel_rfl)
      (OpenSpec.preRow_of_cond 8 hx (by kernel_rfl) (fun k hk => by cases hk) (by kernel_rfl) (ag_laid os))) ?_
  intro W base args ds gs before hval hW _ _ hwt hL _ _
  exact ag_contract H enc W base args ds gs before hval hW hwt hL
theorem ag_said : Rows.TermAgainSaid :=
  OpenClaim.holds_of_cond 7 Tryz.f7 rfl rfl rfl rfl rfl rfl rfl ⟨rfl, rfl, rfl, rfl, rfl⟩ rfl rfl rfl rfl rfl (by kernel_rfl) Tryz.func7 (by kernel_rfl)
    (of_decide_eq_true (by kernel_rfl)) (by unfold Func.isWrapper; first | (rw [if_pos (by decide +kernel)]; kernel_rfl) | (rw [if_neg (by decide +kernel)]; exact ⟨rfl, rfl⟩))
    (fun os started H enc _ F => by rw [OpenClaim.pre_eq_preRow]; exact ag_lifted os started H enc F)
theorem ag_plain (f : FuncId) (fn : Func) (hf : Tryz.pinned.checked.prog.funcNamed "refinement/refinementlaw01.TermAgain" = some f) (hfn : Tryz.pinned.checked.prog.funcs[f]? = some fn) :
    true = Tryz.pinned.checked.prog.looks [] ∧ ∀ (j : Nat) t, fn.params[j]? = some t → Tryz.pinned.checked.prog.wantsStandIn t = false := by
  obtain rfl : f = 7 := Option.some.inj ((show Tryz.prog.funcNamed "refinement/refinementlaw01.TermAgain" = some 7 by kernel_rfl).symm.trans hf) |>.symm
  obtain rfl : fn = Tryz.f7 := (Option.some.inj (Tryz.func7.symm.trans hfn)).symm
  refine ⟨by kernel_rfl, fun j t ht => ?_⟩
  rw [Tryz.params7] at ht
  have hm := Array.mem_of_getElem? ht
  obtain rfl : t = 9 := by simpa using hm
  exact (show Tryz.prog.wantsStandIn 9 = false by kernel_rfl)
theorem termAgain_card : Rows.TermAgainCardSaid :=
  Claim7.holds_tied_plain_at .later [] _ _ _ _ ag_said (fun _ h => by cases h) (by kernel_rfl) (fun _ h => by cases h) termAgain_row_tie rfl ⟨rfl, rfl⟩ (by kernel_rfl) rfl ag_plain (by kernel_rfl)
#print axioms termAgain_card
end Go.Proofs.YtckjlliobebodaaGreatDoor
