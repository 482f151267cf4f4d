/- TermJoins, the tied card: for every list of terms the law returns true, and its arguments read as they did. No further condition. -/
import Derived.Test.YtfhedienjnfdcaaGreatDoorS0
import Derived.Test.YtfhedienjnfdcaaGreatDoorS1
import Derived.Test.YtfhedienjnfdcaaGreatDoorS2
import Derived.Test.YtfhedienjnfdcaaGreatDoorS3
import Derived.Test.YtfhedienjnfdcaaGreatDoorS4
import Derived.Test.YtfhedienjnfdcaaGreatDoorS5
import Derived.Test.YtfhedienjnfdcaaGreatDoorS6
import Derived.Test.YtfhedienjnfdcaaGreatDoorS7
import Derived.Test.YtfhedienjnfdcaaGreatDoorS8
import Derived.Test.YtfhedienjnfdcaaGreatDoorS10
import Derived.Test.YtfhedienjnfdcaaGreatDoorS11
import Derived.Test.YtfhedienjnfdcaaGreatDoorS12
import Derived.Test.YtfhedienjnfdcaaGreatDoorS15
import Derived.Test.YtfhedienjnfdcaaGreatDoorS16
import Derived.Test.YtfhedienjnfdcaaGreatDoorS17
import Derived.Test.YtfhedienjnfdcaaGreatDoorS18
import Derived.Test.YtfhedienjnfdcaaGreatDoorJ1
set_option linter.unusedVariables false
set_option linter.unusedSimpArgs false
namespace Go.Proofs.YtfhedienjnfdcaaGreatDoor
open Go.ChangeShapes Go.WideShapes Go.ChangeAt Go.RowKit
set_option maxRecDepth 100000 in
theorem jn_contract (H : Type) (enc : TypeId × Value → H) (W : World) (base : Nat) (args : Array Value) (ds gs : List (DataW H)) (before : List MemPlace)
    (hval : ∀ (j : Nat) t v, Tryz.f3.params[j]? = some t → args[j]? = some v → Value.okWide Tryz.prog W .any base t v)
    (hW : DataW.Whole enc Tryz.prog Tryz.f3.params.toList Rows.termJoinsSpec.vars false W args.toList ds gs before)
    (hwt : (DataW.weightsEach Tryz.prog (Tryz.f3.params.toList ++ (OpenSpec.ofChange Rows.termJoinsSpec).bare.plain.varTypes Tryz.prog) (ds ++ gs)).all (· ≤ reachBytes) = true) (hL : laidMetH Tryz.prog Rows.termJoinsRow.laid W) :
    Calls Tryz.prog 3 args W fun e W' => ∃ v, e = .returned v ∧ Rows.termJoinsSpec.post enc Tryz.prog Tryz.f3 false true false false W args v W' := by
  have hW' := hW
  obtain ⟨p, q, hT0, hV, rfl, hfz, hnd⟩ := hW
  have hT : DataW.TrodAll enc Tryz.prog W 0 (fun _ => true) true Tryz.f3.params.toList args.toList ds p := hT0
  rw [Tryz.params3] at hT hval hwt
  obtain ⟨v0, d0, rfl, rfl, h0⟩ := trodAll_one hT
  obtain ⟨rfl, rfl⟩ := trodVars_none hV
  obtain ⟨l0, a0, n0, c0, rfl, hM0, hs0, hn0⟩ := arg_tms (hval 0 22 v0 rfl rfl) h0
  clear hT0
  refine (jn_any (gl_of_laid hL) hM0 hs0 hn0).mono fun e W' hE => ?_
  obtain ⟨rfl, hk⟩ := hE
  have e1 : Rows.termJoinsSpec.fn H ([d0] ++ []) = { results := [.lit (.bool true)], args := [d0] } := by simp [Rows.termJoinsSpec]
  have hlt : ∀ x ∈ p, x.block < W.heap.size := fun x hx => by simpa using hW'.lt x (by simpa using hx)
  refine ⟨_, rfl, _, _, _, [], p, [], hW', ?_, ?_, ?_, keptBut_of_kept hk _, fun h => by cases h⟩
  · rw [e1]; exact trodAll_mk1 (shut_bool Tryz.underlying4 true)
  · rw [e1]; exact trodAll_mk1 (back_tms h0 hk (fun x hx => hlt x hx))
  · rw [e1]; rfl
set_option maxRecDepth 100000 in
theorem jn_laid (os : Os) : laidMet Tryz.prog Rows.termJoinsRow.laid ((laidWorld os).forCall (fun _ _ => 0) ⟨#[], #[.slice none 0 0], []⟩).memory :=
  laidMet_of_run3 8 (by kernel_rfl) (by kernel_rfl) (by kernel_rfl)
theorem jn_reads (os : Os) {H : Type} (enc : TypeId × Value → H) : ∃ places, DataW.whole enc Tryz.prog ((laidWorld os).forCall (fun _ _ => 0) ⟨#[], #[.slice none 0 0], []⟩).memory Tryz.f3.params.toList Rows.termJoinsSpec.vars false (#[.slice none 0 0] : Array Value).toList 8 = some ([.nil], [], places) :=
  ⟨[], by kernel_rfl⟩
set_option maxRecDepth 100000 in
theorem jn_lifted (os : Os) (started : os.Started) (H : Type) (enc : TypeId × Value → H) (F : Stop.Interp) :
    ReturnsInHanded {} Tryz.checked os 3 .any ((OpenSpec.ofChange Rows.termJoinsSpec).preRow enc Tryz.prog Tryz.f3 Rows.termJoinsRow.domain false Rows.termJoinsRow.laid) (((OpenSpec.ofChange Rows.termJoinsSpec).at F).post enc Tryz.prog Tryz.f3 false true false false) := by
  obtain ⟨places, hx⟩ := jn_reads os enc
  refine returnsInHanded_of_row (C := Tryz.checked) (s := OpenSpec.ofChange Rows.termJoinsSpec) own0 started (by kernel_rfl) Tryz.func3
    (witness_row_at (enc := enc) (C := Tryz.checked) false (laidWorld os) #[.slice none 0 0] rfl (by kernel_rfl) (by kernel_rfl) (by kernel_rfl)
      (OpenSpec.preRow_of_cond 8 hx (by kernel_rfl) (fun k hk => by cases hk) (by kernel_rfl) (jn_laid os))) ?_
  intro W base args ds gs before hval hW _ _ hwt hL _ _
  exact jn_contract H enc W base args ds gs before hval hW hwt hL
theorem jn_f1 : (Rows.termJoinsRow.inPlace == Tryz.prog.inPlace 3) = true := by kernel_rfl
theorem jn_f2 : (Rows.termJoinsRow.unfollowed == Tryz.prog.unfollowed 3) = true := by kernel_rfl
theorem jn_f3 : (Rows.termJoinsRow.recurses == Tryz.prog.recurses 3) = true := by kernel_rfl
theorem jn_f4 : (Rows.termJoinsRow.named == Tryz.prog.varsNamed 3) = true := by kernel_rfl
theorem jn_named : Tryz.prog.funcNamed "refinement/refinementlaw01.TermJoins" = some 3 := by kernel_rfl
theorem jn_facts : joinedFacts Tryz.prog 3 Tryz.f3 (OpenSpec.ofChange Rows.termJoinsSpec).bare Rows.termJoinsRow = true := by
  unfold joinedFacts
  rw [jn_f1, jn_f2, jn_f3, jn_f4, laidOut0]
  kernel_rfl
theorem jn_said : Rows.TermJoinsSaid :=
  OpenClaim.holds_of_cond 3 Tryz.f3 rfl rfl rfl rfl rfl rfl rfl ⟨rfl, rfl, rfl, rfl, rfl⟩ rfl rfl rfl rfl rfl jn_named Tryz.func3 jn_facts
    (of_decide_eq_true (by kernel_rfl)) (by unfold Func.isWrapper; first | (rw [if_pos (by decide +kernel)]; kernel_rfl) | (rw [if_neg (by decide +kernel)]; exact ⟨rfl, rfl⟩))
    (fun os started H enc _ F => by rw [OpenClaim.pre_eq_preRow]; exact jn_lifted os started H enc F)
theorem jn_plain (f : FuncId) (fn : Func) (hf : Tryz.pinned.checked.prog.funcNamed "refinement/refinementlaw01.TermJoins" = some f) (hfn : Tryz.pinned.checked.prog.funcs[f]? = some fn) :
    true = Tryz.pinned.checked.prog.looks [] ∧ ∀ (j : Nat) t, fn.params[j]? = some t → Tryz.pinned.checked.prog.wantsStandIn t = false := by
  obtain rfl : f = 3 := Option.some.inj (jn_named.symm.trans hf) |>.symm
  obtain rfl : fn = Tryz.f3 := (Option.some.inj (Tryz.func3.symm.trans hfn)).symm
  refine ⟨by kernel_rfl, fun j t ht => ?_⟩
  rw [Tryz.params3] at ht
  have hm := Array.mem_of_getElem? ht
  obtain rfl : t = 22 := by simpa using hm
  exact (show Tryz.prog.wantsStandIn 22 = false by kernel_rfl)
theorem termJoins_card : Rows.TermJoinsCardSaid :=
  Claim7.holds_tied_plain_at .later [] _ _ _ _ jn_said (fun _ h => by cases h) (by kernel_rfl) (fun _ h => by cases h) termJoins_row_tie rfl ⟨rfl, rfl⟩ (by kernel_rfl) rfl jn_plain (by kernel_rfl)
#print axioms termJoins_card
end Go.Proofs.YtfhedienjnfdcaaGreatDoor
