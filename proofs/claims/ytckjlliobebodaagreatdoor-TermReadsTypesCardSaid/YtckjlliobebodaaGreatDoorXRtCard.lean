/- TermReadsTypes, the tied card: for every string the law returns true, and its argument reads as it did. No further condition. -/
import Derived.Test.YtckjlliobebodaaGreatDoorBa10
import Derived.Test.YtckjlliobebodaaGreatDoorBa12
set_option linter.unusedVariables false
set_option linter.unusedSimpArgs false
namespace Go.Proofs.YtckjlliobebodaaGreatDoor
open Go.ChangeShapes Go.WideShapes Go.ChangeAt Go.RowKit
theorem pt_bd (f : Nat) (s : ByteArray) : BdTy (ptT f s) := by
  have h0 : BdTy ty0 := .mk (Nat.zero_le _) (fun t h => by cases h)
  unfold ptT
  split
  · exact h0
  · split
    · exact h0
    · split
      · rename_i h; exact validTy_bd h
      · exact h0
set_option maxRecDepth 100000 in
set_option maxHeartbeats 8000000 in
theorem rt_any (s : ByteArray) (w : World) (hgl : Gl w) (hs : s.size ≤ 140737488355328) : Calls Tryz.prog 4 #[.string s] w (EsOk w) := by
  have HP := Lib.hid (parseTy_any (f := s.size + 3) (s := s) (w := w) (by omega) (by omega) hgl)
  have HR := Lib.hid (fun W => rparseTy_any (f := s.size + 3) (s := s) (w := W) (by omega) (by omega))
  have HGL := Lib.hid hgl
  have HS := Lib.hid (sameTy_any (pt_bd (s.size + 3) s))
  clear hgl
  unfold PtP at HP HR
  generalize ptT (s.size + 3) s = t at *
  generalize ptE (s.size + 3) s = e1 at *
  generalize ptA (s.size + 3) s = a1 at *
  go_enter Tryz.func4, Tryz.ntmps4
  go_wp2_with fail
  refine HP.out.mono ?_
  rintro e w1 ⟨tv, rfl, ⟨tk, rfl, hty⟩, k1⟩
  obtain ⟨ta, tn, tc, rfl⟩ := hty.slice
  unfold tyVal
  have b1 : Blk (w1.alloc (.cells #[.int .i64 t.kind, .string t.name, .slice ta tn tc] 24)) w1.heap.size 24 [.int .i64 t.kind, .string t.name, .slice ta tn tc] := Blk.new w1 24 _
  have k2 := k1.alloc (.cells #[.int .i64 t.kind, .string t.name, .slice ta tn tc] 24)
  have h2 := hty.frame (Same.alloc _ (.cells #[.int .i64 t.kind, .string t.name, .slice ta tn tc] 24))
  go_wp2_with fail
  generalize w1.alloc (.cells #[.int .i64 t.kind, .string t.name, .slice ta tn tc] 24) = w2 at *
  refine (HR.out _).mono ?_
  rintro e w3 ⟨tv, rfl, ⟨tk, rfl, hty3⟩, k3⟩
  obtain ⟨ua, un, uc, rfl⟩ := hty3.slice
  unfold tyVal
  have b3 := (b1.kept k3 (fun h => h)).alloc (.cells #[.int .i64 t.kind, .string t.name, .slice ua un uc] 24)
  have c3 : Blk (w3.alloc (.cells #[.int .i64 t.kind, .string t.name, .slice ua un uc] 24)) w3.heap.size 24 [.int .i64 t.kind, .string t.name, .slice ua un uc] := Blk.new w3 24 _
  have K4 := (k2.trans k3).alloc (.cells #[.int .i64 t.kind, .string t.name, .slice ua un uc] 24)
  have h4 := (h2.frame (Same.of_kept k3 (fun k h e => e))).frame (Same.alloc _ (.cells #[.int .i64 t.kind, .string t.name, .slice ua un uc] 24))
  have u4 := hty3.frame (Same.alloc _ (.cells #[.int .i64 t.kind, .string t.name, .slice ua un uc] 24))
  have HSC := Lib.hid (HS.out _ _ _ _ _ h4 u4)
  unfold tyVal at HSC
  have q0 : w3.cell? ⟨w1.heap.size, 0, none⟩ = some (.int .i64 t.kind) := (b1.kept k3 (fun h => h)).cell 0
  have q1 : w3.cell? ⟨w1.heap.size, 1, none⟩ = some (.string t.name) := (b1.kept k3 (fun h => h)).cell 1
  have q2 : w3.cell? ⟨w1.heap.size, 2, none⟩ = some (.slice ta tn tc) := (b1.kept k3 (fun h => h)).cell 2
  have l3 := (b1.kept k3 (fun h => h)).lt
  clear hty hty3 h2 h4 u4
  go_wp2_with (go_at_call 17; refine HSC.out.mono ?_; rintro e w5 ⟨rfl, k5⟩)
  have K5 := K4.trans k5
  refine (awake_any _ (HGL.out.kept K5 (fun h => h) (fun h => h))).mono ?_
  rintro e w6 ⟨rfl, k6⟩
  go_wp2_with fail
  go_ret
  exact ⟨rfl, K5.trans k6⟩
set_option maxRecDepth 100000 in
theorem rt_contract (H : Type) (enc : TypeId × Value → H) (W : World) (base : Nat) (args : Array Value) (ds gs : List (DataW H)) (before : List MemPlace)
    (hval : ∀ (j : Nat) t v, Tryz.f4.params[j]? = some t → args[j]? = some v → Value.okWide Tryz.prog W .any base t v)
    (hW : DataW.Whole enc Tryz.prog Tryz.f4.params.toList Rows.termReadsTypesSpec.vars false W args.toList ds gs before)
    (hwt : (DataW.weightsEach Tryz.prog (Tryz.f4.params.toList ++ (OpenSpec.ofChange Rows.termReadsTypesSpec).bare.plain.varTypes Tryz.prog) (ds ++ gs)).all (· ≤ reachBytes) = true) (hL : laidMetH Tryz.prog Rows.termReadsTypesRow.laid W) :
    Calls Tryz.prog 4 args W fun e W' => ∃ v, e = .returned v ∧ Rows.termReadsTypesSpec.post enc Tryz.prog Tryz.f4 false true false false W args v W' := by
  have hW' := hW
  obtain ⟨p, q, hA0, hV, rfl, hfz, hnd⟩ := hW
  have hA : DataW.TrodAll enc Tryz.prog W 0 (fun _ => true) true Tryz.f4.params.toList args.toList ds p := hA0
  rw [Tryz.params4] at hA hval hwt
  obtain ⟨v0, d0, rfl, rfl, h0⟩ := trodAll_one hA
  obtain ⟨rfl, rfl⟩ := trodVars_none hV
  obtain ⟨s, rfl, rfl, rfl, hs⟩ := ChangeMaps.open_string Tryz.underlying9 (hval 0 9 v0 rfl rfl) h0
  clear hA0
  have hz : s.size ≤ 140737488351232 := by
    simp only [List.append_nil, DataW.weightsEach, DataW.weights, List.all_cons, List.all_nil, Bool.and_true, Bool.and_eq_true, decide_eq_true_eq, List.cons_append, List.nil_append, ba_len, reachBytes] at hwt
    first | exact of_decide_eq_true hwt | exact of_decide_eq_true hwt.1 | exact hwt
  refine (rt_any s W (gl_of_laid hL) (by omega)).mono fun e W' hE => ?_
  obtain ⟨rfl, hk⟩ := hE
  have e1 : Rows.termReadsTypesSpec.fn H ([.lit (.string s.data.toList)] ++ []) = { results := [.lit (.bool true)], args := [.lit (.string s.data.toList)] } := by simp [Rows.termReadsTypesSpec]
  refine ⟨_, rfl, _, _, _, [], [], [], hW', ?_, ?_, ?_, keptBut_of_kept hk _, fun h => by cases h⟩
  · rw [e1]; exact trodAll_mk1 (shut_bool Tryz.underlying4 true)
  · rw [e1]; exact trodAll_mk1 (ChangeMaps.shut_string Tryz.underlying9 hs)
  · rw [e1]; rfl
set_option maxRecDepth 100000 in
theorem rt_laid (os : Os) : laidMet Tryz.prog Rows.termReadsTypesRow.laid ((laidWorld os).forCall (fun _ _ => 0) ⟨#[], #[.string ⟨#[]⟩], []⟩).memory :=
  laidMet_of_run3 8 (by kernel_rfl) (by kernel_rfl) (by kernel_rfl)
theorem rt_reads (os : Os) {H : Type} (enc : TypeId × Value → H) : ∃ places, DataW.whole enc Tryz.prog ((laidWorld os).forCall (fun _ _ => 0) ⟨#[], #[.string ⟨#[]⟩], []⟩).memory Tryz.f4.params.toList Rows.termReadsTypesSpec.vars false #[Value.string ⟨#[]⟩].toList 8 = some ([.lit (.string [])], [], places) :=
  ⟨[], by kernel_rfl⟩
set_option maxRecDepth 100000 in
theorem rt_lifted (os : Os) (started : os.Started) (H : Type) (enc : TypeId × Value → H) (F : Stop.Interp) :
    ReturnsInHanded {} Tryz.checked os 4 .any ((OpenSpec.ofChange Rows.termReadsTypesSpec).preRow enc Tryz.prog Tryz.f4 Rows.termReadsTypesRow.domain false Rows.termReadsTypesRow.laid) (((OpenSpec.ofChange Rows.termReadsTypesSpec).at F).post enc Tryz.prog Tryz.f4 false true false false) := by
  obtain ⟨places, hx⟩ := rt_reads os enc
  refine returnsInHanded_of_row (C := Tryz.checked) (s := OpenSpec.ofChange Rows.termReadsTypesSpec) own0 started (by kernel_rfl) Tryz.func4
    (witness_row_at (enc := enc) (C := Tryz.checked) false (laidWorld os) #[.string ⟨#[]⟩] rfl (by kernel_rfl) (by kernel_rfl) (by kernel_rfl)
      (OpenSpec.preRow_of_cond 8 hx (by kernel_rfl) (fun k hk => by cases hk) (by kernel_rfl) (rt_laid os))) ?_
  intro W base args ds gs before hval hW _ _ hwt hL _ _
  exact rt_contract H enc W base args ds gs before hval hW hwt hL
theorem rt_said : Rows.TermReadsTypesSaid :=
  OpenClaim.holds_of_cond 4 Tryz.f4 rfl rfl rfl rfl rfl rfl rfl ⟨rfl, rfl, rfl, rfl, rfl⟩ rfl rfl rfl rfl rfl (by kernel_rfl) Tryz.func4 (by kernel_rfl)
    (of_decide_eq_true (by kernel_rfl)) (by unfold Func.isWrapper; first | (rw [if_pos (by decide +kernel)]; kernel_rfl) | (rw [if_neg (by decide +kernel)]; exact ⟨rfl, rfl⟩))
    (fun os started H enc _ F => by rw [OpenClaim.pre_eq_preRow]; exact rt_lifted os started H enc F)
theorem rt_plain (f : FuncId) (fn : Func) (hf : Tryz.pinned.checked.prog.funcNamed "refinement/refinementlaw01.TermReadsTypes" = some f) (hfn : Tryz.pinned.checked.prog.funcs[f]? = some fn) :
    true = Tryz.pinned.checked.prog.looks [] ∧ ∀ (j : Nat) t, fn.params[j]? = some t → Tryz.pinned.checked.prog.wantsStandIn t = false := by
  obtain rfl : f = 4 := Option.some.inj ((show Tryz.prog.funcNamed "refinement/refinementlaw01.TermReadsTypes" = some 4 by kernel_rfl).symm.trans hf) |>.symm
  obtain rfl : fn = Tryz.f4 := (Option.some.inj (Tryz.func4.symm.trans hfn)).symm
  refine ⟨by kernel_rfl, fun j t ht => ?_⟩
  rw [Tryz.params4] at ht
  obtain rfl : t = 9 := by
    have := Array.mem_of_getElem? ht
    simpa using this
  exact (show Tryz.prog.wantsStandIn 9 = false by kernel_rfl)
theorem termReadsTypes_card : Rows.TermReadsTypesCardSaid :=
  Claim7.holds_tied_plain_at .later [] _ _ _ _ rt_said (fun _ h => by cases h) (by kernel_rfl) (fun _ h => by cases h) termReadsTypes_row_tie rfl ⟨rfl, rfl⟩ (by kernel_rfl) rfl rt_plain (by kernel_rfl)
#print axioms termReadsTypes_card
end Go.Proofs.YtckjlliobebodaaGreatDoor
