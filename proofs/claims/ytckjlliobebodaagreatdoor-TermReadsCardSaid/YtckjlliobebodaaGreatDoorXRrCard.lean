/- TermReads, the tied card: for every string the law returns true, and its argument reads as it did. No further condition. -/
import Derived.Test.YtckjlliobebodaaGreatDoorBb7
import Derived.Test.YtckjlliobebodaaGreatDoorBb13
set_option linter.unusedVariables false
set_option linter.unusedSimpArgs false
namespace Go.Proofs.YtckjlliobebodaaGreatDoor
open Go.ChangeShapes Go.WideShapes Go.ChangeAt Go.RowKit
theorem parse_bd (f : Nat) (s : ByteArray) : BdTm (parseT f s) := by
  have h0 : BdTm tm0 := .mk (Nat.zero_le _) (.mk (Nat.zero_le _) (fun t h => by cases h)) (fun t h => by cases h)
  unfold parseT
  split
  · exact h0
  · split
    · exact h0
    · split
      · rename_i h; exact valid_bd h
      · exact h0
set_option maxRecDepth 100000 in
set_option maxHeartbeats 8000000 in
theorem rr_any (s : ByteArray) (w : World) (hgl : Gl w) (hs : s.size ≤ 140737488355328) : Calls Tryz.prog 3 #[.string s] w (EsOk w) := by
  have HP := Lib.hid (parse_any (f := 14 * (s.size + 2) + 1) (s := s) (w := w) (by omega) (by omega) hgl)
  have HR := Lib.hid (fun W => rparse_any (f := 14 * (s.size + 2) + 1) (s := s) (w := W) (by omega) (by omega))
  have HGL := Lib.hid hgl
  have HS := Lib.hid (sameTm_any (parse_bd (14 * (s.size + 2) + 1) s))
  clear hgl
  unfold ParseP at HP HR
  generalize parseT (14 * (s.size + 2) + 1) s = t at *
  generalize parseE (14 * (s.size + 2) + 1) s = e1 at *
  generalize parseA (14 * (s.size + 2) + 1) s = a1 at *
  go_enter Tryz.func3, Tryz.ntmps3
  go_wp2_with fail
  refine HP.out.mono ?_
  rintro e w1 ⟨tv, rfl, ⟨tk, kk, rfl, hty, htm⟩, k1⟩
  obtain ⟨ta, tn, tc, rfl⟩ := hty.slice
  obtain ⟨ma, mn, mc, rfl⟩ := htm.slice
  unfold tmVal
  have b1 : Blk (w1.alloc (.cells #[.int .i64 t.op, .string t.name, .int .i64 t.n, .int .i64 t.ty.kind, .string t.ty.name, .slice ta tn tc, .slice ma mn mc] 27)) w1.heap.size 27 [.int .i64 t.op, .string t.name, .int .i64 t.n, .int .i64 t.ty.kind, .string t.ty.name, .slice ta tn tc, .slice ma mn mc] := Blk.new w1 27 _
  have k2 := k1.alloc (.cells #[.int .i64 t.op, .string t.name, .int .i64 t.n, .int .i64 t.ty.kind, .string t.ty.name, .slice ta tn tc, .slice ma mn mc] 27)
  have h2 := hty.frame (Same.alloc _ (.cells #[.int .i64 t.op, .string t.name, .int .i64 t.n, .int .i64 t.ty.kind, .string t.ty.name, .slice ta tn tc, .slice ma mn mc] 27))
  have m2 := htm.frame (Same.alloc _ (.cells #[.int .i64 t.op, .string t.name, .int .i64 t.n, .int .i64 t.ty.kind, .string t.ty.name, .slice ta tn tc, .slice ma mn mc] 27))
  go_wp2_with fail
  generalize w1.alloc (.cells #[.int .i64 t.op, .string t.name, .int .i64 t.n, .int .i64 t.ty.kind, .string t.ty.name, .slice ta tn tc, .slice ma mn mc] 27) = w2 at *
  refine (HR.out _).mono ?_
  rintro e w3 ⟨tv, rfl, ⟨tk, kk, rfl, hty3, htm3⟩, k3⟩
  obtain ⟨ua, un, uc, rfl⟩ := hty3.slice
  obtain ⟨va, vn, vc, rfl⟩ := htm3.slice
  unfold tmVal
  have b3 := (b1.kept k3 (fun h => h)).alloc (.cells #[.int .i64 t.op, .string t.name, .int .i64 t.n, .int .i64 t.ty.kind, .string t.ty.name, .slice ua un uc, .slice va vn vc] 27)
  have c3 : Blk (w3.alloc (.cells #[.int .i64 t.op, .string t.name, .int .i64 t.n, .int .i64 t.ty.kind, .string t.ty.name, .slice ua un uc, .slice va vn vc] 27)) w3.heap.size 27 [.int .i64 t.op, .string t.name, .int .i64 t.n, .int .i64 t.ty.kind, .string t.ty.name, .slice ua un uc, .slice va vn vc] := Blk.new w3 27 _
  have K4 := (k2.trans k3).alloc (.cells #[.int .i64 t.op, .string t.name, .int .i64 t.n, .int .i64 t.ty.kind, .string t.ty.name, .slice ua un uc, .slice va vn vc] 27)
  have h4 := (h2.frame (Same.of_kept k3 (fun k h e => e))).frame (Same.alloc _ (.cells #[.int .i64 t.op, .string t.name, .int .i64 t.n, .int .i64 t.ty.kind, .string t.ty.name, .slice ua un uc, .slice va vn vc] 27))
  have m4 := (m2.frame (Same.of_kept k3 (fun k h e => e))).frame (Same.alloc _ (.cells #[.int .i64 t.op, .string t.name, .int .i64 t.n, .int .i64 t.ty.kind, .string t.ty.name, .slice ua un uc, .slice va vn vc] 27))
  have u4 := hty3.frame (Same.alloc _ (.cells #[.int .i64 t.op, .string t.name, .int .i64 t.n, .int .i64 t.ty.kind, .string t.ty.name, .slice ua un uc, .slice va vn vc] 27))
  have v4 := htm3.frame (Same.alloc _ (.cells #[.int .i64 t.op, .string t.name, .int .i64 t.n, .int .i64 t.ty.kind, .string t.ty.name, .slice ua un uc, .slice va vn vc] 27))
  have HSC := Lib.hid (HS.out _ _ _ _ _ _ _ h4 m4 u4 v4)
  unfold tmVal at HSC
  have gA : ∀ i, w3.cell? ⟨w1.heap.size, i, none⟩ = [Value.int .i64 t.op, .string t.name, .int .i64 t.n, .int .i64 t.ty.kind, .string t.ty.name, .slice ta tn tc, .slice ma mn mc][i]? := (b1.kept k3 (fun h => h)).cell
  have l3 := (b1.kept k3 (fun h => h)).lt
  clear hty hty3 h2 h4 u4 htm htm3 m2 m4 v4
  go_wp2_with (go_at_call 13; refine HSC.out.mono ?_; rintro e w5 ⟨rfl, k5⟩)
  have K5 := K4.trans k5
  refine (awake_any _ (HGL.out.kept K5 (fun h => h) (fun h => h))).mono ?_
  rintro e w6 ⟨rfl, k6⟩
  go_wp2_with fail
  go_ret
  exact ⟨rfl, K5.trans k6⟩
set_option maxRecDepth 100000 in
theorem rr_contract (H : Type) (enc : TypeId × Value → H) (W : World) (base : Nat) (args : Array Value) (ds gs : List (DataW H)) (before : List MemPlace)
    (hval : ∀ (j : Nat) t v, Tryz.f3.params[j]? = some t → args[j]? = some v → Value.okWide Tryz.prog W .any base t v)
    (hW : DataW.Whole enc Tryz.prog Tryz.f3.params.toList Rows.termReadsSpec.vars false W args.toList ds gs before)
    (hwt : (DataW.weightsEach Tryz.prog (Tryz.f3.params.toList ++ (OpenSpec.ofChange Rows.termReadsSpec).bare.plain.varTypes Tryz.prog) (ds ++ gs)).all (· ≤ reachBytes) = true) (hL : laidMetH Tryz.prog Rows.termReadsRow.laid W) :
    Calls Tryz.prog 3 args W fun e W' => ∃ v, e = .returned v ∧ Rows.termReadsSpec.post enc Tryz.prog Tryz.f3 false true false false W args v W' := by
  have hW' := hW
  obtain ⟨p, q, hA0, hV, rfl, hfz, hnd⟩ := hW
  have hA : DataW.TrodAll enc Tryz.prog W 0 (fun _ => true) true Tryz.f3.params.toList args.toList ds p := hA0
  rw [Tryz.params3] at hA hval hwt
  obtain ⟨v0, d0, rfl, rfl, h0⟩ := trodAll_one hA
  obtain ⟨rfl, rfl⟩ := trodVars_none hV
  obtain ⟨s, rfl, rfl, rfl, hs⟩ := ChangeMaps.open_string Tryz.underlying9 (hval 0 9 v0 rfl rfl) h0
  clear hA0
  have hz : s.size ≤ 140737488351232 := by
    simp only [List.append_nil, DataW.weightsEach, DataW.weights, List.all_cons, List.all_nil, Bool.and_true, Bool.and_eq_true, decide_eq_true_eq, List.cons_append, List.nil_append, ba_len, reachBytes] at hwt
    first | exact of_decide_eq_true hwt | exact of_decide_eq_true hwt.1 | exact hwt
  refine (rr_any s W (gl_of_laid hL) (by omega)).mono fun e W' hE => ?_
  obtain ⟨rfl, hk⟩ := hE
  have e1 : Rows.termReadsSpec.fn H ([.lit (.string s.data.toList)] ++ []) = { results := [.lit (.bool true)], args := [.lit (.string s.data.toList)] } := by simp [Rows.termReadsSpec]
  refine ⟨_, rfl, _, _, _, [], [], [], hW', ?_, ?_, ?_, keptBut_of_kept hk _, fun h => by cases h⟩
  · rw [e1]; exact trodAll_mk1 (shut_bool Tryz.underlying4 true)
  · rw [e1]; exact trodAll_mk1 (ChangeMaps.shut_string Tryz.underlying9 hs)
  · rw [e1]; rfl
set_option maxRecDepth 100000 in
theorem rr_laid (os : Os) : laidMet Tryz.prog Rows.termReadsRow.laid ((laidWorld os).forCall (fun _ _ => 0) ⟨#[], #[.string ⟨#[]⟩], []⟩).memory :=
  laidMet_of_run3 8 (by kernel_rfl) (by kernel_rfl) (by kernel_rfl)
theorem rr_reads (os : Os) {H : Type} (enc : TypeId × Value → H) : ∃ places, DataW.whole enc Tryz.prog ((laidWorld os).forCall (fun _ _ => 0) ⟨#[], #[.string ⟨#[]⟩], []⟩).memory Tryz.f3.params.toList Rows.termReadsSpec.vars false #[Value.string ⟨#[]⟩].toList 8 = some ([.lit (.string [])], [], places) :=
  ⟨[], by kernel_rfl⟩
set_option maxRecDepth 100000 in
theorem rr_lifted (os : Os) (started : os.Started) (H : Type) (enc : TypeId × Value → H) (F : Stop.Interp) :
    ReturnsInHanded {} Tryz.checked os 3 .any ((OpenSpec.ofChange Rows.termReadsSpec).preRow enc Tryz.prog Tryz.f3 Rows.termReadsRow.domain false Rows.termReadsRow.laid) (((OpenSpec.ofChange Rows.termReadsSpec).at F).post enc Tryz.prog Tryz.f3 false true false false) := by
  obtain ⟨places, hx⟩ := rr_reads os enc
  refine returnsInHanded_of_row (C := Tryz.checked) (s := OpenSpec.ofChange Rows.termReadsSpec) own0 started (by kernel_rfl) Tryz.func3
    (witness_row_at (enc := enc) (C := Tryz.checked) false (laidWorld os) #[.string ⟨#[]⟩] rfl (by kernel_rfl) (by kernel_rfl) (by kernel_rfl)
      (OpenSpec.preRow_of_cond 8 hx (by kernel_rfl) (fun k hk => by cases hk) (by kernel_rfl) (rr_laid os))) ?_
  intro W base args ds gs before hval hW _ _ hwt hL _ _
  exact rr_contract H enc W base args ds gs before hval hW hwt hL
theorem rr_said : Rows.TermReadsSaid :=
  OpenClaim.holds_of_cond 3 Tryz.f3 rfl rfl rfl rfl rfl rfl rfl ⟨rfl, rfl, rfl, rfl, rfl⟩ rfl rfl rfl rfl rfl (by kernel_rfl) Tryz.func3 (by kernel_rfl)
    (of_decide_eq_true (by kernel_rfl)) (by unfold Func.isWrapper; first | (rw [if_pos (by decide +kernel)]; kernel_rfl) | (rw [if_neg (by decide +kernel)]; exact ⟨rfl, rfl⟩))
    (fun os started H enc _ F => by rw [OpenClaim.pre_eq_preRow]; exact rr_lifted os started H enc F)
theorem rr_plain (f : FuncId) (fn : Func) (hf : Tryz.pinned.checked.prog.funcNamed "refinement/refinementlaw01.TermReads" = some f) (hfn : Tryz.pinned.checked.prog.funcs[f]? = some fn) :
    true = Tryz.pinned.checked.prog.looks [] ∧ ∀ (j : Nat) t, fn.params[j]? = some t → Tryz.pinned.checked.prog.wantsStandIn t = false := by
  obtain rfl : f = 3 := Option.some.inj ((show Tryz.prog.funcNamed "refinement/refinementlaw01.TermReads" = some 3 by kernel_rfl).symm.trans hf) |>.symm
  obtain rfl : fn = Tryz.f3 := (Option.some.inj (Tryz.func3.symm.trans hfn)).symm
  refine ⟨by kernel_rfl, fun j t ht => ?_⟩
  rw [Tryz.params3] at ht
  obtain rfl : t = 9 := by
    have := Array.mem_of_getElem? ht
    simpa using this
  exact (show Tryz.prog.wantsStandIn 9 = false by kernel_rfl)
theorem termReads_card : Rows.TermReadsCardSaid :=
  Claim7.holds_tied_plain_at .later [] _ _ _ _ rr_said (fun _ h => by cases h) (by kernel_rfl) (fun _ h => by cases h) termReads_row_tie rfl ⟨rfl, rfl⟩ (by kernel_rfl) rfl rr_plain (by kernel_rfl)
#print axioms termReads_card
end Go.Proofs.YtckjlliobebodaaGreatDoor
