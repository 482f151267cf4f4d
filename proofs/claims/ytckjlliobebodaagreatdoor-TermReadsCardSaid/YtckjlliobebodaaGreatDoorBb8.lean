/- Texts RLex RTok RCon RBra RPar RStt RWk of this proof, in one. -/
import Derived.Test.YtckjlliobebodaaGreatDoorBb7
import Derived.Test.YtckjlliobebodaaGreatDoorBb4
import Derived.Deep.RegionHeld3
import Derived.Deep.CutBlock
set_option linter.unusedVariables false
set_option linter.unusedSimpArgs false
namespace Go.Proofs.YtckjlliobebodaaGreatDoor
open Go.RowKit
def lexW (s : ByteArray) (fr : Nat) : Int × ByteArray :=
  if h : fr < s.size then
    if letterB s[fr].toNat = true then
      if keywordB (s.extract fr (wend s fr)) = true then (2, s.extract fr (wend s fr))
      else if 16 < wend s fr - fr then (5, s.extract fr (wend s fr))
      else (1, s.extract fr (wordTo s fr))
    else if digitB s[fr].toNat = true then
      (if amt (s.extract fr (wend s fr)) < 0 then 5 else 3, s.extract fr (wend s fr))
    else match sgnF (s.data.toList.drop fr) with
      | some x => (4, x)
      | none => (5, ⟨#[]⟩)
  else (0, ⟨#[]⟩)
def LexP (s : ByteArray) (i : Nat) (w : World) (e : Ending) (w' : World) : Prop := e = .returned (.agg #[.int .i64 (lexW s (skip s i)).1, .string (lexW s (skip s i)).2, .int .i64 (skip s i)]) ∧ Kept (fun _ => False) w w'
theorem load_tok {W : World} {R : Nat} {k : Int} {x : ByteArray} {a : Int} (hb : Blk W R 55 [.int .i64 k, .string x, .int .i64 a]) : (loadVar 55 ⟨R, 0, none⟩).run Tryz.prog W = .ok (.agg #[.int .i64 k, .string x, .int .i64 a]) W :=
  run_loadVar_mid W R 0 55 _ _ hb.rangeAt Tryz.underlying55 rfl (by kernel_rfl)
theorem r55 {W : World} {R : Nat} {l : List Value} {x y z : Value} (h : Blk W R 55 l) (hl : l.length = 3) : Blk (((W.setCell ⟨R, 0, none⟩ x).setCell ⟨R, 1, none⟩ y).setCell ⟨R, 2, none⟩ z) R 55 [x, y, z] := by
  match l, hl with
  | [a, c, d], _ => exact ((h.set 0 x).set 1 y).set 2 z
theorem ret_tok {s : ByteArray} {i : Nat} {w W : World} {R fr : Nat} {k : Int} {x : ByteArray} {a : Act} (hf : skip s i = fr) (hl : lexW s fr = (k, x)) (hR : a.tmps.getD 4 undef = .pointer (some ⟨R, 0, none⟩)) (hd : a.defers = [])
    (hb : Blk W R 55 [.int .i64 k, .string x, .int .i64 fr]) (hk : Kept (fun _ => False) w W) : bodyPost Tryz.prog Tryz.f35 (LexP s i w) Exit.ret a W :=
  bodyPost_ret (results_one Tryz.results35 hR (load_tok hb)) hd ⟨by rw [hf, hl], hk⟩
theorem k55 {w W : World} {R : Nat} {x y z : Value} (h : Kept (fun _ => False) w W) (hR : w.heap.size ≤ R) : Kept (fun _ => False) w (((W.setCell ⟨R, 0, none⟩ x).setCell ⟨R, 1, none⟩ y).setCell ⟨R, 2, none⟩ z) :=
  ((h.setCell (p := ⟨R, 0, none⟩) (Or.inr hR) x).setCell (p := ⟨R, 1, none⟩) (Or.inr hR) y).setCell (p := ⟨R, 2, none⟩) (Or.inr hR) z
def z55 : List Value := [.int .i64 0, .string ⟨#[]⟩, .int .i64 0]
theorem sgn_ne {l : List UInt8} {x : ByteArray} (h : sgnF l = some x) : (x.toList == []) = false := by
  have hm := List.mem_of_find?_eq_some h
  have key : ∀ x ∈ sgs1 ++ sgs2, 0 < x.size := by decide
  have h0 := key x hm
  rw [beq_eq_false_iff_ne]
  intro e
  have e2 := empty_iff x
  rw [e, decide_eq_true h0] at e2
  cases e2
set_option maxRecDepth 10000 in
set_option maxHeartbeats 8000000 in
theorem rlex_any (s : ByteArray) (i : Nat) (w : World) (hi : i ≤ s.size) (hs : s.size ≤ 65536) :
    Calls Tryz.prog 35 #[.string s, .int .i64 i] w (LexP s i w) := by
  go_enter Tryz.func35, Tryz.ntmps35
  go_wp2_with fail
  refine wp_gen (fun W => Blk W w.heap.size 55 z55 ∧ Kept (fun _ => False) w W) ⟨Blk.new w 55 z55, (Kept.refl _ _).alloc _⟩ ?_
  rintro W ⟨B0, K0⟩
  have hR : w.heap.size ≤ w.heap.size := Nat.le_refl _
  generalize hRR : w.heap.size = R at B0 hR ⊢
  rw [← hRR] at hR
  have hR : w.heap.size ≤ R := by omega
  clear hRR
  have g0 : W.cell? ⟨R, 0, none⟩ = some (.int .i64 0) := B0.cell 0
  have g1 : W.cell? ⟨R, 1, none⟩ = some (.string ⟨#[]⟩) := B0.cell 1
  have g2 : W.cell? ⟨R, 2, none⟩ = some (.int .i64 0) := B0.cell 2
  have f0 : W.frozen? ⟨R, 0, none⟩ = false := B0.frozen 0
  have f1 : W.frozen? ⟨R, 1, none⟩ = false := B0.frozen 1
  have f2 : W.frozen? ⟨R, 2, none⟩ = false := B0.frozen 2
  go_loop [1] (fun v => ∃ k : Nat, k ≤ s.size ∧ v = .int .i64 k ∧ Hid (skip s k = skip s i)) (fun v => s.size - (intOf v).toNat)
  case atStart => exact ⟨i, hi, rfl, Lib.hid rfl⟩
  case round =>
    obtain ⟨k, hks, rfl, hK⟩ := hrel
    by_cases hlt : k < s.size
    · cases a1 : ((s[k].toNat : Int) == 32) <;> cases a2 : ((s[k].toNat : Int) == 9) <;> cases a3 : ((s[k].toNat : Int) == 10)
      case false.false.false =>
        have hE := Lib.hid (show skip s i = k by rw [← hK.out]; exact scan_no _ s k hlt (by unfold blankB; rw [a1, a2, a3]; rfl))
        clear hK
        have hne : ((k : Int) == (s.size : Int)) = false := by simp; omega
        go_wp2_with fail
        go_loop [5] (fun v => ∃ m : Nat, k ≤ m ∧ m ≤ s.size ∧ v = .int .i64 m ∧ Hid (wend s m = wend s k)) (fun v => s.size - (intOf v).toNat)
        case atStart => exact ⟨k, Nat.le_refl _, hks, rfl, Lib.hid rfl⟩
        case round =>
          obtain ⟨m, hkm, hms, rfl, hM⟩ := hrel
          by_cases hmt : m < s.size ∧ (∀ h : m < s.size, inWordB s[m].toNat = true)
          · obtain ⟨hmt, b0⟩ := hmt
            have b1 := b0 hmt
            have hM' : Hid (wend s (m + 1) = wend s k) := Lib.hid (by rw [← hM.out]; exact (scan_yes _ s m hmt b1).symm)
            clear b0
            go_wp2_with (go_at_call 71; refine (rpart_any _ _).mono ?_; rintro e w' ⟨rfl, rfl⟩)
            go_round
            case rel => exact ⟨m + 1, by omega, by omega, by go_num, hM'⟩
            case measure => simp [intOf]; omega
          · have hT := Lib.hid (show wend s k = m by
              rw [← hM.out]
              by_cases h : m < s.size
              · cases b1 : inWordB s[m].toNat
                · exact scan_no _ s m h b1
                · exact absurd ⟨h, fun _ => b1⟩ hmt
              · exact scan_end _ s m (by omega))
            have hB : Hid (∀ h : m < s.size, inWordB s[m].toNat = false) := Lib.hid (fun h => by
              cases b1 : inWordB s[m].toNat
              · rfl
              · exact absurd ⟨h, fun _ => b1⟩ hmt)
            clear hmt hM
            have j1 : (0 : Int) ≤ (k : Int) := by omega
            have j2 : (k : Int) ≤ (m : Int) := by omega
            have j3 : (m : Int) ≤ (s.size : Int) := by omega
            have hxz : (s.extract k m).size = m - k := by rw [ByteArray.size_extract]; omega
            have hsz : (s.extract k m).size ≤ 9223372036854775807 := by omega
            by_cases hm : m < s.size
            · have b1 := hB.out hm
              cases hl : letterB s[k].toNat
              case true =>
                cases hkw : keywordB (s.extract k m)
                case true =>
                  have hL := Lib.hid (show lexW s k = (2, s.extract k m) by unfold lexW; rw [dif_pos hlt, if_pos hl, hT.out, if_pos hkw])
                  have HK := Lib.hid hkw
                  clear hkw
                  go_wp2_with (first | (go_at_call 71; refine (rpart_any _ _).mono ?_; rintro e w' ⟨rfl, rfl⟩) | (go_at_call 48; refine (rletter_any _ _).mono ?_; rintro e w' ⟨rfl, rfl⟩) | (go_at_call 50; refine (rdigit_any _ _).mono ?_; rintro e w' ⟨rfl, rfl⟩) | (go_at_call 72; refine (ramount_any _ _ hsz).mono ?_; rintro e w' ⟨rfl, rfl⟩))
                  refine (rkw_t HK.out _).mono ?_
                  rintro e w' ⟨rfl, rfl⟩
                  have B1 : Blk (KwW W) R 55 z55 := B0.kept (KwW.kept W) (fun h => h)
                  have K1 := K0.trans (KwW.kept W)
                  clear HK
                  generalize KwW W = W1 at *
                  have g0 : W1.cell? ⟨R, 0, none⟩ = some (.int .i64 0) := B1.cell 0
                  have g1 : W1.cell? ⟨R, 1, none⟩ = some (.string ⟨#[]⟩) := B1.cell 1
                  have g2 : W1.cell? ⟨R, 2, none⟩ = some (.int .i64 0) := B1.cell 2
                  have f0 : W1.frozen? ⟨R, 0, none⟩ = false := B1.frozen 0
                  have f1 : W1.frozen? ⟨R, 1, none⟩ = false := B1.frozen 1
                  have f2 : W1.frozen? ⟨R, 2, none⟩ = false := B1.frozen 2
                  go_wp2_with (first | (go_at_call 71; refine (rpart_any _ _).mono ?_; rintro e w' ⟨rfl, rfl⟩) | (go_at_call 48; refine (rletter_any _ _).mono ?_; rintro e w' ⟨rfl, rfl⟩) | (go_at_call 50; refine (rdigit_any _ _).mono ?_; rintro e w' ⟨rfl, rfl⟩) | (go_at_call 72; refine (ramount_any _ _ hsz).mono ?_; rintro e w' ⟨rfl, rfl⟩))
                  exact ret_tok hE.out hL.out rfl rfl (r55 B1 rfl) (k55 K1 hR)
                case false =>
                  by_cases h16 : 16 < m - k
                  · have hL := Lib.hid (show lexW s k = (5, s.extract k m) by unfold lexW; rw [dif_pos hlt, if_pos hl, hT.out, if_neg (by rw [hkw]; simp), if_pos h16])
                    have HK := Lib.hid hkw
                    have q1 : decide (16 < ((m - k : Nat) : Int)) = true := by simp; omega
                    clear hkw
                    go_wp2_with (first | (go_at_call 71; refine (rpart_any _ _).mono ?_; rintro e w' ⟨rfl, rfl⟩) | (go_at_call 48; refine (rletter_any _ _).mono ?_; rintro e w' ⟨rfl, rfl⟩) | (go_at_call 50; refine (rdigit_any _ _).mono ?_; rintro e w' ⟨rfl, rfl⟩) | (go_at_call 72; refine (ramount_any _ _ hsz).mono ?_; rintro e w' ⟨rfl, rfl⟩))
                    refine (rkw_t HK.out _).mono ?_
                    rintro e w' ⟨rfl, rfl⟩
                    have B1 : Blk (KwW W) R 55 z55 := B0.kept (KwW.kept W) (fun h => h)
                    have K1 := K0.trans (KwW.kept W)
                    clear HK
                    generalize KwW W = W1 at *
                    have g0 : W1.cell? ⟨R, 0, none⟩ = some (.int .i64 0) := B1.cell 0
                    have g1 : W1.cell? ⟨R, 1, none⟩ = some (.string ⟨#[]⟩) := B1.cell 1
                    have g2 : W1.cell? ⟨R, 2, none⟩ = some (.int .i64 0) := B1.cell 2
                    have f0 : W1.frozen? ⟨R, 0, none⟩ = false := B1.frozen 0
                    have f1 : W1.frozen? ⟨R, 1, none⟩ = false := B1.frozen 1
                    have f2 : W1.frozen? ⟨R, 2, none⟩ = false := B1.frozen 2
                    go_wp2_with (first | (go_at_call 71; refine (rpart_any _ _).mono ?_; rintro e w' ⟨rfl, rfl⟩) | (go_at_call 48; refine (rletter_any _ _).mono ?_; rintro e w' ⟨rfl, rfl⟩) | (go_at_call 50; refine (rdigit_any _ _).mono ?_; rintro e w' ⟨rfl, rfl⟩) | (go_at_call 72; refine (ramount_any _ _ hsz).mono ?_; rintro e w' ⟨rfl, rfl⟩))
                    exact ret_tok hE.out hL.out rfl rfl (r55 B1 rfl) (k55 K1 hR)
                  · have q1 : decide (16 < ((m - k : Nat) : Int)) = false := by simp; omega
                    by_cases h39 : s[m].toNat = 39
                    · have q2 : ((s[m].toNat : Int) == 39) = true := by rw [h39]; rfl
                      have q3 : (k : Int) ≤ (m : Int) + 1 := by omega
                      have q4 : (m : Int) + 1 ≤ (s.size : Int) := by omega
                      have hL := Lib.hid (show lexW s k = (1, s.extract k (m + 1)) by unfold lexW wordTo; rw [dif_pos hlt, if_pos hl, hT.out, if_neg (by rw [hkw]; simp), if_neg h16, if_neg (by rw [hkw]; simp), dif_pos hm, if_pos h39])
                      have HK := Lib.hid hkw
                      clear hkw
                      go_wp2_with (first | (go_at_call 71; refine (rpart_any _ _).mono ?_; rintro e w' ⟨rfl, rfl⟩) | (go_at_call 48; refine (rletter_any _ _).mono ?_; rintro e w' ⟨rfl, rfl⟩) | (go_at_call 50; refine (rdigit_any _ _).mono ?_; rintro e w' ⟨rfl, rfl⟩) | (go_at_call 72; refine (ramount_any _ _ hsz).mono ?_; rintro e w' ⟨rfl, rfl⟩))
                      refine (rkw_t HK.out _).mono ?_
                      rintro e w' ⟨rfl, rfl⟩
                      have B1 : Blk (KwW W) R 55 z55 := B0.kept (KwW.kept W) (fun h => h)
                      have K1 := K0.trans (KwW.kept W)
                      clear HK
                      generalize KwW W = W1 at *
                      have g0 : W1.cell? ⟨R, 0, none⟩ = some (.int .i64 0) := B1.cell 0
                      have g1 : W1.cell? ⟨R, 1, none⟩ = some (.string ⟨#[]⟩) := B1.cell 1
                      have g2 : W1.cell? ⟨R, 2, none⟩ = some (.int .i64 0) := B1.cell 2
                      have f0 : W1.frozen? ⟨R, 0, none⟩ = false := B1.frozen 0
                      have f1 : W1.frozen? ⟨R, 1, none⟩ = false := B1.frozen 1
                      have f2 : W1.frozen? ⟨R, 2, none⟩ = false := B1.frozen 2
                      go_wp2_with (first | (go_at_call 71; refine (rpart_any _ _).mono ?_; rintro e w' ⟨rfl, rfl⟩) | (go_at_call 48; refine (rletter_any _ _).mono ?_; rintro e w' ⟨rfl, rfl⟩) | (go_at_call 50; refine (rdigit_any _ _).mono ?_; rintro e w' ⟨rfl, rfl⟩) | (go_at_call 72; refine (ramount_any _ _ hsz).mono ?_; rintro e w' ⟨rfl, rfl⟩))
                      exact ret_tok hE.out hL.out rfl rfl (r55 B1 rfl) (k55 K1 hR)
                    · have q2 : ((s[m].toNat : Int) == 39) = false := by rw [beq_eq_false_iff_ne]; omega
                      have hL := Lib.hid (show lexW s k = (1, s.extract k m) by unfold lexW wordTo; rw [dif_pos hlt, if_pos hl, hT.out, if_neg (by rw [hkw]; simp), if_neg h16, if_neg (by rw [hkw]; simp), dif_pos hm, if_neg h39])
                      have HK := Lib.hid hkw
                      clear hkw
                      go_wp2_with (first | (go_at_call 71; refine (rpart_any _ _).mono ?_; rintro e w' ⟨rfl, rfl⟩) | (go_at_call 48; refine (rletter_any _ _).mono ?_; rintro e w' ⟨rfl, rfl⟩) | (go_at_call 50; refine (rdigit_any _ _).mono ?_; rintro e w' ⟨rfl, rfl⟩) | (go_at_call 72; refine (ramount_any _ _ hsz).mono ?_; rintro e w' ⟨rfl, rfl⟩))
                      refine (rkw_t HK.out _).mono ?_
                      rintro e w' ⟨rfl, rfl⟩
                      have B1 : Blk (KwW W) R 55 z55 := B0.kept (KwW.kept W) (fun h => h)
                      have K1 := K0.trans (KwW.kept W)
                      clear HK
                      generalize KwW W = W1 at *
                      have g0 : W1.cell? ⟨R, 0, none⟩ = some (.int .i64 0) := B1.cell 0
                      have g1 : W1.cell? ⟨R, 1, none⟩ = some (.string ⟨#[]⟩) := B1.cell 1
                      have g2 : W1.cell? ⟨R, 2, none⟩ = some (.int .i64 0) := B1.cell 2
                      have f0 : W1.frozen? ⟨R, 0, none⟩ = false := B1.frozen 0
                      have f1 : W1.frozen? ⟨R, 1, none⟩ = false := B1.frozen 1
                      have f2 : W1.frozen? ⟨R, 2, none⟩ = false := B1.frozen 2
                      go_wp2_with (first | (go_at_call 71; refine (rpart_any _ _).mono ?_; rintro e w' ⟨rfl, rfl⟩) | (go_at_call 48; refine (rletter_any _ _).mono ?_; rintro e w' ⟨rfl, rfl⟩) | (go_at_call 50; refine (rdigit_any _ _).mono ?_; rintro e w' ⟨rfl, rfl⟩) | (go_at_call 72; refine (ramount_any _ _ hsz).mono ?_; rintro e w' ⟨rfl, rfl⟩))
                      exact ret_tok hE.out hL.out rfl rfl (r55 B1 rfl) (k55 K1 hR)
              case false =>
                cases hd : digitB s[k].toNat
                case true =>
                  by_cases ha : amt (s.extract k m) < 0
                  · have hL := Lib.hid (show lexW s k = (5, s.extract k m) by unfold lexW; rw [dif_pos hlt, if_neg (by rw [hl]; simp), if_pos hd, hT.out, if_pos ha])
                    have q1 : decide (amt (s.extract k m) < 0) = true := by simp; omega
                    go_wp2_with (first | (go_at_call 71; refine (rpart_any _ _).mono ?_; rintro e w' ⟨rfl, rfl⟩) | (go_at_call 48; refine (rletter_any _ _).mono ?_; rintro e w' ⟨rfl, rfl⟩) | (go_at_call 50; refine (rdigit_any _ _).mono ?_; rintro e w' ⟨rfl, rfl⟩) | (go_at_call 72; refine (ramount_any _ _ hsz).mono ?_; rintro e w' ⟨rfl, rfl⟩))
                    exact ret_tok hE.out hL.out rfl rfl (r55 B0 rfl) (k55 K0 hR)
                  · have hL := Lib.hid (show lexW s k = (3, s.extract k m) by unfold lexW; rw [dif_pos hlt, if_neg (by rw [hl]; simp), if_pos hd, hT.out, if_neg ha])
                    have q1 : decide (amt (s.extract k m) < 0) = false := by simp; omega
                    go_wp2_with (first | (go_at_call 71; refine (rpart_any _ _).mono ?_; rintro e w' ⟨rfl, rfl⟩) | (go_at_call 48; refine (rletter_any _ _).mono ?_; rintro e w' ⟨rfl, rfl⟩) | (go_at_call 50; refine (rdigit_any _ _).mono ?_; rintro e w' ⟨rfl, rfl⟩) | (go_at_call 72; refine (ramount_any _ _ hsz).mono ?_; rintro e w' ⟨rfl, rfl⟩))
                    exact ret_tok hE.out hL.out rfl rfl (r55 B0 rfl) (k55 K0 hR)
                case false =>
                  have HSg := Lib.hid (rsign_any s k W hlt hs)
                  cases hsg : sgnF (s.data.toList.drop k) with
                  | none =>
                    have hL := Lib.hid (show lexW s k = (5, ⟨#[]⟩) by unfold lexW; rw [dif_pos hlt, if_neg (by rw [hl]; simp), if_neg (by rw [hd]; simp), hsg])
                    rw [hsg] at HSg
                    clear hsg
                    go_wp2_with (first | (go_at_call 71; refine (rpart_any _ _).mono ?_; rintro e w' ⟨rfl, rfl⟩) | (go_at_call 48; refine (rletter_any _ _).mono ?_; rintro e w' ⟨rfl, rfl⟩) | (go_at_call 50; refine (rdigit_any _ _).mono ?_; rintro e w' ⟨rfl, rfl⟩) | (go_at_call 72; refine (ramount_any _ _ hsz).mono ?_; rintro e w' ⟨rfl, rfl⟩))
                    refine HSg.out.mono ?_
                    rintro e W1 ⟨rfl, kS⟩
                    have B1 : Blk W1 R 55 z55 := B0.kept kS (fun h => h)
                    have K1 := K0.trans kS
                    have g0 : W1.cell? ⟨R, 0, none⟩ = some (.int .i64 0) := B1.cell 0
                    have g1 : W1.cell? ⟨R, 1, none⟩ = some (.string ⟨#[]⟩) := B1.cell 1
                    have g2 : W1.cell? ⟨R, 2, none⟩ = some (.int .i64 0) := B1.cell 2
                    have f0 : W1.frozen? ⟨R, 0, none⟩ = false := B1.frozen 0
                    have f1 : W1.frozen? ⟨R, 1, none⟩ = false := B1.frozen 1
                    have f2 : W1.frozen? ⟨R, 2, none⟩ = false := B1.frozen 2
                    go_wp2_with (first | (go_at_call 71; refine (rpart_any _ _).mono ?_; rintro e w' ⟨rfl, rfl⟩) | (go_at_call 48; refine (rletter_any _ _).mono ?_; rintro e w' ⟨rfl, rfl⟩) | (go_at_call 50; refine (rdigit_any _ _).mono ?_; rintro e w' ⟨rfl, rfl⟩) | (go_at_call 72; refine (ramount_any _ _ hsz).mono ?_; rintro e w' ⟨rfl, rfl⟩))
                    exact ret_tok hE.out hL.out rfl rfl (r55 B1 rfl) (k55 K1 hR)
                  | some x =>
                    have hL := Lib.hid (show lexW s k = (4, x) by unfold lexW; rw [dif_pos hlt, if_neg (by rw [hl]; simp), if_neg (by rw [hd]; simp), hsg])
                    have hxe : (x.toList == []) = false := sgn_ne hsg
                    rw [hsg] at HSg
                    clear hsg
                    go_wp2_with (first | (go_at_call 71; refine (rpart_any _ _).mono ?_; rintro e w' ⟨rfl, rfl⟩) | (go_at_call 48; refine (rletter_any _ _).mono ?_; rintro e w' ⟨rfl, rfl⟩) | (go_at_call 50; refine (rdigit_any _ _).mono ?_; rintro e w' ⟨rfl, rfl⟩) | (go_at_call 72; refine (ramount_any _ _ hsz).mono ?_; rintro e w' ⟨rfl, rfl⟩))
                    refine HSg.out.mono ?_
                    rintro e W1 ⟨rfl, kS⟩
                    have B1 : Blk W1 R 55 z55 := B0.kept kS (fun h => h)
                    have K1 := K0.trans kS
                    have g0 : W1.cell? ⟨R, 0, none⟩ = some (.int .i64 0) := B1.cell 0
                    have g1 : W1.cell? ⟨R, 1, none⟩ = some (.string ⟨#[]⟩) := B1.cell 1
                    have g2 : W1.cell? ⟨R, 2, none⟩ = some (.int .i64 0) := B1.cell 2
                    have f0 : W1.frozen? ⟨R, 0, none⟩ = false := B1.frozen 0
                    have f1 : W1.frozen? ⟨R, 1, none⟩ = false := B1.frozen 1
                    have f2 : W1.frozen? ⟨R, 2, none⟩ = false := B1.frozen 2
                    go_wp2_with (first | (go_at_call 71; refine (rpart_any _ _).mono ?_; rintro e w' ⟨rfl, rfl⟩) | (go_at_call 48; refine (rletter_any _ _).mono ?_; rintro e w' ⟨rfl, rfl⟩) | (go_at_call 50; refine (rdigit_any _ _).mono ?_; rintro e w' ⟨rfl, rfl⟩) | (go_at_call 72; refine (ramount_any _ _ hsz).mono ?_; rintro e w' ⟨rfl, rfl⟩))
                    exact ret_tok hE.out hL.out rfl rfl (r55 B1 rfl) (k55 K1 hR)
            · cases hl : letterB s[k].toNat
              case true =>
                cases hkw : keywordB (s.extract k m)
                case true =>
                  have hL := Lib.hid (show lexW s k = (2, s.extract k m) by unfold lexW; rw [dif_pos hlt, if_pos hl, hT.out, if_pos hkw])
                  have HK := Lib.hid hkw
                  clear hkw
                  go_wp2_with (first | (go_at_call 71; refine (rpart_any _ _).mono ?_; rintro e w' ⟨rfl, rfl⟩) | (go_at_call 48; refine (rletter_any _ _).mono ?_; rintro e w' ⟨rfl, rfl⟩) | (go_at_call 50; refine (rdigit_any _ _).mono ?_; rintro e w' ⟨rfl, rfl⟩) | (go_at_call 72; refine (ramount_any _ _ hsz).mono ?_; rintro e w' ⟨rfl, rfl⟩))
                  refine (rkw_t HK.out _).mono ?_
                  rintro e w' ⟨rfl, rfl⟩
                  have B1 : Blk (KwW W) R 55 z55 := B0.kept (KwW.kept W) (fun h => h)
                  have K1 := K0.trans (KwW.kept W)
                  clear HK
                  generalize KwW W = W1 at *
                  have g0 : W1.cell? ⟨R, 0, none⟩ = some (.int .i64 0) := B1.cell 0
                  have g1 : W1.cell? ⟨R, 1, none⟩ = some (.string ⟨#[]⟩) := B1.cell 1
                  have g2 : W1.cell? ⟨R, 2, none⟩ = some (.int .i64 0) := B1.cell 2
                  have f0 : W1.frozen? ⟨R, 0, none⟩ = false := B1.frozen 0
                  have f1 : W1.frozen? ⟨R, 1, none⟩ = false := B1.frozen 1
                  have f2 : W1.frozen? ⟨R, 2, none⟩ = false := B1.frozen 2
                  go_wp2_with (first | (go_at_call 71; refine (rpart_any _ _).mono ?_; rintro e w' ⟨rfl, rfl⟩) | (go_at_call 48; refine (rletter_any _ _).mono ?_; rintro e w' ⟨rfl, rfl⟩) | (go_at_call 50; refine (rdigit_any _ _).mono ?_; rintro e w' ⟨rfl, rfl⟩) | (go_at_call 72; refine (ramount_any _ _ hsz).mono ?_; rintro e w' ⟨rfl, rfl⟩))
                  exact ret_tok hE.out hL.out rfl rfl (r55 B1 rfl) (k55 K1 hR)
                case false =>
                  by_cases h16 : 16 < m - k
                  · have hL := Lib.hid (show lexW s k = (5, s.extract k m) by unfold lexW; rw [dif_pos hlt, if_pos hl, hT.out, if_neg (by rw [hkw]; simp), if_pos h16])
                    have HK := Lib.hid hkw
                    have q1 : decide (16 < ((m - k : Nat) : Int)) = true := by simp; omega
                    clear hkw
                    go_wp2_with (first | (go_at_call 71; refine (rpart_any _ _).mono ?_; rintro e w' ⟨rfl, rfl⟩) | (go_at_call 48; refine (rletter_any _ _).mono ?_; rintro e w' ⟨rfl, rfl⟩) | (go_at_call 50; refine (rdigit_any _ _).mono ?_; rintro e w' ⟨rfl, rfl⟩) | (go_at_call 72; refine (ramount_any _ _ hsz).mono ?_; rintro e w' ⟨rfl, rfl⟩))
                    refine (rkw_t HK.out _).mono ?_
                    rintro e w' ⟨rfl, rfl⟩
                    have B1 : Blk (KwW W) R 55 z55 := B0.kept (KwW.kept W) (fun h => h)
                    have K1 := K0.trans (KwW.kept W)
                    clear HK
                    generalize KwW W = W1 at *
                    have g0 : W1.cell? ⟨R, 0, none⟩ = some (.int .i64 0) := B1.cell 0
                    have g1 : W1.cell? ⟨R, 1, none⟩ = some (.string ⟨#[]⟩) := B1.cell 1
                    have g2 : W1.cell? ⟨R, 2, none⟩ = some (.int .i64 0) := B1.cell 2
                    have f0 : W1.frozen? ⟨R, 0, none⟩ = false := B1.frozen 0
                    have f1 : W1.frozen? ⟨R, 1, none⟩ = false := B1.frozen 1
                    have f2 : W1.frozen? ⟨R, 2, none⟩ = false := B1.frozen 2
                    go_wp2_with (first | (go_at_call 71; refine (rpart_any _ _).mono ?_; rintro e w' ⟨rfl, rfl⟩) | (go_at_call 48; refine (rletter_any _ _).mono ?_; rintro e w' ⟨rfl, rfl⟩) | (go_at_call 50; refine (rdigit_any _ _).mono ?_; rintro e w' ⟨rfl, rfl⟩) | (go_at_call 72; refine (ramount_any _ _ hsz).mono ?_; rintro e w' ⟨rfl, rfl⟩))
                    exact ret_tok hE.out hL.out rfl rfl (r55 B1 rfl) (k55 K1 hR)
                  · have q1 : decide (16 < ((m - k : Nat) : Int)) = false := by simp; omega
                    have hL := Lib.hid (show lexW s k = (1, s.extract k m) by unfold lexW wordTo; rw [dif_pos hlt, if_pos hl, hT.out, if_neg (by rw [hkw]; simp), if_neg h16, if_neg (by rw [hkw]; simp), dif_neg hm])
                    have HK := Lib.hid hkw
                    clear hkw
                    go_wp2_with (first | (go_at_call 71; refine (rpart_any _ _).mono ?_; rintro e w' ⟨rfl, rfl⟩) | (go_at_call 48; refine (rletter_any _ _).mono ?_; rintro e w' ⟨rfl, rfl⟩) | (go_at_call 50; refine (rdigit_any _ _).mono ?_; rintro e w' ⟨rfl, rfl⟩) | (go_at_call 72; refine (ramount_any _ _ hsz).mono ?_; rintro e w' ⟨rfl, rfl⟩))
                    refine (rkw_t HK.out _).mono ?_
                    rintro e w' ⟨rfl, rfl⟩
                    have B1 : Blk (KwW W) R 55 z55 := B0.kept (KwW.kept W) (fun h => h)
                    have K1 := K0.trans (KwW.kept W)
                    clear HK
                    generalize KwW W = W1 at *
                    have g0 : W1.cell? ⟨R, 0, none⟩ = some (.int .i64 0) := B1.cell 0
                    have g1 : W1.cell? ⟨R, 1, none⟩ = some (.string ⟨#[]⟩) := B1.cell 1
                    have g2 : W1.cell? ⟨R, 2, none⟩ = some (.int .i64 0) := B1.cell 2
                    have f0 : W1.frozen? ⟨R, 0, none⟩ = false := B1.frozen 0
                    have f1 : W1.frozen? ⟨R, 1, none⟩ = false := B1.frozen 1
                    have f2 : W1.frozen? ⟨R, 2, none⟩ = false := B1.frozen 2
                    go_wp2_with (first | (go_at_call 71; refine (rpart_any _ _).mono ?_; rintro e w' ⟨rfl, rfl⟩) | (go_at_call 48; refine (rletter_any _ _).mono ?_; rintro e w' ⟨rfl, rfl⟩) | (go_at_call 50; refine (rdigit_any _ _).mono ?_; rintro e w' ⟨rfl, rfl⟩) | (go_at_call 72; refine (ramount_any _ _ hsz).mono ?_; rintro e w' ⟨rfl, rfl⟩))
                    exact ret_tok hE.out hL.out rfl rfl (r55 B1 rfl) (k55 K1 hR)
              case false =>
                cases hd : digitB s[k].toNat
                case true =>
                  by_cases ha : amt (s.extract k m) < 0
                  · have hL := Lib.hid (show lexW s k = (5, s.extract k m) by unfold lexW; rw [dif_pos hlt, if_neg (by rw [hl]; simp), if_pos hd, hT.out, if_pos ha])
                    have q1 : decide (amt (s.extract k m) < 0) = true := by simp; omega
                    go_wp2_with (first | (go_at_call 71; refine (rpart_any _ _).mono ?_; rintro e w' ⟨rfl, rfl⟩) | (go_at_call 48; refine (rletter_any _ _).mono ?_; rintro e w' ⟨rfl, rfl⟩) | (go_at_call 50; refine (rdigit_any _ _).mono ?_; rintro e w' ⟨rfl, rfl⟩) | (go_at_call 72; refine (ramount_any _ _ hsz).mono ?_; rintro e w' ⟨rfl, rfl⟩))
                    exact ret_tok hE.out hL.out rfl rfl (r55 B0 rfl) (k55 K0 hR)
                  · have hL := Lib.hid (show lexW s k = (3, s.extract k m) by unfold lexW; rw [dif_pos hlt, if_neg (by rw [hl]; simp), if_pos hd, hT.out, if_neg ha])
                    have q1 : decide (amt (s.extract k m) < 0) = false := by simp; omega
                    go_wp2_with (first | (go_at_call 71; refine (rpart_any _ _).mono ?_; rintro e w' ⟨rfl, rfl⟩) | (go_at_call 48; refine (rletter_any _ _).mono ?_; rintro e w' ⟨rfl, rfl⟩) | (go_at_call 50; refine (rdigit_any _ _).mono ?_; rintro e w' ⟨rfl, rfl⟩) | (go_at_call 72; refine (ramount_any _ _ hsz).mono ?_; rintro e w' ⟨rfl, rfl⟩))
                    exact ret_tok hE.out hL.out rfl rfl (r55 B0 rfl) (k55 K0 hR)
                case false =>
                  have HSg := Lib.hid (rsign_any s k W hlt hs)
                  cases hsg : sgnF (s.data.toList.drop k) with
                  | none =>
                    have hL := Lib.hid (show lexW s k = (5, ⟨#[]⟩) by unfold lexW; rw [dif_pos hlt, if_neg (by rw [hl]; simp), if_neg (by rw [hd]; simp), hsg])
                    rw [hsg] at HSg
                    clear hsg
                    go_wp2_with (first | (go_at_call 71; refine (rpart_any _ _).mono ?_; rintro e w' ⟨rfl, rfl⟩) | (go_at_call 48; refine (rletter_any _ _).mono ?_; rintro e w' ⟨rfl, rfl⟩) | (go_at_call 50; refine (rdigit_any _ _).mono ?_; rintro e w' ⟨rfl, rfl⟩) | (go_at_call 72; refine (ramount_any _ _ hsz).mono ?_; rintro e w' ⟨rfl, rfl⟩))
                    refine HSg.out.mono ?_
                    rintro e W1 ⟨rfl, kS⟩
                    have B1 : Blk W1 R 55 z55 := B0.kept kS (fun h => h)
                    have K1 := K0.trans kS
                    have g0 : W1.cell? ⟨R, 0, none⟩ = some (.int .i64 0) := B1.cell 0
                    have g1 : W1.cell? ⟨R, 1, none⟩ = some (.string ⟨#[]⟩) := B1.cell 1
                    have g2 : W1.cell? ⟨R, 2, none⟩ = some (.int .i64 0) := B1.cell 2
                    have f0 : W1.frozen? ⟨R, 0, none⟩ = false := B1.frozen 0
                    have f1 : W1.frozen? ⟨R, 1, none⟩ = false := B1.frozen 1
                    have f2 : W1.frozen? ⟨R, 2, none⟩ = false := B1.frozen 2
                    go_wp2_with (first | (go_at_call 71; refine (rpart_any _ _).mono ?_; rintro e w' ⟨rfl, rfl⟩) | (go_at_call 48; refine (rletter_any _ _).mono ?_; rintro e w' ⟨rfl, rfl⟩) | (go_at_call 50; refine (rdigit_any _ _).mono ?_; rintro e w' ⟨rfl, rfl⟩) | (go_at_call 72; refine (ramount_any _ _ hsz).mono ?_; rintro e w' ⟨rfl, rfl⟩))
                    exact ret_tok hE.out hL.out rfl rfl (r55 B1 rfl) (k55 K1 hR)
                  | some x =>
                    have hL := Lib.hid (show lexW s k = (4, x) by unfold lexW; rw [dif_pos hlt, if_neg (by rw [hl]; simp), if_neg (by rw [hd]; simp), hsg])
                    have hxe : (x.toList == []) = false := sgn_ne hsg
                    rw [hsg] at HSg
                    clear hsg
                    go_wp2_with (first | (go_at_call 71; refine (rpart_any _ _).mono ?_; rintro e w' ⟨rfl, rfl⟩) | (go_at_call 48; refine (rletter_any _ _).mono ?_; rintro e w' ⟨rfl, rfl⟩) | (go_at_call 50; refine (rdigit_any _ _).mono ?_; rintro e w' ⟨rfl, rfl⟩) | (go_at_call 72; refine (ramount_any _ _ hsz).mono ?_; rintro e w' ⟨rfl, rfl⟩))
                    refine HSg.out.mono ?_
                    rintro e W1 ⟨rfl, kS⟩
                    have B1 : Blk W1 R 55 z55 := B0.kept kS (fun h => h)
                    have K1 := K0.trans kS
                    have g0 : W1.cell? ⟨R, 0, none⟩ = some (.int .i64 0) := B1.cell 0
                    have g1 : W1.cell? ⟨R, 1, none⟩ = some (.string ⟨#[]⟩) := B1.cell 1
                    have g2 : W1.cell? ⟨R, 2, none⟩ = some (.int .i64 0) := B1.cell 2
                    have f0 : W1.frozen? ⟨R, 0, none⟩ = false := B1.frozen 0
                    have f1 : W1.frozen? ⟨R, 1, none⟩ = false := B1.frozen 1
                    have f2 : W1.frozen? ⟨R, 2, none⟩ = false := B1.frozen 2
                    go_wp2_with (first | (go_at_call 71; refine (rpart_any _ _).mono ?_; rintro e w' ⟨rfl, rfl⟩) | (go_at_call 48; refine (rletter_any _ _).mono ?_; rintro e w' ⟨rfl, rfl⟩) | (go_at_call 50; refine (rdigit_any _ _).mono ?_; rintro e w' ⟨rfl, rfl⟩) | (go_at_call 72; refine (ramount_any _ _ hsz).mono ?_; rintro e w' ⟨rfl, rfl⟩))
                    exact ret_tok hE.out hL.out rfl rfl (r55 B1 rfl) (k55 K1 hR)
      all_goals
        have hK' : Hid (skip s (k + 1) = skip s i) := Lib.hid (by rw [← hK.out]; exact (scan_yes _ s k hlt (by unfold blankB; rw [a1, a2, a3]; rfl)).symm)
        go_wp2_with fail
        go_round
        case rel => exact ⟨k + 1, by omega, by go_num, hK'⟩
        case measure => simp [intOf]; omega
    · obtain rfl : k = s.size := by omega
      have hE := Lib.hid (show skip s i = s.size by rw [← hK.out]; exact scan_end _ s _ (Nat.le_refl _))
      have hL := Lib.hid (show lexW s s.size = (0, ⟨#[]⟩) by unfold lexW; rw [dif_neg (by omega)])
      go_wp2_with fail
      exact ret_tok hE.out hL.out rfl rfl (r55 B0 rfl) (k55 K0 hR)
def primB (x : ByteArray) : Bool := if h : 1 < x.size then ((x[x.size - 1].toNat : Int) == 39) && identB (x.extract 0 (x.size - 1)) else false
def openers : List ByteArray := [⟨#[40]⟩, ⟨#[91]⟩, ⟨#[123]⟩]
def closers : List ByteArray := [⟨#[41]⟩, ⟨#[93]⟩, ⟨#[125]⟩]
theorem kw_len {x : ByteArray} (h : keywordB x = true) : x.size ≤ 6 := by
  unfold keywordB at h
  have hm : x.toList ∈ kws := by simpa using h
  have key : ∀ l ∈ kws, l.length ≤ 6 := by decide
  have := key _ hm
  rw [Go.ByteArray.toList_eq] at this
  simpa using this
theorem kw_word {x : ByteArray} (h : keywordB x = true) : allW x.data.toList = true := by
  unfold keywordB at h
  have hm : x.toList ∈ kws := by simpa using h
  have key : ∀ l ∈ kws, allW l = true := by decide
  have := key _ hm
  rw [Go.ByteArray.toList_eq] at this
  exact this
theorem allW_at {x : ByteArray} (h : allW x.data.toList = true) (i : Nat) (hi : i < x.size) : inWordB x[i].toNat = true := by
  cases hc : inWordB x[i].toNat
  · rw [allW_false x i hi hc] at h; cases h
  · rfl
theorem allW_of {x : ByteArray} (h : ∀ i (hi : i < x.size), inWordB x[i].toNat = true) : allW x.data.toList = true := by
  unfold allW
  rw [List.all_eq_true]
  intro c hc
  obtain ⟨i, hi, rfl⟩ := List.getElem_of_mem hc
  exact h i (by simpa using hi)
theorem ext_get (s : ByteArray) (a c i : Nat) (h : i < (s.extract a c).size) (h' : a + i < s.size) : (s.extract a c)[i] = s[a + i] := by
  exact ByteArray.getElem_extract ..
theorem inB_iff {x : ByteArray} {l : List ByteArray} : inB x l = true ↔ x ∈ l := by
  unfold inB
  rw [List.any_eq_true]
  constructor
  · rintro ⟨y, hy, e⟩; rw [← toList_inj (eq_of_beq e)]; exact hy
  · intro h; exact ⟨x, h, by simp⟩
def noBr (x : ByteArray) : Prop := inB x openers = false ∧ inB x closers = false
theorem br_head {x : ByteArray} (h : inB x openers = true ∨ inB x closers = true) : ∃ h : 0 < x.size, inWordB x[0].toNat = false := by
  have key : ∀ y ∈ openers ++ closers, ∃ h : 0 < y.size, inWordB y[0].toNat = false := by decide
  refine key x (List.mem_append.2 ?_)
  rcases h with h | h
  · exact Or.inl (inB_iff.1 h)
  · exact Or.inr (inB_iff.1 h)
theorem noBr_word {x : ByteArray} (h : ∀ h0 : 0 < x.size, inWordB x[0].toNat = true) : noBr x := by
  constructor
  · cases e : inB x openers
    · rfl
    · obtain ⟨h0, hc⟩ := br_head (Or.inl e); rw [h h0] at hc; cases hc
  · cases e : inB x closers
    · rfl
    · obtain ⟨h0, hc⟩ := br_head (Or.inr e); rw [h h0] at hc; cases hc
inductive TokR (s : ByteArray) (fr : Nat) : Int → ByteArray → Int → Prop
  | fin (h : lexW s fr = (0, ⟨#[]⟩)) (hf : fr = s.size) : TokR s fr 0 ⟨#[]⟩ 0
  | word (x : ByteArray) (h : lexW s fr = (2, x)) (hk : keywordB x = true) (hn : noBr x) : TokR s fr 1 x 0
  | name (x : ByteArray) (h : lexW s fr = (1, x)) (hk : keywordB x = false) (hp : primB x = !identB x) (hn : noBr x) : TokR s fr 1 x 0
  | num (x : ByteArray) (n : Int) (h : lexW s fr = (3, x)) (ha : amt x = n) (hn : noBr x) : TokR s fr 2 ⟨#[]⟩ n
  | sgn (x : ByteArray) (h : lexW s fr = (4, x)) (hx : x ∈ signs) : TokR s fr 3 x 0
theorem ext_all {s : ByteArray} {fr : Nat} (h : fr ≤ s.size) : allW (s.extract fr (wend s fr)).data.toList = true := by
  refine allW_of fun i hi => ?_
  have hw := scan_spec inWordB s fr h
  have hsz : (s.extract fr (wend s fr)).size = wend s fr - fr := by rw [ByteArray.size_extract]; have : wend s fr ≤ s.size := hw.2.1; omega
  have h2 : fr + i < wend s fr := by omega
  have h1 : fr + i < s.size := by have : wend s fr ≤ s.size := hw.2.1; omega
  rw [ext_get s _ _ i hi h1]
  exact hw.2.2.2 _ (by omega) h2 h1
theorem sgn_fits {s x : ByteArray} {fr : Nat} (h : fr ≤ s.size) (hx : Lib.hasPrefix (s.data.toList.drop fr) x.data.toList = true) : s.extract fr (fr + x.size) = x ∧ fr + x.size ≤ s.size := by
  refine ⟨?_, pre_len s x fr h hx⟩
  rw [pre_at, Bool.and_eq_true] at hx
  exact toList_inj (eq_of_beq hx.2)
theorem lex_tok {s : ByteArray} {fr : Nat} (h : fr ≤ s.size) : match tokAt s fr with
    | none => (lexW s fr).1 = 5 ∧ fr + (lexW s fr).2.size ≤ s.size
    | some t => t.1 = fr + (lexW s fr).2.size ∧ t.1 ≤ s.size ∧ TokR s fr t.2.1 t.2.2.1 t.2.2.2 := by
  have hw := scan_spec inWordB s fr h
  have hw1 : fr ≤ wend s fr := hw.1
  have hw2 : wend s fr ≤ s.size := hw.2.1
  have hsz : (s.extract fr (wend s fr)).size = wend s fr - fr := by rw [ByteArray.size_extract]; omega
  by_cases hlt : fr < s.size
  · cases hl : letterB s[fr].toNat
    · cases hd : digitB s[fr].toNat
      · -- a sign
        have e1 : tokAt s fr = if sIdx (s.data.toList.drop fr) signs < 0 then none else some (fr + (signs.getD (sIdx (s.data.toList.drop fr) signs).toNat ⟨#[]⟩).size, 3, s.extract fr (fr + (signs.getD (sIdx (s.data.toList.drop fr) signs).toNat ⟨#[]⟩).size), 0) := by
          unfold tokAt; rw [dif_pos hlt, if_neg (by rw [hl]; simp), if_neg (by rw [hd]; simp)]
        have e2 : lexW s fr = match sgnF (s.data.toList.drop fr) with | some x => (4, x) | none => (5, ⟨#[]⟩) := by
          unfold lexW; rw [dif_pos hlt, if_neg (by rw [hl]; simp), if_neg (by rw [hd]; simp)]
          all_goals rfl
        rw [e1]
        rcases sIdx_find (s.data.toList.drop fr) signs with ⟨h1, h2⟩ | ⟨h1, h2⟩
        · rw [if_pos h1]
          rw [sgn_signs, h2] at e2
          have e3 : lexW s fr = (5, ⟨#[]⟩) := e2
          rw [e3]
          exact ⟨rfl, h⟩
        · rw [if_neg h1]
          rw [sgn_signs, h2] at e2
          generalize signs.getD (sIdx (s.data.toList.drop fr) signs).toNat ⟨#[]⟩ = x at *
          have hp := List.find?_some h2
          have hm := List.mem_of_find?_eq_some h2
          obtain ⟨hx, hle⟩ := sgn_fits h hp
          have e3 : lexW s fr = (4, x) := e2
          rw [e3]
          refine ⟨rfl, hle, ?_⟩
          show TokR s fr 3 (s.extract fr (fr + x.size)) 0
          rw [hx]
          exact .sgn x e3 hm
      · -- a number
        have e1 : tokAt s fr = (numTok (s.extract fr (wend s fr))).map fun v => (wend s fr, 2, ⟨#[]⟩, v) := by
          unfold tokAt; rw [dif_pos hlt, if_neg (by rw [hl]; simp), if_pos hd]
        have e2 : lexW s fr = (if amt (s.extract fr (wend s fr)) < 0 then 5 else 3, s.extract fr (wend s fr)) := by
          unfold lexW; rw [dif_pos hlt, if_neg (by rw [hl]; simp), if_pos hd]
        have hg := word_grow s fr hlt (by unfold inWordB; rw [hd]; simp)
        have h0 : 0 < (s.extract fr (wend s fr)).size := by omega
        have hd0 : digitB (s.extract fr (wend s fr))[0].toNat = true := by rw [ext_get s _ _ 0 h0 (by omega)]; exact hd
        rw [num_amt h0 hd0] at e1
        by_cases ha : amt (s.extract fr (wend s fr)) < 0
        · rw [if_pos ha] at e1 e2
          rw [e1, e2]
          exact ⟨rfl, by show fr + (s.extract fr (wend s fr)).size ≤ s.size; omega⟩
        · rw [if_neg ha] at e1 e2
          rw [e1]
          refine ⟨?_, hw2, ?_⟩
          · rw [e2]; show wend s fr = fr + (s.extract fr (wend s fr)).size; omega
          · exact .num _ _ e2 rfl (noBr_word fun h0 => allW_at (ext_all h) 0 h0)
    · -- a word
      have hg := word_grow s fr hlt (by unfold inWordB; rw [hl]; rfl)
      have h0 : 0 < (s.extract fr (wend s fr)).size := by omega
      have hx0 : (s.extract fr (wend s fr))[0] = s[fr] := ext_get s _ _ 0 h0 (by omega)
      cases hk : keywordB (s.extract fr (wend s fr))
      · by_cases h16 : 16 < wend s fr - fr
        · have e1 : tokAt s fr = none := by unfold tokAt; rw [dif_pos hlt, if_pos hl, if_pos h16]
          have e2 : lexW s fr = (5, s.extract fr (wend s fr)) := by unfold lexW; rw [dif_pos hlt, if_pos hl, if_neg (by rw [hk]; simp), if_pos h16]
          rw [e1, e2]
          exact ⟨rfl, by show fr + (s.extract fr (wend s fr)).size ≤ s.size; omega⟩
        · have e1 : tokAt s fr = some (wordTo s fr, 1, s.extract fr (wordTo s fr), 0) := by unfold tokAt; rw [dif_pos hlt, if_pos hl, if_neg h16]
          have e2 : lexW s fr = (1, s.extract fr (wordTo s fr)) := by unfold lexW; rw [dif_pos hlt, if_pos hl, if_neg (by rw [hk]; simp), if_neg h16]
          have hwt := wordTo_le s fr h
          have hwg := wordTo_ge s fr
          have hid : identB (s.extract fr (wend s fr)) = true := by
            unfold identB
            rw [decide_eq_true h0, decide_eq_true (by omega), head_of _ h0, hx0, hl, hk, ext_all h]; rfl
          rw [e1]
          refine ⟨?_, hwt, ?_⟩
          · rw [e2]; show wordTo s fr = fr + (s.extract fr (wordTo s fr)).size; rw [ByteArray.size_extract]; omega
          · have hcase : wordTo s fr = wend s fr ∨ (wordTo s fr = wend s fr + 1 ∧ ∃ hm : wend s fr < s.size, s[wend s fr].toNat = 39) := by
              unfold wordTo
              rw [if_neg (by rw [hk]; simp)]
              split
              · rename_i hm
                split
                · rename_i h39; exact Or.inr ⟨rfl, hm, h39⟩
                · exact Or.inl rfl
              · exact Or.inl rfl
            rcases hcase with hc | ⟨hc, hm, h39⟩
            · rw [hc] at e2 ⊢
              refine .name _ e2 hk ?_ (noBr_word fun h0 => allW_at (ext_all h) 0 h0)
              rw [hid]
              unfold primB
              split
              · rename_i h1
                have hin := allW_at (ext_all (s := s) (fr := fr) h) ((s.extract fr (wend s fr)).size - 1) (by omega)
                generalize (s.extract fr (wend s fr))[(s.extract fr (wend s fr)).size - 1].toNat = c at hin ⊢
                have : ((c : Int) == 39) = false := by
                  rw [beq_eq_false_iff_ne]
                  intro e
                  rw [e] at hin
                  revert hin; decide
                rw [this]; rfl
              · rfl
            · rw [hc] at e2 ⊢
              have hz1 : (s.extract fr (wend s fr + 1)).size = wend s fr + 1 - fr := by rw [ByteArray.size_extract]; omega
              have hlast : (s.extract fr (wend s fr + 1))[wend s fr - fr]'(by omega) = s[wend s fr] := by
                rw [ext_get s _ _ _ _ (by omega)]
                congr 1; omega
              have hno : allW (s.extract fr (wend s fr + 1)).data.toList = false := by
                refine allW_false _ (wend s fr - fr) (by omega) ?_
                rw [hlast, h39]; rfl
              refine .name _ e2 ?_ ?_ (noBr_word fun h0 => ?_)
              · cases hk1 : keywordB (s.extract fr (wend s fr + 1))
                · rfl
                · rw [kw_word hk1] at hno; cases hno
              · have : identB (s.extract fr (wend s fr + 1)) = false := by unfold identB; rw [hno]; simp
                rw [this]
                unfold primB
                have h1z : 1 < (s.extract fr (wend s fr + 1)).size := by rw [hz1]; omega
                rw [dif_pos h1z]
                have e3 : (s.extract fr (wend s fr + 1)).extract 0 ((s.extract fr (wend s fr + 1)).size - 1) = s.extract fr (wend s fr) := by
                  rw [ByteArray.extract_extract, hz1]
                  congr 1
                  omega
                rw [e3, hid]
                have : ∀ i (hi : i < (s.extract fr (wend s fr + 1)).size), i = wend s fr - fr → (((s.extract fr (wend s fr + 1))[i].toNat : Int) == 39) = true := by
                  intro i hi e
                  subst e
                  rw [hlast, h39]; rfl
                rw [this _ (by rw [hz1]; omega) (by rw [hz1]; omega)]; rfl
              · rw [ext_get s _ _ 0 h0 (by omega)]
                unfold inWordB
                show (letterB s[fr].toNat || _ || _) = true
                rw [hl]; rfl
      · have hk6 := kw_len hk
        have e1 : tokAt s fr = some (wend s fr, 1, s.extract fr (wend s fr), 0) := by
          unfold tokAt; rw [dif_pos hlt, if_pos hl, if_neg (by omega)]
          have : wordTo s fr = wend s fr := by unfold wordTo; rw [if_pos hk]
          rw [this]
        have e2 : lexW s fr = (2, s.extract fr (wend s fr)) := by unfold lexW; rw [dif_pos hlt, if_pos hl, if_pos hk]
        rw [e1]
        refine ⟨?_, hw2, .word _ e2 hk (noBr_word fun h0 => allW_at (ext_all h) 0 h0)⟩
        rw [e2]; show wend s fr = fr + (s.extract fr (wend s fr)).size; omega
  · have e1 : tokAt s fr = some (fr, 0, ⟨#[]⟩, 0) := by unfold tokAt; rw [dif_neg hlt]
    have e2 : lexW s fr = (0, ⟨#[]⟩) := by unfold lexW; rw [dif_neg hlt]
    rw [e1]
    exact ⟨by rw [e2]; rfl, h, .fin e2 (by omega)⟩
theorem bP_congr {β : Type} {q : Except ER PS} {k k' : PS → Except ER β} (h : ∀ σ, q = .ok σ → k σ = k' σ) : bP q k = bP q k' := by
  cases q with
  | error r => rfl
  | ok σ => exact h σ rfl
theorem bT_congr {α β : Type} {q q' : Except ER (α × PS)} {k k' : α → PS → Except ER β} (e : q = q') (h : ∀ a σ, q = .ok (a, σ) → k a σ = k' a σ) : bT q k = bT q' k' := by
  subst e
  cases q with
  | error r => rfl
  | ok p => exact h p.1 p.2 rfl
def TQ (s : ByteArray) (f : Nat) (T T' : TF) : Prop := ∀ n σ, 1 ≤ n → n ≤ 13 → 14 * mu s σ + (14 - n) < f → σ.p ≤ s.size → T n σ = T' n σ
section
variable {s : ByteArray} {T T' : TF} {f : Nat}
theorem inside_q (hI : TInv s T) (hR : TQ s f T T') (o c : ByteArray) {σ : PS} (hp : σ.p ≤ s.size) (hf : 14 * mu s σ ≤ f) : insideS T s o c σ = insideS T' s o c σ := by
  rw [inside_eq, inside_eq]
  refine bP_congr fun σ1 h1 => ?_
  have a1 := inv_open hp h1
  exact bT_congr (hR 1 σ1 (by decide) (by decide) (by omega) a1.2.1) fun t σ2 h2 => rfl
theorem bound_q (hI : TInv s T) (hR : TQ s f T T') (op : Int) {σ : PS} (hp : σ.p ≤ s.size) (hf : 14 * mu s σ ≤ f) : boundS T s op σ = boundS T' s op σ := by
  rw [bound_eq, bound_eq]
  refine bT_congr rfl fun x σ1 h1 => ?_
  have a1 := inv_name hp h1
  refine bP_congr fun σ2 h2 => ?_
  have a2 := inv_want a1.2.1 h2
  refine bT_congr (hR _ _ (by decide) (by decide) (by omega) a2.2.1) fun t σ3 h3 => ?_
  have a3 := (hI _ _ _ _ a2.2.1 h3).1
  unfold Inv at a3
  refine bP_congr fun σ4 h4 => ?_
  have a4 := inv_want a3.2.1 h4
  exact bT_congr (hR _ _ (by decide) (by decide) (by omega) a4.2.1) fun t σ5 h5 => rfl
theorem binder_q (hI : TInv s T) (hR : TQ s f T T') (op : Int) {σ : PS} (hp : σ.p ≤ s.size) (hk : σ.k ≠ 0) (hf : 14 * mu s σ ≤ f) : binderS T s op σ = binderS T' s op σ := by
  rw [binder_eq, binder_eq]
  exact bP_congr fun σ1 h1 => bound_q hI hR op (inv_adv hp hk h1).2.1 (by have := (inv_adv hp hk h1).1; omega)
theorem worded_q (hI : TInv s T) (hR : TQ s f T T') {σ : PS} (hp : σ.p ≤ s.size) (hk : σ.k ≠ 0) (hf : 14 * mu s σ ≤ f) : wordedS T s σ = wordedS T' s σ := by
  rw [worded_eq, worded_eq]
  have e1 : funK T s (functionN σ.tx) σ = funK T' s (functionN σ.tx) σ := by
    unfold funK
    refine bP_congr fun σ1 h1 => ?_
    have a1 := inv_adv hp hk h1
    exact bT_congr (inside_q hI hR _ _ a1.2.1 (by omega)) fun t σ2 h2 => rfl
  rw [e1, binder_q hI hR 8 hp hk hf, binder_q hI hR 9 hp hk hf, binder_q hI hR 56 hp hk hf]
theorem elems_q (hI : TInv s T) (hR : TQ s f T T') (g : Nat) : ∀ (l : List Tm) (σ : PS), σ.p ≤ s.size → 14 * mu s σ ≤ f → elemsS T s g l σ = elemsS T' s g l σ := by
  induction g with
  | zero => intro l σ _ _; rfl
  | succ g ih =>
    intro l σ hp hf
    cases hi : isS σ kComma
    · unfold elemsS; rw [hi]
    · rw [elems_eq _ _ _ _ _ hi, elems_eq _ _ _ _ _ hi]
      refine bP_congr fun σ1 h1 => ?_
      have a1 := inv_adv hp (isS_ne hi) h1
      refine bT_congr (hR _ _ (by decide) (by decide) (by omega) a1.2.1) fun t σ2 h2 => ?_
      have a2 := (hI _ _ _ _ a1.2.1 h2).1
      unfold Inv at a2
      exact ih _ σ2 a2.2.1 (by omega)
theorem elements_q (hI : TInv s T) (hR : TQ s f T T') (first : Tm) (bare : Bool) {σ : PS} (hp : σ.p ≤ s.size) (hf : 14 * mu s σ ≤ f) : elementsS T s first bare σ = elementsS T' s first bare σ := by
  rw [elements_eq, elements_eq]
  split
  · rename_i hc
    have hi : isS σ kBar = true := by
      cases e : isS σ kBar
      · rw [e] at hc; simp at hc
      · rfl
    refine bP_congr fun σ1 h1 => ?_
    have a1 := inv_adv hp (isS_ne hi) h1
    exact bT_congr (hR _ _ (by decide) (by decide) (by omega) a1.2.1) fun t σ2 h2 => rfl
  · unfold elemsK
    exact bT_congr (elems_q hI hR _ _ σ hp hf) fun l σ1 h1 => rfl
theorem braces_q (hI : TInv s T) (hR : TQ s f T T') {σ : PS} (hp : σ.p ≤ s.size) (hf : 14 * mu s σ ≤ f) : bracesS T s σ = bracesS T' s σ := by
  rw [braces_eq, braces_eq]
  refine bP_congr fun σ1 h1 => ?_
  have a1 := inv_open hp h1
  split
  · rfl
  · refine bT_congr (hR _ _ (by decide) (by decide) (by omega) a1.2.1) fun t σ2 h2 => ?_
    have a2 := (hI _ _ _ _ a1.2.1 h2).1
    unfold Inv at a2
    exact elements_q hI hR t _ a2.2.1 (by omega)
theorem atom_q (hI : TInv s T) (hR : TQ s f T T') {σ : PS} (hp : σ.p ≤ s.size) (hf : 14 * mu s σ ≤ f) : atomS T s σ = atomS T' s σ := by
  unfold atomS
  split
  · rfl
  · split
    · rename_i hk
      exact worded_q hI hR hp (by rw [eq_of_beq hk]; decide) hf
    · split
      · exact inside_q hI hR _ _ hp hf
      · split
        · exact braces_q hI hR hp hf
        · rfl
theorem after_q (hI : TInv s T) (hR : TQ s f T T') (g : Nat) : ∀ (t : Tm) (σ : PS), σ.p ≤ s.size → 14 * mu s σ ≤ f → afterS T s g t σ = afterS T' s g t σ := by
  induction g with
  | zero => intro l σ _ _; rfl
  | succ g ih =>
    intro t σ hp hf
    rw [after_eq, after_eq]
    split
    · refine bT_congr (inside_q hI hR _ _ hp hf) fun u σ1 h1 => ?_
      have a1 := (inv_inside hI hp h1).1
      unfold Inv1 at a1
      exact ih _ σ1 a1.2.1 (by omega)
    split
    · refine bT_congr (inside_q hI hR _ _ hp hf) fun u σ1 h1 => ?_
      have a1 := (inv_inside hI hp h1).1
      unfold Inv1 at a1
      exact ih _ σ1 a1.2.1 (by omega)
    split
    · rename_i hi
      refine bP_congr fun σ1 h1 => ?_
      have a1 := inv_adv hp (isS_ne hi) h1
      exact ih _ σ1 a1.2.1 (by omega)
    · rfl
theorem rest_q {N : Nat} (hn1 : ∀ n, n = (if lvGroup N = 2 then N else N + 1) → 1 ≤ n ∧ n ≤ 13) (hI : TInv s T) (hR : TQ s f T T') (g : Nat) : ∀ (t : Tm) (σ : PS), σ.p ≤ s.size → 14 * mu s σ ≤ f → restS T s N g t σ = restS T' s N g t σ := by
  induction g with
  | zero => intro l σ _ _; rfl
  | succ g ih =>
    intro t σ hp hf
    rw [rest_eq, rest_eq]
    split
    · rfl
    rename_i ho
    refine bP_congr fun σ1 h1 => ?_
    have a1 := inv_adv hp (opGo_ne (ne_of_beq_false (Bool.eq_false_iff.2 ho))) h1
    refine bT_congr (hR _ _ (hn1 _ rfl).1 (hn1 _ rfl).2 (by have := (hn1 _ rfl).1; omega) a1.2.1) fun u σ2 h2 => ?_
    have a2 := (hI _ _ _ _ a1.2.1 h2).1
    unfold Inv at a2
    split
    · rfl
    · exact ih _ σ2 a2.2.1 (by omega)
end
theorem term_q (s : ByteArray) (f : Nat) : TQ s f (termS f s) (termS (f + 1) s) := by
  induction f with
  | zero => intro n σ _ _ h; omega
  | succ f ih =>
    intro n σ h1 h13 hf hp
    have hI := inv_term f s
    by_cases e5 : n = 5
    · subst e5
      rw [term5_eq, term5_eq (f + 1)]
      split
      · rename_i hi
        refine bP_congr fun σ1 h1 => ?_
        have a1 := inv_adv hp (isS_ne hi) h1
        exact bT_congr (ih _ _ (by decide) (by decide) (by omega) a1.2.1) fun t σ2 h2 => rfl
      · exact ih 6 σ (by decide) (by decide) (by omega) hp
    by_cases e13 : n = 13
    · subst e13
      rw [term13_eq, term13_eq (f + 1)]
      split
      · rename_i hi
        refine bP_congr fun σ1 h1 => ?_
        have a1 := inv_adv hp (isS_ne hi) h1
        exact bT_congr (ih _ _ (by decide) (by decide) (by omega) a1.2.1) fun t σ2 h2 => rfl
      · refine bT_congr (atom_q hI ih hp (by omega)) fun t σ1 h1 => ?_
        have a1 := (inv_atom hI hp h1).1
        unfold Inv1 at a1
        exact after_q hI ih _ t σ1 a1.2.1 (by omega)
    rw [termn_eq f s n σ e5 e13, termn_eq (f + 1) s n σ e5 e13]
    refine bT_congr (ih _ _ (by omega) (by omega) (by omega) hp) fun t σ1 h1' => ?_
    have a1 := (hI _ _ _ _ hp h1').1
    unfold Inv at a1
    exact rest_q (lv_next n h1 (by omega)) hI ih _ t σ1 a1.2.1 (by omega)
theorem term_fuel (s : ByteArray) (f d : Nat) : TQ s f (termS f s) (termS (f + d) s) := by
  induction d with
  | zero => intro n σ _ _ _ _; rfl
  | succ d ih =>
    intro n σ h1 h2 h3 h4
    rw [ih n σ h1 h2 h3 h4]
    exact term_q s (f + d) n σ h1 h2 (by omega) h4
theorem bP_assoc {α β : Type} {q : Except ER PS} {k : PS → Except ER (α × PS)} {m : α → PS → Except ER β} : bT (bP q k) m = bP q fun σ => bT (k σ) m := by cases q <;> rfl
theorem bT_assoc {α β γ : Type} {q : Except ER (α × PS)} {k : α → PS → Except ER (β × PS)} {m : β → PS → Except ER γ} : bT (bT q k) m = bT q fun a σ => bT (k a σ) m := by cases q <;> rfl
theorem bT_ok {α β : Type} {q : Except ER (α × PS)} {k : α → PS → Except ER β} {x : β} (h : bT q k = .ok x) : ∃ a σ, q = .ok (a, σ) ∧ k a σ = .ok x := by
  cases q with
  | error r => cases h
  | ok p => exact ⟨p.1, p.2, rfl, h⟩
theorem bP_ok {β : Type} {q : Except ER PS} {k : PS → Except ER β} {x : β} (h : bP q k = .ok x) : ∃ σ, q = .ok σ ∧ k σ = .ok x := by
  cases q with
  | error r => cases h
  | ok p => exact ⟨p, rfl, h⟩
theorem is_eq {σ : PS} {t : ByteArray} (h : isS σ t = true) : σ.tx = t ∧ (σ.k = 3 ∨ (σ.k = 1 ∧ keywordB t = true)) := by
  unfold isS isB at h
  rw [Bool.or_eq_true, Bool.and_eq_true, Bool.and_eq_true, Bool.and_eq_true] at h
  rcases h with ⟨h1, h2⟩ | ⟨⟨h1, h2⟩, h3⟩
  · exact ⟨toList_inj (eq_of_beq h2), Or.inl (eq_of_beq h1)⟩
  · exact ⟨toList_inj (eq_of_beq h2), Or.inr ⟨eq_of_beq h1, h3⟩⟩
theorem opGo_mem {σ : PS} : ∀ {xs : List ByteArray} {os : List Int}, opGo σ xs os = 0 ∨ opGo σ xs os ∈ os := by
  intro xs
  induction xs with
  | nil => intro os; exact Or.inl (by unfold opGo; rfl)
  | cons x xs ih =>
    intro os
    cases os with
    | nil => exact Or.inl (by unfold opGo; rfl)
    | cons o os =>
      unfold opGo
      cases isS σ x
      · rcases ih (os := os) with h | h
        · exact Or.inl h
        · exact Or.inr (List.mem_cons_of_mem _ h)
      · exact Or.inr (List.mem_cons_self ..)
theorem rest_cases {T : TF} {s : ByteArray} {n : Nat} (g : Nat) : ∀ {t t' : Tm} {σ σ' : PS}, restS T s n g t σ = .ok (t', σ') → (t' = t ∧ σ' = σ) ∨ (t'.op ∈ lvOps n ∧ opOf n σ ≠ 0) := by
  induction g with
  | zero => intro t t' σ σ' h; cases h
  | succ g ih =>
    intro t t' σ σ' h
    rw [rest_eq] at h
    split at h
    · cases h; exact Or.inl ⟨rfl, rfl⟩
    · rename_i ho
      have ho' : opOf n σ ≠ 0 := ne_of_beq_false (Bool.eq_false_iff.2 ho)
      obtain ⟨σ1, h1, h⟩ := bP_ok h
      obtain ⟨u, σ2, h2, h⟩ := bT_ok h
      have hmem : opOf n σ ∈ lvOps n := by
        rcases opGo_mem (σ := σ) (xs := lvSigns n) (os := lvOps n) with e | e
        · exact absurd e ho'
        · exact e
      refine Or.inr ⟨?_, ho'⟩
      split at h
      · cases h; exact hmem
      · rcases ih h with ⟨rfl, _⟩ | h3
        · exact hmem
        · exact h3.1
theorem rest_same {T : TF} {s : ByteArray} {n g : Nat} {t : Tm} {σ : PS} (h : opOf n σ = 0) : restS T s n (g + 1) t σ = .ok (t, σ) := by
  rw [rest_eq, h]; rfl
theorem lv_six : lvOps 6 = [10, 11, 12, 13, 14, 15, 16, 17, 18] := rfl
theorem lv_no20 : ∀ n, n ≤ 12 → (20 : Int) ∉ lvOps n := by decide
theorem lv_no16 : ∀ n, n ≤ 12 → n ≠ 6 → (16 : Int) ∉ lvOps n := by decide
theorem op_in {σ : PS} (h : opOf 6 σ = 16) : isS σ kIn = true := by
  cases hi : isS σ kIn
  · exfalso
    revert h
    show opGo σ [⟨#[61]⟩, ⟨#[47, 61]⟩, ⟨#[60]⟩, ⟨#[60, 61]⟩, ⟨#[62]⟩, ⟨#[62, 61]⟩, kIn, ⟨#[110, 111, 116, 105, 110]⟩, ⟨#[115, 117, 98]⟩] [10, 11, 12, 13, 14, 15, 16, 17, 18] = 16 → False
    simp only [opGo, hi]
    repeat' split
    all_goals decide
  · rfl
theorem in_op {σ : PS} (h : isS σ kIn = true) : (∀ n, n ≤ 12 → n ≠ 6 → opOf n σ = 0) ∧ opOf 6 σ = 16 ∧ isS σ kLpar = false ∧ isS σ kLbr = false ∧ isS σ kTilde = false := by
  obtain ⟨h1, h2⟩ := is_eq h
  obtain ⟨p, k, tx, m, ta, nest⟩ := σ
  simp only at h1 h2
  subst h1
  rcases h2 with rfl | ⟨rfl, _⟩
  · refine ⟨?_, ?_, ?_, ?_, ?_⟩ <;> (try intro n hn hn6) <;> (try (have : n = 0 ∨ n = 1 ∨ n = 2 ∨ n = 3 ∨ n = 4 ∨ n = 5 ∨ n = 7 ∨ n = 8 ∨ n = 9 ∨ n = 10 ∨ n = 11 ∨ n = 12 := (by omega); rcases this with rfl | rfl | rfl | rfl | rfl | rfl | rfl | rfl | rfl | rfl | rfl | rfl)) <;> (show _ = _; kernel_rfl)
  · refine ⟨?_, ?_, ?_, ?_, ?_⟩ <;> (try intro n hn hn6) <;> (try (have : n = 0 ∨ n = 1 ∨ n = 2 ∨ n = 3 ∨ n = 4 ∨ n = 5 ∨ n = 7 ∨ n = 8 ∨ n = 9 ∨ n = 10 ∨ n = 11 ∨ n = 12 := (by omega); rcases this with rfl | rfl | rfl | rfl | rfl | rfl | rfl | rfl | rfl | rfl | rfl | rfl)) <;> (show _ = _; kernel_rfl)
theorem bar_op {σ : PS} (h : isS σ kBar = true) : ∀ n, n ≤ 4 → opOf n σ = 0 := by
  obtain ⟨h1, h2⟩ := is_eq h
  obtain ⟨p, k, tx, m, ta, nest⟩ := σ
  simp only at h1 h2
  subst h1
  intro n hn
  have : n = 0 ∨ n = 1 ∨ n = 2 ∨ n = 3 ∨ n = 4 := by omega
  rcases h2 with rfl | ⟨rfl, _⟩ <;> rcases this with rfl | rfl | rfl | rfl | rfl <;> (show _ = _; kernel_rfl)
theorem after_cases {T : TF} {s : ByteArray} (g : Nat) : ∀ {t t' : Tm} {σ σ' : PS}, afterS T s g t σ = .ok (t', σ') → (t' = t ∧ σ' = σ) ∨ (t'.op = 52 ∨ t'.op = 53 ∨ t'.op = 54) := by
  induction g with
  | zero => intro t t' σ σ' h; cases h
  | succ g ih =>
    intro t t' σ σ' h
    rw [after_eq] at h
    split at h
    · obtain ⟨u, σ2, h2, h⟩ := bT_ok h
      rcases ih h with ⟨rfl, _⟩ | h3
      · exact Or.inr (Or.inr (Or.inr rfl))
      · exact Or.inr h3
    split at h
    · obtain ⟨u, σ2, h2, h⟩ := bT_ok h
      rcases ih h with ⟨rfl, _⟩ | h3
      · exact Or.inr (Or.inr (Or.inl rfl))
      · exact Or.inr h3
    split at h
    · obtain ⟨σ2, h2, h⟩ := bP_ok h
      rcases ih h with ⟨rfl, _⟩ | h3
      · exact Or.inr (Or.inl rfl)
      · exact Or.inr h3
    · cases h; exact Or.inl ⟨rfl, rfl⟩
def Lone (s : ByteArray) (σ : PS) (t : Tm) (σ' : PS) : Prop := keywordB σ.tx = false ∧ t = nmT σ.tx ∧ advS s σ = .ok σ'
theorem bound_op {T : TF} {s : ByteArray} {op : Int} {σ σ' : PS} {t : Tm} (h : boundS T s op σ = .ok (t, σ')) : t.op = op := by
  rw [bound_eq] at h
  obtain ⟨_, _, _, h⟩ := bT_ok h
  obtain ⟨_, _, h⟩ := bP_ok h
  obtain ⟨_, _, _, h⟩ := bT_ok h
  obtain ⟨_, _, h⟩ := bP_ok h
  obtain ⟨_, _, _, h⟩ := bT_ok h
  cases h; rfl
theorem binder_op {T : TF} {s : ByteArray} {op : Int} {σ σ' : PS} {t : Tm} (h : binderS T s op σ = .ok (t, σ')) : t.op = op := by
  rw [binder_eq] at h
  obtain ⟨_, _, h⟩ := bP_ok h
  exact bound_op h
theorem leaf_op {s : ByteArray} {σ σ' : PS} {t t' : Tm} (h : leafS s t σ = .ok (t', σ')) : t' = t ∧ advS s σ = .ok σ' := by
  rw [leaf_eq] at h
  obtain ⟨_, h1, h⟩ := bP_ok h
  cases h; exact ⟨rfl, h1⟩
theorem fn_ge (x : ByteArray) : functionN x = 0 ∨ 46 ≤ functionN x := by
  unfold functionN
  split
  · right; omega
  · left; rfl
theorem worded_op {T : TF} {s : ByteArray} {σ σ' : PS} {t : Tm} (h : wordedS T s σ = .ok (t, σ')) : t.op ≠ 16 ∧ (t.op = 20 → Lone s σ t σ') := by
  rw [worded_eq] at h
  split at h
  · split at h
    · rename_i hf
      unfold funK at h
      obtain ⟨_, _, h⟩ := bP_ok h
      obtain ⟨_, _, _, h⟩ := bT_ok h
      cases h
      have h0 : functionN σ.tx ≠ 0 := by simpa using hf
      have h1 := fn_ge σ.tx
      exact ⟨fun e => by have e' : functionN σ.tx = 16 := e; omega, fun e => by have e' : functionN σ.tx = 20 := e; omega⟩
    split at h
    · obtain ⟨rfl, _⟩ := leaf_op h; exact ⟨by decide, fun e => absurd e (by decide)⟩
    split at h
    · obtain ⟨rfl, _⟩ := leaf_op h; exact ⟨by decide, fun e => absurd e (by decide)⟩
    split at h
    · rw [binder_op h]; exact ⟨by decide, fun e => absurd e (by decide)⟩
    split at h
    · rw [binder_op h]; exact ⟨by decide, fun e => absurd e (by decide)⟩
    split at h
    · rw [binder_op h]; exact ⟨by decide, fun e => absurd e (by decide)⟩
    · cases h
  · rename_i hk
    obtain ⟨rfl, h1⟩ := leaf_op h
    exact ⟨fun e => absurd e (show ¬ (20 : Int) = 16 by decide), fun _ => ⟨Bool.eq_false_iff.2 hk, rfl, h1⟩⟩
theorem word_term (s : ByteArray) (f : Nat) : ∀ (n : Nat) {σ σ' : PS} {t : Tm}, n ≤ 13 → σ.k = 1 → termS f s n σ = .ok (t, σ') → (t.op = 20 → Lone s σ t σ') ∧ (t.op = 16 → n ≤ 6 ∧ ∃ a d σ1, t = nd 16 [a, d] ∧ isS σ1 kIn = true ∧ (a.op = 20 → Lone s σ a σ1)) := by
  induction f with
  | zero => intro n σ σ' t _ _ h; cases h
  | succ f ih =>
    intro n σ σ' t hn hk h
    by_cases e5 : n = 5
    · subst e5
      rw [term5_eq] at h
      split at h
      · obtain ⟨_, _, h⟩ := bP_ok h
        obtain ⟨_, _, _, h⟩ := bT_ok h
        cases h; exact ⟨fun e => absurd e (show ¬ (3 : Int) = 20 by decide), fun e => absurd e (show ¬ (3 : Int) = 16 by decide)⟩
      · obtain ⟨a, c⟩ := ih 6 (by decide) hk h
        exact ⟨a, fun e => ⟨by decide, (c e).2⟩⟩
    by_cases e13 : n = 13
    · subst e13
      rw [term13_eq] at h
      split at h
      · obtain ⟨_, _, h⟩ := bP_ok h
        obtain ⟨_, _, _, h⟩ := bT_ok h
        cases h; exact ⟨fun e => absurd e (show ¬ (21 : Int) = 20 by decide), fun e => absurd e (show ¬ (21 : Int) = 16 by decide)⟩
      · obtain ⟨t0, σ0, h0, h⟩ := bT_ok h
        have h0' : wordedS (termS f s) s σ = .ok (t0, σ0) := by
          unfold atomS at h0
          rw [hk] at h0
          exact h0
        obtain ⟨w16, w20⟩ := worded_op h0'
        rcases after_cases _ h with ⟨rfl, rfl⟩ | h3
        · exact ⟨w20, fun e => absurd e w16⟩
        · exact ⟨fun e => by rcases h3 with e' | e' | e' <;> (rw [e'] at e; exact absurd e (by decide)), fun e => by rcases h3 with e' | e' | e' <;> (rw [e'] at e; exact absurd e (by decide))⟩
    rw [termn_eq f s n σ e5 e13] at h
    obtain ⟨t0, σ0, h0, h⟩ := bT_ok h
    obtain ⟨i20, i16⟩ := ih (n + 1) (by omega) hk h0
    by_cases e6 : n = 6
    · subst e6
      rw [rest_eq] at h
      split at h
      · cases h
        exact ⟨i20, fun e => absurd (i16 e).1 (by decide)⟩
      · obtain ⟨σ1, h1, h⟩ := bP_ok h
        obtain ⟨u, σ2, h2, h⟩ := bT_ok h
        have hg : (lvGroup 6 != 1) = true := rfl
        rw [if_pos hg] at h
        cases h
        have hmem : opOf 6 σ0 = 0 ∨ opOf 6 σ0 ∈ lvOps 6 := opGo_mem
        rw [lv_six] at hmem
        refine ⟨fun e => ?_, fun e => ⟨by decide, t0, u, σ0, ?_, op_in e, i20⟩⟩
        · have e' : opOf 6 σ0 = 20 := e
          rw [e'] at hmem; exact absurd hmem (by decide)
        · have e' : opOf 6 σ0 = 16 := e
          rw [e']
    · rcases rest_cases _ h with ⟨rfl, rfl⟩ | ⟨h3, _⟩
      · exact ⟨i20, fun e => ⟨by have := (i16 e).1; omega, (i16 e).2⟩⟩
      · exact ⟨fun e => by rw [e] at h3; exact absurd h3 (lv_no20 n (by omega)), fun e => by rw [e] at h3; exact absurd h3 (lv_no16 n (by omega) e6)⟩
theorem in_name {s : ByteArray} {σ σ1 : PS} (hk : σ.k = 1) (hw : keywordB σ.tx = false) (ha : advS s σ = .ok σ1) (hi : isS σ1 kIn = true) (d : Nat) : ∀ (n f : Nat), 7 ≤ n → n + d = 13 → d < f → termS f s n σ = .ok (nmT σ.tx, σ1) := by
  obtain ⟨i1, i2, i3, i4, i5⟩ := in_op hi
  induction d with
  | zero =>
    intro n f h7 hn hf
    obtain ⟨f, rfl⟩ : ∃ k, f = k + 1 := ⟨f - 1, by omega⟩
    obtain rfl : n = 13 := by omega
    rw [term13_eq, is_word hw σ hk rfl, if_neg (by simp)]
    have : atomS (termS f s) s σ = .ok (nmT σ.tx, σ1) := by
      unfold atomS
      rw [hk]
      show wordedS (termS f s) s σ = _
      rw [worded_eq, if_neg (by rw [hw]; simp), leaf_eq, ha]; rfl
    rw [this]
    show afterS (termS f s) s (s.size + 2) (nmT σ.tx) σ1 = _
    rw [after_eq, i3, i4, i5]; rfl
  | succ d ih =>
    intro n f h7 hn hf
    obtain ⟨f, rfl⟩ : ∃ k, f = k + 1 := ⟨f - 1, by omega⟩
    rw [termn_eq f s n σ (by omega) (by omega), ih (n + 1) f (by omega) (by omega) (by omega)]
    show restS (termS f s) s n (s.size + 2) (nmT σ.tx) σ1 = _
    exact rest_same (i1 n (by omega) (by omega))
def moreK (T : TF) (s : ByteArray) (t : Tm) (σ : PS) : RT :=
  bT (restS T s 4 (s.size + 2) t σ) fun a σ1 => bT (restS T s 3 (s.size + 2) a σ1) fun c σ2 => bT (restS T s 2 (s.size + 2) c σ2) fun d σ3 => restS T s 1 (s.size + 2) d σ3
theorem in_term {s : ByteArray} {σ σ1 : PS} (hp : σ.p ≤ s.size) (hk : σ.k = 1) (hw : keywordB σ.tx = false) (ha : advS s σ = .ok σ1) (hi : isS σ1 kIn = true) (f : Nat) (hf : 14 * mu s σ + 13 < f) :
    termS f s 1 σ = bP (advS s σ1) fun σ2 => bT (termS f s 7 σ2) fun d σ3 => moreK (termS f s) s (nd 16 [nmT σ.tx, d]) σ3 := by
  obtain ⟨f, rfl⟩ : ∃ k, f = k + 6 := ⟨f - 6, by omega⟩
  have m1 := mu_adv hp (by rw [hk]; decide) ha
  have p1 := adv_le hp ha
  obtain ⟨i1, i2, i3, i4, i5⟩ := in_op hi
  have e6 : termS (f + 1) s 6 σ = bP (advS s σ1) fun σ2 => bT (termS f s 7 σ2) fun d σ3 => .ok (nd 16 [nmT σ.tx, d], σ3) := by
    rw [termn_eq f s 6 σ (by decide) (by decide), in_name hk hw ha hi 6 7 f (by decide) (by decide) (by omega)]
    show restS (termS f s) s 6 (s.size + 2) (nmT σ.tx) σ1 = _
    rw [rest_eq, i2]
    rfl
  have e5 : termS (f + 2) s 5 σ = termS (f + 1) s 6 σ := by
    rw [term5_eq, is_word hw σ hk rfl, if_neg (by simp)]
  rw [termn_eq (f + 5) s 1 σ (by decide) (by decide), termn_eq (f + 4) s 2 σ (by decide) (by decide), termn_eq (f + 3) s 3 σ (by decide) (by decide), termn_eq (f + 2) s 4 σ (by decide) (by decide), e5, e6]
  simp only [bP_assoc, bT_assoc]
  refine bP_congr fun σ2 h2 => ?_
  have m2 := mu_adv p1 (isS_ne hi) h2
  have p2 := adv_le p1 h2
  refine bT_congr (term_fuel s f 6 7 σ2 (by decide) (by decide) (by omega) p2) fun d σ3 h3 => ?_
  have a3 := (inv_term f s _ _ _ _ p2 h3).1
  unfold Inv at a3
  unfold moreK
  show bT (restS (termS (f + 2) s) s 4 (s.size + 2) (nd 16 [nmT σ.tx, d]) σ3) _ = _
  have g2 : TQ s (f + 2) (termS (f + 2) s) (termS (f + 6) s) := term_fuel s (f + 2) 4
  have g3 : TQ s (f + 3) (termS (f + 3) s) (termS (f + 6) s) := term_fuel s (f + 3) 3
  have g4 : TQ s (f + 4) (termS (f + 4) s) (termS (f + 6) s) := term_fuel s (f + 4) 2
  have g5 : TQ s (f + 5) (termS (f + 5) s) (termS (f + 6) s) := term_fuel s (f + 5) 1
  refine bT_congr (rest_q (lv_next 4 (by decide) (by decide)) (inv_term _ s) g2 _ _ σ3 a3.2.1 (by omega)) fun a σ4 h4 => ?_
  have a4 := (inv_rest (inv_term _ s) _ (fun _ => rfl) a3.2.1 h4).1
  unfold Inv at a4
  refine bT_congr (rest_q (lv_next 3 (by decide) (by decide)) (inv_term _ s) g3 _ _ σ4 a4.2.1 (by omega)) fun c σ5 h5 => ?_
  have a5 := (inv_rest (inv_term _ s) _ (inv_rest (inv_term _ s) _ (fun _ => rfl) a3.2.1 h4).2 a4.2.1 h5)
  have b5 := a5.1
  unfold Inv at b5
  refine bT_congr (rest_q (lv_next 2 (by decide) (by decide)) (inv_term _ s) g4 _ _ σ5 b5.2.1 (by omega)) fun d σ6 h6 => ?_
  have a6 := (inv_rest (inv_term _ s) _ a5.2 b5.2.1 h6).1
  unfold Inv at a6
  exact rest_q (lv_next 1 (by decide) (by decide)) (inv_term _ s) g5 _ _ σ6 a6.2.1 (by omega)
theorem more_cases {T : TF} {s : ByteArray} {t t' : Tm} {σ σ' : PS} (h : moreK T s t σ = .ok (t', σ')) : (t' = t ∧ σ' = σ) ∨ t'.op ≠ 16 := by
  unfold moreK at h
  obtain ⟨a, σ1, h1, h⟩ := bT_ok h
  obtain ⟨c, σ2, h2, h⟩ := bT_ok h
  obtain ⟨d, σ3, h3, h⟩ := bT_ok h
  have k : ∀ n (x : Tm), n ≤ 12 → n ≠ 6 → x.op ∈ lvOps n → x.op ≠ 16 := fun n x h1 h2 h3 e => by rw [e] at h3; exact lv_no16 n h1 h2 h3
  rcases rest_cases _ h with ⟨rfl, rfl⟩ | ⟨q, _⟩
  · rcases rest_cases _ h3 with ⟨rfl, rfl⟩ | ⟨q, _⟩
    · rcases rest_cases _ h2 with ⟨rfl, rfl⟩ | ⟨q, _⟩
      · rcases rest_cases _ h1 with ⟨rfl, rfl⟩ | ⟨q, _⟩
        · exact Or.inl ⟨rfl, rfl⟩
        · exact Or.inr (k 4 _ (by decide) (by decide) q)
      · exact Or.inr (k 3 _ (by decide) (by decide) q)
    · exact Or.inr (k 2 _ (by decide) (by decide) q)
  · exact Or.inr (k 1 _ (by decide) (by decide) q)
theorem more_bar {T : TF} {s : ByteArray} {t : Tm} {σ : PS} (h : isS σ kBar = true) : moreK T s t σ = .ok (t, σ) := by
  have b := bar_op h
  unfold moreK
  rw [rest_same (b 4 (by decide))]
  show bT (restS T s 3 (s.size + 2) t σ) _ = _
  rw [rest_same (b 3 (by decide))]
  show bT (restS T s 2 (s.size + 2) t σ) _ = _
  rw [rest_same (b 2 (by decide))]
  exact rest_same (g := s.size + 1) (b 1 (by decide))
def followedB (s : ByteArray) (σ : PS) : Bool := match advS s σ with | .ok σ1 => isS σ1 kIn | .error _ => false
def headQ (s : ByteArray) (σ : PS) : Bool := (σ.k == 1) && identB σ.tx && followedB s σ
def barK (T : TF) (s x : ByteArray) (d : Tm) (σ4 : PS) : RT := bP (advS s σ4) fun σ5 => bT (T 1 σ5) fun c σ6 => bP (shutS s σ6 kRcu) fun σ7 => .ok (.mk 55 x 0 ty0 [d, c], σ7)
def comprK (T : TF) (s : ByteArray) (σ1 : PS) : RT :=
  bP (advS s σ1) fun σ2 => bP (advS s σ2) fun σ3 => bT (T 7 σ3) fun d σ4 =>
    if isS σ4 kBar = true then barK T s σ1.tx d σ4 else bT (moreK T s (nd 16 [nmT σ1.tx, d]) σ4) fun t σ5 => elemsK T s t σ5
theorem ident_word {x : ByteArray} (h : identB x = true) : keywordB x = false := by
  cases hk : keywordB x
  · rfl
  · unfold identB at h; rw [hk] at h; simp at h
theorem braces_doc {s : ByteArray} {σ1 : PS} (hp : σ1.p ≤ s.size) (f : Nat) (hf : 14 * mu s σ1 + 13 < f) :
    (bT (termS f s 1 σ1) fun t σ2 => elementsS (termS f s) s t (σ1.k == 1) σ2) = if headQ s σ1 = true then comprK (termS f s) s σ1 else bT (termS f s 1 σ1) fun t σ2 => elemsK (termS f s) s t σ2 := by
  cases hh : headQ s σ1
  · rw [if_neg (by simp)]
    refine bT_congr rfl fun t σ2 h => ?_
    rw [elements_eq, if_neg]
    intro hc
    rw [Bool.and_eq_true, Bool.and_eq_true] at hc
    obtain ⟨⟨_, h1⟩, h2⟩ := hc
    have hk : σ1.k = 1 := eq_of_beq h1
    unfold headB at h2
    rw [Bool.and_eq_true] at h2
    have h16 : t.op = 16 := eq_of_beq h2.1
    obtain ⟨_, a, d, σ3, rfl, hi, hl⟩ := (word_term s f 1 (by decide) hk h).2 h16
    have h3 : ((a.op == 20) && identB a.name) = true := h2.2
    rw [Bool.and_eq_true] at h3
    obtain ⟨l1, l2, l3⟩ := hl (eq_of_beq h3.1)
    subst l2
    have : headQ s σ1 = true := by
      unfold headQ followedB
      rw [h1, l3, show identB σ1.tx = true from h3.2]
      simpa using hi
    rw [this] at hh; cases hh
  · rw [if_pos rfl]
    unfold headQ at hh
    rw [Bool.and_eq_true, Bool.and_eq_true] at hh
    obtain ⟨⟨h1, h2⟩, h3⟩ := hh
    have hk : σ1.k = 1 := eq_of_beq h1
    unfold followedB at h3
    cases ha : advS s σ1 with
    | error r => rw [ha] at h3; cases h3
    | ok σ2 =>
      rw [ha] at h3
      have hi : isS σ2 kIn = true := h3
      rw [in_term hp hk (ident_word h2) ha hi f hf]
      unfold comprK
      rw [ha]
      simp only [bP_assoc, bT_assoc]
      show _ = bP (advS s σ2) _
      refine bP_congr fun σ3 h3 => bT_congr rfl fun d σ4 h4 => ?_
      cases hb : isS σ4 kBar
      · rw [if_neg (by simp)]
        refine bT_congr rfl fun t σ5 h5 => ?_
        rw [elements_eq, if_neg]
        intro hc
        rw [Bool.and_eq_true, Bool.and_eq_true] at hc
        obtain ⟨⟨c1, _⟩, c2⟩ := hc
        rcases more_cases h5 with ⟨rfl, rfl⟩ | h16
        · rw [hb] at c1; cases c1
        · unfold headB at c2
          rw [Bool.and_eq_true] at c2
          exact h16 (eq_of_beq c2.1)
      · rw [if_pos rfl, more_bar hb]
        show elementsS _ s (nd 16 [nmT σ1.tx, d]) (σ1.k == 1) σ4 = _
        rw [elements_eq, hb, h1, show headB (nd 16 [nmT σ1.tx, d]) = true by unfold headB; show ((16 : Int) == 16 && ((20 : Int) == 20 && identB σ1.tx)) = true; rw [h2]; rfl, if_pos (show (true && true && true) = true from rfl)]
        rfl
def RAt (w : World) (b : Nat) (s : ByteArray) (k : Int) (x : ByteArray) (a nest at_ e : Int) : Prop := Blk w b 58 [.string s, .int .i64 k, .string x, .int .i64 a, .int .i64 nest, .int .i64 at_, .int .i64 e]
section
variable {w : World} {b : Nat} {s : ByteArray} {k : Int} {x : ByteArray} {a nest at_ e : Int}
theorem RAt.c0 (h : RAt w b s k x a nest at_ e) : w.cell? ⟨b, 0, none⟩ = some (.string s) := Blk.cell h 0
theorem RAt.c1 (h : RAt w b s k x a nest at_ e) : w.cell? ⟨b, 1, none⟩ = some (.int .i64 k) := Blk.cell h 1
theorem RAt.c2 (h : RAt w b s k x a nest at_ e) : w.cell? ⟨b, 2, none⟩ = some (.string x) := Blk.cell h 2
theorem RAt.c3 (h : RAt w b s k x a nest at_ e) : w.cell? ⟨b, 3, none⟩ = some (.int .i64 a) := Blk.cell h 3
theorem RAt.c4 (h : RAt w b s k x a nest at_ e) : w.cell? ⟨b, 4, none⟩ = some (.int .i64 nest) := Blk.cell h 4
theorem RAt.c5 (h : RAt w b s k x a nest at_ e) : w.cell? ⟨b, 5, none⟩ = some (.int .i64 at_) := Blk.cell h 5
theorem RAt.c6 (h : RAt w b s k x a nest at_ e) : w.cell? ⟨b, 6, none⟩ = some (.int .i64 e) := Blk.cell h 6
theorem RAt.fz (h : RAt w b s k x a nest at_ e) (i : Nat) : w.frozen? ⟨b, i, none⟩ = false := Blk.frozen h i
theorem RAt.kept {w' : World} {S : Nat → Prop} (h : RAt w b s k x a nest at_ e) (hk : Kept S w w') (hs : ¬ S b) : RAt w' b s k x a nest at_ e := Blk.kept h hk hs
set_option maxHeartbeats 1000000 in
theorem rok_any (h : RAt w b s k x a nest at_ e) {v : Bool} (hv : (e == 0) = v) : Calls Tryz.prog 38 #[.pointer (some ⟨b, 0, none⟩)] w fun r w' => r = .returned (.bool v) ∧ w = w' := by
  have c6 := h.c6
  go_enter Tryz.func38, Tryz.ntmps38
  go_wp2_with fail
  go_ret
  exact ⟨rfl, rfl⟩
set_option maxHeartbeats 1000000 in
theorem rfail_live (h : RAt w b s k x a nest at_ e) (hv : (e == 0) = true) (e' at' : Int) : Calls Tryz.prog 122 #[.pointer (some ⟨b, 0, none⟩), .int .i64 e', .int .i64 at'] w fun r w' => r = .returned (.tuple #[]) ∧ RAt w' b s k x a nest at' e' ∧ Kept (· = b) w w' := by
  have c5 := h.c5
  have c6 := h.c6
  have f5 := h.fz 5
  have f6 := h.fz 6
  go_enter Tryz.func122, Tryz.ntmps122
  go_wp2_with (go_at_call 38; refine (rok_any h hv).mono ?_; rintro e w' ⟨rfl, rfl⟩)
  go_end0
  exact ⟨rfl, (Blk.set h 6 _).set 5 _, ((Kept.refl (fun x => x = b) _).setCell (Or.inl rfl) _).setCell (Or.inl rfl) _⟩
set_option maxHeartbeats 1000000 in
theorem rfail_dead (h : RAt w b s k x a nest at_ e) (hv : (e == 0) = false) (e' at' : Int) : Calls Tryz.prog 122 #[.pointer (some ⟨b, 0, none⟩), .int .i64 e', .int .i64 at'] w fun r w' => r = .returned (.tuple #[]) ∧ w = w' := by
  go_enter Tryz.func122, Tryz.ntmps122
  go_wp2_with (go_at_call 38; refine (rok_any h hv).mono ?_; rintro e w' ⟨rfl, rfl⟩)
  go_end0
  exact ⟨rfl, rfl⟩
set_option maxHeartbeats 1000000 in
theorem rwrong_live (h : RAt w b s k x a nest at_ e) (hv : (e == 0) = true) : Calls Tryz.prog 78 #[.pointer (some ⟨b, 0, none⟩)] w fun r w' => r = .returned (.tuple #[]) ∧ RAt w' b s k x a nest a 2 ∧ Kept (· = b) w w' := by
  have c3 := h.c3
  go_enter Tryz.func78, Tryz.ntmps78
  go_wp2_with (go_at_call 122; refine (rfail_live h hv 2 a).mono ?_; rintro e w' ⟨rfl, h', k'⟩)
  go_end0
  exact ⟨rfl, h', k'⟩
def isR (k : Int) (x t : ByteArray) : Bool := (k == 4 || k == 2) && (x.toList == t.toList)
set_option maxHeartbeats 1000000 in
theorem ris_any (h : RAt w b s k x a nest at_ e) (t : ByteArray) {v : Bool} (hv : isR k x t = v) : Calls Tryz.prog 74 #[.pointer (some ⟨b, 0, none⟩), .string t] w fun r w' => r = .returned (.bool v) ∧ w = w' := by
  have c1 := h.c1
  have c2 := h.c2
  unfold isR at hv
  cases h4 : (k == 4) <;> cases h2 : (k == 2) <;> cases ht : (x.toList == t.toList)
  all_goals
    rw [h4, h2, ht] at hv
    have HV := Lib.hid hv
    clear hv
    go_enter Tryz.func74, Tryz.ntmps74
    go_wp2_with fail
    go_ret
    exact ⟨by rw [← HV.out]; simp, rfl⟩
def PassAt (w' : World) (b : Nat) (s x : ByteArray) (a : Nat) (nest at_ e : Int) : Prop :=
  RAt w' b s (lexW s (skip s (a + x.size))).1 (lexW s (skip s (a + x.size))).2 (skip s (a + x.size)) (if inB x openers = true then nest + 1 else if inB x closers = true then nest - 1 else nest)
    (if inB x openers = true ∧ 64 < nest + 1 ∧ e = 0 then a else at_) (if inB x openers = true ∧ 64 < nest + 1 ∧ e = 0 then 4 else e)
end
theorem op_cl {x : ByteArray} (h : inB x openers = true) : inB x closers = false := by
  have := inB_iff.1 h
  revert this
  have key : ∀ y ∈ openers, inB y closers = false := by decide +kernel
  exact key x
theorem rin_list (s : ByteArray) (xs : List ByteArray) (hl : xs.length ≤ 1000) (w : World) {v : Bool} (hv : inB s xs = v) :
    Calls Tryz.prog 92 #[.string s, .slice (some ⟨w.heap.size, 0, none⟩) xs.length xs.length] (w.alloc (.cells (xs.map Value.string).toArray 9)) fun e w' => e = .returned (.bool v) ∧ w.alloc (.cells (xs.map Value.string).toArray 9) = w' := by
  rw [← hv]
  refine rin_any s xs w.heap.size xs.length _ (fun i h => ?_) hl
  have hb : Blk (w.alloc (.cells (xs.map Value.string).toArray 9)) w.heap.size 9 (xs.map Value.string) := Blk.new w 9 _
  rw [hb.cell i, List.getElem?_map, List.getElem?_eq_getElem h]; rfl
theorem rlex_at (s : ByteArray) (i : Nat) (j : Int) (hj : j = i) (w : World) (hi : i ≤ s.size) (hs : s.size ≤ 65536) : Calls Tryz.prog 35 #[.string s, .int .i64 j] w (LexP s i w) := by
  rw [hj]; exact rlex_any s i w hi hs
theorem RAt.grow {w w' : World} {b : Nat} {s : ByteArray} {k : Int} {x : ByteArray} {a nest at_ e : Int} (h : RAt w b s k x a nest at_ e) (hk : Kept (fun _ => False) w w') : RAt w' b s k x a nest at_ e := h.kept hk id
theorem RAt.nest' {w : World} {b : Nat} {s : ByteArray} {k : Int} {x : ByteArray} {a nest at_ e : Int} (h : RAt w b s k x a nest at_ e) (v : Int) : RAt (w.setCell ⟨b, 4, none⟩ (.int .i64 v)) b s k x a v at_ e := Blk.set h 4 _
theorem RAt.tok' {w : World} {b : Nat} {s : ByteArray} {k : Int} {x : ByteArray} {a nest at_ e : Int} (h : RAt w b s k x a nest at_ e) (k' : Int) (x' : ByteArray) (a' : Int) : RAt (((w.setCell ⟨b, 1, none⟩ (.int .i64 k')).setCell ⟨b, 2, none⟩ (.string x')).setCell ⟨b, 3, none⟩ (.int .i64 a')) b s k' x' a' nest at_ e := ((Blk.set h 1 _).set 2 _).set 3 _
set_option maxRecDepth 10000 in
set_option maxHeartbeats 8000000 in
theorem pass_any {w : World} {b : Nat} {s : ByteArray} {k : Int} {x : ByteArray} {a : Nat} {nest at_ e : Int} (h : RAt w b s k x a nest at_ e) (hs : s.size ≤ 65536) (ha : a + x.size ≤ s.size) (hn : -1000 ≤ nest ∧ nest ≤ 1000) :
    Calls Tryz.prog 75 #[.pointer (some ⟨b, 0, none⟩)] w fun r w' => r = .returned (.tuple #[]) ∧ PassAt w' b s x a nest at_ e ∧ Kept (· = b) w w' := by
  have c2 := h.c2
  have hlt := Blk.lt h
  have hn1 := hn.1
  have hn2 := hn.2
  go_enter Tryz.func75, Tryz.ntmps75
  go_wp2_with fail
  refine (rin_list x openers (by decide) w rfl).mono ?_
  rintro e1 w1 ⟨rfl, rfl⟩
  have h1 := h.grow ((Kept.refl _ _).alloc (.cells (openers.map Value.string).toArray 9))
  have k1 : Kept (fun x => x = b) w (w.alloc (.cells (openers.map Value.string).toArray 9)) := (Kept.refl _ _).alloc _
  generalize w.alloc (.cells (openers.map Value.string).toArray 9) = w1 at *
  have d3 := h1.c3
  have d4 := h1.c4
  have g4 := h1.fz 4
  go_upto_if 8 with (fail)
  go_cut [] (fun wc => RAt wc b s k x a (if inB x openers = true then nest + 1 else nest) (if inB x openers = true ∧ 64 < nest + 1 ∧ e = 0 then a else at_) (if inB x openers = true ∧ 64 < nest + 1 ∧ e = 0 then 4 else e) ∧ Kept (fun x => x = b) w wc)
  case first =>
    cases ho : inB x openers
    · go_wp2_with fail
      go_meet
      exact ⟨by simpa [ho] using h1, k1⟩
    · have h2 := h1.nest' (nest + 1)
      have k2 : Kept (fun x => x = b) w (w1.setCell ⟨b, 4, none⟩ (.int .i64 (nest + 1))) := k1.setCell (Or.inl rfl) _
      by_cases hd : 64 < nest + 1
      · have hdB : decide (64 < nest + 1) = true := decide_eq_true hd
        cases he : (e == 0)
        · have hne : e ≠ 0 := ne_of_beq_false he
          go_wp2_with (go_at_call 122; refine (rfail_dead h2 he 4 a).mono ?_; rintro e2 w2 ⟨rfl, rfl⟩)
          go_meet
          exact ⟨by simpa [ho, hne] using h2, k2⟩
        · have h0 : e = 0 := eq_of_beq he
          have H0 := Lib.hid h0
          clear h0
          go_wp2_with (go_at_call 122; refine (rfail_live h2 he 4 a).mono ?_; rintro e2 w2 ⟨rfl, h3, k3⟩)
          go_meet
          exact ⟨by simpa [ho, H0.out, hd] using h3, k2.trans k3⟩
      · have hdB : decide (64 < nest + 1) = false := decide_eq_false hd
        go_wp2_with fail
        go_meet
        have e1 : ¬ (inB x openers = true ∧ 64 < nest + 1 ∧ e = 0) := fun q => by have := q.2.1; omega
        exact ⟨by rw [if_neg e1, if_neg e1, if_pos ho]; exact h2, k2⟩
  case rest =>
    obtain ⟨hx, kx⟩ := hcut
    have hb1 : -1001 ≤ (if inB x openers = true then nest + 1 else nest) ∧ (if inB x openers = true then nest + 1 else nest) ≤ 1001 := by split <;> omega
    have HP : Hid ((if inB x openers = true then nest + 1 else if inB x closers = true then nest - 1 else nest) = if inB x closers = true then (if inB x openers = true then nest + 1 else nest) - 1 else (if inB x openers = true then nest + 1 else nest)) := Lib.hid (by
      cases ho : inB x openers
      · simp
      · simp [op_cl ho])
    have PA : Hid (∀ W, PassAt W b s x a nest at_ e = RAt W b s (lexW s (skip s (a + x.size))).1 (lexW s (skip s (a + x.size))).2 (skip s (a + x.size)) (if inB x openers = true then nest + 1 else if inB x closers = true then nest - 1 else nest) (if inB x openers = true ∧ 64 < nest + 1 ∧ e = 0 then a else at_) (if inB x openers = true ∧ 64 < nest + 1 ∧ e = 0 then 4 else e)) := Lib.hid (fun W => rfl)
    rw [HP.out] at PA
    clear HP
    generalize (if inB x openers = true then nest + 1 else nest) = N1 at *
    generalize (if inB x openers = true ∧ 64 < nest + 1 ∧ e = 0 then (a : Int) else at_) = A1 at *
    generalize (if inB x openers = true ∧ 64 < nest + 1 ∧ e = 0 then (4 : Int) else e) = E1 at *
    have e2 := hx.c2
    go_wp2_with fail
    refine (rin_list x closers (by decide) wc rfl).mono ?_
    rintro e1 w2 ⟨rfl, rfl⟩
    have h2 := hx.grow ((Kept.refl _ _).alloc (.cells (closers.map Value.string).toArray 9))
    have k2 : Kept (fun x => x = b) w (wc.alloc (.cells (closers.map Value.string).toArray 9)) := kx.alloc _
    generalize wc.alloc (.cells (closers.map Value.string).toArray 9) = w2 at *
    have g4 := h2.c4
    have q4 := h2.fz 4
    go_upto_if 34 with (fail)
    go_cut [] (fun wd => RAt wd b s k x a (if inB x closers = true then N1 - 1 else N1) A1 E1 ∧ Kept (fun x => x = b) w wd)
    case first =>
      cases hc : inB x closers
      · go_wp2_with fail
        go_meet
        exact ⟨by simpa [hc] using h2, k2⟩
      · go_wp2_with fail
        go_meet
        exact ⟨by simpa [hc] using h2.nest' (N1 - 1), k2.setCell (Or.inl rfl) _⟩
    case rest =>
      obtain ⟨hy, ky⟩ := hcut
      generalize (if inB x closers = true then N1 - 1 else N1) = N2 at *
      have d0 := hy.c0
      have d1 := hy.c1
      have d2 := hy.c2
      have d3 := hy.c3
      have f1 := hy.fz 1
      have f2 := hy.fz 2
      have f3 := hy.fz 3
      clear h hx h1 h2 c2 hb1 hn1 hn2 hn
      have hsz := hs
      have haz := ha
      go_wp2_with fail
      have HW : Hid (IntKind.i64.wrap ((a : Int) + (x.size : Int)) = ((a + x.size : Nat) : Int)) := Lib.hid ((IntWalk.i64_in _ (by omega)).trans (by omega))
      go_region_with (go_at_call 35; refine (rlex_at s (a + x.size) _ HW.out _ ha hs).mono ?_; rintro e3 w3 ⟨rfl, k3'⟩; have k3 : Kept (fun _ => False) wc w3 := ((Kept.refl _ _).drew).trans k3'; have h3 := hy.grow k3; have m0 := h3.c0; have m1 := h3.c1; have m2 := h3.c2; have m3 := h3.c3; have n1 := h3.fz 1; have n2 := h3.fz 2; have n3 := h3.fz 3)
      all_goals
        go_end0
        exact ⟨rfl, by rw [PA.out]; exact h3.tok' _ _ _, ((ky.trans (k3.mono (fun _ _ h => h.elim))).setCell (Or.inl rfl) _ |>.setCell (Or.inl rfl) _ |>.setCell (Or.inl rfl) _)⟩
structure Tk (s : ByteArray) (σ : PS) : Prop where
  tok : tokAt s σ.ta = some (σ.p, σ.k, σ.tx, σ.n)
  le : σ.ta ≤ s.size
  nest : σ.nest ≤ 64
def RQ (w : World) (b : Nat) (s : ByteArray) : Except ER PS → Prop
  | .ok σ => RAt w b s (lexW s σ.ta).1 (lexW s σ.ta).2 σ.ta σ.nest 0 0 ∧ Tk s σ
  | .error r => (r.1 = false ∧ ∃ x nest, RAt w b s 5 x r.2 nest 0 0) ∨ ∃ k x a nest, RAt w b s k x a nest r.2 (if r.1 = true then 4 else 2)
structure RR (w : World) (b : Nat) (s : ByteArray) (q : Except ER PS) : Prop where
  src : s.size ≤ 65536
  st : RQ w b s q
theorem RQ.kept {w w' : World} {b : Nat} {s : ByteArray} {S : Nat → Prop} (hk : Kept S w w') (hs : ¬ S b) : ∀ {q : Except ER PS}, RQ w b s q → RQ w' b s q
  | .ok _, ⟨h, t⟩ => ⟨h.kept hk hs, t⟩
  | .error _, .inl ⟨h, x, n, r⟩ => .inl ⟨h, x, n, r.kept hk hs⟩
  | .error _, .inr ⟨k, x, a, n, r⟩ => .inr ⟨k, x, a, n, r.kept hk hs⟩
theorem RR.kept {w w' : World} {b : Nat} {s : ByteArray} {q : Except ER PS} {S : Nat → Prop} (h : RR w b s q) (hk : Kept S w w') (hs : ¬ S b) : RR w' b s q := ⟨h.src, h.st.kept hk hs⟩
theorem RR.lt {w : World} {b : Nat} {s : ByteArray} {q : Except ER PS} (h : RR w b s q) : b < w.heap.size := by
  have := h.st
  match q, this with
  | .ok _, ⟨h, _⟩ => exact Blk.lt h
  | .error _, .inl ⟨_, _, _, h⟩ => exact Blk.lt h
  | .error _, .inr ⟨_, _, _, _, h⟩ => exact Blk.lt h
theorem RR.alloc {w : World} {b : Nat} {s : ByteArray} {q : Except ER PS} (h : RR w b s q) (o : Obj) : RR (w.alloc o) b s q := h.kept (S := fun _ => False) ((Kept.refl _ _).alloc o) id
theorem RR.drew {w : World} {b : Nat} {s : ByteArray} {q : Except ER PS} (h : RR w b s q) : RR w.drew b s q := h.kept (S := fun _ => False) ((Kept.refl _ _).drew) id
theorem RR.store {w : World} {b : Nat} {s : ByteArray} {q : Except ER PS} (h : RR w b s q) {p : Addr} (hb : p.block ≠ b) (v : Value) : RR (w.setCell p v) b s q :=
  h.kept (S := (· = p.block)) ((Kept.refl (fun x => x = p.block) _).setCell (Or.inl rfl) v) (fun e => hb e.symm)
theorem Tk.lex {s : ByteArray} {σ : PS} (h : Tk s σ) : σ.p = σ.ta + (lexW s σ.ta).2.size ∧ σ.p ≤ s.size ∧ TokR s σ.ta σ.k σ.tx σ.n := by
  have := lex_tok h.le
  rw [h.tok] at this
  exact this
theorem is_lex {s : ByteArray} {σ : PS} (h : Tk s σ) (t : ByteArray) : isR (lexW s σ.ta).1 (lexW s σ.ta).2 t = isS σ t := by
  have hr := h.lex.2.2
  unfold isR isS isB
  generalize σ.k = k at hr ⊢
  generalize σ.tx = tx at hr ⊢
  generalize σ.n = n at hr
  cases hr with
  | fin h _ => rw [h]; rfl
  | word _ h hk _ =>
    rw [h]
    cases e : (tx.toList == t.toList)
    · simp
    · have : keywordB t = keywordB tx := by unfold keywordB; rw [eq_of_beq e]
      simp [this, hk]
  | name _ h hk _ _ =>
    rw [h]
    cases e : (tx.toList == t.toList)
    · simp
    · have : keywordB t = keywordB tx := by unfold keywordB; rw [eq_of_beq e]
      simp [this, hk]
  | num x _ h _ _ => rw [h]; simp
  | sgn _ h _ => rw [h]; simp
def passS (s : ByteArray) (σ : PS) : Except ER PS :=
  if inB (lexW s σ.ta).2 openers = true then (if σ.nest = 64 then .error (true, σ.ta) else advS s { σ with nest := σ.nest + 1 })
  else if inB (lexW s σ.ta).2 closers = true then bP (advS s σ) fun σ1 => .ok { σ1 with nest := σ1.nest - 1 }
  else advS s σ
def RU (b : Nat) (s : ByteArray) (q : Except ER PS) (w : World) (e : Ending) (w' : World) : Prop := e = .returned (.tuple #[]) ∧ RR w' b s q ∧ Kept (· = b) w w'
theorem adv_rq {w' : World} {b : Nat} {s : ByteArray} {σ : PS} {fr : Nat} (hs : s.size ≤ 65536) (hfr : skip s σ.p = fr) (hle : fr ≤ s.size) (hn : σ.nest ≤ 64) (h : RAt w' b s (lexW s fr).1 (lexW s fr).2 fr σ.nest 0 0) : RR w' b s (advS s σ) := by
  refine ⟨hs, ?_⟩
  have hl := lex_tok hle
  unfold advS
  rw [hfr]
  cases ht : tokAt s fr with
  | none =>
    rw [ht] at hl
    rw [hl.1] at h
    exact Or.inl ⟨rfl, _, _, h⟩
  | some t =>
    exact ⟨h, ⟨ht, hle, hn⟩⟩
theorem pass_ok {w : World} {b : Nat} {s : ByteArray} {σ : PS} (h : RR w b s (.ok σ)) (hc : inB (lexW s σ.ta).2 closers = true → 1 ≤ σ.nest) :
    Calls Tryz.prog 75 #[.pointer (some ⟨b, 0, none⟩)] w (RU b s (passS s σ) w) := by
  obtain ⟨hs, hat, tk⟩ := h
  have hx := tk.lex
  have hn := tk.nest
  refine (pass_any hat hs (by omega) (by omega)).mono ?_
  rintro r w' ⟨rfl, hp, kp⟩
  refine ⟨rfl, ?_, kp⟩
  unfold PassAt at hp
  rw [← hx.1] at hp
  have hle := skip_le s σ.p hx.2.1
  unfold passS
  cases ho : inB (lexW s σ.ta).2 openers
  · rw [ho] at hp
    rw [if_neg (by simp)]
    cases hcl : inB (lexW s σ.ta).2 closers
    · rw [hcl] at hp
      rw [if_neg (by simp)]
      exact adv_rq hs rfl hle hn (by simpa using hp)
    · rw [hcl] at hp
      have h1 := hc hcl
      rw [if_pos rfl]
      have key := adv_rq (σ := { σ with nest := σ.nest - 1 }) hs rfl hle (by show σ.nest - 1 ≤ 64; omega) (w' := w') (b := b) (by
        have e : ((σ.nest - 1 : Nat) : Int) = (σ.nest : Int) - 1 := by omega
        show RAt w' b s _ _ _ ((σ.nest - 1 : Nat) : Int) 0 0
        rw [e]; simpa using hp)
      have e2 : (bP (advS s σ) fun σ1 => .ok { σ1 with nest := σ1.nest - 1 }) = advS s { σ with nest := σ.nest - 1 } := by
        unfold advS
        show bP (match tokAt s (skip s σ.p) with | some t => _ | none => _) _ = (match tokAt s (skip s σ.p) with | some t => _ | none => _)
        cases tokAt s (skip s σ.p) <;> rfl
      rw [e2]; exact key
  · rw [ho] at hp
    rw [if_pos rfl]
    by_cases h64 : σ.nest = 64
    · rw [if_pos h64]
      have hc : (true = true ∧ (64 : Int) < (σ.nest : Int) + 1 ∧ (0 : Int) = 0) := ⟨rfl, by omega, rfl⟩
      rw [if_pos rfl, if_pos hc, if_pos hc] at hp
      exact ⟨hs, Or.inr ⟨_, _, _, _, hp⟩⟩
    · rw [if_neg h64]
      have hc : ¬ (true = true ∧ (64 : Int) < (σ.nest : Int) + 1 ∧ (0 : Int) = 0) := fun q => by have := q.2.1; omega
      rw [if_pos rfl, if_neg hc, if_neg hc] at hp
      exact adv_rq (σ := { σ with nest := σ.nest + 1 }) hs rfl hle (by show σ.nest + 1 ≤ 64; omega) (by simpa using hp)
theorem pass_deep {w : World} {b : Nat} {s : ByteArray} {σ : PS} (h : RR w b s (.ok σ)) (ho : inB (lexW s σ.ta).2 openers = true) (h64 : σ.nest = 64) :
    Calls Tryz.prog 75 #[.pointer (some ⟨b, 0, none⟩)] w fun e w' => e = .returned (.tuple #[]) ∧ (∃ (k : Int) (x : ByteArray) (a : Nat), RAt w' b s k x a 65 σ.ta 4 ∧ a + x.size ≤ s.size) ∧ Kept (· = b) w w' := by
  obtain ⟨hs, hat, tk⟩ := h
  have hx := tk.lex
  have hn := tk.nest
  refine (pass_any hat hs (by omega) (by omega)).mono ?_
  rintro r w' ⟨rfl, hp, kp⟩
  refine ⟨rfl, ?_, kp⟩
  unfold PassAt at hp
  rw [← hx.1] at hp
  have hle := skip_le s σ.p hx.2.1
  have hc : (inB (lexW s σ.ta).2 openers = true ∧ (64 : Int) < (σ.nest : Int) + 1 ∧ (0 : Int) = 0) := ⟨ho, by omega, rfl⟩
  rw [if_pos ho, if_pos hc, if_pos hc] at hp
  refine ⟨_, _, _, by rw [show (65 : Int) = (σ.nest : Int) + 1 by omega]; exact hp, ?_⟩
  have hl := lex_tok hle
  cases ht : tokAt s (skip s σ.p) with
  | none => rw [ht] at hl; exact hl.2
  | some t => rw [ht] at hl; have := hl.1; have := hl.2.1; omega
def mustS (s t : ByteArray) (σ : PS) : Except ER PS := if isS σ t = true then passS s σ else .error (false, σ.ta)
theorem is_tx {s : ByteArray} {σ : PS} {t : ByteArray} (h : Tk s σ) (hi : isS σ t = true) : (lexW s σ.ta).2 = t := by
  rw [← is_lex h t] at hi
  unfold isR at hi
  rw [Bool.and_eq_true] at hi
  exact toList_inj (eq_of_beq hi.2)
theorem pass_want {s : ByteArray} {σ : PS} {t : ByteArray} (h : Tk s σ) (hi : isS σ t = true) (ho : inB t openers = false) (hc : inB t closers = false) : passS s σ = advS s σ := by
  unfold passS; rw [is_tx h hi, ho, hc]; rfl
theorem pass_open {s : ByteArray} {σ : PS} {t : ByteArray} (h : Tk s σ) (hi : isS σ t = true) (ho : inB t openers = true) : passS s σ = openS s σ t := by
  unfold passS openS; rw [is_tx h hi, ho, hi, if_pos rfl, if_pos rfl]
theorem want_yes {s : ByteArray} {σ : PS} {t : ByteArray} (hi : isS σ t = true) : wantS s σ t = advS s σ := by
  unfold wantS eatS
  rw [if_pos hi]
  cases advS s σ <;> rfl
theorem pass_shut {s : ByteArray} {σ : PS} {t : ByteArray} (h : Tk s σ) (hi : isS σ t = true) (hc : inB t closers = true) : passS s σ = shutS s σ t := by
  have ho : inB t openers = false := by
    cases e : inB t openers
    · rfl
    · rw [op_cl e] at hc; cases hc
  unfold passS shutS; rw [is_tx h hi, ho, hc, want_yes hi]
  cases advS s σ <;> rfl
theorem must_want {s : ByteArray} {σ : PS} {t : ByteArray} (h : Tk s σ) (ho : inB t openers = false) (hc : inB t closers = false) : mustS s t σ = wantS s σ t := by
  unfold mustS
  cases hi : isS σ t
  · unfold wantS eatS; rw [hi]; rfl
  · rw [if_pos rfl, pass_want h hi ho hc, want_yes hi]
theorem must_open {s : ByteArray} {σ : PS} {t : ByteArray} (h : Tk s σ) (ho : inB t openers = true) : mustS s t σ = openS s σ t := by
  unfold mustS
  cases hi : isS σ t
  · unfold openS; rw [hi]; rfl
  · rw [if_pos rfl, pass_open h hi ho]
theorem must_shut {s : ByteArray} {σ : PS} {t : ByteArray} (h : Tk s σ) (hc : inB t closers = true) : mustS s t σ = shutS s σ t := by
  unfold mustS
  cases hi : isS σ t
  · unfold shutS wantS eatS; rw [hi]; rfl
  · rw [if_pos rfl, pass_shut h hi hc]
theorem e_dead (d : Bool) : (((if d = true then 4 else 2 : Int)) == 0) = false := by cases d <;> rfl
set_option maxHeartbeats 1000000 in
theorem must_any {w : World} {b : Nat} {s : ByteArray} {q : Except ER PS} (h : RR w b s q) (t : ByteArray) (hc : ∀ σ, q = .ok σ → inB t closers = true → 1 ≤ σ.nest) :
    Calls Tryz.prog 90 #[.pointer (some ⟨b, 0, none⟩), .string t] w (RU b s (bP q (mustS s t)) w) := by
  have hs := h.src
  match q, h, h.st with
  | .error r, h, .inl ⟨hd, x, nest, hat⟩ =>
    go_enter Tryz.func90, Tryz.ntmps90
    go_wp2_with (first | (go_at_call 38; refine (rok_any hat rfl).mono ?_; rintro e w' ⟨rfl, rfl⟩) | (go_at_call 74; refine (ris_any hat t rfl).mono ?_; rintro e w' ⟨rfl, rfl⟩) | (go_at_call 78; refine (rwrong_live hat rfl).mono ?_; rintro e w' ⟨rfl, h', k'⟩))
    go_end0
    exact ⟨rfl, ⟨hs, Or.inr ⟨_, _, _, _, by rw [hd]; exact h'⟩⟩, k'⟩
  | .error r, h, .inr ⟨k, x, a, nest, hat⟩ =>
    go_enter Tryz.func90, Tryz.ntmps90
    go_wp2_with (first | (go_at_call 38; refine (rok_any hat (e_dead _)).mono ?_; rintro e w' ⟨rfl, rfl⟩))
    go_end0
    exact ⟨rfl, h, Kept.refl _ _⟩
  | .ok σ, h, ⟨hat, tk⟩ =>
    have hc' := Lib.hid (hc σ rfl)
    clear hc
    cases hi : isS σ t
    · have HI := Lib.hid ((is_lex tk t).trans hi)
      have HR := Lib.hid (show bP (.ok σ) (mustS s t) = .error (false, σ.ta) by show mustS s t σ = _; unfold mustS; rw [hi]; rfl)
      clear hi
      go_enter Tryz.func90, Tryz.ntmps90
      go_wp2_with (first | (go_at_call 38; refine (rok_any hat rfl).mono ?_; rintro e w' ⟨rfl, rfl⟩) | (go_at_call 74; refine (ris_any hat t HI.out).mono ?_; rintro e w' ⟨rfl, rfl⟩) | (go_at_call 78; refine (rwrong_live hat rfl).mono ?_; rintro e w' ⟨rfl, h', k'⟩))
      go_end0
      exact ⟨rfl, ⟨hs, by rw [HR.out]; exact Or.inr ⟨_, _, _, _, h'⟩⟩, k'⟩
    · have HI := Lib.hid ((is_lex tk t).trans hi)
      have HX := Lib.hid (is_tx tk hi)
      have HR := Lib.hid (show bP (.ok σ) (mustS s t) = passS s σ by show mustS s t σ = _; unfold mustS; rw [hi]; rfl)
      clear hi
      go_enter Tryz.func90, Tryz.ntmps90
      go_wp2_with (first | (go_at_call 38; refine (rok_any hat rfl).mono ?_; rintro e w' ⟨rfl, rfl⟩) | (go_at_call 74; refine (ris_any hat t HI.out).mono ?_; rintro e w' ⟨rfl, rfl⟩) | (go_at_call 75; refine (pass_ok h (fun q => hc'.out (by rw [← HX.out]; exact q))).mono ?_; rintro e w' ⟨rfl, h', k'⟩))
      go_end0
      exact ⟨rfl, by rw [HR.out]; exact h', k'⟩
set_option maxHeartbeats 1000000 in
theorem primed_any (x : ByteArray) (w : World) (hs : x.size ≤ 65536) {v : Bool} (hv : primB x = v) :
    Calls Tryz.prog 89 #[.string x] w fun e w' => e = .returned (.bool v) ∧ Kept (fun _ => False) w w' := by
  unfold primB at hv
  by_cases h1 : 1 < x.size
  · rw [dif_pos h1] at hv
    have i1 : (1 : Int) < (x.size : Int) := by omega
    have i2 : x.size - 1 < x.size := by omega
    have i3 : (x.size : Int) - 1 = ((x.size - 1 : Nat) : Int) := by omega
    cases h39 : ((x[x.size - 1].toNat : Int) == 39)
    · rw [h39] at hv
      have HV := Lib.hid hv
      clear hv
      go_enter Tryz.func89, Tryz.ntmps89
      go_wp2_with fail
      go_ret
      exact ⟨by rw [← HV.out]; rfl, Kept.refl _ _⟩
    · rw [h39] at hv
      have HV := Lib.hid hv
      clear hv
      have hz : (x.extract 0 (x.size - 1)).size ≤ 9223372036854775807 := by rw [ByteArray.size_extract]; omega
      go_enter Tryz.func89, Tryz.ntmps89
      go_wp2_with fail
      refine (rident_any _ _ hz).mono ?_
      rintro e w' ⟨rfl, k'⟩
      go_wp2_with fail
      go_ret
      exact ⟨by rw [← HV.out]; simp, k'⟩
  · rw [dif_neg h1] at hv
    have i1 : ¬ (1 : Int) < (x.size : Int) := by omega
    have HV := Lib.hid hv
    clear hv
    go_enter Tryz.func89, Tryz.ntmps89
    go_wp2_with fail
    go_ret
    exact ⟨by rw [← HV.out]; rfl, Kept.refl _ _⟩
theorem tok_yes {s : ByteArray} {σ : PS} (h : Tk s σ) (hk : σ.k = 1) (hi : identB σ.tx = true) : lexW s σ.ta = (1, σ.tx) ∧ primB σ.tx = false ∧ noBr σ.tx := by
  have hr := h.lex.2.2
  revert hr
  generalize hkk : σ.k = k
  generalize htt : σ.tx = tx
  generalize σ.n = n
  rw [hkk] at hk
  rw [htt] at hi
  intro hr
  cases hr with
  | fin _ _ => cases hk
  | word _ h hw _ => rw [ident_word hi] at hw; cases hw
  | name _ h hw hp hn => exact ⟨h, by rw [hp, hi]; rfl, hn⟩
  | num _ _ _ _ _ => cases hk
  | sgn _ _ _ => cases hk
theorem tok_no {s : ByteArray} {σ : PS} (h : Tk s σ) (hc : ¬ (σ.k = 1 ∧ identB σ.tx = true)) : ((lexW s σ.ta).1 == 1) = false ∨ ((lexW s σ.ta).1 = 1 ∧ primB (lexW s σ.ta).2 = true) := by
  have hr := h.lex.2.2
  revert hr
  generalize hkk : σ.k = k
  generalize htt : σ.tx = tx
  generalize σ.n = n
  rw [hkk, htt] at hc
  intro hr
  cases hr with
  | fin h _ => rw [h]; exact Or.inl rfl
  | word _ h hw _ => rw [h]; exact Or.inl rfl
  | name _ h hw hp hn =>
    rw [h]
    refine Or.inr ⟨rfl, ?_⟩
    cases e : identB tx
    · rw [hp, e]; rfl
    · exact absurd ⟨rfl, e⟩ hc
  | num _ _ h _ _ => rw [h]; exact Or.inl rfl
  | sgn _ h _ => rw [h]; exact Or.inl rfl
theorem lex_le {s : ByteArray} {σ : PS} (h : Tk s σ) (hs : s.size ≤ 65536) : (lexW s σ.ta).2.size ≤ 65536 := by have := h.lex.1; have := h.lex.2.1; omega
def LE {α : Type} (b : Nat) (s : ByteArray) (r : Except ER (α × PS)) (a : α) (w' : World) : Prop := match r with | .error x => RR w' b s (.error x) | .ok (a', σ') => a' = a ∧ RR w' b s (.ok σ')
def LV {α : Type} (b : Nat) (s : ByteArray) (V : α → World → Value → Prop) (r : Except ER (α × PS)) (w : World) (e : Ending) (w' : World) : Prop := ∃ a v, e = .returned v ∧ V a w' v ∧ LE b s r a w' ∧ Kept (· = b) w w'
def stT {α : Type} (r : Except ER (α × PS)) : Except ER PS := match r with | .error x => .error x | .ok (_, σ) => .ok σ
theorem LE.rr {α : Type} {b : Nat} {s : ByteArray} {r : Except ER (α × PS)} {a : α} {w' : World} (h : LE b s r a w') : RR w' b s (stT r) := by
  match r, h with
  | .error x, h => exact h
  | .ok (a', σ'), h => exact h.2
theorem LE.of {α : Type} {b : Nat} {s : ByteArray} {r : Except ER (α × PS)} {a : α} {w' : World} (h : RR w' b s (stT r)) (ha : ∀ a' σ', r = .ok (a', σ') → a' = a) : LE b s r a w' := by
  match r, h, ha with
  | .error x, h, _ => exact h
  | .ok (a', σ'), h, ha => exact ⟨ha _ _ rfl, h⟩
theorem LE.val {α : Type} {b : Nat} {s : ByteArray} {r : Except ER (α × PS)} {a : α} {w' : World} (h : LE b s r a w') : ∀ a' σ', r = .ok (a', σ') → a' = a := by
  rintro a' σ' rfl; exact h.1
def VSt (x : ByteArray) (_ : World) (v : Value) : Prop := v = .string x ∧ x.size ≤ 65536
theorem name_no {s : ByteArray} {σ : PS} (hc : ¬ (σ.k = 1 ∧ identB σ.tx = true)) : nameS s σ = .error (false, σ.ta) := by unfold nameS; rw [if_neg hc]
set_option maxHeartbeats 1000000 in
theorem rname_any {w : World} {b : Nat} {s : ByteArray} {q : Except ER PS} (h : RR w b s q) : Calls Tryz.prog 169 #[.pointer (some ⟨b, 0, none⟩)] w (LV b s VSt (bP q (nameS s)) w) := by
  have hs := h.src
  match q, h, h.st with
  | .error r, h, .inl ⟨hd, x, nest, hat⟩ =>
    have c1 := hat.c1
    have c2 := hat.c2
    go_enter Tryz.func169, Tryz.ntmps169
    go_wp2_with (first | (go_at_call 38; refine (rok_any hat rfl).mono ?_; rintro e w' ⟨rfl, rfl⟩) | (go_at_call 78; refine (rwrong_live hat rfl).mono ?_; rintro e w' ⟨rfl, h', k'⟩))
    go_ret
    exact ⟨⟨#[]⟩, _, rfl, ⟨rfl, Nat.zero_le _⟩, ⟨hs, Or.inr ⟨_, _, _, _, by rw [hd]; exact h'⟩⟩, k'⟩
  | .error r, h, .inr ⟨k, x, a, nest, hat⟩ =>
    have c1 := hat.c1
    have c2 := hat.c2
    go_enter Tryz.func169, Tryz.ntmps169
    go_wp2_with (first | (go_at_call 38; refine (rok_any hat (e_dead _)).mono ?_; rintro e w' ⟨rfl, rfl⟩))
    go_ret
    exact ⟨⟨#[]⟩, _, rfl, ⟨rfl, Nat.zero_le _⟩, h, Kept.refl _ _⟩
  | .ok σ, h, ⟨hat, tk⟩ =>
    have hz := lex_le tk hs
    by_cases hc : σ.k = 1 ∧ identB σ.tx = true
    · obtain ⟨t1, t2, t3, t4⟩ := tok_yes tk hc.1 hc.2
      have HP := Lib.hid (show passS s σ = advS s σ by unfold passS; rw [t1, t3, t4]; rfl)
      have HC := Lib.hid (show inB (lexW s σ.ta).2 closers = true → 1 ≤ σ.nest by rw [t1, t4]; intro e; cases e)
      have HN := Lib.hid (show nameS s σ = match advS s σ with | .ok σ' => .ok (σ.tx, σ') | .error r => .error r by unfold nameS; rw [if_pos hc]; rfl)
      rw [t1] at hat hz
      have H2 := Lib.hid t2
      clear t2 t3 t4 hc t1
      have c1 := hat.c1
      have c2 := hat.c2
      go_enter Tryz.func169, Tryz.ntmps169
      go_wp2_with (first | (go_at_call 38; refine (rok_any hat rfl).mono ?_; rintro e w' ⟨rfl, rfl⟩))
      refine (primed_any σ.tx w hz H2.out).mono ?_
      rintro e w1 ⟨rfl, k1⟩
      have h1 := h.kept k1 id
      go_wp2_with fail
      refine (pass_ok h1 HC.out).mono ?_
      rintro e w2 ⟨rfl, h2, k2⟩
      go_wp2_with fail
      go_ret
      refine ⟨σ.tx, _, rfl, ⟨rfl, hz⟩, ?_, (k1.mono (fun _ _ h => h.elim)).trans k2⟩
      show LE b s (nameS s σ) σ.tx w2
      rw [HN.out]
      rw [HP.out] at h2
      cases ha : advS s σ with
      | ok σ' => rw [ha] at h2; exact ⟨rfl, h2⟩
      | error r => rw [ha] at h2; exact h2
    · have HR := Lib.hid (show bP (.ok σ) (nameS s) = .error (false, σ.ta) from name_no hc)
      have hno := tok_no tk hc
      clear hc
      have c1 := hat.c1
      have c2 := hat.c2
      rcases hno with h1 | ⟨h1, h2⟩
      · have h1' : ((lexW s σ.ta).1 != 1) = true := by rw [bne, h1]; rfl
        clear h1
        go_enter Tryz.func169, Tryz.ntmps169
        go_wp2_with (first | (go_at_call 38; refine (rok_any hat rfl).mono ?_; rintro e w' ⟨rfl, rfl⟩) | (go_at_call 78; refine (rwrong_live hat rfl).mono ?_; rintro e w' ⟨rfl, h', k'⟩))
        go_ret
        exact ⟨⟨#[]⟩, _, rfl, ⟨rfl, Nat.zero_le _⟩, by rw [HR.out]; exact ⟨hs, Or.inr ⟨_, _, _, _, h'⟩⟩, k'⟩
      · rw [h1] at c1
        have H2 := Lib.hid h2
        clear h1 h2
        go_enter Tryz.func169, Tryz.ntmps169
        go_wp2_with (first | (go_at_call 38; refine (rok_any hat rfl).mono ?_; rintro e w' ⟨rfl, rfl⟩))
        refine (primed_any _ w hz H2.out).mono ?_
        rintro e w1 ⟨rfl, k1⟩
        have hat1 := hat.grow k1
        go_wp2_with (first | (go_at_call 78; refine (rwrong_live hat1 rfl).mono ?_; rintro e w' ⟨rfl, h', k'⟩))
        go_ret
        exact ⟨⟨#[]⟩, _, rfl, ⟨rfl, Nat.zero_le _⟩, by rw [HR.out]; exact ⟨hs, Or.inr ⟨_, _, _, _, h'⟩⟩, (k1.mono (fun _ _ h => h.elim)).trans k'⟩
def endS (σ : PS) : Except ER PS := if σ.k = 0 then .ok σ else .error (false, σ.ta)
theorem tok_end {s : ByteArray} {σ : PS} (h : Tk s σ) : ((lexW s σ.ta).1 != 0) = (σ.k != 0) := by
  have hr := h.lex.2.2
  revert hr
  generalize σ.k = k
  generalize σ.tx = tx
  generalize σ.n = n
  intro hr
  cases hr with
  | fin h _ => rw [h]; try rfl
  | word _ h _ _ => rw [h]; try rfl
  | name _ h _ _ _ => rw [h]; try rfl
  | num _ _ h _ _ => rw [h]; try rfl
  | sgn _ h _ => rw [h]; try rfl
theorem RR.tk {w : World} {b : Nat} {s : ByteArray} {q : Except ER PS} (h : RR w b s q) {σ : PS} (e : q = .ok σ) : Tk s σ := by subst e; exact h.st.2
theorem rmust_want {w : World} {b : Nat} {s : ByteArray} {q : Except ER PS} (h : RR w b s q) (t : ByteArray) (ho : inB t openers = false) (hc : inB t closers = false) :
    Calls Tryz.prog 90 #[.pointer (some ⟨b, 0, none⟩), .string t] w (RU b s (bP q fun σ => wantS s σ t) w) := by
  have e : (bP q fun σ => wantS s σ t) = bP q (mustS s t) := bP_congr fun σ e => (must_want (h.tk e) ho hc).symm
  rw [e]; exact must_any h t (fun σ _ q => by rw [hc] at q; cases q)
theorem rmust_open {w : World} {b : Nat} {s : ByteArray} {q : Except ER PS} (h : RR w b s q) (t : ByteArray) (ho : inB t openers = true) :
    Calls Tryz.prog 90 #[.pointer (some ⟨b, 0, none⟩), .string t] w (RU b s (bP q fun σ => openS s σ t) w) := by
  have e : (bP q fun σ => openS s σ t) = bP q (mustS s t) := bP_congr fun σ e => (must_open (h.tk e) ho).symm
  rw [e]; exact must_any h t (fun σ _ q => by rw [op_cl ho] at q; cases q)
theorem rmust_shut {w : World} {b : Nat} {s : ByteArray} {q : Except ER PS} (h : RR w b s q) (t : ByteArray) (hc : inB t closers = true) (hn : ∀ σ, q = .ok σ → 1 ≤ σ.nest) :
    Calls Tryz.prog 90 #[.pointer (some ⟨b, 0, none⟩), .string t] w (RU b s (bP q fun σ => shutS s σ t) w) := by
  have e : (bP q fun σ => shutS s σ t) = bP q (mustS s t) := bP_congr fun σ e => (must_shut (h.tk e) hc).symm
  rw [e]; exact must_any h t (fun σ e _ => hn σ e)
def QB (s : ByteArray) (q : Except ER PS) (m n : Nat) : Prop := ∀ σ, q = .ok σ → mu s σ ≤ m ∧ σ.p ≤ s.size ∧ σ.nest = n
section
variable {s : ByteArray} {q : Except ER PS} {m n : Nat}
theorem qb_ok {σ : PS} (hp : σ.p ≤ s.size) : QB s (.ok σ) (mu s σ) σ.nest := by rintro _ ⟨⟩; exact ⟨Nat.le_refl _, hp, rfl⟩
theorem qb_adv {σ : PS} (hp : σ.p ≤ s.size) (hk : σ.k ≠ 0) : QB s (advS s σ) (mu s σ - 1) σ.nest := by
  intro σ' h
  have := inv_adv hp hk h
  exact ⟨by omega, this.2.1, this.2.2⟩
theorem qb_open1 {σ : PS} (hp : σ.p ≤ s.size) (t : ByteArray) : QB s (openS s σ t) (mu s σ - 1) (σ.nest + 1) := by
  intro σ' h
  have := inv_open hp h
  exact ⟨by omega, this.2.1, this.2.2⟩
theorem qb_want (h : QB s q m n) (t : ByteArray) : QB s (bP q fun σ => wantS s σ t) (m - 1) n := by
  intro σ' e
  obtain ⟨σ, rfl, e⟩ := bP_ok e
  have a := h σ rfl
  have := inv_want a.2.1 e
  exact ⟨by omega, this.2.1, by omega⟩
theorem qb_open (h : QB s q m n) (t : ByteArray) : QB s (bP q fun σ => openS s σ t) (m - 1) (n + 1) := by
  intro σ' e
  obtain ⟨σ, rfl, e⟩ := bP_ok e
  have a := h σ rfl
  have := inv_open a.2.1 e
  exact ⟨by omega, this.2.1, by omega⟩
theorem qb_shut (h : QB s q m n) (t : ByteArray) : QB s (bP q fun σ => shutS s σ t) (m - 1) (n - 1) := by
  intro σ' e
  obtain ⟨σ, rfl, e⟩ := bP_ok e
  have a := h σ rfl
  have := inv_shut a.2.1 e
  exact ⟨by omega, this.2.1, by omega⟩
theorem stT_ok {α : Type} {r : Except ER (α × PS)} {σ : PS} (h : stT r = .ok σ) : ∃ a, r = .ok (a, σ) := by
  match r, h with
  | .ok (a, _), rfl => exact ⟨a, rfl⟩
theorem qb_name (h : QB s q m n) : QB s (stT (bP q (nameS s))) (m - 1) n := by
  intro σ' e
  obtain ⟨x, e⟩ := stT_ok e
  obtain ⟨σ, rfl, e⟩ := bP_ok e
  have a := h σ rfl
  have := inv_name a.2.1 e
  exact ⟨by omega, this.2.1, by omega⟩
theorem qb_ty (f : Nat) (h : QB s q m n) : QB s (stT (bP q (typedS f s))) m n := by
  intro σ' e
  obtain ⟨x, e⟩ := stT_ok e
  obtain ⟨σ, rfl, e⟩ := bP_ok e
  have a := h σ rfl
  have := typed_mu f a.2.1 e
  have := typed_nest f e
  exact ⟨by omega, by omega, by omega⟩
theorem qb_T {T : TF} (hI : TInv s T) (k : Nat) (h : QB s q m n) : QB s (stT (bP q (T k))) m n := by
  intro σ' e
  obtain ⟨x, e⟩ := stT_ok e
  obtain ⟨σ, rfl, e⟩ := bP_ok e
  have a := h σ rfl
  have := (hI _ _ _ _ a.2.1 e).1
  unfold Inv at this
  exact ⟨by omega, by omega, by omega⟩
end
section
variable {α β : Type} {b : Nat} {s : ByteArray} {w w' : World}
theorem LE.u {q : Except ER PS} (h : RR w b s q) : LE b s (bP q fun σ => .ok ((), σ)) () w := by
  match q, h with
  | .error _, h => exact h
  | .ok _, h => exact ⟨rfl, h⟩
theorem LE.then_u {r : Except ER (α × PS)} {a : α} (h : LE b s r a w) {F : PS → Except ER PS} (h' : RR w' b s (bP (stT r) F)) : LE b s (bT r fun a' σ => bP (F σ) fun σ' => .ok (a', σ')) a w' := by
  match r, h, h' with
  | .error _, _, h' => exact h'
  | .ok (a', σ), h, h' =>
    obtain ⟨rfl, _⟩ := h
    show LE b s (bP (F σ) fun σ' => .ok (a', σ')) a' w'
    have h'' : RR w' b s (F σ) := h'
    match hF : F σ, h'' with
    | .error _, h' => exact h'
    | .ok _, h' => exact ⟨rfl, h'⟩
theorem LE.then_v {r : Except ER (α × PS)} {a : α} (h : LE b s r a w) {G : PS → Except ER (β × PS)} {a2 : β} (h' : LE b s (bP (stT r) G) a2 w') : LE b s (bT r fun a' σ => bT (G σ) fun a2' σ' => .ok ((a', a2'), σ')) (a, a2) w' := by
  match r, h, h' with
  | .error _, _, h' => exact h'
  | .ok (a', σ), h, h' =>
    obtain ⟨rfl, _⟩ := h
    show LE b s (bT (G σ) fun a2' σ' => .ok ((a', a2'), σ')) (a', a2) w'
    have h'' : LE b s (G σ) a2 w' := h'
    match hG : G σ, h'' with
    | .error _, h' => exact h'
    | .ok (c, σ2), h' => exact ⟨by rw [h'.1], h'.2⟩
theorem LE.map {r : Except ER (α × PS)} {a : α} (h : LE b s r a w) (g : α → β) : LE b s (bT r fun a' σ => .ok (g a', σ)) (g a) w := by
  match r, h with
  | .error _, h => exact h
  | .ok (_, _), h => exact ⟨by rw [h.1], h.2⟩
theorem LE.kept {r : Except ER (α × PS)} {a : α} (h : LE b s r a w) {S : Nat → Prop} (hk : Kept S w w') (hs : ¬ S b) : LE b s r a w' := by
  match r, h with
  | .error _, h => exact RR.kept h hk hs
  | .ok (_, _), h => exact ⟨h.1, h.2.kept hk hs⟩
theorem bT_pure {a : α} {σ : PS} {k : α → PS → Except ER β} : bT (.ok (a, σ)) k = k a σ := rfl
theorem bP_pure {σ : PS} {k : PS → Except ER β} : bP (.ok σ) k = k σ := rfl
theorem bP_bP {q : Except ER PS} {k : PS → Except ER PS} {m : PS → Except ER β} : bP (bP q k) m = bP q fun σ => bP (k σ) m := by cases q <;> rfl
theorem bP_stT {r : Except ER (α × PS)} {k : PS → Except ER β} : bP (stT r) k = bT r fun _ σ => k σ := by
  match r with
  | .error _ => rfl
  | .ok (_, _) => rfl
end
section
variable {α β : Type} {b : Nat} {s : ByteArray} {w w' : World}
theorem stT_u {r : Except ER (α × PS)} {F : PS → Except ER PS} : stT (bT r fun a' σ => bP (F σ) fun σ' => .ok (a', σ')) = bP (stT r) F := by
  match r with
  | .error _ => rfl
  | .ok (a, σ) => show stT (bP (F σ) fun σ' => .ok (a, σ')) = F σ; cases F σ <;> rfl
theorem stT_v {r : Except ER (α × PS)} {G : PS → Except ER (β × PS)} : stT (bT r fun a' σ => bT (G σ) fun a2' σ' => .ok ((a', a2'), σ')) = stT (bP (stT r) G) := by
  match r with
  | .error _ => rfl
  | .ok (a, σ) =>
    show stT (bT (G σ) fun a2' σ' => .ok ((a, a2'), σ')) = stT (G σ)
    match G σ with
    | .error _ => rfl
    | .ok (_, _) => rfl
theorem LE.eq {r r' : Except ER (α × PS)} {a : α} (h : LE b s r a w) (e : r = r') : LE b s r' a w := e ▸ h
theorem LE.ok {σ : PS} (h : RR w b s (.ok σ)) : LE b s (.ok ((), σ)) () w := ⟨rfl, h⟩
theorem LE.alloc {r : Except ER (α × PS)} {a : α} (h : LE b s r a w) (o : Obj) : LE b s r a (w.alloc o) := h.kept (S := fun _ => False) ((Kept.refl _ _).alloc o) id
theorem LE.s7 {r : Except ER (α × PS)} {a : α} (h : LE b s r a w) {R : Nat} (hR : R ≠ b) {x0 x1 x2 x3 x4 x5 x6 : Value} : LE b s r a (((((((w.setCell ⟨R, 0, none⟩ x0).setCell ⟨R, 1, none⟩ x1).setCell ⟨R, 2, none⟩ x2).setCell ⟨R, 3, none⟩ x3).setCell ⟨R, 4, none⟩ x4).setCell ⟨R, 5, none⟩ x5).setCell ⟨R, 6, none⟩ x6) :=
  h.kept (S := (· = R)) (k7w (Kept.refl _ _) (Or.inl rfl)) (fun e => hR e.symm)
theorem LE.s3 {r : Except ER (α × PS)} {a : α} (h : LE b s r a w) {R : Nat} (hR : R ≠ b) {x0 x1 x2 : Value} : LE b s r a (((w.setCell ⟨R, 0, none⟩ x0).setCell ⟨R, 1, none⟩ x1).setCell ⟨R, 2, none⟩ x2) :=
  h.kept (S := (· = R)) ((((Kept.refl (fun x => x = R) _).setCell (p := ⟨R, 0, none⟩) (Or.inl rfl) x0).setCell (p := ⟨R, 1, none⟩) (Or.inl rfl) x1).setCell (p := ⟨R, 2, none⟩) (Or.inl rfl) x2) (fun e => hR e.symm)
end
theorem ret_lv {fn : Func} {p : Tmp} (hf : fn.results = #[.cell p 27]) {b n : Nat} {s : ByteArray} {q : RT} {w W : World} {t : Tm} {tk kk : Value} {R : Nat} {a : Act} (hR : a.tmps.getD p undef = .pointer (some ⟨R, 0, none⟩)) (hd : a.defers = [])
    (hb : Blk W R 27 (tmCells t tk kk)) (hk : TyL (fun k => n ≤ k) W t.ty.kids tk) (hm : TmL (fun k => n ≤ k) W t.kids kk) (hl : LE b s q t W) (hkp : Kept (· = b) w W) : bodyPost Tryz.prog fn (LV b s (VTm n) q w) Exit.ret a W :=
  bodyPost_ret (results_one hf hR (load_tm hb)) hd ⟨t, _, rfl, ⟨tk, kk, rfl, hk, hm⟩, hl, hkp⟩
theorem ret_lty {fn : Func} {p : Tmp} (hf : fn.results = #[.cell p 24]) {b n : Nat} {s : ByteArray} {q : Except ER (Ty × PS)} {w W : World} {t : Ty} {tk : Value} {R : Nat} {a : Act} (hR : a.tmps.getD p undef = .pointer (some ⟨R, 0, none⟩)) (hd : a.defers = [])
    (hb : Blk W R 24 [.int .i64 t.kind, .string t.name, tk]) (hk : TyL (fun k => n ≤ k) W t.kids tk) (hl : LE b s q t W) (hkp : Kept (· = b) w W) : bodyPost Tryz.prog fn (LV b s (VTy n) q w) Exit.ret a W :=
  bodyPost_ret (results_one hf hR (load_ty hb)) hd ⟨t, _, rfl, ⟨tk, rfl, hk⟩, hl, hkp⟩
def RTC (b : Nat) (s : ByteArray) (f : Nat) (T : TF) : Prop := ∀ (n : Nat) (m : Int) (_ : m = n) (q : Except ER PS) (w : World), 1 ≤ n → n ≤ 13 → RR w b s q → (∀ σ, q = .ok σ → 14 * mu s σ + (14 - n) < f ∧ σ.p ≤ s.size) →
  Calls Tryz.prog 36 #[.pointer (some ⟨b, 0, none⟩), .int .i64 m] w (LV b s (VTm w.heap.size) (bP q (T n)) w)
theorem RTC.at {b : Nat} {s : ByteArray} {f : Nat} {T : TF} (hT : RTC b s f T) (n : Nat) (m : Int) (hm : m = n) {q : Except ER PS} {w : World} (h1 : 1 ≤ n) (h13 : n ≤ 13) (h : RR w b s q) {M N : Nat} (hq : QB s q M N) (hf : 14 * M + (14 - n) < f) :
    Calls Tryz.prog 36 #[.pointer (some ⟨b, 0, none⟩), .int .i64 m] w (LV b s (VTm w.heap.size) (bP q (T n)) w) :=
  hT n m hm q w h1 h13 h (fun σ e => by have := hq σ e; exact ⟨by omega, this.2.1⟩)
def RTY (b : Nat) (s : ByteArray) (f : Nat) : Prop := ∀ (q : Except ER PS) (w : World), RR w b s q → (∀ σ, q = .ok σ → mu s σ < f ∧ σ.p ≤ s.size) →
  Calls Tryz.prog 44 #[.pointer (some ⟨b, 0, none⟩)] w (LV b s (VTy w.heap.size) (bP q (typedS f s)) w)
theorem RTY.at {b : Nat} {s : ByteArray} {f : Nat} (hT : RTY b s f) {q : Except ER PS} {w : World} (h : RR w b s q) {M N : Nat} (hq : QB s q M N) (hf : M < f) :
    Calls Tryz.prog 44 #[.pointer (some ⟨b, 0, none⟩)] w (LV b s (VTy w.heap.size) (bP q (typedS f s)) w) :=
  hT q w h (fun σ e => by have := hq σ e; exact ⟨by omega, this.2.1⟩)
theorem qb_u {α : Type} {s : ByteArray} {r : Except ER (α × PS)} {F : PS → Except ER PS} {M N : Nat} (h : QB s (bP (stT r) F) M N) : QB s (stT (bT r fun a' σ => bP (F σ) fun σ' => .ok (a', σ'))) M N := by rw [stT_u]; exact h
theorem qb_v {α β : Type} {s : ByteArray} {r : Except ER (α × PS)} {G : PS → Except ER (β × PS)} {M N : Nat} (h : QB s (stT (bP (stT r) G)) M N) : QB s (stT (bT r fun a' σ => bT (G σ) fun a2' σ' => .ok ((a', a2'), σ'))) M N := by rw [stT_v]; exact h
theorem RR.err {w : World} {b : Nat} {s : ByteArray} {r : ER} (h : RR w b s (.error r)) : (r.1 = false ∧ ∃ x nest, RAt w b s 5 x r.2 nest 0 0) ∨ ∃ k x a nest, RAt w b s k x a nest r.2 (if r.1 = true then 4 else 2) := h.st
theorem RR.known {w : World} {b : Nat} {s : ByteArray} {r : ER} (hs : s.size ≤ 65536) {k : Int} {x : ByteArray} {a nest : Int} (h : RAt w b s k x a nest r.2 (if r.1 = true then 4 else 2)) : RR w b s (.error r) := ⟨hs, Or.inr ⟨_, _, _, _, h⟩⟩
theorem RR.wrong {w : World} {b : Nat} {s : ByteArray} {r : ER} (hs : s.size ≤ 65536) (hr : r.1 = false) {k : Int} {x : ByteArray} {a nest : Int} (h : RAt w b s k x a nest r.2 2) : RR w b s (.error r) := ⟨hs, Or.inr ⟨_, _, _, _, by rw [hr]; exact h⟩⟩
end Go.Proofs.YtckjlliobebodaaGreatDoor
