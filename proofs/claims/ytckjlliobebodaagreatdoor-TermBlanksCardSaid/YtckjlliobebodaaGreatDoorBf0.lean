/- What this claim needs besides the texts that it shares with TermBack's. -/
import Derived.Test.YtckjlliobebodaaGreatDoorBd0
import Derived.Test.YtckjlliobebodaaGreatDoorBd1
import Derived.Test.YtckjlliobebodaaGreatDoorBd2
import Derived.Test.YtckjlliobebodaaGreatDoorBd3
import Derived.Test.YtckjlliobebodaaGreatDoorBd4
import Derived.Test.YtckjlliobebodaaGreatDoorBd5
import Derived.Test.YtckjlliobebodaaGreatDoorBd6
import Derived.Test.YtckjlliobebodaaGreatDoorBd7
import Derived.Test.YtckjlliobebodaaGreatDoorBd8
import Derived.Test.YtckjlliobebodaaGreatDoorBd9
import Derived.Test.YtckjlliobebodaaGreatDoorBd10
import Derived.Test.YtckjlliobebodaaGreatDoorBd11
import Derived.Test.YtckjlliobebodaaGreatDoorBd12
import Derived.Test.YtckjlliobebodaaGreatDoorBd13
import Derived.Test.YtckjlliobebodaaGreatDoorBd14
import Derived.Test.YtckjlliobebodaaGreatDoorBd15
import Derived.Test.YtckjlliobebodaaGreatDoorBd16
import Derived.Test.YtckjlliobebodaaGreatDoorBd17
import Derived.Test.YtckjlliobebodaaGreatDoorBd18
import Derived.Test.YtckjlliobebodaaGreatDoorBd19
import Derived.Test.YtckjlliobebodaaGreatDoorBd20
import Derived.Test.YtckjlliobebodaaGreatDoorBd21
import Derived.Test.YtckjlliobebodaaGreatDoorBd22
import Derived.Test.YtckjlliobebodaaGreatDoorBd23
import Derived.Test.YtckjlliobebodaaGreatDoorBd24
import Derived.Test.YtckjlliobebodaaGreatDoorBd25
import Derived.Test.YtckjlliobebodaaGreatDoorBd26
import Derived.Test.YtckjlliobebodaaGreatDoorProg
import Derived.Test.YtckjlliobebodaaGreatDoorRows
import Derived.Test.YtckjlliobebodaaGreatDoorCards
import Derived.Test.YtckjlliobebodaaGreatDoorTie
import Derived.Deep.RegionLaw
import Derived.Laws.IdiomStrings
import Derived.Carry
import Derived.BigQuiet
import Derived.StillTailTactics
import Derived.Deep.RegionHeld3
import Derived.Deep.CutBlock
import Derived.Deep.Grids
set_option linter.unusedVariables false
set_option linter.unusedSimpArgs false
namespace Go.Proofs.YtckjlliobebodaaGreatDoor
open Go.RowKit
theorem Wd.cut : ∀ {w r m : List UInt8}, (32 : UInt8) ∉ w → Wd (w ++ r) m → ∃ m', m = w ++ m' ∧ Wd r m' := by
  intro w
  induction w with
  | nil => intro r m _ h; exact ⟨m, rfl, h⟩
  | cons c w ih =>
    intro r m hn h
    generalize hx : (c :: w) ++ r = x at h
    cases h with
    | nil => cases hx
    | same h =>
      obtain ⟨rfl, e⟩ := List.cons.inj hx
      subst e
      obtain ⟨m', rfl, h'⟩ := ih (fun q => hn (List.mem_cons_of_mem _ q)) h
      exact ⟨m', rfl, h'⟩
    | wide h =>
      obtain ⟨rfl, e⟩ := List.cons.inj hx
      exact absurd (List.mem_cons_self ..) hn
theorem no32 {w : List UInt8} (h : ∀ c, c ∈ w → inWordB c.toNat = true) : (32 : UInt8) ∉ w := fun q => absurd (h 32 q) (by decide)
theorem lex_wide {l : List UInt8} {L : List TK} (h : LexL l L) : ∀ m, Wd l m → LexL m L := by
  induction h with
  | nil => intro m hw; cases hw; exact .nil
  | blank hc h ih =>
    intro m hw
    cases hw with
    | same h' => exact .blank hc (ih _ h')
    | wide h' => exact .blank hc (.blank (by decide) (.blank (by decide) (.blank (by decide) (ih _ h'))))
  | word hw hr hq h ih =>
    rename_i w r L
    intro m hm
    have hw' := hw
    unfold wordOk at hw'
    simp only [Bool.and_eq_true, List.all_eq_true] at hw'
    obtain ⟨m', rfl, h'⟩ := hm.cut (no32 hw'.1.2)
    exact .word hw (fun c hc => hr c (by rw [← h'.head]; exact hc)) (by rw [h'.head]; exact hq) (ih _ h')
  | prime hw hk h ih =>
    rename_i w r L
    intro m hm
    have hw' := hw
    unfold wordOk at hw'
    simp only [Bool.and_eq_true, List.all_eq_true] at hw'
    obtain ⟨m', e, h'⟩ := Wd.cut (w := w ++ [39]) (r := r) (m := m) (by
      intro q
      rcases List.mem_append.1 q with q | q
      · exact no32 hw'.1.2 q
      · simp at q) (by simpa using hm)
    have : m = w ++ 39 :: m' := by rw [e]; simp
    rw [this]
    exact .prime hw hk (ih _ h')
  | num hd hw hn hr h ih =>
    rename_i w r n L
    intro m hm
    obtain ⟨m', rfl, h'⟩ := hm.cut (no32 (List.all_eq_true.1 hw))
    exact .num hd hw hn (fun c hc => hr c (by rw [← h'.head]; exact hc)) (ih _ h')
  | sign hx hr h ih =>
    rename_i x r L
    intro m hm
    obtain ⟨m', rfl, h'⟩ := hm.cut (signs_no x hx)
    exact .sign hx (fun c hc => hr c (by rw [← h'.head]; exact hc)) (ih _ h')
def blankT (m : List UInt8) : List UInt8 := [40, 10] ++ m ++ [10, 41, 32]
theorem blanks_back {t : Tm} {m : List UInt8} (hv : validB t = true) (hw : Wd (tmShow t) m) {f : Nat} (hf : 14 * ((str (blankT m)).size + 2) < f) (hs : (str (blankT m)).size ≤ 65536) :
    (parseE f (str (blankT m)) = 0 ∧ parseT f (str (blankT m)) = t ∧ parseA f (str (blankT m)) = 0) ∨ parseE f (str (blankT m)) = 4 := by
  have hr := valid_rd hv
  have G := rd_good hr
  have h1 := (rd_lx hr).lx [10, 41, 32] [tkS kRpar] (aft_cons (by decide) _) (.blank (by decide) (sg (c := 41) (by kernel_rfl) (sp .nil)))
  have h2 := lex_wide h1 _ (hw.app (Wd.refl [10, 41, 32]))
  have h3 : LexL (blankT m) ([tkS kLpar] ++ (tmToks t ++ [tkS kRpar])) := by
    have := sg (c := 40) (by kernel_rfl) (LexL.blank (c := 10) (by decide) h2)
    simp [blankT] at this ⊢; exact this
  have hB : BF (str (blankT m)) ([tkS kLpar] ++ (tmToks t ++ [tkS kRpar])) t := BF_of (par_A (G.bf _) G.n0) (by show (!isT (tkS kLpar) kMinus && !isT (tkS kLpar) kNot) = true; kernel_rfl)
  rcases parse_rd hB (by simp) (lex_str h3) hv hs hf with q | ⟨q, -⟩
  · exact Or.inl q
  · exact Or.inr q
def DcC (n : Nat) : Prop := ∀ W, Calls Tryz.prog 102 #[.int .i64 n] W fun e w' => e = .returned (.string (str (Lib.decDigits n))) ∧ Kept (fun _ => False) W w'
theorem dig_lt (n : Nat) (h : n < 10) : ((UInt8.ofNat (48 + n)).toNat : Int) = 48 + (n : Int) := by
  have all : ∀ m : Fin 10, (UInt8.ofNat (48 + m.val)).toNat = 48 + m.val := by decide
  have : (UInt8.ofNat (48 + n)).toNat = 48 + n := all ⟨n, h⟩
  rw [this]; omega
theorem conv_dig (W : World) (B n : Nat) (h : n < 10) (hc : W.cell? ⟨B, 0, none⟩ = some (.int .u8 (48 + (n : Int)))) : (convert 67 9 (.slice (some ⟨B, 0, none⟩) 1 1)).run Tryz.prog W = .ok (.string ⟨#[UInt8.ofNat (48 + n)]⟩) W :=
  run_convert_bytes_back (P := Tryz.prog) W 67 9 5 ⟨B, 0, none⟩ 1 [UInt8.ofNat (48 + n)] Tryz.underlying67 Tryz.underlying5 Tryz.underlying9 (fun j hj => by
    have h0 : j = 0 := by simpa using hj
    subst h0
    show W.cell? _ = some (.int .u8 ((UInt8.ofNat (48 + n)).toNat : Int))
    rw [dig_lt n h]
    exact hc)
set_option maxRecDepth 100000 in
set_option maxHeartbeats 4000000 in
theorem dec_small (n : Nat) (h : n < 10) : DcC n := by
  intro W
  have i0 : ((n : Int) == -9223372036854775808) = false := by rw [beq_eq_false_iff_ne]; omega
  have i1 : decide ((n : Int) < 0) = false := decide_eq_false (by omega)
  have i2 : decide ((n : Int) < 10) = true := decide_eq_true (by omega)
  have hcv := conv_dig (W.alloc (.cells #[.int .u8 (48 + (n : Int))] 5)) W.heap.size n h ((Blk.new W 5 [.int .u8 (48 + (n : Int))]).cell 0)
  have HT : Hid (str (Lib.decDigits n) = ⟨#[UInt8.ofNat (48 + n)]⟩) := Lib.hid (by unfold Lib.decDigits; rw [dif_pos h]; rfl)
  generalize UInt8.ofNat (48 + n) = dg at *
  go_enter Tryz.func102, Tryz.ntmps102
  go_wp2_with fail
  go_ret
  exact ⟨by rw [HT.out]; rfl, (Kept.refl _ _).alloc _⟩
theorem decDigits_len (n : Nat) : (Lib.decDigits n).length ≤ n + 1 := by
  induction n using Nat.strongRecOn with
  | _ n ih =>
    unfold Lib.decDigits
    by_cases h : n < 10
    · rw [dif_pos h]; simp
    · rw [dif_neg h]
      have := ih (n / 10) (by omega)
      simp only [List.length_append, List.length_cons, List.length_nil]
      omega
set_option maxRecDepth 100000 in
set_option maxHeartbeats 8000000 in
theorem dec_more (n : Nat) (h : ¬ n < 10) (hn : n ≤ 1000000000) (ih : DcC (n / 10)) : DcC n := by
  intro W
  have i0 : ((n : Int) == -9223372036854775808) = false := by rw [beq_eq_false_iff_ne]; omega
  have i1 : decide ((n : Int) < 0) = false := decide_eq_false (by omega)
  have i2 : decide ((n : Int) < 10) = false := decide_eq_false (by omega)
  have hq : (n : Int).tdiv 10 = ((n / 10 : Nat) : Int) := by rw [Int.tdiv_eq_ediv_of_nonneg (by omega)]; omega
  have hr : (n : Int).tmod 10 = ((n % 10 : Nat) : Int) := by rw [Int.tmod_eq_emod_of_nonneg (by omega)]; omega
  have hm : n % 10 < 10 := Nat.mod_lt _ (by decide)
  have hqb : n / 10 ≤ 100000000 := by omega
  have HSZ : Hid ((str (Lib.decDigits (n / 10))).size ≤ 1000000001) := Lib.hid (by rw [str_size]; have := decDigits_len (n / 10); omega)
  have HT : Hid (str (Lib.decDigits n) = str (Lib.decDigits (n / 10)) ++ ⟨#[UInt8.ofNat (48 + n % 10)]⟩) := Lib.hid (by
    conv => lhs; unfold Lib.decDigits
    rw [dif_neg h, ← str_app]; rfl)
  have HCV := Lib.hid (fun (X : World) (B : Nat) => conv_dig X B (n % 10) hm)
  have IH := Lib.hid ih
  unfold DcC at IH
  generalize UInt8.ofNat (48 + n % 10) = dg at *
  generalize str (Lib.decDigits (n / 10)) = sq at *
  have hz1 : ¬ 9223372036854775807 < sq.size + 1 := by have := HSZ.out; omega
  clear ih h hn
  generalize hmm : n % 10 = m at *
  generalize hqq : n / 10 = q at *
  have HMQ := Lib.hid (And.intro hmm hqq)
  have m10 : (m : Int) < 10 := by omega
  have q10 : (q : Int) < 100000001 := by omega
  have wq : IntKind.i64.wrap (q : Int) = q := by rw [IntKind.wrap_i64]; omega
  have wm : IntKind.i64.wrap (m : Int) = m := by rw [IntKind.wrap_i64]; omega
  have w48 : IntKind.i64.wrap (48 + (m : Int)) = 48 + m := by rw [IntKind.wrap_i64]; omega
  have w8 : IntKind.u8.wrap (48 + (m : Int)) = 48 + m := by rw [show IntKind.u8.wrap (48 + (m : Int)) = (48 + (m : Int)) % 256 by simp [IntKind.wrap, IntKind.bits, IntKind.signed]]; omega
  clear hmm hqq hm hqb
  have bA : Blk (W.drew.alloc (.cells #[.int .u8 (48 + (m : Int))] 5)) W.heap.size 5 [.int .u8 (48 + (m : Int))] := Blk.new W.drew 5 _
  have hcv0 := HCV.out _ W.heap.size (bA.cell 0)
  have hcv1 := HCV.out _ W.heap.size ((Blk.drew (Blk.new W 5 [.int .u8 (48 + (m : Int))])).cell 0)
  have KD : Kept (fun _ => False) W W.drew := (Kept.refl _ _).drew
  have KA : Kept (fun _ => False) W (W.alloc (.cells #[.int .u8 (48 + (m : Int))] 5)).drew := ((Kept.refl _ _).alloc _).drew
  go_enter Tryz.func102, Tryz.ntmps102
  go_wp2_with fail
  go_region_law
    (first | (go_simp; go_at_call 102; refine (IH.out _).mono ?_; rintro e wq ⟨rfl, kq⟩; first | (have KE := KA.trans kq; have hcvA := HCV.out wq W.heap.size (((Blk.drew (Blk.new W 5 [.int .u8 (48 + (m : Int))])).kept kq (fun h => h)).cell 0)) | (have KE := KD.trans kq; have hcvB := HCV.out (wq.alloc (.cells #[.int .u8 (48 + (m : Int))] 5)) wq.heap.size ((Blk.new wq 5 [.int .u8 (48 + (m : Int))]).cell 0))))
  all_goals
    go_wp2_with fail
    go_ret
    exact ⟨by rw [HT.out]; rfl, by first | exact KE | exact KE.alloc _⟩
theorem dec_nat (n : Nat) (hn : n ≤ 1000000000) : DcC n := by
  induction n using Nat.strongRecOn with
  | _ n ih =>
    by_cases h : n < 10
    · exact dec_small n h
    · exact dec_more n h hn (ih (n / 10) (by omega) (by omega))
theorem dec_any {N : Int} (h0 : 0 ≤ N) (h1 : N ≤ 1000000000) (W : World) : Calls Tryz.prog 102 #[.int .i64 N] W fun e w' => e = .returned (.string (str (Lib.itoa N))) ∧ Kept (fun _ => False) W w' := by
  obtain ⟨n, rfl⟩ := Int.eq_ofNat_of_zero_le h0
  have e : Lib.itoa (n : Int) = Lib.decDigits n := by unfold Lib.itoa; rw [if_neg (by omega)]; rfl
  rw [e]
  exact dec_nat n (by omega) W
theorem app_mid (a b c : List UInt8) : a ++ [32] ++ b ++ [32] ++ c = a ++ ([32] ++ b ++ [32]) ++ c := by simp [List.append_assoc]
theorem rw_b {n : Nat} {nm : ByteArray} {N : Int} {ty : Ty} {l : List Tm} (h56 : n ≤ 56) (hc : (decide ((binS n).size ≤ 100) && decide ((n : Int) < 46) && [1, 2, 19, 20, 29, 3, 21, 8, 9, 56, 55, 54, 53, 52, 28].all fun m => !((n : Int) == m)) = true) (hs : ∀ ks, tmComb n nm N ty ks = opd (kidA ks 0) ++ ([32] ++ (binS n).data.toList ++ [32]) ++ opd (kidA ks 1)) (h2 : kidsN n = (2, true)) (hk : kidOk n l.length = true) (hl : ∀ t, t ∈ l → OkTm t) (ih : ∀ t, t ∈ l → RS t (tmShow t)) : RS (.mk n nm N ty l) (tmShow (.mk n nm N ty l)) := by
  have h2 : ((l.length : Nat) : Int) = 2 := by simpa [kidOk, h2] using hk
  obtain ⟨x, y, rfl⟩ := list_two (show l.length = 2 by omega)
  simp only [Bool.and_eq_true, decide_eq_true_eq, List.all_cons, List.all_nil, Bool.not_eq_true', and_true] at hc
  obtain ⟨⟨c1, c2⟩, a1, a2, a3, a4, a5, a6, a7, a8, a9, a10, a11, a12, a13, a14, a15⟩ := hc
  have hb := rw_bin (nm := nm) (N := N) (ty := ty) (op := n) (ro_any (ih x (by simp)) (by have := (hl x (by simp)).range; omega) (hl x (by simp)).range.2) (ro_any (ih y (by simp)) (by have := (hl y (by simp)).range; omega) (hl y (by simp)).range.2) (rsgOf_any n h56) c1 a1 a2 a3 a4 a5 a6 a7 a8 a9 a10 a11 a12 a13 a14 a15 c2
  rw [app_mid] at hb
  rw [tmShow, hs]
  exact hb
set_option maxHeartbeats 4000000 in
theorem rw_show {t : Tm} (h : OkTm t) : RS t (tmShow t) := by
  induction h with
  | @mk op nm N ty l h hn hl ih =>
  obtain ⟨hk, hnm, hN, hty⟩ := formed_parts h
  have hr := kids_range op (by unfold kidOk at hk; rw [Bool.and_eq_true] at hk; exact hk.1)
  obtain ⟨n, rfl⟩ := Int.eq_ofNat_of_zero_le (show 0 ≤ op by omega)
  have hn1 : 1 ≤ n := by omega
  have hn56 : n ≤ 56 := by omega
  clear hr h
  match n, hn1, hn56 with
  | 1, _, _ =>
    change RS (.mk 1 nm N ty l) (tmShow (.mk 1 nm N ty l))
    rw [tmShow]
    exact rw_true
  | 2, _, _ =>
    change RS (.mk 2 nm N ty l) (tmShow (.mk 2 nm N ty l))
    rw [tmShow]
    exact rw_false
  | 3, _, _ =>
    change RS (.mk 3 nm N ty l) (tmShow (.mk 3 nm N ty l))
    have h2 : ((l.length : Nat) : Int) = 1 := by simpa [kidOk, kidsN] using hk
    obtain ⟨x, rfl⟩ := list_one' (show l.length = 1 by omega)
    have hx := ih x (by simp)
    rw [tmShow, tmShows, tmShows]
    exact rw_not (ro_any hx (by have := (hl x (by simp)).range; omega) (hl x (by simp)).range.2)
  | 4, _, _ | 5, _, _ | 6, _, _ | 7, _, _ | 10, _, _ | 11, _, _ | 12, _, _ | 13, _, _ | 14, _, _ | 15, _, _ | 16, _, _ | 17, _, _ | 18, _, _ | 22, _, _ | 23, _, _ | 24, _, _ | 25, _, _ | 26, _, _ | 27, _, _ | 30, _, _ | 31, _, _ | 32, _, _ | 33, _, _ | 34, _, _ | 35, _, _ | 36, _, _ | 37, _, _ | 38, _, _ | 39, _, _ | 40, _, _ | 41, _, _ | 42, _, _ | 43, _, _ | 44, _, _ | 45, _, _ => exact rw_b (by decide) (by decide +kernel) (fun _ => rfl) rfl hk hl ih
  | 8, _, _ =>
    change RS (.mk 8 nm N ty l) (tmShow (.mk 8 nm N ty l))
    have h2 : ((l.length : Nat) : Int) = 2 := by simpa [kidOk, kidsN] using hk
    obtain ⟨x, y, rfl⟩ := list_two (show l.length = 2 by omega)
    have hx := ih x (by simp)
    have hy := ih y (by simp)
    rw [tmShow, tmShows, tmShows, tmShows]
    exact rw_all (ro_any hx (by have := (hl x (by simp)).range; omega) (hl x (by simp)).range.2) hy
  | 9, _, _ =>
    change RS (.mk 9 nm N ty l) (tmShow (.mk 9 nm N ty l))
    have h2 : ((l.length : Nat) : Int) = 2 := by simpa [kidOk, kidsN] using hk
    obtain ⟨x, y, rfl⟩ := list_two (show l.length = 2 by omega)
    have hx := ih x (by simp)
    have hy := ih y (by simp)
    rw [tmShow, tmShows, tmShows, tmShows]
    exact rw_ex (ro_any hx (by have := (hl x (by simp)).range; omega) (hl x (by simp)).range.2) hy
  | 19, _, _ =>
    change RS (.mk 19 nm N ty l) (tmShow (.mk 19 nm N ty l))
    rw [tmShow]
    have hN2 : 0 ≤ N ∧ N ≤ 1000000000 := by simpa [nOk] using hN
    exact rw_int (dec_any hN2.1 hN2.2)
  | 20, _, _ =>
    change RS (.mk 20 nm N ty l) (tmShow (.mk 20 nm N ty l))
    rw [tmShow]
    exact rw_name
  | 21, _, _ =>
    change RS (.mk 21 nm N ty l) (tmShow (.mk 21 nm N ty l))
    have h2 : ((l.length : Nat) : Int) = 1 := by simpa [kidOk, kidsN] using hk
    obtain ⟨x, rfl⟩ := list_one' (show l.length = 1 by omega)
    have hx := ih x (by simp)
    rw [tmShow, tmShows, tmShows]
    exact rw_neg (ro_any hx (by have := (hl x (by simp)).range; omega) (hl x (by simp)).range.2)
  | 28, _, _ =>
    change RS (.mk 28 nm N ty l) (tmShow (.mk 28 nm N ty l))
    have hne : l ≠ [] := by
      intro e
      subst e
      simp [kidOk, kidsN] at hk
    rw [tmShow]
    have he := join_eq l hne
    have hs := rw_set (nm := nm) (N := N) (ty := ty) (kl := l) (O := fun i => (kidA (tmShows l) i).2) (fun i h => by rw [shows_at l i h]; exact ih _ (List.getElem_mem h)) hn
    rw [← he] at hs
    exact hs
  | 29, _, _ =>
    change RS (.mk 29 nm N ty l) (tmShow (.mk 29 nm N ty l))
    rw [tmShow]
    have hv : validTyB ty = true := by have h3 : (!(ty.kind == 2) && validTyB ty) = true := hty; rw [Bool.and_eq_true] at h3; exact h3.2
    obtain ⟨v1, v2⟩ := validTy_ok hv
    exact rw_empty (rs_any v1 (by omega)) (by omega)
  | 46, _, _ =>
    change RS (.mk 46 nm N ty l) (tmShow (.mk 46 nm N ty l))
    have h2 : ((l.length : Nat) : Int) = 1 := by simpa [kidOk, kidsN] using hk
    obtain ⟨x, rfl⟩ := list_one' (show l.length = 1 by omega)
    have hx := ih x (by simp)
    rw [tmShow, tmShows, tmShows]
    exact rw_f46 hx
  | 47, _, _ =>
    change RS (.mk 47 nm N ty l) (tmShow (.mk 47 nm N ty l))
    have h2 : ((l.length : Nat) : Int) = 1 := by simpa [kidOk, kidsN] using hk
    obtain ⟨x, rfl⟩ := list_one' (show l.length = 1 by omega)
    have hx := ih x (by simp)
    rw [tmShow, tmShows, tmShows]
    exact rw_f47 hx
  | 48, _, _ =>
    change RS (.mk 48 nm N ty l) (tmShow (.mk 48 nm N ty l))
    have h2 : ((l.length : Nat) : Int) = 1 := by simpa [kidOk, kidsN] using hk
    obtain ⟨x, rfl⟩ := list_one' (show l.length = 1 by omega)
    have hx := ih x (by simp)
    rw [tmShow, tmShows, tmShows]
    exact rw_f48 hx
  | 49, _, _ =>
    change RS (.mk 49 nm N ty l) (tmShow (.mk 49 nm N ty l))
    have h2 : ((l.length : Nat) : Int) = 1 := by simpa [kidOk, kidsN] using hk
    obtain ⟨x, rfl⟩ := list_one' (show l.length = 1 by omega)
    have hx := ih x (by simp)
    rw [tmShow, tmShows, tmShows]
    exact rw_f49 hx
  | 50, _, _ =>
    change RS (.mk 50 nm N ty l) (tmShow (.mk 50 nm N ty l))
    have h2 : ((l.length : Nat) : Int) = 1 := by simpa [kidOk, kidsN] using hk
    obtain ⟨x, rfl⟩ := list_one' (show l.length = 1 by omega)
    have hx := ih x (by simp)
    rw [tmShow, tmShows, tmShows]
    exact rw_f50 hx
  | 51, _, _ =>
    change RS (.mk 51 nm N ty l) (tmShow (.mk 51 nm N ty l))
    have h2 : ((l.length : Nat) : Int) = 1 := by simpa [kidOk, kidsN] using hk
    obtain ⟨x, rfl⟩ := list_one' (show l.length = 1 by omega)
    have hx := ih x (by simp)
    rw [tmShow, tmShows, tmShows]
    exact rw_f51 hx
  | 52, _, _ =>
    change RS (.mk 52 nm N ty l) (tmShow (.mk 52 nm N ty l))
    have h2 : ((l.length : Nat) : Int) = 1 := by simpa [kidOk, kidsN] using hk
    obtain ⟨x, rfl⟩ := list_one' (show l.length = 1 by omega)
    have hx := ih x (by simp)
    rw [tmShow, tmShows, tmShows]
    exact rw_inv (ro_any hx (by have := (hl x (by simp)).range; omega) (hl x (by simp)).range.2)
  | 53, _, _ =>
    change RS (.mk 53 nm N ty l) (tmShow (.mk 53 nm N ty l))
    have h2 : ((l.length : Nat) : Int) = 2 := by simpa [kidOk, kidsN] using hk
    obtain ⟨x, y, rfl⟩ := list_two (show l.length = 2 by omega)
    have hx := ih x (by simp)
    have hy := ih y (by simp)
    rw [tmShow, tmShows, tmShows, tmShows]
    exact rw_image (ro_any hx (by have := (hl x (by simp)).range; omega) (hl x (by simp)).range.2) hy
  | 54, _, _ =>
    change RS (.mk 54 nm N ty l) (tmShow (.mk 54 nm N ty l))
    have h2 : ((l.length : Nat) : Int) = 2 := by simpa [kidOk, kidsN] using hk
    obtain ⟨x, y, rfl⟩ := list_two (show l.length = 2 by omega)
    have hx := ih x (by simp)
    have hy := ih y (by simp)
    rw [tmShow, tmShows, tmShows, tmShows]
    exact rw_apply (ro_any hx (by have := (hl x (by simp)).range; omega) (hl x (by simp)).range.2) hy
  | 55, _, _ =>
    change RS (.mk 55 nm N ty l) (tmShow (.mk 55 nm N ty l))
    have h2 : ((l.length : Nat) : Int) = 2 := by simpa [kidOk, kidsN] using hk
    obtain ⟨x, y, rfl⟩ := list_two (show l.length = 2 by omega)
    have hx := ih x (by simp)
    have hy := ih y (by simp)
    rw [tmShow, tmShows, tmShows, tmShows]
    exact rw_compr (ro_any hx (by have := (hl x (by simp)).range; omega) (hl x (by simp)).range.2) hy
  | 56, _, _ =>
    change RS (.mk 56 nm N ty l) (tmShow (.mk 56 nm N ty l))
    have h2 : ((l.length : Nat) : Int) = 2 := by simpa [kidOk, kidsN] using hk
    obtain ⟨x, y, rfl⟩ := list_two (show l.length = 2 by omega)
    have hx := ih x (by simp)
    have hy := ih y (by simp)
    rw [tmShow, tmShows, tmShows, tmShows]
    exact rw_fun (ro_any hx (by have := (hl x (by simp)).range; omega) (hl x (by simp)).range.2) hy
  | n + 57, _, h57 => omega
/-! How long a text is. -/
theorem ident_len {nm : ByteArray} (h : identB nm = true) : nm.data.toList.length ≤ 16 := by
 have := ident_ok h
 unfold wordOk at this
 simp only [Bool.and_eq_true, decide_eq_true_eq] at this
 exact this.2
theorem named_len {nm : ByteArray} (h : namedB nm = true) : nm.data.toList.length ≤ 17 := by
 have := ident_len (nm := trimQ nm) h
 unfold trimQ Lib.trimSuffix at this
 have hl := ba_len nm
 split at this
 ·simp at this; omega
 ·simp at this; omega
theorem opS_len (t : Tm) : (opS t).length ≤ (tmShow t).length + 2 := by
 unfold opS opd parS
 split <;> simp
theorem keyS_len (op : Int) (h : op = 46 ∨ op = 47 ∨ op = 48 ∨ op = 49 ∨ op = 50 ∨ op = 51) : (keyS op).data.toList.length ≤ 10 := by
 rcases h with rfl | rfl | rfl | rfl | rfl | rfl <;> decide +kernel
theorem bins_len : binOps.all (fun op => decide ((binS op).data.toList.length ≤ 10)) = true := by kernel_rfl
inductive LnTm : Tm → Prop
 | mk {op : Int} {nm : ByteArray} {N : Int} {ty : Ty} {l : List Tm} (h : op = 29 → (tyShow ty).length ≤ 400) (hl : ∀ t, t ∈ l → LnTm t) : LnTm (.mk op nm N ty l)
theorem ln_of {t : Tm} (h : OkTm t) : LnTm t := by
 induction h with
 | mk h hn hl ih =>
  refine .mk (fun e => ?_) ih
  have := (formed_parts h).2.2.2
  unfold tyOk at this
  rw [if_pos e, Bool.and_eq_true] at this
  exact (validTy_ok this.2).2
theorem show_len {t : Tm} (h : RdTm t) (hl : LnTm t) : (tmShow t).length + 2 ≤ 900 * tmN t := by
 induction h with
 | tru => simp [tmShow, tmComb, nd, tmN, tmNs]
 | fls => simp [tmShow, tmComb, nd, tmN, tmNs]
 | int h0 h1 =>
  have := itoa_len h0 h1
  simp [tmShow, tmComb, tmN, tmNs]; omega
 | name h =>
  rename_i nm
  have : nm.data.toList.length ≤ 17 := named_len h
  have e : tmShow (.mk 20 nm 0 ty0 []) = nm.data.toList := by simp [tmShow, tmComb]
  rw [e]; simp only [tmN, tmNs]; omega
 | empty h =>
  rename_i ty
  have e2 : tmShow (.mk 29 nil0 0 ty []) = [123, 125, 91] ++ tyShow ty ++ [93] := by simp [tmShow, tmComb]
  cases hl with | mk h hl => have := h rfl; rw [e2]; simp only [tmN, tmNs, List.length_append, List.length_cons, List.length_nil]; omega
 | not h ih =>
  rename_i t
  have e2 : tmShow (nd 3 [t]) = [110, 111, 116, 32] ++ opS t := by simp [tmShow, tmComb, nd, tmShows, kidA, opS]
  cases hl with | mk _ hl => have i := ih (hl _ (by simp)); have := opS_len t; rw [e2]; simp only [nd, tmN, tmNs, List.length_append, List.length_cons, List.length_nil]; omega
 | neg h ih =>
  rename_i t
  have e2 : tmShow (nd 21 [t]) = [45] ++ opS t := by simp [tmShow, tmComb, nd, tmShows, kidA, opS]
  cases hl with | mk _ hl => have i := ih (hl _ (by simp)); have := opS_len t; rw [e2]; simp only [nd, tmN, tmNs, List.length_append, List.length_cons, List.length_nil]; omega
 | bin ho h h' ih ih' =>
  rename_i op t u
  have hb : (binS op).data.toList.length ≤ 10 := of_decide_eq_true (List.all_eq_true.1 bins_len op ho)
  cases hl with | mk _ hl => have i := ih (hl _ (by simp)); have i' := ih' (hl _ (by simp)); have := opS_len t; have := opS_len u; rw [show_bin ho]; simp only [nd, tmN, tmNs, List.length_append, List.length_cons, List.length_nil]; omega
 | bind ho hn h h' ih ih' =>
  rename_i op nm t u
  have hi := ident_len hn
  have e : ∃ w : List UInt8, w.length ≤ 10 ∧ tmShow (.mk op nm 0 ty0 [t, u]) = w ++ (nm.data.toList ++ ([32, 105, 110, 32] : List UInt8) ++ opS t) ++ ([32, 46, 32] : List UInt8) ++ tmShow u := by
   rcases ho with rfl | rfl | rfl
   ·exact ⟨[102, 111, 114, 97, 108, 108, 32], by decide, by simp [tmShow, tmComb, tmShows, kidA, opS]⟩
   ·exact ⟨[101, 120, 105, 115, 116, 115, 32], by decide, by simp [tmShow, tmComb, tmShows, kidA, opS]⟩
   ·exact ⟨[102, 117, 110, 32], by decide, by simp [tmShow, tmComb, tmShows, kidA, opS]⟩
  obtain ⟨w, hw, e⟩ := e
  cases hl with | mk _ hl => have i := ih (hl _ (by simp)); have i' := ih' (hl _ (by simp)); have := opS_len t; rw [e]; simp only [tmN, tmNs, List.length_append, List.length_cons, List.length_nil]; omega
 | compr hn h h' ih ih' =>
  rename_i nm t u
  have hi := ident_len hn
  have e2 : tmShow (.mk 55 nm 0 ty0 [t, u]) = ([123] : List UInt8) ++ (nm.data.toList ++ ([32, 105, 110, 32] : List UInt8) ++ opS t) ++ ([32, 124, 32] : List UInt8) ++ tmShow u ++ ([125] : List UInt8) := by simp [tmShow, tmComb, tmShows, kidA, opS]
  cases hl with | mk _ hl => have i := ih (hl _ (by simp)); have i' := ih' (hl _ (by simp)); have := opS_len t; rw [e2]; simp only [tmN, tmNs, List.length_append, List.length_cons, List.length_nil]; omega
 | fn ho h ih =>
  rename_i op t
  have hk := keyS_len op ho
  have e2 : tmShow (nd op [t]) = (keyS op).data.toList ++ ([40] : List UInt8) ++ tmShow t ++ ([41] : List UInt8) := by
   rcases ho with rfl | rfl | rfl | rfl | rfl | rfl <;> simp [tmShow, tmComb, nd, tmShows, kidA]
  cases hl with | mk _ hl => have i := ih (hl _ (by simp)); rw [e2]; simp only [nd, tmN, tmNs, List.length_append, List.length_cons, List.length_nil]; omega
 | app h h' ih ih' =>
  rename_i t u
  have e2 : tmShow (nd 54 [t, u]) = opS t ++ ([40] : List UInt8) ++ tmShow u ++ ([41] : List UInt8) := by simp [tmShow, tmComb, nd, tmShows, kidA, opS]
  cases hl with | mk _ hl => have i := ih (hl _ (by simp)); have i' := ih' (hl _ (by simp)); have := opS_len t; rw [e2]; simp only [nd, tmN, tmNs, List.length_append, List.length_cons, List.length_nil]; omega
 | img h h' ih ih' =>
  rename_i t u
  have e2 : tmShow (nd 53 [t, u]) = opS t ++ ([91] : List UInt8) ++ tmShow u ++ ([93] : List UInt8) := by simp [tmShow, tmComb, nd, tmShows, kidA, opS]
  cases hl with | mk _ hl => have i := ih (hl _ (by simp)); have i' := ih' (hl _ (by simp)); have := opS_len t; rw [e2]; simp only [nd, tmN, tmNs, List.length_append, List.length_cons, List.length_nil]; omega
 | inv h ih =>
  rename_i t
  have e2 : tmShow (nd 52 [t]) = opS t ++ ([126] : List UInt8) := by simp [tmShow, tmComb, nd, tmShows, kidA, opS]
  cases hl with | mk _ hl => have i := ih (hl _ (by simp)); have := opS_len t; rw [e2]; simp only [nd, tmN, tmNs, List.length_append, List.length_cons, List.length_nil]; omega
 | set h h' ih ih' =>
  rename_i t l
  have e2 : tmShow (nd 28 (t :: l)) = ([123] : List UInt8) ++ (tmShow t ++ (l.map fun u => [44, 32] ++ tmShow u).flatten) ++ ([125] : List UInt8) := by
   rw [← join_flat]; simp [tmShow, tmComb, nd]
  cases hl with
  | mk _ hl =>
   have i := ih (hl _ (by simp))
   have f : (l.map fun u => [44, 32] ++ tmShow u).flatten.length ≤ 900 * tmNs l := by
    have : ∀ m : List Tm, (∀ u, u ∈ m → (tmShow u).length + 2 ≤ 900 * tmN u) → (m.map fun u => [44, 32] ++ tmShow u).flatten.length ≤ 900 * tmNs m := by
     intro m
     induction m with
     | nil => intro _; simp
     | cons v m ihm =>
      intro hm
      have h1 := hm v (List.mem_cons_self ..)
      have h2 := ihm fun u hu => hm u (List.mem_cons_of_mem _ hu)
      simp only [List.map_cons, List.flatten_cons, List.length_append, List.length_cons, List.length_nil, tmNs]
      omega
    exact this l fun u hu => ih' u hu (hl u (by simp [hu]))
   rw [e2]; simp only [nd, tmN, tmNs, List.length_append, List.length_cons, List.length_nil]; omega
theorem fmt_len (t : Tm) : (fmtL t).length ≤ 1800000 := by
 unfold fmtL
 split
 ·rename_i hv
  have h1 := show_len (valid_rd hv) (ln_of (valid_ok hv))
  have h2 := (valid_sz hv).2
  omega
 ·simp
theorem show_ne {t : Tm} (h : RdTm t) : tmShow t ≠ [] := by
 intro e
 have := show_lex h
 rw [e] at this
 have hn := toks_ne h
 generalize hL : tmToks t = L at *
 generalize hA : ([] : List UInt8) = A at this
 cases this with
 | nil => exact hn rfl
 | blank => cases hA
 | word hw => rename_i w r L _ _ _; cases w with
  | nil => cases hw
  | cons => cases hA
 | prime hw => rename_i w r L _ _; cases w <;> cases hA
 | num hd => rename_i w r n L _ _ _ _; cases w with
  | nil => cases hd
  | cons => cases hA
 | sign hx =>
  rename_i x r L _ _
  have hh := List.all_eq_true.1 sign_hd x hx
  simp only [Bool.and_eq_true, Bool.not_eq_true', List.isEmpty_eq_false_iff] at hh
  exact hh.2 (List.append_eq_nil_iff.1 hA.symm).1
/-! The walks. -/
def P10 (w : World) : Prop := Lib.TabIs Tryz.prog w "internal/strconv.uint64pow10" .u64 Lib.pow10Tab
theorem P10.kept {w w' : World} (h : P10 w) (k : Kept (fun _ => False) w w') : P10 w' :=
 Lib.tabBelow_of_tabIs h w' ⟨k.os, k.tape, k.output, k.size, fun q hq => k.block q hq (fun e => e)⟩
theorem fmt_pad {t : Tm} (hv : validB t = true) : fmtL t = tmShow t := by unfold fmtL; rw [if_pos hv]
set_option maxRecDepth 100000 in
set_option maxHeartbeats 4000000 in
theorem format_any {ok : Nat → Prop} {w : World} {t : Tm} {ta : Option Addr} {tn tc : Nat} {ma : Option Addr} {mn mc : Nat} (hty : TyL ok w t.ty.kids (.slice ta tn tc)) (htm : TmL ok w t.kids (.slice ma mn mc)) (hs : SmTm big t) (hp : P10 w) :
  Calls Tryz.prog 21 #[.agg #[.int .i64 t.op, .string t.name, .int .i64 t.n, .int .i64 t.ty.kind, .string t.ty.name, .slice ta tn tc, .slice ma mn mc]] w fun e w' => e = .returned (.string (str (fmtL t))) ∧ Kept (fun _ => False) w w' := by
 have K0 : Kept (fun _ => False) w (w.alloc (.cells #[.int .i64 t.op, .string t.name, .int .i64 t.n, .int .i64 t.ty.kind, .string t.ty.name, .slice ta tn tc, .slice ma mn mc] 27)) := (Kept.refl _ _).alloc _
 have bX : Blk (w.alloc (.cells #[.int .i64 t.op, .string t.name, .int .i64 t.n, .int .i64 t.ty.kind, .string t.ty.name, .slice ta tn tc, .slice ma mn mc] 27)) w.heap.size 27 (tmCells t (.slice ta tn tc) (.slice ma mn mc)) := Blk.new w 27 _
 have HV := Lib.hid (valid_any (hty.frame (Same.alloc w (.cells #[.int .i64 t.op, .string t.name, .int .i64 t.n, .int .i64 t.ty.kind, .string t.ty.name, .slice ta tn tc, .slice ma mn mc] 27))) (htm.frame (Same.alloc w (.cells #[.int .i64 t.op, .string t.name, .int .i64 t.n, .int .i64 t.ty.kind, .string t.ty.name, .slice ta tn tc, .slice ma mn mc] 27))) hs)
 cases hv : validB t
 ·have e1 : Hid (fmtL t = []) := Lib.hid (by unfold fmtL; rw [if_neg (by rw [hv]; simp)])
  rw [hv] at HV
  go_enter Tryz.func21, Tryz.ntmps21
  go_wp2_with fail
  refine HV.out.mono ?_
  rintro e w1 ⟨rfl, k1⟩
  go_wp2_with fail
  go_ret
  exact ⟨by rw [e1.out]; rfl, K0.trans k1⟩
 have hrd := valid_rd hv
 have hlen := fmt_len t
 have H0 := Lib.hid (show_ne hrd)
 have HE := Lib.hid (fmt_pad hv)
 rw [HE.out] at hlen
 have HL : Hid ((tmShow t).length ≤ 1000000000) := Lib.hid (by omega)
 have HP := Lib.hid (pd_show (valid_ok hv))
 have HT := Lib.hid hp
 rw [hv] at HV
 clear hlen hs hrd hp
 go_enter Tryz.func21, Tryz.ntmps21
 go_wp2_with fail
 refine HV.out.mono ?_
 rintro e w1 ⟨rfl, k1⟩
 have K1 := K0.trans k1
 have b1 := bX.kept k1 (fun h => h)
 have bB : Blk (w1.alloc (.cells #[.pointer none, .slice none 0 0] 71)) w1.heap.size 71 [.pointer none, .slice none 0 0] := Blk.new w1 71 _
 have K2 : Kept (fun _ => False) w1 (w1.alloc (.cells #[.pointer none, .slice none 0 0] 71)) := (Kept.refl _ _).alloc _
 have hU : Bu w1.heap.size w1.heap.size [] (w1.alloc (.cells #[.pointer none, .slice none 0 0] 71)) := Or.inl ⟨Nat.le_refl _, .slice none 0 0, bB, World.ownsRow_nil _ _ _ _, by simp [Value.ownBlock]⟩
 have hTB : TB w1.heap.size (w1.alloc (.cells #[.pointer none, .slice none 0 0] 71)) := (Lib.tabBelow_of_tabIs (HT.out.kept K1)).on ⟨K2.os, K2.tape, K2.output, K2.size, fun q hq => K2.block q hq (fun e => e)⟩
 have t5 := ((hty.frame (Same.of_kept K1 (fun _ _ e => e))).mono (ok' := fun q => q < w1.heap.size) (fun q h _ => h)).frame (Same.of_kept K2 (fun _ _ e => e))
 have t6 := ((htm.frame (Same.of_kept K1 (fun _ _ e => e))).mono (ok' := fun q => q < w1.heap.size) (fun q h _ => h)).frame (Same.of_kept K2 (fun _ _ e => e))
 have HC := Lib.hid (HP.out w1.heap.size w1.heap.size [] _ _ _ hTB hU (by simp) t5 t6 (by have := HL.out; simpa using this))
 have b2 := b1.alloc (.cells #[.pointer none, .slice none 0 0] 71)
 have l1 := b1.lt
 have n1 : w.heap.size ≠ w1.heap.size := by omega
 have gA : ∀ i, w1.cell? ⟨w.heap.size, i, none⟩ = (tmCells t (.slice ta tn tc) (.slice ma mn mc))[i]? := b1.cell
 unfold tmCells at gA
 unfold tmVal at HC
 clear t5 t6 hTB hU
 go_wp2_with fail
 refine HC.out.mono ?_
 rintro e w3 ⟨rfl, u3, k3⟩
 rw [List.nil_append] at u3
 have HS := Lib.hid (bstr_any u3 H0.out)
 have K3 : Kept (fun k => w1.heap.size ≤ k) w1 w3 := (K2.mono (fun _ _ h => h.elim)).via k3 (fun x hx e => by
  rcases e with rfl | ⟨h, _⟩
  ·exact Nat.le_refl _
  ·exact h)
 go_wp2_with fail
 refine HS.out.mono ?_
 rintro e w4 ⟨rfl, k4⟩
 go_wp2_with fail
 go_ret
 refine ⟨by rw [HE.out]; rfl, K1.via (S' := fun k => w1.heap.size ≤ k) (K3.via (S' := fun k => w1.heap.size ≤ k) ⟨k4.os, k4.tape, k4.output, k4.size, fun q hq hn => k4.block q (by omega)⟩ (fun _ _ h => h)) (fun x hx h => ?_)⟩
 have := K1.size
 omega
set_option maxRecDepth 100000 in
set_option maxHeartbeats 4000000 in
theorem rformat_any {ok : Nat → Prop} {w : World} {t : Tm} {ta : Option Addr} {tn tc : Nat} {ma : Option Addr} {mn mc : Nat} (hty : TyL ok w t.ty.kids (.slice ta tn tc)) (htm : TmL ok w t.kids (.slice ma mn mc)) (hs : SmTm big t) :
  Calls Tryz.prog 25 #[.agg #[.int .i64 t.op, .string t.name, .int .i64 t.n, .int .i64 t.ty.kind, .string t.ty.name, .slice ta tn tc, .slice ma mn mc]] w fun e w' => e = .returned (.string (str (fmtL t))) ∧ Kept (fun _ => False) w w' := by
 have K0 : Kept (fun _ => False) w (w.alloc (.cells #[.int .i64 t.op, .string t.name, .int .i64 t.n, .int .i64 t.ty.kind, .string t.ty.name, .slice ta tn tc, .slice ma mn mc] 27)) := (Kept.refl _ _).alloc _
 have bX : Blk (w.alloc (.cells #[.int .i64 t.op, .string t.name, .int .i64 t.n, .int .i64 t.ty.kind, .string t.ty.name, .slice ta tn tc, .slice ma mn mc] 27)) w.heap.size 27 (tmCells t (.slice ta tn tc) (.slice ma mn mc)) := Blk.new w 27 _
 have hk2 := hty.frame (Same.of_kept (ok := ok) K0 (fun k h e => e))
 have hm2 := htm.frame (Same.of_kept (ok := ok) K0 (fun k h e => e))
 have HV := Lib.hid (rvalid_any hk2 hm2 hs)
 cases hv : validB t
 ·have e1 : Hid (fmtL t = []) := Lib.hid (by unfold fmtL; rw [if_neg (by rw [hv]; simp)])
  rw [hv] at HV
  clear hk2 hm2
  go_enter Tryz.func25, Tryz.ntmps25
  go_wp2_with fail
  refine HV.out.mono ?_
  rintro e w1 ⟨rfl, k1⟩
  go_wp2_with fail
  go_ret
  exact ⟨by rw [e1.out]; rfl, K0.trans k1⟩
 have hlen := fmt_len t
 have HE := Lib.hid (fmt_pad hv)
 rw [HE.out] at hlen
 have HW := Lib.hid (fun W (k : Kept (fun _ => False) (w.alloc (.cells #[.int .i64 t.op, .string t.name, .int .i64 t.n, .int .i64 t.ty.kind, .string t.ty.name, .slice ta tn tc, .slice ma mn mc] 27)) W) => rw_show (valid_ok hv) W ok _ _ (hk2.frame (Same.of_kept (ok := ok) k (fun k h e => e))) (hm2.frame (Same.of_kept (ok := ok) k (fun k h e => e))) (by omega))
 unfold tmVal at HW
 rw [hv] at HV
 clear hlen hs hk2 hm2
 go_enter Tryz.func25, Tryz.ntmps25
 go_wp2_with fail
 refine HV.out.mono ?_
 rintro e w1 ⟨rfl, k1⟩
 have gA : ∀ i, w1.cell? ⟨w.heap.size, i, none⟩ = (tmCells t (.slice ta tn tc) (.slice ma mn mc))[i]? := (bX.kept k1 (fun h => h)).cell
 unfold tmCells at gA
 have HS := Lib.hid (HW.out w1 k1)
 go_wp2_with fail
 refine HS.out.mono ?_
 rintro e w2 ⟨rfl, k2⟩
 go_wp2_with fail
 go_ret
 exact ⟨by rw [HE.out]; rfl, (K0.trans k1).trans k2⟩
def nfold (s : ByteArray) (j : Nat) : Int × Int := (s.data.toList.take j).foldl nestF (0, 0)
theorem nfold_next {s : ByteArray} {j : Nat} (h : j < s.size) : nfold s (j + 1) = nestF (nfold s j) s[j] := by
  unfold nfold
  rw [take_snoc s j h, List.foldl_append]; rfl
theorem nfold_bd (s : ByteArray) (j : Nat) (h : j ≤ s.size) : -(j : Int) ≤ (nfold s j).1 ∧ (nfold s j).1 ≤ j ∧ 0 ≤ (nfold s j).2 ∧ (nfold s j).2 ≤ j := by
  induction j with
  | zero => exact ⟨Int.le_refl _, Int.le_refl _, Int.le_refl _, Int.le_refl _⟩
  | succ j ih =>
    obtain ⟨a, b, c, d⟩ := ih (by omega)
    rw [nfold_next (by omega)]
    have hn : nestC s[j] = 1 ∨ nestC s[j] = -1 ∨ nestC s[j] = 0 := by
      unfold nestC
      split
      · exact Or.inl rfl
      · split
        · exact Or.inr (Or.inl rfl)
        · exact Or.inr (Or.inr rfl)
    generalize nfold s j = q at *
    unfold nestF
    rcases hn with e | e | e <;> rw [e]
    · rw [if_pos rfl]
      show -((j + 1 : Nat) : Int) ≤ q.1 + 1 ∧ q.1 + 1 ≤ ((j + 1 : Nat) : Int) ∧ 0 ≤ max q.2 (q.1 + 1) ∧ max q.2 (q.1 + 1) ≤ ((j + 1 : Nat) : Int)
      omega
    · rw [if_neg (by decide)]
      show -((j + 1 : Nat) : Int) ≤ q.1 + -1 ∧ q.1 + -1 ≤ ((j + 1 : Nat) : Int) ∧ 0 ≤ q.2 ∧ q.2 ≤ ((j + 1 : Nat) : Int)
      omega
    · rw [if_neg (by decide)]
      show -((j + 1 : Nat) : Int) ≤ q.1 + 0 ∧ q.1 + 0 ≤ ((j + 1 : Nat) : Int) ∧ 0 ≤ q.2 ∧ q.2 ≤ ((j + 1 : Nat) : Int)
      omega
theorem nfold_all (s : ByteArray) : (nfold s s.size).2 = mostC s.data.toList := by
  unfold nfold mostC
  rw [List.take_of_length_le (by rw [ba_len]; exact Nat.le_refl _)]
theorem u8_of {c : UInt8} {n : Nat} (hn : n < 256) (h : c.toNat = n) : c = UInt8.ofNat n := UInt8.toNat_inj.1 (by rw [h, UInt8.toNat_ofNat']; omega)
set_option maxRecDepth 100000 in
set_option maxHeartbeats 16000000 in
theorem readable_any {ok : Nat → Prop} {w : World} {t : Tm} {ta : Option Addr} {tn tc : Nat} {ma : Option Addr} {mn mc : Nat} (hty : TyL ok w t.ty.kids (.slice ta tn tc)) (htm : TmL ok w t.kids (.slice ma mn mc)) (hs : SmTm big t) :
    Calls Tryz.prog 22 #[.agg #[.int .i64 t.op, .string t.name, .int .i64 t.n, .int .i64 t.ty.kind, .string t.ty.name, .slice ta tn tc, .slice ma mn mc]] w fun e w' => e = .returned (.bool (readB t)) ∧ Kept (fun _ => False) w w' := by
  have K0 : Kept (fun _ => False) w (w.alloc (.cells #[.int .i64 t.op, .string t.name, .int .i64 t.n, .int .i64 t.ty.kind, .string t.ty.name, .slice ta tn tc, .slice ma mn mc] 27)) := (Kept.refl _ _).alloc _
  have bX : Blk (w.alloc (.cells #[.int .i64 t.op, .string t.name, .int .i64 t.n, .int .i64 t.ty.kind, .string t.ty.name, .slice ta tn tc, .slice ma mn mc] 27)) w.heap.size 27 (tmCells t (.slice ta tn tc) (.slice ma mn mc)) := Blk.new w 27 _
  have hk2 := hty.frame (Same.of_kept (ok := ok) K0 (fun k h e => e))
  have hm2 := htm.frame (Same.of_kept (ok := ok) K0 (fun k h e => e))
  have HR := Lib.hid (rformat_any hk2 hm2 hs)
  have HV := Lib.hid (fun W (k : Kept (fun _ => False) (w.alloc (.cells #[.int .i64 t.op, .string t.name, .int .i64 t.n, .int .i64 t.ty.kind, .string t.ty.name, .slice ta tn tc, .slice ma mn mc] 27)) W) => rvalid_any (hk2.frame (Same.of_kept (ok := ok) k (fun k h e => e))) (hm2.frame (Same.of_kept (ok := ok) k (fun k h e => e))) hs)
  have hlen := fmt_len t
  have HB : Hid (readB t = (validB t && decide ((str (fmtL t)).size ≤ 65536) && decide ((nfold (str (fmtL t)) (str (fmtL t)).size).2 ≤ 64))) := Lib.hid (by
    rw [nfold_all, str_list, str_size]; rfl)
  have hz : (str (fmtL t)).size ≤ 1800000 := by rw [str_size]; exact hlen
  clear hk2 hm2 hlen hs
  generalize str (fmtL t) = s at *
  have HZ := Lib.hid hz
  generalize readB t = rb at *
  generalize validB t = vb at *
  clear hz
  go_enter Tryz.func22, Tryz.ntmps22
  go_wp2_with fail
  refine HR.out.mono ?_
  rintro e w1 ⟨rfl, k1⟩
  have gA : ∀ i, w1.cell? ⟨w.heap.size, i, none⟩ = (tmCells t (.slice ta tn tc) (.slice ma mn mc))[i]? := (bX.kept k1 (fun h => h)).cell
  unfold tmCells at gA
  have HS := Lib.hid (HV.out w1 k1)
  clear HV HR
  go_wp2_with fail
  go_loop [6, 4, 5] (fun i n m => ∃ j : Nat, j ≤ s.size ∧ i = .int .i64 j ∧ n = .int .i64 (nfold s j).1 ∧ m = .int .i64 (nfold s j).2) (fun i _ _ => s.size - (intOf i).toNat)
  case atStart => exact ⟨0, Nat.zero_le _, rfl, rfl, rfl⟩
  case round =>
    obtain ⟨j, hj, rfl, rfl, rfl⟩ := hrel
    have HBD := Lib.hid (nfold_bd s j hj)
    by_cases hlt : j < s.size
    · have hj2 : (j : Int) < (s.size : Int) := by omega
      have HN := Lib.hid (nfold_next hlt)
      have hq := HBD.out
      have hzz := HZ.out
      have q1 : -2000000 < (nfold s j).1 := by omega
      have q2 : (nfold s j).1 < 2000000 := by omega
      have q3 : -2000000 < (nfold s j).2 := by omega
      have q4 : (nfold s j).2 < 2000000 := by omega
      have q5 : (j : Int) < 2000000 := by omega
      clear hq hzz
      generalize hF : nfold s j = F at *
      clear hF
      rcases (show s[j].toNat = 40 ∨ s[j].toNat = 91 ∨ s[j].toNat = 123 ∨ s[j].toNat = 41 ∨ s[j].toNat = 93 ∨ s[j].toNat = 125 ∨ (s[j].toNat ≠ 40 ∧ s[j].toNat ≠ 91 ∧ s[j].toNat ≠ 123 ∧ s[j].toNat ≠ 41 ∧ s[j].toNat ≠ 93 ∧ s[j].toNat ≠ 125) by omega) with hc | hc | hc | hc | hc | hc | hc
      case inr.inr.inr.inr.inr.inr =>
        obtain ⟨h1, h2, h3, h4, h5, h6⟩ := hc
        have e1 : nestF F s[j] = F := by
          have : nestC s[j] = 0 := by
            unfold nestC
            rw [if_neg (by rintro (h | h | h) <;> simp [h] at h1 h2 h3), if_neg (by rintro (h | h | h) <;> simp [h] at h4 h5 h6)]
          unfold nestF
          rw [this, if_neg (by decide)]
          show (F.1 + 0, F.2) = F
          rw [Int.add_zero]
        have HE := Lib.hid (HN.out.trans e1)
        have t1 : ((s[j].toNat : Int) == 40) = false := by rw [beq_eq_false_iff_ne]; omega
        have t2 : ((s[j].toNat : Int) == 91) = false := by rw [beq_eq_false_iff_ne]; omega
        have t3 : ((s[j].toNat : Int) == 123) = false := by rw [beq_eq_false_iff_ne]; omega
        have t4 : ((s[j].toNat : Int) == 41) = false := by rw [beq_eq_false_iff_ne]; omega
        have t5 : ((s[j].toNat : Int) == 93) = false := by rw [beq_eq_false_iff_ne]; omega
        have t6 : ((s[j].toNat : Int) == 125) = false := by rw [beq_eq_false_iff_ne]; omega
        clear e1 h1 h2 h3 h4 h5 h6
        go_wp2_with fail
        go_round
        case rel => exact ⟨j + 1, by omega, by go_num, by rw [HE.out], by rw [HE.out]⟩
        case measure => simp [intOf]; omega
      all_goals
        have hu := u8_of (by decide) hc
        first
        | (have e1 : nestF F s[j] = (F.1 + 1, max F.2 (F.1 + 1)) := by
            unfold nestF
            rw [hu]; rfl
           have HE := Lib.hid (HN.out.trans e1))
        | (have e1 : nestF F s[j] = (F.1 + -1, F.2) := by
            unfold nestF
            rw [hu]; rfl
           have HE := Lib.hid (HN.out.trans e1))
        have HC := Lib.hid hc
        clear e1 hu hc
        first
        | (have t1 : ((s[j].toNat : Int) == 40) = true := by rw [beq_iff_eq]; have := HC.out; omega)
        | (have t1 : ((s[j].toNat : Int) == 40) = false := by rw [beq_eq_false_iff_ne]; have := HC.out; omega)
        first
        | (have t2 : ((s[j].toNat : Int) == 91) = true := by rw [beq_iff_eq]; have := HC.out; omega)
        | (have t2 : ((s[j].toNat : Int) == 91) = false := by rw [beq_eq_false_iff_ne]; have := HC.out; omega)
        first
        | (have t3 : ((s[j].toNat : Int) == 123) = true := by rw [beq_iff_eq]; have := HC.out; omega)
        | (have t3 : ((s[j].toNat : Int) == 123) = false := by rw [beq_eq_false_iff_ne]; have := HC.out; omega)
        first
        | (have t4 : ((s[j].toNat : Int) == 41) = true := by rw [beq_iff_eq]; have := HC.out; omega)
        | (have t4 : ((s[j].toNat : Int) == 41) = false := by rw [beq_eq_false_iff_ne]; have := HC.out; omega)
        first
        | (have t5 : ((s[j].toNat : Int) == 93) = true := by rw [beq_iff_eq]; have := HC.out; omega)
        | (have t5 : ((s[j].toNat : Int) == 93) = false := by rw [beq_eq_false_iff_ne]; have := HC.out; omega)
        first
        | (have t6 : ((s[j].toNat : Int) == 125) = true := by rw [beq_iff_eq]; have := HC.out; omega)
        | (have t6 : ((s[j].toNat : Int) == 125) = false := by rw [beq_eq_false_iff_ne]; have := HC.out; omega)
        go_wp2_with fail
        go_round
        case rel => exact ⟨j + 1, by omega, by go_num, by rw [HE.out] <;> first | rfl | (congr 1), by rw [HE.out]⟩
        case measure => simp [intOf]; omega
    · have he : j = s.size := by omega
      have hq := HBD.out
      rw [he] at hq
      have hzz := HZ.out
      have q3 : -2000000 < (nfold s s.size).2 := by omega
      have q4 : (nfold s s.size).2 < 2000000 := by omega
      have q5 : (s.size : Int) < 2000000 := by omega
      clear hq hzz HBD
      subst he
      generalize (nfold s s.size).2 = mo at *
      generalize (nfold s s.size).1 = mn1 at *
      cases vb
      · go_wp2_with (go_at_call 20; refine HS.out.mono ?_; rintro e w2 ⟨rfl, k2⟩)
        go_ret
        exact ⟨by rw [HB.out]; rfl, (K0.trans k1).trans k2⟩
      · by_cases h1 : s.size ≤ 65536
        · have t1 : decide ((s.size : Int) ≤ 65536) = true := decide_eq_true (by omega)
          have b1 := Lib.hid (decide_eq_true h1)
          clear h1
          by_cases h2 : mo ≤ 64
          · have t2 : decide (mo ≤ 64) = true := decide_eq_true h2
            have b2 := Lib.hid t2
            clear h2
            go_wp2_with (go_at_call 20; refine HS.out.mono ?_; rintro e w2 ⟨rfl, k2⟩)
            go_ret
            exact ⟨by rw [HB.out, b1.out, b2.out]; rfl, (K0.trans k1).trans k2⟩
          · have t2 : decide (mo ≤ 64) = false := decide_eq_false h2
            have b2 := Lib.hid t2
            clear h2
            go_wp2_with (go_at_call 20; refine HS.out.mono ?_; rintro e w2 ⟨rfl, k2⟩)
            go_ret
            exact ⟨by rw [HB.out, b1.out, b2.out]; rfl, (K0.trans k1).trans k2⟩
        · have t1 : decide ((s.size : Int) ≤ 65536) = false := decide_eq_false (by omega)
          have b1 := Lib.hid (decide_eq_false h1)
          clear h1
          go_wp2_with (go_at_call 20; refine HS.out.mono ?_; rintro e w2 ⟨rfl, k2⟩)
          go_ret
          exact ⟨by rw [HB.out, b1.out]; rfl, (K0.trans k1).trans k2⟩
end Go.Proofs.YtckjlliobebodaaGreatDoor
namespace Go.Proofs.YtckjlliobebodaaGreatDoor
open Go.ChangeShapes Go.WideShapes Go.ChangeAt Go.RowKit
theorem gPow : Tryz.prog.globalNamed "internal/strconv.uint64pow10" = some 2 := by kernel_rfl
theorem gPowT : (Tryz.prog.globals[2]?).map (·.type) = some 170 := by kernel_rfl
theorem p10_of_laid {W : World} (h : laidMetH Tryz.prog Rows.termErrorStaysRow.laid W) : P10 W := by
  have h0 : laidMet Tryz.prog Rows.termErrorStaysRow.laid W := h
  exact Lib.tabIs_of_head gPow gPowT Tryz.underlying170 Tryz.underlying154 (by kernel_rfl) (by kernel_rfl) h0.tail.tail
theorem below_of_kept {w w' : World} (k : Kept (fun _ => False) w w') : Below w.heap.size w w' := ⟨k.os, k.tape, k.output, k.size, fun q hq => k.block q hq (fun e => e)⟩
theorem laidOut0 : laidOutB Tryz.prog = true := by kernel_rfl
theorem val_of_cells {v : Value} {l : List Value} (h : v.cells.toList = l) (hl : l.length ≠ 1) : v = .agg l.toArray := by
  cases v
  all_goals first
  | (exfalso; apply hl; rw [← h]; rfl)
  | (rename_i a; have : a.toList = l := h
     rw [← this])
theorem arg_tm {H : Type} {enc : TypeId × Value → H} {W : World} {v : Value} {d : DataW H} {p : List MemPlace} (h : DataW.Trod enc Tryz.prog W 0 (fun _ => true) true 27 v d p) :
    ∃ (t : Tm) (tk kk : Value), v = tmVal t tk kk ∧ TyL (fun _ => True) W t.ty.kids tk ∧ TmL (fun _ => True) W t.kids kk ∧ SmTm big t := by
  obtain ⟨fuel, h⟩ := h
  obtain ⟨t, tk, kk, hc, h1, h2, h3⟩ := open_tm fuel h
  exact ⟨t, tk, kk, val_of_cells hc (by simp [tmCells]), h1, h2, h3⟩
theorem back_tm {H : Type} {enc : TypeId × Value → H} {W W' : World} {v : Value} {d : DataW H} {p : List MemPlace} (h : DataW.Trod enc Tryz.prog W 0 (fun _ => true) true 27 v d p) (k : Kept (fun _ => False) W W') (hlt : ∀ x ∈ p, x.block < W.heap.size) :
    DataW.Trod enc Tryz.prog W' 0 (fun b => decide (b < W.heap.size)) true 27 v d p := Below.trod laidOut0 (by kernel_rfl) (of_decide_eq_true (by kernel_rfl)) h (below_of_kept k) hlt
end Go.Proofs.YtckjlliobebodaaGreatDoor
namespace Go.Proofs.YtckjlliobebodaaGreatDoor
open Go.RowKit
def SmC (t : Ty) : Prop := ∀ (w : World) (ok ok' : Nat → Prop) (tk tk' : Value), TyL ok w t.kids tk → TyL ok' w t.kids tk' →
  Calls Tryz.prog 17 #[tyVal t tk, tyVal t tk'] w fun e w' => e = .returned (.bool true) ∧ Kept (fun _ => False) w w'
set_option maxRecDepth 100000 in
set_option maxHeartbeats 8000000 in
theorem sameTy_nil {k : Int} {nm : ByteArray} {a a' : Option Addr} {cp cp' : Nat} {w : World} :
    Calls Tryz.prog 17 #[.agg #[.int .i64 k, .string nm, .slice a 0 cp], .agg #[.int .i64 k, .string nm, .slice a' 0 cp']] w fun e w' => e = .returned (.bool true) ∧ Kept (fun _ => False) w w' := by
  have bA : Blk ((w.alloc (.cells #[.int .i64 k, .string nm, .slice a 0 cp] 24)).alloc (.cells #[.int .i64 k, .string nm, .slice a' 0 cp'] 24)) w.heap.size 24 [.int .i64 k, .string nm, .slice a 0 cp] := (Blk.new w 24 _).alloc _
  have bB : Blk ((w.alloc (.cells #[.int .i64 k, .string nm, .slice a 0 cp] 24)).alloc (.cells #[.int .i64 k, .string nm, .slice a' 0 cp'] 24)) (w.heap.size + 1) 24 [.int .i64 k, .string nm, .slice a' 0 cp'] := Blk.new' 24 _ (by simp)
  have K1 : Kept (fun _ => False) w ((w.alloc (.cells #[.int .i64 k, .string nm, .slice a 0 cp] 24)).alloc (.cells #[.int .i64 k, .string nm, .slice a' 0 cp'] 24)) := ((Kept.refl _ _).alloc _).alloc _
  go_enter Tryz.func17, Tryz.ntmps17
  go_wp2_with fail
  generalize ((w.alloc (.cells #[.int .i64 k, .string nm, .slice a 0 cp] 24)).alloc (.cells #[.int .i64 k, .string nm, .slice a' 0 cp'] 24)) = w1 at *
  have g2 : w1.cell? ⟨w.heap.size, 2, none⟩ = some (.slice a 0 cp) := bA.cell 2
  go_loop [5] (fun i => i = .int .i64 0) (fun i => 0)
  case atStart => rfl
  case round =>
    subst hrel
    go_wp2_with fail
    go_ret
    exact ⟨rfl, K1⟩
set_option maxRecDepth 100000 in
set_option maxHeartbeats 8000000 in
theorem sameTy_mk {k : Int} {nm : ByteArray} {l : List Ty} {b off cp b' off' cp' : Nat} {w : World} {ok ok' : Nat → Prop} (IH : ∀ t, t ∈ l → SmC t) (K K' : Nat → Value) (hb : ok b) (hb' : ok' b')
    (hcell : ∀ i (h : i < l.length), w.cell? ⟨b, off + i * 3, none⟩ = some (.int .i64 l[i].kind) ∧ w.cell? ⟨b, off + i * 3 + 1, none⟩ = some (.string l[i].name) ∧ w.cell? ⟨b, off + i * 3 + 2, none⟩ = some (K i))
    (hk : ∀ i (h : i < l.length), TyL ok w l[i].kids (K i))
    (hcell' : ∀ i (h : i < l.length), w.cell? ⟨b', off' + i * 3, none⟩ = some (.int .i64 l[i].kind) ∧ w.cell? ⟨b', off' + i * 3 + 1, none⟩ = some (.string l[i].name) ∧ w.cell? ⟨b', off' + i * 3 + 2, none⟩ = some (K' i))
    (hk' : ∀ i (h : i < l.length), TyL ok' w l[i].kids (K' i)) (hn : l.length ≤ 1000000) :
    Calls Tryz.prog 17 #[.agg #[.int .i64 k, .string nm, .slice (some ⟨b, off, none⟩) l.length cp], .agg #[.int .i64 k, .string nm, .slice (some ⟨b', off', none⟩) l.length cp']] w fun e w' => e = .returned (.bool true) ∧ Kept (fun _ => False) w w' := by
  have HIH := Lib.hid IH
  have HC := Lib.hid hcell
  have HK := Lib.hid hk
  have HC' := Lib.hid hcell'
  have HK' := Lib.hid hk'
  clear IH hcell hk hcell' hk'
  have bA : Blk ((w.alloc (.cells #[.int .i64 k, .string nm, .slice (some ⟨b, off, none⟩) l.length cp] 24)).alloc (.cells #[.int .i64 k, .string nm, .slice (some ⟨b', off', none⟩) l.length cp'] 24)) w.heap.size 24 [.int .i64 k, .string nm, .slice (some ⟨b, off, none⟩) l.length cp] := (Blk.new w 24 _).alloc _
  have bB : Blk ((w.alloc (.cells #[.int .i64 k, .string nm, .slice (some ⟨b, off, none⟩) l.length cp] 24)).alloc (.cells #[.int .i64 k, .string nm, .slice (some ⟨b', off', none⟩) l.length cp'] 24)) (w.heap.size + 1) 24 [.int .i64 k, .string nm, .slice (some ⟨b', off', none⟩) l.length cp'] := Blk.new' 24 _ (by simp)
  have K1 : Kept (fun _ => False) w ((w.alloc (.cells #[.int .i64 k, .string nm, .slice (some ⟨b, off, none⟩) l.length cp] 24)).alloc (.cells #[.int .i64 k, .string nm, .slice (some ⟨b', off', none⟩) l.length cp'] 24)) := ((Kept.refl _ _).alloc _).alloc _
  go_enter Tryz.func17, Tryz.ntmps17
  go_wp2_with fail
  generalize ((w.alloc (.cells #[.int .i64 k, .string nm, .slice (some ⟨b, off, none⟩) l.length cp] 24)).alloc (.cells #[.int .i64 k, .string nm, .slice (some ⟨b', off', none⟩) l.length cp'] 24)) = w1 at *
  go_loopw [5] (fun i wr => ∃ j : Nat, j ≤ l.length ∧ i = .int .i64 j ∧ Kept (fun _ => False) w1 wr) (fun i _ => l.length - (intOf i).toNat)
  case atStart => exact ⟨0, Nat.zero_le _, rfl, Kept.refl _ _⟩
  case round =>
    obtain ⟨j, hj, rfl, kr⟩ := hrel
    have g2 : wr.cell? ⟨w.heap.size, 2, none⟩ = some (.slice (some ⟨b, off, none⟩) l.length cp) := (bA.kept kr (fun h => h)).cell 2
    have g2' : wr.cell? ⟨w.heap.size + 1, 2, none⟩ = some (.slice (some ⟨b', off', none⟩) l.length cp') := (bB.kept kr (fun h => h)).cell 2
    by_cases hlt : j < l.length
    · have KR := K1.trans kr
      have c0 := (Same.of_kept (ok := ok) KR (fun k h e => e)).cell hb (HC.out j hlt).1
      have c1 := (Same.of_kept (ok := ok) KR (fun k h e => e)).cell hb (HC.out j hlt).2.1
      have c2 := (Same.of_kept (ok := ok) KR (fun k h e => e)).cell hb (HC.out j hlt).2.2
      have d0 := (Same.of_kept (ok := ok') KR (fun k h e => e)).cell hb' (HC'.out j hlt).1
      have d1 := (Same.of_kept (ok := ok') KR (fun k h e => e)).cell hb' (HC'.out j hlt).2.1
      have d2 := (Same.of_kept (ok := ok') KR (fun k h e => e)).cell hb' (HC'.out j hlt).2.2
      have hkk := (HK.out j hlt).frame (Same.of_kept (ok := ok) KR (fun k h e => e))
      have hkk' := (HK'.out j hlt).frame (Same.of_kept (ok := ok') KR (fun k h e => e))
      obtain ⟨ta, tn, tc, hKj⟩ := hkk.slice
      obtain ⟨ta', tn', tc', hKj'⟩ := hkk'.slice
      rw [hKj] at c2 hkk
      rw [hKj'] at d2 hkk'
      have hcon := Lib.hid (fun (W : World) (kW : Kept (fun _ => False) wr W) => HIH.out _ (List.getElem_mem hlt) W ok ok' _ _ (hkk.frame (Same.of_kept kW (fun k h e => e))) (hkk'.frame (Same.of_kept kW (fun k h e => e))))
      unfold tyVal at hcon
      clear hkk hkk' hKj hKj'
      have hj2 : (j : Int) < (l.length : Int) := by omega
      have hj3 : (j : Int) < 1000000 := by omega
      go_wp2_with fail
      go_still_tail 10, (by kernel_rfl)
      change wpList _ _ _ _ _ wr.drew
      have kd : Kept (fun _ => False) wr wr.drew := (Kept.refl _ _).drew
      generalize wr.drew = w2 at *
      go_wp2_with (go_at_call 17; refine (hcon.out _ kd).mono ?_; rintro e w' ⟨rfl, k2⟩)
      go_roundw
      case rel => exact ⟨j + 1, by omega, by go_num, kr.trans (kd.trans k2)⟩
      case measure => simp [intOf]; omega
    · go_wp2_with fail
      go_ret
      exact ⟨rfl, K1.trans kr⟩
theorem sameTy_any {t : Ty} (hb : BdTy t) : SmC t := by
  induction hb with
  | mk hn hl ih =>
    intro w ok ok' tk tk' h h'
    cases h with
    | nil h =>
      cases h' with
      | nil h' =>
        rcases h with rfl | ⟨ad, c, rfl⟩ <;> rcases h' with rfl | ⟨ad', c', rfl⟩ <;> exact sameTy_nil
      | mk K hne => exact absurd rfl hne
    | mk K hne hb hc hcell hk =>
      cases h' with
      | nil h' => exact absurd rfl hne
      | mk K' hne' hb' hc' hcell' hk' => exact sameTy_mk ih K K' hb hb' hcell hk hcell' hk' hn
def StC (t : Tm) : Prop := ∀ (w : World) (ok ok' : Nat → Prop) (tk kk tk' kk' : Value), TyL ok w t.ty.kids tk → TmL ok w t.kids kk → TyL ok' w t.ty.kids tk' → TmL ok' w t.kids kk' →
 Calls Tryz.prog 13 #[tmVal t tk kk, tmVal t tk' kk'] w fun e w' => e = .returned (.bool true) ∧ Kept (fun _ => False) w w'
set_option maxRecDepth 100000 in
set_option maxHeartbeats 8000000 in
theorem sames_any {l : List Tm} {ok ok' : Nat → Prop} {w : World} {v v' : Value} (IH : ∀ t, t ∈ l → StC t) (hl : l.length ≤ 1000000) (h : TmL ok w l v) (h' : TmL ok' w l v') :
  Calls Tryz.prog 39 #[v, v'] w fun e w' => e = .returned (.bool true) ∧ Kept (fun _ => False) w w' := by
 cases h with
 | nil he =>
  cases h' with
  | mk K M hne => exact absurd rfl hne
  | nil he' =>
   rcases he with rfl | ⟨ad, c, rfl⟩ <;> rcases he' with rfl | ⟨ad', c', rfl⟩
   all_goals
    go_enter Tryz.func39, Tryz.ntmps39
    go_wp2_with fail
    go_loop [5] (fun i => i = .int .i64 0) (fun i => 0)
    case atStart => rfl
    case round =>
     subst hrel
     go_wp2_with fail
     go_ret
     exact ⟨rfl, Kept.refl _ _⟩
 | mk K M hne hb hc hcell hk hm =>
  rename_i b off cap
  cases h' with
  | nil he' => exact absurd rfl hne
  | mk K' M' hne' hb' hc' hcell' hk' hm' =>
   rename_i b' off' cap'
   have HIH := Lib.hid IH
   have HC := Lib.hid hcell
   have HK := Lib.hid hk
   have HM := Lib.hid hm
   have HC' := Lib.hid hcell'
   have HK' := Lib.hid hk'
   have HM' := Lib.hid hm'
   clear IH hcell hk hcell' hk' hm hm' hne'
   go_enter Tryz.func39, Tryz.ntmps39
   go_wp2_with fail
   go_loopw [5] (fun i wr => ∃ j : Nat, j ≤ l.length ∧ i = .int .i64 j ∧ Kept (fun _ => False) w wr) (fun i _ => l.length - (intOf i).toNat)
   case atStart => exact ⟨0, Nat.zero_le _, rfl, Kept.refl _ _⟩
   case round =>
    obtain ⟨j, hj, rfl, kr⟩ := hrel
    by_cases hlt : j < l.length
    ·have c0 := (Same.of_kept (ok := ok) kr (fun k h e => e)).cell hb (HC.out j hlt).1
     have c1 := (Same.of_kept (ok := ok) kr (fun k h e => e)).cell hb (HC.out j hlt).2.1
     have c2 := (Same.of_kept (ok := ok) kr (fun k h e => e)).cell hb (HC.out j hlt).2.2.1
     have c3 := (Same.of_kept (ok := ok) kr (fun k h e => e)).cell hb (HC.out j hlt).2.2.2.1
     have c4 := (Same.of_kept (ok := ok) kr (fun k h e => e)).cell hb (HC.out j hlt).2.2.2.2.1
     have c5 := (Same.of_kept (ok := ok) kr (fun k h e => e)).cell hb (HC.out j hlt).2.2.2.2.2.1
     have c6 := (Same.of_kept (ok := ok) kr (fun k h e => e)).cell hb (HC.out j hlt).2.2.2.2.2.2
     have d0 := (Same.of_kept (ok := ok') kr (fun k h e => e)).cell hb' (HC'.out j hlt).1
     have d1 := (Same.of_kept (ok := ok') kr (fun k h e => e)).cell hb' (HC'.out j hlt).2.1
     have d2 := (Same.of_kept (ok := ok') kr (fun k h e => e)).cell hb' (HC'.out j hlt).2.2.1
     have d3 := (Same.of_kept (ok := ok') kr (fun k h e => e)).cell hb' (HC'.out j hlt).2.2.2.1
     have d4 := (Same.of_kept (ok := ok') kr (fun k h e => e)).cell hb' (HC'.out j hlt).2.2.2.2.1
     have d5 := (Same.of_kept (ok := ok') kr (fun k h e => e)).cell hb' (HC'.out j hlt).2.2.2.2.2.1
     have d6 := (Same.of_kept (ok := ok') kr (fun k h e => e)).cell hb' (HC'.out j hlt).2.2.2.2.2.2
     have hkk := (HK.out j hlt).frame (Same.of_kept (ok := ok) kr (fun k h e => e))
     have hmm := (HM.out j hlt).frame (Same.of_kept (ok := ok) kr (fun k h e => e))
     have hkk' := (HK'.out j hlt).frame (Same.of_kept (ok := ok') kr (fun k h e => e))
     have hmm' := (HM'.out j hlt).frame (Same.of_kept (ok := ok') kr (fun k h e => e))
     obtain ⟨ta, tn, tc, hKj⟩ := hkk.slice
     obtain ⟨ua, un, uc, hMj⟩ := hmm.slice
     obtain ⟨ta', tn', tc', hKj'⟩ := hkk'.slice
     obtain ⟨ua', un', uc', hMj'⟩ := hmm'.slice
     rw [hKj] at c5 hkk
     rw [hMj] at c6 hmm
     rw [hKj'] at d5 hkk'
     rw [hMj'] at d6 hmm'
     have hcon := Lib.hid (fun (W : World) (kW : Kept (fun _ => False) wr W) => HIH.out _ (List.getElem_mem hlt) W ok ok' _ _ _ _ (hkk.frame (Same.of_kept kW (fun k h e => e))) (hmm.frame (Same.of_kept kW (fun k h e => e))) (hkk'.frame (Same.of_kept kW (fun k h e => e))) (hmm'.frame (Same.of_kept kW (fun k h e => e))))
     unfold tmVal at hcon
     clear hkk hkk' hmm hmm' hKj hKj' hMj hMj'
     have hj2 : (j : Int) < (l.length : Int) := by omega
     have hj3 : (j : Int) < 1000000 := by omega
     go_wp2_with fail
     go_still_tail 8, (by kernel_rfl)
     change wpList _ _ _ _ _ wr.drew
     have kd : Kept (fun _ => False) wr wr.drew := (Kept.refl _ _).drew
     generalize wr.drew = w2 at *
     go_wp2_with (go_at_call 13; refine (hcon.out _ kd).mono ?_; rintro e w' ⟨rfl, k2⟩)
     go_roundw
     case rel => exact ⟨j + 1, by omega, by go_num, kr.trans (kd.trans k2)⟩
     case measure => simp [intOf]; omega
    ·go_wp2_with fail
     go_ret
     exact ⟨rfl, kr⟩
set_option maxRecDepth 100000 in
set_option maxHeartbeats 8000000 in
theorem same_one {t : Tm} (hty : BdTy t.ty) (hl : t.kids.length ≤ 1000000) (IH : ∀ u, u ∈ t.kids → StC u) : StC t := by
 intro w ok ok' tk kk tk' kk' h1 h2 h3 h4
 obtain ⟨a, n, c, rfl⟩ := h1.slice
 obtain ⟨ma, mn, mc, rfl⟩ := h2.slice
 obtain ⟨a', n', c', rfl⟩ := h3.slice
 obtain ⟨ma', mn', mc', rfl⟩ := h4.slice
 have bA : Blk ((w.alloc (.cells #[.int .i64 t.op, .string t.name, .int .i64 t.n, .int .i64 t.ty.kind, .string t.ty.name, .slice a n c, .slice ma mn mc] 27)).alloc (.cells #[.int .i64 t.op, .string t.name, .int .i64 t.n, .int .i64 t.ty.kind, .string t.ty.name, .slice a' n' c', .slice ma' mn' mc'] 27)) w.heap.size 27 [.int .i64 t.op, .string t.name, .int .i64 t.n, .int .i64 t.ty.kind, .string t.ty.name, .slice a n c, .slice ma mn mc] := (Blk.new w 27 _).alloc _
 have bB : Blk ((w.alloc (.cells #[.int .i64 t.op, .string t.name, .int .i64 t.n, .int .i64 t.ty.kind, .string t.ty.name, .slice a n c, .slice ma mn mc] 27)).alloc (.cells #[.int .i64 t.op, .string t.name, .int .i64 t.n, .int .i64 t.ty.kind, .string t.ty.name, .slice a' n' c', .slice ma' mn' mc'] 27)) (w.heap.size + 1) 27 [.int .i64 t.op, .string t.name, .int .i64 t.n, .int .i64 t.ty.kind, .string t.ty.name, .slice a' n' c', .slice ma' mn' mc'] := Blk.new' 27 _ (by simp)
 have K1 : Kept (fun _ => False) w ((w.alloc (.cells #[.int .i64 t.op, .string t.name, .int .i64 t.n, .int .i64 t.ty.kind, .string t.ty.name, .slice a n c, .slice ma mn mc] 27)).alloc (.cells #[.int .i64 t.op, .string t.name, .int .i64 t.n, .int .i64 t.ty.kind, .string t.ty.name, .slice a' n' c', .slice ma' mn' mc'] 27)) := ((Kept.refl _ _).alloc _).alloc _
 have HT := Lib.hid (fun W (kW : Kept (fun _ => False) w W) => sameTy_any hty W ok ok' _ _ (h1.frame (Same.of_kept kW (fun k h e => e))) (h3.frame (Same.of_kept kW (fun k h e => e))))
 have HS := Lib.hid (fun W (kW : Kept (fun _ => False) w W) => sames_any IH hl (h2.frame (Same.of_kept kW (fun k h e => e))) (h4.frame (Same.of_kept kW (fun k h e => e))))
 unfold tyVal at HT
 unfold tmVal
 clear h1 h2 h3 h4 IH
 go_enter Tryz.func13, Tryz.ntmps13
 go_wp2_with fail
 generalize ((w.alloc (.cells #[.int .i64 t.op, .string t.name, .int .i64 t.n, .int .i64 t.ty.kind, .string t.ty.name, .slice a n c, .slice ma mn mc] 27)).alloc (.cells #[.int .i64 t.op, .string t.name, .int .i64 t.n, .int .i64 t.ty.kind, .string t.ty.name, .slice a' n' c', .slice ma' mn' mc'] 27)) = w1 at *
 have gA : ∀ i, w1.cell? ⟨w.heap.size, i, none⟩ = [Value.int .i64 t.op, .string t.name, .int .i64 t.n, .int .i64 t.ty.kind, .string t.ty.name, .slice a n c, .slice ma mn mc][i]? := bA.cell
 have gB : ∀ i, w1.cell? ⟨w.heap.size + 1, i, none⟩ = [Value.int .i64 t.op, .string t.name, .int .i64 t.n, .int .i64 t.ty.kind, .string t.ty.name, .slice a' n' c', .slice ma' mn' mc'][i]? := bB.cell
 refine (HT.out _ K1).mono ?_
 rintro e w2 ⟨rfl, k2⟩
 have gA2 : ∀ i, w2.cell? ⟨w.heap.size, i, none⟩ = [Value.int .i64 t.op, .string t.name, .int .i64 t.n, .int .i64 t.ty.kind, .string t.ty.name, .slice a n c, .slice ma mn mc][i]? := (bA.kept k2 (fun h => h)).cell
 have gB2 : ∀ i, w2.cell? ⟨w.heap.size + 1, i, none⟩ = [Value.int .i64 t.op, .string t.name, .int .i64 t.n, .int .i64 t.ty.kind, .string t.ty.name, .slice a' n' c', .slice ma' mn' mc'][i]? := (bB.kept k2 (fun h => h)).cell
 clear gA gB
 go_wp2_with fail
 refine (HS.out _ (K1.trans k2)).mono ?_
 rintro e w3 ⟨rfl, k3⟩
 go_wp2_with fail
 go_ret
 exact ⟨rfl, (K1.trans k2).trans k3⟩
theorem sameTm_any {t : Tm} (hb : BdTm t) : StC t := by
 induction hb with
 | mk hn ht hl ih => exact same_one ht hn ih
def BoL (w : World) (a : Option Addr) (n : Nat) : Prop := n = 0 ∨ ∃ (b off : Nat) (Z : Nat → Bool), a = some ⟨b, off, none⟩ ∧ ∀ i, i < n → w.cell? ⟨b, off + i, none⟩ = some (.bool (Z i))
theorem BoL.kept {w w' : World} {a : Option Addr} {n : Nat} (h : BoL w a n) (k : Kept (fun _ => False) w w') : BoL w' a n := by
 rcases h with h | ⟨b, off, Z, ha, h⟩
 ·exact Or.inl h
 ·exact Or.inr ⟨b, off, Z, ha, fun i hi => (Same.of_kept (ok := fun _ => True) k (fun _ _ e => e)).cell trivial (h i hi)⟩
theorem cells_4 : Tryz.prog.cellsOf 4 = 1 := by kernel_rfl
set_option maxRecDepth 100000 in
theorem arg_bools {H : Type} {enc : TypeId × Value → H} {W : World} {v : Value} {d : DataW H} {p : List MemPlace} {r : Reach} {b0 : Nat} (hval : Value.okWide Tryz.prog W r b0 45 v) (h : DataW.Trod enc Tryz.prog W 0 (fun _ => true) true 45 v d p) :
  ∃ (a : Option Addr) (n c : Nat), v = .slice a n c ∧ BoL W a n ∧ n ≤ big := by
 obtain ⟨a, n, c, rfl⟩ := Go.WideShapes.okWide_slice Tryz.underlying45 hval
 obtain ⟨fuel, h⟩ := h
 refine ⟨a, n, c, rfl, ?_⟩
 rcases Go.Deep.open_bools Tryz.underlying45 Tryz.underlying4 cells_4 h with ⟨hc, -⟩ | ⟨a', len, cap, B, hc, -, hl, hm, -, hB⟩
 ·simp [Value.cells] at hc
  exact ⟨Or.inl hc.2.1, Nat.le_trans (Nat.le_of_eq hc.2.1) (Nat.zero_le _)⟩
 ·simp [Value.cells] at hc
  obtain ⟨rfl, rfl, rfl⟩ := hc
  refine ⟨?_, by unfold maxLen at hm; unfold big; omega⟩
  by_cases h0 : n = 0
  ·exact Or.inl h0
  ·right
   have h1 := hB 0 (by omega)
   rw [add_zero] at h1
   have ha := cell_plain h1
   refine ⟨a'.block, a'.off, B, by rw [← ha], fun i hi => ?_⟩
   have := hB i (by omega)
   rwa [ha, add_plain] at this
theorem back_bools {H : Type} {enc : TypeId × Value → H} {W W' : World} {v : Value} {d : DataW H} {p : List MemPlace} (h : DataW.Trod enc Tryz.prog W 0 (fun _ => true) true 45 v d p) (k : Kept (fun _ => False) W W') (hlt : ∀ x ∈ p, x.block < W.heap.size) :
  DataW.Trod enc Tryz.prog W' 0 (fun b => decide (b < W.heap.size)) true 45 v d p := Below.trod laidOut0 (by kernel_rfl) (of_decide_eq_true (by kernel_rfl)) h (below_of_kept k) hlt
def Bl (s U : ByteArray) (j : Nat) : Prop := ∃ m, U = str ([40, 10] ++ m) ∧ Wd (s.data.toList.take j) m
theorem Bl.size {s U : ByteArray} {j : Nat} (h : Bl s U j) (hs : s.size ≤ 65536) : U.size ≤ 300000 := by
 obtain ⟨m, rfl, hw⟩ := h
 rw [str_size]
 have := hw.len
 have hl : (s.data.toList.take j).length ≤ s.size := by rw [List.length_take, ba_len]; omega
 simp; omega
theorem ext_one (s : ByteArray) (j : Nat) (h : j < s.size) : s.extract j (j + 1) = str [s[j]] := by
 apply ba_ext
 rw [ext_list, take_snoc s j h]
 have : (s.data.toList.take j).length = j := by rw [List.length_take, ba_len]; omega
 rw [List.drop_append_of_le_length (by omega), List.drop_of_length_le (by omega)]
 simp [str]
theorem Bl.one {s U : ByteArray} {j : Nat} (h : Bl s U j) (hj : j < s.size) : Bl s (U ++ s.extract j (j + 1)) (j + 1) := by
 obtain ⟨m, rfl, hw⟩ := h
 refine ⟨m ++ [s[j]], ?_, ?_⟩
 ·rw [ext_one s j hj, str_app]; simp
 ·rw [take_snoc s j hj]; exact hw.one _
theorem Bl.more {s U : ByteArray} {j : Nat} (h : Bl s U j) (hj : j < s.size) (hc : s[j] = 32) : Bl s (U ++ s.extract j (j + 1) ++ ⟨#[9, 10, 32]⟩) (j + 1) := by
 obtain ⟨m, rfl, hw⟩ := h
 refine ⟨m ++ [32, 9, 10, 32], ?_, ?_⟩
 ·rw [ext_one s j hj, str_app, show (⟨#[9, 10, 32]⟩ : ByteArray) = str [9, 10, 32] from rfl, str_app, hc]; simp
 ·rw [take_snoc s j hj, hc]; exact hw.more
theorem Bl.fin {s U : ByteArray} (h : Bl s U s.size) : ∃ m, U ++ ⟨#[10, 41, 32]⟩ = str (blankT m) ∧ Wd s.data.toList m := by
 obtain ⟨m, rfl, hw⟩ := h
 rw [List.take_of_length_le (by rw [ba_len]; exact Nat.le_refl _)] at hw
 exact ⟨m, by rw [show (⟨#[10, 41, 32]⟩ : ByteArray) = str [10, 41, 32] from rfl, str_app]; rfl, hw⟩
theorem Bl.zero (s : ByteArray) : Bl s ⟨#[40, 10]⟩ 0 := ⟨[], rfl, .nil⟩
theorem bl_parse {t : Tm} {s U : ByteArray} (hv : validB t = true) (hs : s = str (tmShow t)) (h : Bl s U s.size) {f : Nat} (hf : 14 * ((U ++ ⟨#[10, 41, 32]⟩ : ByteArray).size + 2) < f) :
  (parseE f (U ++ ⟨#[10, 41, 32]⟩) = 0 ∧ parseT f (U ++ ⟨#[10, 41, 32]⟩) = t ∧ parseA f (U ++ ⟨#[10, 41, 32]⟩) = 0) ∨ (parseE f (U ++ ⟨#[10, 41, 32]⟩) = 4) ∨ (parseE f (U ++ ⟨#[10, 41, 32]⟩) = 3 ∧ 65536 < (U ++ ⟨#[10, 41, 32]⟩ : ByteArray).size) := by
 obtain ⟨m, e, hw⟩ := h.fin
 rw [hs, str_list] at hw
 rw [e] at hf ⊢
 by_cases hl : 65536 < (str (blankT m)).size
 ·right; right; exact ⟨by unfold parseE; rw [if_pos hl], hl⟩
 ·rcases blanks_back hv hw hf (by omega) with q | q
  ·exact Or.inl q
  ·exact Or.inr (Or.inl q)
set_option maxRecDepth 100000 in
set_option maxHeartbeats 32000000 in
theorem bl_any {t : Tm} {tk kk : Value} {a : Option Addr} {n c : Nat} {w : World} (hgl : Gl w) (hp : P10 w) (hty : TyL (fun _ => True) w t.ty.kids tk) (htm : TmL (fun _ => True) w t.kids kk) (hs : SmTm big t) (hB : BoL w a n) (hn : n ≤ big) :
  Calls Tryz.prog 10 #[tmVal t tk kk, .slice a n c] w (EsOk w) := by
 obtain ⟨ta, tn, tc, rfl⟩ := hty.slice
 obtain ⟨ma, mn, mc, rfl⟩ := htm.slice
 have H20 := Lib.hid (fun W (k : Kept (fun _ => False) w W) => rvalid_any (ok := fun _ => True) (hty.frame (Same.of_kept k (fun _ _ e => e))) (htm.frame (Same.of_kept k (fun _ _ e => e))) hs)
 have H22 := Lib.hid (fun W (k : Kept (fun _ => False) w W) => readable_any (ok := fun _ => True) (hty.frame (Same.of_kept k (fun _ _ e => e))) (htm.frame (Same.of_kept k (fun _ _ e => e))) hs)
 have H21 := Lib.hid (fun W (k : Kept (fun _ => False) w W) => format_any (ok := fun _ => True) (hty.frame (Same.of_kept k (fun _ _ e => e))) (htm.frame (Same.of_kept k (fun _ _ e => e))) hs (hp.kept k))
 have H14 := Lib.hid (fun W (k : Kept (fun _ => False) w W) => awake_any W (hgl.kept k (fun h => h) (fun h => h)))
 have H11 : Hid (∀ W (k : Kept (fun _ => False) w W) (U : ByteArray), U.size ≤ 300100 → Calls Tryz.prog 11 #[.string U] W (ParseP (14 * (U.size + 2) + 1) U W)) := Lib.hid (fun W k U hU => parse_any (by omega) (by omega) (hgl.kept k (fun h => h) (fun h => h)))
 have H13 : Hid (∀ W (k : Kept (fun _ => False) w W) (ok' : Nat → Prop) tk' kk', readB t = true → TyL ok' W t.ty.kids tk' → TmL ok' W t.kids kk' → Calls Tryz.prog 13 #[tmVal t (.slice ta tn tc) (.slice ma mn mc), tmVal t tk' kk'] W fun e w' => e = .returned (.bool true) ∧ Kept (fun _ => False) W w') := Lib.hid (fun W k ok' tk' kk' hr h1 h2 =>
  sameTm_any (valid_bd (read_parts hr).1) W (fun _ => True) ok' _ _ _ _ (hty.frame (Same.of_kept k (fun _ _ e => e))) (htm.frame (Same.of_kept k (fun _ _ e => e))) h1 h2)
 have HBL := Lib.hid (fun W (k : Kept (fun _ => False) w W) => hB.kept k)
 have hvr : readB t = true → validB t = true := fun h => (read_parts h).1
 unfold tmVal at H13
 have bA : Blk (w.alloc (.cells #[.int .i64 t.op, .string t.name, .int .i64 t.n, .int .i64 t.ty.kind, .string t.ty.name, .slice ta tn tc, .slice ma mn mc] 27)) w.heap.size 27 [.int .i64 t.op, .string t.name, .int .i64 t.n, .int .i64 t.ty.kind, .string t.ty.name, .slice ta tn tc, .slice ma mn mc] := Blk.new w 27 _
 have K0 : Kept (fun _ => False) w (w.alloc (.cells #[.int .i64 t.op, .string t.name, .int .i64 t.n, .int .i64 t.ty.kind, .string t.ty.name, .slice ta tn tc, .slice ma mn mc] 27)) := (Kept.refl _ _).alloc _
 have hn2 : (n : Int) ≤ 9223372036854775807 := by unfold big at hn; omega
 clear hty htm hs hgl hp hB hn
 change Calls Tryz.prog 10 #[.agg #[.int .i64 t.op, .string t.name, .int .i64 t.n, .int .i64 t.ty.kind, .string t.ty.name, .slice ta tn tc, .slice ma mn mc], .slice a n c] w (EsOk w)
 cases hr : readB t
 ·cases hv : validB t
  ·go_enter Tryz.func10, Tryz.ntmps10
   go_wp2_with fail
   refine (H20.out _ K0).mono ?_
   rintro e w1 ⟨rfl, k1⟩
   go_wp2_with fail
   refine (H14.out _ (K0.trans k1)).mono ?_
   rintro e w2 ⟨rfl, k2⟩
   go_wp2_with fail
   go_ret
   exact ⟨rfl, (K0.trans k1).trans k2⟩
  ·go_enter Tryz.func10, Tryz.ntmps10
   go_wp2_with fail
   refine (H20.out _ K0).mono ?_
   rintro e w1 ⟨rfl, k1⟩
   have g1 := (bA.kept k1 (fun h => h)).cell
   go_wp2_with fail
   refine (H22.out _ (K0.trans k1)).mono ?_
   rintro e w2 ⟨rfl, k2⟩
   go_wp2_with fail
   refine (H14.out _ ((K0.trans k1).trans k2)).mono ?_
   rintro e w3 ⟨rfl, k3⟩
   go_wp2_with fail
   go_ret
   exact ⟨rfl, ((K0.trans k1).trans k2).trans k3⟩
 have hv := hvr hr
 by_cases h200 : 200 < n
 ·have i2 : decide ((200 : Int) < (n : Int)) = true := decide_eq_true (by omega)
  clear h200
  go_enter Tryz.func10, Tryz.ntmps10
  go_wp2_with fail
  refine (H20.out _ K0).mono ?_
  rintro e w1 ⟨rfl, k1⟩
  have g1 := (bA.kept k1 (fun h => h)).cell
  go_wp2_with fail
  refine (H22.out _ (K0.trans k1)).mono ?_
  rintro e w2 ⟨rfl, k2⟩
  go_wp2_with fail
  refine (H14.out _ ((K0.trans k1).trans k2)).mono ?_
  rintro e w3 ⟨rfl, k3⟩
  go_wp2_with fail
  go_ret
  exact ⟨rfl, ((K0.trans k1).trans k2).trans k3⟩
 have i2 : decide ((200 : Int) < (n : Int)) = false := decide_eq_false (by omega)
 have hp := read_parts hr
 obtain ⟨sf, hsf⟩ : ∃ sf, sf = str (fmtL t) := ⟨_, rfl⟩
 rw [← hsf] at H21
 have hsz : sf.size ≤ 65536 := by rw [hsf, str_size, hp.2.1]; exact hp.2.2.1
 have HSF := Lib.hid (show sf = str (tmShow t) by rw [hsf, hp.2.1])
 have HSZ := Lib.hid hsz
 have hn200 : (n : Int) < 201 := by omega
 clear hp hsf h200 hsz
 go_enter Tryz.func10, Tryz.ntmps10
 go_wp2_with fail
 generalize w.alloc (.cells #[.int .i64 t.op, .string t.name, .int .i64 t.n, .int .i64 t.ty.kind, .string t.ty.name, .slice ta tn tc, .slice ma mn mc] 27) = w0 at *
 refine (H20.out _ K0).mono ?_
 rintro e w1 ⟨rfl, k1⟩
 have g1 := (bA.kept k1 (fun h => h)).cell
 go_wp2_with fail
 refine (H22.out _ (K0.trans k1)).mono ?_
 rintro e w2 ⟨rfl, k2⟩
 have k02 := k1.trans k2
 have g2 := (bA.kept k02 (fun h => h)).cell
 go_wp2_with fail
 refine (H21.out _ (K0.trans k02)).mono ?_
 rintro e w3 ⟨rfl, k3⟩
 have k03 := k02.trans k3
 have g3 := (bA.kept k03 (fun h => h)).cell
 have l3 := (bA.kept k03 (fun h => h)).lt
 have K3 := K0.trans k03
 go_wp2_with fail
 go_loop [8, 6, 7] (fun i u k => ∃ (j cc : Nat) (U : ByteArray), j ≤ sf.size ∧ cc ≤ j ∧ i = .int .i64 j ∧ u = .string U ∧ k = .int .i64 cc ∧ Hid (Bl sf U j)) (fun i _ _ => sf.size - (intOf i).toNat)
 case atStart => exact ⟨0, 0, _, Nat.zero_le _, Nat.le_refl _, rfl, rfl, rfl, Lib.hid (Bl.zero sf)⟩
 case round =>
  obtain ⟨j, cc, U, hj, hcj, rfl, rfl, rfl, hBl⟩ := hrel
  have hU := hBl.out.size HSZ.out
  by_cases hlt : j < sf.size
  ·have hj2 : (j : Int) < (sf.size : Int) := by omega
   have hj5 : (j : Int) < 65536 := by have := HSZ.out; omega
   have hc5 : (cc : Int) < 65536 := by omega
   have hes : (sf.extract j (j + 1)).size = 1 := by rw [ext_one sf j hlt]; rfl
   have hu2 : (U ++ sf.extract j (j + 1)).size ≤ 300001 := by rw [ByteArray.size_append, hes]; omega
   cases h32 : ((sf[j].toNat : Int) == 32)
   ·have HN := Lib.hid (hBl.out.one hlt)
    go_wp2_with fail
    go_round
    case rel => exact ⟨j + 1, cc, _, by omega, by omega, by go_num, rfl, rfl, HN⟩
    case measure => simp [intOf]; omega
   ·have hc32 : sf[j] = 32 := u8_of (n := 32) (by decide) (by have := eq_of_beq h32; omega)
    have HN := Lib.hid (hBl.out.one hlt)
    have HM := Lib.hid (hBl.out.more hlt hc32)
    clear hc32
    rcases HBL.out _ K3 with h0 | ⟨b, off, Z, rfl, hZ⟩
    ·subst h0
     go_wp2_with fail
     go_round
     case rel => exact ⟨j + 1, cc, _, by omega, by omega, by go_num, rfl, rfl, HN⟩
     case measure => simp [intOf]; omega
    ·by_cases h0 : n = 0
     ·subst h0
      clear hZ
      go_wp2_with fail
      go_round
      case rel => exact ⟨j + 1, cc, _, by omega, by omega, by go_num, rfl, rfl, HN⟩
      case measure => simp [intOf]; omega
     ·have hn0 : 0 < n := by omega
      have i3 : decide ((0 : Int) < (n : Int)) = true := decide_eq_true (by omega)
      have hmod : cc % n < n := Nat.mod_lt _ hn0
      have hm1 : (cc : Int).tmod (n : Int) = ((cc % n : Nat) : Int) := rfl
      have hz := hZ (cc % n) hmod
      have hne : ((n : Int) == 0) = false := by rw [beq_eq_false_iff_ne]; omega
      have hne2 : ¬ (n : Int) = 0 := by omega
      have hmod2 : ((cc % n : Nat) : Int) < (n : Int) := by omega
      clear h0 hZ hmod
      generalize hM : cc % n = mm at *
      have HMM := Lib.hid hM
      clear hM
      cases hzb : Z mm
      ·rw [hzb] at hz
       go_wp2_with fail
       go_round
       case rel => exact ⟨j + 1, cc + 1, _, by omega, by omega, by go_num, rfl, by go_num, HN⟩
       case measure => simp [intOf]; omega
      ·rw [hzb] at hz
       go_wp2_with fail
       go_round
       case rel => exact ⟨j + 1, cc + 1, _, by omega, by omega, by go_num, rfl, by go_num, HM⟩
       case measure => simp [intOf]; omega
  ·have he : j = sf.size := by omega
   subst he
   have hu3 : (U ++ ⟨#[10, 41, 32]⟩ : ByteArray).size ≤ 300003 := by rw [ByteArray.size_append]; show U.size + 3 ≤ 300003; omega
   have HBP := Lib.hid (bl_parse hv HSF.out hBl.out (f := 14 * ((U ++ ⟨#[10, 41, 32]⟩ : ByteArray).size + 2) + 1) (by omega))
   have H11b := Lib.hid (H11.out _ K3 _ (show (U ++ ⟨#[10, 41, 32]⟩ : ByteArray).size ≤ 300100 by omega))
   go_wp2_with fail
   generalize (U ++ ⟨#[10, 41, 32]⟩ : ByteArray) = V at *
   unfold ParseP at H11b
   rcases HBP.out with ⟨e1, e2, e3⟩ | e1 | ⟨e1, e2⟩
   ·rw [e1, e2, e3] at H11b
    refine H11b.out.mono ?_
    rintro e w4 ⟨tv, rfl, ⟨tk2, kk2, rfl, h5, h6⟩, k4⟩
    have k04 := k03.trans k4
    have g4 := (bA.kept k04 (fun h => h)).cell
    have l4 := (bA.kept k04 (fun h => h)).lt
    obtain ⟨ua, un, uc, rfl⟩ := h5.slice
    obtain ⟨va, vn, vc, rfl⟩ := h6.slice
    unfold tmVal
    have k5 : Kept (fun _ => False) w4 (w4.alloc (.cells #[.int .i64 t.op, .string t.name, .int .i64 t.n, .int .i64 t.ty.kind, .string t.ty.name, .slice ua un uc, .slice va vn vc] 27)) := (Kept.refl _ _).alloc _
    have H13b := Lib.hid (H13.out _ (K0.trans (k04.trans k5)) _ _ _ hr (h5.frame (Same.of_kept k5 (fun _ _ e => e))) (h6.frame (Same.of_kept k5 (fun _ _ e => e))))
    clear h5 h6 e1 e2 e3
    go_wp2_with fail
    refine H13b.out.mono ?_
    rintro e w6 ⟨rfl, k6⟩
    have K6 := K0.trans ((k04.trans k5).trans k6)
    go_wp2_with fail
    refine (H14.out _ K6).mono ?_
    rintro e w7 ⟨rfl, k7⟩
    go_wp2_with fail
    go_ret
    exact ⟨rfl, K6.trans k7⟩
   all_goals
    rw [e1] at H11b
    try have i7 : decide ((65536 : Int) < (V.size : Int)) = true := decide_eq_true (by omega)
    generalize parseA (14 * (V.size + 2) + 1) V = a1 at *
    generalize parseT (14 * (V.size + 2) + 1) V = t1 at *
    clear e1 HBP
    try clear e2
    refine H11b.out.mono ?_
    rintro e w4 ⟨tv, rfl, ⟨tk2, kk2, rfl, h5, h6⟩, k4⟩
    have k04 := k03.trans k4
    obtain ⟨ua, un, uc, rfl⟩ := h5.slice
    obtain ⟨va, vn, vc, rfl⟩ := h6.slice
    unfold tmVal
    have K5 : Kept (fun _ => False) w (w4.alloc (.cells #[.int .i64 t1.op, .string t1.name, .int .i64 t1.n, .int .i64 t1.ty.kind, .string t1.ty.name, .slice ua un uc, .slice va vn vc] 27)) := (K0.trans k04).alloc _
    clear h5 h6
    go_wp2_with fail
    refine (H14.out _ K5).mono ?_
    rintro e w7 ⟨rfl, k7⟩
    go_wp2_with fail
    go_ret
    exact ⟨rfl, K5.trans k7⟩
end Go.Proofs.YtckjlliobebodaaGreatDoor
