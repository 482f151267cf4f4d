/- Texts RMor RPos RPre of this proof, in one. -/
import Derived.Test.YtckjlliobebodaaGreatDoorBb9
import Derived.Deep.RegionHeld3
import Derived.StillTailTactics
import Derived.Deep.CutBlock
set_option linter.unusedVariables false
set_option linter.unusedSimpArgs false
namespace Go.Proofs.YtckjlliobebodaaGreatDoor
open Go.RowKit
theorem rest_one {T : TF} {s : ByteArray} {n g : Nat} {t : Tm} {σ : PS} (hg : lvGroup n ≠ 1) (ho : (opOf n σ == 0) = false) : restS T s n (g + 1) t σ = bT (bP (advS s σ) (T (if lvGroup n = 2 then n else n + 1))) fun u σ2 => .ok (nd (opOf n σ) [t, u], σ2) := by
  rw [rest_eq, ho, if_neg (by simp), bP_assoc]
  refine bP_congr fun σ1 _ => bT_congr rfl fun u σ2 _ => ?_
  rw [if_pos (by simpa using hg)]
theorem rest_left {T : TF} {s : ByteArray} {n g : Nat} {t : Tm} {σ : PS} (hg : lvGroup n = 1) (ho : (opOf n σ == 0) = false) : restS T s n (g + 1) t σ = bT (bP (advS s σ) (T (n + 1))) fun u σ2 => restS T s n g (nd (opOf n σ) [t, u]) σ2 := by
  rw [rest_eq, ho, if_neg (by simp), bP_assoc]
  refine bP_congr fun σ1 _ => ?_
  rw [if_neg (by rw [hg]; decide)]
  refine bT_congr rfl fun u σ2 _ => ?_
  rw [if_neg (by rw [hg]; decide)]
theorem op_noBr {s : ByteArray} {σ : PS} (h : Tk s σ) (n : Nat) (ho : (opOf n σ == 0) = false) : ∃ t, isS σ t = true ∧ inB t openers = false ∧ inB t closers = false := by
  have hne : opOf n σ ≠ 0 := ne_of_beq_false ho
  have key : ∀ (ys : List ByteArray) (vs : List Int), opGo σ ys vs ≠ 0 → ∃ t, t ∈ ys ∧ isS σ t = true := by
    intro ys
    induction ys with
    | nil => intro vs h; exact absurd rfl h
    | cons y ys ih =>
      intro vs h
      cases vs with
      | nil => exact absurd rfl h
      | cons v vs =>
        unfold opGo at h
        cases hi : isS σ y
        · rw [hi] at h; obtain ⟨t, h1, h2⟩ := ih vs h; exact ⟨t, List.mem_cons_of_mem _ h1, h2⟩
        · exact ⟨y, List.mem_cons_self .., hi⟩
  obtain ⟨t, h1, h2⟩ := key _ _ hne
  have hn : n ≤ 12 := by
    rcases Nat.lt_or_ge 12 n with h | h
    · exfalso
      have : lvSigns n = [] := by unfold lvSigns; rw [List.getD_eq_getElem?_getD, List.getElem?_eq_none (by show 13 ≤ n; omega)]; rfl
      rw [this] at h1; cases h1
    · exact h
  have all : ∀ n, n ≤ 12 → ∀ t, t ∈ lvSigns n → inB t openers = false ∧ inB t closers = false := by decide +kernel
  exact ⟨t, h2, all n hn t h1⟩
theorem lv_class (n : Nat) (h1 : 1 ≤ n) (h13 : n ≤ 13) : (n = 5 ∨ n = 13) ∨ (n = 1 ∨ n = 6 ∨ n = 7 ∨ n = 10) ∨ n = 2 ∨ (n = 3 ∨ n = 4 ∨ n = 8 ∨ n = 9 ∨ n = 11 ∨ n = 12) := by omega
theorem lv_none {n : Nat} (h : n = 5 ∨ n = 13) (σ : PS) : opOf n σ = 0 := by rcases h with rfl | rfl <;> rfl
theorem lv_one {n : Nat} (h : n = 1 ∨ n = 6 ∨ n = 7 ∨ n = 10) : lvGroup n = 0 := by rcases h with rfl | rfl | rfl | rfl <;> rfl
theorem lv_lft {n : Nat} (h : n = 3 ∨ n = 4 ∨ n = 8 ∨ n = 9 ∨ n = 11 ∨ n = 12) : lvGroup n = 1 := by rcases h with rfl | rfl | rfl | rfl | rfl | rfl <;> rfl
set_option maxRecDepth 100000 in
set_option maxHeartbeats 16000000 in
theorem rmore_any {b f : Nat} {s : ByteArray} {T : TF} (hT : RTC b s f T) (hI : TInv s T) {w : World} {q : Except ER PS} (h : RR w b s q) (n : Nat) (h1 : 1 ≤ n) (h13 : n ≤ 13) {t : Tm} {tk kk : Value} {n0 : Nat} (hb0 : b < n0) (hn0 : n0 ≤ w.heap.size)
    (at1 : TyL (fun k => n0 ≤ k) w t.ty.kids tk) (ct1 : TmL (fun k => n0 ≤ k) w t.kids kk) {M N : Nat} (hq : QB s q M N) (hf : 14 * M ≤ f) :
    Calls Tryz.prog 77 #[.pointer (some ⟨b, 0, none⟩), tmVal t tk kk, .int .i64 n] w (LV b s (VTm n0) (bP q fun σ => restS T s n (s.size + 2) t σ) w) := by
  have hlt := h.lt
  have hs := h.src
  obtain ⟨ta, tn, tc, rfl⟩ := at1.slice
  obtain ⟨td, te, tf, rfl⟩ := ct1.slice
  unfold tmVal
  have h0 := (h.alloc (.cells #[.int .i64 t.op, .string t.name, .int .i64 t.n, .int .i64 t.ty.kind, .string t.ty.name, .slice ta tn tc, .slice td te tf] 27)).alloc (.cells #[.int .i64 0, .string ⟨#[]⟩, .int .i64 0, .int .i64 0, .string ⟨#[]⟩, .slice none 0 0, .slice none 0 0] 27)
  have hB0 : Blk ((w.alloc (.cells #[.int .i64 t.op, .string t.name, .int .i64 t.n, .int .i64 t.ty.kind, .string t.ty.name, .slice ta tn tc, .slice td te tf] 27)).alloc (.cells #[.int .i64 0, .string ⟨#[]⟩, .int .i64 0, .int .i64 0, .string ⟨#[]⟩, .slice none 0 0, .slice none 0 0] 27)) w.heap.size 27 (tmCells t (.slice ta tn tc) (.slice td te tf)) := (Blk.new w 27 _).alloc _
  have hR0 : Blk ((w.alloc (.cells #[.int .i64 t.op, .string t.name, .int .i64 t.n, .int .i64 t.ty.kind, .string t.ty.name, .slice ta tn tc, .slice td te tf] 27)).alloc (.cells #[.int .i64 0, .string ⟨#[]⟩, .int .i64 0, .int .i64 0, .string ⟨#[]⟩, .slice none 0 0, .slice none 0 0] 27)) (w.heap.size + 1) 27 z27 := Blk.new' 27 z27 (by simp)
  have K0 : Kept (· = b) w ((w.alloc (.cells #[.int .i64 t.op, .string t.name, .int .i64 t.n, .int .i64 t.ty.kind, .string t.ty.name, .slice ta tn tc, .slice td te tf] 27)).alloc (.cells #[.int .i64 0, .string ⟨#[]⟩, .int .i64 0, .int .i64 0, .string ⟨#[]⟩, .slice none 0 0, .slice none 0 0] 27)) := ((Kept.refl _ _).alloc _).alloc _
  have a0 := ((at1.mono (ok' := okk n0 w.heap.size (w.heap.size + 1)) (fun k hk h => ⟨h, by omega, by omega⟩)).frame (Same.alloc _ (.cells #[.int .i64 t.op, .string t.name, .int .i64 t.n, .int .i64 t.ty.kind, .string t.ty.name, .slice ta tn tc, .slice td te tf] 27))).frame (Same.alloc _ (.cells #[.int .i64 0, .string ⟨#[]⟩, .int .i64 0, .int .i64 0, .string ⟨#[]⟩, .slice none 0 0, .slice none 0 0] 27))
  have c0 := ((ct1.mono (ok' := okk n0 w.heap.size (w.heap.size + 1)) (fun k hk h => ⟨h, by omega, by omega⟩)).frame (Same.alloc _ (.cells #[.int .i64 t.op, .string t.name, .int .i64 t.n, .int .i64 t.ty.kind, .string t.ty.name, .slice ta tn tc, .slice td te tf] 27))).frame (Same.alloc _ (.cells #[.int .i64 0, .string ⟨#[]⟩, .int .i64 0, .int .i64 0, .string ⟨#[]⟩, .slice none 0 0, .slice none 0 0] 27))
  have HQ0 := Lib.hid hq
  clear hq at1 ct1
  go_enter Tryz.func77, Tryz.ntmps77
  go_upto_region 1 with (fail)
  generalize ((w.alloc (.cells #[.int .i64 t.op, .string t.name, .int .i64 t.n, .int .i64 t.ty.kind, .string t.ty.name, .slice ta tn tc, .slice td te tf] 27)).alloc (.cells #[.int .i64 0, .string ⟨#[]⟩, .int .i64 0, .int .i64 0, .string ⟨#[]⟩, .slice none 0 0, .slice none 0 0] 27)) = w2 at *
  go_loopg [8] (s.size + 2) (fun m _ wr => ∃ (t' : Tm) (q' : Except ER PS) (pa : Option Addr) (pn pc : Nat) (pd : Option Addr) (pe pf : Nat), Hid (bP q (fun σ => restS T s n (s.size + 2) t σ) = bP q' (fun σ => restS T s n m t' σ)) ∧ Hid (QB s q' M N) ∧ (∀ σ, q' = .ok σ → mu s σ < m) ∧ RR wr b s q' ∧ Blk wr w.heap.size 27 (tmCells t' (.slice pa pn pc) (.slice pd pe pf)) ∧ Blk wr (w.heap.size + 1) 27 z27 ∧ TyL (okk n0 w.heap.size (w.heap.size + 1)) wr t'.ty.kids (.slice pa pn pc) ∧ TmL (okk n0 w.heap.size (w.heap.size + 1)) wr t'.kids (.slice pd pe pf) ∧ Kept (· = b) w wr)
  case atStart => exact ⟨t, q, ta, tn, tc, td, te, tf, Lib.hid rfl, HQ0, fun σ _ => by have := mu_le s σ; omega, h0, hB0, hR0, a0, c0, K0⟩
  case round =>
   clear h0 hB0 hR0 a0 c0 K0
   obtain ⟨t', q', pa, pn, pc, pd, pe, pf, hq, HQ, hm, hr, hB, hR, ka, kc, K⟩ := hrel
   have gB : ∀ i, wr.cell? ⟨w.heap.size, i, none⟩ = [Value.int .i64 t'.op, .string t'.name, .int .i64 t'.n, .int .i64 t'.ty.kind, .string t'.ty.name, .slice pa pn pc, .slice pd pe pf][i]? := hB.cell
   have gR : ∀ i, wr.cell? ⟨w.heap.size + 1, i, none⟩ = [Value.int .i64 0, .string ⟨#[]⟩, .int .i64 0, .int .i64 0, .string ⟨#[]⟩, .slice none 0 0, .slice none 0 0][i]? := hR.cell
   have fR : ∀ i, wr.frozen? ⟨w.heap.size + 1, i, none⟩ = false := hR.frozen
   have lr := hR.lt
   have br := hr.lt
   match q', hr, hq, HQ, hm with
   | .error r, hr, hq, HQ, hm =>
    have LL : LE b s (bP q fun σ => restS T s n (s.size + 2) t σ) t' wr := by rw [hq.out]; exact hr
    rcases hr.err with ⟨hd, x, nest, hat⟩ | ⟨k, x, a, nest, hat⟩
    · go_wp2_with (first | (go_at_call 38; refine (rok_any hat rfl).mono ?_; rintro e w' ⟨rfl, rfl⟩) | (go_at_call 125; refine (rop_err hat _).mono ?_; rintro e w' ⟨rfl, rfl⟩))
      refine ret_lv Tryz.results77 (t := t') rfl rfl (r7 hR rfl) ?_ ?_ (LL.s7 (by omega)) (k7w K (Or.inr (by omega)))
      · exact (ka.frame (same7k (Or.inr rfl))).mono (fun k _ h => h.1)
      · exact (kc.frame (same7k (Or.inr rfl))).mono (fun k _ h => h.1)
    · go_wp2_with (go_at_call 38; refine (rok_any hat (e_dead _)).mono ?_; rintro e w' ⟨rfl, rfl⟩)
      refine ret_lv Tryz.results77 (t := t') rfl rfl (r7 hR rfl) ?_ ?_ (LL.s7 (by omega)) (k7w K (Or.inr (by omega)))
      · exact (ka.frame (same7k (Or.inr rfl))).mono (fun k _ h => h.1)
      · exact (kc.frame (same7k (Or.inr rfl))).mono (fun k _ h => h.1)
   | .ok σ', hr, hq, HQ, hm =>
    have hm' := hm σ' rfl
    have hqb := HQ.out σ' rfl
    obtain ⟨g, rfl⟩ : ∃ g, gk = g + 1 := ⟨gk - 1, by omega⟩
    obtain ⟨hat, tk⟩ := hr.st
    cases ho : (opOf n σ' == 0)
    case true =>
      have LL : LE b s (bP q fun σ => restS T s n (s.size + 2) t σ) t' wr := by
        rw [hq.out]; show LE b s (restS T s n (g + 1) t' σ') t' wr; rw [rest_eq, ho, if_pos rfl]; exact ⟨rfl, hr⟩
      have HO := Lib.hid (eq_of_beq ho)
      clear ho
      go_wp2_with (first | (go_at_call 38; refine (rok_any hat rfl).mono ?_; rintro e w' ⟨rfl, rfl⟩) | (go_at_call 125; refine (rop_any hr n _ rfl h13 HO.out).mono ?_; rintro e w' ⟨rfl, rfl⟩))
      refine ret_lv Tryz.results77 (t := t') rfl rfl (r7 hR rfl) ?_ ?_ (LL.s7 (by omega)) (k7w K (Or.inr (by omega)))
      · exact (ka.frame (same7k (Or.inr rfl))).mono (fun k _ h => h.1)
      · exact (kc.frame (same7k (Or.inr rfl))).mono (fun k _ h => h.1)
    case false =>
    have hk0 : σ'.k ≠ 0 := opGo_ne (ne_of_beq_false ho)
    have HPS : Hid (∀ W, RR W b s (.ok σ') → Calls Tryz.prog 75 #[.pointer (some ⟨b, 0, none⟩)] W (RU b s (advS s σ') W)) := Lib.hid (by
      obtain ⟨x, x1, x2, x3⟩ := op_noBr tk n ho
      exact pass_is tk x1 x2 x3)
    have Q1 := Lib.hid (qb_adv hqb.2.1 hk0)
    have mpos : 1 ≤ mu s σ' := by unfold mu; rw [if_neg hk0]; omega
    have HO := Lib.hid ho
    generalize hoo : opOf n σ' = op at *
    have HOO := Lib.hid hoo
    clear hoo
    go_wp2_with (first | (go_at_call 38; refine (rok_any hat rfl).mono ?_; rintro e w' ⟨rfl, rfl⟩) | (go_at_call 125; refine (rop_any hr n _ rfl h13 HOO.out).mono ?_; rintro e w' ⟨rfl, rfl⟩))
    refine (HPS.out _ hr).mono ?_
    rintro e w3 ⟨rfl, h3, k3⟩
    have hB3 := hB.kept k3 (by show ¬ w.heap.size = b; omega)
    have hR3 := hR.kept k3 (by show ¬ w.heap.size + 1 = b; omega)
    have ka3 := ka.frame (Same.of_kept k3 (fun k h e => by have := h.1; omega))
    have kc3 := kc.frame (Same.of_kept k3 (fun k h e => by have := h.1; omega))
    have K3 := K.trans k3
    have z3 := k3.size
    have l3 := hR3.lt
    have b3 := h3.lt
    clear hB hR ka kc K gB gR fR
    rcases lv_class n h1 h13 with hn | hn | hn | hn
    · exact absurd (lv_none hn σ') (by rw [HOO.out]; exact ne_of_beq_false HO.out)
    · have HR1 := Lib.hid (rest_one (T := T) (s := s) (n := n) (g := g) (t := t') (σ := σ') (by rw [lv_one hn]; decide) (by rw [HOO.out]; exact HO.out))
      rw [if_neg (by rw [lv_one hn]; decide), HOO.out] at HR1
      have hcall := Lib.hid (fun (m : Int) (hm : m = ((n + 1 : Nat) : Int)) => hT.at (n + 1) m hm (by omega) (by omega) h3.drew Q1.out (by omega))
      rcases hn with rfl | rfl | rfl | rfl
      all_goals
        first | have hcx := Lib.hid (hcall.out 2 (by decide)) | have hcx := Lib.hid (hcall.out 7 (by decide)) | have hcx := Lib.hid (hcall.out 8 (by decide)) | have hcx := Lib.hid (hcall.out 11 (by decide))
        go_wp2_with fail
        have y0 : w3.cell? ⟨w.heap.size, 0, none⟩ = some (.int .i64 t'.op) := hB3.cell 0;  have y1 : w3.cell? ⟨w.heap.size, 1, none⟩ = some (.string t'.name) := hB3.cell 1;  have y2 : w3.cell? ⟨w.heap.size, 2, none⟩ = some (.int .i64 t'.n) := hB3.cell 2;  have y3 : w3.cell? ⟨w.heap.size, 3, none⟩ = some (.int .i64 t'.ty.kind) := hB3.cell 3;  have y4 : w3.cell? ⟨w.heap.size, 4, none⟩ = some (.string t'.ty.name) := hB3.cell 4;  have y5 : w3.cell? ⟨w.heap.size, 5, none⟩ = some (.slice pa pn pc) := hB3.cell 5;  have y6 : w3.cell? ⟨w.heap.size, 6, none⟩ = some (.slice pd pe pf) := hB3.cell 6
        go_region_held3 (fun w' => w'.cell? ⟨w.heap.size, 0, none⟩ = some (.int .i64 t'.op) ∧ w'.cell? ⟨w.heap.size, 1, none⟩ = some (.string t'.name) ∧ w'.cell? ⟨w.heap.size, 2, none⟩ = some (.int .i64 t'.n) ∧ w'.cell? ⟨w.heap.size, 3, none⟩ = some (.int .i64 t'.ty.kind) ∧ w'.cell? ⟨w.heap.size, 4, none⟩ = some (.string t'.ty.name) ∧ w'.cell? ⟨w.heap.size, 5, none⟩ = some (.slice pa pn pc) ∧ w'.cell? ⟨w.heap.size, 6, none⟩ = some (.slice pd pe pf)) (go_keep)
          (first | (go_at_call 36; refine hcx.out.mono ?_; rintro e w4 ⟨u, v, rfl, ⟨tk4, kk4, rfl, a4, c4⟩, L4, k4⟩; obtain ⟨ua, un, uc, rfl⟩ := a4.slice; obtain ⟨ud, ue, uf, rfl⟩ := c4.slice; unfold tmVal; have k5 : Kept (· = b) w3 w4 := ((Kept.refl _ _).drew).trans k4; have hB4 := hB3.kept k5 (by show ¬ w.heap.size = b; omega); have hR4 := hR3.kept k5 (by show ¬ w.heap.size + 1 = b; omega); have l4 := hR4.lt; have l4b := hB4.lt; have x0 : w4.cell? ⟨w.heap.size, 0, none⟩ = some (.int .i64 t'.op) := hB4.cell 0; have x1 : w4.cell? ⟨w.heap.size, 1, none⟩ = some (.string t'.name) := hB4.cell 1; have x2 : w4.cell? ⟨w.heap.size, 2, none⟩ = some (.int .i64 t'.n) := hB4.cell 2; have x3 : w4.cell? ⟨w.heap.size, 3, none⟩ = some (.int .i64 t'.ty.kind) := hB4.cell 3; have x4 : w4.cell? ⟨w.heap.size, 4, none⟩ = some (.string t'.ty.name) := hB4.cell 4; have x5 : w4.cell? ⟨w.heap.size, 5, none⟩ = some (.slice pa pn pc) := hB4.cell 5; have x6 : w4.cell? ⟨w.heap.size, 6, none⟩ = some (.slice pd pe pf) := hB4.cell 6; have gR4 : ∀ i, w4.cell? ⟨w.heap.size + 1, i, none⟩ = [Value.int .i64 0, .string ⟨#[]⟩, .int .i64 0, .int .i64 0, .string ⟨#[]⟩, .slice none 0 0, .slice none 0 0][i]? := hR4.cell; have fR4 : ∀ i, w4.frozen? ⟨w.heap.size + 1, i, none⟩ = false := hR4.frozen))
        have L5 : LE b s (bP q fun σ => restS T s _ (s.size + 2) t σ) (nd op [t', u]) w4 := (L4.map (fun u => nd op [t', u])).eq (by rw [hq.out]; exact HR1.out.symm)
        have ka4 := ka3.frame (Same.of_kept k5 (fun k h e => by have := h.1; omega))
        have kc4 := kc3.frame (Same.of_kept k5 (fun k h e => by have := h.1; omega))
        have K4 := K3.trans k5
        have z4 := k5.size
        go_wp2_with fail
        refine ret_lv Tryz.results77 (t := nd op [t', u]) rfl rfl ((r7 hR4 rfl).alloc _) .nil0 ?_ ((L5.s7 (by omega)).alloc _) ((k7w K4 (Or.inr (by omega))).alloc _)
        refine TmL.two (ty := 27) (by omega) (Nat.le_refl _) (Blk.new' 27 _ (by simp)) ?_ ?_ ?_ ?_
        · exact ((ka4.frame (same7k (Or.inr rfl))).frame (Same.alloc _ _)).mono (fun k _ h => h.1)
        · exact ((kc4.frame (same7k (Or.inr rfl))).frame (Same.alloc _ _)).mono (fun k _ h => h.1)
        · exact (((a4.mono (ok' := okk n0 w.heap.size (w.heap.size + 1)) (fun k _ h => ⟨by have : w3.heap.size ≤ k := h; omega, by have : w3.heap.size ≤ k := h; omega, by have : w3.heap.size ≤ k := h; omega⟩)).frame (same7k (Or.inr rfl))).frame (Same.alloc _ _)).mono (fun k _ h => h.1)
        · exact (((c4.mono (ok' := okk n0 w.heap.size (w.heap.size + 1)) (fun k _ h => ⟨by have : w3.heap.size ≤ k := h; omega, by have : w3.heap.size ≤ k := h; omega, by have : w3.heap.size ≤ k := h; omega⟩)).frame (same7k (Or.inr rfl))).frame (Same.alloc _ _)).mono (fun k _ h => h.1)
    · subst hn
      have HR1 := Lib.hid (rest_one (T := T) (s := s) (n := 2) (g := g) (t := t') (σ := σ') (by decide) (by rw [HOO.out]; exact HO.out))
      rw [if_pos (by decide), HOO.out] at HR1
      have hcall := Lib.hid ((hT.at 2 2 rfl (by omega) (by omega) h3.drew Q1.out (by omega)))
      go_wp2_with fail
      have y0 : w3.cell? ⟨w.heap.size, 0, none⟩ = some (.int .i64 t'.op) := hB3.cell 0;  have y1 : w3.cell? ⟨w.heap.size, 1, none⟩ = some (.string t'.name) := hB3.cell 1;  have y2 : w3.cell? ⟨w.heap.size, 2, none⟩ = some (.int .i64 t'.n) := hB3.cell 2;  have y3 : w3.cell? ⟨w.heap.size, 3, none⟩ = some (.int .i64 t'.ty.kind) := hB3.cell 3;  have y4 : w3.cell? ⟨w.heap.size, 4, none⟩ = some (.string t'.ty.name) := hB3.cell 4;  have y5 : w3.cell? ⟨w.heap.size, 5, none⟩ = some (.slice pa pn pc) := hB3.cell 5;  have y6 : w3.cell? ⟨w.heap.size, 6, none⟩ = some (.slice pd pe pf) := hB3.cell 6
      go_region_held3 (fun w' => w'.cell? ⟨w.heap.size, 0, none⟩ = some (.int .i64 t'.op) ∧ w'.cell? ⟨w.heap.size, 1, none⟩ = some (.string t'.name) ∧ w'.cell? ⟨w.heap.size, 2, none⟩ = some (.int .i64 t'.n) ∧ w'.cell? ⟨w.heap.size, 3, none⟩ = some (.int .i64 t'.ty.kind) ∧ w'.cell? ⟨w.heap.size, 4, none⟩ = some (.string t'.ty.name) ∧ w'.cell? ⟨w.heap.size, 5, none⟩ = some (.slice pa pn pc) ∧ w'.cell? ⟨w.heap.size, 6, none⟩ = some (.slice pd pe pf)) (go_keep)
        (first | (go_at_call 36; refine hcall.out.mono ?_; rintro e w4 ⟨u, v, rfl, ⟨tk4, kk4, rfl, a4, c4⟩, L4, k4⟩; obtain ⟨ua, un, uc, rfl⟩ := a4.slice; obtain ⟨ud, ue, uf, rfl⟩ := c4.slice; unfold tmVal; have k5 : Kept (· = b) w3 w4 := ((Kept.refl _ _).drew).trans k4; have hB4 := hB3.kept k5 (by show ¬ w.heap.size = b; omega); have hR4 := hR3.kept k5 (by show ¬ w.heap.size + 1 = b; omega); have l4 := hR4.lt; have l4b := hB4.lt; have x0 : w4.cell? ⟨w.heap.size, 0, none⟩ = some (.int .i64 t'.op) := hB4.cell 0; have x1 : w4.cell? ⟨w.heap.size, 1, none⟩ = some (.string t'.name) := hB4.cell 1; have x2 : w4.cell? ⟨w.heap.size, 2, none⟩ = some (.int .i64 t'.n) := hB4.cell 2; have x3 : w4.cell? ⟨w.heap.size, 3, none⟩ = some (.int .i64 t'.ty.kind) := hB4.cell 3; have x4 : w4.cell? ⟨w.heap.size, 4, none⟩ = some (.string t'.ty.name) := hB4.cell 4; have x5 : w4.cell? ⟨w.heap.size, 5, none⟩ = some (.slice pa pn pc) := hB4.cell 5; have x6 : w4.cell? ⟨w.heap.size, 6, none⟩ = some (.slice pd pe pf) := hB4.cell 6; have gR4 : ∀ i, w4.cell? ⟨w.heap.size + 1, i, none⟩ = [Value.int .i64 0, .string ⟨#[]⟩, .int .i64 0, .int .i64 0, .string ⟨#[]⟩, .slice none 0 0, .slice none 0 0][i]? := hR4.cell; have fR4 : ∀ i, w4.frozen? ⟨w.heap.size + 1, i, none⟩ = false := hR4.frozen))
      have L5 : LE b s (bP q fun σ => restS T s 2 (s.size + 2) t σ) (nd op [t', u]) w4 := (L4.map (fun u => nd op [t', u])).eq (by rw [hq.out]; exact HR1.out.symm)
      have ka4 := ka3.frame (Same.of_kept k5 (fun k h e => by have := h.1; omega))
      have kc4 := kc3.frame (Same.of_kept k5 (fun k h e => by have := h.1; omega))
      have K4 := K3.trans k5
      have z4 := k5.size
      go_wp2_with fail
      refine ret_lv Tryz.results77 (t := nd op [t', u]) rfl rfl ((r7 hR4 rfl).alloc _) .nil0 ?_ ((L5.s7 (by omega)).alloc _) ((k7w K4 (Or.inr (by omega))).alloc _)
      refine TmL.two (ty := 27) (by omega) (Nat.le_refl _) (Blk.new' 27 _ (by simp)) ?_ ?_ ?_ ?_
      · exact ((ka4.frame (same7k (Or.inr rfl))).frame (Same.alloc _ _)).mono (fun k _ h => h.1)
      · exact ((kc4.frame (same7k (Or.inr rfl))).frame (Same.alloc _ _)).mono (fun k _ h => h.1)
      · exact (((a4.mono (ok' := okk n0 w.heap.size (w.heap.size + 1)) (fun k _ h => ⟨by have : w3.heap.size ≤ k := h; omega, by have : w3.heap.size ≤ k := h; omega, by have : w3.heap.size ≤ k := h; omega⟩)).frame (same7k (Or.inr rfl))).frame (Same.alloc _ _)).mono (fun k _ h => h.1)
      · exact (((c4.mono (ok' := okk n0 w.heap.size (w.heap.size + 1)) (fun k _ h => ⟨by have : w3.heap.size ≤ k := h; omega, by have : w3.heap.size ≤ k := h; omega, by have : w3.heap.size ≤ k := h; omega⟩)).frame (same7k (Or.inr rfl))).frame (Same.alloc _ _)).mono (fun k _ h => h.1)
    · have HR1 := Lib.hid (rest_left (T := T) (s := s) (n := n) (g := g) (t := t') (σ := σ') (lv_lft hn) (by rw [HOO.out]; exact HO.out))
      rw [HOO.out] at HR1
      have e1 : ((n : Int) == 1) = false := by rcases hn with rfl | rfl | rfl | rfl | rfl | rfl <;> decide
      have e6 : ((n : Int) == 6) = false := by rcases hn with rfl | rfl | rfl | rfl | rfl | rfl <;> decide
      have e7 : ((n : Int) == 7) = false := by rcases hn with rfl | rfl | rfl | rfl | rfl | rfl <;> decide
      have e10 : ((n : Int) == 10) = false := by rcases hn with rfl | rfl | rfl | rfl | rfl | rfl <;> decide
      have e2 : ((n : Int) == 2) = false := by rcases hn with rfl | rfl | rfl | rfl | rfl | rfl <;> decide
      have n12 : n ≤ 12 := by omega
      clear hn
      go_wp2_with fail
      refine (hT.at (n + 1) ((n : Int) + 1) (by omega) (by omega) (by omega) h3 Q1.out (by omega)).mono ?_
      rintro e w4 ⟨u, v, rfl, ⟨tk4, kk4, rfl, a4, c4⟩, L4, k4⟩
      obtain ⟨ua, un, uc, rfl⟩ := a4.slice
      obtain ⟨ud, ue, uf, rfl⟩ := c4.slice
      unfold tmVal
      have hB4 := (hB3.kept k4 (by show ¬ w.heap.size = b; omega)).alloc (.cells #[.int .i64 u.op, .string u.name, .int .i64 u.n, .int .i64 u.ty.kind, .string u.ty.name, .slice ua un uc, .slice ud ue uf] 27)
      have hR4 := (hR3.kept k4 (by show ¬ w.heap.size + 1 = b; omega)).alloc (.cells #[.int .i64 u.op, .string u.name, .int .i64 u.n, .int .i64 u.ty.kind, .string u.ty.name, .slice ua un uc, .slice ud ue uf] 27)
      have hU4 : Blk (w4.alloc (.cells #[.int .i64 u.op, .string u.name, .int .i64 u.n, .int .i64 u.ty.kind, .string u.ty.name, .slice ua un uc, .slice ud ue uf] 27)) w4.heap.size 27 (tmCells u (.slice ua un uc) (.slice ud ue uf)) := Blk.new w4 27 _
      have ka4 := (ka3.frame (Same.of_kept k4 (fun k h e => by have := h.1; omega))).frame (Same.alloc _ (.cells #[.int .i64 u.op, .string u.name, .int .i64 u.n, .int .i64 u.ty.kind, .string u.ty.name, .slice ua un uc, .slice ud ue uf] 27))
      have kc4 := (kc3.frame (Same.of_kept k4 (fun k h e => by have := h.1; omega))).frame (Same.alloc _ (.cells #[.int .i64 u.op, .string u.name, .int .i64 u.n, .int .i64 u.ty.kind, .string u.ty.name, .slice ua un uc, .slice ud ue uf] 27))
      have ua4 := (a4.mono (ok' := okk n0 w.heap.size (w.heap.size + 1)) (fun k _ h => ⟨by omega, by omega, by omega⟩)).frame (Same.alloc _ (.cells #[.int .i64 u.op, .string u.name, .int .i64 u.n, .int .i64 u.ty.kind, .string u.ty.name, .slice ua un uc, .slice ud ue uf] 27))
      have uc4 := (c4.mono (ok' := okk n0 w.heap.size (w.heap.size + 1)) (fun k _ h => ⟨by omega, by omega, by omega⟩)).frame (Same.alloc _ (.cells #[.int .i64 u.op, .string u.name, .int .i64 u.n, .int .i64 u.ty.kind, .string u.ty.name, .slice ua un uc, .slice ud ue uf] 27))
      have K4 := (K3.trans k4).alloc (.cells #[.int .i64 u.op, .string u.name, .int .i64 u.n, .int .i64 u.ty.kind, .string u.ty.name, .slice ua un uc, .slice ud ue uf] 27)
      have L5 := L4.rr.alloc (.cells #[.int .i64 u.op, .string u.name, .int .i64 u.n, .int .i64 u.ty.kind, .string u.ty.name, .slice ua un uc, .slice ud ue uf] 27)
      have Q4 := Lib.hid (qb_T hI (n + 1) Q1.out)
      have z4 := k4.size
      have l4 := (hR3.kept k4 (by show ¬ w.heap.size + 1 = b; omega)).lt
      have b4 := L4.rr.lt
      have HL4 := Lib.hid L4.val
      clear hB3 hR3 ka3 kc3 K3 L4
      go_upto_region 14 with (fail)
      generalize hw5 : w4.alloc (.cells #[.int .i64 u.op, .string u.name, .int .i64 u.n, .int .i64 u.ty.kind, .string u.ty.name, .slice ua un uc, .slice ud ue uf] 27) = w5 at *
      have zw5 : w5.heap.size = w4.heap.size + 1 := by rw [← hw5]; simp
      have HZ5 := Lib.hid zw5
      clear hw5 zw5
      have gB : ∀ i, w5.cell? ⟨w.heap.size, i, none⟩ = [Value.int .i64 t'.op, .string t'.name, .int .i64 t'.n, .int .i64 t'.ty.kind, .string t'.ty.name, .slice pa pn pc, .slice pd pe pf][i]? := hB4.cell
      have fB : ∀ i, w5.frozen? ⟨w.heap.size, i, none⟩ = false := hB4.frozen
      have gU : ∀ i, w5.cell? ⟨w4.heap.size, i, none⟩ = [Value.int .i64 u.op, .string u.name, .int .i64 u.n, .int .i64 u.ty.kind, .string u.ty.name, .slice ua un uc, .slice ud ue uf][i]? := hU4.cell
      have lB := hB4.lt
      go_wp2_with fail
      go_roundg g
      case measure => omega
      case rel =>
        refine ⟨nd op [t', u], stT (bP (advS s σ') (T (n + 1))), none, 0, 0, some ⟨w5.heap.size, 0, none⟩, 2, 2, Lib.hid ?_, Lib.hid ?_, ?_, ?_, ?_, ?_, .nil0, ?_, ?_⟩
        · rw [hq.out, bP_stT]
          show restS T s n (g + 1) t' σ' = _
          rw [HR1.out]
          refine bT_congr rfl fun u' σ2 e => ?_
          rw [HL4.out _ _ e]
        · intro σ2 e
          have h2 := Q4.out σ2 e
          exact ⟨by omega, h2.2.1, by rw [h2.2.2]; exact hqb.2.2⟩
        · intro σ2 e
          have h2 := Q4.out σ2 e
          omega
        · exact (L5.kept (S := (· = w.heap.size)) (k7w (Kept.refl _ _) (Or.inl rfl)) (by show ¬ b = w.heap.size; omega)).alloc _
        · exact (r7 hB4 rfl).alloc _
        · exact (b7w hR4 (by omega)).alloc _
        · refine TmL.two (ty := 27) ⟨by have := HZ5.out; omega, by have := HZ5.out; omega, by have := HZ5.out; omega⟩ (Nat.le_refl _) (Blk.new' 27 _ (by simp)) ?_ ?_ ?_ ?_
          · exact (ka4.frame (same7k (Or.inl rfl))).frame (Same.alloc _ _)
          · exact (kc4.frame (same7k (Or.inl rfl))).frame (Same.alloc _ _)
          · exact (ua4.frame (same7k (Or.inl rfl))).frame (Same.alloc _ _)
          · exact (uc4.frame (same7k (Or.inl rfl))).frame (Same.alloc _ _)
        · exact (k7w K4 (Or.inr (Nat.le_refl _))).alloc _
def RAC (b : Nat) (s : ByteArray) (f : Nat) (T : TF) : Prop := ∀ (q : Except ER PS) (w : World) (M N : Nat), RR w b s q → QB s q M N → 14 * M ≤ f → Calls Tryz.prog 123 #[.pointer (some ⟨b, 0, none⟩)] w (LV b s (VTm w.heap.size) (bP q (atomS T s)) w)
theorem qb_ins {T : TF} {s : ByteArray} {σ : PS} {M : Nat} (hI : TInv s T) (hp : σ.p ≤ s.size) (hM : mu s σ ≤ M) (op c : ByteArray) : QB s (stT (bT (bP (openS s σ op) (T 1)) fun t σ => bP (shutS s σ c) fun σ' => .ok (t, σ'))) (M - 1) σ.nest := by
  have h1 := qb_shut (qb_T hI 1 (qb_open1 hp op)) c
  have h2 := qb_u h1
  intro σ' e
  have := h2 σ' e
  exact ⟨by omega, this.2.1, by have := this.2.2; omega⟩
theorem ins_ch {T : TF} {s o c : ByteArray} {σ : PS} : insideS T s o c σ = bT (bP (openS s σ o) (T 1)) fun t σ => bP (shutS s σ c) fun σ' => .ok (t, σ') := by
  rw [inside_eq, bP_assoc]
theorem qb_atom {T : TF} {s : ByteArray} {q : Except ER PS} {M N : Nat} (hI : TInv s T) (h : QB s q M N) : QB s (stT (bP q (atomS T s))) M N := by
  intro σ' e
  obtain ⟨x, e⟩ := stT_ok e
  obtain ⟨σ, rfl, e⟩ := bP_ok e
  have a := h σ rfl
  have := (inv_atom hI a.2.1 e).1
  unfold Inv1 at this
  exact ⟨by omega, by omega, by omega⟩
set_option maxRecDepth 100000 in
set_option maxHeartbeats 16000000 in
theorem rpost_at {b f : Nat} {s : ByteArray} {T : TF} (hA : RAC b s f T) (hT : RTC b s f T) (hI : TInv s T) {w : World} {q : Except ER PS} (h : RR w b s q) {M N : Nat} (hq : QB s q M N) (hf : 14 * M ≤ f) {R0 : RT} (hR00 : Hid (R0 = bT (bP q (atomS T s)) fun t σ => afterS T s (s.size + 2) t σ)) :
    Calls Tryz.prog 76 #[.pointer (some ⟨b, 0, none⟩)] w (LV b s (VTm w.heap.size) R0 w) := by
  have hlt := h.lt
  have hs := h.src
  have h0 := h.alloc (.cells #[.int .i64 0, .string ⟨#[]⟩, .int .i64 0, .int .i64 0, .string ⟨#[]⟩, .slice none 0 0, .slice none 0 0] 27)
  have hR0 : Blk (w.alloc (.cells #[.int .i64 0, .string ⟨#[]⟩, .int .i64 0, .int .i64 0, .string ⟨#[]⟩, .slice none 0 0, .slice none 0 0] 27)) w.heap.size 27 z27 := Blk.new w 27 z27
  have K0 : Kept (· = b) w (w.alloc (.cells #[.int .i64 0, .string ⟨#[]⟩, .int .i64 0, .int .i64 0, .string ⟨#[]⟩, .slice none 0 0, .slice none 0 0] 27)) := (Kept.refl _ _).alloc _
  have HZ1 : Hid ((w.alloc (.cells #[.int .i64 0, .string ⟨#[]⟩, .int .i64 0, .int .i64 0, .string ⟨#[]⟩, .slice none 0 0, .slice none 0 0] 27)).heap.size = w.heap.size + 1) := Lib.hid (by simp)
  have HQ0 := Lib.hid hq
  have HA := Lib.hid hA
  clear hq hA
  go_enter Tryz.func76, Tryz.ntmps76
  go_wp2_with fail
  generalize (w.alloc (.cells #[.int .i64 0, .string ⟨#[]⟩, .int .i64 0, .int .i64 0, .string ⟨#[]⟩, .slice none 0 0, .slice none 0 0] 27)) = w1 at *
  refine (HA.out q w1 M N h0 HQ0.out hf).mono ?_
  rintro e w2 ⟨t, v, rfl, ⟨tk2, kk2, rfl, a2, c2⟩, L2, k2⟩
  obtain ⟨ta, tn, tc, rfl⟩ := a2.slice
  obtain ⟨td, te, tf, rfl⟩ := c2.slice
  unfold tmVal
  have l1 := hR0.lt
  have hRw := hR0.kept k2 (by show ¬ w.heap.size = b; omega)
  have lw := hRw.lt
  have z2 := k2.size
  have hR2 := hRw.alloc (.cells #[.int .i64 t.op, .string t.name, .int .i64 t.n, .int .i64 t.ty.kind, .string t.ty.name, .slice ta tn tc, .slice td te tf] 27)
  have hB2 : Blk (w2.alloc (.cells #[.int .i64 t.op, .string t.name, .int .i64 t.n, .int .i64 t.ty.kind, .string t.ty.name, .slice ta tn tc, .slice td te tf] 27)) w2.heap.size 27 (tmCells t (.slice ta tn tc) (.slice td te tf)) := Blk.new w2 27 _
  have K2 := (K0.trans k2).alloc (.cells #[.int .i64 t.op, .string t.name, .int .i64 t.n, .int .i64 t.ty.kind, .string t.ty.name, .slice ta tn tc, .slice td te tf] 27)
  have r2 := L2.rr.alloc (.cells #[.int .i64 t.op, .string t.name, .int .i64 t.n, .int .i64 t.ty.kind, .string t.ty.name, .slice ta tn tc, .slice td te tf] 27)
  have b2 := L2.rr.lt
  have ka2 := (a2.mono (ok' := okk (w.heap.size + 1) w2.heap.size w.heap.size) (fun k hk h => ⟨by have := HZ1.out; omega, by omega, by have := HZ1.out; omega⟩)).frame (Same.alloc _ (.cells #[.int .i64 t.op, .string t.name, .int .i64 t.n, .int .i64 t.ty.kind, .string t.ty.name, .slice ta tn tc, .slice td te tf] 27))
  have kc2 := (c2.mono (ok' := okk (w.heap.size + 1) w2.heap.size w.heap.size) (fun k hk h => ⟨by have := HZ1.out; omega, by omega, by have := HZ1.out; omega⟩)).frame (Same.alloc _ (.cells #[.int .i64 t.op, .string t.name, .int .i64 t.n, .int .i64 t.ty.kind, .string t.ty.name, .slice ta tn tc, .slice td te tf] 27))
  have HR0 : Hid (R0 = bP (stT (bP q (atomS T s))) (fun σ => afterS T s (s.size + 2) t σ)) := Lib.hid (by
    rw [hR00.out, bP_stT]
    exact bT_congr rfl fun t' σ e => by rw [L2.val _ _ e])
  have HQ2 := Lib.hid (qb_atom hI HQ0.out)
  clear L2 a2 c2 k2
  go_upto_region 2 with (fail)
  generalize (w2.alloc (.cells #[.int .i64 t.op, .string t.name, .int .i64 t.n, .int .i64 t.ty.kind, .string t.ty.name, .slice ta tn tc, .slice td te tf] 27)) = w3 at *
  generalize w2.heap.size = B at *
  go_loopg [4] (s.size + 2) (fun m _ wr => ∃ (t' : Tm) (q' : Except ER PS) (pa : Option Addr) (pn pc : Nat) (pd : Option Addr) (pe pf : Nat), Hid (R0 = bP q' (fun σ => afterS T s m t' σ)) ∧ Hid (QB s q' M N) ∧ (∀ σ, q' = .ok σ → mu s σ < m) ∧ RR wr b s q' ∧ Blk wr B 27 (tmCells t' (.slice pa pn pc) (.slice pd pe pf)) ∧ Blk wr w.heap.size 27 z27 ∧ TyL (okk (w.heap.size + 1) B w.heap.size) wr t'.ty.kids (.slice pa pn pc) ∧ TmL (okk (w.heap.size + 1) B w.heap.size) wr t'.kids (.slice pd pe pf) ∧ Kept (· = b) w wr)
  case atStart => exact ⟨t, _, ta, tn, tc, td, te, tf, HR0, HQ2, fun σ _ => by have := mu_le s σ; omega, r2, hB2, hR2, ka2, kc2, K2⟩
  case round =>
   clear r2 hB2 hR2 ka2 kc2 K2 HR0 HQ2
   obtain ⟨t', q', pa, pn, pc, pd, pe, pf, hq, HQ, hm, hr, hB, hR, ka, kc, K⟩ := hrel
   have gB : ∀ i, wr.cell? ⟨B, i, none⟩ = [Value.int .i64 t'.op, .string t'.name, .int .i64 t'.n, .int .i64 t'.ty.kind, .string t'.ty.name, .slice pa pn pc, .slice pd pe pf][i]? := hB.cell
   have gR : ∀ i, wr.cell? ⟨w.heap.size, i, none⟩ = [Value.int .i64 0, .string ⟨#[]⟩, .int .i64 0, .int .i64 0, .string ⟨#[]⟩, .slice none 0 0, .slice none 0 0][i]? := hR.cell
   have fR : ∀ i, wr.frozen? ⟨w.heap.size, i, none⟩ = false := hR.frozen
   have lr := hR.lt
   have lb := hB.lt
   have br := hr.lt
   match q', hr, hq, HQ, hm with
   | .error r, hr, hq, HQ, hm =>
    have LL : LE b s R0 t' wr := by rw [hq.out]; exact hr
    rcases hr.err with ⟨hd, x, nest, hat⟩ | ⟨k, x, a, nest, hat⟩
    · go_wp2_with (first | (go_at_call 38; refine (rok_any hat rfl).mono ?_; rintro e w' ⟨rfl, rfl⟩) | (go_at_call 74; refine (ris_any hat _ (v := false) rfl).mono ?_; rintro e w' ⟨rfl, rfl⟩))
      refine ret_lv Tryz.results76 (t := t') rfl rfl (r7 hR rfl) ?_ ?_ (LL.s7 (by omega)) (k7w K (Or.inr (by omega)))
      · exact (ka.frame (same7k (Or.inr rfl))).mono (fun k _ h => by have := h.1; omega)
      · exact (kc.frame (same7k (Or.inr rfl))).mono (fun k _ h => by have := h.1; omega)
    · go_wp2_with (go_at_call 38; refine (rok_any hat (e_dead _)).mono ?_; rintro e w' ⟨rfl, rfl⟩)
      refine ret_lv Tryz.results76 (t := t') rfl rfl (r7 hR rfl) ?_ ?_ (LL.s7 (by omega)) (k7w K (Or.inr (by omega)))
      · exact (ka.frame (same7k (Or.inr rfl))).mono (fun k _ h => by have := h.1; omega)
      · exact (kc.frame (same7k (Or.inr rfl))).mono (fun k _ h => by have := h.1; omega)
   | .ok σ', hr, hq, HQ, hm =>
    have hm' := hm σ' rfl
    have hqb := HQ.out σ' rfl
    obtain ⟨g, rfl⟩ : ∃ g, gk = g + 1 := ⟨gk - 1, by omega⟩
    obtain ⟨hat, tk⟩ := hr.st
    have HE := Lib.hid (after_eq T s g t' σ')
    have I1 := Lib.hid (is_lex tk kLpar)
    have I2 := Lib.hid (is_lex tk kLbr)
    have I3 := Lib.hid (is_lex tk kTilde)
    cases h1 : isS σ' kLpar
    case true =>
      have HPS : Hid (∀ W, RR W b s (.ok σ') → Calls Tryz.prog 75 #[.pointer (some ⟨b, 0, none⟩)] W (RU b s (openS s σ' kLpar) W)) := Lib.hid (pass_op tk h1 (by decide +kernel))
      have hk0 := isS_ne h1
      have mpos : 1 ≤ mu s σ' := by unfold mu; rw [if_neg hk0]; omega
      have Q1 := Lib.hid (qb_open1 (s := s) hqb.2.1 kLpar)
      have Q2 := Lib.hid (qb_ins hI hqb.2.1 (Nat.le_refl _) kLpar kRpar)
      rw [h1] at I1
      have HR1 : Hid (afterS T s (g + 1) t' σ' = bT (bT (bP (openS s σ' kLpar) (T 1)) fun t σ => bP (shutS s σ kRpar) fun σ' => .ok (t, σ')) fun u σ1 => afterS T s g (nd 54 [t', u]) σ1) := Lib.hid (by rw [HE.out, if_pos h1, ins_ch])
      clear h1
      go_wp2_with (go_at_call 38; refine (rok_any hat rfl).mono ?_; rintro e w' ⟨rfl, rfl⟩)
      refine (ris_any hat kLpar I1.out).mono ?_
      rintro e w' ⟨rfl, rfl⟩
      go_wp2_with fail
      refine (HPS.out _ hr).mono ?_
      rintro e w3 ⟨rfl, h3, k3⟩
      have hB3 := hB.kept k3 (by show ¬ B = b; omega)
      have hR3 := hR.kept k3 (by show ¬ w.heap.size = b; omega)
      have ka3 := ka.frame (Same.of_kept k3 (fun k h e => by have := h.1; omega))
      have kc3 := kc.frame (Same.of_kept k3 (fun k h e => by have := h.1; omega))
      have K3 := K.trans k3
      have z3 := k3.size
      have b3 := h3.lt
      have l3 := hR3.lt
      have lB3 := hB3.lt
      clear gB gR fR hB hR ka kc K
      go_wp2_with fail
      refine (rinside_any hT hI h3 kRpar (by decide +kernel) Q1.out (by omega) (by omega)).mono ?_
      rintro e w4 ⟨u, v, rfl, ⟨tk4, kk4, rfl, a4, c4⟩, L4, k4⟩
      obtain ⟨ua, un, uc, rfl⟩ := a4.slice
      obtain ⟨ud, ue, uf, rfl⟩ := c4.slice
      unfold tmVal
      have hB4 := (hB3.kept k4 (by show ¬ B = b; omega)).alloc (.cells #[.int .i64 u.op, .string u.name, .int .i64 u.n, .int .i64 u.ty.kind, .string u.ty.name, .slice ua un uc, .slice ud ue uf] 27)
      have hR4 := (hR3.kept k4 (by show ¬ w.heap.size = b; omega)).alloc (.cells #[.int .i64 u.op, .string u.name, .int .i64 u.n, .int .i64 u.ty.kind, .string u.ty.name, .slice ua un uc, .slice ud ue uf] 27)
      have hU4 : Blk (w4.alloc (.cells #[.int .i64 u.op, .string u.name, .int .i64 u.n, .int .i64 u.ty.kind, .string u.ty.name, .slice ua un uc, .slice ud ue uf] 27)) w4.heap.size 27 (tmCells u (.slice ua un uc) (.slice ud ue uf)) := Blk.new w4 27 _
      have ka4 := (ka3.frame (Same.of_kept k4 (fun k h e => by have := h.1; omega))).frame (Same.alloc _ (.cells #[.int .i64 u.op, .string u.name, .int .i64 u.n, .int .i64 u.ty.kind, .string u.ty.name, .slice ua un uc, .slice ud ue uf] 27))
      have kc4 := (kc3.frame (Same.of_kept k4 (fun k h e => by have := h.1; omega))).frame (Same.alloc _ (.cells #[.int .i64 u.op, .string u.name, .int .i64 u.n, .int .i64 u.ty.kind, .string u.ty.name, .slice ua un uc, .slice ud ue uf] 27))
      have ua4 := (a4.mono (ok' := okk (w.heap.size + 1) B w.heap.size) (fun k _ h => ⟨by omega, by omega, by omega⟩)).frame (Same.alloc _ (.cells #[.int .i64 u.op, .string u.name, .int .i64 u.n, .int .i64 u.ty.kind, .string u.ty.name, .slice ua un uc, .slice ud ue uf] 27))
      have uc4 := (c4.mono (ok' := okk (w.heap.size + 1) B w.heap.size) (fun k _ h => ⟨by omega, by omega, by omega⟩)).frame (Same.alloc _ (.cells #[.int .i64 u.op, .string u.name, .int .i64 u.n, .int .i64 u.ty.kind, .string u.ty.name, .slice ua un uc, .slice ud ue uf] 27))
      have K4 := (K3.trans k4).alloc (.cells #[.int .i64 u.op, .string u.name, .int .i64 u.n, .int .i64 u.ty.kind, .string u.ty.name, .slice ua un uc, .slice ud ue uf] 27)
      have L5 := L4.rr.alloc (.cells #[.int .i64 u.op, .string u.name, .int .i64 u.n, .int .i64 u.ty.kind, .string u.ty.name, .slice ua un uc, .slice ud ue uf] 27)
      have z4 := k4.size
      have l4 := (hR3.kept k4 (by show ¬ w.heap.size = b; omega)).lt
      have b4 := L4.rr.lt
      have HL4 := Lib.hid L4.val
      clear hB3 hR3 ka3 kc3 K3 L4
      go_upto_region 7 with (fail)
      generalize hw5 : w4.alloc (.cells #[.int .i64 u.op, .string u.name, .int .i64 u.n, .int .i64 u.ty.kind, .string u.ty.name, .slice ua un uc, .slice ud ue uf] 27) = w5 at *
      have zw5 : w5.heap.size = w4.heap.size + 1 := by rw [← hw5]; simp
      have HZ5 := Lib.hid zw5
      clear hw5 zw5
      have gB : ∀ i, w5.cell? ⟨B, i, none⟩ = [Value.int .i64 t'.op, .string t'.name, .int .i64 t'.n, .int .i64 t'.ty.kind, .string t'.ty.name, .slice pa pn pc, .slice pd pe pf][i]? := hB4.cell
      have fB : ∀ i, w5.frozen? ⟨B, i, none⟩ = false := hB4.frozen
      have gU : ∀ i, w5.cell? ⟨w4.heap.size, i, none⟩ = [Value.int .i64 u.op, .string u.name, .int .i64 u.n, .int .i64 u.ty.kind, .string u.ty.name, .slice ua un uc, .slice ud ue uf][i]? := hU4.cell
      have lB := hB4.lt
      go_wp2_with fail
      go_roundg g
      case measure => omega
      case rel =>
        refine ⟨nd 54 [t', u], stT (bT (bP (openS s σ' kLpar) (T 1)) fun t σ => bP (shutS s σ kRpar) fun σ' => .ok (t, σ')), none, 0, 0, some ⟨w5.heap.size, 0, none⟩, 2, 2, Lib.hid ?_, Lib.hid ?_, ?_, ?_, ?_, ?_, .nil0, ?_, ?_⟩
        · rw [hq.out, bP_stT]
          show afterS T s (g + 1) t' σ' = _
          rw [HR1.out]
          refine bT_congr rfl fun u' σ2 e => ?_
          rw [HL4.out _ _ e]
        · intro σ2 e
          have h2 := Q2.out σ2 e
          exact ⟨by omega, h2.2.1, by rw [h2.2.2]; exact hqb.2.2⟩
        · intro σ2 e
          have h2 := Q2.out σ2 e
          omega
        · exact (L5.kept (S := (· = B)) (k7w (Kept.refl _ _) (Or.inl rfl)) (by show ¬ b = B; omega)).alloc _
        · exact (r7 hB4 rfl).alloc _
        · exact (b7w hR4 (by omega)).alloc _
        · refine TmL.two (ty := 27) ⟨by have := HZ5.out; omega, by have := HZ5.out; omega, by have := HZ5.out; omega⟩ (Nat.le_refl _) (Blk.new' 27 _ (by simp)) ?_ ?_ ?_ ?_
          · exact (ka4.frame (same7k (Or.inl rfl))).frame (Same.alloc _ _)
          · exact (kc4.frame (same7k (Or.inl rfl))).frame (Same.alloc _ _)
          · exact (ua4.frame (same7k (Or.inl rfl))).frame (Same.alloc _ _)
          · exact (uc4.frame (same7k (Or.inl rfl))).frame (Same.alloc _ _)
        · exact (k7w K4 (Or.inr (by omega))).alloc _
    case false =>
    rw [h1] at HE I1
    have J1 := Lib.hid I1.out
    cases h2 : isS σ' kLbr
    case true =>
      have HPS : Hid (∀ W, RR W b s (.ok σ') → Calls Tryz.prog 75 #[.pointer (some ⟨b, 0, none⟩)] W (RU b s (openS s σ' kLbr) W)) := Lib.hid (pass_op tk h2 (by decide +kernel))
      have hk0 := isS_ne h2
      have mpos : 1 ≤ mu s σ' := by unfold mu; rw [if_neg hk0]; omega
      have Q1 := Lib.hid (qb_open1 (s := s) hqb.2.1 kLbr)
      have Q2 := Lib.hid (qb_ins hI hqb.2.1 (Nat.le_refl _) kLbr kRbr)
      rw [h2] at I2
      have HR1 : Hid (afterS T s (g + 1) t' σ' = bT (bT (bP (openS s σ' kLbr) (T 1)) fun t σ => bP (shutS s σ kRbr) fun σ' => .ok (t, σ')) fun u σ1 => afterS T s g (nd 53 [t', u]) σ1) := Lib.hid (by rw [HE.out, if_neg (by simp), if_pos h2, ins_ch])
      clear h1 h2
      go_wp2_with (go_at_call 38; refine (rok_any hat rfl).mono ?_; rintro e w' ⟨rfl, rfl⟩)
      refine (ris_any hat kLpar I1.out).mono ?_
      rintro e w' ⟨rfl, rfl⟩
      go_wp2_with fail
      refine (ris_any hat kLbr I2.out).mono ?_
      rintro e w' ⟨rfl, rfl⟩
      go_wp2_with fail
      refine (HPS.out _ hr).mono ?_
      rintro e w3 ⟨rfl, h3, k3⟩
      have hB3 := hB.kept k3 (by show ¬ B = b; omega)
      have hR3 := hR.kept k3 (by show ¬ w.heap.size = b; omega)
      have ka3 := ka.frame (Same.of_kept k3 (fun k h e => by have := h.1; omega))
      have kc3 := kc.frame (Same.of_kept k3 (fun k h e => by have := h.1; omega))
      have K3 := K.trans k3
      have z3 := k3.size
      have b3 := h3.lt
      have l3 := hR3.lt
      have lB3 := hB3.lt
      clear gB gR fR hB hR ka kc K
      go_wp2_with fail
      refine (rinside_any hT hI h3 kRbr (by decide +kernel) Q1.out (by omega) (by omega)).mono ?_
      rintro e w4 ⟨u, v, rfl, ⟨tk4, kk4, rfl, a4, c4⟩, L4, k4⟩
      obtain ⟨ua, un, uc, rfl⟩ := a4.slice
      obtain ⟨ud, ue, uf, rfl⟩ := c4.slice
      unfold tmVal
      have hB4 := (hB3.kept k4 (by show ¬ B = b; omega)).alloc (.cells #[.int .i64 u.op, .string u.name, .int .i64 u.n, .int .i64 u.ty.kind, .string u.ty.name, .slice ua un uc, .slice ud ue uf] 27)
      have hR4 := (hR3.kept k4 (by show ¬ w.heap.size = b; omega)).alloc (.cells #[.int .i64 u.op, .string u.name, .int .i64 u.n, .int .i64 u.ty.kind, .string u.ty.name, .slice ua un uc, .slice ud ue uf] 27)
      have hU4 : Blk (w4.alloc (.cells #[.int .i64 u.op, .string u.name, .int .i64 u.n, .int .i64 u.ty.kind, .string u.ty.name, .slice ua un uc, .slice ud ue uf] 27)) w4.heap.size 27 (tmCells u (.slice ua un uc) (.slice ud ue uf)) := Blk.new w4 27 _
      have ka4 := (ka3.frame (Same.of_kept k4 (fun k h e => by have := h.1; omega))).frame (Same.alloc _ (.cells #[.int .i64 u.op, .string u.name, .int .i64 u.n, .int .i64 u.ty.kind, .string u.ty.name, .slice ua un uc, .slice ud ue uf] 27))
      have kc4 := (kc3.frame (Same.of_kept k4 (fun k h e => by have := h.1; omega))).frame (Same.alloc _ (.cells #[.int .i64 u.op, .string u.name, .int .i64 u.n, .int .i64 u.ty.kind, .string u.ty.name, .slice ua un uc, .slice ud ue uf] 27))
      have ua4 := (a4.mono (ok' := okk (w.heap.size + 1) B w.heap.size) (fun k _ h => ⟨by omega, by omega, by omega⟩)).frame (Same.alloc _ (.cells #[.int .i64 u.op, .string u.name, .int .i64 u.n, .int .i64 u.ty.kind, .string u.ty.name, .slice ua un uc, .slice ud ue uf] 27))
      have uc4 := (c4.mono (ok' := okk (w.heap.size + 1) B w.heap.size) (fun k _ h => ⟨by omega, by omega, by omega⟩)).frame (Same.alloc _ (.cells #[.int .i64 u.op, .string u.name, .int .i64 u.n, .int .i64 u.ty.kind, .string u.ty.name, .slice ua un uc, .slice ud ue uf] 27))
      have K4 := (K3.trans k4).alloc (.cells #[.int .i64 u.op, .string u.name, .int .i64 u.n, .int .i64 u.ty.kind, .string u.ty.name, .slice ua un uc, .slice ud ue uf] 27)
      have L5 := L4.rr.alloc (.cells #[.int .i64 u.op, .string u.name, .int .i64 u.n, .int .i64 u.ty.kind, .string u.ty.name, .slice ua un uc, .slice ud ue uf] 27)
      have z4 := k4.size
      have l4 := (hR3.kept k4 (by show ¬ w.heap.size = b; omega)).lt
      have b4 := L4.rr.lt
      have HL4 := Lib.hid L4.val
      clear hB3 hR3 ka3 kc3 K3 L4
      go_upto_region 11 with (fail)
      generalize hw5 : w4.alloc (.cells #[.int .i64 u.op, .string u.name, .int .i64 u.n, .int .i64 u.ty.kind, .string u.ty.name, .slice ua un uc, .slice ud ue uf] 27) = w5 at *
      have zw5 : w5.heap.size = w4.heap.size + 1 := by rw [← hw5]; simp
      have HZ5 := Lib.hid zw5
      clear hw5 zw5
      have gB : ∀ i, w5.cell? ⟨B, i, none⟩ = [Value.int .i64 t'.op, .string t'.name, .int .i64 t'.n, .int .i64 t'.ty.kind, .string t'.ty.name, .slice pa pn pc, .slice pd pe pf][i]? := hB4.cell
      have fB : ∀ i, w5.frozen? ⟨B, i, none⟩ = false := hB4.frozen
      have gU : ∀ i, w5.cell? ⟨w4.heap.size, i, none⟩ = [Value.int .i64 u.op, .string u.name, .int .i64 u.n, .int .i64 u.ty.kind, .string u.ty.name, .slice ua un uc, .slice ud ue uf][i]? := hU4.cell
      have lB := hB4.lt
      go_wp2_with fail
      go_roundg g
      case measure => omega
      case rel =>
        refine ⟨nd 53 [t', u], stT (bT (bP (openS s σ' kLbr) (T 1)) fun t σ => bP (shutS s σ kRbr) fun σ' => .ok (t, σ')), none, 0, 0, some ⟨w5.heap.size, 0, none⟩, 2, 2, Lib.hid ?_, Lib.hid ?_, ?_, ?_, ?_, ?_, .nil0, ?_, ?_⟩
        · rw [hq.out, bP_stT]
          show afterS T s (g + 1) t' σ' = _
          rw [HR1.out]
          refine bT_congr rfl fun u' σ2 e => ?_
          rw [HL4.out _ _ e]
        · intro σ2 e
          have h2 := Q2.out σ2 e
          exact ⟨by omega, h2.2.1, by rw [h2.2.2]; exact hqb.2.2⟩
        · intro σ2 e
          have h2 := Q2.out σ2 e
          omega
        · exact (L5.kept (S := (· = B)) (k7w (Kept.refl _ _) (Or.inl rfl)) (by show ¬ b = B; omega)).alloc _
        · exact (r7 hB4 rfl).alloc _
        · exact (b7w hR4 (by omega)).alloc _
        · refine TmL.two (ty := 27) ⟨by have := HZ5.out; omega, by have := HZ5.out; omega, by have := HZ5.out; omega⟩ (Nat.le_refl _) (Blk.new' 27 _ (by simp)) ?_ ?_ ?_ ?_
          · exact (ka4.frame (same7k (Or.inl rfl))).frame (Same.alloc _ _)
          · exact (kc4.frame (same7k (Or.inl rfl))).frame (Same.alloc _ _)
          · exact (ua4.frame (same7k (Or.inl rfl))).frame (Same.alloc _ _)
          · exact (uc4.frame (same7k (Or.inl rfl))).frame (Same.alloc _ _)
        · exact (k7w K4 (Or.inr (by omega))).alloc _
    case false =>
    rw [h2] at HE I2
    cases h3 : isS σ' kTilde
    case true =>
      have HPS : Hid (∀ W, RR W b s (.ok σ') → Calls Tryz.prog 75 #[.pointer (some ⟨b, 0, none⟩)] W (RU b s (advS s σ') W)) := Lib.hid (pass_is tk h3 (by decide +kernel) (by decide +kernel))
      have hk0 := isS_ne h3
      have Q1 := Lib.hid (qb_adv hqb.2.1 hk0)
      have mpos : 1 ≤ mu s σ' := by unfold mu; rw [if_neg hk0]; omega
      rw [h3] at I3
      have HR1 : Hid (afterS T s (g + 1) t' σ' = bP (advS s σ') fun σ1 => afterS T s g (nd 52 [t']) σ1) := Lib.hid (by rw [HE.out, if_neg (by simp), if_neg (by simp), if_pos h3])
      clear h1 h2 h3
      go_wp2_with (go_at_call 38; refine (rok_any hat rfl).mono ?_; rintro e w' ⟨rfl, rfl⟩)
      refine (ris_any hat kLpar I1.out).mono ?_
      rintro e w' ⟨rfl, rfl⟩
      go_wp2_with fail
      refine (ris_any hat kLbr I2.out).mono ?_
      rintro e w' ⟨rfl, rfl⟩
      go_wp2_with fail
      refine (ris_any hat kTilde I3.out).mono ?_
      rintro e w' ⟨rfl, rfl⟩
      go_wp2_with fail
      refine (HPS.out _ hr).mono ?_
      rintro e w4 ⟨rfl, h4, k4⟩
      have hB4 := hB.kept k4 (by show ¬ B = b; omega)
      have hR4 := hR.kept k4 (by show ¬ w.heap.size = b; omega)
      have ka4 := ka.frame (Same.of_kept k4 (fun k h e => by have := h.1; omega))
      have kc4 := kc.frame (Same.of_kept k4 (fun k h e => by have := h.1; omega))
      have K4 := K.trans k4
      have z4 := k4.size
      have b4 := h4.lt
      have lB := hB4.lt
      clear gB gR fR hB hR ka kc K
      have gB : ∀ i, w4.cell? ⟨B, i, none⟩ = [Value.int .i64 t'.op, .string t'.name, .int .i64 t'.n, .int .i64 t'.ty.kind, .string t'.ty.name, .slice pa pn pc, .slice pd pe pf][i]? := hB4.cell
      have fB : ∀ i, w4.frozen? ⟨B, i, none⟩ = false := hB4.frozen
      go_wp2_with fail
      go_roundg g
      case measure => omega
      case rel =>
        refine ⟨nd 52 [t'], advS s σ', none, 0, 0, some ⟨w4.heap.size, 0, none⟩, 1, 1, Lib.hid ?_, Lib.hid ?_, ?_, ?_, ?_, ?_, .nil0, ?_, ?_⟩
        · rw [hq.out]; exact HR1.out
        · intro σ2 e
          have h2 := Q1.out σ2 e
          exact ⟨by omega, h2.2.1, by rw [h2.2.2]; exact hqb.2.2⟩
        · intro σ2 e
          have h2 := Q1.out σ2 e
          omega
        · exact (h4.kept (S := (· = B)) (k7w (Kept.refl _ _) (Or.inl rfl)) (by show ¬ b = B; omega)).alloc _
        · exact (r7 hB4 rfl).alloc _
        · exact (b7w hR4 (by omega)).alloc _
        · refine TmL.one (ty := 27) ⟨by omega, by omega, by omega⟩ (Nat.le_refl _) (Blk.new' 27 _ (by simp)) ?_ ?_
          · exact (ka4.frame (same7k (Or.inl rfl))).frame (Same.alloc _ _)
          · exact (kc4.frame (same7k (Or.inl rfl))).frame (Same.alloc _ _)
        · exact (k7w K4 (Or.inr (by omega))).alloc _
    case false =>
      rw [h3] at I3
      have LL : LE b s R0 t' wr := by
        rw [hq.out]; show LE b s (afterS T s (g + 1) t' σ') t' wr; rw [HE.out, if_neg (by simp), if_neg (by simp), h3]; exact ⟨rfl, hr⟩
      clear h1 h2 h3
      go_wp2_with (go_at_call 38; refine (rok_any hat rfl).mono ?_; rintro e w' ⟨rfl, rfl⟩)
      refine (ris_any hat kLpar I1.out).mono ?_
      rintro e w' ⟨rfl, rfl⟩
      go_wp2_with fail
      refine (ris_any hat kLbr I2.out).mono ?_
      rintro e w' ⟨rfl, rfl⟩
      go_wp2_with fail
      refine (ris_any hat kTilde I3.out).mono ?_
      rintro e w' ⟨rfl, rfl⟩
      go_wp2_with fail
      refine ret_lv Tryz.results76 (t := t') rfl rfl (r7 hR rfl) ?_ ?_ (LL.s7 (by omega)) (k7w K (Or.inr (by omega)))
      · exact (ka.frame (same7k (Or.inr rfl))).mono (fun k _ h => by have := h.1; omega)
      · exact (kc.frame (same7k (Or.inr rfl))).mono (fun k _ h => by have := h.1; omega)
theorem rpost_any {b f : Nat} {s : ByteArray} {T : TF} (hA : RAC b s f T) (hT : RTC b s f T) (hI : TInv s T) {w : World} {q : Except ER PS} (h : RR w b s q) {M N : Nat} (hq : QB s q M N) (hf : 14 * M ≤ f) :
    Calls Tryz.prog 76 #[.pointer (some ⟨b, 0, none⟩)] w (LV b s (VTm w.heap.size) (bT (bP q (atomS T s)) fun t σ => afterS T s (s.size + 2) t σ) w) := rpost_at hA hT hI h hq hf (Lib.hid rfl)
def preB : List ByteArray := [⟨#[80, 79, 87]⟩, ⟨#[99, 97, 114, 100]⟩, ⟨#[109, 105, 110]⟩, ⟨#[109, 97, 120]⟩, ⟨#[100, 111, 109]⟩, ⟨#[114, 97, 110]⟩]
theorem fn_key : ∀ (i : Fin preB.length), (if preB[i].toList ∈ fns then (46 : Int) + fns.idxOf preB[i].toList else 0) = 46 + (i.val : Int) := by decide +kernel
theorem fn_hit {s : ByteArray} {k : Nat} (h : k < preB.length) (hy : (preB[k].toList == s.toList) = true) : functionN s = 46 + k := by
  unfold functionN
  rw [← eq_of_beq hy]
  exact fn_key ⟨k, h⟩
theorem fn_miss {s : ByteArray} (hno : ∀ j (h : j < preB.length), (preB[j].toList == s.toList) = false) : functionN s = 0 := by
  unfold functionN
  rw [if_neg]
  intro hm
  have key : ∀ x, x ∈ fns → ∃ i : Fin preB.length, preB[i].toList = x := by decide +kernel
  obtain ⟨i, hi⟩ := key _ hm
  have := hno i.val i.isLt
  rw [beq_eq_false_iff_ne] at this
  exact this hi
set_option maxHeartbeats 2000000 in
theorem rprefix_any (s : ByteArray) (w : World) : Calls Tryz.prog 154 #[.string s] w fun e w' => e = .returned (.int .i64 (functionN s)) ∧ Kept (fun _ => False) w w' := by
  have hb : Blk (w.alloc (.cells (preB.map Value.string).toArray 9)) w.heap.size 9 (preB.map Value.string) := Blk.new w 9 _
  have K1 : Kept (fun _ => False) w (w.alloc (.cells (preB.map Value.string).toArray 9)) := (Kept.refl _ _).alloc _
  have HX : Hid (∀ i (h : i < preB.length), (w.alloc (.cells (preB.map Value.string).toArray 9)).cell? ⟨w.heap.size, i, none⟩ = some (.string preB[i])) := Lib.hid (fun i h => by
    rw [hb.cell i, List.getElem?_map, List.getElem?_eq_getElem h]; rfl)
  go_enter Tryz.func154, Tryz.ntmps154
  go_wp2_with fail
  change _ at HX
  have e0 : (w.alloc (.cells (preB.map Value.string).toArray 9)) = w.alloc (.cells #[.string ⟨#[80, 79, 87]⟩, .string ⟨#[99, 97, 114, 100]⟩, .string ⟨#[109, 105, 110]⟩, .string ⟨#[109, 97, 120]⟩, .string ⟨#[100, 111, 109]⟩, .string ⟨#[114, 97, 110]⟩] 9) := rfl
  rw [e0] at HX K1
  clear hb e0
  generalize w.alloc (.cells #[.string ⟨#[80, 79, 87]⟩, .string ⟨#[99, 97, 114, 100]⟩, .string ⟨#[109, 105, 110]⟩, .string ⟨#[109, 97, 120]⟩, .string ⟨#[100, 111, 109]⟩, .string ⟨#[114, 97, 110]⟩] 9) = w1 at *
  go_loop [4] (fun i => ∃ k : Nat, k ≤ 6 ∧ i = .int .i64 k ∧ Hid (∀ j (h : j < k) (h' : j < preB.length), (preB[j].toList == s.toList) = false)) (fun i => 6 - (intOf i).toNat)
  case atStart => exact ⟨0, Nat.zero_le _, rfl, Lib.hid (fun j h => by omega)⟩
  case round =>
    obtain ⟨k, hk, rfl, hno⟩ := hrel
    by_cases hlt : k < preB.length
    · have hc := HX.out k hlt
      have i1 : (k : Int) < 6 := by have : preB.length = 6 := rfl; omega
      have hlt6 : k < 6 := hlt
      cases hy : (preB[k].toList == s.toList)
      · have hno' : Hid (∀ j (h : j < k + 1) (h' : j < preB.length), (preB[j].toList == s.toList) = false) := Lib.hid (fun j h h' => by
          rcases Nat.lt_succ_iff_lt_or_eq.1 h with h | rfl
          · exact hno.out j h h'
          · exact hy)
        generalize preB[k] = x at *
        go_wp2_with fail
        go_round
        case rel => exact ⟨k + 1, by omega, by go_num, hno'⟩
        case measure => simp [intOf]; omega
      · have hi := Lib.hid (fn_hit hlt hy)
        generalize preB[k] = x at *
        go_wp2_with fail
        go_ret
        exact ⟨by rw [hi.out]; rfl, K1⟩
    · have hi := Lib.hid (fn_miss (s := s) (fun j h => hno.out j (by omega) h))
      have hk6 : k = 6 := by have : preB.length = 6 := rfl; omega
      subst hk6
      go_wp2_with fail
      go_ret
      exact ⟨by rw [hi.out]; rfl, K1⟩
theorem sgn_notin : ∀ x, x ∈ signs → (x.toList == kIn.toList) = false := by decide +kernel
theorem foll_lex {s : ByteArray} {σ : PS} (h : Tk s σ) : followedB s σ = (((lexW s (skip s σ.p)).1 == 2) && ((lexW s (skip s σ.p)).2.toList == kIn.toList)) := by
  have hle := skip_le s σ.p h.lex.2.1
  have hl := lex_tok hle
  unfold followedB advS
  cases ht : tokAt s (skip s σ.p) with
  | none =>
    rw [ht] at hl
    dsimp only at hl ⊢
    rw [hl.1]; rfl
  | some t =>
    rw [ht] at hl
    dsimp only at hl ⊢
    have htk : Tk s { p := t.1, k := t.2.1, tx := t.2.2.1, n := t.2.2.2, ta := skip s σ.p, nest := σ.nest } := ⟨ht, hle, h.nest⟩
    rw [← is_lex htk kIn, isR]
    have hr := hl.2.2
    show (((lexW s (skip s σ.p)).1 == 4 || (lexW s (skip s σ.p)).1 == 2) && ((lexW s (skip s σ.p)).2.toList == kIn.toList)) = _
    generalize t.2.1 = k at hr
    generalize t.2.2.1 = tx at hr
    generalize t.2.2.2 = n at hr
    cases hr with
    | fin h _ => rw [h]; rfl
    | word _ h hk _ => rw [h]; rfl
    | name _ h hk _ _ => rw [h]; rfl
    | num x _ h _ _ => rw [h]; rfl
    | sgn _ h hx => rw [h, sgn_notin _ hx]; rfl
set_option maxRecDepth 100000 in
set_option maxHeartbeats 4000000 in
theorem rfoll_any {w : World} {b : Nat} {s : ByteArray} {σ : PS} (h : RR w b s (.ok σ)) {v : Bool} (hv : followedB s σ = v) : Calls Tryz.prog 168 #[.pointer (some ⟨b, 0, none⟩)] w fun e w' => e = .returned (.bool v) ∧ Kept (fun _ => False) w w' := by
  obtain ⟨hat, tk⟩ := h.st
  have hlt := h.lt
  have hs := h.src
  have hx := tk.lex
  rw [foll_lex tk] at hv
  have ha : σ.ta + (lexW s σ.ta).2.size = σ.p := hx.1.symm
  have hp := hx.2.1
  have HL : Hid (∀ (W : World) (j : Int), j = (σ.p : Int) → Calls Tryz.prog 35 #[.string s, .int .i64 j] W (LexP s σ.p W)) := Lib.hid (fun W j hj => rlex_at s σ.p j hj W hp hs)
  have c0 := hat.c0
  have c2 := hat.c2
  have c3 := hat.c3
  clear hat tk h hx
  generalize (lexW s σ.ta).2 = x at *
  unfold LexP at HL
  generalize lexW s (skip s σ.p) = r at *
  generalize skip s σ.p = fr at *
  obtain ⟨k, y⟩ := r
  dsimp only at hv HL
  rw [show kIn.toList = [105, 110] by decide +kernel] at hv
  have i1 : ((σ.ta : Int) + (x.size : Int)) = (σ.p : Int) := by omega
  have I1 := Lib.hid i1
  have hta : σ.ta ≤ 65536 := by omega
  have hxs : x.size ≤ 65536 := by omega
  clear i1 ha
  go_enter Tryz.func168, Tryz.ntmps168
  have nb : w.heap.size ≠ b := by omega
  go_upto_region 1 with (fail)
  go_cut [3] (fun v3 wc => ∃ B, v3 = .pointer (some ⟨B, 0, none⟩) ∧ Blk wc B 55 [.int .i64 k, .string y, .int .i64 fr] ∧ Kept (fun _ => False) w wc)
  case first =>
    clear hv
    go_region_held3 (fun w' => w'.cell? ⟨b, 0, none⟩ = some (.string s) ∧ w'.cell? ⟨b, 2, none⟩ = some (.string x) ∧ w'.cell? ⟨b, 3, none⟩ = some (.int .i64 σ.ta)) (go_keep)
      (first | (go_at_call 35; refine (HL.out _ _ (by have := I1.out; first | exact this | exact (IntWalk.i64_in _ (by omega)).trans this | omega)).mono ?_; rintro e w3 ⟨rfl, k3⟩; have m0 : w3.cell? ⟨b, 0, none⟩ = some (.string s) := (k3.cell (p := ⟨b, 0, none⟩) (by first | exact hlt | (simp; omega)) id).trans (by first | assumption | go_keep); have m2 : w3.cell? ⟨b, 2, none⟩ = some (.string x) := (k3.cell (p := ⟨b, 2, none⟩) (by first | exact hlt | (simp; omega)) id).trans (by first | assumption | go_keep); have m3 : w3.cell? ⟨b, 3, none⟩ = some (.int .i64 σ.ta) := (k3.cell (p := ⟨b, 3, none⟩) (by first | exact hlt | (simp; omega)) id).trans (by first | assumption | go_keep); first | (have hz3 : Blk w3 w.heap.size 55 [.int .i64 0, .string ⟨#[]⟩, .int .i64 0] := (Blk.new' (w := w.drew) 55 _ rfl).kept k3 id; have gz : ∀ i, w3.cell? ⟨w.heap.size, i, none⟩ = [Value.int .i64 0, .string ⟨#[]⟩, .int .i64 0][i]? := hz3.cell; have fz : ∀ i, w3.frozen? ⟨w.heap.size, i, none⟩ = false := hz3.frozen; have lz := hz3.lt) | skip))
    · go_wp2_with fail
      go_meet
      case rel => exact ⟨_, rfl, Blk.new _ 55 _, (((Kept.refl _ _).drew).trans k3).alloc _⟩
    · go_wp2_with fail
      go_meet
      case rel => exact ⟨_, rfl, r55 hz3 rfl, k55 ((((Kept.refl _ _).drew).alloc _).trans k3) (Nat.le_refl _)⟩
  case rest =>
    obtain ⟨B, rfl, hB, hk⟩ := hcut
    have gB : ∀ i, wc.cell? ⟨B, i, none⟩ = [Value.int .i64 k, .string y, .int .i64 fr][i]? := hB.cell
    cases h2 : (k == 2) <;> cases hy : (y.toList == [105, 110])
    all_goals
      rw [h2, hy] at hv
      have HV := Lib.hid hv
      clear hv
      go_wp2_with fail
      go_ret
      exact ⟨by rw [← HV.out]; rfl, hk⟩
end Go.Proofs.YtckjlliobebodaaGreatDoor
