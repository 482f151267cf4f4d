/- Texts RBr2 RTrm RVal of this proof, in one. -/
import Derived.Test.YtckjlliobebodaaGreatDoorBb11
import Derived.Test.YtckjlliobebodaaGreatDoorBb2
import Derived.Deep.CutBlock
import Derived.Deep.AppendLies
import Derived.Deep.RegionLaw
import Derived.Test.YtckjlliobebodaaGreatDoorBb7
import Derived.Test.YtckjlliobebodaaGreatDoorBb6
import Derived.BigQuiet
set_option linter.unusedVariables false
set_option linter.unusedSimpArgs false
namespace Go.Proofs.YtckjlliobebodaaGreatDoor
open Go.RowKit
def headC (s : ByteArray) : Except ER PS → Bool
  | .ok σ => headQ s σ
  | .error _ => false
theorem head_tok {s : ByteArray} {σ : PS} (h : Tk s σ) : headQ s σ = (((lexW s σ.ta).1 == 1) && !primB (lexW s σ.ta).2 && followedB s σ) := by
  unfold headQ
  have hr := h.lex.2.2
  generalize followedB s σ = fo
  revert hr
  generalize σ.k = k
  generalize σ.tx = tx
  generalize σ.n = n
  intro hr
  cases hr with
  | fin h _ => rw [h]; rfl
  | word _ h hk _ =>
    have : identB tx = false := by
      cases e : identB tx
      · rfl
      · rw [ident_word e] at hk; cases hk
    rw [h, this]; rfl
  | name _ h hk hp _ => rw [h, hp]; simp
  | num x _ h _ _ => rw [h]; rfl
  | sgn _ h _ => rw [h]; rfl
theorem head_yes' {s : ByteArray} {σ : PS} (h : Tk s σ) (hh : headQ s σ = true) : ∃ σ2, advS s σ = .ok σ2 ∧ isS σ2 kIn = true ∧ noBr (lexW s σ.ta).2 ∧ (lexW s σ.ta).2 = σ.tx ∧ σ.k ≠ 0 := by
  unfold headQ at hh
  rw [Bool.and_eq_true, Bool.and_eq_true] at hh
  obtain ⟨⟨h1, h2⟩, h3⟩ := hh
  unfold followedB at h3
  obtain ⟨e1, _, e3⟩ := tok_yes h (eq_of_beq h1) h2
  cases ha : advS s σ with
  | error r => rw [ha] at h3; cases h3
  | ok σ2 =>
    rw [ha] at h3
    exact ⟨σ2, rfl, h3, by rw [e1]; exact e3, by rw [e1], by rw [eq_of_beq h1]; decide⟩
def moN (T : TF) (s : ByteArray) : Nat → Tm → PS → RT
  | 0, t, σ => .ok (t, σ)
  | l + 1, t, σ => bT (restS T s (l + 1) (s.size + 2) t σ) fun a σ1 => moN T s l a σ1
theorem moN_more {T : TF} {s : ByteArray} {t : Tm} {σ : PS} : moreK T s t σ = moN T s 4 t σ := by
  unfold moreK
  simp only [moN]
  refine bT_congr rfl fun a σ1 _ => bT_congr rfl fun c σ2 _ => bT_congr rfl fun d σ3 _ => ?_
  cases restS T s (0 + 1) (s.size + 2) d σ3 <;> rfl
theorem rmore_at {b f : Nat} {s : ByteArray} {T : TF} (hT : RTC b s f T) (hI : TInv s T) {w : World} {q : Except ER PS} (h : RR w b s q) (n : Nat) (m : Int) (hm : m = n) (h1 : 1 ≤ n) (h13 : n ≤ 13) {t : Tm} {tk kk : Value} {n0 : Nat} (hb0 : b < n0) (hn0 : n0 ≤ w.heap.size)
    (at1 : TyL (fun k => n0 ≤ k) w t.ty.kids tk) (ct1 : TmL (fun k => n0 ≤ k) w t.kids kk) {M N : Nat} (hq : QB s q M N) (hf : 14 * M ≤ f) :
    Calls Tryz.prog 77 #[.pointer (some ⟨b, 0, none⟩), tmVal t tk kk, .int .i64 m] w (LV b s (VTm n0) (bP q fun σ => restS T s n (s.size + 2) t σ) w) := by
  subst hm; exact rmore_any hT hI h n h1 h13 hb0 hn0 at1 ct1 hq hf
theorem news_one {W : World} {u : Tm} {tk kk : Value} : ∀ j x, (tmCells u tk kk)[j]? = some x → (W.alloc (.cells #[.int .i64 u.op, .string u.name, .int .i64 u.n, .int .i64 u.ty.kind, .string u.ty.name, tk, kk] 27)).cell? ((⟨W.heap.size, 0, none⟩ : Addr).add j) = some x := by
  intro j x hx
  have hb : Blk (W.alloc (.cells #[.int .i64 u.op, .string u.name, .int .i64 u.n, .int .i64 u.ty.kind, .string u.ty.name, tk, kk] 27)) W.heap.size 27 (tmCells u tk kk) := Blk.new W 27 _
  have := hb.cell j
  rw [← hx, ← this]; cases j <;> simp [Addr.add]
theorem cells_one {u : Tm} {a d : Option Addr} {n c e f : Nat} : ∀ x, x ∈ tmCells u (.slice a n c) (.slice d e f) → x.oneCell' = true := by
  intro x hx
  unfold tmCells at hx
  simp only [List.mem_cons, List.not_mem_nil, or_false] at hx
  rcases hx with rfl | rfl | rfl | rfl | rfl | rfl | rfl <;> rfl
def barB : Except ER PS → Bool
  | .ok σ => isS σ kBar
  | .error _ => false
theorem compr_ch {T : TF} {s : ByteArray} {σ1 σ2 : PS} (ha : advS s σ1 = .ok σ2) : comprK T s σ1 = bT (bP (advS s σ2) (T 7)) fun d σ4 => if isS σ4 kBar = true then barK T s σ1.tx d σ4 else bT (moN T s 4 (nd 16 [nmT σ1.tx, d]) σ4) fun t σ5 => elemsK T s t σ5 := by
  unfold comprK
  rw [ha]
  simp only [bP_pure, bP_assoc, moN_more]
theorem rest_inv {T : TF} {s : ByteArray} {n : Nat} (hT : TInv s T) (g : Nat) : ∀ {t t' : Tm} {σ σ' : PS}, σ.p ≤ s.size → restS T s n g t σ = .ok (t', σ') → Inv s σ σ' := by
  induction g with
  | zero => intro t t' σ σ' _ h; cases h
  | succ g ih =>
    intro t t' σ σ' hp h
    unfold restS at h
    repeat' split at h
    all_goals try (cases h; done)
    · cases h; exact ⟨Nat.le_refl _, hp, rfl⟩
    · rename_i hk _ σ1 h1 _ u σ2 h2 _ _
      cases h
      have a1 := inv_adv hp (opGo_ne (ne_of_beq_false hk)) h1
      have a2 := (hT _ _ _ _ a1.2.1 h2).1
      unfold Inv at a2 ⊢
      exact ⟨by omega, a2.2.1, by omega⟩
    · rename_i hk _ σ1 h1 _ u σ2 h2 _ _
      have a1 := inv_adv hp (opGo_ne (ne_of_beq_false hk)) h1
      have a2 := (hT _ _ _ _ a1.2.1 h2).1
      unfold Inv at a2
      have a3 := ih a2.2.1 h
      unfold Inv at a3 ⊢
      exact ⟨by omega, a3.2.1, by omega⟩
theorem qb_rest {T : TF} {s : ByteArray} {q : Except ER PS} {M N n : Nat} {t : Tm} (hI : TInv s T) (h : QB s q M N) : QB s (stT (bP q fun σ => restS T s n (s.size + 2) t σ)) M N := by
  intro σ' e
  obtain ⟨x, e⟩ := stT_ok e
  obtain ⟨σ, rfl, e⟩ := bP_ok e
  have a := h σ rfl
  have := rest_inv hI _ a.2.1 e
  unfold Inv at this
  exact ⟨by omega, by omega, by omega⟩
set_option maxRecDepth 100000 in
set_option maxHeartbeats 16000000 in
theorem rbr_rest {b f : Nat} {s : ByteArray} {T : TF} {w : World} {q : Except ER PS} {M N : Nat} (hTf : T = termS f s) (hT : RTC b s f T) (hI : TInv s T) (hs : s.size ≤ 65536) (h : RB w b s q) (hq : QB s q M N) (hN : 1 ≤ N) (hf : 14 * M + 13 < f) {k : Int} {x : ByteArray} {a nest at_ e : Int} (hv : RV w b s q k x a nest at_ e) (hR : isR k x kRcu = false) :
    Calls Tryz.prog 152 #[.pointer (some ⟨b, 0, none⟩)] w (LV b s (VTm w.heap.size) (bP q (brK T s)) w) := by
  have hat := hv.at'
  have hlt := Blk.lt hat
  have HR := Lib.hid hR
  have HQ := Lib.hid hq
  have HV := Lib.hid hv
  have HE : Hid (bP q (brK T s) = if headC s q = true then bP q (comprK T s) else bT (bP q (T 1)) fun t σ => elemsK T s t σ) := Lib.hid (by
    match q, h, hv, hq with
    | .error r, _, _, _ => rfl
    | .ok σ, h, hv, hq =>
      have tk := RR.tk h rfl
      obtain ⟨v1, v2, _, _⟩ := hv.ok σ rfl
      have hi : isS σ kRcu = false := by rw [← is_lex tk kRcu, ← v1, ← v2]; exact hR
      have hb := hq σ rfl
      show brK T s σ = if headQ s σ = true then _ else _
      unfold brK
      rw [if_neg (by rw [hi]; simp), hTf]
      exact braces_doc hb.2.1 f (by omega))
  have HB := Lib.hid (fun W (hk : Kept (fun _ => False) w W) => RB.kept hk id h)
  clear hR hv hq h hTf
  have hR0 : Blk (((w.alloc (.cells #[.int .i64 0, .string ⟨#[]⟩, .int .i64 0, .int .i64 0, .string ⟨#[]⟩, .slice none 0 0, .slice none 0 0] 27)).alloc (.cells #[.int .i64 0, .string ⟨#[]⟩, .int .i64 0, .int .i64 0, .string ⟨#[]⟩, .slice none 0 0, .slice none 0 0] 27)).alloc (.cells #[.int .i64 k, .string x, .int .i64 a] 55)) w.heap.size 27 z27 := ((Blk.new w 27 z27).alloc _).alloc _
  have hF0 : Blk (((w.alloc (.cells #[.int .i64 0, .string ⟨#[]⟩, .int .i64 0, .int .i64 0, .string ⟨#[]⟩, .slice none 0 0, .slice none 0 0] 27)).alloc (.cells #[.int .i64 0, .string ⟨#[]⟩, .int .i64 0, .int .i64 0, .string ⟨#[]⟩, .slice none 0 0, .slice none 0 0] 27)).alloc (.cells #[.int .i64 k, .string x, .int .i64 a] 55)) (w.heap.size + 1) 27 z27 := (Blk.new' 27 z27 (by simp)).alloc _
  have hN0 : Blk (((w.alloc (.cells #[.int .i64 0, .string ⟨#[]⟩, .int .i64 0, .int .i64 0, .string ⟨#[]⟩, .slice none 0 0, .slice none 0 0] 27)).alloc (.cells #[.int .i64 0, .string ⟨#[]⟩, .int .i64 0, .int .i64 0, .string ⟨#[]⟩, .slice none 0 0, .slice none 0 0] 27)).alloc (.cells #[.int .i64 k, .string x, .int .i64 a] 55)) (w.heap.size + 2) 55 [.int .i64 k, .string x, .int .i64 a] := Blk.new' 55 _ (by simp)
  have k3 : Kept (fun _ => False) w (((w.alloc (.cells #[.int .i64 0, .string ⟨#[]⟩, .int .i64 0, .int .i64 0, .string ⟨#[]⟩, .slice none 0 0, .slice none 0 0] 27)).alloc (.cells #[.int .i64 0, .string ⟨#[]⟩, .int .i64 0, .int .i64 0, .string ⟨#[]⟩, .slice none 0 0, .slice none 0 0] 27)).alloc (.cells #[.int .i64 k, .string x, .int .i64 a] 55)) := (((Kept.refl _ _).alloc _).alloc _).alloc _
  have HZ3 : Hid ((((w.alloc (.cells #[.int .i64 0, .string ⟨#[]⟩, .int .i64 0, .int .i64 0, .string ⟨#[]⟩, .slice none 0 0, .slice none 0 0] 27)).alloc (.cells #[.int .i64 0, .string ⟨#[]⟩, .int .i64 0, .int .i64 0, .string ⟨#[]⟩, .slice none 0 0, .slice none 0 0] 27)).alloc (.cells #[.int .i64 k, .string x, .int .i64 a] 55)).heap.size = w.heap.size + 3) := Lib.hid (by simp)
  have hat1 := hat.grow ((Kept.refl _ _).alloc (.cells #[.int .i64 0, .string ⟨#[]⟩, .int .i64 0, .int .i64 0, .string ⟨#[]⟩, .slice none 0 0, .slice none 0 0] 27))
  have hat2 := hat.grow (((Kept.refl _ _).alloc (.cells #[.int .i64 0, .string ⟨#[]⟩, .int .i64 0, .int .i64 0, .string ⟨#[]⟩, .slice none 0 0, .slice none 0 0] 27)).alloc (.cells #[.int .i64 0, .string ⟨#[]⟩, .int .i64 0, .int .i64 0, .string ⟨#[]⟩, .slice none 0 0, .slice none 0 0] 27))
  have c1 := hat2.c1
  have c2 := hat2.c2
  have c3 := hat2.c3
  go_enter Tryz.func152, Tryz.ntmps152
  go_upto_region 9 with (go_at_call 74; refine (ris_any hat1 kRcu HR.out).mono ?_; rintro e w' ⟨rfl, rfl⟩)
  generalize (((w.alloc (.cells #[.int .i64 0, .string ⟨#[]⟩, .int .i64 0, .int .i64 0, .string ⟨#[]⟩, .slice none 0 0, .slice none 0 0] 27)).alloc (.cells #[.int .i64 0, .string ⟨#[]⟩, .int .i64 0, .int .i64 0, .string ⟨#[]⟩, .slice none 0 0, .slice none 0 0] 27)).alloc (.cells #[.int .i64 k, .string x, .int .i64 a] 55)) = w3 at *
  go_cut [42] (fun v wc => v = .bool (headC s q) ∧ Kept (fun _ => False) w3 wc)
  case first =>
    have hat3 := hat.grow k3
    have gN : ∀ i, w3.cell? ⟨w.heap.size + 2, i, none⟩ = [Value.int .i64 k, .string x, .int .i64 a][i]? := hN0.cell
    cases he : (e == 0)
    · have HC : Hid (headC s q = false) := Lib.hid (by
        match q, HV with
        | .error r, _ => rfl
        | .ok σ, HV => have := (HV.out.ok σ rfl).2.2.1; rw [this] at he; cases he)
      go_wp2_with (go_at_call 38; refine (rok_any hat3 he).mono ?_; rintro e w' ⟨rfl, rfl⟩)
      go_meet
      exact ⟨by rw [HC.out], Kept.refl _ _⟩
    · cases hk1 : (k == 1)
      · have HC : Hid (headC s q = false) := Lib.hid (by
          match q, HV, HB with
          | .error r, _, _ => rfl
          | .ok σ, HV, HB =>
            have tk := RR.tk (HB.out w (Kept.refl _ _)) rfl
            show headQ s σ = false
            rw [head_tok tk, ← (HV.out.ok σ rfl).1, hk1]; rfl)
        go_wp2_with (go_at_call 38; refine (rok_any hat3 he).mono ?_; rintro e w' ⟨rfl, rfl⟩)
        go_meet
        exact ⟨by rw [HC.out], Kept.refl _ _⟩
      · obtain ⟨σ, rfl⟩ := HV.out.name he hk1
        have tk := RR.tk (HB.out w (Kept.refl _ _)) rfl
        have v2 := (HV.out.ok σ rfl).2.1
        have v1 := (HV.out.ok σ rfl).1
        have hxz : x.size ≤ 65536 := by rw [v2]; exact lex_le tk hs
        have hht := head_tok tk
        rw [← v1, ← v2, hk1] at hht
        have V2 := Lib.hid v2
        clear v1 v2
        cases hp : primB x
        · have HC : Hid (headC s (.ok σ) = followedB s σ) := Lib.hid (by show headQ s σ = _; rw [hht, hp]; simp)
          clear hht
          have HPX := Lib.hid hp
          clear hp
          go_wp2_with (go_at_call 38; refine (rok_any hat3 he).mono ?_; rintro e w' ⟨rfl, rfl⟩)
          refine (primed_any x w3 hxz HPX.out).mono ?_
          rintro e w4 ⟨rfl, k4⟩
          have h4 : RR w4 b s (.ok σ) := HB.out w4 (k3.trans k4)
          go_wp2_with fail
          refine (rfoll_any h4 rfl).mono ?_
          rintro e w5 ⟨rfl, k5⟩
          go_wp2_with fail
          go_meet
          exact ⟨by rw [HC.out], k4.trans k5⟩
        · have HC : Hid (headC s (.ok σ) = false) := Lib.hid (by show headQ s σ = _; rw [hht, hp]; simp)
          clear hht
          have HPX := Lib.hid hp
          clear hp
          go_wp2_with (go_at_call 38; refine (rok_any hat3 he).mono ?_; rintro e w' ⟨rfl, rfl⟩)
          refine (primed_any x w3 hxz HPX.out).mono ?_
          rintro e w4 ⟨rfl, k4⟩
          go_wp2_with fail
          go_meet
          exact ⟨by rw [HC.out], k4⟩
  case rest =>
    obtain ⟨rfl, kc⟩ := hcut
    have hR1 := hR0.kept kc (fun h => h)
    have hF1 := hF0.kept kc (fun h => h)
    have hN1 := hN0.kept kc (fun h => h)
    have hB1 := HB.out wc (k3.trans kc)
    have K1 : Kept (· = b) w wc := (k3.trans kc).mono (fun _ _ h => h.elim)
    have z1 := kc.size
    clear hR0 hF0 hN0 hat1 hat2 c1 c2 c3
    go_upto_if 42 with (fail)
    go_cut [] (fun wd => ∃ (t' : Tm) (q2 : Except ER PS) (pa : Option Addr) (pn pc : Nat) (pd : Option Addr) (pe pf : Nat), Hid (bP q (brK T s) = bP q2 (fun σ => elemsK T s t' σ)) ∧ Hid (QB s q2 M N) ∧ RR wd b s q2 ∧ Blk wd (w.heap.size + 1) 27 (tmCells t' (.slice pa pn pc) (.slice pd pe pf)) ∧ Blk wd w.heap.size 27 z27 ∧ TyL (fun k => w.heap.size + 3 ≤ k) wd t'.ty.kids (.slice pa pn pc) ∧ TmL (fun k => w.heap.size + 3 ≤ k) wd t'.kids (.slice pd pe pf) ∧ Kept (· = b) w wd)
    case first =>
      cases hC : headC s q
      · have HE0 : Hid (bP q (brK T s) = bT (bP q (T 1)) fun t σ => elemsK T s t σ) := Lib.hid (by rw [HE.out, hC]; rfl)
        clear HE
        go_wp2_with fail
        refine (hT.at 1 1 rfl (by decide) (by decide) (hB1.rr hs) HQ.out (by omega)).mono ?_
        rintro e w5 ⟨u, v, rfl, ⟨tk5, kk5, rfl, a5, c5⟩, L5, k5⟩
        obtain ⟨ua, un, uc, rfl⟩ := a5.slice
        obtain ⟨ud, ue, uf, rfl⟩ := c5.slice
        unfold tmVal
        have hR5 := hR1.kept k5 (by show ¬ w.heap.size = b; omega)
        have hF5 := hF1.kept k5 (by show ¬ w.heap.size + 1 = b; omega)
        have K5 := K1.trans k5
        have zz := HZ3.out
        have HZ4 := Lib.hid zz
        have b5 := L5.rr.lt
        have gF : ∀ i, w5.cell? ⟨w.heap.size + 1, i, none⟩ = [Value.int .i64 0, .string ⟨#[]⟩, .int .i64 0, .int .i64 0, .string ⟨#[]⟩, .slice none 0 0, .slice none 0 0][i]? := hF5.cell
        have fF : ∀ i, w5.frozen? ⟨w.heap.size + 1, i, none⟩ = false := hF5.frozen
        clear zz
        go_wp2_with fail
        go_meet
        case rel =>
          have zz := HZ4.out
          refine ⟨u, stT (bP q (T 1)), ua, un, uc, ud, ue, uf, Lib.hid ?_, Lib.hid (qb_T hI 1 HQ.out), ?_, ?_, ?_, ?_, ?_, ?_⟩
          · rw [HE0.out, bP_stT]
            exact bT_congr rfl fun u' σ' e => by rw [L5.val _ _ e]
          · exact L5.rr.kept (S := (· = w.heap.size + 1)) (k7w (Kept.refl _ _) (Or.inl rfl)) (by show ¬ b = w.heap.size + 1; omega)
          · exact r7 hF5 rfl
          · exact b7w hR5 (by omega)
          · exact (a5.frame (same7 (R := w.heap.size + 1) (by omega))).mono (fun k _ h => by omega)
          · exact (c5.frame (same7 (R := w.heap.size + 1) (by omega))).mono (fun k _ h => by omega)
          · exact k7w K5 (Or.inr (by omega))
      · obtain ⟨σ1, hqe⟩ : ∃ σ1, q = .ok σ1 := by
          match q, hC with
          | .ok σ, _ => exact ⟨σ, rfl⟩
          | .error r, hC => cases hC
        subst hqe
        have tk := RR.tk hB1 rfl
        obtain ⟨σ2, ha, hin, hnb, hxt, hk0⟩ := head_yes' tk hC
        have hqb := HQ.out σ1 rfl
        have i2 := inv_adv hqb.2.1 hk0 ha
        have HX := Lib.hid ((HV.out.ok σ1 rfl).2.1.trans hxt)
        have HP1 := Lib.hid (pass_nm (b := b) hnb)
        rw [ha] at HP1
        have HE1 : Hid (bP (.ok σ1) (brK T s) = bT (bP (advS s σ2) (T 7)) fun d σ4 => if isS σ4 kBar = true then barK T s x d σ4 else bT (moN T s 4 (nd 16 [nmT x, d]) σ4) fun t σ5 => elemsK T s t σ5) := Lib.hid (by
          rw [HE.out, hC, if_pos rfl]
          show comprK T s σ1 = _
          rw [compr_ch ha, HX.out])
        have Q5 := Lib.hid (qb_adv i2.2.1 (isS_ne hin))
        have mpos : 1 ≤ mu s σ2 := by have := isS_ne hin; unfold mu; rw [if_neg this]; omega
        clear HE hC hnb hxt ha
        go_wp2_with fail
        refine (HP1.out _ hB1).mono ?_
        rintro e w4 ⟨rfl, h4, k4⟩
        have hR4 := hR1.kept k4 (by show ¬ w.heap.size = b; omega)
        have hF4 := hF1.kept k4 (by show ¬ w.heap.size + 1 = b; omega)
        have hN4 := hN1.kept k4 (by show ¬ w.heap.size + 2 = b; omega)
        have K4 := K1.trans k4
        have z4 := k4.size
        have HP2 := Lib.hid (pass_is (b := b) (h4.tk rfl) hin (by decide +kernel) (by decide +kernel))
        go_wp2_with fail
        refine (HP2.out _ h4).mono ?_
        rintro e w5 ⟨rfl, h5, k5⟩
        have hR5 := hR4.kept k5 (by show ¬ w.heap.size = b; omega)
        have hF5 := hF4.kept k5 (by show ¬ w.heap.size + 1 = b; omega)
        have hN5 := hN4.kept k5 (by show ¬ w.heap.size + 2 = b; omega)
        have K5 := K4.trans k5
        have z5 := k5.size
        go_wp2_with fail
        refine (hT.at 7 7 rfl (by decide) (by decide) h5 Q5.out (by omega)).mono ?_
        rintro e w6 ⟨d, v, rfl, ⟨tk6, kk6, rfl, a6, c6⟩, L6, k6⟩
        obtain ⟨da, dn, dc, rfl⟩ := a6.slice
        obtain ⟨dd, de, df, rfl⟩ := c6.slice
        unfold tmVal
        have zz := HZ3.out
        have hR6 := (hR5.kept k6 (by show ¬ w.heap.size = b; omega)).alloc (.cells #[.int .i64 d.op, .string d.name, .int .i64 d.n, .int .i64 d.ty.kind, .string d.ty.name, .slice da dn dc, .slice dd de df] 27)
        have hF6 := (hF5.kept k6 (by show ¬ w.heap.size + 1 = b; omega)).alloc (.cells #[.int .i64 d.op, .string d.name, .int .i64 d.n, .int .i64 d.ty.kind, .string d.ty.name, .slice da dn dc, .slice dd de df] 27)
        have hN6 := (hN5.kept k6 (by show ¬ w.heap.size + 2 = b; omega)).alloc (.cells #[.int .i64 d.op, .string d.name, .int .i64 d.n, .int .i64 d.ty.kind, .string d.ty.name, .slice da dn dc, .slice dd de df] 27)
        have hD6 : Blk (w6.alloc (.cells #[.int .i64 d.op, .string d.name, .int .i64 d.n, .int .i64 d.ty.kind, .string d.ty.name, .slice da dn dc, .slice dd de df] 27)) w6.heap.size 27 (tmCells d (.slice da dn dc) (.slice dd de df)) := Blk.new w6 27 _
        have K6 := (K5.trans k6).alloc (.cells #[.int .i64 d.op, .string d.name, .int .i64 d.n, .int .i64 d.ty.kind, .string d.ty.name, .slice da dn dc, .slice dd de df] 27)
        have L7 := L6.alloc (.cells #[.int .i64 d.op, .string d.name, .int .i64 d.n, .int .i64 d.ty.kind, .string d.ty.name, .slice da dn dc, .slice dd de df] 27)
        have a7 := (a6.mono (ok' := fun k => w.heap.size + 3 ≤ k) (fun k _ h => by omega)).frame (Same.alloc _ (.cells #[.int .i64 d.op, .string d.name, .int .i64 d.n, .int .i64 d.ty.kind, .string d.ty.name, .slice da dn dc, .slice dd de df] 27))
        have c7 := (c6.mono (ok' := fun k => w.heap.size + 3 ≤ k) (fun k _ h => by omega)).frame (Same.alloc _ (.cells #[.int .i64 d.op, .string d.name, .int .i64 d.n, .int .i64 d.ty.kind, .string d.ty.name, .slice da dn dc, .slice dd de df] 27))
        have z6 := k6.size
        have b6 := L6.rr.lt
        have Q6 : Hid (QB s (stT (bP (advS s σ2) (T 7))) (mu s σ2 - 1) N) := Lib.hid (fun σ e => by have h1 := qb_T hI 7 Q5.out σ e; have h2 := hqb.2.2; have h3 := i2.2.2; exact ⟨h1.1, h1.2.1, by omega⟩)
        have HW7 : Hid ((w6.alloc (.cells #[.int .i64 d.op, .string d.name, .int .i64 d.n, .int .i64 d.ty.kind, .string d.ty.name, .slice da dn dc, .slice dd de df] 27)).heap.size = w6.heap.size + 1) := Lib.hid (by simp)
        have HZ4 := Lib.hid zz
        have z6w : w.heap.size + 3 ≤ w6.heap.size := by omega
        clear zz
        go_upto_region 13 with (fail)
        generalize (w6.alloc (.cells #[.int .i64 d.op, .string d.name, .int .i64 d.n, .int .i64 d.ty.kind, .string d.ty.name, .slice da dn dc, .slice dd de df] 27)) = w7 at *
        have HL7 := Lib.hid L7.val
        have h7 := L7.rr
        clear L7 L6 a6 c6 hR5 hF5 hN5 K5 hR4 hF4 hN4 K4 hR1 hF1 hN1 K1
        generalize hr7 : stT (bP (advS s σ2) (T 7)) = r7' at *
        have HR7 := Lib.hid hr7
        clear hr7
        go_cut [54] (fun v wx => v = .bool (barB r7') ∧ w7 = wx)
        case first =>
          match r7', h7 with
          | .ok σ4, h7 =>
            obtain ⟨hat7, tk7⟩ := h7.st
            have I7 := Lib.hid (is_lex tk7 kBar)
            go_wp2_with (go_at_call 38; refine (rok_any hat7 rfl).mono ?_; rintro e w' ⟨rfl, rfl⟩)
            refine (ris_any hat7 kBar I7.out).mono ?_
            rintro e w' ⟨rfl, rfl⟩
            go_wp2_with fail
            go_meet
            case rel => exact ⟨rfl, rfl⟩
          | .error r, h7 =>
            rcases h7.err with ⟨hd, x', nest', hat7⟩ | ⟨k', x', a', nest', hat7⟩
            · go_wp2_with (go_at_call 38; refine (rok_any hat7 rfl).mono ?_; rintro e w' ⟨rfl, rfl⟩)
              refine (ris_any hat7 kBar (v := false) rfl).mono ?_
              rintro e w' ⟨rfl, rfl⟩
              go_wp2_with fail
              go_meet
              case rel => exact ⟨rfl, rfl⟩
            · go_wp2_with (go_at_call 38; refine (rok_any hat7 (e_dead _)).mono ?_; rintro e w' ⟨rfl, rfl⟩)
              go_meet
              case rel => exact ⟨rfl, rfl⟩
        case rest =>
          obtain ⟨rfl, rfl⟩ := hcut
          have gN : ∀ i, w7.cell? ⟨w.heap.size + 2, i, none⟩ = [Value.int .i64 k, .string x, .int .i64 a][i]? := hN6.cell
          have gD : ∀ i, w7.cell? ⟨w6.heap.size, i, none⟩ = [Value.int .i64 d.op, .string d.name, .int .i64 d.n, .int .i64 d.ty.kind, .string d.ty.name, .slice da dn dc, .slice dd de df][i]? := hD6.cell
          have gF : ∀ i, w7.cell? ⟨w.heap.size + 1, i, none⟩ = [Value.int .i64 0, .string ⟨#[]⟩, .int .i64 0, .int .i64 0, .string ⟨#[]⟩, .slice none 0 0, .slice none 0 0][i]? := hF6.cell
          have fF : ∀ i, w7.frozen? ⟨w.heap.size + 1, i, none⟩ = false := hF6.frozen
          have lF := hF6.lt
          have lN := hN6.lt
          have lD := hD6.lt
          cases hBar : barB r7'
          · have HE2 : Hid (bP (.ok σ1) (brK T s) = bP r7' fun σ => bT (moN T s 4 (nd 16 [nmT x, d]) σ) fun t σ5 => elemsK T s t σ5) := Lib.hid (by
              rw [HE1.out, ← HR7.out, bP_stT]
              refine bT_congr rfl fun d' σ4 e => ?_
              rw [HL7.out _ _ e]
              have : isS σ4 kBar = false := by
                have h2 : r7' = .ok σ4 := by rw [← HR7.out, e]; rfl
                rw [h2] at hBar; exact hBar
              rw [if_neg (by rw [this]; simp)])
            clear HE1 HL7
            go_upto_region 19 with (fail)
            refine wp_gen (fun w8 => RR w8 b s r7' ∧ Blk w8 (w.heap.size + 1) 27 (tmCells (nd 16 [nmT x, d]) (.slice none 0 0) (.slice (some ⟨w7.heap.size, 0, none⟩) 2 2)) ∧ Blk w8 w.heap.size 27 z27 ∧ TmL (fun k => w.heap.size + 3 ≤ k) w8 [nmT x, d] (.slice (some ⟨w7.heap.size, 0, none⟩) 2 2) ∧ Kept (· = b) w w8 ∧ w.heap.size + 3 ≤ w8.heap.size) ⟨?_, ?_, ?_, ?_, ?_, ?_⟩ ?_
            · exact (h7.kept (S := (· = w.heap.size + 1)) (k7w (Kept.refl _ _) (Or.inl rfl)) (by show ¬ b = w.heap.size + 1; omega)).alloc _
            · exact (r7 hF6 rfl).alloc _
            · exact (b7w hR6 (by omega)).alloc _
            · refine TmL.two (t := nmT x) (ty := 27) (by omega) (Nat.le_refl _) (Blk.new' 27 _ (by simp)) .nil0 .nil0 ?_ ?_
              · exact (a7.frame (same7 (n := w.heap.size + 3) (R := w.heap.size + 1) (by omega))).frame (Same.alloc _ _)
              · exact (c7.frame (same7 (n := w.heap.size + 3) (R := w.heap.size + 1) (by omega))).frame (Same.alloc _ _)
            · exact (k7w K6 (Or.inr (by omega))).alloc _
            · have := HW7.out; simp; omega
            clear gN gD gF fF lF lN lD a7 c7 hR6 hF6 hN6 hD6 K6 h7
            rintro w8 ⟨h8, hF8, hR8, m8, K8, z8⟩
            go_loopg [8] 5 (fun m v wr => ∃ (l : Nat) (t' : Tm) (q' : Except ER PS) (pa : Option Addr) (pn pc : Nat) (pd : Option Addr) (pe pf : Nat), m = l + 1 ∧ l ≤ 4 ∧ v = .int .i64 l ∧ Hid (bP (.ok σ1) (brK T s) = bP q' fun σ => bT (moN T s l t' σ) fun t σ5 => elemsK T s t σ5) ∧ Hid (QB s q' (mu s σ2 - 1) N) ∧ RR wr b s q' ∧ Blk wr (w.heap.size + 1) 27 (tmCells t' (.slice pa pn pc) (.slice pd pe pf)) ∧ Blk wr w.heap.size 27 z27 ∧ TyL (fun k => w.heap.size + 3 ≤ k) wr t'.ty.kids (.slice pa pn pc) ∧ TmL (fun k => w.heap.size + 3 ≤ k) wr t'.kids (.slice pd pe pf) ∧ Kept (· = b) w wr ∧ w.heap.size + 3 ≤ wr.heap.size)
            case atStart => exact ⟨4, nd 16 [nmT x, d], r7', none, 0, 0, _, _, _, rfl, by omega, rfl, HE2, Q6, h8, hF8, hR8, .nil0, m8, K8, z8⟩
            case round =>
              clear h8 hF8 hR8 m8 K8 HE2
              obtain ⟨l, t', q', pa, pn, pc, pd, pe, pf, hgl, hl4, rfl, HE3, HQ3, hr, hF, hR, ka, kc', K, z3r⟩ := hrel
              have gF : ∀ i, wr.cell? ⟨w.heap.size + 1, i, none⟩ = [Value.int .i64 t'.op, .string t'.name, .int .i64 t'.n, .int .i64 t'.ty.kind, .string t'.ty.name, .slice pa pn pc, .slice pd pe pf][i]? := hF.cell
              have lr := hF.lt
              have br := hr.lt
              have zr := K.size
              cases l with
              | zero =>
                go_wp2_with fail
                go_meet
                case rel => exact ⟨t', q', pa, pn, pc, pd, pe, pf, HE3, Lib.hid (fun σ e => by have h1 := HQ3.out σ e; exact ⟨by omega, h1.2.1, h1.2.2⟩), hr, hF, hR, ka, kc', K⟩
              | succ l =>
                have i1 : (1 : Int) ≤ ((l + 1 : Nat) : Int) := by omega
                have fF : ∀ i, wr.frozen? ⟨w.heap.size + 1, i, none⟩ = false := hF.frozen
                go_wp2_with fail
                refine (rmore_at hT hI hr (l + 1) _ (by omega) (by omega) (by omega) (n0 := w.heap.size + 3) (by omega) z3r ka kc' HQ3.out (by omega)).mono ?_
                rintro e w9 ⟨u, v, rfl, ⟨tk9, kk9, rfl, a9, c9⟩, L9, k9⟩
                obtain ⟨ua, un, uc, rfl⟩ := a9.slice
                obtain ⟨ud, ue, uf, rfl⟩ := c9.slice
                unfold tmVal
                have hF9 := hF.kept k9 (by show ¬ w.heap.size + 1 = b; omega)
                have hR9 := hR.kept k9 (by show ¬ w.heap.size = b; omega)
                have K9 := K.trans k9
                have z9 := k9.size
                have b9 := L9.rr.lt
                have gF9 : ∀ i, w9.cell? ⟨w.heap.size + 1, i, none⟩ = [Value.int .i64 t'.op, .string t'.name, .int .i64 t'.n, .int .i64 t'.ty.kind, .string t'.ty.name, .slice pa pn pc, .slice pd pe pf][i]? := hF9.cell
                have fF9 : ∀ i, w9.frozen? ⟨w.heap.size + 1, i, none⟩ = false := hF9.frozen
                have HL9 := Lib.hid L9.val
                clear gF fF
                go_wp2_with fail
                go_roundg (l + 1)
                case measure => omega
                case rel =>
                  refine ⟨l, u, stT (bP q' fun σ => restS T s (l + 1) (s.size + 2) t' σ), ua, un, uc, ud, ue, uf, rfl, by omega, by go_num, Lib.hid ?_, Lib.hid (qb_rest hI HQ3.out), ?_, ?_, ?_, ?_, ?_, ?_, by simp; omega⟩
                  · rw [HE3.out, bP_stT, bP_assoc]
                    refine bP_congr fun σ e => ?_
                    simp only [moN, bT_assoc]
                    refine bT_congr rfl fun u' σ' e' => ?_
                    rw [HL9.out u' σ' (by rw [e]; exact e')]
                  · exact L9.rr.kept (S := (· = w.heap.size + 1)) (k7w (Kept.refl _ _) (Or.inl rfl)) (by show ¬ b = w.heap.size + 1; omega)
                  · exact r7 hF9 rfl
                  · exact b7w hR9 (by omega)
                  · exact a9.frame (same7 (n := w.heap.size + 3) (R := w.heap.size + 1) (by omega))
                  · exact c9.frame (same7 (n := w.heap.size + 3) (R := w.heap.size + 1) (by omega))
                  · exact k7w K9 (Or.inr (by omega))
          · obtain ⟨σ4, hr4⟩ : ∃ σ4, r7' = .ok σ4 := by
              match r7', hBar with
              | .ok σ, _ => exact ⟨σ, rfl⟩
              | .error r, hB => cases hB
            subst hr4
            have hi4 : isS σ4 kBar = true := hBar
            have q6 := Q6.out σ4 rfl
            have HP4 := Lib.hid (pass_is (b := b) (h7.tk rfl) hi4 (by decide +kernel) (by decide +kernel))
            have mp4 : 1 ≤ mu s σ4 := by have := isS_ne hi4; unfold mu; rw [if_neg this]; omega
            have Q8 := Lib.hid (qb_adv q6.2.1 (isS_ne hi4))
            have HE2 : Hid (bP (.ok σ1) (brK T s) = bT (bT (bP (advS s σ4) (T 1)) fun t σ => bP (shutS s σ kRcu) fun σ' => .ok (t, σ')) fun c σ7 => .ok (Tm.mk 55 x 0 ty0 [d, c], σ7)) := Lib.hid (by
              obtain ⟨d', hd⟩ := stT_ok HR7.out
              rw [HE1.out, hd, bT_pure, HL7.out _ _ hd, if_pos hi4]
              unfold barK
              simp only [bP_assoc, bT_assoc]
              rfl)
            clear HE1 HL7
            go_wp2_with fail
            refine (HP4.out _ h7).mono ?_
            rintro e w8 ⟨rfl, h8, k8⟩
            have hR8 := hR6.kept k8 (by show ¬ w.heap.size = b; omega)
            have hN8 := hN6.kept k8 (by show ¬ w.heap.size + 2 = b; omega)
            have hD8 := hD6.kept k8 (by show ¬ w6.heap.size = b; omega)
            have a8 := a7.frame (Same.of_kept k8 (fun k h e => by omega))
            have c8 := c7.frame (Same.of_kept k8 (fun k h e => by omega))
            have K8 := K6.trans k8
            have z8 := k8.size
            have b8 := h8.lt
            clear gN gD gF fF
            go_wp2_with fail
            refine (rinside_any hT hI h8 kRcu (by decide +kernel) Q8.out (by omega) (by omega)).mono ?_
            rintro e w9 ⟨u, v, rfl, ⟨tk9, kk9, rfl, a9, c9⟩, L9, k9⟩
            obtain ⟨ua, un, uc, rfl⟩ := a9.slice
            obtain ⟨ud, ue, uf, rfl⟩ := c9.slice
            unfold tmVal
            have hR9 := (hR8.kept k9 (by show ¬ w.heap.size = b; omega)).alloc (.cells #[.int .i64 u.op, .string u.name, .int .i64 u.n, .int .i64 u.ty.kind, .string u.ty.name, .slice ua un uc, .slice ud ue uf] 27)
            have hN9 := (hN8.kept k9 (by show ¬ w.heap.size + 2 = b; omega)).alloc (.cells #[.int .i64 u.op, .string u.name, .int .i64 u.n, .int .i64 u.ty.kind, .string u.ty.name, .slice ua un uc, .slice ud ue uf] 27)
            have hD9 := (hD8.kept k9 (by show ¬ w6.heap.size = b; omega)).alloc (.cells #[.int .i64 u.op, .string u.name, .int .i64 u.n, .int .i64 u.ty.kind, .string u.ty.name, .slice ua un uc, .slice ud ue uf] 27)
            have hU9 : Blk (w9.alloc (.cells #[.int .i64 u.op, .string u.name, .int .i64 u.n, .int .i64 u.ty.kind, .string u.ty.name, .slice ua un uc, .slice ud ue uf] 27)) w9.heap.size 27 (tmCells u (.slice ua un uc) (.slice ud ue uf)) := Blk.new w9 27 _
            have a9' := (a8.frame (Same.of_kept k9 (fun k h e => by omega))).frame (Same.alloc _ (.cells #[.int .i64 u.op, .string u.name, .int .i64 u.n, .int .i64 u.ty.kind, .string u.ty.name, .slice ua un uc, .slice ud ue uf] 27))
            have c9' := (c8.frame (Same.of_kept k9 (fun k h e => by omega))).frame (Same.alloc _ (.cells #[.int .i64 u.op, .string u.name, .int .i64 u.n, .int .i64 u.ty.kind, .string u.ty.name, .slice ua un uc, .slice ud ue uf] 27))
            have e9 := (a9.mono (ok' := fun k => w.heap.size + 3 ≤ k) (fun k _ h => by omega)).frame (Same.alloc _ (.cells #[.int .i64 u.op, .string u.name, .int .i64 u.n, .int .i64 u.ty.kind, .string u.ty.name, .slice ua un uc, .slice ud ue uf] 27))
            have f9 := (c9.mono (ok' := fun k => w.heap.size + 3 ≤ k) (fun k _ h => by omega)).frame (Same.alloc _ (.cells #[.int .i64 u.op, .string u.name, .int .i64 u.n, .int .i64 u.ty.kind, .string u.ty.name, .slice ua un uc, .slice ud ue uf] 27))
            have K9 := (K8.trans k9).alloc (.cells #[.int .i64 u.op, .string u.name, .int .i64 u.n, .int .i64 u.ty.kind, .string u.ty.name, .slice ua un uc, .slice ud ue uf] 27)
            have LX := ((L9.map (fun c => Tm.mk 55 x 0 ty0 [d, c])).eq HE2.out.symm).alloc (.cells #[.int .i64 u.op, .string u.name, .int .i64 u.n, .int .i64 u.ty.kind, .string u.ty.name, .slice ua un uc, .slice ud ue uf] 27)
            have z9 := k9.size
            have b9 := L9.rr.lt
            have l9 := (hR8.kept k9 (by show ¬ w.heap.size = b; omega)).lt
            have HWX : Hid ((w9.alloc (.cells #[.int .i64 u.op, .string u.name, .int .i64 u.n, .int .i64 u.ty.kind, .string u.ty.name, .slice ua un uc, .slice ud ue uf] 27)).heap.size = w9.heap.size + 1) := Lib.hid (by simp)
            go_upto_region 16 with (fail)
            generalize (w9.alloc (.cells #[.int .i64 u.op, .string u.name, .int .i64 u.n, .int .i64 u.ty.kind, .string u.ty.name, .slice ua un uc, .slice ud ue uf] 27)) = wX at *
            have gN : ∀ i, wX.cell? ⟨w.heap.size + 2, i, none⟩ = [Value.int .i64 k, .string x, .int .i64 a][i]? := hN9.cell
            have gD : ∀ i, wX.cell? ⟨w6.heap.size, i, none⟩ = [Value.int .i64 d.op, .string d.name, .int .i64 d.n, .int .i64 d.ty.kind, .string d.ty.name, .slice da dn dc, .slice dd de df][i]? := hD9.cell
            have gU : ∀ i, wX.cell? ⟨w9.heap.size, i, none⟩ = [Value.int .i64 u.op, .string u.name, .int .i64 u.n, .int .i64 u.ty.kind, .string u.ty.name, .slice ua un uc, .slice ud ue uf][i]? := hU9.cell
            have gR : ∀ i, wX.cell? ⟨w.heap.size, i, none⟩ = [Value.int .i64 0, .string ⟨#[]⟩, .int .i64 0, .int .i64 0, .string ⟨#[]⟩, .slice none 0 0, .slice none 0 0][i]? := hR9.cell
            have fR : ∀ i, wX.frozen? ⟨w.heap.size, i, none⟩ = false := hR9.frozen
            have lR := hR9.lt
            go_wp2_with fail
            refine ret_lv Tryz.results152 (t := Tm.mk 55 x 0 ty0 [d, u]) rfl rfl ((r7 hR9 rfl).alloc _) .nil0 ?_ ((LX.s7 (by omega)).alloc _) ((k7w K9 (Or.inr (Nat.le_refl _))).alloc _)
            refine TmL.two (ty := 27) (by have := HWX.out; omega) (Nat.le_refl _) (Blk.new' 27 _ (by simp)) ?_ ?_ ?_ ?_
            · exact ((a9'.frame (same7 (n := w.heap.size + 3) (R := w.heap.size) (by omega))).frame (Same.alloc _ _)).mono (fun k _ h => by omega)
            · exact ((c9'.frame (same7 (n := w.heap.size + 3) (R := w.heap.size) (by omega))).frame (Same.alloc _ _)).mono (fun k _ h => by omega)
            · exact ((e9.frame (same7 (n := w.heap.size + 3) (R := w.heap.size) (by omega))).frame (Same.alloc _ _)).mono (fun k _ h => by omega)
            · exact ((f9.frame (same7 (n := w.heap.size + 3) (R := w.heap.size) (by omega))).frame (Same.alloc _ _)).mono (fun k _ h => by omega)
    case rest =>
      obtain ⟨t', q2, pa, pn, pc, pd, pe, pf, HE2, HQ2, h2, hF2, hR2, ka, kc', K2⟩ := hcut
      clear hR1 hF1 hN1 hB1 K1 HE
      have gF : ∀ i, wc.cell? ⟨w.heap.size + 1, i, none⟩ = [Value.int .i64 t'.op, .string t'.name, .int .i64 t'.n, .int .i64 t'.ty.kind, .string t'.ty.name, .slice pa pn pc, .slice pd pe pf][i]? := hF2.cell
      have lF := hF2.lt
      have hR3 := (hR2.alloc (.cells #[.int .i64 t'.op, .string t'.name, .int .i64 t'.n, .int .i64 t'.ty.kind, .string t'.ty.name, .slice pa pn pc, .slice pd pe pf] 27)).alloc (.cells #[.int .i64 28, .string ⟨#[]⟩, .int .i64 0, .int .i64 0, .string ⟨#[]⟩, .slice none 0 0, .slice (some ⟨wc.heap.size, 0, none⟩) 1 1] 27)
      have hG3 : Blk ((wc.alloc (.cells #[.int .i64 t'.op, .string t'.name, .int .i64 t'.n, .int .i64 t'.ty.kind, .string t'.ty.name, .slice pa pn pc, .slice pd pe pf] 27)).alloc (.cells #[.int .i64 28, .string ⟨#[]⟩, .int .i64 0, .int .i64 0, .string ⟨#[]⟩, .slice none 0 0, .slice (some ⟨wc.heap.size, 0, none⟩) 1 1] 27)) wc.heap.size 27 (tmCells t' (.slice pa pn pc) (.slice pd pe pf)) := (Blk.new wc 27 _).alloc _
      have hS3 : Blk ((wc.alloc (.cells #[.int .i64 t'.op, .string t'.name, .int .i64 t'.n, .int .i64 t'.ty.kind, .string t'.ty.name, .slice pa pn pc, .slice pd pe pf] 27)).alloc (.cells #[.int .i64 28, .string ⟨#[]⟩, .int .i64 0, .int .i64 0, .string ⟨#[]⟩, .slice none 0 0, .slice (some ⟨wc.heap.size, 0, none⟩) 1 1] 27)) (wc.heap.size + 1) 27 [.int .i64 28, .string ⟨#[]⟩, .int .i64 0, .int .i64 0, .string ⟨#[]⟩, .slice none 0 0, .slice (some ⟨wc.heap.size, 0, none⟩) 1 1] := Blk.new' 27 _ (by simp)
      have h3 := (h2.alloc (.cells #[.int .i64 t'.op, .string t'.name, .int .i64 t'.n, .int .i64 t'.ty.kind, .string t'.ty.name, .slice pa pn pc, .slice pd pe pf] 27)).alloc (.cells #[.int .i64 28, .string ⟨#[]⟩, .int .i64 0, .int .i64 0, .string ⟨#[]⟩, .slice none 0 0, .slice (some ⟨wc.heap.size, 0, none⟩) 1 1] 27)
      have K3 := (K2.alloc (.cells #[.int .i64 t'.op, .string t'.name, .int .i64 t'.n, .int .i64 t'.ty.kind, .string t'.ty.name, .slice pa pn pc, .slice pd pe pf] 27)).alloc (.cells #[.int .i64 28, .string ⟨#[]⟩, .int .i64 0, .int .i64 0, .string ⟨#[]⟩, .slice none 0 0, .slice (some ⟨wc.heap.size, 0, none⟩) 1 1] 27)
      have ka3 := ((ka.mono (ok' := ok3 (w.heap.size + 3) (wc.heap.size + 1) (wc.heap.size + 1) (.slice (some ⟨wc.heap.size, 0, none⟩) 1 1)) (fun k hk h => ⟨h, by omega, by omega, fun e => by have e1 : wc.heap.size = k := Option.some.inj e; omega⟩)).frame (Same.alloc _ (.cells #[.int .i64 t'.op, .string t'.name, .int .i64 t'.n, .int .i64 t'.ty.kind, .string t'.ty.name, .slice pa pn pc, .slice pd pe pf] 27))).frame (Same.alloc _ (.cells #[.int .i64 28, .string ⟨#[]⟩, .int .i64 0, .int .i64 0, .string ⟨#[]⟩, .slice none 0 0, .slice (some ⟨wc.heap.size, 0, none⟩) 1 1] 27))
      have kc3 := ((kc'.mono (ok' := ok3 (w.heap.size + 3) (wc.heap.size + 1) (wc.heap.size + 1) (.slice (some ⟨wc.heap.size, 0, none⟩) 1 1)) (fun k hk h => ⟨h, by omega, by omega, fun e => by have e1 : wc.heap.size = k := Option.some.inj e; omega⟩)).frame (Same.alloc _ (.cells #[.int .i64 t'.op, .string t'.name, .int .i64 t'.n, .int .i64 t'.ty.kind, .string t'.ty.name, .slice pa pn pc, .slice pd pe pf] 27))).frame (Same.alloc _ (.cells #[.int .i64 28, .string ⟨#[]⟩, .int .i64 0, .int .i64 0, .string ⟨#[]⟩, .slice none 0 0, .slice (some ⟨wc.heap.size, 0, none⟩) 1 1] 27))
      have own3 := own_one (base := wc.heap.size) hG3 (Nat.le_refl _)
      have el3 : EL (ok3 (w.heap.size + 3) (wc.heap.size + 1) (wc.heap.size + 1) (.slice (some ⟨wc.heap.size, 0, none⟩) 1 1)) ((wc.alloc (.cells #[.int .i64 t'.op, .string t'.name, .int .i64 t'.n, .int .i64 t'.ty.kind, .string t'.ty.name, .slice pa pn pc, .slice pd pe pf] 27)).alloc (.cells #[.int .i64 28, .string ⟨#[]⟩, .int .i64 0, .int .i64 0, .string ⟨#[]⟩, .slice none 0 0, .slice (some ⟨wc.heap.size, 0, none⟩) 1 1] 27)) [(t', .slice pa pn pc, .slice pd pe pf)] := by
        intro e he
        rw [List.mem_singleton.1 he]
        exact ⟨ka3, kc3⟩
      have zc := K2.size
      have bc := h2.lt
      have hC2 : w.heap.size + 2 ≤ wc.heap.size := by omega
      have HEL : Hid (bP q (brK T s) = bP q2 fun σ => bT (elemsS T s (s.size + 2) [t'] σ) fun l σ1 => bP (shutS s σ1 kRcu) fun σ2 => .ok (nd 28 l, σ2)) := Lib.hid HE2.out
      clear HE2 ka kc' ka3 kc3 h2 hR2 hF2 K2
      go_upto_region 24 with (fail)
      generalize ((wc.alloc (.cells #[.int .i64 t'.op, .string t'.name, .int .i64 t'.n, .int .i64 t'.ty.kind, .string t'.ty.name, .slice pa pn pc, .slice pd pe pf] 27)).alloc (.cells #[.int .i64 28, .string ⟨#[]⟩, .int .i64 0, .int .i64 0, .string ⟨#[]⟩, .slice none 0 0, .slice (some ⟨wc.heap.size, 0, none⟩) 1 1] 27)) = w4 at *
      clear gF lF hG3
      have lr0 := hR3.lt
      generalize hcs : wc.heap.size = C at *
      clear hcs
      go_loopg [84] (s.size + 2) (fun m _ wr => ∃ (E : List E3) (q' : Except ER PS) (va : Option Addr) (vn vc : Nat), Hid (bP q (brK T s) = bP q' fun σ => bT (elemsS T s m (E.map (·.1)) σ) fun l σ1 => bP (shutS s σ1 kRcu) fun σ2 => .ok (nd 28 l, σ2)) ∧ Hid (QB s q' M N) ∧ (∀ σ, q' = .ok σ → mu s σ < m) ∧ E ≠ [] ∧ E.length + m ≤ s.size + 3 ∧ (Value.slice va vn vc).ownBlock ≠ some (C + 1) ∧ RR wr b s q' ∧ Blk wr (C + 1) 27 [.int .i64 28, .string ⟨#[]⟩, .int .i64 0, .int .i64 0, .string ⟨#[]⟩, .slice none 0 0, .slice va vn vc] ∧ Blk wr w.heap.size 27 z27 ∧ wr.ownsRow C 27 7 (.slice va vn vc) E.length (flat E) ∧ EL (ok3 (w.heap.size + 3) (C + 1) (C + 1) (.slice va vn vc)) wr E ∧ Kept (· = b) w wr)
      case atStart => exact ⟨[(t', .slice pa pn pc, .slice pd pe pf)], q2, _, _, _, HEL, HQ2, fun σ _ => by have := mu_le s σ; omega, by simp, by simp; omega, fun e => by have e1 : C = C + 1 := Option.some.inj e; omega, h3, hS3, hR3, own3, el3, K3⟩
      case round =>
       clear h3 hS3 hR3 own3 el3 K3 HEL HQ2
       obtain ⟨E, q', va, vn, vc, hq, HQ', hm, hne, hlen, hvS, hr, hS, hR, hown, hel, K⟩ := hrel
       have gS : ∀ i, wr.cell? ⟨C + 1, i, none⟩ = [Value.int .i64 28, .string ⟨#[]⟩, .int .i64 0, .int .i64 0, .string ⟨#[]⟩, .slice none 0 0, .slice va vn vc][i]? := hS.cell
       have lS := hS.lt
       have lR := hR.lt
       have br := hr.lt
       match q', hr, hq, HQ', hm with
       | .error r, hr, hq, HQ', hm =>
        have HX : Hid (bP q (brK T s) = bP (bP (.error r) fun σ => shutS s σ kRcu) fun σ2 => .ok (nd 28 (E.map (·.1)), σ2)) := Lib.hid hq.out
        have HNN : Hid (∀ σ, (Except.error r : Except ER PS) = .ok σ → 1 ≤ σ.nest) := Lib.hid (fun σ e => by cases e)
        rcases hr.err with ⟨hd, x', nest', hat'⟩ | ⟨k', x', a', nest', hat'⟩
        · go_wp2_with (go_at_call 38; refine (rok_any hat' rfl).mono ?_; rintro e w' ⟨rfl, rfl⟩)
          refine (ris_any hat' kComma (v := false) rfl).mono ?_
          rintro e w' ⟨rfl, rfl⟩
          go_wp2_with fail
          refine (rmust_shut hr kRcu (by decide +kernel) HNN.out).mono ?_
          rintro e w5 ⟨rfl, h5, k5⟩
          have hS5 := hS.kept k5 (by show ¬ C + 1 = b; omega)
          have hR5 := hR.kept k5 (by show ¬ w.heap.size = b; omega)
          have own5 := own_kept hown k5 (fun g hg e => by have := (hown.lt g hg).1; have e' : g = b := e; omega)
          have el5 := hel.frame (Same.of_kept k5 (fun k h e => by have := h.1; have e' : k = b := e; omega))
          have K5 := K.trans k5
          have LL : LE b s (bP q (brK T s)) (nd 28 (E.map (·.1))) w5 := (LE.set h5 _).eq HX.out.symm
          have gS5 : ∀ i, w5.cell? ⟨C + 1, i, none⟩ = [Value.int .i64 28, .string ⟨#[]⟩, .int .i64 0, .int .i64 0, .string ⟨#[]⟩, .slice none 0 0, .slice va vn vc][i]? := hS5.cell
          have gR5 : ∀ i, w5.cell? ⟨w.heap.size, i, none⟩ = [Value.int .i64 0, .string ⟨#[]⟩, .int .i64 0, .int .i64 0, .string ⟨#[]⟩, .slice none 0 0, .slice none 0 0][i]? := hR5.cell
          have fR5 : ∀ i, w5.frozen? ⟨w.heap.size, i, none⟩ = false := hR5.frozen
          have hml := tml_of_row (ok := fun k => w.heap.size + 1 ≤ k) hne own5 (el5.mono (fun k _ h => by have := h.1; omega)) (fun g hg => by have := (own5.lt g hg).1; omega)
          clear gS
          go_wp2_with fail
          refine ret_lv Tryz.results152 (t := nd 28 (E.map (·.1))) rfl rfl (r7 hR5 rfl) .nil0 ?_ (LL.s7 (by omega)) (k7w K5 (Or.inr (Nat.le_refl _)))
          exact (hml.frame (same7 (R := w.heap.size) (by omega))).mono (fun k _ h => by omega)
        · go_wp2_with (go_at_call 38; refine (rok_any hat' (e_dead _)).mono ?_; rintro e w' ⟨rfl, rfl⟩)
          refine (rmust_shut hr kRcu (by decide +kernel) HNN.out).mono ?_
          rintro e w5 ⟨rfl, h5, k5⟩
          have hS5 := hS.kept k5 (by show ¬ C + 1 = b; omega)
          have hR5 := hR.kept k5 (by show ¬ w.heap.size = b; omega)
          have own5 := own_kept hown k5 (fun g hg e => by have := (hown.lt g hg).1; have e' : g = b := e; omega)
          have el5 := hel.frame (Same.of_kept k5 (fun k h e => by have := h.1; have e' : k = b := e; omega))
          have K5 := K.trans k5
          have LL : LE b s (bP q (brK T s)) (nd 28 (E.map (·.1))) w5 := (LE.set h5 _).eq HX.out.symm
          have gS5 : ∀ i, w5.cell? ⟨C + 1, i, none⟩ = [Value.int .i64 28, .string ⟨#[]⟩, .int .i64 0, .int .i64 0, .string ⟨#[]⟩, .slice none 0 0, .slice va vn vc][i]? := hS5.cell
          have gR5 : ∀ i, w5.cell? ⟨w.heap.size, i, none⟩ = [Value.int .i64 0, .string ⟨#[]⟩, .int .i64 0, .int .i64 0, .string ⟨#[]⟩, .slice none 0 0, .slice none 0 0][i]? := hR5.cell
          have fR5 : ∀ i, w5.frozen? ⟨w.heap.size, i, none⟩ = false := hR5.frozen
          have hml := tml_of_row (ok := fun k => w.heap.size + 1 ≤ k) hne own5 (el5.mono (fun k _ h => by have := h.1; omega)) (fun g hg => by have := (own5.lt g hg).1; omega)
          clear gS
          go_wp2_with fail
          refine ret_lv Tryz.results152 (t := nd 28 (E.map (·.1))) rfl rfl (r7 hR5 rfl) .nil0 ?_ (LL.s7 (by omega)) (k7w K5 (Or.inr (Nat.le_refl _)))
          exact (hml.frame (same7 (R := w.heap.size) (by omega))).mono (fun k _ h => by omega)
       | .ok σ, hr, hq, HQ', hm =>
        have hm' := hm σ rfl
        have hqb := HQ'.out σ rfl
        obtain ⟨g, rfl⟩ : ∃ g, gk = g + 1 := ⟨gk - 1, by omega⟩
        obtain ⟨hat', tk'⟩ := hr.st
        have IC := Lib.hid (is_lex tk' kComma)
        cases hc : isS σ kComma
        · have HX : Hid (bP q (brK T s) = bP (bP (.ok σ) fun σ => shutS s σ kRcu) fun σ2 => .ok (nd 28 (E.map (·.1)), σ2)) := Lib.hid (by
            rw [hq.out]
            show bT (elemsS T s (g + 1) (E.map (·.1)) σ) _ = _
            unfold elemsS
            rw [hc]
            rfl)
          have HNN : Hid (∀ σ', (Except.ok σ : Except ER PS) = .ok σ' → 1 ≤ σ'.nest) := Lib.hid (fun σ' e => by cases e; have := hqb.2.2; omega)
          rw [hc] at IC
          clear hc
          go_wp2_with (go_at_call 38; refine (rok_any hat' rfl).mono ?_; rintro e w' ⟨rfl, rfl⟩)
          refine (ris_any hat' kComma IC.out).mono ?_
          rintro e w' ⟨rfl, rfl⟩
          go_wp2_with fail
          refine (rmust_shut hr kRcu (by decide +kernel) HNN.out).mono ?_
          rintro e w5 ⟨rfl, h5, k5⟩
          have hS5 := hS.kept k5 (by show ¬ C + 1 = b; omega)
          have hR5 := hR.kept k5 (by show ¬ w.heap.size = b; omega)
          have own5 := own_kept hown k5 (fun g hg e => by have := (hown.lt g hg).1; have e' : g = b := e; omega)
          have el5 := hel.frame (Same.of_kept k5 (fun k h e => by have := h.1; have e' : k = b := e; omega))
          have K5 := K.trans k5
          have LL : LE b s (bP q (brK T s)) (nd 28 (E.map (·.1))) w5 := (LE.set h5 _).eq HX.out.symm
          have gS5 : ∀ i, w5.cell? ⟨C + 1, i, none⟩ = [Value.int .i64 28, .string ⟨#[]⟩, .int .i64 0, .int .i64 0, .string ⟨#[]⟩, .slice none 0 0, .slice va vn vc][i]? := hS5.cell
          have gR5 : ∀ i, w5.cell? ⟨w.heap.size, i, none⟩ = [Value.int .i64 0, .string ⟨#[]⟩, .int .i64 0, .int .i64 0, .string ⟨#[]⟩, .slice none 0 0, .slice none 0 0][i]? := hR5.cell
          have fR5 : ∀ i, w5.frozen? ⟨w.heap.size, i, none⟩ = false := hR5.frozen
          have hml := tml_of_row (ok := fun k => w.heap.size + 1 ≤ k) hne own5 (el5.mono (fun k _ h => by have := h.1; omega)) (fun g hg => by have := (own5.lt g hg).1; omega)
          clear gS
          go_wp2_with fail
          refine ret_lv Tryz.results152 (t := nd 28 (E.map (·.1))) rfl rfl (r7 hR5 rfl) .nil0 ?_ (LL.s7 (by omega)) (k7w K5 (Or.inr (Nat.le_refl _)))
          exact (hml.frame (same7 (R := w.heap.size) (by omega))).mono (fun k _ h => by omega)
        · have HP' := Lib.hid (pass_is (b := b) tk' hc (by decide +kernel) (by decide +kernel))
          have hk0 := isS_ne hc
          have Q1 := Lib.hid (qb_adv hqb.2.1 hk0)
          have mp' : 1 ≤ mu s σ := by unfold mu; rw [if_neg hk0]; omega
          have HEC := Lib.hid (elems_eq T s g (E.map (·.1)) σ hc)
          rw [hc] at IC
          clear hc
          go_wp2_with (go_at_call 38; refine (rok_any hat' rfl).mono ?_; rintro e w' ⟨rfl, rfl⟩)
          refine (ris_any hat' kComma IC.out).mono ?_
          rintro e w' ⟨rfl, rfl⟩
          go_wp2_with fail
          refine (HP'.out _ hr).mono ?_
          rintro e w5 ⟨rfl, h5, k5⟩
          have hS5 := hS.kept k5 (by show ¬ C + 1 = b; omega)
          have hR5 := hR.kept k5 (by show ¬ w.heap.size = b; omega)
          have own5 := own_kept hown k5 (fun g hg e => by have := (hown.lt g hg).1; have e' : g = b := e; omega)
          have el5 := hel.frame (Same.of_kept k5 (fun k h e => by have := h.1; have e' : k = b := e; omega))
          have K5 := K.trans k5
          have z5 := k5.size
          have b5 := h5.lt
          have l5 := hS5.lt
          have lR5 := hR5.lt
          clear hS hR hown hel K gS k5
          go_upto_region 26 with (fail)
          have hcall := Lib.hid (hT.at 1 1 rfl (by decide) (by decide) h5.drew Q1.out (by omega))
          have gS5 : ∀ i, w5.cell? ⟨C + 1, i, none⟩ = [Value.int .i64 28, .string ⟨#[]⟩, .int .i64 0, .int .i64 0, .string ⟨#[]⟩, .slice none 0 0, .slice va vn vc][i]? := hS5.cell
          have fS5 : ∀ i, w5.frozen? ⟨C + 1, i, none⟩ = false := hS5.frozen
          obtain ⟨i27, hi27, hz27, hs27, hb27⟩ : ∃ i, Tryz.prog.info? 27 = some i ∧ i.zero = some (.agg #[.int .i64 0, .string ⟨#[]⟩, .int .i64 0, .int .i64 0, .string ⟨#[]⟩, .slice none 0 0, .slice none 0 0]) ∧ i.size = 7 ∧ i.bytes = 104 := by
            have := info27
            cases hh : Tryz.prog.info? 27 with
            | none => rw [hh] at this; cases this
            | some i => rw [hh] at this; simp only [Option.map_some, Option.some.injEq, Prod.mk.injEq] at this; exact ⟨i, rfl, this.1, this.2.1, this.2.2⟩
          have HI27 := Lib.hid hi27
          have HZ27 := Lib.hid hz27
          have HS27 := Lib.hid hs27
          have HB27 := Lib.hid hb27
          have hmx : Hid (E.length + 1 ≤ maxLen) := Lib.hid (by unfold maxLen; omega)
          have hby : Hid ((E.length + 1) * 104 ≤ 140737488355328) := Lib.hid (by omega)
          clear hi27 hz27 hs27 hb27
          go_region_law (first | (refine step_append_lies _ (by rfl) _ _ _ (by rfl) C 27 i27 _ 7 104 Tryz.underlying25 HI27.out HZ27.out HS27.out HB27.out rfl (by decide) (.slice va vn vc) E.length (flat E) (by rfl) (own6.alloc _) ⟨w6.heap.size, 0, none⟩ 1 1 (tmCells u (.slice ua un uc) (.slice ud ue uf)) (by rfl) rfl news_one cells_one (by omega) hmx.out hby.out (by simp; omega) (w6.heap.size + 1) (by simp) ?_; intro gg cap w8 own8 hgrow hatg hltg; have hS8 := (hS6.alloc (.cells #[.int .i64 u.op, .string u.name, .int .i64 u.n, .int .i64 u.ty.kind, .string u.ty.name, .slice ua un uc, .slice ud ue uf] 27)).kept (kept_grown hgrow) (fun e => hvS e); have q8 : w8.cell? ⟨C + 1, 6, none⟩ = some (.slice va vn vc) := hS8.cell 6; have f8 : w8.frozen? ⟨C + 1, 6, none⟩ = false := hS8.frozen 6) | (go_simp; go_at_call 36; refine hcall.out.mono ?_; rintro e w6 ⟨u, v, rfl, ⟨tk6, kk6, rfl, a6, c6⟩, L6, k6'⟩; obtain ⟨ua, un, uc, rfl⟩ := a6.slice; obtain ⟨ud, ue, uf, rfl⟩ := c6.slice; unfold tmVal; have k6 : Kept (· = b) w5 w6 := ((Kept.refl _ _).drew).trans k6'; have hS6 := hS5.kept k6 (by show ¬ C + 1 = b; omega); have own6 := own_kept own5 k6 (fun g hg e => by have := (own5.lt g hg).1; have e' : g = b := e; omega); have gS6 : ∀ i, w6.cell? ⟨C + 1, i, none⟩ = [Value.int .i64 28, .string ⟨#[]⟩, .int .i64 0, .int .i64 0, .string ⟨#[]⟩, .slice none 0 0, .slice va vn vc][i]? := hS6.cell; have fS6 : ∀ i, w6.frozen? ⟨C + 1, i, none⟩ = false := hS6.frozen; have l6 := hS6.lt; have hC6 : C ≤ w6.heap.size := by omega))
          all_goals
            have e6 : w5.drew.heap.size = w5.heap.size := rfl
            have L7 := L6.alloc (.cells #[.int .i64 u.op, .string u.name, .int .i64 u.n, .int .i64 u.ty.kind, .string u.ty.name, .slice ua un uc, .slice ud ue uf] 27)
            have kA : Kept (· = b) w5 (w6.alloc (.cells #[.int .i64 u.op, .string u.name, .int .i64 u.n, .int .i64 u.ty.kind, .string u.ty.name, .slice ua un uc, .slice ud ue uf] 27)) := k6.alloc _
            have zA : (w6.alloc (.cells #[.int .i64 u.op, .string u.name, .int .i64 u.n, .int .i64 u.ty.kind, .string u.ty.name, .slice ua un uc, .slice ud ue uf] 27)).heap.size = w6.heap.size + 1 := by simp
            have z6 := k6.size
            have hsl := own6.lt
            have hgb : ∀ x, (Value.slice va vn vc).ownBlock = some x → C ≤ x ∧ x < w6.heap.size := fun x e => own6.lt x e
            have kG := kept_grown hgrow
            have hgC : gg ≠ C + 1 := by
              intro e
              rcases hatg with hatg | hatg
              · exact hvS (by rw [hatg, e])
              · omega
            have kS : Kept (· = C + 1) w8 (w8.setCell ⟨C + 1, 6, none⟩ (.slice (some ⟨gg, 0, none⟩) (E.length + 1) cap)) := (Kept.refl (fun x => x = C + 1) _).setCell (p := ⟨C + 1, 6, none⟩) (Or.inl rfl) _
            have L8 : LE b s (bP (advS s σ) (T 1)) u w8 := L7.kept kG (fun e => by have := (hgb b e).1; omega)
            have L9 := L8.kept kS (by show ¬ b = C + 1; omega)
            have hS9 : Blk (w8.setCell ⟨C + 1, 6, none⟩ (.slice (some ⟨gg, 0, none⟩) (E.length + 1) cap)) (C + 1) 27 [.int .i64 28, .string ⟨#[]⟩, .int .i64 0, .int .i64 0, .string ⟨#[]⟩, .slice none 0 0, .slice (some ⟨gg, 0, none⟩) (E.length + 1) cap] := hS8.set 6 _
            have hR8 := ((hR5.kept kA (by show ¬ w.heap.size = b; omega)).kept kG (fun e => by have := (hgb _ e).1; omega)).kept kS (by show ¬ w.heap.size = C + 1; omega)
            have own9 := own_kept own8 kS (fun g hg e => by have e' : some gg = some g := hg; have e2 := Option.some.inj e'; have e3 : g = C + 1 := e; omega)
            have eu : EL (ok3 (w.heap.size + 3) (C + 1) (C + 1) (.slice va vn vc)) w6 [((u, .slice ua un uc, .slice ud ue uf) : E3)] := by
              intro e he
              rw [List.mem_singleton.1 he]
              exact ⟨a6.mono (fun k _ h => ⟨by omega, by omega, by omega, fun e => by have := (own5.lt k e).2; omega⟩), c6.mono (fun k _ h => ⟨by omega, by omega, by omega, fun e => by have := (own5.lt k e).2; omega⟩)⟩
            have el6 : EL (ok3 (w.heap.size + 3) (C + 1) (C + 1) (.slice va vn vc)) w6 (E ++ [((u, .slice ua un uc, .slice ud ue uf) : E3)]) := by
              have h1 := el5.frame (Same.of_kept k6 (fun k h e => by have := h.1; have e' : k = b := e; omega))
              intro e he
              rcases List.mem_append.1 he with he | he
              · exact h1 e he
              · exact eu e he
            have el7 := el6.frame (Same.alloc _ (.cells #[.int .i64 u.op, .string u.name, .int .i64 u.n, .int .i64 u.ty.kind, .string u.ty.name, .slice ua un uc, .slice ud ue uf] 27))
            have el8 := el7.mono (ok' := fun k => ok3 (w.heap.size + 3) (C + 1) (C + 1) (.slice va vn vc) k ∧ ok3 (w.heap.size + 3) (C + 1) (C + 1) (.slice (some ⟨gg, 0, none⟩) (E.length + 1) cap) k) (fun k hk h => ⟨h, h.1, h.2.1, h.2.2.1, fun e => by
              have e1 : gg = k := Option.some.inj e
              rcases hatg with hatg | hatg
              · exact h.2.2.2 (by rw [hatg, e1])
              · have hk' := hk; rw [zA] at hk'; omega⟩)
            have el9 := (el8.frame (Same.of_kept kG (fun k h e => h.1.2.2.2 e))).frame (Same.of_kept kS (fun k h e => h.1.2.1 e))
            have K9 : Kept (· = b) w (w8.setCell ⟨C + 1, 6, none⟩ (.slice (some ⟨gg, 0, none⟩) (E.length + 1) cap)) := ((K5.trans kA).via kG (fun x hx e => by have := (hgb x e).1; omega)).via kS (fun x hx e => by have e' : x = C + 1 := e; omega)
            have QX := Lib.hid (qb_T hI 1 Q1.out)
            have HV9 := Lib.hid L9.val
            have rr9 := L9.rr
            have hlen9 : (E ++ [((u, Value.slice ua un uc, Value.slice ud ue uf) : E3)]).length + g ≤ s.size + 3 := by simp; omega
            have own10 : (w8.setCell ⟨C + 1, 6, none⟩ (.slice (some ⟨gg, 0, none⟩) (E.length + 1) cap)).ownsRow C 27 7 (.slice (some ⟨gg, 0, none⟩) (E.length + 1) cap) (E ++ [((u, Value.slice ua un uc, Value.slice ud ue uf) : E3)]).length (flat (E ++ [((u, Value.slice ua un uc, Value.slice ud ue uf) : E3)])) := by
              rw [flat_snoc, List.length_append]; exact own9
            have HX9 : Hid (bP q (brK T s) = bP (stT (bP (advS s σ) (T 1))) fun σ => bT (elemsS T s g ((E ++ [((u, Value.slice ua un uc, Value.slice ud ue uf) : E3)]).map (·.1)) σ) fun l σ1 => bP (shutS s σ1 kRcu) fun σ2 => .ok (nd 28 l, σ2)) := Lib.hid (by
              rw [hq.out]
              show bT (elemsS T s (g + 1) (E.map (·.1)) σ) _ = _
              rw [HEC.out, bP_stT, bP_assoc, bP_assoc]
              refine bP_congr fun σ1 e1 => ?_
              rw [bT_assoc]
              refine bT_congr rfl fun u' σ' e => ?_
              have hu : u' = u := HV9.out u' σ' (by rw [e1]; exact e)
              rw [hu, List.map_append]
              rfl)
            clear kA kG kS L6 L7 L8 L9 hS8 hS6 own6 own8 own9 el5 el6 el7 el8 eu hgrow a6 c6 k6 k6' gS6 fS6 gS5 fS5 q8 f8 hR5 hS5 own5 hcall h5
            go_wp2_with fail
            go_roundg g
            case measure => omega
            case rel => exact ⟨E ++ [(u, .slice ua un uc, .slice ud ue uf)], stT (bP (advS s σ) (T 1)), some ⟨gg, 0, none⟩, E.length + 1, cap, HX9, Lib.hid (fun σ' e => by have h1 := QX.out σ' e; exact ⟨by omega, h1.2.1, by omega⟩), fun σ' e => by have h1 := QX.out σ' e; omega, by simp, hlen9, fun e => hgC (Option.some.inj e), rr9, hS9, hR8, own10, el9.mono (fun k _ h => h.2), K9⟩
theorem rbraces_any {b f : Nat} {s : ByteArray} {T : TF} (hTf : T = termS f s) (hT : RTC b s f T) (hI : TInv s T) : RBC b s f T := by
  intro q w M N hs h hq hN hf
  obtain ⟨k, x, a, nest, at_, e, hv⟩ := h.view
  cases hR : isR k x kRcu
  · exact rbr_rest hTf hT hI hs h hq hN hf hv hR
  · exact rbr_end hs h hq hN hv hR
set_option maxRecDepth 10000 in
set_option maxHeartbeats 8000000 in
theorem rterm_14 {b f : Nat} {s : ByteArray} {T : TF} {w : World} {σ : PS} (hA : RAC b s f T) (hT : RTC b s f T) (hI : TInv s T) (h : RR w b s (.ok σ)) {M N : Nat} (hq : QB s (.ok σ) M N) (hf : 14 * M ≤ f) {m : Int} (hm : m = 14) :
    Calls Tryz.prog 36 #[.pointer (some ⟨b, 0, none⟩), .int .i64 m] w (LV b s (VTm w.heap.size) (bT (bP (.ok σ) (atomS T s)) fun t σ => afterS T s (s.size + 2) t σ) w) := by
  subst hm
  have hs := h.src
  have hlt := h.lt
  have h0 := h.alloc (.cells #[.int .i64 0, .string ⟨#[]⟩, .int .i64 0, .int .i64 0, .string ⟨#[]⟩, .slice none 0 0, .slice none 0 0] 27)
  have hR0 : Blk (w.alloc (.cells #[.int .i64 0, .string ⟨#[]⟩, .int .i64 0, .int .i64 0, .string ⟨#[]⟩, .slice none 0 0, .slice none 0 0] 27)) w.heap.size 27 z27 := Blk.new w 27 z27
  have k0 : Kept (fun _ => False) w (w.alloc (.cells #[.int .i64 0, .string ⟨#[]⟩, .int .i64 0, .int .i64 0, .string ⟨#[]⟩, .slice none 0 0, .slice none 0 0] 27)) := (Kept.refl _ _).alloc _
  have K0 : Kept (· = b) w (w.alloc (.cells #[.int .i64 0, .string ⟨#[]⟩, .int .i64 0, .int .i64 0, .string ⟨#[]⟩, .slice none 0 0, .slice none 0 0] 27)) := (Kept.refl _ _).alloc _
  have HZ : Hid ((w.alloc (.cells #[.int .i64 0, .string ⟨#[]⟩, .int .i64 0, .int .i64 0, .string ⟨#[]⟩, .slice none 0 0, .slice none 0 0] 27)).heap.size = w.heap.size + 1) := Lib.hid (by simp)
  go_enter Tryz.func36, Tryz.ntmps36
  go_wp2_with fail
  generalize (w.alloc (.cells #[.int .i64 0, .string ⟨#[]⟩, .int .i64 0, .int .i64 0, .string ⟨#[]⟩, .slice none 0 0, .slice none 0 0] 27)) = w1 at *
  have gR : ∀ i, w1.cell? ⟨w.heap.size, i, none⟩ = [Value.int .i64 0, .string ⟨#[]⟩, .int .i64 0, .int .i64 0, .string ⟨#[]⟩, .slice none 0 0, .slice none 0 0][i]? := hR0.cell
  have fR : ∀ i, w1.frozen? ⟨w.heap.size, i, none⟩ = false := hR0.frozen
  obtain ⟨hat, tk⟩ := h0.st
  refine (rok_any hat rfl).mono ?_
  rintro e w' ⟨rfl, rfl⟩
  go_wp2_with fail
  refine (rpost_any hA hT hI h0 hq hf).mono ?_
  rintro e w3 ⟨u, v, rfl, ⟨tk3, kk3, rfl, a3, c3⟩, L3, k3⟩
  obtain ⟨ua, un, uc, rfl⟩ := a3.slice
  obtain ⟨ud, ue, uf, rfl⟩ := c3.slice
  unfold tmVal
  have zz := HZ.out
  have HY := Lib.hid zz
  have hR4 := hR0.kept k3 (by show ¬ w.heap.size = b; omega)
  clear zz gR fR
  have gR : ∀ i, w3.cell? ⟨w.heap.size, i, none⟩ = [Value.int .i64 0, .string ⟨#[]⟩, .int .i64 0, .int .i64 0, .string ⟨#[]⟩, .slice none 0 0, .slice none 0 0][i]? := hR4.cell
  have fR : ∀ i, w3.frozen? ⟨w.heap.size, i, none⟩ = false := hR4.frozen
  go_wp2_with fail
  refine ret_lv Tryz.results36 (t := u) rfl rfl (r7 hR4 rfl) ?_ ?_ (L3.s7 (by omega)) (k7w (K0.trans k3) (Or.inr (Nat.le_refl _)))
  · exact (a3.frame (same7 (n := w1.heap.size) (R := w.heap.size) (by have := HY.out; omega))).mono (fun k _ h => by have := HY.out; omega)
  · exact (c3.frame (same7 (n := w1.heap.size) (R := w.heap.size) (by have := HY.out; omega))).mono (fun k _ h => by have := HY.out; omega)
set_option maxRecDepth 10000 in
set_option maxHeartbeats 8000000 in
theorem rterm_not {b f : Nat} {s : ByteArray} {T : TF} {w : World} {σ : PS} (hT : RTC b s f T) (hI : TInv s T) (h : RR w b s (.ok σ)) (hp : σ.p ≤ s.size) (hf : 14 * mu s σ ≤ f + 1) (hi : isS σ kNot = true) :
    Calls Tryz.prog 36 #[.pointer (some ⟨b, 0, none⟩), .int .i64 5] w (LV b s (VTm w.heap.size) (bP (advS s σ) fun σ1 => bT (T 5 σ1) fun t σ2 => .ok (nd 3 [t], σ2)) w) := by
  have hk0 := isS_ne hi
  have Q1 := Lib.hid (qb_adv (s := s) hp hk0)
  have mp : 1 ≤ mu s σ := by unfold mu; rw [if_neg hk0]; omega
  have HP := Lib.hid (pass_is (b := b) (RR.tk h rfl) hi (by decide +kernel) (by decide +kernel))
  have IN : Hid (isR (lexW s σ.ta).1 (lexW s σ.ta).2 kNot = true) := Lib.hid (by rw [is_lex (RR.tk h rfl)]; exact hi)
  clear hi
  have hs := h.src
  have hlt := h.lt
  have h0 := h.alloc (.cells #[.int .i64 0, .string ⟨#[]⟩, .int .i64 0, .int .i64 0, .string ⟨#[]⟩, .slice none 0 0, .slice none 0 0] 27)
  have hR0 : Blk (w.alloc (.cells #[.int .i64 0, .string ⟨#[]⟩, .int .i64 0, .int .i64 0, .string ⟨#[]⟩, .slice none 0 0, .slice none 0 0] 27)) w.heap.size 27 z27 := Blk.new w 27 z27
  have k0 : Kept (fun _ => False) w (w.alloc (.cells #[.int .i64 0, .string ⟨#[]⟩, .int .i64 0, .int .i64 0, .string ⟨#[]⟩, .slice none 0 0, .slice none 0 0] 27)) := (Kept.refl _ _).alloc _
  have K0 : Kept (· = b) w (w.alloc (.cells #[.int .i64 0, .string ⟨#[]⟩, .int .i64 0, .int .i64 0, .string ⟨#[]⟩, .slice none 0 0, .slice none 0 0] 27)) := (Kept.refl _ _).alloc _
  have HZ : Hid ((w.alloc (.cells #[.int .i64 0, .string ⟨#[]⟩, .int .i64 0, .int .i64 0, .string ⟨#[]⟩, .slice none 0 0, .slice none 0 0] 27)).heap.size = w.heap.size + 1) := Lib.hid (by simp)
  go_enter Tryz.func36, Tryz.ntmps36
  go_wp2_with fail
  generalize (w.alloc (.cells #[.int .i64 0, .string ⟨#[]⟩, .int .i64 0, .int .i64 0, .string ⟨#[]⟩, .slice none 0 0, .slice none 0 0] 27)) = w1 at *
  have gR : ∀ i, w1.cell? ⟨w.heap.size, i, none⟩ = [Value.int .i64 0, .string ⟨#[]⟩, .int .i64 0, .int .i64 0, .string ⟨#[]⟩, .slice none 0 0, .slice none 0 0][i]? := hR0.cell
  have fR : ∀ i, w1.frozen? ⟨w.heap.size, i, none⟩ = false := hR0.frozen
  obtain ⟨hat, tk⟩ := h0.st
  refine (rok_any hat rfl).mono ?_
  rintro e w' ⟨rfl, rfl⟩
  go_wp2_with fail
  refine (ris_any hat kNot IN.out).mono ?_
  rintro e w' ⟨rfl, rfl⟩
  go_wp2_with fail
  refine (HP.out _ h0).mono ?_
  rintro e w2 ⟨rfl, h2, k2⟩
  have hR2 := hR0.kept k2 (by show ¬ w.heap.size = b; omega)
  have K2 := K0.trans k2
  have z2 := k2.size
  clear gR fR
  go_wp2_with fail
  refine (hT.at 5 5 rfl (by decide) (by decide) h2 Q1.out (by omega)).mono ?_
  rintro e w3 ⟨u, v, rfl, ⟨tk3, kk3, rfl, a3, c3⟩, L3, k3⟩
  obtain ⟨ua, un, uc, rfl⟩ := a3.slice
  obtain ⟨ud, ue, uf, rfl⟩ := c3.slice
  unfold tmVal
  have hR3 := hR2.kept k3 (by show ¬ w.heap.size = b; omega)
  have K3 := K2.trans k3
  have z3 := k3.size
  have b3 := L3.rr.lt
  have l3 := hR3.lt
  have LL : LE b s (bP (advS s σ) fun σ1 => bT (T 5 σ1) fun t σ2 => .ok (nd 3 [t], σ2)) (nd 3 [u]) w3 := (L3.map (fun t => nd 3 [t])).eq (by rw [bP_assoc])
  have zz := HZ.out
  have HY := Lib.hid zz
  clear zz
  have gR3 : ∀ i, w3.cell? ⟨w.heap.size, i, none⟩ = [Value.int .i64 0, .string ⟨#[]⟩, .int .i64 0, .int .i64 0, .string ⟨#[]⟩, .slice none 0 0, .slice none 0 0][i]? := hR3.cell
  have fR3 : ∀ i, w3.frozen? ⟨w.heap.size, i, none⟩ = false := hR3.frozen
  go_wp2_with fail
  refine ret_lv Tryz.results36 (t := nd 3 [u]) rfl rfl ((r7 hR3 rfl).alloc _) .nil0 ?_ ((LL.s7 (by omega)).alloc _) ((k7w K3 (Or.inr (Nat.le_refl _))).alloc _)
  refine TmL.one (ty := 27) (by have := HY.out; omega) (Nat.le_refl _) (Blk.new' 27 _ (by simp)) ?_ ?_
  · exact (((a3.mono (ok' := fun k => w.heap.size + 1 ≤ k) (fun k _ h => by have := HY.out; omega)).frame (same7 (n := w.heap.size + 1) (R := w.heap.size) (by omega))).frame (Same.alloc _ _)).mono (fun k _ h => by omega)
  · exact (((c3.mono (ok' := fun k => w.heap.size + 1 ≤ k) (fun k _ h => by have := HY.out; omega)).frame (same7 (n := w.heap.size + 1) (R := w.heap.size) (by omega))).frame (Same.alloc _ _)).mono (fun k _ h => by omega)
set_option maxRecDepth 10000 in
set_option maxHeartbeats 8000000 in
theorem rterm_neg {b f : Nat} {s : ByteArray} {T : TF} {w : World} {σ : PS} (hT : RTC b s f T) (hI : TInv s T) (h : RR w b s (.ok σ)) (hp : σ.p ≤ s.size) (hf : 14 * mu s σ ≤ f + 1) (hi : isS σ kMinus = true) :
    Calls Tryz.prog 36 #[.pointer (some ⟨b, 0, none⟩), .int .i64 13] w (LV b s (VTm w.heap.size) (bP (advS s σ) fun σ1 => bT (T 13 σ1) fun t σ2 => .ok (nd 21 [t], σ2)) w) := by
  have hk0 := isS_ne hi
  have Q1 := Lib.hid (qb_adv (s := s) hp hk0)
  have mp : 1 ≤ mu s σ := by unfold mu; rw [if_neg hk0]; omega
  have HP := Lib.hid (pass_is (b := b) (RR.tk h rfl) hi (by decide +kernel) (by decide +kernel))
  have IN : Hid (isR (lexW s σ.ta).1 (lexW s σ.ta).2 kMinus = true) := Lib.hid (by rw [is_lex (RR.tk h rfl)]; exact hi)
  clear hi
  have hs := h.src
  have hlt := h.lt
  have h0 := h.alloc (.cells #[.int .i64 0, .string ⟨#[]⟩, .int .i64 0, .int .i64 0, .string ⟨#[]⟩, .slice none 0 0, .slice none 0 0] 27)
  have hR0 : Blk (w.alloc (.cells #[.int .i64 0, .string ⟨#[]⟩, .int .i64 0, .int .i64 0, .string ⟨#[]⟩, .slice none 0 0, .slice none 0 0] 27)) w.heap.size 27 z27 := Blk.new w 27 z27
  have k0 : Kept (fun _ => False) w (w.alloc (.cells #[.int .i64 0, .string ⟨#[]⟩, .int .i64 0, .int .i64 0, .string ⟨#[]⟩, .slice none 0 0, .slice none 0 0] 27)) := (Kept.refl _ _).alloc _
  have K0 : Kept (· = b) w (w.alloc (.cells #[.int .i64 0, .string ⟨#[]⟩, .int .i64 0, .int .i64 0, .string ⟨#[]⟩, .slice none 0 0, .slice none 0 0] 27)) := (Kept.refl _ _).alloc _
  have HZ : Hid ((w.alloc (.cells #[.int .i64 0, .string ⟨#[]⟩, .int .i64 0, .int .i64 0, .string ⟨#[]⟩, .slice none 0 0, .slice none 0 0] 27)).heap.size = w.heap.size + 1) := Lib.hid (by simp)
  go_enter Tryz.func36, Tryz.ntmps36
  go_wp2_with fail
  generalize (w.alloc (.cells #[.int .i64 0, .string ⟨#[]⟩, .int .i64 0, .int .i64 0, .string ⟨#[]⟩, .slice none 0 0, .slice none 0 0] 27)) = w1 at *
  have gR : ∀ i, w1.cell? ⟨w.heap.size, i, none⟩ = [Value.int .i64 0, .string ⟨#[]⟩, .int .i64 0, .int .i64 0, .string ⟨#[]⟩, .slice none 0 0, .slice none 0 0][i]? := hR0.cell
  have fR : ∀ i, w1.frozen? ⟨w.heap.size, i, none⟩ = false := hR0.frozen
  obtain ⟨hat, tk⟩ := h0.st
  refine (rok_any hat rfl).mono ?_
  rintro e w' ⟨rfl, rfl⟩
  go_wp2_with fail
  refine (ris_any hat kMinus IN.out).mono ?_
  rintro e w' ⟨rfl, rfl⟩
  go_wp2_with fail
  refine (HP.out _ h0).mono ?_
  rintro e w2 ⟨rfl, h2, k2⟩
  have hR2 := hR0.kept k2 (by show ¬ w.heap.size = b; omega)
  have K2 := K0.trans k2
  have z2 := k2.size
  clear gR fR
  go_wp2_with fail
  refine (hT.at 13 13 rfl (by decide) (by decide) h2 Q1.out (by omega)).mono ?_
  rintro e w3 ⟨u, v, rfl, ⟨tk3, kk3, rfl, a3, c3⟩, L3, k3⟩
  obtain ⟨ua, un, uc, rfl⟩ := a3.slice
  obtain ⟨ud, ue, uf, rfl⟩ := c3.slice
  unfold tmVal
  have hR3 := hR2.kept k3 (by show ¬ w.heap.size = b; omega)
  have K3 := K2.trans k3
  have z3 := k3.size
  have b3 := L3.rr.lt
  have l3 := hR3.lt
  have LL : LE b s (bP (advS s σ) fun σ1 => bT (T 13 σ1) fun t σ2 => .ok (nd 21 [t], σ2)) (nd 21 [u]) w3 := (L3.map (fun t => nd 21 [t])).eq (by rw [bP_assoc])
  have zz := HZ.out
  have HY := Lib.hid zz
  clear zz
  have gR3 : ∀ i, w3.cell? ⟨w.heap.size, i, none⟩ = [Value.int .i64 0, .string ⟨#[]⟩, .int .i64 0, .int .i64 0, .string ⟨#[]⟩, .slice none 0 0, .slice none 0 0][i]? := hR3.cell
  have fR3 : ∀ i, w3.frozen? ⟨w.heap.size, i, none⟩ = false := hR3.frozen
  go_wp2_with fail
  refine ret_lv Tryz.results36 (t := nd 21 [u]) rfl rfl ((r7 hR3 rfl).alloc _) .nil0 ?_ ((LL.s7 (by omega)).alloc _) ((k7w K3 (Or.inr (Nat.le_refl _))).alloc _)
  refine TmL.one (ty := 27) (by have := HY.out; omega) (Nat.le_refl _) (Blk.new' 27 _ (by simp)) ?_ ?_
  · exact (((a3.mono (ok' := fun k => w.heap.size + 1 ≤ k) (fun k _ h => by have := HY.out; omega)).frame (same7 (n := w.heap.size + 1) (R := w.heap.size) (by omega))).frame (Same.alloc _ _)).mono (fun k _ h => by omega)
  · exact (((c3.mono (ok' := fun k => w.heap.size + 1 ≤ k) (fun k _ h => by have := HY.out; omega)).frame (same7 (n := w.heap.size + 1) (R := w.heap.size) (by omega))).frame (Same.alloc _ _)).mono (fun k _ h => by omega)
set_option maxRecDepth 10000 in
set_option maxHeartbeats 8000000 in
theorem rterm_go {b f : Nat} {s : ByteArray} {T : TF} {w : World} {σ : PS} (hT : RTC b s f T) (hI : TInv s T) (h : RR w b s (.ok σ)) (n : Nat) (h1 : 1 ≤ n) (h13 : n ≤ 13) (h5 : n = 5 → isS σ kNot = false) (hm : n = 13 → isS σ kMinus = false) {r1 : RT}
    (hX : ∀ W, Kept (fun _ => False) w W → Calls Tryz.prog 36 #[.pointer (some ⟨b, 0, none⟩), .int .i64 ((n : Int) + 1)] W (LV b s (VTm W.heap.size) r1 W)) {M N : Nat} (hq : QB s (stT r1) M N) (hf : 14 * M ≤ f) :
    Calls Tryz.prog 36 #[.pointer (some ⟨b, 0, none⟩), .int .i64 n] w (LV b s (VTm w.heap.size) (bT r1 fun t σ' => restS T s n (s.size + 2) t σ') w) := by
  have HX := Lib.hid hX
  have HQ := Lib.hid hq
  have e14 : ((n : Int) == 14) = false := by rw [beq_eq_false_iff_ne]; omega
  clear hX hq
  have hs := h.src
  have hlt := h.lt
  have h0 := h.alloc (.cells #[.int .i64 0, .string ⟨#[]⟩, .int .i64 0, .int .i64 0, .string ⟨#[]⟩, .slice none 0 0, .slice none 0 0] 27)
  have hR0 : Blk (w.alloc (.cells #[.int .i64 0, .string ⟨#[]⟩, .int .i64 0, .int .i64 0, .string ⟨#[]⟩, .slice none 0 0, .slice none 0 0] 27)) w.heap.size 27 z27 := Blk.new w 27 z27
  have k0 : Kept (fun _ => False) w (w.alloc (.cells #[.int .i64 0, .string ⟨#[]⟩, .int .i64 0, .int .i64 0, .string ⟨#[]⟩, .slice none 0 0, .slice none 0 0] 27)) := (Kept.refl _ _).alloc _
  have K0 : Kept (· = b) w (w.alloc (.cells #[.int .i64 0, .string ⟨#[]⟩, .int .i64 0, .int .i64 0, .string ⟨#[]⟩, .slice none 0 0, .slice none 0 0] 27)) := (Kept.refl _ _).alloc _
  have HZ : Hid ((w.alloc (.cells #[.int .i64 0, .string ⟨#[]⟩, .int .i64 0, .int .i64 0, .string ⟨#[]⟩, .slice none 0 0, .slice none 0 0] 27)).heap.size = w.heap.size + 1) := Lib.hid (by simp)
  cases e5 : ((n : Int) == 5)
  · cases e13 : ((n : Int) == 13)
    · clear h5 hm
      go_enter Tryz.func36, Tryz.ntmps36
      go_wp2_with fail
      generalize (w.alloc (.cells #[.int .i64 0, .string ⟨#[]⟩, .int .i64 0, .int .i64 0, .string ⟨#[]⟩, .slice none 0 0, .slice none 0 0] 27)) = w1 at *
      have gR : ∀ i, w1.cell? ⟨w.heap.size, i, none⟩ = [Value.int .i64 0, .string ⟨#[]⟩, .int .i64 0, .int .i64 0, .string ⟨#[]⟩, .slice none 0 0, .slice none 0 0][i]? := hR0.cell
      have fR : ∀ i, w1.frozen? ⟨w.heap.size, i, none⟩ = false := hR0.frozen
      obtain ⟨hat, tk⟩ := h0.st
      refine (rok_any hat rfl).mono ?_
      rintro e w' ⟨rfl, rfl⟩
      go_wp2_with fail
      refine (HX.out _ k0).mono ?_
      rintro e w2 ⟨u, v, rfl, ⟨tk2, kk2, rfl, a2, c2⟩, L2, k2⟩
      obtain ⟨ua, un, uc, rfl⟩ := a2.slice
      obtain ⟨ud, ue, uf, rfl⟩ := c2.slice
      have hR2 := hR0.kept k2 (by show ¬ w.heap.size = b; omega)
      have K2 := K0.trans k2
      have z2 := k2.size
      have zz := HZ.out
      have HY := Lib.hid zz
      have L2r := L2.rr
      have b2 := L2r.lt
      have HV := Lib.hid L2.val
      have hb1 : b < w1.heap.size := by omega
      clear zz gR fR
      have HMO := Lib.hid (rmore_at hT hI L2r n _ rfl h1 h13 hb1 z2 a2 c2 HQ.out hf)
      unfold tmVal at HMO ⊢
      go_wp2_with fail
      refine HMO.out.mono ?_
      rintro e w3 ⟨d, v, rfl, ⟨tk3, kk3, rfl, a3, c3⟩, L3, k3⟩
      obtain ⟨da, dn, dc, rfl⟩ := a3.slice
      obtain ⟨dd, de, df, rfl⟩ := c3.slice
      unfold tmVal
      have hR3 := hR2.kept k3 (by show ¬ w.heap.size = b; omega)
      have K3 := K2.trans k3
      have LL : LE b s (bT r1 fun t σ' => restS T s n (s.size + 2) t σ') d w3 := L3.eq (by
        rw [bP_stT]
        exact bT_congr rfl fun u' σ' e => by rw [HV.out _ _ e])
      have gR : ∀ i, w3.cell? ⟨w.heap.size, i, none⟩ = [Value.int .i64 0, .string ⟨#[]⟩, .int .i64 0, .int .i64 0, .string ⟨#[]⟩, .slice none 0 0, .slice none 0 0][i]? := hR3.cell
      have fR : ∀ i, w3.frozen? ⟨w.heap.size, i, none⟩ = false := hR3.frozen
      clear HMO
      go_wp2_with fail
      refine ret_lv Tryz.results36 (t := d) rfl rfl (r7 hR3 rfl) ?_ ?_ (LL.s7 (by omega)) (k7w K3 (Or.inr (Nat.le_refl _)))
      · exact (a3.frame (same7 (n := w1.heap.size) (R := w.heap.size) (by have := HY.out; omega))).mono (fun k _ h => by have := HY.out; omega)
      · exact (c3.frame (same7 (n := w1.heap.size) (R := w.heap.size) (by have := HY.out; omega))).mono (fun k _ h => by have := HY.out; omega)
    · have IN : Hid (isR (lexW s σ.ta).1 (lexW s σ.ta).2 kMinus = false) := Lib.hid (by rw [is_lex (RR.tk h rfl)]; exact hm (by have := eq_of_beq e13; omega))
      clear h5 hm
      go_enter Tryz.func36, Tryz.ntmps36
      go_wp2_with fail
      generalize (w.alloc (.cells #[.int .i64 0, .string ⟨#[]⟩, .int .i64 0, .int .i64 0, .string ⟨#[]⟩, .slice none 0 0, .slice none 0 0] 27)) = w1 at *
      have gR : ∀ i, w1.cell? ⟨w.heap.size, i, none⟩ = [Value.int .i64 0, .string ⟨#[]⟩, .int .i64 0, .int .i64 0, .string ⟨#[]⟩, .slice none 0 0, .slice none 0 0][i]? := hR0.cell
      have fR : ∀ i, w1.frozen? ⟨w.heap.size, i, none⟩ = false := hR0.frozen
      obtain ⟨hat, tk⟩ := h0.st
      refine (rok_any hat rfl).mono ?_
      rintro e w' ⟨rfl, rfl⟩
      go_wp2_with fail
      refine (ris_any hat kMinus IN.out).mono ?_
      rintro e w' ⟨rfl, rfl⟩
      go_wp2_with fail
      refine (HX.out _ k0).mono ?_
      rintro e w2 ⟨u, v, rfl, ⟨tk2, kk2, rfl, a2, c2⟩, L2, k2⟩
      obtain ⟨ua, un, uc, rfl⟩ := a2.slice
      obtain ⟨ud, ue, uf, rfl⟩ := c2.slice
      have hR2 := hR0.kept k2 (by show ¬ w.heap.size = b; omega)
      have K2 := K0.trans k2
      have z2 := k2.size
      have zz := HZ.out
      have HY := Lib.hid zz
      have L2r := L2.rr
      have b2 := L2r.lt
      have HV := Lib.hid L2.val
      have hb1 : b < w1.heap.size := by omega
      clear zz gR fR
      have HMO := Lib.hid (rmore_at hT hI L2r n _ rfl h1 h13 hb1 z2 a2 c2 HQ.out hf)
      unfold tmVal at HMO ⊢
      go_wp2_with fail
      refine HMO.out.mono ?_
      rintro e w3 ⟨d, v, rfl, ⟨tk3, kk3, rfl, a3, c3⟩, L3, k3⟩
      obtain ⟨da, dn, dc, rfl⟩ := a3.slice
      obtain ⟨dd, de, df, rfl⟩ := c3.slice
      unfold tmVal
      have hR3 := hR2.kept k3 (by show ¬ w.heap.size = b; omega)
      have K3 := K2.trans k3
      have LL : LE b s (bT r1 fun t σ' => restS T s n (s.size + 2) t σ') d w3 := L3.eq (by
        rw [bP_stT]
        exact bT_congr rfl fun u' σ' e => by rw [HV.out _ _ e])
      have gR : ∀ i, w3.cell? ⟨w.heap.size, i, none⟩ = [Value.int .i64 0, .string ⟨#[]⟩, .int .i64 0, .int .i64 0, .string ⟨#[]⟩, .slice none 0 0, .slice none 0 0][i]? := hR3.cell
      have fR : ∀ i, w3.frozen? ⟨w.heap.size, i, none⟩ = false := hR3.frozen
      clear HMO
      go_wp2_with fail
      refine ret_lv Tryz.results36 (t := d) rfl rfl (r7 hR3 rfl) ?_ ?_ (LL.s7 (by omega)) (k7w K3 (Or.inr (Nat.le_refl _)))
      · exact (a3.frame (same7 (n := w1.heap.size) (R := w.heap.size) (by have := HY.out; omega))).mono (fun k _ h => by have := HY.out; omega)
      · exact (c3.frame (same7 (n := w1.heap.size) (R := w.heap.size) (by have := HY.out; omega))).mono (fun k _ h => by have := HY.out; omega)
  · have e13 : ((n : Int) == 13) = false := by rw [beq_iff_eq] at e5; rw [beq_eq_false_iff_ne]; omega
    have IN : Hid (isR (lexW s σ.ta).1 (lexW s σ.ta).2 kNot = false) := Lib.hid (by rw [is_lex (RR.tk h rfl)]; exact h5 (by have := eq_of_beq e5; omega))
    clear h5 hm
    go_enter Tryz.func36, Tryz.ntmps36
    go_wp2_with fail
    generalize (w.alloc (.cells #[.int .i64 0, .string ⟨#[]⟩, .int .i64 0, .int .i64 0, .string ⟨#[]⟩, .slice none 0 0, .slice none 0 0] 27)) = w1 at *
    have gR : ∀ i, w1.cell? ⟨w.heap.size, i, none⟩ = [Value.int .i64 0, .string ⟨#[]⟩, .int .i64 0, .int .i64 0, .string ⟨#[]⟩, .slice none 0 0, .slice none 0 0][i]? := hR0.cell
    have fR : ∀ i, w1.frozen? ⟨w.heap.size, i, none⟩ = false := hR0.frozen
    obtain ⟨hat, tk⟩ := h0.st
    refine (rok_any hat rfl).mono ?_
    rintro e w' ⟨rfl, rfl⟩
    go_wp2_with fail
    refine (ris_any hat kNot IN.out).mono ?_
    rintro e w' ⟨rfl, rfl⟩
    go_wp2_with fail
    refine (HX.out _ k0).mono ?_
    rintro e w2 ⟨u, v, rfl, ⟨tk2, kk2, rfl, a2, c2⟩, L2, k2⟩
    obtain ⟨ua, un, uc, rfl⟩ := a2.slice
    obtain ⟨ud, ue, uf, rfl⟩ := c2.slice
    have hR2 := hR0.kept k2 (by show ¬ w.heap.size = b; omega)
    have K2 := K0.trans k2
    have z2 := k2.size
    have zz := HZ.out
    have HY := Lib.hid zz
    have L2r := L2.rr
    have b2 := L2r.lt
    have HV := Lib.hid L2.val
    have hb1 : b < w1.heap.size := by omega
    clear zz gR fR
    have HMO := Lib.hid (rmore_at hT hI L2r n _ rfl h1 h13 hb1 z2 a2 c2 HQ.out hf)
    unfold tmVal at HMO ⊢
    go_wp2_with fail
    refine HMO.out.mono ?_
    rintro e w3 ⟨d, v, rfl, ⟨tk3, kk3, rfl, a3, c3⟩, L3, k3⟩
    obtain ⟨da, dn, dc, rfl⟩ := a3.slice
    obtain ⟨dd, de, df, rfl⟩ := c3.slice
    unfold tmVal
    have hR3 := hR2.kept k3 (by show ¬ w.heap.size = b; omega)
    have K3 := K2.trans k3
    have LL : LE b s (bT r1 fun t σ' => restS T s n (s.size + 2) t σ') d w3 := L3.eq (by
      rw [bP_stT]
      exact bT_congr rfl fun u' σ' e => by rw [HV.out _ _ e])
    have gR : ∀ i, w3.cell? ⟨w.heap.size, i, none⟩ = [Value.int .i64 0, .string ⟨#[]⟩, .int .i64 0, .int .i64 0, .string ⟨#[]⟩, .slice none 0 0, .slice none 0 0][i]? := hR3.cell
    have fR : ∀ i, w3.frozen? ⟨w.heap.size, i, none⟩ = false := hR3.frozen
    clear HMO
    go_wp2_with fail
    refine ret_lv Tryz.results36 (t := d) rfl rfl (r7 hR3 rfl) ?_ ?_ (LL.s7 (by omega)) (k7w K3 (Or.inr (Nat.le_refl _)))
    · exact (a3.frame (same7 (n := w1.heap.size) (R := w.heap.size) (by have := HY.out; omega))).mono (fun k _ h => by have := HY.out; omega)
    · exact (c3.frame (same7 (n := w1.heap.size) (R := w.heap.size) (by have := HY.out; omega))).mono (fun k _ h => by have := HY.out; omega)
theorem rest_none {T : TF} {s : ByteArray} {n : Nat} (hn : n = 5 ∨ n = 13) {r : RT} : (bT r fun t σ => restS T s n (s.size + 2) t σ) = r := by
  match r with
  | .error _ => rfl
  | .ok (t, σ) => exact rest_same (lv_none hn σ)
theorem rterm_any {b : Nat} {s : ByteArray} (f : Nat) : RTC b s f (termS f s) := by
  induction f with
  | zero =>
    intro n m hm q w h1 h13 h hq
    match q, h, hq with
    | .ok σ, h, hq => have := (hq σ rfl).1; omega
    | .error r, h, hq => exact rterm_err (14 - n) w b s r h n m hm (by omega)
  | succ f ih =>
    intro n m hm q w h1 h13 h hq
    match q, h, hq with
    | .error r, h, hq => exact rterm_err (14 - n) w b s r h n m hm (by omega)
    | .ok σ, h, hq =>
      have hI := inv_term f s
      have hfu := (hq σ rfl).1
      have hp := (hq σ rfl).2
      have hqb : QB s (.ok σ) (mu s σ) σ.nest := qb_ok hp
      subst hm
      show Calls _ _ _ _ (LV b s (VTm w.heap.size) (termS (f + 1) s n σ) w)
      have hB : RBC b s f (termS f s) := rbraces_any rfl ih hI
      have hA : RAC b s f (termS f s) := ratom_any ih hI hB
      by_cases h5 : n = 5
      · subst h5
        rw [term5_eq]
        cases hn : isS σ kNot
        · rw [if_neg (by simp)]
          have := rterm_go ih hI h 5 (by decide) (by decide) (fun _ => hn) (fun e => by cases e) (r1 := termS f s 6 σ) (fun W hk => ih 6 _ rfl (.ok σ) W (by decide) (by decide) (h.kept hk id) (fun σ' e => by cases e; exact ⟨by omega, hp⟩)) (qb_T hI 6 hqb) (by omega)
          rw [rest_none (Or.inl rfl)] at this
          exact this
        · rw [if_pos rfl]
          exact rterm_not ih hI h hp (by omega) hn
      · by_cases h13' : n = 13
        · subst h13'
          rw [term13_eq]
          cases hn : isS σ kMinus
          · rw [if_neg (by simp)]
            have := rterm_go ih hI h 13 (by decide) (by decide) (fun e => by cases e) (fun _ => hn) (r1 := bT (atomS (termS f s) s σ) fun t σ1 => afterS (termS f s) s (s.size + 2) t σ1) (fun W hk => rterm_14 hA ih hI (h.kept hk id) hqb (by omega) rfl) (M := mu s σ) (N := σ.nest) ?_ (by omega)
            · rw [rest_none (Or.inr rfl)] at this
              exact this
            · intro σ' e
              obtain ⟨t, e⟩ := stT_ok e
              obtain ⟨t1, σ1, e1, e2⟩ := bT_ok e
              have i1 := inv_atom hI hp e1
              have i2 := inv_after hI _ i1.2 i1.1.2.1 e2
              have j1 := i1.1
              have j2 := i2.1
              unfold Inv1 at j1
              unfold Inv at j2
              exact ⟨by omega, j2.2.1, by omega⟩
          · rw [if_pos rfl]
            exact rterm_neg ih hI h hp (by omega) hn
        · rw [termn_eq _ _ _ _ h5 h13']
          exact rterm_go ih hI h n h1 h13 (fun e => absurd e h5) (fun e => absurd e h13') (r1 := termS f s (n + 1) σ) (fun W hk => ih (n + 1) _ (by omega) (.ok σ) W (by omega) (by omega) (h.kept hk id) (fun σ' e => by cases e; exact ⟨by omega, hp⟩)) (qb_T hI (n + 1) hqb) (by omega)
def tdR (r : Bool × Nat) : Int := if r.1 = true then (r.2 : Int) else -1
def RdC (t : Ty) : Prop := ∀ (w : World) (ok : Nat → Prop) (c d : Nat) (tk : Value), c ≤ 16 → 1 ≤ d → d ≤ 7 → TyL ok w t.kids tk →
  Calls Tryz.prog 61 #[tyVal t tk, .int .i64 d, .int .i64 c] w fun e w' => e = .returned (.int .i64 (tdR (tfS 16 6 t d (decide (1 < d)) c))) ∧ Kept (fun _ => False) w w'
theorem rident_t {s : ByteArray} {v : Bool} (h : identB s = v) (hs : s.size ≤ 9223372036854775807) (w : World) :
    Calls Tryz.prog 19 #[.string s] w fun e w' => e = .returned (.bool v) ∧ Kept (fun _ => False) w w' := by rw [← h]; exact rident_any s w hs
theorem td_no {k : Int} {nm : ByteArray} {l : List Ty} {d c : Nat} (h : ((decide (c + 1 ≤ 16) && decide (d ≤ 6)) && tyHead k nm l.length (decide (1 < d))) = false) : tdR (tfS 16 6 (.mk k nm l) d (decide (1 < d)) c) = -1 := by
  rw [tf_eq, h]; rfl
theorem td_yes {k : Int} {nm : ByteArray} {l : List Ty} {d c : Nat} (hc : c + 1 ≤ 16) (hd : d ≤ 6) (h : tyHead k nm l.length (decide (1 < d)) = true) : tfS 16 6 (.mk k nm l) d (decide (1 < d)) c = tfsS 16 6 l (d + 1) (c + 1) := by
  rw [tf_eq, decide_eq_true hc, decide_eq_true hd, h]; rfl
theorem head_ways (k : Int) (nm : ByteArray) (n : Nat) (wi : Bool) (h : tyHead k nm n wi = false) :
    (k = 2 ∧ wi = true) ∨ (¬ (k = 2 ∧ wi = true) ∧ (((k = 1 ∨ k = 2 ∨ k = 3) ∧ n ≠ 0) ∨ (k = 5 ∧ n ≠ 1) ∨ (k = 4 ∧ n ≠ 2) ∨ (k ≠ 1 ∧ k ≠ 2 ∧ k ≠ 3 ∧ k ≠ 4 ∧ k ≠ 5) ∨ (k = 3 ∧ n = 0 ∧ identB nm = false)
      ∨ (((k = 1 ∧ n = 0) ∨ (k = 2 ∧ n = 0) ∨ (k = 5 ∧ n = 1) ∨ (k = 4 ∧ n = 2)) ∧ (nm.toList == []) = false))) := by
  unfold tyHead at h
  by_cases k1 : k = 1
  · subst k1; simp at h; by_cases hn : n = 0 <;> simp_all
  by_cases k2 : k = 2
  · subst k2; simp at h; cases wi <;> by_cases hn : n = 0 <;> simp_all
  by_cases k3 : k = 3
  · subst k3; simp at h; by_cases hn : n = 0 <;> simp_all
  by_cases k4 : k = 4
  · subst k4; simp at h; by_cases hn : n = 2 <;> simp_all
  by_cases k5 : k = 5
  · subst k5; simp at h; by_cases hn : n = 1 <;> simp_all
  · exact Or.inr ⟨fun e => k2 e.1, Or.inr (Or.inr (Or.inr (Or.inl ⟨k1, k2, k3, k4, k5⟩)))⟩
set_option maxHeartbeats 8000000 in
theorem rtyped_bad {k : Int} {nm : ByteArray} {a : Option Addr} {n cp c d : Nat} {w : World} (hsz : nm.size ≤ 9223372036854775807) (hc : c ≤ 16) (h1 : 1 ≤ d) (hd : d ≤ 7)
    (h : ((decide (c + 1 ≤ 16) && decide (d ≤ 6)) && tyHead k nm n (decide (1 < d))) = false) :
    Calls Tryz.prog 61 #[.agg #[.int .i64 k, .string nm, .slice a n cp], .int .i64 d, .int .i64 c] w fun e w' => e = .returned (.int .i64 (-1)) ∧ Kept (fun _ => False) w w' := by
  by_cases d6 : d ≤ 6
  case neg =>
    have i1 : decide ((6 : Int) < (d : Int)) = true := decide_eq_true (by omega)
    clear h
    go_enter Tryz.func61, Tryz.ntmps61
    go_wp2_with fail
    go_ret
    exact ⟨rfl, (Kept.refl _ _).alloc _⟩
  have i1 : decide ((6 : Int) < (d : Int)) = false := decide_eq_false (by omega)
  by_cases c6 : c + 1 ≤ 16
  case neg =>
    have i2 : decide ((16 : Int) < (c : Int) + 1) = true := decide_eq_true (by omega)
    clear h
    go_enter Tryz.func61, Tryz.ntmps61
    go_wp2_with fail
    go_ret
    exact ⟨rfl, (Kept.refl _ _).alloc _⟩
  have i2 : decide ((16 : Int) < (c : Int) + 1) = false := decide_eq_false (by omega)
  rw [decide_eq_true d6, decide_eq_true c6] at h
  have h' : tyHead k nm n (decide (1 < d)) = false := h
  clear h
  rcases head_ways k nm n _ h' with ⟨rfl, hw⟩ | ⟨hn2, hw⟩
  · have i3 : decide ((1 : Int) < (d : Int)) = true := by rw [← hw]; exact decide_eq_decide.2 (by omega)
    clear hw h'
    go_enter Tryz.func61, Tryz.ntmps61
    go_wp2_with fail
    go_ret
    exact ⟨rfl, (Kept.refl _ _).alloc _⟩
  clear h'
  rcases hw with ⟨hk, h0⟩ | ⟨rfl, h0⟩ | ⟨rfl, h0⟩ | ⟨k1, k2, k3, k4, k5⟩ | ⟨rfl, rfl, hI⟩ | ⟨hk, he⟩
  · have i4 : ((n : Int) != 0) = true := by rw [bne_iff_ne]; omega
    rcases hk with rfl | rfl | rfl
    · clear hn2
      go_enter Tryz.func61, Tryz.ntmps61
      go_wp2_with fail
      go_ret
      exact ⟨rfl, (Kept.refl _ _).alloc _⟩
    · have i3 : decide ((1 : Int) < (d : Int)) = false := decide_eq_false (fun h => hn2 (by simp; omega))
      clear hn2
      go_enter Tryz.func61, Tryz.ntmps61
      go_wp2_with fail
      go_ret
      exact ⟨rfl, (Kept.refl _ _).alloc _⟩
    · clear hn2
      go_enter Tryz.func61, Tryz.ntmps61
      go_wp2_with fail
      go_ret
      exact ⟨rfl, (Kept.refl _ _).alloc _⟩
  · have i4 : ((n : Int) != 1) = true := by rw [bne_iff_ne]; omega
    clear hn2
    go_enter Tryz.func61, Tryz.ntmps61
    go_wp2_with fail
    go_ret
    exact ⟨rfl, (Kept.refl _ _).alloc _⟩
  · have i4 : ((n : Int) != 2) = true := by rw [bne_iff_ne]; omega
    clear hn2
    go_enter Tryz.func61, Tryz.ntmps61
    go_wp2_with fail
    go_ret
    exact ⟨rfl, (Kept.refl _ _).alloc _⟩
  · have e1 : (k == 1) = false := beq_eq_false_iff_ne.2 k1
    have e2 : (k == 2) = false := beq_eq_false_iff_ne.2 k2
    have e3 : (k == 3) = false := beq_eq_false_iff_ne.2 k3
    have e4 : (k == 4) = false := beq_eq_false_iff_ne.2 k4
    have e5 : (k == 5) = false := beq_eq_false_iff_ne.2 k5
    clear hn2 k1 k2 k3 k4 k5
    go_enter Tryz.func61, Tryz.ntmps61
    go_wp2_with fail
    go_ret
    exact ⟨rfl, (Kept.refl _ _).alloc _⟩
  · clear hn2
    have HI := Lib.hid hI
    clear hI
    go_enter Tryz.func61, Tryz.ntmps61
    go_wp2_with (go_at_call 19; refine (rident_t HI.out hsz _).mono ?_; rintro e w1 ⟨rfl, k1⟩)
    go_ret
    exact ⟨rfl, ((Kept.refl _ _).alloc _).trans k1⟩
  · have he' : (nm.toList != []) = true := by rw [bne, he]; rfl
    have he2 : nm.toList.isEmpty = false := by cases h : nm.toList <;> simp_all
    rcases hk with ⟨rfl, rfl⟩ | ⟨rfl, rfl⟩ | ⟨rfl, rfl⟩ | ⟨rfl, rfl⟩
    · clear hn2 he
      go_enter Tryz.func61, Tryz.ntmps61
      go_wp2_with fail
      go_ret
      exact ⟨rfl, (Kept.refl _ _).alloc _⟩
    · have i3 : decide ((1 : Int) < (d : Int)) = false := decide_eq_false (fun h => hn2 (by simp; omega))
      clear hn2 he
      go_enter Tryz.func61, Tryz.ntmps61
      go_wp2_with fail
      go_ret
      exact ⟨rfl, (Kept.refl _ _).alloc _⟩
    · clear hn2 he
      go_enter Tryz.func61, Tryz.ntmps61
      go_wp2_with fail
      go_ret
      exact ⟨rfl, (Kept.refl _ _).alloc _⟩
    · clear hn2 he
      go_enter Tryz.func61, Tryz.ntmps61
      go_wp2_with fail
      go_ret
      exact ⟨rfl, (Kept.refl _ _).alloc _⟩
theorem head_yes {k : Int} {nm : ByteArray} {n : Nat} {wi : Bool} (h : tyHead k nm n wi = true) :
    ((k = 1 ∧ n = 0 ∧ (nm.toList == []) = true) ∨ (k = 2 ∧ wi = false ∧ n = 0 ∧ (nm.toList == []) = true) ∨ (k = 3 ∧ n = 0 ∧ identB nm = true)) ∨ ((k = 5 ∧ n = 1) ∨ (k = 4 ∧ n = 2)) ∧ (nm.toList == []) = true := by
  unfold tyHead at h
  by_cases k1 : k = 1
  · subst k1; simp at h; simp_all
  by_cases k2 : k = 2
  · subst k2; simp at h; cases wi <;> simp_all
  by_cases k3 : k = 3
  · subst k3; simp at h; simp_all
  by_cases k4 : k = 4
  · subst k4; simp at h; simp_all
  by_cases k5 : k = 5
  · subst k5; simp at h; simp_all
  · simp [k1, k2, k3, k4, k5] at h
set_option maxHeartbeats 8000000 in
theorem rtyped_leaf {k : Int} {nm : ByteArray} {a : Option Addr} {cp c d : Nat} {w : World} (hsz : nm.size ≤ 9223372036854775807) (hc : c + 1 ≤ 16) (h1 : 1 ≤ d) (hd : d ≤ 6)
    (h : (k = 1 ∧ (nm.toList == []) = true) ∨ (k = 2 ∧ decide (1 < d) = false ∧ (nm.toList == []) = true) ∨ (k = 3 ∧ identB nm = true)) :
    Calls Tryz.prog 61 #[.agg #[.int .i64 k, .string nm, .slice a 0 cp], .int .i64 d, .int .i64 c] w fun e w' => e = .returned (.int .i64 ((c + 1 : Nat) : Int)) ∧ Kept (fun _ => False) w w' := by
  have i1 : decide ((6 : Int) < (d : Int)) = false := decide_eq_false (by omega)
  have i2 : decide ((16 : Int) < (c : Int) + 1) = false := decide_eq_false (by omega)
  rcases h with ⟨rfl, he⟩ | ⟨rfl, hw, he⟩ | ⟨rfl, hI⟩
  · have he2 : nm.toList.isEmpty = true := by cases h : nm.toList <;> simp_all
    have bA : Blk (w.alloc (.cells #[.int .i64 1, .string nm, .slice a 0 cp] 24)) w.heap.size 24 [.int .i64 1, .string nm, .slice a 0 cp] := Blk.new w 24 _
    go_enter Tryz.func61, Tryz.ntmps61
    go_wp2_with fail
    have K1 : Kept (fun _ => False) w (w.alloc (.cells #[.int .i64 1, .string nm, .slice a 0 cp] 24)) := (Kept.refl _ _).alloc _
    generalize w.alloc (.cells #[.int .i64 1, .string nm, .slice a 0 cp] 24) = w1 at *
    have g2 : w1.cell? ⟨w.heap.size, 2, none⟩ = some (.slice a 0 cp) := bA.cell 2
    go_loop [8, 2] (fun i m => i = .int .i64 0 ∧ m = .int .i64 ((c : Int) + 1)) (fun i _ => 0)
    case atStart => exact ⟨rfl, rfl⟩
    case round =>
      obtain ⟨rfl, rfl⟩ := hrel
      go_wp2_with fail
      go_ret
      exact ⟨rfl, K1⟩
  · have i3 : decide ((1 : Int) < (d : Int)) = false := decide_eq_false (fun h => by have := of_decide_eq_false hw; omega)
    have he2 : nm.toList.isEmpty = true := by cases h : nm.toList <;> simp_all
    have bA : Blk (w.alloc (.cells #[.int .i64 2, .string nm, .slice a 0 cp] 24)) w.heap.size 24 [.int .i64 2, .string nm, .slice a 0 cp] := Blk.new w 24 _
    clear hw
    go_enter Tryz.func61, Tryz.ntmps61
    go_wp2_with fail
    have K1 : Kept (fun _ => False) w (w.alloc (.cells #[.int .i64 2, .string nm, .slice a 0 cp] 24)) := (Kept.refl _ _).alloc _
    generalize w.alloc (.cells #[.int .i64 2, .string nm, .slice a 0 cp] 24) = w1 at *
    have g2 : w1.cell? ⟨w.heap.size, 2, none⟩ = some (.slice a 0 cp) := bA.cell 2
    go_loop [8, 2] (fun i m => i = .int .i64 0 ∧ m = .int .i64 ((c : Int) + 1)) (fun i _ => 0)
    case atStart => exact ⟨rfl, rfl⟩
    case round =>
      obtain ⟨rfl, rfl⟩ := hrel
      go_wp2_with fail
      go_ret
      exact ⟨rfl, K1⟩
  · have HI := Lib.hid hI
    clear hI
    have bA : Blk (w.alloc (.cells #[.int .i64 3, .string nm, .slice a 0 cp] 24)) w.heap.size 24 [.int .i64 3, .string nm, .slice a 0 cp] := Blk.new w 24 _
    have K0 : Kept (fun _ => False) w (w.alloc (.cells #[.int .i64 3, .string nm, .slice a 0 cp] 24)) := (Kept.refl _ _).alloc _
    go_enter Tryz.func61, Tryz.ntmps61
    go_wp2_with fail
    refine (rident_t HI.out hsz _).mono ?_
    rintro e w1 ⟨rfl, k1⟩
    have bA1 := bA.kept k1 (fun h => h)
    have K1 := K0.trans k1
    have g0 : w1.cell? ⟨w.heap.size, 0, none⟩ = some (.int .i64 3) := bA1.cell 0
    have g2 : w1.cell? ⟨w.heap.size, 2, none⟩ = some (.slice a 0 cp) := bA1.cell 2
    go_wp2_with fail
    go_loop [8, 2] (fun i m => i = .int .i64 0 ∧ m = .int .i64 ((c : Int) + 1)) (fun i _ => 0)
    case atStart => exact ⟨rfl, rfl⟩
    case round =>
      obtain ⟨rfl, rfl⟩ := hrel
      go_wp2_with fail
      go_ret
      exact ⟨rfl, K1⟩
theorem td_drop {l : List Ty} {d c k : Nat} (h : k < l.length) : tdR (tfsS 16 6 (l.drop k) d c) = if (tfS 16 6 l[k] d true c).1 = true then tdR (tfsS 16 6 (l.drop (k + 1)) d (tfS 16 6 l[k] d true c).2) else -1 := by
  rw [tfs_step h]; split <;> rfl
set_option maxRecDepth 100000 in
set_option maxHeartbeats 8000000 in
theorem rtyped_node {k : Int} {nm : ByteArray} {l : List Ty} {n cp c d b off : Nat} {w : World} {ok : Nat → Prop} (IH : ∀ t, t ∈ l → RdC t) (hc : c + 1 ≤ 16) (h1 : 1 ≤ d) (hd : d ≤ 6)
    (hkn : (k = 5 ∧ n = 1) ∨ (k = 4 ∧ n = 2)) (he : (nm.toList == []) = true) (hln : l.length = n) (K : Nat → Value) (hb : ok b)
    (hcell : ∀ i (h : i < l.length), w.cell? ⟨b, off + i * 3, none⟩ = some (.int .i64 l[i].kind) ∧ w.cell? ⟨b, off + i * 3 + 1, none⟩ = some (.string l[i].name) ∧ w.cell? ⟨b, off + i * 3 + 2, none⟩ = some (K i))
    (hk : ∀ i (h : i < l.length), TyL ok w l[i].kids (K i)) :
    Calls Tryz.prog 61 #[.agg #[.int .i64 k, .string nm, .slice (some ⟨b, off, none⟩) n cp], .int .i64 d, .int .i64 c] w fun e w' => e = .returned (.int .i64 (tdR (tfsS 16 6 l (d + 1) (c + 1)))) ∧ Kept (fun _ => False) w w' := by
  have i1 : decide ((6 : Int) < (d : Int)) = false := decide_eq_false (by omega)
  have i2 : decide ((16 : Int) < (c : Int) + 1) = false := decide_eq_false (by omega)
  have he2 : nm.toList.isEmpty = true := by cases h : nm.toList <;> simp_all
  have HIH := Lib.hid IH
  have HC := Lib.hid hcell
  have HK := Lib.hid hk
  have HL := Lib.hid hln
  clear IH hcell hk hln
  have bA : Blk (w.alloc (.cells #[.int .i64 k, .string nm, .slice (some ⟨b, off, none⟩) n cp] 24)) w.heap.size 24 [.int .i64 k, .string nm, .slice (some ⟨b, off, none⟩) n cp] := Blk.new w 24 _
  have K1 : Kept (fun _ => False) w (w.alloc (.cells #[.int .i64 k, .string nm, .slice (some ⟨b, off, none⟩) n cp] 24)) := (Kept.refl _ _).alloc _
  rcases hkn with ⟨rfl, rfl⟩ | ⟨rfl, rfl⟩
  all_goals
    go_enter Tryz.func61, Tryz.ntmps61
    go_wp2_with fail
    generalize w.alloc _ = w1 at *
    go_loopw [8, 2] (fun i m wr => ∃ j cj : Nat, j ≤ l.length ∧ i = .int .i64 j ∧ m = .int .i64 cj ∧ cj ≤ 16 ∧ Kept (fun _ => False) w1 wr ∧ Hid (tdR (tfsS 16 6 l (d + 1) (c + 1)) = tdR (tfsS 16 6 (l.drop j) (d + 1) cj))) (fun i _ _ => l.length - (intOf i).toNat)
    case atStart => exact ⟨0, c + 1, Nat.zero_le _, rfl, by go_num, hc, Kept.refl _ _, Lib.hid rfl⟩
    case round =>
      obtain ⟨j, cj, hj, rfl, rfl, hcj, kr, hq⟩ := hrel
      have bR := bA.kept kr (fun h => h)
      have g2 : wr.cell? ⟨w.heap.size, 2, none⟩ = some (.slice (some ⟨b, off, none⟩) _ cp) := bR.cell 2
      have hll := HL.out
      by_cases hlt : j < l.length
      · have KR := K1.trans kr
        have c0 := (Same.of_kept (ok := ok) KR (fun k h e => e)).cell hb (HC.out j hlt).1
        have c1 := (Same.of_kept (ok := ok) KR (fun k h e => e)).cell hb (HC.out j hlt).2.1
        have c2 := (Same.of_kept (ok := ok) KR (fun k h e => e)).cell hb (HC.out j hlt).2.2
        obtain ⟨ta, tn, tc, hKj⟩ := (HK.out j hlt).slice
        have hkk := (HK.out j hlt).frame (Same.of_kept (ok := ok) KR (fun k h e => e))
        rw [hKj] at c2 hkk
        have hcon := Lib.hid (HIH.out _ (List.getElem_mem hlt) wr ok cj (d + 1) _ hcj (by omega) (by omega) hkk)
        have hst := Lib.hid (td_drop (d := d + 1) (c := cj) hlt)
        have hle := Lib.hid (tf_le 16 6 l[j] (d + 1) true cj hcj)
        have hw : decide (1 < d + 1) = true := decide_eq_true (by omega)
        rw [hw] at hcon
        clear hkk hw
        have hj2 : (j : Int) < 1000 := by omega
        cases hr : (tfS 16 6 l[j] (d + 1) true cj).1
        · have e1 : tdR (tfS 16 6 l[j] (d + 1) true cj) = -1 := by unfold tdR; rw [hr]; rfl
          rw [e1] at hcon
          have HR := Lib.hid hr
          clear hr e1
          unfold tyVal at hcon
          go_wp2_with (go_at_call 61; refine hcon.out.mono ?_; rintro e w' ⟨rfl, k2⟩)
          go_ret
          refine ⟨?_, KR.trans k2⟩
          rw [hq.out, hst.out, HR.out]; rfl
        · have e1 : tdR (tfS 16 6 l[j] (d + 1) true cj) = ((tfS 16 6 l[j] (d + 1) true cj).2 : Int) := by unfold tdR; rw [hr]; rfl
          rw [e1] at hcon
          have hle2 := hle.out hr
          have HR := Lib.hid hr
          clear hr e1
          generalize hcc : (tfS 16 6 l[j] (d + 1) true cj).2 = cc at *
          have HCC := Lib.hid hcc
          clear hcc
          unfold tyVal at hcon
          go_wp2_with (go_at_call 61; refine hcon.out.mono ?_; rintro e w' ⟨rfl, k2⟩)
          go_roundw
          case rel =>
            refine ⟨j + 1, cc, by omega, by go_num, rfl, hle2.2, kr.trans k2, Lib.hid ?_⟩
            rw [hq.out, hst.out, HR.out, if_pos rfl]
          case measure => simp [intOf]; omega
      · have hq2 : Hid (tdR (tfsS 16 6 l (d + 1) (c + 1)) = (cj : Int)) := Lib.hid (by rw [hq.out, List.drop_eq_nil_of_le (by omega), tfsS]; rfl)
        go_wp2_with fail
        go_ret
        exact ⟨by rw [hq2.out]; rfl, K1.trans kr⟩
theorem rtyped_one {k : Int} {nm : ByteArray} {l : List Ty} (hsz : nm.size ≤ 9223372036854775807) (IH : ∀ t, t ∈ l → RdC t) : RdC (.mk k nm l) := by
  intro w ok c d tk hc h1 hd hk
  obtain ⟨a, n, cp, rfl⟩ := hk.slice
  have hn : n = l.length := hk.len
  cases hh : ((decide (c + 1 ≤ 16) && decide (d ≤ 6)) && tyHead k nm l.length (decide (1 < d)))
  · rw [td_no hh]
    exact rtyped_bad hsz hc h1 hd (by rw [hn]; exact hh)
  · rw [Bool.and_eq_true, Bool.and_eq_true] at hh
    obtain ⟨⟨hc1, hd1⟩, hh⟩ := hh
    have hc1 := of_decide_eq_true hc1
    have hd1 := of_decide_eq_true hd1
    rw [td_yes hc1 hd1 hh]
    rw [← hn] at hh
    rcases head_yes hh with hl | ⟨hl, he⟩
    · have h0 : n = 0 := by rcases hl with h | h | h; exact h.2.1; exact h.2.2.1; exact h.2.1
      subst h0
      have : l = [] := List.length_eq_zero_iff.1 hn.symm
      subst this
      rw [tfsS]
      refine rtyped_leaf hsz hc1 h1 hd1 ?_
      rcases hl with h | h | h
      · exact Or.inl ⟨h.1, h.2.2⟩
      · exact Or.inr (Or.inl ⟨h.1, h.2.1, h.2.2.2⟩)
      · exact Or.inr (Or.inr ⟨h.1, h.2.2⟩)
    · have hk' : TyL ok w l (.slice a n cp) := hk
      subst hn
      cases hk' with
      | nil h => simp at hl
      | mk K hne hb hcap hcell hkk => exact rtyped_node IH hc1 h1 hd1 hl he rfl K hb hcell hkk
theorem rtyped_any {t : Ty} (h : SmTy big t) : RdC t := by
  induction h with
  | mk hn hl ih => exact rtyped_one hn ih
set_option maxHeartbeats 2000000 in
theorem rvalidTy_any {ok : Nat → Prop} {w : World} {t : Ty} {a : Option Addr} {n c : Nat} (hk : TyL ok w t.kids (.slice a n c)) (hs : SmTy big t) :
    Calls Tryz.prog 30 #[.agg #[.int .i64 t.kind, .string t.name, .slice a n c]] w fun e w' => e = .returned (.bool (validTyB t)) ∧ Kept (fun _ => False) w w' := by
  have hk2 := hk.frame (Same.alloc w (.cells #[.int .i64 t.kind, .string t.name, .slice a n c] 24))
  have hC := Lib.hid (rtyped_any hs _ ok 0 1 _ (by decide) (by decide) (by decide) hk2)
  have K1 : Kept (fun _ => False) w (w.alloc (.cells #[.int .i64 t.kind, .string t.name, .slice a n c] 24)) := (Kept.refl _ _).alloc _
  have hle := tf_le 16 6 t 1 false 0 (by decide)
  have HV : Hid (decide (0 < tdR (tfS 16 6 t 1 (decide (1 < 1)) 0)) = validTyB t) := Lib.hid (by
    show decide (0 < tdR (tfS 16 6 t 1 false 0)) = validTyB t
    unfold tdR validTyB
    cases hr : (tfS 16 6 t 1 false 0).1
    · rfl
    · have := (hle hr).1
      rw [if_pos rfl]
      exact decide_eq_true (by omega))
  clear hle
  unfold tyVal at hC
  go_enter Tryz.func30, Tryz.ntmps30
  go_wp2_with fail
  refine hC.out.mono ?_
  rintro e w' ⟨rfl, k2⟩
  go_wp2_with fail
  go_ret
  exact ⟨by rw [← HV.out]; rfl, K1.trans k2⟩
end Go.Proofs.YtckjlliobebodaaGreatDoor
