/- Texts RTyp RVal TyP RPty RSam of this proof, in one. -/
import Derived.Test.YtckjlliobebodaaGreatDoorBa11
import Derived.Test.YtckjlliobebodaaGreatDoorBa10
import Derived.Test.YtckjlliobebodaaGreatDoorBa8
import Derived.BigQuiet
import Derived.Test.YtckjlliobebodaaGreatDoorBa9
import Derived.Test.YtckjlliobebodaaGreatDoorBa7
import Derived.StillTailTactics
import Derived.Deep.RegionHeld3
import Derived.Deep.CutBlock
/- The document's reader of types. Printed by genrtyp.py. -/
set_option linter.unusedVariables false
set_option linter.unusedSimpArgs false
namespace Go.Proofs.YtckjlliobebodaaGreatDoor
open Go.RowKit
theorem typed_c {s : ByteArray} {σ : PS} {f : Nat} (hc : σ.k = 1 ∧ identB σ.tx = true) : typedS (f + 1) s σ = bP (advS s σ) fun σ1 => .ok (.mk 3 σ.tx [], σ1) := by
  unfold typedS; rw [if_pos hc]; cases advS s σ <;> rfl
theorem typed_i {s : ByteArray} {σ : PS} {f : Nat} (hn : ¬ (σ.k = 1 ∧ identB σ.tx = true)) (hI : isS σ kInt = true) : typedS (f + 1) s σ = bP (advS s σ) fun σ1 => .ok (.mk 1 ⟨#[]⟩ [], σ1) := by
  unfold typedS; rw [if_neg hn, if_pos hI]; cases advS s σ <;> rfl
theorem typed_n {s : ByteArray} {σ : PS} {f : Nat} (hn : ¬ (σ.k = 1 ∧ identB σ.tx = true)) (hI : isS σ kInt = false) (hS : isS σ kSet = false) (hP : isS σ kPair = false) : typedS (f + 1) s σ = .error (false, σ.ta) := by
  unfold typedS; rw [if_neg hn, hI, hS, hP]; rfl
theorem pass_is {b : Nat} {s : ByteArray} {σ : PS} {t : ByteArray} (tk : Tk s σ) (hi : isS σ t = true) (ho : inB t openers = false) (hc : inB t closers = false) (W : World) (h : RR W b s (.ok σ)) : Calls Tryz.prog 75 #[.pointer (some ⟨b, 0, none⟩)] W (RU b s (advS s σ) W) := by
  rw [← pass_want tk hi ho hc]
  exact pass_ok h (fun e => by rw [is_tx tk hi, hc] at e; cases e)
theorem pass_nm {b : Nat} {s : ByteArray} {σ : PS} (hn : noBr (lexW s σ.ta).2) (W : World) (h : RR W b s (.ok σ)) : Calls Tryz.prog 75 #[.pointer (some ⟨b, 0, none⟩)] W (RU b s (advS s σ) W) := by
  have e : passS s σ = advS s σ := by unfold passS; rw [hn.1, hn.2]; rfl
  rw [← e]
  exact pass_ok h (fun e => by rw [hn.2] at e; cases e)
theorem pass_op {b : Nat} {s : ByteArray} {σ : PS} {t : ByteArray} (tk : Tk s σ) (hi : isS σ t = true) (ho : inB t openers = true) (W : World) (h : RR W b s (.ok σ)) : Calls Tryz.prog 75 #[.pointer (some ⟨b, 0, none⟩)] W (RU b s (openS s σ t) W) := by
  rw [← pass_open tk hi ho]
  exact pass_ok h (fun e => by rw [is_tx tk hi, op_cl ho] at e; cases e)
theorem pass_sh {b : Nat} {s : ByteArray} {σ : PS} {t : ByteArray} (tk : Tk s σ) (hi : isS σ t = true) (hc : inB t closers = true) (hn : 1 ≤ σ.nest) (W : World) (h : RR W b s (.ok σ)) : Calls Tryz.prog 75 #[.pointer (some ⟨b, 0, none⟩)] W (RU b s (shutS s σ t) W) := by
  rw [← pass_shut tk hi hc]
  exact pass_ok h (fun _ => hn)
theorem LE.set {b : Nat} {s : ByteArray} {w : World} {α : Type} {q : Except ER PS} (h : RR w b s q) (a : α) : LE b s (bP q fun σ => .ok (a, σ)) a w := by
  match q, h with
  | .error _, h => exact h
  | .ok _, h => exact ⟨rfl, h⟩
set_option maxHeartbeats 8000000 in
theorem rtyp_car {w : World} {b : Nat} {s : ByteArray} {σ : PS} {f : Nat} (h : RR w b s (.ok σ)) (hc : σ.k = 1 ∧ identB σ.tx = true) : Calls Tryz.prog 44 #[.pointer (some ⟨b, 0, none⟩)] w (LV b s (VTy w.heap.size) (typedS (f + 1) s σ) w) := by
  obtain ⟨hat, tk⟩ := h.st
  have hz := lex_le tk h.src
  obtain ⟨u1, u2, u3, u4⟩ := tok_yes tk hc.1 hc.2
  have HP := Lib.hid (pass_nm (b := b) (s := s) (σ := σ) (by rw [u1]; exact ⟨u3, u4⟩))
  have HQ := Lib.hid (typed_c (s := s) (f := f) hc)
  rw [u1] at hat hz
  have U2 := Lib.hid u2
  clear u2 u3 u4 hc u1
  have hs := h.src
  have hlt := h.lt
  have hR0 : Blk (w.alloc (.cells #[.int .i64 0, .string ⟨#[]⟩, .slice none 0 0] 24)) w.heap.size 24 z24 := Blk.new w 24 z24
  have hat0 := hat.grow (((Kept.refl _ _).alloc (.cells #[.int .i64 0, .string ⟨#[]⟩, .slice none 0 0] 24)).alloc (.cells #[.int .i64 1, .string σ.tx, .int .i64 σ.ta] 55))
  have h1 := (h.alloc (.cells #[.int .i64 0, .string ⟨#[]⟩, .slice none 0 0] 24)).alloc (.cells #[.int .i64 1, .string σ.tx, .int .i64 σ.ta] 55)
  have hR1 := hR0.alloc (.cells #[.int .i64 1, .string σ.tx, .int .i64 σ.ta] 55)
  have K1 : Kept (· = b) w ((w.alloc (.cells #[.int .i64 0, .string ⟨#[]⟩, .slice none 0 0] 24)).alloc (.cells #[.int .i64 1, .string σ.tx, .int .i64 σ.ta] 55)) := ((Kept.refl _ _).alloc _).alloc _
  have hT1 : Blk ((w.alloc (.cells #[.int .i64 0, .string ⟨#[]⟩, .slice none 0 0] 24)).alloc (.cells #[.int .i64 1, .string σ.tx, .int .i64 σ.ta] 55)) (w.heap.size + 1) 55 [.int .i64 1, .string σ.tx, .int .i64 σ.ta] := Blk.new' 55 _ (by simp)
  have hat1 := hat.grow ((Kept.refl _ _).alloc (.cells #[.int .i64 0, .string ⟨#[]⟩, .slice none 0 0] 24))
  have c1 := hat1.c1
  have c2 := hat1.c2
  have c3 := hat1.c3
  go_enter Tryz.func44, Tryz.ntmps44
  go_wp2_with fail
  generalize ((w.alloc (.cells #[.int .i64 0, .string ⟨#[]⟩, .slice none 0 0] 24)).alloc (.cells #[.int .i64 1, .string σ.tx, .int .i64 σ.ta] 55)) = w1 at *
  refine (rok_any hat0 rfl).mono ?_
  rintro e w' ⟨rfl, rfl⟩
  have t0 : w1.cell? ⟨w.heap.size + 1, 0, none⟩ = some (.int .i64 1) := hT1.cell 0
  have t1 : w1.cell? ⟨w.heap.size + 1, 1, none⟩ = some (.string σ.tx) := hT1.cell 1
  have z1 := h1.lt
  have zT := hT1.lt
  go_wp2_with fail
  refine (primed_any σ.tx w1 hz U2.out).mono ?_
  rintro e w2 ⟨rfl, k2⟩
  have h2 := h1.kept k2 id
  have K2 := K1.trans (k2.mono (fun _ _ h => h.elim))
  have hR2 := hR1.kept k2 id
  have hT2 := hT1.kept k2 id
  go_wp2_with fail
  refine (HP.out _ h2).mono ?_
  rintro e w3 ⟨rfl, h3, k3⟩
  have hR3 := hR2.kept k3 (by show ¬ w.heap.size = b; omega)
  have hT3 := hT2.kept k3 (by show ¬ w.heap.size + 1 = b; omega)
  have t2 : w3.cell? ⟨w.heap.size + 1, 1, none⟩ = some (.string σ.tx) := hT3.cell 1
  have LL : LE b s (typedS (f + 1) s σ) (.mk 3 σ.tx []) w3 := (LE.set h3 _).eq HQ.out.symm
  have ag0 : w3.cell? ⟨w.heap.size, 0, none⟩ = some (.int .i64 0) := hR3.cell 0
  have af0 : w3.frozen? ⟨w.heap.size, 0, none⟩ = false := hR3.frozen 0
  have ag1 : w3.cell? ⟨w.heap.size, 1, none⟩ = some (.string ⟨#[]⟩) := hR3.cell 1
  have af1 : w3.frozen? ⟨w.heap.size, 1, none⟩ = false := hR3.frozen 1
  have ag2 : w3.cell? ⟨w.heap.size, 2, none⟩ = some (.slice none 0 0) := hR3.cell 2
  have af2 : w3.frozen? ⟨w.heap.size, 2, none⟩ = false := hR3.frozen 2
  go_wp2_with fail
  exact ret_lty Tryz.results44 (t := Ty.mk 3 σ.tx []) rfl rfl (r3 hR3 rfl) (.nil (Or.inl rfl)) (LL.s3 (by omega)) (k3w (K2.trans k3) (Nat.le_refl _))
set_option maxHeartbeats 8000000 in
theorem rtyp_int {w : World} {b : Nat} {s : ByteArray} {σ : PS} {f : Nat} (h : RR w b s (.ok σ)) (hn : ¬ (σ.k = 1 ∧ identB σ.tx = true)) (h1k : ((lexW s σ.ta).1 == 1) = false) (hI : isS σ kInt = true) : Calls Tryz.prog 44 #[.pointer (some ⟨b, 0, none⟩)] w (LV b s (VTy w.heap.size) (typedS (f + 1) s σ) w) := by
  obtain ⟨hat, tk⟩ := h.st
  have hz := lex_le tk h.src
  have HP := Lib.hid (pass_is (b := b) tk hI (by decide +kernel) (by decide +kernel))
  have HI := Lib.hid ((is_lex tk kInt).trans hI)
  have HQ := Lib.hid (typed_i (s := s) (f := f) hn hI)
  clear hn hI
  generalize hkk : (lexW s σ.ta).1 = k at *
  generalize hxx : (lexW s σ.ta).2 = x at *
  clear hkk hxx
  have hs := h.src
  have hlt := h.lt
  have hR0 : Blk (w.alloc (.cells #[.int .i64 0, .string ⟨#[]⟩, .slice none 0 0] 24)) w.heap.size 24 z24 := Blk.new w 24 z24
  have hat0 := hat.grow (((Kept.refl _ _).alloc (.cells #[.int .i64 0, .string ⟨#[]⟩, .slice none 0 0] 24)).alloc (.cells #[.int .i64 k, .string x, .int .i64 σ.ta] 55))
  have h1 := (h.alloc (.cells #[.int .i64 0, .string ⟨#[]⟩, .slice none 0 0] 24)).alloc (.cells #[.int .i64 k, .string x, .int .i64 σ.ta] 55)
  have hR1 := hR0.alloc (.cells #[.int .i64 k, .string x, .int .i64 σ.ta] 55)
  have K1 : Kept (· = b) w ((w.alloc (.cells #[.int .i64 0, .string ⟨#[]⟩, .slice none 0 0] 24)).alloc (.cells #[.int .i64 k, .string x, .int .i64 σ.ta] 55)) := ((Kept.refl _ _).alloc _).alloc _
  have hT1 : Blk ((w.alloc (.cells #[.int .i64 0, .string ⟨#[]⟩, .slice none 0 0] 24)).alloc (.cells #[.int .i64 k, .string x, .int .i64 σ.ta] 55)) (w.heap.size + 1) 55 [.int .i64 k, .string x, .int .i64 σ.ta] := Blk.new' 55 _ (by simp)
  have hat1 := hat.grow ((Kept.refl _ _).alloc (.cells #[.int .i64 0, .string ⟨#[]⟩, .slice none 0 0] 24))
  have c1 := hat1.c1
  have c2 := hat1.c2
  have c3 := hat1.c3
  go_enter Tryz.func44, Tryz.ntmps44
  go_wp2_with fail
  generalize ((w.alloc (.cells #[.int .i64 0, .string ⟨#[]⟩, .slice none 0 0] 24)).alloc (.cells #[.int .i64 k, .string x, .int .i64 σ.ta] 55)) = w1 at *
  refine (rok_any hat0 rfl).mono ?_
  rintro e w' ⟨rfl, rfl⟩
  have t0 : w1.cell? ⟨w.heap.size + 1, 0, none⟩ = some (.int .i64 k) := hT1.cell 0
  have t1 : w1.cell? ⟨w.heap.size + 1, 1, none⟩ = some (.string x) := hT1.cell 1
  have z1 := h1.lt
  have zT := hT1.lt
  go_wp2_with fail
  refine (ris_any hat0 kInt HI.out).mono ?_
  rintro e w' ⟨rfl, rfl⟩
  go_wp2_with fail
  refine (HP.out _ h1).mono ?_
  rintro e w3 ⟨rfl, h3, k3⟩
  have hR3 := hR1.kept k3 (by show ¬ w.heap.size = b; omega)
  have LL : LE b s (typedS (f + 1) s σ) (.mk 1 ⟨#[]⟩ []) w3 := (LE.set h3 _).eq HQ.out.symm
  have ag0 : w3.cell? ⟨w.heap.size, 0, none⟩ = some (.int .i64 0) := hR3.cell 0
  have af0 : w3.frozen? ⟨w.heap.size, 0, none⟩ = false := hR3.frozen 0
  have ag1 : w3.cell? ⟨w.heap.size, 1, none⟩ = some (.string ⟨#[]⟩) := hR3.cell 1
  have af1 : w3.frozen? ⟨w.heap.size, 1, none⟩ = false := hR3.frozen 1
  have ag2 : w3.cell? ⟨w.heap.size, 2, none⟩ = some (.slice none 0 0) := hR3.cell 2
  have af2 : w3.frozen? ⟨w.heap.size, 2, none⟩ = false := hR3.frozen 2
  go_wp2_with fail
  exact ret_lty Tryz.results44 (t := Ty.mk 1 ⟨#[]⟩ []) rfl rfl (r3 hR3 rfl) (.nil (Or.inl rfl)) (LL.s3 (by omega)) (k3w (K1.trans k3) (Nat.le_refl _))
set_option maxHeartbeats 8000000 in
theorem rtyp_none {w : World} {b : Nat} {s : ByteArray} {σ : PS} {f : Nat} (h : RR w b s (.ok σ)) (hn : ¬ (σ.k = 1 ∧ identB σ.tx = true)) (h1k : ((lexW s σ.ta).1 == 1) = false) (hI : isS σ kInt = false) (hS : isS σ kSet = false) (hP : isS σ kPair = false) : Calls Tryz.prog 44 #[.pointer (some ⟨b, 0, none⟩)] w (LV b s (VTy w.heap.size) (typedS (f + 1) s σ) w) := by
  obtain ⟨hat, tk⟩ := h.st
  have hz := lex_le tk h.src
  have HI := Lib.hid ((is_lex tk kInt).trans hI)
  have HS := Lib.hid ((is_lex tk kSet).trans hS)
  have HPP := Lib.hid ((is_lex tk kPair).trans hP)
  have HQ := Lib.hid (typed_n (s := s) (f := f) hn hI hS hP)
  clear hn hI hS hP
  generalize hkk : (lexW s σ.ta).1 = k at *
  generalize hxx : (lexW s σ.ta).2 = x at *
  clear hkk hxx
  have hs := h.src
  have hlt := h.lt
  have hR0 : Blk (w.alloc (.cells #[.int .i64 0, .string ⟨#[]⟩, .slice none 0 0] 24)) w.heap.size 24 z24 := Blk.new w 24 z24
  have hat0 := hat.grow (((Kept.refl _ _).alloc (.cells #[.int .i64 0, .string ⟨#[]⟩, .slice none 0 0] 24)).alloc (.cells #[.int .i64 k, .string x, .int .i64 σ.ta] 55))
  have h1 := (h.alloc (.cells #[.int .i64 0, .string ⟨#[]⟩, .slice none 0 0] 24)).alloc (.cells #[.int .i64 k, .string x, .int .i64 σ.ta] 55)
  have hR1 := hR0.alloc (.cells #[.int .i64 k, .string x, .int .i64 σ.ta] 55)
  have K1 : Kept (· = b) w ((w.alloc (.cells #[.int .i64 0, .string ⟨#[]⟩, .slice none 0 0] 24)).alloc (.cells #[.int .i64 k, .string x, .int .i64 σ.ta] 55)) := ((Kept.refl _ _).alloc _).alloc _
  have hT1 : Blk ((w.alloc (.cells #[.int .i64 0, .string ⟨#[]⟩, .slice none 0 0] 24)).alloc (.cells #[.int .i64 k, .string x, .int .i64 σ.ta] 55)) (w.heap.size + 1) 55 [.int .i64 k, .string x, .int .i64 σ.ta] := Blk.new' 55 _ (by simp)
  have hat1 := hat.grow ((Kept.refl _ _).alloc (.cells #[.int .i64 0, .string ⟨#[]⟩, .slice none 0 0] 24))
  have c1 := hat1.c1
  have c2 := hat1.c2
  have c3 := hat1.c3
  go_enter Tryz.func44, Tryz.ntmps44
  go_wp2_with fail
  generalize ((w.alloc (.cells #[.int .i64 0, .string ⟨#[]⟩, .slice none 0 0] 24)).alloc (.cells #[.int .i64 k, .string x, .int .i64 σ.ta] 55)) = w1 at *
  refine (rok_any hat0 rfl).mono ?_
  rintro e w' ⟨rfl, rfl⟩
  have t0 : w1.cell? ⟨w.heap.size + 1, 0, none⟩ = some (.int .i64 k) := hT1.cell 0
  have t1 : w1.cell? ⟨w.heap.size + 1, 1, none⟩ = some (.string x) := hT1.cell 1
  have z1 := h1.lt
  have zT := hT1.lt
  go_wp2_with fail
  refine (ris_any hat0 kInt HI.out).mono ?_
  rintro e w' ⟨rfl, rfl⟩
  go_wp2_with fail
  refine (ris_any hat0 kSet HS.out).mono ?_
  rintro e w' ⟨rfl, rfl⟩
  go_wp2_with fail
  refine (ris_any hat0 kPair HPP.out).mono ?_
  rintro e w' ⟨rfl, rfl⟩
  go_wp2_with fail
  refine (rwrong_live hat0 rfl).mono ?_
  rintro e w3 ⟨rfl, h3, k3⟩
  have hR3 := hR1.kept k3 (by show ¬ w.heap.size = b; omega)
  have LL : LE b s (typedS (f + 1) s σ) ty0 w3 := by rw [HQ.out]; exact RR.wrong (r := (false, σ.ta)) hs rfl h3
  have ag0 : w3.cell? ⟨w.heap.size, 0, none⟩ = some (.int .i64 0) := hR3.cell 0
  have af0 : w3.frozen? ⟨w.heap.size, 0, none⟩ = false := hR3.frozen 0
  have ag1 : w3.cell? ⟨w.heap.size, 1, none⟩ = some (.string ⟨#[]⟩) := hR3.cell 1
  have af1 : w3.frozen? ⟨w.heap.size, 1, none⟩ = false := hR3.frozen 1
  have ag2 : w3.cell? ⟨w.heap.size, 2, none⟩ = some (.slice none 0 0) := hR3.cell 2
  have af2 : w3.frozen? ⟨w.heap.size, 2, none⟩ = false := hR3.frozen 2
  go_wp2_with fail
  exact ret_lty Tryz.results44 (t := ty0) rfl rfl (r3 hR3 rfl) (.nil (Or.inl rfl)) (LL.s3 (by omega)) (k3w (K1.trans k3) (Nat.le_refl _))
set_option maxHeartbeats 8000000 in
theorem rtyp_prim {w : World} {b : Nat} {s : ByteArray} {σ : PS} {f : Nat} (h : RR w b s (.ok σ)) (hn : ¬ (σ.k = 1 ∧ identB σ.tx = true)) (h1k : (lexW s σ.ta).1 = 1) (hpr : primB (lexW s σ.ta).2 = true) : Calls Tryz.prog 44 #[.pointer (some ⟨b, 0, none⟩)] w (LV b s (VTy w.heap.size) (typedS (f + 1) s σ) w) := by
  obtain ⟨hat, tk⟩ := h.st
  have hz := lex_le tk h.src
  have nI : ∀ t, isS σ t = false := fun t => by rw [← is_lex tk t, isR, h1k]; rfl
  have hI := nI kInt
  have hS := nI kSet
  have hP := nI kPair
  clear nI
  have HI := Lib.hid ((is_lex tk kInt).trans hI)
  have HS := Lib.hid ((is_lex tk kSet).trans hS)
  have HPP := Lib.hid ((is_lex tk kPair).trans hP)
  have HQ := Lib.hid (typed_n (s := s) (f := f) hn hI hS hP)
  clear hn hI hS hP
  rw [h1k] at hat HI HS HPP
  have HPR := Lib.hid hpr
  clear hpr h1k
  generalize hxx : (lexW s σ.ta).2 = x at *
  clear hxx
  have hs := h.src
  have hlt := h.lt
  have hR0 : Blk (w.alloc (.cells #[.int .i64 0, .string ⟨#[]⟩, .slice none 0 0] 24)) w.heap.size 24 z24 := Blk.new w 24 z24
  have hat0 := hat.grow (((Kept.refl _ _).alloc (.cells #[.int .i64 0, .string ⟨#[]⟩, .slice none 0 0] 24)).alloc (.cells #[.int .i64 1, .string x, .int .i64 σ.ta] 55))
  have h1 := (h.alloc (.cells #[.int .i64 0, .string ⟨#[]⟩, .slice none 0 0] 24)).alloc (.cells #[.int .i64 1, .string x, .int .i64 σ.ta] 55)
  have hR1 := hR0.alloc (.cells #[.int .i64 1, .string x, .int .i64 σ.ta] 55)
  have K1 : Kept (· = b) w ((w.alloc (.cells #[.int .i64 0, .string ⟨#[]⟩, .slice none 0 0] 24)).alloc (.cells #[.int .i64 1, .string x, .int .i64 σ.ta] 55)) := ((Kept.refl _ _).alloc _).alloc _
  have hT1 : Blk ((w.alloc (.cells #[.int .i64 0, .string ⟨#[]⟩, .slice none 0 0] 24)).alloc (.cells #[.int .i64 1, .string x, .int .i64 σ.ta] 55)) (w.heap.size + 1) 55 [.int .i64 1, .string x, .int .i64 σ.ta] := Blk.new' 55 _ (by simp)
  have hat1 := hat.grow ((Kept.refl _ _).alloc (.cells #[.int .i64 0, .string ⟨#[]⟩, .slice none 0 0] 24))
  have c1 := hat1.c1
  have c2 := hat1.c2
  have c3 := hat1.c3
  go_enter Tryz.func44, Tryz.ntmps44
  go_wp2_with fail
  generalize ((w.alloc (.cells #[.int .i64 0, .string ⟨#[]⟩, .slice none 0 0] 24)).alloc (.cells #[.int .i64 1, .string x, .int .i64 σ.ta] 55)) = w1 at *
  refine (rok_any hat0 rfl).mono ?_
  rintro e w' ⟨rfl, rfl⟩
  have t0 : w1.cell? ⟨w.heap.size + 1, 0, none⟩ = some (.int .i64 1) := hT1.cell 0
  have t1 : w1.cell? ⟨w.heap.size + 1, 1, none⟩ = some (.string x) := hT1.cell 1
  have z1 := h1.lt
  have zT := hT1.lt
  go_wp2_with fail
  refine (primed_any x w1 hz HPR.out).mono ?_
  rintro e w2 ⟨rfl, k2⟩
  have h2 := h1.kept k2 id
  have hat2 := hat0.kept k2 id
  have K2 := K1.trans (k2.mono (fun _ _ h => h.elim))
  have hR2 := hR1.kept k2 id
  clear hat0 hR1 K1 hat1 hT1 t0 t1
  go_wp2_with fail
  refine (ris_any hat2 kInt HI.out).mono ?_
  rintro e w' ⟨rfl, rfl⟩
  go_wp2_with fail
  refine (ris_any hat2 kSet HS.out).mono ?_
  rintro e w' ⟨rfl, rfl⟩
  go_wp2_with fail
  refine (ris_any hat2 kPair HPP.out).mono ?_
  rintro e w' ⟨rfl, rfl⟩
  go_wp2_with fail
  refine (rwrong_live hat2 rfl).mono ?_
  rintro e w3 ⟨rfl, h3, k3⟩
  have hR3 := hR2.kept k3 (by show ¬ w.heap.size = b; omega)
  have LL : LE b s (typedS (f + 1) s σ) ty0 w3 := by rw [HQ.out]; exact RR.wrong (r := (false, σ.ta)) hs rfl h3
  have ag0 : w3.cell? ⟨w.heap.size, 0, none⟩ = some (.int .i64 0) := hR3.cell 0
  have af0 : w3.frozen? ⟨w.heap.size, 0, none⟩ = false := hR3.frozen 0
  have ag1 : w3.cell? ⟨w.heap.size, 1, none⟩ = some (.string ⟨#[]⟩) := hR3.cell 1
  have af1 : w3.frozen? ⟨w.heap.size, 1, none⟩ = false := hR3.frozen 1
  have ag2 : w3.cell? ⟨w.heap.size, 2, none⟩ = some (.slice none 0 0) := hR3.cell 2
  have af2 : w3.frozen? ⟨w.heap.size, 2, none⟩ = false := hR3.frozen 2
  go_wp2_with fail
  exact ret_lty Tryz.results44 (t := ty0) rfl rfl (r3 hR3 rfl) (.nil (Or.inl rfl)) (LL.s3 (by omega)) (k3w (K2.trans k3) (Nat.le_refl _))
theorem typed_s {s : ByteArray} {σ : PS} {f : Nat} (hn : ¬ (σ.k = 1 ∧ identB σ.tx = true)) (hI : isS σ kInt = false) (hS : isS σ kSet = true) :
    typedS (f + 1) s σ = bT (bT (bP (bP (advS s σ) fun σ => openS s σ kLpar) (typedS f s)) fun a' σ => bP (shutS s σ kRpar) fun σ' => .ok (a', σ')) fun a' σ => .ok (Ty.mk 5 ⟨#[]⟩ [a'], σ) := by
  rw [typedS, if_neg hn, if_neg (by rw [hI]; simp), if_pos hS]
  cases advS s σ with
  | error _ => rfl
  | ok σ1 =>
    dsimp only [bP]
    cases openS s σ1 kLpar with
    | error _ => rfl
    | ok σ2 =>
      dsimp only
      cases typedS f s σ2 with
      | error _ => rfl
      | ok q =>
        obtain ⟨t, σ3⟩ := q
        dsimp only [bT]
        cases shutS s σ3 kRpar <;> rfl
theorem typed_p {s : ByteArray} {σ : PS} {f : Nat} (hn : ¬ (σ.k = 1 ∧ identB σ.tx = true)) (hI : isS σ kInt = false) (hS : isS σ kSet = false) (hP : isS σ kPair = true) :
    typedS (f + 1) s σ = bT (bT (bT (bT (bP (bP (advS s σ) fun σ => openS s σ kLpar) (typedS f s)) fun a' σ => bP (wantS s σ kComma) fun σ' => .ok (a', σ')) fun a' σ => bT (typedS f s σ) fun a2' σ' => .ok ((a', a2'), σ')) fun a' σ => bP (shutS s σ kRpar) fun σ' => .ok (a', σ')) fun a' σ => .ok (Ty.mk 4 ⟨#[]⟩ [a'.1, a'.2], σ) := by
  rw [typedS, if_neg hn, if_neg (by rw [hI]; simp), if_neg (by rw [hS]; simp), if_pos hP]
  cases advS s σ with
  | error _ => rfl
  | ok σ1 =>
    dsimp only [bP]
    cases openS s σ1 kLpar with
    | error _ => rfl
    | ok σ2 =>
      dsimp only
      cases typedS f s σ2 with
      | error _ => rfl
      | ok q =>
        obtain ⟨t, σ3⟩ := q
        dsimp only [bT]
        cases wantS s σ3 kComma with
        | error _ => rfl
        | ok σ4 =>
          dsimp only
          cases typedS f s σ4 with
          | error _ => rfl
          | ok q =>
            obtain ⟨u, σ5⟩ := q
            dsimp only
            cases shutS s σ5 kRpar <;> rfl
set_option maxHeartbeats 8000000 in
theorem rtyp_set {w : World} {b : Nat} {s : ByteArray} {σ : PS} {f : Nat} (h : RR w b s (.ok σ)) (ih : RTY b s f) (hp : σ.p ≤ s.size) (hm : mu s σ < f + 1) (hn : ¬ (σ.k = 1 ∧ identB σ.tx = true)) (h1k : ((lexW s σ.ta).1 == 1) = false) (hI : isS σ kInt = false) (hS : isS σ kSet = true) : Calls Tryz.prog 44 #[.pointer (some ⟨b, 0, none⟩)] w (LV b s (VTy w.heap.size) (typedS (f + 1) s σ) w) := by
  obtain ⟨hat, tk⟩ := h.st
  have hz := lex_le tk h.src
  have HP := Lib.hid (pass_is (b := b) tk hS (by decide +kernel) (by decide +kernel))
  have HI := Lib.hid ((is_lex tk kInt).trans hI)
  have HS := Lib.hid ((is_lex tk kSet).trans hS)
  have HQ := Lib.hid (typed_s (s := s) (f := f) hn hI hS)
  have QA := Lib.hid (qb_adv hp (isS_ne hS))
  have mpos : 1 ≤ mu s σ := by have := isS_ne hS; unfold mu; rw [if_neg this]; omega
  have HM := Lib.hid (show mu s σ - 1 - 1 < f by omega)
  have HM2 := Lib.hid (show mu s σ - 1 - 1 - 1 < f by omega)
  have IH := Lib.hid ih
  clear ih hm mpos hn hI hS
  generalize hkk : (lexW s σ.ta).1 = k at *
  generalize hxx : (lexW s σ.ta).2 = x at *
  clear hkk hxx
  have hs := h.src
  have hlt := h.lt
  have hR0 : Blk (w.alloc (.cells #[.int .i64 0, .string ⟨#[]⟩, .slice none 0 0] 24)) w.heap.size 24 z24 := Blk.new w 24 z24
  have hat0 := hat.grow (((Kept.refl _ _).alloc (.cells #[.int .i64 0, .string ⟨#[]⟩, .slice none 0 0] 24)).alloc (.cells #[.int .i64 k, .string x, .int .i64 σ.ta] 55))
  have h1 := (h.alloc (.cells #[.int .i64 0, .string ⟨#[]⟩, .slice none 0 0] 24)).alloc (.cells #[.int .i64 k, .string x, .int .i64 σ.ta] 55)
  have hR1 := hR0.alloc (.cells #[.int .i64 k, .string x, .int .i64 σ.ta] 55)
  have K1 : Kept (· = b) w ((w.alloc (.cells #[.int .i64 0, .string ⟨#[]⟩, .slice none 0 0] 24)).alloc (.cells #[.int .i64 k, .string x, .int .i64 σ.ta] 55)) := ((Kept.refl _ _).alloc _).alloc _
  have hT1 : Blk ((w.alloc (.cells #[.int .i64 0, .string ⟨#[]⟩, .slice none 0 0] 24)).alloc (.cells #[.int .i64 k, .string x, .int .i64 σ.ta] 55)) (w.heap.size + 1) 55 [.int .i64 k, .string x, .int .i64 σ.ta] := Blk.new' 55 _ (by simp)
  have hat1 := hat.grow ((Kept.refl _ _).alloc (.cells #[.int .i64 0, .string ⟨#[]⟩, .slice none 0 0] 24))
  have c1 := hat1.c1
  have c2 := hat1.c2
  have c3 := hat1.c3
  go_enter Tryz.func44, Tryz.ntmps44
  go_wp2_with fail
  generalize ((w.alloc (.cells #[.int .i64 0, .string ⟨#[]⟩, .slice none 0 0] 24)).alloc (.cells #[.int .i64 k, .string x, .int .i64 σ.ta] 55)) = w1 at *
  refine (rok_any hat0 rfl).mono ?_
  rintro e w' ⟨rfl, rfl⟩
  have t0 : w1.cell? ⟨w.heap.size + 1, 0, none⟩ = some (.int .i64 k) := hT1.cell 0
  have t1 : w1.cell? ⟨w.heap.size + 1, 1, none⟩ = some (.string x) := hT1.cell 1
  have z1 := h1.lt
  have zT := hT1.lt
  go_wp2_with fail
  refine (ris_any hat0 kInt HI.out).mono ?_
  rintro e w' ⟨rfl, rfl⟩
  go_wp2_with fail
  refine (ris_any hat0 kSet HS.out).mono ?_
  rintro e w' ⟨rfl, rfl⟩
  go_wp2_with fail
  refine (HP.out _ h1).mono ?_
  rintro e w2 ⟨rfl, h2, k2⟩
  have hR2 := hR1.kept k2 (by show ¬ w.heap.size = b; omega)
  have K2 := K1.trans k2
  go_wp2_with fail
  refine (rmust_open h2 kLpar (by decide +kernel)).mono ?_
  rintro e w3 ⟨rfl, h3, k3⟩
  have hR3 := hR2.kept k3 (by show ¬ w.heap.size = b; omega)
  have K3 := K2.trans k3
  have q3 := qb_open QA.out kLpar
  have Q3 := Lib.hid q3
  have l3 := hR3.lt
  have b3 := h3.lt
  go_wp2_with fail
  refine (IH.out.at h3 q3 HM.out).mono ?_
  rintro e w4 ⟨t, v, rfl, ⟨tk4, rfl, at4⟩, le4, k4⟩
  clear q3
  obtain ⟨ta, tn, tc, rfl⟩ := at4.slice
  unfold tyVal
  have hR4 := hR3.kept k4 (by show ¬ w.heap.size = b; omega)
  have K4 := K3.trans k4
  have Q4 := Lib.hid (qb_ty f Q3.out)
  have hR5 := hR4.alloc (.cells #[.int .i64 t.kind, .string t.name, .slice ta tn tc] 24)
  have K5 := K4.alloc (.cells #[.int .i64 t.kind, .string t.name, .slice ta tn tc] 24)
  have L5 := le4.alloc (.cells #[.int .i64 t.kind, .string t.name, .slice ta tn tc] 24)
  have hA5 : Blk (w4.alloc (.cells #[.int .i64 t.kind, .string t.name, .slice ta tn tc] 24)) w4.heap.size 24 [.int .i64 t.kind, .string t.name, .slice ta tn tc] := Blk.new w4 24 _
  have a5 := at4.frame (Same.alloc _ (.cells #[.int .i64 t.kind, .string t.name, .slice ta tn tc] 24))
  have z4 := k4.size
  have l4 := hR4.lt
  have b4 := le4.rr.lt
  go_wp2_with fail
  refine (rmust_shut L5.rr kRpar (by decide +kernel) (fun σ e => by have := (Q4.out σ e).2.2; omega)).mono ?_
  rintro e w6 ⟨rfl, h6, k6⟩
  have L6 := (L5.then_u h6).map (fun a => Ty.mk 5 ⟨#[]⟩ [a])
  have hR6 := hR5.kept k6 (by show ¬ w.heap.size = b; omega)
  have hA6 := hA5.kept k6 (by show ¬ w4.heap.size = b; omega)
  have a6 := a5.frame (Same.of_kept k6 (fun k h e => by omega))
  have K6 := K5.trans k6
  have y0 : w6.cell? ⟨w4.heap.size, 0, none⟩ = some (.int .i64 t.kind) := hA6.cell 0
  have y1 : w6.cell? ⟨w4.heap.size, 1, none⟩ = some (.string t.name) := hA6.cell 1
  have y2 : w6.cell? ⟨w4.heap.size, 2, none⟩ = some (.slice ta tn tc) := hA6.cell 2
  have l6 : w.heap.size < w6.heap.size := hR6.lt
  have z6 := K6.size
  have ag0 : w6.cell? ⟨w.heap.size, 0, none⟩ = some (.int .i64 0) := hR6.cell 0
  have af0 : w6.frozen? ⟨w.heap.size, 0, none⟩ = false := hR6.frozen 0
  have ag1 : w6.cell? ⟨w.heap.size, 1, none⟩ = some (.string ⟨#[]⟩) := hR6.cell 1
  have af1 : w6.frozen? ⟨w.heap.size, 1, none⟩ = false := hR6.frozen 1
  have ag2 : w6.cell? ⟨w.heap.size, 2, none⟩ = some (.slice none 0 0) := hR6.cell 2
  have af2 : w6.frozen? ⟨w.heap.size, 2, none⟩ = false := hR6.frozen 2
  go_wp2_with fail
  refine ret_lty Tryz.results44 (t := Ty.mk 5 ⟨#[]⟩ [t]) rfl rfl ((r3 hR6 rfl).alloc _) ?_ (((L6.eq HQ.out.symm).s3 (by omega)).alloc _) ((k3w K6 (Nat.le_refl _)).alloc _)
  refine TyL.one (r := []) (ty := 24) (by omega) (Nat.le_refl _) (Blk.new' 24 _ (by simp)) ?_
  exact ((a6.frame (same3 (R := w.heap.size) (by omega))).frame (Same.alloc _ _)).mono (fun k _ h => by omega)
set_option maxHeartbeats 8000000 in
theorem rtyp_pair {w : World} {b : Nat} {s : ByteArray} {σ : PS} {f : Nat} (h : RR w b s (.ok σ)) (ih : RTY b s f) (hp : σ.p ≤ s.size) (hm : mu s σ < f + 1) (hn : ¬ (σ.k = 1 ∧ identB σ.tx = true)) (h1k : ((lexW s σ.ta).1 == 1) = false) (hI : isS σ kInt = false) (hS : isS σ kSet = false) (hP : isS σ kPair = true) : Calls Tryz.prog 44 #[.pointer (some ⟨b, 0, none⟩)] w (LV b s (VTy w.heap.size) (typedS (f + 1) s σ) w) := by
  obtain ⟨hat, tk⟩ := h.st
  have hz := lex_le tk h.src
  have HP := Lib.hid (pass_is (b := b) tk hP (by decide +kernel) (by decide +kernel))
  have HI := Lib.hid ((is_lex tk kInt).trans hI)
  have HS := Lib.hid ((is_lex tk kSet).trans hS)
  have HPP := Lib.hid ((is_lex tk kPair).trans hP)
  have HQ := Lib.hid (typed_p (s := s) (f := f) hn hI hS hP)
  have QA := Lib.hid (qb_adv hp (isS_ne hP))
  have mpos : 1 ≤ mu s σ := by have := isS_ne hP; unfold mu; rw [if_neg this]; omega
  have HM := Lib.hid (show mu s σ - 1 - 1 < f by omega)
  have HM2 := Lib.hid (show mu s σ - 1 - 1 - 1 < f by omega)
  have IH := Lib.hid ih
  clear ih hm mpos hn hI hS hP
  generalize hkk : (lexW s σ.ta).1 = k at *
  generalize hxx : (lexW s σ.ta).2 = x at *
  clear hkk hxx
  have hs := h.src
  have hlt := h.lt
  have hR0 : Blk (w.alloc (.cells #[.int .i64 0, .string ⟨#[]⟩, .slice none 0 0] 24)) w.heap.size 24 z24 := Blk.new w 24 z24
  have hat0 := hat.grow (((Kept.refl _ _).alloc (.cells #[.int .i64 0, .string ⟨#[]⟩, .slice none 0 0] 24)).alloc (.cells #[.int .i64 k, .string x, .int .i64 σ.ta] 55))
  have h1 := (h.alloc (.cells #[.int .i64 0, .string ⟨#[]⟩, .slice none 0 0] 24)).alloc (.cells #[.int .i64 k, .string x, .int .i64 σ.ta] 55)
  have hR1 := hR0.alloc (.cells #[.int .i64 k, .string x, .int .i64 σ.ta] 55)
  have K1 : Kept (· = b) w ((w.alloc (.cells #[.int .i64 0, .string ⟨#[]⟩, .slice none 0 0] 24)).alloc (.cells #[.int .i64 k, .string x, .int .i64 σ.ta] 55)) := ((Kept.refl _ _).alloc _).alloc _
  have hT1 : Blk ((w.alloc (.cells #[.int .i64 0, .string ⟨#[]⟩, .slice none 0 0] 24)).alloc (.cells #[.int .i64 k, .string x, .int .i64 σ.ta] 55)) (w.heap.size + 1) 55 [.int .i64 k, .string x, .int .i64 σ.ta] := Blk.new' 55 _ (by simp)
  have hat1 := hat.grow ((Kept.refl _ _).alloc (.cells #[.int .i64 0, .string ⟨#[]⟩, .slice none 0 0] 24))
  have c1 := hat1.c1
  have c2 := hat1.c2
  have c3 := hat1.c3
  go_enter Tryz.func44, Tryz.ntmps44
  go_wp2_with fail
  generalize ((w.alloc (.cells #[.int .i64 0, .string ⟨#[]⟩, .slice none 0 0] 24)).alloc (.cells #[.int .i64 k, .string x, .int .i64 σ.ta] 55)) = w1 at *
  refine (rok_any hat0 rfl).mono ?_
  rintro e w' ⟨rfl, rfl⟩
  have t0 : w1.cell? ⟨w.heap.size + 1, 0, none⟩ = some (.int .i64 k) := hT1.cell 0
  have t1 : w1.cell? ⟨w.heap.size + 1, 1, none⟩ = some (.string x) := hT1.cell 1
  have z1 := h1.lt
  have zT := hT1.lt
  go_wp2_with fail
  refine (ris_any hat0 kInt HI.out).mono ?_
  rintro e w' ⟨rfl, rfl⟩
  go_wp2_with fail
  refine (ris_any hat0 kSet HS.out).mono ?_
  rintro e w' ⟨rfl, rfl⟩
  go_wp2_with fail
  refine (ris_any hat0 kPair HPP.out).mono ?_
  rintro e w' ⟨rfl, rfl⟩
  go_wp2_with fail
  refine (HP.out _ h1).mono ?_
  rintro e w2 ⟨rfl, h2, k2⟩
  have hR2 := hR1.kept k2 (by show ¬ w.heap.size = b; omega)
  have K2 := K1.trans k2
  go_wp2_with fail
  refine (rmust_open h2 kLpar (by decide +kernel)).mono ?_
  rintro e w3 ⟨rfl, h3, k3⟩
  have hR3 := hR2.kept k3 (by show ¬ w.heap.size = b; omega)
  have K3 := K2.trans k3
  have q3 := qb_open QA.out kLpar
  have Q3 := Lib.hid q3
  have l3 := hR3.lt
  have b3 := h3.lt
  go_wp2_with fail
  refine (IH.out.at h3 q3 HM.out).mono ?_
  rintro e w4 ⟨t, v, rfl, ⟨tk4, rfl, at4⟩, le4, k4⟩
  clear q3
  obtain ⟨ta, tn, tc, rfl⟩ := at4.slice
  unfold tyVal
  have hR4 := hR3.kept k4 (by show ¬ w.heap.size = b; omega)
  have K4 := K3.trans k4
  have Q4 := Lib.hid (qb_ty f Q3.out)
  have hR5 := hR4.alloc (.cells #[.int .i64 t.kind, .string t.name, .slice ta tn tc] 24)
  have K5 := K4.alloc (.cells #[.int .i64 t.kind, .string t.name, .slice ta tn tc] 24)
  have L5 := le4.alloc (.cells #[.int .i64 t.kind, .string t.name, .slice ta tn tc] 24)
  have hA5 : Blk (w4.alloc (.cells #[.int .i64 t.kind, .string t.name, .slice ta tn tc] 24)) w4.heap.size 24 [.int .i64 t.kind, .string t.name, .slice ta tn tc] := Blk.new w4 24 _
  have a5 := at4.frame (Same.alloc _ (.cells #[.int .i64 t.kind, .string t.name, .slice ta tn tc] 24))
  have z4 := k4.size
  have l4 := hR4.lt
  have b4 := le4.rr.lt
  go_wp2_with fail
  refine (rmust_want L5.rr kComma (by decide +kernel) (by decide +kernel)).mono ?_
  rintro e w6 ⟨rfl, h6, k6⟩
  have L6 := L5.then_u h6
  have hR6 := hR5.kept k6 (by show ¬ w.heap.size = b; omega)
  have hA6 := hA5.kept k6 (by show ¬ w4.heap.size = b; omega)
  have a6 := a5.frame (Same.of_kept k6 (fun k h e => by omega))
  have K6 := K5.trans k6
  have q6 := qb_u (qb_want Q4.out kComma)
  have Q6 := Lib.hid q6
  have z6 := k6.size
  have lA6 := hA6.lt
  have b6 := L6.rr.lt
  have l6 := hR6.lt
  go_wp2_with fail
  refine (IH.out.at L6.rr q6 HM2.out).mono ?_
  rintro e w7 ⟨u, v, rfl, ⟨tk7, rfl, at7⟩, le7, k7⟩
  clear q6
  obtain ⟨ua, un, uc, rfl⟩ := at7.slice
  unfold tyVal
  have L7 := L6.then_v le7
  have hR7 := (hR6.kept k7 (by show ¬ w.heap.size = b; omega)).alloc (.cells #[.int .i64 u.kind, .string u.name, .slice ua un uc] 24)
  have hA7 := (hA6.kept k7 (by show ¬ w4.heap.size = b; omega)).alloc (.cells #[.int .i64 u.kind, .string u.name, .slice ua un uc] 24)
  have a7 := (a6.frame (Same.of_kept k7 (fun k h e => by omega))).frame (Same.alloc _ (.cells #[.int .i64 u.kind, .string u.name, .slice ua un uc] 24))
  have K7 := (K6.trans k7).alloc (.cells #[.int .i64 u.kind, .string u.name, .slice ua un uc] 24)
  have Q7 := Lib.hid (qb_v (qb_ty f Q6.out))
  have L8 := L7.alloc (.cells #[.int .i64 u.kind, .string u.name, .slice ua un uc] 24)
  have hB7 : Blk (w7.alloc (.cells #[.int .i64 u.kind, .string u.name, .slice ua un uc] 24)) w7.heap.size 24 [.int .i64 u.kind, .string u.name, .slice ua un uc] := Blk.new w7 24 _
  have u7 := at7.frame (Same.alloc _ (.cells #[.int .i64 u.kind, .string u.name, .slice ua un uc] 24))
  have z7 := k7.size
  have b7 := L7.rr.lt
  go_wp2_with fail
  refine (rmust_shut L8.rr kRpar (by decide +kernel) (fun σ e => by have := (Q7.out σ e).2.2; omega)).mono ?_
  rintro e w8 ⟨rfl, h8, k8⟩
  have L9 := (L8.then_u h8).map (fun a => Ty.mk 4 ⟨#[]⟩ [a.1, a.2])
  have hR8 := hR7.kept k8 (by show ¬ w.heap.size = b; omega)
  have hA8 := hA7.kept k8 (by show ¬ w4.heap.size = b; omega)
  have hB8 := hB7.kept k8 (by show ¬ w7.heap.size = b; omega)
  have a8 := a7.frame (Same.of_kept k8 (fun k h e => by omega))
  have u8 := u7.frame (Same.of_kept k8 (fun k h e => by omega))
  have K8 := K7.trans k8
  have y0 : w8.cell? ⟨w4.heap.size, 0, none⟩ = some (.int .i64 t.kind) := hA8.cell 0
  have y1 : w8.cell? ⟨w4.heap.size, 1, none⟩ = some (.string t.name) := hA8.cell 1
  have y2 : w8.cell? ⟨w4.heap.size, 2, none⟩ = some (.slice ta tn tc) := hA8.cell 2
  have x0 : w8.cell? ⟨w7.heap.size, 0, none⟩ = some (.int .i64 u.kind) := hB8.cell 0
  have x1 : w8.cell? ⟨w7.heap.size, 1, none⟩ = some (.string u.name) := hB8.cell 1
  have x2 : w8.cell? ⟨w7.heap.size, 2, none⟩ = some (.slice ua un uc) := hB8.cell 2
  have l8 : w.heap.size < w8.heap.size := hR8.lt
  have z8 := K8.size
  have ag0 : w8.cell? ⟨w.heap.size, 0, none⟩ = some (.int .i64 0) := hR8.cell 0
  have af0 : w8.frozen? ⟨w.heap.size, 0, none⟩ = false := hR8.frozen 0
  have ag1 : w8.cell? ⟨w.heap.size, 1, none⟩ = some (.string ⟨#[]⟩) := hR8.cell 1
  have af1 : w8.frozen? ⟨w.heap.size, 1, none⟩ = false := hR8.frozen 1
  have ag2 : w8.cell? ⟨w.heap.size, 2, none⟩ = some (.slice none 0 0) := hR8.cell 2
  have af2 : w8.frozen? ⟨w.heap.size, 2, none⟩ = false := hR8.frozen 2
  go_wp2_with fail
  refine ret_lty Tryz.results44 (t := Ty.mk 4 ⟨#[]⟩ [t, u]) rfl rfl ((r3 hR8 rfl).alloc _) ?_ (((L9.eq HQ.out.symm).s3 (by omega)).alloc _) ((k3w K8 (Nat.le_refl _)).alloc _)
  refine TyL.two (ty := 24) (by omega) (Nat.le_refl _) (Blk.new' 24 _ (by simp)) ?_ ?_
  · exact ((a8.frame (same3 (R := w.heap.size) (by omega))).frame (Same.alloc _ _)).mono (fun k _ h => by omega)
  · exact ((u8.frame (same3 (R := w.heap.size) (by omega))).frame (Same.alloc _ _)).mono (fun k _ h => by omega)
theorem rtyp_any {b : Nat} {s : ByteArray} (f : Nat) : RTY b s f := by
  induction f with
  | zero =>
    intro q w h hq
    match q, h with
    | .error r, h => exact rtyp_err h
    | .ok σ, h => have := (hq σ rfl).1; omega
  | succ f ih =>
    intro q w h hq
    match q, h with
    | .error r, h => exact rtyp_err h
    | .ok σ, h =>
      obtain ⟨hm, hp⟩ := hq σ rfl
      show Calls _ _ _ _ (LV b s _ (typedS (f + 1) s σ) w)
      by_cases hc : σ.k = 1 ∧ identB σ.tx = true
      · exact rtyp_car h hc
      · rcases tok_no (h.tk rfl) hc with h1 | ⟨h1, h2⟩
        · cases hI : isS σ kInt
          · cases hS : isS σ kSet
            · cases hP : isS σ kPair
              · exact rtyp_none h hc h1 hI hS hP
              · exact rtyp_pair h ih hp hm hc h1 hI hS hP
            · exact rtyp_set h ih hp hm hc h1 hI hS
          · exact rtyp_int h hc h1 hI
        · exact rtyp_prim h hc h1 h2
end Go.Proofs.YtckjlliobebodaaGreatDoor
/- The document's ValidType and SameType. -/
set_option linter.unusedVariables false
set_option linter.unusedSimpArgs false
namespace Go.Proofs.YtckjlliobebodaaGreatDoor
open Go.RowKit
def tdR (r : Bool × Nat) : Int := if r.1 = true then (r.2 : Int) else -1
/-- The contract of the document's typed at one type. -/
def RdC (t : Ty) : Prop := ∀ (w : World) (ok : Nat → Prop) (c d : Nat) (tk : Value), c ≤ 16 → 1 ≤ d → d ≤ 7 → TyL ok w t.kids tk →
  Calls Tryz.prog 61 #[tyVal t tk, .int .i64 d, .int .i64 c] w fun e w' => e = .returned (.int .i64 (tdR (tfS 16 6 t d (decide (1 < d)) c))) ∧ Kept (fun _ => False) w w'
theorem rident_t {s : ByteArray} {v : Bool} (h : identB s = v) (hs : s.size ≤ 9223372036854775807) (w : World) :
    Calls Tryz.prog 19 #[.string s] w fun e w' => e = .returned (.bool v) ∧ Kept (fun _ => False) w w' := by rw [← h]; exact rident_any s w hs
theorem td_no {k : Int} {nm : ByteArray} {l : List Ty} {d c : Nat} (h : ((decide (c + 1 ≤ 16) && decide (d ≤ 6)) && tyHead k nm l.length (decide (1 < d))) = false) : tdR (tfS 16 6 (.mk k nm l) d (decide (1 < d)) c) = -1 := by
  rw [tf_eq, h]; rfl
theorem td_yes {k : Int} {nm : ByteArray} {l : List Ty} {d c : Nat} (hc : c + 1 ≤ 16) (hd : d ≤ 6) (h : tyHead k nm l.length (decide (1 < d)) = true) : tfS 16 6 (.mk k nm l) d (decide (1 < d)) c = tfsS 16 6 l (d + 1) (c + 1) := by
  rw [tf_eq, decide_eq_true hc, decide_eq_true hd, h]; rfl
/-- Which way the head goes. -/
theorem head_ways (k : Int) (nm : ByteArray) (n : Nat) (wi : Bool) (h : tyHead k nm n wi = false) :
    (k = 2 ∧ wi = true) ∨ (¬ (k = 2 ∧ wi = true) ∧ (((k = 1 ∨ k = 2 ∨ k = 3) ∧ n ≠ 0) ∨ (k = 5 ∧ n ≠ 1) ∨ (k = 4 ∧ n ≠ 2) ∨ (k ≠ 1 ∧ k ≠ 2 ∧ k ≠ 3 ∧ k ≠ 4 ∧ k ≠ 5) ∨ (k = 3 ∧ n = 0 ∧ identB nm = false)
      ∨ (((k = 1 ∧ n = 0) ∨ (k = 2 ∧ n = 0) ∨ (k = 5 ∧ n = 1) ∨ (k = 4 ∧ n = 2)) ∧ (nm.toList == []) = false))) := by
  unfold tyHead at h
  by_cases k1 : k = 1
  · subst k1; simp at h; by_cases hn : n = 0 <;> simp_all
  by_cases k2 : k = 2
  · subst k2; simp at h; cases wi <;> by_cases hn : n = 0 <;> simp_all
  by_cases k3 : k = 3
  · subst k3; simp at h; by_cases hn : n = 0 <;> simp_all
  by_cases k4 : k = 4
  · subst k4; simp at h; by_cases hn : n = 2 <;> simp_all
  by_cases k5 : k = 5
  · subst k5; simp at h; by_cases hn : n = 1 <;> simp_all
  · exact Or.inr ⟨fun e => k2 e.1, Or.inr (Or.inr (Or.inr (Or.inl ⟨k1, k2, k3, k4, k5⟩)))⟩
set_option maxHeartbeats 8000000 in
/-- Where the head is wrong. -/
theorem rtyped_bad {k : Int} {nm : ByteArray} {a : Option Addr} {n cp c d : Nat} {w : World} (hsz : nm.size ≤ 9223372036854775807) (hc : c ≤ 16) (h1 : 1 ≤ d) (hd : d ≤ 7)
    (h : ((decide (c + 1 ≤ 16) && decide (d ≤ 6)) && tyHead k nm n (decide (1 < d))) = false) :
    Calls Tryz.prog 61 #[.agg #[.int .i64 k, .string nm, .slice a n cp], .int .i64 d, .int .i64 c] w fun e w' => e = .returned (.int .i64 (-1)) ∧ Kept (fun _ => False) w w' := by
  by_cases d6 : d ≤ 6
  case neg =>
    have i1 : decide ((6 : Int) < (d : Int)) = true := decide_eq_true (by omega)
    clear h
    go_enter Tryz.func61, Tryz.ntmps61
    go_wp2_with fail
    go_ret
    exact ⟨rfl, (Kept.refl _ _).alloc _⟩
  have i1 : decide ((6 : Int) < (d : Int)) = false := decide_eq_false (by omega)
  by_cases c6 : c + 1 ≤ 16
  case neg =>
    have i2 : decide ((16 : Int) < (c : Int) + 1) = true := decide_eq_true (by omega)
    clear h
    go_enter Tryz.func61, Tryz.ntmps61
    go_wp2_with fail
    go_ret
    exact ⟨rfl, (Kept.refl _ _).alloc _⟩
  have i2 : decide ((16 : Int) < (c : Int) + 1) = false := decide_eq_false (by omega)
  rw [decide_eq_true d6, decide_eq_true c6] at h
  have h' : tyHead k nm n (decide (1 < d)) = false := h
  clear h
  rcases head_ways k nm n _ h' with ⟨rfl, hw⟩ | ⟨hn2, hw⟩
  · have i3 : decide ((1 : Int) < (d : Int)) = true := by rw [← hw]; exact decide_eq_decide.2 (by omega)
    clear hw h'
    go_enter Tryz.func61, Tryz.ntmps61
    go_wp2_with fail
    go_ret
    exact ⟨rfl, (Kept.refl _ _).alloc _⟩
  clear h'
  rcases hw with ⟨hk, h0⟩ | ⟨rfl, h0⟩ | ⟨rfl, h0⟩ | ⟨k1, k2, k3, k4, k5⟩ | ⟨rfl, rfl, hI⟩ | ⟨hk, he⟩
  · have i4 : ((n : Int) != 0) = true := by rw [bne_iff_ne]; omega
    rcases hk with rfl | rfl | rfl
    · clear hn2
      go_enter Tryz.func61, Tryz.ntmps61
      go_wp2_with fail
      go_ret
      exact ⟨rfl, (Kept.refl _ _).alloc _⟩
    · have i3 : decide ((1 : Int) < (d : Int)) = false := decide_eq_false (fun h => hn2 (by simp; omega))
      clear hn2
      go_enter Tryz.func61, Tryz.ntmps61
      go_wp2_with fail
      go_ret
      exact ⟨rfl, (Kept.refl _ _).alloc _⟩
    · clear hn2
      go_enter Tryz.func61, Tryz.ntmps61
      go_wp2_with fail
      go_ret
      exact ⟨rfl, (Kept.refl _ _).alloc _⟩
  · have i4 : ((n : Int) != 1) = true := by rw [bne_iff_ne]; omega
    clear hn2
    go_enter Tryz.func61, Tryz.ntmps61
    go_wp2_with fail
    go_ret
    exact ⟨rfl, (Kept.refl _ _).alloc _⟩
  · have i4 : ((n : Int) != 2) = true := by rw [bne_iff_ne]; omega
    clear hn2
    go_enter Tryz.func61, Tryz.ntmps61
    go_wp2_with fail
    go_ret
    exact ⟨rfl, (Kept.refl _ _).alloc _⟩
  · have e1 : (k == 1) = false := beq_eq_false_iff_ne.2 k1
    have e2 : (k == 2) = false := beq_eq_false_iff_ne.2 k2
    have e3 : (k == 3) = false := beq_eq_false_iff_ne.2 k3
    have e4 : (k == 4) = false := beq_eq_false_iff_ne.2 k4
    have e5 : (k == 5) = false := beq_eq_false_iff_ne.2 k5
    clear hn2 k1 k2 k3 k4 k5
    go_enter Tryz.func61, Tryz.ntmps61
    go_wp2_with fail
    go_ret
    exact ⟨rfl, (Kept.refl _ _).alloc _⟩
  · clear hn2
    have HI := Lib.hid hI
    clear hI
    go_enter Tryz.func61, Tryz.ntmps61
    go_wp2_with (go_at_call 19; refine (rident_t HI.out hsz _).mono ?_; rintro e w1 ⟨rfl, k1⟩)
    go_ret
    exact ⟨rfl, ((Kept.refl _ _).alloc _).trans k1⟩
  · have he' : (nm.toList != []) = true := by rw [bne, he]; rfl
    have he2 : nm.toList.isEmpty = false := by cases h : nm.toList <;> simp_all
    rcases hk with ⟨rfl, rfl⟩ | ⟨rfl, rfl⟩ | ⟨rfl, rfl⟩ | ⟨rfl, rfl⟩
    · clear hn2 he
      go_enter Tryz.func61, Tryz.ntmps61
      go_wp2_with fail
      go_ret
      exact ⟨rfl, (Kept.refl _ _).alloc _⟩
    · have i3 : decide ((1 : Int) < (d : Int)) = false := decide_eq_false (fun h => hn2 (by simp; omega))
      clear hn2 he
      go_enter Tryz.func61, Tryz.ntmps61
      go_wp2_with fail
      go_ret
      exact ⟨rfl, (Kept.refl _ _).alloc _⟩
    · clear hn2 he
      go_enter Tryz.func61, Tryz.ntmps61
      go_wp2_with fail
      go_ret
      exact ⟨rfl, (Kept.refl _ _).alloc _⟩
    · clear hn2 he
      go_enter Tryz.func61, Tryz.ntmps61
      go_wp2_with fail
      go_ret
      exact ⟨rfl, (Kept.refl _ _).alloc _⟩
theorem head_yes {k : Int} {nm : ByteArray} {n : Nat} {wi : Bool} (h : tyHead k nm n wi = true) :
    ((k = 1 ∧ n = 0 ∧ (nm.toList == []) = true) ∨ (k = 2 ∧ wi = false ∧ n = 0 ∧ (nm.toList == []) = true) ∨ (k = 3 ∧ n = 0 ∧ identB nm = true)) ∨ ((k = 5 ∧ n = 1) ∨ (k = 4 ∧ n = 2)) ∧ (nm.toList == []) = true := by
  unfold tyHead at h
  by_cases k1 : k = 1
  · subst k1; simp at h; simp_all
  by_cases k2 : k = 2
  · subst k2; simp at h; cases wi <;> simp_all
  by_cases k3 : k = 3
  · subst k3; simp at h; simp_all
  by_cases k4 : k = 4
  · subst k4; simp at h; simp_all
  by_cases k5 : k = 5
  · subst k5; simp at h; simp_all
  · simp [k1, k2, k3, k4, k5] at h
set_option maxHeartbeats 8000000 in
theorem rtyped_leaf {k : Int} {nm : ByteArray} {a : Option Addr} {cp c d : Nat} {w : World} (hsz : nm.size ≤ 9223372036854775807) (hc : c + 1 ≤ 16) (h1 : 1 ≤ d) (hd : d ≤ 6)
    (h : (k = 1 ∧ (nm.toList == []) = true) ∨ (k = 2 ∧ decide (1 < d) = false ∧ (nm.toList == []) = true) ∨ (k = 3 ∧ identB nm = true)) :
    Calls Tryz.prog 61 #[.agg #[.int .i64 k, .string nm, .slice a 0 cp], .int .i64 d, .int .i64 c] w fun e w' => e = .returned (.int .i64 ((c + 1 : Nat) : Int)) ∧ Kept (fun _ => False) w w' := by
  have i1 : decide ((6 : Int) < (d : Int)) = false := decide_eq_false (by omega)
  have i2 : decide ((16 : Int) < (c : Int) + 1) = false := decide_eq_false (by omega)
  rcases h with ⟨rfl, he⟩ | ⟨rfl, hw, he⟩ | ⟨rfl, hI⟩
  · have he2 : nm.toList.isEmpty = true := by cases h : nm.toList <;> simp_all
    have bA : Blk (w.alloc (.cells #[.int .i64 1, .string nm, .slice a 0 cp] 24)) w.heap.size 24 [.int .i64 1, .string nm, .slice a 0 cp] := Blk.new w 24 _
    go_enter Tryz.func61, Tryz.ntmps61
    go_wp2_with fail
    have K1 : Kept (fun _ => False) w (w.alloc (.cells #[.int .i64 1, .string nm, .slice a 0 cp] 24)) := (Kept.refl _ _).alloc _
    generalize w.alloc (.cells #[.int .i64 1, .string nm, .slice a 0 cp] 24) = w1 at *
    have g2 : w1.cell? ⟨w.heap.size, 2, none⟩ = some (.slice a 0 cp) := bA.cell 2
    go_loop [8, 2] (fun i m => i = .int .i64 0 ∧ m = .int .i64 ((c : Int) + 1)) (fun i _ => 0)
    case atStart => exact ⟨rfl, rfl⟩
    case round =>
      obtain ⟨rfl, rfl⟩ := hrel
      go_wp2_with fail
      go_ret
      exact ⟨rfl, K1⟩
  · have i3 : decide ((1 : Int) < (d : Int)) = false := decide_eq_false (fun h => by have := of_decide_eq_false hw; omega)
    have he2 : nm.toList.isEmpty = true := by cases h : nm.toList <;> simp_all
    have bA : Blk (w.alloc (.cells #[.int .i64 2, .string nm, .slice a 0 cp] 24)) w.heap.size 24 [.int .i64 2, .string nm, .slice a 0 cp] := Blk.new w 24 _
    clear hw
    go_enter Tryz.func61, Tryz.ntmps61
    go_wp2_with fail
    have K1 : Kept (fun _ => False) w (w.alloc (.cells #[.int .i64 2, .string nm, .slice a 0 cp] 24)) := (Kept.refl _ _).alloc _
    generalize w.alloc (.cells #[.int .i64 2, .string nm, .slice a 0 cp] 24) = w1 at *
    have g2 : w1.cell? ⟨w.heap.size, 2, none⟩ = some (.slice a 0 cp) := bA.cell 2
    go_loop [8, 2] (fun i m => i = .int .i64 0 ∧ m = .int .i64 ((c : Int) + 1)) (fun i _ => 0)
    case atStart => exact ⟨rfl, rfl⟩
    case round =>
      obtain ⟨rfl, rfl⟩ := hrel
      go_wp2_with fail
      go_ret
      exact ⟨rfl, K1⟩
  · have HI := Lib.hid hI
    clear hI
    have bA : Blk (w.alloc (.cells #[.int .i64 3, .string nm, .slice a 0 cp] 24)) w.heap.size 24 [.int .i64 3, .string nm, .slice a 0 cp] := Blk.new w 24 _
    have K0 : Kept (fun _ => False) w (w.alloc (.cells #[.int .i64 3, .string nm, .slice a 0 cp] 24)) := (Kept.refl _ _).alloc _
    go_enter Tryz.func61, Tryz.ntmps61
    go_wp2_with fail
    refine (rident_t HI.out hsz _).mono ?_
    rintro e w1 ⟨rfl, k1⟩
    have bA1 := bA.kept k1 (fun h => h)
    have K1 := K0.trans k1
    have g0 : w1.cell? ⟨w.heap.size, 0, none⟩ = some (.int .i64 3) := bA1.cell 0
    have g2 : w1.cell? ⟨w.heap.size, 2, none⟩ = some (.slice a 0 cp) := bA1.cell 2
    go_wp2_with fail
    go_loop [8, 2] (fun i m => i = .int .i64 0 ∧ m = .int .i64 ((c : Int) + 1)) (fun i _ => 0)
    case atStart => exact ⟨rfl, rfl⟩
    case round =>
      obtain ⟨rfl, rfl⟩ := hrel
      go_wp2_with fail
      go_ret
      exact ⟨rfl, K1⟩
theorem td_drop {l : List Ty} {d c k : Nat} (h : k < l.length) : tdR (tfsS 16 6 (l.drop k) d c) = if (tfS 16 6 l[k] d true c).1 = true then tdR (tfsS 16 6 (l.drop (k + 1)) d (tfS 16 6 l[k] d true c).2) else -1 := by
  rw [tfs_step h]; split <;> rfl
set_option maxRecDepth 100000 in
set_option maxHeartbeats 8000000 in
theorem rtyped_node {k : Int} {nm : ByteArray} {l : List Ty} {n cp c d b off : Nat} {w : World} {ok : Nat → Prop} (IH : ∀ t, t ∈ l → RdC t) (hc : c + 1 ≤ 16) (h1 : 1 ≤ d) (hd : d ≤ 6)
    (hkn : (k = 5 ∧ n = 1) ∨ (k = 4 ∧ n = 2)) (he : (nm.toList == []) = true) (hln : l.length = n) (K : Nat → Value) (hb : ok b)
    (hcell : ∀ i (h : i < l.length), w.cell? ⟨b, off + i * 3, none⟩ = some (.int .i64 l[i].kind) ∧ w.cell? ⟨b, off + i * 3 + 1, none⟩ = some (.string l[i].name) ∧ w.cell? ⟨b, off + i * 3 + 2, none⟩ = some (K i))
    (hk : ∀ i (h : i < l.length), TyL ok w l[i].kids (K i)) :
    Calls Tryz.prog 61 #[.agg #[.int .i64 k, .string nm, .slice (some ⟨b, off, none⟩) n cp], .int .i64 d, .int .i64 c] w fun e w' => e = .returned (.int .i64 (tdR (tfsS 16 6 l (d + 1) (c + 1)))) ∧ Kept (fun _ => False) w w' := by
  have i1 : decide ((6 : Int) < (d : Int)) = false := decide_eq_false (by omega)
  have i2 : decide ((16 : Int) < (c : Int) + 1) = false := decide_eq_false (by omega)
  have he2 : nm.toList.isEmpty = true := by cases h : nm.toList <;> simp_all
  have HIH := Lib.hid IH
  have HC := Lib.hid hcell
  have HK := Lib.hid hk
  have HL := Lib.hid hln
  clear IH hcell hk hln
  have bA : Blk (w.alloc (.cells #[.int .i64 k, .string nm, .slice (some ⟨b, off, none⟩) n cp] 24)) w.heap.size 24 [.int .i64 k, .string nm, .slice (some ⟨b, off, none⟩) n cp] := Blk.new w 24 _
  have K1 : Kept (fun _ => False) w (w.alloc (.cells #[.int .i64 k, .string nm, .slice (some ⟨b, off, none⟩) n cp] 24)) := (Kept.refl _ _).alloc _
  rcases hkn with ⟨rfl, rfl⟩ | ⟨rfl, rfl⟩
  all_goals
    go_enter Tryz.func61, Tryz.ntmps61
    go_wp2_with fail
    generalize w.alloc _ = w1 at *
    go_loopw [8, 2] (fun i m wr => ∃ j cj : Nat, j ≤ l.length ∧ i = .int .i64 j ∧ m = .int .i64 cj ∧ cj ≤ 16 ∧ Kept (fun _ => False) w1 wr ∧ Hid (tdR (tfsS 16 6 l (d + 1) (c + 1)) = tdR (tfsS 16 6 (l.drop j) (d + 1) cj))) (fun i _ _ => l.length - (intOf i).toNat)
    case atStart => exact ⟨0, c + 1, Nat.zero_le _, rfl, by go_num, hc, Kept.refl _ _, Lib.hid rfl⟩
    case round =>
      obtain ⟨j, cj, hj, rfl, rfl, hcj, kr, hq⟩ := hrel
      have bR := bA.kept kr (fun h => h)
      have g2 : wr.cell? ⟨w.heap.size, 2, none⟩ = some (.slice (some ⟨b, off, none⟩) _ cp) := bR.cell 2
      have hll := HL.out
      by_cases hlt : j < l.length
      · have KR := K1.trans kr
        have c0 := (Same.of_kept (ok := ok) KR (fun k h e => e)).cell hb (HC.out j hlt).1
        have c1 := (Same.of_kept (ok := ok) KR (fun k h e => e)).cell hb (HC.out j hlt).2.1
        have c2 := (Same.of_kept (ok := ok) KR (fun k h e => e)).cell hb (HC.out j hlt).2.2
        obtain ⟨ta, tn, tc, hKj⟩ := (HK.out j hlt).slice
        have hkk := (HK.out j hlt).frame (Same.of_kept (ok := ok) KR (fun k h e => e))
        rw [hKj] at c2 hkk
        have hcon := Lib.hid (HIH.out _ (List.getElem_mem hlt) wr ok cj (d + 1) _ hcj (by omega) (by omega) hkk)
        have hst := Lib.hid (td_drop (d := d + 1) (c := cj) hlt)
        have hle := Lib.hid (tf_le 16 6 l[j] (d + 1) true cj hcj)
        have hw : decide (1 < d + 1) = true := decide_eq_true (by omega)
        rw [hw] at hcon
        clear hkk hw
        have hj2 : (j : Int) < 1000 := by omega
        cases hr : (tfS 16 6 l[j] (d + 1) true cj).1
        · have e1 : tdR (tfS 16 6 l[j] (d + 1) true cj) = -1 := by unfold tdR; rw [hr]; rfl
          rw [e1] at hcon
          have HR := Lib.hid hr
          clear hr e1
          unfold tyVal at hcon
          go_wp2_with (go_at_call 61; refine hcon.out.mono ?_; rintro e w' ⟨rfl, k2⟩)
          go_ret
          refine ⟨?_, KR.trans k2⟩
          rw [hq.out, hst.out, HR.out]; rfl
        · have e1 : tdR (tfS 16 6 l[j] (d + 1) true cj) = ((tfS 16 6 l[j] (d + 1) true cj).2 : Int) := by unfold tdR; rw [hr]; rfl
          rw [e1] at hcon
          have hle2 := hle.out hr
          have HR := Lib.hid hr
          clear hr e1
          generalize hcc : (tfS 16 6 l[j] (d + 1) true cj).2 = cc at *
          have HCC := Lib.hid hcc
          clear hcc
          unfold tyVal at hcon
          go_wp2_with (go_at_call 61; refine hcon.out.mono ?_; rintro e w' ⟨rfl, k2⟩)
          go_roundw
          case rel =>
            refine ⟨j + 1, cc, by omega, by go_num, rfl, hle2.2, kr.trans k2, Lib.hid ?_⟩
            rw [hq.out, hst.out, HR.out, if_pos rfl]
          case measure => simp [intOf]; omega
      · have hq2 : Hid (tdR (tfsS 16 6 l (d + 1) (c + 1)) = (cj : Int)) := Lib.hid (by rw [hq.out, List.drop_eq_nil_of_le (by omega), tfsS]; rfl)
        go_wp2_with fail
        go_ret
        exact ⟨by rw [hq2.out]; rfl, K1.trans kr⟩
theorem rtyped_one {k : Int} {nm : ByteArray} {l : List Ty} (hsz : nm.size ≤ 9223372036854775807) (IH : ∀ t, t ∈ l → RdC t) : RdC (.mk k nm l) := by
  intro w ok c d tk hc h1 hd hk
  obtain ⟨a, n, cp, rfl⟩ := hk.slice
  have hn : n = l.length := hk.len
  cases hh : ((decide (c + 1 ≤ 16) && decide (d ≤ 6)) && tyHead k nm l.length (decide (1 < d)))
  · rw [td_no hh]
    exact rtyped_bad hsz hc h1 hd (by rw [hn]; exact hh)
  · rw [Bool.and_eq_true, Bool.and_eq_true] at hh
    obtain ⟨⟨hc1, hd1⟩, hh⟩ := hh
    have hc1 := of_decide_eq_true hc1
    have hd1 := of_decide_eq_true hd1
    rw [td_yes hc1 hd1 hh]
    rw [← hn] at hh
    rcases head_yes hh with hl | ⟨hl, he⟩
    · have h0 : n = 0 := by rcases hl with h | h | h; exact h.2.1; exact h.2.2.1; exact h.2.1
      subst h0
      have : l = [] := List.length_eq_zero_iff.1 hn.symm
      subst this
      rw [tfsS]
      refine rtyped_leaf hsz hc1 h1 hd1 ?_
      rcases hl with h | h | h
      · exact Or.inl ⟨h.1, h.2.2⟩
      · exact Or.inr (Or.inl ⟨h.1, h.2.1, h.2.2.2⟩)
      · exact Or.inr (Or.inr ⟨h.1, h.2.2⟩)
    · have hk' : TyL ok w l (.slice a n cp) := hk
      subst hn
      cases hk' with
      | nil h => simp at hl
      | mk K hne hb hcap hcell hkk => exact rtyped_node IH hc1 h1 hd1 hl he rfl K hb hcell hkk
theorem rtyped_any {t : Ty} (h : SmTy big t) : RdC t := by
  induction h with
  | mk hn hl ih => exact rtyped_one hn ih
set_option maxHeartbeats 2000000 in
theorem rvalidTy_any {ok : Nat → Prop} {w : World} {t : Ty} {a : Option Addr} {n c : Nat} (hk : TyL ok w t.kids (.slice a n c)) (hs : SmTy big t) :
    Calls Tryz.prog 30 #[.agg #[.int .i64 t.kind, .string t.name, .slice a n c]] w fun e w' => e = .returned (.bool (validTyB t)) ∧ Kept (fun _ => False) w w' := by
  have hk2 := hk.frame (Same.alloc w (.cells #[.int .i64 t.kind, .string t.name, .slice a n c] 24))
  have hC := Lib.hid (rtyped_any hs _ ok 0 1 _ (by decide) (by decide) (by decide) hk2)
  have K1 : Kept (fun _ => False) w (w.alloc (.cells #[.int .i64 t.kind, .string t.name, .slice a n c] 24)) := (Kept.refl _ _).alloc _
  have hle := tf_le 16 6 t 1 false 0 (by decide)
  have HV : Hid (decide (0 < tdR (tfS 16 6 t 1 (decide (1 < 1)) 0)) = validTyB t) := Lib.hid (by
    show decide (0 < tdR (tfS 16 6 t 1 false 0)) = validTyB t
    unfold tdR validTyB
    cases hr : (tfS 16 6 t 1 false 0).1
    · rfl
    · have := (hle hr).1
      rw [if_pos rfl]
      exact decide_eq_true (by omega))
  clear hle
  unfold tyVal at hC
  go_enter Tryz.func30, Tryz.ntmps30
  go_wp2_with fail
  refine hC.out.mono ?_
  rintro e w' ⟨rfl, k2⟩
  go_wp2_with fail
  go_ret
  exact ⟨by rw [← HV.out]; rfl, K1.trans k2⟩
end Go.Proofs.YtckjlliobebodaaGreatDoor
/- ParseType: what it returns for a source. Printed by gentyp.py. -/
set_option linter.unusedVariables false
set_option linter.unusedSimpArgs false
namespace Go.Proofs.YtckjlliobebodaaGreatDoor
open Go.RowKit
/-- The type lies in the block o. -/
def LiesT (o n : Nat) (t : Ty) (w : World) : Prop := ∃ tk, Blk w o 24 [.int .i64 t.kind, .string t.name, tk] ∧ TyL (fun k => n ≤ k) w t.kids tk
theorem k3s {w W : World} {S : Nat → Prop} {R : Nat} {x y z : Value} (h : Kept S w W) (hR : S R) : Kept S w (((W.setCell ⟨R, 0, none⟩ x).setCell ⟨R, 1, none⟩ y).setCell ⟨R, 2, none⟩ z) :=
  ((h.setCell (p := ⟨R, 0, none⟩) (Or.inl hR) x).setCell (p := ⟨R, 1, none⟩) (Or.inl hR) y).setCell (p := ⟨R, 2, none⟩) (Or.inl hR) z
set_option maxRecDepth 100000 in
set_option maxHeartbeats 4000000 in
theorem typ1_any {b o f : Nat} {s : ByteArray} {σ : PS} {w : World} {z : List Value} (h : PW w b s σ) (hf : mu s σ < f) (hz : z.length = 3) (ho : Blk w o 24 z) (hob : o ≠ b) (ho2 : 2 ≤ o) :
    Calls Tryz.prog 41 #[.pointer (some ⟨b, 0, none⟩), .pointer (some ⟨o, 0, none⟩)] w (CPost b s (fun k => k = b ∨ k = o) (LiesT o w.heap.size) (typedS f s σ) w) := by
  have hlt := h.lt
  have holt := ho.lt
  go_enter Tryz.func41, Tryz.ntmps41
  go_wp2_with fail
  refine (typed_any f σ w h hf).mono ?_
  rintro e w1 hr
  cases h_1 : typedS f s σ with
  | error r =>
    obtain ⟨rfl, k1⟩ := hr.getErr h_1
    go_wp2_with fail
    exact ⟨rfl, CPost.err h_1 ⟨rfl, k1.mono (fun _ _ h => Or.inl h)⟩⟩
  | ok q =>
    obtain ⟨t, σ1⟩ := q
    obtain ⟨v, rfl, ⟨tk, rfl, at1⟩, p1, k1⟩ := hr.getOk h_1
    clear hr
    obtain ⟨ta1, tn1, tc1, rfl⟩ := at1.slice
    unfold tyVal
    have hO := ho.kept k1 (by show ¬ o = b; exact hob)
    have HZ := Lib.hid hz
    clear hz
    have g : ∀ i, i < 3 → ∃ u, w1.cell? ⟨o, i, none⟩ = some u := by
      intro i hi
      exact ⟨z[i]'(by rw [HZ.out]; exact hi), by rw [hO.cell i]; exact List.getElem?_eq_getElem _⟩
    obtain ⟨u0, g0⟩ := g 0 (by decide)
    obtain ⟨u1, g1⟩ := g 1 (by decide)
    obtain ⟨u2, g2⟩ := g 2 (by decide)
    clear g
    have f0 := hO.frozen 0
    have f1 := hO.frozen 1
    have f2 := hO.frozen 2
    go_wp2_with fail
    go_end0
    have hR := r3 (x := .int .i64 t.kind) (y := .string t.name) (z := .slice ta1 tn1 tc1) hO HZ.out
    exact CPost.ok h_1 ⟨rfl, ⟨_, hR, at1.frame (same3 holt)⟩, p3w p1 hob ho2, k3s (k1.mono (fun _ _ h => Or.inl h)) (Or.inr rfl)⟩
set_option maxRecDepth 100000 in
set_option maxHeartbeats 4000000 in
theorem readT_any {α : Type} {o : Nat} {s : ByteArray} {F : PS → Except ER (α × PS)} {V : α → World → Prop} {w : World} (hs : s.size ≤ 65536) (hgl : Gl w) (ho : o < w.heap.size) (ho2 : 2 ≤ o)
    (hC : ∀ σ1 w1, PW w1 (w.heap.size + 2) s σ1 → Kept (fun _ => False) w w1 → w.heap.size + 3 ≤ w1.heap.size → advS s ps0 = .ok σ1 → Calls Tryz.prog 41 #[.pointer (some ⟨w.heap.size + 2, 0, none⟩), .pointer (some ⟨o, 0, none⟩)] w1 (CPost (w.heap.size + 2) s (fun k => k = w.heap.size + 2 ∨ k = o) V (F σ1) w1))
    (hV : ∀ a w2 w3, V a w2 → w.heap.size + 3 ≤ w2.heap.size → Kept (fun k => k = w.heap.size ∨ k = w.heap.size + 1) w2 w3 → V a w3) :
    Calls Tryz.prog 31 #[.string s, .func (.func 41) #[] #[.pointer (some ⟨o, 0, none⟩)]] w fun e w' =>
      e = .returned (.tuple #[.int .i64 (rdAt (wholeF s F)), .int .i64 (rdE (wholeF s F))]) ∧ Kept (· = o) w w' ∧ ∀ a σ2, wholeF s F = .ok (a, σ2) → V a w' := by
  have hmf : ∀ (fn : Fn) (first cap : Array Value) (w : World), (Instr.makeFunc fn first cap).run Tryz.prog w = .ok (.func fn first cap) w := fun _ _ _ _ => rfl
  have HC := Lib.hid hC
  have HV := Lib.hid hV
  clear hC hV
  have hgt := hgl.lt
  have i1 : (s.size : Int) ≤ 65536 := by omega
  have h0 : PW (((w.alloc (.cells #[.int .i64 0] 3)).alloc (.cells #[.int .i64 0] 28)).alloc (.cells #[.string s, .int .i64 0, .int .i64 0, .string ⟨#[]⟩, .int .i64 0, .int .i64 0, .int .i64 0] 86)) (w.heap.size + 2) s ps0 :=
    ⟨Blk.new' 86 _ (by simp), Nat.zero_le _, Nat.zero_le _, hs, by omega, ((hgl.alloc _).alloc _).alloc _, Nat.zero_le _⟩
  have K0 : Kept (fun _ => False) w (((w.alloc (.cells #[.int .i64 0] 3)).alloc (.cells #[.int .i64 0] 28)).alloc (.cells #[.string s, .int .i64 0, .int .i64 0, .string ⟨#[]⟩, .int .i64 0, .int .i64 0, .int .i64 0] 86)) := (((Kept.refl _ _).alloc _).alloc _).alloc _
  have bA : Blk (((w.alloc (.cells #[.int .i64 0] 3)).alloc (.cells #[.int .i64 0] 28)).alloc (.cells #[.string s, .int .i64 0, .int .i64 0, .string ⟨#[]⟩, .int .i64 0, .int .i64 0, .int .i64 0] 86)) w.heap.size 3 [.int .i64 0] := ((Blk.new w 3 [.int .i64 0]).alloc _).alloc _
  have bE : Blk (((w.alloc (.cells #[.int .i64 0] 3)).alloc (.cells #[.int .i64 0] 28)).alloc (.cells #[.string s, .int .i64 0, .int .i64 0, .string ⟨#[]⟩, .int .i64 0, .int .i64 0, .int .i64 0] 86)) (w.heap.size + 1) 28 [.int .i64 0] := (Blk.new' 28 [.int .i64 0] (by simp)).alloc _
  go_enter_defers Tryz.func31, Tryz.ntmps31
  go_wp2_with fail
  cases hadv : advS s ps0 with
  | error r =>
    have hw : Hid (wholeF s F = .error r) := Lib.hid (by unfold wholeF; rw [hadv]; rfl)
    refine (adv_err h0 hadv).mono ?_
    rintro e w1 ⟨rfl, k1⟩
    have a1 := bA.kept k1 (by show ¬ w.heap.size = w.heap.size + 2; omega)
    have e1 := bE.kept k1 (by show ¬ w.heap.size + 1 = w.heap.size + 2; omega)
    have K1 : Kept (· = o) w w1 := (K0.mono (T := (· = o)) (fun _ _ h => h.elim)).via k1 (fun x hx h => by omega)
    go_wp2_with fail
    refine leaves_cons (f := 62) (args := #[.pointer (some ⟨w.heap.size, 0, none⟩), .pointer (some ⟨w.heap.size + 1, 0, none⟩)]) (by simp) (by simp [go_sem]) ?_
    refine (rd_err (r := r) w.heap.size (w.heap.size + 1) 0 0 _ a1.lt e1.lt (by omega) (a1.cell 0) (e1.cell 0) (a1.frozen 0) (e1.frozen 0)).mono ?_
    rintro e u' w'' ⟨rfl, ⟨v, rfl⟩, ob, rfl⟩
    have a2 := ((a1.set 0 (.int .i64 r.2)).set_other ⟨w.heap.size + 1, 0, none⟩ (.int .i64 (if r.1 then 4 else 2)) (by show w.heap.size ≠ w.heap.size + 1; omega)).alloc ob
    have e2 := ((e1.set_other ⟨w.heap.size, 0, none⟩ (.int .i64 r.2) (by show w.heap.size + 1 ≠ w.heap.size; omega)).set 0 (.int .i64 (if r.1 then 4 else 2))).alloc ob
    refine ⟨_, results_cc Tryz.results31 rfl rfl (load_i a2) (load_e e2), ?_, ?_, ?_⟩
    · rw [hw.out]; rfl
    · exact ((K1.setCell (p := ⟨w.heap.size, 0, none⟩) (Or.inr (Nat.le_refl _)) _).setCell (p := ⟨w.heap.size + 1, 0, none⟩) (Or.inr (by show w.heap.size ≤ w.heap.size + 1; omega)) _).alloc ob
    · intro a σ2 h; rw [hw.out] at h; cases h
  | ok σ1 =>
    refine (adv_ok h0 hadv).mono ?_
    rintro e w1 ⟨rfl, p1, k1⟩
    have a1 := bA.kept k1 (by show ¬ w.heap.size = w.heap.size + 2; omega)
    have e1 := bE.kept k1 (by show ¬ w.heap.size + 1 = w.heap.size + 2; omega)
    have K1 : Kept (fun _ => False) w w1 := K0.via k1 (fun x hx h => by omega)
    have z1 := p1.lt
    go_wp2_with fail
    refine (HC.out σ1 w1 p1 K1 z1 hadv).mono ?_
    rintro e w2 hr
    cases hF : F σ1 with
    | error r =>
      have hw : Hid (wholeF s F = .error r) := Lib.hid (by unfold wholeF; rw [hadv]; show bT (F σ1) _ = _; rw [hF]; rfl)
      obtain ⟨rfl, k2⟩ := hr.getErr hF
      clear hr
      have a2 := a1.kept k2 (by show ¬ (w.heap.size = w.heap.size + 2 ∨ w.heap.size = o); omega)
      have e2 := e1.kept k2 (by show ¬ (w.heap.size + 1 = w.heap.size + 2 ∨ w.heap.size + 1 = o); omega)
      have K2 : Kept (· = o) w w2 := (K1.mono (T := (· = o)) (fun _ _ h => h.elim)).via k2 (fun x hx h => by omega)
      go_wp2_with fail
      refine leaves_cons (f := 62) (args := #[.pointer (some ⟨w.heap.size, 0, none⟩), .pointer (some ⟨w.heap.size + 1, 0, none⟩)]) (by simp) (by simp [go_sem]) ?_
      refine (rd_err (r := r) w.heap.size (w.heap.size + 1) 0 0 _ a2.lt e2.lt (by omega) (a2.cell 0) (e2.cell 0) (a2.frozen 0) (e2.frozen 0)).mono ?_
      rintro e u' w'' ⟨rfl, ⟨v, rfl⟩, ob, rfl⟩
      have a3 := ((a2.set 0 (.int .i64 r.2)).set_other ⟨w.heap.size + 1, 0, none⟩ (.int .i64 (if r.1 then 4 else 2)) (by show w.heap.size ≠ w.heap.size + 1; omega)).alloc ob
      have e3 := ((e2.set_other ⟨w.heap.size, 0, none⟩ (.int .i64 r.2) (by show w.heap.size + 1 ≠ w.heap.size; omega)).set 0 (.int .i64 (if r.1 then 4 else 2))).alloc ob
      refine ⟨_, results_cc Tryz.results31 rfl rfl (load_i a3) (load_e e3), ?_, ?_, ?_⟩
      · rw [hw.out]; rfl
      · exact ((K2.setCell (p := ⟨w.heap.size, 0, none⟩) (Or.inr (Nat.le_refl _)) _).setCell (p := ⟨w.heap.size + 1, 0, none⟩) (Or.inr (by show w.heap.size ≤ w.heap.size + 1; omega)) _).alloc ob
      · intro a σ2 h; rw [hw.out] at h; cases h
    | ok q =>
      obtain ⟨a, σ2⟩ := q
      obtain ⟨rfl, v2, p2, k2⟩ := hr.getOk hF
      clear hr
      have a2 := a1.kept k2 (by show ¬ (w.heap.size = w.heap.size + 2 ∨ w.heap.size = o); omega)
      have e2 := e1.kept k2 (by show ¬ (w.heap.size + 1 = w.heap.size + 2 ∨ w.heap.size + 1 = o); omega)
      have K2 : Kept (· = o) w w2 := (K1.mono (T := (· = o)) (fun _ _ h => h.elim)).via k2 (fun x hx h => by omega)
      have c2 := p2.kd
      have z2 := p2.lt
      cases hk : (σ2.k == 0)
      · have hw : Hid (wholeF s F = .error (false, σ2.ta)) := Lib.hid (by unfold wholeF; rw [hadv]; show bT (F σ1) _ = _; rw [hF]; exact if_neg (ne_of_beq_false hk))
        go_wp2_with fail
        refine (fail_any p2).mono ?_
        rintro e w' ⟨rfl, rfl⟩
        go_wp2_with fail
        refine leaves_cons (f := 62) (args := #[.pointer (some ⟨w.heap.size, 0, none⟩), .pointer (some ⟨w.heap.size + 1, 0, none⟩)]) (by simp) (by simp [go_sem]) ?_
        refine (rd_err (r := (false, σ2.ta)) w.heap.size (w.heap.size + 1) 0 0 _ a2.lt e2.lt (by omega) (a2.cell 0) (e2.cell 0) (a2.frozen 0) (e2.frozen 0)).mono ?_
        rintro e u' w'' ⟨rfl, ⟨v, rfl⟩, ob, rfl⟩
        have a3 := ((a2.set 0 (.int .i64 σ2.ta)).set_other ⟨w.heap.size + 1, 0, none⟩ (.int .i64 (if false then 4 else 2)) (by show w.heap.size ≠ w.heap.size + 1; omega)).alloc ob
        have e3 := ((e2.set_other ⟨w.heap.size, 0, none⟩ (.int .i64 σ2.ta) (by show w.heap.size + 1 ≠ w.heap.size; omega)).set 0 (.int .i64 (if false then 4 else 2))).alloc ob
        refine ⟨_, results_cc Tryz.results31 rfl rfl (load_i a3) (load_e e3), ?_, ?_, ?_⟩
        · rw [hw.out]; rfl
        · exact ((K2.setCell (p := ⟨w.heap.size, 0, none⟩) (Or.inr (Nat.le_refl _)) _).setCell (p := ⟨w.heap.size + 1, 0, none⟩) (Or.inr (by show w.heap.size ≤ w.heap.size + 1; omega)) _).alloc ob
        · intro a σ2 h; rw [hw.out] at h; cases h
      · have hw : Hid (wholeF s F = .ok (a, σ2)) := Lib.hid (by unfold wholeF; rw [hadv]; show bT (F σ1) _ = _; rw [hF]; exact if_pos (eq_of_beq hk))
        have ca := a2.cell 0
        have ce := e2.cell 0
        have fa := a2.frozen 0
        have fe := e2.frozen 0
        go_wp2_with fail
        refine leaves_cons (f := 62) (args := #[.pointer (some ⟨w.heap.size, 0, none⟩), .pointer (some ⟨w.heap.size + 1, 0, none⟩)]) (by simp) (by simp [go_sem]) ?_
        refine (rd_idle w.heap.size (w.heap.size + 1) _).mono ?_
        rintro e u' w'' ⟨rfl, rfl, rfl⟩
        have a3 := (a2.set 0 (.int .i64 0)).set_other ⟨w.heap.size + 1, 0, none⟩ (.int .i64 0) (by show w.heap.size ≠ w.heap.size + 1; omega)
        have e3 := (e2.set_other ⟨w.heap.size, 0, none⟩ (.int .i64 0) (by show w.heap.size + 1 ≠ w.heap.size; omega)).set 0 (.int .i64 0)
        refine ⟨_, results_cc Tryz.results31 rfl rfl (load_i a3) (load_e e3), ?_, ?_, ?_⟩
        · rw [hw.out]; rfl
        · exact (K2.setCell (p := ⟨w.heap.size, 0, none⟩) (Or.inr (Nat.le_refl _)) _).setCell (p := ⟨w.heap.size + 1, 0, none⟩) (Or.inr (by show w.heap.size ≤ w.heap.size + 1; omega)) _
        · intro a' σ' h
          rw [hw.out] at h
          cases h
          exact HV.out a w2 _ v2 z2 (((Kept.refl _ _).setCell (p := ⟨w.heap.size, 0, none⟩) (Or.inl (Or.inl rfl)) _).setCell (p := ⟨w.heap.size + 1, 0, none⟩) (Or.inl (Or.inr rfl)) _)
/-- What ParseType answers: the type, the byte, the error. -/
def ptQ (f : Nat) (s : ByteArray) : Except ER (Ty × PS) := wholeF s (typedS f s)
def ptT (f : Nat) (s : ByteArray) : Ty := if 65536 < s.size then ty0 else match ptQ f s with | .error _ => ty0 | .ok q => if validTyB q.1 then q.1 else ty0
def ptA (f : Nat) (s : ByteArray) : Int := if 65536 < s.size then 0 else rdAt (ptQ f s)
def ptE (f : Nat) (s : ByteArray) : Int := if 65536 < s.size then 3 else match ptQ f s with | .error r => if r.1 then 4 else 2 | .ok q => if validTyB q.1 then 0 else 5
def PtP (f : Nat) (s : ByteArray) (w : World) (e : Ending) (w' : World) : Prop := ∃ tv, e = .returned (.tuple #[tv, .int .i64 (ptA f s), .int .i64 (ptE f s)]) ∧ VTy w.heap.size (ptT f s) w' tv ∧ Kept (fun _ => False) w w'
theorem sm_wholeT {f : Nat} {s : ByteArray} {t : Ty} {σ : PS} (hs : s.size ≤ 65536) (h : ptQ f s = .ok (t, σ)) : SmTy 65536 t := by
  unfold ptQ wholeF at h
  cases h1 : advS s ps0 with
  | error r => rw [h1] at h; cases h
  | ok σ1 =>
    rw [h1] at h
    simp only [bP] at h
    cases h2 : typedS f s σ1 with
    | error r => rw [h2] at h; cases h
    | ok q =>
      obtain ⟨t2, σ2⟩ := q
      rw [h2] at h
      simp only [bT] at h
      split at h
      · cases h
        exact (sm_typed hs f (st_adv hs ⟨Nat.zero_le _, Nat.zero_le _⟩ h1) h2).1
      · cases h
set_option maxRecDepth 100000 in
set_option maxHeartbeats 8000000 in
theorem parseTy_any {f : Nat} {s : ByteArray} {w : World} (hf : s.size + 2 < f) (hs2 : s.size ≤ 9223372036854775807) (hgl : Gl w) : Calls Tryz.prog 15 #[.string s] w (PtP f s w) := by
  have hmf : ∀ (fn : Fn) (first cap : Array Value) (w : World), (Instr.makeFunc fn first cap).run Tryz.prog w = .ok (.func fn first cap) w := fun _ _ _ _ => rfl
  have hgt := hgl.lt
  have bR : Blk ((w.alloc (.cells #[.int .i64 0, .string ⟨#[]⟩, .slice none 0 0] 24)).alloc (.cells #[.int .i64 0, .string ⟨#[]⟩, .slice none 0 0] 24)) w.heap.size 24 z24 := (Blk.new w 24 _).alloc _
  have bO : Blk ((w.alloc (.cells #[.int .i64 0, .string ⟨#[]⟩, .slice none 0 0] 24)).alloc (.cells #[.int .i64 0, .string ⟨#[]⟩, .slice none 0 0] 24)) (w.heap.size + 1) 24 z24 := Blk.new' 24 _ (by simp)
  have K0 : Kept (fun _ => False) w ((w.alloc (.cells #[.int .i64 0, .string ⟨#[]⟩, .slice none 0 0] 24)).alloc (.cells #[.int .i64 0, .string ⟨#[]⟩, .slice none 0 0] 24)) := ((Kept.refl _ _).alloc _).alloc _
  have G0 : Gl ((w.alloc (.cells #[.int .i64 0, .string ⟨#[]⟩, .slice none 0 0] 24)).alloc (.cells #[.int .i64 0, .string ⟨#[]⟩, .slice none 0 0] 24)) := (hgl.alloc _).alloc _
  have Z0 : Hid (((w.alloc (.cells #[.int .i64 0, .string ⟨#[]⟩, .slice none 0 0] 24)).alloc (.cells #[.int .i64 0, .string ⟨#[]⟩, .slice none 0 0] 24)).heap.size = w.heap.size + 2) := Lib.hid (by simp)
  by_cases hs : 65536 < s.size
  · have HA : Hid (ptA f s = 0) := Lib.hid (if_pos hs)
    have HE : Hid (ptE f s = 3) := Lib.hid (if_pos hs)
    have HT : Hid (ptT f s = ty0) := Lib.hid (if_pos hs)
    go_enter Tryz.func15, Tryz.ntmps15
    go_wp2_with fail
    refine (read_long hs hs2).mono ?_
    rintro e w1 ⟨rfl, k1⟩
    have bR1 := bR.kept k1 (fun h => h)
    have K1 := K0.trans k1
    have r0 : w1.cell? ⟨w.heap.size, 0, none⟩ = some (.int .i64 0) := bR1.cell 0
    have f0 := bR1.frozen 0
    have r1 : w1.cell? ⟨w.heap.size, 1, none⟩ = some (.string ⟨#[]⟩) := bR1.cell 1
    have f1 := bR1.frozen 1
    have r2 : w1.cell? ⟨w.heap.size, 2, none⟩ = some (.slice none 0 0) := bR1.cell 2
    have f2 := bR1.frozen 2
    have BR := Lib.hid bR1
    have KP := Lib.hid K1
    clear bR1 K1
    go_wp2_with fail
    have bF := r3 (x := .int .i64 0) (y := .string ⟨#[]⟩) (z := .slice none 0 0) BR.out rfl
    exact bodyPost_ret (results_ctt Tryz.results15 rfl (load_ty (t := ty0) bF)) rfl ⟨_, by rw [HA.out, HE.out]; rfl, by rw [HT.out]; exact ⟨_, rfl, .nil0⟩, (((KP.out.setCell (p := ⟨w.heap.size, 0, none⟩) (Or.inr (Nat.le_refl _)) _).setCell (p := ⟨w.heap.size, 1, none⟩) (Or.inr (Nat.le_refl _)) _).setCell (p := ⟨w.heap.size, 2, none⟩) (Or.inr (Nat.le_refl _)) _)⟩
  have hs' : s.size ≤ 65536 := by omega
  have hrd := readT_any (o := w.heap.size + 1) (s := s) (F := typedS f s) (V := LiesT (w.heap.size + 1) (w.heap.size + 5)) (w := ((w.alloc (.cells #[.int .i64 0, .string ⟨#[]⟩, .slice none 0 0] 24)).alloc (.cells #[.int .i64 0, .string ⟨#[]⟩, .slice none 0 0] 24))) hs' G0 (by rw [Z0.out]; omega) (by omega)
    (by
      intro σ1 w1 p1 k1 z1 h1
      rw [Z0.out] at p1 z1 ⊢
      have hm := mu_le s σ1
      refine (typ1_any (f := f) p1 (by omega) rfl (bO.kept k1 (fun h => h)) (by omega) (by omega)).mono ?_
      intro e w2 hc
      cases hq : typedS f s σ1 with
      | error r => rw [hq] at hc; exact hc
      | ok q =>
        obtain ⟨t, σ2⟩ := q
        rw [hq] at hc
        obtain ⟨c1, ⟨tk, c2, c3⟩, c5⟩ := hc
        exact ⟨c1, ⟨tk, c2, c3.mono (fun k _ h => by omega)⟩, c5⟩)
    (by
      rintro a w2 w3 ⟨tk, c2, c3⟩ z2 k3
      rw [Z0.out] at z2 k3
      exact ⟨tk, c2.kept k3 (by show ¬ (w.heap.size + 1 = w.heap.size + 2 ∨ w.heap.size + 1 = w.heap.size + 2 + 1); omega), c3.frame (Same.of_kept k3 (fun k h e => by omega))⟩)
  have HRD := Lib.hid hrd
  clear hrd
  cases hq : ptQ f s with
  | error r =>
    have HA : Hid (ptA f s = r.2) := Lib.hid (by unfold ptA; rw [if_neg hs, hq]; rfl)
    have HE : Hid (ptE f s = if r.1 then 4 else 2) := Lib.hid (by unfold ptE; rw [if_neg hs, hq])
    have HT : Hid (ptT f s = ty0) := Lib.hid (by unfold ptT; rw [if_neg hs, hq])
    have HAA : Hid (rdAt (wholeF s (typedS f s)) = r.2) := Lib.hid (by show rdAt (ptQ f s) = _; rw [hq]; rfl)
    have HEE : Hid (rdE (wholeF s (typedS f s)) = if r.1 then 4 else 2) := Lib.hid (by show rdE (ptQ f s) = _; rw [hq]; rfl)
    clear hq
    go_enter Tryz.func15, Tryz.ntmps15
    go_wp2_with fail
    refine HRD.out.mono ?_
    rintro e w1 ⟨rfl, k1, _⟩
    rw [HAA.out, HEE.out]
    have bR1 := bR.kept k1 (by show ¬ w.heap.size = w.heap.size + 1; omega)
    have K1 := K0.via k1 (fun x hx e => by omega)
    have r0 : w1.cell? ⟨w.heap.size, 0, none⟩ = some (.int .i64 0) := bR1.cell 0
    have f0 := bR1.frozen 0
    have r1 : w1.cell? ⟨w.heap.size, 1, none⟩ = some (.string ⟨#[]⟩) := bR1.cell 1
    have f1 := bR1.frozen 1
    have r2 : w1.cell? ⟨w.heap.size, 2, none⟩ = some (.slice none 0 0) := bR1.cell 2
    have f2 := bR1.frozen 2
    have BR := Lib.hid bR1
    have KP := Lib.hid K1
    clear bR1 K1
    obtain ⟨r1, r2⟩ := r
    cases r1
    · rw [if_neg (by simp)] at HE ⊢
      go_wp2_with fail
      have bF := r3 (x := .int .i64 0) (y := .string ⟨#[]⟩) (z := .slice none 0 0) BR.out rfl
      exact bodyPost_ret (results_ctt Tryz.results15 rfl (load_ty (t := ty0) bF)) rfl ⟨_, by rw [HA.out, HE.out]; rfl, by rw [HT.out]; exact ⟨_, rfl, .nil0⟩, (((KP.out.setCell (p := ⟨w.heap.size, 0, none⟩) (Or.inr (Nat.le_refl _)) _).setCell (p := ⟨w.heap.size, 1, none⟩) (Or.inr (Nat.le_refl _)) _).setCell (p := ⟨w.heap.size, 2, none⟩) (Or.inr (Nat.le_refl _)) _)⟩
    · rw [if_pos rfl] at HE ⊢
      go_wp2_with fail
      have bF := r3 (x := .int .i64 0) (y := .string ⟨#[]⟩) (z := .slice none 0 0) BR.out rfl
      exact bodyPost_ret (results_ctt Tryz.results15 rfl (load_ty (t := ty0) bF)) rfl ⟨_, by rw [HA.out, HE.out]; rfl, by rw [HT.out]; exact ⟨_, rfl, .nil0⟩, (((KP.out.setCell (p := ⟨w.heap.size, 0, none⟩) (Or.inr (Nat.le_refl _)) _).setCell (p := ⟨w.heap.size, 1, none⟩) (Or.inr (Nat.le_refl _)) _).setCell (p := ⟨w.heap.size, 2, none⟩) (Or.inr (Nat.le_refl _)) _)⟩
  | ok q =>
    obtain ⟨t, σ2⟩ := q
    have hsm := (sm_wholeT hs' hq).mono (N' := big) (by decide)
    have HAA : Hid (rdAt (wholeF s (typedS f s)) = 0) := Lib.hid (by show rdAt (ptQ f s) = _; rw [hq]; rfl)
    have HEE : Hid (rdE (wholeF s (typedS f s)) = 0) := Lib.hid (by show rdE (ptQ f s) = _; rw [hq]; rfl)
    have HA : Hid (ptA f s = 0) := Lib.hid (by unfold ptA; rw [if_neg hs, hq]; rfl)
    have HEV : Hid (ptE f s = if validTyB t then 0 else 5) := Lib.hid (by unfold ptE; rw [if_neg hs, hq])
    have HTV : Hid (ptT f s = if validTyB t then t else ty0) := Lib.hid (by unfold ptT; rw [if_neg hs, hq])
    have HQ := Lib.hid hq
    clear hq
    go_enter Tryz.func15, Tryz.ntmps15
    go_wp2_with fail
    refine HRD.out.mono ?_
    rintro e w1 ⟨rfl, k1, hl⟩
    rw [HAA.out, HEE.out]
    obtain ⟨tk, bT, hty⟩ := hl t σ2 HQ.out
    clear hl
    obtain ⟨ta, tn, tc, rfl⟩ := hty.slice
    have bR1 := bR.kept k1 (by show ¬ w.heap.size = w.heap.size + 1; omega)
    have K1 := K0.via k1 (fun x hx e => by omega)
    have y0 : w1.cell? ⟨w.heap.size + 1, 0, none⟩ = some (.int .i64 t.kind) := bT.cell 0
    have y1 : w1.cell? ⟨w.heap.size + 1, 1, none⟩ = some (.string t.name) := bT.cell 1
    have y2 : w1.cell? ⟨w.heap.size + 1, 2, none⟩ = some (.slice ta tn tc) := bT.cell 2
    have HV := Lib.hid (validTy_any hty hsm)
    go_wp2_with fail
    refine HV.out.mono ?_
    rintro e w2 ⟨rfl, k2⟩
    have bR2 := bR1.kept k2 (fun h => h)
    have bT2 := bT.kept k2 (fun h => h)
    have K2 := K1.trans k2
    have l2 := bT2.lt
    cases hv : validTyB t
    · have HE : Hid (ptE f s = 5) := Lib.hid (by rw [HEV.out, hv]; rfl)
      have HT : Hid (ptT f s = ty0) := Lib.hid (by rw [HTV.out, hv]; rfl)
      have r0 : w2.cell? ⟨w.heap.size, 0, none⟩ = some (.int .i64 0) := bR2.cell 0
      have f0 := bR2.frozen 0
      have r1 : w2.cell? ⟨w.heap.size, 1, none⟩ = some (.string ⟨#[]⟩) := bR2.cell 1
      have f1 := bR2.frozen 1
      have r2 : w2.cell? ⟨w.heap.size, 2, none⟩ = some (.slice none 0 0) := bR2.cell 2
      have f2 := bR2.frozen 2
      have BR := Lib.hid bR2
      have KP := Lib.hid K2
      clear bR2 K2
      clear bR1 K1 bT bT2
      go_wp2_with fail
      have bF := r3 (x := .int .i64 0) (y := .string ⟨#[]⟩) (z := .slice none 0 0) BR.out rfl
      exact bodyPost_ret (results_ctt Tryz.results15 rfl (load_ty (t := ty0) bF)) rfl ⟨_, by rw [HA.out, HE.out]; rfl, by rw [HT.out]; exact ⟨_, rfl, .nil0⟩, (((KP.out.setCell (p := ⟨w.heap.size, 0, none⟩) (Or.inr (Nat.le_refl _)) _).setCell (p := ⟨w.heap.size, 1, none⟩) (Or.inr (Nat.le_refl _)) _).setCell (p := ⟨w.heap.size, 2, none⟩) (Or.inr (Nat.le_refl _)) _)⟩
    · have HE : Hid (ptE f s = 0) := Lib.hid (by rw [HEV.out, hv]; rfl)
      have HT : Hid (ptT f s = t) := Lib.hid (by rw [HTV.out, hv]; rfl)
      have hty2 := hty.frame (Same.of_kept k2 (fun _ _ e => e))
      have x0 : w2.cell? ⟨w.heap.size + 1, 0, none⟩ = some (.int .i64 t.kind) := bT2.cell 0
      have x1 : w2.cell? ⟨w.heap.size + 1, 1, none⟩ = some (.string t.name) := bT2.cell 1
      have x2 : w2.cell? ⟨w.heap.size + 1, 2, none⟩ = some (.slice ta tn tc) := bT2.cell 2
      have HC := Lib.hid (copyTy_any (validTy_bd hv) w2 _ _ hty2)
      clear hty2 y0 y1 y2
      go_wp2_with fail
      refine HC.out.mono ?_
      rintro e w3 ⟨v, rfl, hv3, k3⟩
      obtain ⟨va, vn, vc, rfl⟩ := hv3.slice
      unfold tyVal
      have bR3 := bR2.kept k3 (fun h => h)
      have K3 := K2.trans k3
      have r0 : w3.cell? ⟨w.heap.size, 0, none⟩ = some (.int .i64 0) := bR3.cell 0
      have f0 := bR3.frozen 0
      have r1 : w3.cell? ⟨w.heap.size, 1, none⟩ = some (.string ⟨#[]⟩) := bR3.cell 1
      have f1 := bR3.frozen 1
      have r2 : w3.cell? ⟨w.heap.size, 2, none⟩ = some (.slice none 0 0) := bR3.cell 2
      have f2 := bR3.frozen 2
      have BR := Lib.hid bR3
      have KP := Lib.hid K3
      clear bR3 K3
      have V3 := Lib.hid hv3
      clear bR1 K1 bR2 K2 bT bT2 hv3
      go_wp2_with fail
      have bF := r3 (x := .int .i64 t.kind) (y := .string t.name) (z := .slice va vn vc) BR.out rfl
      refine bodyPost_ret (results_ctt Tryz.results15 rfl (load_ty (t := t) bF)) rfl ⟨_, by rw [HA.out, HE.out]; rfl, ?_, (((KP.out.setCell (p := ⟨w.heap.size, 0, none⟩) (Or.inr (Nat.le_refl _)) _).setCell (p := ⟨w.heap.size, 1, none⟩) (Or.inr (Nat.le_refl _)) _).setCell (p := ⟨w.heap.size, 2, none⟩) (Or.inr (Nat.le_refl _)) _)⟩
      rw [HT.out]
      exact ⟨_, rfl, (V3.out.frame (set3 (g := w.heap.size) (fun q h => by omega))).mono (fun q _ h => by omega)⟩
end Go.Proofs.YtckjlliobebodaaGreatDoor
/- The document's ParseType. Printed by genrpty.py. -/
set_option linter.unusedVariables false
set_option linter.unusedSimpArgs false
namespace Go.Proofs.YtckjlliobebodaaGreatDoor
open Go.RowKit
/-- A state in which an error is known. -/
def RK (w : World) (b : Nat) (s : ByteArray) : Except ER PS → Prop
  | .ok σ => RR w b s (.ok σ)
  | .error r => ∃ k x a nest, RAt w b s k x a nest r.2 (if r.1 = true then 4 else 2)
theorem RK.rr {w : World} {b : Nat} {s : ByteArray} (hs : s.size ≤ 65536) : ∀ {q : Except ER PS}, RK w b s q → RR w b s q
  | .ok _, h => h
  | .error _, h => ⟨hs, Or.inr h⟩
/-- At the end of a source no error is pending. -/
theorem end_known {w : World} {b : Nat} {s : ByteArray} {q : Except ER PS} (h : RR w b s q) : Calls Tryz.prog 37 #[.pointer (some ⟨b, 0, none⟩)] w fun e w' => e = .returned (.tuple #[]) ∧ RK w' b s (bP q endS) ∧ Kept (· = b) w w' := by
  have hs := h.src
  match q, h, h.st with
  | .error r, h, .inl ⟨hd, x, nest, hat⟩ =>
    have c1 := hat.c1
    go_enter Tryz.func37, Tryz.ntmps37
    go_wp2_with (first | (go_at_call 38; refine (rok_any hat rfl).mono ?_; rintro e w' ⟨rfl, rfl⟩) | (go_at_call 78; refine (rwrong_live hat rfl).mono ?_; rintro e w' ⟨rfl, h', k'⟩))
    go_end0
    exact ⟨rfl, ⟨_, _, _, _, by rw [hd]; exact h'⟩, k'⟩
  | .error r, h, .inr ⟨k, x, a, nest, hat⟩ =>
    go_enter Tryz.func37, Tryz.ntmps37
    go_wp2_with (first | (go_at_call 38; refine (rok_any hat (e_dead _)).mono ?_; rintro e w' ⟨rfl, rfl⟩))
    go_end0
    exact ⟨rfl, ⟨_, _, _, _, hat⟩, Kept.refl _ _⟩
  | .ok σ, h, ⟨hat, tk⟩ =>
    have c1 := hat.c1
    have he := tok_end tk
    cases hk : (σ.k != 0)
    · rw [hk] at he
      have HR := Lib.hid (show bP (.ok σ) endS = .ok σ by show endS σ = _; unfold endS; rw [if_pos (by simpa using hk)])
      clear hk
      go_enter Tryz.func37, Tryz.ntmps37
      go_wp2_with (first | (go_at_call 38; refine (rok_any hat rfl).mono ?_; rintro e w' ⟨rfl, rfl⟩))
      go_end0
      exact ⟨rfl, by rw [HR.out]; exact h, Kept.refl _ _⟩
    · rw [hk] at he
      have HR := Lib.hid (show bP (.ok σ) endS = .error (false, σ.ta) by show endS σ = _; unfold endS; rw [if_neg (by simpa using hk)])
      clear hk
      go_enter Tryz.func37, Tryz.ntmps37
      go_wp2_with (first | (go_at_call 38; refine (rok_any hat rfl).mono ?_; rintro e w' ⟨rfl, rfl⟩) | (go_at_call 78; refine (rwrong_live hat rfl).mono ?_; rintro e w' ⟨rfl, h', k'⟩))
      go_end0
      exact ⟨rfl, by rw [HR.out]; exact ⟨_, _, _, _, h'⟩, k'⟩
theorem adv0_rr {w : World} {b : Nat} {s : ByteArray} (hs : s.size ≤ 65536) (h : RAt w b s (lexW s (skip s 0)).1 (lexW s (skip s 0)).2 (skip s 0) 0 0 0) : RR w b s (advS s ps0) :=
  adv_rq (σ := ps0) hs rfl (skip_le s 0 (Nat.zero_le _)) (Nat.zero_le _) h
theorem RR.box {w : World} {s : ByteArray} (hs : s.size ≤ 65536) : RR (w.alloc (.cells #[.string s, .int .i64 (lexW s (skip s 0)).1, .string (lexW s (skip s 0)).2, .int .i64 (skip s 0), .int .i64 0, .int .i64 0, .int .i64 0] 58)) w.heap.size s (advS s ps0) :=
  adv0_rr hs (Blk.new _ 58 _)
theorem whole_fin {α : Type} {s : ByteArray} {F : PS → Except ER (α × PS)} : (bT (bP (advS s ps0) F) fun a σ => bP (endS σ) fun σ' => .ok (a, σ')) = wholeF s F := by
  unfold wholeF
  rw [bP_assoc]
  refine bP_congr fun σ _ => bT_congr rfl fun a σ2 _ => ?_
  unfold endS
  split <;> rfl
theorem whole_st {α : Type} {s : ByteArray} {F : PS → Except ER (α × PS)} : bP (stT (bP (advS s ps0) F)) endS = stT (wholeF s F) := by
  rw [← whole_fin, stT_u]
set_option maxRecDepth 100000 in
set_option maxHeartbeats 8000000 in
theorem rparseTy_any {f : Nat} {s : ByteArray} {w : World} (hf : s.size + 2 < f) (hs2 : s.size ≤ 9223372036854775807) : Calls Tryz.prog 16 #[.string s] w (PtP f s w) := by
  have bR : Blk (w.alloc (.cells #[.int .i64 0, .string ⟨#[]⟩, .slice none 0 0] 24)) w.heap.size 24 z24 := Blk.new w 24 _
  have K0 : Kept (fun _ => False) w (w.alloc (.cells #[.int .i64 0, .string ⟨#[]⟩, .slice none 0 0] 24)) := (Kept.refl _ _).alloc _
  by_cases hs : 65536 < s.size
  · have HA : Hid (ptA f s = 0) := Lib.hid (if_pos hs)
    have HE : Hid (ptE f s = 3) := Lib.hid (if_pos hs)
    have HT : Hid (ptT f s = ty0) := Lib.hid (if_pos hs)
    have i1 : (65536 : Int) < s.size := by omega
    have BR := Lib.hid bR
    have KP := Lib.hid K0
    clear bR K0
    go_enter Tryz.func16, Tryz.ntmps16
    go_wp2_with fail
    exact bodyPost_ret (results_ctt Tryz.results16 rfl (load_ty (t := ty0) BR.out)) rfl ⟨_, by rw [HA.out, HE.out]; rfl, by rw [HT.out]; exact ⟨_, rfl, .nil0⟩, KP.out⟩
  have hs' : s.size ≤ 65536 := by omega
  have i1 : ¬ (65536 : Int) < s.size := by omega
  have HQ := Lib.hid (show bP (stT (bP (advS s ps0) (typedS f s))) endS = stT (ptQ f s) from whole_st)
  have HA : Hid (ptA f s = rdAt (ptQ f s)) := Lib.hid (if_neg hs)
  have HEV : Hid (ptE f s = match ptQ f s with | .error r => if r.1 then 4 else 2 | .ok q => if validTyB q.1 then 0 else 5) := Lib.hid (if_neg hs)
  have HTV : Hid (ptT f s = match ptQ f s with | .error _ => ty0 | .ok q => if validTyB q.1 then q.1 else ty0) := Lib.hid (if_neg hs)
  have HSM := Lib.hid (fun t σ => sm_wholeT (f := f) (t := t) (σ := σ) hs')
  clear hs
  go_enter Tryz.func16, Tryz.ntmps16
  go_wp2_with fail
  refine (rlex_any s 0 _ (Nat.zero_le _) hs').mono ?_
  rintro e w1 ⟨rfl, k1⟩
  have bR1 := bR.kept k1 (fun h => h)
  have K1 := K0.trans k1
  have P2 := RR.box (w := w1) hs'
  have bR2 := bR1.alloc (.cells #[.string s, .int .i64 (lexW s (skip s 0)).1, .string (lexW s (skip s 0)).2, .int .i64 (skip s 0), .int .i64 0, .int .i64 0, .int .i64 0] 58)
  have K2 := K1.alloc (.cells #[.string s, .int .i64 (lexW s (skip s 0)).1, .string (lexW s (skip s 0)).2, .int .i64 (skip s 0), .int .i64 0, .int .i64 0, .int .i64 0] 58)
  have z2 : w.heap.size < w1.heap.size := bR1.lt
  have HZ2 : Hid ((w1.alloc (.cells #[.string s, .int .i64 (lexW s (skip s 0)).1, .string (lexW s (skip s 0)).2, .int .i64 (skip s 0), .int .i64 0, .int .i64 0, .int .i64 0] 58)).heap.size = w1.heap.size + 1) := Lib.hid (by simp)
  generalize (lexW s (skip s 0)).1 = lk at *
  generalize (lexW s (skip s 0)).2 = lx at *
  generalize skip s 0 = la at *
  go_wp2_with fail
  generalize (w1.alloc (.cells #[.string s, .int .i64 lk, .string lx, .int .i64 la, .int .i64 0, .int .i64 0, .int .i64 0] 58)) = w2 at *
  refine (rtyp_any f _ _ P2 (fun σ e => by have := mu_le s σ; exact ⟨by omega, adv_le (Nat.zero_le _) e⟩)).mono ?_
  rintro e w3 ⟨t, v, rfl, ⟨tk, rfl, hty⟩, L3, k3⟩
  obtain ⟨ta, tn, tc, rfl⟩ := hty.slice
  unfold tyVal
  have bR3 := (bR2.kept k3 (by show ¬ w.heap.size = w1.heap.size; omega)).alloc (.cells #[.int .i64 t.kind, .string t.name, .slice ta tn tc] 24)
  have K3 := (K2.via k3 (fun x hx e => by omega)).alloc (.cells #[.int .i64 t.kind, .string t.name, .slice ta tn tc] 24)
  have z3 := k3.size
  have l3 := L3.rr.lt
  have L4 := L3.alloc (.cells #[.int .i64 t.kind, .string t.name, .slice ta tn tc] 24)
  have bT4 : Blk (w3.alloc (.cells #[.int .i64 t.kind, .string t.name, .slice ta tn tc] 24)) w3.heap.size 24 [.int .i64 t.kind, .string t.name, .slice ta tn tc] := Blk.new _ 24 _
  have a4 := hty.frame (Same.alloc _ (.cells #[.int .i64 t.kind, .string t.name, .slice ta tn tc] 24))
  go_wp2_with fail
  generalize (w3.alloc (.cells #[.int .i64 t.kind, .string t.name, .slice ta tn tc] 24)) = w4 at *
  refine (end_known L4.rr).mono ?_
  rintro e w5 ⟨rfl, p5, k5⟩
  have L5 : LE w1.heap.size s (ptQ f s) t w5 := (L4.then_u (p5.rr hs')).eq whole_fin
  have bR5 := bR3.kept k5 (by show ¬ w.heap.size = w1.heap.size; omega)
  have bT5 := bT4.kept k5 (by show ¬ w3.heap.size = w1.heap.size; omega)
  have a5 := a4.frame (Same.of_kept k5 (fun k h e => by have := HZ2.out; omega))
  have K5 := K3.via k5 (fun x hx e => by omega)
  have l5 := L5.rr.lt
  rw [HQ.out] at p5
  clear P2 L3 L4 bR bR1 bR2 bR3 bT4 K0 K1 K2 K3
  cases hq : ptQ f s with
  | error r =>
    rw [hq] at p5
    obtain ⟨k, x, a, nest, hat⟩ := p5
    have HA' : Hid (ptA f s = r.2) := Lib.hid (by rw [HA.out, hq]; rfl)
    have HE : Hid (ptE f s = if r.1 then 4 else 2) := Lib.hid (by rw [HEV.out, hq])
    have HT : Hid (ptT f s = ty0) := Lib.hid (by rw [HTV.out, hq])
    clear HA
    have HA := HA'
    clear HA' hq
    obtain ⟨r1, r2⟩ := r
    have HED := Lib.hid (e_dead r1)
    cases r1
    all_goals
      have g5 := hat.c5
      have g6 := hat.c6
      have r0 : w5.cell? ⟨w.heap.size, 0, none⟩ = some (.int .i64 0) := bR5.cell 0
      have f0 : w5.frozen? ⟨w.heap.size, 0, none⟩ = false := bR5.frozen 0
      have r1 : w5.cell? ⟨w.heap.size, 1, none⟩ = some (.string ⟨#[]⟩) := bR5.cell 1
      have f1 : w5.frozen? ⟨w.heap.size, 1, none⟩ = false := bR5.frozen 1
      have r2 : w5.cell? ⟨w.heap.size, 2, none⟩ = some (.slice none 0 0) := bR5.cell 2
      have f2 : w5.frozen? ⟨w.heap.size, 2, none⟩ = false := bR5.frozen 2
      have BR := Lib.hid bR5
      have KP := Lib.hid K5
      clear bR5 K5
      go_wp2_with fail
      refine (rok_any hat HED.out).mono ?_
      rintro e w' ⟨rfl, rfl⟩
      go_wp2_with fail
      go_region
      all_goals
        go_wp2_with fail
        have bF := r3 (x := .int .i64 0) (y := .string ⟨#[]⟩) (z := .slice none 0 0) BR.out rfl
        exact bodyPost_ret (results_ctt Tryz.results16 rfl (load_ty (t := ty0) bF.drew)) rfl ⟨_, by rw [HA.out, HE.out]; rfl, by rw [HT.out]; exact ⟨_, rfl, .nil0⟩, (((KP.out.setCell (p := ⟨w.heap.size, 0, none⟩) (Or.inr (Nat.le_refl _)) _).setCell (p := ⟨w.heap.size, 1, none⟩) (Or.inr (Nat.le_refl _)) _).setCell (p := ⟨w.heap.size, 2, none⟩) (Or.inr (Nat.le_refl _)) _).drew⟩
  | ok q =>
    obtain ⟨t', σ2⟩ := q
    rw [hq] at p5 L5
    obtain ⟨rfl, _⟩ := L5
    have hat := (p5 : RR w5 w1.heap.size s (.ok σ2)).st.1
    have hsm := (HSM.out _ _ hq).mono (N' := big) (by decide)
    have HA' : Hid (ptA f s = 0) := Lib.hid (by rw [HA.out, hq]; rfl)
    have HEV' : Hid (ptE f s = if validTyB t' then 0 else 5) := Lib.hid (by rw [HEV.out, hq])
    have HTV' : Hid (ptT f s = if validTyB t' then t' else ty0) := Lib.hid (by rw [HTV.out, hq])
    clear HA HEV HTV hq
    have HA := HA'
    clear HA'
    have y0 : w5.cell? ⟨w3.heap.size, 0, none⟩ = some (.int .i64 t'.kind) := bT5.cell 0
    have y1 : w5.cell? ⟨w3.heap.size, 1, none⟩ = some (.string t'.name) := bT5.cell 1
    have y2 : w5.cell? ⟨w3.heap.size, 2, none⟩ = some (.slice ta tn tc) := bT5.cell 2
    have HV := Lib.hid (rvalidTy_any a5 hsm)
    go_wp2_with fail
    refine (rok_any hat rfl).mono ?_
    rintro e w' ⟨rfl, rfl⟩
    go_wp2_with fail
    refine HV.out.mono ?_
    rintro e w6 ⟨rfl, k6⟩
    have bR6 := bR5.kept k6 (fun h => h)
    have bT6 := bT5.kept k6 (fun h => h)
    have K6 := K5.trans k6
    cases hv : validTyB t'
    · have HE : Hid (ptE f s = 5) := Lib.hid (by rw [HEV'.out, hv]; rfl)
      have HT : Hid (ptT f s = ty0) := Lib.hid (by rw [HTV'.out, hv]; rfl)
      have r0 : w6.cell? ⟨w.heap.size, 0, none⟩ = some (.int .i64 0) := bR6.cell 0
      have f0 : w6.frozen? ⟨w.heap.size, 0, none⟩ = false := bR6.frozen 0
      have r1 : w6.cell? ⟨w.heap.size, 1, none⟩ = some (.string ⟨#[]⟩) := bR6.cell 1
      have f1 : w6.frozen? ⟨w.heap.size, 1, none⟩ = false := bR6.frozen 1
      have r2 : w6.cell? ⟨w.heap.size, 2, none⟩ = some (.slice none 0 0) := bR6.cell 2
      have f2 : w6.frozen? ⟨w.heap.size, 2, none⟩ = false := bR6.frozen 2
      have BR := Lib.hid bR6
      have KP := Lib.hid K6
      clear bR6 K6 bR5 K5 bT5 bT6
      go_wp2_with fail
      have bF := r3 (x := .int .i64 0) (y := .string ⟨#[]⟩) (z := .slice none 0 0) BR.out rfl
      exact bodyPost_ret (results_ctt Tryz.results16 rfl (load_ty (t := ty0) bF)) rfl ⟨_, by rw [HA.out, HE.out]; rfl, by rw [HT.out]; exact ⟨_, rfl, .nil0⟩, (((KP.out.setCell (p := ⟨w.heap.size, 0, none⟩) (Or.inr (Nat.le_refl _)) _).setCell (p := ⟨w.heap.size, 1, none⟩) (Or.inr (Nat.le_refl _)) _).setCell (p := ⟨w.heap.size, 2, none⟩) (Or.inr (Nat.le_refl _)) _)⟩
    · have HE : Hid (ptE f s = 0) := Lib.hid (by rw [HEV'.out, hv]; rfl)
      have HT : Hid (ptT f s = t') := Lib.hid (by rw [HTV'.out, hv]; rfl)
      have a6 := a5.frame (Same.of_kept k6 (fun _ _ e => e))
      have x0 : w6.cell? ⟨w3.heap.size, 0, none⟩ = some (.int .i64 t'.kind) := bT6.cell 0
      have x1 : w6.cell? ⟨w3.heap.size, 1, none⟩ = some (.string t'.name) := bT6.cell 1
      have x2 : w6.cell? ⟨w3.heap.size, 2, none⟩ = some (.slice ta tn tc) := bT6.cell 2
      have r0 : w6.cell? ⟨w.heap.size, 0, none⟩ = some (.int .i64 0) := bR6.cell 0
      have f0 : w6.frozen? ⟨w.heap.size, 0, none⟩ = false := bR6.frozen 0
      have r1 : w6.cell? ⟨w.heap.size, 1, none⟩ = some (.string ⟨#[]⟩) := bR6.cell 1
      have f1 : w6.frozen? ⟨w.heap.size, 1, none⟩ = false := bR6.frozen 1
      have r2 : w6.cell? ⟨w.heap.size, 2, none⟩ = some (.slice none 0 0) := bR6.cell 2
      have f2 : w6.frozen? ⟨w.heap.size, 2, none⟩ = false := bR6.frozen 2
      have BR := Lib.hid bR6
      have KP := Lib.hid K6
      have A6 := Lib.hid a6
      clear bR6 K6 bR5 K5 bT5 bT6 a5 a6 y0 y1 y2
      go_wp2_with fail
      have bF := r3 (x := .int .i64 t'.kind) (y := .string t'.name) (z := .slice ta tn tc) BR.out rfl
      refine bodyPost_ret (results_ctt Tryz.results16 rfl (load_ty (t := t') bF)) rfl ⟨_, by rw [HA.out, HE.out]; rfl, ?_, (((KP.out.setCell (p := ⟨w.heap.size, 0, none⟩) (Or.inr (Nat.le_refl _)) _).setCell (p := ⟨w.heap.size, 1, none⟩) (Or.inr (Nat.le_refl _)) _).setCell (p := ⟨w.heap.size, 2, none⟩) (Or.inr (Nat.le_refl _)) _)⟩
      rw [HT.out]
      exact ⟨_, rfl, (A6.out.frame (set3 (g := w.heap.size) (fun q h => by have := HZ2.out; omega))).mono (fun q _ h => by have := HZ2.out; omega)⟩
end Go.Proofs.YtckjlliobebodaaGreatDoor
/- The document's SameType and SameTerm: equal trees are found equal. -/
set_option linter.unusedVariables false
set_option linter.unusedSimpArgs false
namespace Go.Proofs.YtckjlliobebodaaGreatDoor
open Go.RowKit
def SmC (t : Ty) : Prop := ∀ (w : World) (ok ok' : Nat → Prop) (tk tk' : Value), TyL ok w t.kids tk → TyL ok' w t.kids tk' →
  Calls Tryz.prog 17 #[tyVal t tk, tyVal t tk'] w fun e w' => e = .returned (.bool true) ∧ Kept (fun _ => False) w w'
set_option maxRecDepth 100000 in
set_option maxHeartbeats 8000000 in
theorem sameTy_nil {k : Int} {nm : ByteArray} {a a' : Option Addr} {cp cp' : Nat} {w : World} :
    Calls Tryz.prog 17 #[.agg #[.int .i64 k, .string nm, .slice a 0 cp], .agg #[.int .i64 k, .string nm, .slice a' 0 cp']] w fun e w' => e = .returned (.bool true) ∧ Kept (fun _ => False) w w' := by
  have bA : Blk ((w.alloc (.cells #[.int .i64 k, .string nm, .slice a 0 cp] 24)).alloc (.cells #[.int .i64 k, .string nm, .slice a' 0 cp'] 24)) w.heap.size 24 [.int .i64 k, .string nm, .slice a 0 cp] := (Blk.new w 24 _).alloc _
  have bB : Blk ((w.alloc (.cells #[.int .i64 k, .string nm, .slice a 0 cp] 24)).alloc (.cells #[.int .i64 k, .string nm, .slice a' 0 cp'] 24)) (w.heap.size + 1) 24 [.int .i64 k, .string nm, .slice a' 0 cp'] := Blk.new' 24 _ (by simp)
  have K1 : Kept (fun _ => False) w ((w.alloc (.cells #[.int .i64 k, .string nm, .slice a 0 cp] 24)).alloc (.cells #[.int .i64 k, .string nm, .slice a' 0 cp'] 24)) := ((Kept.refl _ _).alloc _).alloc _
  go_enter Tryz.func17, Tryz.ntmps17
  go_wp2_with fail
  generalize ((w.alloc (.cells #[.int .i64 k, .string nm, .slice a 0 cp] 24)).alloc (.cells #[.int .i64 k, .string nm, .slice a' 0 cp'] 24)) = w1 at *
  have g2 : w1.cell? ⟨w.heap.size, 2, none⟩ = some (.slice a 0 cp) := bA.cell 2
  go_loop [5] (fun i => i = .int .i64 0) (fun i => 0)
  case atStart => rfl
  case round =>
    subst hrel
    go_wp2_with fail
    go_ret
    exact ⟨rfl, K1⟩
set_option maxRecDepth 100000 in
set_option maxHeartbeats 8000000 in
theorem sameTy_mk {k : Int} {nm : ByteArray} {l : List Ty} {b off cp b' off' cp' : Nat} {w : World} {ok ok' : Nat → Prop} (IH : ∀ t, t ∈ l → SmC t) (K K' : Nat → Value) (hb : ok b) (hb' : ok' b')
    (hcell : ∀ i (h : i < l.length), w.cell? ⟨b, off + i * 3, none⟩ = some (.int .i64 l[i].kind) ∧ w.cell? ⟨b, off + i * 3 + 1, none⟩ = some (.string l[i].name) ∧ w.cell? ⟨b, off + i * 3 + 2, none⟩ = some (K i))
    (hk : ∀ i (h : i < l.length), TyL ok w l[i].kids (K i))
    (hcell' : ∀ i (h : i < l.length), w.cell? ⟨b', off' + i * 3, none⟩ = some (.int .i64 l[i].kind) ∧ w.cell? ⟨b', off' + i * 3 + 1, none⟩ = some (.string l[i].name) ∧ w.cell? ⟨b', off' + i * 3 + 2, none⟩ = some (K' i))
    (hk' : ∀ i (h : i < l.length), TyL ok' w l[i].kids (K' i)) (hn : l.length ≤ 1000000) :
    Calls Tryz.prog 17 #[.agg #[.int .i64 k, .string nm, .slice (some ⟨b, off, none⟩) l.length cp], .agg #[.int .i64 k, .string nm, .slice (some ⟨b', off', none⟩) l.length cp']] w fun e w' => e = .returned (.bool true) ∧ Kept (fun _ => False) w w' := by
  have HIH := Lib.hid IH
  have HC := Lib.hid hcell
  have HK := Lib.hid hk
  have HC' := Lib.hid hcell'
  have HK' := Lib.hid hk'
  clear IH hcell hk hcell' hk'
  have bA : Blk ((w.alloc (.cells #[.int .i64 k, .string nm, .slice (some ⟨b, off, none⟩) l.length cp] 24)).alloc (.cells #[.int .i64 k, .string nm, .slice (some ⟨b', off', none⟩) l.length cp'] 24)) w.heap.size 24 [.int .i64 k, .string nm, .slice (some ⟨b, off, none⟩) l.length cp] := (Blk.new w 24 _).alloc _
  have bB : Blk ((w.alloc (.cells #[.int .i64 k, .string nm, .slice (some ⟨b, off, none⟩) l.length cp] 24)).alloc (.cells #[.int .i64 k, .string nm, .slice (some ⟨b', off', none⟩) l.length cp'] 24)) (w.heap.size + 1) 24 [.int .i64 k, .string nm, .slice (some ⟨b', off', none⟩) l.length cp'] := Blk.new' 24 _ (by simp)
  have K1 : Kept (fun _ => False) w ((w.alloc (.cells #[.int .i64 k, .string nm, .slice (some ⟨b, off, none⟩) l.length cp] 24)).alloc (.cells #[.int .i64 k, .string nm, .slice (some ⟨b', off', none⟩) l.length cp'] 24)) := ((Kept.refl _ _).alloc _).alloc _
  go_enter Tryz.func17, Tryz.ntmps17
  go_wp2_with fail
  generalize ((w.alloc (.cells #[.int .i64 k, .string nm, .slice (some ⟨b, off, none⟩) l.length cp] 24)).alloc (.cells #[.int .i64 k, .string nm, .slice (some ⟨b', off', none⟩) l.length cp'] 24)) = w1 at *
  go_loopw [5] (fun i wr => ∃ j : Nat, j ≤ l.length ∧ i = .int .i64 j ∧ Kept (fun _ => False) w1 wr) (fun i _ => l.length - (intOf i).toNat)
  case atStart => exact ⟨0, Nat.zero_le _, rfl, Kept.refl _ _⟩
  case round =>
    obtain ⟨j, hj, rfl, kr⟩ := hrel
    have g2 : wr.cell? ⟨w.heap.size, 2, none⟩ = some (.slice (some ⟨b, off, none⟩) l.length cp) := (bA.kept kr (fun h => h)).cell 2
    have g2' : wr.cell? ⟨w.heap.size + 1, 2, none⟩ = some (.slice (some ⟨b', off', none⟩) l.length cp') := (bB.kept kr (fun h => h)).cell 2
    by_cases hlt : j < l.length
    · have KR := K1.trans kr
      have c0 := (Same.of_kept (ok := ok) KR (fun k h e => e)).cell hb (HC.out j hlt).1
      have c1 := (Same.of_kept (ok := ok) KR (fun k h e => e)).cell hb (HC.out j hlt).2.1
      have c2 := (Same.of_kept (ok := ok) KR (fun k h e => e)).cell hb (HC.out j hlt).2.2
      have d0 := (Same.of_kept (ok := ok') KR (fun k h e => e)).cell hb' (HC'.out j hlt).1
      have d1 := (Same.of_kept (ok := ok') KR (fun k h e => e)).cell hb' (HC'.out j hlt).2.1
      have d2 := (Same.of_kept (ok := ok') KR (fun k h e => e)).cell hb' (HC'.out j hlt).2.2
      have hkk := (HK.out j hlt).frame (Same.of_kept (ok := ok) KR (fun k h e => e))
      have hkk' := (HK'.out j hlt).frame (Same.of_kept (ok := ok') KR (fun k h e => e))
      obtain ⟨ta, tn, tc, hKj⟩ := hkk.slice
      obtain ⟨ta', tn', tc', hKj'⟩ := hkk'.slice
      rw [hKj] at c2 hkk
      rw [hKj'] at d2 hkk'
      have hcon := Lib.hid (fun (W : World) (kW : Kept (fun _ => False) wr W) => HIH.out _ (List.getElem_mem hlt) W ok ok' _ _ (hkk.frame (Same.of_kept kW (fun k h e => e))) (hkk'.frame (Same.of_kept kW (fun k h e => e))))
      unfold tyVal at hcon
      clear hkk hkk' hKj hKj'
      have hj2 : (j : Int) < (l.length : Int) := by omega
      have hj3 : (j : Int) < 1000000 := by omega
      go_wp2_with fail
      go_still_tail 10, (by kernel_rfl)
      change wpList _ _ _ _ _ wr.drew
      have kd : Kept (fun _ => False) wr wr.drew := (Kept.refl _ _).drew
      generalize wr.drew = w2 at *
      go_wp2_with (go_at_call 17; refine (hcon.out _ kd).mono ?_; rintro e w' ⟨rfl, k2⟩)
      go_roundw
      case rel => exact ⟨j + 1, by omega, by go_num, kr.trans (kd.trans k2)⟩
      case measure => simp [intOf]; omega
    · go_wp2_with fail
      go_ret
      exact ⟨rfl, K1.trans kr⟩
theorem sameTy_any {t : Ty} (hb : BdTy t) : SmC t := by
  induction hb with
  | mk hn hl ih =>
    intro w ok ok' tk tk' h h'
    cases h with
    | nil h =>
      cases h' with
      | nil h' =>
        rcases h with rfl | ⟨ad, c, rfl⟩ <;> rcases h' with rfl | ⟨ad', c', rfl⟩ <;> exact sameTy_nil
      | mk K hne => exact absurd rfl hne
    | mk K hne hb hc hcell hk =>
      cases h' with
      | nil h' => exact absurd rfl hne
      | mk K' hne' hb' hc' hcell' hk' => exact sameTy_mk ih K K' hb hb' hcell hk hcell' hk' hn
end Go.Proofs.YtckjlliobebodaaGreatDoor
