/- Texts Read En TyF of this proof, in one. -/
import Derived.Test.YtfhedienjnfdcaaGreatDoorG6
set_option linter.unusedVariables false
set_option linter.unusedSimpArgs false
set_option maxRecDepth 100000
set_option maxHeartbeats 32000000
namespace Go.Proofs.YtfhedienjnfdcaaGreatDoor
open Go.RowKit
def CPost {α : Type} (b : Nat) (s : ByteArray) (S : Nat → Prop) (V : α → World → Prop) (q : Except ER (α × PS)) (w : World) (e : Ending) (w' : World) : Prop :=
 match q with
 | .ok (a, σ') => e = .returned (.tuple #[]) ∧ V a w' ∧ PW w' b s σ' ∧ Kept S w w'
 | .error r => e = .panicked [pan r.1 r.2] ∧ Kept S w w'
section
variable {α : Type} {b : Nat} {s : ByteArray} {S : Nat → Prop} {V : α → World → Prop} {q : Except ER (α × PS)} {w w' : World} {e : Ending}
theorem CPost.ok {a : α} {σ' : PS} (hq : q = .ok (a, σ')) (h : e = .returned (.tuple #[]) ∧ V a w' ∧ PW w' b s σ' ∧ Kept S w w') : CPost b s S V q w e w' := by subst hq; exact h
theorem CPost.err {r : ER} (hq : q = .error r) (h : e = .panicked [pan r.1 r.2] ∧ Kept S w w') : CPost b s S V q w e w' := by subst hq; exact h
theorem CPost.getOk {a : α} {σ' : PS} (h : CPost b s S V q w e w') (hq : q = .ok (a, σ')) : e = .returned (.tuple #[]) ∧ V a w' ∧ PW w' b s σ' ∧ Kept S w w' := by subst hq; exact h
theorem CPost.getErr {r : ER} (h : CPost b s S V q w e w') (hq : q = .error r) : e = .panicked [pan r.1 r.2] ∧ Kept S w w' := by subst hq; exact h
end
def Lies (o n : Nat) (t : Tm) (w : World) : Prop := ∃ tk kk, Blk w o 28 (tmCells t tk kk) ∧ TyL (fun k => n ≤ k) w t.ty.kids tk ∧ TmL (fun k => n ≤ k) w t.kids kk
theorem parse1_any {b o f : Nat} {s : ByteArray} {σ : PS} {w : World} {z : List Value} (hs : s.size ≤ 65536) (h : PW w b s σ) (hf : 14 * mu s σ + 13 < f) (hz : z.length = 7) (ho : Blk w o 28 z) (hob : o ≠ b) (ho2 : 4 ≤ o) :
  Calls Tryz.prog 93 #[.pointer (some ⟨b, 0, none⟩), .pointer (some ⟨o, 0, none⟩)] w (CPost b s (fun k => k = b ∨ k = o) (Lies o w.heap.size) (termS f s 1 σ) w) := by
 have hlt := h.lt
 have holt := ho.lt
 go_enter Tryz.func93, Tryz.ntmps93
 go_wp2_with fail
 refine (term_any hs f 1 1 rfl σ w (by decide) (by decide) h (by omega)).mono ?_
 rintro e w1 hr
 cases h_1 : termS f s 1 σ with
 | error r =>
  obtain ⟨rfl, k1⟩ := hr.getErr h_1
  go_wp2_with fail
  exact ⟨rfl, CPost.err h_1 ⟨rfl, k1.mono (fun _ _ h => Or.inl h)⟩⟩
 | ok q =>
  obtain ⟨t, σ1⟩ := q
  obtain ⟨v, rfl, ⟨tk, kk, rfl, at1, ct1⟩, p1, k1⟩ := hr.getOk h_1
  clear hr
  obtain ⟨ta1, tn1, tc1, rfl⟩ := at1.slice
  obtain ⟨ma1, mn1, mc1, rfl⟩ := ct1.slice
  unfold tmVal
  have hO := ho.kept k1 (by show ¬ o = b; exact hob)
  have HZ := Ld hz
  clear hz
  have g : ∀ i, i < 7 → ∃ u, w1.cell? ⟨o, i, none⟩ = some u := by
   intro i hi
   exact ⟨z[i]'(by rw [HZ.out]; exact hi), by rw [hO.cell i]; exact List.getElem?_eq_getElem _⟩
  obtain ⟨u0, g0⟩ := g 0 (by decide)
  obtain ⟨u1, g1⟩ := g 1 (by decide)
  obtain ⟨u2, g2⟩ := g 2 (by decide)
  obtain ⟨u3, g3⟩ := g 3 (by decide)
  obtain ⟨u4, g4⟩ := g 4 (by decide)
  obtain ⟨u5, g5⟩ := g 5 (by decide)
  obtain ⟨u6, g6⟩ := g 6 (by decide)
  clear g
  have f0 := hO.frozen 0
  have f1 := hO.frozen 1
  have f2 := hO.frozen 2
  have f3 := hO.frozen 3
  have f4 := hO.frozen 4
  have f5 := hO.frozen 5
  have f6 := hO.frozen 6
  go_wp2_with fail
  go_end0
  have hR := r7 (x0 := .int .i64 t.op) (x1 := .string t.name) (x2 := .int .i64 t.n) (x3 := .int .i64 t.ty.kind) (x4 := .string t.ty.name) (x5 := .slice ta1 tn1 tc1) (x6 := .slice ma1 mn1 mc1) hO HZ.out
  exact CPost.ok h_1 ⟨rfl, ⟨_, _, hR, at1.frame (same7 holt), ct1.frame (same7 holt)⟩, p7w p1 hob ho2, k7w (k1.mono (fun _ _ h => Or.inl h)) (Or.inl (Or.inr rfl))⟩
theorem results_cc {P : Program} {fn : Func} {p q : Tmp} {ty tz : TypeId} (h : fn.results = #[.cell p ty, .cell q tz]) {tmps : Array Value} {a b : Addr} (ha : tmps.getD p undef = .pointer (some a)) (hb : tmps.getD q undef = .pointer (some b)) {v u : Value} {W : World}
  (hl : (loadVar ty a).run P W = .ok v W) (hm : (loadVar tz b).run P W = .ok u W) : (results fn tmps).run P W = .ok (.tuple #[v, u]) W := by
 have e : results fn tmps = (do let v ← (do loadVar ty (← asAddr (tmps.getD p undef))); let u ← (do loadVar tz (← asAddr (tmps.getD q undef))); pure (Value.tuple #[v, u])) := by
  unfold results; rw [h]; simp
 rw [e, ha, hb]
 show (loadVar ty a >>= fun v => loadVar tz b >>= fun u => pure (Value.tuple #[v, u])).run P W = _
 rw [Sem.run_bind, hl]
 show (loadVar tz b >>= fun u => pure (Value.tuple #[v, u])).run P W = _
 rw [Sem.run_bind, hm]
 rfl
theorem results_ctt {P : Program} {fn : Func} {p q r : Tmp} {ty : TypeId} (h : fn.results = #[.cell p ty, .tmp q, .tmp r]) {tmps : Array Value} {a : Addr} (ha : tmps.getD p undef = .pointer (some a)) {v : Value} {W : World}
  (hl : (loadVar ty a).run P W = .ok v W) : (results fn tmps).run P W = .ok (.tuple #[v, tmps.getD q undef, tmps.getD r undef]) W := by
 have e : results fn tmps = (do let v ← (do loadVar ty (← asAddr (tmps.getD p undef))); pure (Value.tuple #[v, tmps.getD q undef, tmps.getD r undef])) := by
  unfold results; rw [h]; simp
 rw [e, ha]
 show (loadVar ty a >>= fun v => pure (Value.tuple #[v, tmps.getD q undef, tmps.getD r undef])).run P W = _
 rw [Sem.run_bind, hl]
 rfl
def wholeF {α : Type} (s : ByteArray) (F : PS → Except ER (α × PS)) : Except ER (α × PS) := bP (advS s ps0) fun σ1 => bT (F σ1) fun a σ2 => if σ2.k = 0 then .ok (a, σ2) else .error (false, σ2.ta)
theorem load_i {W : World} {A : Nat} {x : Int} (h : Blk W A 3 [.int .i64 x]) : (loadVar 3 ⟨A, 0, none⟩).run Tryz.prog W = .ok (.int .i64 x) W := by
 have := h.cell 0
 simp [go_sem, this]
theorem load_e {W : World} {A : Nat} {x : Int} (h : Blk W A 29 [.int .i64 x]) : (loadVar 29 ⟨A, 0, none⟩).run Tryz.prog W = .ok (.int .i64 x) W := by
 have := h.cell 0
 simp [go_sem, this]
def rdAt {α : Type} : Except ER (α × PS) → Int
 | .ok _ => 0
 | .error r => r.2
def rdE {α : Type} : Except ER (α × PS) → Int
 | .ok _ => 0
 | .error r => if r.1 then 4 else 2
theorem rd_err {r : ER} (A E : Nat) (x y : Int) (w : World) (lA : A < w.heap.size) (lE : E < w.heap.size) (hAE : A ≠ E) (hA : w.cell? ⟨A, 0, none⟩ = some (.int .i64 x)) (hE : w.cell? ⟨E, 0, none⟩ = some (.int .i64 y)) (fA : w.frozen? ⟨A, 0, none⟩ = false) (fE : w.frozen? ⟨E, 0, none⟩ = false) :
  CallsD Tryz.prog 145 #[.pointer (some ⟨A, 0, none⟩), .pointer (some ⟨E, 0, none⟩)] (.panicking [pan r.1 r.2]) w fun e u' w' =>
   e = .returned (.tuple #[]) ∧ (∃ v, u' = .panicking [{ v := v, recovered := true }]) ∧ ∃ ob, w' = ((w.setCell ⟨A, 0, none⟩ (.int .i64 r.2)).setCell ⟨E, 0, none⟩ (.int .i64 (if r.1 then 4 else 2))).alloc ob := by
 obtain ⟨d, p⟩ := r
 cases d
 ·exact (rd_mal A E p x y [] w lA lE hAE hA hE fA fE).mono fun e u' w' ⟨h1, h2, h3⟩ => ⟨h1, ⟨_, h2⟩, _, h3⟩
 ·exact (rd_deep A E p x y [] w lA lE hAE hA hE fA fE).mono fun e u' w' ⟨h1, h2, h3⟩ => ⟨h1, ⟨_, h2⟩, _, h3⟩
theorem read_any {α : Type} {o : Nat} {s : ByteArray} {F : PS → Except ER (α × PS)} {V : α → World → Prop} {w : World} (hs : s.size ≤ 65536) (hgl : Gl w) (ho : o < w.heap.size) (ho2 : 4 ≤ o)
  (hC : ∀ σ1 w1, PW w1 (w.heap.size + 2) s σ1 → Kept (fun _ => False) w w1 → w.heap.size + 3 ≤ w1.heap.size → advS s ps0 = .ok σ1 → Calls Tryz.prog 93 #[.pointer (some ⟨w.heap.size + 2, 0, none⟩), .pointer (some ⟨o, 0, none⟩)] w1 (CPost (w.heap.size + 2) s (fun k => k = w.heap.size + 2 ∨ k = o) V (F σ1) w1))
  (hV : ∀ a w2 w3, V a w2 → w.heap.size + 3 ≤ w2.heap.size → Kept (fun k => k = w.heap.size ∨ k = w.heap.size + 1) w2 w3 → V a w3) :
  Calls Tryz.prog 92 #[.string s, .func (.func 93) #[] #[.pointer (some ⟨o, 0, none⟩)]] w fun e w' =>
   e = .returned (.tuple #[.int .i64 (rdAt (wholeF s F)), .int .i64 (rdE (wholeF s F))]) ∧ Kept (· = o) w w' ∧ ∀ a σ2, wholeF s F = .ok (a, σ2) → V a w' := by
 have hmf : ∀ (fn : Fn) (first cap : Array Value) (w : World), (Instr.makeFunc fn first cap).run Tryz.prog w = .ok (.func fn first cap) w := fun _ _ _ _ => rfl
 have HC := Ld hC
 have HV := Ld hV
 clear hC hV
 have hgt := hgl.lt
 have i1 : (s.size : Int) ≤ 65536 := by omega
 have h0 : PW (((w.alloc (.cells #[.int .i64 0] 3)).alloc (.cells #[.int .i64 0] 29)).alloc (.cells #[.string s, .int .i64 0, .int .i64 0, .string ⟨#[]⟩, .int .i64 0, .int .i64 0, .int .i64 0] 153)) (w.heap.size + 2) s ps0 :=
  ⟨Blk.new' 153 _ (by simp), Nat.zero_le _, Nat.zero_le _, hs, by omega, ((hgl.alloc _).alloc _).alloc _, Nat.zero_le _⟩
 have K0 : Kept (fun _ => False) w (((w.alloc (.cells #[.int .i64 0] 3)).alloc (.cells #[.int .i64 0] 29)).alloc (.cells #[.string s, .int .i64 0, .int .i64 0, .string ⟨#[]⟩, .int .i64 0, .int .i64 0, .int .i64 0] 153)) := (((Kept.refl _ _).alloc _).alloc _).alloc _
 have bA : Blk (((w.alloc (.cells #[.int .i64 0] 3)).alloc (.cells #[.int .i64 0] 29)).alloc (.cells #[.string s, .int .i64 0, .int .i64 0, .string ⟨#[]⟩, .int .i64 0, .int .i64 0, .int .i64 0] 153)) w.heap.size 3 [.int .i64 0] := ((Blk.new w 3 [.int .i64 0]).alloc _).alloc _
 have bE : Blk (((w.alloc (.cells #[.int .i64 0] 3)).alloc (.cells #[.int .i64 0] 29)).alloc (.cells #[.string s, .int .i64 0, .int .i64 0, .string ⟨#[]⟩, .int .i64 0, .int .i64 0, .int .i64 0] 153)) (w.heap.size + 1) 29 [.int .i64 0] := (Blk.new' 29 [.int .i64 0] (by simp)).alloc _
 go_enter_defers Tryz.func92, Tryz.ntmps92
 go_wp2_with fail
 cases hadv : advS s ps0 with
 | error r =>
  have hw : Hid (wholeF s F = .error r) := Ld (by unfold wholeF; rw [hadv]; rfl)
  refine (adv_err h0 hadv).mono ?_
  rintro e w1 ⟨rfl, k1⟩
  have a1 := bA.kept k1 (by show ¬ w.heap.size = w.heap.size + 2; omega)
  have e1 := bE.kept k1 (by show ¬ w.heap.size + 1 = w.heap.size + 2; omega)
  have K1 : Kept (· = o) w w1 := (K0.mono (T := (· = o)) (fun _ _ h => h.elim)).via k1 (fun x hx h => by omega)
  go_wp2_with fail
  refine leaves_cons (f := 145) (args := #[.pointer (some ⟨w.heap.size, 0, none⟩), .pointer (some ⟨w.heap.size + 1, 0, none⟩)]) (by simp) (by simp [go_sem]) ?_
  refine (rd_err (r := r) w.heap.size (w.heap.size + 1) 0 0 _ a1.lt e1.lt (by omega) (a1.cell 0) (e1.cell 0) (a1.frozen 0) (e1.frozen 0)).mono ?_
  rintro e u' w'' ⟨rfl, ⟨v, rfl⟩, ob, rfl⟩
  have a2 := ((a1.set 0 (.int .i64 r.2)).set_other ⟨w.heap.size + 1, 0, none⟩ (.int .i64 (if r.1 then 4 else 2)) (by show w.heap.size ≠ w.heap.size + 1; omega)).alloc ob
  have e2 := ((e1.set_other ⟨w.heap.size, 0, none⟩ (.int .i64 r.2) (by show w.heap.size + 1 ≠ w.heap.size; omega)).set 0 (.int .i64 (if r.1 then 4 else 2))).alloc ob
  refine ⟨_, results_cc Tryz.results92 rfl rfl (load_i a2) (load_e e2), ?_, ?_, ?_⟩
  ·rw [hw.out]; rfl
  ·exact ((K1.setCell (p := ⟨w.heap.size, 0, none⟩) (Or.inr (Nat.le_refl _)) _).setCell (p := ⟨w.heap.size + 1, 0, none⟩) (Or.inr (by show w.heap.size ≤ w.heap.size + 1; omega)) _).alloc ob
  ·intro a σ2 h; rw [hw.out] at h; cases h
 | ok σ1 =>
  refine (adv_ok h0 hadv).mono ?_
  rintro e w1 ⟨rfl, p1, k1⟩
  have a1 := bA.kept k1 (by show ¬ w.heap.size = w.heap.size + 2; omega)
  have e1 := bE.kept k1 (by show ¬ w.heap.size + 1 = w.heap.size + 2; omega)
  have K1 : Kept (fun _ => False) w w1 := K0.via k1 (fun x hx h => by omega)
  have z1 := p1.lt
  go_wp2_with fail
  refine (HC.out σ1 w1 p1 K1 z1 hadv).mono ?_
  rintro e w2 hr
  cases hF : F σ1 with
  | error r =>
   have hw : Hid (wholeF s F = .error r) := Ld (by unfold wholeF; rw [hadv]; show bT (F σ1) _ = _; rw [hF]; rfl)
   obtain ⟨rfl, k2⟩ := hr.getErr hF
   clear hr
   have a2 := a1.kept k2 (by show ¬ (w.heap.size = w.heap.size + 2 ∨ w.heap.size = o); omega)
   have e2 := e1.kept k2 (by show ¬ (w.heap.size + 1 = w.heap.size + 2 ∨ w.heap.size + 1 = o); omega)
   have K2 : Kept (· = o) w w2 := (K1.mono (T := (· = o)) (fun _ _ h => h.elim)).via k2 (fun x hx h => by omega)
   go_wp2_with fail
   refine leaves_cons (f := 145) (args := #[.pointer (some ⟨w.heap.size, 0, none⟩), .pointer (some ⟨w.heap.size + 1, 0, none⟩)]) (by simp) (by simp [go_sem]) ?_
   refine (rd_err (r := r) w.heap.size (w.heap.size + 1) 0 0 _ a2.lt e2.lt (by omega) (a2.cell 0) (e2.cell 0) (a2.frozen 0) (e2.frozen 0)).mono ?_
   rintro e u' w'' ⟨rfl, ⟨v, rfl⟩, ob, rfl⟩
   have a3 := ((a2.set 0 (.int .i64 r.2)).set_other ⟨w.heap.size + 1, 0, none⟩ (.int .i64 (if r.1 then 4 else 2)) (by show w.heap.size ≠ w.heap.size + 1; omega)).alloc ob
   have e3 := ((e2.set_other ⟨w.heap.size, 0, none⟩ (.int .i64 r.2) (by show w.heap.size + 1 ≠ w.heap.size; omega)).set 0 (.int .i64 (if r.1 then 4 else 2))).alloc ob
   refine ⟨_, results_cc Tryz.results92 rfl rfl (load_i a3) (load_e e3), ?_, ?_, ?_⟩
   ·rw [hw.out]; rfl
   ·exact ((K2.setCell (p := ⟨w.heap.size, 0, none⟩) (Or.inr (Nat.le_refl _)) _).setCell (p := ⟨w.heap.size + 1, 0, none⟩) (Or.inr (by show w.heap.size ≤ w.heap.size + 1; omega)) _).alloc ob
   ·intro a σ2 h; rw [hw.out] at h; cases h
  | ok q =>
   obtain ⟨a, σ2⟩ := q
   obtain ⟨rfl, v2, p2, k2⟩ := hr.getOk hF
   clear hr
   have a2 := a1.kept k2 (by show ¬ (w.heap.size = w.heap.size + 2 ∨ w.heap.size = o); omega)
   have e2 := e1.kept k2 (by show ¬ (w.heap.size + 1 = w.heap.size + 2 ∨ w.heap.size + 1 = o); omega)
   have K2 : Kept (· = o) w w2 := (K1.mono (T := (· = o)) (fun _ _ h => h.elim)).via k2 (fun x hx h => by omega)
   have c2 := p2.kd
   have z2 := p2.lt
   cases hk : (σ2.k == 0)
   ·have hw : Hid (wholeF s F = .error (false, σ2.ta)) := Ld (by unfold wholeF; rw [hadv]; show bT (F σ1) _ = _; rw [hF]; exact if_neg (ne_of_beq_false hk))
    go_wp2_with fail
    refine (fail_any p2).mono ?_
    rintro e w' ⟨rfl, rfl⟩
    go_wp2_with fail
    refine leaves_cons (f := 145) (args := #[.pointer (some ⟨w.heap.size, 0, none⟩), .pointer (some ⟨w.heap.size + 1, 0, none⟩)]) (by simp) (by simp [go_sem]) ?_
    refine (rd_err (r := (false, σ2.ta)) w.heap.size (w.heap.size + 1) 0 0 _ a2.lt e2.lt (by omega) (a2.cell 0) (e2.cell 0) (a2.frozen 0) (e2.frozen 0)).mono ?_
    rintro e u' w'' ⟨rfl, ⟨v, rfl⟩, ob, rfl⟩
    have a3 := ((a2.set 0 (.int .i64 σ2.ta)).set_other ⟨w.heap.size + 1, 0, none⟩ (.int .i64 (if false then 4 else 2)) (by show w.heap.size ≠ w.heap.size + 1; omega)).alloc ob
    have e3 := ((e2.set_other ⟨w.heap.size, 0, none⟩ (.int .i64 σ2.ta) (by show w.heap.size + 1 ≠ w.heap.size; omega)).set 0 (.int .i64 (if false then 4 else 2))).alloc ob
    refine ⟨_, results_cc Tryz.results92 rfl rfl (load_i a3) (load_e e3), ?_, ?_, ?_⟩
    ·rw [hw.out]; rfl
    ·exact ((K2.setCell (p := ⟨w.heap.size, 0, none⟩) (Or.inr (Nat.le_refl _)) _).setCell (p := ⟨w.heap.size + 1, 0, none⟩) (Or.inr (by show w.heap.size ≤ w.heap.size + 1; omega)) _).alloc ob
    ·intro a σ2 h; rw [hw.out] at h; cases h
   ·have hw : Hid (wholeF s F = .ok (a, σ2)) := Ld (by unfold wholeF; rw [hadv]; show bT (F σ1) _ = _; rw [hF]; exact if_pos (eq_of_beq hk))
    have ca := a2.cell 0
    have ce := e2.cell 0
    have fa := a2.frozen 0
    have fe := e2.frozen 0
    go_wp2_with fail
    refine leaves_cons (f := 145) (args := #[.pointer (some ⟨w.heap.size, 0, none⟩), .pointer (some ⟨w.heap.size + 1, 0, none⟩)]) (by simp) (by simp [go_sem]) ?_
    refine (rd_idle w.heap.size (w.heap.size + 1) _).mono ?_
    rintro e u' w'' ⟨rfl, rfl, rfl⟩
    have a3 := (a2.set 0 (.int .i64 0)).set_other ⟨w.heap.size + 1, 0, none⟩ (.int .i64 0) (by show w.heap.size ≠ w.heap.size + 1; omega)
    have e3 := (e2.set_other ⟨w.heap.size, 0, none⟩ (.int .i64 0) (by show w.heap.size + 1 ≠ w.heap.size; omega)).set 0 (.int .i64 0)
    refine ⟨_, results_cc Tryz.results92 rfl rfl (load_i a3) (load_e e3), ?_, ?_, ?_⟩
    ·rw [hw.out]; rfl
    ·exact (K2.setCell (p := ⟨w.heap.size, 0, none⟩) (Or.inr (Nat.le_refl _)) _).setCell (p := ⟨w.heap.size + 1, 0, none⟩) (Or.inr (by show w.heap.size ≤ w.heap.size + 1; omega)) _
    ·intro a' σ' h
     rw [hw.out] at h
     cases h
     exact HV.out a w2 _ v2 z2 (((Kept.refl _ _).setCell (p := ⟨w.heap.size, 0, none⟩) (Or.inl (Or.inl rfl)) _).setCell (p := ⟨w.heap.size + 1, 0, none⟩) (Or.inl (Or.inr rfl)) _)
def mcells (c most deep : Nat) : List Value := [.int .i64 c, .int .i64 most, .int .i64 deep]
theorem enter_any {w : World} {m c most deep d : Nat} (hb : Blk w m 118 (mcells c most deep)) (hc : c ≤ 1000000) {v : Bool} (hv : (decide (c + 1 ≤ most) && decide (d ≤ deep)) = v) :
  Calls Tryz.prog 167 #[.pointer (some ⟨m, 0, none⟩), .int .i64 d] w fun e w' => e = .returned (.bool v) ∧ Blk w' m 118 (mcells (c + 1) most deep) ∧ Kept (· = m) w w' := by
 have g0 : w.cell? ⟨m, 0, none⟩ = some (.int .i64 c) := hb.cell 0
 have g1 : w.cell? ⟨m, 1, none⟩ = some (.int .i64 most) := hb.cell 1
 have g2 : w.cell? ⟨m, 2, none⟩ = some (.int .i64 deep) := hb.cell 2
 have f0 : w.frozen? ⟨m, 0, none⟩ = false := hb.frozen 0
 have h1 := hb.set 0 (.int .i64 ((c : Int) + 1))
 have k1 : Kept (· = m) w (w.setCell ⟨m, 0, none⟩ (.int .i64 ((c : Int) + 1))) := (Kept.refl (fun x => x = m) w).setCell (p := ⟨m, 0, none⟩) (Or.inl rfl) _
 by_cases a : c + 1 ≤ most
 ·by_cases e : d ≤ deep
  ·have i1 : (c : Int) + 1 ≤ most := by omega
   have i2 : (d : Int) ≤ deep := by omega
   have HV : Hid (v = true) := Ld (by rw [← hv, decide_eq_true a, decide_eq_true e]; rfl)
   clear hv
   go_enter Tryz.func167, Tryz.ntmps167
   go_wp2_with fail
   go_quiet (fail)
   go_wp2_with fail
   go_ret
   exact ⟨by rw [HV.out]; rfl, h1.drewN nq, k1.drewN nq⟩
  ·have i1 : (c : Int) + 1 ≤ most := by omega
   have i2 : decide ((d : Int) ≤ deep) = false := by simp; omega
   have HV : Hid (v = false) := Ld (by rw [← hv, decide_eq_false e]; simp)
   clear hv
   go_enter Tryz.func167, Tryz.ntmps167
   go_wp2_with fail
   go_quiet (fail)
   go_wp2_with fail
   go_ret
   exact ⟨by rw [HV.out]; rfl, h1.drewN nq, k1.drewN nq⟩
 ·have i1 : decide ((c : Int) + 1 ≤ most) = false := by simp; omega
  have HV : Hid (v = false) := Ld (by rw [← hv, decide_eq_false a]; simp)
  clear hv
  go_enter Tryz.func167, Tryz.ntmps167
  go_wp2_with fail
  go_quiet (fail)
  go_wp2_with fail
  go_ret
  exact ⟨by rw [HV.out]; rfl, h1.drewN nq, k1.drewN nq⟩
def zeroTyB (t : Ty) : Bool := t.kind == 0 && (t.name.toList == []) && t.kids.isEmpty
theorem TyL.len {ok : Nat → Prop} {w : World} {l : List Ty} {a : Option Addr} {n c : Nat} (h : TyL ok w l (.slice a n c)) : n = l.length := by
 cases h with
 | nil h => rcases h with h | ⟨a, c, h⟩ <;> cases h <;> rfl
 | mk => rfl
theorem TmL.len {ok : Nat → Prop} {w : World} {l : List Tm} {a : Option Addr} {n c : Nat} (h : TmL ok w l (.slice a n c)) : n = l.length := by
 cases h with
 | nil h => rcases h with h | ⟨a, c, h⟩ <;> cases h <;> rfl
 | mk => rfl
theorem zeroTy_any {w : World} (k : Int) (nm : ByteArray) (a : Option Addr) (n c : Nat) {v : Bool} (hv : ((k == 0) && (nm.toList == []) && decide (n = 0)) = v) :
  Calls Tryz.prog 211 #[.agg #[.int .i64 k, .string nm, .slice a n c]] w fun e w' => e = .returned (.bool v) ∧ w' = w.alloc (.cells #[.int .i64 k, .string nm, .slice a n c] 26) := by
 cases h1 : (k == 0) <;> cases h2 : (nm.toList == []) <;> by_cases h3 : n = 0
 all_goals
  (rw [h1, h2] at hv)
  (first | subst h3 | have h4 : decide ((n : Int) = 0) = false := by simp; omega)
  have HV := Ld hv
  clear hv
  go_enter Tryz.func211, Tryz.ntmps211
  go_wp2_with fail
  go_ret
  exact ⟨by rw [← HV.out]; simp [*], rfl⟩
def trimQ (s : ByteArray) : ByteArray := ⟨(Lib.trimSuffix s.data.toList [39]).toArray⟩
def namedB (s : ByteArray) : Bool := identB (trimQ s)
theorem trimQ_le (s : ByteArray) : (trimQ s).size ≤ s.size := by
 unfold trimQ Lib.trimSuffix
 show (if _ then _ else _ : List UInt8).toArray.size ≤ s.data.size
 split <;> simp
theorem named_any (s : ByteArray) (w : World) (hs : s.size ≤ 9223372036854775807) :
  Calls Tryz.prog 79 #[.string s] w fun e w' => e = .returned (.bool (namedB s)) ∧ w = w' := by
 have hq := trimQ_le s
 go_enter Tryz.func79, Tryz.ntmps79
 go_wp2_with (first | (go_at_call 99; refine (Tryz.strings_TrimSuffix s _ _ hs).mono ?_; rintro e w' ⟨rfl, rfl⟩) | (go_at_call 132; refine (ident_any (trimQ s) _ (by omega)).mono ?_; rintro e w' ⟨rfl, rfl⟩))
 go_ret
 exact ⟨rfl, rfl⟩
def tyHead (k : Int) (nm : ByteArray) (n : Nat) (within : Bool) : Bool :=
 if k = 1 then decide (n = 0) && (nm.toList == [])
 else if k = 2 then !within && decide (n = 0) && (nm.toList == [])
 else if k = 3 then identB nm && decide (n = 0)
 else if k = 4 then decide (n = 2) && (nm.toList == [])
 else if k = 5 then decide (n = 1) && (nm.toList == [])
 else false
mutual
def tfS (most deep : Nat) : Ty → Nat → Bool → Nat → Bool × Nat
 | .mk k nm l, d, wi, c =>
  match (decide (c + 1 ≤ most) && decide (d ≤ deep)) && tyHead k nm l.length wi with
  | false => (false, c + 1)
  | true => tfsS most deep l (d + 1) (c + 1)
def tfsS (most deep : Nat) : List Ty → Nat → Nat → Bool × Nat
 | [], _, c => (true, c)
 | t :: l, d, c =>
  match tfS most deep t d true c with
  | (true, c') => tfsS most deep l d c'
  | (false, c') => (false, c')
end
def FPost (m most deep : Nat) (r : Bool × Nat) (w : World) (e : Ending) (w' : World) : Prop := e = .returned (.bool r.1) ∧ Blk w' m 118 (mcells r.2 most deep) ∧ Kept (· = m) w w'
def TyC (m most deep : Nat) (t : Ty) : Prop := ∀ (w : World) (c d : Nat) (wi : Bool) (tk : Value), Blk w m 118 (mcells c most deep) → c ≤ most → d ≤ deep + 1 → TyL (fun k => k ≠ m) w t.kids tk →
 Calls Tryz.prog 232 #[.pointer (some ⟨m, 0, none⟩), tyVal t tk, .int .i64 d, .bool wi] w (FPost m most deep (tfS most deep t d wi c) w)
theorem tf_le (most deep : Nat) : ∀ (t : Ty) (d : Nat) (wi : Bool) (c : Nat), c ≤ most → (tfS most deep t d wi c).1 = true → c + 1 ≤ (tfS most deep t d wi c).2 ∧ (tfS most deep t d wi c).2 ≤ most := by
 intro t
 induction t using Ty.rec (motive_2 := fun l => ∀ (d c : Nat), c ≤ most → (tfsS most deep l d c).1 = true → c ≤ (tfsS most deep l d c).2 ∧ (tfsS most deep l d c).2 ≤ most) with
 | mk k nm l ih =>
  intro d wi c hc h
  rw [tfS] at h ⊢
  cases hb : (decide (c + 1 ≤ most) && decide (d ≤ deep)) && tyHead k nm l.length wi
  ·rw [hb] at h; cases h
  ·rw [hb] at h
   have : c + 1 ≤ most := by simp at hb; exact hb.1.1
   exact ih _ _ this h
 | nil => rename_i d c hc h; exact ⟨Nat.le_refl _, hc⟩
 | cons t l iht ihl =>
  rename_i d c hc h
  rw [tfsS] at h ⊢
  cases hr : tfS most deep t d true c with
  | mk b c' =>
   cases b
   ·rw [hr] at h; cases h
   ·rw [hr] at h
    have a := iht d true c hc (by rw [hr])
    rw [hr] at a
    have := ihl d c' a.2 h
    exact ⟨Nat.le_trans (Nat.le_trans (Nat.le_succ _) a.1) this.1, this.2⟩
theorem tf1_any {m most deep d c M D : Nat} {t : Ty} {a : Option Addr} {n cp : Nat} {w : World} (hT : TyC m most deep t) (hb : Blk w m 118 (mcells c most deep)) (hc : c ≤ most) (hd : d ≤ deep) (hdp : deep ≤ 1000)
  (hM : w.cell? ⟨M, 0, none⟩ = some (.pointer (some ⟨m, 0, none⟩))) (hD : w.cell? ⟨D, 0, none⟩ = some (.int .i64 d)) (hk : TyL (fun k => k ≠ m) w t.kids (.slice a n cp)) :
  Calls Tryz.prog 251 #[tyVal t (.slice a n cp), .pointer (some ⟨M, 0, none⟩), .pointer (some ⟨D, 0, none⟩)] w (FPost m most deep (!(tfS most deep t (d + 1) true c).1, (tfS most deep t (d + 1) true c).2) w) := by
 unfold tyVal
 have HT := Ld hT
 clear hT
 have hb1 := hb.alloc (.cells #[.int .i64 t.kind, .string t.name, .slice a n cp] 26)
 have hk1 := hk.frame (Same.alloc w (.cells #[.int .i64 t.kind, .string t.name, .slice a n cp] 26))
 have lM := cell_lt hM
 have lD := cell_lt hD
 have nM : M ≠ w.heap.size := by omega
 have nD : D ≠ w.heap.size := by omega
 go_enter Tryz.func251, Tryz.ntmps251
 go_wp2_with fail
 refine (HT.out _ c (d + 1) true _ hb1 hc (by omega) hk1).mono ?_
 rintro e w' ⟨rfl, h1, h2⟩
 go_wp2_with fail
 go_ret
 exact ⟨rfl, h1, ((Kept.refl _ _).alloc _).trans h2⟩
theorem drop_cons {α : Type} (l : List α) (k : Nat) (h : k < l.length) : l.drop k = l[k] :: l.drop (k + 1) := (List.getElem_cons_drop h).symm
theorem tfs_step {most deep d c : Nat} {l : List Ty} {k : Nat} (h : k < l.length) : tfsS most deep (l.drop k) d c = (if (tfS most deep l[k] d true c).1 = true then tfsS most deep (l.drop (k + 1)) d (tfS most deep l[k] d true c).2 else (false, (tfS most deep l[k] d true c).2)) := by
 rw [drop_cons l k h, tfsS]
 cases tfS most deep l[k] d true c with
 | mk b c' => cases b <;> rfl
theorem idxTy_any {m most deep d c M D : Nat} {l : List Ty} {a : Option Addr} {n cp : Nat} {w : World} (hT : ∀ t, t ∈ l → TyC m most deep t) (hb : Blk w m 118 (mcells c most deep)) (hc : c ≤ most) (hmo : most ≤ 100000) (hd : d ≤ deep) (hdp : deep ≤ 1000) (hMm : M ≠ m) (hDm : D ≠ m)
  (hM : w.cell? ⟨M, 0, none⟩ = some (.pointer (some ⟨m, 0, none⟩))) (hD : w.cell? ⟨D, 0, none⟩ = some (.int .i64 d)) (hk : TyL (fun k => k ≠ m) w l (.slice a n cp)) :
  Calls Tryz.prog 258 #[.slice a n cp, .func (.func 251) #[] #[.pointer (some ⟨M, 0, none⟩), .pointer (some ⟨D, 0, none⟩)]] w fun e w' => ∃ i : Int, e = .returned (.int .i64 i) ∧ decide (0 ≤ i) = !(tfsS most deep l (d + 1) c).1 ∧ Blk w' m 118 (mcells (tfsS most deep l (d + 1) c).2 most deep) ∧ Kept (· = m) w w' := by
 have HT := Ld hT
 clear hT
 have hn := hk.len
 subst hn
 cases hk with
 | nil he =>
  have hz : Hid (tfsS most deep ([] : List Ty) (d + 1) c = (true, c)) := Ld (by rw [tfsS])
  go_enter Tryz.func258, Tryz.ntmps258
  go_wp2_with fail
  go_loop [8] (fun i => i = .int .i64 0) (fun i => 0)
  case atStart => rfl
  case round =>
   subst hrel
   go_wp2_with fail
   go_ret
   exact ⟨-1, rfl, by rw [hz.out]; rfl, by rw [hz.out]; exact hb, Kept.refl _ _⟩
 | mk K hne hok hcap hcell hkk =>
  rename_i g off
  have HC := Ld hcell
  have HK := Ld hkk
  clear hcell hkk
  have LM := Ld (cell_lt hM)
  have LD := Ld (cell_lt hD)
  go_enter Tryz.func258, Tryz.ntmps258
  go_wp2_with fail
  go_loopw [8] (fun i wr => ∃ k ck : Nat, k ≤ l.length ∧ i = .int .i64 k ∧ k ≤ ck ∧ ck ≤ most ∧ Blk wr m 118 (mcells ck most deep) ∧ Kept (· = m) w wr ∧ Hid (tfsS most deep l (d + 1) c = tfsS most deep (l.drop k) (d + 1) ck)) (fun i _ => l.length - (intOf i).toNat)
  case atStart => exact ⟨0, c, Nat.zero_le _, rfl, Nat.zero_le _, hc, hb, Kept.refl _ _, Ld rfl⟩
  case round =>
   obtain ⟨k, ck, hkl, rfl, hkc, hcm, hbr, hkr, heq⟩ := hrel
   by_cases hlt : k < l.length
   ·have c0 := (Same.of_kept (ok := fun k => k ≠ m) hkr (fun k h e => h e)).cell hok (HC.out k hlt).1
    have c1 := (Same.of_kept (ok := fun k => k ≠ m) hkr (fun k h e => h e)).cell hok (HC.out k hlt).2.1
    have c2 := (Same.of_kept (ok := fun k => k ≠ m) hkr (fun k h e => h e)).cell hok (HC.out k hlt).2.2
    have i1 : (k : Int) < (l.length : Int) := by omega
    have i2 : (k : Int) < 1000000 := by omega
    obtain ⟨ta, tn, tc, hK⟩ := (HK.out k hlt).slice
    have hkk := (HK.out k hlt).frame (Same.of_kept (ok := fun k => k ≠ m) hkr (fun k h e => h e))
    rw [hK] at c2 hkk
    have hM' : wr.cell? ⟨M, 0, none⟩ = some (.pointer (some ⟨m, 0, none⟩)) := by rw [hkr.cell (p := ⟨M, 0, none⟩) LM.out hMm]; exact hM
    have hD' : wr.cell? ⟨D, 0, none⟩ = some (.int .i64 d) := by rw [hkr.cell (p := ⟨D, 0, none⟩) LD.out hDm]; exact hD
    have hst := Ld (tfs_step (most := most) (deep := deep) (d := d + 1) (c := ck) hlt)
    have hle := Ld (tf_le most deep l[k] (d + 1) true ck hcm)
    have hcon := Ld (tf1_any (HT.out _ (List.getElem_mem hlt)) hbr hcm hd hdp hM' hD' hkk)
    clear hkk hM' hD'
    cases hr : (tfS most deep l[k] (d + 1) true ck).1
    ·go_wp2_with (go_at_call 251; refine hcon.out.mono ?_; rintro e w' ⟨rfl, h1, h2⟩)
     go_ret
     have q := heq.out.trans hst.out
     rw [hr, if_neg (by simp)] at q
     exact ⟨k, rfl, by rw [q]; simp, by rw [q]; exact h1, hkr.trans h2⟩
    ·go_wp2_with (go_at_call 251; refine hcon.out.mono ?_; rintro e w' ⟨rfl, h1, h2⟩)
     go_roundw
     case rel =>
      have q := heq.out.trans hst.out
      rw [hr, if_pos rfl] at q
      have z := hle.out hr
      exact ⟨k + 1, _, by omega, by go_num, by omega, z.2, h1, hkr.trans h2, Ld q⟩
     case measure => simp [intOf]; omega
   ·have hz : Hid (tfsS most deep l (d + 1) c = (true, ck)) := Ld (by rw [heq.out, List.drop_eq_nil_of_le (by omega), tfsS])
    go_wp2_with fail
    go_ret
    exact ⟨-1, rfl, by rw [hz.out]; rfl, by rw [hz.out]; exact hbr, hkr⟩
theorem contTy_any {m most deep d c M D : Nat} {l : List Ty} {a : Option Addr} {n cp : Nat} {w : World} (hT : ∀ t, t ∈ l → TyC m most deep t) (hb : Blk w m 118 (mcells c most deep)) (hc : c ≤ most) (hmo : most ≤ 100000) (hd : d ≤ deep) (hdp : deep ≤ 1000) (hMm : M ≠ m) (hDm : D ≠ m)
  (hM : w.cell? ⟨M, 0, none⟩ = some (.pointer (some ⟨m, 0, none⟩))) (hD : w.cell? ⟨D, 0, none⟩ = some (.int .i64 d)) (hk : TyL (fun k => k ≠ m) w l (.slice a n cp)) :
  Calls Tryz.prog 250 #[.slice a n cp, .func (.func 251) #[] #[.pointer (some ⟨M, 0, none⟩), .pointer (some ⟨D, 0, none⟩)]] w fun e w' => e = .returned (.bool (!(tfsS most deep l (d + 1) c).1)) ∧ Blk w' m 118 (mcells (tfsS most deep l (d + 1) c).2 most deep) ∧ Kept (· = m) w w' := by
 have hcon := Ld (idxTy_any hT hb hc hmo hd hdp hMm hDm hM hD hk)
 clear hT hM hD hk
 go_enter Tryz.func250, Tryz.ntmps250
 go_wp2_with fail
 refine hcon.out.mono ?_
 rintro e w' ⟨i, rfl, hi, h1, h2⟩
 go_wp2_with fail
 go_ret
 exact ⟨rfl, h1, h2⟩
theorem tf_eq (most deep : Nat) (k : Int) (nm : ByteArray) (l : List Ty) (d : Nat) (wi : Bool) (c : Nat) : tfS most deep (.mk k nm l) d wi c = if ((decide (c + 1 ≤ most) && decide (d ≤ deep)) && tyHead k nm l.length wi) = true then tfsS most deep l (d + 1) (c + 1) else (false, c + 1) := by
 rw [tfS]
 cases (decide (c + 1 ≤ most) && decide (d ≤ deep)) && tyHead k nm l.length wi <;> rfl
theorem ident_t' {t : ByteArray} {v : Bool} (h : identB t = v) (ht : t.size ≤ 9223372036854775807) (w : World) : Calls Tryz.prog 132 #[.string t] w fun e w' => e = .returned (.bool v) ∧ w = w' := (ident_any t w ht).mono fun _ _ q => ⟨by rw [← h]; exact q.1, q.2⟩
theorem typeFits_one {m most deep : Nat} {k : Int} {nm : ByteArray} {l : List Ty} (hmo : most ≤ 100000) (hdp : deep ≤ 1000) (hsz : nm.size ≤ 9223372036854775807) (IH : ∀ t, t ∈ l → TyC m most deep t) : TyC m most deep (.mk k nm l) := by
 intro w c d wi tk hb hc hd hk
 obtain ⟨a, n, cp, rfl⟩ := hk.slice
 have hn := hk.len
 unfold tyVal
 have hk' : TyL (fun k => k ≠ m) w l (.slice a n cp) := hk
 clear hk
 simp only [Ty.kind, Ty.name, Ty.kids] at hn ⊢
 have HIH := Ld IH
 clear IH
 have hml := hb.lt
 have HQ := Ld (tf_eq most deep k nm l d wi c)
 have HN := Ld hn
 clear hn
 have hb3 := ((hb.alloc (.cells #[.pointer (some ⟨m, 0, none⟩)] 171)).alloc (.cells #[.int .i64 k, .string nm, .slice a n cp] 26)).alloc (.cells #[.int .i64 d] 3)
 have K3 : Kept (· = m) w (((w.alloc (.cells #[.pointer (some ⟨m, 0, none⟩)] 171)).alloc (.cells #[.int .i64 k, .string nm, .slice a n cp] 26)).alloc (.cells #[.int .i64 d] 3)) := (((Kept.refl _ _).alloc _).alloc _).alloc _
 have b0 : Blk (((w.alloc (.cells #[.pointer (some ⟨m, 0, none⟩)] 171)).alloc (.cells #[.int .i64 k, .string nm, .slice a n cp] 26)).alloc (.cells #[.int .i64 d] 3)) w.heap.size 171 [.pointer (some ⟨m, 0, none⟩)] := ((Blk.new w 171 _).alloc _).alloc _
 have b1 : Blk (((w.alloc (.cells #[.pointer (some ⟨m, 0, none⟩)] 171)).alloc (.cells #[.int .i64 k, .string nm, .slice a n cp] 26)).alloc (.cells #[.int .i64 d] 3)) (w.heap.size + 1) 26 [.int .i64 k, .string nm, .slice a n cp] := (Blk.new' 26 _ (by simp)).alloc _
 have b2 : Blk (((w.alloc (.cells #[.pointer (some ⟨m, 0, none⟩)] 171)).alloc (.cells #[.int .i64 k, .string nm, .slice a n cp] 26)).alloc (.cells #[.int .i64 d] 3)) (w.heap.size + 2) 3 [.int .i64 d] := Blk.new' 3 _ (by simp)
 cases hv : (decide (c + 1 ≤ most) && decide (d ≤ deep))
 ·have hq : Hid (tfS most deep (.mk k nm l) d wi c = (false, c + 1)) := Ld (by rw [HQ.out, hv]; rfl)
  go_enter Tryz.func232, Tryz.ntmps232
  go_wp2_with fail
  refine (enter_any hb3 (by omega) hv).mono ?_
  rintro e W ⟨rfl, hbW, hkW⟩
  go_wp2_with fail
  go_ret
  exact ⟨by rw [hq.out]; rfl, by rw [hq.out]; exact hbW, K3.trans hkW⟩
 have hd1 : d ≤ deep := by simp at hv; exact hv.2
 have hc1 : c + 1 ≤ most := by simp at hv; exact hv.1
 have HD1 := Ld hd1
 have HC1 := Ld hc1
 clear hd1 hc1
 go_enter Tryz.func232, Tryz.ntmps232
 go_wp2_with fail
 refine (enter_any hb3 (by omega) hv).mono ?_
 rintro e W ⟨rfl, hbW, hkW⟩
 have p0 : W.cell? ⟨w.heap.size, 0, none⟩ = some (.pointer (some ⟨m, 0, none⟩)) := (b0.kept hkW (by show ¬ w.heap.size = m; omega)).cell 0
 have g0 : W.cell? ⟨w.heap.size + 1, 0, none⟩ = some (.int .i64 k) := (b1.kept hkW (by show ¬ w.heap.size + 1 = m; omega)).cell 0
 have g1 : W.cell? ⟨w.heap.size + 1, 1, none⟩ = some (.string nm) := (b1.kept hkW (by show ¬ w.heap.size + 1 = m; omega)).cell 1
 have g2 : W.cell? ⟨w.heap.size + 1, 2, none⟩ = some (.slice a n cp) := (b1.kept hkW (by show ¬ w.heap.size + 1 = m; omega)).cell 2
 have dd : W.cell? ⟨w.heap.size + 2, 0, none⟩ = some (.int .i64 d) := (b2.kept hkW (by show ¬ w.heap.size + 2 = m; omega)).cell 0
 have KW := K3.trans hkW
 have hkl : TyL (fun k => k ≠ m) W l (.slice a n cp) := hk'.frame (Same.of_kept KW (fun k h e => h e))
 have HCON : Hid (tyHead k nm n wi = true → Calls Tryz.prog 250 #[.slice a n cp, .func (.func 251) #[] #[.pointer (some ⟨w.heap.size, 0, none⟩), .pointer (some ⟨w.heap.size + 2, 0, none⟩)]] W fun e w' => e = .returned (.bool (!(tfS most deep (.mk k nm l) d wi c).1)) ∧ Blk w' m 118 (mcells (tfS most deep (.mk k nm l) d wi c).2 most deep) ∧ Kept (· = m) w w') := Ld (by
  intro hB
  rw [HQ.out, hv, ← HN.out, hB]
  exact (contTy_any HIH.out hbW HC1.out hmo HD1.out hdp (by omega) (by omega) p0 dd hkl).mono fun e w' ⟨q1, q2, q3⟩ => ⟨q1, q2, KW.trans q3⟩)
 have HNO : Hid (tyHead k nm n wi = false → tfS most deep (.mk k nm l) d wi c = (false, c + 1)) := Ld (by intro hB; rw [HQ.out, hv, ← HN.out, hB]; rfl)
 clear hkl hv
 by_cases k1 : k = 1
 ·subst k1
  by_cases hl : n = 0
  ·subst hl
   cases he : (nm.toList == [])
   ·have hq := HNO.out (by unfold tyHead; simp [*])
    have HQ2 := Ld hq
    clear hq
    go_wp2_with fail
    go_ret
    exact ⟨by rw [HQ2.out]; rfl, by rw [HQ2.out]; exact hbW, KW⟩
   ·have hq := HCON.out (by unfold tyHead; simp [*])
    have HQ2 := Ld hq
    clear hq
    go_wp2_with fail
    refine HQ2.out.mono ?_
    rintro e w' ⟨rfl, h1, h2⟩
    go_wp2_with fail
    go_ret
    exact ⟨by simp, h1, h2⟩
  ·have hl' : decide ((n : Int) = 0) = false := by simp; omega
   have hl2 : ((n : Int) == 0) = false := by simp; omega
   have hq := HNO.out (by unfold tyHead; simp [hl])
   have HQ2 := Ld hq
   clear hq
   go_wp2_with fail
   go_ret
   exact ⟨by rw [HQ2.out]; rfl, by rw [HQ2.out]; exact hbW, KW⟩
 by_cases k2 : k = 2
 ·subst k2
  cases wi
  case true =>
   have hq := HNO.out (by unfold tyHead; simp)
   have HQ2 := Ld hq
   clear hq
   go_wp2_with fail
   go_ret
   exact ⟨by rw [HQ2.out]; rfl, by rw [HQ2.out]; exact hbW, KW⟩
  by_cases hl : n = 0
  ·subst hl
   cases he : (nm.toList == [])
   ·have hq := HNO.out (by unfold tyHead; simp [*])
    have HQ2 := Ld hq
    clear hq
    go_wp2_with fail
    go_ret
    exact ⟨by rw [HQ2.out]; rfl, by rw [HQ2.out]; exact hbW, KW⟩
   ·have hq := HCON.out (by unfold tyHead; simp [*])
    have HQ2 := Ld hq
    clear hq
    go_wp2_with fail
    refine HQ2.out.mono ?_
    rintro e w' ⟨rfl, h1, h2⟩
    go_wp2_with fail
    go_ret
    exact ⟨by simp, h1, h2⟩
  ·have hl' : decide ((n : Int) = 0) = false := by simp; omega
   have hl2 : ((n : Int) == 0) = false := by simp; omega
   have hq := HNO.out (by unfold tyHead; simp [hl])
   have HQ2 := Ld hq
   clear hq
   go_wp2_with fail
   go_ret
   exact ⟨by rw [HQ2.out]; rfl, by rw [HQ2.out]; exact hbW, KW⟩
 by_cases k3 : k = 3
 ·subst k3
  cases hi : identB nm
  case false =>
   have hq := HNO.out (by unfold tyHead; simp [hi])
   have HQ2 := Ld hq
   clear hq
   go_wp2_with (go_at_call 132; refine cR (ident_t' hi hsz _) ?_)
   go_ret
   exact ⟨by rw [HQ2.out]; rfl, by rw [HQ2.out]; exact hbW, KW⟩
  by_cases hl : n = 0
  ·subst hl
   have hq := HCON.out (by unfold tyHead; simp [*])
   have HQ2 := Ld hq
   clear hq
   go_wp2_with (go_at_call 132; refine cR (ident_t' hi hsz _) ?_)
   refine HQ2.out.mono ?_
   rintro e w' ⟨rfl, h1, h2⟩
   go_wp2_with fail
   go_ret
   exact ⟨by simp, h1, h2⟩
  ·have hl' : decide ((n : Int) = 0) = false := by simp; omega
   have hl2 : ((n : Int) == 0) = false := by simp; omega
   have hq := HNO.out (by unfold tyHead; simp [hl])
   have HQ2 := Ld hq
   clear hq
   go_wp2_with (go_at_call 132; refine cR (ident_t' hi hsz _) ?_)
   go_ret
   exact ⟨by rw [HQ2.out]; rfl, by rw [HQ2.out]; exact hbW, KW⟩
 by_cases k4 : k = 4
 ·subst k4
  by_cases hl : n = 2
  ·subst hl
   cases he : (nm.toList == [])
   ·have hq := HNO.out (by unfold tyHead; simp [*])
    have HQ2 := Ld hq
    clear hq
    go_wp2_with fail
    go_ret
    exact ⟨by rw [HQ2.out]; rfl, by rw [HQ2.out]; exact hbW, KW⟩
   ·have hq := HCON.out (by unfold tyHead; simp [*])
    have HQ2 := Ld hq
    clear hq
    go_wp2_with fail
    refine HQ2.out.mono ?_
    rintro e w' ⟨rfl, h1, h2⟩
    go_wp2_with fail
    go_ret
    exact ⟨by simp, h1, h2⟩
  ·have hl' : decide ((n : Int) = 2) = false := by simp; omega
   have hl2 : ((n : Int) == 2) = false := by simp; omega
   have hq := HNO.out (by unfold tyHead; simp [hl])
   have HQ2 := Ld hq
   clear hq
   go_wp2_with fail
   go_ret
   exact ⟨by rw [HQ2.out]; rfl, by rw [HQ2.out]; exact hbW, KW⟩
 by_cases k5 : k = 5
 ·subst k5
  by_cases hl : n = 1
  ·subst hl
   cases he : (nm.toList == [])
   ·have hq := HNO.out (by unfold tyHead; simp [*])
    have HQ2 := Ld hq
    clear hq
    go_wp2_with fail
    go_ret
    exact ⟨by rw [HQ2.out]; rfl, by rw [HQ2.out]; exact hbW, KW⟩
   ·have hq := HCON.out (by unfold tyHead; simp [*])
    have HQ2 := Ld hq
    clear hq
    go_wp2_with fail
    refine HQ2.out.mono ?_
    rintro e w' ⟨rfl, h1, h2⟩
    go_wp2_with fail
    go_ret
    exact ⟨by simp, h1, h2⟩
  ·have hl' : decide ((n : Int) = 1) = false := by simp; omega
   have hl2 : ((n : Int) == 1) = false := by simp; omega
   have hq := HNO.out (by unfold tyHead; simp [hl])
   have HQ2 := Ld hq
   clear hq
   go_wp2_with fail
   go_ret
   exact ⟨by rw [HQ2.out]; rfl, by rw [HQ2.out]; exact hbW, KW⟩
 have q1 : (k == 1) = false := beq_false_of_ne k1
 have q2 : (k == 2) = false := beq_false_of_ne k2
 have q3 : (k == 3) = false := beq_false_of_ne k3
 have q4 : (k == 4) = false := beq_false_of_ne k4
 have q5 : (k == 5) = false := beq_false_of_ne k5
 have hq := HNO.out (by unfold tyHead; simp [k1, k2, k3, k4, k5])
 have HQ2 := Ld hq
 clear hq k1 k2 k3 k4 k5
 go_wp2_with fail
 go_ret
 exact ⟨by rw [HQ2.out]; rfl, by rw [HQ2.out]; exact hbW, KW⟩
end Go.Proofs.YtfhedienjnfdcaaGreatDoor
