/- Texts Read En Clo Cpy Cln of this proof, in one. -/
import Derived.Test.YtckjlliobebodaaGreatDoorBd0
import Derived.Test.YtckjlliobebodaaGreatDoorBd3
import Derived.Test.YtckjlliobebodaaGreatDoorBd1
import Derived.Lib.BufferMore
import Derived.Test.YtckjlliobebodaaGreatDoorBd2
import Derived.Deep.RegionHeld3
import Derived.IntWalk
set_option linter.unusedVariables false
set_option linter.unusedSimpArgs false
namespace Go.Proofs.YtckjlliobebodaaGreatDoor
open Go.RowKit
def CPost {α : Type} (b : Nat) (s : ByteArray) (S : Nat → Prop) (V : α → World → Prop) (q : Except ER (α × PS)) (w : World) (e : Ending) (w' : World) : Prop :=
  match q with
  | .ok (a, σ') => e = .returned (.tuple #[]) ∧ V a w' ∧ PW w' b s σ' ∧ Kept S w w'
  | .error r => e = .panicked [pan r.1 r.2] ∧ Kept S w w'
section
variable {α : Type} {b : Nat} {s : ByteArray} {S : Nat → Prop} {V : α → World → Prop} {q : Except ER (α × PS)} {w w' : World} {e : Ending}
theorem CPost.ok {a : α} {σ' : PS} (hq : q = .ok (a, σ')) (h : e = .returned (.tuple #[]) ∧ V a w' ∧ PW w' b s σ' ∧ Kept S w w') : CPost b s S V q w e w' := by subst hq; exact h
theorem CPost.err {r : ER} (hq : q = .error r) (h : e = .panicked [pan r.1 r.2] ∧ Kept S w w') : CPost b s S V q w e w' := by subst hq; exact h
theorem CPost.getOk {a : α} {σ' : PS} (h : CPost b s S V q w e w') (hq : q = .ok (a, σ')) : e = .returned (.tuple #[]) ∧ V a w' ∧ PW w' b s σ' ∧ Kept S w w' := by subst hq; exact h
theorem CPost.getErr {r : ER} (h : CPost b s S V q w e w') (hq : q = .error r) : e = .panicked [pan r.1 r.2] ∧ Kept S w w' := by subst hq; exact h
end
def Lies (o n : Nat) (t : Tm) (w : World) : Prop := ∃ tk kk, Blk w o 27 (tmCells t tk kk) ∧ TyL (fun k => n ≤ k) w t.ty.kids tk ∧ TmL (fun k => n ≤ k) w t.kids kk
set_option maxRecDepth 100000 in
set_option maxHeartbeats 4000000 in
theorem parse1_any {b o f : Nat} {s : ByteArray} {σ : PS} {w : World} {z : List Value} (hs : s.size ≤ 65536) (h : PW w b s σ) (hf : 14 * mu s σ + 13 < f) (hz : z.length = 7) (ho : Blk w o 27 z) (hob : o ≠ b) (ho2 : 2 ≤ o) :
    Calls Tryz.prog 32 #[.pointer (some ⟨b, 0, none⟩), .pointer (some ⟨o, 0, none⟩)] w (CPost b s (fun k => k = b ∨ k = o) (Lies o w.heap.size) (termS f s 1 σ) w) := by
  have hlt := h.lt
  have holt := ho.lt
  go_enter Tryz.func32, Tryz.ntmps32
  go_wp2_with fail
  refine (term_any hs f 1 1 rfl σ w (by decide) (by decide) h (by omega)).mono ?_
  rintro e w1 hr
  cases h_1 : termS f s 1 σ with
  | error r =>
    obtain ⟨rfl, k1⟩ := hr.getErr h_1
    go_wp2_with fail
    exact ⟨rfl, CPost.err h_1 ⟨rfl, k1.mono (fun _ _ h => Or.inl h)⟩⟩
  | ok q =>
    obtain ⟨t, σ1⟩ := q
    obtain ⟨v, rfl, ⟨tk, kk, rfl, at1, ct1⟩, p1, k1⟩ := hr.getOk h_1
    clear hr
    obtain ⟨ta1, tn1, tc1, rfl⟩ := at1.slice
    obtain ⟨ma1, mn1, mc1, rfl⟩ := ct1.slice
    unfold tmVal
    have hO := ho.kept k1 (by show ¬ o = b; exact hob)
    have HZ := Lib.hid hz
    clear hz
    have g : ∀ i, i < 7 → ∃ u, w1.cell? ⟨o, i, none⟩ = some u := by
      intro i hi
      exact ⟨z[i]'(by rw [HZ.out]; exact hi), by rw [hO.cell i]; exact List.getElem?_eq_getElem _⟩
    obtain ⟨u0, g0⟩ := g 0 (by decide)
    obtain ⟨u1, g1⟩ := g 1 (by decide)
    obtain ⟨u2, g2⟩ := g 2 (by decide)
    obtain ⟨u3, g3⟩ := g 3 (by decide)
    obtain ⟨u4, g4⟩ := g 4 (by decide)
    obtain ⟨u5, g5⟩ := g 5 (by decide)
    obtain ⟨u6, g6⟩ := g 6 (by decide)
    clear g
    have f0 := hO.frozen 0
    have f1 := hO.frozen 1
    have f2 := hO.frozen 2
    have f3 := hO.frozen 3
    have f4 := hO.frozen 4
    have f5 := hO.frozen 5
    have f6 := hO.frozen 6
    go_wp2_with fail
    go_end0
    have hR := r7 (x0 := .int .i64 t.op) (x1 := .string t.name) (x2 := .int .i64 t.n) (x3 := .int .i64 t.ty.kind) (x4 := .string t.ty.name) (x5 := .slice ta1 tn1 tc1) (x6 := .slice ma1 mn1 mc1) hO HZ.out
    exact CPost.ok h_1 ⟨rfl, ⟨_, _, hR, at1.frame (same7 holt), ct1.frame (same7 holt)⟩, p7w p1 hob ho2, k7w (k1.mono (fun _ _ h => Or.inl h)) (Or.inl (Or.inr rfl))⟩
theorem results_cc {P : Program} {fn : Func} {p q : Tmp} {ty tz : TypeId} (h : fn.results = #[.cell p ty, .cell q tz]) {tmps : Array Value} {a b : Addr} (ha : tmps.getD p undef = .pointer (some a)) (hb : tmps.getD q undef = .pointer (some b)) {v u : Value} {W : World}
    (hl : (loadVar ty a).run P W = .ok v W) (hm : (loadVar tz b).run P W = .ok u W) : (results fn tmps).run P W = .ok (.tuple #[v, u]) W := by
  have e : results fn tmps = (do let v ← (do loadVar ty (← asAddr (tmps.getD p undef))); let u ← (do loadVar tz (← asAddr (tmps.getD q undef))); pure (Value.tuple #[v, u])) := by
    unfold results; rw [h]; simp
  rw [e, ha, hb]
  show (loadVar ty a >>= fun v => loadVar tz b >>= fun u => pure (Value.tuple #[v, u])).run P W = _
  rw [Sem.run_bind, hl]
  show (loadVar tz b >>= fun u => pure (Value.tuple #[v, u])).run P W = _
  rw [Sem.run_bind, hm]
  rfl
theorem results_ctt {P : Program} {fn : Func} {p q r : Tmp} {ty : TypeId} (h : fn.results = #[.cell p ty, .tmp q, .tmp r]) {tmps : Array Value} {a : Addr} (ha : tmps.getD p undef = .pointer (some a)) {v : Value} {W : World}
    (hl : (loadVar ty a).run P W = .ok v W) : (results fn tmps).run P W = .ok (.tuple #[v, tmps.getD q undef, tmps.getD r undef]) W := by
  have e : results fn tmps = (do let v ← (do loadVar ty (← asAddr (tmps.getD p undef))); pure (Value.tuple #[v, tmps.getD q undef, tmps.getD r undef])) := by
    unfold results; rw [h]; simp
  rw [e, ha]
  show (loadVar ty a >>= fun v => pure (Value.tuple #[v, tmps.getD q undef, tmps.getD r undef])).run P W = _
  rw [Sem.run_bind, hl]
  rfl
def wholeF {α : Type} (s : ByteArray) (F : PS → Except ER (α × PS)) : Except ER (α × PS) := bP (advS s ps0) fun σ1 => bT (F σ1) fun a σ2 => if σ2.k = 0 then .ok (a, σ2) else .error (false, σ2.ta)
theorem load_i {W : World} {A : Nat} {x : Int} (h : Blk W A 3 [.int .i64 x]) : (loadVar 3 ⟨A, 0, none⟩).run Tryz.prog W = .ok (.int .i64 x) W := by
  have := h.cell 0
  simp [go_sem, this]
theorem load_e {W : World} {A : Nat} {x : Int} (h : Blk W A 28 [.int .i64 x]) : (loadVar 28 ⟨A, 0, none⟩).run Tryz.prog W = .ok (.int .i64 x) W := by
  have := h.cell 0
  simp [go_sem, this]
def rdAt {α : Type} : Except ER (α × PS) → Int
  | .ok _ => 0
  | .error r => r.2
def rdE {α : Type} : Except ER (α × PS) → Int
  | .ok _ => 0
  | .error r => if r.1 then 4 else 2
theorem rd_err {r : ER} (A E : Nat) (x y : Int) (w : World) (lA : A < w.heap.size) (lE : E < w.heap.size) (hAE : A ≠ E) (hA : w.cell? ⟨A, 0, none⟩ = some (.int .i64 x)) (hE : w.cell? ⟨E, 0, none⟩ = some (.int .i64 y)) (fA : w.frozen? ⟨A, 0, none⟩ = false) (fE : w.frozen? ⟨E, 0, none⟩ = false) :
    CallsD Tryz.prog 62 #[.pointer (some ⟨A, 0, none⟩), .pointer (some ⟨E, 0, none⟩)] (.panicking [pan r.1 r.2]) w fun e u' w' =>
      e = .returned (.tuple #[]) ∧ (∃ v, u' = .panicking [{ v := v, recovered := true }]) ∧ ∃ ob, w' = ((w.setCell ⟨A, 0, none⟩ (.int .i64 r.2)).setCell ⟨E, 0, none⟩ (.int .i64 (if r.1 then 4 else 2))).alloc ob := by
  obtain ⟨d, p⟩ := r
  cases d
  · exact (rd_mal A E p x y [] w lA lE hAE hA hE fA fE).mono fun e u' w' ⟨h1, h2, h3⟩ => ⟨h1, ⟨_, h2⟩, _, h3⟩
  · exact (rd_deep A E p x y [] w lA lE hAE hA hE fA fE).mono fun e u' w' ⟨h1, h2, h3⟩ => ⟨h1, ⟨_, h2⟩, _, h3⟩
set_option maxRecDepth 100000 in
set_option maxHeartbeats 4000000 in
theorem read_any {α : Type} {o : Nat} {s : ByteArray} {F : PS → Except ER (α × PS)} {V : α → World → Prop} {w : World} (hs : s.size ≤ 65536) (hgl : Gl w) (ho : o < w.heap.size) (ho2 : 2 ≤ o)
    (hC : ∀ σ1 w1, PW w1 (w.heap.size + 2) s σ1 → Kept (fun _ => False) w w1 → w.heap.size + 3 ≤ w1.heap.size → advS s ps0 = .ok σ1 → Calls Tryz.prog 32 #[.pointer (some ⟨w.heap.size + 2, 0, none⟩), .pointer (some ⟨o, 0, none⟩)] w1 (CPost (w.heap.size + 2) s (fun k => k = w.heap.size + 2 ∨ k = o) V (F σ1) w1))
    (hV : ∀ a w2 w3, V a w2 → w.heap.size + 3 ≤ w2.heap.size → Kept (fun k => k = w.heap.size ∨ k = w.heap.size + 1) w2 w3 → V a w3) :
    Calls Tryz.prog 31 #[.string s, .func (.func 32) #[] #[.pointer (some ⟨o, 0, none⟩)]] w fun e w' =>
      e = .returned (.tuple #[.int .i64 (rdAt (wholeF s F)), .int .i64 (rdE (wholeF s F))]) ∧ Kept (· = o) w w' ∧ ∀ a σ2, wholeF s F = .ok (a, σ2) → V a w' := by
  have hmf : ∀ (fn : Fn) (first cap : Array Value) (w : World), (Instr.makeFunc fn first cap).run Tryz.prog w = .ok (.func fn first cap) w := fun _ _ _ _ => rfl
  have HC := Lib.hid hC
  have HV := Lib.hid hV
  clear hC hV
  have hgt := hgl.lt
  have i1 : (s.size : Int) ≤ 65536 := by omega
  have h0 : PW (((w.alloc (.cells #[.int .i64 0] 3)).alloc (.cells #[.int .i64 0] 28)).alloc (.cells #[.string s, .int .i64 0, .int .i64 0, .string ⟨#[]⟩, .int .i64 0, .int .i64 0, .int .i64 0] 86)) (w.heap.size + 2) s ps0 :=
    ⟨Blk.new' 86 _ (by simp), Nat.zero_le _, Nat.zero_le _, hs, by omega, ((hgl.alloc _).alloc _).alloc _, Nat.zero_le _⟩
  have K0 : Kept (fun _ => False) w (((w.alloc (.cells #[.int .i64 0] 3)).alloc (.cells #[.int .i64 0] 28)).alloc (.cells #[.string s, .int .i64 0, .int .i64 0, .string ⟨#[]⟩, .int .i64 0, .int .i64 0, .int .i64 0] 86)) := (((Kept.refl _ _).alloc _).alloc _).alloc _
  have bA : Blk (((w.alloc (.cells #[.int .i64 0] 3)).alloc (.cells #[.int .i64 0] 28)).alloc (.cells #[.string s, .int .i64 0, .int .i64 0, .string ⟨#[]⟩, .int .i64 0, .int .i64 0, .int .i64 0] 86)) w.heap.size 3 [.int .i64 0] := ((Blk.new w 3 [.int .i64 0]).alloc _).alloc _
  have bE : Blk (((w.alloc (.cells #[.int .i64 0] 3)).alloc (.cells #[.int .i64 0] 28)).alloc (.cells #[.string s, .int .i64 0, .int .i64 0, .string ⟨#[]⟩, .int .i64 0, .int .i64 0, .int .i64 0] 86)) (w.heap.size + 1) 28 [.int .i64 0] := (Blk.new' 28 [.int .i64 0] (by simp)).alloc _
  go_enter_defers Tryz.func31, Tryz.ntmps31
  go_wp2_with fail
  cases hadv : advS s ps0 with
  | error r =>
    have hw : Hid (wholeF s F = .error r) := Lib.hid (by unfold wholeF; rw [hadv]; rfl)
    refine (adv_err h0 hadv).mono ?_
    rintro e w1 ⟨rfl, k1⟩
    have a1 := bA.kept k1 (by show ¬ w.heap.size = w.heap.size + 2; omega)
    have e1 := bE.kept k1 (by show ¬ w.heap.size + 1 = w.heap.size + 2; omega)
    have K1 : Kept (· = o) w w1 := (K0.mono (T := (· = o)) (fun _ _ h => h.elim)).via k1 (fun x hx h => by omega)
    go_wp2_with fail
    refine leaves_cons (f := 62) (args := #[.pointer (some ⟨w.heap.size, 0, none⟩), .pointer (some ⟨w.heap.size + 1, 0, none⟩)]) (by simp) (by simp [go_sem]) ?_
    refine (rd_err (r := r) w.heap.size (w.heap.size + 1) 0 0 _ a1.lt e1.lt (by omega) (a1.cell 0) (e1.cell 0) (a1.frozen 0) (e1.frozen 0)).mono ?_
    rintro e u' w'' ⟨rfl, ⟨v, rfl⟩, ob, rfl⟩
    have a2 := ((a1.set 0 (.int .i64 r.2)).set_other ⟨w.heap.size + 1, 0, none⟩ (.int .i64 (if r.1 then 4 else 2)) (by show w.heap.size ≠ w.heap.size + 1; omega)).alloc ob
    have e2 := ((e1.set_other ⟨w.heap.size, 0, none⟩ (.int .i64 r.2) (by show w.heap.size + 1 ≠ w.heap.size; omega)).set 0 (.int .i64 (if r.1 then 4 else 2))).alloc ob
    refine ⟨_, results_cc Tryz.results31 rfl rfl (load_i a2) (load_e e2), ?_, ?_, ?_⟩
    · rw [hw.out]; rfl
    · exact ((K1.setCell (p := ⟨w.heap.size, 0, none⟩) (Or.inr (Nat.le_refl _)) _).setCell (p := ⟨w.heap.size + 1, 0, none⟩) (Or.inr (by show w.heap.size ≤ w.heap.size + 1; omega)) _).alloc ob
    · intro a σ2 h; rw [hw.out] at h; cases h
  | ok σ1 =>
    refine (adv_ok h0 hadv).mono ?_
    rintro e w1 ⟨rfl, p1, k1⟩
    have a1 := bA.kept k1 (by show ¬ w.heap.size = w.heap.size + 2; omega)
    have e1 := bE.kept k1 (by show ¬ w.heap.size + 1 = w.heap.size + 2; omega)
    have K1 : Kept (fun _ => False) w w1 := K0.via k1 (fun x hx h => by omega)
    have z1 := p1.lt
    go_wp2_with fail
    refine (HC.out σ1 w1 p1 K1 z1 hadv).mono ?_
    rintro e w2 hr
    cases hF : F σ1 with
    | error r =>
      have hw : Hid (wholeF s F = .error r) := Lib.hid (by unfold wholeF; rw [hadv]; show bT (F σ1) _ = _; rw [hF]; rfl)
      obtain ⟨rfl, k2⟩ := hr.getErr hF
      clear hr
      have a2 := a1.kept k2 (by show ¬ (w.heap.size = w.heap.size + 2 ∨ w.heap.size = o); omega)
      have e2 := e1.kept k2 (by show ¬ (w.heap.size + 1 = w.heap.size + 2 ∨ w.heap.size + 1 = o); omega)
      have K2 : Kept (· = o) w w2 := (K1.mono (T := (· = o)) (fun _ _ h => h.elim)).via k2 (fun x hx h => by omega)
      go_wp2_with fail
      refine leaves_cons (f := 62) (args := #[.pointer (some ⟨w.heap.size, 0, none⟩), .pointer (some ⟨w.heap.size + 1, 0, none⟩)]) (by simp) (by simp [go_sem]) ?_
      refine (rd_err (r := r) w.heap.size (w.heap.size + 1) 0 0 _ a2.lt e2.lt (by omega) (a2.cell 0) (e2.cell 0) (a2.frozen 0) (e2.frozen 0)).mono ?_
      rintro e u' w'' ⟨rfl, ⟨v, rfl⟩, ob, rfl⟩
      have a3 := ((a2.set 0 (.int .i64 r.2)).set_other ⟨w.heap.size + 1, 0, none⟩ (.int .i64 (if r.1 then 4 else 2)) (by show w.heap.size ≠ w.heap.size + 1; omega)).alloc ob
      have e3 := ((e2.set_other ⟨w.heap.size, 0, none⟩ (.int .i64 r.2) (by show w.heap.size + 1 ≠ w.heap.size; omega)).set 0 (.int .i64 (if r.1 then 4 else 2))).alloc ob
      refine ⟨_, results_cc Tryz.results31 rfl rfl (load_i a3) (load_e e3), ?_, ?_, ?_⟩
      · rw [hw.out]; rfl
      · exact ((K2.setCell (p := ⟨w.heap.size, 0, none⟩) (Or.inr (Nat.le_refl _)) _).setCell (p := ⟨w.heap.size + 1, 0, none⟩) (Or.inr (by show w.heap.size ≤ w.heap.size + 1; omega)) _).alloc ob
      · intro a σ2 h; rw [hw.out] at h; cases h
    | ok q =>
      obtain ⟨a, σ2⟩ := q
      obtain ⟨rfl, v2, p2, k2⟩ := hr.getOk hF
      clear hr
      have a2 := a1.kept k2 (by show ¬ (w.heap.size = w.heap.size + 2 ∨ w.heap.size = o); omega)
      have e2 := e1.kept k2 (by show ¬ (w.heap.size + 1 = w.heap.size + 2 ∨ w.heap.size + 1 = o); omega)
      have K2 : Kept (· = o) w w2 := (K1.mono (T := (· = o)) (fun _ _ h => h.elim)).via k2 (fun x hx h => by omega)
      have c2 := p2.kd
      have z2 := p2.lt
      cases hk : (σ2.k == 0)
      · have hw : Hid (wholeF s F = .error (false, σ2.ta)) := Lib.hid (by unfold wholeF; rw [hadv]; show bT (F σ1) _ = _; rw [hF]; exact if_neg (ne_of_beq_false hk))
        go_wp2_with fail
        refine (fail_any p2).mono ?_
        rintro e w' ⟨rfl, rfl⟩
        go_wp2_with fail
        refine leaves_cons (f := 62) (args := #[.pointer (some ⟨w.heap.size, 0, none⟩), .pointer (some ⟨w.heap.size + 1, 0, none⟩)]) (by simp) (by simp [go_sem]) ?_
        refine (rd_err (r := (false, σ2.ta)) w.heap.size (w.heap.size + 1) 0 0 _ a2.lt e2.lt (by omega) (a2.cell 0) (e2.cell 0) (a2.frozen 0) (e2.frozen 0)).mono ?_
        rintro e u' w'' ⟨rfl, ⟨v, rfl⟩, ob, rfl⟩
        have a3 := ((a2.set 0 (.int .i64 σ2.ta)).set_other ⟨w.heap.size + 1, 0, none⟩ (.int .i64 (if false then 4 else 2)) (by show w.heap.size ≠ w.heap.size + 1; omega)).alloc ob
        have e3 := ((e2.set_other ⟨w.heap.size, 0, none⟩ (.int .i64 σ2.ta) (by show w.heap.size + 1 ≠ w.heap.size; omega)).set 0 (.int .i64 (if false then 4 else 2))).alloc ob
        refine ⟨_, results_cc Tryz.results31 rfl rfl (load_i a3) (load_e e3), ?_, ?_, ?_⟩
        · rw [hw.out]; rfl
        · exact ((K2.setCell (p := ⟨w.heap.size, 0, none⟩) (Or.inr (Nat.le_refl _)) _).setCell (p := ⟨w.heap.size + 1, 0, none⟩) (Or.inr (by show w.heap.size ≤ w.heap.size + 1; omega)) _).alloc ob
        · intro a σ2 h; rw [hw.out] at h; cases h
      · have hw : Hid (wholeF s F = .ok (a, σ2)) := Lib.hid (by unfold wholeF; rw [hadv]; show bT (F σ1) _ = _; rw [hF]; exact if_pos (eq_of_beq hk))
        have ca := a2.cell 0
        have ce := e2.cell 0
        have fa := a2.frozen 0
        have fe := e2.frozen 0
        go_wp2_with fail
        refine leaves_cons (f := 62) (args := #[.pointer (some ⟨w.heap.size, 0, none⟩), .pointer (some ⟨w.heap.size + 1, 0, none⟩)]) (by simp) (by simp [go_sem]) ?_
        refine (rd_idle w.heap.size (w.heap.size + 1) _).mono ?_
        rintro e u' w'' ⟨rfl, rfl, rfl⟩
        have a3 := (a2.set 0 (.int .i64 0)).set_other ⟨w.heap.size + 1, 0, none⟩ (.int .i64 0) (by show w.heap.size ≠ w.heap.size + 1; omega)
        have e3 := (e2.set_other ⟨w.heap.size, 0, none⟩ (.int .i64 0) (by show w.heap.size + 1 ≠ w.heap.size; omega)).set 0 (.int .i64 0)
        refine ⟨_, results_cc Tryz.results31 rfl rfl (load_i a3) (load_e e3), ?_, ?_, ?_⟩
        · rw [hw.out]; rfl
        · exact (K2.setCell (p := ⟨w.heap.size, 0, none⟩) (Or.inr (Nat.le_refl _)) _).setCell (p := ⟨w.heap.size + 1, 0, none⟩) (Or.inr (by show w.heap.size ≤ w.heap.size + 1; omega)) _
        · intro a' σ' h
          rw [hw.out] at h
          cases h
          exact HV.out a w2 _ v2 z2 (((Kept.refl _ _).setCell (p := ⟨w.heap.size, 0, none⟩) (Or.inl (Or.inl rfl)) _).setCell (p := ⟨w.heap.size + 1, 0, none⟩) (Or.inl (Or.inr rfl)) _)
def mcells (c most deep : Nat) : List Value := [.int .i64 c, .int .i64 most, .int .i64 deep]
set_option maxHeartbeats 1000000 in
theorem enter_any {w : World} {m c most deep d : Nat} (hb : Blk w m 76 (mcells c most deep)) (hc : c ≤ 1000000) {v : Bool} (hv : (decide (c + 1 ≤ most) && decide (d ≤ deep)) = v) :
    Calls Tryz.prog 105 #[.pointer (some ⟨m, 0, none⟩), .int .i64 d] w fun e w' => e = .returned (.bool v) ∧ Blk w' m 76 (mcells (c + 1) most deep) ∧ Kept (· = m) w w' := by
  have g0 : w.cell? ⟨m, 0, none⟩ = some (.int .i64 c) := hb.cell 0
  have g1 : w.cell? ⟨m, 1, none⟩ = some (.int .i64 most) := hb.cell 1
  have g2 : w.cell? ⟨m, 2, none⟩ = some (.int .i64 deep) := hb.cell 2
  have f0 : w.frozen? ⟨m, 0, none⟩ = false := hb.frozen 0
  have h1 := hb.set 0 (.int .i64 ((c : Int) + 1))
  have k1 : Kept (· = m) w (w.setCell ⟨m, 0, none⟩ (.int .i64 ((c : Int) + 1))) := (Kept.refl (fun x => x = m) w).setCell (p := ⟨m, 0, none⟩) (Or.inl rfl) _
  by_cases a : c + 1 ≤ most
  · by_cases e : d ≤ deep
    · have i1 : (c : Int) + 1 ≤ most := by omega
      have i2 : (d : Int) ≤ deep := by omega
      have HV : Hid (v = true) := Lib.hid (by rw [← hv, decide_eq_true a, decide_eq_true e]; rfl)
      clear hv
      go_enter Tryz.func105, Tryz.ntmps105
      go_wp2_with fail
      go_quiet (fail)
      go_wp2_with fail
      go_ret
      exact ⟨by rw [HV.out]; rfl, h1.drewN nq, k1.drewN nq⟩
    · have i1 : (c : Int) + 1 ≤ most := by omega
      have i2 : decide ((d : Int) ≤ deep) = false := by simp; omega
      have HV : Hid (v = false) := Lib.hid (by rw [← hv, decide_eq_false e]; simp)
      clear hv
      go_enter Tryz.func105, Tryz.ntmps105
      go_wp2_with fail
      go_quiet (fail)
      go_wp2_with fail
      go_ret
      exact ⟨by rw [HV.out]; rfl, h1.drewN nq, k1.drewN nq⟩
  · have i1 : decide ((c : Int) + 1 ≤ most) = false := by simp; omega
    have HV : Hid (v = false) := Lib.hid (by rw [← hv, decide_eq_false a]; simp)
    clear hv
    go_enter Tryz.func105, Tryz.ntmps105
    go_wp2_with fail
    go_quiet (fail)
    go_wp2_with fail
    go_ret
    exact ⟨by rw [HV.out]; rfl, h1.drewN nq, k1.drewN nq⟩
def zeroTyB (t : Ty) : Bool := t.kind == 0 && (t.name.toList == []) && t.kids.isEmpty
theorem TyL.len {ok : Nat → Prop} {w : World} {l : List Ty} {a : Option Addr} {n c : Nat} (h : TyL ok w l (.slice a n c)) : n = l.length := by
  cases h with
  | nil h => rcases h with h | ⟨a, c, h⟩ <;> cases h <;> rfl
  | mk => rfl
theorem TmL.len {ok : Nat → Prop} {w : World} {l : List Tm} {a : Option Addr} {n c : Nat} (h : TmL ok w l (.slice a n c)) : n = l.length := by
  cases h with
  | nil h => rcases h with h | ⟨a, c, h⟩ <;> cases h <;> rfl
  | mk => rfl
set_option maxHeartbeats 1000000 in
theorem zeroTy_any {w : World} (k : Int) (nm : ByteArray) (a : Option Addr) (n c : Nat) {v : Bool} (hv : ((k == 0) && (nm.toList == []) && decide (n = 0)) = v) :
    Calls Tryz.prog 143 #[.agg #[.int .i64 k, .string nm, .slice a n c]] w fun e w' => e = .returned (.bool v) ∧ w' = w.alloc (.cells #[.int .i64 k, .string nm, .slice a n c] 24) := by
  cases h1 : (k == 0) <;> cases h2 : (nm.toList == []) <;> by_cases h3 : n = 0
  all_goals
    (rw [h1, h2] at hv)
    (first | subst h3 | have h4 : decide ((n : Int) = 0) = false := by simp; omega)
    have HV := Lib.hid hv
    clear hv
    go_enter Tryz.func143, Tryz.ntmps143
    go_wp2_with fail
    go_ret
    exact ⟨by rw [← HV.out]; simp [*], rfl⟩
def trimQ (s : ByteArray) : ByteArray := ⟨(Lib.trimSuffix s.data.toList [39]).toArray⟩
def namedB (s : ByteArray) : Bool := identB (trimQ s)
theorem trimQ_le (s : ByteArray) : (trimQ s).size ≤ s.size := by
  unfold trimQ Lib.trimSuffix
  show (if _ then _ else _ : List UInt8).toArray.size ≤ s.data.size
  split <;> simp
set_option maxHeartbeats 1000000 in
theorem named_any (s : ByteArray) (w : World) (hs : s.size ≤ 9223372036854775807) :
    Calls Tryz.prog 79 #[.string s] w fun e w' => e = .returned (.bool (namedB s)) ∧ w = w' := by
  have hq := trimQ_le s
  go_enter Tryz.func79, Tryz.ntmps79
  go_wp2_with (first | (go_at_call 82; refine (Tryz.strings_TrimSuffix s _ _ hs).mono ?_; rintro e w' ⟨rfl, rfl⟩) | (go_at_call 18; refine (ident_any (trimQ s) _ (by omega)).mono ?_; rintro e w' ⟨rfl, rfl⟩))
  go_ret
  exact ⟨rfl, rfl⟩
theorem info24 : (Tryz.prog.info? 24).map (fun i => (i.zero, i.size, i.bytes)) = some (some (.agg #[.int .i64 0, .string ⟨#[]⟩, .slice none 0 0]), 3, 48) := by kernel_rfl
def NewRow (w W : World) (ty : TypeId) (sz n b off : Nat) (v : Value) : Prop := ∃ g cap L, v = .slice (some ⟨g, 0, none⟩) n cap ∧ n ≤ cap ∧ w.heap.size ≤ g ∧ Blk W g ty L ∧ n * sz ≤ L.length ∧ ∀ j, j < n * sz → L[j]? = w.cell? ⟨b, off + j, none⟩
def rowList (w : World) (b off k : Nat) : List Value := (List.range k).map fun j => (w.cell? ⟨b, off + j, none⟩).getD undef
theorem rowList_get {w : World} {b off k j : Nat} {v : Value} (hj : j < k) (hv : w.cell? ⟨b, off + j, none⟩ = some v) : (rowList w b off k)[j]? = some v := by
  unfold rowList; rw [List.getElem?_map, List.getElem?_range hj]; simp [hv]
set_option maxRecDepth 100000 in
set_option maxHeartbeats 2000000 in
theorem cloneTy_some {w : World} (b off n cp : Nat) (hn : n ≤ 1000000) (hc : ∀ j, j < n * 3 → ∃ v, w.cell? ⟨b, off + j, none⟩ = some v ∧ v.oneCell' = true) :
    Calls Tryz.prog 88 #[.slice (some ⟨b, off, none⟩) n cp] w fun e w' => ∃ v, e = .returned v ∧ NewRow w w' 24 3 n b off v ∧ Kept (fun _ => False) w w' := by
  have hne : ∀ W : World, (binOp .eql 22 (.slice (some ⟨b, off, none⟩) n cp) (.slice none 0 0)).run Tryz.prog W = .ok (.bool false) W := fun W => Lib.run_eql_slice_some_nil W _ n cp Tryz.underlying22
  obtain ⟨ii, hi, hz, hs, hb⟩ : ∃ i, Tryz.prog.info? 24 = some i ∧ i.zero = some (.agg #[.int .i64 0, .string ⟨#[]⟩, .slice none 0 0]) ∧ i.size = 3 ∧ i.bytes = 48 := by
    have := info24
    cases hh : Tryz.prog.info? 24 with
    | none => rw [hh] at this; cases this
    | some i => rw [hh] at this; simp only [Option.map_some, Option.some.injEq, Prod.mk.injEq] at this; exact ⟨i, rfl, this.1, this.2.1, this.2.2⟩
  have HI := Lib.hid hi
  have HZ := Lib.hid hz
  have HS := Lib.hid hs
  have HBY := Lib.hid hb
  clear hi hz hs hb
  have HC := Lib.hid hc
  clear hc
  have own0 : (w.alloc (.cells #[] 24)).ownsRow w.heap.size 24 3 (.slice (some ⟨w.heap.size, 0, none⟩) 0 0) 0 [] := ⟨rfl, .inr ⟨w.heap.size, 0, #[], rfl, Nat.le_refl _, Blk.new w 24 [], Nat.le_refl _, Nat.zero_le _, rfl, rfl⟩⟩
  have hget : Hid (∀ j u, (rowList w b off (n * 3))[j]? = some u → (w.cell? ⟨b, off + j, none⟩ = some u ∧ u.oneCell' = true) ∧ (w.alloc (.cells #[] 24)).cell? ((⟨b, off, none⟩ : Addr).add j) = some u) := Lib.hid (by
    intro j u hj
    have hlt : j < n * 3 := by
      have := (List.getElem?_eq_some_iff.1 hj).1; unfold rowList at this; simpa using this
    obtain ⟨v, hv, h1⟩ := HC.out j hlt
    rw [rowList_get hlt hv] at hj
    have hvu : v = u := Option.some.inj hj
    subst hvu
    refine ⟨⟨hv, h1⟩, ?_⟩
    have hl := cell_lt hv
    rw [show (⟨b, off, none⟩ : Addr).add j = ⟨b, off + j, none⟩ by cases j <;> simp [Addr.add]]
    rw [World.cell?_of_block (w := w) (a := ⟨b, off + j, none⟩) (Below.heap_alloc _ _ _ hl)]; exact hv)
  go_enter Tryz.func88, Tryz.ntmps88
  go_wp2_with (at_builtin; refine wpList_append_own_at _ rfl (.tmp 5) (.tmp 6) 22 rfl w.heap.size 24 ii _ 3 48 Tryz.underlying22 HI.out HZ.out HS.out HBY.out rfl (by decide) _ _ _ rfl own0 ⟨b, off, none⟩ n cp (rowList w b off (n * 3)) rfl (by unfold rowList; simp) (fun j u h => (hget.out j u h).2) ?_ ?_ ?_ ?_ ?_)
  · intro u hu
    obtain ⟨j, hj⟩ := List.getElem?_of_mem hu
    exact (hget.out j u hj).1.2
  · unfold maxLen; omega
  · omega
  · simp
  · intro v' w1 own1 gr1 hnil hat
    have kA := kept_grown gr1
    have OWN := Lib.hid own1
    have NIL := Lib.hid hnil
    clear own1 hnil hat gr1
    go_wp2_with fail
    go_ret
    refine ⟨v', rfl, ?_, ((Kept.refl (fun _ => False) w).alloc _).via kA (fun x hx h => by simp [Value.ownBlock] at h; omega)⟩
    rcases OWN.out.2 with ⟨h0, _⟩ | ⟨g, cap, cur, rfl, hg, hh, h1, h2, h3, h4⟩
    · exact (NIL.out h0).elim
    · refine ⟨g, cap, cur.toList, rfl, by omega, hg, by unfold Blk; rw [hh], ?_, ?_⟩
      · rw [Array.length_toList, h3]; exact Nat.mul_le_mul_right _ (by omega)
      · intro j hj
        obtain ⟨v, hv, _⟩ := HC.out j hj
        rw [hv, ← rowList_get hj hv, ← h4, List.getElem?_take_of_lt hj]
set_option maxRecDepth 100000 in
set_option maxHeartbeats 2000000 in
theorem cloneTy_zero {w : World} (ad : Addr) (cp : Nat) :
    Calls Tryz.prog 88 #[.slice (some ad) 0 cp] w fun e w' => ∃ g cap, e = .returned (.slice (some ⟨g, 0, none⟩) 0 cap) ∧ Kept (fun _ => False) w w' := by
  have hne : ∀ W : World, (binOp .eql 22 (.slice (some ad) 0 cp) (.slice none 0 0)).run Tryz.prog W = .ok (.bool false) W := fun W => Lib.run_eql_slice_some_nil W _ 0 cp Tryz.underlying22
  obtain ⟨ii, hi, hz, hs, hb⟩ : ∃ i, Tryz.prog.info? 24 = some i ∧ i.zero = some (.agg #[.int .i64 0, .string ⟨#[]⟩, .slice none 0 0]) ∧ i.size = 3 ∧ i.bytes = 48 := by
    have := info24
    cases hh : Tryz.prog.info? 24 with
    | none => rw [hh] at this; cases this
    | some i => rw [hh] at this; simp only [Option.map_some, Option.some.injEq, Prod.mk.injEq] at this; exact ⟨i, rfl, this.1, this.2.1, this.2.2⟩
  have HI := Lib.hid hi
  have HZ := Lib.hid hz
  have HS := Lib.hid hs
  have HBY := Lib.hid hb
  clear hi hz hs hb
  have own0 : (w.alloc (.cells #[] 24)).ownsRow w.heap.size 24 3 (.slice (some ⟨w.heap.size, 0, none⟩) 0 0) 0 [] := ⟨rfl, .inr ⟨w.heap.size, 0, #[], rfl, Nat.le_refl _, Blk.new w 24 [], Nat.le_refl _, Nat.zero_le _, rfl, rfl⟩⟩
  go_enter Tryz.func88, Tryz.ntmps88
  go_wp2_with (at_builtin; refine wpList_append_own_at _ rfl (.tmp 5) (.tmp 6) 22 rfl w.heap.size 24 ii _ 3 48 Tryz.underlying22 HI.out HZ.out HS.out HBY.out rfl (by decide) _ _ _ rfl own0 ad 0 cp [] rfl rfl (fun j u h => by cases h) ?_ ?_ ?_ ?_ ?_)
  · intro u hu; cases hu
  · unfold maxLen; omega
  · omega
  · simp
  · intro v' w1 own1 gr1 hnil hat
    have kA := kept_grown gr1
    have OWN := Lib.hid own1
    have NIL := Lib.hid hnil
    clear own1 hnil hat gr1
    go_wp2_with fail
    go_ret
    rcases OWN.out.2 with ⟨h0, _⟩ | ⟨g, cap, cur, rfl, hg, hh, h1, h2, h3, h4⟩
    · exact (NIL.out h0).elim
    · exact ⟨g, cap, rfl, ((Kept.refl (fun _ => False) w).alloc _).via kA (fun x hx h => by simp [Value.ownBlock] at h; omega)⟩
set_option maxHeartbeats 2000000 in
theorem cloneTy_nil (w : World) : Calls Tryz.prog 88 #[.slice none 0 0] w fun e w' => e = .returned (.slice none 0 0) ∧ w = w' := by
  have hne : ∀ W : World, (binOp .eql 22 (.slice none 0 0) (.slice none 0 0)).run Tryz.prog W = .ok (.bool true) W := fun W => Lib.run_eql_slice_nil_nil W 0 0 Tryz.underlying22
  go_enter Tryz.func88, Tryz.ntmps88
  go_wp2_with fail
  go_ret
  exact ⟨rfl, rfl⟩
set_option maxHeartbeats 2000000 in
theorem clipTy_nil (w : World) : Calls Tryz.prog 87 #[.slice none 0 0] w fun e w' => e = .returned (.slice none 0 0) ∧ w = w' := by
  go_enter Tryz.func87, Tryz.ntmps87
  go_wp2_with fail
  go_ret
  exact ⟨rfl, rfl⟩
set_option maxHeartbeats 2000000 in
theorem clipTy_some (w : World) (g n cap : Nat) (hn : n ≤ cap) (hn2 : n ≤ 1000000) : Calls Tryz.prog 87 #[.slice (some ⟨g, 0, none⟩) n cap] w fun e w' => e = .returned (.slice (some ⟨g, 0, none⟩) n n) ∧ w = w' := by
  have i1 : (n : Int) ≤ (cap : Int) := by omega
  have i2 : (0 : Int) ≤ (n : Int) := by omega
  go_enter Tryz.func87, Tryz.ntmps87
  go_wp2_with fail
  go_ret
  exact ⟨rfl, rfl⟩
set_option maxRecDepth 100000 in
set_option maxHeartbeats 2000000 in
theorem cloneTm_some {w : World} (b off n cp : Nat) (hn : n ≤ 1000000) (hc : ∀ j, j < n * 7 → ∃ v, w.cell? ⟨b, off + j, none⟩ = some v ∧ v.oneCell' = true) :
    Calls Tryz.prog 70 #[.slice (some ⟨b, off, none⟩) n cp] w fun e w' => ∃ v, e = .returned v ∧ NewRow w w' 27 7 n b off v ∧ Kept (fun _ => False) w w' := by
  have hne : ∀ W : World, (binOp .eql 25 (.slice (some ⟨b, off, none⟩) n cp) (.slice none 0 0)).run Tryz.prog W = .ok (.bool false) W := fun W => Lib.run_eql_slice_some_nil W _ n cp Tryz.underlying25
  obtain ⟨ii, hi, hz, hs, hb⟩ : ∃ i, Tryz.prog.info? 27 = some i ∧ i.zero = some (.agg #[.int .i64 0, .string ⟨#[]⟩, .int .i64 0, .int .i64 0, .string ⟨#[]⟩, .slice none 0 0, .slice none 0 0]) ∧ i.size = 7 ∧ i.bytes = 104 := by
    have := info27
    cases hh : Tryz.prog.info? 27 with
    | none => rw [hh] at this; cases this
    | some i => rw [hh] at this; simp only [Option.map_some, Option.some.injEq, Prod.mk.injEq] at this; exact ⟨i, rfl, this.1, this.2.1, this.2.2⟩
  have HI := Lib.hid hi
  have HZ := Lib.hid hz
  have HS := Lib.hid hs
  have HBY := Lib.hid hb
  clear hi hz hs hb
  have HC := Lib.hid hc
  clear hc
  have own0 : (w.alloc (.cells #[] 27)).ownsRow w.heap.size 27 7 (.slice (some ⟨w.heap.size, 0, none⟩) 0 0) 0 [] := ⟨rfl, .inr ⟨w.heap.size, 0, #[], rfl, Nat.le_refl _, Blk.new w 27 [], Nat.le_refl _, Nat.zero_le _, rfl, rfl⟩⟩
  have hget : Hid (∀ j u, (rowList w b off (n * 7))[j]? = some u → (w.cell? ⟨b, off + j, none⟩ = some u ∧ u.oneCell' = true) ∧ (w.alloc (.cells #[] 27)).cell? ((⟨b, off, none⟩ : Addr).add j) = some u) := Lib.hid (by
    intro j u hj
    have hlt : j < n * 7 := by
      have := (List.getElem?_eq_some_iff.1 hj).1; unfold rowList at this; simpa using this
    obtain ⟨v, hv, h1⟩ := HC.out j hlt
    rw [rowList_get hlt hv] at hj
    have hvu : v = u := Option.some.inj hj
    subst hvu
    refine ⟨⟨hv, h1⟩, ?_⟩
    have hl := cell_lt hv
    rw [show (⟨b, off, none⟩ : Addr).add j = ⟨b, off + j, none⟩ by cases j <;> simp [Addr.add]]
    rw [World.cell?_of_block (w := w) (a := ⟨b, off + j, none⟩) (Below.heap_alloc _ _ _ hl)]; exact hv)
  go_enter Tryz.func70, Tryz.ntmps70
  go_wp2_with (at_builtin; refine wpList_append_own_at _ rfl (.tmp 5) (.tmp 6) 25 rfl w.heap.size 27 ii _ 7 104 Tryz.underlying25 HI.out HZ.out HS.out HBY.out rfl (by decide) _ _ _ rfl own0 ⟨b, off, none⟩ n cp (rowList w b off (n * 7)) rfl (by unfold rowList; simp) (fun j u h => (hget.out j u h).2) ?_ ?_ ?_ ?_ ?_)
  · intro u hu
    obtain ⟨j, hj⟩ := List.getElem?_of_mem hu
    exact (hget.out j u hj).1.2
  · unfold maxLen; omega
  · omega
  · simp
  · intro v' w1 own1 gr1 hnil hat
    have kA := kept_grown gr1
    have OWN := Lib.hid own1
    have NIL := Lib.hid hnil
    clear own1 hnil hat gr1
    go_wp2_with fail
    go_ret
    refine ⟨v', rfl, ?_, ((Kept.refl (fun _ => False) w).alloc _).via kA (fun x hx h => by simp [Value.ownBlock] at h; omega)⟩
    rcases OWN.out.2 with ⟨h0, _⟩ | ⟨g, cap, cur, rfl, hg, hh, h1, h2, h3, h4⟩
    · exact (NIL.out h0).elim
    · refine ⟨g, cap, cur.toList, rfl, by omega, hg, by unfold Blk; rw [hh], ?_, ?_⟩
      · rw [Array.length_toList, h3]; exact Nat.mul_le_mul_right _ (by omega)
      · intro j hj
        obtain ⟨v, hv, _⟩ := HC.out j hj
        rw [hv, ← rowList_get hj hv, ← h4, List.getElem?_take_of_lt hj]
set_option maxRecDepth 100000 in
set_option maxHeartbeats 2000000 in
theorem cloneTm_zero {w : World} (ad : Addr) (cp : Nat) :
    Calls Tryz.prog 70 #[.slice (some ad) 0 cp] w fun e w' => ∃ g cap, e = .returned (.slice (some ⟨g, 0, none⟩) 0 cap) ∧ Kept (fun _ => False) w w' := by
  have hne : ∀ W : World, (binOp .eql 25 (.slice (some ad) 0 cp) (.slice none 0 0)).run Tryz.prog W = .ok (.bool false) W := fun W => Lib.run_eql_slice_some_nil W _ 0 cp Tryz.underlying25
  obtain ⟨ii, hi, hz, hs, hb⟩ : ∃ i, Tryz.prog.info? 27 = some i ∧ i.zero = some (.agg #[.int .i64 0, .string ⟨#[]⟩, .int .i64 0, .int .i64 0, .string ⟨#[]⟩, .slice none 0 0, .slice none 0 0]) ∧ i.size = 7 ∧ i.bytes = 104 := by
    have := info27
    cases hh : Tryz.prog.info? 27 with
    | none => rw [hh] at this; cases this
    | some i => rw [hh] at this; simp only [Option.map_some, Option.some.injEq, Prod.mk.injEq] at this; exact ⟨i, rfl, this.1, this.2.1, this.2.2⟩
  have HI := Lib.hid hi
  have HZ := Lib.hid hz
  have HS := Lib.hid hs
  have HBY := Lib.hid hb
  clear hi hz hs hb
  have own0 : (w.alloc (.cells #[] 27)).ownsRow w.heap.size 27 7 (.slice (some ⟨w.heap.size, 0, none⟩) 0 0) 0 [] := ⟨rfl, .inr ⟨w.heap.size, 0, #[], rfl, Nat.le_refl _, Blk.new w 27 [], Nat.le_refl _, Nat.zero_le _, rfl, rfl⟩⟩
  go_enter Tryz.func70, Tryz.ntmps70
  go_wp2_with (at_builtin; refine wpList_append_own_at _ rfl (.tmp 5) (.tmp 6) 25 rfl w.heap.size 27 ii _ 7 104 Tryz.underlying25 HI.out HZ.out HS.out HBY.out rfl (by decide) _ _ _ rfl own0 ad 0 cp [] rfl rfl (fun j u h => by cases h) ?_ ?_ ?_ ?_ ?_)
  · intro u hu; cases hu
  · unfold maxLen; omega
  · omega
  · simp
  · intro v' w1 own1 gr1 hnil hat
    have kA := kept_grown gr1
    have OWN := Lib.hid own1
    have NIL := Lib.hid hnil
    clear own1 hnil hat gr1
    go_wp2_with fail
    go_ret
    rcases OWN.out.2 with ⟨h0, _⟩ | ⟨g, cap, cur, rfl, hg, hh, h1, h2, h3, h4⟩
    · exact (NIL.out h0).elim
    · exact ⟨g, cap, rfl, ((Kept.refl (fun _ => False) w).alloc _).via kA (fun x hx h => by simp [Value.ownBlock] at h; omega)⟩
set_option maxHeartbeats 2000000 in
theorem cloneTm_nil (w : World) : Calls Tryz.prog 70 #[.slice none 0 0] w fun e w' => e = .returned (.slice none 0 0) ∧ w = w' := by
  have hne : ∀ W : World, (binOp .eql 25 (.slice none 0 0) (.slice none 0 0)).run Tryz.prog W = .ok (.bool true) W := fun W => Lib.run_eql_slice_nil_nil W 0 0 Tryz.underlying25
  go_enter Tryz.func70, Tryz.ntmps70
  go_wp2_with fail
  go_ret
  exact ⟨rfl, rfl⟩
set_option maxHeartbeats 2000000 in
theorem clipTm_nil (w : World) : Calls Tryz.prog 69 #[.slice none 0 0] w fun e w' => e = .returned (.slice none 0 0) ∧ w = w' := by
  go_enter Tryz.func69, Tryz.ntmps69
  go_wp2_with fail
  go_ret
  exact ⟨rfl, rfl⟩
set_option maxHeartbeats 2000000 in
theorem clipTm_some (w : World) (g n cap : Nat) (hn : n ≤ cap) (hn2 : n ≤ 1000000) : Calls Tryz.prog 69 #[.slice (some ⟨g, 0, none⟩) n cap] w fun e w' => e = .returned (.slice (some ⟨g, 0, none⟩) n n) ∧ w = w' := by
  have i1 : (n : Int) ≤ (cap : Int) := by omega
  have i2 : (0 : Int) ≤ (n : Int) := by omega
  go_enter Tryz.func69, Tryz.ntmps69
  go_wp2_with fail
  go_ret
  exact ⟨rfl, rfl⟩
inductive BdTy : Ty → Prop
  | mk {k : Int} {n : ByteArray} {l : List Ty} (hn : l.length ≤ 1000000) (hl : ∀ t, t ∈ l → BdTy t) : BdTy (.mk k n l)
def CpC (t : Ty) : Prop := ∀ (w : World) (ok : Nat → Prop) (tk : Value), TyL ok w t.kids tk →
  Calls Tryz.prog 43 #[tyVal t tk] w fun e w' => ∃ v, e = .returned (tyVal t v) ∧ TyL (fun k => w.heap.size ≤ k) w' t.kids v ∧ Kept (fun _ => False) w w'
theorem r3' {W : World} {R : Nat} {l : List Value} {x y z : Value} (h : Blk W R 24 l) (hl : l.length = 3) : Blk (((W.setCell ⟨R, 0, none⟩ x).setCell ⟨R, 1, none⟩ y).setCell ⟨R, 2, none⟩ z) R 24 [x, y, z] := r3 h hl
set_option maxRecDepth 100000 in
set_option maxHeartbeats 8000000 in
theorem copyTy_nil {k : Int} {nm : ByteArray} {w : World} :
    Calls Tryz.prog 43 #[.agg #[.int .i64 k, .string nm, .slice none 0 0]] w fun e w' => e = .returned (.agg #[.int .i64 k, .string nm, .slice none 0 0]) ∧ Kept (fun _ => False) w w' := by
  have bA : Blk ((w.alloc (.cells #[.int .i64 k, .string nm, .slice none 0 0] 24)).alloc (.cells #[.int .i64 0, .string ⟨#[]⟩, .slice none 0 0] 24)) w.heap.size 24 [.int .i64 k, .string nm, .slice none 0 0] := (Blk.new w 24 _).alloc _
  have K0 : Kept (fun _ => False) w ((w.alloc (.cells #[.int .i64 k, .string nm, .slice none 0 0] 24)).alloc (.cells #[.int .i64 0, .string ⟨#[]⟩, .slice none 0 0] 24)) := ((Kept.refl _ _).alloc _).alloc _
  go_enter Tryz.func43, Tryz.ntmps43
  go_wp2_with (first | (go_at_call 88; refine (cloneTy_nil _).mono ?_; rintro e w' ⟨rfl, rfl⟩) | (go_at_call 87; refine (clipTy_nil _).mono ?_; rintro e w' ⟨rfl, rfl⟩))
  go_loop [13] (fun i => i = .int .i64 0) (fun i => 0)
  case atStart => rfl
  case round =>
    subst hrel
    go_wp2_with fail
    exact bodyPost_ret (results_one Tryz.results43 rfl (load_ty (t := .mk k nm []) (Blk.new' 24 _ (by simp)))) rfl ⟨rfl, ((Kept.refl _ _).alloc _).alloc _⟩
def ZTy (k : Int) (nm : ByteArray) (w : World) (e : Ending) (w' : World) : Prop := ∃ g cap, e = .returned (.agg #[.int .i64 k, .string nm, .slice (some g) 0 cap]) ∧ Kept (fun _ => False) w w'
set_option maxRecDepth 100000 in
set_option maxHeartbeats 8000000 in
theorem copyTy_zero {k : Int} {nm : ByteArray} {w : World} (ad : Addr) (cp : Nat) :
    Calls Tryz.prog 43 #[.agg #[.int .i64 k, .string nm, .slice (some ad) 0 cp]] w (ZTy k nm w) := by
  have bA : Blk ((w.alloc (.cells #[.int .i64 k, .string nm, .slice (some ad) 0 cp] 24)).alloc (.cells #[.int .i64 0, .string ⟨#[]⟩, .slice none 0 0] 24)) w.heap.size 24 [.int .i64 k, .string nm, .slice (some ad) 0 cp] := (Blk.new w 24 _).alloc _
  have bR : Blk ((w.alloc (.cells #[.int .i64 k, .string nm, .slice (some ad) 0 cp] 24)).alloc (.cells #[.int .i64 0, .string ⟨#[]⟩, .slice none 0 0] 24)) (w.heap.size + 1) 24 z24 := Blk.new' 24 _ (by simp)
  have K0 : Kept (fun _ => False) w ((w.alloc (.cells #[.int .i64 k, .string nm, .slice (some ad) 0 cp] 24)).alloc (.cells #[.int .i64 0, .string ⟨#[]⟩, .slice none 0 0] 24)) := ((Kept.refl _ _).alloc _).alloc _
  go_enter Tryz.func43, Tryz.ntmps43
  go_wp2_with fail
  refine (cloneTy_zero ad cp).mono ?_
  rintro e w1 ⟨g, cap, rfl, k1⟩
  have bA1 := bA.kept k1 (fun h => h)
  have bR1 := bR.kept k1 (fun h => h)
  have K1 := K0.trans k1
  have a0 : w1.cell? ⟨w.heap.size, 0, none⟩ = some (.int .i64 k) := bA1.cell 0
  have a1 : w1.cell? ⟨w.heap.size, 1, none⟩ = some (.string nm) := bA1.cell 1
  have a2 : w1.cell? ⟨w.heap.size, 2, none⟩ = some (.slice (some ad) 0 cp) := bA1.cell 2
  have fa2 := bA1.frozen 2
  have r0 : w1.cell? ⟨w.heap.size + 1, 0, none⟩ = some (.int .i64 0) := bR1.cell 0
  have r1 : w1.cell? ⟨w.heap.size + 1, 1, none⟩ = some (.string ⟨#[]⟩) := bR1.cell 1
  have r2 : w1.cell? ⟨w.heap.size + 1, 2, none⟩ = some (.slice none 0 0) := bR1.cell 2
  have f0 := bR1.frozen 0
  have f1 := bR1.frozen 1
  have f2 := bR1.frozen 2
  have BR := Lib.hid bR1
  have KP := Lib.hid K1
  clear bR1 K1 bA1 bA bR
  go_wp2_with (go_at_call 87; refine (clipTy_some _ g 0 cap (Nat.zero_le _) (Nat.zero_le _)).mono ?_; rintro e w' ⟨rfl, rfl⟩)
  go_loop [13] (fun i => i = .int .i64 0) (fun i => 0)
  case atStart => rfl
  case round =>
    subst hrel
    go_wp2_with fail
    have bF := r3' (x := .int .i64 k) (y := .string nm) (z := .slice (some ⟨g, 0, none⟩) 0 0) (BR.out.set_other ⟨w.heap.size, 2, none⟩ (.slice (some ⟨g, 0, none⟩) 0 0) (by show w.heap.size + 1 ≠ w.heap.size; omega)) rfl
    refine bodyPost_ret (results_one Tryz.results43 rfl (load_ty (t := .mk k nm []) bF)) rfl ?_
    exact ⟨_, _, rfl, (((KP.out.setCell (p := ⟨w.heap.size, 2, none⟩) (Or.inr (Nat.le_refl _)) _).setCell (p := ⟨w.heap.size + 1, 0, none⟩) (Or.inr (by show w.heap.size ≤ w.heap.size + 1; omega)) _).setCell (p := ⟨w.heap.size + 1, 1, none⟩) (Or.inr (by show w.heap.size ≤ w.heap.size + 1; omega)) _).setCell (p := ⟨w.heap.size + 1, 2, none⟩) (Or.inr (by show w.heap.size ≤ w.heap.size + 1; omega)) _⟩
structure CI (w : World) (l : List Ty) (kd : Int) (nm : ByteArray) (n b off g k : Nat) (wr : World) : Prop where
  kp : Kept (fun _ => False) w wr
  a : Blk wr w.heap.size 24 [.int .i64 kd, .string nm, .slice (some ⟨g, 0, none⟩) n n]
  r : Blk wr (w.heap.size + 1) 24 z24
  row : ∃ (L : List Value) (K' : Nat → Value), Blk wr g 24 L ∧ n * 3 ≤ L.length ∧ (∀ j, k * 3 ≤ j → j < n * 3 → L[j]? = w.cell? ⟨b, off + j, none⟩) ∧
    ∀ i (_ : i < k) (h : i < l.length), L[i * 3]? = some (.int .i64 l[i].kind) ∧ L[i * 3 + 1]? = some (.string l[i].name) ∧ L[i * 3 + 2]? = some (K' i) ∧ TyL (fun q => w.heap.size + 2 ≤ q ∧ q ≠ g) wr l[i].kids (K' i)
theorem set3 {W : World} {ok : Nat → Prop} {g i j q : Nat} {x y z : Value} (h : ∀ k, ok k → k ≠ g) : Same ok W (((W.setCell ⟨g, i, none⟩ x).setCell ⟨g, j, none⟩ y).setCell ⟨g, q, none⟩ z) :=
  Same.of_kept (S := (· = g)) ((((Kept.refl (fun x => x = g) W).setCell (p := ⟨g, i, none⟩) (Or.inl rfl) _).setCell (p := ⟨g, j, none⟩) (Or.inl rfl) _).setCell (p := ⟨g, q, none⟩) (Or.inl rfl) _) h
theorem CI.step {w wr w4 : World} {l : List Ty} {kd : Int} {nm : ByteArray} {b off g k : Nat} {v : Value} (h : CI w l kd nm l.length b off g k wr) (hg : w.heap.size + 2 ≤ g) (hk : k < l.length) (kk : Kept (fun _ => False) wr w4) (hv : TyL (fun q => wr.heap.size ≤ q) w4 l[k].kids v) :
    CI w l kd nm l.length b off g (k + 1) (((w4.setCell ⟨g, k * 3, none⟩ (.int .i64 l[k].kind)).setCell ⟨g, k * 3 + 1, none⟩ (.string l[k].name)).setCell ⟨g, k * 3 + 2, none⟩ v) := by
  obtain ⟨L, K', bG, hLn, hLo, hLd⟩ := h.row
  have lg := bG.lt
  have b4 := bG.kept kk (fun h => h)
  refine ⟨(((h.kp.trans kk).setCell (p := ⟨g, k * 3, none⟩) (Or.inr (by show w.heap.size ≤ g; omega)) _).setCell (p := ⟨g, k * 3 + 1, none⟩) (Or.inr (by show w.heap.size ≤ g; omega)) _).setCell (p := ⟨g, k * 3 + 2, none⟩) (Or.inr (by show w.heap.size ≤ g; omega)) _,
    (((h.a.kept kk (fun h => h)).set_other _ _ (by show w.heap.size ≠ g; omega)).set_other _ _ (by show w.heap.size ≠ g; omega)).set_other _ _ (by show w.heap.size ≠ g; omega),
    (((h.r.kept kk (fun h => h)).set_other _ _ (by show w.heap.size + 1 ≠ g; omega)).set_other _ _ (by show w.heap.size + 1 ≠ g; omega)).set_other _ _ (by show w.heap.size + 1 ≠ g; omega),
    ((L.set (k * 3) (.int .i64 l[k].kind)).set (k * 3 + 1) (.string l[k].name)).set (k * 3 + 2) v, fun i => if i = k then v else K' i,
    ((b4.set _ _).set _ _).set _ _, by simpa using hLn, fun j h1 h2 => ?_, fun i hi hl => ?_⟩
  · rw [List.getElem?_set_ne (by omega), List.getElem?_set_ne (by omega), List.getElem?_set_ne (by omega)]
    exact hLo j (by omega) h2
  · by_cases hik : i = k
    · subst hik
      refine ⟨?_, ?_, ?_, ?_⟩
      · rw [List.getElem?_set_ne (by omega), List.getElem?_set_ne (by omega), List.getElem?_set_self (by omega)]
      · rw [List.getElem?_set_ne (by omega), List.getElem?_set_self (by simp; omega)]
      · rw [List.getElem?_set_self (by simp; omega)]; show some v = some (if i = i then v else K' i); rw [if_pos rfl]
      · show TyL _ _ _ (if i = i then v else K' i)
        rw [if_pos rfl]
        exact (hv.mono (ok' := fun q => w.heap.size + 2 ≤ q ∧ q ≠ g) (fun q _ h => ⟨by omega, by omega⟩)).frame (set3 (fun q h => h.2))
    · obtain ⟨e0, e1, e2, e3⟩ := hLd i (by omega) hl
      refine ⟨?_, ?_, ?_, ?_⟩
      · rw [List.getElem?_set_ne (by omega), List.getElem?_set_ne (by omega), List.getElem?_set_ne (by omega)]; exact e0
      · rw [List.getElem?_set_ne (by omega), List.getElem?_set_ne (by omega), List.getElem?_set_ne (by omega)]; exact e1
      · rw [List.getElem?_set_ne (by omega), List.getElem?_set_ne (by omega), List.getElem?_set_ne (by omega)]; show _ = some (if i = k then v else K' i); rw [if_neg hik]; exact e2
      · show TyL _ _ _ (if i = k then v else K' i)
        rw [if_neg hik]
        exact (e3.frame (Same.of_kept kk (fun _ _ e => e))).frame (set3 (fun q h => h.2))
theorem CI.done {w wr : World} {l : List Ty} {kd : Int} {nm : ByteArray} {b off g : Nat} (h : CI w l kd nm l.length b off g l.length wr) (hne : l ≠ []) (hg : w.heap.size + 2 ≤ g) : TyL (fun k => w.heap.size ≤ k) wr l (.slice (some ⟨g, 0, none⟩) l.length l.length) := by
  obtain ⟨L, K', bG, hLn, hLo, hLd⟩ := h.row
  refine TyL.mk K' hne (by omega) (Nat.le_refl _) (fun i hi => ?_) (fun i hi => ?_)
  · obtain ⟨e0, e1, e2, e3⟩ := hLd i hi hi
    rw [Nat.zero_add]
    exact ⟨by rw [bG.cell]; exact e0, by rw [bG.cell]; exact e1, by rw [bG.cell]; exact e2⟩
  · exact (hLd i hi hi).2.2.2.mono (fun q _ h => by omega)
theorem three {n j : Nat} (h : j < n * 3) : ∃ i r, i < n ∧ r < 3 ∧ j = i * 3 + r := ⟨j / 3, j % 3, by omega, by omega, by omega⟩
set_option maxRecDepth 100000 in
set_option maxHeartbeats 8000000 in
theorem copyTy_some {kd : Int} {nm : ByteArray} {l : List Ty} {w : World} {ok : Nat → Prop} {b off cp : Nat} (IH : ∀ t, t ∈ l → CpC t) (hn : l.length ≤ 1000000) (K : Nat → Value)
    (hcell : ∀ i (h : i < l.length), w.cell? ⟨b, off + i * 3, none⟩ = some (.int .i64 l[i].kind) ∧ w.cell? ⟨b, off + i * 3 + 1, none⟩ = some (.string l[i].name) ∧ w.cell? ⟨b, off + i * 3 + 2, none⟩ = some (K i))
    (hk : ∀ i (h : i < l.length), TyL ok w l[i].kids (K i)) :
    Calls Tryz.prog 43 #[.agg #[.int .i64 kd, .string nm, .slice (some ⟨b, off, none⟩) l.length cp]] w fun e w' => ∃ v, e = .returned (.agg #[.int .i64 kd, .string nm, v]) ∧ TyL (fun k => w.heap.size ≤ k) w' l v ∧ Kept (fun _ => False) w w' := by
  have bA : Blk ((w.alloc (.cells #[.int .i64 kd, .string nm, .slice (some ⟨b, off, none⟩) l.length cp] 24)).alloc (.cells #[.int .i64 0, .string ⟨#[]⟩, .slice none 0 0] 24)) w.heap.size 24 [.int .i64 kd, .string nm, .slice (some ⟨b, off, none⟩) l.length cp] := (Blk.new w 24 _).alloc _
  have bR : Blk ((w.alloc (.cells #[.int .i64 kd, .string nm, .slice (some ⟨b, off, none⟩) l.length cp] 24)).alloc (.cells #[.int .i64 0, .string ⟨#[]⟩, .slice none 0 0] 24)) (w.heap.size + 1) 24 z24 := Blk.new' 24 _ (by simp)
  have K0 : Kept (fun _ => False) w ((w.alloc (.cells #[.int .i64 kd, .string nm, .slice (some ⟨b, off, none⟩) l.length cp] 24)).alloc (.cells #[.int .i64 0, .string ⟨#[]⟩, .slice none 0 0] 24)) := ((Kept.refl _ _).alloc _).alloc _
  have z0 : ((w.alloc (.cells #[.int .i64 kd, .string nm, .slice (some ⟨b, off, none⟩) l.length cp] 24)).alloc (.cells #[.int .i64 0, .string ⟨#[]⟩, .slice none 0 0] 24)).heap.size = w.heap.size + 2 := by simp
  have HCELL := Lib.hid hcell
  have HK := Lib.hid hk
  have HIH := Lib.hid IH
  clear hcell hk IH
  have hone : Hid (∀ j, j < l.length * 3 → ∃ v, w.cell? ⟨b, off + j, none⟩ = some v ∧ v.oneCell' = true) := Lib.hid (by
    intro j hj
    obtain ⟨i, r, hi, hr, rfl⟩ := three hj
    have c := HCELL.out i hi
    rcases (show r = 0 ∨ r = 1 ∨ r = 2 by omega) with rfl | rfl | rfl
    · exact ⟨_, c.1, rfl⟩
    · exact ⟨_, by rw [show off + (i * 3 + 1) = off + i * 3 + 1 by omega]; exact c.2.1, rfl⟩
    · obtain ⟨a, n, c', hh⟩ := (HK.out i hi).slice
      exact ⟨_, by rw [show off + (i * 3 + 2) = off + i * 3 + 2 by omega]; exact c.2.2, by rw [hh]; rfl⟩)
  have Z0 := Lib.hid z0
  clear z0
  go_enter Tryz.func43, Tryz.ntmps43
  go_wp2_with fail
  refine (cloneTy_some b off l.length cp hn (fun j hj => ?_)).mono ?_
  · obtain ⟨v, hv, h1⟩ := hone.out j hj
    exact ⟨v, by rw [K0.cell (p := ⟨b, off + j, none⟩) (cell_lt hv) (fun h => h)]; exact hv, h1⟩
  rintro e w1 ⟨v, rfl, ⟨g, cap, L, rfl, hcap, hg, hL, hLl, hLc⟩, k1⟩
  rw [Z0.out] at hg
  have bA1 := bA.kept k1 (fun h => h)
  have bR1 := bR.kept k1 (fun h => h)
  have hA2 := bA1.cell 2
  have fA2 := bA1.frozen 2
  have HLC := Lib.hid hLc
  have HLL := Lib.hid hLl
  have HG := Lib.hid hg
  clear hLc hLl hg
  go_wp2_with (go_at_call 87; refine (clipTy_some _ g l.length cap hcap hn).mono ?_; rintro e w' ⟨rfl, rfl⟩)
  have c1 : CI w l kd nm l.length b off g 0 (w1.setCell ⟨w.heap.size, 2, none⟩ (.slice (some ⟨g, 0, none⟩) l.length l.length)) := by
    have hg := HG.out
    refine ⟨(K0.via k1 (fun _ _ h => h)).setCell (p := ⟨w.heap.size, 2, none⟩) (Or.inr (Nat.le_refl _)) _, bA1.set 2 _, bR1.set_other _ _ (by show w.heap.size + 1 ≠ w.heap.size; omega), L, K, hL.set_other _ _ (by show g ≠ w.heap.size; omega), HLL.out, fun j _ hj => ?_, fun i hi => absurd hi (Nat.not_lt_zero _)⟩
    rw [HLC.out j hj]
    obtain ⟨v, hv, _⟩ := hone.out j hj
    rw [K0.cell (p := ⟨b, off + j, none⟩) (cell_lt hv) (fun h => h)]
  have C1 := Lib.hid c1
  clear c1 hA2 fA2 bA1 bR1 bA bR hL
  go_loopw [13] (fun i wr => ∃ k : Nat, k ≤ l.length ∧ i = .int .i64 k ∧ Hid (CI w l kd nm l.length b off g k wr)) (fun i _ => l.length - (intOf i).toNat)
  case atStart => exact ⟨0, Nat.zero_le _, rfl, C1⟩
  case round =>
    obtain ⟨k, hkl, rfl, HCI⟩ := hrel
    have hg := HG.out
    have qA := HCI.out.a
    have qR := HCI.out.r
    have kp := HCI.out.kp
    obtain ⟨L, K', bG, hLn, hLo, hLd⟩ := HCI.out.row
    have HLo := Lib.hid hLo
    have HLd := Lib.hid hLd
    have HLn := Lib.hid hLn
    have BG := Lib.hid bG
    clear hLo hLd hLn bG
    by_cases hlt : k < l.length
    · have c0 : wr.cell? ⟨g, k * 3, none⟩ = some (.int .i64 l[k].kind) := by
        rw [BG.out.cell, HLo.out (k * 3) (Nat.le_refl _) (by omega)]; exact (HCELL.out k hlt).1
      have c1 : wr.cell? ⟨g, k * 3 + 1, none⟩ = some (.string l[k].name) := by
        rw [BG.out.cell, HLo.out (k * 3 + 1) (by omega) (by omega)]; exact (HCELL.out k hlt).2.1
      obtain ⟨ta, tn, tc, hKk⟩ := (HK.out k hlt).slice
      have c2 : wr.cell? ⟨g, k * 3 + 2, none⟩ = some (.slice ta tn tc) := by
        rw [BG.out.cell, HLo.out (k * 3 + 2) (by omega) (by omega), ← hKk]; exact (HCELL.out k hlt).2.2
      have i1 : (k : Int) < (l.length : Int) := by omega
      have a2 : wr.cell? ⟨w.heap.size, 2, none⟩ = some (.slice (some ⟨g, 0, none⟩) l.length l.length) := qA.cell 2
      have lA := qA.lt
      have lG := BG.out.lt
      have hcon := Lib.hid (HIH.out _ (List.getElem_mem hlt))
      have hty : Hid (TyL ok wr l[k].kids (.slice ta tn tc)) := Lib.hid (by rw [← hKk]; exact (HK.out k hlt).frame (Same.of_kept kp (fun _ _ e => e)))
      clear hKk
      go_wp2_with fail
      have bX : Blk (wr.alloc (.cells #[.int .i64 l[k].kind, .string l[k].name, .slice ta tn tc] 24)) wr.heap.size 24 [.int .i64 l[k].kind, .string l[k].name, .slice ta tn tc] := Blk.new wr 24 _
      have hAX : w.heap.size ≠ wr.heap.size := by omega
      have hGX : g ≠ wr.heap.size := by omega
      have hAG : g ≠ w.heap.size := by omega
      refine wp_gen (F := fun W3 => Kept (fun _ => False) wr W3 ∧ Blk W3 wr.heap.size 24 [.int .i64 l[k].kind, .string l[k].name, .slice ta tn tc] ∧ wr.heap.size < W3.heap.size) ⟨(Kept.refl _ _).alloc _, bX, bX.lt⟩ ?_
      rintro W3 ⟨k3, b3, z3⟩
      have a3 : W3.cell? ⟨w.heap.size, 2, none⟩ = some (.slice (some ⟨g, 0, none⟩) l.length l.length) := (qA.kept k3 (fun h => h)).cell 2
      have x0 : W3.cell? ⟨wr.heap.size, 0, none⟩ = some (.int .i64 l[k].kind) := b3.cell 0
      have x1 : W3.cell? ⟨wr.heap.size, 1, none⟩ = some (.string l[k].name) := b3.cell 1
      have x2 : W3.cell? ⟨wr.heap.size, 2, none⟩ = some (.slice ta tn tc) := b3.cell 2
      have HC3 : Hid (Calls Tryz.prog 43 #[.agg #[.int .i64 l[k].kind, .string l[k].name, .slice ta tn tc]] W3.drew fun e w' => ∃ v, e = .returned (tyVal l[k] v) ∧ TyL (fun q => W3.heap.size ≤ q) w' l[k].kids v ∧ Kept (fun _ => False) W3 w') := Lib.hid ((hcon.out W3.drew ok (.slice ta tn tc) ((hty.out.frame (Same.of_kept k3 (fun _ _ e => e))).frame (Same.drew _))).mono fun e w' ⟨v, h1, h2, h3⟩ => ⟨v, h1, h2, ((Kept.refl _ _).drew).trans h3⟩)
      have B3 := Lib.hid b3
      have G3 := Lib.hid (BG.out.kept k3 (fun h => h))
      clear b3 bX c0 c1 c2 a2
      go_region_held3 (fun w' => w'.cell? ⟨w.heap.size, 2, none⟩ = some (.slice (some ⟨g, 0, none⟩) l.length l.length) ∧ w'.cell? ⟨wr.heap.size, 0, none⟩ = some (.int .i64 l[k].kind) ∧ w'.cell? ⟨wr.heap.size, 1, none⟩ = some (.string l[k].name) ∧ w'.cell? ⟨wr.heap.size, 2, none⟩ = some (.slice ta tn tc)) (go_keep)
        (first | (go_at_call 43; refine HC3.out.mono ?_; rintro e w4 ⟨v, rfl, hv, k4⟩; obtain ⟨va, vn, vc, rfl⟩ := hv.slice; unfold tyVal; have G4 := G3.out.kept k4 (fun h => h); have y0 : w4.cell? ⟨w.heap.size, 2, none⟩ = some (.slice (some ⟨g, 0, none⟩) l.length l.length) := (by rw [k4.cell (p := ⟨w.heap.size, 2, none⟩) (by show w.heap.size < _; omega) (fun h => h)]; exact a3); have y1 : w4.cell? ⟨wr.heap.size, 0, none⟩ = some (.int .i64 l[k].kind) := (B3.out.kept k4 (fun h => h)).cell 0; have y2 : w4.cell? ⟨wr.heap.size, 1, none⟩ = some (.string l[k].name) := (B3.out.kept k4 (fun h => h)).cell 1; have y3 : w4.cell? ⟨wr.heap.size, 2, none⟩ = some (.slice ta tn tc) := (B3.out.kept k4 (fun h => h)).cell 2; have t0 : w4.cell? ⟨g, k * 3, none⟩ = some (L[k * 3]'(by have := HLn.out; omega)) := (by rw [G4.cell]; exact List.getElem?_eq_getElem _); have t1 : w4.cell? ⟨g, k * 3 + 1, none⟩ = some (L[k * 3 + 1]'(by have := HLn.out; omega)) := (by rw [G4.cell]; exact List.getElem?_eq_getElem _); have t2 : w4.cell? ⟨g, k * 3 + 2, none⟩ = some (L[k * 3 + 2]'(by have := HLn.out; omega)) := (by rw [G4.cell]; exact List.getElem?_eq_getElem _); have f0 := G4.frozen (k * 3); have f1 := G4.frozen (k * 3 + 1); have f2 := G4.frozen (k * 3 + 2)))
      have HST := Lib.hid (HCI.out.step hg hlt (k3.trans k4) (hv.mono (fun q _ h => by omega)))
      go_wp2_with fail
      go_roundw
      case rel => exact ⟨k + 1, by omega, by go_num, HST⟩
      case measure => simp [intOf]; omega
    · have hkk : k = l.length := by omega
      subst hkk
      have a0 : wr.cell? ⟨w.heap.size, 0, none⟩ = some (.int .i64 kd) := qA.cell 0
      have a1 : wr.cell? ⟨w.heap.size, 1, none⟩ = some (.string nm) := qA.cell 1
      have a2 : wr.cell? ⟨w.heap.size, 2, none⟩ = some (.slice (some ⟨g, 0, none⟩) l.length l.length) := qA.cell 2
      have r0 : wr.cell? ⟨w.heap.size + 1, 0, none⟩ = some (.int .i64 0) := qR.cell 0
      have r1 : wr.cell? ⟨w.heap.size + 1, 1, none⟩ = some (.string ⟨#[]⟩) := qR.cell 1
      have r2 : wr.cell? ⟨w.heap.size + 1, 2, none⟩ = some (.slice none 0 0) := qR.cell 2
      have f0 := qR.frozen 0
      have f1 := qR.frozen 1
      have f2 := qR.frozen 2
      have QR := Lib.hid qR
      have KP := Lib.hid kp
      clear qR kp qA
      go_wp2_with fail
      have bF := r3' (x := .int .i64 kd) (y := .string nm) (z := .slice (some ⟨g, 0, none⟩) l.length l.length) QR.out rfl
      refine bodyPost_ret (results_one Tryz.results43 rfl (load_ty (t := .mk kd nm l) bF)) rfl ⟨_, rfl, ?_, ?_⟩
      · by_cases hne : l = []
        · subst hne; exact .nil (Or.inr ⟨_, _, rfl⟩)
        · have D := HCI.out.done hne hg
          obtain ⟨L, K', bG, hLn, hLo, hLd⟩ := HCI.out.row
          refine TyL.mk K' hne (by omega) (Nat.le_refl _) (fun i hi => ?_) (fun i hi => ?_)
          · obtain ⟨e0, e1, e2, e3⟩ := hLd i hi hi
            rw [Nat.zero_add]
            have bG' := ((bG.set_other ⟨w.heap.size + 1, 0, none⟩ (.int .i64 kd) (by show g ≠ w.heap.size + 1; omega)).set_other ⟨w.heap.size + 1, 1, none⟩ (.string nm) (by show g ≠ w.heap.size + 1; omega)).set_other ⟨w.heap.size + 1, 2, none⟩ (.slice (some ⟨g, 0, none⟩) l.length l.length) (by show g ≠ w.heap.size + 1; omega)
            exact ⟨by rw [bG'.cell]; exact e0, by rw [bG'.cell]; exact e1, by rw [bG'.cell]; exact e2⟩
          · exact ((hLd i hi hi).2.2.2.frame (set3 (g := w.heap.size + 1) (fun q h => by omega))).mono (fun q _ h => by omega)
      · exact ((KP.out.setCell (p := ⟨w.heap.size + 1, 0, none⟩) (Or.inr (by show w.heap.size ≤ w.heap.size + 1; omega)) _).setCell (p := ⟨w.heap.size + 1, 1, none⟩) (Or.inr (by show w.heap.size ≤ w.heap.size + 1; omega)) _).setCell (p := ⟨w.heap.size + 1, 2, none⟩) (Or.inr (by show w.heap.size ≤ w.heap.size + 1; omega)) _
theorem copyTy_any {t : Ty} (hb : BdTy t) : CpC t := by
  induction hb with
  | mk hn hl ih =>
    intro w ok tk h
    cases h with
    | nil h =>
      rcases h with rfl | ⟨ad, c, rfl⟩
      · exact copyTy_nil.mono fun e w' ⟨h1, h2⟩ => ⟨_, h1, .nil0, h2⟩
      · exact (copyTy_zero ad c).mono fun e w' ⟨g, cap, h1, h2⟩ => ⟨_, h1, .nil (Or.inr ⟨_, _, rfl⟩), h2⟩
    | mk K hne hb hc hcell hk => exact (copyTy_some ih hn K hcell hk).mono fun e w' ⟨v, h1, h2, h3⟩ => ⟨v, h1, h2, h3⟩
inductive BdTm : Tm → Prop
  | mk {o : Int} {n : ByteArray} {i : Int} {t : Ty} {l : List Tm} (hn : l.length ≤ 1000000) (ht : BdTy t) (hl : ∀ k, k ∈ l → BdTm k) : BdTm (.mk o n i t l)
def ClP (t : Tm) (w : World) (e : Ending) (w' : World) : Prop := ∃ v u, e = .returned (tmVal t v u) ∧ TyL (fun k => w.heap.size ≤ k) w' t.ty.kids v ∧ TmL (fun k => w.heap.size ≤ k) w' t.kids u ∧ Kept (fun _ => False) w w'
def ClC (t : Tm) : Prop := ∀ (w : World) (ok : Nat → Prop) (tk kk : Value), TyL ok w t.ty.kids tk → TmL ok w t.kids kk → Calls Tryz.prog 34 #[tmVal t tk kk] w (ClP t w)
theorem seven {n j : Nat} (h : j < n * 7) : ∃ i r, i < n ∧ r < 7 ∧ j = i * 7 + r := ⟨j / 7, j % 7, by omega, by omega, by omega⟩
theorem set7 {W : World} {ok : Nat → Prop} {g i0 i1 i2 i3 i4 i5 i6 : Nat} {x0 x1 x2 x3 x4 x5 x6 : Value} (h : ∀ k, ok k → k ≠ g) : Same ok W (((((((W.setCell ⟨g, i0, none⟩ (x0)).setCell ⟨g, i1, none⟩ (x1)).setCell ⟨g, i2, none⟩ (x2)).setCell ⟨g, i3, none⟩ (x3)).setCell ⟨g, i4, none⟩ (x4)).setCell ⟨g, i5, none⟩ (x5)).setCell ⟨g, i6, none⟩ (x6)) :=
  Same.of_kept (S := (· = g)) ((((((((Kept.refl (fun x => x = g) W).setCell (p := ⟨g, i0, none⟩) (Or.inl rfl) _).setCell (p := ⟨g, i1, none⟩) (Or.inl rfl) _).setCell (p := ⟨g, i2, none⟩) (Or.inl rfl) _).setCell (p := ⟨g, i3, none⟩) (Or.inl rfl) _).setCell (p := ⟨g, i4, none⟩) (Or.inl rfl) _).setCell (p := ⟨g, i5, none⟩) (Or.inl rfl) _).setCell (p := ⟨g, i6, none⟩) (Or.inl rfl) _) h
structure CJ (w : World) (l : List Tm) (hd : List Value) (n b off g k : Nat) (wr : World) : Prop where
  kp : Kept (fun _ => False) w wr
  a : Blk wr w.heap.size 27 (hd ++ [.slice (some ⟨g, 0, none⟩) n n])
  r : Blk wr (w.heap.size + 1) 27 z27
  row : ∃ (L : List Value) (K' M' : Nat → Value), Blk wr g 27 L ∧ n * 7 ≤ L.length ∧ (∀ j, k * 7 ≤ j → j < n * 7 → L[j]? = w.cell? ⟨b, off + j, none⟩) ∧
    ∀ i (_ : i < k) (h : i < l.length), L[i * 7]? = some (.int .i64 l[i].op) ∧ L[i * 7 + 1]? = some (.string l[i].name) ∧ L[i * 7 + 2]? = some (.int .i64 l[i].n) ∧ L[i * 7 + 3]? = some (.int .i64 l[i].ty.kind) ∧ L[i * 7 + 4]? = some (.string l[i].ty.name) ∧ L[i * 7 + 5]? = some (K' i) ∧ L[i * 7 + 6]? = some (M' i) ∧ TyL (fun q => w.heap.size + 2 ≤ q ∧ q ≠ g) wr l[i].ty.kids (K' i) ∧ TmL (fun q => w.heap.size + 2 ≤ q ∧ q ≠ g) wr l[i].kids (M' i)
set_option maxHeartbeats 2000000 in
theorem CJ.step {w wr w4 : World} {l : List Tm} {hd : List Value} {b off g k : Nat} {v u : Value} (h : CJ w l hd l.length b off g k wr) (hg : w.heap.size + 2 ≤ g) (hk : k < l.length) (kk : Kept (fun _ => False) wr w4) (hv : TyL (fun q => wr.heap.size ≤ q) w4 l[k].ty.kids v) (hu : TmL (fun q => wr.heap.size ≤ q) w4 l[k].kids u) :
    CJ w l hd l.length b off g (k + 1) (((((((w4.setCell ⟨g, k * 7, none⟩ (.int .i64 l[k].op)).setCell ⟨g, k * 7 + 1, none⟩ (.string l[k].name)).setCell ⟨g, k * 7 + 2, none⟩ (.int .i64 l[k].n)).setCell ⟨g, k * 7 + 3, none⟩ (.int .i64 l[k].ty.kind)).setCell ⟨g, k * 7 + 4, none⟩ (.string l[k].ty.name)).setCell ⟨g, k * 7 + 5, none⟩ (v)).setCell ⟨g, k * 7 + 6, none⟩ (u)) := by
  obtain ⟨L, K', M', bG, hLn, hLo, hLd⟩ := h.row
  have lg := bG.lt
  have b4 := bG.kept kk (fun h => h)
  refine ⟨((((((((h.kp.trans kk).setCell (p := ⟨g, k * 7, none⟩) (Or.inr (by show w.heap.size ≤ g; omega)) _).setCell (p := ⟨g, k * 7 + 1, none⟩) (Or.inr (by show w.heap.size ≤ g; omega)) _).setCell (p := ⟨g, k * 7 + 2, none⟩) (Or.inr (by show w.heap.size ≤ g; omega)) _).setCell (p := ⟨g, k * 7 + 3, none⟩) (Or.inr (by show w.heap.size ≤ g; omega)) _).setCell (p := ⟨g, k * 7 + 4, none⟩) (Or.inr (by show w.heap.size ≤ g; omega)) _).setCell (p := ⟨g, k * 7 + 5, none⟩) (Or.inr (by show w.heap.size ≤ g; omega)) _).setCell (p := ⟨g, k * 7 + 6, none⟩) (Or.inr (by show w.heap.size ≤ g; omega)) _),
    ((((((((h.a.kept kk (fun h => h)).set_other _ _ (by show w.heap.size ≠ g; omega)).set_other _ _ (by show w.heap.size ≠ g; omega)).set_other _ _ (by show w.heap.size ≠ g; omega)).set_other _ _ (by show w.heap.size ≠ g; omega)).set_other _ _ (by show w.heap.size ≠ g; omega)).set_other _ _ (by show w.heap.size ≠ g; omega)).set_other _ _ (by show w.heap.size ≠ g; omega)),
    ((((((((h.r.kept kk (fun h => h)).set_other _ _ (by show w.heap.size + 1 ≠ g; omega)).set_other _ _ (by show w.heap.size + 1 ≠ g; omega)).set_other _ _ (by show w.heap.size + 1 ≠ g; omega)).set_other _ _ (by show w.heap.size + 1 ≠ g; omega)).set_other _ _ (by show w.heap.size + 1 ≠ g; omega)).set_other _ _ (by show w.heap.size + 1 ≠ g; omega)).set_other _ _ (by show w.heap.size + 1 ≠ g; omega)),
    (((((((L.set (k * 7) (.int .i64 l[k].op)).set (k * 7 + 1) (.string l[k].name)).set (k * 7 + 2) (.int .i64 l[k].n)).set (k * 7 + 3) (.int .i64 l[k].ty.kind)).set (k * 7 + 4) (.string l[k].ty.name)).set (k * 7 + 5) (v)).set (k * 7 + 6) (u)), fun i => if i = k then v else K' i, fun i => if i = k then u else M' i,
    (((((((b4.set _ _).set _ _).set _ _).set _ _).set _ _).set _ _).set _ _), by simpa using hLn, fun j h1 h2 => ?_, fun i hi hl => ?_⟩
  · rw [List.getElem?_set_ne (by omega), List.getElem?_set_ne (by omega), List.getElem?_set_ne (by omega), List.getElem?_set_ne (by omega), List.getElem?_set_ne (by omega), List.getElem?_set_ne (by omega), List.getElem?_set_ne (by omega)]
    exact hLo j (by omega) h2
  · by_cases hik : i = k
    · subst hik
      refine ⟨?_, ?_, ?_, ?_, ?_, ?_, ?_, ?_, ?_⟩
      · rw [List.getElem?_set_ne (by omega), List.getElem?_set_ne (by omega), List.getElem?_set_ne (by omega), List.getElem?_set_ne (by omega), List.getElem?_set_ne (by omega), List.getElem?_set_ne (by omega), List.getElem?_set_self (by omega)]
      · rw [List.getElem?_set_ne (by omega), List.getElem?_set_ne (by omega), List.getElem?_set_ne (by omega), List.getElem?_set_ne (by omega), List.getElem?_set_ne (by omega), List.getElem?_set_self (by simp; omega)]
      · rw [List.getElem?_set_ne (by omega), List.getElem?_set_ne (by omega), List.getElem?_set_ne (by omega), List.getElem?_set_ne (by omega), List.getElem?_set_self (by simp; omega)]
      · rw [List.getElem?_set_ne (by omega), List.getElem?_set_ne (by omega), List.getElem?_set_ne (by omega), List.getElem?_set_self (by simp; omega)]
      · rw [List.getElem?_set_ne (by omega), List.getElem?_set_ne (by omega), List.getElem?_set_self (by simp; omega)]
      · rw [List.getElem?_set_ne (by omega), List.getElem?_set_self (by simp; omega)]; show some v = some (if i = i then v else K' i); rw [if_pos rfl]
      · rw [List.getElem?_set_self (by simp; omega)]; show some u = some (if i = i then u else M' i); rw [if_pos rfl]
      · show TyL _ _ _ (if i = i then v else K' i)
        rw [if_pos rfl]
        exact (hv.mono (ok' := fun q => w.heap.size + 2 ≤ q ∧ q ≠ g) (fun q _ h => ⟨by omega, by omega⟩)).frame (set7 (fun q h => h.2))
      · show TmL _ _ _ (if i = i then u else M' i)
        rw [if_pos rfl]
        exact (hu.mono (ok' := fun q => w.heap.size + 2 ≤ q ∧ q ≠ g) (fun q _ h => ⟨by omega, by omega⟩)).frame (set7 (fun q h => h.2))
    · obtain ⟨e0, e1, e2, e3, e4, e5, e6, e7, e8⟩ := hLd i (by omega) hl
      refine ⟨?_, ?_, ?_, ?_, ?_, ?_, ?_, ?_, ?_⟩
      · rw [List.getElem?_set_ne (by omega), List.getElem?_set_ne (by omega), List.getElem?_set_ne (by omega), List.getElem?_set_ne (by omega), List.getElem?_set_ne (by omega), List.getElem?_set_ne (by omega), List.getElem?_set_ne (by omega)]; exact e0
      · rw [List.getElem?_set_ne (by omega), List.getElem?_set_ne (by omega), List.getElem?_set_ne (by omega), List.getElem?_set_ne (by omega), List.getElem?_set_ne (by omega), List.getElem?_set_ne (by omega), List.getElem?_set_ne (by omega)]; exact e1
      · rw [List.getElem?_set_ne (by omega), List.getElem?_set_ne (by omega), List.getElem?_set_ne (by omega), List.getElem?_set_ne (by omega), List.getElem?_set_ne (by omega), List.getElem?_set_ne (by omega), List.getElem?_set_ne (by omega)]; exact e2
      · rw [List.getElem?_set_ne (by omega), List.getElem?_set_ne (by omega), List.getElem?_set_ne (by omega), List.getElem?_set_ne (by omega), List.getElem?_set_ne (by omega), List.getElem?_set_ne (by omega), List.getElem?_set_ne (by omega)]; exact e3
      · rw [List.getElem?_set_ne (by omega), List.getElem?_set_ne (by omega), List.getElem?_set_ne (by omega), List.getElem?_set_ne (by omega), List.getElem?_set_ne (by omega), List.getElem?_set_ne (by omega), List.getElem?_set_ne (by omega)]; exact e4
      · rw [List.getElem?_set_ne (by omega), List.getElem?_set_ne (by omega), List.getElem?_set_ne (by omega), List.getElem?_set_ne (by omega), List.getElem?_set_ne (by omega), List.getElem?_set_ne (by omega), List.getElem?_set_ne (by omega)]; show _ = some (if i = k then v else K' i); rw [if_neg hik]; exact e5
      · rw [List.getElem?_set_ne (by omega), List.getElem?_set_ne (by omega), List.getElem?_set_ne (by omega), List.getElem?_set_ne (by omega), List.getElem?_set_ne (by omega), List.getElem?_set_ne (by omega), List.getElem?_set_ne (by omega)]; show _ = some (if i = k then u else M' i); rw [if_neg hik]; exact e6
      · show TyL _ _ _ (if i = k then v else K' i)
        rw [if_neg hik]
        exact (e7.frame (Same.of_kept kk (fun _ _ e => e))).frame (set7 (fun q h => h.2))
      · show TmL _ _ _ (if i = k then u else M' i)
        rw [if_neg hik]
        exact (e8.frame (Same.of_kept kk (fun _ _ e => e))).frame (set7 (fun q h => h.2))
set_option maxRecDepth 100000 in
set_option maxHeartbeats 8000000 in
theorem clone_nil {op : Int} {nm : ByteArray} {N : Int} {ty : Ty} {w : World} {ok : Nat → Prop} {ta : Option Addr} {tn tc : Nat} (hcp : CpC ty) (hty : TyL ok w ty.kids (.slice ta tn tc))  : Calls Tryz.prog 34 #[.agg #[.int .i64 op, .string nm, .int .i64 N, .int .i64 ty.kind, .string ty.name, .slice ta tn tc, .slice none 0 0]] w (ClP (.mk op nm N ty []) w) := by
  have bA : Blk ((w.alloc (.cells #[.int .i64 op, .string nm, .int .i64 N, .int .i64 ty.kind, .string ty.name, .slice ta tn tc, .slice none 0 0] 27)).alloc (.cells #[.int .i64 0, .string ⟨#[]⟩, .int .i64 0, .int .i64 0, .string ⟨#[]⟩, .slice none 0 0, .slice none 0 0] 27)) w.heap.size 27 [.int .i64 op, .string nm, .int .i64 N, .int .i64 ty.kind, .string ty.name, .slice ta tn tc, .slice none 0 0] := (Blk.new w 27 _).alloc _
  have bR : Blk ((w.alloc (.cells #[.int .i64 op, .string nm, .int .i64 N, .int .i64 ty.kind, .string ty.name, .slice ta tn tc, .slice none 0 0] 27)).alloc (.cells #[.int .i64 0, .string ⟨#[]⟩, .int .i64 0, .int .i64 0, .string ⟨#[]⟩, .slice none 0 0, .slice none 0 0] 27)) (w.heap.size + 1) 27 z27 := Blk.new' 27 _ (by simp)
  have K0 : Kept (fun _ => False) w ((w.alloc (.cells #[.int .i64 op, .string nm, .int .i64 N, .int .i64 ty.kind, .string ty.name, .slice ta tn tc, .slice none 0 0] 27)).alloc (.cells #[.int .i64 0, .string ⟨#[]⟩, .int .i64 0, .int .i64 0, .string ⟨#[]⟩, .slice none 0 0, .slice none 0 0] 27)) := ((Kept.refl _ _).alloc _).alloc _
  have Z0 : Hid (((w.alloc (.cells #[.int .i64 op, .string nm, .int .i64 N, .int .i64 ty.kind, .string ty.name, .slice ta tn tc, .slice none 0 0] 27)).alloc (.cells #[.int .i64 0, .string ⟨#[]⟩, .int .i64 0, .int .i64 0, .string ⟨#[]⟩, .slice none 0 0, .slice none 0 0] 27)).heap.size = w.heap.size + 2) := Lib.hid (by simp)
  have HT0 := Lib.hid (hcp ((w.alloc (.cells #[.int .i64 op, .string nm, .int .i64 N, .int .i64 ty.kind, .string ty.name, .slice ta tn tc, .slice none 0 0] 27)).alloc (.cells #[.int .i64 0, .string ⟨#[]⟩, .int .i64 0, .int .i64 0, .string ⟨#[]⟩, .slice none 0 0, .slice none 0 0] 27)) ok (.slice ta tn tc) ((hty.frame (Same.alloc w (.cells #[.int .i64 op, .string nm, .int .i64 N, .int .i64 ty.kind, .string ty.name, .slice ta tn tc, .slice none 0 0] 27))).frame (Same.alloc _ _)))
  clear hcp
  go_enter Tryz.func34, Tryz.ntmps34
  go_wp2_with fail
  refine HT0.out.mono ?_
  rintro e w1 ⟨tv, rfl, hT1, k1⟩
  obtain ⟨va, vn, vc, rfl⟩ := hT1.slice
  unfold tyVal
  rw [Z0.out] at hT1
  have bA1 := bA.kept k1 (fun h => h)
  have bR1 := bR.kept k1 (fun h => h)
  have K1 := K0.trans k1
  have a0 : w1.cell? ⟨w.heap.size, 0, none⟩ = some (.int .i64 op) := bA1.cell 0
  have a1 : w1.cell? ⟨w.heap.size, 1, none⟩ = some (.string nm) := bA1.cell 1
  have a2 : w1.cell? ⟨w.heap.size, 2, none⟩ = some (.int .i64 N) := bA1.cell 2
  have a3 : w1.cell? ⟨w.heap.size, 3, none⟩ = some (.int .i64 ty.kind) := bA1.cell 3
  have a4 : w1.cell? ⟨w.heap.size, 4, none⟩ = some (.string ty.name) := bA1.cell 4
  have a5 : w1.cell? ⟨w.heap.size, 5, none⟩ = some (.slice ta tn tc) := bA1.cell 5
  have a6 : w1.cell? ⟨w.heap.size, 6, none⟩ = some (.slice none 0 0) := bA1.cell 6
  have fa3 := bA1.frozen 3
  have fa4 := bA1.frozen 4
  have fa5 := bA1.frozen 5
  have fa6 := bA1.frozen 6
  have r0 : w1.cell? ⟨w.heap.size + 1, 0, none⟩ = some (.int .i64 0) := bR1.cell 0
  have f0 := bR1.frozen 0
  have r1 : w1.cell? ⟨w.heap.size + 1, 1, none⟩ = some (.string ⟨#[]⟩) := bR1.cell 1
  have f1 := bR1.frozen 1
  have r2 : w1.cell? ⟨w.heap.size + 1, 2, none⟩ = some (.int .i64 0) := bR1.cell 2
  have f2 := bR1.frozen 2
  have r3 : w1.cell? ⟨w.heap.size + 1, 3, none⟩ = some (.int .i64 0) := bR1.cell 3
  have f3 := bR1.frozen 3
  have r4 : w1.cell? ⟨w.heap.size + 1, 4, none⟩ = some (.string ⟨#[]⟩) := bR1.cell 4
  have f4 := bR1.frozen 4
  have r5 : w1.cell? ⟨w.heap.size + 1, 5, none⟩ = some (.slice none 0 0) := bR1.cell 5
  have f5 := bR1.frozen 5
  have r6 : w1.cell? ⟨w.heap.size + 1, 6, none⟩ = some (.slice none 0 0) := bR1.cell 6
  have f6 := bR1.frozen 6
  have BR := Lib.hid bR1
  have KP := Lib.hid K1
  have HT1 := Lib.hid hT1
  have BA1 := Lib.hid bA1
  clear bR1 K1 bA1 bA bR hT1
  go_wp2_with (first | (go_at_call 70; refine (cloneTm_nil _).mono ?_; rintro e w' ⟨rfl, rfl⟩) | (go_at_call 69; refine (clipTm_nil _).mono ?_; rintro e w' ⟨rfl, rfl⟩))
  go_loop [17] (fun i => i = .int .i64 0) (fun i => 0)
  case atStart => rfl
  case round =>
    subst hrel
    go_wp2_with fail
    have bF := r7 (x0 := .int .i64 op) (x1 := .string nm) (x2 := .int .i64 N) (x3 := .int .i64 ty.kind) (x4 := .string ty.name) (x5 := .slice va vn vc) (x6 := .slice none 0 0) ((((BR.out.set_other ⟨w.heap.size, 3, none⟩ (.int .i64 ty.kind) (by show w.heap.size + 1 ≠ w.heap.size; omega)).set_other ⟨w.heap.size, 4, none⟩ (.string ty.name) (by show w.heap.size + 1 ≠ w.heap.size; omega)).set_other ⟨w.heap.size, 5, none⟩ (.slice va vn vc) (by show w.heap.size + 1 ≠ w.heap.size; omega)).set_other ⟨w.heap.size, 6, none⟩ (.slice none 0 0) (by show w.heap.size + 1 ≠ w.heap.size; omega)) rfl
    refine bodyPost_ret (results_one Tryz.results34 rfl (load_tm (t := .mk op nm N ty []) bF)) rfl ⟨_, _, rfl, ?_, ?_, ?_⟩
    · exact ((HT1.out.frame (Same.of_kept (S := (· = w.heap.size)) (((((Kept.refl (fun x => x = w.heap.size) _).setCell (p := ⟨w.heap.size, 3, none⟩) (Or.inl rfl) (.int .i64 ty.kind)).setCell (p := ⟨w.heap.size, 4, none⟩) (Or.inl rfl) (.string ty.name)).setCell (p := ⟨w.heap.size, 5, none⟩) (Or.inl rfl) (.slice va vn vc)).setCell (p := ⟨w.heap.size, 6, none⟩) (Or.inl rfl) (.slice none 0 0)) (fun q h e => by omega))).frame (set7 (g := w.heap.size + 1) (fun q h => by omega))).mono (fun q _ h => by omega)
    · exact .nil (Or.inl rfl)
    · exact (((((((((((KP.out.setCell (p := ⟨w.heap.size, 3, none⟩) (Or.inr (Nat.le_refl _)) _).setCell (p := ⟨w.heap.size, 4, none⟩) (Or.inr (Nat.le_refl _)) _).setCell (p := ⟨w.heap.size, 5, none⟩) (Or.inr (Nat.le_refl _)) _).setCell (p := ⟨w.heap.size, 6, none⟩) (Or.inr (Nat.le_refl _)) _).setCell (p := ⟨w.heap.size + 1, 0, none⟩) (Or.inr (by show w.heap.size ≤ w.heap.size + 1; omega)) _).setCell (p := ⟨w.heap.size + 1, 1, none⟩) (Or.inr (by show w.heap.size ≤ w.heap.size + 1; omega)) _).setCell (p := ⟨w.heap.size + 1, 2, none⟩) (Or.inr (by show w.heap.size ≤ w.heap.size + 1; omega)) _).setCell (p := ⟨w.heap.size + 1, 3, none⟩) (Or.inr (by show w.heap.size ≤ w.heap.size + 1; omega)) _).setCell (p := ⟨w.heap.size + 1, 4, none⟩) (Or.inr (by show w.heap.size ≤ w.heap.size + 1; omega)) _).setCell (p := ⟨w.heap.size + 1, 5, none⟩) (Or.inr (by show w.heap.size ≤ w.heap.size + 1; omega)) _).setCell (p := ⟨w.heap.size + 1, 6, none⟩) (Or.inr (by show w.heap.size ≤ w.heap.size + 1; omega)) _)
set_option maxRecDepth 100000 in
set_option maxHeartbeats 8000000 in
theorem clone_zero {op : Int} {nm : ByteArray} {N : Int} {ty : Ty} {w : World} {ok : Nat → Prop} {ta : Option Addr} {tn tc : Nat} (hcp : CpC ty) (hty : TyL ok w ty.kids (.slice ta tn tc)) (ad : Addr) (cp : Nat) : Calls Tryz.prog 34 #[.agg #[.int .i64 op, .string nm, .int .i64 N, .int .i64 ty.kind, .string ty.name, .slice ta tn tc, .slice (some ad) 0 cp]] w (ClP (.mk op nm N ty []) w) := by
  have bA : Blk ((w.alloc (.cells #[.int .i64 op, .string nm, .int .i64 N, .int .i64 ty.kind, .string ty.name, .slice ta tn tc, .slice (some ad) 0 cp] 27)).alloc (.cells #[.int .i64 0, .string ⟨#[]⟩, .int .i64 0, .int .i64 0, .string ⟨#[]⟩, .slice none 0 0, .slice none 0 0] 27)) w.heap.size 27 [.int .i64 op, .string nm, .int .i64 N, .int .i64 ty.kind, .string ty.name, .slice ta tn tc, .slice (some ad) 0 cp] := (Blk.new w 27 _).alloc _
  have bR : Blk ((w.alloc (.cells #[.int .i64 op, .string nm, .int .i64 N, .int .i64 ty.kind, .string ty.name, .slice ta tn tc, .slice (some ad) 0 cp] 27)).alloc (.cells #[.int .i64 0, .string ⟨#[]⟩, .int .i64 0, .int .i64 0, .string ⟨#[]⟩, .slice none 0 0, .slice none 0 0] 27)) (w.heap.size + 1) 27 z27 := Blk.new' 27 _ (by simp)
  have K0 : Kept (fun _ => False) w ((w.alloc (.cells #[.int .i64 op, .string nm, .int .i64 N, .int .i64 ty.kind, .string ty.name, .slice ta tn tc, .slice (some ad) 0 cp] 27)).alloc (.cells #[.int .i64 0, .string ⟨#[]⟩, .int .i64 0, .int .i64 0, .string ⟨#[]⟩, .slice none 0 0, .slice none 0 0] 27)) := ((Kept.refl _ _).alloc _).alloc _
  have Z0 : Hid (((w.alloc (.cells #[.int .i64 op, .string nm, .int .i64 N, .int .i64 ty.kind, .string ty.name, .slice ta tn tc, .slice (some ad) 0 cp] 27)).alloc (.cells #[.int .i64 0, .string ⟨#[]⟩, .int .i64 0, .int .i64 0, .string ⟨#[]⟩, .slice none 0 0, .slice none 0 0] 27)).heap.size = w.heap.size + 2) := Lib.hid (by simp)
  have HT0 := Lib.hid (hcp ((w.alloc (.cells #[.int .i64 op, .string nm, .int .i64 N, .int .i64 ty.kind, .string ty.name, .slice ta tn tc, .slice (some ad) 0 cp] 27)).alloc (.cells #[.int .i64 0, .string ⟨#[]⟩, .int .i64 0, .int .i64 0, .string ⟨#[]⟩, .slice none 0 0, .slice none 0 0] 27)) ok (.slice ta tn tc) ((hty.frame (Same.alloc w (.cells #[.int .i64 op, .string nm, .int .i64 N, .int .i64 ty.kind, .string ty.name, .slice ta tn tc, .slice (some ad) 0 cp] 27))).frame (Same.alloc _ _)))
  clear hcp
  go_enter Tryz.func34, Tryz.ntmps34
  go_wp2_with fail
  refine HT0.out.mono ?_
  rintro e w1 ⟨tv, rfl, hT1, k1⟩
  obtain ⟨va, vn, vc, rfl⟩ := hT1.slice
  unfold tyVal
  rw [Z0.out] at hT1
  have bA1 := bA.kept k1 (fun h => h)
  have bR1 := bR.kept k1 (fun h => h)
  have K1 := K0.trans k1
  have a0 : w1.cell? ⟨w.heap.size, 0, none⟩ = some (.int .i64 op) := bA1.cell 0
  have a1 : w1.cell? ⟨w.heap.size, 1, none⟩ = some (.string nm) := bA1.cell 1
  have a2 : w1.cell? ⟨w.heap.size, 2, none⟩ = some (.int .i64 N) := bA1.cell 2
  have a3 : w1.cell? ⟨w.heap.size, 3, none⟩ = some (.int .i64 ty.kind) := bA1.cell 3
  have a4 : w1.cell? ⟨w.heap.size, 4, none⟩ = some (.string ty.name) := bA1.cell 4
  have a5 : w1.cell? ⟨w.heap.size, 5, none⟩ = some (.slice ta tn tc) := bA1.cell 5
  have a6 : w1.cell? ⟨w.heap.size, 6, none⟩ = some (.slice (some ad) 0 cp) := bA1.cell 6
  have fa3 := bA1.frozen 3
  have fa4 := bA1.frozen 4
  have fa5 := bA1.frozen 5
  have fa6 := bA1.frozen 6
  go_wp2_with fail
  refine (cloneTm_zero ad cp).mono ?_
  rintro e w2 ⟨g, cap, rfl, k2⟩
  have bA2 := (((bA1.set 3 (.int .i64 ty.kind)).set 4 (.string ty.name)).set 5 (.slice va vn vc)).kept k2 (fun h => h)
  have bR2 := (((bR1.set_other _ _ (by show w.heap.size + 1 ≠ w.heap.size; omega)).set_other _ _ (by show w.heap.size + 1 ≠ w.heap.size; omega)).set_other _ _ (by show w.heap.size + 1 ≠ w.heap.size; omega)).kept k2 (fun h => h)
  have K2 := (((K1.setCell (p := ⟨w.heap.size, 3, none⟩) (Or.inr (by show w.heap.size ≤ w.heap.size; omega)) _).setCell (p := ⟨w.heap.size, 4, none⟩) (Or.inr (by show w.heap.size ≤ w.heap.size; omega)) _).setCell (p := ⟨w.heap.size, 5, none⟩) (Or.inr (by show w.heap.size ≤ w.heap.size; omega)) _).trans k2
  have HT1 := Lib.hid ((hT1.mono (ok' := fun k => w.heap.size + 2 ≤ k) (fun _ _ h => h)).frame (Same.trans (Same.of_kept (S := (· = w.heap.size)) ((((Kept.refl (fun x => x = w.heap.size) w1).setCell (p := ⟨w.heap.size, 3, none⟩) (Or.inl rfl) (.int .i64 ty.kind)).setCell (p := ⟨w.heap.size, 4, none⟩) (Or.inl rfl) (.string ty.name)).setCell (p := ⟨w.heap.size, 5, none⟩) (Or.inl rfl) (.slice va vn vc)) (fun q h e => by omega)) (Same.of_kept k2 (fun _ _ e => e)) (by simp [World.setCell])))
  clear a0 a1 a2 a3 a4 a5 a6 fa3 fa4 fa5 fa6
  have a0 : w2.cell? ⟨w.heap.size, 0, none⟩ = some (.int .i64 op) := bA2.cell 0
  have a1 : w2.cell? ⟨w.heap.size, 1, none⟩ = some (.string nm) := bA2.cell 1
  have a2 : w2.cell? ⟨w.heap.size, 2, none⟩ = some (.int .i64 N) := bA2.cell 2
  have a3 : w2.cell? ⟨w.heap.size, 3, none⟩ = some (.int .i64 ty.kind) := bA2.cell 3
  have a4 : w2.cell? ⟨w.heap.size, 4, none⟩ = some (.string ty.name) := bA2.cell 4
  have a5 : w2.cell? ⟨w.heap.size, 5, none⟩ = some (.slice va vn vc) := bA2.cell 5
  have a6 : w2.cell? ⟨w.heap.size, 6, none⟩ = some (.slice (some ad) 0 cp) := bA2.cell 6
  have fa6 := bA2.frozen 6
  have r0 : w2.cell? ⟨w.heap.size + 1, 0, none⟩ = some (.int .i64 0) := bR2.cell 0
  have f0 := bR2.frozen 0
  have r1 : w2.cell? ⟨w.heap.size + 1, 1, none⟩ = some (.string ⟨#[]⟩) := bR2.cell 1
  have f1 := bR2.frozen 1
  have r2 : w2.cell? ⟨w.heap.size + 1, 2, none⟩ = some (.int .i64 0) := bR2.cell 2
  have f2 := bR2.frozen 2
  have r3 : w2.cell? ⟨w.heap.size + 1, 3, none⟩ = some (.int .i64 0) := bR2.cell 3
  have f3 := bR2.frozen 3
  have r4 : w2.cell? ⟨w.heap.size + 1, 4, none⟩ = some (.string ⟨#[]⟩) := bR2.cell 4
  have f4 := bR2.frozen 4
  have r5 : w2.cell? ⟨w.heap.size + 1, 5, none⟩ = some (.slice none 0 0) := bR2.cell 5
  have f5 := bR2.frozen 5
  have r6 : w2.cell? ⟨w.heap.size + 1, 6, none⟩ = some (.slice none 0 0) := bR2.cell 6
  have f6 := bR2.frozen 6
  have BR := Lib.hid bR2
  have KP := Lib.hid K2
  clear bR1 K1 bA1 bA bR hT1 bR2 K2 bA2
  go_wp2_with (go_at_call 69; refine (clipTm_some _ g 0 cap (Nat.zero_le _) (Nat.zero_le _)).mono ?_; rintro e w' ⟨rfl, rfl⟩)
  go_loop [17] (fun i => i = .int .i64 0) (fun i => 0)
  case atStart => rfl
  case round =>
    subst hrel
    go_wp2_with fail
    have bF := r7 (x0 := .int .i64 op) (x1 := .string nm) (x2 := .int .i64 N) (x3 := .int .i64 ty.kind) (x4 := .string ty.name) (x5 := .slice va vn vc) (x6 := .slice (some ⟨g, 0, none⟩) 0 0) (BR.out.set_other ⟨w.heap.size, 6, none⟩ (.slice (some ⟨g, 0, none⟩) 0 0) (by show w.heap.size + 1 ≠ w.heap.size; omega)) rfl
    refine bodyPost_ret (results_one Tryz.results34 rfl (load_tm (t := .mk op nm N ty []) bF)) rfl ⟨_, _, rfl, ?_, ?_, ?_⟩
    · exact ((HT1.out.frame (Same.of_kept (S := (· = w.heap.size)) ((Kept.refl (fun x => x = w.heap.size) _).setCell (p := ⟨w.heap.size, 6, none⟩) (Or.inl rfl) (.slice (some ⟨g, 0, none⟩) 0 0)) (fun q h e => by omega))).frame (set7 (g := w.heap.size + 1) (fun q h => by omega))).mono (fun q _ h => by omega)
    · exact .nil (Or.inr ⟨_, _, rfl⟩)
    · exact ((((((((KP.out.setCell (p := ⟨w.heap.size, 6, none⟩) (Or.inr (Nat.le_refl _)) _).setCell (p := ⟨w.heap.size + 1, 0, none⟩) (Or.inr (by show w.heap.size ≤ w.heap.size + 1; omega)) _).setCell (p := ⟨w.heap.size + 1, 1, none⟩) (Or.inr (by show w.heap.size ≤ w.heap.size + 1; omega)) _).setCell (p := ⟨w.heap.size + 1, 2, none⟩) (Or.inr (by show w.heap.size ≤ w.heap.size + 1; omega)) _).setCell (p := ⟨w.heap.size + 1, 3, none⟩) (Or.inr (by show w.heap.size ≤ w.heap.size + 1; omega)) _).setCell (p := ⟨w.heap.size + 1, 4, none⟩) (Or.inr (by show w.heap.size ≤ w.heap.size + 1; omega)) _).setCell (p := ⟨w.heap.size + 1, 5, none⟩) (Or.inr (by show w.heap.size ≤ w.heap.size + 1; omega)) _).setCell (p := ⟨w.heap.size + 1, 6, none⟩) (Or.inr (by show w.heap.size ≤ w.heap.size + 1; omega)) _)
set_option maxRecDepth 100000 in
set_option maxHeartbeats 16000000 in
theorem clone_some {op : Int} {nm : ByteArray} {N : Int} {ty : Ty} {w : World} {ok : Nat → Prop} {ta : Option Addr} {tn tc : Nat} (hcp : CpC ty) (hty : TyL ok w ty.kids (.slice ta tn tc)) {l : List Tm} {b off cp : Nat} (IH : ∀ t, t ∈ l → ClC t) (hn : l.length ≤ 1000000) (K M : Nat → Value) (hcell : ∀ i (h : i < l.length), w.cell? ⟨b, off + i * 7, none⟩ = some (.int .i64 l[i].op) ∧ w.cell? ⟨b, off + i * 7 + 1, none⟩ = some (.string l[i].name) ∧ w.cell? ⟨b, off + i * 7 + 2, none⟩ = some (.int .i64 l[i].n) ∧ w.cell? ⟨b, off + i * 7 + 3, none⟩ = some (.int .i64 l[i].ty.kind) ∧ w.cell? ⟨b, off + i * 7 + 4, none⟩ = some (.string l[i].ty.name) ∧ w.cell? ⟨b, off + i * 7 + 5, none⟩ = some (K i) ∧ w.cell? ⟨b, off + i * 7 + 6, none⟩ = some (M i)) (hk : ∀ i (h : i < l.length), TyL ok w l[i].ty.kids (K i)) (hm : ∀ i (h : i < l.length), TmL ok w l[i].kids (M i)) : Calls Tryz.prog 34 #[.agg #[.int .i64 op, .string nm, .int .i64 N, .int .i64 ty.kind, .string ty.name, .slice ta tn tc, .slice (some ⟨b, off, none⟩) l.length cp]] w (ClP (.mk op nm N ty l) w) := by
  have HCELL := Lib.hid hcell
  have HK := Lib.hid hk
  have HM := Lib.hid hm
  have HIH := Lib.hid IH
  clear hcell hk hm IH
  have hone : Hid (∀ j, j < l.length * 7 → ∃ v, w.cell? ⟨b, off + j, none⟩ = some v ∧ v.oneCell' = true) := Lib.hid (by
    intro j hj
    obtain ⟨i, r, hi, hr, rfl⟩ := seven hj
    have c := HCELL.out i hi
    rcases (show r = 0 ∨ r = 1 ∨ r = 2 ∨ r = 3 ∨ r = 4 ∨ r = 5 ∨ r = 6 by omega) with rfl | rfl | rfl | rfl | rfl | rfl | rfl
    · exact ⟨_, c.1, rfl⟩
    · exact ⟨_, by rw [show off + (i * 7 + 1) = off + i * 7 + 1 by omega]; exact c.2.1, rfl⟩
    · exact ⟨_, by rw [show off + (i * 7 + 2) = off + i * 7 + 2 by omega]; exact c.2.2.1, rfl⟩
    · exact ⟨_, by rw [show off + (i * 7 + 3) = off + i * 7 + 3 by omega]; exact c.2.2.2.1, rfl⟩
    · exact ⟨_, by rw [show off + (i * 7 + 4) = off + i * 7 + 4 by omega]; exact c.2.2.2.2.1, rfl⟩
    · obtain ⟨a, n, c', hh⟩ := (HK.out i hi).slice
      exact ⟨_, by rw [show off + (i * 7 + 5) = off + i * 7 + 5 by omega]; exact c.2.2.2.2.2.1, by rw [hh]; rfl⟩
    · obtain ⟨a, n, c', hh⟩ := (HM.out i hi).slice
      exact ⟨_, by rw [show off + (i * 7 + 6) = off + i * 7 + 6 by omega]; exact c.2.2.2.2.2.2, by rw [hh]; rfl⟩)
  have bA : Blk ((w.alloc (.cells #[.int .i64 op, .string nm, .int .i64 N, .int .i64 ty.kind, .string ty.name, .slice ta tn tc, .slice (some ⟨b, off, none⟩) l.length cp] 27)).alloc (.cells #[.int .i64 0, .string ⟨#[]⟩, .int .i64 0, .int .i64 0, .string ⟨#[]⟩, .slice none 0 0, .slice none 0 0] 27)) w.heap.size 27 [.int .i64 op, .string nm, .int .i64 N, .int .i64 ty.kind, .string ty.name, .slice ta tn tc, .slice (some ⟨b, off, none⟩) l.length cp] := (Blk.new w 27 _).alloc _
  have bR : Blk ((w.alloc (.cells #[.int .i64 op, .string nm, .int .i64 N, .int .i64 ty.kind, .string ty.name, .slice ta tn tc, .slice (some ⟨b, off, none⟩) l.length cp] 27)).alloc (.cells #[.int .i64 0, .string ⟨#[]⟩, .int .i64 0, .int .i64 0, .string ⟨#[]⟩, .slice none 0 0, .slice none 0 0] 27)) (w.heap.size + 1) 27 z27 := Blk.new' 27 _ (by simp)
  have K0 : Kept (fun _ => False) w ((w.alloc (.cells #[.int .i64 op, .string nm, .int .i64 N, .int .i64 ty.kind, .string ty.name, .slice ta tn tc, .slice (some ⟨b, off, none⟩) l.length cp] 27)).alloc (.cells #[.int .i64 0, .string ⟨#[]⟩, .int .i64 0, .int .i64 0, .string ⟨#[]⟩, .slice none 0 0, .slice none 0 0] 27)) := ((Kept.refl _ _).alloc _).alloc _
  have Z0 : Hid (((w.alloc (.cells #[.int .i64 op, .string nm, .int .i64 N, .int .i64 ty.kind, .string ty.name, .slice ta tn tc, .slice (some ⟨b, off, none⟩) l.length cp] 27)).alloc (.cells #[.int .i64 0, .string ⟨#[]⟩, .int .i64 0, .int .i64 0, .string ⟨#[]⟩, .slice none 0 0, .slice none 0 0] 27)).heap.size = w.heap.size + 2) := Lib.hid (by simp)
  have HT0 := Lib.hid (hcp ((w.alloc (.cells #[.int .i64 op, .string nm, .int .i64 N, .int .i64 ty.kind, .string ty.name, .slice ta tn tc, .slice (some ⟨b, off, none⟩) l.length cp] 27)).alloc (.cells #[.int .i64 0, .string ⟨#[]⟩, .int .i64 0, .int .i64 0, .string ⟨#[]⟩, .slice none 0 0, .slice none 0 0] 27)) ok (.slice ta tn tc) ((hty.frame (Same.alloc w (.cells #[.int .i64 op, .string nm, .int .i64 N, .int .i64 ty.kind, .string ty.name, .slice ta tn tc, .slice (some ⟨b, off, none⟩) l.length cp] 27))).frame (Same.alloc _ _)))
  clear hcp
  go_enter Tryz.func34, Tryz.ntmps34
  go_wp2_with fail
  refine HT0.out.mono ?_
  rintro e w1 ⟨tv, rfl, hT1, k1⟩
  obtain ⟨va, vn, vc, rfl⟩ := hT1.slice
  unfold tyVal
  rw [Z0.out] at hT1
  have bA1 := bA.kept k1 (fun h => h)
  have bR1 := bR.kept k1 (fun h => h)
  have K1 := K0.trans k1
  have a0 : w1.cell? ⟨w.heap.size, 0, none⟩ = some (.int .i64 op) := bA1.cell 0
  have a1 : w1.cell? ⟨w.heap.size, 1, none⟩ = some (.string nm) := bA1.cell 1
  have a2 : w1.cell? ⟨w.heap.size, 2, none⟩ = some (.int .i64 N) := bA1.cell 2
  have a3 : w1.cell? ⟨w.heap.size, 3, none⟩ = some (.int .i64 ty.kind) := bA1.cell 3
  have a4 : w1.cell? ⟨w.heap.size, 4, none⟩ = some (.string ty.name) := bA1.cell 4
  have a5 : w1.cell? ⟨w.heap.size, 5, none⟩ = some (.slice ta tn tc) := bA1.cell 5
  have a6 : w1.cell? ⟨w.heap.size, 6, none⟩ = some (.slice (some ⟨b, off, none⟩) l.length cp) := bA1.cell 6
  have fa3 := bA1.frozen 3
  have fa4 := bA1.frozen 4
  have fa5 := bA1.frozen 5
  have fa6 := bA1.frozen 6
  go_wp2_with fail
  have K1s := (((K1.setCell (p := ⟨w.heap.size, 3, none⟩) (Or.inr (by show w.heap.size ≤ w.heap.size; omega)) (.int .i64 ty.kind)).setCell (p := ⟨w.heap.size, 4, none⟩) (Or.inr (by show w.heap.size ≤ w.heap.size; omega)) (.string ty.name)).setCell (p := ⟨w.heap.size, 5, none⟩) (Or.inr (by show w.heap.size ≤ w.heap.size; omega)) (.slice va vn vc))
  refine (cloneTm_some b off l.length cp hn (fun j hj => ?_)).mono ?_
  · obtain ⟨v, hv, h1⟩ := hone.out j hj
    exact ⟨v, by rw [K1s.cell (p := ⟨b, off + j, none⟩) (cell_lt hv) (fun h => h)]; exact hv, h1⟩
  rintro e w2 ⟨v, rfl, ⟨g, cap, L, rfl, hcap, hg, hL, hLl, hLc⟩, k2⟩
  have hsz1 := K1.size
  have z1 := bR1.lt
  have hg1 : w1.heap.size ≤ g := by simpa [World.setCell] using hg
  have hg2 : w.heap.size + 2 ≤ g := Nat.le_trans z1 hg1
  have bA2 := (((bA1.set 3 (.int .i64 ty.kind)).set 4 (.string ty.name)).set 5 (.slice va vn vc)).kept k2 (fun h => h)
  have bR2 := (((bR1.set_other _ _ (by show w.heap.size + 1 ≠ w.heap.size; omega)).set_other _ _ (by show w.heap.size + 1 ≠ w.heap.size; omega)).set_other _ _ (by show w.heap.size + 1 ≠ w.heap.size; omega)).kept k2 (fun h => h)
  have K2 := K1s.trans k2
  have HT1 : Hid (TyL (fun q => w.heap.size + 2 ≤ q ∧ q ≠ g) w2 ty.kids (.slice va vn vc)) := Lib.hid ((hT1.mono (ok' := fun q => w.heap.size + 2 ≤ q ∧ q ≠ g) (fun q hq h => ⟨h, by omega⟩)).frame (Same.trans (Same.of_kept (S := (· = w.heap.size)) ((((Kept.refl (fun x => x = w.heap.size) w1).setCell (p := ⟨w.heap.size, 3, none⟩) (Or.inl rfl) (.int .i64 ty.kind)).setCell (p := ⟨w.heap.size, 4, none⟩) (Or.inl rfl) (.string ty.name)).setCell (p := ⟨w.heap.size, 5, none⟩) (Or.inl rfl) (.slice va vn vc)) (fun q h e => by omega)) (Same.of_kept k2 (fun _ _ e => e)) (by simp [World.setCell])))
  have HLC := Lib.hid hLc
  have HLL := Lib.hid hLl
  have HG := Lib.hid hg2
  have HK1s := Lib.hid K1s
  clear a0 a1 a2 a3 a4 a5 a6 fa3 fa4 fa5 fa6 hLc hLl hg2 hg hg1 K1s hT1
  have a6 : w2.cell? ⟨w.heap.size, 6, none⟩ = some (.slice (some ⟨b, off, none⟩) l.length cp) := bA2.cell 6
  have fa6 := bA2.frozen 6
  go_wp2_with (go_at_call 69; refine (clipTm_some _ g l.length cap hcap hn).mono ?_; rintro e w' ⟨rfl, rfl⟩)
  have c1 : CJ w l [.int .i64 op, .string nm, .int .i64 N, .int .i64 ty.kind, .string ty.name, .slice va vn vc] l.length b off g 0 (w2.setCell ⟨w.heap.size, 6, none⟩ (.slice (some ⟨g, 0, none⟩) l.length l.length)) := by
    have hg := HG.out
    refine ⟨K2.setCell (p := ⟨w.heap.size, 6, none⟩) (Or.inr (Nat.le_refl _)) _, bA2.set 6 _, bR2.set_other _ _ (by show w.heap.size + 1 ≠ w.heap.size; omega), L, K, M, hL.set_other _ _ (by show g ≠ w.heap.size; omega), HLL.out, fun j _ hj => ?_, fun i hi => absurd hi (Nat.not_lt_zero _)⟩
    rw [HLC.out j hj]
    obtain ⟨v, hv, _⟩ := hone.out j hj
    rw [HK1s.out.cell (p := ⟨b, off + j, none⟩) (cell_lt hv) (fun h => h)]
  have HT2 : Hid (TyL (fun q => w.heap.size + 2 ≤ q ∧ q ≠ g) (w2.setCell ⟨w.heap.size, 6, none⟩ (.slice (some ⟨g, 0, none⟩) l.length l.length)) ty.kids (.slice va vn vc)) := Lib.hid (HT1.out.frame (Same.of_kept (S := (· = w.heap.size)) ((Kept.refl (fun x => x = w.heap.size) w2).setCell (p := ⟨w.heap.size, 6, none⟩) (Or.inl rfl) _) (fun q h e => by omega)))
  have C1 := Lib.hid c1
  clear c1 a6 fa6 bA1 bR1 bA bR hL bA2 bR2 K1 K2
  go_loopw [17] (fun i wr => ∃ k : Nat, k ≤ l.length ∧ i = .int .i64 k ∧ Hid (CJ w l [.int .i64 op, .string nm, .int .i64 N, .int .i64 ty.kind, .string ty.name, .slice va vn vc] l.length b off g k wr) ∧ Hid (TyL (fun q => w.heap.size + 2 ≤ q ∧ q ≠ g) wr ty.kids (.slice va vn vc))) (fun i _ => l.length - (intOf i).toNat)
  case atStart => exact ⟨0, Nat.zero_le _, rfl, C1, HT2⟩
  case round =>
    obtain ⟨k, hkl, rfl, HCI, HTk⟩ := hrel
    have hg := HG.out
    have qA := HCI.out.a
    have qR := HCI.out.r
    have kp := HCI.out.kp
    obtain ⟨L, K', M', bG, hLn, hLo, hLd⟩ := HCI.out.row
    have HLo := Lib.hid hLo
    have HLd := Lib.hid hLd
    have HLn := Lib.hid hLn
    have BG := Lib.hid bG
    clear hLo hLd hLn bG
    by_cases hlt : k < l.length
    · obtain ⟨xa, xn, xc, hKk⟩ := (HK.out k hlt).slice
      obtain ⟨ya, yn, yc, hMk⟩ := (HM.out k hlt).slice
      have c0 : wr.cell? ⟨g, k * 7, none⟩ = some (.int .i64 l[k].op) := by
        rw [BG.out.cell, HLo.out (k * 7) (by omega) (by omega)]; exact (HCELL.out k hlt).1
      have c1 : wr.cell? ⟨g, k * 7 + 1, none⟩ = some (.string l[k].name) := by
        rw [BG.out.cell, HLo.out (k * 7 + 1) (by omega) (by omega)]; exact (HCELL.out k hlt).2.1
      have c2 : wr.cell? ⟨g, k * 7 + 2, none⟩ = some (.int .i64 l[k].n) := by
        rw [BG.out.cell, HLo.out (k * 7 + 2) (by omega) (by omega)]; exact (HCELL.out k hlt).2.2.1
      have c3 : wr.cell? ⟨g, k * 7 + 3, none⟩ = some (.int .i64 l[k].ty.kind) := by
        rw [BG.out.cell, HLo.out (k * 7 + 3) (by omega) (by omega)]; exact (HCELL.out k hlt).2.2.2.1
      have c4 : wr.cell? ⟨g, k * 7 + 4, none⟩ = some (.string l[k].ty.name) := by
        rw [BG.out.cell, HLo.out (k * 7 + 4) (by omega) (by omega)]; exact (HCELL.out k hlt).2.2.2.2.1
      have c5 : wr.cell? ⟨g, k * 7 + 5, none⟩ = some (.slice xa xn xc) := by
        rw [BG.out.cell, HLo.out (k * 7 + 5) (by omega) (by omega), ← hKk]; exact (HCELL.out k hlt).2.2.2.2.2.1
      have c6 : wr.cell? ⟨g, k * 7 + 6, none⟩ = some (.slice ya yn yc) := by
        rw [BG.out.cell, HLo.out (k * 7 + 6) (by omega) (by omega), ← hMk]; exact (HCELL.out k hlt).2.2.2.2.2.2
      have i1 : (k : Int) < (l.length : Int) := by omega
      have a6 : wr.cell? ⟨w.heap.size, 6, none⟩ = some (.slice (some ⟨g, 0, none⟩) l.length l.length) := qA.cell 6
      have lA := qA.lt
      have lG := BG.out.lt
      have hcon := Lib.hid (HIH.out _ (List.getElem_mem hlt))
      have hty' : Hid (TyL ok wr l[k].ty.kids (.slice xa xn xc)) := Lib.hid (by rw [← hKk]; exact (HK.out k hlt).frame (Same.of_kept kp (fun _ _ e => e)))
      have htm' : Hid (TmL ok wr l[k].kids (.slice ya yn yc)) := Lib.hid (by rw [← hMk]; exact (HM.out k hlt).frame (Same.of_kept kp (fun _ _ e => e)))
      clear hKk hMk
      go_wp2_with fail
      have bX : Blk (wr.alloc (.cells #[.int .i64 l[k].op, .string l[k].name, .int .i64 l[k].n, .int .i64 l[k].ty.kind, .string l[k].ty.name, .slice xa xn xc, .slice ya yn yc] 27)) wr.heap.size 27 [.int .i64 l[k].op, .string l[k].name, .int .i64 l[k].n, .int .i64 l[k].ty.kind, .string l[k].ty.name, .slice xa xn xc, .slice ya yn yc] := Blk.new wr 27 _
      have hAX : w.heap.size ≠ wr.heap.size := by omega
      have hGX : g ≠ wr.heap.size := by omega
      have hAG : g ≠ w.heap.size := by omega
      refine wp_gen (F := fun W3 => Kept (fun _ => False) wr W3 ∧ Blk W3 wr.heap.size 27 [.int .i64 l[k].op, .string l[k].name, .int .i64 l[k].n, .int .i64 l[k].ty.kind, .string l[k].ty.name, .slice xa xn xc, .slice ya yn yc] ∧ wr.heap.size < W3.heap.size) ⟨(Kept.refl _ _).alloc _, bX, bX.lt⟩ ?_
      rintro W3 ⟨k3, b3, z3⟩
      have a3 : W3.cell? ⟨w.heap.size, 6, none⟩ = some (.slice (some ⟨g, 0, none⟩) l.length l.length) := (qA.kept k3 (fun h => h)).cell 6
      have x0 : W3.cell? ⟨wr.heap.size, 0, none⟩ = some (.int .i64 l[k].op) := b3.cell 0
      have x1 : W3.cell? ⟨wr.heap.size, 1, none⟩ = some (.string l[k].name) := b3.cell 1
      have x2 : W3.cell? ⟨wr.heap.size, 2, none⟩ = some (.int .i64 l[k].n) := b3.cell 2
      have x3 : W3.cell? ⟨wr.heap.size, 3, none⟩ = some (.int .i64 l[k].ty.kind) := b3.cell 3
      have x4 : W3.cell? ⟨wr.heap.size, 4, none⟩ = some (.string l[k].ty.name) := b3.cell 4
      have x5 : W3.cell? ⟨wr.heap.size, 5, none⟩ = some (.slice xa xn xc) := b3.cell 5
      have x6 : W3.cell? ⟨wr.heap.size, 6, none⟩ = some (.slice ya yn yc) := b3.cell 6
      have HC3 : Hid (Calls Tryz.prog 34 #[.agg #[.int .i64 l[k].op, .string l[k].name, .int .i64 l[k].n, .int .i64 l[k].ty.kind, .string l[k].ty.name, .slice xa xn xc, .slice ya yn yc]] W3.drew fun e w' => ∃ v u, e = .returned (tmVal l[k] v u) ∧ TyL (fun q => W3.heap.size ≤ q) w' l[k].ty.kids v ∧ TmL (fun q => W3.heap.size ≤ q) w' l[k].kids u ∧ Kept (fun _ => False) W3 w') := Lib.hid ((hcon.out W3.drew ok (.slice xa xn xc) (.slice ya yn yc) ((hty'.out.frame (Same.of_kept k3 (fun _ _ e => e))).frame (Same.drew _)) ((htm'.out.frame (Same.of_kept k3 (fun _ _ e => e))).frame (Same.drew _))).mono fun e w' ⟨v, u, h1, h2, h3, h4⟩ => ⟨v, u, h1, h2, h3, ((Kept.refl _ _).drew).trans h4⟩)
      have B3 := Lib.hid b3
      have G3 := Lib.hid (BG.out.kept k3 (fun h => h))
      clear b3 bX c0 c1 c2 c3 c4 c5 c6 a6
      go_region_held3 (fun w' => w'.cell? ⟨w.heap.size, 6, none⟩ = some (.slice (some ⟨g, 0, none⟩) l.length l.length) ∧ w'.cell? ⟨wr.heap.size, 0, none⟩ = some (.int .i64 l[k].op) ∧ w'.cell? ⟨wr.heap.size, 1, none⟩ = some (.string l[k].name) ∧ w'.cell? ⟨wr.heap.size, 2, none⟩ = some (.int .i64 l[k].n) ∧ w'.cell? ⟨wr.heap.size, 3, none⟩ = some (.int .i64 l[k].ty.kind) ∧ w'.cell? ⟨wr.heap.size, 4, none⟩ = some (.string l[k].ty.name) ∧ w'.cell? ⟨wr.heap.size, 5, none⟩ = some (.slice xa xn xc) ∧ w'.cell? ⟨wr.heap.size, 6, none⟩ = some (.slice ya yn yc)) (go_keep)
        (first | (go_at_call 34; refine HC3.out.mono ?_; rintro e w4 ⟨v, u, rfl, hv, hu, k4⟩; obtain ⟨va4, vn4, vc4, rfl⟩ := hv.slice; obtain ⟨ua4, un4, uc4, rfl⟩ := hu.slice; unfold tmVal; have G4 := G3.out.kept k4 (fun h => h); have y0 : w4.cell? ⟨w.heap.size, 6, none⟩ = some (.slice (some ⟨g, 0, none⟩) l.length l.length) := (by rw [k4.cell (p := ⟨w.heap.size, 6, none⟩) (by show w.heap.size < _; omega) (fun h => h)]; exact a3); have y1 : w4.cell? ⟨wr.heap.size, 0, none⟩ = some (.int .i64 l[k].op) := (B3.out.kept k4 (fun h => h)).cell 0; have y2 : w4.cell? ⟨wr.heap.size, 1, none⟩ = some (.string l[k].name) := (B3.out.kept k4 (fun h => h)).cell 1; have y3 : w4.cell? ⟨wr.heap.size, 2, none⟩ = some (.int .i64 l[k].n) := (B3.out.kept k4 (fun h => h)).cell 2; have y4 : w4.cell? ⟨wr.heap.size, 3, none⟩ = some (.int .i64 l[k].ty.kind) := (B3.out.kept k4 (fun h => h)).cell 3; have y5 : w4.cell? ⟨wr.heap.size, 4, none⟩ = some (.string l[k].ty.name) := (B3.out.kept k4 (fun h => h)).cell 4; have y6 : w4.cell? ⟨wr.heap.size, 5, none⟩ = some (.slice xa xn xc) := (B3.out.kept k4 (fun h => h)).cell 5; have y7 : w4.cell? ⟨wr.heap.size, 6, none⟩ = some (.slice ya yn yc) := (B3.out.kept k4 (fun h => h)).cell 6; have t0 : w4.cell? ⟨g, k * 7, none⟩ = some (L[k * 7]'(by have := HLn.out; omega)) := (by rw [G4.cell]; exact List.getElem?_eq_getElem _); have t1 : w4.cell? ⟨g, k * 7 + 1, none⟩ = some (L[k * 7 + 1]'(by have := HLn.out; omega)) := (by rw [G4.cell]; exact List.getElem?_eq_getElem _); have t2 : w4.cell? ⟨g, k * 7 + 2, none⟩ = some (L[k * 7 + 2]'(by have := HLn.out; omega)) := (by rw [G4.cell]; exact List.getElem?_eq_getElem _); have t3 : w4.cell? ⟨g, k * 7 + 3, none⟩ = some (L[k * 7 + 3]'(by have := HLn.out; omega)) := (by rw [G4.cell]; exact List.getElem?_eq_getElem _); have t4 : w4.cell? ⟨g, k * 7 + 4, none⟩ = some (L[k * 7 + 4]'(by have := HLn.out; omega)) := (by rw [G4.cell]; exact List.getElem?_eq_getElem _); have t5 : w4.cell? ⟨g, k * 7 + 5, none⟩ = some (L[k * 7 + 5]'(by have := HLn.out; omega)) := (by rw [G4.cell]; exact List.getElem?_eq_getElem _); have t6 : w4.cell? ⟨g, k * 7 + 6, none⟩ = some (L[k * 7 + 6]'(by have := HLn.out; omega)) := (by rw [G4.cell]; exact List.getElem?_eq_getElem _); have f0 := G4.frozen (k * 7); have f1 := G4.frozen (k * 7 + 1); have f2 := G4.frozen (k * 7 + 2); have f3 := G4.frozen (k * 7 + 3); have f4 := G4.frozen (k * 7 + 4); have f5 := G4.frozen (k * 7 + 5); have f6 := G4.frozen (k * 7 + 6)))
      have HST := Lib.hid (HCI.out.step hg hlt (k3.trans k4) (hv.mono (fun q _ h => by omega)) (hu.mono (fun q _ h => by omega)))
      have HTS := Lib.hid ((HTk.out.frame (Same.of_kept (k3.trans k4) (fun _ _ e => e))).frame (set7 (g := g) (i0 := k * 7) (i1 := k * 7 + 1) (i2 := k * 7 + 2) (i3 := k * 7 + 3) (i4 := k * 7 + 4) (i5 := k * 7 + 5) (i6 := k * 7 + 6) (x0 := .int .i64 l[k].op) (x1 := .string l[k].name) (x2 := .int .i64 l[k].n) (x3 := .int .i64 l[k].ty.kind) (x4 := .string l[k].ty.name) (x5 := .slice va4 vn4 vc4) (x6 := .slice ua4 un4 uc4) (fun q h => h.2)))
      go_wp2_with fail
      go_roundw
      case rel => exact ⟨k + 1, by omega, by go_num, HST, HTS⟩
      case measure => simp [intOf]; omega
    · have hkk : k = l.length := by omega
      subst hkk
      have a0 : wr.cell? ⟨w.heap.size, 0, none⟩ = some (.int .i64 op) := qA.cell 0
      have a1 : wr.cell? ⟨w.heap.size, 1, none⟩ = some (.string nm) := qA.cell 1
      have a2 : wr.cell? ⟨w.heap.size, 2, none⟩ = some (.int .i64 N) := qA.cell 2
      have a3 : wr.cell? ⟨w.heap.size, 3, none⟩ = some (.int .i64 ty.kind) := qA.cell 3
      have a4 : wr.cell? ⟨w.heap.size, 4, none⟩ = some (.string ty.name) := qA.cell 4
      have a5 : wr.cell? ⟨w.heap.size, 5, none⟩ = some (.slice va vn vc) := qA.cell 5
      have a6 : wr.cell? ⟨w.heap.size, 6, none⟩ = some (.slice (some ⟨g, 0, none⟩) l.length l.length) := qA.cell 6
      have r0 : wr.cell? ⟨w.heap.size + 1, 0, none⟩ = some (.int .i64 0) := qR.cell 0
      have f0 := qR.frozen 0
      have r1 : wr.cell? ⟨w.heap.size + 1, 1, none⟩ = some (.string ⟨#[]⟩) := qR.cell 1
      have f1 := qR.frozen 1
      have r2 : wr.cell? ⟨w.heap.size + 1, 2, none⟩ = some (.int .i64 0) := qR.cell 2
      have f2 := qR.frozen 2
      have r3 : wr.cell? ⟨w.heap.size + 1, 3, none⟩ = some (.int .i64 0) := qR.cell 3
      have f3 := qR.frozen 3
      have r4 : wr.cell? ⟨w.heap.size + 1, 4, none⟩ = some (.string ⟨#[]⟩) := qR.cell 4
      have f4 := qR.frozen 4
      have r5 : wr.cell? ⟨w.heap.size + 1, 5, none⟩ = some (.slice none 0 0) := qR.cell 5
      have f5 := qR.frozen 5
      have r6 : wr.cell? ⟨w.heap.size + 1, 6, none⟩ = some (.slice none 0 0) := qR.cell 6
      have f6 := qR.frozen 6
      have QR := Lib.hid qR
      have KP := Lib.hid kp
      clear qR kp qA
      go_wp2_with fail
      have bF := r7 (x0 := .int .i64 op) (x1 := .string nm) (x2 := .int .i64 N) (x3 := .int .i64 ty.kind) (x4 := .string ty.name) (x5 := .slice va vn vc) (x6 := .slice (some ⟨g, 0, none⟩) l.length l.length) QR.out rfl
      refine bodyPost_ret (results_one Tryz.results34 rfl (load_tm (t := .mk op nm N ty l) bF)) rfl ⟨_, _, rfl, ?_, ?_, ?_⟩
      · exact (HTk.out.frame (set7 (g := w.heap.size + 1) (fun q h => by omega))).mono (fun q _ h => by omega)
      · by_cases hne : l = []
        · subst hne; exact .nil (Or.inr ⟨_, _, rfl⟩)
        · obtain ⟨L, K', M', bG, hLn, hLo, hLd⟩ := HCI.out.row
          refine TmL.mk K' M' hne (by omega) (Nat.le_refl _) (fun i hi => ?_) (fun i hi => ?_) (fun i hi => ?_)
          · obtain ⟨e0, e1, e2, e3, e4, e5, e6, e7, e8⟩ := hLd i hi hi
            rw [Nat.zero_add]
            have bG' := (((((((bG.set_other ⟨w.heap.size + 1, 0, none⟩ (.int .i64 op) (by show g ≠ w.heap.size + 1; omega)).set_other ⟨w.heap.size + 1, 1, none⟩ (.string nm) (by show g ≠ w.heap.size + 1; omega)).set_other ⟨w.heap.size + 1, 2, none⟩ (.int .i64 N) (by show g ≠ w.heap.size + 1; omega)).set_other ⟨w.heap.size + 1, 3, none⟩ (.int .i64 ty.kind) (by show g ≠ w.heap.size + 1; omega)).set_other ⟨w.heap.size + 1, 4, none⟩ (.string ty.name) (by show g ≠ w.heap.size + 1; omega)).set_other ⟨w.heap.size + 1, 5, none⟩ (.slice va vn vc) (by show g ≠ w.heap.size + 1; omega)).set_other ⟨w.heap.size + 1, 6, none⟩ (.slice (some ⟨g, 0, none⟩) l.length l.length) (by show g ≠ w.heap.size + 1; omega))
            exact ⟨by rw [bG'.cell]; exact e0, by rw [bG'.cell]; exact e1, by rw [bG'.cell]; exact e2, by rw [bG'.cell]; exact e3, by rw [bG'.cell]; exact e4, by rw [bG'.cell]; exact e5, by rw [bG'.cell]; exact e6⟩
          · exact ((hLd i hi hi).2.2.2.2.2.2.2.1.frame (set7 (g := w.heap.size + 1) (fun q h => by omega))).mono (fun q _ h => by omega)
          · exact ((hLd i hi hi).2.2.2.2.2.2.2.2.frame (set7 (g := w.heap.size + 1) (fun q h => by omega))).mono (fun q _ h => by omega)
      · exact (((((((KP.out.setCell (p := ⟨w.heap.size + 1, 0, none⟩) (Or.inr (by show w.heap.size ≤ w.heap.size + 1; omega)) _).setCell (p := ⟨w.heap.size + 1, 1, none⟩) (Or.inr (by show w.heap.size ≤ w.heap.size + 1; omega)) _).setCell (p := ⟨w.heap.size + 1, 2, none⟩) (Or.inr (by show w.heap.size ≤ w.heap.size + 1; omega)) _).setCell (p := ⟨w.heap.size + 1, 3, none⟩) (Or.inr (by show w.heap.size ≤ w.heap.size + 1; omega)) _).setCell (p := ⟨w.heap.size + 1, 4, none⟩) (Or.inr (by show w.heap.size ≤ w.heap.size + 1; omega)) _).setCell (p := ⟨w.heap.size + 1, 5, none⟩) (Or.inr (by show w.heap.size ≤ w.heap.size + 1; omega)) _).setCell (p := ⟨w.heap.size + 1, 6, none⟩) (Or.inr (by show w.heap.size ≤ w.heap.size + 1; omega)) _)
theorem clone_any {t : Tm} (hb : BdTm t) : ClC t := by
  induction hb with
  | mk hn ht hl ih =>
    intro w ok tk kk h h'
    obtain ⟨ta, tn, tc, rfl⟩ := h.slice
    cases h' with
    | nil h' =>
      rcases h' with rfl | ⟨ad, c, rfl⟩
      · exact clone_nil (copyTy_any ht) h
      · exact clone_zero (copyTy_any ht) h ad c
    | mk K M hne hb hc hcell hk hm => exact clone_some (copyTy_any ht) h ih hn K M hcell hk hm
end Go.Proofs.YtckjlliobebodaaGreatDoor
