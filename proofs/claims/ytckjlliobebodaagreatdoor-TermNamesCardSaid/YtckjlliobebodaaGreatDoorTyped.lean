/- The parser's method typed: it reads a type. -/
import Derived.Test.YtckjlliobebodaaGreatDoorParB
import Derived.Test.YtckjlliobebodaaGreatDoorRep
import Derived.Test.YtckjlliobebodaaGreatDoorLevels
namespace Go.Proofs.YtckjlliobebodaaGreatDoor
open Go.RowKit
def kInt : ByteArray := ⟨#[105, 110, 116]⟩
def kSet : ByteArray := ⟨#[115, 101, 116]⟩
def kPair : ByteArray := ⟨#[112, 97, 105, 114]⟩
def kLpar : ByteArray := ⟨#[40]⟩
def kRpar : ByteArray := ⟨#[41]⟩
def kComma : ByteArray := ⟨#[44]⟩
/-- What a type's first token decides: 0 a carrier, 1 int, 2 set, 3 pair, 4 none of them. -/
def typedS : Nat → ByteArray → PS → Except ER (Ty × PS)
  | 0, _, _ => .error (false, 0)
  | f + 1, s, σ =>
    if σ.k = 1 ∧ identB σ.tx = true then
      match advS s σ with
      | .error r => .error r
      | .ok σ1 => .ok (.mk 3 σ.tx [], σ1)
    else if isS σ kInt = true then
      match advS s σ with
      | .error r => .error r
      | .ok σ1 => .ok (.mk 1 ⟨#[]⟩ [], σ1)
    else if isS σ kSet = true then
      match advS s σ with
      | .error r => .error r
      | .ok σ1 =>
        match openS s σ1 kLpar with
        | .error r => .error r
        | .ok σ2 =>
          match typedS f s σ2 with
          | .error r => .error r
          | .ok (t, σ3) =>
            match shutS s σ3 kRpar with
            | .error r => .error r
            | .ok σ4 => .ok (.mk 5 ⟨#[]⟩ [t], σ4)
    else if isS σ kPair = true then
      match advS s σ with
      | .error r => .error r
      | .ok σ1 =>
        match openS s σ1 kLpar with
        | .error r => .error r
        | .ok σ2 =>
          match typedS f s σ2 with
          | .error r => .error r
          | .ok (t, σ3) =>
            match wantS s σ3 kComma with
            | .error r => .error r
            | .ok σ4 =>
              match typedS f s σ4 with
              | .error r => .error r
              | .ok (u, σ5) =>
                match shutS s σ5 kRpar with
                | .error r => .error r
                | .ok σ6 => .ok (.mk 4 ⟨#[]⟩ [t, u], σ6)
    else .error (false, σ.ta)
theorem eat_no {w : World} {b : Nat} {s : ByteArray} {σ : PS} (h : PW w b s σ) (t : ByteArray) (hv : isS σ t = false) :
    Calls Tryz.prog 65 #[.pointer (some ⟨b, 0, none⟩), .string t] w fun e w' => e = .returned (.bool false) ∧ w = w' := by
  go_enter Tryz.func65, Tryz.ntmps65
  go_wp2_with (go_at_call 116; refine (is_any h t hv).mono ?_; rintro e w' ⟨rfl, rfl⟩)
  go_ret
  exact ⟨rfl, rfl⟩
theorem eat_yes {w : World} {b : Nat} {s : ByteArray} {σ σ' : PS} (h : PW w b s σ) (t : ByteArray) (hv : isS σ t = true) (ha : advS s σ = .ok σ') :
    Calls Tryz.prog 65 #[.pointer (some ⟨b, 0, none⟩), .string t] w fun e w' => e = .returned (.bool true) ∧ PW w' b s σ' ∧ Kept (· = b) w w' :=
  eat_ok h t (by unfold eatS; rw [if_pos hv, ha])
theorem eat_bad {w : World} {b : Nat} {s : ByteArray} {σ : PS} {r : ER} (h : PW w b s σ) (t : ByteArray) (hv : isS σ t = true) (ha : advS s σ = .error r) :
    Calls Tryz.prog 65 #[.pointer (some ⟨b, 0, none⟩), .string t] w fun e w' => e = .panicked [pan r.1 r.2] ∧ Kept (· = b) w w' :=
  eat_err h t (by unfold eatS; rw [if_pos hv, ha])
theorem Gl.alloc {w : World} (h : Gl w) (o : Obj) : Gl (w.alloc o) := h.kept (S := fun _ => False) ((Kept.refl _ _).alloc o) id id
theorem PW.grow {w w' : World} {b : Nat} {s : ByteArray} {σ : PS} {S : Nat → Prop} (h : PW w b s σ) (hk : Kept S w w') (hb : ¬ S b) (h0 : ¬ S 0) (h1 : ¬ S 1) : PW w' b s σ :=
  ⟨Blk.kept h.blk hk hb, h.le, h.tx, h.src, h.two, h.gl.kept hk h0 h1, h.nest⟩
theorem PW.store {w : World} {b : Nat} {s : ByteArray} {σ : PS} (h : PW w b s σ) {p : Addr} (hb : p.block ≠ b) (h2 : 2 ≤ p.block) (v : Value) : PW (w.setCell p v) b s σ :=
  h.grow (S := (· = p.block)) ((Kept.refl (fun x => x = p.block) _).setCell (Or.inl rfl) v) (fun e => hb e.symm) (by show ¬ 0 = p.block; omega) (by show ¬ 1 = p.block; omega)
theorem PW.alloc {w : World} {b : Nat} {s : ByteArray} {σ : PS} (h : PW w b s σ) (o : Obj) : PW (w.alloc o) b s σ := h.grow (S := fun _ => False) ((Kept.refl _ _).alloc o) id id id
theorem eat_false {s : ByteArray} {σ σ' : PS} {t : ByteArray} (h : eatS s σ t = .ok (false, σ')) : σ' = σ := by
  unfold eatS at h
  split at h
  · cases ha : advS s σ with
    | ok σ1 => rw [ha] at h; cases h
    | error r => rw [ha] at h; cases h
  · cases h; rfl
/-- What a parser's method that returns a value promises. -/
def ROk (b : Nat) (s : ByteArray) (σ' : PS) (V : World → Value → Prop) (w : World) (e : Ending) (w' : World) : Prop := ∃ v, e = .returned v ∧ V w' v ∧ PW w' b s σ' ∧ Kept (· = b) w w'
def RErr (b : Nat) (r : ER) (w : World) (e : Ending) (w' : World) : Prop := e = .panicked [pan r.1 r.2] ∧ Kept (· = b) w w'
def RPost {α : Type} (b : Nat) (s : ByteArray) (V : α → World → Value → Prop) (q : Except ER (α × PS)) (w : World) (e : Ending) (w' : World) : Prop :=
  match q with
  | .error r => RErr b r w e w'
  | .ok (a, σ') => ROk b s σ' (V a) w e w'
theorem RPost.ok {α : Type} {b : Nat} {s : ByteArray} {V : α → World → Value → Prop} {q : Except ER (α × PS)} {a : α} {σ' : PS} {w : World} {e : Ending} {w' : World} (hq : q = .ok (a, σ')) (h : ROk b s σ' (V a) w e w') : RPost b s V q w e w' := by
  rw [hq]; exact h
theorem RPost.err {α : Type} {b : Nat} {s : ByteArray} {V : α → World → Value → Prop} {q : Except ER (α × PS)} {r : ER} {w : World} {e : Ending} {w' : World} (hq : q = .error r) (h : RErr b r w e w') : RPost b s V q w e w' := by
  rw [hq]; exact h
theorem RPost.getErr {α : Type} {b : Nat} {s : ByteArray} {V : α → World → Value → Prop} {q : Except ER (α × PS)} {r : ER} {w : World} {e : Ending} {w' : World} (h : RPost b s V q w e w') (hq : q = .error r) : RErr b r w e w' := by
  rw [hq] at h; exact h
theorem RPost.getOk {α : Type} {b : Nat} {s : ByteArray} {V : α → World → Value → Prop} {q : Except ER (α × PS)} {a : α} {σ' : PS} {w : World} {e : Ending} {w' : World} (h : RPost b s V q w e w') (hq : q = .ok (a, σ')) : ROk b s σ' (V a) w e w' := by
  rw [hq] at h; exact h
/-- How much is still to come. -/
def mu (s : ByteArray) (σ : PS) : Nat := (s.size - σ.p) + (if σ.k = 0 then 0 else 1)
theorem word_grow (s : ByteArray) (fr : Nat) (h : fr < s.size) (hc : inWordB s[fr].toNat = true) : fr < wend s fr := by
  have e : wend s fr = scan inWordB s (fr + 1) := scan_yes _ s fr h hc
  have := (scan_spec inWordB s (fr + 1) (by omega)).1
  omega
theorem wordTo_ge (s : ByteArray) (fr : Nat) : wend s fr ≤ wordTo s fr := by
  unfold wordTo
  split
  · exact Nat.le_refl _
  · split
    · split
      · omega
      · exact Nat.le_refl _
    · exact Nat.le_refl _
theorem signs_pos : ∀ x ∈ signs, 0 < x.size := by decide
theorem tok_grow {s : ByteArray} {fr : Nat} {t : Nat × Int × ByteArray × Int} (ht : tokAt s fr = some t) : fr ≤ t.1 ∧ (t.2.1 ≠ 0 → fr < t.1) := by
  unfold tokAt at ht
  split at ht
  · rename_i hlt
    split at ht
    · rename_i hl
      split at ht
      · cases ht
      · cases ht
        have h1 := word_grow s fr hlt (by unfold inWordB; rw [hl]; rfl)
        have h2 := wordTo_ge s fr
        exact ⟨by omega, fun _ => by omega⟩
    · split at ht
      · rename_i hl hd
        have h1 := word_grow s fr hlt (by unfold inWordB; rw [hd]; simp)
        cases hn : numTok (s.extract fr (wend s fr)) with
        | none => rw [hn] at ht; cases ht
        | some v => rw [hn] at ht; cases ht; exact ⟨by show fr ≤ wend s fr; omega, fun _ => h1⟩
      · split at ht
        · cases ht
        · rename_i hi
          cases ht
          rcases sIdx_cases (s.data.toList.drop fr) signs with h1 | ⟨j, hj, h1, hp⟩
          · rw [h1] at hi; exact absurd (by decide) hi
          · rw [h1, Int.toNat_natCast, List.getD_eq_getElem?_getD, List.getElem?_eq_getElem hj]
            have := signs_pos _ (List.getElem_mem hj)
            simp only [Option.getD_some]
            exact ⟨by omega, fun _ => by omega⟩
  · cases ht; exact ⟨Nat.le_refl _, fun h => absurd rfl h⟩
theorem mu_adv {s : ByteArray} {σ σ' : PS} (hp : σ.p ≤ s.size) (hk : σ.k ≠ 0) (h : advS s σ = .ok σ') : mu s σ' < mu s σ := by
  unfold advS at h
  have h1 := (scan_spec blankB s σ.p hp).1
  have h2 := (scan_spec blankB s σ.p hp).2.1
  cases ht : tokAt s (skip s σ.p) with
  | none => rw [ht] at h; cases h
  | some t =>
    rw [ht] at h; cases h
    have hg := tok_grow ht
    have hl := tokAt_le (skip_le s σ.p hp) ht
    unfold mu
    simp only
    rw [if_neg hk]
    have e : skip s σ.p = scan blankB s σ.p := rfl
    by_cases h0 : t.2.1 = 0
    · rw [if_pos h0]; omega
    · rw [if_neg h0]; have := hg.2 h0; omega
theorem isS_ne {σ : PS} {t : ByteArray} (h : isS σ t = true) : σ.k ≠ 0 := by
  unfold isS isB at h
  intro h0
  rw [h0] at h
  simp at h
theorem mu_open {s : ByteArray} {σ σ' : PS} {t : ByteArray} (hp : σ.p ≤ s.size) (h : openS s σ t = .ok σ') : mu s σ' < mu s σ := by
  unfold openS at h
  split at h
  · split at h
    · cases h
    · rename_i hi _
      exact mu_adv (σ := { σ with nest := σ.nest + 1 }) hp (isS_ne hi) h
  · cases h
theorem mu_want {s : ByteArray} {σ σ' : PS} {t : ByteArray} (hp : σ.p ≤ s.size) (h : wantS s σ t = .ok σ') : mu s σ' < mu s σ := by
  unfold wantS eatS at h
  cases hi : isS σ t
  · rw [hi] at h; cases h
  · rw [hi, if_pos rfl] at h
    cases ha : advS s σ with
    | error r => rw [ha] at h; cases h
    | ok σ1 => rw [ha] at h; cases h; exact mu_adv hp (isS_ne hi) ha
theorem open_nest {s : ByteArray} {σ σ' : PS} {t : ByteArray} (h : openS s σ t = .ok σ') : σ'.nest = σ.nest + 1 := by
  unfold openS at h
  split at h
  · split at h
    · cases h
    · exact adv_nest h
  · cases h
theorem shut_nest {s : ByteArray} {σ σ' : PS} {t : ByteArray} (h : shutS s σ t = .ok σ') : σ'.nest = σ.nest - 1 := by
  unfold shutS at h
  cases he : wantS s σ t with
  | error r => rw [he] at h; cases h
  | ok σ1 => rw [he] at h; cases h; show σ1.nest - 1 = _; rw [want_nest he]
theorem typed_nest (f : Nat) : ∀ {s : ByteArray} {σ σ' : PS} {t : Ty}, typedS f s σ = .ok (t, σ') → σ'.nest = σ.nest := by
  induction f with
  | zero => intro s σ σ' t h; cases h
  | succ f ih =>
    intro s σ σ' t h
    unfold typedS at h
    repeat' split at h
    all_goals first
      | (cases h; done)
      | (cases h; exact adv_nest ‹_›)
      | (cases h
         have h1 := adv_nest ‹advS s σ = _›
         have h2 := open_nest ‹_›
         have h3 := ih ‹_›
         have h4 := shut_nest ‹_›
         omega)
      | skip
    rename_i _ _ _ _ _ σa ha _ σb hb _ ta σc hc _ σd hd _ tb σe he _ σf hf
    cases h
    have h1 := adv_nest ha
    have h2 := open_nest hb
    have h3 := ih hc
    have h4 := want_nest hd
    have h5 := ih he
    have h6 := shut_nest hf
    omega
/-- The type (term) lies in blocks from n on. -/
def VTy (n : Nat) (t : Ty) (w : World) (v : Value) : Prop := TyV (fun k => n ≤ k) w t v
def VTm (n : Nat) (t : Tm) (w : World) (v : Value) : Prop := TmV (fun k => n ≤ k) w t v
theorem load_ty {W : World} {R : Nat} {t : Ty} {tk : Value} (hb : Blk W R 24 [.int .i64 t.kind, .string t.name, tk]) : (loadVar 24 ⟨R, 0, none⟩).run Tryz.prog W = .ok (tyVal t tk) W :=
  run_loadVar_mid W R 0 24 _ _ hb.rangeAt Tryz.underlying24 rfl (by kernel_rfl)
theorem load_tm {W : World} {R : Nat} {t : Tm} {tk kk : Value} (hb : Blk W R 27 (tmCells t tk kk)) : (loadVar 27 ⟨R, 0, none⟩).run Tryz.prog W = .ok (tmVal t tk kk) W :=
  run_loadVar_mid W R 0 27 _ _ hb.rangeAt Tryz.underlying27 rfl (by kernel_rfl)
theorem ret_ty {b : Nat} {s : ByteArray} {q : Except ER (Ty × PS)} {σ' : PS} {w W : World} {t : Ty} {tk : Value} {R : Nat} {a : Act} (hq : q = .ok (t, σ')) (hR : a.tmps.getD 2 undef = .pointer (some ⟨R, 0, none⟩)) (hd : a.defers = [])
    (hb : Blk W R 24 [.int .i64 t.kind, .string t.name, tk]) (hk : TyL (fun k => w.heap.size ≤ k) W t.kids tk) (hp : PW W b s σ') (hkp : Kept (· = b) w W) : bodyPost Tryz.prog Tryz.f42 (RPost b s (VTy w.heap.size) q w) Exit.ret a W :=
  bodyPost_ret (results_one Tryz.results42 hR (load_ty hb)) hd (RPost.ok hq ⟨_, rfl, ⟨tk, rfl, hk⟩, hp, hkp⟩)
/-- The result's block behind three stores. -/
theorem r3 {W : World} {R : Nat} {l : List Value} {x y z : Value} (h : Blk W R 24 l) (hl : l.length = 3) : Blk (((W.setCell ⟨R, 0, none⟩ x).setCell ⟨R, 1, none⟩ y).setCell ⟨R, 2, none⟩ z) R 24 [x, y, z] := by
  match l, hl with
  | [a, c, d], _ => exact ((h.set 0 x).set 1 y).set 2 z
theorem p3w {W : World} {b : Nat} {s : ByteArray} {σ : PS} {R : Nat} {x y z : Value} (h : PW W b s σ) (hb : R ≠ b) (h2 : 2 ≤ R) : PW (((W.setCell ⟨R, 0, none⟩ x).setCell ⟨R, 1, none⟩ y).setCell ⟨R, 2, none⟩ z) b s σ :=
  ((h.store (p := ⟨R, 0, none⟩) hb h2 x).store (p := ⟨R, 1, none⟩) hb h2 y).store (p := ⟨R, 2, none⟩) hb h2 z
theorem k3w {w W : World} {b R : Nat} {x y z : Value} (h : Kept (· = b) w W) (hR : w.heap.size ≤ R) : Kept (· = b) w (((W.setCell ⟨R, 0, none⟩ x).setCell ⟨R, 1, none⟩ y).setCell ⟨R, 2, none⟩ z) :=
  ((h.setCell (p := ⟨R, 0, none⟩) (Or.inr hR) x).setCell (p := ⟨R, 1, none⟩) (Or.inr hR) y).setCell (p := ⟨R, 2, none⟩) (Or.inr hR) z
theorem same3 {W : World} {n R : Nat} {x y z : Value} (h : R < n) : Same (fun k => n ≤ k) W (((W.setCell ⟨R, 0, none⟩ x).setCell ⟨R, 1, none⟩ y).setCell ⟨R, 2, none⟩ z) := by
  intro k hk _
  rw [Below.heap_setCell _ _ _ _ (by show k ≠ R; omega), Below.heap_setCell _ _ _ _ (by show k ≠ R; omega), Below.heap_setCell _ _ _ _ (by show k ≠ R; omega)]
theorem Same.alloc {ok : Nat → Prop} (W : World) (o : Obj) : Same ok W (W.alloc o) := fun _ _ hl => Below.heap_alloc _ _ _ hl
theorem Same.trans {ok : Nat → Prop} {a c d : World} (h : Same ok a c) (h' : Same ok c d) (hz : a.heap.size ≤ c.heap.size) : Same ok a d := fun k hk hl => (h' k hk (by omega)).trans (h k hk hl)
theorem Same.mono {ok ok' : Nat → Prop} {a c : World} (h : Same ok a c) (ho : ∀ k, ok' k → ok k) : Same ok' a c := fun k hk hl => h k (ho k hk) hl
theorem Blk.new' {w : World} {g : Nat} (t : TypeId) (l : List Value) (h : g = w.heap.size) : Blk (w.alloc (.cells l.toArray t)) g t l := h ▸ Blk.new w t l
theorem TyL.slice {ok : Nat → Prop} {w : World} {l : List Ty} {v : Value} (h : TyL ok w l v) : ∃ a n c, v = .slice a n c := by
  cases h with
  | nil h => rcases h with rfl | ⟨a, c, rfl⟩ <;> exact ⟨_, _, _, rfl⟩
  | mk K hne hb hc hcell hk => exact ⟨_, _, _, rfl⟩
theorem TmL.slice {ok : Nat → Prop} {w : World} {l : List Tm} {v : Value} (h : TmL ok w l v) : ∃ a n c, v = .slice a n c := by
  cases h with
  | nil h => rcases h with rfl | ⟨a, c, rfl⟩ <;> exact ⟨_, _, _, rfl⟩
  | mk K M hne hb hc hcell hk hm => exact ⟨_, _, _, rfl⟩
def z24 : List Value := [.int .i64 0, .string ⟨#[]⟩, .slice none 0 0]
set_option maxHeartbeats 1000000 in
theorem typed_car {w : World} {b : Nat} {s : ByteArray} {σ : PS} {f : Nat} (h : PW w b s σ) (hk : (σ.k == 1) = true) (hi : identB σ.tx = true) :
    Calls Tryz.prog 42 #[.pointer (some ⟨b, 0, none⟩)] w (RPost b s (VTy w.heap.size) (typedS (f + 1) s σ) w) := by
  have h0 := h.alloc (.cells #[.int .i64 0, .string ⟨#[]⟩, .slice none 0 0] 24)
  have c2 := h0.kd
  have c3 := h0.txt
  have ht := h.tx
  have hlt := h.lt
  have hgl := h.gl.lt
  have hB : Blk (w.alloc (.cells #[.int .i64 0, .string ⟨#[]⟩, .slice none 0 0] 24)) w.heap.size 24 z24 := Blk.new w 24 z24
  have K0 : Kept (· = b) w (w.alloc (.cells #[.int .i64 0, .string ⟨#[]⟩, .slice none 0 0] 24)) := (Kept.refl _ _).alloc _
  have HC := Lib.hid (show σ.k = 1 ∧ identB σ.tx = true from ⟨eq_of_beq hk, hi⟩)
  cases ha : advS s σ with
  | error r =>
    have hq : Hid (typedS (f + 1) s σ = .error r) := Lib.hid (by unfold typedS; rw [if_pos HC.out, ha])
    go_enter Tryz.func42, Tryz.ntmps42
    go_wp2_with (first | (go_at_call 18; refine (ident_t hi ht _).mono ?_; rintro e w' ⟨rfl, rfl⟩) | (go_at_call 63; refine (adv_err h0 ha).mono ?_; rintro e w' ⟨rfl, hk'⟩))
    exact ⟨rfl, RPost.err hq.out ⟨rfl, K0.trans hk'⟩⟩
  | ok σ1 =>
    have hq : Hid (typedS (f + 1) s σ = .ok (.mk 3 σ.tx [], σ1)) := Lib.hid (by unfold typedS; rw [if_pos HC.out, ha])
    go_enter Tryz.func42, Tryz.ntmps42
    go_wp2_with (go_at_call 18; refine (ident_t hi ht _).mono ?_; rintro e w' ⟨rfl, rfl⟩)
    refine (adv_ok h0 ha).mono ?_
    rintro e w1 ⟨rfl, p1, k1⟩
    have hB1 := hB.kept k1 (by show ¬ w.heap.size = b; omega)
    have g0 : w1.cell? ⟨w.heap.size, 0, none⟩ = some (.int .i64 0) := hB1.cell 0
    have g1 : w1.cell? ⟨w.heap.size, 1, none⟩ = some (.string ⟨#[]⟩) := hB1.cell 1
    have g2 : w1.cell? ⟨w.heap.size, 2, none⟩ = some (.slice none 0 0) := hB1.cell 2
    have f0 : w1.frozen? ⟨w.heap.size, 0, none⟩ = false := hB1.frozen 0
    have f1 : w1.frozen? ⟨w.heap.size, 1, none⟩ = false := hB1.frozen 1
    have f2 : w1.frozen? ⟨w.heap.size, 2, none⟩ = false := hB1.frozen 2
    go_wp2_with fail
    exact ret_ty hq.out rfl rfl (r3 hB1 rfl) (.nil (Or.inl rfl)) (p3w p1 (by omega) (by omega)) (k3w (K0.trans k1) (Nat.le_refl _))
/-- The word is no identifier: the first test of typed says no. -/
def NoId (σ : PS) : Prop := ¬ (σ.k = 1 ∧ identB σ.tx = true)
set_option maxHeartbeats 2000000 in
theorem typed_int {w : World} {b : Nat} {s : ByteArray} {σ : PS} {f : Nat} (h : PW w b s σ) {c : Bool} (hk : (σ.k == 1) = c) {d : Bool} (hi : identB σ.tx = d) (hn : Hid (NoId σ)) (hcd : (c && d) = false) (hI : isS σ kInt = true) :
    Calls Tryz.prog 42 #[.pointer (some ⟨b, 0, none⟩)] w (RPost b s (VTy w.heap.size) (typedS (f + 1) s σ) w) := by
  have h0 := h.alloc (.cells #[.int .i64 0, .string ⟨#[]⟩, .slice none 0 0] 24)
  have c2 := h0.kd
  have c3 := h0.txt
  have ht := h.tx
  have hlt := h.lt
  have hgl := h.gl.lt
  have hB : Blk (w.alloc (.cells #[.int .i64 0, .string ⟨#[]⟩, .slice none 0 0] 24)) w.heap.size 24 z24 := Blk.new w 24 z24
  have K0 : Kept (· = b) w (w.alloc (.cells #[.int .i64 0, .string ⟨#[]⟩, .slice none 0 0] 24)) := (Kept.refl _ _).alloc _
  cases c <;> cases d
  case true.true => cases hcd
  all_goals
    clear hcd
    cases ha : advS s σ with
    | error r =>
      have hq : Hid (typedS (f + 1) s σ = .error r) := Lib.hid (by unfold typedS; rw [if_neg hn.out, if_pos hI, ha])
      go_enter Tryz.func42, Tryz.ntmps42
      go_wp2_with (first | (go_at_call 18; refine (ident_t hi ht _).mono ?_; rintro e w' ⟨rfl, rfl⟩) | (go_at_call 65; refine (eat_bad h0 kInt hI ha).mono ?_; rintro e w' ⟨rfl, hk'⟩))
      exact ⟨rfl, RPost.err hq.out ⟨rfl, K0.trans hk'⟩⟩
    | ok σ1 =>
      have hq : Hid (typedS (f + 1) s σ = .ok (.mk 1 ⟨#[]⟩ [], σ1)) := Lib.hid (by unfold typedS; rw [if_neg hn.out, if_pos hI, ha])
      go_enter Tryz.func42, Tryz.ntmps42
      go_wp2_with (go_at_call 18; refine (ident_t hi ht _).mono ?_; rintro e w' ⟨rfl, rfl⟩)
      refine (eat_yes h0 kInt hI ha).mono ?_
      rintro e w1 ⟨rfl, p1, k1⟩
      have hB1 := hB.kept k1 (by show ¬ w.heap.size = b; omega)
      have g0 : w1.cell? ⟨w.heap.size, 0, none⟩ = some (.int .i64 0) := hB1.cell 0
      have g1 : w1.cell? ⟨w.heap.size, 1, none⟩ = some (.string ⟨#[]⟩) := hB1.cell 1
      have g2 : w1.cell? ⟨w.heap.size, 2, none⟩ = some (.slice none 0 0) := hB1.cell 2
      have f0 : w1.frozen? ⟨w.heap.size, 0, none⟩ = false := hB1.frozen 0
      have f1 : w1.frozen? ⟨w.heap.size, 1, none⟩ = false := hB1.frozen 1
      have f2 : w1.frozen? ⟨w.heap.size, 2, none⟩ = false := hB1.frozen 2
      go_wp2_with fail
      exact ret_ty hq.out rfl rfl (r3 hB1 rfl) (.nil (Or.inl rfl)) (p3w p1 (by omega) (by omega)) (k3w (K0.trans k1) (Nat.le_refl _))
set_option maxHeartbeats 2000000 in
theorem typed_none {w : World} {b : Nat} {s : ByteArray} {σ : PS} {f : Nat} (h : PW w b s σ) {c : Bool} (hk : (σ.k == 1) = c) {d : Bool} (hi : identB σ.tx = d) (hn : Hid (NoId σ)) (hcd : (c && d) = false) (hI : isS σ kInt = false) (hS : isS σ kSet = false) (hP : isS σ kPair = false) :
    Calls Tryz.prog 42 #[.pointer (some ⟨b, 0, none⟩)] w (RPost b s (VTy w.heap.size) (typedS (f + 1) s σ) w) := by
  have h0 := h.alloc (.cells #[.int .i64 0, .string ⟨#[]⟩, .slice none 0 0] 24)
  have c2 := h0.kd
  have c3 := h0.txt
  have ht := h.tx
  have hlt := h.lt
  have hgl := h.gl.lt
  have hB : Blk (w.alloc (.cells #[.int .i64 0, .string ⟨#[]⟩, .slice none 0 0] 24)) w.heap.size 24 z24 := Blk.new w 24 z24
  have K0 : Kept (· = b) w (w.alloc (.cells #[.int .i64 0, .string ⟨#[]⟩, .slice none 0 0] 24)) := (Kept.refl _ _).alloc _
  have hq : Hid (typedS (f + 1) s σ = .error (false, σ.ta)) := Lib.hid (by unfold typedS; rw [if_neg hn.out, if_neg (by rw [hI]; simp), if_neg (by rw [hS]; simp), if_neg (by rw [hP]; simp)])
  cases c <;> cases d
  case true.true => cases hcd
  all_goals
    clear hcd
    go_enter Tryz.func42, Tryz.ntmps42
    go_wp2_with (go_at_call 18; refine (ident_t hi ht _).mono ?_; rintro e w' ⟨rfl, rfl⟩)
    refine (eat_no h0 kInt hI).mono ?_
    rintro e w' ⟨rfl, rfl⟩
    go_wp2_with fail
    refine (eat_no h0 kSet hS).mono ?_
    rintro e w' ⟨rfl, rfl⟩
    go_wp2_with fail
    refine (eat_no h0 kPair hP).mono ?_
    rintro e w' ⟨rfl, rfl⟩
    go_wp2_with fail
    refine (fail_any h0).mono ?_
    rintro e w' ⟨rfl, rfl⟩
    go_wp2_with fail
    exact ⟨rfl, RPost.err hq.out ⟨rfl, K0⟩⟩
set_option maxHeartbeats 4000000 in
theorem typed_set {w : World} {b : Nat} {s : ByteArray} {σ : PS} {f : Nat} (ih : ∀ (σ : PS) (w : World), PW w b s σ → mu s σ < f → Calls Tryz.prog 42 #[.pointer (some ⟨b, 0, none⟩)] w (RPost b s (VTy w.heap.size) (typedS f s σ) w)) (hmu : mu s σ < f + 1)
    (h : PW w b s σ) {c : Bool} (hk : (σ.k == 1) = c) {d : Bool} (hi : identB σ.tx = d) (hn : Hid (NoId σ)) (hcd : (c && d) = false) (hI : isS σ kInt = false) (hS : isS σ kSet = true) :
    Calls Tryz.prog 42 #[.pointer (some ⟨b, 0, none⟩)] w (RPost b s (VTy w.heap.size) (typedS (f + 1) s σ) w) := by
  have IH := Lib.hid ih
  clear ih
  have h0 := h.alloc (.cells #[.int .i64 0, .string ⟨#[]⟩, .slice none 0 0] 24)
  have c2 := h0.kd
  have c3 := h0.txt
  have ht := h.tx
  have hlt := h.lt
  have hgl := h.gl.lt
  have hB : Blk (w.alloc (.cells #[.int .i64 0, .string ⟨#[]⟩, .slice none 0 0] 24)) w.heap.size 24 z24 := Blk.new w 24 z24
  have K0 : Kept (· = b) w (w.alloc (.cells #[.int .i64 0, .string ⟨#[]⟩, .slice none 0 0] 24)) := (Kept.refl _ _).alloc _
  cases c <;> cases d
  case true.true => cases hcd
  all_goals
    clear hcd
    go_enter Tryz.func42, Tryz.ntmps42
    go_wp2_with (go_at_call 18; refine (ident_t hi ht _).mono ?_; rintro e w' ⟨rfl, rfl⟩)
    refine (eat_no h0 kInt hI).mono ?_
    rintro e w' ⟨rfl, rfl⟩
    go_wp2_with fail
    cases ha : advS s σ with
    | error r =>
      have hq : Hid (typedS (f + 1) s σ = .error r) := Lib.hid (by unfold typedS; rw [if_neg hn.out, if_neg (by rw [hI]; simp), if_pos hS, ha])
      refine (eat_bad h0 kSet hS ha).mono ?_
      rintro e w1 ⟨rfl, k1⟩
      go_wp2_with fail
      exact ⟨rfl, RPost.err hq.out ⟨rfl, K0.trans k1⟩⟩
    | ok σ1 =>
      have m1 := mu_adv h.le (isS_ne hS) ha
      refine (eat_yes h0 kSet hS ha).mono ?_
      rintro e w1 ⟨rfl, p1, k1⟩
      go_wp2_with fail
      cases ho : openS s σ1 kLpar with
      | error r =>
        have hq : Hid (typedS (f + 1) s σ = .error r) := Lib.hid (by unfold typedS; rw [if_neg hn.out, if_neg (by rw [hI]; simp), if_pos hS, ha]; simp only [ho])
        refine (open_err p1 kLpar ho).mono ?_
        rintro e w2 ⟨rfl, k2⟩
        go_wp2_with fail
        exact ⟨rfl, RPost.err hq.out ⟨rfl, (K0.trans k1).trans k2⟩⟩
      | ok σ2 =>
        have m2 := mu_open p1.le ho
        have n2 := open_nest ho
        refine (open_ok p1 kLpar ho).mono ?_
        rintro e w2 ⟨rfl, p2, k2⟩
        go_wp2_with fail
        refine (IH.out _ _ p2 (by omega)).mono ?_
        rintro e w3 hr
        cases htt : typedS f s σ2 with
        | error r =>
          have hq : Hid (typedS (f + 1) s σ = .error r) := Lib.hid (by unfold typedS; rw [if_neg hn.out, if_neg (by rw [hI]; simp), if_pos hS, ha]; simp only [ho, htt])
          obtain ⟨rfl, k3⟩ := hr.getErr htt
          clear hr
          go_wp2_with fail
          exact ⟨rfl, RPost.err hq.out ⟨rfl, ((K0.trans k1).trans k2).trans k3⟩⟩
        | ok q =>
          obtain ⟨t, σ3⟩ := q
          obtain ⟨v, rfl, ⟨tk, rfl, htk⟩, p3, k3⟩ := hr.getOk htt
          have n3 := typed_nest f htt
          clear hr
          obtain ⟨ta, tn, tc, rfl⟩ := htk.slice
          unfold tyVal
          have hB3 := ((hB.kept k1 (by show ¬ w.heap.size = b; omega)).kept k2 (by show ¬ w.heap.size = b; omega)).kept k3 (by show ¬ w.heap.size = b; omega)
          have KK := ((K0.trans k1).trans k2).trans k3
          have z3 := KK.size
          have hb3 := p3.lt
          have HN := Lib.hid (show 1 ≤ σ3.nest by omega)
          clear n2 n3
          have h4 := p3.alloc (.cells #[.int .i64 t.kind, .string t.name, .slice ta tn tc] 24)
          have K4 := KK.alloc (.cells #[.int .i64 t.kind, .string t.name, .slice ta tn tc] 24)
          have hB4 := hB3.alloc (.cells #[.int .i64 t.kind, .string t.name, .slice ta tn tc] 24)
          have hT4 : Blk (w3.alloc (.cells #[.int .i64 t.kind, .string t.name, .slice ta tn tc] 24)) w3.heap.size 24 [.int .i64 t.kind, .string t.name, .slice ta tn tc] := Blk.new w3 24 _
          have t4 := htk.frame (Same.alloc _ (.cells #[.int .i64 t.kind, .string t.name, .slice ta tn tc] 24))
          have z2 := ((K0.trans k1).trans k2).size
          have hb2 := p2.lt
          have hR2 := ((hB.kept k1 (by show ¬ w.heap.size = b; omega)).kept k2 (by show ¬ w.heap.size = b; omega)).lt
          have hRlt := hB3.lt
          go_wp2_with fail
          cases hs : shutS s σ3 kRpar with
          | error r =>
            have hq : Hid (typedS (f + 1) s σ = .error r) := Lib.hid (by unfold typedS; rw [if_neg hn.out, if_neg (by rw [hI]; simp), if_pos hS, ha]; simp only [ho, htt, hs])
            refine (shut_err h4 kRpar hs).mono ?_
            rintro e w4 ⟨rfl, k4⟩
            go_wp2_with fail
            exact ⟨rfl, RPost.err hq.out ⟨rfl, K4.trans k4⟩⟩
          | ok σ4 =>
            have hq : Hid (typedS (f + 1) s σ = .ok (.mk 5 ⟨#[]⟩ [t], σ4)) := Lib.hid (by unfold typedS; rw [if_neg hn.out, if_neg (by rw [hI]; simp), if_pos hS, ha]; simp only [ho, htt, hs])
            refine (shut_ok h4 HN.out kRpar hs).mono ?_
            rintro e w4 ⟨rfl, p4, k4⟩
            have hR := hB4.kept k4 (by show ¬ w.heap.size = b; omega)
            have hT := hT4.kept k4 (by show ¬ w3.heap.size = b; omega)
            have t5 := t4.frame (Same.of_kept k4 (fun k h e => by omega))
            have K5 := K4.trans k4
            have g0 : w4.cell? ⟨w.heap.size, 0, none⟩ = some (.int .i64 0) := hR.cell 0
            have g1 : w4.cell? ⟨w.heap.size, 1, none⟩ = some (.string ⟨#[]⟩) := hR.cell 1
            have g2 : w4.cell? ⟨w.heap.size, 2, none⟩ = some (.slice none 0 0) := hR.cell 2
            have f0 : w4.frozen? ⟨w.heap.size, 0, none⟩ = false := hR.frozen 0
            have f1 : w4.frozen? ⟨w.heap.size, 1, none⟩ = false := hR.frozen 1
            have f2 : w4.frozen? ⟨w.heap.size, 2, none⟩ = false := hR.frozen 2
            have y0 : w4.cell? ⟨w3.heap.size, 0, none⟩ = some (.int .i64 t.kind) := hT.cell 0
            have y1 : w4.cell? ⟨w3.heap.size, 1, none⟩ = some (.string t.name) := hT.cell 1
            have y2 : w4.cell? ⟨w3.heap.size, 2, none⟩ = some (.slice ta tn tc) := hT.cell 2
            have l4 : w.heap.size < w4.heap.size := hR.lt
            go_wp2_with fail
            refine ret_ty hq.out rfl rfl ((r3 hR rfl).alloc _) ?_ ((p3w p4 (by omega) (by omega)).alloc _) ((k3w K5 (Nat.le_refl _)).alloc _)
            refine TyL.one (r := []) (ty := 24) (by omega) (Nat.le_refl _) (Blk.new' 24 _ (by simp)) ?_
            exact ((t5.frame (same3 (R := w.heap.size) hR2)).frame (Same.alloc _ _)).mono (fun k _ h => by omega)
set_option maxHeartbeats 8000000 in
theorem typed_pair {w : World} {b : Nat} {s : ByteArray} {σ : PS} {f : Nat} (ih : ∀ (σ : PS) (w : World), PW w b s σ → mu s σ < f → Calls Tryz.prog 42 #[.pointer (some ⟨b, 0, none⟩)] w (RPost b s (VTy w.heap.size) (typedS f s σ) w)) (hmu : mu s σ < f + 1)
    (hmono : ∀ {σ σ' : PS} {t : Ty}, σ.p ≤ s.size → typedS f s σ = .ok (t, σ') → mu s σ' ≤ mu s σ)
    (h : PW w b s σ) {c : Bool} (hk : (σ.k == 1) = c) {d : Bool} (hi : identB σ.tx = d) (hn : Hid (NoId σ)) (hcd : (c && d) = false) (hI : isS σ kInt = false) (hS : isS σ kSet = false) (hP : isS σ kPair = true) :
    Calls Tryz.prog 42 #[.pointer (some ⟨b, 0, none⟩)] w (RPost b s (VTy w.heap.size) (typedS (f + 1) s σ) w) := by
  have IH := Lib.hid ih
  clear ih
  have h0 := h.alloc (.cells #[.int .i64 0, .string ⟨#[]⟩, .slice none 0 0] 24)
  have c2 := h0.kd
  have c3 := h0.txt
  have ht := h.tx
  have hlt := h.lt
  have hgl := h.gl.lt
  have hB : Blk (w.alloc (.cells #[.int .i64 0, .string ⟨#[]⟩, .slice none 0 0] 24)) w.heap.size 24 z24 := Blk.new w 24 z24
  have K0 : Kept (· = b) w (w.alloc (.cells #[.int .i64 0, .string ⟨#[]⟩, .slice none 0 0] 24)) := (Kept.refl _ _).alloc _
  cases c <;> cases d
  case true.true => cases hcd
  all_goals
    clear hcd
    go_enter Tryz.func42, Tryz.ntmps42
    go_wp2_with (go_at_call 18; refine (ident_t hi ht _).mono ?_; rintro e w' ⟨rfl, rfl⟩)
    refine (eat_no h0 kInt hI).mono ?_
    rintro e w' ⟨rfl, rfl⟩
    go_wp2_with fail
    refine (eat_no h0 kSet hS).mono ?_
    rintro e w' ⟨rfl, rfl⟩
    go_wp2_with fail
    cases ha : advS s σ with
    | error r =>
      have hq : Hid (typedS (f + 1) s σ = .error r) := Lib.hid (by unfold typedS; rw [if_neg hn.out, if_neg (by rw [hI]; simp), if_neg (by rw [hS]; simp), if_pos hP, ha])
      refine (eat_bad h0 kPair hP ha).mono ?_
      rintro e w1 ⟨rfl, k1⟩
      go_wp2_with fail
      exact ⟨rfl, RPost.err hq.out ⟨rfl, K0.trans k1⟩⟩
    | ok σ1 =>
      have m1 := mu_adv h.le (isS_ne hP) ha
      refine (eat_yes h0 kPair hP ha).mono ?_
      rintro e w1 ⟨rfl, p1, k1⟩
      go_wp2_with fail
      cases ho : openS s σ1 kLpar with
      | error r =>
        have hq : Hid (typedS (f + 1) s σ = .error r) := Lib.hid (by unfold typedS; rw [if_neg hn.out, if_neg (by rw [hI]; simp), if_neg (by rw [hS]; simp), if_pos hP, ha]; simp only [ho])
        refine (open_err p1 kLpar ho).mono ?_
        rintro e w2 ⟨rfl, k2⟩
        go_wp2_with fail
        exact ⟨rfl, RPost.err hq.out ⟨rfl, (K0.trans k1).trans k2⟩⟩
      | ok σ2 =>
        have m2 := mu_open p1.le ho
        have n2 := open_nest ho
        refine (open_ok p1 kLpar ho).mono ?_
        rintro e w2 ⟨rfl, p2, k2⟩
        go_wp2_with fail
        refine (IH.out _ _ p2 (by omega)).mono ?_
        rintro e w3 hr
        cases htt : typedS f s σ2 with
        | error r =>
          have hq : Hid (typedS (f + 1) s σ = .error r) := Lib.hid (by unfold typedS; rw [if_neg hn.out, if_neg (by rw [hI]; simp), if_neg (by rw [hS]; simp), if_pos hP, ha]; simp only [ho, htt])
          obtain ⟨rfl, k3⟩ := hr.getErr htt
          clear hr
          go_wp2_with fail
          exact ⟨rfl, RPost.err hq.out ⟨rfl, ((K0.trans k1).trans k2).trans k3⟩⟩
        | ok q =>
          obtain ⟨t, σ3⟩ := q
          obtain ⟨v, rfl, ⟨tk, rfl, htk⟩, p3, k3⟩ := hr.getOk htt
          have n3 := typed_nest f htt
          have m3 := hmono p2.le htt
          clear hr
          obtain ⟨ta, tn, tc, rfl⟩ := htk.slice
          unfold tyVal
          have hB2 := (hB.kept k1 (by show ¬ w.heap.size = b; omega)).kept k2 (by show ¬ w.heap.size = b; omega)
          have hB3 := hB2.kept k3 (by show ¬ w.heap.size = b; omega)
          have KK := ((K0.trans k1).trans k2).trans k3
          have z3 := KK.size
          have hb2 := p2.lt
          have hR2 := hB2.lt
          have hb3 := p3.lt
          have h4 := p3.alloc (.cells #[.int .i64 t.kind, .string t.name, .slice ta tn tc] 24)
          have K4 := KK.alloc (.cells #[.int .i64 t.kind, .string t.name, .slice ta tn tc] 24)
          have hB4 := hB3.alloc (.cells #[.int .i64 t.kind, .string t.name, .slice ta tn tc] 24)
          have hT4 : Blk (w3.alloc (.cells #[.int .i64 t.kind, .string t.name, .slice ta tn tc] 24)) w3.heap.size 24 [.int .i64 t.kind, .string t.name, .slice ta tn tc] := Blk.new w3 24 _
          have t4 := htk.frame (Same.alloc _ (.cells #[.int .i64 t.kind, .string t.name, .slice ta tn tc] 24))
          have hRlt := hB3.lt
          go_wp2_with fail
          cases hw : wantS s σ3 kComma with
          | error r =>
            have hq : Hid (typedS (f + 1) s σ = .error r) := Lib.hid (by unfold typedS; rw [if_neg hn.out, if_neg (by rw [hI]; simp), if_neg (by rw [hS]; simp), if_pos hP, ha]; simp only [ho, htt, hw])
            refine (want_err h4 kComma hw).mono ?_
            rintro e w4 ⟨rfl, k4⟩
            go_wp2_with fail
            exact ⟨rfl, RPost.err hq.out ⟨rfl, K4.trans k4⟩⟩
          | ok σ4 =>
            have m4 := mu_want p3.le hw
            have n4 := want_nest hw
            refine (want_ok h4 kComma hw).mono ?_
            rintro e w4 ⟨rfl, p4, k4⟩
            go_wp2_with fail
            have hB5 := hB4.kept k4 (by show ¬ w.heap.size = b; omega)
            have hT5 := hT4.kept k4 (by show ¬ w3.heap.size = b; omega)
            have t5 := t4.frame (Same.of_kept k4 (fun k h e => by omega))
            have K5 := K4.trans k4
            have hb4 := p4.lt
            have hT5lt := hT5.lt
            have z32 := k3.size
            have z4 := k4.size
            refine (IH.out _ _ p4 (by omega)).mono ?_
            rintro e w5 hr
            cases htu : typedS f s σ4 with
            | error r =>
              have hq : Hid (typedS (f + 1) s σ = .error r) := Lib.hid (by unfold typedS; rw [if_neg hn.out, if_neg (by rw [hI]; simp), if_neg (by rw [hS]; simp), if_pos hP, ha]; simp only [ho, htt, hw, htu])
              obtain ⟨rfl, k5⟩ := hr.getErr htu
              clear hr
              go_wp2_with fail
              exact ⟨rfl, RPost.err hq.out ⟨rfl, K5.trans k5⟩⟩
            | ok q =>
              obtain ⟨u, σ5⟩ := q
              obtain ⟨v, rfl, ⟨uk, rfl, huk⟩, p5, k5⟩ := hr.getOk htu
              have n5 := typed_nest f htu
              clear hr
              obtain ⟨ua, un, uc, rfl⟩ := huk.slice
              unfold tyVal
              have hB6 := hB5.kept k5 (by show ¬ w.heap.size = b; omega)
              have hT6 := hT5.kept k5 (by show ¬ w3.heap.size = b; omega)
              have t6 := t5.frame (Same.of_kept k5 (fun k h e => by omega))
              have hb5 := p5.lt
              have hT6lt := hT6.lt
              have hB6lt := hB6.lt
              have HN := Lib.hid (show 1 ≤ σ5.nest by omega)
              clear n2 n3 n4 n5
              have h7 := p5.alloc (.cells #[.int .i64 u.kind, .string u.name, .slice ua un uc] 24)
              have K7 := (K5.trans k5).alloc (.cells #[.int .i64 u.kind, .string u.name, .slice ua un uc] 24)
              have hB7 := hB6.alloc (.cells #[.int .i64 u.kind, .string u.name, .slice ua un uc] 24)
              have hT7 := hT6.alloc (.cells #[.int .i64 u.kind, .string u.name, .slice ua un uc] 24)
              have hU7 : Blk (w5.alloc (.cells #[.int .i64 u.kind, .string u.name, .slice ua un uc] 24)) w5.heap.size 24 [.int .i64 u.kind, .string u.name, .slice ua un uc] := Blk.new w5 24 _
              have t7 := t6.frame (Same.alloc _ (.cells #[.int .i64 u.kind, .string u.name, .slice ua un uc] 24))
              have u7 := huk.frame (Same.alloc _ (.cells #[.int .i64 u.kind, .string u.name, .slice ua un uc] 24))
              go_wp2_with fail
              cases hs : shutS s σ5 kRpar with
              | error r =>
                have hq : Hid (typedS (f + 1) s σ = .error r) := Lib.hid (by unfold typedS; rw [if_neg hn.out, if_neg (by rw [hI]; simp), if_neg (by rw [hS]; simp), if_pos hP, ha]; simp only [ho, htt, hw, htu, hs])
                refine (shut_err h7 kRpar hs).mono ?_
                rintro e w8 ⟨rfl, k8⟩
                go_wp2_with fail
                exact ⟨rfl, RPost.err hq.out ⟨rfl, K7.trans k8⟩⟩
              | ok σ6 =>
                have hq : Hid (typedS (f + 1) s σ = .ok (.mk 4 ⟨#[]⟩ [t, u], σ6)) := Lib.hid (by unfold typedS; rw [if_neg hn.out, if_neg (by rw [hI]; simp), if_neg (by rw [hS]; simp), if_pos hP, ha]; simp only [ho, htt, hw, htu, hs])
                refine (shut_ok h7 HN.out kRpar hs).mono ?_
                rintro e w8 ⟨rfl, p8, k8⟩
                have hR := hB7.kept k8 (by show ¬ w.heap.size = b; omega)
                have hT := hT7.kept k8 (by show ¬ w3.heap.size = b; omega)
                have hU := hU7.kept k8 (by show ¬ w5.heap.size = b; omega)
                have t8 := t7.frame (Same.of_kept k8 (fun k h e => by omega))
                have u8' := u7.frame (Same.of_kept k8 (fun k h e => by omega))
                have K8 := K7.trans k8
                have g0 : w8.cell? ⟨w.heap.size, 0, none⟩ = some (.int .i64 0) := hR.cell 0
                have g1 : w8.cell? ⟨w.heap.size, 1, none⟩ = some (.string ⟨#[]⟩) := hR.cell 1
                have g2 : w8.cell? ⟨w.heap.size, 2, none⟩ = some (.slice none 0 0) := hR.cell 2
                have f0 : w8.frozen? ⟨w.heap.size, 0, none⟩ = false := hR.frozen 0
                have f1 : w8.frozen? ⟨w.heap.size, 1, none⟩ = false := hR.frozen 1
                have f2 : w8.frozen? ⟨w.heap.size, 2, none⟩ = false := hR.frozen 2
                have y0 : w8.cell? ⟨w3.heap.size, 0, none⟩ = some (.int .i64 t.kind) := hT.cell 0
                have y1 : w8.cell? ⟨w3.heap.size, 1, none⟩ = some (.string t.name) := hT.cell 1
                have y2 : w8.cell? ⟨w3.heap.size, 2, none⟩ = some (.slice ta tn tc) := hT.cell 2
                have x0 : w8.cell? ⟨w5.heap.size, 0, none⟩ = some (.int .i64 u.kind) := hU.cell 0
                have x1 : w8.cell? ⟨w5.heap.size, 1, none⟩ = some (.string u.name) := hU.cell 1
                have x2 : w8.cell? ⟨w5.heap.size, 2, none⟩ = some (.slice ua un uc) := hU.cell 2
                have l8 : w.heap.size < w8.heap.size := hR.lt
                go_wp2_with fail
                refine ret_ty hq.out rfl rfl ((r3 hR rfl).alloc _) ?_ ((p3w p8 (by omega) (by omega)).alloc _) ((k3w K8 (Nat.le_refl _)).alloc _)
                refine TyL.two (ty := 24) (by omega) (Nat.le_refl _) (Blk.new' 24 _ (by simp)) ?_ ?_
                · exact ((t8.frame (same3 (R := w.heap.size) hR2)).frame (Same.alloc _ _)).mono (fun k _ h => by omega)
                · exact ((u8'.frame (same3 (R := w.heap.size) (by omega))).frame (Same.alloc _ _)).mono (fun k _ h => by omega)
theorem adv_le {s : ByteArray} {σ σ' : PS} (hp : σ.p ≤ s.size) (h : advS s σ = .ok σ') : σ'.p ≤ s.size := by
  unfold advS at h
  cases ht : tokAt s (skip s σ.p) with
  | none => rw [ht] at h; cases h
  | some t => rw [ht] at h; cases h; exact (tokAt_le (skip_le s σ.p hp) ht).1
theorem open_le {s : ByteArray} {σ σ' : PS} {t : ByteArray} (hp : σ.p ≤ s.size) (h : openS s σ t = .ok σ') : σ'.p ≤ s.size := by
  unfold openS at h
  split at h
  · split at h
    · cases h
    · exact adv_le (σ := { σ with nest := σ.nest + 1 }) hp h
  · cases h
theorem want_le {s : ByteArray} {σ σ' : PS} {t : ByteArray} (hp : σ.p ≤ s.size) (h : wantS s σ t = .ok σ') : σ'.p ≤ s.size := by
  unfold wantS eatS at h
  cases hi : isS σ t
  · rw [hi] at h; cases h
  · rw [hi, if_pos rfl] at h
    cases ha : advS s σ with
    | error r => rw [ha] at h; cases h
    | ok σ1 => rw [ha] at h; cases h; exact adv_le hp ha
theorem shut_mu {s : ByteArray} {σ σ' : PS} {t : ByteArray} (hp : σ.p ≤ s.size) (h : shutS s σ t = .ok σ') : mu s σ' < mu s σ ∧ σ'.p ≤ s.size := by
  unfold shutS at h
  cases hw : wantS s σ t with
  | error r => rw [hw] at h; cases h
  | ok σ1 => rw [hw] at h; cases h; exact ⟨(mu_want hp hw : mu s σ1 < mu s σ), (want_le hp hw : σ1.p ≤ s.size)⟩
theorem typed_mu (f : Nat) : ∀ {s : ByteArray} {σ σ' : PS} {t : Ty}, σ.p ≤ s.size → typedS f s σ = .ok (t, σ') → mu s σ' ≤ mu s σ ∧ σ'.p ≤ s.size := by
  induction f with
  | zero => intro s σ σ' t _ h; cases h
  | succ f ih =>
    intro s σ σ' t hp h
    unfold typedS at h
    repeat' split at h
    all_goals try (cases h; done)
    · rename_i hc _ σ1 ha
      cases h
      exact ⟨Nat.le_of_lt (mu_adv hp (by rw [hc.1]; decide) ha), adv_le hp ha⟩
    · rename_i hi _ σ1 ha
      cases h
      exact ⟨Nat.le_of_lt (mu_adv hp (isS_ne hi) ha), adv_le hp ha⟩
    · rename_i _ _ hi _ σ1 ha _ σ2 hb _ t3 σ3 hc _ σ4 hd
      cases h
      have a1 := mu_adv hp (isS_ne hi) ha
      have b1 := adv_le hp ha
      have a2 := mu_open b1 hb
      have b2 := open_le b1 hb
      have a3 := ih b2 hc
      have a4 := shut_mu a3.2 hd
      exact ⟨by omega, a4.2⟩
    · rename_i _ _ _ hi _ σ1 ha _ σ2 hb _ t3 σ3 hc _ σ4 hd _ t5 σ5 he _ σ6 hf
      cases h
      have a1 := mu_adv hp (isS_ne hi) ha
      have b1 := adv_le hp ha
      have a2 := mu_open b1 hb
      have b2 := open_le b1 hb
      have a3 := ih b2 hc
      have a4 := mu_want a3.2 hd
      have b4 := want_le a3.2 hd
      have a5 := ih b4 he
      have a6 := shut_mu a5.2 hf
      exact ⟨by omega, a6.2⟩
theorem typed_any (f : Nat) : ∀ {b : Nat} {s : ByteArray} (σ : PS) (w : World), PW w b s σ → mu s σ < f → Calls Tryz.prog 42 #[.pointer (some ⟨b, 0, none⟩)] w (RPost b s (VTy w.heap.size) (typedS f s σ) w) := by
  induction f with
  | zero => intro b s σ w _ h; omega
  | succ f ih =>
    intro b s σ w h hmu
    by_cases hc : σ.k = 1 ∧ identB σ.tx = true
    · exact typed_car h (by rw [hc.1]; rfl) hc.2
    · have hcd : ((σ.k == 1) && identB σ.tx) = false := by
        cases h1 : (σ.k == 1) <;> cases h2 : identB σ.tx <;> first | rfl | (exact absurd ⟨eq_of_beq h1, h2⟩ hc)
      cases hI : isS σ kInt
      · cases hS : isS σ kSet
        · cases hP : isS σ kPair
          · exact typed_none h rfl rfl (Lib.hid hc) hcd hI hS hP
          · exact typed_pair (fun σ w => ih σ w) hmu (fun hp ht => (typed_mu f hp ht).1) h rfl rfl (Lib.hid hc) hcd hI hS hP
        · exact typed_set (fun σ w => ih σ w) hmu h rfl rfl (Lib.hid hc) hcd hI hS
      · exact typed_int h rfl rfl (Lib.hid hc) hcd hI
end Go.Proofs.YtckjlliobebodaaGreatDoor
