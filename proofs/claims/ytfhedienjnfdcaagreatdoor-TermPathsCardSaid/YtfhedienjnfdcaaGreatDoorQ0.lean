/- Texts Pth AtW Cl2 BxT PutW Wfm AlP PJoin JnB of this proof, in one. -/
import Derived.Test.YtfhedienjnfdcaaGreatDoorS0
import Derived.Test.YtfhedienjnfdcaaGreatDoorS1
import Derived.Test.YtfhedienjnfdcaaGreatDoorS2
import Derived.Test.YtfhedienjnfdcaaGreatDoorS3
import Derived.Test.YtfhedienjnfdcaaGreatDoorS4
import Derived.Test.YtfhedienjnfdcaaGreatDoorS5
import Derived.Test.YtfhedienjnfdcaaGreatDoorS6
import Derived.Test.YtfhedienjnfdcaaGreatDoorS7
import Derived.Test.YtfhedienjnfdcaaGreatDoorS8
import Derived.Test.YtfhedienjnfdcaaGreatDoorS9
import Derived.Test.YtfhedienjnfdcaaGreatDoorS10
import Derived.Test.YtfhedienjnfdcaaGreatDoorS11
import Derived.Test.YtfhedienjnfdcaaGreatDoorS12
import Derived.Test.YtfhedienjnfdcaaGreatDoorS13
import Derived.Test.YtfhedienjnfdcaaGreatDoorS14
import Derived.Test.YtfhedienjnfdcaaGreatDoorS15
import Derived.Deep.RegionLaw
import Derived.Deep.RegionHeld3
set_option linter.unusedVariables false
set_option linter.unusedSimpArgs false
namespace Go.Proofs.YtfhedienjnfdcaaGreatDoor
open Go.RowKit
def stepB (t : Tm) (i : Int) : Bool := decide (0 ≤ i) && decide (i < t.kids.length)
def kidI (t : Tm) (i : Int) : Tm := t.kids.getD i.toNat tm0
def atP : Tm → List Int → Option Tm
  | t, [] => some t
  | t, i :: p => if stepB t i then atP (kidI t i) p else none
def boundP : Tm → List Int → List ByteArray
  | _, [] => []
  | t, i :: p => (if binderB t.op && i == 1 then [t.name] else []) ++ boundP (kidI t i) p
def setKid (t : Tm) (i : Nat) (u : Tm) : Tm := .mk t.op t.name t.n t.ty (t.kids.set i u)
def putP : Tm → List Int → Tm → Tm
  | _, [], u => u
  | t, i :: p, u => setKid t i.toNat (putP (kidI t i) p u)
theorem step_lt {t : Tm} {i : Int} (h : stepB t i = true) : i.toNat < t.kids.length := by
  simp only [stepB, Bool.and_eq_true, decide_eq_true_eq] at h; omega
theorem kid_get {t : Tm} {i : Int} (h : i.toNat < t.kids.length) : kidI t i = t.kids[i.toNat] := by
  unfold kidI; simp [h]
theorem kid_mem {t : Tm} {i : Int} (h : stepB t i = true) : kidI t i ∈ t.kids := by
  rw [kid_get (step_lt h)]; exact List.getElem_mem _
theorem subt_ok {t u : Tm} (h : OkTm t ∧ tmN t ≤ 2000 ∧ tmD t ≤ 64) (hu : u ∈ t.kids) : OkTm u ∧ tmN u ≤ 2000 ∧ tmD u ≤ 64 := by
  obtain ⟨op, nm, N, ty, l⟩ := t
  obtain ⟨h1, h2, h3⟩ := h
  cases h1 with
  | mk _ _ hl =>
    have n1 : ∀ {l : List Tm}, u ∈ l → tmN u ≤ tmNs l := by
      intro l
      induction l with
      | nil => intro h; cases h
      | cons a l ih =>
        intro h
        rw [tmNs]
        rcases List.mem_cons.1 h with rfl | h
        · omega
        · have := ih h; omega
    have n2 : ∀ {l : List Tm}, u ∈ l → tmD u ≤ tmDs l := by
      intro l
      induction l with
      | nil => intro h; cases h
      | cons a l ih =>
        intro h
        rw [tmDs]
        rcases List.mem_cons.1 h with rfl | h
        · exact Nat.le_max_left _ _
        · have := ih h; exact Nat.le_trans this (Nat.le_max_right _ _)
    rw [tmN] at h2
    rw [tmD] at h3
    have := n1 (l := l) hu
    have := n2 (l := l) hu
    exact ⟨hl u hu, by omega, by omega⟩
theorem at_valid : ∀ (p : List Int) (t o : Tm), validB t = true → atP t p = some o → validB o = true
  | [], t, o, h, e => by cases e; exact h
  | i :: p, t, o, h, e => by
    rw [atP] at e
    by_cases hs : stepB t i = true
    · rw [if_pos hs] at e
      exact at_valid p _ o ((valid_iff _).2 (subt_ok ((valid_iff t).1 h) (kid_mem hs))) e
    · rw [if_neg hs] at e; cases e
theorem at_len : ∀ (p : List Int) (t o : Tm), atP t p = some o → p.length < tmD t
  | [], ⟨op, nm, N, ty, l⟩, o, _ => by rw [tmD]; exact Nat.succ_pos _
  | i :: p, ⟨op, nm, N, ty, l⟩, o, h => by
    rw [atP] at h
    by_cases hs : stepB (.mk op nm N ty l) i = true
    · rw [if_pos hs] at h
      have h1 := at_len p _ o h
      have n2 : ∀ {l : List Tm} {u : Tm}, u ∈ l → tmD u ≤ tmDs l := by
        intro l u
        induction l with
        | nil => intro h; cases h
        | cons a l ih =>
          intro h
          rw [tmDs]
          rcases List.mem_cons.1 h with rfl | h
          · exact Nat.le_max_left _ _
          · have := ih h; exact Nat.le_trans this (Nat.le_max_right _ _)
      have := n2 (kid_mem hs)
      rw [tmD, List.length_cons]
      simp only [Tm.kids] at this
      omega
    · rw [if_neg hs] at h; cases h
def atPS (t : Tm) (p : List Int) : Tm × Int := if validB t then (match atP t p with | some u => (u, 0) | none => (tm0, 12)) else (tm0, 1)
def bndPS (t : Tm) (p : List Int) : List ByteArray × Int := if validB t then (match atP t p with | some _ => (boundP t p, 0) | none => ([], 12)) else ([], 1)
def repPS (t : Tm) (p : List Int) (u : Tm) : Tm × Int :=
  if validB t && validB u then (match atP t p with | some _ => (if validB (putP t p u) then (putP t p u, 0) else (tm0, 5)) | none => (tm0, 12)) else (tm0, 1)
def InL (ok : Nat → Prop) (w : World) (l : List Int) (v : Value) : Prop :=
  ∃ a n c, v = .slice a n c ∧ n = l.length ∧ n ≤ c ∧ ∀ i (h : i < l.length), ∃ g off, a = some ⟨g, off, none⟩ ∧ ok g ∧ w.cell? ⟨g, off + i, none⟩ = some (.int .i64 l[i])
theorem InL.frame {ok : Nat → Prop} {w W : World} {l : List Int} {v : Value} (h : InL ok w l v) (hs : Same ok w W) : InL ok W l v := by
  obtain ⟨a, n, c, h1, h2, h3, h4⟩ := h
  refine ⟨a, n, c, h1, h2, h3, fun i hi => ?_⟩
  obtain ⟨g, off, e, hg, hc⟩ := h4 i hi
  exact ⟨g, off, e, hg, hs.cell hg hc⟩
theorem InL.mono {ok ok' : Nat → Prop} {w : World} {l : List Int} {v : Value} (h : InL ok w l v) (ho : ∀ k, k < w.heap.size → ok k → ok' k) : InL ok' w l v := by
  obtain ⟨a, n, c, h1, h2, h3, h4⟩ := h
  refine ⟨a, n, c, h1, h2, h3, fun i hi => ?_⟩
  obtain ⟨g, off, e, hg, hc⟩ := h4 i hi
  exact ⟨g, off, e, ho _ (cell_lt hc) hg, hc⟩
theorem InL.slice {ok : Nat → Prop} {w : World} {l : List Int} {v : Value} (h : InL ok w l v) : ∃ a c, v = .slice a l.length c := by
  obtain ⟨a, n, c, h1, h2, _⟩ := h
  exact ⟨a, c, by rw [h1, h2]⟩
theorem InL.at {ok : Nat → Prop} {w : World} {l : List Int} {a : Option Addr} {n c : Nat} (h : InL ok w l (.slice a n c)) (i : Nat) (hi : i < l.length) : ∃ g off, a = some ⟨g, off, none⟩ ∧ ok g ∧ w.cell? ⟨g, off + i, none⟩ = some (.int .i64 l[i]) := by
  obtain ⟨a', n', c', h1, h2, h3, h4⟩ := h
  cases h1
  exact h4 i hi
theorem atP_drop {t : Tm} {l : List Int} {k : Nat} (h : k < l.length) : atP t (l.drop k) = if stepB t l[k] then atP (kidI t l[k]) (l.drop (k + 1)) else none := by
  rw [List.drop_eq_getElem_cons h, atP]
theorem stepB_no {t : Tm} {i : Int} (h : i < 0 ∨ (t.kids.length : Int) ≤ i) : stepB t i = false := by
  unfold stepB; simp; omega
theorem stepB_yes {t : Tm} {i : Int} (h1 : 0 ≤ i) (h2 : i < t.kids.length) : stepB t i = true := by
  unfold stepB; simp; omega
def AtP (t : Tm) (l : List Int) (w : World) (e : Ending) (w' : World) : Prop := ∃ tk kk, e = .returned (.tuple #[tmVal ((atP t l).getD tm0) tk kk, .bool (atP t l).isSome]) ∧ TyL (fun q => q < w.heap.size) w' ((atP t l).getD tm0).ty.kids tk ∧ TmL (fun q => q < w.heap.size) w' ((atP t l).getD tm0).kids kk ∧ Kept (fun _ => False) w w'
structure AtI (w : World) (u : Tm) (wr : World) (tk kk : Value) : Prop where
  kp : Kept (fun _ => False) w wr
  b : Blk wr w.heap.size 28 (tmCells u tk kk)
  r : Blk wr (w.heap.size + 1) 28 z27
  ty : TyL (fun q => q < w.heap.size) wr u.ty.kids tk
  tm : TmL (fun q => q < w.heap.size) wr u.kids kk
theorem noop57_any (W : World) (op : Int) (nm : ByteArray) (N k : Int) (q : ByteArray) (a : Option Addr) (n c : Nat) (ma : Option Addr) (mn mc : Nat) (i : Int) : Calls Tryz.prog 57 #[.agg #[.int .i64 op, .string nm, .int .i64 N, .int .i64 k, .string q, .slice a n c, .slice ma mn mc], .int .i64 i] W fun e w' => e = .returned (.tuple #[]) ∧ Kept (fun _ => False) W w' := by
  have K0 : Kept (fun _ => False) W (W.alloc (.cells #[.int .i64 op, .string nm, .int .i64 N, .int .i64 k, .string q, .slice a n c, .slice ma mn mc] 28)) := (Kept.refl _ _).alloc _
  go_enter Tryz.func57, Tryz.ntmps57
  go_wp2_with fail
  go_end0
  exact ⟨rfl, K0⟩
set_option maxRecDepth 100000 in
set_option maxHeartbeats 8000000 in
theorem at_noop57 {t : Tm} {l : List Int} {ok ok' : Nat → Prop} {w : World} {tk kk vl : Value} (h1 : TyL ok w t.ty.kids tk) (h2 : TmL ok w t.kids kk) (hl : InL ok' w l vl) (hb : l.length ≤ 9223372036854775807) :
    Calls Tryz.prog 56 #[tmVal t tk kk, vl, .func (.func 57) #[] #[]] w (AtP t l w) := by
  obtain ⟨a, c, rfl⟩ := hl.slice
  obtain ⟨p, n, cp, rfl⟩ := h1.slice
  obtain ⟨ma, mn, mc, rfl⟩ := h2.slice
  have HIN := Lib.hid (fun W (k : Kept (fun _ => False) w W) => (hl.frame (Same.of_kept k (fun _ _ e => e))).at)
  have HB := Lib.hid hb
  have HJ0 : Hid (AtI w t ((w.alloc (.cells #[.int .i64 t.op, .string t.name, .int .i64 t.n, .int .i64 t.ty.kind, .string t.ty.name, .slice p n cp, .slice ma mn mc] 28)).alloc (.cells #[.int .i64 0, .string ⟨#[]⟩, .int .i64 0, .int .i64 0, .string ⟨#[]⟩, .slice none 0 0, .slice none 0 0] 28)) (.slice p n cp) (.slice ma mn mc)) := Lib.hid
    ⟨((Kept.refl _ _).alloc _).alloc _, (Blk.new w 28 (tmCells t (.slice p n cp) (.slice ma mn mc))).alloc _, Blk.new' 28 _ (by simp), ((h1.mono (fun q hq _ => hq)).frame (Same.alloc _ _)).frame (Same.alloc _ _), ((h2.mono (fun q hq _ => hq)).frame (Same.alloc _ _)).frame (Same.alloc _ _)⟩
  clear hl hb h1 h2
  unfold tmVal
  go_enter Tryz.func56, Tryz.ntmps56
  go_wp2_with fail
  go_loopw [9, 12] (fun x i wr => ∃ (k : Nat) (u : Tm) (tk kk : Value), k ≤ l.length ∧ i = .int .i64 k ∧ AtI w u wr tk kk ∧ Hid (atP t l = atP u (l.drop k))) (fun x i _ => l.length - (intOf i).toNat)
  case atStart => exact ⟨0, t, _, _, Nat.zero_le _, rfl, HJ0.out, Lib.hid rfl⟩
  case round =>
    obtain ⟨k, u, tk, kk, hkl, rfl, hJ, hL⟩ := hrel
    obtain ⟨xa, xn, xc, rfl⟩ := hJ.ty.slice
    obtain ⟨ya, yn, yc, rfl⟩ := hJ.tm.slice
    obtain rfl : yn = u.kids.length := hJ.tm.len
    have gB : ∀ i, wr.cell? ⟨w.heap.size, i, none⟩ = [Value.int .i64 u.op, .string u.name, .int .i64 u.n, .int .i64 u.ty.kind, .string u.ty.name, .slice xa xn xc, .slice ya u.kids.length yc][i]? := hJ.b.cell
    have fB : ∀ i, wr.frozen? ⟨w.heap.size, i, none⟩ = false := hJ.b.frozen
    have fR : ∀ i, wr.frozen? ⟨w.heap.size + 1, i, none⟩ = false := hJ.r.frozen
    have gR : ∀ i, wr.cell? ⟨w.heap.size + 1, i, none⟩ = [Value.int .i64 0, .string ⟨#[]⟩, .int .i64 0, .int .i64 0, .string ⟨#[]⟩, .slice none 0 0, .slice none 0 0][i]? := hJ.r.cell
    have HJ := Lib.hid hJ
    clear hJ
    by_cases hlt : k < l.length
    · have i1 : (k : Int) < (l.length : Int) := by omega
      have i2 : (k : Int) < 9223372036854775807 := by have := HB.out; omega
      obtain ⟨g, off, rfl, _, c0⟩ := HIN.out wr HJ.out.kp k hlt
      have HS := Lib.hid (atP_drop (t := u) hlt)
      generalize hx : l[k] = x at *
      clear hx
      by_cases n1 : x < 0
      · have t1 : decide (x < 0) = true := decide_eq_true n1
        have HN : Hid (atP t l = none) := Lib.hid (by rw [hL.out, HS.out, stepB_no (Or.inl n1)]; rfl)
        clear n1
        go_wp2_with fail
        exact bodyPost_ret (results_ct Tryz.results56 rfl (load_tm (t := tm0) (r7 HJ.out.r rfl))) rfl ⟨_, _, by rw [HN.out]; rfl, by rw [HN.out]; exact .nil (Or.inl rfl), by rw [HN.out]; exact .nil (Or.inl rfl), k7w HJ.out.kp (Or.inr (Nat.le_succ _))⟩
      · have t1 : decide (x < 0) = false := decide_eq_false n1
        by_cases n2 : (u.kids.length : Int) ≤ x
        · have t2 : decide ((u.kids.length : Int) ≤ x) = true := by simp [n2]
          have HN : Hid (atP t l = none) := Lib.hid (by rw [hL.out, HS.out, stepB_no (Or.inr (by omega))]; rfl)
          clear n1 n2
          go_wp2_with fail
          exact bodyPost_ret (results_ct Tryz.results56 rfl (load_tm (t := tm0) (r7 HJ.out.r rfl))) rfl ⟨_, _, by rw [HN.out]; rfl, by rw [HN.out]; exact .nil (Or.inl rfl), by rw [HN.out]; exact .nil (Or.inl rfl), k7w HJ.out.kp (Or.inr (Nat.le_succ _))⟩
        · have t2 : decide ((u.kids.length : Int) ≤ x) = false := decide_eq_false n2
          go_upto_region 6 with (fail)
          clear t1 t2
          obtain ⟨j, rfl⟩ : ∃ j : Nat, x = (j : Int) := ⟨x.toNat, by omega⟩
          have hj : j < u.kids.length := by omega
          have HN : Hid (atP t l = atP u.kids[j] (l.drop (k + 1))) := Lib.hid (by
            rw [hL.out, HS.out, stepB_yes (by omega) (by omega), if_pos rfl, kid_get (by simpa using hj)]; simp)
          clear n1 n2
          go_wp2_with fail
          refine (noop57_any _ _ _ _ _ _ _ _ _ _ _ _ _).mono ?_
          rintro e w6 ⟨rfl, k6⟩
          have HJ6 : Hid (AtI w u w6 (.slice xa xn xc) (.slice ya u.kids.length yc)) := Lib.hid ⟨HJ.out.kp.trans k6, HJ.out.b.kept k6 (fun h => h), HJ.out.r.kept k6 (fun h => h), HJ.out.ty.frame (Same.of_kept k6 (fun _ _ e => e)), HJ.out.tm.frame (Same.of_kept k6 (fun _ _ e => e))⟩
          clear HJ gB fB fR gR k6 c0
          have gB : ∀ i, w6.cell? ⟨w.heap.size, i, none⟩ = [Value.int .i64 u.op, .string u.name, .int .i64 u.n, .int .i64 u.ty.kind, .string u.ty.name, .slice xa xn xc, .slice ya u.kids.length yc][i]? := HJ6.out.b.cell
          have fB : ∀ i, w6.frozen? ⟨w.heap.size, i, none⟩ = false := HJ6.out.b.frozen
          obtain ⟨g', off', pa, pn, pc, qa, qn, qc, rfl, hg', lg', ⟨c0, c1, c2, c3, c4, c5, c6⟩, hty, htm⟩ := HJ6.out.tm.at j hj
          have hjj : (j : Int) < (u.kids.length : Int) := by omega
          have hne : g' ≠ w.heap.size := by omega
          have hn1 : w.heap.size + 1 ≠ w.heap.size := by omega
          have HX : Hid (AtI w u.kids[j] (((((((w6.setCell ⟨w.heap.size, 0, none⟩ (.int .i64 u.kids[j].op)).setCell ⟨w.heap.size, 1, none⟩ (.string u.kids[j].name)).setCell ⟨w.heap.size, 2, none⟩ (.int .i64 u.kids[j].n)).setCell ⟨w.heap.size, 3, none⟩ (.int .i64 u.kids[j].ty.kind)).setCell ⟨w.heap.size, 4, none⟩ (.string u.kids[j].ty.name)).setCell ⟨w.heap.size, 5, none⟩ (.slice pa pn pc)).setCell ⟨w.heap.size, 6, none⟩ (.slice qa qn qc)) (.slice pa pn pc) (.slice qa qn qc)) := Lib.hid
            ⟨k7w HJ6.out.kp (Or.inr (Nat.le_refl _)), r7 HJ6.out.b rfl, (((((((HJ6.out.r.set_other _ _ hn1).set_other _ _ hn1).set_other _ _ hn1).set_other _ _ hn1).set_other _ _ hn1).set_other _ _ hn1).set_other _ _ hn1), hty.frame (set7 (fun q hq => by omega)), htm.frame (set7 (fun q hq => by omega))⟩
          clear hty htm hn1
          go_wp2_with fail
          go_roundw
          case rel => exact ⟨k + 1, _, _, _, by omega, by go_num, HX.out, HN⟩
          case measure => simp [intOf]; omega
    · have hkk : k = l.length := by omega
      subst hkk
      have HN : Hid (atP t l = some u) := Lib.hid (by rw [hL.out, List.drop_length]; rfl)
      go_wp2_with fail
      exact bodyPost_ret (results_ct Tryz.results56 rfl (load_tm (t := u) (r7 HJ.out.r rfl))) rfl ⟨_, _, by rw [HN.out]; rfl, by rw [HN.out]; exact HJ.out.ty.frame (set7 (fun q hq => by omega)), by rw [HN.out]; exact HJ.out.tm.frame (set7 (fun q hq => by omega)), k7w HJ.out.kp (Or.inr (Nat.le_succ _))⟩
theorem noop61_any (W : World) (op : Int) (nm : ByteArray) (N k : Int) (q : ByteArray) (a : Option Addr) (n c : Nat) (ma : Option Addr) (mn mc : Nat) (i : Int) : Calls Tryz.prog 61 #[.agg #[.int .i64 op, .string nm, .int .i64 N, .int .i64 k, .string q, .slice a n c, .slice ma mn mc], .int .i64 i] W fun e w' => e = .returned (.tuple #[]) ∧ Kept (fun _ => False) W w' := by
  have K0 : Kept (fun _ => False) W (W.alloc (.cells #[.int .i64 op, .string nm, .int .i64 N, .int .i64 k, .string q, .slice a n c, .slice ma mn mc] 28)) := (Kept.refl _ _).alloc _
  go_enter Tryz.func61, Tryz.ntmps61
  go_wp2_with fail
  go_end0
  exact ⟨rfl, K0⟩
set_option maxRecDepth 100000 in
set_option maxHeartbeats 8000000 in
theorem at_noop61 {t : Tm} {l : List Int} {ok ok' : Nat → Prop} {w : World} {tk kk vl : Value} (h1 : TyL ok w t.ty.kids tk) (h2 : TmL ok w t.kids kk) (hl : InL ok' w l vl) (hb : l.length ≤ 9223372036854775807) :
    Calls Tryz.prog 56 #[tmVal t tk kk, vl, .func (.func 61) #[] #[]] w (AtP t l w) := by
  obtain ⟨a, c, rfl⟩ := hl.slice
  obtain ⟨p, n, cp, rfl⟩ := h1.slice
  obtain ⟨ma, mn, mc, rfl⟩ := h2.slice
  have HIN := Lib.hid (fun W (k : Kept (fun _ => False) w W) => (hl.frame (Same.of_kept k (fun _ _ e => e))).at)
  have HB := Lib.hid hb
  have HJ0 : Hid (AtI w t ((w.alloc (.cells #[.int .i64 t.op, .string t.name, .int .i64 t.n, .int .i64 t.ty.kind, .string t.ty.name, .slice p n cp, .slice ma mn mc] 28)).alloc (.cells #[.int .i64 0, .string ⟨#[]⟩, .int .i64 0, .int .i64 0, .string ⟨#[]⟩, .slice none 0 0, .slice none 0 0] 28)) (.slice p n cp) (.slice ma mn mc)) := Lib.hid
    ⟨((Kept.refl _ _).alloc _).alloc _, (Blk.new w 28 (tmCells t (.slice p n cp) (.slice ma mn mc))).alloc _, Blk.new' 28 _ (by simp), ((h1.mono (fun q hq _ => hq)).frame (Same.alloc _ _)).frame (Same.alloc _ _), ((h2.mono (fun q hq _ => hq)).frame (Same.alloc _ _)).frame (Same.alloc _ _)⟩
  clear hl hb h1 h2
  unfold tmVal
  go_enter Tryz.func56, Tryz.ntmps56
  go_wp2_with fail
  go_loopw [9, 12] (fun x i wr => ∃ (k : Nat) (u : Tm) (tk kk : Value), k ≤ l.length ∧ i = .int .i64 k ∧ AtI w u wr tk kk ∧ Hid (atP t l = atP u (l.drop k))) (fun x i _ => l.length - (intOf i).toNat)
  case atStart => exact ⟨0, t, _, _, Nat.zero_le _, rfl, HJ0.out, Lib.hid rfl⟩
  case round =>
    obtain ⟨k, u, tk, kk, hkl, rfl, hJ, hL⟩ := hrel
    obtain ⟨xa, xn, xc, rfl⟩ := hJ.ty.slice
    obtain ⟨ya, yn, yc, rfl⟩ := hJ.tm.slice
    obtain rfl : yn = u.kids.length := hJ.tm.len
    have gB : ∀ i, wr.cell? ⟨w.heap.size, i, none⟩ = [Value.int .i64 u.op, .string u.name, .int .i64 u.n, .int .i64 u.ty.kind, .string u.ty.name, .slice xa xn xc, .slice ya u.kids.length yc][i]? := hJ.b.cell
    have fB : ∀ i, wr.frozen? ⟨w.heap.size, i, none⟩ = false := hJ.b.frozen
    have fR : ∀ i, wr.frozen? ⟨w.heap.size + 1, i, none⟩ = false := hJ.r.frozen
    have gR : ∀ i, wr.cell? ⟨w.heap.size + 1, i, none⟩ = [Value.int .i64 0, .string ⟨#[]⟩, .int .i64 0, .int .i64 0, .string ⟨#[]⟩, .slice none 0 0, .slice none 0 0][i]? := hJ.r.cell
    have HJ := Lib.hid hJ
    clear hJ
    by_cases hlt : k < l.length
    · have i1 : (k : Int) < (l.length : Int) := by omega
      have i2 : (k : Int) < 9223372036854775807 := by have := HB.out; omega
      obtain ⟨g, off, rfl, _, c0⟩ := HIN.out wr HJ.out.kp k hlt
      have HS := Lib.hid (atP_drop (t := u) hlt)
      generalize hx : l[k] = x at *
      clear hx
      by_cases n1 : x < 0
      · have t1 : decide (x < 0) = true := decide_eq_true n1
        have HN : Hid (atP t l = none) := Lib.hid (by rw [hL.out, HS.out, stepB_no (Or.inl n1)]; rfl)
        clear n1
        go_wp2_with fail
        exact bodyPost_ret (results_ct Tryz.results56 rfl (load_tm (t := tm0) (r7 HJ.out.r rfl))) rfl ⟨_, _, by rw [HN.out]; rfl, by rw [HN.out]; exact .nil (Or.inl rfl), by rw [HN.out]; exact .nil (Or.inl rfl), k7w HJ.out.kp (Or.inr (Nat.le_succ _))⟩
      · have t1 : decide (x < 0) = false := decide_eq_false n1
        by_cases n2 : (u.kids.length : Int) ≤ x
        · have t2 : decide ((u.kids.length : Int) ≤ x) = true := by simp [n2]
          have HN : Hid (atP t l = none) := Lib.hid (by rw [hL.out, HS.out, stepB_no (Or.inr (by omega))]; rfl)
          clear n1 n2
          go_wp2_with fail
          exact bodyPost_ret (results_ct Tryz.results56 rfl (load_tm (t := tm0) (r7 HJ.out.r rfl))) rfl ⟨_, _, by rw [HN.out]; rfl, by rw [HN.out]; exact .nil (Or.inl rfl), by rw [HN.out]; exact .nil (Or.inl rfl), k7w HJ.out.kp (Or.inr (Nat.le_succ _))⟩
        · have t2 : decide ((u.kids.length : Int) ≤ x) = false := decide_eq_false n2
          go_upto_region 6 with (fail)
          clear t1 t2
          obtain ⟨j, rfl⟩ : ∃ j : Nat, x = (j : Int) := ⟨x.toNat, by omega⟩
          have hj : j < u.kids.length := by omega
          have HN : Hid (atP t l = atP u.kids[j] (l.drop (k + 1))) := Lib.hid (by
            rw [hL.out, HS.out, stepB_yes (by omega) (by omega), if_pos rfl, kid_get (by simpa using hj)]; simp)
          clear n1 n2
          go_wp2_with fail
          refine (noop61_any _ _ _ _ _ _ _ _ _ _ _ _ _).mono ?_
          rintro e w6 ⟨rfl, k6⟩
          have HJ6 : Hid (AtI w u w6 (.slice xa xn xc) (.slice ya u.kids.length yc)) := Lib.hid ⟨HJ.out.kp.trans k6, HJ.out.b.kept k6 (fun h => h), HJ.out.r.kept k6 (fun h => h), HJ.out.ty.frame (Same.of_kept k6 (fun _ _ e => e)), HJ.out.tm.frame (Same.of_kept k6 (fun _ _ e => e))⟩
          clear HJ gB fB fR gR k6 c0
          have gB : ∀ i, w6.cell? ⟨w.heap.size, i, none⟩ = [Value.int .i64 u.op, .string u.name, .int .i64 u.n, .int .i64 u.ty.kind, .string u.ty.name, .slice xa xn xc, .slice ya u.kids.length yc][i]? := HJ6.out.b.cell
          have fB : ∀ i, w6.frozen? ⟨w.heap.size, i, none⟩ = false := HJ6.out.b.frozen
          obtain ⟨g', off', pa, pn, pc, qa, qn, qc, rfl, hg', lg', ⟨c0, c1, c2, c3, c4, c5, c6⟩, hty, htm⟩ := HJ6.out.tm.at j hj
          have hjj : (j : Int) < (u.kids.length : Int) := by omega
          have hne : g' ≠ w.heap.size := by omega
          have hn1 : w.heap.size + 1 ≠ w.heap.size := by omega
          have HX : Hid (AtI w u.kids[j] (((((((w6.setCell ⟨w.heap.size, 0, none⟩ (.int .i64 u.kids[j].op)).setCell ⟨w.heap.size, 1, none⟩ (.string u.kids[j].name)).setCell ⟨w.heap.size, 2, none⟩ (.int .i64 u.kids[j].n)).setCell ⟨w.heap.size, 3, none⟩ (.int .i64 u.kids[j].ty.kind)).setCell ⟨w.heap.size, 4, none⟩ (.string u.kids[j].ty.name)).setCell ⟨w.heap.size, 5, none⟩ (.slice pa pn pc)).setCell ⟨w.heap.size, 6, none⟩ (.slice qa qn qc)) (.slice pa pn pc) (.slice qa qn qc)) := Lib.hid
            ⟨k7w HJ6.out.kp (Or.inr (Nat.le_refl _)), r7 HJ6.out.b rfl, (((((((HJ6.out.r.set_other _ _ hn1).set_other _ _ hn1).set_other _ _ hn1).set_other _ _ hn1).set_other _ _ hn1).set_other _ _ hn1).set_other _ _ hn1), hty.frame (set7 (fun q hq => by omega)), htm.frame (set7 (fun q hq => by omega))⟩
          clear hty htm hn1
          go_wp2_with fail
          go_roundw
          case rel => exact ⟨k + 1, _, _, _, by omega, by go_num, HX.out, HN⟩
          case measure => simp [intOf]; omega
    · have hkk : k = l.length := by omega
      subst hkk
      have HN : Hid (atP t l = some u) := Lib.hid (by rw [hL.out, List.drop_length]; rfl)
      go_wp2_with fail
      exact bodyPost_ret (results_ct Tryz.results56 rfl (load_tm (t := u) (r7 HJ.out.r rfl))) rfl ⟨_, _, by rw [HN.out]; rfl, by rw [HN.out]; exact HJ.out.ty.frame (set7 (fun q hq => by omega)), by rw [HN.out]; exact HJ.out.tm.frame (set7 (fun q hq => by omega)), k7w HJ.out.kp (Or.inr (Nat.le_succ _))⟩
structure KRow (W : World) (base g : Nat) (l : List Tm) : Prop where
  row : ∃ (L : List Value) (K M : Nat → Value), Blk W g 28 L ∧ l.length * 7 ≤ L.length ∧ ∀ i (h : i < l.length), L[i * 7]? = some (.int .i64 l[i].op) ∧ L[i * 7 + 1]? = some (.string l[i].name) ∧ L[i * 7 + 2]? = some (.int .i64 l[i].n) ∧ L[i * 7 + 3]? = some (.int .i64 l[i].ty.kind) ∧ L[i * 7 + 4]? = some (.string l[i].ty.name) ∧ L[i * 7 + 5]? = some (K i) ∧ L[i * 7 + 6]? = some (M i) ∧ TyL (fun q => base ≤ q ∧ q ≠ g) W l[i].ty.kids (K i) ∧ TmL (fun q => base ≤ q ∧ q ≠ g) W l[i].kids (M i)
theorem KRow.tml {W : World} {base g c : Nat} {l : List Tm} (h : KRow W base g l) (hg : base ≤ g) (hc : l.length ≤ c) : TmL (fun q => base ≤ q) W l (.slice (some ⟨g, 0, none⟩) l.length c) := by
  by_cases hne : l = []
  · subst hne; exact .nil (Or.inr ⟨_, _, rfl⟩)
  · obtain ⟨L, K, M, bG, hL, hR⟩ := h.row
    refine TmL.mk K M hne hg hc (fun i hi => ?_) (fun i hi => ?_) (fun i hi => ?_)
    · obtain ⟨e0, e1, e2, e3, e4, e5, e6, e7, e8⟩ := hR i hi
      rw [Nat.zero_add]
      exact ⟨by rw [bG.cell]; exact e0, by rw [bG.cell]; exact e1, by rw [bG.cell]; exact e2, by rw [bG.cell]; exact e3, by rw [bG.cell]; exact e4, by rw [bG.cell]; exact e5, by rw [bG.cell]; exact e6⟩
    · exact (hR i hi).2.2.2.2.2.2.2.1.mono (fun q _ h => h.1)
    · exact (hR i hi).2.2.2.2.2.2.2.2.mono (fun q _ h => h.1)
theorem KRow.kept {W W' : World} {base g : Nat} {l : List Tm} (h : KRow W base g l) {S : Nat → Prop} (k : Kept S W W') (h1 : ¬ S g) (h2 : ∀ q, base ≤ q → q ≠ g → ¬ S q) : KRow W' base g l := by
  obtain ⟨L, K, M, bG, hL, hR⟩ := h.row
  refine ⟨⟨L, K, M, bG.kept k h1, hL, fun i hi => ?_⟩⟩
  obtain ⟨e0, e1, e2, e3, e4, e5, e6, e7, e8⟩ := hR i hi
  exact ⟨e0, e1, e2, e3, e4, e5, e6, e7.frame (Same.of_kept k (fun q hq => h2 q hq.1 hq.2)), e8.frame (Same.of_kept k (fun q hq => h2 q hq.1 hq.2))⟩
theorem KRow.put {W : World} {base g j : Nat} {l : List Tm} {u : Tm} {v x : Value} (h : KRow W base g l) (hj : j < l.length) (hv : TyL (fun q => base ≤ q ∧ q ≠ g) W u.ty.kids v) (hx : TmL (fun q => base ≤ q ∧ q ≠ g) W u.kids x) :
    KRow (((((((W.setCell ⟨g, j * 7, none⟩ (.int .i64 u.op)).setCell ⟨g, j * 7 + 1, none⟩ (.string u.name)).setCell ⟨g, j * 7 + 2, none⟩ (.int .i64 u.n)).setCell ⟨g, j * 7 + 3, none⟩ (.int .i64 u.ty.kind)).setCell ⟨g, j * 7 + 4, none⟩ (.string u.ty.name)).setCell ⟨g, j * 7 + 5, none⟩ v).setCell ⟨g, j * 7 + 6, none⟩ x) base g (l.set j u) := by
  obtain ⟨L, K, M, bG, hL, hR⟩ := h.row
  refine ⟨⟨((((((L.set (j * 7) (.int .i64 u.op)).set (j * 7 + 1) (.string u.name)).set (j * 7 + 2) (.int .i64 u.n)).set (j * 7 + 3) (.int .i64 u.ty.kind)).set (j * 7 + 4) (.string u.ty.name)).set (j * 7 + 5) v).set (j * 7 + 6) x, fun i => if i = j then v else K i, fun i => if i = j then x else M i,
    (((((((bG.set _ _).set _ _).set _ _).set _ _).set _ _).set _ _).set _ _), by simpa using hL, fun i hi => ?_⟩⟩
  have hi' : i < l.length := by simpa using hi
  by_cases hij : i = j
  · subst hij
    simp only [List.getElem_set_self, if_pos]
    refine ⟨?_, ?_, ?_, ?_, ?_, ?_, ?_, ?_, ?_⟩
    · rw [List.getElem?_set_ne (by omega), List.getElem?_set_ne (by omega), List.getElem?_set_ne (by omega), List.getElem?_set_ne (by omega), List.getElem?_set_ne (by omega), List.getElem?_set_ne (by omega), List.getElem?_set_self (by omega)]
    · rw [List.getElem?_set_ne (by omega), List.getElem?_set_ne (by omega), List.getElem?_set_ne (by omega), List.getElem?_set_ne (by omega), List.getElem?_set_ne (by omega), List.getElem?_set_self (by simp; omega)]
    · rw [List.getElem?_set_ne (by omega), List.getElem?_set_ne (by omega), List.getElem?_set_ne (by omega), List.getElem?_set_ne (by omega), List.getElem?_set_self (by simp; omega)]
    · rw [List.getElem?_set_ne (by omega), List.getElem?_set_ne (by omega), List.getElem?_set_ne (by omega), List.getElem?_set_self (by simp; omega)]
    · rw [List.getElem?_set_ne (by omega), List.getElem?_set_ne (by omega), List.getElem?_set_self (by simp; omega)]
    · rw [List.getElem?_set_ne (by omega), List.getElem?_set_self (by simp; omega)]
    · rw [List.getElem?_set_self (by simp; omega)]
    · exact hv.frame (set7 (fun q h => h.2))
    · exact hx.frame (set7 (fun q h => h.2))
  · obtain ⟨e0, e1, e2, e3, e4, e5, e6, e7, e8⟩ := hR i hi'
    have eg : (l.set j u)[i] = l[i] := List.getElem_set_ne (Ne.symm hij) _
    rw [eg]
    simp only [if_neg hij]
    refine ⟨?_, ?_, ?_, ?_, ?_, ?_, ?_, e7.frame (set7 (fun q h => h.2)), e8.frame (set7 (fun q h => h.2))⟩
    all_goals (rw [List.getElem?_set_ne (by omega), List.getElem?_set_ne (by omega), List.getElem?_set_ne (by omega), List.getElem?_set_ne (by omega), List.getElem?_set_ne (by omega), List.getElem?_set_ne (by omega), List.getElem?_set_ne (by omega)]; assumption)
def ClP2 (t : Tm) (w : World) (e : Ending) (w' : World) : Prop := ∃ v g c, e = .returned (tmVal t v (.slice (some ⟨g, 0, none⟩) t.kids.length c)) ∧ t.kids.length ≤ c ∧ w.heap.size ≤ g ∧ TyL (fun q => w.heap.size ≤ q ∧ q ≠ g) w' t.ty.kids v ∧ KRow w' w.heap.size g t.kids ∧ Kept (fun _ => False) w w'
set_option maxRecDepth 100000 in
set_option maxHeartbeats 16000000 in
theorem clone_some2 {op : Int} {nm : ByteArray} {N : Int} {ty : Ty} {w : World} {ok : Nat → Prop} {ta : Option Addr} {tn tc : Nat} (hcp : CpC ty) (hty : TyL ok w ty.kids (.slice ta tn tc)) {l : List Tm} {b off cp : Nat} (IH : ∀ t, t ∈ l → ClC t) (hn : l.length ≤ 1000000) (K M : Nat → Value) (hcell : ∀ i (h : i < l.length), w.cell? ⟨b, off + i * 7, none⟩ = some (.int .i64 l[i].op) ∧ w.cell? ⟨b, off + i * 7 + 1, none⟩ = some (.string l[i].name) ∧ w.cell? ⟨b, off + i * 7 + 2, none⟩ = some (.int .i64 l[i].n) ∧ w.cell? ⟨b, off + i * 7 + 3, none⟩ = some (.int .i64 l[i].ty.kind) ∧ w.cell? ⟨b, off + i * 7 + 4, none⟩ = some (.string l[i].ty.name) ∧ w.cell? ⟨b, off + i * 7 + 5, none⟩ = some (K i) ∧ w.cell? ⟨b, off + i * 7 + 6, none⟩ = some (M i)) (hk : ∀ i (h : i < l.length), TyL ok w l[i].ty.kids (K i)) (hm : ∀ i (h : i < l.length), TmL ok w l[i].kids (M i)) : Calls Tryz.prog 58 #[.agg #[.int .i64 op, .string nm, .int .i64 N, .int .i64 ty.kind, .string ty.name, .slice ta tn tc, .slice (some ⟨b, off, none⟩) l.length cp]] w (ClP2 (.mk op nm N ty l) w) := by
  have HCELL := Lib.hid hcell
  have HK := Lib.hid hk
  have HM := Lib.hid hm
  have HIH := Lib.hid IH
  clear hcell hk hm IH
  have hone : Hid (∀ j, j < l.length * 7 → ∃ v, w.cell? ⟨b, off + j, none⟩ = some v ∧ v.oneCell' = true) := Lib.hid (by
    intro j hj
    obtain ⟨i, r, hi, hr, rfl⟩ := seven hj
    have c := HCELL.out i hi
    rcases (show r = 0 ∨ r = 1 ∨ r = 2 ∨ r = 3 ∨ r = 4 ∨ r = 5 ∨ r = 6 by omega) with rfl | rfl | rfl | rfl | rfl | rfl | rfl
    · exact ⟨_, c.1, rfl⟩
    · exact ⟨_, by rw [show off + (i * 7 + 1) = off + i * 7 + 1 by omega]; exact c.2.1, rfl⟩
    · exact ⟨_, by rw [show off + (i * 7 + 2) = off + i * 7 + 2 by omega]; exact c.2.2.1, rfl⟩
    · exact ⟨_, by rw [show off + (i * 7 + 3) = off + i * 7 + 3 by omega]; exact c.2.2.2.1, rfl⟩
    · exact ⟨_, by rw [show off + (i * 7 + 4) = off + i * 7 + 4 by omega]; exact c.2.2.2.2.1, rfl⟩
    · obtain ⟨a, n, c', hh⟩ := (HK.out i hi).slice
      exact ⟨_, by rw [show off + (i * 7 + 5) = off + i * 7 + 5 by omega]; exact c.2.2.2.2.2.1, by rw [hh]; rfl⟩
    · obtain ⟨a, n, c', hh⟩ := (HM.out i hi).slice
      exact ⟨_, by rw [show off + (i * 7 + 6) = off + i * 7 + 6 by omega]; exact c.2.2.2.2.2.2, by rw [hh]; rfl⟩)
  have bA : Blk ((w.alloc (.cells #[.int .i64 op, .string nm, .int .i64 N, .int .i64 ty.kind, .string ty.name, .slice ta tn tc, .slice (some ⟨b, off, none⟩) l.length cp] 28)).alloc (.cells #[.int .i64 0, .string ⟨#[]⟩, .int .i64 0, .int .i64 0, .string ⟨#[]⟩, .slice none 0 0, .slice none 0 0] 28)) w.heap.size 28 [.int .i64 op, .string nm, .int .i64 N, .int .i64 ty.kind, .string ty.name, .slice ta tn tc, .slice (some ⟨b, off, none⟩) l.length cp] := (Blk.new w 28 _).alloc _
  have bR : Blk ((w.alloc (.cells #[.int .i64 op, .string nm, .int .i64 N, .int .i64 ty.kind, .string ty.name, .slice ta tn tc, .slice (some ⟨b, off, none⟩) l.length cp] 28)).alloc (.cells #[.int .i64 0, .string ⟨#[]⟩, .int .i64 0, .int .i64 0, .string ⟨#[]⟩, .slice none 0 0, .slice none 0 0] 28)) (w.heap.size + 1) 28 z27 := Blk.new' 28 _ (by simp)
  have K0 : Kept (fun _ => False) w ((w.alloc (.cells #[.int .i64 op, .string nm, .int .i64 N, .int .i64 ty.kind, .string ty.name, .slice ta tn tc, .slice (some ⟨b, off, none⟩) l.length cp] 28)).alloc (.cells #[.int .i64 0, .string ⟨#[]⟩, .int .i64 0, .int .i64 0, .string ⟨#[]⟩, .slice none 0 0, .slice none 0 0] 28)) := ((Kept.refl _ _).alloc _).alloc _
  have Z0 : Hid (((w.alloc (.cells #[.int .i64 op, .string nm, .int .i64 N, .int .i64 ty.kind, .string ty.name, .slice ta tn tc, .slice (some ⟨b, off, none⟩) l.length cp] 28)).alloc (.cells #[.int .i64 0, .string ⟨#[]⟩, .int .i64 0, .int .i64 0, .string ⟨#[]⟩, .slice none 0 0, .slice none 0 0] 28)).heap.size = w.heap.size + 2) := Lib.hid (by simp)
  have HT0 := Lib.hid (hcp ((w.alloc (.cells #[.int .i64 op, .string nm, .int .i64 N, .int .i64 ty.kind, .string ty.name, .slice ta tn tc, .slice (some ⟨b, off, none⟩) l.length cp] 28)).alloc (.cells #[.int .i64 0, .string ⟨#[]⟩, .int .i64 0, .int .i64 0, .string ⟨#[]⟩, .slice none 0 0, .slice none 0 0] 28)) ok (.slice ta tn tc) ((hty.frame (Same.alloc w (.cells #[.int .i64 op, .string nm, .int .i64 N, .int .i64 ty.kind, .string ty.name, .slice ta tn tc, .slice (some ⟨b, off, none⟩) l.length cp] 28))).frame (Same.alloc _ _)))
  clear hcp
  go_enter Tryz.func58, Tryz.ntmps58
  go_wp2_with fail
  refine HT0.out.mono ?_
  rintro e w1 ⟨tv, rfl, hT1, k1⟩
  obtain ⟨va, vn, vc, rfl⟩ := hT1.slice
  unfold tyVal
  rw [Z0.out] at hT1
  have bA1 := bA.kept k1 (fun h => h)
  have bR1 := bR.kept k1 (fun h => h)
  have K1 := K0.trans k1
  have a0 : w1.cell? ⟨w.heap.size, 0, none⟩ = some (.int .i64 op) := bA1.cell 0
  have a1 : w1.cell? ⟨w.heap.size, 1, none⟩ = some (.string nm) := bA1.cell 1
  have a2 : w1.cell? ⟨w.heap.size, 2, none⟩ = some (.int .i64 N) := bA1.cell 2
  have a3 : w1.cell? ⟨w.heap.size, 3, none⟩ = some (.int .i64 ty.kind) := bA1.cell 3
  have a4 : w1.cell? ⟨w.heap.size, 4, none⟩ = some (.string ty.name) := bA1.cell 4
  have a5 : w1.cell? ⟨w.heap.size, 5, none⟩ = some (.slice ta tn tc) := bA1.cell 5
  have a6 : w1.cell? ⟨w.heap.size, 6, none⟩ = some (.slice (some ⟨b, off, none⟩) l.length cp) := bA1.cell 6
  have fa3 := bA1.frozen 3
  have fa4 := bA1.frozen 4
  have fa5 := bA1.frozen 5
  have fa6 := bA1.frozen 6
  go_wp2_with fail
  have K1s := (((K1.setCell (p := ⟨w.heap.size, 3, none⟩) (Or.inr (by show w.heap.size ≤ w.heap.size; omega)) (.int .i64 ty.kind)).setCell (p := ⟨w.heap.size, 4, none⟩) (Or.inr (by show w.heap.size ≤ w.heap.size; omega)) (.string ty.name)).setCell (p := ⟨w.heap.size, 5, none⟩) (Or.inr (by show w.heap.size ≤ w.heap.size; omega)) (.slice va vn vc))
  refine (cloneTm_some b off l.length cp hn (fun j hj => ?_)).mono ?_
  · obtain ⟨v, hv, h1⟩ := hone.out j hj
    exact ⟨v, by rw [K1s.cell (p := ⟨b, off + j, none⟩) (cell_lt hv) (fun h => h)]; exact hv, h1⟩
  rintro e w2 ⟨v, rfl, ⟨g, cap, L, rfl, hcap, hg, hL, hLl, hLc⟩, k2⟩
  have hsz1 := K1.size
  have z1 := bR1.lt
  have hg1 : w1.heap.size ≤ g := by simpa [World.setCell] using hg
  have hg2 : w.heap.size + 2 ≤ g := Nat.le_trans z1 hg1
  have bA2 := (((bA1.set 3 (.int .i64 ty.kind)).set 4 (.string ty.name)).set 5 (.slice va vn vc)).kept k2 (fun h => h)
  have bR2 := (((bR1.set_other _ _ (by show w.heap.size + 1 ≠ w.heap.size; omega)).set_other _ _ (by show w.heap.size + 1 ≠ w.heap.size; omega)).set_other _ _ (by show w.heap.size + 1 ≠ w.heap.size; omega)).kept k2 (fun h => h)
  have K2 := K1s.trans k2
  have HT1 : Hid (TyL (fun q => w.heap.size + 2 ≤ q ∧ q ≠ g) w2 ty.kids (.slice va vn vc)) := Lib.hid ((hT1.mono (ok' := fun q => w.heap.size + 2 ≤ q ∧ q ≠ g) (fun q hq h => ⟨h, by omega⟩)).frame (Same.trans (Same.of_kept (S := (· = w.heap.size)) ((((Kept.refl (fun x => x = w.heap.size) w1).setCell (p := ⟨w.heap.size, 3, none⟩) (Or.inl rfl) (.int .i64 ty.kind)).setCell (p := ⟨w.heap.size, 4, none⟩) (Or.inl rfl) (.string ty.name)).setCell (p := ⟨w.heap.size, 5, none⟩) (Or.inl rfl) (.slice va vn vc)) (fun q h e => by omega)) (Same.of_kept k2 (fun _ _ e => e)) (by simp [World.setCell])))
  have HLC := Lib.hid hLc
  have HLL := Lib.hid hLl
  have HG := Lib.hid hg2
  have HK1s := Lib.hid K1s
  clear a0 a1 a2 a3 a4 a5 a6 fa3 fa4 fa5 fa6 hLc hLl hg2 hg hg1 K1s hT1
  have a6 : w2.cell? ⟨w.heap.size, 6, none⟩ = some (.slice (some ⟨b, off, none⟩) l.length cp) := bA2.cell 6
  have fa6 := bA2.frozen 6
  go_wp2_with (go_at_call 53; refine (clipTm_some _ g l.length cap hcap hn).mono ?_; rintro e w' ⟨rfl, rfl⟩)
  have c1 : CJ w l [.int .i64 op, .string nm, .int .i64 N, .int .i64 ty.kind, .string ty.name, .slice va vn vc] l.length b off g 0 (w2.setCell ⟨w.heap.size, 6, none⟩ (.slice (some ⟨g, 0, none⟩) l.length l.length)) := by
    have hg := HG.out
    refine ⟨K2.setCell (p := ⟨w.heap.size, 6, none⟩) (Or.inr (Nat.le_refl _)) _, bA2.set 6 _, bR2.set_other _ _ (by show w.heap.size + 1 ≠ w.heap.size; omega), L, K, M, hL.set_other _ _ (by show g ≠ w.heap.size; omega), HLL.out, fun j _ hj => ?_, fun i hi => absurd hi (Nat.not_lt_zero _)⟩
    rw [HLC.out j hj]
    obtain ⟨v, hv, _⟩ := hone.out j hj
    rw [HK1s.out.cell (p := ⟨b, off + j, none⟩) (cell_lt hv) (fun h => h)]
  have HT2 : Hid (TyL (fun q => w.heap.size + 2 ≤ q ∧ q ≠ g) (w2.setCell ⟨w.heap.size, 6, none⟩ (.slice (some ⟨g, 0, none⟩) l.length l.length)) ty.kids (.slice va vn vc)) := Lib.hid (HT1.out.frame (Same.of_kept (S := (· = w.heap.size)) ((Kept.refl (fun x => x = w.heap.size) w2).setCell (p := ⟨w.heap.size, 6, none⟩) (Or.inl rfl) _) (fun q h e => by omega)))
  have C1 := Lib.hid c1
  clear c1 a6 fa6 bA1 bR1 bA bR hL bA2 bR2 K1 K2
  go_loopw [17] (fun i wr => ∃ k : Nat, k ≤ l.length ∧ i = .int .i64 k ∧ Hid (CJ w l [.int .i64 op, .string nm, .int .i64 N, .int .i64 ty.kind, .string ty.name, .slice va vn vc] l.length b off g k wr) ∧ Hid (TyL (fun q => w.heap.size + 2 ≤ q ∧ q ≠ g) wr ty.kids (.slice va vn vc))) (fun i _ => l.length - (intOf i).toNat)
  case atStart => exact ⟨0, Nat.zero_le _, rfl, C1, HT2⟩
  case round =>
    obtain ⟨k, hkl, rfl, HCI, HTk⟩ := hrel
    have hg := HG.out
    have qA := HCI.out.a
    have qR := HCI.out.r
    have kp := HCI.out.kp
    obtain ⟨L, K', M', bG, hLn, hLo, hLd⟩ := HCI.out.row
    have HLo := Lib.hid hLo
    have HLd := Lib.hid hLd
    have HLn := Lib.hid hLn
    have BG := Lib.hid bG
    clear hLo hLd hLn bG
    by_cases hlt : k < l.length
    · obtain ⟨xa, xn, xc, hKk⟩ := (HK.out k hlt).slice
      obtain ⟨ya, yn, yc, hMk⟩ := (HM.out k hlt).slice
      have c0 : wr.cell? ⟨g, k * 7, none⟩ = some (.int .i64 l[k].op) := by
        rw [BG.out.cell, HLo.out (k * 7) (by omega) (by omega)]; exact (HCELL.out k hlt).1
      have c1 : wr.cell? ⟨g, k * 7 + 1, none⟩ = some (.string l[k].name) := by
        rw [BG.out.cell, HLo.out (k * 7 + 1) (by omega) (by omega)]; exact (HCELL.out k hlt).2.1
      have c2 : wr.cell? ⟨g, k * 7 + 2, none⟩ = some (.int .i64 l[k].n) := by
        rw [BG.out.cell, HLo.out (k * 7 + 2) (by omega) (by omega)]; exact (HCELL.out k hlt).2.2.1
      have c3 : wr.cell? ⟨g, k * 7 + 3, none⟩ = some (.int .i64 l[k].ty.kind) := by
        rw [BG.out.cell, HLo.out (k * 7 + 3) (by omega) (by omega)]; exact (HCELL.out k hlt).2.2.2.1
      have c4 : wr.cell? ⟨g, k * 7 + 4, none⟩ = some (.string l[k].ty.name) := by
        rw [BG.out.cell, HLo.out (k * 7 + 4) (by omega) (by omega)]; exact (HCELL.out k hlt).2.2.2.2.1
      have c5 : wr.cell? ⟨g, k * 7 + 5, none⟩ = some (.slice xa xn xc) := by
        rw [BG.out.cell, HLo.out (k * 7 + 5) (by omega) (by omega), ← hKk]; exact (HCELL.out k hlt).2.2.2.2.2.1
      have c6 : wr.cell? ⟨g, k * 7 + 6, none⟩ = some (.slice ya yn yc) := by
        rw [BG.out.cell, HLo.out (k * 7 + 6) (by omega) (by omega), ← hMk]; exact (HCELL.out k hlt).2.2.2.2.2.2
      have i1 : (k : Int) < (l.length : Int) := by omega
      have a6 : wr.cell? ⟨w.heap.size, 6, none⟩ = some (.slice (some ⟨g, 0, none⟩) l.length l.length) := qA.cell 6
      have lA := qA.lt
      have lG := BG.out.lt
      have hcon := Lib.hid (HIH.out _ (List.getElem_mem hlt))
      have hty' : Hid (TyL ok wr l[k].ty.kids (.slice xa xn xc)) := Lib.hid (by rw [← hKk]; exact (HK.out k hlt).frame (Same.of_kept kp (fun _ _ e => e)))
      have htm' : Hid (TmL ok wr l[k].kids (.slice ya yn yc)) := Lib.hid (by rw [← hMk]; exact (HM.out k hlt).frame (Same.of_kept kp (fun _ _ e => e)))
      clear hKk hMk
      go_wp2_with fail
      have bX : Blk (wr.alloc (.cells #[.int .i64 l[k].op, .string l[k].name, .int .i64 l[k].n, .int .i64 l[k].ty.kind, .string l[k].ty.name, .slice xa xn xc, .slice ya yn yc] 28)) wr.heap.size 28 [.int .i64 l[k].op, .string l[k].name, .int .i64 l[k].n, .int .i64 l[k].ty.kind, .string l[k].ty.name, .slice xa xn xc, .slice ya yn yc] := Blk.new wr 28 _
      have hAX : w.heap.size ≠ wr.heap.size := by omega
      have hGX : g ≠ wr.heap.size := by omega
      have hAG : g ≠ w.heap.size := by omega
      refine wp_gen (F := fun W3 => Kept (fun _ => False) wr W3 ∧ Blk W3 wr.heap.size 28 [.int .i64 l[k].op, .string l[k].name, .int .i64 l[k].n, .int .i64 l[k].ty.kind, .string l[k].ty.name, .slice xa xn xc, .slice ya yn yc] ∧ wr.heap.size < W3.heap.size) ⟨(Kept.refl _ _).alloc _, bX, bX.lt⟩ ?_
      rintro W3 ⟨k3, b3, z3⟩
      have a3 : W3.cell? ⟨w.heap.size, 6, none⟩ = some (.slice (some ⟨g, 0, none⟩) l.length l.length) := (qA.kept k3 (fun h => h)).cell 6
      have x0 : W3.cell? ⟨wr.heap.size, 0, none⟩ = some (.int .i64 l[k].op) := b3.cell 0
      have x1 : W3.cell? ⟨wr.heap.size, 1, none⟩ = some (.string l[k].name) := b3.cell 1
      have x2 : W3.cell? ⟨wr.heap.size, 2, none⟩ = some (.int .i64 l[k].n) := b3.cell 2
      have x3 : W3.cell? ⟨wr.heap.size, 3, none⟩ = some (.int .i64 l[k].ty.kind) := b3.cell 3
      have x4 : W3.cell? ⟨wr.heap.size, 4, none⟩ = some (.string l[k].ty.name) := b3.cell 4
      have x5 : W3.cell? ⟨wr.heap.size, 5, none⟩ = some (.slice xa xn xc) := b3.cell 5
      have x6 : W3.cell? ⟨wr.heap.size, 6, none⟩ = some (.slice ya yn yc) := b3.cell 6
      have HC3 : Hid (Calls Tryz.prog 58 #[.agg #[.int .i64 l[k].op, .string l[k].name, .int .i64 l[k].n, .int .i64 l[k].ty.kind, .string l[k].ty.name, .slice xa xn xc, .slice ya yn yc]] W3.drew fun e w' => ∃ v u, e = .returned (tmVal l[k] v u) ∧ TyL (fun q => W3.heap.size ≤ q) w' l[k].ty.kids v ∧ TmL (fun q => W3.heap.size ≤ q) w' l[k].kids u ∧ Kept (fun _ => False) W3 w') := Lib.hid ((hcon.out W3.drew ok (.slice xa xn xc) (.slice ya yn yc) ((hty'.out.frame (Same.of_kept k3 (fun _ _ e => e))).frame (Same.drew _)) ((htm'.out.frame (Same.of_kept k3 (fun _ _ e => e))).frame (Same.drew _))).mono fun e w' ⟨v, u, h1, h2, h3, h4⟩ => ⟨v, u, h1, h2, h3, ((Kept.refl _ _).drew).trans h4⟩)
      have B3 := Lib.hid b3
      have G3 := Lib.hid (BG.out.kept k3 (fun h => h))
      clear b3 bX c0 c1 c2 c3 c4 c5 c6 a6
      go_region_held3 (fun w' => w'.cell? ⟨w.heap.size, 6, none⟩ = some (.slice (some ⟨g, 0, none⟩) l.length l.length) ∧ w'.cell? ⟨wr.heap.size, 0, none⟩ = some (.int .i64 l[k].op) ∧ w'.cell? ⟨wr.heap.size, 1, none⟩ = some (.string l[k].name) ∧ w'.cell? ⟨wr.heap.size, 2, none⟩ = some (.int .i64 l[k].n) ∧ w'.cell? ⟨wr.heap.size, 3, none⟩ = some (.int .i64 l[k].ty.kind) ∧ w'.cell? ⟨wr.heap.size, 4, none⟩ = some (.string l[k].ty.name) ∧ w'.cell? ⟨wr.heap.size, 5, none⟩ = some (.slice xa xn xc) ∧ w'.cell? ⟨wr.heap.size, 6, none⟩ = some (.slice ya yn yc)) (go_keep)
        (first | (go_at_call 58; refine HC3.out.mono ?_; rintro e w4 ⟨v, u, rfl, hv, hu, k4⟩; obtain ⟨va4, vn4, vc4, rfl⟩ := hv.slice; obtain ⟨ua4, un4, uc4, rfl⟩ := hu.slice; unfold tmVal; have G4 := G3.out.kept k4 (fun h => h); have y0 : w4.cell? ⟨w.heap.size, 6, none⟩ = some (.slice (some ⟨g, 0, none⟩) l.length l.length) := (by rw [k4.cell (p := ⟨w.heap.size, 6, none⟩) (by show w.heap.size < _; omega) (fun h => h)]; exact a3); have y1 : w4.cell? ⟨wr.heap.size, 0, none⟩ = some (.int .i64 l[k].op) := (B3.out.kept k4 (fun h => h)).cell 0; have y2 : w4.cell? ⟨wr.heap.size, 1, none⟩ = some (.string l[k].name) := (B3.out.kept k4 (fun h => h)).cell 1; have y3 : w4.cell? ⟨wr.heap.size, 2, none⟩ = some (.int .i64 l[k].n) := (B3.out.kept k4 (fun h => h)).cell 2; have y4 : w4.cell? ⟨wr.heap.size, 3, none⟩ = some (.int .i64 l[k].ty.kind) := (B3.out.kept k4 (fun h => h)).cell 3; have y5 : w4.cell? ⟨wr.heap.size, 4, none⟩ = some (.string l[k].ty.name) := (B3.out.kept k4 (fun h => h)).cell 4; have y6 : w4.cell? ⟨wr.heap.size, 5, none⟩ = some (.slice xa xn xc) := (B3.out.kept k4 (fun h => h)).cell 5; have y7 : w4.cell? ⟨wr.heap.size, 6, none⟩ = some (.slice ya yn yc) := (B3.out.kept k4 (fun h => h)).cell 6; have t0 : w4.cell? ⟨g, k * 7, none⟩ = some (L[k * 7]'(by have := HLn.out; omega)) := (by rw [G4.cell]; exact List.getElem?_eq_getElem _); have t1 : w4.cell? ⟨g, k * 7 + 1, none⟩ = some (L[k * 7 + 1]'(by have := HLn.out; omega)) := (by rw [G4.cell]; exact List.getElem?_eq_getElem _); have t2 : w4.cell? ⟨g, k * 7 + 2, none⟩ = some (L[k * 7 + 2]'(by have := HLn.out; omega)) := (by rw [G4.cell]; exact List.getElem?_eq_getElem _); have t3 : w4.cell? ⟨g, k * 7 + 3, none⟩ = some (L[k * 7 + 3]'(by have := HLn.out; omega)) := (by rw [G4.cell]; exact List.getElem?_eq_getElem _); have t4 : w4.cell? ⟨g, k * 7 + 4, none⟩ = some (L[k * 7 + 4]'(by have := HLn.out; omega)) := (by rw [G4.cell]; exact List.getElem?_eq_getElem _); have t5 : w4.cell? ⟨g, k * 7 + 5, none⟩ = some (L[k * 7 + 5]'(by have := HLn.out; omega)) := (by rw [G4.cell]; exact List.getElem?_eq_getElem _); have t6 : w4.cell? ⟨g, k * 7 + 6, none⟩ = some (L[k * 7 + 6]'(by have := HLn.out; omega)) := (by rw [G4.cell]; exact List.getElem?_eq_getElem _); have f0 := G4.frozen (k * 7); have f1 := G4.frozen (k * 7 + 1); have f2 := G4.frozen (k * 7 + 2); have f3 := G4.frozen (k * 7 + 3); have f4 := G4.frozen (k * 7 + 4); have f5 := G4.frozen (k * 7 + 5); have f6 := G4.frozen (k * 7 + 6)))
      have HST := Lib.hid (HCI.out.step hg hlt (k3.trans k4) (hv.mono (fun q _ h => by omega)) (hu.mono (fun q _ h => by omega)))
      have HTS := Lib.hid ((HTk.out.frame (Same.of_kept (k3.trans k4) (fun _ _ e => e))).frame (set7 (g := g) (i0 := k * 7) (i1 := k * 7 + 1) (i2 := k * 7 + 2) (i3 := k * 7 + 3) (i4 := k * 7 + 4) (i5 := k * 7 + 5) (i6 := k * 7 + 6) (x0 := .int .i64 l[k].op) (x1 := .string l[k].name) (x2 := .int .i64 l[k].n) (x3 := .int .i64 l[k].ty.kind) (x4 := .string l[k].ty.name) (x5 := .slice va4 vn4 vc4) (x6 := .slice ua4 un4 uc4) (fun q h => h.2)))
      go_wp2_with fail
      go_roundw
      case rel => exact ⟨k + 1, by omega, by go_num, HST, HTS⟩
      case measure => simp [intOf]; omega
    · have hkk : k = l.length := by omega
      subst hkk
      have a0 : wr.cell? ⟨w.heap.size, 0, none⟩ = some (.int .i64 op) := qA.cell 0
      have a1 : wr.cell? ⟨w.heap.size, 1, none⟩ = some (.string nm) := qA.cell 1
      have a2 : wr.cell? ⟨w.heap.size, 2, none⟩ = some (.int .i64 N) := qA.cell 2
      have a3 : wr.cell? ⟨w.heap.size, 3, none⟩ = some (.int .i64 ty.kind) := qA.cell 3
      have a4 : wr.cell? ⟨w.heap.size, 4, none⟩ = some (.string ty.name) := qA.cell 4
      have a5 : wr.cell? ⟨w.heap.size, 5, none⟩ = some (.slice va vn vc) := qA.cell 5
      have a6 : wr.cell? ⟨w.heap.size, 6, none⟩ = some (.slice (some ⟨g, 0, none⟩) l.length l.length) := qA.cell 6
      have r0 : wr.cell? ⟨w.heap.size + 1, 0, none⟩ = some (.int .i64 0) := qR.cell 0
      have f0 := qR.frozen 0
      have r1 : wr.cell? ⟨w.heap.size + 1, 1, none⟩ = some (.string ⟨#[]⟩) := qR.cell 1
      have f1 := qR.frozen 1
      have r2 : wr.cell? ⟨w.heap.size + 1, 2, none⟩ = some (.int .i64 0) := qR.cell 2
      have f2 := qR.frozen 2
      have r3 : wr.cell? ⟨w.heap.size + 1, 3, none⟩ = some (.int .i64 0) := qR.cell 3
      have f3 := qR.frozen 3
      have r4 : wr.cell? ⟨w.heap.size + 1, 4, none⟩ = some (.string ⟨#[]⟩) := qR.cell 4
      have f4 := qR.frozen 4
      have r5 : wr.cell? ⟨w.heap.size + 1, 5, none⟩ = some (.slice none 0 0) := qR.cell 5
      have f5 := qR.frozen 5
      have r6 : wr.cell? ⟨w.heap.size + 1, 6, none⟩ = some (.slice none 0 0) := qR.cell 6
      have f6 := qR.frozen 6
      have QR := Lib.hid qR
      have KP := Lib.hid kp
      clear qR kp qA
      go_wp2_with fail
      have bF := r7 (x0 := .int .i64 op) (x1 := .string nm) (x2 := .int .i64 N) (x3 := .int .i64 ty.kind) (x4 := .string ty.name) (x5 := .slice va vn vc) (x6 := .slice (some ⟨g, 0, none⟩) l.length l.length) QR.out rfl
      refine bodyPost_ret (results_one Tryz.results58 rfl (load_tm (t := .mk op nm N ty l) bF)) rfl ⟨_, g, _, rfl, Nat.le_refl _, by omega, ?_, ?_, ?_⟩
      · exact (HTk.out.frame (set7 (g := w.heap.size + 1) (fun q h => by omega))).mono (fun q _ h => ⟨by omega, h.2⟩)
      · obtain ⟨L, K', M', bG, hLn, hLo, hLd⟩ := HCI.out.row
        have bG' := (((((((bG.set_other ⟨w.heap.size + 1, 0, none⟩ (.int .i64 op) (by show g ≠ w.heap.size + 1; omega)).set_other ⟨w.heap.size + 1, 1, none⟩ (.string nm) (by show g ≠ w.heap.size + 1; omega)).set_other ⟨w.heap.size + 1, 2, none⟩ (.int .i64 N) (by show g ≠ w.heap.size + 1; omega)).set_other ⟨w.heap.size + 1, 3, none⟩ (.int .i64 ty.kind) (by show g ≠ w.heap.size + 1; omega)).set_other ⟨w.heap.size + 1, 4, none⟩ (.string ty.name) (by show g ≠ w.heap.size + 1; omega)).set_other ⟨w.heap.size + 1, 5, none⟩ (.slice va vn vc) (by show g ≠ w.heap.size + 1; omega)).set_other ⟨w.heap.size + 1, 6, none⟩ (.slice (some ⟨g, 0, none⟩) l.length l.length) (by show g ≠ w.heap.size + 1; omega))
        refine ⟨⟨L, K', M', bG', hLn, fun i hi => ?_⟩⟩
        obtain ⟨e0, e1, e2, e3, e4, e5, e6, e7, e8⟩ := hLd i hi hi
        exact ⟨e0, e1, e2, e3, e4, e5, e6, (e7.frame (set7 (g := w.heap.size + 1) (fun q h => by omega))).mono (fun q _ h => ⟨by omega, h.2⟩), (e8.frame (set7 (g := w.heap.size + 1) (fun q h => by omega))).mono (fun q _ h => ⟨by omega, h.2⟩)⟩
      · exact (((((((KP.out.setCell (p := ⟨w.heap.size + 1, 0, none⟩) (Or.inr (by show w.heap.size ≤ w.heap.size + 1; omega)) _).setCell (p := ⟨w.heap.size + 1, 1, none⟩) (Or.inr (by show w.heap.size ≤ w.heap.size + 1; omega)) _).setCell (p := ⟨w.heap.size + 1, 2, none⟩) (Or.inr (by show w.heap.size ≤ w.heap.size + 1; omega)) _).setCell (p := ⟨w.heap.size + 1, 3, none⟩) (Or.inr (by show w.heap.size ≤ w.heap.size + 1; omega)) _).setCell (p := ⟨w.heap.size + 1, 4, none⟩) (Or.inr (by show w.heap.size ≤ w.heap.size + 1; omega)) _).setCell (p := ⟨w.heap.size + 1, 5, none⟩) (Or.inr (by show w.heap.size ≤ w.heap.size + 1; omega)) _).setCell (p := ⟨w.heap.size + 1, 6, none⟩) (Or.inr (by show w.heap.size ≤ w.heap.size + 1; omega)) _)
theorem clone_kids {t : Tm} (hb : BdTm t) (hne : t.kids ≠ []) {w : World} {ok : Nat → Prop} {tk kk : Value} (h : TyL ok w t.ty.kids tk) (h' : TmL ok w t.kids kk) : Calls Tryz.prog 58 #[tmVal t tk kk] w (ClP2 t w) := by
  obtain ⟨op, nm, N, ty, l⟩ := t
  cases hb with
  | mk hn ht hl =>
    obtain ⟨ta, tn, tc, rfl⟩ := h.slice
    cases h' with
    | nil h' => exact absurd rfl hne
    | mk K M hne hb hc hcell hk hm => exact clone_some2 (copyTy_any ht) h (fun t ht => clone_any (hl t ht)) hn K M hcell hk hm
theorem RowT.krow {w wr : World} {base : Nat} {E : List E3} {v : Value} (h : RowT w base wr E v) (hne : E ≠ []) : ∃ g c, v = .slice (some ⟨g, 0, none⟩) E.length c ∧ base ≤ g ∧ E.length ≤ c ∧ KRow wr base g (E.map (·.1)) := by
  rcases h.own.2 with ⟨_, hn⟩ | ⟨g, cap, cur, hv, hbg, hg, hnc, hcm, hcs, htake⟩
  · exact absurd (List.length_eq_zero_iff.1 hn) hne
  · have hE := h.el
    subst hv
    have hb : Blk wr g 28 cur.toList := by show wr.heap[g]? = _; rw [hg]
    have hlen : E.length * 7 ≤ cur.toList.length := by
      have := congrArg List.length htake
      rw [List.length_take, flat_len] at this
      omega
    have hget : ∀ i (h : i < E.length) (r : Nat), r < 7 → cur.toList[i * 7 + r]? = (tmCells E[i].1 E[i].2.1 E[i].2.2)[r]? := by
      intro i hi r hr
      have h1 := flat_get E i r hi hr
      rw [← htake, List.getElem?_take, if_pos (by omega)] at h1
      exact h1
    have iv : Inhabited E3 := ⟨(.mk 0 ⟨#[]⟩ 0 ty0 [], .slice none 0 0, .slice none 0 0)⟩
    refine ⟨g, cap, rfl, hbg, hnc, ⟨⟨cur.toList, fun i => E[i]!.2.1, fun i => E[i]!.2.2, hb, by simpa using hlen, fun i hi => ?_⟩⟩⟩
    have hi' : i < E.length := by simpa using hi
    have e1 : (E.map (·.1))[i] = E[i].1 := by simp
    have e2 : E[i]! = E[i] := getElem!_pos E i hi'
    have hm := hE _ (List.getElem_mem hi')
    rw [e1]
    simp only [e2]
    exact ⟨hget i hi' 0 (by decide), hget i hi' 1 (by decide), hget i hi' 2 (by decide), hget i hi' 3 (by decide), hget i hi' 4 (by decide), hget i hi' 5 (by decide), hget i hi' 6 (by decide), hm.1.mono (fun q _ h => ⟨h.1, fun e => h.2 (by rw [e]; rfl)⟩), hm.2.mono (fun q _ h => ⟨h.1, fun e => h.2 (by rw [e]; rfl)⟩)⟩
theorem rcopy_kids {t : Tm} (hb : BdTm t) (hne : t.kids ≠ []) {w : World} {ok : Nat → Prop} {tk kk : Value} (h : TyL ok w t.ty.kids tk) (h' : TmL ok w t.kids kk) : Calls Tryz.prog 42 #[tmVal t tk kk] w (ClP2 t w) := by
  refine (rcopy_any hb w ok tk kk h h').mono ?_
  rintro e w' ⟨v, E, k, rfl, h1, h2, h3⟩
  obtain ⟨g, c, rfl, hg, hc, hr⟩ := h2.krow (by intro e; rw [e] at h3; exact hne h3.symm)
  have hl : E.length = t.kids.length := by rw [← h3, List.length_map]
  rw [h3] at hr
  rw [hl] at hc ⊢
  exact ⟨v, g, c, rfl, hc, hg, h1.mono (fun q _ h => ⟨h.1, fun e => h.2 (by rw [e]; rfl)⟩), hr, h2.kp⟩
structure Bx3 (w : World) (ca cb cc : List Value) (W : World) : Prop where
  a : Blk W w.heap.size 28 ca
  b : Blk W (w.heap.size + 1) 28 cb
  c : Blk W (w.heap.size + 1 + 1) 28 cc
  k : Kept (fun _ => False) w W
theorem Bx3.kept {w : World} {ca cb cc : List Value} {W W' : World} (h : Bx3 w ca cb cc W) (k : Kept (fun _ => False) W W') : Bx3 w ca cb cc W' :=
  ⟨h.a.kept k (fun h => h), h.b.kept k (fun h => h), h.c.kept k (fun h => h), h.k.trans k⟩
theorem Bx3.new (w : World) (ca cb cc : List Value) : Bx3 w ca cb cc (((w.alloc (.cells ca.toArray 28)).alloc (.cells cb.toArray 28)).alloc (.cells cc.toArray 28)) :=
  ⟨((Blk.new w 28 ca).alloc _).alloc _, (Blk.new' 28 _ (by simp)).alloc _, Blk.new' 28 _ (by simp), (((Kept.refl _ _).alloc _).alloc _).alloc _⟩
def PutP (r : Tm) (w : World) (e : Ending) (w' : World) : Prop := ∃ tk kk, e = .returned (tmVal r tk kk) ∧ TyL (fun q => w.heap.size ≤ q) w' r.ty.kids tk ∧ TmL (fun q => w.heap.size ≤ q) w' r.kids kk ∧ Kept (fun _ => False) w w'
set_option maxRecDepth 100000 in
set_option maxHeartbeats 16000000 in
theorem put_nil {t u : Tm} {ok ok' : Nat → Prop} {w : World} {tk kk tk' kk' : Value} {a : Option Addr} {c : Nat} (hu : BdTm u) (h1 : TyL ok w t.ty.kids tk) (h2 : TmL ok w t.kids kk) (h3 : TyL ok' w u.ty.kids tk') (h4 : TmL ok' w u.kids kk') :
    Calls Tryz.prog 63 #[tmVal t tk kk, .slice a 0 c, tmVal u tk' kk'] w (PutP u w) := by
  obtain ⟨p, n, cp, rfl⟩ := h1.slice
  obtain ⟨ma, mn, mc, rfl⟩ := h2.slice
  obtain ⟨p', n', cp', rfl⟩ := h3.slice
  obtain ⟨ma', mn', mc', rfl⟩ := h4.slice
  have B0 := Lib.hid (Bx3.new w [.int .i64 t.op, .string t.name, .int .i64 t.n, .int .i64 t.ty.kind, .string t.ty.name, .slice p n cp, .slice ma mn mc] [.int .i64 u.op, .string u.name, .int .i64 u.n, .int .i64 u.ty.kind, .string u.ty.name, .slice p' n' cp', .slice ma' mn' mc'] z27)
  change Hid (Bx3 _ _ _ _ (((w.alloc (.cells #[.int .i64 t.op, .string t.name, .int .i64 t.n, .int .i64 t.ty.kind, .string t.ty.name, .slice p n cp, .slice ma mn mc] 28)).alloc (.cells #[.int .i64 u.op, .string u.name, .int .i64 u.n, .int .i64 u.ty.kind, .string u.ty.name, .slice p' n' cp', .slice ma' mn' mc'] 28)).alloc (.cells #[.int .i64 0, .string ⟨#[]⟩, .int .i64 0, .int .i64 0, .string ⟨#[]⟩, .slice none 0 0, .slice none 0 0] 28))) at B0
  have HC := Lib.hid (fun W (k : Kept (fun _ => False) w W) => clone_any hu W ok' _ _ (h3.frame (Same.of_kept k (fun _ _ e => e))) (h4.frame (Same.of_kept k (fun _ _ e => e))))
  clear h1 h2 h3 h4 hu
  unfold tmVal at HC ⊢
  go_enter Tryz.func63, Tryz.ntmps63
  go_wp2_with fail
  generalize (((w.alloc (.cells #[.int .i64 t.op, .string t.name, .int .i64 t.n, .int .i64 t.ty.kind, .string t.ty.name, .slice p n cp, .slice ma mn mc] 28)).alloc (.cells #[.int .i64 u.op, .string u.name, .int .i64 u.n, .int .i64 u.ty.kind, .string u.ty.name, .slice p' n' cp', .slice ma' mn' mc'] 28)).alloc (.cells #[.int .i64 0, .string ⟨#[]⟩, .int .i64 0, .int .i64 0, .string ⟨#[]⟩, .slice none 0 0, .slice none 0 0] 28)) = w1 at *
  refine (HC.out w1 B0.out.k).mono ?_
  rintro e w2 ⟨tk, kk, rfl, hty, htm, k2⟩
  obtain ⟨ua, un, uc, rfl⟩ := hty.slice
  obtain ⟨va, vn, vc, rfl⟩ := htm.slice
  unfold tmVal
  have BR := Lib.hid (B0.out.kept k2)
  have HTY := Lib.hid (hty.mono (ok' := fun q => w.heap.size + 1 + 1 < q) (fun q _ hq => by have := B0.out.c.lt; omega))
  have HTM := Lib.hid (htm.mono (ok' := fun q => w.heap.size + 1 + 1 < q) (fun q _ hq => by have := B0.out.c.lt; omega))
  clear hty htm k2 B0 HC
  have gR : ∀ i, w2.cell? ⟨w.heap.size + 1 + 1, i, none⟩ = [Value.int .i64 0, .string ⟨#[]⟩, .int .i64 0, .int .i64 0, .string ⟨#[]⟩, .slice none 0 0, .slice none 0 0][i]? := BR.out.c.cell
  have fR : ∀ i, w2.frozen? ⟨w.heap.size + 1 + 1, i, none⟩ = false := BR.out.c.frozen
  go_wp2_with fail
  exact bodyPost_ret (results_one Tryz.results63 rfl (load_tm (t := u) (r7 BR.out.c rfl))) rfl ⟨_, _, rfl, (HTY.out.frame (set7 (fun q hq => by omega))).mono (fun q _ hq => by omega), (HTM.out.frame (set7 (fun q hq => by omega))).mono (fun q _ hq => by omega), k7w BR.out.k (Or.inr (by omega))⟩
set_option maxRecDepth 100000 in
set_option maxHeartbeats 16000000 in
theorem put_cons {t u r : Tm} {j : Nat} {l : List Int} {ok ok' : Nat → Prop} {w : World} {tk kk tk' kk' : Value} {g0 o0 c m : Nat} {ad : Option Addr} (had : (if c = 1 then some (⟨g0, o0, none⟩ : Addr) else some ⟨g0, o0 + 1, none⟩) = ad) (ht : BdTm t) (hj : j < t.kids.length) (hl : (m : Int) ≤ 9223372036854775807) (hm1 : 1 ≤ m)
    (IH : ∀ (W : World) (vk vm : Value), Kept (fun _ => False) w W → TyL (fun _ => True) W t.kids[j].ty.kids vk → TmL (fun _ => True) W t.kids[j].kids vm → Calls Tryz.prog 63 #[tmVal t.kids[j] vk vm, .slice ad (m - 1) (c - 1), tmVal u tk' kk'] W (PutP r W))
    (h1 : TyL ok w t.ty.kids tk) (h2 : TmL ok w t.kids kk) (h3 : TyL ok' w u.ty.kids tk') (h4 : TmL ok' w u.kids kk') (h5 : w.cell? ⟨g0, o0, none⟩ = some (.int .i64 j)) (hc : m ≤ c) :
    Calls Tryz.prog 63 #[tmVal t tk kk, .slice (some ⟨g0, o0, none⟩) m c, tmVal u tk' kk'] w (PutP (setKid t j r) w) := by
  obtain ⟨p, n, cp, rfl⟩ := h1.slice
  obtain ⟨ma, mn, mc, rfl⟩ := h2.slice
  obtain ⟨p', n', cp', rfl⟩ := h3.slice
  obtain ⟨ma', mn', mc', rfl⟩ := h4.slice
  obtain rfl : mn = t.kids.length := h2.len
  have B0 := Lib.hid (Bx3.new w [.int .i64 t.op, .string t.name, .int .i64 t.n, .int .i64 t.ty.kind, .string t.ty.name, .slice p n cp, .slice ma t.kids.length mc] [.int .i64 u.op, .string u.name, .int .i64 u.n, .int .i64 u.ty.kind, .string u.ty.name, .slice p' n' cp', .slice ma' mn' mc'] z27)
  change Hid (Bx3 _ _ _ _ (((w.alloc (.cells #[.int .i64 t.op, .string t.name, .int .i64 t.n, .int .i64 t.ty.kind, .string t.ty.name, .slice p n cp, .slice ma t.kids.length mc] 28)).alloc (.cells #[.int .i64 u.op, .string u.name, .int .i64 u.n, .int .i64 u.ty.kind, .string u.ty.name, .slice p' n' cp', .slice ma' mn' mc'] 28)).alloc (.cells #[.int .i64 0, .string ⟨#[]⟩, .int .i64 0, .int .i64 0, .string ⟨#[]⟩, .slice none 0 0, .slice none 0 0] 28))) at B0
  have HC := Lib.hid (fun W (k : Kept (fun _ => False) w W) => clone_kids ht (by intro e; rw [e] at hj; exact absurd hj (Nat.not_lt_zero _)) (h1.frame (Same.of_kept k (fun _ _ e => e))) (h2.frame (Same.of_kept k (fun _ _ e => e))))
  have HAT := Lib.hid (fun W (k : Kept (fun _ => False) w W) => ((h2.mono (ok' := fun q => q < w.heap.size) (fun q hq _ => hq)).frame (Same.of_kept k (fun _ _ e => e))).at j hj)
  have HP := Lib.hid (fun W (k : Kept (fun _ => False) w W) => k.cell (p := ⟨g0, o0, none⟩) (cell_lt h5) (fun h => h))
  have H5 := Lib.hid h5
  have HIH := Lib.hid IH
  clear h1 h2 h3 h4 ht IH
  unfold tmVal at HC ⊢
  have lg0 : g0 < w.heap.size := cell_lt h5
  have tm : ((m : Int) == 0) = false := by simp; omega
  have HM1 := Lib.hid hm1
  clear hm1
  clear h5
  go_enter Tryz.func63, Tryz.ntmps63
  go_wp2_with fail
  generalize (((w.alloc (.cells #[.int .i64 t.op, .string t.name, .int .i64 t.n, .int .i64 t.ty.kind, .string t.ty.name, .slice p n cp, .slice ma t.kids.length mc] 28)).alloc (.cells #[.int .i64 u.op, .string u.name, .int .i64 u.n, .int .i64 u.ty.kind, .string u.ty.name, .slice p' n' cp', .slice ma' mn' mc'] 28)).alloc (.cells #[.int .i64 0, .string ⟨#[]⟩, .int .i64 0, .int .i64 0, .string ⟨#[]⟩, .slice none 0 0, .slice none 0 0] 28)) = w1 at *
  refine (HC.out w1 B0.out.k).mono ?_
  rintro e w2 ⟨v, g, cg, rfl, hcg, hg, hty, hrow, k2⟩
  obtain ⟨va, vn, vc, rfl⟩ := hty.slice
  unfold tmVal
  have B2 := Lib.hid (B0.out.kept k2)
  have zg : w.heap.size + 1 + 1 < g := by have := B0.out.c.lt; omega
  have ZB := Lib.hid B0.out.c.lt
  have HROW := Lib.hid hrow
  have HTY := Lib.hid hty
  have HCG := Lib.hid hcg
  clear hrow hty k2 HC B0 hcg
  go_upto_region 4 with (fail)
  have lw2 := B2.out.c.lt
  refine wp_gen (F := fun W3 => Kept (fun _ => False) w2 W3 ∧ Blk W3 w2.heap.size 28 [.int .i64 t.op, .string t.name, .int .i64 t.n, .int .i64 t.ty.kind, .string t.ty.name, .slice va vn vc, .slice (some ⟨g, 0, none⟩) t.kids.length cg]) ⟨(Kept.refl _ _).alloc _, Blk.new w2 28 _⟩ ?_
  rintro W3 ⟨k3, b3⟩
  have B3 := Lib.hid (B2.out.kept k3)
  have N3 := Lib.hid b3
  have R3 := Lib.hid (HROW.out.kept k3 (fun h => h) (fun _ _ _ h => h))
  have T3 := Lib.hid (HTY.out.frame (Same.of_kept k3 (fun _ _ e => e)))
  have KW := Lib.hid B3.out.k
  have hgw1 : w.heap.size + 1 + 1 < w1.heap.size := ZB.out
  have hgw2 : g < w2.heap.size := by obtain ⟨L, K', M', bG, _⟩ := HROW.out.row; exact bG.lt
  clear k3 b3 B2 HROW HTY
  obtain ⟨q0, o1, pa, pn, pc, qa, qn, qc, rfl, oq, lq, ⟨c0, c1, c2, c3, c4, c5, c6⟩, hkt, hkm⟩ := HAT.out W3 KW.out
  have x0 : W3.cell? ⟨w2.heap.size, 6, none⟩ = some (.slice (some ⟨g, 0, none⟩) t.kids.length cg) := N3.out.cell 6
  have x1 : W3.cell? ⟨g0, o0, none⟩ = some (.int .i64 j) := (by rw [HP.out W3 KW.out]; exact H5.out)
  have x2 : W3.cell? ⟨w.heap.size, 6, none⟩ = some (.slice (some ⟨q0, o1, none⟩) t.kids.length mc) := B3.out.a.cell 6
  have x10 : W3.cell? ⟨w.heap.size + 1, 0, none⟩ = some (.int .i64 u.op) := B3.out.b.cell 0
  have x11 : W3.cell? ⟨w.heap.size + 1, 1, none⟩ = some (.string u.name) := B3.out.b.cell 1
  have x12 : W3.cell? ⟨w.heap.size + 1, 2, none⟩ = some (.int .i64 u.n) := B3.out.b.cell 2
  have x13 : W3.cell? ⟨w.heap.size + 1, 3, none⟩ = some (.int .i64 u.ty.kind) := B3.out.b.cell 3
  have x14 : W3.cell? ⟨w.heap.size + 1, 4, none⟩ = some (.string u.ty.name) := B3.out.b.cell 4
  have x15 : W3.cell? ⟨w.heap.size + 1, 5, none⟩ = some (.slice p' n' cp') := B3.out.b.cell 5
  have x16 : W3.cell? ⟨w.heap.size + 1, 6, none⟩ = some (.slice ma' mn' mc') := B3.out.b.cell 6
  obtain ⟨L, K', M', bG, hLn, hLd⟩ := R3.out.row
  have BG := Lib.hid bG
  have HLn := Lib.hid (show j * 7 + 6 < L.length by omega)
  clear bG hLn hLd
  have HC4 : Hid (Calls Tryz.prog 63 #[.agg #[.int .i64 t.kids[j].op, .string t.kids[j].name, .int .i64 t.kids[j].n, .int .i64 t.kids[j].ty.kind, .string t.kids[j].ty.name, .slice pa pn pc, .slice qa qn qc], .slice ad (m - 1) (c - 1), .agg #[.int .i64 u.op, .string u.name, .int .i64 u.n, .int .i64 u.ty.kind, .string u.ty.name, .slice p' n' cp', .slice ma' mn' mc']] W3.drew fun e w' => ∃ tk kk, e = .returned (tmVal r tk kk) ∧ TyL (fun q => W3.heap.size ≤ q) w' r.ty.kids tk ∧ TmL (fun q => W3.heap.size ≤ q) w' r.kids kk ∧ Kept (fun _ => False) W3 w') := Lib.hid ((HIH.out W3.drew _ _ (KW.out.trans (Kept.refl _ _).drew) ((hkt.frame (Same.drew _)).mono (fun _ _ _ => trivial)) ((hkm.frame (Same.drew _)).mono (fun _ _ _ => trivial))).mono fun e w' ⟨a1, a2, h1, h2, h3, h4⟩ => ⟨a1, a2, h1, h2, h3, ((Kept.refl _ _).drew).trans h4⟩)
  clear hkt hkm HIH
  have ng1 : g ≠ w.heap.size := by omega
  have ng2 : g ≠ w.heap.size + 1 := by omega
  have ng3 : g ≠ w2.heap.size := by omega
  have ng4 : g ≠ g0 := by omega
  have ng5 : g ≠ q0 := by omega
  have hw3 : w2.heap.size < W3.heap.size := N3.out.lt
  have hB3 : w.heap.size + 1 + 1 < W3.heap.size := B3.out.c.lt
  have hjm : (j : Int) < (t.kids.length : Int) := by omega
  have hg3 : g < W3.heap.size := BG.out.lt
  have i0 : (0 : Int) < (m : Int) := by have := HM1.out; omega
  have i1 : (1 : Int) ≤ (m : Int) := by omega
  have i2 : (m : Int) ≤ (c : Int) := by omega
  have i3 : 0 < m := by omega
  clear tm
  go_region_held3 (fun w' => w'.cell? ⟨w2.heap.size, 6, none⟩ = some (.slice (some ⟨g, 0, none⟩) t.kids.length cg) ∧ w'.cell? ⟨g0, o0, none⟩ = some (.int .i64 j) ∧ w'.cell? ⟨w.heap.size, 6, none⟩ = some (.slice (some ⟨q0, o1, none⟩) t.kids.length mc) ∧ w'.cell? ⟨q0, o1 + j * 7, none⟩ = some (.int .i64 t.kids[j].op) ∧ w'.cell? ⟨q0, o1 + j * 7 + 1, none⟩ = some (.string t.kids[j].name) ∧ w'.cell? ⟨q0, o1 + j * 7 + 2, none⟩ = some (.int .i64 t.kids[j].n) ∧ w'.cell? ⟨q0, o1 + j * 7 + 3, none⟩ = some (.int .i64 t.kids[j].ty.kind) ∧ w'.cell? ⟨q0, o1 + j * 7 + 4, none⟩ = some (.string t.kids[j].ty.name) ∧ w'.cell? ⟨q0, o1 + j * 7 + 5, none⟩ = some (.slice pa pn pc) ∧ w'.cell? ⟨q0, o1 + j * 7 + 6, none⟩ = some (.slice qa qn qc) ∧ w'.cell? ⟨w.heap.size + 1, 0, none⟩ = some (.int .i64 u.op) ∧ w'.cell? ⟨w.heap.size + 1, 1, none⟩ = some (.string u.name) ∧ w'.cell? ⟨w.heap.size + 1, 2, none⟩ = some (.int .i64 u.n) ∧ w'.cell? ⟨w.heap.size + 1, 3, none⟩ = some (.int .i64 u.ty.kind) ∧ w'.cell? ⟨w.heap.size + 1, 4, none⟩ = some (.string u.ty.name) ∧ w'.cell? ⟨w.heap.size + 1, 5, none⟩ = some (.slice p' n' cp') ∧ w'.cell? ⟨w.heap.size + 1, 6, none⟩ = some (.slice ma' mn' mc')) (go_keep)
    (first | (go_at_call 63; refine HC4.out.mono ?_; rintro e w4 ⟨tk4, kk4, rfl, hv, hu, k4⟩; obtain ⟨va4, vn4, vc4, rfl⟩ := hv.slice; obtain ⟨ua4, un4, uc4, rfl⟩ := hu.slice; unfold tmVal; have G4 := BG.out.kept k4 (fun h => h); have y0 : w4.cell? ⟨w2.heap.size, 6, none⟩ = some (.slice (some ⟨g, 0, none⟩) t.kids.length cg) := (N3.out.kept k4 (fun h => h)).cell 6; have y1 : w4.cell? ⟨g0, o0, none⟩ = some (.int .i64 j) := (by rw [HP.out w4 (KW.out.trans k4)]; exact H5.out); have y2 : w4.cell? ⟨w.heap.size, 6, none⟩ = some (.slice (some ⟨q0, o1, none⟩) t.kids.length mc) := (B3.out.kept k4).a.cell 6; have y3 : w4.cell? ⟨q0, o1 + j * 7, none⟩ = some (.int .i64 t.kids[j].op) := (by rw [k4.cell (p := ⟨q0, o1 + j * 7, none⟩) (by show q0 < _; omega) (fun h => h)]; exact c0); have y4 : w4.cell? ⟨q0, o1 + j * 7 + 1, none⟩ = some (.string t.kids[j].name) := (by rw [k4.cell (p := ⟨q0, o1 + j * 7 + 1, none⟩) (by show q0 < _; omega) (fun h => h)]; exact c1); have y5 : w4.cell? ⟨q0, o1 + j * 7 + 2, none⟩ = some (.int .i64 t.kids[j].n) := (by rw [k4.cell (p := ⟨q0, o1 + j * 7 + 2, none⟩) (by show q0 < _; omega) (fun h => h)]; exact c2); have y6 : w4.cell? ⟨q0, o1 + j * 7 + 3, none⟩ = some (.int .i64 t.kids[j].ty.kind) := (by rw [k4.cell (p := ⟨q0, o1 + j * 7 + 3, none⟩) (by show q0 < _; omega) (fun h => h)]; exact c3); have y7 : w4.cell? ⟨q0, o1 + j * 7 + 4, none⟩ = some (.string t.kids[j].ty.name) := (by rw [k4.cell (p := ⟨q0, o1 + j * 7 + 4, none⟩) (by show q0 < _; omega) (fun h => h)]; exact c4); have y8 : w4.cell? ⟨q0, o1 + j * 7 + 5, none⟩ = some (.slice pa pn pc) := (by rw [k4.cell (p := ⟨q0, o1 + j * 7 + 5, none⟩) (by show q0 < _; omega) (fun h => h)]; exact c5); have y9 : w4.cell? ⟨q0, o1 + j * 7 + 6, none⟩ = some (.slice qa qn qc) := (by rw [k4.cell (p := ⟨q0, o1 + j * 7 + 6, none⟩) (by show q0 < _; omega) (fun h => h)]; exact c6); have y10 : w4.cell? ⟨w.heap.size + 1, 0, none⟩ = some (.int .i64 u.op) := (B3.out.kept k4).b.cell 0; have y11 : w4.cell? ⟨w.heap.size + 1, 1, none⟩ = some (.string u.name) := (B3.out.kept k4).b.cell 1; have y12 : w4.cell? ⟨w.heap.size + 1, 2, none⟩ = some (.int .i64 u.n) := (B3.out.kept k4).b.cell 2; have y13 : w4.cell? ⟨w.heap.size + 1, 3, none⟩ = some (.int .i64 u.ty.kind) := (B3.out.kept k4).b.cell 3; have y14 : w4.cell? ⟨w.heap.size + 1, 4, none⟩ = some (.string u.ty.name) := (B3.out.kept k4).b.cell 4; have y15 : w4.cell? ⟨w.heap.size + 1, 5, none⟩ = some (.slice p' n' cp') := (B3.out.kept k4).b.cell 5; have y16 : w4.cell? ⟨w.heap.size + 1, 6, none⟩ = some (.slice ma' mn' mc') := (B3.out.kept k4).b.cell 6; have t0 : w4.cell? ⟨g, j * 7, none⟩ = some (L[j * 7]'(by have := HLn.out; omega)) := (by rw [G4.cell]; exact List.getElem?_eq_getElem _); have t1 : w4.cell? ⟨g, j * 7 + 1, none⟩ = some (L[j * 7 + 1]'(by have := HLn.out; omega)) := (by rw [G4.cell]; exact List.getElem?_eq_getElem _); have t2 : w4.cell? ⟨g, j * 7 + 2, none⟩ = some (L[j * 7 + 2]'(by have := HLn.out; omega)) := (by rw [G4.cell]; exact List.getElem?_eq_getElem _); have t3 : w4.cell? ⟨g, j * 7 + 3, none⟩ = some (L[j * 7 + 3]'(by have := HLn.out; omega)) := (by rw [G4.cell]; exact List.getElem?_eq_getElem _); have t4 : w4.cell? ⟨g, j * 7 + 4, none⟩ = some (L[j * 7 + 4]'(by have := HLn.out; omega)) := (by rw [G4.cell]; exact List.getElem?_eq_getElem _); have t5 : w4.cell? ⟨g, j * 7 + 5, none⟩ = some (L[j * 7 + 5]'(by have := HLn.out; omega)) := (by rw [G4.cell]; exact List.getElem?_eq_getElem _); have t6 : w4.cell? ⟨g, j * 7 + 6, none⟩ = some (L[j * 7 + 6]'(by have := HLn.out; omega)) := (by rw [G4.cell]; exact List.getElem?_eq_getElem _); have f0 := G4.frozen (j * 7); have f1 := G4.frozen (j * 7 + 1); have f2 := G4.frozen (j * 7 + 2); have f3 := G4.frozen (j * 7 + 3); have f4 := G4.frozen (j * 7 + 4); have f5 := G4.frozen (j * 7 + 5); have f6 := G4.frozen (j * 7 + 6); clear hl hc))
  clear y0 y1 y2 y3 y4 y5 y6 y7 y8 y9 y10 y11 y12 y13 y14 y15 y16 t0 t1 t2 t3 t4 t5 t6 f0 f1 f2 f3 f4 f5 f6 x0 x1 x2 c0 c1 c2 c3 c4 c5 c6 x10 x11 x12 x13 x14 x15 x16 i0 i1 i2 i3 had
  have zw1 : w1.heap.size ≤ w2.heap.size := by omega
  have R4 := R3.out.kept k4 (fun h => h) (fun _ _ _ h => h)
  have HX := Lib.hid (R4.put hj (hv.mono (fun q _ hq => ⟨by omega, by omega⟩)) (hu.mono (fun q _ hq => ⟨by omega, by omega⟩)))
  have hn1 : w2.heap.size ≠ g := by omega
  have hn2 : w.heap.size + 1 + 1 ≠ g := by omega
  have N5 : Hid (Blk (((((((w4.setCell ⟨g, j * 7, none⟩ (.int .i64 r.op)).setCell ⟨g, j * 7 + 1, none⟩ (.string r.name)).setCell ⟨g, j * 7 + 2, none⟩ (.int .i64 r.n)).setCell ⟨g, j * 7 + 3, none⟩ (.int .i64 r.ty.kind)).setCell ⟨g, j * 7 + 4, none⟩ (.string r.ty.name)).setCell ⟨g, j * 7 + 5, none⟩ (.slice va4 vn4 vc4)).setCell ⟨g, j * 7 + 6, none⟩ (.slice ua4 un4 uc4)) w2.heap.size 28 [.int .i64 t.op, .string t.name, .int .i64 t.n, .int .i64 t.ty.kind, .string t.ty.name, .slice va vn vc, .slice (some ⟨g, 0, none⟩) t.kids.length cg]) := Lib.hid (((((((((N3.out.kept k4 (fun h => h)).set_other _ _ hn1).set_other _ _ hn1).set_other _ _ hn1).set_other _ _ hn1).set_other _ _ hn1).set_other _ _ hn1).set_other _ _ hn1))
  have C5 : Hid (Blk (((((((w4.setCell ⟨g, j * 7, none⟩ (.int .i64 r.op)).setCell ⟨g, j * 7 + 1, none⟩ (.string r.name)).setCell ⟨g, j * 7 + 2, none⟩ (.int .i64 r.n)).setCell ⟨g, j * 7 + 3, none⟩ (.int .i64 r.ty.kind)).setCell ⟨g, j * 7 + 4, none⟩ (.string r.ty.name)).setCell ⟨g, j * 7 + 5, none⟩ (.slice va4 vn4 vc4)).setCell ⟨g, j * 7 + 6, none⟩ (.slice ua4 un4 uc4)) (w.heap.size + 1 + 1) 28 z27) := Lib.hid (((((((((B3.out.c.kept k4 (fun h => h)).set_other _ _ hn2).set_other _ _ hn2).set_other _ _ hn2).set_other _ _ hn2).set_other _ _ hn2).set_other _ _ hn2).set_other _ _ hn2))
  have T5 := Lib.hid ((T3.out.frame (Same.of_kept k4 (fun _ _ e => e))).frame (set7 (W := w4) (g := g) (i0 := j * 7) (i1 := j * 7 + 1) (i2 := j * 7 + 2) (i3 := j * 7 + 3) (i4 := j * 7 + 4) (i5 := j * 7 + 5) (i6 := j * 7 + 6) (x0 := .int .i64 r.op) (x1 := .string r.name) (x2 := .int .i64 r.n) (x3 := .int .i64 r.ty.kind) (x4 := .string r.ty.name) (x5 := .slice va4 vn4 vc4) (x6 := .slice ua4 un4 uc4) (fun q hq => hq.2)))
  have hgw : w.heap.size ≤ g := by omega
  have K5 : Hid (Kept (fun _ => False) w (((((((w4.setCell ⟨g, j * 7, none⟩ (.int .i64 r.op)).setCell ⟨g, j * 7 + 1, none⟩ (.string r.name)).setCell ⟨g, j * 7 + 2, none⟩ (.int .i64 r.n)).setCell ⟨g, j * 7 + 3, none⟩ (.int .i64 r.ty.kind)).setCell ⟨g, j * 7 + 4, none⟩ (.string r.ty.name)).setCell ⟨g, j * 7 + 5, none⟩ (.slice va4 vn4 vc4)).setCell ⟨g, j * 7 + 6, none⟩ (.slice ua4 un4 uc4))) := Lib.hid ((((((((KW.out.trans k4).setCell (p := ⟨g, j * 7, none⟩) (Or.inr hgw) _).setCell (p := ⟨g, j * 7 + 1, none⟩) (Or.inr hgw) _).setCell (p := ⟨g, j * 7 + 2, none⟩) (Or.inr hgw) _).setCell (p := ⟨g, j * 7 + 3, none⟩) (Or.inr hgw) _).setCell (p := ⟨g, j * 7 + 4, none⟩) (Or.inr hgw) _).setCell (p := ⟨g, j * 7 + 5, none⟩) (Or.inr hgw) _).setCell (p := ⟨g, j * 7 + 6, none⟩) (Or.inr hgw) _)
  clear hv hu G4 R4 HC4 B3 N3 R3 T3 BG HLn hn1 hn2
  generalize (((((((w4.setCell ⟨g, j * 7, none⟩ (.int .i64 r.op)).setCell ⟨g, j * 7 + 1, none⟩ (.string r.name)).setCell ⟨g, j * 7 + 2, none⟩ (.int .i64 r.n)).setCell ⟨g, j * 7 + 3, none⟩ (.int .i64 r.ty.kind)).setCell ⟨g, j * 7 + 4, none⟩ (.string r.ty.name)).setCell ⟨g, j * 7 + 5, none⟩ (.slice va4 vn4 vc4)).setCell ⟨g, j * 7 + 6, none⟩ (.slice ua4 un4 uc4)) = w5 at *
  have gN : ∀ i, w5.cell? ⟨w2.heap.size, i, none⟩ = [Value.int .i64 t.op, .string t.name, .int .i64 t.n, .int .i64 t.ty.kind, .string t.ty.name, .slice va vn vc, .slice (some ⟨g, 0, none⟩) t.kids.length cg][i]? := N5.out.cell
  have gR : ∀ i, w5.cell? ⟨w.heap.size + 1 + 1, i, none⟩ = [Value.int .i64 0, .string ⟨#[]⟩, .int .i64 0, .int .i64 0, .string ⟨#[]⟩, .slice none 0 0, .slice none 0 0][i]? := C5.out.cell
  have fR : ∀ i, w5.frozen? ⟨w.heap.size + 1 + 1, i, none⟩ = false := C5.out.frozen
  go_wp2_with fail
  have hk := HX.out.tml (by omega) (by rw [List.length_set]; exact HCG.out)
  rw [List.length_set] at hk
  exact bodyPost_ret (results_one Tryz.results63 rfl (load_tm (t := setKid t j r) (r7 C5.out rfl))) rfl ⟨_, _, rfl, (T5.out.frame (set7 (fun q hq => by omega))).mono (fun q _ hq => by omega), ((hk.mono (ok' := fun q => w1.heap.size ≤ q) (fun q _ hq => hq)).frame (set7 (fun q hq => by omega))).mono (fun q _ hq => by omega), k7w K5.out (Or.inr (by omega))⟩
theorem put_any : ∀ (l : List Int) (t u : Tm), BdTm t → BdTm u → (atP t l).isSome = true → l.length ≤ 9223372036854775807 → ∀ (w : World) (ok ok' ok2 : Nat → Prop) (tk kk tk' kk' vl : Value), TyL ok w t.ty.kids tk → TmL ok w t.kids kk → InL ok2 w l vl → TyL ok' w u.ty.kids tk' → TmL ok' w u.kids kk' →
    Calls Tryz.prog 63 #[tmVal t tk kk, vl, tmVal u tk' kk'] w (PutP (putP t l u) w) := by
  intro l
  induction l with
  | nil =>
    intro t u ht hu _ _ w ok ok' ok2 tk kk tk' kk' vl h1 h2 hl h3 h4
    obtain ⟨a, c, rfl⟩ := hl.slice
    exact put_nil hu h1 h2 h3 h4
  | cons i l ih =>
    intro t u ht hu hat hlen w ok ok' ok2 tk kk tk' kk' vl h1 h2 hl h3 h4
    rw [atP] at hat
    have hs : stepB t i = true := by
      cases hs : stepB t i with
      | true => rfl
      | false => rw [hs] at hat; cases hat
    rw [if_pos hs] at hat
    have hj := step_lt hs
    have hkg := kid_get hj
    obtain ⟨a, n, c, rfl, rfl, hnc, hcell⟩ := hl
    obtain ⟨g0, o0, rfl, _, h5⟩ := hcell 0 (by simp)
    have hi : i = ((i.toNat : Nat) : Int) := by
      simp only [stepB, Bool.and_eq_true, decide_eq_true_eq] at hs; omega
    have h5' : w.cell? ⟨g0, o0, none⟩ = some (.int .i64 (i.toNat : Nat)) := by rw [← hi]; exact h5
    rw [putP]
    refine put_cons (l := l) (u := u) (ok' := ok') (ad := if c = 1 then some ⟨g0, o0, none⟩ else some ⟨g0, o0 + 1, none⟩) rfl ht hj (by rw [List.length_cons] at hlen ⊢; omega) (by rw [List.length_cons]; omega) ?_ h1 h2 h3 h4 h5' hnc
    intro W vk vm k hk hm
    rw [List.length_cons, Nat.add_sub_cancel]
    rw [hkg] at hat ⊢
    have hb : BdTm t.kids[i.toNat] := by
      cases ht with
      | mk _ _ hl => exact hl _ (List.getElem_mem _)
    refine ih _ u hb hu hat (by rw [List.length_cons] at hlen; omega) W _ ok' (fun _ => True) _ _ _ _ _ hk hm ?_ (h3.frame (Same.of_kept k (fun _ _ e => e))) (h4.frame (Same.of_kept k (fun _ _ e => e)))
    refine ⟨_, _, _, rfl, rfl, by rw [List.length_cons] at hnc; omega, fun q hq => ?_⟩
    obtain ⟨g1, o1, e1, _, h6⟩ := hcell (q + 1) (by simpa using hq)
    cases e1
    rw [List.length_cons] at hnc
    refine ⟨g0, o0 + 1, by rw [if_neg (by omega)], trivial, ?_⟩
    rw [k.cell (p := ⟨g0, o0 + 1 + q, none⟩) (by have := cell_lt h6; exact this) (fun h => h), show o0 + 1 + q = o0 + (q + 1) by omega]
    exact h6
set_option maxRecDepth 100000 in
set_option maxHeartbeats 16000000 in
theorem rput_nil {t u : Tm} {ok ok' : Nat → Prop} {w : World} {tk kk tk' kk' : Value} {a : Option Addr} {c : Nat} (hu : BdTm u) (h1 : TyL ok w t.ty.kids tk) (h2 : TmL ok w t.kids kk) (h3 : TyL ok' w u.ty.kids tk') (h4 : TmL ok' w u.kids kk') :
    Calls Tryz.prog 68 #[tmVal t tk kk, .slice a 0 c, tmVal u tk' kk'] w (PutP u w) := by
  obtain ⟨p, n, cp, rfl⟩ := h1.slice
  obtain ⟨ma, mn, mc, rfl⟩ := h2.slice
  obtain ⟨p', n', cp', rfl⟩ := h3.slice
  obtain ⟨ma', mn', mc', rfl⟩ := h4.slice
  have B0 := Lib.hid (Bx3.new w [.int .i64 t.op, .string t.name, .int .i64 t.n, .int .i64 t.ty.kind, .string t.ty.name, .slice p n cp, .slice ma mn mc] [.int .i64 u.op, .string u.name, .int .i64 u.n, .int .i64 u.ty.kind, .string u.ty.name, .slice p' n' cp', .slice ma' mn' mc'] z27)
  change Hid (Bx3 _ _ _ _ (((w.alloc (.cells #[.int .i64 t.op, .string t.name, .int .i64 t.n, .int .i64 t.ty.kind, .string t.ty.name, .slice p n cp, .slice ma mn mc] 28)).alloc (.cells #[.int .i64 u.op, .string u.name, .int .i64 u.n, .int .i64 u.ty.kind, .string u.ty.name, .slice p' n' cp', .slice ma' mn' mc'] 28)).alloc (.cells #[.int .i64 0, .string ⟨#[]⟩, .int .i64 0, .int .i64 0, .string ⟨#[]⟩, .slice none 0 0, .slice none 0 0] 28))) at B0
  have HC := Lib.hid (fun W (k : Kept (fun _ => False) w W) => rcopy_any hu W ok' _ _ (h3.frame (Same.of_kept k (fun _ _ e => e))) (h4.frame (Same.of_kept k (fun _ _ e => e))))
  clear h1 h2 h3 h4 hu
  unfold tmVal at HC ⊢
  go_enter Tryz.func68, Tryz.ntmps68
  go_wp2_with fail
  generalize (((w.alloc (.cells #[.int .i64 t.op, .string t.name, .int .i64 t.n, .int .i64 t.ty.kind, .string t.ty.name, .slice p n cp, .slice ma mn mc] 28)).alloc (.cells #[.int .i64 u.op, .string u.name, .int .i64 u.n, .int .i64 u.ty.kind, .string u.ty.name, .slice p' n' cp', .slice ma' mn' mc'] 28)).alloc (.cells #[.int .i64 0, .string ⟨#[]⟩, .int .i64 0, .int .i64 0, .string ⟨#[]⟩, .slice none 0 0, .slice none 0 0] 28)) = w1 at *
  refine (HC.out w1 B0.out.k).mono ?_
  rintro e w2 ⟨tk, E, kk, rfl, hty0, hrow, hmp⟩
  have hty := hty0.mono (ok' := fun q => w1.heap.size ≤ q) (fun q _ h => h.1)
  have htm : TmL (fun q => w1.heap.size ≤ q) w2 u.kids kk := by rw [← hmp]; exact hrow.tml
  have k2 := hrow.kp
  clear hty0 hrow hmp
  obtain ⟨ua, un, uc, rfl⟩ := hty.slice
  obtain ⟨va, vn, vc, rfl⟩ := htm.slice
  unfold tmVal
  have BR := Lib.hid (B0.out.kept k2)
  have HTY := Lib.hid (hty.mono (ok' := fun q => w.heap.size + 1 + 1 < q) (fun q _ hq => by have := B0.out.c.lt; omega))
  have HTM := Lib.hid (htm.mono (ok' := fun q => w.heap.size + 1 + 1 < q) (fun q _ hq => by have := B0.out.c.lt; omega))
  clear hty htm k2 B0 HC
  have gR : ∀ i, w2.cell? ⟨w.heap.size + 1 + 1, i, none⟩ = [Value.int .i64 0, .string ⟨#[]⟩, .int .i64 0, .int .i64 0, .string ⟨#[]⟩, .slice none 0 0, .slice none 0 0][i]? := BR.out.c.cell
  have fR : ∀ i, w2.frozen? ⟨w.heap.size + 1 + 1, i, none⟩ = false := BR.out.c.frozen
  go_wp2_with fail
  exact bodyPost_ret (results_one Tryz.results68 rfl (load_tm (t := u) (r7 BR.out.c rfl))) rfl ⟨_, _, rfl, (HTY.out.frame (set7 (fun q hq => by omega))).mono (fun q _ hq => by omega), (HTM.out.frame (set7 (fun q hq => by omega))).mono (fun q _ hq => by omega), k7w BR.out.k (Or.inr (by omega))⟩
set_option maxRecDepth 100000 in
set_option maxHeartbeats 16000000 in
theorem rput_cons {t u r : Tm} {j : Nat} {l : List Int} {ok ok' : Nat → Prop} {w : World} {tk kk tk' kk' : Value} {g0 o0 c m : Nat} {ad : Option Addr} (had : (if c = 1 then some (⟨g0, o0, none⟩ : Addr) else some ⟨g0, o0 + 1, none⟩) = ad) (ht : BdTm t) (hj : j < t.kids.length) (hl : (m : Int) ≤ 9223372036854775807) (hm1 : 1 ≤ m)
    (IH : ∀ (W : World) (vk vm : Value), Kept (fun _ => False) w W → TyL (fun _ => True) W t.kids[j].ty.kids vk → TmL (fun _ => True) W t.kids[j].kids vm → Calls Tryz.prog 68 #[tmVal t.kids[j] vk vm, .slice ad (m - 1) (c - 1), tmVal u tk' kk'] W (PutP r W))
    (h1 : TyL ok w t.ty.kids tk) (h2 : TmL ok w t.kids kk) (h3 : TyL ok' w u.ty.kids tk') (h4 : TmL ok' w u.kids kk') (h5 : w.cell? ⟨g0, o0, none⟩ = some (.int .i64 j)) (hc : m ≤ c) :
    Calls Tryz.prog 68 #[tmVal t tk kk, .slice (some ⟨g0, o0, none⟩) m c, tmVal u tk' kk'] w (PutP (setKid t j r) w) := by
  obtain ⟨p, n, cp, rfl⟩ := h1.slice
  obtain ⟨ma, mn, mc, rfl⟩ := h2.slice
  obtain ⟨p', n', cp', rfl⟩ := h3.slice
  obtain ⟨ma', mn', mc', rfl⟩ := h4.slice
  obtain rfl : mn = t.kids.length := h2.len
  have B0 := Lib.hid (Bx3.new w [.int .i64 t.op, .string t.name, .int .i64 t.n, .int .i64 t.ty.kind, .string t.ty.name, .slice p n cp, .slice ma t.kids.length mc] [.int .i64 u.op, .string u.name, .int .i64 u.n, .int .i64 u.ty.kind, .string u.ty.name, .slice p' n' cp', .slice ma' mn' mc'] z27)
  change Hid (Bx3 _ _ _ _ (((w.alloc (.cells #[.int .i64 t.op, .string t.name, .int .i64 t.n, .int .i64 t.ty.kind, .string t.ty.name, .slice p n cp, .slice ma t.kids.length mc] 28)).alloc (.cells #[.int .i64 u.op, .string u.name, .int .i64 u.n, .int .i64 u.ty.kind, .string u.ty.name, .slice p' n' cp', .slice ma' mn' mc'] 28)).alloc (.cells #[.int .i64 0, .string ⟨#[]⟩, .int .i64 0, .int .i64 0, .string ⟨#[]⟩, .slice none 0 0, .slice none 0 0] 28))) at B0
  have HC := Lib.hid (fun W (k : Kept (fun _ => False) w W) => rcopy_kids ht (by intro e; rw [e] at hj; exact absurd hj (Nat.not_lt_zero _)) (h1.frame (Same.of_kept k (fun _ _ e => e))) (h2.frame (Same.of_kept k (fun _ _ e => e))))
  have HAT := Lib.hid (fun W (k : Kept (fun _ => False) w W) => ((h2.mono (ok' := fun q => q < w.heap.size) (fun q hq _ => hq)).frame (Same.of_kept k (fun _ _ e => e))).at j hj)
  have HP := Lib.hid (fun W (k : Kept (fun _ => False) w W) => k.cell (p := ⟨g0, o0, none⟩) (cell_lt h5) (fun h => h))
  have H5 := Lib.hid h5
  have HIH := Lib.hid IH
  clear h1 h2 h3 h4 ht IH
  unfold tmVal at HC ⊢
  have lg0 : g0 < w.heap.size := cell_lt h5
  have tm : ((m : Int) == 0) = false := by simp; omega
  have HM1 := Lib.hid hm1
  clear hm1
  clear h5
  go_enter Tryz.func68, Tryz.ntmps68
  go_wp2_with fail
  generalize (((w.alloc (.cells #[.int .i64 t.op, .string t.name, .int .i64 t.n, .int .i64 t.ty.kind, .string t.ty.name, .slice p n cp, .slice ma t.kids.length mc] 28)).alloc (.cells #[.int .i64 u.op, .string u.name, .int .i64 u.n, .int .i64 u.ty.kind, .string u.ty.name, .slice p' n' cp', .slice ma' mn' mc'] 28)).alloc (.cells #[.int .i64 0, .string ⟨#[]⟩, .int .i64 0, .int .i64 0, .string ⟨#[]⟩, .slice none 0 0, .slice none 0 0] 28)) = w1 at *
  refine (HC.out w1 B0.out.k).mono ?_
  rintro e w2 ⟨v, g, cg, rfl, hcg, hg, hty, hrow, k2⟩
  obtain ⟨va, vn, vc, rfl⟩ := hty.slice
  unfold tmVal
  have B2 := Lib.hid (B0.out.kept k2)
  have zg : w.heap.size + 1 + 1 < g := by have := B0.out.c.lt; omega
  have ZB := Lib.hid B0.out.c.lt
  have HROW := Lib.hid hrow
  have HTY := Lib.hid hty
  have HCG := Lib.hid hcg
  clear hrow hty k2 HC B0 hcg
  go_upto_region 4 with (fail)
  have lw2 := B2.out.c.lt
  refine wp_gen (F := fun W3 => Kept (fun _ => False) w2 W3 ∧ Blk W3 w2.heap.size 28 [.int .i64 t.op, .string t.name, .int .i64 t.n, .int .i64 t.ty.kind, .string t.ty.name, .slice va vn vc, .slice (some ⟨g, 0, none⟩) t.kids.length cg]) ⟨(Kept.refl _ _).alloc _, Blk.new w2 28 _⟩ ?_
  rintro W3 ⟨k3, b3⟩
  have B3 := Lib.hid (B2.out.kept k3)
  have N3 := Lib.hid b3
  have R3 := Lib.hid (HROW.out.kept k3 (fun h => h) (fun _ _ _ h => h))
  have T3 := Lib.hid (HTY.out.frame (Same.of_kept k3 (fun _ _ e => e)))
  have KW := Lib.hid B3.out.k
  have hgw1 : w.heap.size + 1 + 1 < w1.heap.size := ZB.out
  have hgw2 : g < w2.heap.size := by obtain ⟨L, K', M', bG, _⟩ := HROW.out.row; exact bG.lt
  clear k3 b3 B2 HROW HTY
  obtain ⟨q0, o1, pa, pn, pc, qa, qn, qc, rfl, oq, lq, ⟨c0, c1, c2, c3, c4, c5, c6⟩, hkt, hkm⟩ := HAT.out W3 KW.out
  have x0 : W3.cell? ⟨w2.heap.size, 6, none⟩ = some (.slice (some ⟨g, 0, none⟩) t.kids.length cg) := N3.out.cell 6
  have x1 : W3.cell? ⟨g0, o0, none⟩ = some (.int .i64 j) := (by rw [HP.out W3 KW.out]; exact H5.out)
  have x2 : W3.cell? ⟨w.heap.size, 6, none⟩ = some (.slice (some ⟨q0, o1, none⟩) t.kids.length mc) := B3.out.a.cell 6
  have x10 : W3.cell? ⟨w.heap.size + 1, 0, none⟩ = some (.int .i64 u.op) := B3.out.b.cell 0
  have x11 : W3.cell? ⟨w.heap.size + 1, 1, none⟩ = some (.string u.name) := B3.out.b.cell 1
  have x12 : W3.cell? ⟨w.heap.size + 1, 2, none⟩ = some (.int .i64 u.n) := B3.out.b.cell 2
  have x13 : W3.cell? ⟨w.heap.size + 1, 3, none⟩ = some (.int .i64 u.ty.kind) := B3.out.b.cell 3
  have x14 : W3.cell? ⟨w.heap.size + 1, 4, none⟩ = some (.string u.ty.name) := B3.out.b.cell 4
  have x15 : W3.cell? ⟨w.heap.size + 1, 5, none⟩ = some (.slice p' n' cp') := B3.out.b.cell 5
  have x16 : W3.cell? ⟨w.heap.size + 1, 6, none⟩ = some (.slice ma' mn' mc') := B3.out.b.cell 6
  obtain ⟨L, K', M', bG, hLn, hLd⟩ := R3.out.row
  have BG := Lib.hid bG
  have HLn := Lib.hid (show j * 7 + 6 < L.length by omega)
  clear bG hLn hLd
  have HC4 : Hid (Calls Tryz.prog 68 #[.agg #[.int .i64 t.kids[j].op, .string t.kids[j].name, .int .i64 t.kids[j].n, .int .i64 t.kids[j].ty.kind, .string t.kids[j].ty.name, .slice pa pn pc, .slice qa qn qc], .slice ad (m - 1) (c - 1), .agg #[.int .i64 u.op, .string u.name, .int .i64 u.n, .int .i64 u.ty.kind, .string u.ty.name, .slice p' n' cp', .slice ma' mn' mc']] W3.drew fun e w' => ∃ tk kk, e = .returned (tmVal r tk kk) ∧ TyL (fun q => W3.heap.size ≤ q) w' r.ty.kids tk ∧ TmL (fun q => W3.heap.size ≤ q) w' r.kids kk ∧ Kept (fun _ => False) W3 w') := Lib.hid ((HIH.out W3.drew _ _ (KW.out.trans (Kept.refl _ _).drew) ((hkt.frame (Same.drew _)).mono (fun _ _ _ => trivial)) ((hkm.frame (Same.drew _)).mono (fun _ _ _ => trivial))).mono fun e w' ⟨a1, a2, h1, h2, h3, h4⟩ => ⟨a1, a2, h1, h2, h3, ((Kept.refl _ _).drew).trans h4⟩)
  clear hkt hkm HIH
  have ng1 : g ≠ w.heap.size := by omega
  have ng2 : g ≠ w.heap.size + 1 := by omega
  have ng3 : g ≠ w2.heap.size := by omega
  have ng4 : g ≠ g0 := by omega
  have ng5 : g ≠ q0 := by omega
  have hw3 : w2.heap.size < W3.heap.size := N3.out.lt
  have hB3 : w.heap.size + 1 + 1 < W3.heap.size := B3.out.c.lt
  have hjm : (j : Int) < (t.kids.length : Int) := by omega
  have hg3 : g < W3.heap.size := BG.out.lt
  have i0 : (0 : Int) < (m : Int) := by have := HM1.out; omega
  have i1 : (1 : Int) ≤ (m : Int) := by omega
  have i2 : (m : Int) ≤ (c : Int) := by omega
  have i3 : 0 < m := by omega
  clear tm
  go_region_held3 (fun w' => w'.cell? ⟨w2.heap.size, 6, none⟩ = some (.slice (some ⟨g, 0, none⟩) t.kids.length cg) ∧ w'.cell? ⟨g0, o0, none⟩ = some (.int .i64 j) ∧ w'.cell? ⟨w.heap.size, 6, none⟩ = some (.slice (some ⟨q0, o1, none⟩) t.kids.length mc) ∧ w'.cell? ⟨q0, o1 + j * 7, none⟩ = some (.int .i64 t.kids[j].op) ∧ w'.cell? ⟨q0, o1 + j * 7 + 1, none⟩ = some (.string t.kids[j].name) ∧ w'.cell? ⟨q0, o1 + j * 7 + 2, none⟩ = some (.int .i64 t.kids[j].n) ∧ w'.cell? ⟨q0, o1 + j * 7 + 3, none⟩ = some (.int .i64 t.kids[j].ty.kind) ∧ w'.cell? ⟨q0, o1 + j * 7 + 4, none⟩ = some (.string t.kids[j].ty.name) ∧ w'.cell? ⟨q0, o1 + j * 7 + 5, none⟩ = some (.slice pa pn pc) ∧ w'.cell? ⟨q0, o1 + j * 7 + 6, none⟩ = some (.slice qa qn qc) ∧ w'.cell? ⟨w.heap.size + 1, 0, none⟩ = some (.int .i64 u.op) ∧ w'.cell? ⟨w.heap.size + 1, 1, none⟩ = some (.string u.name) ∧ w'.cell? ⟨w.heap.size + 1, 2, none⟩ = some (.int .i64 u.n) ∧ w'.cell? ⟨w.heap.size + 1, 3, none⟩ = some (.int .i64 u.ty.kind) ∧ w'.cell? ⟨w.heap.size + 1, 4, none⟩ = some (.string u.ty.name) ∧ w'.cell? ⟨w.heap.size + 1, 5, none⟩ = some (.slice p' n' cp') ∧ w'.cell? ⟨w.heap.size + 1, 6, none⟩ = some (.slice ma' mn' mc')) (go_keep)
    (first | (go_at_call 68; refine HC4.out.mono ?_; rintro e w4 ⟨tk4, kk4, rfl, hv, hu, k4⟩; obtain ⟨va4, vn4, vc4, rfl⟩ := hv.slice; obtain ⟨ua4, un4, uc4, rfl⟩ := hu.slice; unfold tmVal; have G4 := BG.out.kept k4 (fun h => h); have y0 : w4.cell? ⟨w2.heap.size, 6, none⟩ = some (.slice (some ⟨g, 0, none⟩) t.kids.length cg) := (N3.out.kept k4 (fun h => h)).cell 6; have y1 : w4.cell? ⟨g0, o0, none⟩ = some (.int .i64 j) := (by rw [HP.out w4 (KW.out.trans k4)]; exact H5.out); have y2 : w4.cell? ⟨w.heap.size, 6, none⟩ = some (.slice (some ⟨q0, o1, none⟩) t.kids.length mc) := (B3.out.kept k4).a.cell 6; have y3 : w4.cell? ⟨q0, o1 + j * 7, none⟩ = some (.int .i64 t.kids[j].op) := (by rw [k4.cell (p := ⟨q0, o1 + j * 7, none⟩) (by show q0 < _; omega) (fun h => h)]; exact c0); have y4 : w4.cell? ⟨q0, o1 + j * 7 + 1, none⟩ = some (.string t.kids[j].name) := (by rw [k4.cell (p := ⟨q0, o1 + j * 7 + 1, none⟩) (by show q0 < _; omega) (fun h => h)]; exact c1); have y5 : w4.cell? ⟨q0, o1 + j * 7 + 2, none⟩ = some (.int .i64 t.kids[j].n) := (by rw [k4.cell (p := ⟨q0, o1 + j * 7 + 2, none⟩) (by show q0 < _; omega) (fun h => h)]; exact c2); have y6 : w4.cell? ⟨q0, o1 + j * 7 + 3, none⟩ = some (.int .i64 t.kids[j].ty.kind) := (by rw [k4.cell (p := ⟨q0, o1 + j * 7 + 3, none⟩) (by show q0 < _; omega) (fun h => h)]; exact c3); have y7 : w4.cell? ⟨q0, o1 + j * 7 + 4, none⟩ = some (.string t.kids[j].ty.name) := (by rw [k4.cell (p := ⟨q0, o1 + j * 7 + 4, none⟩) (by show q0 < _; omega) (fun h => h)]; exact c4); have y8 : w4.cell? ⟨q0, o1 + j * 7 + 5, none⟩ = some (.slice pa pn pc) := (by rw [k4.cell (p := ⟨q0, o1 + j * 7 + 5, none⟩) (by show q0 < _; omega) (fun h => h)]; exact c5); have y9 : w4.cell? ⟨q0, o1 + j * 7 + 6, none⟩ = some (.slice qa qn qc) := (by rw [k4.cell (p := ⟨q0, o1 + j * 7 + 6, none⟩) (by show q0 < _; omega) (fun h => h)]; exact c6); have y10 : w4.cell? ⟨w.heap.size + 1, 0, none⟩ = some (.int .i64 u.op) := (B3.out.kept k4).b.cell 0; have y11 : w4.cell? ⟨w.heap.size + 1, 1, none⟩ = some (.string u.name) := (B3.out.kept k4).b.cell 1; have y12 : w4.cell? ⟨w.heap.size + 1, 2, none⟩ = some (.int .i64 u.n) := (B3.out.kept k4).b.cell 2; have y13 : w4.cell? ⟨w.heap.size + 1, 3, none⟩ = some (.int .i64 u.ty.kind) := (B3.out.kept k4).b.cell 3; have y14 : w4.cell? ⟨w.heap.size + 1, 4, none⟩ = some (.string u.ty.name) := (B3.out.kept k4).b.cell 4; have y15 : w4.cell? ⟨w.heap.size + 1, 5, none⟩ = some (.slice p' n' cp') := (B3.out.kept k4).b.cell 5; have y16 : w4.cell? ⟨w.heap.size + 1, 6, none⟩ = some (.slice ma' mn' mc') := (B3.out.kept k4).b.cell 6; have t0 : w4.cell? ⟨g, j * 7, none⟩ = some (L[j * 7]'(by have := HLn.out; omega)) := (by rw [G4.cell]; exact List.getElem?_eq_getElem _); have t1 : w4.cell? ⟨g, j * 7 + 1, none⟩ = some (L[j * 7 + 1]'(by have := HLn.out; omega)) := (by rw [G4.cell]; exact List.getElem?_eq_getElem _); have t2 : w4.cell? ⟨g, j * 7 + 2, none⟩ = some (L[j * 7 + 2]'(by have := HLn.out; omega)) := (by rw [G4.cell]; exact List.getElem?_eq_getElem _); have t3 : w4.cell? ⟨g, j * 7 + 3, none⟩ = some (L[j * 7 + 3]'(by have := HLn.out; omega)) := (by rw [G4.cell]; exact List.getElem?_eq_getElem _); have t4 : w4.cell? ⟨g, j * 7 + 4, none⟩ = some (L[j * 7 + 4]'(by have := HLn.out; omega)) := (by rw [G4.cell]; exact List.getElem?_eq_getElem _); have t5 : w4.cell? ⟨g, j * 7 + 5, none⟩ = some (L[j * 7 + 5]'(by have := HLn.out; omega)) := (by rw [G4.cell]; exact List.getElem?_eq_getElem _); have t6 : w4.cell? ⟨g, j * 7 + 6, none⟩ = some (L[j * 7 + 6]'(by have := HLn.out; omega)) := (by rw [G4.cell]; exact List.getElem?_eq_getElem _); have f0 := G4.frozen (j * 7); have f1 := G4.frozen (j * 7 + 1); have f2 := G4.frozen (j * 7 + 2); have f3 := G4.frozen (j * 7 + 3); have f4 := G4.frozen (j * 7 + 4); have f5 := G4.frozen (j * 7 + 5); have f6 := G4.frozen (j * 7 + 6); clear hl hc))
  clear y0 y1 y2 y3 y4 y5 y6 y7 y8 y9 y10 y11 y12 y13 y14 y15 y16 t0 t1 t2 t3 t4 t5 t6 f0 f1 f2 f3 f4 f5 f6 x0 x1 x2 c0 c1 c2 c3 c4 c5 c6 x10 x11 x12 x13 x14 x15 x16 i0 i1 i2 i3 had
  have zw1 : w1.heap.size ≤ w2.heap.size := by omega
  have R4 := R3.out.kept k4 (fun h => h) (fun _ _ _ h => h)
  have HX := Lib.hid (R4.put hj (hv.mono (fun q _ hq => ⟨by omega, by omega⟩)) (hu.mono (fun q _ hq => ⟨by omega, by omega⟩)))
  have hn1 : w2.heap.size ≠ g := by omega
  have hn2 : w.heap.size + 1 + 1 ≠ g := by omega
  have N5 : Hid (Blk (((((((w4.setCell ⟨g, j * 7, none⟩ (.int .i64 r.op)).setCell ⟨g, j * 7 + 1, none⟩ (.string r.name)).setCell ⟨g, j * 7 + 2, none⟩ (.int .i64 r.n)).setCell ⟨g, j * 7 + 3, none⟩ (.int .i64 r.ty.kind)).setCell ⟨g, j * 7 + 4, none⟩ (.string r.ty.name)).setCell ⟨g, j * 7 + 5, none⟩ (.slice va4 vn4 vc4)).setCell ⟨g, j * 7 + 6, none⟩ (.slice ua4 un4 uc4)) w2.heap.size 28 [.int .i64 t.op, .string t.name, .int .i64 t.n, .int .i64 t.ty.kind, .string t.ty.name, .slice va vn vc, .slice (some ⟨g, 0, none⟩) t.kids.length cg]) := Lib.hid (((((((((N3.out.kept k4 (fun h => h)).set_other _ _ hn1).set_other _ _ hn1).set_other _ _ hn1).set_other _ _ hn1).set_other _ _ hn1).set_other _ _ hn1).set_other _ _ hn1))
  have C5 : Hid (Blk (((((((w4.setCell ⟨g, j * 7, none⟩ (.int .i64 r.op)).setCell ⟨g, j * 7 + 1, none⟩ (.string r.name)).setCell ⟨g, j * 7 + 2, none⟩ (.int .i64 r.n)).setCell ⟨g, j * 7 + 3, none⟩ (.int .i64 r.ty.kind)).setCell ⟨g, j * 7 + 4, none⟩ (.string r.ty.name)).setCell ⟨g, j * 7 + 5, none⟩ (.slice va4 vn4 vc4)).setCell ⟨g, j * 7 + 6, none⟩ (.slice ua4 un4 uc4)) (w.heap.size + 1 + 1) 28 z27) := Lib.hid (((((((((B3.out.c.kept k4 (fun h => h)).set_other _ _ hn2).set_other _ _ hn2).set_other _ _ hn2).set_other _ _ hn2).set_other _ _ hn2).set_other _ _ hn2).set_other _ _ hn2))
  have T5 := Lib.hid ((T3.out.frame (Same.of_kept k4 (fun _ _ e => e))).frame (set7 (W := w4) (g := g) (i0 := j * 7) (i1 := j * 7 + 1) (i2 := j * 7 + 2) (i3 := j * 7 + 3) (i4 := j * 7 + 4) (i5 := j * 7 + 5) (i6 := j * 7 + 6) (x0 := .int .i64 r.op) (x1 := .string r.name) (x2 := .int .i64 r.n) (x3 := .int .i64 r.ty.kind) (x4 := .string r.ty.name) (x5 := .slice va4 vn4 vc4) (x6 := .slice ua4 un4 uc4) (fun q hq => hq.2)))
  have hgw : w.heap.size ≤ g := by omega
  have K5 : Hid (Kept (fun _ => False) w (((((((w4.setCell ⟨g, j * 7, none⟩ (.int .i64 r.op)).setCell ⟨g, j * 7 + 1, none⟩ (.string r.name)).setCell ⟨g, j * 7 + 2, none⟩ (.int .i64 r.n)).setCell ⟨g, j * 7 + 3, none⟩ (.int .i64 r.ty.kind)).setCell ⟨g, j * 7 + 4, none⟩ (.string r.ty.name)).setCell ⟨g, j * 7 + 5, none⟩ (.slice va4 vn4 vc4)).setCell ⟨g, j * 7 + 6, none⟩ (.slice ua4 un4 uc4))) := Lib.hid ((((((((KW.out.trans k4).setCell (p := ⟨g, j * 7, none⟩) (Or.inr hgw) _).setCell (p := ⟨g, j * 7 + 1, none⟩) (Or.inr hgw) _).setCell (p := ⟨g, j * 7 + 2, none⟩) (Or.inr hgw) _).setCell (p := ⟨g, j * 7 + 3, none⟩) (Or.inr hgw) _).setCell (p := ⟨g, j * 7 + 4, none⟩) (Or.inr hgw) _).setCell (p := ⟨g, j * 7 + 5, none⟩) (Or.inr hgw) _).setCell (p := ⟨g, j * 7 + 6, none⟩) (Or.inr hgw) _)
  clear hv hu G4 R4 HC4 B3 N3 R3 T3 BG HLn hn1 hn2
  generalize (((((((w4.setCell ⟨g, j * 7, none⟩ (.int .i64 r.op)).setCell ⟨g, j * 7 + 1, none⟩ (.string r.name)).setCell ⟨g, j * 7 + 2, none⟩ (.int .i64 r.n)).setCell ⟨g, j * 7 + 3, none⟩ (.int .i64 r.ty.kind)).setCell ⟨g, j * 7 + 4, none⟩ (.string r.ty.name)).setCell ⟨g, j * 7 + 5, none⟩ (.slice va4 vn4 vc4)).setCell ⟨g, j * 7 + 6, none⟩ (.slice ua4 un4 uc4)) = w5 at *
  have gN : ∀ i, w5.cell? ⟨w2.heap.size, i, none⟩ = [Value.int .i64 t.op, .string t.name, .int .i64 t.n, .int .i64 t.ty.kind, .string t.ty.name, .slice va vn vc, .slice (some ⟨g, 0, none⟩) t.kids.length cg][i]? := N5.out.cell
  have gR : ∀ i, w5.cell? ⟨w.heap.size + 1 + 1, i, none⟩ = [Value.int .i64 0, .string ⟨#[]⟩, .int .i64 0, .int .i64 0, .string ⟨#[]⟩, .slice none 0 0, .slice none 0 0][i]? := C5.out.cell
  have fR : ∀ i, w5.frozen? ⟨w.heap.size + 1 + 1, i, none⟩ = false := C5.out.frozen
  go_wp2_with fail
  have hk := HX.out.tml (by omega) (by rw [List.length_set]; exact HCG.out)
  rw [List.length_set] at hk
  exact bodyPost_ret (results_one Tryz.results68 rfl (load_tm (t := setKid t j r) (r7 C5.out rfl))) rfl ⟨_, _, rfl, (T5.out.frame (set7 (fun q hq => by omega))).mono (fun q _ hq => by omega), ((hk.mono (ok' := fun q => w1.heap.size ≤ q) (fun q _ hq => hq)).frame (set7 (fun q hq => by omega))).mono (fun q _ hq => by omega), k7w K5.out (Or.inr (by omega))⟩
theorem rput_any : ∀ (l : List Int) (t u : Tm), BdTm t → BdTm u → (atP t l).isSome = true → l.length ≤ 9223372036854775807 → ∀ (w : World) (ok ok' ok2 : Nat → Prop) (tk kk tk' kk' vl : Value), TyL ok w t.ty.kids tk → TmL ok w t.kids kk → InL ok2 w l vl → TyL ok' w u.ty.kids tk' → TmL ok' w u.kids kk' →
    Calls Tryz.prog 68 #[tmVal t tk kk, vl, tmVal u tk' kk'] w (PutP (putP t l u) w) := by
  intro l
  induction l with
  | nil =>
    intro t u ht hu _ _ w ok ok' ok2 tk kk tk' kk' vl h1 h2 hl h3 h4
    obtain ⟨a, c, rfl⟩ := hl.slice
    exact rput_nil hu h1 h2 h3 h4
  | cons i l ih =>
    intro t u ht hu hat hlen w ok ok' ok2 tk kk tk' kk' vl h1 h2 hl h3 h4
    rw [atP] at hat
    have hs : stepB t i = true := by
      cases hs : stepB t i with
      | true => rfl
      | false => rw [hs] at hat; cases hat
    rw [if_pos hs] at hat
    have hj := step_lt hs
    have hkg := kid_get hj
    obtain ⟨a, n, c, rfl, rfl, hnc, hcell⟩ := hl
    obtain ⟨g0, o0, rfl, _, h5⟩ := hcell 0 (by simp)
    have hi : i = ((i.toNat : Nat) : Int) := by
      simp only [stepB, Bool.and_eq_true, decide_eq_true_eq] at hs; omega
    have h5' : w.cell? ⟨g0, o0, none⟩ = some (.int .i64 (i.toNat : Nat)) := by rw [← hi]; exact h5
    rw [putP]
    refine rput_cons (l := l) (u := u) (ok' := ok') (ad := if c = 1 then some ⟨g0, o0, none⟩ else some ⟨g0, o0 + 1, none⟩) rfl ht hj (by rw [List.length_cons] at hlen ⊢; omega) (by rw [List.length_cons]; omega) ?_ h1 h2 h3 h4 h5' hnc
    intro W vk vm k hk hm
    rw [List.length_cons, Nat.add_sub_cancel]
    rw [hkg] at hat ⊢
    have hb : BdTm t.kids[i.toNat] := by
      cases ht with
      | mk _ _ hl => exact hl _ (List.getElem_mem _)
    refine ih _ u hb hu hat (by rw [List.length_cons] at hlen; omega) W _ ok' (fun _ => True) _ _ _ _ _ hk hm ?_ (h3.frame (Same.of_kept k (fun _ _ e => e))) (h4.frame (Same.of_kept k (fun _ _ e => e)))
    refine ⟨_, _, _, rfl, rfl, by rw [List.length_cons] at hnc; omega, fun q hq => ?_⟩
    obtain ⟨g1, o1, e1, _, h6⟩ := hcell (q + 1) (by simpa using hq)
    cases e1
    rw [List.length_cons] at hnc
    refine ⟨g0, o0 + 1, by rw [if_neg (by omega)], trivial, ?_⟩
    rw [k.cell (p := ⟨g0, o0 + 1 + q, none⟩) (by have := cell_lt h6; exact this) (fun h => h), show o0 + 1 + q = o0 + (q + 1) by omega]
    exact h6
theorem OkTm.kid {t u : Tm} (h : OkTm t) (hu : u ∈ t.kids) : OkTm u := by cases h with | mk _ _ hl => exact hl u hu
theorem pair_valid {a b : Tm} {ok ok' : Nat → Prop} {w : World} {tk kk tk' kk' : Value} (h1 : TyL ok w a.ty.kids tk) (h2 : TmL ok w a.kids kk) (h3 : TyL ok' w b.ty.kids tk') (h4 : TmL ok' w b.kids kk') (ha : SmTm big a) (hb : SmTm big b) :
    ∀ (W9 : World) (g9 : Nat), W9 = w.alloc (.cells (tmCells a tk kk ++ tmCells b tk' kk').toArray 28) → g9 = w.heap.size → Calls Tryz.prog 60 #[.slice (some ⟨g9, 0, none⟩) 2 2] W9 fun e w' => e = .returned (.bool (validB a && validB b)) ∧ Kept (fun _ => False) W9 w' := by
  rintro W9 g9 rfl rfl
  have hL : TmL (fun _ => True) (w.alloc (.cells (tmCells a tk kk ++ tmCells b tk' kk').toArray 28)) [a, b] (.slice (some ⟨w.heap.size, 0, none⟩) 2 2) :=
    TmL.two trivial (Nat.le_refl _) (Blk.new w 28 (tmCells a tk kk ++ tmCells b tk' kk')) ((h1.frame (Same.alloc _ _)).mono (fun _ _ _ => trivial)) ((h2.frame (Same.alloc _ _)).mono (fun _ _ _ => trivial)) ((h3.frame (Same.alloc _ _)).mono (fun _ _ _ => trivial)) ((h4.frame (Same.alloc _ _)).mono (fun _ _ _ => trivial))
  refine (valids_any (by simp) (fun t ht => ?_) hL).mono fun e w' ⟨h, k⟩ => ⟨?_, k⟩
  · rcases List.mem_cons.1 ht with rfl | ht
    · exact ha
    · rw [List.mem_singleton.1 ht]; exact hb
  · rw [h]; simp
def mkJ (op : Int) (a b : Tm) : Tm := .mk op nil0 0 ty0 [a, b]
theorem TmL.cap {ok : Nat → Prop} {w : World} {l : List Tm} {a : Option Addr} {n c : Nat} (h : TmL ok w l (.slice a n c)) : l.length ≤ c := by
  generalize hv : Value.slice a n c = v at h
  cases h with
  | nil he => exact Nat.zero_le _
  | mk K M hne hb hc hcell hk hm => cases hv; exact hc
def TmE (r : Tm × Int) (w : World) (e : Ending) (w' : World) : Prop := ∃ tk kk, e = .returned (.tuple #[tmVal r.1 tk kk, .int .i64 r.2]) ∧ TyL (fun k => w.heap.size ≤ k) w' r.1.ty.kids tk ∧ TmL (fun k => w.heap.size ≤ k) w' r.1.kids kk ∧ Kept (fun _ => False) w w'
structure JI (w : World) (R O : Nat) (o : Tm) (wr : World) (tk kk : Value) : Prop where
  kp : Kept (fun _ => False) w wr
  r : Blk wr R 28 z27
  ob : Blk wr O 28 (tmCells o tk kk)
  ty : TyL (fun q => R + 1 ≤ q ∧ q ≠ O) wr o.ty.kids tk
  tm : TmL (fun q => R + 1 ≤ q ∧ q ≠ O) wr o.kids kk
theorem JI.step {w wr w4 : World} {R O : Nat} {o t : Tm} {op : Int} {tk kk v u : Value} (h : JI w R O o wr tk kk) (hR0 : w.heap.size ≤ R) (hO : R + 1 ≤ O) (k4 : Kept (fun _ => False) wr w4) (hv : TyL (fun q => wr.heap.size ≤ q) w4 t.ty.kids v) (hu : TmL (fun q => wr.heap.size ≤ q) w4 t.kids u) :
    JI w R O (mkJ op o t) ((((((((w4.setCell ⟨O, 0, none⟩ (.int .i64 op)).setCell ⟨O, 1, none⟩ (.string ⟨#[]⟩)).setCell ⟨O, 2, none⟩ (.int .i64 0)).setCell ⟨O, 3, none⟩ (.int .i64 0)).setCell ⟨O, 4, none⟩ (.string ⟨#[]⟩)).setCell ⟨O, 5, none⟩ (.slice none 0 0)).setCell ⟨O, 6, none⟩ (.slice (some ⟨w4.heap.size, 0, none⟩) 2 2)).alloc (.cells (tmCells o tk kk ++ tmCells t v u).toArray 28)) (.slice none 0 0) (.slice (some ⟨w4.heap.size, 0, none⟩) 2 2) := by
  have lO := h.ob.lt
  have z4 := k4.size
  have kw := h.kp.size
  have hB : w4.heap.size ≠ O := by omega
  have hs7 : Same (fun q => R + 1 ≤ q ∧ q ≠ O) w4 (((((((w4.setCell ⟨O, 0, none⟩ (.int .i64 op)).setCell ⟨O, 1, none⟩ (.string ⟨#[]⟩)).setCell ⟨O, 2, none⟩ (.int .i64 0)).setCell ⟨O, 3, none⟩ (.int .i64 0)).setCell ⟨O, 4, none⟩ (.string ⟨#[]⟩)).setCell ⟨O, 5, none⟩ (.slice none 0 0)).setCell ⟨O, 6, none⟩ (.slice (some ⟨w4.heap.size, 0, none⟩) 2 2)) := set7 (fun q hq => hq.2)
  have hn : R ≠ O := by omega
  have hR := h.r.kept k4 (fun h => h)
  refine ⟨(k7w (h.kp.trans k4) (Or.inr (by omega))).alloc _, (((((((hR.set_other _ _ hn).set_other _ _ hn).set_other _ _ hn).set_other _ _ hn).set_other _ _ hn).set_other _ _ hn).set_other _ _ hn).alloc _, (r7 (h.ob.kept k4 (fun h => h)) rfl).alloc _, .nil (Or.inl rfl), ?_⟩
  have bB := Blk.new' (w := ((((((w4.setCell ⟨O, 0, none⟩ (.int .i64 op)).setCell ⟨O, 1, none⟩ (.string ⟨#[]⟩)).setCell ⟨O, 2, none⟩ (.int .i64 0)).setCell ⟨O, 3, none⟩ (.int .i64 0)).setCell ⟨O, 4, none⟩ (.string ⟨#[]⟩)).setCell ⟨O, 5, none⟩ (.slice none 0 0)).setCell ⟨O, 6, none⟩ (.slice (some ⟨w4.heap.size, 0, none⟩) 2 2)) (g := w4.heap.size) 28 (tmCells o tk kk ++ tmCells t v u) (by simp)
  exact TmL.two (t := o) (u := t) ⟨by omega, hB⟩ (Nat.le_refl _) bB (((h.ty.frame (Same.of_kept k4 (fun _ _ e => e))).frame hs7).frame (Same.alloc _ _)) (((h.tm.frame (Same.of_kept k4 (fun _ _ e => e))).frame hs7).frame (Same.alloc _ _))
    (((hv.mono (fun q _ hq => ⟨by omega, by omega⟩)).frame hs7).frame (Same.alloc _ _)) (((hu.mono (fun q _ hq => ⟨by omega, by omega⟩)).frame hs7).frame (Same.alloc _ _))
theorem JI.kept {w wr w4 : World} {R O : Nat} {o : Tm} {tk kk : Value} (h : JI w R O o wr tk kk) (k : Kept (fun _ => False) wr w4) : JI w R O o w4 tk kk :=
  ⟨h.kp.trans k, h.r.kept k (fun h => h), h.ob.kept k (fun h => h), h.ty.frame (Same.of_kept k (fun _ _ e => e)), h.tm.frame (Same.of_kept k (fun _ _ e => e))⟩
end Go.Proofs.YtfhedienjnfdcaaGreatDoor
