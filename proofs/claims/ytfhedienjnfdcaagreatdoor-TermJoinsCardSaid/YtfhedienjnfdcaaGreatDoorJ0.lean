/- Texts PJoin JnB JnR ConjW ConjR of this proof, in one. -/
import Derived.Test.YtfhedienjnfdcaaGreatDoorS0
import Derived.Test.YtfhedienjnfdcaaGreatDoorS1
import Derived.Test.YtfhedienjnfdcaaGreatDoorS2
import Derived.Test.YtfhedienjnfdcaaGreatDoorS3
import Derived.Test.YtfhedienjnfdcaaGreatDoorS4
import Derived.Test.YtfhedienjnfdcaaGreatDoorS5
import Derived.Test.YtfhedienjnfdcaaGreatDoorS6
import Derived.Test.YtfhedienjnfdcaaGreatDoorS7
import Derived.Test.YtfhedienjnfdcaaGreatDoorS8
import Derived.Test.YtfhedienjnfdcaaGreatDoorS9
import Derived.Test.YtfhedienjnfdcaaGreatDoorS10
import Derived.Test.YtfhedienjnfdcaaGreatDoorS11
import Derived.Test.YtfhedienjnfdcaaGreatDoorS12
import Derived.Test.YtfhedienjnfdcaaGreatDoorS13
import Derived.Test.YtfhedienjnfdcaaGreatDoorS14
import Derived.Test.YtfhedienjnfdcaaGreatDoorS15
import Derived.Deep.RegionLaw
import Derived.Deep.RegionHeld3
set_option linter.unusedVariables false
set_option linter.unusedSimpArgs false
namespace Go.Proofs.YtfhedienjnfdcaaGreatDoor
open Go.RowKit
def mkJ (op : Int) (a b : Tm) : Tm := .mk op nil0 0 ty0 [a, b]
def foldJ (op : Int) : Tm → List Tm → Tm
  | o, [] => o
  | o, t :: l => foldJ op (mkJ op o t) l
def loopJ (op : Int) : Tm → List Tm → Tm × Int
  | o, [] => (o, 0)
  | o, t :: l => if 2000 < tmN (mkJ op o t) ∨ 64 < tmD (mkJ op o t) then (tm0, 5) else loopJ op (mkJ op o t) l
def joinS (op em : Int) (l : List Tm) : Tm × Int :=
  if l.all validB then (match l with
    | [] => (.mk em nil0 0 ty0 [], 0)
    | a :: r => loopJ op a r) else (tm0, 1)
def sumR : List Tm → Nat → Nat → Bool
  | [], _, _ => false
  | t :: l, s, i => if 2000 < s + tmN t ∨ 64 ≤ i then true else sumR l (s + tmN t + 1) (i + 1)
def joinR (op em : Int) (l : List Tm) : Tm × Int :=
  if l.all validB then (match l with
    | [] => (.mk em nil0 0 ty0 [], 0)
    | a :: r => if sumR (a :: r) 0 0 then (tm0, 5) else if validB (foldJ op a r) then (foldJ op a r, 0) else (tm0, 5)) else (tm0, 1)
theorem mkJ_N (op : Int) (a b : Tm) : tmN (mkJ op a b) = tmN a + tmN b + 1 := by
  unfold mkJ; simp only [tmN, tmNs]; omega
theorem mkJ_D (op : Int) (a b : Tm) : tmD (mkJ op a b) = max (tmD a) (tmD b) + 1 := by
  unfold mkJ; simp only [tmD, tmDs]; omega
theorem tmD_pos (t : Tm) : 1 ≤ tmD t := by cases t; simp only [tmD]; omega
theorem fold_N (op : Int) : ∀ (l : List Tm) (o : Tm), tmN o ≤ tmN (foldJ op o l)
  | [], o => Nat.le_refl _
  | t :: l, o => by
    have := fold_N op l (mkJ op o t)
    rw [mkJ_N] at this
    show tmN o ≤ tmN (foldJ op (mkJ op o t) l); omega
theorem fold_D (op : Int) : ∀ (l : List Tm) (o : Tm), tmD o ≤ tmD (foldJ op o l)
  | [], o => Nat.le_refl _
  | t :: l, o => by
    have := fold_D op l (mkJ op o t)
    rw [mkJ_D] at this
    show tmD o ≤ tmD (foldJ op (mkJ op o t) l); omega
theorem mkJ_ok {op : Int} (hop : formedB op nil0 0 ty0 2 = true) {a b : Tm} (ha : OkTm a) (hb : OkTm b) : OkTm (mkJ op a b) :=
  .mk hop (by simp) (fun u hu => by
    rcases List.mem_cons.1 hu with rfl | hu
    · exact ha
    · rw [List.mem_singleton.1 hu]; exact hb)
theorem valid_no {t : Tm} (h : 2000 < tmN t ∨ 64 < tmD t) : validB t = false := by
  cases hv : validB t
  · rfl
  · have := (valid_iff t).1 hv
    omega
theorem valid_yes {t : Tm} (h : OkTm t) (h1 : tmN t ≤ 2000) (h2 : tmD t ≤ 64) : validB t = true := (valid_iff t).2 ⟨h, h1, h2⟩
theorem loop_valid {op : Int} (hop : formedB op nil0 0 ty0 2 = true) : ∀ (l : List Tm) (o : Tm), OkTm o → tmN o ≤ 2000 → tmD o ≤ 64 → (∀ t ∈ l, OkTm t) → loopJ op o l = if validB (foldJ op o l) then (foldJ op o l, 0) else (tm0, 5)
  | [], o, ho, hN, hD, _ => by
    show (o, 0) = if validB o then (o, 0) else (tm0, 5)
    rw [valid_yes ho hN hD]; rfl
  | t :: l, o, ho, hN, hD, hl => by
    show (if 2000 < tmN (mkJ op o t) ∨ 64 < tmD (mkJ op o t) then (tm0, 5) else loopJ op (mkJ op o t) l) = if validB (foldJ op (mkJ op o t) l) then (foldJ op (mkJ op o t) l, 0) else (tm0, 5)
    by_cases h : 2000 < tmN (mkJ op o t) ∨ 64 < tmD (mkJ op o t)
    · have h1 := fold_N op l (mkJ op o t)
      have h2 := fold_D op l (mkJ op o t)
      rw [if_pos h, valid_no (by omega)]; rfl
    · rw [if_neg h]
      exact loop_valid hop l _ (mkJ_ok hop ho (hl t (by simp))) (by omega) (by omega) (fun u hu => hl u (List.mem_cons_of_mem _ hu))
theorem sum_no (op : Int) : ∀ (l : List Tm) (o : Tm) (i : Nat), i ≤ tmD o → sumR l (tmN o + 1) i = true → 2000 < tmN (foldJ op o l) ∨ 64 < tmD (foldJ op o l)
  | [], o, i, _, h => by cases h
  | t :: l, o, i, hi, h => by
    have h1 := fold_N op l (mkJ op o t)
    have h2 := fold_D op l (mkJ op o t)
    have e1 := mkJ_N op o t
    have e2 := mkJ_D op o t
    show 2000 < tmN (foldJ op (mkJ op o t) l) ∨ 64 < tmD (foldJ op (mkJ op o t) l)
    unfold sumR at h
    split at h
    · omega
    · have := sum_no op l (mkJ op o t) (i + 1) (by omega) (by rw [e1, show tmN o + tmN t + 1 + 1 = tmN o + 1 + tmN t + 1 by omega]; exact h)
      exact this
theorem join_eq2 {op : Int} (hop : formedB op nil0 0 ty0 2 = true) (em : Int) (l : List Tm) : joinR op em l = joinS op em l := by
  unfold joinR joinS
  cases ha : l.all validB
  · rfl
  · cases l with
    | nil => rfl
    | cons a r =>
      simp only [List.all_cons, Bool.and_eq_true, List.all_eq_true] at ha
      have va := (valid_iff a).1 ha.1
      have vr : ∀ t ∈ r, OkTm t := fun t ht => ((valid_iff t).1 (ha.2 t ht)).1
      simp only [if_true]
      rw [loop_valid hop r a va.1 va.2.1 va.2.2 vr]
      cases hs : sumR (a :: r) 0 0
      · rfl
      · have : sumR r (tmN a + 1) 1 = true := by
          unfold sumR at hs
          rw [if_neg (by omega)] at hs
          rw [Nat.zero_add] at hs; exact hs
        rw [valid_no (sum_no op r a 1 (tmD_pos a) this)]; rfl
mutual
def conjT : Tm → List Tm
  | .mk op nm N ty l => if op = 4 then conjsT l else [.mk op nm N ty l]
def conjsT : List Tm → List Tm
  | [] => []
  | t :: l => conjT t ++ conjsT l
end
theorem conj_fold : ∀ (l : List Tm) (o : Tm), conjT (foldJ 4 o l) = conjT o ++ conjsT l
  | [], o => by show conjT o = conjT o ++ []; rw [List.append_nil]
  | t :: l, o => by
    show conjT (foldJ 4 (mkJ 4 o t) l) = conjT o ++ (conjT t ++ conjsT l)
    rw [conj_fold l (mkJ 4 o t)]
    show (conjT o ++ (conjT t ++ [])) ++ conjsT l = _
    rw [List.append_nil, List.append_assoc]
theorem TmL.cap {ok : Nat → Prop} {w : World} {l : List Tm} {a : Option Addr} {n c : Nat} (h : TmL ok w l (.slice a n c)) : l.length ≤ c := by
  generalize hv : Value.slice a n c = v at h
  cases h with
  | nil he => exact Nat.zero_le _
  | mk K M hne hb hc hcell hk hm => cases hv; exact hc
def TmE (r : Tm × Int) (w : World) (e : Ending) (w' : World) : Prop := ∃ tk kk, e = .returned (.tuple #[tmVal r.1 tk kk, .int .i64 r.2]) ∧ TyL (fun k => w.heap.size ≤ k) w' r.1.ty.kids tk ∧ TmL (fun k => w.heap.size ≤ k) w' r.1.kids kk ∧ Kept (fun _ => False) w w'
structure JI (w : World) (R O : Nat) (o : Tm) (wr : World) (tk kk : Value) : Prop where
  kp : Kept (fun _ => False) w wr
  r : Blk wr R 28 z27
  ob : Blk wr O 28 (tmCells o tk kk)
  ty : TyL (fun q => R + 1 ≤ q ∧ q ≠ O) wr o.ty.kids tk
  tm : TmL (fun q => R + 1 ≤ q ∧ q ≠ O) wr o.kids kk
theorem JI.step {w wr w4 : World} {R O : Nat} {o t : Tm} {op : Int} {tk kk v u : Value} (h : JI w R O o wr tk kk) (hR0 : w.heap.size ≤ R) (hO : R + 1 ≤ O) (k4 : Kept (fun _ => False) wr w4) (hv : TyL (fun q => wr.heap.size ≤ q) w4 t.ty.kids v) (hu : TmL (fun q => wr.heap.size ≤ q) w4 t.kids u) :
    JI w R O (mkJ op o t) ((((((((w4.setCell ⟨O, 0, none⟩ (.int .i64 op)).setCell ⟨O, 1, none⟩ (.string ⟨#[]⟩)).setCell ⟨O, 2, none⟩ (.int .i64 0)).setCell ⟨O, 3, none⟩ (.int .i64 0)).setCell ⟨O, 4, none⟩ (.string ⟨#[]⟩)).setCell ⟨O, 5, none⟩ (.slice none 0 0)).setCell ⟨O, 6, none⟩ (.slice (some ⟨w4.heap.size, 0, none⟩) 2 2)).alloc (.cells (tmCells o tk kk ++ tmCells t v u).toArray 28)) (.slice none 0 0) (.slice (some ⟨w4.heap.size, 0, none⟩) 2 2) := by
  have lO := h.ob.lt
  have z4 := k4.size
  have kw := h.kp.size
  have hB : w4.heap.size ≠ O := by omega
  have hs7 : Same (fun q => R + 1 ≤ q ∧ q ≠ O) w4 (((((((w4.setCell ⟨O, 0, none⟩ (.int .i64 op)).setCell ⟨O, 1, none⟩ (.string ⟨#[]⟩)).setCell ⟨O, 2, none⟩ (.int .i64 0)).setCell ⟨O, 3, none⟩ (.int .i64 0)).setCell ⟨O, 4, none⟩ (.string ⟨#[]⟩)).setCell ⟨O, 5, none⟩ (.slice none 0 0)).setCell ⟨O, 6, none⟩ (.slice (some ⟨w4.heap.size, 0, none⟩) 2 2)) := set7 (fun q hq => hq.2)
  have hn : R ≠ O := by omega
  have hR := h.r.kept k4 (fun h => h)
  refine ⟨(k7w (h.kp.trans k4) (Or.inr (by omega))).alloc _, (((((((hR.set_other _ _ hn).set_other _ _ hn).set_other _ _ hn).set_other _ _ hn).set_other _ _ hn).set_other _ _ hn).set_other _ _ hn).alloc _, (r7 (h.ob.kept k4 (fun h => h)) rfl).alloc _, .nil (Or.inl rfl), ?_⟩
  have bB := Blk.new' (w := ((((((w4.setCell ⟨O, 0, none⟩ (.int .i64 op)).setCell ⟨O, 1, none⟩ (.string ⟨#[]⟩)).setCell ⟨O, 2, none⟩ (.int .i64 0)).setCell ⟨O, 3, none⟩ (.int .i64 0)).setCell ⟨O, 4, none⟩ (.string ⟨#[]⟩)).setCell ⟨O, 5, none⟩ (.slice none 0 0)).setCell ⟨O, 6, none⟩ (.slice (some ⟨w4.heap.size, 0, none⟩) 2 2)) (g := w4.heap.size) 28 (tmCells o tk kk ++ tmCells t v u) (by simp)
  exact TmL.two (t := o) (u := t) ⟨by omega, hB⟩ (Nat.le_refl _) bB (((h.ty.frame (Same.of_kept k4 (fun _ _ e => e))).frame hs7).frame (Same.alloc _ _)) (((h.tm.frame (Same.of_kept k4 (fun _ _ e => e))).frame hs7).frame (Same.alloc _ _))
    (((hv.mono (fun q _ hq => ⟨by omega, by omega⟩)).frame hs7).frame (Same.alloc _ _)) (((hu.mono (fun q _ hq => ⟨by omega, by omega⟩)).frame hs7).frame (Same.alloc _ _))
theorem JI.kept {w wr w4 : World} {R O : Nat} {o : Tm} {tk kk : Value} (h : JI w R O o wr tk kk) (k : Kept (fun _ => False) wr w4) : JI w R O o w4 tk kk :=
  ⟨h.kp.trans k, h.r.kept k (fun h => h), h.ob.kept k (fun h => h), h.ty.frame (Same.of_kept k (fun _ _ e => e)), h.tm.frame (Same.of_kept k (fun _ _ e => e))⟩
theorem drop_step {α : Type} {r : List α} {k : Nat} (h : k < r.length) : r.drop k = r[k] :: r.drop (k + 1) := List.drop_eq_getElem_cons h
theorem loop_step {op : Int} {o t : Tm} {l : List Tm} (h : ¬ (2000 < tmN (mkJ op o t) ∨ 64 < tmD (mkJ op o t))) : loopJ op o (t :: l) = loopJ op (mkJ op o t) l := by
  show (if 2000 < tmN (mkJ op o t) ∨ 64 < tmD (mkJ op o t) then (tm0, 5) else loopJ op (mkJ op o t) l) = _
  rw [if_neg h]
theorem loop_stop {op : Int} {o t : Tm} {l : List Tm} (h : 2000 < tmN (mkJ op o t) ∨ 64 < tmD (mkJ op o t)) : loopJ op o (t :: l) = (tm0, 5) := by
  show (if 2000 < tmN (mkJ op o t) ∨ 64 < tmD (mkJ op o t) then (tm0, 5) else loopJ op (mkJ op o t) l) = _
  rw [if_pos h]
set_option maxRecDepth 100000 in
set_option maxHeartbeats 16000000 in
theorem join_any {ok : Nat → Prop} {l : List Tm} {a : Option Addr} {n c : Nat} {w : World} (op em : Int) (hn1 : l.length ≤ 1000) (hs : ∀ t, t ∈ l → SmTm big t) (hk : TmL ok w l (.slice a n c)) :
    Calls Tryz.prog 49 #[.slice a n c, .int .i64 op, .int .i64 em] w (TmE (joinS op em l) w) := by
  have hn : n = l.length := hk.len
  subst hn
  have bR : Blk (w.alloc (.cells #[.int .i64 0, .string ⟨#[]⟩, .int .i64 0, .int .i64 0, .string ⟨#[]⟩, .slice none 0 0, .slice none 0 0] 28)) w.heap.size 28 z27 := Blk.new w 28 z27
  have K0 : Kept (fun _ => False) w (w.alloc (.cells #[.int .i64 0, .string ⟨#[]⟩, .int .i64 0, .int .i64 0, .string ⟨#[]⟩, .slice none 0 0, .slice none 0 0] 28)) := (Kept.refl _ _).alloc _
  have HV := Lib.hid (valids_any (w := w.alloc (.cells #[.int .i64 0, .string ⟨#[]⟩, .int .i64 0, .int .i64 0, .string ⟨#[]⟩, .slice none 0 0, .slice none 0 0] 28)) (by omega) hs (hk.frame (Same.of_kept K0 (fun _ _ e => e))))
  have HAT := Lib.hid (fun W (k : Kept (fun _ => False) w W) => (hk.frame (Same.of_kept k (fun _ _ e => e))).at)
  have HLN := Lib.hid hn1
  have HCAP := Lib.hid hk.cap
  clear hk hs hn1
  go_enter Tryz.func49, Tryz.ntmps49
  go_wp2_with fail
  generalize w.alloc (.cells #[.int .i64 0, .string ⟨#[]⟩, .int .i64 0, .int .i64 0, .string ⟨#[]⟩, .slice none 0 0, .slice none 0 0] 28) = w1 at *
  refine HV.out.mono ?_
  rintro e w2 ⟨rfl, k2⟩
  have R2 := bR.kept k2 (fun h => h)
  have K2 := K0.trans k2
  have g2 : ∀ i, w2.cell? ⟨w.heap.size, i, none⟩ = [Value.int .i64 0, .string ⟨#[]⟩, .int .i64 0, .int .i64 0, .string ⟨#[]⟩, .slice none 0 0, .slice none 0 0][i]? := R2.cell
  have f2 : ∀ i, w2.frozen? ⟨w.heap.size, i, none⟩ = false := R2.frozen
  cases hv : l.all validB
  · have hres : Hid (joinS op em l = (tm0, 1)) := Lib.hid (by unfold joinS; rw [hv]; rfl)
    go_wp2_with fail
    exact bodyPost_ret (results_ct Tryz.results49 rfl (load_tm (t := tm0) (r7 R2 rfl))) rfl ⟨_, _, by rw [hres.out]; rfl, by rw [hres.out]; exact .nil (Or.inl rfl), by rw [hres.out]; exact .nil (Or.inl rfl), k7w K2 (Or.inr (Nat.le_refl _))⟩
  · cases l with
    | nil =>
      have hres : Hid (joinS op em [] = (.mk em nil0 0 ty0 [], 0)) := Lib.hid rfl
      go_wp2_with fail
      exact bodyPost_ret (results_ct Tryz.results49 rfl (load_tm (t := .mk em nil0 0 ty0 []) (r7 R2 rfl))) rfl ⟨_, _, by rw [hres.out]; rfl, by rw [hres.out]; exact .nil (Or.inl rfl), by rw [hres.out]; exact .nil (Or.inl rfl), k7w K2 (Or.inr (Nat.le_refl _))⟩
    | cons t0 r =>
      have hres : Hid (joinS op em (t0 :: r) = loopJ op t0 r) := Lib.hid (by unfold joinS; rw [hv]; rfl)
      have hv0 : ∀ t, t ∈ t0 :: r → validB t = true := fun t ht => (List.all_eq_true.1 hv) t ht
      have HVA := Lib.hid hv0
      clear hv hv0
      obtain ⟨g, off, ta, tn, tc, ma, mn, mc, rfl, _, lg, ⟨c0, c1, c2, c3, c4, c5, c6⟩, hty, htm⟩ := HAT.out w2 K2 0 (by simp)
      rw [show off + 0 * 7 = off by omega] at c0 c1 c2 c3 c4 c5 c6
      have HC := Lib.hid (clone_any (valid_bd (HVA.out t0 (by simp))) w2 _ _ _ hty htm)
      clear hty htm
      go_wp2_with fail
      refine HC.out.mono ?_
      rintro e w3 ⟨tk, kk, rfl, h1, h2, k3⟩
      obtain ⟨ua, un, uc, rfl⟩ := h1.slice
      obtain ⟨va, vn, vc, rfl⟩ := h2.slice
      unfold tmVal
      have HC1 := Lib.hid h1
      have HC2 := Lib.hid h2
      have hD0 := (valid_iff t0).1 (HVA.out t0 (by simp))
      have bO : Blk (w3.alloc (.cells #[.int .i64 t0.op, .string t0.name, .int .i64 t0.n, .int .i64 t0.ty.kind, .string t0.ty.name, .slice ua un uc, .slice va vn vc] 28)) w3.heap.size 28 (tmCells t0 (.slice ua un uc) (.slice va vn vc)) := Blk.new w3 28 _
      have z3 := k3.size
      have z2 := k2.size
      have zR := R2.lt
      have HJ0 : Hid (JI w w.heap.size w3.heap.size t0 (w3.alloc (.cells #[.int .i64 t0.op, .string t0.name, .int .i64 t0.n, .int .i64 t0.ty.kind, .string t0.ty.name, .slice ua un uc, .slice va vn vc] 28)) (.slice ua un uc) (.slice va vn vc)) := Lib.hid
        ⟨(K2.trans k3).alloc _, (R2.kept k3 (fun h => h)).alloc _, bO, (h1.mono (fun q hq h => ⟨by omega, by omega⟩)).frame (Same.alloc _ _), (h2.mono (fun q hq h => ⟨by omega, by omega⟩)).frame (Same.alloc _ _)⟩
      have hO1 : w.heap.size + 1 ≤ w3.heap.size := by omega
      clear h1 h2 bO z3 z2 zR k3 HC HC1 HC2 g2 f2 R2 k2
      by_cases hc1 : c = 1
      · subst hc1
        have hr0 : r = [] := by
          have := HCAP.out
          simp at this
          exact this
        subst hr0
        have hfin : Hid (joinS op em [t0] = (t0, 0)) := Lib.hid (by rw [hres.out]; rfl)
        go_wp2_with fail
        generalize w3.alloc (.cells #[.int .i64 t0.op, .string t0.name, .int .i64 t0.n, .int .i64 t0.ty.kind, .string t0.ty.name, .slice ua un uc, .slice va vn vc] 28) = wO at *
        have gO : ∀ i, wO.cell? ⟨w3.heap.size, i, none⟩ = [Value.int .i64 t0.op, .string t0.name, .int .i64 t0.n, .int .i64 t0.ty.kind, .string t0.ty.name, .slice ua un uc, .slice va vn vc][i]? := HJ0.out.ob.cell
        have gR : ∀ i, wO.cell? ⟨w.heap.size, i, none⟩ = [Value.int .i64 0, .string ⟨#[]⟩, .int .i64 0, .int .i64 0, .string ⟨#[]⟩, .slice none 0 0, .slice none 0 0][i]? := HJ0.out.r.cell
        have fR : ∀ i, wO.frozen? ⟨w.heap.size, i, none⟩ = false := HJ0.out.r.frozen
        go_loop [30] (fun i => i = .int .i64 0) (fun i => 0)
        case atStart => rfl
        case round =>
          subst hrel
          go_wp2_with fail
          exact bodyPost_ret (results_ct Tryz.results49 rfl (load_tm (t := t0) (r7 HJ0.out.r rfl))) rfl ⟨_, _, by rw [hfin.out]; rfl, by rw [hfin.out]; exact (HJ0.out.ty.frame (set7 (fun q hq => by omega))).mono (fun q _ hq => by omega), by rw [hfin.out]; exact (HJ0.out.tm.frame (set7 (fun q hq => by omega))).mono (fun q _ hq => by omega), k7w HJ0.out.kp (Or.inr (Nat.le_refl _))⟩
      · go_wp2_with fail
        generalize hwO : w3.alloc (.cells #[.int .i64 t0.op, .string t0.name, .int .i64 t0.n, .int .i64 t0.ty.kind, .string t0.ty.name, .slice ua un uc, .slice va vn vc] 28) = wO at *
        go_loopw [30] (fun i wr => ∃ (k : Nat) (o : Tm) (tk kk : Value), k ≤ r.length ∧ i = .int .i64 k ∧ JI w w.heap.size w3.heap.size o wr tk kk ∧ Hid (loopJ op t0 r = loopJ op o (r.drop k)) ∧ Hid (tmN o ≤ 2000 ∧ tmD o ≤ 64)) (fun i _ => r.length - (intOf i).toNat)
        case atStart => exact ⟨0, t0, _, _, Nat.zero_le _, rfl, HJ0.out, Lib.hid rfl, Lib.hid hD0.2⟩
        case round =>
          obtain ⟨k, o, tk, kk, hkl, rfl, hJ, hL, hSZ⟩ := hrel
          obtain ⟨xa, xn, xc, rfl⟩ := hJ.ty.slice
          obtain ⟨ya, yn, yc, rfl⟩ := hJ.tm.slice
          have gO : ∀ i, wr.cell? ⟨w3.heap.size, i, none⟩ = [Value.int .i64 o.op, .string o.name, .int .i64 o.n, .int .i64 o.ty.kind, .string o.ty.name, .slice xa xn xc, .slice ya yn yc][i]? := hJ.ob.cell
          have gR : ∀ i, wr.cell? ⟨w.heap.size, i, none⟩ = [Value.int .i64 0, .string ⟨#[]⟩, .int .i64 0, .int .i64 0, .string ⟨#[]⟩, .slice none 0 0, .slice none 0 0][i]? := hJ.r.cell
          have fR : ∀ i, wr.frozen? ⟨w.heap.size, i, none⟩ = false := hJ.r.frozen
          have lO : w3.heap.size < wr.heap.size := hJ.ob.lt
          have lR : w.heap.size < wr.heap.size := hJ.r.lt
          have HJ := Lib.hid hJ
          by_cases hlt : k < r.length
          · obtain ⟨g', off', pa, pn, pc, qa, qn, qc, e1, _, lg', ⟨c0, c1, c2, c3, c4, c5, c6⟩, hty, htm⟩ := HAT.out wr hJ.kp (k + 1) (by simp; omega)
            cases e1
            have e2 : off + (k + 1) * 7 = off + 7 + k * 7 := by omega
            rw [e2] at c0 c1 c2 c3 c4 c5 c6
            have e3 : (t0 :: r)[k + 1]'(by simp; omega) = r[k] := rfl
            rw [e3] at c0 c1 c2 c3 c4 hty htm
            clear e2 e3 hJ
            have i1 : (k : Int) < (r.length : Int) := by omega
            have i2 : (k : Int) < 1000 := by have := HLN.out; simp at this; omega
            have HCL := Lib.hid (clone_any (valid_bd (HVA.out r[k] (by simp))))
            go_upto_region 10 with (fail)
            have bT0 : Blk ((wr.alloc (.cells #[.int .i64 r[k].op, .string r[k].name, .int .i64 r[k].n, .int .i64 r[k].ty.kind, .string r[k].ty.name, .slice pa pn pc, .slice qa qn qc] 28)).alloc (.cells #[.int .i64 o.op, .string o.name, .int .i64 o.n, .int .i64 o.ty.kind, .string o.ty.name, .slice xa xn xc, .slice ya yn yc] 28)) wr.heap.size 28 [.int .i64 r[k].op, .string r[k].name, .int .i64 r[k].n, .int .i64 r[k].ty.kind, .string r[k].ty.name, .slice pa pn pc, .slice qa qn qc] := (Blk.new wr 28 _).alloc _
            have bL0 : Blk ((wr.alloc (.cells #[.int .i64 r[k].op, .string r[k].name, .int .i64 r[k].n, .int .i64 r[k].ty.kind, .string r[k].ty.name, .slice pa pn pc, .slice qa qn qc] 28)).alloc (.cells #[.int .i64 o.op, .string o.name, .int .i64 o.n, .int .i64 o.ty.kind, .string o.ty.name, .slice xa xn xc, .slice ya yn yc] 28)) (wr.heap.size + 1) 28 [.int .i64 o.op, .string o.name, .int .i64 o.n, .int .i64 o.ty.kind, .string o.ty.name, .slice xa xn xc, .slice ya yn yc] := Blk.new' 28 _ (by simp)
            refine wp_gen (F := fun W3 => Kept (fun _ => False) wr W3 ∧ Blk W3 wr.heap.size 28 [.int .i64 r[k].op, .string r[k].name, .int .i64 r[k].n, .int .i64 r[k].ty.kind, .string r[k].ty.name, .slice pa pn pc, .slice qa qn qc] ∧ Blk W3 (wr.heap.size + 1) 28 [.int .i64 o.op, .string o.name, .int .i64 o.n, .int .i64 o.ty.kind, .string o.ty.name, .slice xa xn xc, .slice ya yn yc]) ⟨((Kept.refl _ _).alloc _).alloc _, bT0, bL0⟩ ?_
            rintro W3 ⟨kW3, bT, bL⟩
            clear bT0 bL0
            have gT3 : ∀ i, W3.cell? ⟨wr.heap.size, i, none⟩ = [Value.int .i64 r[k].op, .string r[k].name, .int .i64 r[k].n, .int .i64 r[k].ty.kind, .string r[k].ty.name, .slice pa pn pc, .slice qa qn qc][i]? := bT.cell
            have gL3 : ∀ i, W3.cell? ⟨wr.heap.size + 1, i, none⟩ = [Value.int .i64 o.op, .string o.name, .int .i64 o.n, .int .i64 o.ty.kind, .string o.ty.name, .slice xa xn xc, .slice ya yn yc][i]? := bL.cell
            have HC3 : Hid (Calls Tryz.prog 58 #[.agg #[.int .i64 r[k].op, .string r[k].name, .int .i64 r[k].n, .int .i64 r[k].ty.kind, .string r[k].ty.name, .slice pa pn pc, .slice qa qn qc]] W3.drew fun e w' => ∃ tk kk, e = .returned (tmVal r[k] tk kk) ∧ TyL (fun q => wr.heap.size ≤ q) w' r[k].ty.kids tk ∧ TmL (fun q => wr.heap.size ≤ q) w' r[k].kids kk ∧ Kept (fun _ => False) W3 w') := Lib.hid
              ((HCL.out W3.drew ok _ _ ((hty.frame (Same.of_kept kW3 (fun _ _ e => e))).frame (Same.drew _)) ((htm.frame (Same.of_kept kW3 (fun _ _ e => e))).frame (Same.drew _))).mono fun e w' ⟨a1, a2, h1, h2, h3, h4⟩ => ⟨a1, a2, h1, h2.mono (fun q _ hq => Nat.le_trans kW3.size hq), h3.mono (fun q _ hq => Nat.le_trans kW3.size hq), ((Kept.refl _ _).drew).trans h4⟩)
            have BT := Lib.hid bT
            have BL := Lib.hid bL
            have KW := Lib.hid kW3
            clear bT bL hty htm HCL c0 c1 c2 c3 c4 c5 c6 gO gR fR kW3
            go_region_law (first | (go_simp; go_at_call 58; refine HC3.out.mono ?_; rintro e w4 ⟨tk4, kk4, rfl, hv, hu, k4⟩; obtain ⟨xa4, xn4, xc4, rfl⟩ := hv.slice; obtain ⟨ya4, yn4, yc4, rfl⟩ := hu.slice; unfold tmVal; have gT4 : ∀ i, w4.cell? ⟨wr.heap.size, i, none⟩ = [Value.int .i64 r[k].op, .string r[k].name, .int .i64 r[k].n, .int .i64 r[k].ty.kind, .string r[k].ty.name, .slice pa pn pc, .slice qa qn qc][i]? := (BT.out.kept k4 (fun h => h)).cell; have gL4 : ∀ i, w4.cell? ⟨wr.heap.size + 1, i, none⟩ = [Value.int .i64 o.op, .string o.name, .int .i64 o.n, .int .i64 o.ty.kind, .string o.ty.name, .slice xa xn xc, .slice ya yn yc][i]? := (BL.out.kept k4 (fun h => h)).cell; have bO4 := (HJ.out.ob.kept KW.out (fun h => h)).kept k4 (fun h => h); have gO4 : ∀ i, w4.cell? ⟨w3.heap.size, i, none⟩ = [Value.int .i64 o.op, .string o.name, .int .i64 o.n, .int .i64 o.ty.kind, .string o.ty.name, .slice xa xn xc, .slice ya yn yc][i]? := bO4.cell; have fO4 : ∀ i, w4.frozen? ⟨w3.heap.size, i, none⟩ = false := bO4.frozen; have lO4 : w3.heap.size < w4.heap.size := bO4.lt))
            all_goals
              have HX := Lib.hid (JI.step (op := op) HJ.out (Nat.le_refl _) hO1 (KW.out.trans k4) hv hu)
              clear gT4 gL4 gO4 fO4 lO4 bO4 hv hu HC3 BT BL gT3 gL3 lg'
              unfold tmCells at HX
              simp only [List.cons_append, List.nil_append] at HX
              generalize (((((((w4.setCell ⟨w3.heap.size, 0, none⟩ (.int .i64 op)).setCell ⟨w3.heap.size, 1, none⟩ (.string ⟨#[]⟩)).setCell ⟨w3.heap.size, 2, none⟩ (.int .i64 0)).setCell ⟨w3.heap.size, 3, none⟩ (.int .i64 0)).setCell ⟨w3.heap.size, 4, none⟩ (.string ⟨#[]⟩)).setCell ⟨w3.heap.size, 5, none⟩ (.slice none 0 0)).setCell ⟨w3.heap.size, 6, none⟩ (.slice (some ⟨w4.heap.size, 0, none⟩) 2 2)).alloc (.cells #[.int .i64 o.op, .string o.name, .int .i64 o.n, .int .i64 o.ty.kind, .string o.ty.name, .slice xa xn xc, .slice ya yn yc, .int .i64 r[k].op, .string r[k].name, .int .i64 r[k].n, .int .i64 r[k].ty.kind, .string r[k].ty.name, .slice xa4 xn4 xc4, .slice ya4 yn4 yc4] 28) = w5 at *
              have hN : Hid (tmN (mkJ op o r[k]) ≤ 100000) := Lib.hid (by
                have h1 := (valid_iff _).1 (HVA.out r[k] (by simp))
                have h2 := hSZ.out
                rw [mkJ_N]; omega)
              have HSI := Lib.hid (size_any (mkJ op o r[k]) w5 _ _ _ hN.out HX.out.ty HX.out.tm)
              have gO5 : ∀ i, w5.cell? ⟨w3.heap.size, i, none⟩ = [Value.int .i64 op, .string ⟨#[]⟩, .int .i64 0, .int .i64 0, .string ⟨#[]⟩, .slice none 0 0, .slice (some ⟨w4.heap.size, 0, none⟩) 2 2][i]? := HX.out.ob.cell
              change Hid (Calls Tryz.prog 102 #[.agg #[.int .i64 op, .string ⟨#[]⟩, .int .i64 0, .int .i64 0, .string ⟨#[]⟩, .slice none 0 0, .slice (some ⟨w4.heap.size, 0, none⟩) 2 2]] w5 _) at HSI
              have hNp : (tmN (mkJ op o r[k]) : Int) < 200000 := by have := hN.out; omega
              have hDp : (tmD (mkJ op o r[k]) : Int) < 200000 := by have := hN.out; have := tmD_le (mkJ op o r[k]); omega
              go_wp2_with fail
              refine HSI.out.mono ?_
              rintro e w6 ⟨rfl, k6⟩
              have HX6 : Hid (JI w w.heap.size w3.heap.size (mkJ op o r[k]) w6 (.slice none 0 0) (.slice (some ⟨w4.heap.size, 0, none⟩) 2 2)) := Lib.hid
                ⟨HX.out.kp.trans k6, HX.out.r.kept k6 (fun h => h), HX.out.ob.kept k6 (fun h => h), HX.out.ty.frame (Same.of_kept k6 (fun _ _ e => e)), HX.out.tm.frame (Same.of_kept k6 (fun _ _ e => e))⟩
              have gR6 : ∀ i, w6.cell? ⟨w.heap.size, i, none⟩ = [Value.int .i64 0, .string ⟨#[]⟩, .int .i64 0, .int .i64 0, .string ⟨#[]⟩, .slice none 0 0, .slice none 0 0][i]? := HX6.out.r.cell
              have fR6 : ∀ i, w6.frozen? ⟨w.heap.size, i, none⟩ = false := HX6.out.r.frozen
              by_cases hb1 : 2000 < tmN (mkJ op o r[k])
              · have t1 : decide (2000 < (tmN (mkJ op o r[k]) : Int)) = true := by simp; omega
                have hst := Lib.hid (loop_stop (op := op) (o := o) (t := r[k]) (l := r.drop (k + 1)) (Or.inl hb1))
                clear hb1
                go_wp2_with fail
                exact bodyPost_ret (results_ct Tryz.results49 rfl (load_tm (t := tm0) (r7 HX6.out.r rfl))) rfl ⟨_, _, by rw [hres.out, hL.out, drop_step hlt, hst.out]; rfl, by rw [hres.out, hL.out, drop_step hlt, hst.out]; exact .nil (Or.inl rfl), by rw [hres.out, hL.out, drop_step hlt, hst.out]; exact .nil (Or.inl rfl), k7w HX6.out.kp (Or.inr (Nat.le_refl _))⟩
              · have t1 : decide (2000 < (tmN (mkJ op o r[k]) : Int)) = false := by simp; omega
                by_cases hb2 : 64 < tmD (mkJ op o r[k])
                · have t2 : decide (64 < (tmD (mkJ op o r[k]) : Int)) = true := by simp; omega
                  have hst := Lib.hid (loop_stop (op := op) (o := o) (t := r[k]) (l := r.drop (k + 1)) (Or.inr hb2))
                  clear hb1 hb2
                  go_wp2_with fail
                  exact bodyPost_ret (results_ct Tryz.results49 rfl (load_tm (t := tm0) (r7 HX6.out.r rfl))) rfl ⟨_, _, by rw [hres.out, hL.out, drop_step hlt, hst.out]; rfl, by rw [hres.out, hL.out, drop_step hlt, hst.out]; exact .nil (Or.inl rfl), by rw [hres.out, hL.out, drop_step hlt, hst.out]; exact .nil (Or.inl rfl), k7w HX6.out.kp (Or.inr (Nat.le_refl _))⟩
                · have t2 : decide (64 < (tmD (mkJ op o r[k]) : Int)) = false := by simp; omega
                  have hst := Lib.hid (loop_step (op := op) (o := o) (t := r[k]) (l := r.drop (k + 1)) (by omega))
                  have hsz : Hid (tmN (mkJ op o r[k]) ≤ 2000 ∧ tmD (mkJ op o r[k]) ≤ 64) := Lib.hid (by omega)
                  clear hb1 hb2
                  go_wp2_with fail
                  go_roundw
                  case rel => exact ⟨k + 1, _, _, _, by omega, by go_num, HX6.out, Lib.hid (by rw [hL.out, drop_step hlt, hst.out]), hsz⟩
                  case measure => simp [intOf]; omega
          · have hkk : k = r.length := by omega
            subst hkk
            have hfin : Hid (joinS op em (t0 :: r) = (o, 0)) := Lib.hid (by rw [hres.out, hL.out, List.drop_length]; rfl)
            have hty := hJ.ty
            have htm := hJ.tm
            clear hJ
            go_wp2_with fail
            exact bodyPost_ret (results_ct Tryz.results49 rfl (load_tm (t := o) (r7 HJ.out.r rfl))) rfl ⟨_, _, by rw [hfin.out]; rfl, by rw [hfin.out]; exact (hty.frame (set7 (fun q hq => by omega))).mono (fun q _ hq => by omega), by rw [hfin.out]; exact (htm.frame (set7 (fun q hq => by omega))).mono (fun q _ hq => by omega), k7w HJ.out.kp (Or.inr (Nat.le_refl _))⟩
set_option maxRecDepth 100000 in
set_option maxHeartbeats 4000000 in
theorem conj_any {ok : Nat → Prop} {l : List Tm} {a : Option Addr} {n c : Nat} {w : World} (hn1 : l.length ≤ 1000) (hs : ∀ t, t ∈ l → SmTm big t) (hk : TmL ok w l (.slice a n c)) :
    Calls Tryz.prog 16 #[.slice a n c] w (TmE (joinS 4 1 l) w) := by
  have HC := Lib.hid (join_any (w := w.alloc (.cells #[.int .i64 0, .string ⟨#[]⟩, .int .i64 0, .int .i64 0, .string ⟨#[]⟩, .slice none 0 0, .slice none 0 0] 28)) 4 1 hn1 hs (hk.frame (Same.alloc _ _)))
  have bR : Blk (w.alloc (.cells #[.int .i64 0, .string ⟨#[]⟩, .int .i64 0, .int .i64 0, .string ⟨#[]⟩, .slice none 0 0, .slice none 0 0] 28)) w.heap.size 28 z27 := Blk.new w 28 z27
  have K0 : Kept (fun _ => False) w (w.alloc (.cells #[.int .i64 0, .string ⟨#[]⟩, .int .i64 0, .int .i64 0, .string ⟨#[]⟩, .slice none 0 0, .slice none 0 0] 28)) := (Kept.refl _ _).alloc _
  clear hk hs
  unfold TmE at HC ⊢
  generalize joinS 4 1 l = rr at *
  go_enter Tryz.func16, Tryz.ntmps16
  go_wp2_with fail
  refine HC.out.mono ?_
  rintro e w2 ⟨tk, kk, rfl, h1, h2, k2⟩
  obtain ⟨ua, un, uc, rfl⟩ := h1.slice
  obtain ⟨va, vn, vc, rfl⟩ := h2.slice
  have b2 := bR.kept k2 (fun h => h)
  have z1 : (w.alloc (.cells #[.int .i64 0, .string ⟨#[]⟩, .int .i64 0, .int .i64 0, .string ⟨#[]⟩, .slice none 0 0, .slice none 0 0] 28)).heap.size = w.heap.size + 1 := by simp
  have H1 := Lib.hid (h1.mono (ok' := fun q => w.heap.size + 1 ≤ q) (fun q _ hq => by omega))
  have H2 := Lib.hid (h2.mono (ok' := fun q => w.heap.size + 1 ≤ q) (fun q _ hq => by omega))
  have KK := Lib.hid (K0.trans k2)
  have B2 := Lib.hid b2
  have g2 : ∀ i, w2.cell? ⟨w.heap.size, i, none⟩ = [Value.int .i64 0, .string ⟨#[]⟩, .int .i64 0, .int .i64 0, .string ⟨#[]⟩, .slice none 0 0, .slice none 0 0][i]? := b2.cell
  have f2 : ∀ i, w2.frozen? ⟨w.heap.size, i, none⟩ = false := b2.frozen
  clear h1 h2 z1 k2 K0 bR b2
  unfold tmVal
  go_wp2_with fail
  exact bodyPost_ret (results_ct Tryz.results16 rfl (load_tm (t := rr.1) (r7 B2.out rfl))) rfl ⟨_, _, rfl, (H1.out.frame (set7 (fun q hq => by omega))).mono (fun q _ hq => by omega), (H2.out.frame (set7 (fun q hq => by omega))).mono (fun q _ hq => by omega), k7w KK.out (Or.inr (Nat.le_refl _))⟩
set_option maxRecDepth 100000 in
set_option maxHeartbeats 4000000 in
theorem disj_any {ok : Nat → Prop} {l : List Tm} {a : Option Addr} {n c : Nat} {w : World} (hn1 : l.length ≤ 1000) (hs : ∀ t, t ∈ l → SmTm big t) (hk : TmL ok w l (.slice a n c)) :
    Calls Tryz.prog 18 #[.slice a n c] w (TmE (joinS 5 2 l) w) := by
  have HC := Lib.hid (join_any (w := w.alloc (.cells #[.int .i64 0, .string ⟨#[]⟩, .int .i64 0, .int .i64 0, .string ⟨#[]⟩, .slice none 0 0, .slice none 0 0] 28)) 5 2 hn1 hs (hk.frame (Same.alloc _ _)))
  have bR : Blk (w.alloc (.cells #[.int .i64 0, .string ⟨#[]⟩, .int .i64 0, .int .i64 0, .string ⟨#[]⟩, .slice none 0 0, .slice none 0 0] 28)) w.heap.size 28 z27 := Blk.new w 28 z27
  have K0 : Kept (fun _ => False) w (w.alloc (.cells #[.int .i64 0, .string ⟨#[]⟩, .int .i64 0, .int .i64 0, .string ⟨#[]⟩, .slice none 0 0, .slice none 0 0] 28)) := (Kept.refl _ _).alloc _
  clear hk hs
  unfold TmE at HC ⊢
  generalize joinS 5 2 l = rr at *
  go_enter Tryz.func18, Tryz.ntmps18
  go_wp2_with fail
  refine HC.out.mono ?_
  rintro e w2 ⟨tk, kk, rfl, h1, h2, k2⟩
  obtain ⟨ua, un, uc, rfl⟩ := h1.slice
  obtain ⟨va, vn, vc, rfl⟩ := h2.slice
  have b2 := bR.kept k2 (fun h => h)
  have z1 : (w.alloc (.cells #[.int .i64 0, .string ⟨#[]⟩, .int .i64 0, .int .i64 0, .string ⟨#[]⟩, .slice none 0 0, .slice none 0 0] 28)).heap.size = w.heap.size + 1 := by simp
  have H1 := Lib.hid (h1.mono (ok' := fun q => w.heap.size + 1 ≤ q) (fun q _ hq => by omega))
  have H2 := Lib.hid (h2.mono (ok' := fun q => w.heap.size + 1 ≤ q) (fun q _ hq => by omega))
  have KK := Lib.hid (K0.trans k2)
  have B2 := Lib.hid b2
  have g2 : ∀ i, w2.cell? ⟨w.heap.size, i, none⟩ = [Value.int .i64 0, .string ⟨#[]⟩, .int .i64 0, .int .i64 0, .string ⟨#[]⟩, .slice none 0 0, .slice none 0 0][i]? := b2.cell
  have f2 : ∀ i, w2.frozen? ⟨w.heap.size, i, none⟩ = false := b2.frozen
  clear h1 h2 z1 k2 K0 bR b2
  unfold tmVal
  go_wp2_with fail
  exact bodyPost_ret (results_ct Tryz.results18 rfl (load_tm (t := rr.1) (r7 B2.out rfl))) rfl ⟨_, _, rfl, (H1.out.frame (set7 (fun q hq => by omega))).mono (fun q _ hq => by omega), (H2.out.frame (set7 (fun q hq => by omega))).mono (fun q _ hq => by omega), k7w KK.out (Or.inr (Nat.le_refl _))⟩
theorem sumR_stop {t : Tm} {l : List Tm} {s i : Nat} (h : 2000 < s + tmN t ∨ 64 ≤ i) : sumR (t :: l) s i = true := by rw [sumR, if_pos h]
theorem sumR_step {t : Tm} {l : List Tm} {s i : Nat} (h : ¬ (2000 < s + tmN t ∨ 64 ≤ i)) : sumR (t :: l) s i = sumR l (s + tmN t + 1) (i + 1) := by rw [sumR, if_neg h]
theorem szA_valid {t : Tm} (h : validB t = true) : szA t = tmN t ∧ szB t = tmD t := by unfold szA szB; rw [if_pos h, if_pos h]; exact ⟨rfl, rfl⟩
theorem foldJ_sm {op : Int} : ∀ {l : List Tm} {o : Tm}, SmTm big o → (∀ t ∈ l, SmTm big t) → SmTm big (foldJ op o l)
  | [], o, ho, _ => ho
  | t :: l, o, ho, hl => foldJ_sm (l := l) (.mk (by decide) (.mk (by decide) (fun t h => by cases h)) (fun u hu => by
      rcases List.mem_cons.1 hu with rfl | hu
      · exact ho
      · rw [List.mem_singleton.1 hu]; exact hl t (by simp))) (fun u hu => hl u (List.mem_cons_of_mem _ hu))
set_option maxRecDepth 100000 in
set_option maxHeartbeats 16000000 in
theorem rjoined_any {ok : Nat → Prop} {l : List Tm} {a : Option Addr} {n c : Nat} {w : World} (op em : Int) (hn1 : l.length ≤ 1000) (hs : ∀ t, t ∈ l → SmTm big t) (hk : TmL ok w l (.slice a n c)) :
    Calls Tryz.prog 50 #[.int .i64 op, .slice a n c, .agg #[.int .i64 em, .string ⟨#[]⟩, .int .i64 0, .int .i64 0, .string ⟨#[]⟩, .slice none 0 0, .slice none 0 0]] w (TmE (joinR op em l) w) := by
  have hn : n = l.length := hk.len
  subst hn
  have bN : Blk ((w.alloc (.cells #[.int .i64 em, .string ⟨#[]⟩, .int .i64 0, .int .i64 0, .string ⟨#[]⟩, .slice none 0 0, .slice none 0 0] 28)).alloc (.cells #[.int .i64 0, .string ⟨#[]⟩, .int .i64 0, .int .i64 0, .string ⟨#[]⟩, .slice none 0 0, .slice none 0 0] 28)) w.heap.size 28 [.int .i64 em, .string ⟨#[]⟩, .int .i64 0, .int .i64 0, .string ⟨#[]⟩, .slice none 0 0, .slice none 0 0] := (Blk.new w 28 _).alloc _
  have bR : Blk ((w.alloc (.cells #[.int .i64 em, .string ⟨#[]⟩, .int .i64 0, .int .i64 0, .string ⟨#[]⟩, .slice none 0 0, .slice none 0 0] 28)).alloc (.cells #[.int .i64 0, .string ⟨#[]⟩, .int .i64 0, .int .i64 0, .string ⟨#[]⟩, .slice none 0 0, .slice none 0 0] 28)) (w.heap.size + 1) 28 z27 := Blk.new' 28 z27 (by simp)
  have K0 : Kept (fun _ => False) w ((w.alloc (.cells #[.int .i64 em, .string ⟨#[]⟩, .int .i64 0, .int .i64 0, .string ⟨#[]⟩, .slice none 0 0, .slice none 0 0] 28)).alloc (.cells #[.int .i64 0, .string ⟨#[]⟩, .int .i64 0, .int .i64 0, .string ⟨#[]⟩, .slice none 0 0, .slice none 0 0] 28)) := ((Kept.refl _ _).alloc _).alloc _
  have HV := Lib.hid (fun W (k : Kept (fun _ => False) w W) => rvalids_any (by omega) hs (hk.frame (Same.of_kept k (fun _ _ e => e))))
  have HAT := Lib.hid (fun W (k : Kept (fun _ => False) w W) => (hk.frame (Same.of_kept k (fun _ _ e => e))).at)
  have HLN := Lib.hid hn1
  have HSM := Lib.hid hs
  clear hk hs hn1
  go_enter Tryz.func50, Tryz.ntmps50
  go_wp2_with fail
  generalize (w.alloc (.cells #[.int .i64 em, .string ⟨#[]⟩, .int .i64 0, .int .i64 0, .string ⟨#[]⟩, .slice none 0 0, .slice none 0 0] 28)).alloc (.cells #[.int .i64 0, .string ⟨#[]⟩, .int .i64 0, .int .i64 0, .string ⟨#[]⟩, .slice none 0 0, .slice none 0 0] 28) = w1 at *
  refine (HV.out _ K0).mono ?_
  rintro e w2 ⟨rfl, k2⟩
  have N2 := bN.kept k2 (fun h => h)
  have R2 := bR.kept k2 (fun h => h)
  have K2 := K0.trans k2
  have gN2 : ∀ i, w2.cell? ⟨w.heap.size, i, none⟩ = [Value.int .i64 em, .string ⟨#[]⟩, .int .i64 0, .int .i64 0, .string ⟨#[]⟩, .slice none 0 0, .slice none 0 0][i]? := N2.cell
  have g2 : ∀ i, w2.cell? ⟨w.heap.size + 1, i, none⟩ = [Value.int .i64 0, .string ⟨#[]⟩, .int .i64 0, .int .i64 0, .string ⟨#[]⟩, .slice none 0 0, .slice none 0 0][i]? := R2.cell
  have f2 : ∀ i, w2.frozen? ⟨w.heap.size + 1, i, none⟩ = false := R2.frozen
  cases hv : l.all validB
  · have hres : Hid (joinR op em l = (tm0, 1)) := Lib.hid (by unfold joinR; rw [hv]; rfl)
    go_wp2_with fail
    exact bodyPost_ret (results_ct Tryz.results50 rfl (load_tm (t := tm0) (r7 R2 rfl))) rfl ⟨_, _, by rw [hres.out]; rfl, by rw [hres.out]; exact .nil (Or.inl rfl), by rw [hres.out]; exact .nil (Or.inl rfl), k7w K2 (Or.inr (by omega))⟩
  · have hv0 : ∀ t, t ∈ l → validB t = true := fun t ht => (List.all_eq_true.1 hv) t ht
    have HVA := Lib.hid hv0
    have HVL := Lib.hid hv
    clear hv0 hv
    cases l with
    | nil =>
      have hres : Hid (joinR op em [] = (.mk em nil0 0 ty0 [], 0)) := Lib.hid rfl
      go_wp2_with fail
      exact bodyPost_ret (results_ct Tryz.results50 rfl (load_tm (t := .mk em nil0 0 ty0 []) (r7 R2 rfl))) rfl ⟨_, _, by rw [hres.out]; rfl, by rw [hres.out]; exact .nil (Or.inl rfl), by rw [hres.out]; exact .nil (Or.inl rfl), k7w K2 (Or.inr (by omega))⟩
    | cons t0 r =>
      have hres : Hid (joinR op em (t0 :: r) = if sumR (t0 :: r) 0 0 then (tm0, 5) else if validB (foldJ op t0 r) then (foldJ op t0 r, 0) else (tm0, 5)) := Lib.hid (by unfold joinR; rw [HVL.out]; rfl)
      have KK2 := Lib.hid K2
      have RR2 := Lib.hid R2
      have i0 : ((r.length : Int) + 1 == 0) = false := by simp; omega
      have i00 : (0 : Int) ≤ (r.length : Int) + 1 := by omega
      clear gN2 g2 f2 N2 R2 K2 k2 K0 bN bR
      go_wp2_with fail
      go_loopw [8, 9] (fun s i wr => ∃ (k sm : Nat), k ≤ r.length + 1 ∧ k ≤ 64 ∧ sm ≤ 2001 ∧ i = .int .i64 k ∧ s = .int .i64 sm ∧ Kept (fun _ => False) w2 wr ∧ Hid (sumR (t0 :: r) 0 0 = sumR ((t0 :: r).drop k) sm k)) (fun _ i _ => r.length + 1 - (intOf i).toNat)
      case atStart => exact ⟨0, 0, Nat.zero_le _, by omega, by omega, rfl, rfl, Kept.refl _ _, Lib.hid rfl⟩
      case round =>
        obtain ⟨k, sm, hkl, hk64, hsm, rfl, rfl, kr, hsq⟩ := hrel
        have R3 := RR2.out.kept kr (fun h => h)
        by_cases hlt : k < r.length + 1
        · obtain ⟨g, off, ta, tn, tc, ma, mn, mc, rfl, _, lg, ⟨c0, c1, c2, c3, c4, c5, c6⟩, hty, htm⟩ := HAT.out wr (KK2.out.trans kr) k hlt
          have i1 : (k : Int) < (r.length : Int) + 1 := by omega
          have i2 : (r.length : Int) < 1000 := by have := HLN.out; simp at this; omega
          have HZ := Lib.hid (rsize_of hty htm (HSM.out _ (List.getElem_mem (l := t0 :: r) hlt)))
          obtain ⟨hzA, hzB⟩ := szA_valid (HVA.out _ (List.getElem_mem (l := t0 :: r) hlt))
          rw [hzA, hzB] at HZ
          have hN := ((valid_iff _).1 (HVA.out _ (List.getElem_mem (l := t0 :: r) hlt))).2.1
          have HD := Lib.hid (drop_step (r := t0 :: r) hlt)
          generalize (t0 :: r)[k] = t at *
          generalize hNN : tmN t = nn at *
          have hNN2 := Lib.hid hNN
          have j1 : (nn : Int) ≤ 2000 := by omega
          have j2 : (sm : Int) ≤ 2001 := by omega
          have j3 : (0 : Int) ≤ nn := by omega
          have j4 : (0 : Int) ≤ sm := by omega
          have g3 : ∀ i, wr.cell? ⟨w.heap.size + 1, i, none⟩ = [Value.int .i64 0, .string ⟨#[]⟩, .int .i64 0, .int .i64 0, .string ⟨#[]⟩, .slice none 0 0, .slice none 0 0][i]? := R3.cell
          have KR := Lib.hid kr
          clear hty htm hNN hzA hzB kr
          go_wp2_with fail
          refine HZ.out.mono ?_
          rintro e w4 ⟨rfl, k4⟩
          have R4 := R3.kept k4 (fun h => h)
          have g4 : ∀ i, w4.cell? ⟨w.heap.size + 1, i, none⟩ = [Value.int .i64 0, .string ⟨#[]⟩, .int .i64 0, .int .i64 0, .string ⟨#[]⟩, .slice none 0 0, .slice none 0 0][i]? := R4.cell
          have f4 : ∀ i, w4.frozen? ⟨w.heap.size + 1, i, none⟩ = false := R4.frozen
          have K4 := Lib.hid ((KK2.out.trans KR.out).trans k4)
          have KR4 := Lib.hid (KR.out.trans k4)
          have RR4 := Lib.hid R4
          clear g3 R3 R4 k4 c0 c1 c2 c3 c4 c5 c6
          by_cases hb1 : 2000 < sm + nn
          · have t1 : decide (2000 < (sm : Int) + (nn + 1) - 1) = true := by simp; omega
            have t1' : decide (2001 < (sm : Int) + (nn + 1)) = true := by simp; omega
            have hst : Hid (joinR op em (t0 :: r) = (tm0, 5)) := Lib.hid (by rw [hres.out, hsq.out, HD.out, sumR_stop (Or.inl (by rw [hNN2.out]; exact hb1))]; rfl)
            clear hb1
            go_wp2_with fail
            exact bodyPost_ret (results_ct Tryz.results50 rfl (load_tm (t := tm0) (r7 RR4.out rfl))) rfl ⟨_, _, by rw [hst.out]; rfl, by rw [hst.out]; exact .nil (Or.inl rfl), by rw [hst.out]; exact .nil (Or.inl rfl), k7w K4.out (Or.inr (by omega))⟩
          · have t1 : decide (2000 < (sm : Int) + (nn + 1) - 1) = false := by simp; omega
            by_cases hb2 : 64 ≤ k
            · have t2 : decide (64 ≤ (k : Int)) = true := by simp; omega
              have hst : Hid (joinR op em (t0 :: r) = (tm0, 5)) := Lib.hid (by rw [hres.out, hsq.out, HD.out, sumR_stop (Or.inr hb2)]; rfl)
              clear hb1 hb2
              go_wp2_with fail
              exact bodyPost_ret (results_ct Tryz.results50 rfl (load_tm (t := tm0) (r7 RR4.out rfl))) rfl ⟨_, _, by rw [hst.out]; rfl, by rw [hst.out]; exact .nil (Or.inl rfl), by rw [hst.out]; exact .nil (Or.inl rfl), k7w K4.out (Or.inr (by omega))⟩
            · have t2 : decide (64 ≤ (k : Int)) = false := by simp; omega
              have hst := Lib.hid (sumR_step (t := t) (l := (t0 :: r).drop (k + 1)) (s := sm) (i := k) (by rw [hNN2.out]; omega))
              have q1 : Hid (sm + nn + 1 ≤ 2001) := Lib.hid (by omega)
              have q2 : Hid (k + 1 ≤ 64) := Lib.hid (by omega)
              clear hb1 hb2
              go_wp2_with fail
              go_roundw
              case rel => exact ⟨k + 1, sm + nn + 1, by omega, q2.out, q1.out, by go_num, by go_num, KR4.out, Lib.hid (by rw [hsq.out, HD.out, hst.out, hNN2.out])⟩
              case measure => simp [intOf]; omega
        · have hkk : k = r.length + 1 := by omega
          subst hkk
          have hfin : Hid (joinR op em (t0 :: r) = if validB (foldJ op t0 r) then (foldJ op t0 r, 0) else (tm0, 5)) := Lib.hid (by
            have e : sumR ((t0 :: r).drop (r.length + 1)) sm (r.length + 1) = false := by
              rw [List.drop_eq_nil_of_le (by simp)]; rfl
            rw [hres.out, hsq.out, e]; rfl)
          obtain ⟨g, off, ta, tn, tc, ma, mn, mc, rfl, _, lg, ⟨c0, c1, c2, c3, c4, c5, c6⟩, hty, htm⟩ := HAT.out wr (KK2.out.trans kr) 0 (by simp)
          rw [show off + 0 * 7 = off by omega] at c0 c1 c2 c3 c4 c5 c6
          change wr.cell? ⟨g, off, none⟩ = some (.int .i64 t0.op) at c0
          change wr.cell? ⟨g, off + 1, none⟩ = some (.string t0.name) at c1
          change wr.cell? ⟨g, off + 2, none⟩ = some (.int .i64 t0.n) at c2
          change wr.cell? ⟨g, off + 3, none⟩ = some (.int .i64 t0.ty.kind) at c3
          change wr.cell? ⟨g, off + 4, none⟩ = some (.string t0.ty.name) at c4
          have HC := Lib.hid (rcopy_any (valid_bd (HVA.out t0 (by simp))) wr ok _ _ hty htm)
          unfold tmVal at HC
          have KR := Lib.hid (KK2.out.trans kr)
          have RR := Lib.hid R3
          clear hty htm kr R3
          go_wp2_with fail
          refine HC.out.mono ?_
          rintro e w3 ⟨tk, F, kk, rfl, h1, R3, hm3⟩
          have h2 := R3.tml
          rw [hm3] at h2
          have k3 := R3.kp
          obtain ⟨ua, un, uc, rfl⟩ := h1.slice
          obtain ⟨va, vn, vc, rfl⟩ := h2.slice
          unfold tmVal
          have zr := (RR.out.kept k3 (fun h => h)).lt
          have hR1 := RR.out.lt
          have HJ0 : Hid (JI w (w.heap.size + 1) w3.heap.size t0 (w3.alloc (.cells #[.int .i64 t0.op, .string t0.name, .int .i64 t0.n, .int .i64 t0.ty.kind, .string t0.ty.name, .slice ua un uc, .slice va vn vc] 28)) (.slice ua un uc) (.slice va vn vc)) := Lib.hid
            ⟨(KR.out.trans k3).alloc _, (RR.out.kept k3 (fun h => h)).alloc _, Blk.new w3 28 _, (h1.mono (fun q hq h => ⟨by have := h.1; omega, by omega⟩)).frame (Same.alloc _ _), (h2.mono (fun q hq h => ⟨by omega, by omega⟩)).frame (Same.alloc _ _)⟩
          have hO1 : w.heap.size + 1 + 1 ≤ w3.heap.size := by omega
          have hRw : w.heap.size ≤ w.heap.size + 1 := by omega
          clear h1 h2 zr k3 HC R3 hm3 c0 c1 c2 c3 c4 c5 c6 lg hsm hkl hk64 hsq i0 i00 hlt
          go_wp2_with fail
          generalize hwO : w3.alloc (.cells #[.int .i64 t0.op, .string t0.name, .int .i64 t0.n, .int .i64 t0.ty.kind, .string t0.ty.name, .slice ua un uc, .slice va vn vc] 28) = wO at *
          go_loopw [13] (fun i wr => ∃ (k : Nat) (o : Tm) (tk kk : Value), k ≤ r.length ∧ i = .int .i64 (k + 1) ∧ JI w (w.heap.size + 1) w3.heap.size o wr tk kk ∧ Hid (foldJ op t0 r = foldJ op o (r.drop k))) (fun i _ => r.length + 1 - (intOf i).toNat)
          case atStart => exact ⟨0, t0, _, _, Nat.zero_le _, rfl, HJ0.out, Lib.hid rfl⟩
          case round =>
            obtain ⟨k, o, tk, kk, hkl, rfl, hJ, hL⟩ := hrel
            obtain ⟨xa, xn, xc, rfl⟩ := hJ.ty.slice
            obtain ⟨ya, yn, yc, rfl⟩ := hJ.tm.slice
            have gO : ∀ i, wr.cell? ⟨w3.heap.size, i, none⟩ = [Value.int .i64 o.op, .string o.name, .int .i64 o.n, .int .i64 o.ty.kind, .string o.ty.name, .slice xa xn xc, .slice ya yn yc][i]? := hJ.ob.cell
            have fO : ∀ i, wr.frozen? ⟨w3.heap.size, i, none⟩ = false := hJ.ob.frozen
            have lO : w3.heap.size < wr.heap.size := hJ.ob.lt
            have lR : w.heap.size + 1 < wr.heap.size := hJ.r.lt
            have HJ := Lib.hid hJ
            by_cases hlt : k < r.length
            · obtain ⟨g', off', pa, pn, pc, qa, qn, qc, e1, _, lg', ⟨c0, c1, c2, c3, c4, c5, c6⟩, hty, htm⟩ := HAT.out wr hJ.kp (k + 1) (by simp; omega)
              cases e1
              have e3 : (t0 :: r)[k + 1]'(by simp; omega) = r[k] := rfl
              rw [e3] at c0 c1 c2 c3 c4 hty htm
              clear e3 hJ
              have i1 : (k : Int) + 1 < (r.length : Int) + 1 := by omega
              have i2 : (k : Int) < 1000 := by have := HLN.out; simp at this; omega
              have i3 : ((k : Int) + 1).toNat = k + 1 := by omega
              have i4 : (0 : Int) ≤ (k : Int) + 1 := by omega
              have HCL := Lib.hid (fun W (kq : Kept (fun _ => False) wr W) => rcopy_any (valid_bd (HVA.out r[k] (by simp))) W ok _ _ (hty.frame (Same.of_kept kq (fun _ _ e => e))) (htm.frame (Same.of_kept kq (fun _ _ e => e))))
              unfold tmVal at HCL
              have KD : Kept (fun _ => False) wr wr.drew := (Kept.refl _ _).drew
              clear hty htm
              go_upto_region 17 with (fail)
              go_region_law (first | (go_simp; go_at_call 42; refine (HCL.out _ KD).mono ?_; rintro e w4 ⟨tk4, E4, kk4, rfl, hv, R4, hm4⟩; have hu := R4.tml; rw [hm4] at hu; have k4 : Kept (fun _ => False) wr w4 := KD.trans R4.kp; obtain ⟨xa4, xn4, xc4, rfl⟩ := hv.slice; obtain ⟨ya4, yn4, yc4, rfl⟩ := hu.slice; unfold tmVal; have bO4 := HJ.out.ob.kept k4 (fun h => h); have gO4 : ∀ i, w4.cell? ⟨w3.heap.size, i, none⟩ = [Value.int .i64 o.op, .string o.name, .int .i64 o.n, .int .i64 o.ty.kind, .string o.ty.name, .slice xa xn xc, .slice ya yn yc][i]? := bO4.cell; have fO4 : ∀ i, w4.frozen? ⟨w3.heap.size, i, none⟩ = false := bO4.frozen; have lO4 : w3.heap.size < w4.heap.size := bO4.lt))
              all_goals
                have HX := Lib.hid (JI.step (op := op) HJ.out hRw hO1 k4 (hv.mono (fun q _ hq => hq.1)) hu)
                clear gO4 fO4 lO4 bO4 hv hu HCL R4 hm4 lg' gO fO k4 i3 i4
                unfold tmCells at HX
                simp only [List.cons_append, List.nil_append] at HX
                generalize (((((((w4.setCell ⟨w3.heap.size, 0, none⟩ (.int .i64 op)).setCell ⟨w3.heap.size, 1, none⟩ (.string ⟨#[]⟩)).setCell ⟨w3.heap.size, 2, none⟩ (.int .i64 0)).setCell ⟨w3.heap.size, 3, none⟩ (.int .i64 0)).setCell ⟨w3.heap.size, 4, none⟩ (.string ⟨#[]⟩)).setCell ⟨w3.heap.size, 5, none⟩ (.slice none 0 0)).setCell ⟨w3.heap.size, 6, none⟩ (.slice (some ⟨w4.heap.size, 0, none⟩) 2 2)).alloc (.cells #[.int .i64 o.op, .string o.name, .int .i64 o.n, .int .i64 o.ty.kind, .string o.ty.name, .slice xa xn xc, .slice ya yn yc, .int .i64 r[k].op, .string r[k].name, .int .i64 r[k].n, .int .i64 r[k].ty.kind, .string r[k].ty.name, .slice xa4 xn4 xc4, .slice ya4 yn4 yc4] 28) = w5 at *
                go_wp2_with fail
                go_roundw
                case rel => exact ⟨k + 1, _, _, _, by omega, by go_num, HX.out, Lib.hid (by rw [hL.out, drop_step hlt]; rfl)⟩
                case measure => simp [intOf]; omega
            · have hkk : k = r.length := by omega
              subst hkk
              have ho : foldJ op t0 r = o := by rw [hL.out, List.drop_length]; rfl
              rw [ho] at hfin
              have hso : SmTm big o := by
                rw [← ho]
                exact foldJ_sm (HSM.out t0 (by simp)) (fun t ht => HSM.out t (List.mem_cons_of_mem _ ht))
              have HVO := Lib.hid (rvalid_any hJ.ty hJ.tm hso)
              clear ho hso hJ
              cases hv : validB o
              · have hfin2 : Hid (joinR op em (t0 :: r) = (tm0, 5)) := Lib.hid (by rw [hfin.out, hv]; rfl)
                go_wp2_with fail
                refine HVO.out.mono ?_
                rintro e w6 ⟨rfl, k6⟩
                have J6 := Lib.hid (HJ.out.kept k6)
                have gR6 : ∀ i, w6.cell? ⟨w.heap.size + 1, i, none⟩ = [Value.int .i64 0, .string ⟨#[]⟩, .int .i64 0, .int .i64 0, .string ⟨#[]⟩, .slice none 0 0, .slice none 0 0][i]? := J6.out.r.cell
                have fR6 : ∀ i, w6.frozen? ⟨w.heap.size + 1, i, none⟩ = false := J6.out.r.frozen
                clear gO fO
                go_wp2_with fail
                exact bodyPost_ret (results_ct Tryz.results50 rfl (load_tm (t := tm0) (r7 J6.out.r rfl))) rfl ⟨_, _, by rw [hfin2.out]; rfl, by rw [hfin2.out]; exact .nil (Or.inl rfl), by rw [hfin2.out]; exact .nil (Or.inl rfl), k7w J6.out.kp (Or.inr (by omega))⟩
              · have hfin2 : Hid (joinR op em (t0 :: r) = (o, 0)) := Lib.hid (by rw [hfin.out, hv]; rfl)
                go_wp2_with fail
                refine HVO.out.mono ?_
                rintro e w6 ⟨rfl, k6⟩
                have J6 := Lib.hid (HJ.out.kept k6)
                have gR6 : ∀ i, w6.cell? ⟨w.heap.size + 1, i, none⟩ = [Value.int .i64 0, .string ⟨#[]⟩, .int .i64 0, .int .i64 0, .string ⟨#[]⟩, .slice none 0 0, .slice none 0 0][i]? := J6.out.r.cell
                have fR6 : ∀ i, w6.frozen? ⟨w.heap.size + 1, i, none⟩ = false := J6.out.r.frozen
                have gO6 : ∀ i, w6.cell? ⟨w3.heap.size, i, none⟩ = [Value.int .i64 o.op, .string o.name, .int .i64 o.n, .int .i64 o.ty.kind, .string o.ty.name, .slice xa xn xc, .slice ya yn yc][i]? := J6.out.ob.cell
                clear gO fO
                go_wp2_with fail
                exact bodyPost_ret (results_ct Tryz.results50 rfl (load_tm (t := o) (r7 J6.out.r rfl))) rfl ⟨_, _, by rw [hfin2.out]; rfl, by rw [hfin2.out]; exact (J6.out.ty.frame (set7 (fun q hq => by omega))).mono (fun q _ hq => by omega), by rw [hfin2.out]; exact (J6.out.tm.frame (set7 (fun q hq => by omega))).mono (fun q _ hq => by omega), k7w J6.out.kp (Or.inr (by omega))⟩
set_option maxRecDepth 100000 in
set_option maxHeartbeats 4000000 in
theorem rconj_any {ok : Nat → Prop} {l : List Tm} {a : Option Addr} {n c : Nat} {w : World} (hn1 : l.length ≤ 1000) (hs : ∀ t, t ∈ l → SmTm big t) (hk : TmL ok w l (.slice a n c)) :
    Calls Tryz.prog 17 #[.slice a n c] w (TmE (joinR 4 1 l) w) := by
  have HC := Lib.hid (rjoined_any (w := w.alloc (.cells #[.int .i64 0, .string ⟨#[]⟩, .int .i64 0, .int .i64 0, .string ⟨#[]⟩, .slice none 0 0, .slice none 0 0] 28)) 4 1 hn1 hs (hk.frame (Same.alloc _ _)))
  have bR : Blk (w.alloc (.cells #[.int .i64 0, .string ⟨#[]⟩, .int .i64 0, .int .i64 0, .string ⟨#[]⟩, .slice none 0 0, .slice none 0 0] 28)) w.heap.size 28 z27 := Blk.new w 28 z27
  have K0 : Kept (fun _ => False) w (w.alloc (.cells #[.int .i64 0, .string ⟨#[]⟩, .int .i64 0, .int .i64 0, .string ⟨#[]⟩, .slice none 0 0, .slice none 0 0] 28)) := (Kept.refl _ _).alloc _
  clear hk hs
  unfold TmE at HC ⊢
  generalize joinR 4 1 l = rr at *
  go_enter Tryz.func17, Tryz.ntmps17
  go_wp2_with fail
  refine HC.out.mono ?_
  rintro e w2 ⟨tk, kk, rfl, h1, h2, k2⟩
  obtain ⟨ua, un, uc, rfl⟩ := h1.slice
  obtain ⟨va, vn, vc, rfl⟩ := h2.slice
  have b2 := bR.kept k2 (fun h => h)
  have z1 : (w.alloc (.cells #[.int .i64 0, .string ⟨#[]⟩, .int .i64 0, .int .i64 0, .string ⟨#[]⟩, .slice none 0 0, .slice none 0 0] 28)).heap.size = w.heap.size + 1 := by simp
  have H1 := Lib.hid (h1.mono (ok' := fun q => w.heap.size + 1 ≤ q) (fun q _ hq => by omega))
  have H2 := Lib.hid (h2.mono (ok' := fun q => w.heap.size + 1 ≤ q) (fun q _ hq => by omega))
  have KK := Lib.hid (K0.trans k2)
  have B2 := Lib.hid b2
  have g2 : ∀ i, w2.cell? ⟨w.heap.size, i, none⟩ = [Value.int .i64 0, .string ⟨#[]⟩, .int .i64 0, .int .i64 0, .string ⟨#[]⟩, .slice none 0 0, .slice none 0 0][i]? := b2.cell
  have f2 : ∀ i, w2.frozen? ⟨w.heap.size, i, none⟩ = false := b2.frozen
  clear h1 h2 z1 k2 K0 bR b2
  unfold tmVal
  go_wp2_with fail
  exact bodyPost_ret (results_ct Tryz.results17 rfl (load_tm (t := rr.1) (r7 B2.out rfl))) rfl ⟨_, _, rfl, (H1.out.frame (set7 (fun q hq => by omega))).mono (fun q _ hq => by omega), (H2.out.frame (set7 (fun q hq => by omega))).mono (fun q _ hq => by omega), k7w KK.out (Or.inr (Nat.le_refl _))⟩
set_option maxRecDepth 100000 in
set_option maxHeartbeats 4000000 in
theorem rdisj_any {ok : Nat → Prop} {l : List Tm} {a : Option Addr} {n c : Nat} {w : World} (hn1 : l.length ≤ 1000) (hs : ∀ t, t ∈ l → SmTm big t) (hk : TmL ok w l (.slice a n c)) :
    Calls Tryz.prog 19 #[.slice a n c] w (TmE (joinR 5 2 l) w) := by
  have HC := Lib.hid (rjoined_any (w := w.alloc (.cells #[.int .i64 0, .string ⟨#[]⟩, .int .i64 0, .int .i64 0, .string ⟨#[]⟩, .slice none 0 0, .slice none 0 0] 28)) 5 2 hn1 hs (hk.frame (Same.alloc _ _)))
  have bR : Blk (w.alloc (.cells #[.int .i64 0, .string ⟨#[]⟩, .int .i64 0, .int .i64 0, .string ⟨#[]⟩, .slice none 0 0, .slice none 0 0] 28)) w.heap.size 28 z27 := Blk.new w 28 z27
  have K0 : Kept (fun _ => False) w (w.alloc (.cells #[.int .i64 0, .string ⟨#[]⟩, .int .i64 0, .int .i64 0, .string ⟨#[]⟩, .slice none 0 0, .slice none 0 0] 28)) := (Kept.refl _ _).alloc _
  clear hk hs
  unfold TmE at HC ⊢
  generalize joinR 5 2 l = rr at *
  go_enter Tryz.func19, Tryz.ntmps19
  go_wp2_with fail
  refine HC.out.mono ?_
  rintro e w2 ⟨tk, kk, rfl, h1, h2, k2⟩
  obtain ⟨ua, un, uc, rfl⟩ := h1.slice
  obtain ⟨va, vn, vc, rfl⟩ := h2.slice
  have b2 := bR.kept k2 (fun h => h)
  have z1 : (w.alloc (.cells #[.int .i64 0, .string ⟨#[]⟩, .int .i64 0, .int .i64 0, .string ⟨#[]⟩, .slice none 0 0, .slice none 0 0] 28)).heap.size = w.heap.size + 1 := by simp
  have H1 := Lib.hid (h1.mono (ok' := fun q => w.heap.size + 1 ≤ q) (fun q _ hq => by omega))
  have H2 := Lib.hid (h2.mono (ok' := fun q => w.heap.size + 1 ≤ q) (fun q _ hq => by omega))
  have KK := Lib.hid (K0.trans k2)
  have B2 := Lib.hid b2
  have g2 : ∀ i, w2.cell? ⟨w.heap.size, i, none⟩ = [Value.int .i64 0, .string ⟨#[]⟩, .int .i64 0, .int .i64 0, .string ⟨#[]⟩, .slice none 0 0, .slice none 0 0][i]? := b2.cell
  have f2 : ∀ i, w2.frozen? ⟨w.heap.size, i, none⟩ = false := b2.frozen
  clear h1 h2 z1 k2 K0 bR b2
  unfold tmVal
  go_wp2_with fail
  exact bodyPost_ret (results_ct Tryz.results19 rfl (load_tm (t := rr.1) (r7 B2.out rfl))) rfl ⟨_, _, rfl, (H1.out.frame (set7 (fun q hq => by omega))).mono (fun q _ hq => by omega), (H2.out.frame (set7 (fun q hq => by omega))).mono (fun q _ hq => by omega), k7w KK.out (Or.inr (Nat.le_refl _))⟩
def ConjP (l : List Tm) (w : World) (e : Ending) (w' : World) : Prop := ∃ (E : List E3) (v : Value), e = .returned v ∧ RowT w w.heap.size w' E v ∧ E.map (·.1) = l
def ConjC (f : FuncId) (t : Tm) : Prop := ∀ (w : World) (ok : Nat → Prop) (tk kk : Value), TyL ok w t.ty.kids tk → TmL ok w t.kids kk → Calls Tryz.prog f #[tmVal t tk kk] w (ConjP (conjT t) w)
theorem conjT_one {t : Tm} (h : t.op ≠ 4) : conjT t = [t] := by
  cases t with
  | mk op nm N ty l => rw [conjT]; exact if_neg h
theorem conjT_two {t a b : Tm} (h : t.op = 4) (hk : t.kids = [a, b]) : conjT t = conjT a ++ conjT b := by
  cases t with
  | mk op nm N ty l =>
    simp only [Tm.op, Tm.kids] at h hk
    subst h hk
    rw [conjT, if_pos rfl, conjsT, conjsT, conjsT, List.append_nil]
theorem and_kids {t : Tm} (h : OkTm t) (h4 : t.op = 4) : ∃ a b, t.kids = [a, b] := by
  cases h with
  | mk hf hn hk =>
    rename_i op nm N ty l
    simp only [Tm.op] at h4
    subst h4
    have := (formed_parts hf).1
    unfold kidOk at this
    have e : kidsN 4 = (2, true) := rfl
    rw [e] at this
    simp at this
    match l, (show l.length = 2 by omega) with
    | [a, b], _ => exact ⟨a, b, rfl⟩
set_option maxRecDepth 100000 in
set_option maxHeartbeats 8000000 in
theorem conj_leaf {t : Tm} (hb : BdTm t) (h4 : t.op ≠ 4) : ConjC 54 t := by
  intro w ok tk kk hty htm
  obtain ⟨a, n, c, rfl⟩ := hty.slice
  obtain ⟨ma, mn, mc, rfl⟩ := htm.slice
  have hn : (t.op != 4) = true := by simpa using h4
  have bA : Blk (w.alloc (.cells #[.int .i64 t.op, .string t.name, .int .i64 t.n, .int .i64 t.ty.kind, .string t.ty.name, .slice a n c, .slice ma mn mc] 28)) w.heap.size 28 [.int .i64 t.op, .string t.name, .int .i64 t.n, .int .i64 t.ty.kind, .string t.ty.name, .slice a n c, .slice ma mn mc] := Blk.new w 28 _
  have K0 : Kept (fun _ => False) w (w.alloc (.cells #[.int .i64 t.op, .string t.name, .int .i64 t.n, .int .i64 t.ty.kind, .string t.ty.name, .slice a n c, .slice ma mn mc] 28)) := (Kept.refl _ _).alloc _
  have HC := Lib.hid (clone_any hb _ ok _ _ (hty.frame (Same.of_kept K0 (fun _ _ e => e))) (htm.frame (Same.of_kept K0 (fun _ _ e => e))))
  have z0 : (w.alloc (.cells #[.int .i64 t.op, .string t.name, .int .i64 t.n, .int .i64 t.ty.kind, .string t.ty.name, .slice a n c, .slice ma mn mc] 28)).heap.size = w.heap.size + 1 := by simp
  unfold tmVal at HC ⊢
  have HE := Lib.hid (conjT_one h4)
  have HZ := Lib.hid z0
  clear hty htm h4 z0
  go_enter Tryz.func54, Tryz.ntmps54
  go_wp2_with fail
  refine HC.out.mono ?_
  rintro e w2 ⟨tk2, kk2, rfl, h1, h2, k2⟩
  obtain ⟨ua, un, uc, rfl⟩ := h1.slice
  obtain ⟨va, vn, vc, rfl⟩ := h2.slice
  unfold tmVal
  have H1 := Lib.hid h1
  have H2 := Lib.hid h2
  have K2 := Lib.hid (K0.trans k2)
  have Z2 := Lib.hid k2.size
  clear h1 h2 k2
  go_wp2_with fail
  go_ret
  have z2 := Z2.out
  rw [HZ.out] at z2
  have h1 := H1.out
  have h2 := H2.out
  rw [HZ.out] at h1 h2
  exact ⟨[(t, _, _)], _, rfl, RowT.one (K2.out.alloc _) (Blk.new w2 28 _) (by omega) ((h1.mono (fun q hq h => ⟨by omega, by omega⟩)).frame (Same.alloc _ _)) ((h2.mono (fun q hq h => ⟨by omega, by omega⟩)).frame (Same.alloc _ _)), HE.out.symm⟩
set_option maxRecDepth 100000 in
set_option maxHeartbeats 8000000 in
theorem conj_node {t x y : Tm} (h4 : t.op = 4) (hk : t.kids = [x, y]) (hx : ConjC 54 x) (hy : ConjC 54 y) (hlen : (conjT x).length + (conjT y).length ≤ 1000000) : ConjC 54 t := by
  intro w ok tk kk hty htm
  obtain ⟨a, n, c, rfl⟩ := hty.slice
  obtain ⟨ma, mn, mc, rfl⟩ := htm.slice
  have hn : (t.op != 4) = false := by simpa using h4
  have bA : Blk (w.alloc (.cells #[.int .i64 t.op, .string t.name, .int .i64 t.n, .int .i64 t.ty.kind, .string t.ty.name, .slice a n c, .slice ma mn mc] 28)) w.heap.size 28 [.int .i64 t.op, .string t.name, .int .i64 t.n, .int .i64 t.ty.kind, .string t.ty.name, .slice a n c, .slice ma mn mc] := Blk.new w 28 _
  have K0 : Kept (fun _ => False) w (w.alloc (.cells #[.int .i64 t.op, .string t.name, .int .i64 t.n, .int .i64 t.ty.kind, .string t.ty.name, .slice a n c, .slice ma mn mc] 28)) := (Kept.refl _ _).alloc _
  obtain ⟨i28, hi28, hz28, hs28, hb28⟩ := info_tm
  have HI := Lib.hid hi28
  have HZ := Lib.hid hz28
  have HS := Lib.hid hs28
  have HB := Lib.hid hb28
  have HE := Lib.hid (conjT_two h4 hk)
  have HLE := Lib.hid hlen
  have HM9 : True := trivial
  rw [hk] at htm
  have HAT := Lib.hid (fun W (k : Kept (fun _ => False) w W) => (htm.frame (Same.of_kept k (fun _ _ e => e))).at)
  obtain rfl : mn = 2 := htm.len
  clear hty htm h4 hk hi28 hz28 hs28 hb28 hlen
  unfold tmVal
  obtain ⟨g, off, ta, tn, tc, pa, pn, pc, rfl, _, lg, ⟨c0, c1, c2, c3, c4, c5, c6⟩, hxt, hxm⟩ := HAT.out w (Kept.refl _ _) 0 (by simp)
  obtain ⟨g', off', ta', tn', tc', pa', pn', pc', e1, _, _, ⟨d0, d1, d2, d3, d4, d5, d6⟩, hyt, hym⟩ := HAT.out w (Kept.refl _ _) 1 (by simp)
  cases e1
  rw [show off + 0 * 7 = off by omega] at c0 c1 c2 c3 c4 c5 c6
  rw [show off + 1 * 7 = off + 7 by omega] at d0 d1 d2 d3 d4 d5 d6
  change w.cell? ⟨g, off, none⟩ = some (.int .i64 x.op) at c0
  change w.cell? ⟨g, off + 1, none⟩ = some (.string x.name) at c1
  change w.cell? ⟨g, off + 2, none⟩ = some (.int .i64 x.n) at c2
  change w.cell? ⟨g, off + 3, none⟩ = some (.int .i64 x.ty.kind) at c3
  change w.cell? ⟨g, off + 4, none⟩ = some (.string x.ty.name) at c4
  change w.cell? ⟨g, off + 7, none⟩ = some (.int .i64 y.op) at d0
  change w.cell? ⟨g, off + 7 + 1, none⟩ = some (.string y.name) at d1
  change w.cell? ⟨g, off + 7 + 2, none⟩ = some (.int .i64 y.n) at d2
  change w.cell? ⟨g, off + 7 + 3, none⟩ = some (.int .i64 y.ty.kind) at d3
  change w.cell? ⟨g, off + 7 + 4, none⟩ = some (.string y.ty.name) at d4
  have HX := Lib.hid (hx (w.alloc (.cells #[.int .i64 t.op, .string t.name, .int .i64 t.n, .int .i64 t.ty.kind, .string t.ty.name, .slice a n c, .slice (some ⟨g, off, none⟩) 2 mc] 28)) ok _ _ (hxt.frame (Same.of_kept K0 (fun _ _ e => e))) (hxm.frame (Same.of_kept K0 (fun _ _ e => e))))
  have HY := Lib.hid (fun W (k : Kept (fun _ => False) w W) => hy W ok _ _ (hyt.frame (Same.of_kept k (fun _ _ e => e))) (hym.frame (Same.of_kept k (fun _ _ e => e))))
  unfold tmVal at HX HY
  have HC := Lib.hid (fun W (k : Kept (fun _ => False) w W) => (⟨by rw [k.cell (p := ⟨g, off + 7, none⟩) (by show g < _; omega) (fun h => h)]; exact d0, by rw [k.cell (p := ⟨g, off + 7 + 1, none⟩) (by show g < _; omega) (fun h => h)]; exact d1, by rw [k.cell (p := ⟨g, off + 7 + 2, none⟩) (by show g < _; omega) (fun h => h)]; exact d2, by rw [k.cell (p := ⟨g, off + 7 + 3, none⟩) (by show g < _; omega) (fun h => h)]; exact d3, by rw [k.cell (p := ⟨g, off + 7 + 4, none⟩) (by show g < _; omega) (fun h => h)]; exact d4, by rw [k.cell (p := ⟨g, off + 7 + 5, none⟩) (by show g < _; omega) (fun h => h)]; exact d5, by rw [k.cell (p := ⟨g, off + 7 + 6, none⟩) (by show g < _; omega) (fun h => h)]; exact d6⟩ : C7 W g (off + 7) y (.slice ta' tn' tc') (.slice pa' pn' pc')))
  clear hxt hxm hx hyt hym hy d0 d1 d2 d3 d4 d5 d6 HAT
  go_enter Tryz.func54, Tryz.ntmps54
  go_wp2_with fail
  refine HX.out.mono ?_
  rintro e w2 ⟨E, v2, rfl, R2, hm2⟩
  have gA2 : ∀ i, w2.cell? ⟨w.heap.size, i, none⟩ = [Value.int .i64 t.op, .string t.name, .int .i64 t.n, .int .i64 t.ty.kind, .string t.ty.name, .slice a n c, .slice (some ⟨g, off, none⟩) 2 mc][i]? := (bA.kept R2.kp (fun h => h)).cell
  have K2 := Lib.hid (K0.trans R2.kp)
  obtain ⟨e0, e1, e2, e3, e4, e5, e6⟩ := HC.out w2 K2.out
  have HY2 := Lib.hid (HY.out w2 K2.out)
  have HR2 := Lib.hid R2
  have HM2 := Lib.hid hm2
  clear R2 hm2 c0 c1 c2 c3 c4 c5 c6 HX HY
  go_wp2_with fail
  refine HY2.out.mono ?_
  rintro e w3 ⟨F, v3, rfl, R3, hm3⟩
  have HR3 := Lib.hid R3
  have HM3 := Lib.hid hm3
  have hlE : E.length = (conjT x).length := by rw [← HM2.out, List.length_map]
  have hlF : F.length = (conjT y).length := by rw [← HM3.out, List.length_map]
  have hmx : Hid (E.length + F.length ≤ maxLen) := Lib.hid (by have := HLE.out; unfold maxLen; omega)
  have hby : Hid ((E.length + F.length) * 104 ≤ 140737488355328) := Lib.hid (by have := HLE.out; omega)
  clear hlE hlF
  clear R3 hm3 gA2 e0 e1 e2 e3 e4 e5 e6
  go_wp2_with (at_builtin; refine wpList_app_src rfl (.tmp 21) (.tmp 22) _ rfl (w.heap.size + 1) 28 i28 _ 7 104 Tryz.underlying22 HI.out HZ.out HS.out HB.out rfl (by decide) v2 E.length (flat E) rfl ?_ v3 F.length (flat F) rfl ?_ ?_ ?_ ?_ ?_ ?_ ?_)
  · have := (HR2.out.kept HR3.out.kp).own
    simpa using this
  · exact HR3.out.src
  · exact flat_len F
  · exact HR3.out.one'
  · exact hmx.out
  · exact hby.out
  · have h1 := HR3.out.kp.size
    have h2 := K2.out.size
    have h3 := HR2.out.kp.size
    simp at h3
    omega
  intro v' w' own' hgrow hat
  go_wp2_with fail
  go_ret
  have z1 : (w.alloc (.cells #[.int .i64 t.op, .string t.name, .int .i64 t.n, .int .i64 t.ty.kind, .string t.ty.name, .slice a n c, .slice (some ⟨g, off, none⟩) 2 mc] 28)).heap.size = w.heap.size + 1 := by simp
  have r2 := HR2.out.kept HR3.out.kp
  rw [z1] at r2
  have h1 := K2.out.size
  have h2 := HR2.out.kp.size
  rw [z1] at h2
  have r3 : RowT w (w.heap.size + 1) w3 E v2 := ⟨(K0.trans r2.kp), r2.own, r2.el⟩
  have hF : EL (okb (w.heap.size + 1) v2) w3 F := HR3.out.el.mono (fun q hq h => ⟨by have := h.1; omega, fun e => by have := (HR2.out.own.lt q e).2; have := h.1; omega⟩)
  have r4 := RowT.app2 (by omega) r3 hF own' hgrow hat
  exact ⟨E ++ F, v', rfl, ⟨r4.kp, own_base r4.own (fun g hg => by have := (r4.own.lt g hg).1; omega), r4.el.mono (fun q _ h => ⟨by have := h.1; omega, h.2⟩)⟩, by rw [List.map_append, HM2.out, HM3.out, HE.out]⟩
theorem conj_len : ∀ (t : Tm), (conjT t).length ≤ tmN t := by
  intro t
  induction t using Tm.rec (motive_2 := fun l => (conjsT l).length ≤ tmNs l) with
  | mk op nm N ty l ih =>
    rw [conjT, tmN]
    split
    · omega
    · simp
  | nil => exact Nat.le_refl _
  | cons t l iht ihl => rw [conjsT, tmNs, List.length_append]; omega
theorem conj_main : ∀ {t : Tm}, OkTm t → BdTm t → tmN t ≤ 100000 → ConjC 54 t := by
  intro t h
  induction h with
  | mk hf hn hk ih =>
    rename_i op nm N ty l
    intro hb hN
    by_cases h4 : op = 4
    · obtain ⟨x, y, hxy⟩ := and_kids (.mk hf hn hk) h4
      have hl : l = [x, y] := hxy
      subst hl
      rw [tmN, tmNs, tmNs, tmNs] at hN
      have hbk : ∀ u, u ∈ [x, y] → BdTm u := by cases hb; assumption
      have l1 := conj_len x
      have l2 := conj_len y
      exact conj_node h4 rfl (ih x (by simp) (hbk x (by simp)) (by omega)) (ih y (by simp) (hbk y (by simp)) (by omega)) (by omega)
    · exact conj_leaf hb h4
set_option maxRecDepth 100000 in
set_option maxHeartbeats 8000000 in
theorem rconj_leaf {t : Tm} (hb : BdTm t) (h4 : t.op ≠ 4) : ConjC 55 t := by
  intro w ok tk kk hty htm
  obtain ⟨a, n, c, rfl⟩ := hty.slice
  obtain ⟨ma, mn, mc, rfl⟩ := htm.slice
  have hn : (t.op != 4) = true := by simpa using h4
  have bA : Blk (w.alloc (.cells #[.int .i64 t.op, .string t.name, .int .i64 t.n, .int .i64 t.ty.kind, .string t.ty.name, .slice a n c, .slice ma mn mc] 28)) w.heap.size 28 [.int .i64 t.op, .string t.name, .int .i64 t.n, .int .i64 t.ty.kind, .string t.ty.name, .slice a n c, .slice ma mn mc] := Blk.new w 28 _
  have K0 : Kept (fun _ => False) w (w.alloc (.cells #[.int .i64 t.op, .string t.name, .int .i64 t.n, .int .i64 t.ty.kind, .string t.ty.name, .slice a n c, .slice ma mn mc] 28)) := (Kept.refl _ _).alloc _
  have HC := Lib.hid (rcopy_any hb _ ok _ _ (hty.frame (Same.of_kept K0 (fun _ _ e => e))) (htm.frame (Same.of_kept K0 (fun _ _ e => e))))
  have z0 : (w.alloc (.cells #[.int .i64 t.op, .string t.name, .int .i64 t.n, .int .i64 t.ty.kind, .string t.ty.name, .slice a n c, .slice ma mn mc] 28)).heap.size = w.heap.size + 1 := by simp
  unfold tmVal at HC ⊢
  have HE := Lib.hid (conjT_one h4)
  have HZ := Lib.hid z0
  clear hty htm h4 z0
  go_enter Tryz.func55, Tryz.ntmps55
  go_wp2_with fail
  refine HC.out.mono ?_
  rintro e w2 ⟨tk2, F, kk2, rfl, h1, R2, hm2⟩
  have h2 := R2.tml
  rw [hm2] at h2
  have k2 := R2.kp
  obtain ⟨ua, un, uc, rfl⟩ := h1.slice
  obtain ⟨va, vn, vc, rfl⟩ := h2.slice
  unfold tmVal
  have H1 := Lib.hid h1
  have H2 := Lib.hid h2
  have K2 := Lib.hid (K0.trans k2)
  have Z2 := Lib.hid k2.size
  clear h1 h2 k2 R2 hm2
  go_wp2_with fail
  go_ret
  have z2 := Z2.out
  rw [HZ.out] at z2
  have h1 := H1.out
  have h2 := H2.out
  rw [HZ.out] at h1 h2
  exact ⟨[(t, _, _)], _, rfl, RowT.one (K2.out.alloc _) (Blk.new w2 28 _) (by omega) ((h1.mono (fun q hq h => ⟨by have := h.1; omega, by omega⟩)).frame (Same.alloc _ _)) ((h2.mono (fun q hq h => ⟨by omega, by omega⟩)).frame (Same.alloc _ _)), HE.out.symm⟩
theorem RowT.join {w w3 W : World} {base b1 : Nat} {E F : List E3} {v v' : Value} (hb : w.heap.size ≤ base) (hb1 : base ≤ b1) (hw : Kept (fun _ => False) w w3) (hE : w3.ownsRow b1 28 7 v E.length (flat E)) (el : EL (okb base v) w3 E) (hF : EL (okb base v) w3 F) (own : W.ownsRow b1 28 7 v' (E.length + F.length) (flat E ++ flat F)) (hg : w3.grownBy W v.ownBlock) (hat : v'.ownBlock = v.ownBlock ∨ v'.ownBlock = some w3.heap.size) : RowT w w.heap.size W (E ++ F) v' := by
  have r3 : RowT w base w3 E v := ⟨hw, own_base hE (fun g hg => by have := (hE.lt g hg).1; omega), el⟩
  have r4 := RowT.app2 hb r3 hF (own_base own (fun g hg => by have := (own.lt g hg).1; omega)) hg hat
  exact ⟨r4.kp, own_base r4.own (fun g hg => by have := (r4.own.lt g hg).1; omega), r4.el.mono (fun q _ h => ⟨by have := h.1; omega, h.2⟩)⟩
set_option maxRecDepth 100000 in
set_option maxHeartbeats 16000000 in
theorem rconj_node {t x y : Tm} (h4 : t.op = 4) (hk : t.kids = [x, y]) (hx : ConjC 55 x) (hy : ConjC 55 y) (hlen : (conjT x).length + (conjT y).length ≤ 1000000) : ConjC 55 t := by
  intro w ok tk kk hty htm
  obtain ⟨a, n, c, rfl⟩ := hty.slice
  obtain ⟨ma, mn, mc, rfl⟩ := htm.slice
  have hn : (t.op != 4) = false := by simpa using h4
  obtain ⟨i28, hi28, hz28, hs28, hb28⟩ := info_tm
  have HI := Lib.hid hi28
  have HZ := Lib.hid hz28
  have HS := Lib.hid hs28
  have HB := Lib.hid hb28
  have HE := Lib.hid (conjT_two h4 hk)
  have HLE := Lib.hid hlen
  rw [hk] at htm
  have HAT := Lib.hid (fun W (k : Kept (fun _ => False) w W) => (htm.frame (Same.of_kept k (fun _ _ e => e))).at)
  obtain rfl : mn = 2 := htm.len
  clear hty htm h4 hk hi28 hz28 hs28 hb28 hlen
  unfold tmVal
  obtain ⟨g, off, ta, tn, tc, pa, pn, pc, rfl, _, lg, ⟨c0, c1, c2, c3, c4, c5, c6⟩, hxt, hxm⟩ := HAT.out w (Kept.refl _ _) 0 (by simp)
  obtain ⟨g', off', ta', tn', tc', pa', pn', pc', e1, _, _, ⟨d0, d1, d2, d3, d4, d5, d6⟩, hyt, hym⟩ := HAT.out w (Kept.refl _ _) 1 (by simp)
  cases e1
  rw [show off + 0 * 7 = off by omega] at c0 c1 c2 c3 c4 c5 c6
  rw [show off + 1 * 7 = off + 7 by omega] at d0 d1 d2 d3 d4 d5 d6
  change w.cell? ⟨g, off, none⟩ = some (.int .i64 x.op) at c0
  change w.cell? ⟨g, off + 1, none⟩ = some (.string x.name) at c1
  change w.cell? ⟨g, off + 2, none⟩ = some (.int .i64 x.n) at c2
  change w.cell? ⟨g, off + 3, none⟩ = some (.int .i64 x.ty.kind) at c3
  change w.cell? ⟨g, off + 4, none⟩ = some (.string x.ty.name) at c4
  change w.cell? ⟨g, off + 7, none⟩ = some (.int .i64 y.op) at d0
  change w.cell? ⟨g, off + 7 + 1, none⟩ = some (.string y.name) at d1
  change w.cell? ⟨g, off + 7 + 2, none⟩ = some (.int .i64 y.n) at d2
  change w.cell? ⟨g, off + 7 + 3, none⟩ = some (.int .i64 y.ty.kind) at d3
  change w.cell? ⟨g, off + 7 + 4, none⟩ = some (.string y.ty.name) at d4
  have bA : Blk (w.alloc (.cells #[.int .i64 t.op, .string t.name, .int .i64 t.n, .int .i64 t.ty.kind, .string t.ty.name, .slice a n c, .slice (some ⟨g, off, none⟩) 2 mc] 28)) w.heap.size 28 [.int .i64 t.op, .string t.name, .int .i64 t.n, .int .i64 t.ty.kind, .string t.ty.name, .slice a n c, .slice (some ⟨g, off, none⟩) 2 mc] := Blk.new w 28 _
  have K0 : Kept (fun _ => False) w (w.alloc (.cells #[.int .i64 t.op, .string t.name, .int .i64 t.n, .int .i64 t.ty.kind, .string t.ty.name, .slice a n c, .slice (some ⟨g, off, none⟩) 2 mc] 28)) := (Kept.refl _ _).alloc _
  have HXY : Hid (∀ (W : World) (v : Value) (l : List Tm), Kept (fun _ => False) w W → ((v = .agg #[.int .i64 x.op, .string x.name, .int .i64 x.n, .int .i64 x.ty.kind, .string x.ty.name, .slice ta tn tc, .slice pa pn pc] ∧ l = conjT x) ∨ (v = .agg #[.int .i64 y.op, .string y.name, .int .i64 y.n, .int .i64 y.ty.kind, .string y.ty.name, .slice ta' tn' tc', .slice pa' pn' pc'] ∧ l = conjT y)) → Calls Tryz.prog 55 #[v] W (ConjP l W)) := Lib.hid (by
    rintro W v l k (⟨rfl, rfl⟩ | ⟨rfl, rfl⟩)
    · exact hx W ok _ _ (hxt.frame (Same.of_kept k (fun _ _ e => e))) (hxm.frame (Same.of_kept k (fun _ _ e => e)))
    · exact hy W ok _ _ (hyt.frame (Same.of_kept k (fun _ _ e => e))) (hym.frame (Same.of_kept k (fun _ _ e => e))))
  have ng : g ≠ w.heap.size := by omega
  have HC := Lib.hid (fun W (k : Kept (fun _ => False) (w.alloc (.cells #[.int .i64 t.op, .string t.name, .int .i64 t.n, .int .i64 t.ty.kind, .string t.ty.name, .slice a n c, .slice (some ⟨g, off, none⟩) 2 mc] 28)) W) => (⟨(bA.kept k (fun h => h)).cell 6,
    (by rw [(K0.trans k).cell (p := ⟨g, off, none⟩) (by show g < _; omega) (fun h => h)]; exact c0), (by rw [(K0.trans k).cell (p := ⟨g, off + 1, none⟩) (by show g < _; omega) (fun h => h)]; exact c1), (by rw [(K0.trans k).cell (p := ⟨g, off + 2, none⟩) (by show g < _; omega) (fun h => h)]; exact c2), (by rw [(K0.trans k).cell (p := ⟨g, off + 3, none⟩) (by show g < _; omega) (fun h => h)]; exact c3), (by rw [(K0.trans k).cell (p := ⟨g, off + 4, none⟩) (by show g < _; omega) (fun h => h)]; exact c4), (by rw [(K0.trans k).cell (p := ⟨g, off + 5, none⟩) (by show g < _; omega) (fun h => h)]; exact c5), (by rw [(K0.trans k).cell (p := ⟨g, off + 6, none⟩) (by show g < _; omega) (fun h => h)]; exact c6),
    (by rw [(K0.trans k).cell (p := ⟨g, off + 7, none⟩) (by show g < _; omega) (fun h => h)]; exact d0), (by rw [(K0.trans k).cell (p := ⟨g, off + 7 + 1, none⟩) (by show g < _; omega) (fun h => h)]; exact d1), (by rw [(K0.trans k).cell (p := ⟨g, off + 7 + 2, none⟩) (by show g < _; omega) (fun h => h)]; exact d2), (by rw [(K0.trans k).cell (p := ⟨g, off + 7 + 3, none⟩) (by show g < _; omega) (fun h => h)]; exact d3), (by rw [(K0.trans k).cell (p := ⟨g, off + 7 + 4, none⟩) (by show g < _; omega) (fun h => h)]; exact d4), (by rw [(K0.trans k).cell (p := ⟨g, off + 7 + 5, none⟩) (by show g < _; omega) (fun h => h)]; exact d5), (by rw [(K0.trans k).cell (p := ⟨g, off + 7 + 6, none⟩) (by show g < _; omega) (fun h => h)]; exact d6)⟩ :
    W.cell? ⟨w.heap.size, 6, none⟩ = some (.slice (some ⟨g, off, none⟩) 2 mc) ∧ W.cell? ⟨g, off, none⟩ = some (.int .i64 x.op) ∧ W.cell? ⟨g, off + 1, none⟩ = some (.string x.name) ∧ W.cell? ⟨g, off + 2, none⟩ = some (.int .i64 x.n) ∧ W.cell? ⟨g, off + 3, none⟩ = some (.int .i64 x.ty.kind) ∧ W.cell? ⟨g, off + 4, none⟩ = some (.string x.ty.name) ∧ W.cell? ⟨g, off + 5, none⟩ = some (.slice ta tn tc) ∧ W.cell? ⟨g, off + 6, none⟩ = some (.slice pa pn pc) ∧
    W.cell? ⟨g, off + 7, none⟩ = some (.int .i64 y.op) ∧ W.cell? ⟨g, off + 7 + 1, none⟩ = some (.string y.name) ∧ W.cell? ⟨g, off + 7 + 2, none⟩ = some (.int .i64 y.n) ∧ W.cell? ⟨g, off + 7 + 3, none⟩ = some (.int .i64 y.ty.kind) ∧ W.cell? ⟨g, off + 7 + 4, none⟩ = some (.string y.ty.name) ∧ W.cell? ⟨g, off + 7 + 5, none⟩ = some (.slice ta' tn' tc') ∧ W.cell? ⟨g, off + 7 + 6, none⟩ = some (.slice pa' pn' pc')))
  clear hxt hxm hx hyt hym hy d0 d1 d2 d3 d4 d5 d6 HAT c0 c1 c2 c3 c4 c5 c6
  go_enter Tryz.func55, Tryz.ntmps55
  go_upto_region 3 with (fail)
  generalize w.alloc (.cells #[.int .i64 t.op, .string t.name, .int .i64 t.n, .int .i64 t.ty.kind, .string t.ty.name, .slice a n c, .slice (some ⟨g, off, none⟩) 2 mc] 28) = w1 at *
  obtain ⟨x0, x1, x2, x3, x4, x5, x6, x7, x8, x9, xa, xb, xc, xd, xe⟩ := HC.out w1 (Kept.refl _ _)
  have KD : Kept (fun _ => False) w1 w1.drew := (Kept.refl _ _).drew
  have hlc : Hid (∀ (E F : List E3) (l r : List Tm), E.map (·.1) = l → F.map (·.1) = r → l.length + r.length ≤ 1000000 → E.length + F.length ≤ maxLen ∧ (E.length + F.length) * 104 ≤ 140737488355328) := Lib.hid (fun E F l r h1 h2 h3 => by
    have q1 : E.length = l.length := by rw [← h1, List.length_map]
    have q2 : F.length = r.length := by rw [← h2, List.length_map]
    unfold maxLen
    constructor <;> omega)
  go_region_law (first
    | (refine step_app_src rfl (.tmp 13) (.tmp 18) _ rfl w1.heap.size 28 i28 _ 7 104 Tryz.underlying22 HI.out HZ.out HS.out HB.out rfl (by decide) v1 E1.length (flat E1) rfl (R1.out.kept R2.out.kp).own v2 E2.length (flat E2) rfl R2.out.src (flat_len _) R2.out.one' (hlc.out _ _ _ _ hm1.out hm2.out (by have := HLE.out; omega)).1 (hlc.out _ _ _ _ hm1.out hm2.out (by have := HLE.out; omega)).2 (KD.trans (R1.out.kp.trans R2.out.kp)).size ?_; intro v' w' own' hgrow hat)
    | (refine step_app_src rfl (.tmp 13) (.tmp 18) _ rfl wq.heap.size 28 i28 _ 7 104 Tryz.underlying22 HI.out HZ.out HS.out HB.out rfl (by decide) v2 E2.length (flat E2) rfl R2.out.own v1 E1.length (flat E1) rfl (R1.out.kept R2.out.kp).src (flat_len _) R1.out.one' (hlc.out _ _ _ _ hm2.out hm1.out (by have := HLE.out; omega)).1 (hlc.out _ _ _ _ hm2.out hm1.out (by have := HLE.out; omega)).2 R2.out.kp.size ?_; intro v' w' own' hgrow hat)
    | (go_simp; go_at_call 55; refine (HXY.out _ _ _ (by first | exact K0.trans KD | exact K0.trans KE) (by first | exact Or.inl ⟨rfl, rfl⟩ | exact Or.inr ⟨rfl, rfl⟩)).mono ?_; first | (rintro e wp ⟨E2, v2, rfl, r2, m2⟩; have KF := KE.trans r2.kp; have R2 := Lib.hid r2; have hm2 := Lib.hid m2; clear r2 m2; obtain ⟨z0, z1, z2, z3, z4, z5, z6, z7, z8, z9, za, zb, zc, zd, ze⟩ := HC.out _ KF) | (rintro e wq ⟨E1, v1, rfl, r1, m1⟩; have KE := KD.trans r1.kp; have R1 := Lib.hid r1; have hm1 := Lib.hid m1; clear r1 m1; obtain ⟨y0, y1, y2, y3, y4, y5, y6, y7, y8, y9, ya, yb, yc, yd, ye⟩ := HC.out _ KE)))
  all_goals
    have O8 := Lib.hid own'
    have G8 := Lib.hid hgrow
    have A8 := Lib.hid hat
    clear own' hgrow hat x0 x1 x2 x3 x4 x5 x6 x7 x8 x9 xa xb xc xd xe y0 y1 y2 y3 y4 y5 y6 y7 y8 y9 ya yb yc yd ye z0 z1 z2 z3 z4 z5 z6 z7 z8 z9 za zb zc zd ze hlc HC
    go_wp2_with fail
    go_ret
    have q1 := K0.size
    have q2 := R1.out.kp.size
    have q3 := R2.out.kp.size
    have qd : w1.drew.heap.size = w1.heap.size := rfl
    have E1k := R1.out.el.frame (Same.of_kept R2.out.kp (fun _ _ e => e))
    first
    | exact ⟨E1 ++ E2, v', rfl, RowT.join (base := w1.heap.size) q1 (Nat.le_refl _) (K0.trans KF) (R1.out.kept R2.out.kp).own E1k (R2.out.el.mono (fun q _ h => ⟨by have := h.1; omega, fun e => by have := (R1.out.own.lt q e).2; have := h.1; omega⟩)) O8.out G8.out A8.out, by rw [List.map_append, hm1.out, hm2.out, HE.out]⟩
    | exact ⟨E2 ++ E1, v', rfl, RowT.join (base := w1.heap.size) q1 q2 (K0.trans KF) R2.out.own (R2.out.el.mono (fun q _ h => ⟨by have := h.1; omega, h.2⟩)) ((R1.out.el.mono (ok' := fun q => okb w1.heap.size v1 q ∧ q < wq.heap.size) (fun q hq h => ⟨h, hq⟩)).frame (Same.of_kept R2.out.kp (fun _ _ e => e)) |>.mono (fun q _ h => ⟨h.1.1, fun e => by have := (R2.out.own.lt q e).1; have := h.2; omega⟩)) O8.out G8.out A8.out, by rw [List.map_append, hm2.out, hm1.out, HE.out]⟩
theorem rconj_main : ∀ {t : Tm}, OkTm t → BdTm t → tmN t ≤ 100000 → ConjC 55 t := by
  intro t h
  induction h with
  | mk hf hn hk ih =>
    rename_i op nm N ty l
    intro hb hN
    by_cases h4 : op = 4
    · obtain ⟨x, y, hxy⟩ := and_kids (.mk hf hn hk) h4
      have hl : l = [x, y] := hxy
      subst hl
      rw [tmN, tmNs, tmNs, tmNs] at hN
      have hbk : ∀ u, u ∈ [x, y] → BdTm u := by cases hb; assumption
      have l1 := conj_len x
      have l2 := conj_len y
      exact rconj_node h4 rfl (ih x (by simp) (hbk x (by simp)) (by omega)) (ih y (by simp) (hbk y (by simp)) (by omega)) (by omega)
    · exact rconj_leaf hb h4
def cjT (t : Tm) : List Tm := if validB t then conjT t else []
def TmsP (l : List Tm) (w : World) (e : Ending) (w' : World) : Prop := ∃ v, e = .returned v ∧ TmL (fun q => w.heap.size ≤ q) w' l v ∧ Kept (fun _ => False) w w'
theorem valid_parts {t : Tm} (h : validB t = true) : OkTm t ∧ BdTm t ∧ tmN t ≤ 100000 := by
  have := (valid_iff t).1 h
  exact ⟨this.1, valid_bd h, by omega⟩
theorem clipTm_any {w w1 : World} {base : Nat} {E : List E3} {v : Value} (h : RowT w base w1 E v) (hl : E.length ≤ 1000000) : Calls Tryz.prog 53 #[v] w1 fun e w' => ∃ v', e = .returned v' ∧ TmL (fun q => base ≤ q) w1 (E.map (·.1)) v' ∧ w1 = w' := by
  have ht := h.tml
  rcases h.own.2 with ⟨rfl, hn⟩ | ⟨g, cap, cur, rfl, hbg, hg, hnc, hr⟩
  · exact (clipTm_nil w1).mono fun e w' ⟨h1, h2⟩ => ⟨_, h1, ht, h2⟩
  · refine (clipTm_some w1 g E.length cap hnc hl).mono fun e w' ⟨h1, h2⟩ => ⟨_, h1, ?_, h2⟩
    generalize hv : Value.slice (some ⟨g, 0, none⟩) E.length cap = v at ht
    generalize hll : E.map (·.1) = l at ht
    have hlen : l.length = E.length := by rw [← hll, List.length_map]
    cases ht with
    | nil he =>
      have : E.length = 0 := by rw [← hlen]; rfl
      rw [this]
      exact .nil (Or.inr ⟨_, _, rfl⟩)
    | mk K M hne hb hc hcell hk hm =>
      injection hv with e1 e2 e3
      injection e1 with e1
      injection e1 with e1 e4 e5
      subst e1 e4
      rw [← hlen]
      exact .mk K M hne hb (Nat.le_refl _) hcell hk hm
set_option maxRecDepth 100000 in
set_option maxHeartbeats 8000000 in
theorem conjuncts_any {ok : Nat → Prop} {t : Tm} {w : World} {tk kk : Value} (hty : TyL ok w t.ty.kids tk) (htm : TmL ok w t.kids kk) (hs : SmTm big t) :
    Calls Tryz.prog 21 #[tmVal t tk kk] w (TmsP (cjT t) w) := by
  obtain ⟨a, n, c, rfl⟩ := hty.slice
  obtain ⟨ma, mn, mc, rfl⟩ := htm.slice
  have bA : Blk (w.alloc (.cells #[.int .i64 t.op, .string t.name, .int .i64 t.n, .int .i64 t.ty.kind, .string t.ty.name, .slice a n c, .slice ma mn mc] 28)) w.heap.size 28 [.int .i64 t.op, .string t.name, .int .i64 t.n, .int .i64 t.ty.kind, .string t.ty.name, .slice a n c, .slice ma mn mc] := Blk.new w 28 _
  have K0 : Kept (fun _ => False) w (w.alloc (.cells #[.int .i64 t.op, .string t.name, .int .i64 t.n, .int .i64 t.ty.kind, .string t.ty.name, .slice a n c, .slice ma mn mc] 28)) := (Kept.refl _ _).alloc _
  have HV := Lib.hid (valid_any (hty.frame (Same.of_kept K0 (fun _ _ e => e))) (htm.frame (Same.of_kept K0 (fun _ _ e => e))) hs)
  have HC := Lib.hid (fun (hv : validB t = true) W (k : Kept (fun _ => False) w W) => conj_main (valid_parts hv).1 (valid_parts hv).2.1 (valid_parts hv).2.2 W ok _ _ (hty.frame (Same.of_kept k (fun _ _ e => e))) (htm.frame (Same.of_kept k (fun _ _ e => e))))
  have HL : Hid (validB t = true → (conjT t).length ≤ 1000000) := Lib.hid (fun hv => by have := conj_len t; have := (valid_parts hv).2.2; omega)
  unfold tmVal at HC ⊢
  clear hty htm hs
  cases hv : validB t
  · have HE : Hid (cjT t = []) := Lib.hid (by unfold cjT; rw [hv]; rfl)
    go_enter Tryz.func21, Tryz.ntmps21
    go_wp2_with fail
    refine HV.out.mono ?_
    rintro e w2 ⟨rfl, k2⟩
    go_wp2_with fail
    go_ret
    exact ⟨_, rfl, by rw [HE.out]; exact .nil (Or.inl rfl), K0.trans k2⟩
  · have HE : Hid (cjT t = conjT t) := Lib.hid (by unfold cjT; rw [hv]; rfl)
    go_enter Tryz.func21, Tryz.ntmps21
    go_wp2_with fail
    refine HV.out.mono ?_
    rintro e w2 ⟨rfl, k2⟩
    have gA2 : ∀ i, w2.cell? ⟨w.heap.size, i, none⟩ = [Value.int .i64 t.op, .string t.name, .int .i64 t.n, .int .i64 t.ty.kind, .string t.ty.name, .slice a n c, .slice ma mn mc][i]? := (bA.kept k2 (fun h => h)).cell
    have HC2 := Lib.hid (HC.out hv w2 (K0.trans k2))
    clear HC
    go_wp2_with fail
    refine HC2.out.mono ?_
    rintro e w3 ⟨E, v, rfl, R3, hm3⟩
    have HM := Lib.hid hm3
    have hl : E.length ≤ 1000000 := by have := HL.out hv; rw [← HM.out, List.length_map] at this; exact this
    have HCL := Lib.hid (clipTm_any R3 hl)
    have K3 := Lib.hid ((K0.trans k2).trans R3.kp)
    have Z2 := Lib.hid (K0.trans k2).size
    clear R3 hm3 hl gA2 k2
    go_wp2_with fail
    refine HCL.out.mono ?_
    rintro e w4 ⟨v', rfl, h4, rfl⟩
    have H4 := Lib.hid h4
    clear h4
    go_wp2_with fail
    go_ret
    refine ⟨_, rfl, ?_, K3.out⟩
    rw [HE.out, ← HM.out]
    exact H4.out.mono (fun q _ h => by have := Z2.out; omega)
set_option maxRecDepth 100000 in
set_option maxHeartbeats 8000000 in
theorem rconjuncts_any {ok : Nat → Prop} {t : Tm} {w : World} {tk kk : Value} (hty : TyL ok w t.ty.kids tk) (htm : TmL ok w t.kids kk) (hs : SmTm big t) :
    Calls Tryz.prog 23 #[tmVal t tk kk] w (TmsP (cjT t) w) := by
  obtain ⟨a, n, c, rfl⟩ := hty.slice
  obtain ⟨ma, mn, mc, rfl⟩ := htm.slice
  have bA : Blk (w.alloc (.cells #[.int .i64 t.op, .string t.name, .int .i64 t.n, .int .i64 t.ty.kind, .string t.ty.name, .slice a n c, .slice ma mn mc] 28)) w.heap.size 28 [.int .i64 t.op, .string t.name, .int .i64 t.n, .int .i64 t.ty.kind, .string t.ty.name, .slice a n c, .slice ma mn mc] := Blk.new w 28 _
  have K0 : Kept (fun _ => False) w (w.alloc (.cells #[.int .i64 t.op, .string t.name, .int .i64 t.n, .int .i64 t.ty.kind, .string t.ty.name, .slice a n c, .slice ma mn mc] 28)) := (Kept.refl _ _).alloc _
  have HV := Lib.hid (rvalid_any (hty.frame (Same.of_kept K0 (fun _ _ e => e))) (htm.frame (Same.of_kept K0 (fun _ _ e => e))) hs)
  have HC := Lib.hid (fun (hv : validB t = true) W (k : Kept (fun _ => False) w W) => rconj_main (valid_parts hv).1 (valid_parts hv).2.1 (valid_parts hv).2.2 W ok _ _ (hty.frame (Same.of_kept k (fun _ _ e => e))) (htm.frame (Same.of_kept k (fun _ _ e => e))))
  unfold tmVal at HC ⊢
  clear hty htm hs
  cases hv : validB t
  · have HE : Hid (cjT t = []) := Lib.hid (by unfold cjT; rw [hv]; rfl)
    go_enter Tryz.func23, Tryz.ntmps23
    go_wp2_with fail
    refine HV.out.mono ?_
    rintro e w2 ⟨rfl, k2⟩
    go_wp2_with fail
    go_ret
    exact ⟨_, rfl, by rw [HE.out]; exact .nil (Or.inl rfl), K0.trans k2⟩
  · have HE : Hid (cjT t = conjT t) := Lib.hid (by unfold cjT; rw [hv]; rfl)
    go_enter Tryz.func23, Tryz.ntmps23
    go_wp2_with fail
    refine HV.out.mono ?_
    rintro e w2 ⟨rfl, k2⟩
    have gA2 : ∀ i, w2.cell? ⟨w.heap.size, i, none⟩ = [Value.int .i64 t.op, .string t.name, .int .i64 t.n, .int .i64 t.ty.kind, .string t.ty.name, .slice a n c, .slice ma mn mc][i]? := (bA.kept k2 (fun h => h)).cell
    have HC2 := Lib.hid (HC.out hv w2 (K0.trans k2))
    clear HC
    go_wp2_with fail
    refine HC2.out.mono ?_
    rintro e w3 ⟨E, v, rfl, R3, hm3⟩
    have HM := Lib.hid hm3
    have HR3 := Lib.hid R3
    have K3 := Lib.hid ((K0.trans k2).trans R3.kp)
    have Z2 := Lib.hid (K0.trans k2).size
    clear R3 hm3 gA2 k2
    go_wp2_with fail
    go_ret
    refine ⟨_, rfl, ?_, K3.out⟩
    rw [HE.out, ← HM.out]
    exact HR3.out.tml.mono (fun q _ h => by have := Z2.out; omega)
end Go.Proofs.YtfhedienjnfdcaaGreatDoor
