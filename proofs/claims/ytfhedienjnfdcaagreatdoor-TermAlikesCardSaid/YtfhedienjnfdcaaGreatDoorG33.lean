/- Texts Qkt Cpr AlP of this proof, in one. -/
import Derived.Test.YtfhedienjnfdcaaGreatDoorG19
import Derived.Test.YtfhedienjnfdcaaGreatDoorG26
import Derived.Test.YtfhedienjnfdcaaGreatDoorG32
import Derived.StillTail
import Derived.BigQuiet
set_option linter.unusedVariables false
set_option linter.unusedSimpArgs false
set_option maxRecDepth 100000
set_option maxHeartbeats 32000000
namespace Go.Proofs.YtfhedienjnfdcaaGreatDoor
open Go
section
variable {P : Program} {ops : Array Oper} {C : World → Prop}
def headQ (P : Program) (ops : Array Oper) (C : World → Prop) (n : Nat) (L : Array Bool → Act → Prop) : Nat → Array Bool → Act → Prop
 | 0, s, a => L s a
 | f + 1, s, a => Region.ready .any ops s ≠ [] ∧ ∀ i, i ∈ Region.ready .any ops s → i < n ∧ qOp P ops C i (headQ P ops C n L f (s.setIfInBounds i true)) a
theorem headQ_run {n g : Nat} {L : Array Bool → Act → Prop} {Q : Exit → Act → World → Prop} (hL : ∀ s a w, C w → L s a → wpAny P .any ops Q g s a w) :
  ∀ (f : Nat) (s : Array Bool) (a : Act) (w : World), C w → headQ P ops C n L f s a → wpAny P .any ops Q (f + g) s a w := by
 intro f
 induction f with
 | zero => intro s a w hw h; rw [Nat.zero_add]; exact hL s a w hw h
 | succ f ih =>
  intro s a w hw h
  rw [Nat.add_right_comm]
  refine ⟨fun e => absurd e h.1, fun i hi => ?_⟩
  exact wpOp_of_qOp hw (fun a' w' hw' h' => ih _ a' w' hw' h') (h.2 i hi).2
theorem headQ_swap {n i : Nat} {oi : Oper} {v : Value} {L : Array Bool → Act → Prop} (hi : ops[i]? = some oi) (hsel : ∀ (j : Nat) (o : Oper) cs b, ops[j]? = some o → o.op ≠ .select cs b)
  (hs : Region.sinkB .any ops n = true) (hc : Region.chainB .any ops n = true) (hn : n < ops.size) (hin : i < n) (hdone : ∀ s a, L s a → ∀ j, j ∈ Region.ready .any ops s → n ≤ j) :
  ∀ (f : Nat) (s : Array Bool) (a : Act), HeadInv .any ops n s →
   (∀ j oj, ops[j]? = some oj → j ≠ i → s.getD j true = false → (∀ e ∈ oj.after, Region.binds .any e = true → e.on ≠ i) → oi.apart ops oj = true) →
   i ∈ Region.ready .any ops s → YieldsIn P ops C oi v a → headQ P ops C n L f (s.setIfInBounds i true) (a.put oi.dst v) → headQ P ops C n L (f + 1) s a := by
 intro f
 induction f with
 | zero =>
  intro s a inv _ hr hy H
  have hun := (mem_ready.1 hr).1
  refine ⟨fun e => (by rw [e] at hr; cases hr), fun j hj => ?_⟩
  have hjn : j < n := Nat.lt_of_not_le fun h => tail_waits hs hc hn inv _ i rfl hin hun j h hj
  by_cases hji : j = i
  ·subst hji; exact ⟨hjn, hy.qOp hi H⟩
  ·exact absurd (hdone _ _ H j (ready_mono hj hji)) (by omega)
 | succ f ih =>
  intro s a inv hfree hr hy H
  have hun := (mem_ready.1 hr).1
  refine ⟨fun e => (by rw [e] at hr; cases hr), fun j hj => ?_⟩
  have hjn : j < n := Nat.lt_of_not_le fun h => tail_waits hs hc hn inv _ i rfl hin hun j h hj
  by_cases hji : j = i
  ·subst hji; exact ⟨hjn, hy.qOp hi H⟩
  ·have h1 := (H.2 j (ready_mono hj hji)).2
   obtain ⟨hjun, oj, hoj, hall⟩ := mem_ready.1 hj
   have hnot : ∀ e ∈ oj.after, Region.binds .any e = true → e.on ≠ i := fun e he hb q => by
    have h3 := hall e he hb
    rw [q, getD_both hun] at h3; cases h3
   have h2 := qOp_put hoj (hfree j oj hoj hji hjun hnot) (fun cs b => hsel i oi cs b hi) (fun cs b => hsel j oj cs b hoj) hy h1
   refine ⟨hjn, qOp_mono (fun a' h3 => ih _ a' (inv.set hj hjn) ?_ (ready_mono hr (Ne.symm hji)) h3.1 ?_) h2⟩
   ·intro k ok hk hki hkun hno
    refine hfree k ok hk hki ?_ hno
    by_cases hjk : j = k
    ·subst hjk; exact hjun
    ·rw [getD_set_ne true hjk] at hkun; exact hkun
   ·rw [Array.setIfInBounds_comm _ _ hji]; exact h3.2
theorem headQ_lex {n g : Nat} {T : Act → Prop} (hsel : Region.noSelect ops = true) (hs : Region.sinkB .any ops n = true) (hc : Region.chainB .any ops n = true) (hn : n < ops.size) :
  ∀ (l : List Oper) (k : Nat) (s : Array Bool) (a : Act), (∀ j, j < l.length → l[j]? = ops[k + j]?) → k + l.length = n → HeadInv .any ops n s →
  Region.lexHead .any ops g l.length k s = true → wpQuiet P ops C T l a → headQ P ops C n (fun s' a' => Region.seqB .any ops g n s' = true ∧ T a') l.length s a := by
 intro l
 induction l with
 | nil =>
  intro k s a _ hk _ hB h
  obtain rfl : k = n := by simpa using hk
  exact ⟨hB, h⟩
 | cons o l ih =>
  intro k s a hl hk inv hB h
  have h0 : ops[k]? = some o := by have := hl 0 (by simp); simpa using this.symm
  simp only [List.length_cons, Region.lexHead, Bool.and_eq_true] at hB
  obtain ⟨⟨hr, hf⟩, hB⟩ := hB
  have hkn : k < n := by simp only [List.length_cons] at hk; omega
  have hr' : k ∈ Region.ready .any ops s := by simpa using hr
  obtain ⟨v, hy, hK⟩ := yieldsIn_of_qOp h0 (show qOp P ops C k (wpQuiet P ops C T l) a by unfold qOp; simp only [h0]; exact h)
  refine headQ_swap h0 (Region.noSelect_spec hsel) hs hc hn hkn (fun s' a' q => seqB_ready q.1) l.length s a inv (Region.free_spec h0 hf) hr' hy (ih (k + 1) _ _ (fun j hj => ?_) ?_ (inv.set hr' hkn) hB hK)
  ·have := hl (j + 1) (by simp; omega)
   rw [List.getElem?_cons_succ] at this
   rw [this]; congr 1; omega
  ·simp only [List.length_cons] at hk; omega
theorem wp_quiet_tail {ι : Type} {W : ι → World} {id : Nat} {Q : Exit → Act → World → Prop} {a : Act} {w : World} {l : List Oper} (n : Nat) (hm : P.follows .mixedOrders = true) (hB : Region.lexTailB .any l.toArray n = true) (h0 : ∃ i, w.drew = W i)
  (h : wpQuiet P l.toArray (fun w' => ∃ i, w' = W i) (fun a' => ∀ w', (∃ i, w' = W i) → wpList P l.toArray Q (l.drop n) a' w') (l.take n) a) : (Code.region id l.toArray true).wp P Q a w := by
 simp only [Region.lexTailB, Bool.and_eq_true, decide_eq_true_eq] at hB
 obtain ⟨⟨⟨⟨hsel, hn⟩, hs⟩, hc⟩, hlex⟩ := hB
 have hn' : n < l.length := by simpa using hn
 have e1 : (l.take n).length = n := by simp; omega
 have e2 : (l.drop n).length = l.toArray.size - n := by simp
 have inv : HeadInv .any l.toArray n (Array.replicate l.toArray.size false) :=
  ⟨by simp, fun j oj _ hl => (by rw [getD_replicate_false] at hl; cases hl), fun t _ ht => getD_in (by simpa using ht) (getD_replicate_false _ _)⟩
 have H := headQ_lex (g := l.toArray.size - n) hsel hs hc hn (l.take n) 0 _ a (fun j hj => by rw [e1] at hj; simp [hj]) (by simpa using e1) inv (by rw [e1]; exact hlex) h
 refine wp_region_any hm ?_
 have R := headQ_run (Q := Q) (g := l.toArray.size - n) (fun s a' w' hw' hL => by
  have := wpAny_of_seq (md := .any) (Q' := Q) (l.drop n) n s a' w' (fun j => by simp [List.getElem?_drop]) (by rw [e2]; exact hL.1) (hL.2 w' hw')
  rwa [e2] at this) _ _ _ w.drew h0 H
 rw [e1, show n + (l.toArray.size - n) = l.toArray.size by omega] at R
 exact R
theorem wp_quiet_all {ι : Type} {W : ι → World} {id : Nat} {Q : Exit → Act → World → Prop} {a : Act} {w : World} {l : List Oper} (hm : P.follows .mixedOrders = true) (hB : Region.lexB .any l.toArray = true) (h0 : ∃ i, w.drew = W i)
  (h : wpQuiet P l.toArray (fun w' => ∃ i, w' = W i) (fun a' => ∀ w', (∃ i, w' = W i) → Q .normal a' w') l a) : (Code.region id l.toArray true).wp P Q a w :=
 wp_region_quiet (C := fun w' => ∃ i, w' = W i) hm hB h0 (by simpa using h)
end
end Go.Proofs.YtfhedienjnfdcaaGreatDoor
namespace Go.Proofs.YtfhedienjnfdcaaGreatDoor
open Go.RowKit
theorem ts_zero {a : Option Addr} {n c : Nat} {nm : ByteArray} {w : World} : Calls Tryz.prog 118 #[.agg #[.int .i64 0, .string nm, .slice a n c]] w fun e w' => e = .returned (.string (str [])) ∧ Kept (fun _ => False) w w' := by
 have K0 : Kept (fun _ => False) w (w.alloc (.cells #[.int .i64 0, .string nm, .slice a n c] 26)) := (Kept.refl _ _).alloc _
 go_enter Tryz.func118, Tryz.ntmps118
 go_wp2_with fail
 go_ret
 exact ⟨rfl, K0⟩
theorem tsh_any {t : Ty} (h : ShOk t) {w : World} {ok : Nat → Prop} {tk : Value} (hk : TyL ok w t.kids tk) : Calls Tryz.prog 118 #[tyVal t tk] w fun e w' => e = .returned (.string (str (tyShow t))) ∧ Kept (fun _ => False) w w' := by
 rcases h with ⟨h1, h2⟩ | rfl
 ·exact ts_any h1 h2 w ok tk hk h2
 ·obtain ⟨a, n, c, rfl⟩ := hk.slice
  exact ts_zero
theorem strl_list (l : List UInt8) : (str l).data.toList = l := by
 unfold str; simp
theorem kept_fam (w : World) : ∃ (ι : Type) (W : ι → World), Nonempty ι ∧ (∀ i, Kept (fun _ => False) w (W i)) ∧ ∀ w', Kept (fun _ => False) w w' → ∃ i, w' = W i :=
 ⟨{w' : World // Kept (fun _ => False) w w'}, Subtype.val, ⟨⟨w, Kept.refl _ _⟩⟩, fun i => i.2, fun w' h => ⟨⟨w', h⟩, rfl⟩⟩
theorem cmpT_or {op op' : Int} {nm nm' : ByteArray} {N N' : Int} {ty ty' : Ty} {l l' : List Tm} : toI (cmpT tyShow (.mk op nm N ty l) (.mk op' nm' N' ty' l')) = if orL [toI (cmpI ((tmN (.mk op nm N ty l) : Nat) : Int) ((tmN (.mk op' nm' N' ty' l') : Nat) : Int)), toI (cmpI op op'), toI (cmpB nm.data.toList nm'.data.toList), toI (cmpI N N'), toI (cmpB (tyShow ty) (tyShow ty'))] = 0 then toI (cmpK tyShow l l') else orL [toI (cmpI ((tmN (.mk op nm N ty l) : Nat) : Int) ((tmN (.mk op' nm' N' ty' l') : Nat) : Int)), toI (cmpI op op'), toI (cmpB nm.data.toList nm'.data.toList), toI (cmpI N N'), toI (cmpB (tyShow ty) (tyShow ty'))] := by
 rw [cmpT, tmN, tmN]
 generalize cmpI ((tmNs l + 1 : Nat) : Int) ((tmNs l' + 1 : Nat) : Int) = o1
 generalize cmpI op op' = o2
 generalize cmpB nm.data.toList nm'.data.toList = o3
 generalize cmpI N N' = o4
 generalize cmpB (tyShow ty) (tyShow ty') = o5
 generalize cmpK tyShow l l' = o6
 cases o1 <;> cases o2 <;> cases o3 <;> cases o4 <;> cases o5 <;> rfl
theorem cmp_one {op : Int} {nm : ByteArray} {N : Int} {ty : Ty} {l : List Tm} (hty : ShOk ty) (IH : ∀ u, u ∈ l → OdC u) (hn : l.length ≤ 1000000) (hz : tmNs l + 1 ≤ 100000) : OdC (.mk op nm N ty l) := by
 rintro ⟨op', nm', N', ty', l'⟩ w ok ok' tk kk tk' kk' ho h1 h2 h3 h4
 cases ho with | mk hn' hty' hz' hl' => ?_
 have h1 : TyL ok w ty.kids tk := h1
 have h2 : TmL ok w l kk := h2
 have h3 : TyL ok' w ty'.kids tk' := h3
 have h4 : TmL ok' w l' kk' := h4
 obtain ⟨a, n, c, rfl⟩ := h1.slice
 obtain ⟨ma, mn, mc, rfl⟩ := h2.slice
 obtain ⟨a', n', c', rfl⟩ := h3.slice
 obtain ⟨ma', mn', mc', rfl⟩ := h4.slice
 obtain rfl : mn = l.length := h2.len
 obtain rfl : mn' = l'.length := h4.len
 change Calls Tryz.prog 71 #[.agg #[.int .i64 op, .string nm, .int .i64 N, .int .i64 ty.kind, .string ty.name, .slice a n c, .slice ma l.length mc], .agg #[.int .i64 op', .string nm', .int .i64 N', .int .i64 ty'.kind, .string ty'.name, .slice a' n' c', .slice ma' l'.length mc']] w _
 have bA : Blk ((w.alloc (.cells #[.int .i64 op, .string nm, .int .i64 N, .int .i64 ty.kind, .string ty.name, .slice a n c, .slice ma l.length mc] 28)).alloc (.cells #[.int .i64 op', .string nm', .int .i64 N', .int .i64 ty'.kind, .string ty'.name, .slice a' n' c', .slice ma' l'.length mc'] 28)) w.heap.size 28 [.int .i64 op, .string nm, .int .i64 N, .int .i64 ty.kind, .string ty.name, .slice a n c, .slice ma l.length mc] := (Blk.new w 28 _).alloc _
 have bB : Blk ((w.alloc (.cells #[.int .i64 op, .string nm, .int .i64 N, .int .i64 ty.kind, .string ty.name, .slice a n c, .slice ma l.length mc] 28)).alloc (.cells #[.int .i64 op', .string nm', .int .i64 N', .int .i64 ty'.kind, .string ty'.name, .slice a' n' c', .slice ma' l'.length mc'] 28)) (w.heap.size + 1) 28 [.int .i64 op', .string nm', .int .i64 N', .int .i64 ty'.kind, .string ty'.name, .slice a' n' c', .slice ma' l'.length mc'] := Blk.new' 28 _ (by simp)
 have K1 : Kept (fun _ => False) w ((w.alloc (.cells #[.int .i64 op, .string nm, .int .i64 N, .int .i64 ty.kind, .string ty.name, .slice a n c, .slice ma l.length mc] 28)).alloc (.cells #[.int .i64 op', .string nm', .int .i64 N', .int .i64 ty'.kind, .string ty'.name, .slice a' n' c', .slice ma' l'.length mc'] 28)) := ((Kept.refl _ _).alloc _).alloc _
 have HT := Ld (fun W (kW : Kept (fun _ => False) w W) => tsh_any hty (h1.frame (Same.of_kept kW (fun k h e => e))))
 have HT' := Ld (fun W (kW : Kept (fun _ => False) w W) => tsh_any hty' (h3.frame (Same.of_kept kW (fun k h e => e))))
 have HF := Ld (fun W (kW : Kept (fun _ => False) w W) => cmpF_any IH hl' hn hn' (h2.frame (Same.of_kept kW (fun k h e => e))) (h4.frame (Same.of_kept kW (fun k h e => e))))
 have HZ := Ld (fun W (kW : Kept (fun _ => False) w W) => size_any (.mk op nm N ty l) W ok _ _ (by rw [tmN]; exact hz) (show TyL ok W ty.kids _ from h1.frame (Same.of_kept kW (fun k h e => e))) (show TmL ok W l _ from h2.frame (Same.of_kept kW (fun k h e => e))))
 have HZ' := Ld (fun W (kW : Kept (fun _ => False) w W) => size_any (.mk op' nm' N' ty' l') W ok' _ _ (by rw [tmN]; exact hz') (show TyL ok' W ty'.kids _ from h3.frame (Same.of_kept kW (fun k h e => e))) (show TmL ok' W l' _ from h4.frame (Same.of_kept kW (fun k h e => e))))
 have HOR := Ld (cmpT_or (op := op) (op' := op') (nm := nm) (nm' := nm') (N := N) (N' := N') (ty := ty) (ty' := ty') (l := l) (l' := l'))
 change Hid (∀ W, Kept (fun _ => False) w W → Calls Tryz.prog 102 #[.agg #[.int .i64 op, .string nm, .int .i64 N, .int .i64 ty.kind, .string ty.name, .slice a n c, .slice ma l.length mc]] W _) at HZ
 change Hid (∀ W, Kept (fun _ => False) w W → Calls Tryz.prog 102 #[.agg #[.int .i64 op', .string nm', .int .i64 N', .int .i64 ty'.kind, .string ty'.name, .slice a' n' c', .slice ma' l'.length mc']] W _) at HZ'
 unfold tyVal at HT HT'
 have BZ := Ld (show tmN (.mk op nm N ty l) ≤ 100000 by rw [tmN]; exact hz)
 have BZ' := Ld (show tmN (.mk op' nm' N' ty' l') ≤ 100000 by rw [tmN]; exact hz')
 clear h1 h2 h3 h4 IH hl' hz hz' hty hty'
 generalize tmN (.mk op nm N ty l) = s1 at *
 generalize tmN (.mk op' nm' N' ty' l') = s2 at *
 generalize toI (cmpT tyShow (.mk op nm N ty l) (.mk op' nm' N' ty' l')) = rr at *
 go_enter Tryz.func71, Tryz.ntmps71
 go_wp2_with fail
 generalize ((w.alloc (.cells #[.int .i64 op, .string nm, .int .i64 N, .int .i64 ty.kind, .string ty.name, .slice a n c, .slice ma l.length mc] 28)).alloc (.cells #[.int .i64 op', .string nm', .int .i64 N', .int .i64 ty'.kind, .string ty'.name, .slice a' n' c', .slice ma' l'.length mc'] 28)) = w1 at *
 refine (HZ.out _ K1).mono ?_
 rintro e w2 ⟨rfl, k2⟩
 have gB2 : ∀ i, w2.cell? ⟨w.heap.size + 1, i, none⟩ = [Value.int .i64 op', .string nm', .int .i64 N', .int .i64 ty'.kind, .string ty'.name, .slice a' n' c', .slice ma' l'.length mc'][i]? := (bB.kept k2 (fun h => h)).cell
 go_wp2_with fail
 clear gB2
 refine (HZ'.out _ (K1.trans k2)).mono ?_
 rintro e w3 ⟨rfl, k3⟩
 have bA3 := bA.kept (k2.trans k3) (fun h => h)
 have bB3 := bB.kept (k2.trans k3) (fun h => h)
 have K3 := K1.trans (k2.trans k3)
 clear bA bB K1 k2 k3 HZ HZ'
 have BA := Ld bA3
 have BB := Ld bB3
 have KK := Ld K3
 clear bA3 bB3 K3
 go_wp2_with fail
 obtain ⟨ι, W, hne, hW1, hW2⟩ := kept_fam w3
 have x0 : ∀ i, (W i).cell? ⟨w.heap.size, 0, none⟩ = some (.int .i64 op) := fun i => (BA.out.kept (hW1 i) (fun h => h)).cell 0
 have x1 : ∀ i, (W i).cell? ⟨w.heap.size, 1, none⟩ = some (.string nm) := fun i => (BA.out.kept (hW1 i) (fun h => h)).cell 1
 have x2 : ∀ i, (W i).cell? ⟨w.heap.size, 2, none⟩ = some (.int .i64 N) := fun i => (BA.out.kept (hW1 i) (fun h => h)).cell 2
 have x3 : ∀ i, (W i).cell? ⟨w.heap.size, 3, none⟩ = some (.int .i64 ty.kind) := fun i => (BA.out.kept (hW1 i) (fun h => h)).cell 3
 have x4 : ∀ i, (W i).cell? ⟨w.heap.size, 4, none⟩ = some (.string ty.name) := fun i => (BA.out.kept (hW1 i) (fun h => h)).cell 4
 have x5 : ∀ i, (W i).cell? ⟨w.heap.size, 5, none⟩ = some (.slice a n c) := fun i => (BA.out.kept (hW1 i) (fun h => h)).cell 5
 have y0 : ∀ i, (W i).cell? ⟨w.heap.size + 1, 0, none⟩ = some (.int .i64 op') := fun i => (BB.out.kept (hW1 i) (fun h => h)).cell 0
 have y1 : ∀ i, (W i).cell? ⟨w.heap.size + 1, 1, none⟩ = some (.string nm') := fun i => (BB.out.kept (hW1 i) (fun h => h)).cell 1
 have y2 : ∀ i, (W i).cell? ⟨w.heap.size + 1, 2, none⟩ = some (.int .i64 N') := fun i => (BB.out.kept (hW1 i) (fun h => h)).cell 2
 have y3 : ∀ i, (W i).cell? ⟨w.heap.size + 1, 3, none⟩ = some (.int .i64 ty'.kind) := fun i => (BB.out.kept (hW1 i) (fun h => h)).cell 3
 have y4 : ∀ i, (W i).cell? ⟨w.heap.size + 1, 4, none⟩ = some (.string ty'.name) := fun i => (BB.out.kept (hW1 i) (fun h => h)).cell 4
 have y5 : ∀ i, (W i).cell? ⟨w.heap.size + 1, 5, none⟩ = some (.slice a' n' c') := fun i => (BB.out.kept (hW1 i) (fun h => h)).cell 5
 have HN := Ld (fun (i : ι) (x y : Int) => (cmpInt_any x y (W i)).mono fun e w' (h : e = .returned (.int .i64 (toI (cmpI x y))) ∧ W i = w') => (⟨h.1, i, h.2.symm⟩ : e = .returned (.int .i64 (toI (cmpI x y))) ∧ ∃ m, w' = W m))
 have HS := Ld (fun (i : ι) (x y : ByteArray) => (cmpStr_any x y (W i)).mono fun e w' (h : e = .returned (.int .i64 (toI (cmpB x.data.toList y.data.toList))) ∧ W i = w') => (⟨h.1, i, h.2.symm⟩ : e = .returned (.int .i64 (toI (cmpB x.data.toList y.data.toList))) ∧ ∃ m, w' = W m))
 have HX := Ld (fun (i : ι) => (HT.out (W i) (KK.out.trans (hW1 i))).mono fun e w' h => (⟨h.1, hW2 _ ((hW1 i).trans h.2)⟩ : e = .returned (.string (str (tyShow ty))) ∧ ∃ m, w' = W m))
 have HX' := Ld (fun (i : ι) => (HT'.out (W i) (KK.out.trans (hW1 i))).mono fun e w' h => (⟨h.1, hW2 _ ((hW1 i).trans h.2)⟩ : e = .returned (.string (str (tyShow ty'))) ∧ ∃ m, w' = W m))
 have HXY : Hid (∀ (i : ι) (v : Value) (s : ByteArray), ((v = .agg #[.int .i64 ty.kind, .string ty.name, .slice a n c] ∧ s = str (tyShow ty)) ∨ (v = .agg #[.int .i64 ty'.kind, .string ty'.name, .slice a' n' c'] ∧ s = str (tyShow ty'))) → Calls Tryz.prog 118 #[v] (W i) fun e w' => e = .returned (.string s) ∧ ∃ m, w' = W m) := Ld (by
  rintro i v s (⟨rfl, rfl⟩ | ⟨rfl, rfl⟩)
  ·exact HX.out i
  ·exact HX'.out i)
 clear HX HX'
 have HW := Ld hW1
 have h0 := hW2 _ ((Kept.refl (fun _ => False) w3).drew)
 clear hW1 hW2 HT HT'
 generalize hsx : str (tyShow ty) = sx at *
 generalize hsy : str (tyShow ty') = sy at *
 have HSX := Ld hsx
 have HSY := Ld hsy
 clear hsx hsy
 generalize ty.kind = k1 at *
 generalize ty.name = q1 at *
 generalize ty'.kind = k2 at *
 generalize ty'.name = q2 at *
 refine wp_quiet_tail (W := W) 25 (by kernel_rfl) (by kernel_rfl) h0 ?_
 simp only [List.take_succ_cons, List.take_zero, List.drop_succ_cons, List.drop_zero]
 clear h0
 repeat (go_big_quiet_step ((first | (go_at_call 116; exact HN.out _ _ _) | (go_at_call 117; exact HS.out _ _ _) | (go_at_call 118; exact HXY.out _ _ sx (Or.inl ⟨rfl, rfl⟩)) | (go_at_call 118; exact HXY.out _ _ sy (Or.inr ⟨rfl, rfl⟩)))))
 refine wpQuiet_nil ?_
 intro _ hw'
 obtain ⟨nq, hw''⟩ := hw'
 subst hw''
 clear x0 x1 x2 x3 x4 x5 y0 y1 y2 y3 y4 y5 HN HS HXY
 have KW := HW.out nq
 generalize W nq = w4 at *
 have HOR2 : Hid (rr = if orL [toI (cmpI (s1 : Int) (s2 : Int)), toI (cmpI op op'), toI (cmpB nm.data.toList nm'.data.toList), toI (cmpI N N'), toI (cmpB sx.data.toList sy.data.toList)] = 0 then toI (cmpK tyShow l l') else orL [toI (cmpI (s1 : Int) (s2 : Int)), toI (cmpI op op'), toI (cmpB nm.data.toList nm'.data.toList), toI (cmpI N N'), toI (cmpB sx.data.toList sy.data.toList)]) := Ld (by
  rw [← HSX.out, ← HSY.out, strl_list, strl_list]; exact HOR.out)
 clear HOR HSX HSY HW
 generalize toI (cmpI (s1 : Int) (s2 : Int)) = p1 at *
 generalize toI (cmpI op op') = p2 at *
 generalize toI (cmpB nm.data.toList nm'.data.toList) = p3 at *
 generalize toI (cmpI N N') = p4 at *
 generalize toI (cmpB sx.data.toList sy.data.toList) = p5 at *
 have h5 : Hid (∀ (W9 : World) (g9 : Nat), W9 = w4.alloc (.cells #[.int .i64 p1, .int .i64 p2, .int .i64 p3, .int .i64 p4, .int .i64 p5] 3) → g9 = w4.heap.size → Calls Tryz.prog 115 #[.slice (some ⟨g9, 0, none⟩) 5 5] W9 fun e w' => e = .returned (.int .i64 (orL [p1, p2, p3, p4, p5])) ∧ W9 = w') := Ld (by
  rintro W9 g9 rfl rfl
  refine or_any [p1, p2, p3, p4, p5] (by simp) (fun i h => ?_)
  have hb := (Blk.new w4 3 [Value.int .i64 p1, Value.int .i64 p2, Value.int .i64 p3, Value.int .i64 p4, Value.int .i64 p5]).cell i
  have h : i < 5 := h
  rcases (by omega : i = 0 ∨ i = 1 ∨ i = 2 ∨ i = 3 ∨ i = 4) with rfl | rfl | rfl | rfl | rfl <;> exact hb)
 go_wp2_with fail
 have KA : Kept (fun _ => False) w4 (w4.alloc (.cells #[.int .i64 p1, .int .i64 p2, .int .i64 p3, .int .i64 p4, .int .i64 p5] 3)) := (Kept.refl _ _).alloc _
 refine (h5.out _ _ rfl rfl).mono ?_
 rintro e w5 ⟨rfl, rfl⟩
 have K5 := KW.trans KA
 generalize w4.alloc (.cells #[.int .i64 p1, .int .i64 p2, .int .i64 p3, .int .i64 p4, .int .i64 p5] 3) = w5 at *
 clear h5 KA
 by_cases hq : orL [p1, p2, p3, p4, p5] = 0
 ·have HR : Hid (rr = toI (cmpK tyShow l l')) := Ld (by rw [HOR2.out, if_pos hq])
  rw [hq]
  have gA : ∀ i, w5.cell? ⟨w.heap.size, i, none⟩ = [Value.int .i64 op, .string nm, .int .i64 N, .int .i64 k1, .string q1, .slice a n c, .slice ma l.length mc][i]? := (BA.out.kept K5 (fun h => h)).cell
  have gB : ∀ i, w5.cell? ⟨w.heap.size + 1, i, none⟩ = [Value.int .i64 op', .string nm', .int .i64 N', .int .i64 k2, .string q2, .slice a' n' c', .slice ma' l'.length mc'][i]? := (BB.out.kept K5 (fun h => h)).cell
  have HF2 := Ld (HF.out w5 (KK.out.trans K5))
  clear HOR2 HF
  go_wp2_with fail
  refine HF2.out.mono ?_
  rintro e w6 ⟨rfl, k6⟩
  go_wp2_with fail
  go_ret
  exact ⟨by rw [HR.out]; rfl, (KK.out.trans K5).trans k6⟩
 ·have HR : Hid (rr = orL [p1, p2, p3, p4, p5]) := Ld (by rw [HOR2.out, if_neg hq])
  clear HOR2 HF
  generalize orL [p1, p2, p3, p4, p5] = z at *
  have hq2 : (z == 0) = false := by simpa using hq
  have hq3 : (z != 0) = true := by simpa using hq
  go_wp2_with fail
  go_ret
  exact ⟨by rw [HR.out]; rfl, KK.out.trans K5⟩
theorem cmp_any {t : Tm} (h : OdTm t) : OdC t := by
 induction h with
 | mk hn ht hz hl ih => exact cmp_one ht ih hn hz
theorem pair_valid {a b : Tm} {ok ok' : Nat → Prop} {w : World} {tk kk tk' kk' : Value} (h1 : TyL ok w a.ty.kids tk) (h2 : TmL ok w a.kids kk) (h3 : TyL ok' w b.ty.kids tk') (h4 : TmL ok' w b.kids kk') (ha : SmTm big a) (hb : SmTm big b) :
  ∀ (W9 : World) (g9 : Nat), W9 = w.alloc (.cells (tmCells a tk kk ++ tmCells b tk' kk').toArray 28) → g9 = w.heap.size → Calls Tryz.prog 60 #[.slice (some ⟨g9, 0, none⟩) 2 2] W9 fun e w' => e = .returned (.bool (validB a && validB b)) ∧ Kept (fun _ => False) W9 w' := by
 rintro W9 g9 rfl rfl
 have hL : TmL (fun _ => True) (w.alloc (.cells (tmCells a tk kk ++ tmCells b tk' kk').toArray 28)) [a, b] (.slice (some ⟨w.heap.size, 0, none⟩) 2 2) :=
  TmL.two trivial (Nat.le_refl _) (Blk.new w 28 (tmCells a tk kk ++ tmCells b tk' kk')) ((h1.frame (Same.alloc _ _)).mono (fun _ _ _ => trivial)) ((h2.frame (Same.alloc _ _)).mono (fun _ _ _ => trivial)) ((h3.frame (Same.alloc _ _)).mono (fun _ _ _ => trivial)) ((h4.frame (Same.alloc _ _)).mono (fun _ _ _ => trivial))
 refine (valids_any (by simp) (fun t ht => ?_) hL).mono fun e w' ⟨h, k⟩ => ⟨?_, k⟩
 ·rcases List.mem_cons.1 ht with rfl | ht
  ·exact ha
  ·rw [List.mem_singleton.1 ht]; exact hb
 ·rw [h]; simp
def cmpA (a b : Tm) : Int := if validB a && validB b then cmpV a b else 0
theorem valid_od {a : Tm} (h : validB a = true) : OdTm a := odTm_of ((valid_iff a).1 h).1 (by have := ((valid_iff a).1 h).2.1; omega)
theorem alike_any {a b : Tm} {ok ok' : Nat → Prop} {w : World} {tk kk tk' kk' : Value} (h1 : TyL ok w a.ty.kids tk) (h2 : TmL ok w a.kids kk) (h3 : TyL ok' w b.ty.kids tk') (h4 : TmL ok' w b.kids kk') (ha : SmTm big a) (hb : SmTm big b) :
  Calls Tryz.prog 31 #[tmVal a tk kk, tmVal b tk' kk'] w fun e w' => e = .returned (.bool (alB a b)) ∧ Kept (fun _ => False) w w' := by
 obtain ⟨p, n, c, rfl⟩ := h1.slice
 obtain ⟨ma, mn, mc, rfl⟩ := h2.slice
 obtain ⟨p', n', c', rfl⟩ := h3.slice
 obtain ⟨ma', mn', mc', rfl⟩ := h4.slice
 have K1 : Kept (fun _ => False) w ((w.alloc (.cells #[.int .i64 a.op, .string a.name, .int .i64 a.n, .int .i64 a.ty.kind, .string a.ty.name, .slice p n c, .slice ma mn mc] 28)).alloc (.cells #[.int .i64 b.op, .string b.name, .int .i64 b.n, .int .i64 b.ty.kind, .string b.ty.name, .slice p' n' c', .slice ma' mn' mc'] 28)) := ((Kept.refl _ _).alloc _).alloc _
 have bA : Blk ((w.alloc (.cells #[.int .i64 a.op, .string a.name, .int .i64 a.n, .int .i64 a.ty.kind, .string a.ty.name, .slice p n c, .slice ma mn mc] 28)).alloc (.cells #[.int .i64 b.op, .string b.name, .int .i64 b.n, .int .i64 b.ty.kind, .string b.ty.name, .slice p' n' c', .slice ma' mn' mc'] 28)) w.heap.size 28 (tmCells a (.slice p n c) (.slice ma mn mc)) := (Blk.new w 28 _).alloc _
 have bB : Blk ((w.alloc (.cells #[.int .i64 a.op, .string a.name, .int .i64 a.n, .int .i64 a.ty.kind, .string a.ty.name, .slice p n c, .slice ma mn mc] 28)).alloc (.cells #[.int .i64 b.op, .string b.name, .int .i64 b.n, .int .i64 b.ty.kind, .string b.ty.name, .slice p' n' c', .slice ma' mn' mc'] 28)) (w.heap.size + 1) 28 (tmCells b (.slice p' n' c') (.slice ma' mn' mc')) := Blk.new' 28 _ (by simp)
 have HP := Ld (pair_valid (h1.frame (sK K1)) (h2.frame (sK K1)) (h3.frame (sK K1)) (h4.frame (sK K1)) ha hb)
 have HS := Ld (fun (hv : validB a = true) W (k : Kept (fun _ => False) w W) => salike_any (valid_bd hv) b [] [] W ok ok' (fun _ => True) (fun _ => True) _ _ _ _ _ _ (h1.frame (sK k)) (h2.frame (sK k)) (h3.frame (sK k)) (h4.frame (sK k)) .nil .nil (by have := ((valid_iff a).1 hv).2.2; simp only [List.length_nil]; omega) (by have := ((valid_iff a).1 hv).2.2; simp only [List.length_nil]; omega))
 clear h1 h2 h3 h4 ha hb
 unfold tmVal at HS ⊢
 have HR : Hid (alB a b = ((validB a && validB b) && alikeT a b [] [])) := Ld rfl
 generalize alikeT a b [] [] = z at *
 have HZ : Hid (((w.alloc (.cells #[.int .i64 a.op, .string a.name, .int .i64 a.n, .int .i64 a.ty.kind, .string a.ty.name, .slice p n c, .slice ma mn mc] 28)).alloc (.cells #[.int .i64 b.op, .string b.name, .int .i64 b.n, .int .i64 b.ty.kind, .string b.ty.name, .slice p' n' c', .slice ma' mn' mc'] 28)).heap.size = w.heap.size + 1 + 1) := Ld (by simp)
 go_enter Tryz.func31, Tryz.ntmps31
 go_wp2_with fail
 generalize ((w.alloc (.cells #[.int .i64 a.op, .string a.name, .int .i64 a.n, .int .i64 a.ty.kind, .string a.ty.name, .slice p n c, .slice ma mn mc] 28)).alloc (.cells #[.int .i64 b.op, .string b.name, .int .i64 b.n, .int .i64 b.ty.kind, .string b.ty.name, .slice p' n' c', .slice ma' mn' mc'] 28)) = w1 at *
 have K2 : Kept (fun _ => False) w (w1.alloc (.cells (tmCells a (.slice p n c) (.slice ma mn mc) ++ tmCells b (.slice p' n' c') (.slice ma' mn' mc')).toArray 28)) := K1.alloc _
 have bA2 := bA.alloc (.cells (tmCells a (.slice p n c) (.slice ma mn mc) ++ tmCells b (.slice p' n' c') (.slice ma' mn' mc')).toArray 28)
 have bB2 := bB.alloc (.cells (tmCells a (.slice p n c) (.slice ma mn mc) ++ tmCells b (.slice p' n' c') (.slice ma' mn' mc')).toArray 28)
 refine (HP.out _ _ rfl HZ.out.symm).mono ?_
 rintro e w2 ⟨rfl, k2⟩
 have gA : ∀ i, w2.cell? ⟨w.heap.size, i, none⟩ = [Value.int .i64 a.op, .string a.name, .int .i64 a.n, .int .i64 a.ty.kind, .string a.ty.name, .slice p n c, .slice ma mn mc][i]? := (bA2.kept k2 (fun h => h)).cell
 have gB : ∀ i, w2.cell? ⟨w.heap.size + 1, i, none⟩ = [Value.int .i64 b.op, .string b.name, .int .i64 b.n, .int .i64 b.ty.kind, .string b.ty.name, .slice p' n' c', .slice ma' mn' mc'][i]? := (bB2.kept k2 (fun h => h)).cell
 have KK := Ld (K2.trans k2)
 clear K1 K2 bA bB bA2 bB2 k2 HP
 cases hv : validB a && validB b
 ·have HR2 : Hid (alB a b = false) := Ld (by rw [HR.out, hv]; rfl)
  clear hv HS HR
  go_wp2_with fail
  go_ret
  exact ⟨by rw [HR2.out]; rfl, KK.out⟩
 ·have HR2 : Hid (alB a b = z) := Ld (by rw [HR.out, hv]; rfl)
  have HS2 := Ld (HS.out (by simp only [Bool.and_eq_true] at hv; exact hv.1) w2 KK.out)
  clear hv HS HR
  go_wp2_with fail
  refine HS2.out.mono ?_
  rintro e w3 ⟨rfl, k3⟩
  go_wp2_with fail
  go_ret
  exact ⟨by rw [HR2.out]; rfl, KK.out.trans k3⟩
theorem compare_any {a b : Tm} {ok ok' : Nat → Prop} {w : World} {tk kk tk' kk' : Value} (h1 : TyL ok w a.ty.kids tk) (h2 : TmL ok w a.kids kk) (h3 : TyL ok' w b.ty.kids tk') (h4 : TmL ok' w b.kids kk') (ha : SmTm big a) (hb : SmTm big b) :
  Calls Tryz.prog 33 #[tmVal a tk kk, tmVal b tk' kk'] w fun e w' => e = .returned (.int .i64 (cmpA a b)) ∧ Kept (fun _ => False) w w' := by
 obtain ⟨p, n, c, rfl⟩ := h1.slice
 obtain ⟨ma, mn, mc, rfl⟩ := h2.slice
 obtain ⟨p', n', c', rfl⟩ := h3.slice
 obtain ⟨ma', mn', mc', rfl⟩ := h4.slice
 have K1 : Kept (fun _ => False) w ((w.alloc (.cells #[.int .i64 a.op, .string a.name, .int .i64 a.n, .int .i64 a.ty.kind, .string a.ty.name, .slice p n c, .slice ma mn mc] 28)).alloc (.cells #[.int .i64 b.op, .string b.name, .int .i64 b.n, .int .i64 b.ty.kind, .string b.ty.name, .slice p' n' c', .slice ma' mn' mc'] 28)) := ((Kept.refl _ _).alloc _).alloc _
 have bA : Blk ((w.alloc (.cells #[.int .i64 a.op, .string a.name, .int .i64 a.n, .int .i64 a.ty.kind, .string a.ty.name, .slice p n c, .slice ma mn mc] 28)).alloc (.cells #[.int .i64 b.op, .string b.name, .int .i64 b.n, .int .i64 b.ty.kind, .string b.ty.name, .slice p' n' c', .slice ma' mn' mc'] 28)) w.heap.size 28 (tmCells a (.slice p n c) (.slice ma mn mc)) := (Blk.new w 28 _).alloc _
 have bB : Blk ((w.alloc (.cells #[.int .i64 a.op, .string a.name, .int .i64 a.n, .int .i64 a.ty.kind, .string a.ty.name, .slice p n c, .slice ma mn mc] 28)).alloc (.cells #[.int .i64 b.op, .string b.name, .int .i64 b.n, .int .i64 b.ty.kind, .string b.ty.name, .slice p' n' c', .slice ma' mn' mc'] 28)) (w.heap.size + 1) 28 (tmCells b (.slice p' n' c') (.slice ma' mn' mc')) := Blk.new' 28 _ (by simp)
 have HP := Ld (pair_valid (h1.frame (sK K1)) (h2.frame (sK K1)) (h3.frame (sK K1)) (h4.frame (sK K1)) ha hb)
 have HS := Ld (fun (hv : validB a = true) (hv' : validB b = true) W (k : Kept (fun _ => False) w W) => cmp_any (valid_od hv) b W ok ok' _ _ _ _ (valid_od hv') (h1.frame (sK k)) (h2.frame (sK k)) (h3.frame (sK k)) (h4.frame (sK k)))
 clear h1 h2 h3 h4 ha hb
 unfold tmVal at HS ⊢
 have HR : Hid (cmpA a b = if validB a && validB b then toI (cmpT tyShow a b) else 0) := Ld rfl
 generalize toI (cmpT tyShow a b) = z at *
 have HZ : Hid (((w.alloc (.cells #[.int .i64 a.op, .string a.name, .int .i64 a.n, .int .i64 a.ty.kind, .string a.ty.name, .slice p n c, .slice ma mn mc] 28)).alloc (.cells #[.int .i64 b.op, .string b.name, .int .i64 b.n, .int .i64 b.ty.kind, .string b.ty.name, .slice p' n' c', .slice ma' mn' mc'] 28)).heap.size = w.heap.size + 1 + 1) := Ld (by simp)
 go_enter Tryz.func33, Tryz.ntmps33
 go_wp2_with fail
 generalize ((w.alloc (.cells #[.int .i64 a.op, .string a.name, .int .i64 a.n, .int .i64 a.ty.kind, .string a.ty.name, .slice p n c, .slice ma mn mc] 28)).alloc (.cells #[.int .i64 b.op, .string b.name, .int .i64 b.n, .int .i64 b.ty.kind, .string b.ty.name, .slice p' n' c', .slice ma' mn' mc'] 28)) = w1 at *
 have K2 : Kept (fun _ => False) w (w1.alloc (.cells (tmCells a (.slice p n c) (.slice ma mn mc) ++ tmCells b (.slice p' n' c') (.slice ma' mn' mc')).toArray 28)) := K1.alloc _
 have bA2 := bA.alloc (.cells (tmCells a (.slice p n c) (.slice ma mn mc) ++ tmCells b (.slice p' n' c') (.slice ma' mn' mc')).toArray 28)
 have bB2 := bB.alloc (.cells (tmCells a (.slice p n c) (.slice ma mn mc) ++ tmCells b (.slice p' n' c') (.slice ma' mn' mc')).toArray 28)
 refine (HP.out _ _ rfl HZ.out.symm).mono ?_
 rintro e w2 ⟨rfl, k2⟩
 have gA : ∀ i, w2.cell? ⟨w.heap.size, i, none⟩ = [Value.int .i64 a.op, .string a.name, .int .i64 a.n, .int .i64 a.ty.kind, .string a.ty.name, .slice p n c, .slice ma mn mc][i]? := (bA2.kept k2 (fun h => h)).cell
 have gB : ∀ i, w2.cell? ⟨w.heap.size + 1, i, none⟩ = [Value.int .i64 b.op, .string b.name, .int .i64 b.n, .int .i64 b.ty.kind, .string b.ty.name, .slice p' n' c', .slice ma' mn' mc'][i]? := (bB2.kept k2 (fun h => h)).cell
 have KK := Ld (K2.trans k2)
 clear K1 K2 bA bB bA2 bB2 k2 HP
 cases hv : validB a && validB b
 ·have HR2 : Hid (cmpA a b = 0) := Ld (by rw [HR.out, hv]; rfl)
  clear hv HS HR
  go_wp2_with fail
  go_ret
  exact ⟨by rw [HR2.out]; rfl, KK.out⟩
 ·have HR2 : Hid (cmpA a b = z) := Ld (by rw [HR.out, hv]; rfl)
  have HS2 := Ld (HS.out (by simp only [Bool.and_eq_true] at hv; exact hv.1) (by simp only [Bool.and_eq_true] at hv; exact hv.2) w2 KK.out)
  clear hv HS HR
  go_wp2_with fail
  refine HS2.out.mono ?_
  rintro e w3 ⟨rfl, k3⟩
  go_wp2_with fail
  go_ret
  exact ⟨by rw [HR2.out]; rfl, KK.out.trans k3⟩
end Go.Proofs.YtfhedienjnfdcaaGreatDoor
