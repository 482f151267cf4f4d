/- Texts SAlk Ord Cmp ShTy CmpF Qkt Show Cpr Wfm OdP of this proof, in one. -/
import Derived.Test.YtfhedienjnfdcaaGreatDoorS0
import Derived.Test.YtfhedienjnfdcaaGreatDoorS1
import Derived.Test.YtfhedienjnfdcaaGreatDoorS2
import Derived.Test.YtfhedienjnfdcaaGreatDoorS3
import Derived.Test.YtfhedienjnfdcaaGreatDoorS4
import Derived.Test.YtfhedienjnfdcaaGreatDoorS5
import Derived.Test.YtfhedienjnfdcaaGreatDoorS6
import Derived.Test.YtfhedienjnfdcaaGreatDoorS7
import Derived.Test.YtfhedienjnfdcaaGreatDoorS8
import Derived.Test.YtfhedienjnfdcaaGreatDoorS9
import Derived.Test.YtfhedienjnfdcaaGreatDoorS10
import Derived.Test.YtfhedienjnfdcaaGreatDoorS11
import Derived.Test.YtfhedienjnfdcaaGreatDoorS12
import Derived.Test.YtfhedienjnfdcaaGreatDoorS13
import Derived.Test.YtfhedienjnfdcaaGreatDoorS14
import Derived.Test.YtfhedienjnfdcaaGreatDoorS15
import Derived.Test.YtfhedienjnfdcaaGreatDoorO0
import Derived.Test.YtfhedienjnfdcaaGreatDoorO1
import Derived.Lib.SliceRun
import Derived.Lib.Bytealg
import Derived.Deep.RegionHeld
import Derived.StillTail
import Derived.BigQuiet
set_option linter.unusedVariables false
set_option linter.unusedSimpArgs false
namespace Go.Proofs.YtfhedienjnfdcaaGreatDoor
open Go.RowKit
set_option maxRecDepth 100000 in
theorem clnN_any {ok : Nat → Prop} {w : World} {l : List ByteArray} {v : Value} (h : NmL ok w l v) (hn : l.length ≤ 1000000) :
    Calls Tryz.prog 112 #[v] w fun e w' => ∃ v', e = .returned v' ∧ NRow w w.heap.size w' l v' := by
  obtain ⟨i9, hi9, hz9, hs9, hb9⟩ := info_str
  have HI := Lib.hid hi9
  have HZ := Lib.hid hz9
  have HS := Lib.hid hs9
  have HB := Lib.hid hb9
  have HN := Lib.hid hn
  have HSRC := Lib.hid (fun W (k : Kept (fun _ => False) w W) => (h.frame (Same.of_kept k (fun _ _ e => e))).src)
  obtain ⟨a, n, c, rfl, rfl, h3, h5, h4⟩ := h
  have q41 : ∀ (w : World) (a : Option Addr) (n c n' c' : Nat), (binOp .eql 41 (.slice a n c) (.slice none n' c')).run Tryz.prog w = .ok (.bool a.isNone) w := fun w a n c n' c' => Lib.run_eql_slice_nil w _ _ a n c n' c' Tryz.underlying41
  clear hi9 hz9 hs9 hb9 hn h4
  cases a with
  | none =>
    obtain rfl : c = 0 := h5 rfl
    have hl : l = [] := List.length_eq_zero_iff.1 (by omega)
    subst hl
    go_enter Tryz.func112, Tryz.ntmps112
    go_wp2_with fail
    go_ret
    exact ⟨_, rfl, Kept.refl _ _, rfl, .inl ⟨rfl, rfl⟩⟩
  | some ad =>
    go_enter Tryz.func112, Tryz.ntmps112
    go_wp2_with (at_builtin; refine wpList_app_src rfl (.tmp 5) (.tmp 6) _ rfl w.heap.size 9 i9 _ 1 16 Tryz.underlying41 HI.out HZ.out HS.out HB.out rfl (by decide) (.slice (some ⟨w.heap.size, 0, none⟩) 0 0) 0 [] rfl (World.ownsRow_made w #[] 0 (Nat.le_refl _) (by decide) rfl) (.slice (some ad) l.length c) l.length (l.map Value.string) rfl (HSRC.out _ ((Kept.refl _ _).alloc _)) (by simp) (strs_one l) ?_ ?_ (by simp) ?_)
    · have := HN.out; unfold maxLen; omega
    · have := HN.out; omega
    intro v1 w1 own1 hg1 hat1
    have R1 : Hid (NRow w w.heap.size w1 l v1) := Lib.hid (by
      exact ⟨((Kept.refl (fun _ => False) w).alloc (.cells #[] 9)).via1 (kept_grown1 hg1) (fun x hx e => by have e2 : some w.heap.size = some x := e; have := Option.some.inj e2; omega), by simpa using own1⟩)
    clear own1 hg1 hat1
    go_wp2_with fail
    go_ret
    exact ⟨_, rfl, R1.out⟩
theorem nml_new (W : World) (s : ByteArray) : NmL (fun q => W.heap.size ≤ q) (W.alloc (.cells #[.string s] 9)) [s] (.slice (some ⟨W.heap.size, 0, none⟩) 1 1) :=
  ⟨_, 1, 1, rfl, rfl, Nat.le_refl _, (fun e => by cases e), fun i hi => ⟨_, 0, rfl, Nat.le_refl _, by have h0 : i = 0 := (by simpa using hi); subst h0; exact (Blk.new W 9 [Value.string s]).cell 0⟩⟩
theorem nml_new1 (W : World) (o : Obj) (s : ByteArray) : NmL (fun q => W.heap.size ≤ q) ((W.alloc o).alloc (.cells #[.string s] 9)) [s] (.slice (some ⟨W.heap.size + 1, 0, none⟩) 1 1) := by
  have h := nml_new (W.alloc o) s
  have e : (W.alloc o).heap.size = W.heap.size + 1 := by simp
  rw [e] at h
  exact h.mono (fun q _ h => by omega)
theorem nml_pre {W w' : World} {Z l : List ByteArray} {v u : Value} {ok : Nat → Prop} (R : NRow W W.heap.size w' Z v) (h : NmL ok W l u) : NmL (fun q => ok q ∧ v.ownBlock ≠ some q) w' l u :=
  (h.mono (ok' := fun q => ok q ∧ v.ownBlock ≠ some q) (fun q hq ho => ⟨ho, fun e => by have := (R.own.lt q e).1; omega⟩)).frame (Same.of_kept R.kp (fun _ _ e => e))
theorem nml_post {W w' W2 : World} {base : Nat} {Z l : List ByteArray} {v u : Value} (R : NRow W base w' Z v) (h : NmL (fun q => w'.heap.size ≤ q) W2 l u) : NmL (fun q => w'.heap.size ≤ q ∧ v.ownBlock ≠ some q) W2 l u :=
  h.mono (fun q _ h => ⟨h, fun e => by have := (R.own.lt q e).2; omega⟩)
theorem nml_grow {W w' : World} {l : List ByteArray} {u : Value} {ok : Nat → Prop} {r : Option Nat} (g : W.grownBy w' r) (h : NmL (fun q => ok q ∧ r ≠ some q) W l u) : NmL ok w' l u :=
  (h.frame (Same.of_kept (kept_grown1 g) (fun q h e => h.2 e))).mono (fun _ _ h => h.1)
theorem keep2 {W : World} {b i : Nat} {g : Nat} {v x y : Value} (h : W.cell? ⟨b, i, none⟩ = some v) (n : b ≠ g) : ((W.setCell ⟨g, 0, none⟩ x).setCell ⟨g, 1, none⟩ y).cell? ⟨b, i, none⟩ = some v := by
  have h1 : Kept (fun q => q = g) W ((W.setCell ⟨g, 0, none⟩ x).setCell ⟨g, 1, none⟩ y) := ((Kept.refl (fun q => q = g) W).setCell (p := ⟨g, 0, none⟩) (Or.inl rfl) x).setCell (p := ⟨g, 1, none⟩) (Or.inl rfl) y
  exact (Same.of_kept (ok := fun q => q ≠ g) h1 (fun q h e => h e)).cell n h
structure E11 (w2 : World) (T : Nat) (X Y : List ByteArray) (u v : Value) (W : World) : Prop where
  kp : Kept (fun _ => False) w2 W
  b : Blk W T 78 [u, v]
  x : NmL (fun _ => True) W X u
  y : NmL (fun _ => True) W Y v
theorem e11 {w2 w8 wb : World} {T : Nat} {X Y : List ByteArray} {u v x0 x1 : Value} {ok1 ok2 : Nat → Prop} (KW : Kept (fun _ => False) w2 w8) (KB : Kept (fun _ => False) w8 wb) (hT : w2.heap.size ≤ T) (hT8 : T < w8.heap.size) (bT : Blk wb T 78 [x0, x1])
    (A1 : NmL ok1 wb X u) (A2 : NmL ok2 wb Y v) (h1 : ∀ q, ok1 q → w8.heap.size ≤ q) (h2 : ∀ q, ok2 q → w8.heap.size ≤ q) : E11 w2 T X Y u v ((wb.setCell ⟨T, 0, none⟩ u).setCell ⟨T, 1, none⟩ v) := by
  have k : Kept (fun q => q = T) wb ((wb.setCell ⟨T, 0, none⟩ u).setCell ⟨T, 1, none⟩ v) := ((Kept.refl (fun q => q = T) wb).setCell (p := ⟨T, 0, none⟩) (Or.inl rfl) u).setCell (p := ⟨T, 1, none⟩) (Or.inl rfl) v
  refine ⟨((KW.trans KB).setCell (p := ⟨T, 0, none⟩) (Or.inr hT) u).setCell (p := ⟨T, 1, none⟩) (Or.inr hT) v, (bT.set 0 u).set 1 v, ?_, ?_⟩
  · exact (A1.frame (Same.of_kept k (fun q h e => by have := h1 q h; omega))).mono (fun _ _ _ => trivial)
  · exact (A2.frame (Same.of_kept k (fun q h e => by have := h2 q h; omega))).mono (fun _ _ _ => trivial)
theorem nml_own {w2 : World} {base : Nat} {Z r : List ByteArray} {v' : Value} (own : w2.ownsRow base 9 1 v' (Z.length + r.length) (Z.map Value.string ++ r.map Value.string)) : NmL (fun q => base ≤ q) w2 (Z ++ r) v' :=
  .of_own (base := base) (by rw [List.length_append, List.map_append]; exact own) (fun g hg => by
    have h2 : w2.ownsRow base 9 1 v' (Z ++ r).length ((Z ++ r).map Value.string) := by rw [List.length_append, List.map_append]; exact own
    exact (h2.lt g hg).1)
def SAlC (t : Tm) : Prop := ∀ (t' : Tm) (X Y : List ByteArray) (w : World) (ok ok' kx ky : Nat → Prop) (tk kk tk' kk' vx vy : Value), TyL ok w t.ty.kids tk → TmL ok w t.kids kk → TyL ok' w t'.ty.kids tk' → TmL ok' w t'.kids kk' → NmL kx w X vx → NmL ky w Y vy → X.length + tmD t ≤ 900000 → Y.length + tmD t ≤ 900000 →
  Calls Tryz.prog 69 #[.agg #[vx, vy], tmVal t tk kk, tmVal t' tk' kk'] w fun e w' => e = .returned (.bool (alikeT t t' X Y)) ∧ Kept (fun _ => False) w w'
set_option maxRecDepth 100000 in
set_option maxHeartbeats 8000000 in
theorem salike_name {nm : ByteArray} {N : Int} {ty : Ty} {l : List Tm} (hty : BdTy ty) (hn : l.length ≤ 1000000) : SAlC (.mk 20 nm N ty l) := by
  rintro ⟨op', nm', N', ty', l'⟩ X Y w ok ok' kx ky tk kk tk' kk' vx vy h1 h2 h3 h4 hx hy bx bY
  have h1 : TyL ok w ty.kids tk := h1
  have h2 : TmL ok w l kk := h2
  have h3 : TyL ok' w ty'.kids tk' := h3
  have h4 : TmL ok' w l' kk' := h4
  obtain ⟨a, n, c, rfl⟩ := h1.slice
  obtain ⟨ma, mn, mc, rfl⟩ := h2.slice
  obtain ⟨a', n', c', rfl⟩ := h3.slice
  obtain ⟨ma', mn', mc', rfl⟩ := h4.slice
  obtain rfl : mn = l.length := h2.len
  obtain rfl : mn' = l'.length := h4.len
  obtain ⟨xa, xc, rfl⟩ := hx.slice
  obtain ⟨ya, yc, rfl⟩ := hy.slice
  change Calls Tryz.prog 69 #[.agg #[.slice xa X.length xc, .slice ya Y.length yc], .agg #[.int .i64 20, .string nm, .int .i64 N, .int .i64 ty.kind, .string ty.name, .slice a n c, .slice ma l.length mc], .agg #[.int .i64 op', .string nm', .int .i64 N', .int .i64 ty'.kind, .string ty'.name, .slice a' n' c', .slice ma' l'.length mc']] w _
  have bS : Blk (((w.alloc (.cells #[.slice xa X.length xc, .slice ya Y.length yc] 78)).alloc (.cells #[.int .i64 20, .string nm, .int .i64 N, .int .i64 ty.kind, .string ty.name, .slice a n c, .slice ma l.length mc] 28)).alloc (.cells #[.int .i64 op', .string nm', .int .i64 N', .int .i64 ty'.kind, .string ty'.name, .slice a' n' c', .slice ma' l'.length mc'] 28)) w.heap.size 78 [.slice xa X.length xc, .slice ya Y.length yc] := ((Blk.new w 78 _).alloc _).alloc _
  have bA : Blk (((w.alloc (.cells #[.slice xa X.length xc, .slice ya Y.length yc] 78)).alloc (.cells #[.int .i64 20, .string nm, .int .i64 N, .int .i64 ty.kind, .string ty.name, .slice a n c, .slice ma l.length mc] 28)).alloc (.cells #[.int .i64 op', .string nm', .int .i64 N', .int .i64 ty'.kind, .string ty'.name, .slice a' n' c', .slice ma' l'.length mc'] 28)) (w.heap.size + 1) 28 [.int .i64 20, .string nm, .int .i64 N, .int .i64 ty.kind, .string ty.name, .slice a n c, .slice ma l.length mc] := (Blk.new' 28 _ (by simp)).alloc _
  have bB : Blk (((w.alloc (.cells #[.slice xa X.length xc, .slice ya Y.length yc] 78)).alloc (.cells #[.int .i64 20, .string nm, .int .i64 N, .int .i64 ty.kind, .string ty.name, .slice a n c, .slice ma l.length mc] 28)).alloc (.cells #[.int .i64 op', .string nm', .int .i64 N', .int .i64 ty'.kind, .string ty'.name, .slice a' n' c', .slice ma' l'.length mc'] 28)) (w.heap.size + 2) 28 [.int .i64 op', .string nm', .int .i64 N', .int .i64 ty'.kind, .string ty'.name, .slice a' n' c', .slice ma' l'.length mc'] := Blk.new' 28 _ (by simp)
  have K1 : Kept (fun _ => False) w (((w.alloc (.cells #[.slice xa X.length xc, .slice ya Y.length yc] 78)).alloc (.cells #[.int .i64 20, .string nm, .int .i64 N, .int .i64 ty.kind, .string ty.name, .slice a n c, .slice ma l.length mc] 28)).alloc (.cells #[.int .i64 op', .string nm', .int .i64 N', .int .i64 ty'.kind, .string ty'.name, .slice a' n' c', .slice ma' l'.length mc'] 28)) := (((Kept.refl _ _).alloc _).alloc _).alloc _
  have HT := Lib.hid (fun W (kW : Kept (fun _ => False) w W) => sameType_any hty ty' W ok ok' _ _ (h1.frame (Same.of_kept kW (fun k h e => e))) (h3.frame (Same.of_kept kW (fun k h e => e))))
  have HLX := Lib.hid (fun W (kW : Kept (fun _ => False) w W) => last_any nm (hx.frame (Same.of_kept kW (fun k h e => e))) (by omega))
  have HLY := Lib.hid (fun W (kW : Kept (fun _ => False) w W) => last_any nm' (hy.frame (Same.of_kept kW (fun k h e => e))) (by omega))
  unfold tyVal at HT
  have HD := Lib.hid (show alikeT (.mk 20 nm N ty l) (.mk op' nm' N' ty' l') X Y = ((decide (20 = op') && decide (N = N') && tyEq ty ty' && decide (l.length = l'.length)) && (decide (lastI nm X = lastI nm' Y) && (decide (0 ≤ lastI nm X) || decide (nm = nm')))) by rw [alikeT]; simp)
  clear h1 h2 h3 h4 hx hy bx bY
  generalize alikeT (.mk 20 nm N ty l) (.mk op' nm' N' ty' l') X Y = rr at *
  by_cases e1 : (20 : Int) = op'
  case neg =>
    have t1 : ((20 : Int) == op') = false := by simpa using e1
    have t2 : ((20 : Int) != op') = true := by simpa using e1
    have HR : Hid (rr = false) := Lib.hid (by rw [HD.out]; simp [e1])
    clear e1
    go_enter Tryz.func69, Tryz.ntmps69
    go_wp2_with fail
    go_ret
    exact ⟨by rw [HR.out]; rfl, K1⟩
  subst e1
  by_cases e3 : N = N'
  case neg =>
    have t1 : (N == N') = false := by simpa using e3
    have t2 : (N != N') = true := by simpa using e3
    have HR : Hid (rr = false) := Lib.hid (by rw [HD.out]; simp [e3])
    clear e3
    go_enter Tryz.func69, Tryz.ntmps69
    go_wp2_with fail
    go_ret
    exact ⟨by rw [HR.out]; rfl, K1⟩
  subst e3
  go_enter Tryz.func69, Tryz.ntmps69
  go_wp2_with fail
  generalize (((w.alloc (.cells #[.slice xa X.length xc, .slice ya Y.length yc] 78)).alloc (.cells #[.int .i64 20, .string nm, .int .i64 N, .int .i64 ty.kind, .string ty.name, .slice a n c, .slice ma l.length mc] 28)).alloc (.cells #[.int .i64 20, .string nm', .int .i64 N, .int .i64 ty'.kind, .string ty'.name, .slice a' n' c', .slice ma' l'.length mc'] 28)) = w1 at *
  cases ht : tyEq ty ty'
  · have HR : Hid (rr = false) := Lib.hid (by rw [HD.out, ht]; simp)
    refine (HT.out _ K1).mono ?_
    rintro e w2 ⟨rfl, k2⟩
    go_wp2_with fail
    go_ret
    exact ⟨by rw [HR.out]; rfl, K1.trans k2⟩
  refine (HT.out _ K1).mono ?_
  rintro e w2 ⟨rfl, k2⟩
  have gA2 : ∀ i, w2.cell? ⟨w.heap.size + 1, i, none⟩ = [Value.int .i64 20, .string nm, .int .i64 N, .int .i64 ty.kind, .string ty.name, .slice a n c, .slice ma l.length mc][i]? := (bA.kept k2 (fun h => h)).cell
  have gB2 : ∀ i, w2.cell? ⟨w.heap.size + 2, i, none⟩ = [Value.int .i64 20, .string nm', .int .i64 N, .int .i64 ty'.kind, .string ty'.name, .slice a' n' c', .slice ma' l'.length mc'][i]? := (bB.kept k2 (fun h => h)).cell
  have K2 := K1.trans k2
  clear gA2 gB2
  have bA2 := bA.kept k2 (fun h => h)
  have bS2 := bS.kept k2 (fun h => h)
  have bB2 := bB.kept k2 (fun h => h)
  clear bA bB bS K1 k2
  have gA : ∀ i, w2.cell? ⟨w.heap.size + 1, i, none⟩ = [Value.int .i64 20, .string nm, .int .i64 N, .int .i64 ty.kind, .string ty.name, .slice a n c, .slice ma l.length mc][i]? := bA2.cell
  have gB : ∀ i, w2.cell? ⟨w.heap.size + 2, i, none⟩ = [Value.int .i64 20, .string nm', .int .i64 N, .int .i64 ty'.kind, .string ty'.name, .slice a' n' c', .slice ma' l'.length mc'][i]? := bB2.cell
  by_cases e4 : l.length = l'.length
  case neg =>
    have t1 : ((l.length : Int) != (l'.length : Int)) = true := by simp; omega
    have t2 : ((l.length : Int) == (l'.length : Int)) = false := by simp; omega
    have HR : Hid (rr = false) := Lib.hid (by rw [HD.out]; simp [e4])
    clear e4
    go_wp2_with fail
    go_ret
    exact ⟨by rw [HR.out]; rfl, K2⟩
  have HR : Hid (rr = (decide (lastI nm X = lastI nm' Y) && (decide (0 ≤ lastI nm X) || (nm.toList == nm'.toList)))) := Lib.hid (by rw [HD.out, ht, nm_eq]; simp [e4])
  clear HD
  rw [← e4] at gB ⊢
  clear e4
  have t4 : ((l.length : Int) != (l.length : Int)) = false := by simp
  have x1 : w2.cell? ⟨w.heap.size + 1, 1, none⟩ = some (.string nm) := gA 1
  have x2 : w2.cell? ⟨w.heap.size + 2, 1, none⟩ = some (.string nm') := gB 1
  have z1 : w2.cell? ⟨w.heap.size, 0, none⟩ = some (.slice xa X.length xc) := bS2.cell 0
  have z2 : w2.cell? ⟨w.heap.size, 1, none⟩ = some (.slice ya Y.length yc) := bS2.cell 1
  have HS := Lib.hid (fun W (k : Kept (fun _ => False) w2 W) => (⟨(bS2.kept k (fun h => h)).cell 0, (bS2.kept k (fun h => h)).cell 1, (bA2.kept k (fun h => h)).cell 1, (bB2.kept k (fun h => h)).cell 1⟩ : W.cell? ⟨w.heap.size, 0, none⟩ = some (.slice xa X.length xc) ∧ W.cell? ⟨w.heap.size, 1, none⟩ = some (.slice ya Y.length yc) ∧ W.cell? ⟨w.heap.size + 1, 1, none⟩ = some (.string nm) ∧ W.cell? ⟨w.heap.size + 2, 1, none⟩ = some (.string nm')))
  have KD : Kept (fun _ => False) w2 w2.drew := (Kept.refl _ _).drew
  have HXY : Hid (∀ (W : World) (v : Value) (s : ByteArray) (r : Int), Kept (fun _ => False) w2 W → ((s = nm ∧ v = (.slice xa X.length xc) ∧ r = lastI nm X) ∨ (s = nm' ∧ v = (.slice ya Y.length yc) ∧ r = lastI nm' Y)) → Calls Tryz.prog 111 #[v, .string s] W fun e w' => e = .returned (.int .i64 r) ∧ Kept (fun _ => False) W w') := Lib.hid (by
    rintro W v s r k (⟨rfl, rfl, rfl⟩ | ⟨rfl, rfl, rfl⟩)
    · exact HLX.out W (K2.trans k)
    · exact HLY.out W (K2.trans k))
  go_wp2_with fail
  clear HT bA2 bB2 bS2 HLX HLY t4 ht gA gB
  generalize lastI nm X = p at *
  generalize lastI nm' Y = q at *
  go_region_held3 (fun w' => w'.cell? ⟨w.heap.size, 0, none⟩ = some (.slice xa X.length xc) ∧ w'.cell? ⟨w.heap.size, 1, none⟩ = some (.slice ya Y.length yc) ∧ w'.cell? ⟨w.heap.size + 1, 1, none⟩ = some (.string nm) ∧ w'.cell? ⟨w.heap.size + 2, 1, none⟩ = some (.string nm')) (go_keep)
    (first | (go_at_call 111; refine (HXY.out _ _ _ _ (by first | exact KD | exact KE) (by first | exact Or.inl ⟨rfl, rfl, rfl⟩ | exact Or.inr ⟨rfl, rfl, rfl⟩)).mono ?_; rintro e wq ⟨rfl, kq⟩; first | (have KF := KE.trans kq; obtain ⟨n0, n1, n2, n3⟩ := HS.out _ KF) | (have KE := KD.trans kq; obtain ⟨m0, m1, m2, m3⟩ := HS.out _ KE)))
  all_goals
    by_cases f1 : p = q
    case neg =>
      have g1 : (p == q) = false := by simpa using f1
      go_wp2_with fail
      go_ret
      exact ⟨by rw [HR.out]; simp [f1], K2.trans KF⟩
    subst f1
    by_cases f2 : 0 ≤ p
    case pos =>
      have g2 : decide (0 ≤ p) = true := by simpa using f2
      go_wp2_with fail
      go_ret
      exact ⟨by rw [HR.out]; simp [f2], K2.trans KF⟩
    have g2 : decide (0 ≤ p) = false := by simpa using f2
    cases f3 : (nm.toList == nm'.toList)
    · go_wp2_with fail
      go_ret
      exact ⟨by rw [HR.out]; simp [f2, f3], K2.trans KF⟩
    · go_wp2_with fail
      go_ret
      exact ⟨by rw [HR.out]; simp [f2, f3], K2.trans KF⟩
set_option maxRecDepth 100000 in
set_option maxHeartbeats 8000000 in
theorem salike_one {op : Int} {nm : ByteArray} {N : Int} {ty : Ty} {l : List Tm} (h20 : op ≠ 20) (hty : BdTy ty) (IH : ∀ u, u ∈ l → SAlC u) (hn : l.length ≤ 1000000) : SAlC (.mk op nm N ty l) := by
  rintro ⟨op', nm', N', ty', l'⟩ X Y w ok ok' kx ky tk kk tk' kk' vx vy h1 h2 h3 h4 hx hy bx bY
  have h1 : TyL ok w ty.kids tk := h1
  have h2 : TmL ok w l kk := h2
  have h3 : TyL ok' w ty'.kids tk' := h3
  have h4 : TmL ok' w l' kk' := h4
  obtain ⟨a, n, c, rfl⟩ := h1.slice
  obtain ⟨ma, mn, mc, rfl⟩ := h2.slice
  obtain ⟨a', n', c', rfl⟩ := h3.slice
  obtain ⟨ma', mn', mc', rfl⟩ := h4.slice
  obtain rfl : mn = l.length := h2.len
  obtain rfl : mn' = l'.length := h4.len
  obtain ⟨xa, xc, rfl⟩ := hx.slice
  obtain ⟨ya, yc, rfl⟩ := hy.slice
  change Calls Tryz.prog 69 #[.agg #[.slice xa X.length xc, .slice ya Y.length yc], .agg #[.int .i64 op, .string nm, .int .i64 N, .int .i64 ty.kind, .string ty.name, .slice a n c, .slice ma l.length mc], .agg #[.int .i64 op', .string nm', .int .i64 N', .int .i64 ty'.kind, .string ty'.name, .slice a' n' c', .slice ma' l'.length mc']] w _
  have bS : Blk (((w.alloc (.cells #[.slice xa X.length xc, .slice ya Y.length yc] 78)).alloc (.cells #[.int .i64 op, .string nm, .int .i64 N, .int .i64 ty.kind, .string ty.name, .slice a n c, .slice ma l.length mc] 28)).alloc (.cells #[.int .i64 op', .string nm', .int .i64 N', .int .i64 ty'.kind, .string ty'.name, .slice a' n' c', .slice ma' l'.length mc'] 28)) w.heap.size 78 [.slice xa X.length xc, .slice ya Y.length yc] := ((Blk.new w 78 _).alloc _).alloc _
  have bA : Blk (((w.alloc (.cells #[.slice xa X.length xc, .slice ya Y.length yc] 78)).alloc (.cells #[.int .i64 op, .string nm, .int .i64 N, .int .i64 ty.kind, .string ty.name, .slice a n c, .slice ma l.length mc] 28)).alloc (.cells #[.int .i64 op', .string nm', .int .i64 N', .int .i64 ty'.kind, .string ty'.name, .slice a' n' c', .slice ma' l'.length mc'] 28)) (w.heap.size + 1) 28 [.int .i64 op, .string nm, .int .i64 N, .int .i64 ty.kind, .string ty.name, .slice a n c, .slice ma l.length mc] := (Blk.new' 28 _ (by simp)).alloc _
  have bB : Blk (((w.alloc (.cells #[.slice xa X.length xc, .slice ya Y.length yc] 78)).alloc (.cells #[.int .i64 op, .string nm, .int .i64 N, .int .i64 ty.kind, .string ty.name, .slice a n c, .slice ma l.length mc] 28)).alloc (.cells #[.int .i64 op', .string nm', .int .i64 N', .int .i64 ty'.kind, .string ty'.name, .slice a' n' c', .slice ma' l'.length mc'] 28)) (w.heap.size + 2) 28 [.int .i64 op', .string nm', .int .i64 N', .int .i64 ty'.kind, .string ty'.name, .slice a' n' c', .slice ma' l'.length mc'] := Blk.new' 28 _ (by simp)
  have K1 : Kept (fun _ => False) w (((w.alloc (.cells #[.slice xa X.length xc, .slice ya Y.length yc] 78)).alloc (.cells #[.int .i64 op, .string nm, .int .i64 N, .int .i64 ty.kind, .string ty.name, .slice a n c, .slice ma l.length mc] 28)).alloc (.cells #[.int .i64 op', .string nm', .int .i64 N', .int .i64 ty'.kind, .string ty'.name, .slice a' n' c', .slice ma' l'.length mc'] 28)) := (((Kept.refl _ _).alloc _).alloc _).alloc _
  have HT := Lib.hid (fun W (kW : Kept (fun _ => False) w W) => sameType_any hty ty' W ok ok' _ _ (h1.frame (Same.of_kept kW (fun k h e => e))) (h3.frame (Same.of_kept kW (fun k h e => e))))
  have bX : X.length + (tmDs l + 1) ≤ 900000 := by rw [tmD] at bx; exact bx
  have bY2 : Y.length + (tmDs l + 1) ≤ 900000 := by rw [tmD] at bY; exact bY
  have HIH := Lib.hid IH
  have HAT := Lib.hid (fun W (k : Kept (fun _ => False) w W) => (h2.frame (Same.of_kept k (fun _ _ e => e))).at)
  have HAT' := Lib.hid (fun W (k : Kept (fun _ => False) w W) => (h4.frame (Same.of_kept k (fun _ _ e => e))).at)
  have HX := Lib.hid (fun W (k : Kept (fun _ => False) w W) => hx.frame (Same.of_kept k (fun _ _ e => e)))
  have HY := Lib.hid (fun W (k : Kept (fun _ => False) w W) => hy.frame (Same.of_kept k (fun _ _ e => e)))
  have HBX := Lib.hid bX
  have HBY := Lib.hid bY2
  unfold tyVal at HT
  have HD := Lib.hid (show alikeT (.mk op nm N ty l) (.mk op' nm' N' ty' l') X Y = ((decide (op = op') && decide (N = N') && tyEq ty ty' && decide (l.length = l'.length)) && alikeK (binderB op) nm nm' 0 l l' X Y) by rw [alikeT, if_neg h20])
  clear h1 h2 h3 h4 hx hy bx bY bX bY2 IH
  generalize alikeT (.mk op nm N ty l) (.mk op' nm' N' ty' l') X Y = rr at *
  by_cases e1 : op = op'
  case neg =>
    have t1 : (op == op') = false := by simpa using e1
    have t2 : (op != op') = true := by simpa using e1
    have HR : Hid (rr = false) := Lib.hid (by rw [HD.out]; simp [e1])
    clear e1
    go_enter Tryz.func69, Tryz.ntmps69
    go_wp2_with fail
    go_ret
    exact ⟨by rw [HR.out]; rfl, K1⟩
  subst e1
  by_cases e3 : N = N'
  case neg =>
    have t1 : (N == N') = false := by simpa using e3
    have t2 : (N != N') = true := by simpa using e3
    have HR : Hid (rr = false) := Lib.hid (by rw [HD.out]; simp [e3])
    clear e3
    go_enter Tryz.func69, Tryz.ntmps69
    go_wp2_with fail
    go_ret
    exact ⟨by rw [HR.out]; rfl, K1⟩
  subst e3
  go_enter Tryz.func69, Tryz.ntmps69
  go_wp2_with fail
  generalize (((w.alloc (.cells #[.slice xa X.length xc, .slice ya Y.length yc] 78)).alloc (.cells #[.int .i64 op, .string nm, .int .i64 N, .int .i64 ty.kind, .string ty.name, .slice a n c, .slice ma l.length mc] 28)).alloc (.cells #[.int .i64 op, .string nm', .int .i64 N, .int .i64 ty'.kind, .string ty'.name, .slice a' n' c', .slice ma' l'.length mc'] 28)) = w1 at *
  cases ht : tyEq ty ty'
  · have HR : Hid (rr = false) := Lib.hid (by rw [HD.out, ht]; simp)
    refine (HT.out _ K1).mono ?_
    rintro e w2 ⟨rfl, k2⟩
    go_wp2_with fail
    go_ret
    exact ⟨by rw [HR.out]; rfl, K1.trans k2⟩
  refine (HT.out _ K1).mono ?_
  rintro e w2 ⟨rfl, k2⟩
  have gA2 : ∀ i, w2.cell? ⟨w.heap.size + 1, i, none⟩ = [Value.int .i64 op, .string nm, .int .i64 N, .int .i64 ty.kind, .string ty.name, .slice a n c, .slice ma l.length mc][i]? := (bA.kept k2 (fun h => h)).cell
  have gB2 : ∀ i, w2.cell? ⟨w.heap.size + 2, i, none⟩ = [Value.int .i64 op, .string nm', .int .i64 N, .int .i64 ty'.kind, .string ty'.name, .slice a' n' c', .slice ma' l'.length mc'][i]? := (bB.kept k2 (fun h => h)).cell
  have K2 := K1.trans k2
  clear gA2 gB2
  have bA2 := bA.kept k2 (fun h => h)
  have bS2 := bS.kept k2 (fun h => h)
  have bB2 := bB.kept k2 (fun h => h)
  clear bA bB bS K1 k2
  have gA : ∀ i, w2.cell? ⟨w.heap.size + 1, i, none⟩ = [Value.int .i64 op, .string nm, .int .i64 N, .int .i64 ty.kind, .string ty.name, .slice a n c, .slice ma l.length mc][i]? := bA2.cell
  have gB : ∀ i, w2.cell? ⟨w.heap.size + 2, i, none⟩ = [Value.int .i64 op, .string nm', .int .i64 N, .int .i64 ty'.kind, .string ty'.name, .slice a' n' c', .slice ma' l'.length mc'][i]? := bB2.cell
  by_cases e4 : l.length = l'.length
  case neg =>
    have t1 : ((l.length : Int) != (l'.length : Int)) = true := by simp; omega
    have t2 : ((l.length : Int) == (l'.length : Int)) = false := by simp; omega
    have HR : Hid (rr = false) := Lib.hid (by rw [HD.out]; simp [e4])
    clear e4
    go_wp2_with fail
    go_ret
    exact ⟨by rw [HR.out]; rfl, K2⟩
  have HR : Hid (rr = alikeK (binderB op) nm nm' 0 l l' X Y) := Lib.hid (by rw [HD.out, ht]; simp [e4])
  clear HD
  have E4 := Lib.hid e4
  rw [← e4] at gB ⊢
  clear e4
  have t4 : ((l.length : Int) != (l.length : Int)) = false := by simp
  have t5 : (op == 20) = false := by simpa using h20
  have BA := Lib.hid bA2
  have BB := Lib.hid bB2
  have BS := Lib.hid bS2
  clear bA2 bB2 bS2
  go_wp2_with fail
  clear HT t4 ht gA gB
  go_loopw [70] (fun i wr => ∃ j : Nat, j ≤ l.length ∧ i = .int .i64 j ∧ Kept (fun _ => False) w2 wr ∧ Hid (rr = alikeK (binderB op) nm nm' j (l.drop j) (l'.drop j) X Y)) (fun i _ => l.length - (intOf i).toNat)
  case atStart => exact ⟨0, Nat.zero_le _, rfl, Kept.refl _ _, HR⟩
  case round =>
    obtain ⟨j, hj, rfl, kr, hq⟩ := hrel
    have gS : ∀ i, wr.cell? ⟨w.heap.size, i, none⟩ = [Value.slice xa X.length xc, .slice ya Y.length yc][i]? := (BS.out.kept kr (fun h => h)).cell
    have gA : ∀ i, wr.cell? ⟨w.heap.size + 1, i, none⟩ = [Value.int .i64 op, .string nm, .int .i64 N, .int .i64 ty.kind, .string ty.name, .slice a n c, .slice ma l.length mc][i]? := (BA.out.kept kr (fun h => h)).cell
    by_cases hlt : j < l.length
    · have hlt' : j < l'.length := by rw [← E4.out]; exact hlt
      have gB : ∀ i, wr.cell? ⟨w.heap.size + 2, i, none⟩ = [Value.int .i64 op, .string nm', .int .i64 N, .int .i64 ty'.kind, .string ty'.name, .slice a' n' c', .slice ma' l.length mc'][i]? := by rw [E4.out]; exact (BB.out.kept kr (fun h => h)).cell
      have hj2 : (j : Int) < (l.length : Int) := by omega
      have hj3 : (j : Int) < 1000000 := by omega
      cases hbi : binderB op
      · have hco : (binderB op && j == 1) = false := by rw [hbi]; rfl
        have bT : Blk (wr.alloc (.cells #[.slice xa X.length xc, .slice ya Y.length yc] 78)) wr.heap.size 78 [.slice xa X.length xc, .slice ya Y.length yc] := Blk.new wr 78 _
        have KW : Kept (fun _ => False) w2 (wr.alloc (.cells #[.slice xa X.length xc, .slice ya Y.length yc] 78)) := kr.alloc _
        have hA : ∀ i, (wr.alloc (.cells #[.slice xa X.length xc, .slice ya Y.length yc] 78)).cell? ⟨w.heap.size + 1, i, none⟩ = [Value.int .i64 op, .string nm, .int .i64 N, .int .i64 ty.kind, .string ty.name, .slice a n c, .slice ma l.length mc][i]? := (BA.out.kept KW (fun h => h)).cell
        clear gB
        go_wp2_with (go_at_call 65; refine (binder_t hbi _).mono ?_; rintro e w' ⟨rfl, rfl⟩)
        clear gA gS hA
        generalize (wr.alloc (.cells #[.slice xa X.length xc, .slice ya Y.length yc] 78)) = w8 at *
        have gT : ∀ i, w8.cell? ⟨wr.heap.size, i, none⟩ = [Value.slice xa X.length xc, .slice ya Y.length yc][i]? := bT.cell
        obtain ⟨g, off, ta, tn, tc, na, nn, nc, e2, _, lg, ⟨c0, c1, c2, c3, c4, c5, c6⟩, hty, htm⟩ := HAT.out w8 (K2.trans KW) j hlt
        cases e2
        obtain ⟨g', off', ta', tn', tc', na', nn', nc', e2, _, lg', ⟨d0, d1, d2, d3, d4, d5, d6⟩, hty', htm'⟩ := HAT'.out w8 (K2.trans KW) j hlt'
        cases e2
        have gA : ∀ i, w8.cell? ⟨w.heap.size + 1, i, none⟩ = [Value.int .i64 op, .string nm, .int .i64 N, .int .i64 ty.kind, .string ty.name, .slice a n c, .slice (some ⟨g, off, none⟩) l.length mc][i]? := (BA.out.kept KW (fun h => h)).cell
        have gB : ∀ i, w8.cell? ⟨w.heap.size + 2, i, none⟩ = [Value.int .i64 op, .string nm', .int .i64 N, .int .i64 ty'.kind, .string ty'.name, .slice a' n' c', .slice (some ⟨g', off', none⟩) l.length mc'][i]? := by rw [E4.out]; exact (BB.out.kept KW (fun h => h)).cell
        have hcon := Lib.hid (fun (W : World) (kW : Kept (fun _ => False) w8 W) => HIH.out _ (List.getElem_mem hlt) l'[j] X Y W ok ok' _ _ _ _ _ _ _ _ (hty.frame (Same.of_kept kW (fun k h e => e))) (htm.frame (Same.of_kept kW (fun k h e => e))) (hty'.frame (Same.of_kept kW (fun k h e => e))) (htm'.frame (Same.of_kept kW (fun k h e => e))) ((HX.out w8 (K2.trans KW)).frame (Same.of_kept kW (fun k h e => e))) ((HY.out w8 (K2.trans KW)).frame (Same.of_kept kW (fun k h e => e))) (by have := HBX.out; have := tmDs_mem (List.getElem_mem hlt); simp; omega) (by have := HBY.out; have := tmDs_mem (List.getElem_mem hlt); simp; omega))
        unfold tmVal at hcon
        have HS := Lib.hid (alikeK_drop (bi := binderB op) (nm := nm) (nm' := nm') (X := X) (Y := Y) hlt hlt')
        rw [hco] at HS
        simp only [Bool.false_eq_true, if_false, if_true] at HS
        clear hty hty' htm htm'
        go_wp2_with fail
        go_still_tail 11, (by kernel_rfl)
        change wpList _ _ _ _ _ (World.drew w8)
        have kd : Kept (fun _ => False) w8 (World.drew w8) := (Kept.refl _ _).drew
        generalize World.drew w8 = w4 at *
        cases hr : alikeT l[j] l'[j] X Y
        · rw [hr] at hcon HS
          go_wp2_with (go_at_call 69; refine (hcon.out _ kd).mono ?_; rintro e w' ⟨rfl, k2⟩)
          go_ret
          exact ⟨by rw [hq.out, HS.out]; rfl, ((K2.trans KW).trans kd).trans k2⟩
        · rw [hr] at hcon HS
          go_wp2_with (go_at_call 69; refine (hcon.out _ kd).mono ?_; rintro e w' ⟨rfl, k2⟩)
          go_roundw
          case rel => exact ⟨j + 1, by omega, by go_num, (KW.trans kd).trans k2, Lib.hid (by rw [hq.out, HS.out]; first | rfl | (rw [hbi]; rfl))⟩
          case measure => simp [intOf]; omega
      by_cases hj1 : j = 1
      case neg =>
        have hco : (binderB op && j == 1) = false := by simp [hj1]
        have hj4 : ((j : Int) == 1) = false := by simp; omega
        have bT : Blk (wr.alloc (.cells #[.slice xa X.length xc, .slice ya Y.length yc] 78)) wr.heap.size 78 [.slice xa X.length xc, .slice ya Y.length yc] := Blk.new wr 78 _
        have KW : Kept (fun _ => False) w2 (wr.alloc (.cells #[.slice xa X.length xc, .slice ya Y.length yc] 78)) := kr.alloc _
        have hA : ∀ i, (wr.alloc (.cells #[.slice xa X.length xc, .slice ya Y.length yc] 78)).cell? ⟨w.heap.size + 1, i, none⟩ = [Value.int .i64 op, .string nm, .int .i64 N, .int .i64 ty.kind, .string ty.name, .slice a n c, .slice ma l.length mc][i]? := (BA.out.kept KW (fun h => h)).cell
        clear gB
        go_wp2_with (go_at_call 65; refine (binder_t hbi _).mono ?_; rintro e w' ⟨rfl, rfl⟩)
        clear gA gS hA
        generalize (wr.alloc (.cells #[.slice xa X.length xc, .slice ya Y.length yc] 78)) = w8 at *
        have gT : ∀ i, w8.cell? ⟨wr.heap.size, i, none⟩ = [Value.slice xa X.length xc, .slice ya Y.length yc][i]? := bT.cell
        obtain ⟨g, off, ta, tn, tc, na, nn, nc, e2, _, lg, ⟨c0, c1, c2, c3, c4, c5, c6⟩, hty, htm⟩ := HAT.out w8 (K2.trans KW) j hlt
        cases e2
        obtain ⟨g', off', ta', tn', tc', na', nn', nc', e2, _, lg', ⟨d0, d1, d2, d3, d4, d5, d6⟩, hty', htm'⟩ := HAT'.out w8 (K2.trans KW) j hlt'
        cases e2
        have gA : ∀ i, w8.cell? ⟨w.heap.size + 1, i, none⟩ = [Value.int .i64 op, .string nm, .int .i64 N, .int .i64 ty.kind, .string ty.name, .slice a n c, .slice (some ⟨g, off, none⟩) l.length mc][i]? := (BA.out.kept KW (fun h => h)).cell
        have gB : ∀ i, w8.cell? ⟨w.heap.size + 2, i, none⟩ = [Value.int .i64 op, .string nm', .int .i64 N, .int .i64 ty'.kind, .string ty'.name, .slice a' n' c', .slice (some ⟨g', off', none⟩) l.length mc'][i]? := by rw [E4.out]; exact (BB.out.kept KW (fun h => h)).cell
        have hcon := Lib.hid (fun (W : World) (kW : Kept (fun _ => False) w8 W) => HIH.out _ (List.getElem_mem hlt) l'[j] X Y W ok ok' _ _ _ _ _ _ _ _ (hty.frame (Same.of_kept kW (fun k h e => e))) (htm.frame (Same.of_kept kW (fun k h e => e))) (hty'.frame (Same.of_kept kW (fun k h e => e))) (htm'.frame (Same.of_kept kW (fun k h e => e))) ((HX.out w8 (K2.trans KW)).frame (Same.of_kept kW (fun k h e => e))) ((HY.out w8 (K2.trans KW)).frame (Same.of_kept kW (fun k h e => e))) (by have := HBX.out; have := tmDs_mem (List.getElem_mem hlt); simp; omega) (by have := HBY.out; have := tmDs_mem (List.getElem_mem hlt); simp; omega))
        unfold tmVal at hcon
        have HS := Lib.hid (alikeK_drop (bi := binderB op) (nm := nm) (nm' := nm') (X := X) (Y := Y) hlt hlt')
        rw [hco] at HS
        simp only [Bool.false_eq_true, if_false, if_true] at HS
        clear hty hty' htm htm'
        go_wp2_with fail
        go_still_tail 11, (by kernel_rfl)
        change wpList _ _ _ _ _ (World.drew w8)
        have kd : Kept (fun _ => False) w8 (World.drew w8) := (Kept.refl _ _).drew
        generalize World.drew w8 = w4 at *
        cases hr : alikeT l[j] l'[j] X Y
        · rw [hr] at hcon HS
          go_wp2_with (go_at_call 69; refine (hcon.out _ kd).mono ?_; rintro e w' ⟨rfl, k2⟩)
          go_ret
          exact ⟨by rw [hq.out, HS.out]; rfl, ((K2.trans KW).trans kd).trans k2⟩
        · rw [hr] at hcon HS
          go_wp2_with (go_at_call 69; refine (hcon.out _ kd).mono ?_; rintro e w' ⟨rfl, k2⟩)
          go_roundw
          case rel => exact ⟨j + 1, by omega, by go_num, (KW.trans kd).trans k2, Lib.hid (by rw [hq.out, HS.out]; first | rfl | (rw [hbi]; rfl))⟩
          case measure => simp [intOf]; omega
      subst hj1
      have hco : (binderB op && 1 == 1) = true := by rw [hbi]; rfl
      have bT : Blk (wr.alloc (.cells #[.slice xa X.length xc, .slice ya Y.length yc] 78)) wr.heap.size 78 [.slice xa X.length xc, .slice ya Y.length yc] := Blk.new wr 78 _
      have KW : Kept (fun _ => False) w2 (wr.alloc (.cells #[.slice xa X.length xc, .slice ya Y.length yc] 78)) := kr.alloc _
      have hA : ∀ i, (wr.alloc (.cells #[.slice xa X.length xc, .slice ya Y.length yc] 78)).cell? ⟨w.heap.size + 1, i, none⟩ = [Value.int .i64 op, .string nm, .int .i64 N, .int .i64 ty.kind, .string ty.name, .slice a n c, .slice ma l.length mc][i]? := (BA.out.kept KW (fun h => h)).cell
      clear gB
      go_wp2_with (go_at_call 65; refine (binder_t hbi _).mono ?_; rintro e w' ⟨rfl, rfl⟩)
      clear gA gS hA
      generalize (wr.alloc (.cells #[.slice xa X.length xc, .slice ya Y.length yc] 78)) = w8 at *
      have gT : ∀ i, w8.cell? ⟨wr.heap.size, i, none⟩ = [Value.slice xa X.length xc, .slice ya Y.length yc][i]? := bT.cell
      obtain ⟨i9, hi9, hz9, hs9, hb9⟩ := info_str
      have HI := Lib.hid hi9
      have HZ := Lib.hid hz9
      have HS9 := Lib.hid hs9
      have HB := Lib.hid hb9
      clear hi9 hz9 hs9 hb9
      have hmx : Hid (X.length + 1 ≤ maxLen ∧ (X.length + 1) * 16 ≤ 140737488355328) := Lib.hid (by have := HBX.out; unfold maxLen; constructor <;> omega)
      have hmy : Hid (Y.length + 1 ≤ maxLen ∧ (Y.length + 1) * 16 ≤ 140737488355328) := Lib.hid (by have := HBY.out; unfold maxLen; constructor <;> omega)
      have HS2 := Lib.hid (fun W (k : Kept (fun _ => False) w8 W) => (⟨(BS.out.kept (KW.trans k) (fun h => h)).cell 0, (BS.out.kept (KW.trans k) (fun h => h)).cell 1, (BA.out.kept (KW.trans k) (fun h => h)).cell 1, (BB.out.kept (KW.trans k) (fun h => h)).cell 1⟩ : W.cell? ⟨w.heap.size, 0, none⟩ = some (.slice xa X.length xc) ∧ W.cell? ⟨w.heap.size, 1, none⟩ = some (.slice ya Y.length yc) ∧ W.cell? ⟨w.heap.size + 1, 1, none⟩ = some (.string nm) ∧ W.cell? ⟨w.heap.size + 1 + 1, 1, none⟩ = some (.string nm')))
      have HC : Hid (∀ (W : World) (v : Value) (Z : List ByteArray), Kept (fun _ => False) w8 W → ((v = .slice xa X.length xc ∧ Z = X) ∨ (v = .slice ya Y.length yc ∧ Z = Y)) → Calls Tryz.prog 112 #[v] W fun e w' => ∃ v', e = .returned v' ∧ NRow W W.heap.size w' Z v') := Lib.hid (by
        have h1 := HBX.out
        have h2 := HBY.out
        rintro W v Z k (⟨rfl, rfl⟩ | ⟨rfl, rfl⟩)
        · exact clnN_any (HX.out W ((K2.trans KW).trans k)) (by omega)
        · exact clnN_any (HY.out W ((K2.trans KW).trans k)) (by omega))
      have KD : Kept (fun _ => False) w8 w8.drew := (Kept.refl _ _).drew
      obtain ⟨e0, e1, e2, e3⟩ := HS2.out _ (Kept.refl _ _)
      clear gT
      have lT : w.heap.size + 2 < wr.heap.size := (BB.out.kept kr (fun h => h)).lt
      have n0 : w.heap.size ≠ wr.heap.size := by omega
      have n1 : w.heap.size + 1 ≠ wr.heap.size := by omega
      have n2 : w.heap.size + 1 + 1 ≠ wr.heap.size := by omega
      have hT8 : wr.heap.size < w8.heap.size := bT.lt
      have hT : w2.heap.size ≤ wr.heap.size := kr.size
      clear lT
      go_region_held3 (fun w' => w'.cell? ⟨w.heap.size, 0, none⟩ = some (.slice xa X.length xc) ∧ w'.cell? ⟨w.heap.size, 1, none⟩ = some (.slice ya Y.length yc) ∧ w'.cell? ⟨w.heap.size + 1, 1, none⟩ = some (.string nm) ∧ w'.cell? ⟨w.heap.size + 1 + 1, 1, none⟩ = some (.string nm')) (first | go_keep | exact ⟨keep2 b0 n0, keep2 b1 n0, keep2 b2 n1, keep2 b3 n2⟩)
        (first | (go_at_call 112; refine (HC.out _ _ _ (by first | exact KA1 | exact KA1.alloc _ | exact KD | exact KD.alloc _ | exact (KD.alloc _).alloc _) (by first | exact Or.inl ⟨rfl, rfl⟩ | exact Or.inr ⟨rfl, rfl⟩)).mono ?_; first | (rintro e wc2 ⟨v3, rfl, R2⟩; have KC2 : Kept (fun _ => False) w8 wc2 := (by first | exact KA1.trans R2.kp | exact (KA1.alloc _).trans R2.kp); have A1c := nml_pre R2 (by first | exact A1 | exact A1.frame (Same.alloc _ _)); obtain ⟨d0, d1, d2, d3⟩ := HS2.out _ KC2; (try (first | (have P3 := nml_pre R2 P2) | (have P3 := nml_pre R2 (nml_new _ _))))) | (rintro e wc ⟨v1, rfl, R1⟩; have KC1 : Kept (fun _ => False) w8 wc := (by first | exact KD.trans R1.kp | exact (KD.alloc _).trans R1.kp | exact ((KD.alloc _).alloc _).trans R1.kp); obtain ⟨c0, c1, c2, c3⟩ := HS2.out _ KC1; (try (first | (have P1 := nml_pre R1 (nml_new1 _ _ _)) | (have P1 := nml_pre R1 (nml_new _ _)))); (try have Q1 := nml_pre R1 ((nml_new _ _).frame (Same.alloc _ _))))) | ((first | (refine step_app_src rfl (.tmp 83) (.tmp 86) _ rfl _ 9 i9 _ 1 16 Tryz.underlying41 HI.out HZ.out HS9.out HB.out rfl (by decide) v1 X.length (X.map Value.string) rfl R1.own _ 1 [.string nm] rfl P1.src rfl (strs_one [nm]) hmx.out.1 hmx.out.2 (Nat.le_trans R1.kp.size (by simp <;> omega)) ?_) | (refine step_app_src rfl (.tmp 83) (.tmp 86) _ rfl _ 9 i9 _ 1 16 Tryz.underlying41 HI.out HZ.out HS9.out HB.out rfl (by decide) v1 X.length (X.map Value.string) rfl R1.own _ 1 [.string nm] rfl Q1.src rfl (strs_one [nm]) hmx.out.1 hmx.out.2 (Nat.le_trans R1.kp.size (by simp <;> omega)) ?_) | (refine step_app_src rfl (.tmp 83) (.tmp 86) _ rfl _ 9 i9 _ 1 16 Tryz.underlying41 HI.out HZ.out HS9.out HB.out rfl (by decide) v1 X.length (X.map Value.string) rfl (R1.own.alloc _) _ 1 [.string nm] rfl (nml_new _ _).src rfl (strs_one [nm]) hmx.out.1 hmx.out.2 (Nat.le_trans R1.kp.size (by simp <;> omega)) ?_) | (refine step_app_src rfl (.tmp 83) (.tmp 86) _ rfl _ 9 i9 _ 1 16 Tryz.underlying41 HI.out HZ.out HS9.out HB.out rfl (by decide) v1 X.length (X.map Value.string) rfl (R1.own.alloc _) _ 1 [.string nm] rfl (P1.frame (Same.alloc _ _)).src rfl (strs_one [nm]) hmx.out.1 hmx.out.2 (Nat.le_trans R1.kp.size (by simp <;> omega)) ?_) | (refine step_app_src rfl (.tmp 83) (.tmp 86) _ rfl _ 9 i9 _ 1 16 Tryz.underlying41 HI.out HZ.out HS9.out HB.out rfl (by decide) v1 X.length (X.map Value.string) rfl ((R1.own.alloc _).alloc _) _ 1 [.string nm] rfl (nml_new1 _ _ _).src rfl (strs_one [nm]) hmx.out.1 hmx.out.2 (Nat.le_trans R1.kp.size (by simp <;> omega)) ?_) | (refine step_app_src rfl (.tmp 83) (.tmp 86) _ rfl _ 9 i9 _ 1 16 Tryz.underlying41 HI.out HZ.out HS9.out HB.out rfl (by decide) v1 X.length (X.map Value.string) rfl ((R1.own.alloc _).alloc _) _ 1 [.string nm] rfl ((nml_new _ _).frame (Same.alloc _ _)).src rfl (strs_one [nm]) hmx.out.1 hmx.out.2 (Nat.le_trans R1.kp.size (by simp <;> omega)) ?_)); intro v2 wa own2 gr2 hat2; have A1 := nml_own (Z := X) (r := [nm]) own2; have KA1 : Kept (fun _ => False) w8 wa := (by first | exact KC1.via1 (kept_grown1 gr2) (fun x hx e => by have h1 := (R1.own.lt x e).1; have h2 : w8.drew.heap.size = w8.heap.size := rfl; (try simp at h1); omega) | exact (KC1.alloc _).via1 (kept_grown1 gr2) (fun x hx e => by have h1 := (R1.own.lt x e).1; have h2 : w8.drew.heap.size = w8.heap.size := rfl; (try simp at h1); omega) | exact ((KC1.alloc _).alloc _).via1 (kept_grown1 gr2) (fun x hx e => by have h1 := (R1.own.lt x e).1; have h2 : w8.drew.heap.size = w8.heap.size := rfl; (try simp at h1); omega)); obtain ⟨p2, q2, rfl⟩ := A1.slice; obtain ⟨a0, a1, a2, a3⟩ := HS2.out _ KA1; (try (first | (have P2 := nml_grow (l := [nm']) gr2 P1) | (have P2 := nml_grow (l := [nm']) gr2 Q1) | (have P2 := nml_grow (l := [nm']) gr2 (P1.frame (Same.alloc _ _))) | (have P2 := nml_grow (l := [nm']) gr2 (nml_post R1 (nml_new _ _))) | (have P2 := nml_grow (l := [nm']) gr2 ((nml_post R1 (nml_new _ _)).frame (Same.alloc _ _))) | (have P2 := nml_grow (l := [nm']) gr2 (nml_post R1 (nml_new1 _ _ _)))))) | ((first | (refine step_app_src rfl (.tmp 90) (.tmp 93) _ rfl _ 9 i9 _ 1 16 Tryz.underlying41 HI.out HZ.out HS9.out HB.out rfl (by decide) v3 Y.length (Y.map Value.string) rfl R2.own _ 1 [.string nm'] rfl P3.src rfl (strs_one [nm']) hmy.out.1 hmy.out.2 (Nat.le_trans R2.kp.size (by simp <;> omega)) ?_) | (refine step_app_src rfl (.tmp 90) (.tmp 93) _ rfl _ 9 i9 _ 1 16 Tryz.underlying41 HI.out HZ.out HS9.out HB.out rfl (by decide) v3 Y.length (Y.map Value.string) rfl (R2.own.alloc _) _ 1 [.string nm'] rfl (nml_new _ _).src rfl (strs_one [nm']) hmy.out.1 hmy.out.2 (Nat.le_trans R2.kp.size (by simp <;> omega)) ?_)); intro v4 wb own4 gr4 hat4; have A2 := nml_own (Z := Y) (r := [nm']) own4; have KB : Kept (fun _ => False) w8 wb := (by first | exact KC2.via1 (kept_grown1 gr4) (fun x hx e => by have h1 := (R2.own.lt x e).1; have h2 : w8.drew.heap.size = w8.heap.size := rfl; have h3 := KA1.size; (try simp at h1); omega) | exact (KC2.alloc _).via1 (kept_grown1 gr4) (fun x hx e => by have h1 := (R2.own.lt x e).1; have h2 : w8.drew.heap.size = w8.heap.size := rfl; have h3 := KA1.size; (try simp at h1); omega)); have A1d := nml_grow gr4 (by first | exact A1c | exact A1c.frame (Same.alloc _ _)); obtain ⟨p4, q4, rfl⟩ := A2.slice; have bT9 := bT.kept KB (fun h => h); have fT9 : ∀ i, wb.frozen? ⟨wr.heap.size, i, none⟩ = false := bT9.frozen; have gT9 : ∀ i, wb.cell? ⟨wr.heap.size, i, none⟩ = [Value.slice xa X.length xc, .slice ya Y.length yc][i]? := bT9.cell; obtain ⟨b0, b1, b2, b3⟩ := HS2.out _ KB))
      all_goals
        have HE0 := (e11 KW KB hT hT8 bT9 A1d A2 (by intro q h; have h : _ ≤ q := h; have h2 : w8.drew.heap.size = w8.heap.size := rfl; (try simp at h); omega) (by intro q h; have h : _ ≤ q := h; have h2 := KA1.size; (try simp at h); omega))
        simp only [List.length_append, List.length_cons, List.length_nil, Nat.zero_add] at HE0
        have HE := Lib.hid HE0
        clear HE0
        generalize (wb.setCell ⟨wr.heap.size, 0, none⟩ (.slice p2 (X.length + 1) q2)).setCell ⟨wr.heap.size, 1, none⟩ (.slice p4 (Y.length + 1) q4) = w9 at *
        have K9 := HE.out.kp
        have gT : ∀ i, w9.cell? ⟨wr.heap.size, i, none⟩ = [Value.slice p2 (X.length + 1) q2, .slice p4 (Y.length + 1) q4][i]? := HE.out.b.cell
        have NX9 := HE.out.x
        have NY9 := HE.out.y
        clear b0 b1 b2 b3 fT9 gT9 bT9 A1d A2 KB HE HS2 HC e0 e1 e2 e3 bT
        obtain ⟨g, off, ta, tn, tc, na, nn, nc, e2, _, lg, ⟨c0, c1, c2, c3, c4, c5, c6⟩, hty, htm⟩ := HAT.out w9 (K2.trans K9) 1 hlt
        cases e2
        obtain ⟨g', off', ta', tn', tc', na', nn', nc', e2, _, lg', ⟨d0, d1, d2, d3, d4, d5, d6⟩, hty', htm'⟩ := HAT'.out w9 (K2.trans K9) 1 hlt'
        cases e2
        have gA : ∀ i, w9.cell? ⟨w.heap.size + 1, i, none⟩ = [Value.int .i64 op, .string nm, .int .i64 N, .int .i64 ty.kind, .string ty.name, .slice a n c, .slice (some ⟨g, off, none⟩) l.length mc][i]? := (BA.out.kept K9 (fun h => h)).cell
        have gB : ∀ i, w9.cell? ⟨w.heap.size + 2, i, none⟩ = [Value.int .i64 op, .string nm', .int .i64 N, .int .i64 ty'.kind, .string ty'.name, .slice a' n' c', .slice (some ⟨g', off', none⟩) l.length mc'][i]? := by rw [E4.out]; exact (BB.out.kept K9 (fun h => h)).cell
        have hcon := Lib.hid (fun (W : World) (kW : Kept (fun _ => False) w9 W) => HIH.out _ (List.getElem_mem hlt) l'[1] (X ++ [nm]) (Y ++ [nm']) W ok ok' _ _ _ _ _ _ _ _ (hty.frame (Same.of_kept kW (fun k h e => e))) (htm.frame (Same.of_kept kW (fun k h e => e))) (hty'.frame (Same.of_kept kW (fun k h e => e))) (htm'.frame (Same.of_kept kW (fun k h e => e))) ((NX9).frame (Same.of_kept kW (fun k h e => e))) ((NY9).frame (Same.of_kept kW (fun k h e => e))) (by have := HBX.out; have := tmDs_mem (List.getElem_mem hlt); simp; omega) (by have := HBY.out; have := tmDs_mem (List.getElem_mem hlt); simp; omega))
        unfold tmVal at hcon
        have HS := Lib.hid (alikeK_drop (bi := binderB op) (nm := nm) (nm' := nm') (X := X) (Y := Y) hlt hlt')
        rw [hco] at HS
        simp only [Bool.false_eq_true, if_false, if_true] at HS
        clear hty hty' htm htm'
        go_wp2_with fail
        go_still_tail 11, (by kernel_rfl)
        change wpList _ _ _ _ _ (World.drew w9)
        have kd : Kept (fun _ => False) w9 (World.drew w9) := (Kept.refl _ _).drew
        generalize World.drew w9 = w4 at *
        cases hr : alikeT l[1] l'[1] (X ++ [nm]) (Y ++ [nm'])
        · rw [hr] at hcon HS
          go_wp2_with (go_at_call 69; refine (hcon.out _ kd).mono ?_; rintro e w' ⟨rfl, k2⟩)
          go_ret
          exact ⟨by rw [hq.out, HS.out]; rfl, ((K2.trans K9).trans kd).trans k2⟩
        · rw [hr] at hcon HS
          go_wp2_with (go_at_call 69; refine (hcon.out _ kd).mono ?_; rintro e w' ⟨rfl, k2⟩)
          go_roundw
          case rel => exact ⟨1 + 1, by omega, by go_num, (K9.trans kd).trans k2, Lib.hid (by rw [hq.out, HS.out]; first | rfl | (rw [hbi]; rfl))⟩
          case measure => simp [intOf]; omega
    · have HZ : Hid (rr = true) := Lib.hid (by rw [hq.out, alikeK_end (by omega)])
      go_wp2_with fail
      go_ret
      exact ⟨by rw [HZ.out]; rfl, K2.trans kr⟩
theorem salike_any {t : Tm} (hb : BdTm t) : SAlC t := by
  induction hb with
  | mk hn ht hl ih =>
    rename_i o n i t l
    by_cases h : o = 20
    · subst h; exact salike_name ht hn
    · exact salike_one h ht ih hn
def cmpI (a b : Int) : Ordering := if a < b then .lt else if b < a then .gt else .eq
def cmpB : List UInt8 → List UInt8 → Ordering
  | [], [] => .eq
  | [], _ :: _ => .lt
  | _ :: _, [] => .gt
  | a :: l, b :: r => if a < b then .lt else if b < a then .gt else cmpB l r
def toI : Ordering → Int
  | .lt => -1
  | .eq => 0
  | .gt => 1
def orO (a b : Ordering) : Ordering := match a with
  | .eq => b
  | a => a
section
variable (SH : Ty → List UInt8)
mutual
def cmpT : Tm → Tm → Ordering
  | .mk op nm N ty l, .mk op' nm' N' ty' l' => orO (cmpI (tmNs l + 1 : Nat) (tmNs l' + 1 : Nat)) (orO (cmpI op op') (orO (cmpB nm.data.toList nm'.data.toList) (orO (cmpI N N') (orO (cmpB (SH ty) (SH ty')) (cmpK l l')))))
def cmpK : List Tm → List Tm → Ordering
  | [], [] => .eq
  | [], _ :: _ => .lt
  | _ :: _, [] => .gt
  | a :: l, b :: r => orO (cmpT a b) (cmpK l r)
end
end
def trB : Ordering → Ordering → Ordering → Bool
  | .eq, b, c => c == b
  | a, .eq, c => c == a
  | .lt, .lt, c => c == .lt
  | .gt, .gt, c => c == .gt
  | _, _, _ => true
def swp : Ordering → Ordering
  | .lt => .gt
  | .eq => .eq
  | .gt => .lt
theorem trB_or {a b c d e f : Ordering} (h : trB a b c = true) (h' : trB d e f = true) : trB (orO a d) (orO b e) (orO c f) = true := by
  cases a <;> cases b <;> cases c <;> first | (cases h; done) | (cases d <;> cases e <;> cases f <;> first | rfl | (cases h'; done))
theorem swp_or (a b : Ordering) : swp (orO a b) = orO (swp a) (swp b) := by cases a <;> rfl
theorem orO_eq (a b : Ordering) : orO a b = .eq ↔ a = .eq ∧ b = .eq := by cases a <;> cases b <;> simp [orO]
theorem cmpI_tr (a b c : Int) : trB (cmpI a b) (cmpI b c) (cmpI a c) = true := by
  unfold cmpI
  by_cases h1 : a < b <;> by_cases h2 : b < c <;> by_cases h3 : a < c <;> by_cases h4 : b < a <;> by_cases h5 : c < b <;> by_cases h6 : c < a <;> first | (exfalso; omega) | (simp only [h1, h2, h3, h4, h5, h6, if_true, if_false]; rfl)
theorem cmpI_anti (a b : Int) : cmpI b a = swp (cmpI a b) := by
  unfold cmpI
  by_cases h1 : a < b <;> by_cases h2 : b < a <;> first | (exfalso; omega) | (simp only [h1, h2, if_true, if_false]; rfl)
theorem cmpI_zero (a b : Int) : cmpI a b = .eq ↔ a = b := by
  unfold cmpI
  by_cases h1 : a < b <;> by_cases h2 : b < a <;> simp only [h1, h2, if_true, if_false] <;> simp <;> omega
theorem cmpB_anti : ∀ (a b : List UInt8), cmpB b a = swp (cmpB a b)
  | [], [] => rfl
  | [], _ :: _ => rfl
  | _ :: _, [] => rfl
  | a :: l, b :: r => by
    rw [cmpB, cmpB]
    have := cmpB_anti l r
    simp only [UInt8.lt_iff_toNat_lt]
    by_cases h1 : a.toNat < b.toNat <;> by_cases h2 : b.toNat < a.toNat <;> first | (exfalso; omega) | (simp only [h1, h2, if_true, if_false]; first | rfl | exact this)
theorem cmpB_zero : ∀ (a b : List UInt8), cmpB a b = .eq ↔ a = b
  | [], [] => by simp [cmpB]
  | [], _ :: _ => by simp [cmpB]
  | _ :: _, [] => by simp [cmpB]
  | a :: l, b :: r => by
    rw [cmpB]
    have := cmpB_zero l r
    simp only [UInt8.lt_iff_toNat_lt, List.cons.injEq]
    by_cases h1 : a.toNat < b.toNat
    · simp only [h1, if_true, reduceCtorEq, false_iff]
      rintro ⟨rfl, _⟩; omega
    · by_cases h2 : b.toNat < a.toNat
      · simp only [h1, h2, if_true, if_false, reduceCtorEq, false_iff]
        rintro ⟨rfl, _⟩; omega
      · simp only [h1, h2, if_false, this]
        have e : a = b := UInt8.toNat.inj (by omega)
        simp [e]
theorem cmpB_tr : ∀ (a b c : List UInt8), trB (cmpB a b) (cmpB b c) (cmpB a c) = true
  | [], [], [] => rfl
  | [], [], _ :: _ => rfl
  | [], _ :: _, [] => rfl
  | _ :: _, [], [] => rfl
  | _ :: _, [], _ :: _ => rfl
  | [], b :: r, c :: s => by
    show trB .lt (cmpB (b :: r) (c :: s)) .lt = true
    cases cmpB (b :: r) (c :: s) <;> rfl
  | a :: l, b :: r, [] => by
    show trB (cmpB (a :: l) (b :: r)) .gt .gt = true
    cases cmpB (a :: l) (b :: r) <;> rfl
  | a :: l, b :: r, c :: s => by
    rw [cmpB, cmpB, cmpB]
    have ih := cmpB_tr l r s
    simp only [UInt8.lt_iff_toNat_lt]
    generalize cmpB l r = x at *
    generalize cmpB r s = y at *
    generalize cmpB l s = z at *
    by_cases h1 : a.toNat < b.toNat <;> by_cases h2 : b.toNat < c.toNat <;> by_cases h3 : a.toNat < c.toNat <;> by_cases h4 : b.toNat < a.toNat <;> by_cases h5 : c.toNat < b.toNat <;> by_cases h6 : c.toNat < a.toNat <;> first | (exfalso; omega) | (simp only [h1, h2, h3, h4, h5, h6, if_true, if_false]; first | rfl | exact ih | (cases x <;> rfl) | (cases y <;> rfl))
theorem cmpT_tr (SH : Ty → List UInt8) : ∀ (a b c : Tm), trB (cmpT SH a b) (cmpT SH b c) (cmpT SH a c) = true := by
  intro a
  induction a using Tm.rec (motive_2 := fun l => ∀ (r s : List Tm), trB (cmpK SH l r) (cmpK SH r s) (cmpK SH l s) = true) with
  | mk op nm N ty l ih =>
    intro b c
    cases b with
    | mk op' nm' N' ty' r =>
      cases c with
      | mk op2 nm2 N2 ty2 s =>
        rw [cmpT, cmpT, cmpT]
        exact trB_or (cmpI_tr _ _ _) (trB_or (cmpI_tr _ _ _) (trB_or (cmpB_tr _ _ _) (trB_or (cmpI_tr _ _ _) (trB_or (cmpB_tr _ _ _) (ih r s)))))
  | nil =>
    rename_i r s
    cases r <;> cases s <;> simp only [cmpK] <;> first | rfl | skip
    rename_i a r b s
    generalize orO _ _ = x
    cases x <;> rfl
  | cons a l iha ihl =>
    rename_i r s
    cases r with
    | nil => cases s <;> simp only [cmpK] <;> rfl
    | cons b r =>
      cases s with
      | nil =>
        simp only [cmpK]
        generalize orO _ _ = x
        cases x <;> rfl
      | cons c s => simp only [cmpK]; exact trB_or (iha b c) (ihl r s)
theorem cmpT_anti (SH : Ty → List UInt8) : ∀ (a b : Tm), cmpT SH b a = swp (cmpT SH a b) := by
  intro a
  induction a using Tm.rec (motive_2 := fun l => ∀ (r : List Tm), cmpK SH r l = swp (cmpK SH l r)) with
  | mk op nm N ty l ih =>
    intro b
    cases b with
    | mk op' nm' N' ty' r =>
      rw [cmpT, cmpT, cmpI_anti, cmpI_anti op, cmpB_anti, cmpI_anti N, cmpB_anti (SH ty), ih r]
      simp only [swp_or]
  | nil => rename_i r; cases r <;> rfl
  | cons a l iha ihl =>
    rename_i r
    cases r with
    | nil => rfl
    | cons b r => simp only [cmpK, swp_or, iha b, ihl r]
theorem cmpT_zero {SH : Ty → List UInt8} {OK : Tm → Prop} (hk : ∀ t u, OK t → u ∈ t.kids → OK u) (hty : ∀ t u, OK t → OK u → t.op = u.op → SH t.ty = SH u.ty → t.ty = u.ty) : ∀ (a b : Tm), OK a → OK b → (cmpT SH a b = .eq ↔ a = b) := by
  intro a
  induction a using Tm.rec (motive_2 := fun l => ∀ (r : List Tm), (∀ t, t ∈ l → OK t) → (∀ t, t ∈ r → OK t) → (cmpK SH l r = .eq ↔ l = r)) with
  | mk op nm N ty l ih =>
    intro b ha hb
    cases b with
    | mk op' nm' N' ty' r =>
      rw [cmpT]
      simp only [orO_eq, cmpI_zero, cmpB_zero, Tm.mk.injEq]
      have ihr := ih r (fun t ht => hk _ t ha ht) (fun t ht => hk _ t hb ht)
      constructor
      · rintro ⟨h1, h2, h3, h4, h5, h6⟩
        refine ⟨h2, ?_, h4, hty _ _ ha hb h2 h5, ihr.1 h6⟩
        exact ByteArray.ext (Array.toList_inj.1 h3)
      · rintro ⟨h1, h2, h3, h4, h5⟩
        subst h1 h2 h3 h4 h5
        exact ⟨rfl, rfl, rfl, rfl, rfl, ihr.2 rfl⟩
  | nil => rename_i r h1 h2; cases r <;> simp [cmpK]
  | cons a l iha ihl =>
    rename_i r h1 h2
    cases r with
    | nil => simp [cmpK]
    | cons b r =>
      rw [cmpK, orO_eq, iha b (h1 a (by simp)) (h2 b (by simp)), ihl r (fun t ht => h1 t (List.mem_cons_of_mem _ ht)) (fun t ht => h2 t (List.mem_cons_of_mem _ ht)), List.cons.injEq]
theorem bytes_cmp : ∀ (a b : List UInt8), Lib.compareBytes a b = toI (cmpB a b)
  | [], [] => rfl
  | [], _ :: _ => rfl
  | _ :: _, [] => rfl
  | x :: a, y :: b => by
    rw [Lib.compareBytes, cmpB]
    have := bytes_cmp a b
    by_cases h1 : x < y
    · rw [if_pos h1, if_pos h1]; rfl
    · rw [if_neg h1, if_neg h1]
      by_cases h2 : y < x
      · rw [if_pos h2, if_pos h2]; rfl
      · rw [if_neg h2, if_neg h2]; exact this
theorem nan_any (a : Int) (w : World) : Calls Tryz.prog 178 #[.int .i64 a] w fun e w' => e = .returned (.bool false) ∧ w = w' := by
  go_enter Tryz.func178, Tryz.ntmps178
  go_wp2_with fail
  go_ret
  exact ⟨by simp, rfl⟩
theorem cmpInt_any (a b : Int) (w : World) : Calls Tryz.prog 116 #[.int .i64 a, .int .i64 b] w fun e w' => e = .returned (.int .i64 (toI (cmpI a b))) ∧ w = w' := by
  by_cases h1 : a < b
  · have hc : cmpI a b = .lt := by unfold cmpI; rw [if_pos h1]
    rw [hc]
    go_enter Tryz.func116, Tryz.ntmps116
    go_wp2_with (go_at_call 178; refine (nan_any _ _).mono ?_; rintro e w' ⟨rfl, rfl⟩)
    go_ret
    exact ⟨rfl, rfl⟩
  · by_cases h2 : b < a
    · have hc : cmpI a b = .gt := by unfold cmpI; rw [if_neg h1, if_pos h2]
      rw [hc]
      go_enter Tryz.func116, Tryz.ntmps116
      go_wp2_with (go_at_call 178; refine (nan_any _ _).mono ?_; rintro e w' ⟨rfl, rfl⟩)
      go_ret
      exact ⟨rfl, rfl⟩
    · have hc : cmpI a b = .eq := by unfold cmpI; rw [if_neg h1, if_neg h2]
      rw [hc]
      go_enter Tryz.func116, Tryz.ntmps116
      go_wp2_with (go_at_call 178; refine (nan_any _ _).mono ?_; rintro e w' ⟨rfl, rfl⟩)
      go_ret
      exact ⟨rfl, rfl⟩
set_option maxRecDepth 100000 in
theorem cmpStr_any (a b : ByteArray) (w : World) : Calls Tryz.prog 117 #[.string a, .string b] w fun e w' => e = .returned (.int .i64 (toI (cmpB a.data.toList b.data.toList))) ∧ w = w' := by
  have H : Hid (∀ w, Calls Tryz.prog 179 #[.string a, .string b] w fun e w' => e = .returned (.int .i64 (toI (cmpB a.data.toList b.data.toList))) ∧ w = w') := Lib.hid (by
    intro w
    rw [← bytes_cmp]
    go_enter Tryz.func179, Tryz.ntmps179
    go_wp2
    rw [run_callFunc_extern Tryz.func214 (by kernel_rfl) (by kernel_rfl) (by kernel_rfl) (e := Extern.BytealgCompare.compare) (by kernel_rfl), Lib.run_compareString]
    simp only [Result.andThen]
    rw [Oper.upon_value]
    go_wp2
    go_ret
    exact ⟨rfl, rfl⟩)
  go_enter Tryz.func117, Tryz.ntmps117
  go_wp2_with (go_at_call 179; refine (H.out _).mono ?_; rintro e w' ⟨rfl, rfl⟩)
  go_ret
  exact ⟨rfl, rfl⟩
def orL : List Int → Int
  | [] => 0
  | x :: l => if x = 0 then orL l else x
set_option maxRecDepth 100000 in
theorem or_any {w : World} {g off c : Nat} (l : List Int) (hn : l.length ≤ 1000000) (hc : ∀ i (h : i < l.length), w.cell? ⟨g, off + i, none⟩ = some (.int .i64 l[i])) :
    Calls Tryz.prog 115 #[.slice (some ⟨g, off, none⟩) l.length c] w fun e w' => e = .returned (.int .i64 (orL l)) ∧ w = w' := by
  have HC := Lib.hid hc
  have HN := Lib.hid hn
  clear hc
  go_enter Tryz.func115, Tryz.ntmps115
  go_wp2_with fail
  go_loop [8] (fun i => ∃ j : Nat, j ≤ l.length ∧ i = .int .i64 j ∧ Hid (orL l = orL (l.drop j))) (fun i => l.length - (intOf i).toNat)
  case atStart => exact ⟨0, Nat.zero_le _, rfl, Lib.hid rfl⟩
  case round =>
    obtain ⟨j, hj, rfl, hq⟩ := hrel
    by_cases hlt : j < l.length
    · have c0 := HC.out j hlt
      have HD : Hid (orL l = if l[j] = 0 then orL (l.drop (j + 1)) else l[j]) := Lib.hid (by rw [hq.out, List.drop_eq_getElem_cons hlt, orL])
      have hj2 : (j : Int) < (l.length : Int) := by omega
      by_cases hz : l[j] = 0
      · rw [hz] at c0
        go_wp2_with fail
        go_round
        case rel => exact ⟨j + 1, by omega, by go_num, Lib.hid (by rw [HD.out, if_pos hz])⟩
        case measure => simp [intOf]; omega
      · have hz2 : (l[j] == 0) = false := by simpa using hz
        have hz3 : (l[j] != 0) = true := by simpa using hz
        have HE : Hid (orL l = l[j]) := Lib.hid (by rw [HD.out, if_neg hz])
        go_wp2_with fail
        go_ret
        exact ⟨by rw [HE.out]; rfl, rfl⟩
    · have HZ : Hid (orL l = 0) := Lib.hid (by rw [hq.out, List.drop_eq_nil_of_le (by omega)]; rfl)
      go_wp2_with fail
      go_ret
      exact ⟨by rw [HZ.out]; rfl, rfl⟩
def str (l : List UInt8) : ByteArray := ⟨l.toArray⟩
theorem str_app (a b : List UInt8) : str a ++ str b = str (a ++ b) := by
  apply ByteArray.ext
  rw [ByteArray.data_append]
  simp [str]
theorem str_size (a : List UInt8) : (str a).size = a.length := by simp [str, ByteArray.size]
def tyComb (k : Int) (nm : ByteArray) (ks : List (List UInt8)) : List UInt8 :=
  if k = 1 then [105, 110, 116] else if k = 2 then [98, 111, 111, 108] else if k = 3 then nm.data.toList else if k = 5 then [115, 101, 116, 40] ++ ks.getD 0 [] ++ [41]
  else if k = 4 then [112, 97, 105, 114, 40] ++ ks.getD 0 [] ++ [44, 32] ++ ks.getD 1 [] ++ [41] else []
mutual
def tyShow : Ty → List UInt8
  | .mk k nm l => tyComb k nm (tyShows l)
def tyShows : List Ty → List (List UInt8)
  | [] => []
  | t :: l => tyShow t :: tyShows l
end
inductive OkTy : Ty → Prop
  | leaf {k : Int} {nm : ByteArray} (h : k = 1 ∨ k = 2 ∨ k = 3) : OkTy (.mk k nm [])
  | set {nm : ByteArray} {x : Ty} (h : OkTy x) : OkTy (.mk 5 nm [x])
  | pair {nm : ByteArray} {x y : Ty} (h : OkTy x) (h' : OkTy y) : OkTy (.mk 4 nm [x, y])
def tsC (t : Ty) : Prop := ∀ (w : World) (ok : Nat → Prop) (tk : Value), TyL ok w t.kids tk → (tyShow t).length ≤ 1000000 →
  Calls Tryz.prog 118 #[tyVal t tk] w fun e w' => e = .returned (.string (str (tyShow t))) ∧ Kept (fun _ => False) w w'
set_option maxHeartbeats 4000000 in
theorem ts_leaf {k : Int} {nm : ByteArray} {a : Option Addr} {n c : Nat} {w : World} (hk : k = 1 ∨ k = 2 ∨ k = 3) : Calls Tryz.prog 118 #[.agg #[.int .i64 k, .string nm, .slice a n c]] w fun e w' => e = .returned (.string (str (tyComb k nm []))) ∧ Kept (fun _ => False) w w' := by
  have K0 : Kept (fun _ => False) w (w.alloc (.cells #[.int .i64 k, .string nm, .slice a n c] 26)) := (Kept.refl _ _).alloc _
  rcases hk with rfl | rfl | rfl
  all_goals
    go_enter Tryz.func118, Tryz.ntmps118
    go_wp2_with fail
    go_ret
    exact ⟨rfl, K0⟩
set_option maxRecDepth 100000 in
set_option maxHeartbeats 4000000 in
theorem ts_set {x : Ty} {nm : ByteArray} (hx : tsC x) (hb : (tyShow x).length ≤ 1000000) : tsC (.mk 5 nm [x]) := by
  intro w ok tk hk _
  obtain ⟨g, off, cap, k0, rfl, hg, c0, c1, c2, hxk⟩ := TyL.one' (show TyL ok w [x] tk from hk)
  obtain ⟨xa, xn, xc, rfl⟩ := hxk.slice
  have Z : w.alloc (.cells #[.int .i64 5, .string nm, .slice (some ⟨g, off, none⟩) 1 cap] 26) = w.alloc (.cells #[.int .i64 5, .string nm, .slice (some ⟨g, off, none⟩) 1 cap] 26) := rfl
  have K0 : Kept (fun _ => False) w (w.alloc (.cells #[.int .i64 5, .string nm, .slice (some ⟨g, off, none⟩) 1 cap] 26)) := (Kept.refl _ _).alloc _
  have S0 := Same.of_kept (ok := ok) K0 (fun _ _ e => e)
  have d0 := S0.cell hg c0
  have d1 := S0.cell hg c1
  have d2 := S0.cell hg c2
  have HX := Lib.hid (hx _ ok _ (hxk.frame S0) hb)
  have hz : Hid ((str (tyShow x)).size ≤ 1000000) := Lib.hid (by rw [str_size]; exact hb)
  have hz1 := hz.out
  unfold tyVal at HX
  clear hb c0 c1 c2 Z
  change Calls Tryz.prog 118 #[.agg #[.int .i64 5, .string nm, .slice (some ⟨g, off, none⟩) 1 cap]] w _
  go_enter Tryz.func118, Tryz.ntmps118
  go_wp2_with fail
  refine HX.out.mono ?_
  rintro e w1 ⟨rfl, k1⟩
  go_wp2_with fail
  go_ret
  refine ⟨?_, K0.trans k1⟩
  rw [show tyShow (.mk 5 nm [x]) = [115, 101, 116, 40] ++ tyShow x ++ [41] by simp [tyShow, tyShows, tyComb], ← str_app, ← str_app]
  rfl
set_option maxRecDepth 100000 in
set_option maxHeartbeats 8000000 in
theorem ts_pair {x y : Ty} {nm : ByteArray} (hx : tsC x) (hy : tsC y) (hb : (tyShow x).length ≤ 1000000) (hc : (tyShow y).length ≤ 1000000) : tsC (.mk 4 nm [x, y]) := by
  intro w ok tk hk _
  obtain ⟨g, off, cap, k0, k1, rfl, hg, c0, c1, c2, c3, c4, c5, hxk, hyk⟩ := TyL.two' (show TyL ok w [x, y] tk from hk)
  obtain ⟨xa, xn, xc, rfl⟩ := hxk.slice
  obtain ⟨ya, yn, yc, rfl⟩ := hyk.slice
  have bA : Blk (w.alloc (.cells #[.int .i64 4, .string nm, .slice (some ⟨g, off, none⟩) 2 cap] 26)) w.heap.size 26 [.int .i64 4, .string nm, .slice (some ⟨g, off, none⟩) 2 cap] := Blk.new w 26 _
  have K0 : Kept (fun _ => False) w (w.alloc (.cells #[.int .i64 4, .string nm, .slice (some ⟨g, off, none⟩) 2 cap] 26)) := (Kept.refl _ _).alloc _
  have S0 := Same.of_kept (ok := ok) K0 (fun _ _ e => e)
  have d0 := S0.cell hg c0
  have d1 := S0.cell hg c1
  have d2 := S0.cell hg c2
  have d3 := S0.cell hg c3
  have d4 := S0.cell hg c4
  have d5 := S0.cell hg c5
  have lg := cell_lt c0
  have HX := Lib.hid (fun W (k : Kept (fun _ => False) w W) => hx W ok _ (hxk.frame (Same.of_kept (ok := ok) k (fun _ _ e => e))) hb)
  have HY := Lib.hid (fun W (k : Kept (fun _ => False) w W) => hy W ok _ (hyk.frame (Same.of_kept (ok := ok) k (fun _ _ e => e))) hc)
  have hz1 : (str (tyShow x)).size ≤ 1000000 := by rw [str_size]; exact hb
  have hz2 : (str (tyShow y)).size ≤ 1000000 := by rw [str_size]; exact hc
  unfold tyVal at HX HY
  clear hb hc c0 c1 c2 c3 c4 c5
  generalize hsx : str (tyShow x) = sx at *
  generalize hsy : str (tyShow y) = sy at *
  have HSX := Lib.hid hsx
  have HSY := Lib.hid hsy
  clear hsx hsy hx hy hk
  have HT : Hid (str (tyShow (.mk 4 nm [x, y])) = ⟨#[112, 97, 105, 114, 40]⟩ ++ sx ++ ⟨#[44, 32]⟩ ++ sy ++ ⟨#[41]⟩) := Lib.hid (by
    rw [show tyShow (.mk 4 nm [x, y]) = [112, 97, 105, 114, 40] ++ tyShow x ++ [44, 32] ++ tyShow y ++ [41] by simp [tyShow, tyShows, tyComb], ← str_app, ← str_app, ← str_app, ← str_app, HSX.out, HSY.out]
    rfl)
  change Calls Tryz.prog 118 #[.agg #[.int .i64 4, .string nm, .slice (some ⟨g, off, none⟩) 2 cap]] w _
  go_enter Tryz.func118, Tryz.ntmps118
  go_wp2_with fail
  generalize w.alloc (.cells #[.int .i64 4, .string nm, .slice (some ⟨g, off, none⟩) 2 cap] 26) = w1 at *
  have g2 : w1.cell? ⟨w.heap.size, 2, none⟩ = some (.slice (some ⟨g, off, none⟩) 2 cap) := bA.cell 2
  have ng : g ≠ w.heap.size := by omega
  have HS := Lib.hid (fun W (k : Kept (fun _ => False) w1 W) => (⟨(bA.kept k (fun h => h)).cell 2, (Same.of_kept (ok := ok) k (fun _ _ e => e)).cell hg d0, (Same.of_kept (ok := ok) k (fun _ _ e => e)).cell hg d1, (Same.of_kept (ok := ok) k (fun _ _ e => e)).cell hg d2, (Same.of_kept (ok := ok) k (fun _ _ e => e)).cell hg d3, (Same.of_kept (ok := ok) k (fun _ _ e => e)).cell hg d4, (Same.of_kept (ok := ok) k (fun _ _ e => e)).cell hg d5⟩ : W.cell? ⟨w.heap.size, 2, none⟩ = some (.slice (some ⟨g, off, none⟩) 2 cap) ∧ W.cell? ⟨g, off, none⟩ = some (.int .i64 x.kind) ∧ W.cell? ⟨g, off + 1, none⟩ = some (.string x.name) ∧ W.cell? ⟨g, off + 2, none⟩ = some (.slice xa xn xc) ∧ W.cell? ⟨g, off + 3, none⟩ = some (.int .i64 y.kind) ∧ W.cell? ⟨g, off + 4, none⟩ = some (.string y.name) ∧ W.cell? ⟨g, off + 5, none⟩ = some (.slice ya yn yc)))
  have KD : Kept (fun _ => False) w1 w1.drew := (Kept.refl _ _).drew
  have HXY : Hid (∀ (W : World) (v : Value) (s : ByteArray), Kept (fun _ => False) w1 W → ((v = .agg #[.int .i64 x.kind, .string x.name, .slice xa xn xc] ∧ s = sx) ∨ (v = .agg #[.int .i64 y.kind, .string y.name, .slice ya yn yc] ∧ s = sy)) → Calls Tryz.prog 118 #[v] W fun e w' => e = .returned (.string s) ∧ Kept (fun _ => False) W w') := Lib.hid (by
    rintro W v s k (⟨rfl, rfl⟩ | ⟨rfl, rfl⟩)
    · exact HX.out W (K0.trans k)
    · exact HY.out W (K0.trans k))
  clear HX HY
  go_region_held (fun w' => w'.cell? ⟨w.heap.size, 2, none⟩ = some (.slice (some ⟨g, off, none⟩) 2 cap) ∧ w'.cell? ⟨g, off, none⟩ = some (.int .i64 x.kind) ∧ w'.cell? ⟨g, off + 1, none⟩ = some (.string x.name) ∧ w'.cell? ⟨g, off + 2, none⟩ = some (.slice xa xn xc) ∧ w'.cell? ⟨g, off + 3, none⟩ = some (.int .i64 y.kind) ∧ w'.cell? ⟨g, off + 4, none⟩ = some (.string y.name) ∧ w'.cell? ⟨g, off + 5, none⟩ = some (.slice ya yn yc)) (go_keep)
    (first | (go_at_call 118; refine (HXY.out _ _ _ (by first | exact KD | exact KE) (by first | exact Or.inl ⟨rfl, rfl⟩ | exact Or.inr ⟨rfl, rfl⟩)).mono ?_; rintro e wq ⟨rfl, kq⟩; first | (have KF := KE.trans kq; obtain ⟨n0, n1, n2, n3, n4, n5, n6⟩ := HS.out _ KF) | (have KE := KD.trans kq; obtain ⟨m0, m1, m2, m3, m4, m5, m6⟩ := HS.out _ KE)))
  all_goals
    go_wp2_with fail
    go_ret
    refine ⟨?_, K0.trans KF⟩
    rw [HT.out]
    rfl
theorem ts_any {t : Ty} (h : OkTy t) (hb : (tyShow t).length ≤ 1000000) : tsC t := by
  induction h with
  | @leaf k nm h =>
    intro w ok tk hk _
    obtain ⟨a, n, c, rfl⟩ := hk.slice
    unfold tyVal
    rw [show tyShow (.mk k nm []) = tyComb k nm [] by simp [tyShow, tyShows]]
    exact ts_leaf h
  | set h ih =>
    rename_i nm x
    have e : (tyShow (.mk 5 nm [x])).length = (tyShow x).length + 5 := by simp [tyShow, tyShows, tyComb] <;> omega
    exact ts_set (ih (by omega)) (by omega)
  | pair h h' ih ih' =>
    rename_i nm x y
    have e : (tyShow (.mk 4 nm [x, y])).length = (tyShow x).length + (tyShow y).length + 8 := by simp [tyShow, tyShows, tyComb] <;> omega
    exact ts_pair (ih (by omega)) (ih' (by omega)) (by omega) (by omega)
def ShOk (t : Ty) : Prop := (OkTy t ∧ (tyShow t).length ≤ 1000000) ∨ t = ty0
inductive OdTm : Tm → Prop
  | mk {o : Int} {n : ByteArray} {i : Int} {t : Ty} {l : List Tm} (hn : l.length ≤ 1000000) (ht : ShOk t) (hz : tmNs l + 1 ≤ 100000) (hl : ∀ k, k ∈ l → OdTm k) : OdTm (.mk o n i t l)
def OdC (t : Tm) : Prop := ∀ (t' : Tm) (w : World) (ok ok' : Nat → Prop) (tk kk tk' kk' : Value), OdTm t' → TyL ok w t.ty.kids tk → TmL ok w t.kids kk → TyL ok' w t'.ty.kids tk' → TmL ok' w t'.kids kk' →
  Calls Tryz.prog 71 #[tmVal t tk kk, tmVal t' tk' kk'] w fun e w' => e = .returned (.int .i64 (toI (cmpT tyShow t t'))) ∧ Kept (fun _ => False) w w'
theorem cmpK_drop {l l' : List Tm} {k : Nat} (h : k < l.length) (h' : k < l'.length) : cmpK tyShow (l.drop k) (l'.drop k) = orO (cmpT tyShow l[k] l'[k]) (cmpK tyShow (l.drop (k + 1)) (l'.drop (k + 1))) := by
  rw [List.drop_eq_getElem_cons h, List.drop_eq_getElem_cons h', cmpK]
theorem cmpK_end {l l' : List Tm} {k : Nat} (h : l.length ≤ k) (hk : k ≤ l'.length) : cmpK tyShow (l.drop k) (l'.drop k) = if k < l'.length then .lt else .eq := by
  rw [List.drop_eq_nil_of_le h]
  by_cases hlt : k < l'.length
  · rw [List.drop_eq_getElem_cons hlt, cmpK, if_pos hlt]
  · rw [List.drop_eq_nil_of_le (Nat.le_of_not_lt hlt), cmpK, if_neg hlt]
theorem cmpK_end' {l l' : List Tm} {k : Nat} (h : k < l.length) (hk : l'.length ≤ k) : cmpK tyShow (l.drop k) (l'.drop k) = .gt := by
  rw [List.drop_eq_getElem_cons h, List.drop_eq_nil_of_le hk, cmpK]
set_option maxRecDepth 100000 in
set_option maxHeartbeats 8000000 in
theorem cmpF_any {l l' : List Tm} {w : World} {ok ok' : Nat → Prop} {v v' : Value} (IH : ∀ u, u ∈ l → OdC u) (IO : ∀ u, u ∈ l' → OdTm u) (hn : l.length ≤ 1000000) (hn' : l'.length ≤ 1000000) (h : TmL ok w l v) (h' : TmL ok' w l' v') :
    Calls Tryz.prog 119 #[v, v', .func (.func 71) #[] #[]] w fun e w' => e = .returned (.int .i64 (toI (cmpK tyShow l l'))) ∧ Kept (fun _ => False) w w' := by
  obtain ⟨a, n, c, rfl⟩ := h.slice
  obtain ⟨a', n', c', rfl⟩ := h'.slice
  obtain rfl : n = l.length := h.len
  obtain rfl : n' = l'.length := h'.len
  have HIH := Lib.hid IH
  have HIO := Lib.hid IO
  have HAT := Lib.hid (fun W (k : Kept (fun _ => False) w W) => (h.frame (Same.of_kept k (fun _ _ e => e))).at)
  have HAT' := Lib.hid (fun W (k : Kept (fun _ => False) w W) => (h'.frame (Same.of_kept k (fun _ _ e => e))).at)
  clear h h' IH IO
  go_enter Tryz.func119, Tryz.ntmps119
  go_wp2_with fail
  go_loopw [13] (fun i wr => ∃ j : Nat, j ≤ l.length ∧ j ≤ l'.length ∧ i = .int .i64 j ∧ Kept (fun _ => False) w wr ∧ Hid (cmpK tyShow l l' = cmpK tyShow (l.drop j) (l'.drop j))) (fun i _ => l.length - (intOf i).toNat)
  case atStart => exact ⟨0, Nat.zero_le _, Nat.zero_le _, rfl, Kept.refl _ _, Lib.hid rfl⟩
  case round =>
    obtain ⟨j, hj, hj', rfl, kr, hq⟩ := hrel
    by_cases hlt : j < l.length
    · obtain ⟨g, off, ta, tn, tc, ma, mn, mc, rfl, _, lg, ⟨c0, c1, c2, c3, c4, c5, c6⟩, hty, htm⟩ := HAT.out wr kr j hlt
      have hj2 : (j : Int) < (l.length : Int) := by omega
      have hj3 : (j : Int) < 1000000 := by omega
      by_cases hlt' : j < l'.length
      · obtain ⟨g', off', ta', tn', tc', ma', mn', mc', rfl, _, lg', ⟨d0, d1, d2, d3, d4, d5, d6⟩, hty', htm'⟩ := HAT'.out wr kr j hlt'
        have hcon := Lib.hid (fun (W : World) (kW : Kept (fun _ => False) wr W) => HIH.out _ (List.getElem_mem hlt) l'[j] W ok ok' _ _ _ _ (HIO.out _ (List.getElem_mem hlt')) (hty.frame (Same.of_kept kW (fun k h e => e))) (htm.frame (Same.of_kept kW (fun k h e => e))) (hty'.frame (Same.of_kept kW (fun k h e => e))) (htm'.frame (Same.of_kept kW (fun k h e => e))))
        unfold tmVal at hcon
        have HS := Lib.hid (cmpK_drop hlt hlt')
        clear hty hty' htm htm'
        have hj4 : (j : Int) < (l'.length : Int) := by omega
        have hj5 : ¬ (l'.length : Int) ≤ (j : Int) := by omega
        have ng : g ≠ wr.heap.size := by omega
        have ng' : g' ≠ wr.heap.size := by omega
        have kA := Lib.hid (fun (cs cs' : Array Value) => ((Kept.refl (fun _ => False) wr).alloc (.cells cs 28)).alloc (.cells cs' 28))
        cases hr : cmpT tyShow l[j] l'[j]
        case eq =>
          rw [hr] at hcon HS
          simp only [toI] at hcon
          go_wp2_with fail
          have KA : Kept (fun _ => False) wr ((wr.alloc (.cells #[.int .i64 l[j].op, .string l[j].name, .int .i64 l[j].n, .int .i64 l[j].ty.kind, .string l[j].ty.name, .slice ta tn tc, .slice ma mn mc] 28)).alloc (.cells #[.int .i64 l'[j].op, .string l'[j].name, .int .i64 l'[j].n, .int .i64 l'[j].ty.kind, .string l'[j].ty.name, .slice ta' tn' tc', .slice ma' mn' mc'] 28)) := kA.out _ _
          generalize ((wr.alloc (.cells #[.int .i64 l[j].op, .string l[j].name, .int .i64 l[j].n, .int .i64 l[j].ty.kind, .string l[j].ty.name, .slice ta tn tc, .slice ma mn mc] 28)).alloc (.cells #[.int .i64 l'[j].op, .string l'[j].name, .int .i64 l'[j].n, .int .i64 l'[j].ty.kind, .string l'[j].ty.name, .slice ta' tn' tc', .slice ma' mn' mc'] 28)) = w4 at *
          refine (hcon.out w4 KA).mono ?_
          rintro e w' ⟨rfl, k2⟩
          clear c0 c1 c2 c3 c4 c5 c6 d0 d1 d2 d3 d4 d5 d6 hcon ng ng' kA
          go_wp2_with fail
          go_roundw
          case rel => exact ⟨j + 1, by omega, by omega, by go_num, (kr.trans KA).trans k2, Lib.hid (by rw [hq.out, HS.out]; rfl)⟩
          case measure => simp [intOf]; omega
        all_goals
          rw [hr] at hcon HS
          simp only [toI] at hcon
          go_wp2_with fail
          have KA : Kept (fun _ => False) wr ((wr.alloc (.cells #[.int .i64 l[j].op, .string l[j].name, .int .i64 l[j].n, .int .i64 l[j].ty.kind, .string l[j].ty.name, .slice ta tn tc, .slice ma mn mc] 28)).alloc (.cells #[.int .i64 l'[j].op, .string l'[j].name, .int .i64 l'[j].n, .int .i64 l'[j].ty.kind, .string l'[j].ty.name, .slice ta' tn' tc', .slice ma' mn' mc'] 28)) := kA.out _ _
          generalize ((wr.alloc (.cells #[.int .i64 l[j].op, .string l[j].name, .int .i64 l[j].n, .int .i64 l[j].ty.kind, .string l[j].ty.name, .slice ta tn tc, .slice ma mn mc] 28)).alloc (.cells #[.int .i64 l'[j].op, .string l'[j].name, .int .i64 l'[j].n, .int .i64 l'[j].ty.kind, .string l'[j].ty.name, .slice ta' tn' tc', .slice ma' mn' mc'] 28)) = w4 at *
          refine (hcon.out w4 KA).mono ?_
          rintro e w' ⟨rfl, k2⟩
          clear c0 c1 c2 c3 c4 c5 c6 d0 d1 d2 d3 d4 d5 d6 hcon ng ng' kA
          go_wp2_with fail
          go_ret
          exact ⟨by rw [hq.out, HS.out]; rfl, (kr.trans KA).trans k2⟩
      · have HZ : Hid (cmpK tyShow l l' = .gt) := Lib.hid (by rw [hq.out, cmpK_end' hlt (by omega)])
        have hj4 : (l'.length : Int) ≤ (j : Int) := by omega
        have kA := Lib.hid (fun (cs : Array Value) => (Kept.refl (fun _ => False) wr).alloc (.cells cs 28))
        go_wp2_with fail
        go_ret
        exact ⟨by rw [HZ.out]; rfl, kr.trans (kA.out _)⟩
    · have HE := Lib.hid (cmpK_end (l := l) (l' := l') (k := j) (by omega) hj')
      by_cases hlt' : j < l'.length
      · have HZ : Hid (cmpK tyShow l l' = .lt) := Lib.hid (by rw [hq.out, HE.out, if_pos hlt'])
        have hj4 : (l.length : Int) < (l'.length : Int) := by omega
        go_wp2_with fail
        go_ret
        exact ⟨by rw [HZ.out]; rfl, kr⟩
      · have HZ : Hid (cmpK tyShow l l' = .eq) := Lib.hid (by rw [hq.out, HE.out, if_neg hlt'])
        have hj4 : ¬ (l.length : Int) < (l'.length : Int) := by omega
        go_wp2_with fail
        go_ret
        exact ⟨by rw [HZ.out]; rfl, kr⟩
end Go.Proofs.YtfhedienjnfdcaaGreatDoor
namespace Go.Proofs.YtfhedienjnfdcaaGreatDoor
open Go
section
variable {P : Program} {ops : Array Oper} {C : World → Prop}
def headQ (P : Program) (ops : Array Oper) (C : World → Prop) (n : Nat) (L : Array Bool → Act → Prop) : Nat → Array Bool → Act → Prop
  | 0, s, a => L s a
  | f + 1, s, a => Region.ready .any ops s ≠ [] ∧ ∀ i, i ∈ Region.ready .any ops s → i < n ∧ qOp P ops C i (headQ P ops C n L f (s.setIfInBounds i true)) a
theorem headQ_run {n g : Nat} {L : Array Bool → Act → Prop} {Q : Exit → Act → World → Prop} (hL : ∀ s a w, C w → L s a → wpAny P .any ops Q g s a w) :
    ∀ (f : Nat) (s : Array Bool) (a : Act) (w : World), C w → headQ P ops C n L f s a → wpAny P .any ops Q (f + g) s a w := by
  intro f
  induction f with
  | zero => intro s a w hw h; rw [Nat.zero_add]; exact hL s a w hw h
  | succ f ih =>
    intro s a w hw h
    rw [Nat.add_right_comm]
    refine ⟨fun e => absurd e h.1, fun i hi => ?_⟩
    exact wpOp_of_qOp hw (fun a' w' hw' h' => ih _ a' w' hw' h') (h.2 i hi).2
theorem headQ_swap {n i : Nat} {oi : Oper} {v : Value} {L : Array Bool → Act → Prop} (hi : ops[i]? = some oi) (hsel : ∀ (j : Nat) (o : Oper) cs b, ops[j]? = some o → o.op ≠ .select cs b)
    (hs : Region.sinkB .any ops n = true) (hc : Region.chainB .any ops n = true) (hn : n < ops.size) (hin : i < n) (hdone : ∀ s a, L s a → ∀ j, j ∈ Region.ready .any ops s → n ≤ j) :
    ∀ (f : Nat) (s : Array Bool) (a : Act), HeadInv .any ops n s →
      (∀ j oj, ops[j]? = some oj → j ≠ i → s.getD j true = false → (∀ e ∈ oj.after, Region.binds .any e = true → e.on ≠ i) → oi.apart ops oj = true) →
      i ∈ Region.ready .any ops s → YieldsIn P ops C oi v a → headQ P ops C n L f (s.setIfInBounds i true) (a.put oi.dst v) → headQ P ops C n L (f + 1) s a := by
  intro f
  induction f with
  | zero =>
    intro s a inv _ hr hy H
    have hun := (mem_ready.1 hr).1
    refine ⟨fun e => (by rw [e] at hr; cases hr), fun j hj => ?_⟩
    have hjn : j < n := Nat.lt_of_not_le fun h => tail_waits hs hc hn inv _ i rfl hin hun j h hj
    by_cases hji : j = i
    · subst hji; exact ⟨hjn, hy.qOp hi H⟩
    · exact absurd (hdone _ _ H j (ready_mono hj hji)) (by omega)
  | succ f ih =>
    intro s a inv hfree hr hy H
    have hun := (mem_ready.1 hr).1
    refine ⟨fun e => (by rw [e] at hr; cases hr), fun j hj => ?_⟩
    have hjn : j < n := Nat.lt_of_not_le fun h => tail_waits hs hc hn inv _ i rfl hin hun j h hj
    by_cases hji : j = i
    · subst hji; exact ⟨hjn, hy.qOp hi H⟩
    · have h1 := (H.2 j (ready_mono hj hji)).2
      obtain ⟨hjun, oj, hoj, hall⟩ := mem_ready.1 hj
      have hnot : ∀ e ∈ oj.after, Region.binds .any e = true → e.on ≠ i := fun e he hb q => by
        have h3 := hall e he hb
        rw [q, getD_both hun] at h3; cases h3
      have h2 := qOp_put hoj (hfree j oj hoj hji hjun hnot) (fun cs b => hsel i oi cs b hi) (fun cs b => hsel j oj cs b hoj) hy h1
      refine ⟨hjn, qOp_mono (fun a' h3 => ih _ a' (inv.set hj hjn) ?_ (ready_mono hr (Ne.symm hji)) h3.1 ?_) h2⟩
      · intro k ok hk hki hkun hno
        refine hfree k ok hk hki ?_ hno
        by_cases hjk : j = k
        · subst hjk; exact hjun
        · rw [getD_set_ne true hjk] at hkun; exact hkun
      · rw [Array.setIfInBounds_comm _ _ hji]; exact h3.2
theorem headQ_lex {n g : Nat} {T : Act → Prop} (hsel : Region.noSelect ops = true) (hs : Region.sinkB .any ops n = true) (hc : Region.chainB .any ops n = true) (hn : n < ops.size) :
    ∀ (l : List Oper) (k : Nat) (s : Array Bool) (a : Act), (∀ j, j < l.length → l[j]? = ops[k + j]?) → k + l.length = n → HeadInv .any ops n s →
    Region.lexHead .any ops g l.length k s = true → wpQuiet P ops C T l a → headQ P ops C n (fun s' a' => Region.seqB .any ops g n s' = true ∧ T a') l.length s a := by
  intro l
  induction l with
  | nil =>
    intro k s a _ hk _ hB h
    obtain rfl : k = n := by simpa using hk
    exact ⟨hB, h⟩
  | cons o l ih =>
    intro k s a hl hk inv hB h
    have h0 : ops[k]? = some o := by have := hl 0 (by simp); simpa using this.symm
    simp only [List.length_cons, Region.lexHead, Bool.and_eq_true] at hB
    obtain ⟨⟨hr, hf⟩, hB⟩ := hB
    have hkn : k < n := by simp only [List.length_cons] at hk; omega
    have hr' : k ∈ Region.ready .any ops s := by simpa using hr
    obtain ⟨v, hy, hK⟩ := yieldsIn_of_qOp h0 (show qOp P ops C k (wpQuiet P ops C T l) a by unfold qOp; simp only [h0]; exact h)
    refine headQ_swap h0 (Region.noSelect_spec hsel) hs hc hn hkn (fun s' a' q => seqB_ready q.1) l.length s a inv (Region.free_spec h0 hf) hr' hy (ih (k + 1) _ _ (fun j hj => ?_) ?_ (inv.set hr' hkn) hB hK)
    · have := hl (j + 1) (by simp; omega)
      rw [List.getElem?_cons_succ] at this
      rw [this]; congr 1; omega
    · simp only [List.length_cons] at hk; omega
theorem wp_quiet_tail {ι : Type} {W : ι → World} {id : Nat} {Q : Exit → Act → World → Prop} {a : Act} {w : World} {l : List Oper} (n : Nat) (hm : P.follows .mixedOrders = true) (hB : Region.lexTailB .any l.toArray n = true) (h0 : ∃ i, w.drew = W i)
    (h : wpQuiet P l.toArray (fun w' => ∃ i, w' = W i) (fun a' => ∀ w', (∃ i, w' = W i) → wpList P l.toArray Q (l.drop n) a' w') (l.take n) a) : (Code.region id l.toArray true).wp P Q a w := by
  simp only [Region.lexTailB, Bool.and_eq_true, decide_eq_true_eq] at hB
  obtain ⟨⟨⟨⟨hsel, hn⟩, hs⟩, hc⟩, hlex⟩ := hB
  have hn' : n < l.length := by simpa using hn
  have e1 : (l.take n).length = n := by simp; omega
  have e2 : (l.drop n).length = l.toArray.size - n := by simp
  have inv : HeadInv .any l.toArray n (Array.replicate l.toArray.size false) :=
    ⟨by simp, fun j oj _ hl => (by rw [getD_replicate_false] at hl; cases hl), fun t _ ht => getD_in (by simpa using ht) (getD_replicate_false _ _)⟩
  have H := headQ_lex (g := l.toArray.size - n) hsel hs hc hn (l.take n) 0 _ a (fun j hj => by rw [e1] at hj; simp [hj]) (by simpa using e1) inv (by rw [e1]; exact hlex) h
  refine wp_region_any hm ?_
  have R := headQ_run (Q := Q) (g := l.toArray.size - n) (fun s a' w' hw' hL => by
    have := wpAny_of_seq (md := .any) (Q' := Q) (l.drop n) n s a' w' (fun j => by simp [List.getElem?_drop]) (by rw [e2]; exact hL.1) (hL.2 w' hw')
    rwa [e2] at this) _ _ _ w.drew h0 H
  rw [e1, show n + (l.toArray.size - n) = l.toArray.size by omega] at R
  exact R
theorem wp_quiet_all {ι : Type} {W : ι → World} {id : Nat} {Q : Exit → Act → World → Prop} {a : Act} {w : World} {l : List Oper} (hm : P.follows .mixedOrders = true) (hB : Region.lexB .any l.toArray = true) (h0 : ∃ i, w.drew = W i)
    (h : wpQuiet P l.toArray (fun w' => ∃ i, w' = W i) (fun a' => ∀ w', (∃ i, w' = W i) → Q .normal a' w') l a) : (Code.region id l.toArray true).wp P Q a w :=
  wp_region_quiet (C := fun w' => ∃ i, w' = W i) hm hB h0 (by simpa using h)
end
end Go.Proofs.YtfhedienjnfdcaaGreatDoor
namespace Go.Proofs.YtfhedienjnfdcaaGreatDoor
open Go.RowKit
theorem list_nil {α : Type} {l : List α} (h : l.length = 0) : l = [] := List.length_eq_zero_iff.1 h
theorem list_one' {α : Type} {l : List α} (h : l.length = 1) : ∃ x, l = [x] := by
  match l, h with
  | [x], _ => exact ⟨x, rfl⟩
theorem list_two {α : Type} {l : List α} (h : l.length = 2) : ∃ x y, l = [x, y] := by
  match l, h with
  | [x, y], _ => exact ⟨x, y, rfl⟩
theorem ty_ok (most deep : Nat) : ∀ (t : Ty) (d : Nat) (wi : Bool) (c : Nat), c ≤ most → (tfS most deep t d wi c).1 = true → OkTy t ∧ (tyShow t).length + 24 * c ≤ 24 * (tfS most deep t d wi c).2 := by
  intro t
  induction t using Ty.rec (motive_2 := fun l => ∀ (d c : Nat), c ≤ most → (tfsS most deep l d c).1 = true → (∀ t, t ∈ l → OkTy t) ∧ ((tyShows l).map List.length).sum + 24 * c ≤ 24 * (tfsS most deep l d c).2) with
  | mk k nm l ih =>
    intro d wi c hc h
    rw [tf_eq] at h ⊢
    split at h
    · rename_i hb
      rw [if_pos hb]
      have hb' := hb
      simp only [Bool.and_eq_true, decide_eq_true_eq] at hb'
      obtain ⟨i1, i2⟩ := ih _ _ hb'.1.1 h
      rcases head_yes hb'.2 with hl | ⟨hl, he⟩
      · have hln : l = [] := by
          rcases hl with h | h | h
          · exact list_nil h.2.1
          · exact list_nil h.2.2.1
          · exact list_nil h.2.1
        subst hln
        refine ⟨.leaf (by rcases hl with h | h | h <;> simp [h.1]), ?_⟩
        rw [tyShow, tyShows]
        simp only [tyShows, List.map_nil, List.sum_nil] at i2
        have hz : (tyComb k nm []).length ≤ 24 := by
          rcases hl with h | h | h
          · rw [h.1]; simp [tyComb]
          · rw [h.1]; simp [tyComb]
          · rw [h.1]
            have := h.2.2
            unfold identB at this
            simp only [Bool.and_eq_true, decide_eq_true_eq] at this
            show nm.data.toList.length ≤ 24
            rw [ba_len]; omega
        omega
      · rcases hl with ⟨rfl, hn⟩ | ⟨rfl, hn⟩
        · obtain ⟨x, rfl⟩ := list_one' hn
          refine ⟨.set (i1 x (by simp)), ?_⟩
          simp only [tyShows, List.map_cons, List.map_nil, List.sum_cons, List.sum_nil] at i2
          simp [tyShow, tyShows, tyComb]
          omega
        · obtain ⟨x, y, rfl⟩ := list_two hn
          refine ⟨.pair (i1 x (by simp)) (i1 y (by simp)), ?_⟩
          simp only [tyShows, List.map_cons, List.map_nil, List.sum_cons, List.sum_nil] at i2
          simp [tyShow, tyShows, tyComb]
          omega
    · cases h
  | nil => rename_i d c hc h; exact ⟨fun t h => (by cases h), by simp [tyShows, tfsS]⟩
  | cons t l iht ihl =>
    rename_i d c hc h
    rw [tfsS] at h ⊢
    cases hr : tfS most deep t d true c with
    | mk b c' =>
      cases b
      · rw [hr] at h; cases h
      · rw [hr] at h
        have a := tf_le most deep t d true c hc (by rw [hr])
        rw [hr] at a
        have q := ihl d c' a.2 h
        have p := iht d true c hc (by rw [hr])
        rw [hr] at p
        simp only at a q p ⊢
        refine ⟨fun t' h' => ?_, ?_⟩
        · rcases List.mem_cons.1 h' with rfl | h'
          · exact p.1
          · exact q.1 t' h'
        · simp only [tyShows, List.map_cons, List.sum_cons]
          omega
theorem validTy_ok {t : Ty} (h : validTyB t = true) : OkTy t ∧ (tyShow t).length ≤ 400 := by
  have h1 := ty_ok 16 6 t 1 false 0 (by decide) h
  have h2 := tf_le 16 6 t 1 false 0 (by decide) h
  exact ⟨h1.1, by omega⟩
theorem ts_zero {a : Option Addr} {n c : Nat} {nm : ByteArray} {w : World} : Calls Tryz.prog 118 #[.agg #[.int .i64 0, .string nm, .slice a n c]] w fun e w' => e = .returned (.string (str [])) ∧ Kept (fun _ => False) w w' := by
  have K0 : Kept (fun _ => False) w (w.alloc (.cells #[.int .i64 0, .string nm, .slice a n c] 26)) := (Kept.refl _ _).alloc _
  go_enter Tryz.func118, Tryz.ntmps118
  go_wp2_with fail
  go_ret
  exact ⟨rfl, K0⟩
theorem tsh_any {t : Ty} (h : ShOk t) {w : World} {ok : Nat → Prop} {tk : Value} (hk : TyL ok w t.kids tk) : Calls Tryz.prog 118 #[tyVal t tk] w fun e w' => e = .returned (.string (str (tyShow t))) ∧ Kept (fun _ => False) w w' := by
  rcases h with ⟨h1, h2⟩ | rfl
  · exact ts_any h1 h2 w ok tk hk h2
  · obtain ⟨a, n, c, rfl⟩ := hk.slice
    exact ts_zero
theorem strl_list (l : List UInt8) : (str l).data.toList = l := by
  unfold str; simp
theorem kept_fam (w : World) : ∃ (ι : Type) (W : ι → World), Nonempty ι ∧ (∀ i, Kept (fun _ => False) w (W i)) ∧ ∀ w', Kept (fun _ => False) w w' → ∃ i, w' = W i :=
  ⟨{w' : World // Kept (fun _ => False) w w'}, Subtype.val, ⟨⟨w, Kept.refl _ _⟩⟩, fun i => i.2, fun w' h => ⟨⟨w', h⟩, rfl⟩⟩
theorem cmpT_or {op op' : Int} {nm nm' : ByteArray} {N N' : Int} {ty ty' : Ty} {l l' : List Tm} : toI (cmpT tyShow (.mk op nm N ty l) (.mk op' nm' N' ty' l')) = if orL [toI (cmpI ((tmN (.mk op nm N ty l) : Nat) : Int) ((tmN (.mk op' nm' N' ty' l') : Nat) : Int)), toI (cmpI op op'), toI (cmpB nm.data.toList nm'.data.toList), toI (cmpI N N'), toI (cmpB (tyShow ty) (tyShow ty'))] = 0 then toI (cmpK tyShow l l') else orL [toI (cmpI ((tmN (.mk op nm N ty l) : Nat) : Int) ((tmN (.mk op' nm' N' ty' l') : Nat) : Int)), toI (cmpI op op'), toI (cmpB nm.data.toList nm'.data.toList), toI (cmpI N N'), toI (cmpB (tyShow ty) (tyShow ty'))] := by
  rw [cmpT, tmN, tmN]
  generalize cmpI ((tmNs l + 1 : Nat) : Int) ((tmNs l' + 1 : Nat) : Int) = o1
  generalize cmpI op op' = o2
  generalize cmpB nm.data.toList nm'.data.toList = o3
  generalize cmpI N N' = o4
  generalize cmpB (tyShow ty) (tyShow ty') = o5
  generalize cmpK tyShow l l' = o6
  cases o1 <;> cases o2 <;> cases o3 <;> cases o4 <;> cases o5 <;> rfl
set_option maxRecDepth 100000 in
set_option maxHeartbeats 8000000 in
theorem cmp_one {op : Int} {nm : ByteArray} {N : Int} {ty : Ty} {l : List Tm} (hty : ShOk ty) (IH : ∀ u, u ∈ l → OdC u) (hn : l.length ≤ 1000000) (hz : tmNs l + 1 ≤ 100000) : OdC (.mk op nm N ty l) := by
  rintro ⟨op', nm', N', ty', l'⟩ w ok ok' tk kk tk' kk' ho h1 h2 h3 h4
  cases ho with | mk hn' hty' hz' hl' => ?_
  have h1 : TyL ok w ty.kids tk := h1
  have h2 : TmL ok w l kk := h2
  have h3 : TyL ok' w ty'.kids tk' := h3
  have h4 : TmL ok' w l' kk' := h4
  obtain ⟨a, n, c, rfl⟩ := h1.slice
  obtain ⟨ma, mn, mc, rfl⟩ := h2.slice
  obtain ⟨a', n', c', rfl⟩ := h3.slice
  obtain ⟨ma', mn', mc', rfl⟩ := h4.slice
  obtain rfl : mn = l.length := h2.len
  obtain rfl : mn' = l'.length := h4.len
  change Calls Tryz.prog 71 #[.agg #[.int .i64 op, .string nm, .int .i64 N, .int .i64 ty.kind, .string ty.name, .slice a n c, .slice ma l.length mc], .agg #[.int .i64 op', .string nm', .int .i64 N', .int .i64 ty'.kind, .string ty'.name, .slice a' n' c', .slice ma' l'.length mc']] w _
  have bA : Blk ((w.alloc (.cells #[.int .i64 op, .string nm, .int .i64 N, .int .i64 ty.kind, .string ty.name, .slice a n c, .slice ma l.length mc] 28)).alloc (.cells #[.int .i64 op', .string nm', .int .i64 N', .int .i64 ty'.kind, .string ty'.name, .slice a' n' c', .slice ma' l'.length mc'] 28)) w.heap.size 28 [.int .i64 op, .string nm, .int .i64 N, .int .i64 ty.kind, .string ty.name, .slice a n c, .slice ma l.length mc] := (Blk.new w 28 _).alloc _
  have bB : Blk ((w.alloc (.cells #[.int .i64 op, .string nm, .int .i64 N, .int .i64 ty.kind, .string ty.name, .slice a n c, .slice ma l.length mc] 28)).alloc (.cells #[.int .i64 op', .string nm', .int .i64 N', .int .i64 ty'.kind, .string ty'.name, .slice a' n' c', .slice ma' l'.length mc'] 28)) (w.heap.size + 1) 28 [.int .i64 op', .string nm', .int .i64 N', .int .i64 ty'.kind, .string ty'.name, .slice a' n' c', .slice ma' l'.length mc'] := Blk.new' 28 _ (by simp)
  have K1 : Kept (fun _ => False) w ((w.alloc (.cells #[.int .i64 op, .string nm, .int .i64 N, .int .i64 ty.kind, .string ty.name, .slice a n c, .slice ma l.length mc] 28)).alloc (.cells #[.int .i64 op', .string nm', .int .i64 N', .int .i64 ty'.kind, .string ty'.name, .slice a' n' c', .slice ma' l'.length mc'] 28)) := ((Kept.refl _ _).alloc _).alloc _
  have HT := Lib.hid (fun W (kW : Kept (fun _ => False) w W) => tsh_any hty (h1.frame (Same.of_kept kW (fun k h e => e))))
  have HT' := Lib.hid (fun W (kW : Kept (fun _ => False) w W) => tsh_any hty' (h3.frame (Same.of_kept kW (fun k h e => e))))
  have HF := Lib.hid (fun W (kW : Kept (fun _ => False) w W) => cmpF_any IH hl' hn hn' (h2.frame (Same.of_kept kW (fun k h e => e))) (h4.frame (Same.of_kept kW (fun k h e => e))))
  have HZ := Lib.hid (fun W (kW : Kept (fun _ => False) w W) => size_any (.mk op nm N ty l) W ok _ _ (by rw [tmN]; exact hz) (show TyL ok W ty.kids _ from h1.frame (Same.of_kept kW (fun k h e => e))) (show TmL ok W l _ from h2.frame (Same.of_kept kW (fun k h e => e))))
  have HZ' := Lib.hid (fun W (kW : Kept (fun _ => False) w W) => size_any (.mk op' nm' N' ty' l') W ok' _ _ (by rw [tmN]; exact hz') (show TyL ok' W ty'.kids _ from h3.frame (Same.of_kept kW (fun k h e => e))) (show TmL ok' W l' _ from h4.frame (Same.of_kept kW (fun k h e => e))))
  have HOR := Lib.hid (cmpT_or (op := op) (op' := op') (nm := nm) (nm' := nm') (N := N) (N' := N') (ty := ty) (ty' := ty') (l := l) (l' := l'))
  change Hid (∀ W, Kept (fun _ => False) w W → Calls Tryz.prog 102 #[.agg #[.int .i64 op, .string nm, .int .i64 N, .int .i64 ty.kind, .string ty.name, .slice a n c, .slice ma l.length mc]] W _) at HZ
  change Hid (∀ W, Kept (fun _ => False) w W → Calls Tryz.prog 102 #[.agg #[.int .i64 op', .string nm', .int .i64 N', .int .i64 ty'.kind, .string ty'.name, .slice a' n' c', .slice ma' l'.length mc']] W _) at HZ'
  unfold tyVal at HT HT'
  have BZ := Lib.hid (show tmN (.mk op nm N ty l) ≤ 100000 by rw [tmN]; exact hz)
  have BZ' := Lib.hid (show tmN (.mk op' nm' N' ty' l') ≤ 100000 by rw [tmN]; exact hz')
  clear h1 h2 h3 h4 IH hl' hz hz' hty hty'
  generalize tmN (.mk op nm N ty l) = s1 at *
  generalize tmN (.mk op' nm' N' ty' l') = s2 at *
  generalize toI (cmpT tyShow (.mk op nm N ty l) (.mk op' nm' N' ty' l')) = rr at *
  go_enter Tryz.func71, Tryz.ntmps71
  go_wp2_with fail
  generalize ((w.alloc (.cells #[.int .i64 op, .string nm, .int .i64 N, .int .i64 ty.kind, .string ty.name, .slice a n c, .slice ma l.length mc] 28)).alloc (.cells #[.int .i64 op', .string nm', .int .i64 N', .int .i64 ty'.kind, .string ty'.name, .slice a' n' c', .slice ma' l'.length mc'] 28)) = w1 at *
  refine (HZ.out _ K1).mono ?_
  rintro e w2 ⟨rfl, k2⟩
  have gB2 : ∀ i, w2.cell? ⟨w.heap.size + 1, i, none⟩ = [Value.int .i64 op', .string nm', .int .i64 N', .int .i64 ty'.kind, .string ty'.name, .slice a' n' c', .slice ma' l'.length mc'][i]? := (bB.kept k2 (fun h => h)).cell
  go_wp2_with fail
  clear gB2
  refine (HZ'.out _ (K1.trans k2)).mono ?_
  rintro e w3 ⟨rfl, k3⟩
  have bA3 := bA.kept (k2.trans k3) (fun h => h)
  have bB3 := bB.kept (k2.trans k3) (fun h => h)
  have K3 := K1.trans (k2.trans k3)
  clear bA bB K1 k2 k3 HZ HZ'
  have BA := Lib.hid bA3
  have BB := Lib.hid bB3
  have KK := Lib.hid K3
  clear bA3 bB3 K3
  go_wp2_with fail
  obtain ⟨ι, W, hne, hW1, hW2⟩ := kept_fam w3
  have x0 : ∀ i, (W i).cell? ⟨w.heap.size, 0, none⟩ = some (.int .i64 op) := fun i => (BA.out.kept (hW1 i) (fun h => h)).cell 0
  have x1 : ∀ i, (W i).cell? ⟨w.heap.size, 1, none⟩ = some (.string nm) := fun i => (BA.out.kept (hW1 i) (fun h => h)).cell 1
  have x2 : ∀ i, (W i).cell? ⟨w.heap.size, 2, none⟩ = some (.int .i64 N) := fun i => (BA.out.kept (hW1 i) (fun h => h)).cell 2
  have x3 : ∀ i, (W i).cell? ⟨w.heap.size, 3, none⟩ = some (.int .i64 ty.kind) := fun i => (BA.out.kept (hW1 i) (fun h => h)).cell 3
  have x4 : ∀ i, (W i).cell? ⟨w.heap.size, 4, none⟩ = some (.string ty.name) := fun i => (BA.out.kept (hW1 i) (fun h => h)).cell 4
  have x5 : ∀ i, (W i).cell? ⟨w.heap.size, 5, none⟩ = some (.slice a n c) := fun i => (BA.out.kept (hW1 i) (fun h => h)).cell 5
  have y0 : ∀ i, (W i).cell? ⟨w.heap.size + 1, 0, none⟩ = some (.int .i64 op') := fun i => (BB.out.kept (hW1 i) (fun h => h)).cell 0
  have y1 : ∀ i, (W i).cell? ⟨w.heap.size + 1, 1, none⟩ = some (.string nm') := fun i => (BB.out.kept (hW1 i) (fun h => h)).cell 1
  have y2 : ∀ i, (W i).cell? ⟨w.heap.size + 1, 2, none⟩ = some (.int .i64 N') := fun i => (BB.out.kept (hW1 i) (fun h => h)).cell 2
  have y3 : ∀ i, (W i).cell? ⟨w.heap.size + 1, 3, none⟩ = some (.int .i64 ty'.kind) := fun i => (BB.out.kept (hW1 i) (fun h => h)).cell 3
  have y4 : ∀ i, (W i).cell? ⟨w.heap.size + 1, 4, none⟩ = some (.string ty'.name) := fun i => (BB.out.kept (hW1 i) (fun h => h)).cell 4
  have y5 : ∀ i, (W i).cell? ⟨w.heap.size + 1, 5, none⟩ = some (.slice a' n' c') := fun i => (BB.out.kept (hW1 i) (fun h => h)).cell 5
  have HN := Lib.hid (fun (i : ι) (x y : Int) => (cmpInt_any x y (W i)).mono fun e w' (h : e = .returned (.int .i64 (toI (cmpI x y))) ∧ W i = w') => (⟨h.1, i, h.2.symm⟩ : e = .returned (.int .i64 (toI (cmpI x y))) ∧ ∃ m, w' = W m))
  have HS := Lib.hid (fun (i : ι) (x y : ByteArray) => (cmpStr_any x y (W i)).mono fun e w' (h : e = .returned (.int .i64 (toI (cmpB x.data.toList y.data.toList))) ∧ W i = w') => (⟨h.1, i, h.2.symm⟩ : e = .returned (.int .i64 (toI (cmpB x.data.toList y.data.toList))) ∧ ∃ m, w' = W m))
  have HX := Lib.hid (fun (i : ι) => (HT.out (W i) (KK.out.trans (hW1 i))).mono fun e w' h => (⟨h.1, hW2 _ ((hW1 i).trans h.2)⟩ : e = .returned (.string (str (tyShow ty))) ∧ ∃ m, w' = W m))
  have HX' := Lib.hid (fun (i : ι) => (HT'.out (W i) (KK.out.trans (hW1 i))).mono fun e w' h => (⟨h.1, hW2 _ ((hW1 i).trans h.2)⟩ : e = .returned (.string (str (tyShow ty'))) ∧ ∃ m, w' = W m))
  have HXY : Hid (∀ (i : ι) (v : Value) (s : ByteArray), ((v = .agg #[.int .i64 ty.kind, .string ty.name, .slice a n c] ∧ s = str (tyShow ty)) ∨ (v = .agg #[.int .i64 ty'.kind, .string ty'.name, .slice a' n' c'] ∧ s = str (tyShow ty'))) → Calls Tryz.prog 118 #[v] (W i) fun e w' => e = .returned (.string s) ∧ ∃ m, w' = W m) := Lib.hid (by
    rintro i v s (⟨rfl, rfl⟩ | ⟨rfl, rfl⟩)
    · exact HX.out i
    · exact HX'.out i)
  clear HX HX'
  have HW := Lib.hid hW1
  have h0 := hW2 _ ((Kept.refl (fun _ => False) w3).drew)
  clear hW1 hW2 HT HT'
  generalize hsx : str (tyShow ty) = sx at *
  generalize hsy : str (tyShow ty') = sy at *
  have HSX := Lib.hid hsx
  have HSY := Lib.hid hsy
  clear hsx hsy
  generalize ty.kind = k1 at *
  generalize ty.name = q1 at *
  generalize ty'.kind = k2 at *
  generalize ty'.name = q2 at *
  refine wp_quiet_tail (W := W) 25 (by kernel_rfl) (by kernel_rfl) h0 ?_
  simp only [List.take_succ_cons, List.take_zero, List.drop_succ_cons, List.drop_zero]
  clear h0
  repeat (go_big_quiet_step ((first | (go_at_call 116; exact HN.out _ _ _) | (go_at_call 117; exact HS.out _ _ _) | (go_at_call 118; exact HXY.out _ _ sx (Or.inl ⟨rfl, rfl⟩)) | (go_at_call 118; exact HXY.out _ _ sy (Or.inr ⟨rfl, rfl⟩)))))
  refine wpQuiet_nil ?_
  intro _ hw'
  obtain ⟨nq, hw''⟩ := hw'
  subst hw''
  clear x0 x1 x2 x3 x4 x5 y0 y1 y2 y3 y4 y5 HN HS HXY
  have KW := HW.out nq
  generalize W nq = w4 at *
  have HOR2 : Hid (rr = if orL [toI (cmpI (s1 : Int) (s2 : Int)), toI (cmpI op op'), toI (cmpB nm.data.toList nm'.data.toList), toI (cmpI N N'), toI (cmpB sx.data.toList sy.data.toList)] = 0 then toI (cmpK tyShow l l') else orL [toI (cmpI (s1 : Int) (s2 : Int)), toI (cmpI op op'), toI (cmpB nm.data.toList nm'.data.toList), toI (cmpI N N'), toI (cmpB sx.data.toList sy.data.toList)]) := Lib.hid (by
    rw [← HSX.out, ← HSY.out, strl_list, strl_list]; exact HOR.out)
  clear HOR HSX HSY HW
  generalize toI (cmpI (s1 : Int) (s2 : Int)) = p1 at *
  generalize toI (cmpI op op') = p2 at *
  generalize toI (cmpB nm.data.toList nm'.data.toList) = p3 at *
  generalize toI (cmpI N N') = p4 at *
  generalize toI (cmpB sx.data.toList sy.data.toList) = p5 at *
  have h5 : Hid (∀ (W9 : World) (g9 : Nat), W9 = w4.alloc (.cells #[.int .i64 p1, .int .i64 p2, .int .i64 p3, .int .i64 p4, .int .i64 p5] 3) → g9 = w4.heap.size → Calls Tryz.prog 115 #[.slice (some ⟨g9, 0, none⟩) 5 5] W9 fun e w' => e = .returned (.int .i64 (orL [p1, p2, p3, p4, p5])) ∧ W9 = w') := Lib.hid (by
    rintro W9 g9 rfl rfl
    refine or_any [p1, p2, p3, p4, p5] (by simp) (fun i h => ?_)
    have hb := (Blk.new w4 3 [Value.int .i64 p1, Value.int .i64 p2, Value.int .i64 p3, Value.int .i64 p4, Value.int .i64 p5]).cell i
    have h : i < 5 := h
    rcases (by omega : i = 0 ∨ i = 1 ∨ i = 2 ∨ i = 3 ∨ i = 4) with rfl | rfl | rfl | rfl | rfl <;> exact hb)
  go_wp2_with fail
  have KA : Kept (fun _ => False) w4 (w4.alloc (.cells #[.int .i64 p1, .int .i64 p2, .int .i64 p3, .int .i64 p4, .int .i64 p5] 3)) := (Kept.refl _ _).alloc _
  refine (h5.out _ _ rfl rfl).mono ?_
  rintro e w5 ⟨rfl, rfl⟩
  have K5 := KW.trans KA
  generalize w4.alloc (.cells #[.int .i64 p1, .int .i64 p2, .int .i64 p3, .int .i64 p4, .int .i64 p5] 3) = w5 at *
  clear h5 KA
  by_cases hq : orL [p1, p2, p3, p4, p5] = 0
  · have HR : Hid (rr = toI (cmpK tyShow l l')) := Lib.hid (by rw [HOR2.out, if_pos hq])
    rw [hq]
    have gA : ∀ i, w5.cell? ⟨w.heap.size, i, none⟩ = [Value.int .i64 op, .string nm, .int .i64 N, .int .i64 k1, .string q1, .slice a n c, .slice ma l.length mc][i]? := (BA.out.kept K5 (fun h => h)).cell
    have gB : ∀ i, w5.cell? ⟨w.heap.size + 1, i, none⟩ = [Value.int .i64 op', .string nm', .int .i64 N', .int .i64 k2, .string q2, .slice a' n' c', .slice ma' l'.length mc'][i]? := (BB.out.kept K5 (fun h => h)).cell
    have HF2 := Lib.hid (HF.out w5 (KK.out.trans K5))
    clear HOR2 HF
    go_wp2_with fail
    refine HF2.out.mono ?_
    rintro e w6 ⟨rfl, k6⟩
    go_wp2_with fail
    go_ret
    exact ⟨by rw [HR.out]; rfl, (KK.out.trans K5).trans k6⟩
  · have HR : Hid (rr = orL [p1, p2, p3, p4, p5]) := Lib.hid (by rw [HOR2.out, if_neg hq])
    clear HOR2 HF
    generalize orL [p1, p2, p3, p4, p5] = z at *
    have hq2 : (z == 0) = false := by simpa using hq
    have hq3 : (z != 0) = true := by simpa using hq
    go_wp2_with fail
    go_ret
    exact ⟨by rw [HR.out]; rfl, KK.out.trans K5⟩
theorem cmp_any {t : Tm} (h : OdTm t) : OdC t := by
  induction h with
  | mk hn ht hz hl ih => exact cmp_one ht ih hn hz
theorem zero_ty {t : Ty} (h : zeroTyB t = true) : t = ty0 := by
  obtain ⟨k, nm, l⟩ := t
  unfold zeroTyB at h
  simp only [Bool.and_eq_true, Ty.kind, Ty.name, Ty.kids, beq_iff_eq] at h
  obtain ⟨⟨h1, h2⟩, h3⟩ := h
  rw [Go.ByteArray.toList_eq] at h2
  have e : nm = ⟨#[]⟩ := ByteArray.ext (Array.toList_inj.1 h2)
  rw [h1, e, List.isEmpty_iff.1 h3]; rfl
theorem OkTm.nw : ∀ {t : Tm}, OkTm t → NW t := by
  intro t h
  induction h with
  | mk h hn hl ih =>
    refine .mk (fun e => ?_) ih
    subst e
    obtain ⟨h1, h2, h3, h4⟩ := formed_parts h
    refine ⟨?_, ?_, ?_⟩
    · unfold nOk at h3; simpa using h3
    · unfold tyOk at h4
      rw [if_neg (by decide)] at h4
      exact zero_ty h4
    · unfold kidOk at h1
      have e : kidsN 20 = (0, true) := rfl
      rw [e] at h1
      simp at h1
      exact h1
theorem tmNs_in {u : Tm} : ∀ {l : List Tm}, u ∈ l → tmN u ≤ tmNs l
  | a :: l, h => by
    rw [tmNs]
    rcases List.mem_cons.1 h with rfl | h
    · omega
    · have := tmNs_in h; omega
theorem shOk_of {op : Int} {ty : Ty} (h : tyOk op ty = true) : ShOk ty := by
  unfold tyOk at h
  by_cases e : op = 29
  · rw [if_pos e, Bool.and_eq_true] at h
    obtain ⟨h1, h2⟩ := validTy_ok h.2
    exact .inl ⟨h1, by omega⟩
  · rw [if_neg e] at h
    exact .inr (zero_ty h)
theorem odTm_of {t : Tm} (h : OkTm t) : tmN t ≤ 100000 → OdTm t := by
  induction h with
  | mk h hn hl ih =>
    intro hz
    rw [tmN] at hz
    obtain ⟨h1, h2, h3, h4⟩ := formed_parts h
    exact .mk (by omega) (shOk_of h4) hz (fun k hk => ih k hk (by have := tmNs_in hk; omega))
end Go.Proofs.YtfhedienjnfdcaaGreatDoor
