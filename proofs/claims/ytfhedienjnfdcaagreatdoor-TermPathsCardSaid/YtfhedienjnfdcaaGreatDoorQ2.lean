/- Texts PtW LwI of this proof, in one. -/
import Derived.Test.YtfhedienjnfdcaaGreatDoorS0
import Derived.Test.YtfhedienjnfdcaaGreatDoorS1
import Derived.Test.YtfhedienjnfdcaaGreatDoorS2
import Derived.Test.YtfhedienjnfdcaaGreatDoorS3
import Derived.Test.YtfhedienjnfdcaaGreatDoorS4
import Derived.Test.YtfhedienjnfdcaaGreatDoorS5
import Derived.Test.YtfhedienjnfdcaaGreatDoorS6
import Derived.Test.YtfhedienjnfdcaaGreatDoorS7
import Derived.Test.YtfhedienjnfdcaaGreatDoorS8
import Derived.Test.YtfhedienjnfdcaaGreatDoorS10
import Derived.Test.YtfhedienjnfdcaaGreatDoorS11
import Derived.Test.YtfhedienjnfdcaaGreatDoorS12
import Derived.Test.YtfhedienjnfdcaaGreatDoorS14
import Derived.Test.YtfhedienjnfdcaaGreatDoorS15
import Derived.Test.YtfhedienjnfdcaaGreatDoorS16
import Derived.Test.YtfhedienjnfdcaaGreatDoorS17
import Derived.Test.YtfhedienjnfdcaaGreatDoorS18
import Derived.Test.YtfhedienjnfdcaaGreatDoorQ0
import Derived.Test.YtfhedienjnfdcaaGreatDoorQ1
set_option linter.unusedVariables false
set_option linter.unusedSimpArgs false
namespace Go.Proofs.YtfhedienjnfdcaaGreatDoor
open Go.RowKit
theorem bd_tm0 : BdTm tm0 := .mk (by decide) (.mk (by decide) (fun t h => by cases h)) (fun t h => by cases h)
theorem repPS_bd (t u : Tm) (l : List Int) : BdTm (repPS t l u).1 := by
  unfold repPS
  split
  · split
    · split
      · exact valid_bd (by assumption)
      · exact bd_tm0
    · exact bd_tm0
  · exact bd_tm0
theorem bndPS_len (t : Tm) (l : List Int) : (bndPS t l).1.length ≤ 100 := by
  unfold bndPS
  cases hv : validB t
  · simp
  · cases ha : atP t l with
    | none => simp
    | some o =>
      have h1 := at_len l t o ha
      have h2 := ((valid_iff t).1 hv).2.2
      have h3 := boundP_len l t
      simp only [if_true]
      omega
set_option maxRecDepth 100000 in
set_option maxHeartbeats 32000000 in
theorem ptw_any {t u : Tm} {l : List Int} {w : World} {tk kk tk' kk' : Value} {a : Option Addr} {n c : Nat} (hgl : Gl w) (h1 : TyL (fun _ => True) w t.ty.kids tk) (h2 : TmL (fun _ => True) w t.kids kk) (hs : SmTm big t) (hl : InL (fun _ => True) w l (.slice a n c)) (hb : l.length ≤ 9223372036854775807) (h3 : TyL (fun _ => True) w u.ty.kids tk') (h4 : TmL (fun _ => True) w u.kids kk') (hs' : SmTm big u) :
    Calls Tryz.prog 5 #[tmVal t tk kk, .slice a n c, tmVal u tk' kk'] w (EsOk w) := by
  obtain ⟨p, pn, cp, rfl⟩ := h1.slice
  obtain ⟨ma, mn, mc, rfl⟩ := h2.slice
  obtain ⟨p', pn', cp', rfl⟩ := h3.slice
  obtain ⟨ma', mn', mc', rfl⟩ := h4.slice
  have H15 := Lib.hid (fun W (k : Kept (fun _ => False) w W) => awake_any W (hgl.kept k (fun h => h) (fun h => h)))
  have HA := Lib.hid (fun W (k : Kept (fun _ => False) w W) => at_any (h1.frame (Same.of_kept k (fun _ _ e => e))) (h2.frame (Same.of_kept k (fun _ _ e => e))) hs (hl.frame (Same.of_kept k (fun _ _ e => e))) hb )
  have HRA := Lib.hid (fun W (k : Kept (fun _ => False) w W) => rat_any (h1.frame (Same.of_kept k (fun _ _ e => e))) (h2.frame (Same.of_kept k (fun _ _ e => e))) hs (hl.frame (Same.of_kept k (fun _ _ e => e))) hb )
  have HBD := Lib.hid (fun W (k : Kept (fun _ => False) w W) => bndP_any (h1.frame (Same.of_kept k (fun _ _ e => e))) (h2.frame (Same.of_kept k (fun _ _ e => e))) hs (hl.frame (Same.of_kept k (fun _ _ e => e))) hb )
  have HRB := Lib.hid (fun W (k : Kept (fun _ => False) w W) => rbnd_any (h1.frame (Same.of_kept k (fun _ _ e => e))) (h2.frame (Same.of_kept k (fun _ _ e => e))) hs (hl.frame (Same.of_kept k (fun _ _ e => e))) hb )
  have HRP := Lib.hid (fun W (k : Kept (fun _ => False) w W) => replace_any (h1.frame (Same.of_kept k (fun _ _ e => e))) (h2.frame (Same.of_kept k (fun _ _ e => e))) hs (hl.frame (Same.of_kept k (fun _ _ e => e))) hb (h3.frame (Same.of_kept k (fun _ _ e => e))) (h4.frame (Same.of_kept k (fun _ _ e => e))) hs')
  have HRR := Lib.hid (fun W (k : Kept (fun _ => False) w W) => rreplace_any (h1.frame (Same.of_kept k (fun _ _ e => e))) (h2.frame (Same.of_kept k (fun _ _ e => e))) hs (hl.frame (Same.of_kept k (fun _ _ e => e))) hb (h3.frame (Same.of_kept k (fun _ _ e => e))) (h4.frame (Same.of_kept k (fun _ _ e => e))) hs')
  obtain ⟨o, e0, hoe⟩ : ∃ o e0, atPS t l = (o, e0) := ⟨_, _, rfl⟩
  obtain ⟨L, e1, hbe⟩ : ∃ L e1, bndPS t l = (L, e1) := ⟨_, _, rfl⟩
  obtain ⟨r, e2, hre⟩ : ∃ r e2, repPS t l u = (r, e2) := ⟨_, _, rfl⟩
  have HBO : Hid (BdTm o) := Lib.hid (by obtain ⟨o', e', h, hb, _⟩ := atPS_parts t l; rw [hoe] at h; cases h; exact hb)
  have HBR : Hid (BdTm r) := Lib.hid (by have := repPS_bd t u l; rw [hre] at this; exact this)
  have HLL : Hid (L.length ≤ 100) := Lib.hid (by have := bndPS_len t l; rw [hbe] at this; exact this)
  have SO := Lib.hid (fun (vk vm vk' vm' : Value) (B B' : Nat) W (q1 : TyL (fun q => B ≤ q) W o.ty.kids vk) (q2 : TmL (fun q => B ≤ q) W o.kids vm) (q3 : TyL (fun q => B' ≤ q) W o.ty.kids vk') (q4 : TmL (fun q => B' ≤ q) W o.kids vm') => rsameTm_any HBO.out o W _ _ _ _ _ _ q1 q2 q3 q4)
  have SR := Lib.hid (fun (vk vm vk' vm' : Value) (B B' : Nat) W (q1 : TyL (fun q => B ≤ q) W r.ty.kids vk) (q2 : TmL (fun q => B ≤ q) W r.kids vm) (q3 : TyL (fun q => B' ≤ q) W r.ty.kids vk') (q4 : TmL (fun q => B' ≤ q) W r.kids vm') => rsameTm_any HBR.out r W _ _ _ _ _ _ q1 q2 q3 q4)
  rw [hoe] at HA HRA
  rw [hbe] at HBD HRB
  rw [hre] at HRP HRR
  rw [tmEq_self] at SO SR
  clear hoe hbe hre HBO HBR
  unfold TmE tmVal at HA HRA HRP HRR
  unfold NmE at HBD HRB
  unfold tmVal at SO SR ⊢
  have B0 := Lib.hid (Bx2.new w [.int .i64 t.op, .string t.name, .int .i64 t.n, .int .i64 t.ty.kind, .string t.ty.name, .slice p pn cp, .slice ma mn mc] [.int .i64 u.op, .string u.name, .int .i64 u.n, .int .i64 u.ty.kind, .string u.ty.name, .slice p' pn' cp', .slice ma' mn' mc'])
  change Hid (Bx2 _ _ _ ((w.alloc (.cells #[.int .i64 t.op, .string t.name, .int .i64 t.n, .int .i64 t.ty.kind, .string t.ty.name, .slice p pn cp, .slice ma mn mc] 28)).alloc (.cells #[.int .i64 u.op, .string u.name, .int .i64 u.n, .int .i64 u.ty.kind, .string u.ty.name, .slice p' pn' cp', .slice ma' mn' mc'] 28))) at B0
  clear h1 h2 h3 h4 hs hs' hl hb hgl
  go_enter Tryz.func5, Tryz.ntmps5
  go_wp2_with fail
  generalize ((w.alloc (.cells #[.int .i64 t.op, .string t.name, .int .i64 t.n, .int .i64 t.ty.kind, .string t.ty.name, .slice p pn cp, .slice ma mn mc] 28)).alloc (.cells #[.int .i64 u.op, .string u.name, .int .i64 u.n, .int .i64 u.ty.kind, .string u.ty.name, .slice p' pn' cp', .slice ma' mn' mc'] 28)) = w1 at *
  refine (HA.out w1 B0.out.k).mono ?_
  rintro e' w2 ⟨tk, kk, rfl, hty, htm, kN⟩
  obtain ⟨ua0, ub0, uc0, rfl⟩ := hty.slice
  obtain ⟨va0, vb0, vc0, rfl⟩ := htm.slice
  have B0n := Lib.hid (B0.out.kept kN)
  clear kN B0
  have AAT := Lib.hid hty
  have AAM := Lib.hid htm
  clear hty htm HA
  go_upto_region 2 with (fail)
  have KN : Kept (fun _ => False) w2 (w2.alloc (.cells #[.int .i64 o.op, .string o.name, .int .i64 o.n, .int .i64 o.ty.kind, .string o.ty.name, .slice ua0 ub0 uc0, .slice va0 vb0 vc0] 28)) := (Kept.refl _ _).alloc _
  have AAB := Lib.hid (Blk.new w2 28 [.int .i64 o.op, .string o.name, .int .i64 o.n, .int .i64 o.ty.kind, .string o.ty.name, .slice ua0 ub0 uc0, .slice va0 vb0 vc0])
  change Hid (Blk (w2.alloc (.cells #[.int .i64 o.op, .string o.name, .int .i64 o.n, .int .i64 o.ty.kind, .string o.ty.name, .slice ua0 ub0 uc0, .slice va0 vb0 vc0] 28)) _ _ _) at AAB
  have B0nn := Lib.hid (B0n.out.kept KN)
  have AATn := Lib.hid (AAT.out.frame (Same.of_kept KN (fun _ _ e => e)))
  have AAMn := Lib.hid (AAM.out.frame (Same.of_kept KN (fun _ _ e => e)))
  clear KN B0n AAT AAM
  generalize w2.alloc (.cells #[.int .i64 o.op, .string o.name, .int .i64 o.n, .int .i64 o.ty.kind, .string o.ty.name, .slice ua0 ub0 uc0, .slice va0 vb0 vc0] 28) = w3 at *
  have gT : ∀ i, w3.cell? ⟨w.heap.size, i, none⟩ = [Value.int .i64 t.op, .string t.name, .int .i64 t.n, .int .i64 t.ty.kind, .string t.ty.name, .slice p pn cp, .slice ma mn mc][i]? := B0nn.out.a.cell
  go_wp2_with fail
  clear gT
  refine (HRA.out w3 B0nn.out.k).mono ?_
  rintro e' w4 ⟨tk, kk, rfl, hty, htm, kN⟩
  obtain ⟨ua1, ub1, uc1, rfl⟩ := hty.slice
  obtain ⟨va1, vb1, vc1, rfl⟩ := htm.slice
  have B0nnn := Lib.hid (B0nn.out.kept kN)
  have AATnn := Lib.hid (AATn.out.frame (Same.of_kept kN (fun _ _ e => e)))
  have AAMnn := Lib.hid (AAMn.out.frame (Same.of_kept kN (fun _ _ e => e)))
  have AABn := Lib.hid (AAB.out.kept kN (fun h => h))
  clear kN B0nn AATn AAMn AAB
  have ABT := Lib.hid hty
  have ABM := Lib.hid htm
  clear hty htm HRA
  go_upto_region 3 with (fail)
  have KN : Kept (fun _ => False) w4 (w4.alloc (.cells #[.int .i64 o.op, .string o.name, .int .i64 o.n, .int .i64 o.ty.kind, .string o.ty.name, .slice ua1 ub1 uc1, .slice va1 vb1 vc1] 28)) := (Kept.refl _ _).alloc _
  have ABB := Lib.hid (Blk.new w4 28 [.int .i64 o.op, .string o.name, .int .i64 o.n, .int .i64 o.ty.kind, .string o.ty.name, .slice ua1 ub1 uc1, .slice va1 vb1 vc1])
  change Hid (Blk (w4.alloc (.cells #[.int .i64 o.op, .string o.name, .int .i64 o.n, .int .i64 o.ty.kind, .string o.ty.name, .slice ua1 ub1 uc1, .slice va1 vb1 vc1] 28)) _ _ _) at ABB
  have B0nnnn := Lib.hid (B0nnn.out.kept KN)
  have AATnnn := Lib.hid (AATnn.out.frame (Same.of_kept KN (fun _ _ e => e)))
  have AAMnnn := Lib.hid (AAMnn.out.frame (Same.of_kept KN (fun _ _ e => e)))
  have AABnn := Lib.hid (AABn.out.kept KN (fun h => h))
  have ABTn := Lib.hid (ABT.out.frame (Same.of_kept KN (fun _ _ e => e)))
  have ABMn := Lib.hid (ABM.out.frame (Same.of_kept KN (fun _ _ e => e)))
  clear KN B0nnn AATnn AAMnn AABn ABT ABM
  generalize w4.alloc (.cells #[.int .i64 o.op, .string o.name, .int .i64 o.n, .int .i64 o.ty.kind, .string o.ty.name, .slice ua1 ub1 uc1, .slice va1 vb1 vc1] 28) = w5 at *
  have gT : ∀ i, w5.cell? ⟨w.heap.size, i, none⟩ = [Value.int .i64 t.op, .string t.name, .int .i64 t.n, .int .i64 t.ty.kind, .string t.ty.name, .slice p pn cp, .slice ma mn mc][i]? := B0nnnn.out.a.cell
  go_wp2_with fail
  clear gT
  refine (HBD.out w5 B0nnnn.out.k).mono ?_
  rintro e' w6 ⟨v0, rfl, hnm, kN⟩
  obtain ⟨na0, nc0, rfl⟩ := hnm.slice
  have B0nnnnn := Lib.hid (B0nnnn.out.kept kN)
  have AATnnnn := Lib.hid (AATnnn.out.frame (Same.of_kept kN (fun _ _ e => e)))
  have AAMnnnn := Lib.hid (AAMnnn.out.frame (Same.of_kept kN (fun _ _ e => e)))
  have AABnnn := Lib.hid (AABnn.out.kept kN (fun h => h))
  have ABTnn := Lib.hid (ABTn.out.frame (Same.of_kept kN (fun _ _ e => e)))
  have ABMnn := Lib.hid (ABMn.out.frame (Same.of_kept kN (fun _ _ e => e)))
  have ABBn := Lib.hid (ABB.out.kept kN (fun h => h))
  clear kN B0nnnn AATnnn AAMnnn AABnn ABTn ABMn ABB
  have N1L := Lib.hid hnm
  clear hnm HBD
  have gT : ∀ i, w6.cell? ⟨w.heap.size, i, none⟩ = [Value.int .i64 t.op, .string t.name, .int .i64 t.n, .int .i64 t.ty.kind, .string t.ty.name, .slice p pn cp, .slice ma mn mc][i]? := B0nnnnn.out.a.cell
  go_wp2_with fail
  clear gT
  refine (HRB.out w6 B0nnnnn.out.k).mono ?_
  rintro e' w7 ⟨v1, rfl, hnm, kN⟩
  obtain ⟨na1, nc1, rfl⟩ := hnm.slice
  have B0nnnnnn := Lib.hid (B0nnnnn.out.kept kN)
  have AATnnnnn := Lib.hid (AATnnnn.out.frame (Same.of_kept kN (fun _ _ e => e)))
  have AAMnnnnn := Lib.hid (AAMnnnn.out.frame (Same.of_kept kN (fun _ _ e => e)))
  have AABnnnn := Lib.hid (AABnnn.out.kept kN (fun h => h))
  have ABTnnn := Lib.hid (ABTnn.out.frame (Same.of_kept kN (fun _ _ e => e)))
  have ABMnnn := Lib.hid (ABMnn.out.frame (Same.of_kept kN (fun _ _ e => e)))
  have ABBnn := Lib.hid (ABBn.out.kept kN (fun h => h))
  have N1Ln := Lib.hid (N1L.out.frame (Same.of_kept kN (fun _ _ e => e)))
  clear kN B0nnnnn AATnnnn AAMnnnn AABnnn ABTnn ABMnn ABBn N1L
  have N2L := Lib.hid hnm
  clear hnm HRB
  have gT : ∀ i, w7.cell? ⟨w.heap.size, i, none⟩ = [Value.int .i64 t.op, .string t.name, .int .i64 t.n, .int .i64 t.ty.kind, .string t.ty.name, .slice p pn cp, .slice ma mn mc][i]? := B0nnnnnn.out.a.cell
  have gU : ∀ i, w7.cell? ⟨w.heap.size + 1, i, none⟩ = [Value.int .i64 u.op, .string u.name, .int .i64 u.n, .int .i64 u.ty.kind, .string u.ty.name, .slice p' pn' cp', .slice ma' mn' mc'][i]? := B0nnnnnn.out.b.cell
  go_wp2_with fail
  clear gT gU
  refine (HRP.out w7 B0nnnnnn.out.k).mono ?_
  rintro e' w8 ⟨tk, kk, rfl, hty, htm, kN⟩
  obtain ⟨xa0, xb0, xc0, rfl⟩ := hty.slice
  obtain ⟨ya0, yb0, yc0, rfl⟩ := htm.slice
  have B0nnnnnnn := Lib.hid (B0nnnnnn.out.kept kN)
  have AATnnnnnn := Lib.hid (AATnnnnn.out.frame (Same.of_kept kN (fun _ _ e => e)))
  have AAMnnnnnn := Lib.hid (AAMnnnnn.out.frame (Same.of_kept kN (fun _ _ e => e)))
  have AABnnnnn := Lib.hid (AABnnnn.out.kept kN (fun h => h))
  have ABTnnnn := Lib.hid (ABTnnn.out.frame (Same.of_kept kN (fun _ _ e => e)))
  have ABMnnnn := Lib.hid (ABMnnn.out.frame (Same.of_kept kN (fun _ _ e => e)))
  have ABBnnn := Lib.hid (ABBnn.out.kept kN (fun h => h))
  have N1Lnn := Lib.hid (N1Ln.out.frame (Same.of_kept kN (fun _ _ e => e)))
  have N2Ln := Lib.hid (N2L.out.frame (Same.of_kept kN (fun _ _ e => e)))
  clear kN B0nnnnnn AATnnnnn AAMnnnnn AABnnnn ABTnnn ABMnnn ABBnn N1Ln N2L
  have RAT := Lib.hid hty
  have RAM := Lib.hid htm
  clear hty htm HRP
  go_upto_region 6 with (fail)
  have KN : Kept (fun _ => False) w8 (w8.alloc (.cells #[.int .i64 r.op, .string r.name, .int .i64 r.n, .int .i64 r.ty.kind, .string r.ty.name, .slice xa0 xb0 xc0, .slice ya0 yb0 yc0] 28)) := (Kept.refl _ _).alloc _
  have RAB := Lib.hid (Blk.new w8 28 [.int .i64 r.op, .string r.name, .int .i64 r.n, .int .i64 r.ty.kind, .string r.ty.name, .slice xa0 xb0 xc0, .slice ya0 yb0 yc0])
  change Hid (Blk (w8.alloc (.cells #[.int .i64 r.op, .string r.name, .int .i64 r.n, .int .i64 r.ty.kind, .string r.ty.name, .slice xa0 xb0 xc0, .slice ya0 yb0 yc0] 28)) _ _ _) at RAB
  have B0nnnnnnnn := Lib.hid (B0nnnnnnn.out.kept KN)
  have AATnnnnnnn := Lib.hid (AATnnnnnn.out.frame (Same.of_kept KN (fun _ _ e => e)))
  have AAMnnnnnnn := Lib.hid (AAMnnnnnn.out.frame (Same.of_kept KN (fun _ _ e => e)))
  have AABnnnnnn := Lib.hid (AABnnnnn.out.kept KN (fun h => h))
  have ABTnnnnn := Lib.hid (ABTnnnn.out.frame (Same.of_kept KN (fun _ _ e => e)))
  have ABMnnnnn := Lib.hid (ABMnnnn.out.frame (Same.of_kept KN (fun _ _ e => e)))
  have ABBnnnn := Lib.hid (ABBnnn.out.kept KN (fun h => h))
  have N1Lnnn := Lib.hid (N1Lnn.out.frame (Same.of_kept KN (fun _ _ e => e)))
  have N2Lnn := Lib.hid (N2Ln.out.frame (Same.of_kept KN (fun _ _ e => e)))
  have RATn := Lib.hid (RAT.out.frame (Same.of_kept KN (fun _ _ e => e)))
  have RAMn := Lib.hid (RAM.out.frame (Same.of_kept KN (fun _ _ e => e)))
  clear KN B0nnnnnnn AATnnnnnn AAMnnnnnn AABnnnnn ABTnnnn ABMnnnn ABBnnn N1Lnn N2Ln RAT RAM
  generalize w8.alloc (.cells #[.int .i64 r.op, .string r.name, .int .i64 r.n, .int .i64 r.ty.kind, .string r.ty.name, .slice xa0 xb0 xc0, .slice ya0 yb0 yc0] 28) = w9 at *
  have gT : ∀ i, w9.cell? ⟨w.heap.size, i, none⟩ = [Value.int .i64 t.op, .string t.name, .int .i64 t.n, .int .i64 t.ty.kind, .string t.ty.name, .slice p pn cp, .slice ma mn mc][i]? := B0nnnnnnnn.out.a.cell
  have gU : ∀ i, w9.cell? ⟨w.heap.size + 1, i, none⟩ = [Value.int .i64 u.op, .string u.name, .int .i64 u.n, .int .i64 u.ty.kind, .string u.ty.name, .slice p' pn' cp', .slice ma' mn' mc'][i]? := B0nnnnnnnn.out.b.cell
  go_wp2_with fail
  clear gT gU
  refine (HRR.out w9 B0nnnnnnnn.out.k).mono ?_
  rintro e' w10 ⟨tk, kk, rfl, hty, htm, kN⟩
  obtain ⟨xa1, xb1, xc1, rfl⟩ := hty.slice
  obtain ⟨ya1, yb1, yc1, rfl⟩ := htm.slice
  have B0nnnnnnnnn := Lib.hid (B0nnnnnnnn.out.kept kN)
  have AATnnnnnnnn := Lib.hid (AATnnnnnnn.out.frame (Same.of_kept kN (fun _ _ e => e)))
  have AAMnnnnnnnn := Lib.hid (AAMnnnnnnn.out.frame (Same.of_kept kN (fun _ _ e => e)))
  have AABnnnnnnn := Lib.hid (AABnnnnnn.out.kept kN (fun h => h))
  have ABTnnnnnn := Lib.hid (ABTnnnnn.out.frame (Same.of_kept kN (fun _ _ e => e)))
  have ABMnnnnnn := Lib.hid (ABMnnnnn.out.frame (Same.of_kept kN (fun _ _ e => e)))
  have ABBnnnnn := Lib.hid (ABBnnnn.out.kept kN (fun h => h))
  have N1Lnnnn := Lib.hid (N1Lnnn.out.frame (Same.of_kept kN (fun _ _ e => e)))
  have N2Lnnn := Lib.hid (N2Lnn.out.frame (Same.of_kept kN (fun _ _ e => e)))
  have RATnn := Lib.hid (RATn.out.frame (Same.of_kept kN (fun _ _ e => e)))
  have RAMnn := Lib.hid (RAMn.out.frame (Same.of_kept kN (fun _ _ e => e)))
  have RABn := Lib.hid (RAB.out.kept kN (fun h => h))
  clear kN B0nnnnnnnn AATnnnnnnn AAMnnnnnnn AABnnnnnn ABTnnnnn ABMnnnnn ABBnnnn N1Lnnn N2Lnn RATn RAMn RAB
  have RBT := Lib.hid hty
  have RBM := Lib.hid htm
  clear hty htm HRR
  go_upto_region 7 with (fail)
  have KN : Kept (fun _ => False) w10 (w10.alloc (.cells #[.int .i64 r.op, .string r.name, .int .i64 r.n, .int .i64 r.ty.kind, .string r.ty.name, .slice xa1 xb1 xc1, .slice ya1 yb1 yc1] 28)) := (Kept.refl _ _).alloc _
  have RBB := Lib.hid (Blk.new w10 28 [.int .i64 r.op, .string r.name, .int .i64 r.n, .int .i64 r.ty.kind, .string r.ty.name, .slice xa1 xb1 xc1, .slice ya1 yb1 yc1])
  change Hid (Blk (w10.alloc (.cells #[.int .i64 r.op, .string r.name, .int .i64 r.n, .int .i64 r.ty.kind, .string r.ty.name, .slice xa1 xb1 xc1, .slice ya1 yb1 yc1] 28)) _ _ _) at RBB
  have B0nnnnnnnnnn := Lib.hid (B0nnnnnnnnn.out.kept KN)
  have AATnnnnnnnnn := Lib.hid (AATnnnnnnnn.out.frame (Same.of_kept KN (fun _ _ e => e)))
  have AAMnnnnnnnnn := Lib.hid (AAMnnnnnnnn.out.frame (Same.of_kept KN (fun _ _ e => e)))
  have AABnnnnnnnn := Lib.hid (AABnnnnnnn.out.kept KN (fun h => h))
  have ABTnnnnnnn := Lib.hid (ABTnnnnnn.out.frame (Same.of_kept KN (fun _ _ e => e)))
  have ABMnnnnnnn := Lib.hid (ABMnnnnnn.out.frame (Same.of_kept KN (fun _ _ e => e)))
  have ABBnnnnnn := Lib.hid (ABBnnnnn.out.kept KN (fun h => h))
  have N1Lnnnnn := Lib.hid (N1Lnnnn.out.frame (Same.of_kept KN (fun _ _ e => e)))
  have N2Lnnnn := Lib.hid (N2Lnnn.out.frame (Same.of_kept KN (fun _ _ e => e)))
  have RATnnn := Lib.hid (RATnn.out.frame (Same.of_kept KN (fun _ _ e => e)))
  have RAMnnn := Lib.hid (RAMnn.out.frame (Same.of_kept KN (fun _ _ e => e)))
  have RABnn := Lib.hid (RABn.out.kept KN (fun h => h))
  have RBTn := Lib.hid (RBT.out.frame (Same.of_kept KN (fun _ _ e => e)))
  have RBMn := Lib.hid (RBM.out.frame (Same.of_kept KN (fun _ _ e => e)))
  clear KN B0nnnnnnnnn AATnnnnnnnn AAMnnnnnnnn AABnnnnnnn ABTnnnnnn ABMnnnnnn ABBnnnnn N1Lnnnn N2Lnnn RATnn RAMnn RABn RBT RBM
  generalize w10.alloc (.cells #[.int .i64 r.op, .string r.name, .int .i64 r.n, .int .i64 r.ty.kind, .string r.ty.name, .slice xa1 xb1 xc1, .slice ya1 yb1 yc1] 28) = w11 at *
  have HS := Lib.hid (SO.out _ _ _ _ _ _ w11 AATnnnnnnnnn.out AAMnnnnnnnnn.out ABTnnnnnnn.out ABMnnnnnnn.out)
  clear SO
  have gA : ∀ i, w11.cell? ⟨w2.heap.size, i, none⟩ = [Value.int .i64 o.op, .string o.name, .int .i64 o.n, .int .i64 o.ty.kind, .string o.ty.name, .slice ua0 ub0 uc0, .slice va0 vb0 vc0][i]? := AABnnnnnnnn.out.cell
  have gB : ∀ i, w11.cell? ⟨w4.heap.size, i, none⟩ = [Value.int .i64 o.op, .string o.name, .int .i64 o.n, .int .i64 o.ty.kind, .string o.ty.name, .slice ua1 ub1 uc1, .slice va1 vb1 vc1][i]? := ABBnnnnnn.out.cell
  go_wp2_with fail
  clear gA gB
  refine HS.out.mono ?_
  rintro e' w12 ⟨rfl, kN⟩
  clear HS
  have B0nnnnnnnnnnn := Lib.hid (B0nnnnnnnnnn.out.kept kN)
  have AATnnnnnnnnnn := Lib.hid (AATnnnnnnnnn.out.frame (Same.of_kept kN (fun _ _ e => e)))
  have AAMnnnnnnnnnn := Lib.hid (AAMnnnnnnnnn.out.frame (Same.of_kept kN (fun _ _ e => e)))
  have AABnnnnnnnnn := Lib.hid (AABnnnnnnnn.out.kept kN (fun h => h))
  have ABTnnnnnnnn := Lib.hid (ABTnnnnnnn.out.frame (Same.of_kept kN (fun _ _ e => e)))
  have ABMnnnnnnnn := Lib.hid (ABMnnnnnnn.out.frame (Same.of_kept kN (fun _ _ e => e)))
  have ABBnnnnnnn := Lib.hid (ABBnnnnnn.out.kept kN (fun h => h))
  have N1Lnnnnnn := Lib.hid (N1Lnnnnn.out.frame (Same.of_kept kN (fun _ _ e => e)))
  have N2Lnnnnn := Lib.hid (N2Lnnnn.out.frame (Same.of_kept kN (fun _ _ e => e)))
  have RATnnnn := Lib.hid (RATnnn.out.frame (Same.of_kept kN (fun _ _ e => e)))
  have RAMnnnn := Lib.hid (RAMnnn.out.frame (Same.of_kept kN (fun _ _ e => e)))
  have RABnnn := Lib.hid (RABnn.out.kept kN (fun h => h))
  have RBTnn := Lib.hid (RBTn.out.frame (Same.of_kept kN (fun _ _ e => e)))
  have RBMnn := Lib.hid (RBMn.out.frame (Same.of_kept kN (fun _ _ e => e)))
  have RBBn := Lib.hid (RBB.out.kept kN (fun h => h))
  clear kN B0nnnnnnnnnn AATnnnnnnnnn AAMnnnnnnnnn AABnnnnnnnn ABTnnnnnnn ABMnnnnnnn ABBnnnnnn N1Lnnnnn N2Lnnnn RATnnn RAMnnn RABnn RBTn RBMn RBB
  have HS := Lib.hid (SR.out _ _ _ _ _ _ w12 RATnnnn.out RAMnnnn.out RBTnn.out RBMnn.out)
  clear SR
  have gA : ∀ i, w12.cell? ⟨w8.heap.size, i, none⟩ = [Value.int .i64 r.op, .string r.name, .int .i64 r.n, .int .i64 r.ty.kind, .string r.ty.name, .slice xa0 xb0 xc0, .slice ya0 yb0 yc0][i]? := RABnnn.out.cell
  have gB : ∀ i, w12.cell? ⟨w10.heap.size, i, none⟩ = [Value.int .i64 r.op, .string r.name, .int .i64 r.n, .int .i64 r.ty.kind, .string r.ty.name, .slice xa1 xb1 xc1, .slice ya1 yb1 yc1][i]? := RBBn.out.cell
  go_wp2_with fail
  clear gA gB
  refine HS.out.mono ?_
  rintro e' w13 ⟨rfl, kN⟩
  clear HS
  have B0nnnnnnnnnnnn := Lib.hid (B0nnnnnnnnnnn.out.kept kN)
  have AATnnnnnnnnnnn := Lib.hid (AATnnnnnnnnnn.out.frame (Same.of_kept kN (fun _ _ e => e)))
  have AAMnnnnnnnnnnn := Lib.hid (AAMnnnnnnnnnn.out.frame (Same.of_kept kN (fun _ _ e => e)))
  have AABnnnnnnnnnn := Lib.hid (AABnnnnnnnnn.out.kept kN (fun h => h))
  have ABTnnnnnnnnn := Lib.hid (ABTnnnnnnnn.out.frame (Same.of_kept kN (fun _ _ e => e)))
  have ABMnnnnnnnnn := Lib.hid (ABMnnnnnnnn.out.frame (Same.of_kept kN (fun _ _ e => e)))
  have ABBnnnnnnnn := Lib.hid (ABBnnnnnnn.out.kept kN (fun h => h))
  have N1Lnnnnnnn := Lib.hid (N1Lnnnnnn.out.frame (Same.of_kept kN (fun _ _ e => e)))
  have N2Lnnnnnn := Lib.hid (N2Lnnnnn.out.frame (Same.of_kept kN (fun _ _ e => e)))
  have RATnnnnn := Lib.hid (RATnnnn.out.frame (Same.of_kept kN (fun _ _ e => e)))
  have RAMnnnnn := Lib.hid (RAMnnnn.out.frame (Same.of_kept kN (fun _ _ e => e)))
  have RABnnnn := Lib.hid (RABnnn.out.kept kN (fun h => h))
  have RBTnnn := Lib.hid (RBTnn.out.frame (Same.of_kept kN (fun _ _ e => e)))
  have RBMnnn := Lib.hid (RBMnn.out.frame (Same.of_kept kN (fun _ _ e => e)))
  have RBBnn := Lib.hid (RBBn.out.kept kN (fun h => h))
  clear kN B0nnnnnnnnnnn AATnnnnnnnnnn AAMnnnnnnnnnn AABnnnnnnnnn ABTnnnnnnnn ABMnnnnnnnn ABBnnnnnnn N1Lnnnnnn N2Lnnnnn RATnnnn RAMnnnn RABnnn RBTnn RBMnn RBBn
  have KB := Lib.hid B0nnnnnnnnnnnn.out.k
  have HAT1 := Lib.hid (fun W (k : Kept (fun _ => False) w13 W) => (N1Lnnnnnnn.out.frame (Same.of_kept k (fun _ _ e => e))).at)
  have HAT2 := Lib.hid (fun W (k : Kept (fun _ => False) w13 W) => (N2Lnnnnnn.out.frame (Same.of_kept k (fun _ _ e => e))).at)
  clear B0nnnnnnnnnnnn AATnnnnnnnnnnn AAMnnnnnnnnnnn AABnnnnnnnnnn ABTnnnnnnnnn ABMnnnnnnnnn ABBnnnnnnnn N1Lnnnnnnn N2Lnnnnnn RATnnnnn RAMnnnnn RABnnnn RBTnnn RBMnnn RBBnn
  go_wp2_with fail
  go_loopw [19] (fun i wr => ∃ k : Nat, k ≤ L.length ∧ i = .int .i64 k ∧ Kept (fun _ => False) w13 wr) (fun i _ => L.length - (intOf i).toNat)
  case atStart => exact ⟨0, Nat.zero_le _, rfl, Kept.refl _ _⟩
  case round =>
    obtain ⟨k, hkl, rfl, kr⟩ := hrel
    by_cases hlt : k < L.length
    · have i1 : (k : Int) < (L.length : Int) := by omega
      have i2 : (k : Int) < 1000000 := by have := HLL.out; omega
      obtain ⟨g1, f1, rfl, _, c1⟩ := HAT1.out wr kr k hlt
      obtain ⟨g2, f2, rfl, _, c2⟩ := HAT2.out wr kr k hlt
      go_upto_region 12 with (fail)
      go_quiet (fail)
      have kd : Kept (fun _ => False) wr (World.drewN wr nq) := (Kept.refl _ _).drewN nq
      generalize World.drewN wr nq = wd at *
      go_wp2_with fail
      go_roundw
      case rel => exact ⟨k + 1, by omega, by go_num, kr.trans kd⟩
      case measure => simp [intOf]; omega
    · have hkk : k = L.length := by omega
      subst hkk
      go_wp2_with fail
      refine (H15.out _ (KB.out.trans kr)).mono ?_
      rintro e' wz ⟨rfl, kz⟩
      go_wp2_with fail
      go_ret
      exact ⟨rfl, (KB.out.trans kr).trans kz⟩
end Go.Proofs.YtfhedienjnfdcaaGreatDoor
namespace Go.Proofs.YtfhedienjnfdcaaGreatDoor
open Go.ChangeShapes Go.WideShapes Go.ChangeAt Go.RowKit
section
variable {H : Type} {enc : TypeId × Value → H} {w : World} {spare : Nat → Bool} {held : Bool}
set_option maxRecDepth 100000 in
theorem open_ints {fuel : Nat} {a : Option Addr} {n c : Nat} {x : DataW H × List MemPlace} (h : DataW.trod enc Tryz.prog w 0 spare held fuel 36 [.slice a n c] = some x) :
    ∃ l : List Int, InL (fun _ => True) w l (.slice a n c) ∧ l.length ≤ 9223372036854775807 := by
  rcases DataW.trod_slice Tryz.underlying36 h with ⟨hc, -⟩ | ⟨a', len, cap, elems, rest, m, rfl, hc, -, -, hl, hm, hel, helt, -, -⟩
  · cases hc
    exact ⟨[], ⟨_, _, _, rfl, rfl, Nat.le_refl _, fun i hi => absurd hi (Nat.not_lt_zero _)⟩, Nat.zero_le _⟩
  · cases hc
    by_cases h0 : n = 0
    · subst h0
      exact ⟨[], ⟨_, _, _, rfl, rfl, Nat.zero_le _, fun i hi => absurd hi (Nat.not_lt_zero _)⟩, Nat.zero_le _⟩
    · rw [cells_3] at helt
      obtain ⟨b, o, rfl, hat⟩ := elems_at hel (by decide) helt (by omega)
      obtain ⟨F, hF⟩ := Go.Deep.choose_lt (α := Int) (n := n) (p := fun i q => w.cell? ⟨b, o + i, none⟩ = some (.int .i64 q)) (fun i hi => by
        obtain ⟨cs, y, hcl, hcell, hy⟩ := hat i hi
        obtain ⟨k, hk, -, -⟩ := DataW.trod_int Tryz.underlying3 hy
        have h1 := hcell 0 (by decide)
        rw [hk, Nat.mul_one, Nat.add_zero] at h1
        exact ⟨k, h1⟩)
      refine ⟨(List.range n).map F, ⟨_, _, _, rfl, by simp, by omega, fun i hi => ⟨b, o, rfl, trivial, ?_⟩⟩, by unfold maxLen at hm; simp; omega⟩
      have hi' : i < n := by simpa using hi
      rw [hF i hi']
      simp
end
set_option maxRecDepth 100000 in
theorem arg_ints {H : Type} {enc : TypeId × Value → H} {W : World} {v : Value} {d : DataW H} {p : List MemPlace} {r : Reach} {b0 : Nat} (hval : Value.okWide Tryz.prog W r b0 36 v) (h : DataW.Trod enc Tryz.prog W 0 (fun _ => true) true 36 v d p) :
    ∃ (l : List Int) (a : Option Addr) (n c : Nat), v = .slice a n c ∧ InL (fun _ => True) W l (.slice a n c) ∧ l.length ≤ 9223372036854775807 := by
  obtain ⟨a, n, c, rfl⟩ := Go.WideShapes.okWide_slice Tryz.underlying36 hval
  obtain ⟨fuel, h⟩ := h
  obtain ⟨l, h1, h2⟩ := open_ints (a := a) (n := n) (c := c) h
  exact ⟨l, a, n, c, rfl, h1, h2⟩
theorem back_ints {H : Type} {enc : TypeId × Value → H} {W W' : World} {v : Value} {d : DataW H} {p : List MemPlace} (h : DataW.Trod enc Tryz.prog W 0 (fun _ => true) true 36 v d p) (k : Kept (fun _ => False) W W') (hlt : ∀ x ∈ p, x.block < W.heap.size) :
    DataW.Trod enc Tryz.prog W' 0 (fun b => decide (b < W.heap.size)) true 36 v d p := back_of (by kernel_rfl) (size_ok (by decide)) h k hlt
end Go.Proofs.YtfhedienjnfdcaaGreatDoor
