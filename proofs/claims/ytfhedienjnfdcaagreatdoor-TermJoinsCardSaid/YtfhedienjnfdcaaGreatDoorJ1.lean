/- Texts JnW of this proof, in one. -/
import Derived.Test.YtfhedienjnfdcaaGreatDoorS0
import Derived.Test.YtfhedienjnfdcaaGreatDoorS1
import Derived.Test.YtfhedienjnfdcaaGreatDoorS2
import Derived.Test.YtfhedienjnfdcaaGreatDoorS3
import Derived.Test.YtfhedienjnfdcaaGreatDoorS4
import Derived.Test.YtfhedienjnfdcaaGreatDoorS5
import Derived.Test.YtfhedienjnfdcaaGreatDoorS6
import Derived.Test.YtfhedienjnfdcaaGreatDoorS7
import Derived.Test.YtfhedienjnfdcaaGreatDoorS8
import Derived.Test.YtfhedienjnfdcaaGreatDoorS10
import Derived.Test.YtfhedienjnfdcaaGreatDoorS11
import Derived.Test.YtfhedienjnfdcaaGreatDoorS12
import Derived.Test.YtfhedienjnfdcaaGreatDoorS14
import Derived.Test.YtfhedienjnfdcaaGreatDoorS15
import Derived.Test.YtfhedienjnfdcaaGreatDoorS16
import Derived.Test.YtfhedienjnfdcaaGreatDoorJ0
set_option linter.unusedVariables false
set_option linter.unusedSimpArgs false
namespace Go.Proofs.YtfhedienjnfdcaaGreatDoor
open Go.RowKit
theorem formed_and : formedB 4 nil0 0 ty0 2 = true := by kernel_rfl
theorem formed_or : formedB 5 nil0 0 ty0 2 = true := by kernel_rfl
theorem joinS_eq {op : Int} (hop : formedB op nil0 0 ty0 2 = true) (em : Int) (l : List Tm) : joinS op em l = (if l.all validB then (match l with
    | [] => ((.mk em nil0 0 ty0 [], 0) : Tm × Int)
    | a :: r => if validB (foldJ op a r) then (foldJ op a r, 0) else (tm0, 5)) else (tm0, 1)) := by
  unfold joinS
  cases ha : l.all validB
  · rfl
  · cases l with
    | nil => rfl
    | cons a r =>
      simp only [List.all_cons, Bool.and_eq_true, List.all_eq_true] at ha
      have va := (valid_iff a).1 ha.1
      have vr : ∀ t ∈ r, OkTm t := fun t ht => ((valid_iff t).1 (ha.2 t ht)).1
      simp only [if_true]
      exact loop_valid hop r a va.1 va.2.1 va.2.2 vr
theorem bd_leaf (em : Int) : BdTm (.mk em nil0 0 ty0 []) := .mk (by decide) (.mk (by decide) (fun t h => by cases h)) (fun t h => by cases h)
theorem joinS_bd {op : Int} (hop : formedB op nil0 0 ty0 2 = true) (em : Int) (l : List Tm) : BdTm (joinS op em l).1 := by
  rw [joinS_eq hop]
  split
  · split
    · exact bd_leaf em
    · split
      · exact valid_bd (by assumption)
      · exact bd_leaf 0
  · exact bd_leaf 0
theorem sm_leaf2 (em : Int) : SmTm big (.mk em nil0 0 ty0 []) := .mk (by decide) (.mk (by decide) (fun t h => by cases h)) (fun t h => by cases h)
theorem joinS_sm {op : Int} (hop : formedB op nil0 0 ty0 2 = true) (em : Int) {l : List Tm} (hs : ∀ t ∈ l, SmTm big t) : SmTm big (joinS op em l).1 := by
  rw [joinS_eq hop]
  split
  · split
    · exact sm_leaf2 em
    · split
      · exact foldJ_sm (hs _ (by simp)) (fun t ht => hs t (List.mem_cons_of_mem _ ht))
      · exact sm_leaf2 0
  · exact sm_leaf2 0
def cjs : List Tm → List Tm
  | [] => []
  | t :: l => cjT t ++ cjs l
theorem cjs_conjs : ∀ {l : List Tm}, (∀ t ∈ l, validB t = true) → cjs l = conjsT l
  | [], _ => rfl
  | t :: l, h => by
    rw [cjs, conjsT, cjs_conjs (fun u hu => h u (List.mem_cons_of_mem _ hu))]
    unfold cjT; rw [if_pos (h t (by simp))]
theorem joinS_cj {l : List Tm} (h0 : (joinS 4 1 l).2 = 0) (hl : l ≠ []) : cjT (joinS 4 1 l).1 = cjs l := by
  rw [joinS_eq formed_and] at h0 ⊢
  cases ha : l.all validB
  · rw [ha] at h0; cases h0
  · rw [ha] at h0
    cases l with
    | nil => exact absurd rfl hl
    | cons a r =>
      simp only [if_true] at h0 ⊢
      have hv : ∀ t ∈ a :: r, validB t = true := fun t ht => (List.all_eq_true.1 ha) t ht
      by_cases hb : validB (foldJ 4 a r) = true
      · rw [if_pos hb]
        show cjT (foldJ 4 a r) = _
        unfold cjT
        rw [if_pos hb, conj_fold, cjs, cjs_conjs (fun u hu => hv u (List.mem_cons_of_mem _ hu))]
        unfold cjT
        rw [if_pos (hv a (by simp))]
      · rw [if_neg hb] at h0; cases h0
theorem cjs_snoc (l : List Tm) (k : Nat) (h : k < l.length) : cjs (l.take (k + 1)) = cjs (l.take k) ++ cjT l[k] := by
  have : ∀ (a b : List Tm), cjs (a ++ b) = cjs a ++ cjs b := by
    intro a b
    induction a with
    | nil => rfl
    | cons t a ih => rw [List.cons_append, cjs, ih, cjs, List.append_assoc]
  rw [List.take_succ_eq_append_getElem h, this, cjs, cjs, List.append_nil]
theorem cjT_len (t : Tm) : (cjT t).length ≤ 2000 := by
  unfold cjT
  split
  · rename_i h
    have := (valid_iff t).1 h
    have := conj_len t
    omega
  · simp
theorem cjs_len : ∀ (l : List Tm), (cjs l).length ≤ 2000 * l.length
  | [] => Nat.le_refl _
  | t :: l => by rw [cjs, List.length_append, List.length_cons]; have := cjT_len t; have := cjs_len l; omega
theorem cjT_bd {t : Tm} : ∀ u ∈ cjT t, BdTm u := by
  unfold cjT
  split
  · rename_i h
    have hb := valid_bd h
    have : ∀ (t : Tm), BdTm t → ∀ u ∈ conjT t, BdTm u := by
      intro t
      induction t using Tm.rec (motive_2 := fun l => (∀ t ∈ l, BdTm t) → ∀ u ∈ conjsT l, BdTm u) with
      | mk op nm N ty l ih =>
        intro hb u hu
        rw [conjT] at hu
        split at hu
        · cases hb with
          | mk _ _ hl => exact ih hl u hu
        · rw [List.mem_singleton.1 hu]; exact hb
      | nil => rename_i u hu; cases hu
      | cons t l iht ihl =>
        rename_i h u hu
        rw [conjsT] at hu
        rcases List.mem_append.1 hu with hu | hu
        · exact iht (h t (by simp)) u hu
        · exact ihl (fun t ht => h t (List.mem_cons_of_mem _ ht)) u hu
    exact this t hb
  · intro u hu; cases hu
theorem tmsEq_refl (l : List Tm) : tmsEq l l = true := by
  have : ∀ (t : Tm), tmEq t t = true := fun t => (tmEq_iff t t).2 rfl
  induction l with
  | nil => rfl
  | cons t l ih => rw [tmsEq, this, ih]; rfl
set_option maxRecDepth 100000 in
set_option maxHeartbeats 32000000 in
theorem jn_any {l : List Tm} {a : Option Addr} {n c : Nat} {w : World} (hgl : Gl w) (hk : TmL (fun _ => True) w l (.slice a n c)) (hs : ∀ t, t ∈ l → SmTm big t) (hlen : l.length ≤ 9223372036854775807) :
    Calls Tryz.prog 3 #[.slice a n c] w (EsOk w) := by
  obtain rfl : n = l.length := hk.len
  have H15 := Lib.hid (fun W (k : Kept (fun _ => False) w W) => awake_any W (hgl.kept k (fun h => h) (fun h => h)))
  by_cases hbig : 150 < l.length
  · have t1 : decide (150 < (l.length : Int)) = true := by simp; omega
    clear hk hs hgl hbig
    go_enter Tryz.func3, Tryz.ntmps3
    go_wp2_with fail
    refine (H15.out _ (Kept.refl _ _)).mono ?_
    rintro e w2 ⟨rfl, k2⟩
    go_wp2_with fail
    go_ret
    exact ⟨rfl, k2⟩
  · have t1 : decide (150 < (l.length : Int)) = false := by simp; omega
    have HN := Lib.hid (show l.length ≤ 150 by omega)
    have H16 := Lib.hid (fun W (k : Kept (fun _ => False) w W) => conj_any (ok := fun _ => True) (by omega) hs (hk.frame (Same.of_kept k (fun _ _ e => e))))
    have H17 := Lib.hid (fun W (k : Kept (fun _ => False) w W) => rconj_any (ok := fun _ => True) (by omega) hs (hk.frame (Same.of_kept k (fun _ _ e => e))))
    have H18 := Lib.hid (fun W (k : Kept (fun _ => False) w W) => disj_any (ok := fun _ => True) (by omega) hs (hk.frame (Same.of_kept k (fun _ _ e => e))))
    have H19 := Lib.hid (fun W (k : Kept (fun _ => False) w W) => rdisj_any (ok := fun _ => True) (by omega) hs (hk.frame (Same.of_kept k (fun _ _ e => e))))
    rw [join_eq2 formed_and] at H17
    rw [join_eq2 formed_or] at H19
    have HBA := Lib.hid (joinS_bd formed_and 1 l)
    have HBB := Lib.hid (joinS_bd formed_or 2 l)
    have HSA := Lib.hid (joinS_sm formed_and 1 hs)
    have HCJ : Hid ((joinS 4 1 l).2 = 0 → l ≠ [] → cjT (joinS 4 1 l).1 = cjs l) := Lib.hid joinS_cj
    have HAT := Lib.hid (fun W (k : Kept (fun _ => False) w W) => (hk.frame (Same.of_kept k (fun _ _ e => e))).at)
    have HSM := Lib.hid hs
    unfold TmE at H16 H17 H18 H19
    generalize joinS 4 1 l = rA at *
    generalize joinS 5 2 l = rB at *
    obtain ⟨tA, eA⟩ := rA
    obtain ⟨tB, eB⟩ := rB
    clear hk hs hgl hbig
    go_enter Tryz.func3, Tryz.ntmps3
    go_wp2_with fail
    refine (H16.out _ (Kept.refl _ _)).mono ?_
    rintro e w2 ⟨tk, kk, rfl, ya, ma, k2⟩
    obtain ⟨a1, a2, a3, rfl⟩ := ya.slice
    obtain ⟨a4, a5, a6, rfl⟩ := ma.slice
    unfold tmVal
    have bA : Blk (w2.alloc (.cells #[.int .i64 tA.op, .string tA.name, .int .i64 tA.n, .int .i64 tA.ty.kind, .string tA.ty.name, .slice a1 a2 a3, .slice a4 a5 a6] 28)) w2.heap.size 28 [.int .i64 tA.op, .string tA.name, .int .i64 tA.n, .int .i64 tA.ty.kind, .string tA.ty.name, .slice a1 a2 a3, .slice a4 a5 a6] := Blk.new w2 28 _
    have kA : Kept (fun _ => False) w2 (w2.alloc (.cells #[.int .i64 tA.op, .string tA.name, .int .i64 tA.n, .int .i64 tA.ty.kind, .string tA.ty.name, .slice a1 a2 a3, .slice a4 a5 a6] 28)) := (Kept.refl _ _).alloc _
    have YA := Lib.hid (ya.frame (Same.of_kept kA (fun _ _ e => e)))
    have MA := Lib.hid (ma.frame (Same.of_kept kA (fun _ _ e => e)))
    have K3 := Lib.hid (k2.trans kA)
    clear ya ma k2
    go_wp2_with fail
    generalize w2.alloc (.cells #[.int .i64 tA.op, .string tA.name, .int .i64 tA.n, .int .i64 tA.ty.kind, .string tA.ty.name, .slice a1 a2 a3, .slice a4 a5 a6] 28) = w3 at *
    generalize w2.heap.size = PA at *
    refine (H17.out _ K3.out).mono ?_
    rintro e w4 ⟨tk, kk, rfl, yb, mb, k4⟩
    obtain ⟨b1, b2, b3, rfl⟩ := yb.slice
    obtain ⟨b4, b5, b6, rfl⟩ := mb.slice
    unfold tmVal
    have bB : Blk (w4.alloc (.cells #[.int .i64 tA.op, .string tA.name, .int .i64 tA.n, .int .i64 tA.ty.kind, .string tA.ty.name, .slice b1 b2 b3, .slice b4 b5 b6] 28)) w4.heap.size 28 [.int .i64 tA.op, .string tA.name, .int .i64 tA.n, .int .i64 tA.ty.kind, .string tA.ty.name, .slice b1 b2 b3, .slice b4 b5 b6] := Blk.new w4 28 _
    have kB : Kept (fun _ => False) w4 (w4.alloc (.cells #[.int .i64 tA.op, .string tA.name, .int .i64 tA.n, .int .i64 tA.ty.kind, .string tA.ty.name, .slice b1 b2 b3, .slice b4 b5 b6] 28)) := (Kept.refl _ _).alloc _
    have YB := Lib.hid (yb.frame (Same.of_kept kB (fun _ _ e => e)))
    have MB := Lib.hid (mb.frame (Same.of_kept kB (fun _ _ e => e)))
    have K35 := Lib.hid (k4.trans kB)
    clear yb mb k4
    go_wp2_with fail
    generalize w4.alloc (.cells #[.int .i64 tA.op, .string tA.name, .int .i64 tA.n, .int .i64 tA.ty.kind, .string tA.ty.name, .slice b1 b2 b3, .slice b4 b5 b6] 28) = w5 at *
    generalize w4.heap.size = PB at *
    refine (H18.out _ (K3.out.trans K35.out)).mono ?_
    rintro e w6 ⟨tk, kk, rfl, yc, mc, k6⟩
    obtain ⟨c1, c2, c3, rfl⟩ := yc.slice
    obtain ⟨c4, c5, c6, rfl⟩ := mc.slice
    unfold tmVal
    have bC : Blk (w6.alloc (.cells #[.int .i64 tB.op, .string tB.name, .int .i64 tB.n, .int .i64 tB.ty.kind, .string tB.ty.name, .slice c1 c2 c3, .slice c4 c5 c6] 28)) w6.heap.size 28 [.int .i64 tB.op, .string tB.name, .int .i64 tB.n, .int .i64 tB.ty.kind, .string tB.ty.name, .slice c1 c2 c3, .slice c4 c5 c6] := Blk.new w6 28 _
    have kC : Kept (fun _ => False) w6 (w6.alloc (.cells #[.int .i64 tB.op, .string tB.name, .int .i64 tB.n, .int .i64 tB.ty.kind, .string tB.ty.name, .slice c1 c2 c3, .slice c4 c5 c6] 28)) := (Kept.refl _ _).alloc _
    have YC := Lib.hid (yc.frame (Same.of_kept kC (fun _ _ e => e)))
    have MC := Lib.hid (mc.frame (Same.of_kept kC (fun _ _ e => e)))
    have K57 := Lib.hid (k6.trans kC)
    clear yc mc k6
    go_wp2_with fail
    generalize w6.alloc (.cells #[.int .i64 tB.op, .string tB.name, .int .i64 tB.n, .int .i64 tB.ty.kind, .string tB.ty.name, .slice c1 c2 c3, .slice c4 c5 c6] 28) = w7 at *
    generalize w6.heap.size = PC at *
    refine (H19.out _ ((K3.out.trans K35.out).trans K57.out)).mono ?_
    rintro e w8 ⟨tk, kk, rfl, yd, md, k8⟩
    obtain ⟨d1, d2, d3, rfl⟩ := yd.slice
    obtain ⟨d4, d5, d6, rfl⟩ := md.slice
    unfold tmVal
    have bD : Blk (w8.alloc (.cells #[.int .i64 tB.op, .string tB.name, .int .i64 tB.n, .int .i64 tB.ty.kind, .string tB.ty.name, .slice d1 d2 d3, .slice d4 d5 d6] 28)) w8.heap.size 28 [.int .i64 tB.op, .string tB.name, .int .i64 tB.n, .int .i64 tB.ty.kind, .string tB.ty.name, .slice d1 d2 d3, .slice d4 d5 d6] := Blk.new w8 28 _
    have kD : Kept (fun _ => False) w8 (w8.alloc (.cells #[.int .i64 tB.op, .string tB.name, .int .i64 tB.n, .int .i64 tB.ty.kind, .string tB.ty.name, .slice d1 d2 d3, .slice d4 d5 d6] 28)) := (Kept.refl _ _).alloc _
    have YD := Lib.hid (yd.frame (Same.of_kept kD (fun _ _ e => e)))
    have MD := Lib.hid (md.frame (Same.of_kept kD (fun _ _ e => e)))
    have K79 := Lib.hid (k8.trans kD)
    clear yd md k8
    have t2 : (eA != eA) = false := by simp
    have t3 : (eB != eB) = false := by simp
    have HA9 := Lib.hid ((((bA.kept K35.out (fun h => h)).kept K57.out (fun h => h)).kept K79.out (fun h => h)))
    have HB9 := Lib.hid ((bB.kept K57.out (fun h => h)).kept K79.out (fun h => h))
    have HC9 := Lib.hid (bC.kept K79.out (fun h => h))
    have HD9 := Lib.hid bD
    generalize hw9 : w8.alloc (.cells #[.int .i64 tB.op, .string tB.name, .int .i64 tB.n, .int .i64 tB.ty.kind, .string tB.ty.name, .slice d1 d2 d3, .slice d4 d5 d6] 28) = w9 at *
    have gA : ∀ i, w9.cell? ⟨PA, i, none⟩ = [Value.int .i64 tA.op, .string tA.name, .int .i64 tA.n, .int .i64 tA.ty.kind, .string tA.ty.name, .slice a1 a2 a3, .slice a4 a5 a6][i]? := HA9.out.cell
    have gB : ∀ i, w9.cell? ⟨PB, i, none⟩ = [Value.int .i64 tA.op, .string tA.name, .int .i64 tA.n, .int .i64 tA.ty.kind, .string tA.ty.name, .slice b1 b2 b3, .slice b4 b5 b6][i]? := HB9.out.cell
    have YA9 := Lib.hid (((YA.out.frame (Same.of_kept K35.out (fun _ _ e => e))).frame (Same.of_kept K57.out (fun _ _ e => e))).frame (Same.of_kept K79.out (fun _ _ e => e)))
    have MA9 := Lib.hid (((MA.out.frame (Same.of_kept K35.out (fun _ _ e => e))).frame (Same.of_kept K57.out (fun _ _ e => e))).frame (Same.of_kept K79.out (fun _ _ e => e)))
    have YB9 := Lib.hid ((YB.out.frame (Same.of_kept K57.out (fun _ _ e => e))).frame (Same.of_kept K79.out (fun _ _ e => e)))
    have MB9 := Lib.hid ((MB.out.frame (Same.of_kept K57.out (fun _ _ e => e))).frame (Same.of_kept K79.out (fun _ _ e => e)))
    have YC9 := Lib.hid (YC.out.frame (Same.of_kept K79.out (fun _ _ e => e)))
    have MC9 := Lib.hid (MC.out.frame (Same.of_kept K79.out (fun _ _ e => e)))
    have K9 := Lib.hid (((K3.out.trans K35.out).trans K57.out).trans K79.out)
    have HS1 := Lib.hid (rsameTm_any HBA.out tA w9 _ _ _ _ _ _ YA9.out MA9.out YB9.out MB9.out)
    have HS2 := Lib.hid (fun W (k : Kept (fun _ => False) w9 W) => rsameTm_any HBB.out tB W _ _ _ _ _ _ (YC9.out.frame (Same.of_kept k (fun _ _ e => e))) (MC9.out.frame (Same.of_kept k (fun _ _ e => e))) (YD.out.frame (Same.of_kept k (fun _ _ e => e))) (MD.out.frame (Same.of_kept k (fun _ _ e => e))))
    rw [(tmEq_iff tA tA).2 rfl] at HS1
    rw [(tmEq_iff tB tB).2 rfl] at HS2
    unfold tmVal at HS1 HS2
    clear YA MA YB MB YC MC K35 K57 K79 K3 H16 H17 H18 H19 bA bB bC bD kA kB kC kD YB9 MB9 YC9 MC9 YD MD HBA HBB
    go_wp2_with fail
    clear hw9
    refine HS1.out.mono ?_
    rintro e wa ⟨rfl, ka⟩
    have gC : ∀ i, wa.cell? ⟨PC, i, none⟩ = [Value.int .i64 tB.op, .string tB.name, .int .i64 tB.n, .int .i64 tB.ty.kind, .string tB.ty.name, .slice c1 c2 c3, .slice c4 c5 c6][i]? := (HC9.out.kept ka (fun h => h)).cell
    have gD : ∀ i, wa.cell? ⟨w8.heap.size, i, none⟩ = [Value.int .i64 tB.op, .string tB.name, .int .i64 tB.n, .int .i64 tB.ty.kind, .string tB.ty.name, .slice d1 d2 d3, .slice d4 d5 d6][i]? := (HD9.out.kept ka (fun h => h)).cell
    have HS2a := Lib.hid (HS2.out wa ka)
    have KA := Lib.hid ka
    clear gA gB HS1 HS2 ka
    go_wp2_with fail
    refine HS2a.out.mono ?_
    rintro e wb ⟨rfl, kb⟩
    have KB := Lib.hid (K9.out.trans (KA.out.trans kb))
    have AB := Lib.hid ((HA9.out.kept KA.out (fun h => h)).kept kb (fun h => h))
    have YAb := Lib.hid ((YA9.out.frame (Same.of_kept KA.out (fun _ _ e => e))).frame (Same.of_kept kb (fun _ _ e => e)))
    have MAb := Lib.hid ((MA9.out.frame (Same.of_kept KA.out (fun _ _ e => e))).frame (Same.of_kept kb (fun _ _ e => e)))
    obtain ⟨i28, hi28, hz28, hs28, hb28⟩ := info_tm
    have HI := Lib.hid hi28
    have HZ := Lib.hid hz28
    have HS := Lib.hid hs28
    have HB := Lib.hid hb28
    clear gC gD HS2a kb YA9 MA9 HA9 HB9 HC9 HD9 KA K9 hi28 hz28 hs28 hb28
    go_wp2_with fail
    go_loopw [11, 12] (fun v i wr => ∃ (k : Nat) (E : List E3), k ≤ l.length ∧ i = .int .i64 k ∧ RowT wb wb.heap.size wr E v ∧ Hid (E.map (·.1) = cjs (l.take k))) (fun v i _ => l.length - (intOf i).toNat)
    case atStart => exact ⟨0, [], Nat.zero_le _, rfl, RowT.nil (Kept.refl _ _), Lib.hid rfl⟩
    case round =>
      obtain ⟨k, E, hkl, rfl, h, HE⟩ := hrel
      have H := Lib.hid h
      obtain ⟨va, vn, vc, rfl⟩ := h.tml.slice
      clear h
      by_cases hlt : k < l.length
      · have hn2 := HN.out
        have i1 : (k : Int) < (l.length : Int) := by omega
        have i2 : (k : Int) < 200 := by omega
        obtain ⟨g, off, ta, tn, tc, ma, mn, mc, rfl, _, lg, ⟨q0, q1, q2, q3, q4, q5, q6⟩, hty, htm⟩ := HAT.out wr (KB.out.trans H.out.kp) k hlt
        have HC1 := Lib.hid (conjuncts_any hty htm (HSM.out _ (List.getElem_mem hlt)))
        have HC2 := Lib.hid (fun W (kW : Kept (fun _ => False) wr W) => rconjuncts_any (hty.frame (Same.of_kept kW (fun _ _ e => e))) (htm.frame (Same.of_kept kW (fun _ _ e => e))) (HSM.out _ (List.getElem_mem hlt)))
        have HQ := Lib.hid (fun W (kW : Kept (fun _ => False) wr W) => (⟨(Same.of_kept (ok := fun _ => True) kW (fun _ _ e => e)).cell trivial q0, (Same.of_kept (ok := fun _ => True) kW (fun _ _ e => e)).cell trivial q1, (Same.of_kept (ok := fun _ => True) kW (fun _ _ e => e)).cell trivial q2, (Same.of_kept (ok := fun _ => True) kW (fun _ _ e => e)).cell trivial q3, (Same.of_kept (ok := fun _ => True) kW (fun _ _ e => e)).cell trivial q4, (Same.of_kept (ok := fun _ => True) kW (fun _ _ e => e)).cell trivial q5, (Same.of_kept (ok := fun _ => True) kW (fun _ _ e => e)).cell trivial q6⟩ : C7 W g (off + k * 7) l[k] (.slice ta tn tc) (.slice ma mn mc)))
        have HSN := Lib.hid (cjs_snoc l k hlt)
        have HTB : Hid (∀ u ∈ cjT l[k], BdTm u) := Lib.hid cjT_bd
        have HTL := Lib.hid (cjT_len l[k])
        have HCL := Lib.hid (cjs_len (l.take k))
        unfold tmVal at HC1 HC2
        generalize cjT l[k] = ck at *
        clear hty htm
        go_wp2_with fail
        refine HC1.out.mono ?_
        rintro e wc ⟨u, rfl, hu, kc⟩
        obtain ⟨ua, un, uc, rfl⟩ := hu.slice
        have HC2c := Lib.hid (HC2.out wc kc)
        obtain ⟨x0, x1, x2, x3, x4, x5, x6⟩ := HQ.out wc kc
        have HU := Lib.hid hu
        have KC := Lib.hid kc
        clear q0 q1 q2 q3 q4 q5 q6 HC1 HC2 hu kc
        go_wp2_with fail
        refine HC2c.out.mono ?_
        rintro e wd ⟨u2, rfl, hu2, kd⟩
        obtain ⟨ud, ue, uf, rfl⟩ := hu2.slice
        have HSS := Lib.hid (rsames_any (fun t ht => rsameTm_any (HTB.out t ht)) (by have := HTL.out; omega) (HU.out.frame (Same.of_kept kd (fun _ _ e => e))) hu2)
        rw [tmsEq_refl] at HSS
        have HUd := Lib.hid (HU.out.frame (Same.of_kept kd (fun _ _ e => e)))
        have KD := Lib.hid (KC.out.trans kd)
        clear x0 x1 x2 x3 x4 x5 x6 hu2 kd HC2c HU KC
        go_wp2_with fail
        refine HSS.out.mono ?_
        rintro e we ⟨rfl, ke⟩
        obtain ⟨F, hF1, hF2, hF3⟩ := (HUd.out.frame (Same.of_kept ke (fun _ _ e => e))).src
        have HF1 := Lib.hid hF1
        have HF2 := Lib.hid hF2
        have HF3 := Lib.hid hF3
        have KE := Lib.hid (KD.out.trans ke)
        have hlF : F.length = ck.length := by rw [← HF1.out, List.length_map]
        have hlE : E.length ≤ 2000 * 150 := by
          have e1 : E.length = (cjs (l.take k)).length := by rw [← HE.out, List.length_map]
          have e2 : (l.take k).length ≤ k := by rw [List.length_take]; omega
          have := HCL.out
          have e3 : 2000 * (l.take k).length ≤ 2000 * 150 := Nat.mul_le_mul_left _ (by omega)
          omega
        have hmx : Hid (E.length + F.length ≤ maxLen) := Lib.hid (by have := HTL.out; unfold maxLen; omega)
        have hby : Hid ((E.length + F.length) * 104 ≤ 140737488355328) := Lib.hid (by have := HTL.out; omega)
        have hlF2 := Lib.hid hlF
        clear hF1 hF2 hF3 ke HSS hlF hlE KD
        go_wp2_with (at_builtin; refine wpList_app_src rfl (.tmp 77) (.tmp 78) _ rfl wb.heap.size 28 i28 _ 7 104 Tryz.underlying22 HI.out HZ.out HS.out HB.out rfl (by decide) (.slice va vn vc) E.length (flat E) rfl (H.out.kept KE.out).own (.slice ua un uc) F.length (flat F) rfl (by rw [hlF2.out]; exact HF3.out) (flat_len F) HF2.out.one hmx.out hby.out (by have := (H.out.kept KE.out).kp.size; exact this) ?_; intro v' w' own' hgrow hat)
        have HX : Hid (RowT wb wb.heap.size w' (E ++ F) v') := Lib.hid (RowT.app2 (Nat.le_refl _) (H.out.kept KE.out) (HF2.out.mono (fun q hq h => ⟨by have h2 : wr.heap.size ≤ q := h; have := H.out.kp.size; omega, fun e => by have h2 : wr.heap.size ≤ q := h; have := (H.out.own.lt q e).2; omega⟩)) own' hgrow hat)
        clear own' hgrow hat
        go_wp2_with fail
        go_roundw
        case rel => exact ⟨k + 1, E ++ F, by omega, by go_num, HX.out, Lib.hid (by rw [List.map_append, HE.out, HF1.out, HSN.out])⟩
        case measure => simp [intOf]; omega
      · have hkk : k = l.length := by omega
        subst hkk
        have HE2 : Hid (E.map (·.1) = cjs l) := Lib.hid (by rw [HE.out, List.take_length])
        by_cases h0 : eA = 0 ∧ l ≠ []
        · obtain ⟨h00, hne⟩ := h0
          subst h00
          have hpos : decide (0 < (l.length : Int)) = true := by
            have : 0 < l.length := List.length_pos_iff.2 hne
            simp; omega
          have hpos2 : 0 < l.length := List.length_pos_iff.2 hne
          have hcj : cjT tA = cjs l := HCJ.out rfl hne
          have gA : ∀ i, wr.cell? ⟨PA, i, none⟩ = [Value.int .i64 tA.op, .string tA.name, .int .i64 tA.n, .int .i64 tA.ty.kind, .string tA.ty.name, .slice a1 a2 a3, .slice a4 a5 a6][i]? := (AB.out.kept H.out.kp (fun h => h)).cell
          have HC1 := Lib.hid (conjuncts_any (YAb.out.frame (Same.of_kept H.out.kp (fun _ _ e => e))) (MAb.out.frame (Same.of_kept H.out.kp (fun _ _ e => e))) HSA.out)
          unfold tmVal at HC1
          have HTB : Hid (∀ u ∈ cjT tA, BdTm u) := Lib.hid cjT_bd
          have HTL := Lib.hid (cjT_len tA)
          have HCJ2 := Lib.hid hcj
          clear hne hcj
          go_wp2_with fail
          refine HC1.out.mono ?_
          rintro e wc ⟨u, rfl, hu, kc⟩
          obtain ⟨ua, un, uc, rfl⟩ := hu.slice
          have ht2 := H.out.tml.frame (Same.of_kept kc (fun _ _ e => e))
          rw [HE2.out, ← HCJ2.out] at ht2
          have HSS := Lib.hid (rsames_any (fun t ht => rsameTm_any (HTB.out t ht)) (by have := HTL.out; omega) hu ht2)
          rw [tmsEq_refl] at HSS
          have KC := Lib.hid (KB.out.trans (H.out.kp.trans kc))
          clear hu ht2 kc gA
          go_wp2_with fail
          refine HSS.out.mono ?_
          rintro e wd ⟨rfl, kd⟩
          go_wp2_with fail
          refine (H15.out _ (KC.out.trans kd)).mono ?_
          rintro e we ⟨rfl, ke⟩
          go_wp2_with fail
          go_ret
          exact ⟨rfl, (KC.out.trans kd).trans ke⟩
        · by_cases h1 : eA = 0
          · subst h1
            have hl0 : l = [] := by
              by_cases hl : l = []
              · exact hl
              · exact absurd ⟨rfl, hl⟩ h0
            subst hl0
            clear h0
            go_wp2_with fail
            refine (H15.out _ (KB.out.trans H.out.kp)).mono ?_
            rintro e we ⟨rfl, ke⟩
            go_wp2_with fail
            go_ret
            exact ⟨rfl, (KB.out.trans H.out.kp).trans ke⟩
          · have t5 : (eA == 0) = false := by simpa using h1
            clear h0 h1
            go_wp2_with fail
            refine (H15.out _ (KB.out.trans H.out.kp)).mono ?_
            rintro e we ⟨rfl, ke⟩
            go_wp2_with fail
            go_ret
            exact ⟨rfl, (KB.out.trans H.out.kp).trans ke⟩
end Go.Proofs.YtfhedienjnfdcaaGreatDoor
