/- Texts RDec RFsW FrsP JnA AtW BxT PutW of this proof, in one. -/
import Derived.Test.YtfhedienjnfdcaaGreatDoorK15
import Derived.Deep.RegionLaw
import Derived.Laws.IdiomStrings
import Derived.Deep.RegionHeld3
set_option linter.unusedVariables false
set_option linter.unusedSimpArgs false
set_option maxRecDepth 100000
set_option maxHeartbeats 32000000
namespace Go.Proofs.YtfhedienjnfdcaaGreatDoor
open Go.RowKit
def DcC (n : Nat) : Prop := ∀ W, Calls Tryz.prog 181 #[.int .i64 n] W fun e w' => e = .returned (.string (str (Lib.decDigits n))) ∧ Kept (fun _ => False) W w'
theorem dig_lt (n : Nat) (h : n < 10) : ((UInt8.ofNat (48 + n)).toNat : Int) = 48 + (n : Int) := by
 have all : ∀ m : Fin 10, (UInt8.ofNat (48 + m.val)).toNat = 48 + m.val := by decide
 have : (UInt8.ofNat (48 + n)).toNat = 48 + n := all ⟨n, h⟩
 rw [this]; omega
theorem conv_dig (W : World) (B n : Nat) (h : n < 10) (hc : W.cell? ⟨B, 0, none⟩ = some (.int .u8 (48 + (n : Int)))) : (convert 107 9 (.slice (some ⟨B, 0, none⟩) 1 1)).run Tryz.prog W = .ok (.string ⟨#[UInt8.ofNat (48 + n)]⟩) W :=
 run_convert_bytes_back (P := Tryz.prog) W 107 9 5 ⟨B, 0, none⟩ 1 [UInt8.ofNat (48 + n)] Tryz.underlying107 Tryz.underlying5 Tryz.underlying9 (fun j hj => by
  have h0 : j = 0 := by simpa using hj
  subst h0
  show W.cell? _ = some (.int .u8 ((UInt8.ofNat (48 + n)).toNat : Int))
  rw [dig_lt n h]
  exact hc)
theorem dec_small (n : Nat) (h : n < 10) : DcC n := by
 intro W
 have i0 : ((n : Int) == -9223372036854775808) = false := by rw [beq_eq_false_iff_ne]; omega
 have i1 : decide ((n : Int) < 0) = false := decide_eq_false (by omega)
 have i2 : decide ((n : Int) < 10) = true := decide_eq_true (by omega)
 have hcv := conv_dig (W.alloc (.cells #[.int .u8 (48 + (n : Int))] 5)) W.heap.size n h ((Blk.new W 5 [.int .u8 (48 + (n : Int))]).cell 0)
 have HT : Hid (str (Lib.decDigits n) = ⟨#[UInt8.ofNat (48 + n)]⟩) := Ld (by unfold Lib.decDigits; rw [dif_pos h]; rfl)
 generalize UInt8.ofNat (48 + n) = dg at *
 go_enter Tryz.func181, Tryz.ntmps181
 go_wp2_with fail
 go_ret
 exact ⟨by rw [HT.out]; rfl, (Kept.refl _ _).alloc _⟩
theorem decDigits_len (n : Nat) : (Lib.decDigits n).length ≤ n + 1 := by
 induction n using Nat.strongRecOn with
 | _ n ih =>
  unfold Lib.decDigits
  by_cases h : n < 10
  ·rw [dif_pos h]; simp
  ·rw [dif_neg h]
   have := ih (n / 10) (by omega)
   simp only [List.length_append, List.length_cons, List.length_nil]
   omega
theorem dec_more (n : Nat) (h : ¬ n < 10) (hn : n ≤ 1000000000) (ih : DcC (n / 10)) : DcC n := by
 intro W
 have i0 : ((n : Int) == -9223372036854775808) = false := by rw [beq_eq_false_iff_ne]; omega
 have i1 : decide ((n : Int) < 0) = false := decide_eq_false (by omega)
 have i2 : decide ((n : Int) < 10) = false := decide_eq_false (by omega)
 have hq : (n : Int).tdiv 10 = ((n / 10 : Nat) : Int) := by rw [Int.tdiv_eq_ediv_of_nonneg (by omega)]; omega
 have hr : (n : Int).tmod 10 = ((n % 10 : Nat) : Int) := by rw [Int.tmod_eq_emod_of_nonneg (by omega)]; omega
 have hm : n % 10 < 10 := Nat.mod_lt _ (by decide)
 have hqb : n / 10 ≤ 100000000 := by omega
 have HSZ : Hid ((str (Lib.decDigits (n / 10))).size ≤ 1000000001) := Ld (by rw [str_size]; have := decDigits_len (n / 10); omega)
 have HT : Hid (str (Lib.decDigits n) = str (Lib.decDigits (n / 10)) ++ ⟨#[UInt8.ofNat (48 + n % 10)]⟩) := Ld (by
  conv => lhs; unfold Lib.decDigits
  rw [dif_neg h, ← str_app]; rfl)
 have HCV := Ld (fun (X : World) (B : Nat) => conv_dig X B (n % 10) hm)
 have IH := Ld ih
 unfold DcC at IH
 generalize UInt8.ofNat (48 + n % 10) = dg at *
 generalize str (Lib.decDigits (n / 10)) = sq at *
 have hz1 : ¬ 9223372036854775807 < sq.size + 1 := by have := HSZ.out; omega
 clear ih h hn
 generalize hmm : n % 10 = m at *
 generalize hqq : n / 10 = q at *
 have HMQ := Ld (And.intro hmm hqq)
 have m10 : (m : Int) < 10 := by omega
 have q10 : (q : Int) < 100000001 := by omega
 have wq : IntKind.i64.wrap (q : Int) = q := by rw [IntKind.wrap_i64]; omega
 have wm : IntKind.i64.wrap (m : Int) = m := by rw [IntKind.wrap_i64]; omega
 have w48 : IntKind.i64.wrap (48 + (m : Int)) = 48 + m := by rw [IntKind.wrap_i64]; omega
 have w8 : IntKind.u8.wrap (48 + (m : Int)) = 48 + m := by rw [show IntKind.u8.wrap (48 + (m : Int)) = (48 + (m : Int)) % 256 by simp [IntKind.wrap, IntKind.bits, IntKind.signed]]; omega
 clear hmm hqq hm hqb
 have bA : Blk (W.drew.alloc (.cells #[.int .u8 (48 + (m : Int))] 5)) W.heap.size 5 [.int .u8 (48 + (m : Int))] := Blk.new W.drew 5 _
 have hcv0 := HCV.out _ W.heap.size (bA.cell 0)
 have hcv1 := HCV.out _ W.heap.size ((Blk.drew (Blk.new W 5 [.int .u8 (48 + (m : Int))])).cell 0)
 have KD : Kept (fun _ => False) W W.drew := (Kept.refl _ _).drew
 have KA : Kept (fun _ => False) W (W.alloc (.cells #[.int .u8 (48 + (m : Int))] 5)).drew := ((Kept.refl _ _).alloc _).drew
 go_enter Tryz.func181, Tryz.ntmps181
 go_wp2_with fail
 go_region_law
  (first | (go_simp; go_at_call 181; refine (IH.out _).mono ?_; rintro e wq ⟨rfl, kq⟩; first | (have KE := KA.trans kq; have hcvA := HCV.out wq W.heap.size (((Blk.drew (Blk.new W 5 [.int .u8 (48 + (m : Int))])).kept kq (fun h => h)).cell 0)) | (have KE := KD.trans kq; have hcvB := HCV.out (wq.alloc (.cells #[.int .u8 (48 + (m : Int))] 5)) wq.heap.size ((Blk.new wq 5 [.int .u8 (48 + (m : Int))]).cell 0))))
 all_goals
  go_wp2_with fail
  go_ret
  exact ⟨by rw [HT.out]; rfl, by first | exact KE | exact KE.alloc _⟩
theorem dec_nat (n : Nat) (hn : n ≤ 1000000000) : DcC n := by
 induction n using Nat.strongRecOn with
 | _ n ih =>
  by_cases h : n < 10
  ·exact dec_small n h
  ·exact dec_more n h hn (ih (n / 10) (by omega) (by omega))
theorem strip_at (s : ByteArray) (h : s.size - 1 < s.size) : stripD s.data.toList = if digitB (s[s.size - 1].toNat) then stripD (s.extract 0 (s.size - 1)).data.toList else s.data.toList := by
 have e1 := take_snoc s (s.size - 1) h
 have e2 : s.data.toList.take (s.size - 1 + 1) = s.data.toList := List.take_of_length_le (by
  have : s.data.toList.length = s.size := ba_len s
  omega)
 rw [e2] at e1
 rw [ext_take]
 have e3 := stripD_snoc (s.data.toList.take (s.size - 1)) s[s.size - 1]
 rw [← e1] at e3
 rw [e3]
theorem prim_trim {nm : ByteArray} (h : namedB nm = true) : (primB nm = true ∧ 1 < nm.size ∧ trimQ nm = nm.extract 0 (nm.size - 1)) ∨ (primB nm = false ∧ trimQ nm = nm) := by
 unfold namedB at h
 rcases trim_parts nm with ⟨h1, h2, h3⟩ | ⟨h1, h2⟩
 ·rw [h3] at h
  have h4 : 1 < nm.size := by
   by_cases hs : 1 < nm.size
   ·exact hs
   ·have hz : (nm.extract 0 (nm.size - 1)).size = 0 := by rw [ByteArray.size_extract]; omega
    unfold identB at h
    rw [hz] at h
    simp at h
  refine .inl ⟨?_, h4, h3⟩
  unfold primB
  rw [dif_pos h4, h]
  have : ((nm[nm.size - 1].toNat : Int) == 39) = true := by rw [h2]; decide
  rw [this]; rfl
 ·refine .inr ⟨?_, h2⟩
  unfold primB
  by_cases h4 : 1 < nm.size
  ·rw [dif_pos h4]
   have h5 := h1 (by omega)
   have : ((nm[nm.size - 1].toNat : Int) == 39) = false := by
    rw [beq_eq_false_iff_ne]
    intro e
    exact h5 (UInt8.toNat.inj (by rw [show (39 : UInt8).toNat = 39 from rfl]; omega))
   rw [this]; rfl
  ·rw [dif_neg h4]
theorem cand_str {B : ByteArray} {k : Nat} : (if 16 < B.size + (str (Lib.decDigits k)).size then B.extract 0 (16 - (str (Lib.decDigits k)).size) else B) ++ str (Lib.decDigits k) = str (candL B.data.toList k) := by
 apply ByteArray.ext
 apply Array.toList_inj.1
 have hs : (str (Lib.decDigits k)).size = (Lib.decDigits k).length := by rw [str_size]
 have hl : B.data.toList.length = B.size := ba_len B
 rw [ByteArray.data_append, Array.toList_append, str_list, str_list]
 unfold candL
 congr 1
 rw [hs]
 split
 ·rw [ext_take]
 ·rw [List.take_of_length_le (by omega)]
theorem fresh_at {nm : ByteArray} {used : List ByteArray} (hn : namedB nm = true) (hu : used.length ≤ 800000) (hm : mb nm used = true) : ∃ j, 1 ≤ j ∧ j ≤ 1000001 ∧ frFrom nm used = str (candL (baseL nm) j) ∧ mb (str (candL (baseL nm) j)) used = false ∧ ∀ i, 1 ≤ i → i < j → mb (str (candL (baseL nm) i)) used = true := by
 obtain ⟨j, h1, h2, h3, h4, h5⟩ := frGo_at (baseL nm) used 1000000 1 (cand_free (baseL nm) used hu)
 refine ⟨j, h3, by omega, ?_, h2, h5⟩
 unfold frFrom
 rw [if_pos hm, h1]
theorem base_size {nm : ByteArray} (hn : namedB nm = true) : (baseL nm).length ≤ 16 := by
 unfold baseL
 obtain ⟨r, hr⟩ := stripD_pre (trimQ nm).data.toList
 have h1 := congrArg List.length hr
 rw [List.length_append] at h1
 unfold namedB identB at hn
 simp only [Bool.and_eq_true, decide_eq_true_eq] at hn
 have h2 : (trimQ nm).data.toList.length = (trimQ nm).size := ba_len _
 omega
def strOf : Value → ByteArray
 | .string s => s
 | _ => ⟨#[]⟩
theorem rfresh_any {ok : Nat → Prop} {w : World} {used : List ByteArray} {vu : Value} (name : ByteArray) (hN : NmL ok w used vu) (hu : used.length ≤ 800000) (hsz : name.size ≤ 9223372036854775807) :
  Calls Tryz.prog 123 #[.string name, vu] w fun e w' => e = .returned (.string (freshS name used)) ∧ Kept (fun _ => False) w w' := by
 have HIN := Ld (fun W (k : Kept (fun _ => False) w W) (s : ByteArray) => rinN_any s (hN.frame (sK k)) (by omega))
 have HNV := Ld (fun (v : Bool) (hv : namedB name = v) => rnamed_t hv hsz w)
 have HU := Ld hu
 have HFR : Hid (freshS name used = frFrom (if namedB name then name else xS) used) := Ld rfl
 have HSZ := Ld hsz
 clear hN hu hsz
 generalize freshS name used = res at *
 cases hv : namedB name
 ·have HRN : Hid (res = frFrom xS used) := Ld (by rw [HFR.out, hv]; rfl)
  have HNV2 := Ld (HNV.out _ hv)
  clear hv HNV HFR
  go_enter Tryz.func123, Tryz.ntmps123
  go_wp2_with fail
  refine HNV2.out.mono ?_
  rintro e w2 ⟨rfl, k2⟩
  have HK := Ld k2
  clear k2 HNV2
  have HNM : Hid (namedB xS = true) := Ld (ident_named x_ident)
  have HSN : Hid (xS.size ≤ 9223372036854775807) := Ld (by decide)
  go_upto_region 3 with (fail)
  change Hid (namedB (⟨#[120]⟩ : ByteArray) = true) at HNM
  change Hid ((⟨#[120]⟩ : ByteArray).size ≤ 9223372036854775807) at HSN
  change Hid (res = frFrom (⟨#[120]⟩ : ByteArray) used) at HRN
  generalize (⟨#[120]⟩ : ByteArray) = nm at *
  go_wp2_with fail
  refine (HIN.out _ HK.out nm).mono ?_
  rintro e w3 ⟨rfl, rfl⟩
  cases hm : mb nm used
  ·have HE : Hid (res = nm) := Ld (by rw [HRN.out]; unfold frFrom; rw [hm]; rfl)
   clear hm HIN
   go_wp2_with fail
   go_ret
   exact ⟨by rw [HE.out]; rfl, HK.out⟩
  ·obtain ⟨j, hj1, hj2, hj3, hj4, hj5⟩ := fresh_at HNM.out HU.out hm
   have HRJ : Hid (res = str (candL (baseL nm) j)) := Ld (by rw [HRN.out, hj3])
   have HJ4 := Ld hj4
   have HJ5 := Ld hj5
   have HBS := Ld (base_size HNM.out)
   have HBN := Ld (base_ok HNM.out).1
   have HPT := Ld (prim_trim HNM.out)
   have HP := Ld (fun (v : Bool) (hv : primB nm = v) => primed_big nm w2 HSN.out hv)
   have HBL : Hid (baseL nm = stripD (trimQ nm).data.toList) := Ld rfl
   generalize baseL nm = b at *
   clear hm hj3 hj4 hj5 HRN HNM
   rcases HPT.out with ⟨hp, hp1, hp2⟩ | ⟨hp, hp2⟩
   ·have HPC := Ld (HP.out _ hp)
    have HST : Hid (stripD (nm.extract 0 (nm.size - 1)).data.toList = b ∧ (nm.extract 0 (nm.size - 1)).size ≤ 9223372036854775807) := Ld ⟨by rw [← hp2]; exact HBL.out.symm, by rw [ByteArray.size_extract]; have := HSN.out; omega⟩
    have i1 : (1 : Int) < (nm.size : Int) := by omega
    have i2 : nm.size - 1 < nm.size := by omega
    have i3 : (nm.size : Int) - 1 = ((nm.size - 1 : Nat) : Int) := by omega
    have i4 := HSN.out
    clear hp hp1 hp2 HP HPT
    go_wp2_with fail
    refine HPC.out.mono ?_
    rintro e w4 ⟨rfl, k4⟩
    have HK3 := Ld (HK.out.trans k4)
    clear HPC k4 HK
    go_wp2_with fail
    clear i1 i2 i3 i4
    go_loopw [0] (fun v wr => ∃ s : ByteArray, v = .string s ∧ Kept (fun _ => False) w wr ∧ Hid (stripD s.data.toList = b ∧ s.size ≤ 9223372036854775807)) (fun v _ => (strOf v).size)
    case atStart => exact ⟨_, rfl, HK3.out, HST⟩
    case round =>
     obtain ⟨s, rfl, kr, hq⟩ := hrel
     have hpos : 0 < s.size := by
      have h1 := hq.out.1
      have h2 := HBN.out
      by_cases h : 0 < s.size
      ·exact h
      ·exfalso
       have h3 : s.data.toList = [] := List.length_eq_zero_iff.1 (by rw [ba_len]; omega)
       rw [h3] at h1
       exact h2 h1.symm
     have i1 : (0 : Int) < (s.size : Int) := by omega
     have i2 : s.size - 1 < s.size := by omega
     have i3 : (s.size : Int) - 1 = ((s.size - 1 : Nat) : Int) := by omega
     have i4 := hq.out.2
     have HSA := Ld (strip_at s i2)
     cases hd : digitB (s[s.size - 1].toNat)
     ·have HB : Hid (s.data.toList = b) := Ld (by rw [← hq.out.1, HSA.out, hd]; rfl)
      go_wp2_with (go_at_call 137; refine (rdigit_any _ _).mono ?_; rintro e w' ⟨rfl, rfl⟩)
      clear hd HSA i1 i3 hpos
      have i4 : s.size ≤ 16 := by have h1 := HBS.out; have h2 := congrArg List.length HB.out; rw [ba_len] at h2; omega
      go_loopw [5, 6, 7] (fun i x y wr => ∃ k : Nat, 1 ≤ k ∧ k ≤ j ∧ i = .int .i64 k ∧ Kept (fun _ => False) w wr) (fun i x y _ => j - (intOf i).toNat)
      case atStart => exact ⟨1, Nat.le_refl _, hj1, rfl, kr⟩
      case round =>
       obtain ⟨k, hk1, hk2, rfl, kr2⟩ := hrel
       have k1 : (k : Int) < 1000002 := by omega
       have hdl := dec_len2 6 k (by omega)
       have HDD := Ld (dec_nat k (by omega) wr)
       have HCS := Ld (cand_str (B := s) (k := k))
       rw [HB.out] at HCS
       have hDs : (str (Lib.decDigits k)).size ≤ 7 := by rw [str_size]; exact hdl
       clear hdl
       generalize str (Lib.decDigits k) = D at *
       go_wp2_with fail
       refine HDD.out.mono ?_
       rintro e w7 ⟨rfl, k7⟩
       have KK7 := Ld (kr2.trans k7)
       clear HDD
       have n1 : (D.size : Int) ≤ 7 := by omega
       have n2 : (s.size : Int) ≤ 16 := by omega
       have n3 : (0 : Int) ≤ (D.size : Int) := by omega
       have n4 : (0 : Int) ≤ (s.size : Int) := by omega
       by_cases hc : 16 < s.size + D.size
       ·have t1 : decide ((16 : Int) < (s.size : Int) + (D.size : Int)) = true := decide_eq_true (by omega)
        have n5 : (16 : Int) - (D.size : Int) = ((16 - D.size : Nat) : Int) := by omega
        have n6 : 16 - D.size ≤ s.size := by omega
        have n7 : ((16 - D.size : Nat) : Int) ≤ (s.size : Int) := by omega
        rw [if_pos hc] at HCS
        clear hc
        by_cases hkj : k = j
        ·have hmb : mb (s.extract 0 (16 - D.size) ++ D) used = false := by rw [HCS.out, hkj]; exact HJ4.out
         have HRE : Hid (res = s.extract 0 (16 - D.size) ++ D) := Ld (by rw [HRJ.out, ← hkj, HCS.out])
         go_wp2_with fail
         refine (HIN.out w7 KK7.out (s.extract 0 (16 - D.size) ++ D)).mono ?_
         rintro e w8 ⟨rfl, rfl⟩
         go_wp2_with fail
         go_ret
         exact ⟨by rw [HRE.out]; rfl, KK7.out⟩
        ·have hmb : mb (s.extract 0 (16 - D.size) ++ D) used = true := by rw [HCS.out]; exact HJ5.out k hk1 (by omega)
         go_wp2_with fail
         refine (HIN.out w7 KK7.out (s.extract 0 (16 - D.size) ++ D)).mono ?_
         rintro e w8 ⟨rfl, rfl⟩
         go_wp2_with fail
         go_roundw
         case rel => exact ⟨k + 1, by omega, by omega, by go_num, KK7.out⟩
         case measure => simp [intOf]; omega
       ·have t1 : decide ((16 : Int) < (s.size : Int) + (D.size : Int)) = false := decide_eq_false (by omega)
        rw [if_neg hc] at HCS
        clear hc
        by_cases hkj : k = j
        ·have hmb : mb (s ++ D) used = false := by rw [HCS.out, hkj]; exact HJ4.out
         have HRE : Hid (res = s ++ D) := Ld (by rw [HRJ.out, ← hkj, HCS.out])
         go_wp2_with fail
         refine (HIN.out w7 KK7.out (s ++ D)).mono ?_
         rintro e w8 ⟨rfl, rfl⟩
         go_wp2_with fail
         go_ret
         exact ⟨by rw [HRE.out]; rfl, KK7.out⟩
        ·have hmb : mb (s ++ D) used = true := by rw [HCS.out]; exact HJ5.out k hk1 (by omega)
         go_wp2_with fail
         refine (HIN.out w7 KK7.out (s ++ D)).mono ?_
         rintro e w8 ⟨rfl, rfl⟩
         go_wp2_with fail
         go_roundw
         case rel => exact ⟨k + 1, by omega, by omega, by go_num, KK7.out⟩
         case measure => simp [intOf]; omega
     ·have HN2 : Hid (stripD (s.extract 0 (s.size - 1)).data.toList = b ∧ (s.extract 0 (s.size - 1)).size ≤ 9223372036854775807) := Ld ⟨by rw [← hq.out.1, HSA.out, hd]; rfl, by rw [ByteArray.size_extract]; omega⟩
      go_wp2_with (go_at_call 137; refine (rdigit_any _ _).mono ?_; rintro e w' ⟨rfl, rfl⟩)
      go_roundw
      case rel => exact ⟨_, rfl, kr, HN2⟩
      case measure => simp only [strOf, ByteArray.size_extract]; omega
   ·have HPC := Ld (HP.out _ hp)
    have HST : Hid (stripD nm.data.toList = b ∧ nm.size ≤ 9223372036854775807) := Ld ⟨by rw [hp2] at HBL; exact HBL.out.symm, HSN.out⟩
    clear hp hp2 HP HPT
    go_wp2_with fail
    refine HPC.out.mono ?_
    rintro e w4 ⟨rfl, k4⟩
    have HK3 := Ld (HK.out.trans k4)
    clear HPC k4 HK
    go_wp2_with fail
    go_loopw [0] (fun v wr => ∃ s : ByteArray, v = .string s ∧ Kept (fun _ => False) w wr ∧ Hid (stripD s.data.toList = b ∧ s.size ≤ 9223372036854775807)) (fun v _ => (strOf v).size)
    case atStart => exact ⟨_, rfl, HK3.out, HST⟩
    case round =>
     obtain ⟨s, rfl, kr, hq⟩ := hrel
     have hpos : 0 < s.size := by
      have h1 := hq.out.1
      have h2 := HBN.out
      by_cases h : 0 < s.size
      ·exact h
      ·exfalso
       have h3 : s.data.toList = [] := List.length_eq_zero_iff.1 (by rw [ba_len]; omega)
       rw [h3] at h1
       exact h2 h1.symm
     have i1 : (0 : Int) < (s.size : Int) := by omega
     have i2 : s.size - 1 < s.size := by omega
     have i3 : (s.size : Int) - 1 = ((s.size - 1 : Nat) : Int) := by omega
     have i4 := hq.out.2
     have HSA := Ld (strip_at s i2)
     cases hd : digitB (s[s.size - 1].toNat)
     ·have HB : Hid (s.data.toList = b) := Ld (by rw [← hq.out.1, HSA.out, hd]; rfl)
      go_wp2_with (go_at_call 137; refine (rdigit_any _ _).mono ?_; rintro e w' ⟨rfl, rfl⟩)
      clear hd HSA i1 i3 hpos
      have i4 : s.size ≤ 16 := by have h1 := HBS.out; have h2 := congrArg List.length HB.out; rw [ba_len] at h2; omega
      go_loopw [5, 6, 7] (fun i x y wr => ∃ k : Nat, 1 ≤ k ∧ k ≤ j ∧ i = .int .i64 k ∧ Kept (fun _ => False) w wr) (fun i x y _ => j - (intOf i).toNat)
      case atStart => exact ⟨1, Nat.le_refl _, hj1, rfl, kr⟩
      case round =>
       obtain ⟨k, hk1, hk2, rfl, kr2⟩ := hrel
       have k1 : (k : Int) < 1000002 := by omega
       have hdl := dec_len2 6 k (by omega)
       have HDD := Ld (dec_nat k (by omega) wr)
       have HCS := Ld (cand_str (B := s) (k := k))
       rw [HB.out] at HCS
       have hDs : (str (Lib.decDigits k)).size ≤ 7 := by rw [str_size]; exact hdl
       clear hdl
       generalize str (Lib.decDigits k) = D at *
       go_wp2_with fail
       refine HDD.out.mono ?_
       rintro e w7 ⟨rfl, k7⟩
       have KK7 := Ld (kr2.trans k7)
       clear HDD
       have n1 : (D.size : Int) ≤ 7 := by omega
       have n2 : (s.size : Int) ≤ 16 := by omega
       have n3 : (0 : Int) ≤ (D.size : Int) := by omega
       have n4 : (0 : Int) ≤ (s.size : Int) := by omega
       by_cases hc : 16 < s.size + D.size
       ·have t1 : decide ((16 : Int) < (s.size : Int) + (D.size : Int)) = true := decide_eq_true (by omega)
        have n5 : (16 : Int) - (D.size : Int) = ((16 - D.size : Nat) : Int) := by omega
        have n6 : 16 - D.size ≤ s.size := by omega
        have n7 : ((16 - D.size : Nat) : Int) ≤ (s.size : Int) := by omega
        rw [if_pos hc] at HCS
        clear hc
        by_cases hkj : k = j
        ·have hmb : mb (s.extract 0 (16 - D.size) ++ D) used = false := by rw [HCS.out, hkj]; exact HJ4.out
         have HRE : Hid (res = s.extract 0 (16 - D.size) ++ D) := Ld (by rw [HRJ.out, ← hkj, HCS.out])
         go_wp2_with fail
         refine (HIN.out w7 KK7.out (s.extract 0 (16 - D.size) ++ D)).mono ?_
         rintro e w8 ⟨rfl, rfl⟩
         go_wp2_with fail
         go_ret
         exact ⟨by rw [HRE.out]; rfl, KK7.out⟩
        ·have hmb : mb (s.extract 0 (16 - D.size) ++ D) used = true := by rw [HCS.out]; exact HJ5.out k hk1 (by omega)
         go_wp2_with fail
         refine (HIN.out w7 KK7.out (s.extract 0 (16 - D.size) ++ D)).mono ?_
         rintro e w8 ⟨rfl, rfl⟩
         go_wp2_with fail
         go_roundw
         case rel => exact ⟨k + 1, by omega, by omega, by go_num, KK7.out⟩
         case measure => simp [intOf]; omega
       ·have t1 : decide ((16 : Int) < (s.size : Int) + (D.size : Int)) = false := decide_eq_false (by omega)
        rw [if_neg hc] at HCS
        clear hc
        by_cases hkj : k = j
        ·have hmb : mb (s ++ D) used = false := by rw [HCS.out, hkj]; exact HJ4.out
         have HRE : Hid (res = s ++ D) := Ld (by rw [HRJ.out, ← hkj, HCS.out])
         go_wp2_with fail
         refine (HIN.out w7 KK7.out (s ++ D)).mono ?_
         rintro e w8 ⟨rfl, rfl⟩
         go_wp2_with fail
         go_ret
         exact ⟨by rw [HRE.out]; rfl, KK7.out⟩
        ·have hmb : mb (s ++ D) used = true := by rw [HCS.out]; exact HJ5.out k hk1 (by omega)
         go_wp2_with fail
         refine (HIN.out w7 KK7.out (s ++ D)).mono ?_
         rintro e w8 ⟨rfl, rfl⟩
         go_wp2_with fail
         go_roundw
         case rel => exact ⟨k + 1, by omega, by omega, by go_num, KK7.out⟩
         case measure => simp [intOf]; omega
     ·have HN2 : Hid (stripD (s.extract 0 (s.size - 1)).data.toList = b ∧ (s.extract 0 (s.size - 1)).size ≤ 9223372036854775807) := Ld ⟨by rw [← hq.out.1, HSA.out, hd]; rfl, by rw [ByteArray.size_extract]; omega⟩
      go_wp2_with (go_at_call 137; refine (rdigit_any _ _).mono ?_; rintro e w' ⟨rfl, rfl⟩)
      go_roundw
      case rel => exact ⟨_, rfl, kr, HN2⟩
      case measure => simp only [strOf, ByteArray.size_extract]; omega
 ·have HRN : Hid (res = frFrom name used) := Ld (by rw [HFR.out, hv]; rfl)
  have HNV2 := Ld (HNV.out _ hv)
  have HNM := Ld hv
  have HSN := HSZ
  clear hv HNV HFR HSZ
  generalize name = nm at *
  go_enter Tryz.func123, Tryz.ntmps123
  go_wp2_with fail
  refine HNV2.out.mono ?_
  rintro e w2 ⟨rfl, k2⟩
  have HK := Ld k2
  clear k2 HNV2
  go_wp2_with fail
  refine (HIN.out _ HK.out nm).mono ?_
  rintro e w3 ⟨rfl, rfl⟩
  cases hm : mb nm used
  ·have HE : Hid (res = nm) := Ld (by rw [HRN.out]; unfold frFrom; rw [hm]; rfl)
   clear hm HIN
   go_wp2_with fail
   go_ret
   exact ⟨by rw [HE.out]; rfl, HK.out⟩
  ·obtain ⟨j, hj1, hj2, hj3, hj4, hj5⟩ := fresh_at HNM.out HU.out hm
   have HRJ : Hid (res = str (candL (baseL nm) j)) := Ld (by rw [HRN.out, hj3])
   have HJ4 := Ld hj4
   have HJ5 := Ld hj5
   have HBS := Ld (base_size HNM.out)
   have HBN := Ld (base_ok HNM.out).1
   have HPT := Ld (prim_trim HNM.out)
   have HP := Ld (fun (v : Bool) (hv : primB nm = v) => primed_big nm w2 HSN.out hv)
   have HBL : Hid (baseL nm = stripD (trimQ nm).data.toList) := Ld rfl
   generalize baseL nm = b at *
   clear hm hj3 hj4 hj5 HRN HNM
   rcases HPT.out with ⟨hp, hp1, hp2⟩ | ⟨hp, hp2⟩
   ·have HPC := Ld (HP.out _ hp)
    have HST : Hid (stripD (nm.extract 0 (nm.size - 1)).data.toList = b ∧ (nm.extract 0 (nm.size - 1)).size ≤ 9223372036854775807) := Ld ⟨by rw [← hp2]; exact HBL.out.symm, by rw [ByteArray.size_extract]; have := HSN.out; omega⟩
    have i1 : (1 : Int) < (nm.size : Int) := by omega
    have i2 : nm.size - 1 < nm.size := by omega
    have i3 : (nm.size : Int) - 1 = ((nm.size - 1 : Nat) : Int) := by omega
    have i4 := HSN.out
    clear hp hp1 hp2 HP HPT
    go_wp2_with fail
    refine HPC.out.mono ?_
    rintro e w4 ⟨rfl, k4⟩
    have HK3 := Ld (HK.out.trans k4)
    clear HPC k4 HK
    go_wp2_with fail
    clear i1 i2 i3 i4
    go_loopw [0] (fun v wr => ∃ s : ByteArray, v = .string s ∧ Kept (fun _ => False) w wr ∧ Hid (stripD s.data.toList = b ∧ s.size ≤ 9223372036854775807)) (fun v _ => (strOf v).size)
    case atStart => exact ⟨_, rfl, HK3.out, HST⟩
    case round =>
     obtain ⟨s, rfl, kr, hq⟩ := hrel
     have hpos : 0 < s.size := by
      have h1 := hq.out.1
      have h2 := HBN.out
      by_cases h : 0 < s.size
      ·exact h
      ·exfalso
       have h3 : s.data.toList = [] := List.length_eq_zero_iff.1 (by rw [ba_len]; omega)
       rw [h3] at h1
       exact h2 h1.symm
     have i1 : (0 : Int) < (s.size : Int) := by omega
     have i2 : s.size - 1 < s.size := by omega
     have i3 : (s.size : Int) - 1 = ((s.size - 1 : Nat) : Int) := by omega
     have i4 := hq.out.2
     have HSA := Ld (strip_at s i2)
     cases hd : digitB (s[s.size - 1].toNat)
     ·have HB : Hid (s.data.toList = b) := Ld (by rw [← hq.out.1, HSA.out, hd]; rfl)
      go_wp2_with (go_at_call 137; refine (rdigit_any _ _).mono ?_; rintro e w' ⟨rfl, rfl⟩)
      clear hd HSA i1 i3 hpos
      have i4 : s.size ≤ 16 := by have h1 := HBS.out; have h2 := congrArg List.length HB.out; rw [ba_len] at h2; omega
      go_loopw [5, 6, 7] (fun i x y wr => ∃ k : Nat, 1 ≤ k ∧ k ≤ j ∧ i = .int .i64 k ∧ Kept (fun _ => False) w wr) (fun i x y _ => j - (intOf i).toNat)
      case atStart => exact ⟨1, Nat.le_refl _, hj1, rfl, kr⟩
      case round =>
       obtain ⟨k, hk1, hk2, rfl, kr2⟩ := hrel
       have k1 : (k : Int) < 1000002 := by omega
       have hdl := dec_len2 6 k (by omega)
       have HDD := Ld (dec_nat k (by omega) wr)
       have HCS := Ld (cand_str (B := s) (k := k))
       rw [HB.out] at HCS
       have hDs : (str (Lib.decDigits k)).size ≤ 7 := by rw [str_size]; exact hdl
       clear hdl
       generalize str (Lib.decDigits k) = D at *
       go_wp2_with fail
       refine HDD.out.mono ?_
       rintro e w7 ⟨rfl, k7⟩
       have KK7 := Ld (kr2.trans k7)
       clear HDD
       have n1 : (D.size : Int) ≤ 7 := by omega
       have n2 : (s.size : Int) ≤ 16 := by omega
       have n3 : (0 : Int) ≤ (D.size : Int) := by omega
       have n4 : (0 : Int) ≤ (s.size : Int) := by omega
       by_cases hc : 16 < s.size + D.size
       ·have t1 : decide ((16 : Int) < (s.size : Int) + (D.size : Int)) = true := decide_eq_true (by omega)
        have n5 : (16 : Int) - (D.size : Int) = ((16 - D.size : Nat) : Int) := by omega
        have n6 : 16 - D.size ≤ s.size := by omega
        have n7 : ((16 - D.size : Nat) : Int) ≤ (s.size : Int) := by omega
        rw [if_pos hc] at HCS
        clear hc
        by_cases hkj : k = j
        ·have hmb : mb (s.extract 0 (16 - D.size) ++ D) used = false := by rw [HCS.out, hkj]; exact HJ4.out
         have HRE : Hid (res = s.extract 0 (16 - D.size) ++ D) := Ld (by rw [HRJ.out, ← hkj, HCS.out])
         go_wp2_with fail
         refine (HIN.out w7 KK7.out (s.extract 0 (16 - D.size) ++ D)).mono ?_
         rintro e w8 ⟨rfl, rfl⟩
         go_wp2_with fail
         go_ret
         exact ⟨by rw [HRE.out]; rfl, KK7.out⟩
        ·have hmb : mb (s.extract 0 (16 - D.size) ++ D) used = true := by rw [HCS.out]; exact HJ5.out k hk1 (by omega)
         go_wp2_with fail
         refine (HIN.out w7 KK7.out (s.extract 0 (16 - D.size) ++ D)).mono ?_
         rintro e w8 ⟨rfl, rfl⟩
         go_wp2_with fail
         go_roundw
         case rel => exact ⟨k + 1, by omega, by omega, by go_num, KK7.out⟩
         case measure => simp [intOf]; omega
       ·have t1 : decide ((16 : Int) < (s.size : Int) + (D.size : Int)) = false := decide_eq_false (by omega)
        rw [if_neg hc] at HCS
        clear hc
        by_cases hkj : k = j
        ·have hmb : mb (s ++ D) used = false := by rw [HCS.out, hkj]; exact HJ4.out
         have HRE : Hid (res = s ++ D) := Ld (by rw [HRJ.out, ← hkj, HCS.out])
         go_wp2_with fail
         refine (HIN.out w7 KK7.out (s ++ D)).mono ?_
         rintro e w8 ⟨rfl, rfl⟩
         go_wp2_with fail
         go_ret
         exact ⟨by rw [HRE.out]; rfl, KK7.out⟩
        ·have hmb : mb (s ++ D) used = true := by rw [HCS.out]; exact HJ5.out k hk1 (by omega)
         go_wp2_with fail
         refine (HIN.out w7 KK7.out (s ++ D)).mono ?_
         rintro e w8 ⟨rfl, rfl⟩
         go_wp2_with fail
         go_roundw
         case rel => exact ⟨k + 1, by omega, by omega, by go_num, KK7.out⟩
         case measure => simp [intOf]; omega
     ·have HN2 : Hid (stripD (s.extract 0 (s.size - 1)).data.toList = b ∧ (s.extract 0 (s.size - 1)).size ≤ 9223372036854775807) := Ld ⟨by rw [← hq.out.1, HSA.out, hd]; rfl, by rw [ByteArray.size_extract]; omega⟩
      go_wp2_with (go_at_call 137; refine (rdigit_any _ _).mono ?_; rintro e w' ⟨rfl, rfl⟩)
      go_roundw
      case rel => exact ⟨_, rfl, kr, HN2⟩
      case measure => simp only [strOf, ByteArray.size_extract]; omega
   ·have HPC := Ld (HP.out _ hp)
    have HST : Hid (stripD nm.data.toList = b ∧ nm.size ≤ 9223372036854775807) := Ld ⟨by rw [hp2] at HBL; exact HBL.out.symm, HSN.out⟩
    clear hp hp2 HP HPT
    go_wp2_with fail
    refine HPC.out.mono ?_
    rintro e w4 ⟨rfl, k4⟩
    have HK3 := Ld (HK.out.trans k4)
    clear HPC k4 HK
    go_wp2_with fail
    go_loopw [0] (fun v wr => ∃ s : ByteArray, v = .string s ∧ Kept (fun _ => False) w wr ∧ Hid (stripD s.data.toList = b ∧ s.size ≤ 9223372036854775807)) (fun v _ => (strOf v).size)
    case atStart => exact ⟨_, rfl, HK3.out, HST⟩
    case round =>
     obtain ⟨s, rfl, kr, hq⟩ := hrel
     have hpos : 0 < s.size := by
      have h1 := hq.out.1
      have h2 := HBN.out
      by_cases h : 0 < s.size
      ·exact h
      ·exfalso
       have h3 : s.data.toList = [] := List.length_eq_zero_iff.1 (by rw [ba_len]; omega)
       rw [h3] at h1
       exact h2 h1.symm
     have i1 : (0 : Int) < (s.size : Int) := by omega
     have i2 : s.size - 1 < s.size := by omega
     have i3 : (s.size : Int) - 1 = ((s.size - 1 : Nat) : Int) := by omega
     have i4 := hq.out.2
     have HSA := Ld (strip_at s i2)
     cases hd : digitB (s[s.size - 1].toNat)
     ·have HB : Hid (s.data.toList = b) := Ld (by rw [← hq.out.1, HSA.out, hd]; rfl)
      go_wp2_with (go_at_call 137; refine (rdigit_any _ _).mono ?_; rintro e w' ⟨rfl, rfl⟩)
      clear hd HSA i1 i3 hpos
      have i4 : s.size ≤ 16 := by have h1 := HBS.out; have h2 := congrArg List.length HB.out; rw [ba_len] at h2; omega
      go_loopw [5, 6, 7] (fun i x y wr => ∃ k : Nat, 1 ≤ k ∧ k ≤ j ∧ i = .int .i64 k ∧ Kept (fun _ => False) w wr) (fun i x y _ => j - (intOf i).toNat)
      case atStart => exact ⟨1, Nat.le_refl _, hj1, rfl, kr⟩
      case round =>
       obtain ⟨k, hk1, hk2, rfl, kr2⟩ := hrel
       have k1 : (k : Int) < 1000002 := by omega
       have hdl := dec_len2 6 k (by omega)
       have HDD := Ld (dec_nat k (by omega) wr)
       have HCS := Ld (cand_str (B := s) (k := k))
       rw [HB.out] at HCS
       have hDs : (str (Lib.decDigits k)).size ≤ 7 := by rw [str_size]; exact hdl
       clear hdl
       generalize str (Lib.decDigits k) = D at *
       go_wp2_with fail
       refine HDD.out.mono ?_
       rintro e w7 ⟨rfl, k7⟩
       have KK7 := Ld (kr2.trans k7)
       clear HDD
       have n1 : (D.size : Int) ≤ 7 := by omega
       have n2 : (s.size : Int) ≤ 16 := by omega
       have n3 : (0 : Int) ≤ (D.size : Int) := by omega
       have n4 : (0 : Int) ≤ (s.size : Int) := by omega
       by_cases hc : 16 < s.size + D.size
       ·have t1 : decide ((16 : Int) < (s.size : Int) + (D.size : Int)) = true := decide_eq_true (by omega)
        have n5 : (16 : Int) - (D.size : Int) = ((16 - D.size : Nat) : Int) := by omega
        have n6 : 16 - D.size ≤ s.size := by omega
        have n7 : ((16 - D.size : Nat) : Int) ≤ (s.size : Int) := by omega
        rw [if_pos hc] at HCS
        clear hc
        by_cases hkj : k = j
        ·have hmb : mb (s.extract 0 (16 - D.size) ++ D) used = false := by rw [HCS.out, hkj]; exact HJ4.out
         have HRE : Hid (res = s.extract 0 (16 - D.size) ++ D) := Ld (by rw [HRJ.out, ← hkj, HCS.out])
         go_wp2_with fail
         refine (HIN.out w7 KK7.out (s.extract 0 (16 - D.size) ++ D)).mono ?_
         rintro e w8 ⟨rfl, rfl⟩
         go_wp2_with fail
         go_ret
         exact ⟨by rw [HRE.out]; rfl, KK7.out⟩
        ·have hmb : mb (s.extract 0 (16 - D.size) ++ D) used = true := by rw [HCS.out]; exact HJ5.out k hk1 (by omega)
         go_wp2_with fail
         refine (HIN.out w7 KK7.out (s.extract 0 (16 - D.size) ++ D)).mono ?_
         rintro e w8 ⟨rfl, rfl⟩
         go_wp2_with fail
         go_roundw
         case rel => exact ⟨k + 1, by omega, by omega, by go_num, KK7.out⟩
         case measure => simp [intOf]; omega
       ·have t1 : decide ((16 : Int) < (s.size : Int) + (D.size : Int)) = false := decide_eq_false (by omega)
        rw [if_neg hc] at HCS
        clear hc
        by_cases hkj : k = j
        ·have hmb : mb (s ++ D) used = false := by rw [HCS.out, hkj]; exact HJ4.out
         have HRE : Hid (res = s ++ D) := Ld (by rw [HRJ.out, ← hkj, HCS.out])
         go_wp2_with fail
         refine (HIN.out w7 KK7.out (s ++ D)).mono ?_
         rintro e w8 ⟨rfl, rfl⟩
         go_wp2_with fail
         go_ret
         exact ⟨by rw [HRE.out]; rfl, KK7.out⟩
        ·have hmb : mb (s ++ D) used = true := by rw [HCS.out]; exact HJ5.out k hk1 (by omega)
         go_wp2_with fail
         refine (HIN.out w7 KK7.out (s ++ D)).mono ?_
         rintro e w8 ⟨rfl, rfl⟩
         go_wp2_with fail
         go_roundw
         case rel => exact ⟨k + 1, by omega, by omega, by go_num, KK7.out⟩
         case measure => simp [intOf]; omega
     ·have HN2 : Hid (stripD (s.extract 0 (s.size - 1)).data.toList = b ∧ (s.extract 0 (s.size - 1)).size ≤ 9223372036854775807) := Ld ⟨by rw [← hq.out.1, HSA.out, hd]; rfl, by rw [ByteArray.size_extract]; omega⟩
      go_wp2_with (go_at_call 137; refine (rdigit_any _ _).mono ?_; rintro e w' ⟨rfl, rfl⟩)
      go_roundw
      case rel => exact ⟨_, rfl, kr, HN2⟩
      case measure => simp only [strOf, ByteArray.size_extract]; omega
def P10 (w : World) : Prop := Lib.TabIs Tryz.prog w "internal/strconv.uint64pow10" .u64 Lib.pow10Tab
theorem P10.kept {w w' : World} (h : P10 w) (k : Kept (fun _ => False) w w') : P10 w' :=
 Lib.tabBelow_of_tabIs h w' ⟨k.os, k.tape, k.output, k.size, fun q hq => k.block q hq (fun e => e)⟩
theorem itoa_dec {k : Nat} (hk : k ≤ 1000001) {w : World} (h : P10 w) : Calls Tryz.prog 100 #[.int .i64 k] w fun e w' => e = .returned (.string (str (Lib.decDigits k))) ∧ Kept (fun _ => False) w w' := by
 refine (Tryz.strconv_Itoa k (by omega) (by omega) w h).mono ?_
 rintro e w' ⟨rfl, j, os, rfl⟩
 refine ⟨?_, Kept.of_below (Lib.below_grow w.heap.size w (Nat.le_refl _) j os)⟩
 have e1 : Lib.itoa (k : Int) = Lib.decDigits k := by unfold Lib.itoa; simp
 rw [e1]; rfl
theorem contains_any {ok : Nat → Prop} {w : World} {l : List ByteArray} {v : Value} (s : ByteArray) (h : NmL ok w l v) (hn : l.length ≤ 10000000) : Calls Tryz.prog 97 #[v, .string s] w fun e w' => e = .returned (.bool (mb s l)) ∧ w = w' := by
 obtain ⟨a, c, rfl⟩ := h.slice
 by_cases h0 : l = []
 ·subst h0
  refine (Tryz.slices_Contains_string_empty a c s w).mono ?_
  rintro e w' ⟨rfl, rfl⟩
  exact ⟨rfl, rfl⟩
 ·have hlen : 0 < l.length := List.length_pos_iff.2 h0
  obtain ⟨g, off, rfl, _, _⟩ := h.at 0 hlen
  refine (Tryz.slices_Contains_string g off l.length c l s w (Nat.le_refl _) (by omega) (fun j hj => ?_)).mono ?_
  ·obtain ⟨g', off', e, _, hc⟩ := h.at j hj
   cases e
   rw [hc, List.getD_eq_getElem?_getD, List.getElem?_eq_getElem hj]; rfl
  ·rintro e w' ⟨rfl, rfl⟩
   refine ⟨?_, rfl⟩
   rw [List.take_length]
   have : Lib.containsS l s = mb s l := by rw [Bool.eq_iff_iff, Lib.containsS_iff, mb_iff]
   rw [this]
theorem dig_eq : digL = (List.range 256).map (fun (c : Nat) => Value.bool (digitB (c : Int))) := by kernel_rfl
theorem dig_get {c : Nat} (h : c < 256) : digL[c]? = some (.bool (digitB c)) := by
 rw [dig_eq, List.getElem?_map, List.getElem?_range h]; rfl
theorem trimR_any {s0 : ByteArray} {w : World} {X : Nat} (hX : ∀ c, c < 256 → w.cell? ⟨X, c, none⟩ = some (.bool (digitB c))) (hs : s0.size ≤ 9223372036854775807) :
  Calls Tryz.prog 163 #[.string s0, .pointer (some ⟨X, 0, none⟩)] w fun e w' => e = .returned (.string (str (stripD s0.data.toList))) ∧ w = w' := by
 have HC := Ld (fun (x : UInt8) => Tryz.asciiSet_contains X x (digitB x.toNat) w (hX x.toNat x.toNat_lt))
 have HS := Ld hs
 clear hX hs
 go_enter Tryz.func163, Tryz.ntmps163
 go_wp2_with fail
 go_loop [0] (fun v => ∃ s : ByteArray, v = .string s ∧ s.size ≤ 9223372036854775807 ∧ Hid (stripD s.data.toList = stripD s0.data.toList)) (fun v => strSz v)
 case atStart => exact ⟨s0, rfl, HS.out, Ld rfl⟩
 case round =>
  obtain ⟨s, rfl, hsz, hq⟩ := hrel
  have HQ := hq
  clear hq
  by_cases hz : s.size = 0
  ·have h3 : s.data.toList = [] := List.length_eq_zero_iff.1 (by rw [ba_len]; omega)
   have HR : Hid (str (stripD s0.data.toList) = s) := Ld (by
    rw [← HQ.out, h3]
    apply ByteArray.ext
    apply Array.toList_inj.1
    rw [h3]
    rfl)
   have i1 : ¬ (0 : Int) < (s.size : Int) := by omega
   clear hz h3
   go_wp2_with fail
   go_ret
   exact ⟨by rw [HR.out]; rfl, rfl⟩
  ·have i1 : (0 : Int) < (s.size : Int) := by omega
   have i2 : s.size - 1 < s.size := by omega
   have i3 : (s.size : Int) - 1 = ((s.size - 1 : Nat) : Int) := by omega
   have HSA := Ld (strip_at s i2)
   have HCC := Ld (HC.out s[s.size - 1])
   clear hz
   cases hd : digitB (s[s.size - 1].toNat)
   ·have HR : Hid (str (stripD s0.data.toList) = s) := Ld (by
     rw [← HQ.out, HSA.out, hd]
     apply ByteArray.ext
     apply Array.toList_inj.1
     rw [if_neg (by decide), str_list])
    rw [hd] at HCC
    clear hd HSA
    go_wp2_with (go_at_call 204; refine HCC.out.mono ?_; rintro e w' ⟨rfl, rfl⟩)
    go_ret
    exact ⟨by rw [HR.out]; rfl, rfl⟩
   ·have HS2 : Hid (stripD (s.extract 0 (s.size - 1)).data.toList = stripD s0.data.toList ∧ (s.extract 0 (s.size - 1)).size ≤ 9223372036854775807 ∧ (s.extract 0 (s.size - 1)).size < s.size) := Ld ⟨by rw [← HQ.out, HSA.out, hd]; rfl, by rw [ByteArray.size_extract]; omega, by rw [ByteArray.size_extract]; omega⟩
    rw [hd] at HCC
    clear hd HSA
    go_wp2_with (go_at_call 204; refine HCC.out.mono ?_; rintro e w' ⟨rfl, rfl⟩)
    go_round
    case rel => exact ⟨_, rfl, HS2.out.2.1, Ld HS2.out.1⟩
    case measure => exact HS2.out.2.2
theorem trimRight_dig {s : ByteArray} (hs : s.size ≤ 9223372036854775807) (hne : s.size ≠ 0) (w : World) : Calls Tryz.prog 98 #[.string s, .string digS] w fun e w' => e = .returned (.string (str (stripD s.data.toList))) ∧ Kept (fun _ => False) w w' := by
 have i1 : digS.toList.isEmpty = false := by kernel_rfl
 have i2 : digS.size = 10 := rfl
 have i3 : (digS.toList == []) = false := by kernel_rfl
 have i4 : (s.toList == []) = false := by
  rw [beq_eq_false_iff_ne]
  intro e
  rw [Go.ByteArray.toList_eq] at e
  have := ba_len s
  rw [e] at this
  exact hne this.symm
 have HD := Ld dig_set
 have HSZ := Ld hs
 clear hs hne
 go_enter Tryz.func98, Tryz.ntmps98
 go_wp2_with (first | (go_at_call 162; refine (HD.out _).mono ?_; rintro e w1 ⟨rfl, hw1⟩; have k1 : Kept (fun _ => False) w w1 := (by rw [hw1]; exact (Kept.refl _ _).alloc _); clear hw1) | (refine wpList_store_at (w0 := w1) (L := digL) (dig_blk w1) ((Kept.refl _ _).alloc _) rfl _ _ rfl rfl rfl (by kernel_rfl) dig_zl (by kernel_rfl) ?_; intro W bW kW; have HX := Ld (fun c (hc : c < 256) => (bW.cell c).trans (dig_get hc)); clear bW) | (go_at_call 163; refine (trimR_any HX.out HSZ.out).mono ?_; rintro e w' ⟨rfl, rfl⟩))
 go_ret
 exact ⟨rfl, k1.trans kW⟩
theorem cand_min {b : List UInt8} {k : Nat} {m : Nat} (hm : m = min b.length (16 - (Lib.decDigits k).length)) : (str b).extract 0 m ++ str (Lib.decDigits k) = str (candL b k) := by
 apply ByteArray.ext
 apply Array.toList_inj.1
 rw [ByteArray.data_append, Array.toList_append, str_list, str_list, ext_take, str_list]
 unfold candL
 congr 1
 rw [hm]
 by_cases h : b.length ≤ 16 - (Lib.decDigits k).length
 ·rw [Nat.min_eq_left h, List.take_length, List.take_of_length_le h]
 ·rw [Nat.min_eq_right (by omega)]
theorem cand_free2 {b : List UInt8} {k : Nat} (hb : b ≠ []) (hl : letterB (b.headD 0).toNat = true) (hw : allW b = true) (hk : k < 10000000) : keywordB (str (candL b k)) = false := (ident_parts.1 (cand_ident hb hl hw hk)).2.2.2.1
theorem trimQ_ne {nm : ByteArray} (h : namedB nm = true) : (trimQ nm).size ≠ 0 := by
 unfold namedB at h
 intro e
 have h1 := (ident_parts.1 h).1
 exact h1 (List.length_eq_zero_iff.1 (by rw [ba_len]; exact e))
theorem fresh_any {ok : Nat → Prop} {w : World} {used : List ByteArray} {vu : Value} (name : ByteArray) (hN : NmL ok w used vu) (hu : used.length ≤ 800000) (hsz : name.size ≤ 9223372036854775807) (hp : P10 w) :
  Calls Tryz.prog 48 #[.string name, vu] w fun e w' => e = .returned (.string (freshS name used)) ∧ Kept (fun _ => False) w w' := by
 obtain ⟨a, c, rfl⟩ := hN.slice
 have HIN := Ld (fun W (k : Kept (fun _ => False) w W) (s : ByteArray) => contains_any s (hN.frame (sK k)) (by omega))
 have HNV := Ld (named_any name w hsz)
 have HU := Ld hu
 have HFR : Hid (freshS name used = frFrom (if namedB name then name else ⟨#[120]⟩) used) := Ld rfl
 have HSZ : Hid ((if namedB name then name else ⟨#[120]⟩ : ByteArray).size ≤ 9223372036854775807 ∧ namedB (if namedB name then name else ⟨#[120]⟩) = true) := Ld (by
  cases h : namedB name
  ·exact ⟨(by decide : (⟨#[120]⟩ : ByteArray).size ≤ 9223372036854775807), ident_named x_ident⟩
  ·exact ⟨hsz, h⟩)
 have HP := Ld hp
 clear hN hu hsz hp
 generalize freshS name used = res at *
 go_enter Tryz.func48, Tryz.ntmps48
 go_upto_region 1 with (fail)
 go_cut [11] (fun v wc => v = .bool (!namedB name) ∧ wc = w)
 case first =>
  go_wp2_with (go_at_call 79; refine HNV.out.mono ?_; rintro e w' ⟨rfl, rfl⟩)
  go_meet
  case rel => exact ⟨rfl, rfl⟩
 case rest =>
  obtain ⟨rfl, rfl⟩ := hcut
  clear HNV
  go_upto_if 11 with (fail)
  go_cut [0] (fun v wd => v = .string (if namedB name then name else ⟨#[120]⟩) ∧ wd = wc)
  case first =>
   cases hnb : namedB name
   ·go_wp2_with fail
    go_meet
    case rel => exact ⟨by rw [hnb]; rfl, rfl⟩
   ·go_wp2_with fail
    go_meet
    case rel => exact ⟨by rw [hnb]; rfl, rfl⟩
  case rest =>
   obtain ⟨rfl, hw⟩ := hcut
   subst hw
   generalize (if namedB name then name else (⟨#[120]⟩ : ByteArray)) = nm at *
   have HC0 := Ld (HIN.out _ (Kept.refl _ _) nm)
   go_wp2_with fail
   refine HC0.out.mono ?_
   rintro e w3 ⟨rfl, rfl⟩
   cases hm : mb nm used
   ·have HE : Hid (res = nm) := Ld (by rw [HFR.out]; unfold frFrom; rw [hm]; rfl)
    clear hm HIN HFR HC0
    go_wp2_with fail
    go_ret
    exact ⟨by rw [HE.out]; rfl, Kept.refl _ _⟩
   ·obtain ⟨j, hj1, hj2, hj3, hj4, hj5⟩ := fresh_at HSZ.out.2 HU.out hm
    have HRJ : Hid (res = str (candL (baseL nm) j)) := Ld (by rw [HFR.out, hj3])
    have HJ4 := Ld hj4
    have HJ5 := Ld hj5
    have HBS := Ld (base_size HSZ.out.2)
    have HBO := Ld (base_ok HSZ.out.2)
    have HT1 : Hid (∀ W, Calls Tryz.prog 99 #[.string nm, .string ⟨#[39]⟩] W fun e w' => e = .returned (.string (trimQ nm)) ∧ W = w') := Ld (fun W => (Tryz.strings_TrimSuffix nm ⟨#[39]⟩ W HSZ.out.1).mono fun e w' ⟨q1, q2⟩ => ⟨q1, q2.symm⟩)
    have HT2 := Ld (fun W => trimRight_dig (s := trimQ nm) (by have := trimQ_le nm; have := HSZ.out.1; omega) (trimQ_ne HSZ.out.2) W)
    change Hid (∀ W, Calls Tryz.prog 98 _ W fun e w' => e = .returned (.string (str (baseL nm))) ∧ _) at HT2
    generalize baseL nm = b at *
    clear hm hj3 hj4 hj5 HFR HC0
    have hcu : digS = digS := rfl
    have HK0 := Ld (Kept.refl (fun _ => False) wc)
    generalize trimQ nm = tq at *
    go_wp2_with (first | (go_at_call 99; refine (HT1.out _).mono ?_; rintro e w' ⟨rfl, rfl⟩) | (go_at_call 98; refine (HT2.out _).mono ?_; rintro e w1 ⟨rfl, k1⟩))
    clear HT1 HT2 hcu
    have hbs : Hid ((str b).size = b.length) := Ld (str_size b)
    go_loopw [6] (fun i wr => ∃ k : Nat, 1 ≤ k ∧ k ≤ j ∧ i = .int .i64 k ∧ Kept (fun _ => False) wc wr) (fun i _ => j - (intOf i).toNat)
    case atStart => exact ⟨1, Nat.le_refl _, hj1, rfl, k1⟩
    case round =>
     obtain ⟨k, hk1, hk2, rfl, kr2⟩ := hrel
     have q1 : (k : Int) < 1000002 := by omega
     have hdl := dec_len2 6 k (by omega)
     have HDD := Ld (itoa_dec (k := k) (by omega) (HP.out.kept kr2))
     obtain ⟨m, hm⟩ : ∃ m, m = min b.length (16 - (Lib.decDigits k).length) := ⟨_, rfl⟩
     have HCS := Ld (cand_min hm)
     have HKW := Ld (cand_free2 (k := k) HBO.out.1 HBO.out.2.1 HBO.out.2.2 (by omega))
     have hDs : (str (Lib.decDigits k)).size ≤ 7 := by rw [str_size]; exact hdl
     have hms : Hid (m = min b.length (16 - (str (Lib.decDigits k)).size)) := Ld (by rw [str_size]; exact hm)
     clear hdl hm k1
     generalize str (Lib.decDigits k) = D at *
     go_wp2_with fail
     refine HDD.out.mono ?_
     rintro e w7 ⟨rfl, k7⟩
     have KK7 := Ld (kr2.trans k7)
     clear HDD
     have hmn : (min ((str b).size : Int) (16 - (D.size : Int))).toNat = m := by
      have h1 := hbs.out
      have h2 := hms.out
      omega
     have HIN2 := Ld (HIN.out w7 KK7.out (str (candL b k)))
     have HKY := Ld (keyword_t HKW.out w7)
     go_upto_region 10 with (fail)
     rw [HCS.out]
     clear hmn hms HCS HKW
     by_cases hkj : k = j
     ·subst hkj
      have HIN3 : Hid (Calls Tryz.prog 97 #[.slice a used.length c, .string (str (candL b k))] w7 fun e w' => e = .returned (.bool false) ∧ w7 = w') := Ld (by rw [← HJ4.out]; exact HIN2.out)
      clear HIN2 HJ5 HJ4
      generalize str (candL b k) = cd at *
      go_wp2_with (first | (go_at_call 101; refine HKY.out.mono ?_; rintro e w' ⟨rfl, rfl⟩) | (go_at_call 97; refine HIN3.out.mono ?_; rintro e w' ⟨rfl, rfl⟩))
      go_ret
      exact ⟨by rw [HRJ.out]; rfl, KK7.out⟩
     ·have HIN3 : Hid (Calls Tryz.prog 97 #[.slice a used.length c, .string (str (candL b k))] w7 fun e w' => e = .returned (.bool true) ∧ w7 = w') := Ld (by rw [← HJ5.out k hk1 (by omega)]; exact HIN2.out)
      clear HIN2
      generalize str (candL b k) = cd at *
      go_wp2_with (first | (go_at_call 101; refine HKY.out.mono ?_; rintro e w' ⟨rfl, rfl⟩) | (go_at_call 97; refine HIN3.out.mono ?_; rintro e w' ⟨rfl, rfl⟩))
      go_roundw
      case rel => exact ⟨k + 1, by omega, by omega, by go_num, KK7.out⟩
      case measure => simp [intOf]; omega
theorem val1_any {ok : Nat → Prop} {w : World} {t : Tm} {a : Option Addr} {n c : Nat} {ma : Option Addr} {mn mc : Nat} (hk : TyL ok w t.ty.kids (.slice a n c)) (hm : TmL ok w t.kids (.slice ma mn mc)) (hs : SmTm big t) :
  Calls Tryz.prog 109 #[.agg #[.int .i64 t.op, .string t.name, .int .i64 t.n, .int .i64 t.ty.kind, .string t.ty.name, .slice a n c, .slice ma mn mc]] w fun e w' => e = .returned (.bool (!validB t)) ∧ Kept (fun _ => False) w w' := by
 have hcon := Ld (valid_any (hk.frame (Same.alloc w (.cells #[.int .i64 t.op, .string t.name, .int .i64 t.n, .int .i64 t.ty.kind, .string t.ty.name, .slice a n c, .slice ma mn mc] 28))) (hm.frame (Same.alloc w (.cells #[.int .i64 t.op, .string t.name, .int .i64 t.n, .int .i64 t.ty.kind, .string t.ty.name, .slice a n c, .slice ma mn mc] 28))) hs)
 clear hk hm hs
 go_enter Tryz.func109, Tryz.ntmps109
 go_wp2_with fail
 refine hcon.out.mono ?_
 rintro e w' ⟨rfl, h⟩
 go_wp2_with fail
 go_ret
 exact ⟨rfl, ((Kept.refl _ _).alloc _).trans h⟩
theorem all_drop {p : Tm → Bool} {l : List Tm} {k : Nat} (h : k < l.length) : (l.drop k).all p = (p l[k] && (l.drop (k + 1)).all p) := by
 rw [drop_cons l k h, List.all_cons]
theorem idxV_any {ok : Nat → Prop} {l : List Tm} {a : Option Addr} {n cp : Nat} {w : World} (hn1 : l.length ≤ 1000000) (hs : ∀ t, t ∈ l → SmTm big t) (hk : TmL ok w l (.slice a n cp)) :
  Calls Tryz.prog 175 #[.slice a n cp, .func (.func 109) #[] #[]] w fun e w' => ∃ i : Int, e = .returned (.int .i64 i) ∧ decide (0 ≤ i) = !(l.all validB) ∧ Kept (fun _ => False) w w' := by
 have HS := Ld hs
 clear hs
 have hn := hk.len
 subst hn
 cases hk with
 | nil he =>
  go_enter Tryz.func175, Tryz.ntmps175
  go_wp2_with fail
  go_loop [8] (fun i => i = .int .i64 0) (fun i => 0)
  case atStart => rfl
  case round =>
   subst hrel
   go_wp2_with fail
   go_ret
   exact ⟨-1, rfl, by simp, Kept.refl _ _⟩
 | mk K MM hne hok hcap hcell hkk hmm =>
  rename_i g off
  have HC := Ld hcell
  have HK := Ld hkk
  have HMM := Ld hmm
  clear hcell hkk hmm
  have hn2 := Ld hn1
  clear hn1
  go_enter Tryz.func175, Tryz.ntmps175
  go_wp2_with fail
  go_loopw [8] (fun i wr => ∃ k : Nat, k ≤ l.length ∧ i = .int .i64 k ∧ Kept (fun _ => False) w wr ∧ Hid (l.all validB = (l.drop k).all validB)) (fun i _ => l.length - (intOf i).toNat)
  case atStart => exact ⟨0, Nat.zero_le _, rfl, Kept.refl _ _, Ld rfl⟩
  case round =>
   obtain ⟨k, hkl, rfl, hkr, heq⟩ := hrel
   have hn3 := hn2.out
   by_cases hlt : k < l.length
   ·have hs := Same.of_kept (ok := ok) hkr (fun k h e => e)
    have c0 := hs.cell hok (HC.out k hlt).1
    have c1 := hs.cell hok (HC.out k hlt).2.1
    have c2 := hs.cell hok (HC.out k hlt).2.2.1
    have c3 := hs.cell hok (HC.out k hlt).2.2.2.1
    have c4 := hs.cell hok (HC.out k hlt).2.2.2.2.1
    have c5 := hs.cell hok (HC.out k hlt).2.2.2.2.2.1
    have c6 := hs.cell hok (HC.out k hlt).2.2.2.2.2.2
    have i1 : (k : Int) < (l.length : Int) := by omega
    have i2 : (k : Int) < 1000000 := by omega
    obtain ⟨ta, tn, tc, hK⟩ := (HK.out k hlt).slice
    have hkk := (HK.out k hlt).frame hs
    rw [hK] at c5 hkk
    obtain ⟨ua, un, uc, hU⟩ := (HMM.out k hlt).slice
    have hmm := (HMM.out k hlt).frame hs
    rw [hU] at c6 hmm
    have hst := Ld (all_drop (p := validB) hlt)
    have hcon := Ld (val1_any hkk hmm (HS.out _ (List.getElem_mem hlt)))
    clear hkk hmm hs
    cases hr : validB l[k]
    ·rw [hr] at hcon
     go_wp2_with (go_at_call 109; refine hcon.out.mono ?_; rintro e w' ⟨rfl, h1⟩)
     go_ret
     exact ⟨k, rfl, by rw [heq.out, hst.out, hr]; simp, hkr.trans h1⟩
    ·rw [hr] at hcon
     go_wp2_with (go_at_call 109; refine hcon.out.mono ?_; rintro e w' ⟨rfl, h1⟩)
     go_roundw
     case rel => exact ⟨k + 1, by omega, by go_num, hkr.trans h1, Ld (by rw [heq.out, hst.out, hr]; rfl)⟩
     case measure => simp [intOf]; omega
   ·have hz : Hid (l.all validB = true) := Ld (by rw [heq.out, List.drop_eq_nil_of_le (by omega)]; rfl)
    go_wp2_with fail
    go_ret
    exact ⟨-1, rfl, by rw [hz.out]; rfl, hkr⟩
theorem contV_any {ok : Nat → Prop} {l : List Tm} {a : Option Addr} {n cp : Nat} {w : World} (hn1 : l.length ≤ 1000000) (hs : ∀ t, t ∈ l → SmTm big t) (hk : TmL ok w l (.slice a n cp)) :
  Calls Tryz.prog 108 #[.slice a n cp, .func (.func 109) #[] #[]] w fun e w' => e = .returned (.bool (!(l.all validB))) ∧ Kept (fun _ => False) w w' := by
 have hcon := Ld (idxV_any hn1 hs hk)
 clear hs hk hn1
 go_enter Tryz.func108, Tryz.ntmps108
 go_wp2_with fail
 refine hcon.out.mono ?_
 rintro e w' ⟨i, rfl, hi, h1⟩
 go_wp2_with fail
 go_ret
 exact ⟨rfl, h1⟩
theorem valids_any {ok : Nat → Prop} {l : List Tm} {a : Option Addr} {n cp : Nat} {w : World} (hn1 : l.length ≤ 1000000) (hs : ∀ t, t ∈ l → SmTm big t) (hk : TmL ok w l (.slice a n cp)) :
  Calls Tryz.prog 60 #[.slice a n cp] w fun e w' => e = .returned (.bool (l.all validB)) ∧ Kept (fun _ => False) w w' := by
 have hcon := Ld (contV_any hn1 hs hk)
 clear hs hk hn1
 go_enter Tryz.func60, Tryz.ntmps60
 go_wp2_with fail
 refine hcon.out.mono ?_
 rintro e w' ⟨rfl, h1⟩
 go_wp2_with fail
 go_ret
 exact ⟨by simp, h1⟩
def InL (ok : Nat → Prop) (w : World) (l : List Int) (v : Value) : Prop :=
 ∃ a n c, v = .slice a n c ∧ n = l.length ∧ n ≤ c ∧ ∀ i (h : i < l.length), ∃ g off, a = some ⟨g, off, none⟩ ∧ ok g ∧ w.cell? ⟨g, off + i, none⟩ = some (.int .i64 l[i])
theorem InL.frame {ok : Nat → Prop} {w W : World} {l : List Int} {v : Value} (h : InL ok w l v) (hs : Same ok w W) : InL ok W l v := by
 obtain ⟨a, n, c, h1, h2, h3, h4⟩ := h
 refine ⟨a, n, c, h1, h2, h3, fun i hi => ?_⟩
 obtain ⟨g, off, e, hg, hc⟩ := h4 i hi
 exact ⟨g, off, e, hg, hs.cell hg hc⟩
theorem InL.mono {ok ok' : Nat → Prop} {w : World} {l : List Int} {v : Value} (h : InL ok w l v) (ho : ∀ k, k < w.heap.size → ok k → ok' k) : InL ok' w l v := by
 obtain ⟨a, n, c, h1, h2, h3, h4⟩ := h
 refine ⟨a, n, c, h1, h2, h3, fun i hi => ?_⟩
 obtain ⟨g, off, e, hg, hc⟩ := h4 i hi
 exact ⟨g, off, e, ho _ (cell_lt hc) hg, hc⟩
theorem InL.slice {ok : Nat → Prop} {w : World} {l : List Int} {v : Value} (h : InL ok w l v) : ∃ a c, v = .slice a l.length c := by
 obtain ⟨a, n, c, h1, h2, _⟩ := h
 exact ⟨a, c, by rw [h1, h2]⟩
theorem InL.at {ok : Nat → Prop} {w : World} {l : List Int} {a : Option Addr} {n c : Nat} (h : InL ok w l (.slice a n c)) (i : Nat) (hi : i < l.length) : ∃ g off, a = some ⟨g, off, none⟩ ∧ ok g ∧ w.cell? ⟨g, off + i, none⟩ = some (.int .i64 l[i]) := by
 obtain ⟨a', n', c', h1, h2, h3, h4⟩ := h
 cases h1
 exact h4 i hi
structure Bx3 (w : World) (ca cb cc : List Value) (W : World) : Prop where
 a : Blk W w.heap.size 28 ca
 b : Blk W (w.heap.size + 1) 28 cb
 c : Blk W (w.heap.size + 1 + 1) 28 cc
 k : Kept (fun _ => False) w W
theorem Bx3.kept {w : World} {ca cb cc : List Value} {W W' : World} (h : Bx3 w ca cb cc W) (k : Kept (fun _ => False) W W') : Bx3 w ca cb cc W' :=
 ⟨h.a.kept k (fun h => h), h.b.kept k (fun h => h), h.c.kept k (fun h => h), h.k.trans k⟩
theorem Bx3.new (w : World) (ca cb cc : List Value) : Bx3 w ca cb cc (((w.alloc (.cells ca.toArray 28)).alloc (.cells cb.toArray 28)).alloc (.cells cc.toArray 28)) :=
 ⟨((Blk.new w 28 ca).alloc _).alloc _, (Blk.new' 28 _ (by simp)).alloc _, Blk.new' 28 _ (by simp), (((Kept.refl _ _).alloc _).alloc _).alloc _⟩
def PutP (r : Tm) (w : World) (e : Ending) (w' : World) : Prop := ∃ tk kk, e = .returned (tmVal r tk kk) ∧ TyL (fun q => w.heap.size ≤ q) w' r.ty.kids tk ∧ TmL (fun q => w.heap.size ≤ q) w' r.kids kk ∧ Kept (fun _ => False) w w'
end Go.Proofs.YtfhedienjnfdcaaGreatDoor
