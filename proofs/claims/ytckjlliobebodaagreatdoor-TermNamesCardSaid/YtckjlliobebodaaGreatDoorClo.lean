/- slices.Clone and slices.Clip at rows of types and of terms. Printed by genclone.py. -/
import Derived.Test.YtckjlliobebodaaGreatDoorEn
import Derived.Test.YtckjlliobebodaaGreatDoorTrow
import Derived.Lib.BufferMore
import Derived.Test.YtckjlliobebodaaGreatDoorElem
set_option linter.unusedVariables false
set_option linter.unusedSimpArgs false
namespace Go.Proofs.YtckjlliobebodaaGreatDoor
open Go.RowKit
theorem info24 : (Tryz.prog.info? 24).map (fun i => (i.zero, i.size, i.bytes)) = some (some (.agg #[.int .i64 0, .string ⟨#[]⟩, .slice none 0 0]), 3, 48) := by kernel_rfl
/-- A new row of n elements with sz cells each, whose cells are those of an elder row. -/
def NewRow (w W : World) (ty : TypeId) (sz n b off : Nat) (v : Value) : Prop := ∃ g cap L, v = .slice (some ⟨g, 0, none⟩) n cap ∧ n ≤ cap ∧ w.heap.size ≤ g ∧ Blk W g ty L ∧ n * sz ≤ L.length ∧ ∀ j, j < n * sz → L[j]? = w.cell? ⟨b, off + j, none⟩
def rowList (w : World) (b off k : Nat) : List Value := (List.range k).map fun j => (w.cell? ⟨b, off + j, none⟩).getD undef
theorem rowList_get {w : World} {b off k j : Nat} {v : Value} (hj : j < k) (hv : w.cell? ⟨b, off + j, none⟩ = some v) : (rowList w b off k)[j]? = some v := by
  unfold rowList; rw [List.getElem?_map, List.getElem?_range hj]; simp [hv]

set_option maxRecDepth 100000 in
set_option maxHeartbeats 2000000 in
theorem cloneTy_some {w : World} (b off n cp : Nat) (hn : n ≤ 1000000) (hc : ∀ j, j < n * 3 → ∃ v, w.cell? ⟨b, off + j, none⟩ = some v ∧ v.oneCell' = true) :
    Calls Tryz.prog 88 #[.slice (some ⟨b, off, none⟩) n cp] w fun e w' => ∃ v, e = .returned v ∧ NewRow w w' 24 3 n b off v ∧ Kept (fun _ => False) w w' := by
  have hne : ∀ W : World, (binOp .eql 22 (.slice (some ⟨b, off, none⟩) n cp) (.slice none 0 0)).run Tryz.prog W = .ok (.bool false) W := fun W => Lib.run_eql_slice_some_nil W _ n cp Tryz.underlying22
  obtain ⟨ii, hi, hz, hs, hb⟩ : ∃ i, Tryz.prog.info? 24 = some i ∧ i.zero = some (.agg #[.int .i64 0, .string ⟨#[]⟩, .slice none 0 0]) ∧ i.size = 3 ∧ i.bytes = 48 := by
    have := info24
    cases hh : Tryz.prog.info? 24 with
    | none => rw [hh] at this; cases this
    | some i => rw [hh] at this; simp only [Option.map_some, Option.some.injEq, Prod.mk.injEq] at this; exact ⟨i, rfl, this.1, this.2.1, this.2.2⟩
  have HI := Lib.hid hi
  have HZ := Lib.hid hz
  have HS := Lib.hid hs
  have HBY := Lib.hid hb
  clear hi hz hs hb
  have HC := Lib.hid hc
  clear hc
  have own0 : (w.alloc (.cells #[] 24)).ownsRow w.heap.size 24 3 (.slice (some ⟨w.heap.size, 0, none⟩) 0 0) 0 [] := ⟨rfl, .inr ⟨w.heap.size, 0, #[], rfl, Nat.le_refl _, Blk.new w 24 [], Nat.le_refl _, Nat.zero_le _, rfl, rfl⟩⟩
  have hget : Hid (∀ j u, (rowList w b off (n * 3))[j]? = some u → (w.cell? ⟨b, off + j, none⟩ = some u ∧ u.oneCell' = true) ∧ (w.alloc (.cells #[] 24)).cell? ((⟨b, off, none⟩ : Addr).add j) = some u) := Lib.hid (by
    intro j u hj
    have hlt : j < n * 3 := by
      have := (List.getElem?_eq_some_iff.1 hj).1; unfold rowList at this; simpa using this
    obtain ⟨v, hv, h1⟩ := HC.out j hlt
    rw [rowList_get hlt hv] at hj
    have hvu : v = u := Option.some.inj hj
    subst hvu
    refine ⟨⟨hv, h1⟩, ?_⟩
    have hl := cell_lt hv
    rw [show (⟨b, off, none⟩ : Addr).add j = ⟨b, off + j, none⟩ by cases j <;> simp [Addr.add]]
    rw [World.cell?_of_block (w := w) (a := ⟨b, off + j, none⟩) (Below.heap_alloc _ _ _ hl)]; exact hv)
  go_enter Tryz.func88, Tryz.ntmps88
  go_wp2_with (at_builtin; refine wpList_append_own_at _ rfl (.tmp 5) (.tmp 6) 22 rfl w.heap.size 24 ii _ 3 48 Tryz.underlying22 HI.out HZ.out HS.out HBY.out rfl (by decide) _ _ _ rfl own0 ⟨b, off, none⟩ n cp (rowList w b off (n * 3)) rfl (by unfold rowList; simp) (fun j u h => (hget.out j u h).2) ?_ ?_ ?_ ?_ ?_)
  · intro u hu
    obtain ⟨j, hj⟩ := List.getElem?_of_mem hu
    exact (hget.out j u hj).1.2
  · unfold maxLen; omega
  · omega
  · simp
  · intro v' w1 own1 gr1 hnil hat
    have kA := kept_grown gr1
    have OWN := Lib.hid own1
    have NIL := Lib.hid hnil
    clear own1 hnil hat gr1
    go_wp2_with fail
    go_ret
    refine ⟨v', rfl, ?_, ((Kept.refl (fun _ => False) w).alloc _).via kA (fun x hx h => by simp [Value.ownBlock] at h; omega)⟩
    rcases OWN.out.2 with ⟨h0, _⟩ | ⟨g, cap, cur, rfl, hg, hh, h1, h2, h3, h4⟩
    · exact (NIL.out h0).elim
    · refine ⟨g, cap, cur.toList, rfl, by omega, hg, by unfold Blk; rw [hh], ?_, ?_⟩
      · rw [Array.length_toList, h3]; exact Nat.mul_le_mul_right _ (by omega)
      · intro j hj
        obtain ⟨v, hv, _⟩ := HC.out j hj
        rw [hv, ← rowList_get hj hv, ← h4, List.getElem?_take_of_lt hj]
set_option maxRecDepth 100000 in
set_option maxHeartbeats 2000000 in
theorem cloneTy_zero {w : World} (ad : Addr) (cp : Nat) :
    Calls Tryz.prog 88 #[.slice (some ad) 0 cp] w fun e w' => ∃ g cap, e = .returned (.slice (some ⟨g, 0, none⟩) 0 cap) ∧ Kept (fun _ => False) w w' := by
  have hne : ∀ W : World, (binOp .eql 22 (.slice (some ad) 0 cp) (.slice none 0 0)).run Tryz.prog W = .ok (.bool false) W := fun W => Lib.run_eql_slice_some_nil W _ 0 cp Tryz.underlying22
  obtain ⟨ii, hi, hz, hs, hb⟩ : ∃ i, Tryz.prog.info? 24 = some i ∧ i.zero = some (.agg #[.int .i64 0, .string ⟨#[]⟩, .slice none 0 0]) ∧ i.size = 3 ∧ i.bytes = 48 := by
    have := info24
    cases hh : Tryz.prog.info? 24 with
    | none => rw [hh] at this; cases this
    | some i => rw [hh] at this; simp only [Option.map_some, Option.some.injEq, Prod.mk.injEq] at this; exact ⟨i, rfl, this.1, this.2.1, this.2.2⟩
  have HI := Lib.hid hi
  have HZ := Lib.hid hz
  have HS := Lib.hid hs
  have HBY := Lib.hid hb
  clear hi hz hs hb
  have own0 : (w.alloc (.cells #[] 24)).ownsRow w.heap.size 24 3 (.slice (some ⟨w.heap.size, 0, none⟩) 0 0) 0 [] := ⟨rfl, .inr ⟨w.heap.size, 0, #[], rfl, Nat.le_refl _, Blk.new w 24 [], Nat.le_refl _, Nat.zero_le _, rfl, rfl⟩⟩
  go_enter Tryz.func88, Tryz.ntmps88
  go_wp2_with (at_builtin; refine wpList_append_own_at _ rfl (.tmp 5) (.tmp 6) 22 rfl w.heap.size 24 ii _ 3 48 Tryz.underlying22 HI.out HZ.out HS.out HBY.out rfl (by decide) _ _ _ rfl own0 ad 0 cp [] rfl rfl (fun j u h => by cases h) ?_ ?_ ?_ ?_ ?_)
  · intro u hu; cases hu
  · unfold maxLen; omega
  · omega
  · simp
  · intro v' w1 own1 gr1 hnil hat
    have kA := kept_grown gr1
    have OWN := Lib.hid own1
    have NIL := Lib.hid hnil
    clear own1 hnil hat gr1
    go_wp2_with fail
    go_ret
    rcases OWN.out.2 with ⟨h0, _⟩ | ⟨g, cap, cur, rfl, hg, hh, h1, h2, h3, h4⟩
    · exact (NIL.out h0).elim
    · exact ⟨g, cap, rfl, ((Kept.refl (fun _ => False) w).alloc _).via kA (fun x hx h => by simp [Value.ownBlock] at h; omega)⟩
set_option maxHeartbeats 2000000 in
theorem cloneTy_nil (w : World) : Calls Tryz.prog 88 #[.slice none 0 0] w fun e w' => e = .returned (.slice none 0 0) ∧ w = w' := by
  have hne : ∀ W : World, (binOp .eql 22 (.slice none 0 0) (.slice none 0 0)).run Tryz.prog W = .ok (.bool true) W := fun W => Lib.run_eql_slice_nil_nil W 0 0 Tryz.underlying22
  go_enter Tryz.func88, Tryz.ntmps88
  go_wp2_with fail
  go_ret
  exact ⟨rfl, rfl⟩
set_option maxHeartbeats 2000000 in
theorem clipTy_nil (w : World) : Calls Tryz.prog 87 #[.slice none 0 0] w fun e w' => e = .returned (.slice none 0 0) ∧ w = w' := by
  go_enter Tryz.func87, Tryz.ntmps87
  go_wp2_with fail
  go_ret
  exact ⟨rfl, rfl⟩
set_option maxHeartbeats 2000000 in
theorem clipTy_some (w : World) (g n cap : Nat) (hn : n ≤ cap) (hn2 : n ≤ 1000000) : Calls Tryz.prog 87 #[.slice (some ⟨g, 0, none⟩) n cap] w fun e w' => e = .returned (.slice (some ⟨g, 0, none⟩) n n) ∧ w = w' := by
  have i1 : (n : Int) ≤ (cap : Int) := by omega
  have i2 : (0 : Int) ≤ (n : Int) := by omega
  go_enter Tryz.func87, Tryz.ntmps87
  go_wp2_with fail
  go_ret
  exact ⟨rfl, rfl⟩

set_option maxRecDepth 100000 in
set_option maxHeartbeats 2000000 in
theorem cloneTm_some {w : World} (b off n cp : Nat) (hn : n ≤ 1000000) (hc : ∀ j, j < n * 7 → ∃ v, w.cell? ⟨b, off + j, none⟩ = some v ∧ v.oneCell' = true) :
    Calls Tryz.prog 70 #[.slice (some ⟨b, off, none⟩) n cp] w fun e w' => ∃ v, e = .returned v ∧ NewRow w w' 27 7 n b off v ∧ Kept (fun _ => False) w w' := by
  have hne : ∀ W : World, (binOp .eql 25 (.slice (some ⟨b, off, none⟩) n cp) (.slice none 0 0)).run Tryz.prog W = .ok (.bool false) W := fun W => Lib.run_eql_slice_some_nil W _ n cp Tryz.underlying25
  obtain ⟨ii, hi, hz, hs, hb⟩ : ∃ i, Tryz.prog.info? 27 = some i ∧ i.zero = some (.agg #[.int .i64 0, .string ⟨#[]⟩, .int .i64 0, .int .i64 0, .string ⟨#[]⟩, .slice none 0 0, .slice none 0 0]) ∧ i.size = 7 ∧ i.bytes = 104 := by
    have := info27
    cases hh : Tryz.prog.info? 27 with
    | none => rw [hh] at this; cases this
    | some i => rw [hh] at this; simp only [Option.map_some, Option.some.injEq, Prod.mk.injEq] at this; exact ⟨i, rfl, this.1, this.2.1, this.2.2⟩
  have HI := Lib.hid hi
  have HZ := Lib.hid hz
  have HS := Lib.hid hs
  have HBY := Lib.hid hb
  clear hi hz hs hb
  have HC := Lib.hid hc
  clear hc
  have own0 : (w.alloc (.cells #[] 27)).ownsRow w.heap.size 27 7 (.slice (some ⟨w.heap.size, 0, none⟩) 0 0) 0 [] := ⟨rfl, .inr ⟨w.heap.size, 0, #[], rfl, Nat.le_refl _, Blk.new w 27 [], Nat.le_refl _, Nat.zero_le _, rfl, rfl⟩⟩
  have hget : Hid (∀ j u, (rowList w b off (n * 7))[j]? = some u → (w.cell? ⟨b, off + j, none⟩ = some u ∧ u.oneCell' = true) ∧ (w.alloc (.cells #[] 27)).cell? ((⟨b, off, none⟩ : Addr).add j) = some u) := Lib.hid (by
    intro j u hj
    have hlt : j < n * 7 := by
      have := (List.getElem?_eq_some_iff.1 hj).1; unfold rowList at this; simpa using this
    obtain ⟨v, hv, h1⟩ := HC.out j hlt
    rw [rowList_get hlt hv] at hj
    have hvu : v = u := Option.some.inj hj
    subst hvu
    refine ⟨⟨hv, h1⟩, ?_⟩
    have hl := cell_lt hv
    rw [show (⟨b, off, none⟩ : Addr).add j = ⟨b, off + j, none⟩ by cases j <;> simp [Addr.add]]
    rw [World.cell?_of_block (w := w) (a := ⟨b, off + j, none⟩) (Below.heap_alloc _ _ _ hl)]; exact hv)
  go_enter Tryz.func70, Tryz.ntmps70
  go_wp2_with (at_builtin; refine wpList_append_own_at _ rfl (.tmp 5) (.tmp 6) 25 rfl w.heap.size 27 ii _ 7 104 Tryz.underlying25 HI.out HZ.out HS.out HBY.out rfl (by decide) _ _ _ rfl own0 ⟨b, off, none⟩ n cp (rowList w b off (n * 7)) rfl (by unfold rowList; simp) (fun j u h => (hget.out j u h).2) ?_ ?_ ?_ ?_ ?_)
  · intro u hu
    obtain ⟨j, hj⟩ := List.getElem?_of_mem hu
    exact (hget.out j u hj).1.2
  · unfold maxLen; omega
  · omega
  · simp
  · intro v' w1 own1 gr1 hnil hat
    have kA := kept_grown gr1
    have OWN := Lib.hid own1
    have NIL := Lib.hid hnil
    clear own1 hnil hat gr1
    go_wp2_with fail
    go_ret
    refine ⟨v', rfl, ?_, ((Kept.refl (fun _ => False) w).alloc _).via kA (fun x hx h => by simp [Value.ownBlock] at h; omega)⟩
    rcases OWN.out.2 with ⟨h0, _⟩ | ⟨g, cap, cur, rfl, hg, hh, h1, h2, h3, h4⟩
    · exact (NIL.out h0).elim
    · refine ⟨g, cap, cur.toList, rfl, by omega, hg, by unfold Blk; rw [hh], ?_, ?_⟩
      · rw [Array.length_toList, h3]; exact Nat.mul_le_mul_right _ (by omega)
      · intro j hj
        obtain ⟨v, hv, _⟩ := HC.out j hj
        rw [hv, ← rowList_get hj hv, ← h4, List.getElem?_take_of_lt hj]
set_option maxRecDepth 100000 in
set_option maxHeartbeats 2000000 in
theorem cloneTm_zero {w : World} (ad : Addr) (cp : Nat) :
    Calls Tryz.prog 70 #[.slice (some ad) 0 cp] w fun e w' => ∃ g cap, e = .returned (.slice (some ⟨g, 0, none⟩) 0 cap) ∧ Kept (fun _ => False) w w' := by
  have hne : ∀ W : World, (binOp .eql 25 (.slice (some ad) 0 cp) (.slice none 0 0)).run Tryz.prog W = .ok (.bool false) W := fun W => Lib.run_eql_slice_some_nil W _ 0 cp Tryz.underlying25
  obtain ⟨ii, hi, hz, hs, hb⟩ : ∃ i, Tryz.prog.info? 27 = some i ∧ i.zero = some (.agg #[.int .i64 0, .string ⟨#[]⟩, .int .i64 0, .int .i64 0, .string ⟨#[]⟩, .slice none 0 0, .slice none 0 0]) ∧ i.size = 7 ∧ i.bytes = 104 := by
    have := info27
    cases hh : Tryz.prog.info? 27 with
    | none => rw [hh] at this; cases this
    | some i => rw [hh] at this; simp only [Option.map_some, Option.some.injEq, Prod.mk.injEq] at this; exact ⟨i, rfl, this.1, this.2.1, this.2.2⟩
  have HI := Lib.hid hi
  have HZ := Lib.hid hz
  have HS := Lib.hid hs
  have HBY := Lib.hid hb
  clear hi hz hs hb
  have own0 : (w.alloc (.cells #[] 27)).ownsRow w.heap.size 27 7 (.slice (some ⟨w.heap.size, 0, none⟩) 0 0) 0 [] := ⟨rfl, .inr ⟨w.heap.size, 0, #[], rfl, Nat.le_refl _, Blk.new w 27 [], Nat.le_refl _, Nat.zero_le _, rfl, rfl⟩⟩
  go_enter Tryz.func70, Tryz.ntmps70
  go_wp2_with (at_builtin; refine wpList_append_own_at _ rfl (.tmp 5) (.tmp 6) 25 rfl w.heap.size 27 ii _ 7 104 Tryz.underlying25 HI.out HZ.out HS.out HBY.out rfl (by decide) _ _ _ rfl own0 ad 0 cp [] rfl rfl (fun j u h => by cases h) ?_ ?_ ?_ ?_ ?_)
  · intro u hu; cases hu
  · unfold maxLen; omega
  · omega
  · simp
  · intro v' w1 own1 gr1 hnil hat
    have kA := kept_grown gr1
    have OWN := Lib.hid own1
    have NIL := Lib.hid hnil
    clear own1 hnil hat gr1
    go_wp2_with fail
    go_ret
    rcases OWN.out.2 with ⟨h0, _⟩ | ⟨g, cap, cur, rfl, hg, hh, h1, h2, h3, h4⟩
    · exact (NIL.out h0).elim
    · exact ⟨g, cap, rfl, ((Kept.refl (fun _ => False) w).alloc _).via kA (fun x hx h => by simp [Value.ownBlock] at h; omega)⟩
set_option maxHeartbeats 2000000 in
theorem cloneTm_nil (w : World) : Calls Tryz.prog 70 #[.slice none 0 0] w fun e w' => e = .returned (.slice none 0 0) ∧ w = w' := by
  have hne : ∀ W : World, (binOp .eql 25 (.slice none 0 0) (.slice none 0 0)).run Tryz.prog W = .ok (.bool true) W := fun W => Lib.run_eql_slice_nil_nil W 0 0 Tryz.underlying25
  go_enter Tryz.func70, Tryz.ntmps70
  go_wp2_with fail
  go_ret
  exact ⟨rfl, rfl⟩
set_option maxHeartbeats 2000000 in
theorem clipTm_nil (w : World) : Calls Tryz.prog 69 #[.slice none 0 0] w fun e w' => e = .returned (.slice none 0 0) ∧ w = w' := by
  go_enter Tryz.func69, Tryz.ntmps69
  go_wp2_with fail
  go_ret
  exact ⟨rfl, rfl⟩
set_option maxHeartbeats 2000000 in
theorem clipTm_some (w : World) (g n cap : Nat) (hn : n ≤ cap) (hn2 : n ≤ 1000000) : Calls Tryz.prog 69 #[.slice (some ⟨g, 0, none⟩) n cap] w fun e w' => e = .returned (.slice (some ⟨g, 0, none⟩) n n) ∧ w = w' := by
  have i1 : (n : Int) ≤ (cap : Int) := by omega
  have i2 : (0 : Int) ≤ (n : Int) := by omega
  go_enter Tryz.func69, Tryz.ntmps69
  go_wp2_with fail
  go_ret
  exact ⟨rfl, rfl⟩

end Go.Proofs.YtckjlliobebodaaGreatDoor
