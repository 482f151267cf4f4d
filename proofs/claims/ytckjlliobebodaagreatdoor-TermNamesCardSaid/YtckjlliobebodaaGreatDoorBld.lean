/- A strings.Builder inside a printer: copyCheck, WriteByte, WriteString, String. Turned from the kit's own proofs over the shelf. -/
import Derived.Test.YtckjlliobebodaaGreatDoorPrs
import Derived.Test.YtckjlliobebodaaGreatDoorShelf
import Derived.Lib.Builder
import Derived.Shelf.RegionOpenPlain
set_option linter.unusedVariables false
set_option linter.unusedSimpArgs false
namespace Go.Proofs.YtckjlliobebodaaGreatDoor
open Go.RowKit
theorem sz69 : (Tryz.prog.info? 69).map (·.size) = some 2 := by kernel_rfl
theorem lies71 : liesAt Tryz.prog Tryz.prog.depth 71 (2 / Tryz.prog.cellsOf 71) 0 69 1 = true := by kernel_rfl
theorem info5 : (Tryz.prog.info? 5).map (fun i => (i.zero, i.size, i.bytes)) = some (some (.int .u8 0), 1, 1) := by kernel_rfl
theorem cells5 : Tryz.prog.cellsOf 5 = 1 := by kernel_rfl
set_option maxHeartbeats 1000000 in
set_option maxRecDepth 100000 in
theorem cc_used (b : Nat) (w : World) (h0 : w.cell? ⟨b, 0, none⟩ = some (.pointer (some ⟨b, 0, none⟩))) :
    Calls Tryz.prog 139 #[.pointer (some ⟨b, 0, none⟩)] w fun e w' => e = .returned (.tuple #[]) ∧ w = w' := by
  obtain ⟨j, hj, _⟩ := Option.map_eq_some_iff.1 sz69
  have hne := fun W => Lib.run_neq_ptr_same W ⟨b, 0, none⟩ Tryz.underlying66 hj
  go_enter Tryz.func139, Tryz.ntmps139
  go_wp2_with fail
  go_end0
  exact ⟨rfl, rfl⟩
set_option maxHeartbeats 1000000 in
set_option maxRecDepth 100000 in
theorem cc_fresh (b : Nat) (w : World) (h0 : w.cell? ⟨b, 0, none⟩ = some (.pointer none)) (hsh : w.shape? b = some (71, 2)) (hfz : w.frozen? ⟨b, 0, none⟩ = false) :
    Calls Tryz.prog 139 #[.pointer (some ⟨b, 0, none⟩)] w fun e w' => e = .returned (.tuple #[]) ∧ w' = w.setCell ⟨b, 0, none⟩ (.pointer (some ⟨b, 0, none⟩)) := by
  obtain ⟨j, hj, hjs⟩ := Option.map_eq_some_iff.1 sz69
  go_enter Tryz.func139, Tryz.ntmps139
  go_wp2
  rw [Lib.run_to_unsafe w ⟨b, 0, none⟩ Tryz.underlying66 Tryz.underlying144 hj (by rw [hjs]; decide) hsh (Nat.zero_lt_succ 1)]
  simp only [Result.andThen]
  rw [Oper.upon_value]
  go_wp2
  rw [run_callFunc_extern Tryz.func161 (by kernel_rfl) (by kernel_rfl) (by kernel_rfl) (e := Extern.AbiNoEscape.same) (by kernel_rfl)]
  rw [Lib.run_noEscape]
  simp only [Result.andThen]
  rw [Oper.upon_value]
  go_wp2
  rw [Lib.run_from_unsafe w ⟨b, 0, none⟩ Tryz.underlying144 Tryz.underlying66 hj hsh lies71]
  simp only [Result.andThen]
  rw [Oper.upon_value]
  go_wp2
  go_end0
  exact ⟨rfl, rfl⟩
/-- The blocks that a write may change: the builder's own, and rows of bytes. -/
def SB (b B : Nat) (w : World) (k : Nat) : Prop := k = b ∨ (B ≤ k ∧ ∃ cur, w.heap[k]? = some (.cells cur 5 (0, 0)))
def KB (b B : Nat) (w w' : World) : Prop := Kept (SB b B w) w w'
theorem KB.refl (b B : Nat) (w : World) : KB b B w w := Kept.refl _ _
theorem KB.trans {b B : Nat} {w w' w'' : World} (h : KB b B w w') (k : KB b B w' w'') : KB b B w w'' :=
  ⟨k.os.trans h.os, k.tape.trans h.tape, k.output.trans h.output, Nat.le_trans h.size k.size, fun i hi hs => by
    have e := h.block i hi hs
    rw [k.block i (Nat.lt_of_lt_of_le hi h.size) (fun hS => hs (by
      rcases hS with rfl | ⟨hB, cur, hc⟩
      · exact Or.inl rfl
      · exact Or.inr ⟨hB, cur, by rw [← e]; exact hc⟩)), e]⟩
theorem KB.of_kept {b B : Nat} {w w' : World} (h : Kept (fun _ => False) w w') : KB b B w w' := h.mono (fun _ _ h => h.elim)
theorem KB.alloc {b B : Nat} {w w' : World} (h : KB b B w w') (o : Obj) : KB b B w (w'.alloc o) := Kept.alloc h o
theorem KB.drew {b B : Nat} {w w' : World} (h : KB b B w w') : KB b B w w'.drew := Kept.drew h
theorem Blk.kb {b B x : Nat} {t : TypeId} {l : List Value} {w w' : World} (h : Blk w x t l) (k : KB b B w w') (hx : x ≠ b) (ht : t ≠ 5) : Blk w' x t l := h.kept k (by
  rintro (rfl | ⟨_, cur, hc⟩)
  · exact hx rfl
  · rw [show w.heap[x]? = _ from h] at hc
    cases hc
    exact ht rfl)
theorem Same.kb {b B : Nat} {w w' : World} (k : KB b B w w') (hb : B ≤ b) : Same (fun q => q < B) w w' := Same.of_kept k (fun q h e => by
  rcases e with rfl | ⟨hB, _⟩
  · omega
  · omega)
abbrev Bu (B b : Nat) (l : List UInt8) (w : World) : Prop := Lib.IsBuilder 71 5 B b (Lib.byteCells l) w
theorem Bu.lt {B b : Nat} {l : List UInt8} {w : World} (h : Bu B b l w) : b < w.heap.size := by rcases h with h | h <;> exact h.lt
theorem Bu.le {B b : Nat} {l : List UInt8} {w : World} (h : Bu B b l w) : B ≤ b := by rcases h with h | h <;> exact h.1
/-- What a write leaves. -/
def BuP (B b : Nat) (l : List UInt8) (w w' : World) : Prop := Bu B b l w' ∧ KB b B w w'
theorem cc_any {B b : Nat} {bs : List Value} {w : World} (h : Lib.IsBuilder 71 5 B b bs w) :
    Calls Tryz.prog 139 #[.pointer (some ⟨b, 0, none⟩)] w fun e w' => e = .returned (.tuple #[]) ∧ (Lib.BuilderAt 71 5 B b (.pointer (some ⟨b, 0, none⟩)) bs w' ∧ KB b B w w') := by
  rcases h with h | h
  · refine (cc_fresh b w h.cell0 h.shape h.frozen0).mono ?_
    rintro e w' ⟨rfl, rfl⟩
    exact ⟨rfl, h.used _, (Kept.refl (SB b B w) w).setCell (p := ⟨b, 0, none⟩) (Or.inl (Or.inl rfl)) _⟩
  · refine (cc_used b w h.cell0).mono ?_
    rintro e w' ⟨rfl, rfl⟩
    exact ⟨rfl, h, KB.refl _ _ _⟩
theorem own_sb {B b : Nat} {v : Value} {n : Nat} {xs : List Value} {w : World} (h : w.ownsRow B 5 1 v n xs) : ∀ k, v.ownBlock = some k → SB b B w k := by
  intro k hk
  rcases h.2 with ⟨rfl, _⟩ | ⟨g, cap, cur, rfl, hg, hh, _⟩
  · cases hk
  · cases hk; exact Or.inr ⟨hg, cur, hh⟩
set_option maxHeartbeats 2000000 in
set_option maxRecDepth 100000 in
theorem wb_any {B b : Nat} {l : List UInt8} {w : World} (c : UInt8) {ci : Int} (hc : ci = c.toNat) (h : Bu B b l w) (hlen : l.length ≤ 1000000000) (hBw : B ≤ w.heap.size) :
    Calls Tryz.prog 98 #[.pointer (some ⟨b, 0, none⟩), .int .u8 ci] w fun e w' => e = .returned .nilIface ∧ BuP B b (l ++ [c]) w w' := by
  have HCI := Lib.hid hc
  clear hc
  obtain ⟨i0, hi, hz0, hz1, hz2⟩ : ∃ i, Tryz.prog.info? 5 = some i ∧ i.zero = some (.int .u8 0) ∧ i.size = 1 ∧ i.bytes = 1 := by
    have := info5
    cases hh : Tryz.prog.info? 5 with
    | none => rw [hh] at this; cases this
    | some i => rw [hh] at this; simp only [Option.map_some, Option.some.injEq, Prod.mk.injEq] at this; exact ⟨i, rfl, this.1, this.2.1, this.2.2⟩
  have HI := Lib.hid hi
  have HZ := Lib.hid hz0
  have HS := Lib.hid hz1
  have HY := Lib.hid hz2
  clear hi hz0 hz1 hz2
  go_enter Tryz.func98, Tryz.ntmps98
  go_wp2_with (go_at_call 139; refine (cc_any h).mono ?_)
  rintro e w1 ⟨rfl, h1, hb1⟩
  obtain ⟨hB, v, hbk, hown, hne⟩ := h1
  have c0 : w1.cell? ⟨b, 0, none⟩ = some (.pointer (some ⟨b, 0, none⟩)) := by rw [Lib.cell_of_heap hbk]; rfl
  have c1 : w1.cell? ⟨b, 1, none⟩ = some v := by rw [Lib.cell_of_heap hbk]; rfl
  have hsz := hb1.size
  rw [Lib.byteCells_length] at hown
  have HOWN := Lib.hid hown
  have HBK := Lib.hid hbk
  clear hown hbk
  go_wp2_with (at_builtin; refine wpList_append_own _ rfl _ _ 67 rfl B 5 i0 (.int .u8 0) 1 1 Tryz.underlying67 HI.out HZ.out HS.out HY.out rfl (by decide) _ _ _ rfl (HOWN.out.alloc _) ⟨w1.heap.size, 0, none⟩ 1 1 [.int .u8 ci] rfl rfl ?c1 ?c2 ?c3 ?c4 ?c5 ?_)
  case c1 =>
    intro j u hj
    match j, hj with
    | 0, hj => simp at hj; subst hj; simp [Addr.add]
  case c2 => intro u hu; simp at hu; subst hu; rfl
  case c3 => unfold maxLen; omega
  case c4 => omega
  case c5 => simp; omega
  intro v' w2 hown' hgrow _
  have hbk := HBK.out
  have hlt : b < w1.heap.size := by
    rcases Nat.lt_or_ge b w1.heap.size with h' | h'
    · exact h'
    · simp [Array.getElem?_eq_none h'] at hbk
  have hb2 : w2.heap[b]? = some (.cells #[.pointer (some ⟨b, 0, none⟩), v] 71 (0, 0)) := by
    rw [hgrow.block b (by simp; omega) (fun e => hne e.symm), Lib.alloc_old w1 _ b hlt]
    exact hbk
  have d0 : w2.cell? ⟨b, 0, none⟩ = some (.pointer (some ⟨b, 0, none⟩)) := by rw [Lib.cell_of_heap hb2]; rfl
  have d1 : w2.cell? ⟨b, 1, none⟩ = some v := by rw [Lib.cell_of_heap hb2]; rfl
  have f1 : w2.frozen? ⟨b, 1, none⟩ = false := Lib.frozen_of_heap hb2 1
  obtain ⟨g, cap, rfl⟩ : ∃ g cap, v' = .slice (some ⟨g, 0, none⟩) (l.length + 1) cap := by
    rcases hown'.2 with ⟨_, h0⟩ | ⟨g, cap, cur, hv, _⟩
    · omega
    · exact ⟨g, cap, hv⟩
  have HO' := Lib.hid hown'
  have KG : KB b B w1 w2 := ((Kept.refl (SB b B w1) w1).alloc _).via (kept_grown hgrow) (fun x hx hk => own_sb HOWN.out x hk)
  have HG := Lib.hid KG
  have HB2 := Lib.hid hb2
  have HB1 := Lib.hid hb1
  clear hown' KG hb2 hgrow hbk hb1
  go_wp2_with fail
  go_ret
  refine ⟨rfl, Or.inr ?_, ?_⟩
  · refine Lib.BuilderAt.put (T := 71) (e := 5) hB HB2.out (bs' := Lib.byteCells (l ++ [c])) ?_ (by decide)
    have := HO'.out
    rw [HCI.out] at this
    simpa [Lib.byteCells] using this
  · exact HB1.out.trans ((Kept.setCell HG.out (p := ⟨b, 1, none⟩) (Or.inl (Or.inl rfl)) _))
set_option maxHeartbeats 2000000 in
set_option maxRecDepth 100000 in
theorem ws_any {B b : Nat} {l : List UInt8} {w : World} (s : ByteArray) (h : Bu B b l w) (hlen : l.length + s.size ≤ 1000000000) (hBw : B ≤ w.heap.size) :
    Calls Tryz.prog 96 #[.pointer (some ⟨b, 0, none⟩), .string s] w fun e w' => e = .returned (.tuple #[.int .i64 s.size, .nilIface]) ∧ BuP B b (l ++ s.data.toList) w w' := by
  obtain ⟨i0, hi, hz0, hz1, hz2⟩ : ∃ i, Tryz.prog.info? 5 = some i ∧ i.zero = some (.int .u8 0) ∧ i.size = 1 ∧ i.bytes = 1 := by
    have := info5
    cases hh : Tryz.prog.info? 5 with
    | none => rw [hh] at this; cases this
    | some i => rw [hh] at this; simp only [Option.map_some, Option.some.injEq, Prod.mk.injEq] at this; exact ⟨i, rfl, this.1, this.2.1, this.2.2⟩
  have HI := Lib.hid hi
  have HZ := Lib.hid hz0
  have HS := Lib.hid hz1
  have HY := Lib.hid hz2
  clear hi hz0 hz1 hz2
  go_enter Tryz.func96, Tryz.ntmps96
  go_wp2_with (go_at_call 139; refine (cc_any h).mono ?_)
  rintro e w1 ⟨rfl, h1, hb1⟩
  obtain ⟨hB, v, hbk, hown, hne⟩ := h1
  have c0 : w1.cell? ⟨b, 0, none⟩ = some (.pointer (some ⟨b, 0, none⟩)) := by rw [Lib.cell_of_heap hbk]; rfl
  have c1 : w1.cell? ⟨b, 1, none⟩ = some v := by rw [Lib.cell_of_heap hbk]; rfl
  have hsz := hb1.size
  rw [Lib.byteCells_length] at hown
  have HOWN := Lib.hid hown
  have HBK := Lib.hid hbk
  clear hown hbk
  go_wp2_with (at_builtin; refine Lib.wpList_append_own_string _ rfl _ _ 67 9 rfl B 5 i0 Tryz.underlying67 Tryz.underlying9 HI.out HZ.out HS.out HY.out _ _ _ rfl HOWN.out s rfl ?c3 ?c4 ?c5 ?_)
  case c3 => unfold maxLen; omega
  case c4 => omega
  case c5 => omega
  intro v' w2 hown' hgrow _
  have hbk := HBK.out
  have hlt : b < w1.heap.size := by
    rcases Nat.lt_or_ge b w1.heap.size with h' | h'
    · exact h'
    · simp [Array.getElem?_eq_none h'] at hbk
  have hb2 : w2.heap[b]? = some (.cells #[.pointer (some ⟨b, 0, none⟩), v] 71 (0, 0)) := by
    rw [hgrow.block b hlt (fun e => hne e.symm)]
    exact hbk
  have d0 : w2.cell? ⟨b, 0, none⟩ = some (.pointer (some ⟨b, 0, none⟩)) := by rw [Lib.cell_of_heap hb2]; rfl
  have d1 : w2.cell? ⟨b, 1, none⟩ = some v := by rw [Lib.cell_of_heap hb2]; rfl
  have f1 : w2.frozen? ⟨b, 1, none⟩ = false := Lib.frozen_of_heap hb2 1
  obtain ⟨ao, n', cap, rfl⟩ : ∃ ao n' cap, v' = .slice ao n' cap := by
    rcases hown'.2 with ⟨hv, _⟩ | ⟨g, cap, cur, hv, _⟩
    · exact ⟨_, _, _, hv⟩
    · exact ⟨_, _, _, hv⟩
  have HO' := Lib.hid hown'
  have KG : KB b B w1 w2 := (Kept.refl (SB b B w1) w1).via (kept_grown hgrow) (fun x hx hk => own_sb HOWN.out x hk)
  have HG := Lib.hid KG
  have HB2 := Lib.hid hb2
  have HB1 := Lib.hid hb1
  clear hown' KG hb2 hgrow hbk hb1
  go_wp2_with fail
  go_ret2
  refine ⟨rfl, Or.inr ?_, ?_⟩
  · refine Lib.BuilderAt.put (T := 71) (e := 5) hB HB2.out (bs' := Lib.byteCells (l ++ s.data.toList)) ?_ (by decide)
    have e1 : Lib.byteCells (l ++ s.data.toList) = Lib.byteCells l ++ Lib.strCells s := by unfold Lib.byteCells Lib.strCells; rw [List.map_append]
    rw [e1, List.length_append, Lib.byteCells_length, Lib.strCells_length]
    exact HO'.out
  · exact HB1.out.trans ((Kept.setCell HG.out (p := ⟨b, 1, none⟩) (Or.inl (Or.inl rfl)) _))
set_option maxHeartbeats 1000000 in
set_option maxRecDepth 100000 in
theorem bstr_any {B b : Nat} {l : List UInt8} {w : World} (h : Bu B b l w) (h0 : l ≠ []) :
    Calls Tryz.prog 53 #[.pointer (some ⟨b, 0, none⟩)] w fun e w' => e = .returned (.string ⟨l.toArray⟩) ∧ Below B w w' := by
  obtain ⟨p, hB, v, hbk, hown, hne⟩ : ∃ p, Lib.BuilderAt 71 5 B b p (Lib.byteCells l) w := by
    rcases h with h | h
    · exact ⟨_, h⟩
    · exact ⟨_, h⟩
  have hl0 : l.length ≠ 0 := by simpa using h0
  rw [Lib.byteCells_length] at hown
  obtain ⟨g, cap, cur, rfl, hbg, hg, hnc, hcm, hcs, htake⟩ : ∃ g cap cur, v = .slice (some ⟨g, 0, none⟩) l.length cap ∧ B ≤ g ∧ w.heap[g]? = some (.cells cur 5 (0, 0)) ∧ l.length ≤ cap ∧ cap ≤ maxLen ∧ cur.size = cap * 1 ∧ cur.toList.take (l.length * 1) = Lib.byteCells l := by
    rcases hown.2 with ⟨_, hz⟩ | ⟨g, cap, cur, hv, r⟩
    · exact absurd hz hl0
    · exact ⟨g, cap, cur, hv, r⟩
  have c1 : w.drew.cell? ⟨b, 1, none⟩ = some (.slice (some ⟨g, 0, none⟩) l.length cap) := by
    have : w.drew.heap[b]? = some (.cells #[p, .slice (some ⟨g, 0, none⟩) l.length cap] 71 (0, 0)) := hbk
    rw [Lib.cell_of_heap this]; rfl
  have hSD : (Builtin.unsafeSliceData_ #[67] 106 #[.slice (some ⟨g, 0, none⟩) l.length cap]).run Tryz.prog w.drew = .ok (.pointer (some ⟨g, 0, none⟩)) w.drew :=
    Lib.run_unsafeSliceData_row _ _ _ _ _ _ (by omega)
  have hUS : (Builtin.unsafeString_ #[106, 3] 9 #[.pointer (some ⟨g, 0, none⟩), .int .i64 l.length]).run Tryz.prog w.drew = .ok (.string ⟨l.toArray⟩) (w.drew.freeze ⟨g, 0, none⟩ l.length) := by
    refine Lib.run_unsafeString_row w.drew 106 3 9 5 Tryz.underlying106 cells5 g cur.size (by have hg' : w.drew.heap[g]? = some (.cells cur 5 (0, 0)) := hg; simp [World.shape?, hg']) l h0 (by omega) (by unfold maxLen at hcm; omega) ?_
    intro j x hx
    have := hown.cells (g := g) rfl j (.int .u8 x.toNat) (by simp [Lib.byteCells, hx])
    exact this
  have mixed : Tryz.prog.follows .mixedOrders = true := by kernel_rfl
  go_enter Tryz.func53, Tryz.ntmps53
  go_wp2
  go_region_o
  all_goals (go_wp2; go_ret; exact ⟨rfl, Lib.below_freeze (Below.drew (Below.refl B w)) (p := ⟨g, 0, none⟩) hbg _⟩)
end Go.Proofs.YtckjlliobebodaaGreatDoor
