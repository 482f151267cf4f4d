/- Texts Bld Bin Key Prn Prt Fmt Fre Awk Con Arg BkA of this proof, in one. -/
import Derived.Test.YtckjlliobebodaaGreatDoorBd5
import Derived.Test.YtckjlliobebodaaGreatDoorBd0
import Derived.Lib.Builder
import Derived.Shelf.RegionOpenPlain
import Derived.Test.YtckjlliobebodaaGreatDoorBd1
import Derived.Deep.RegionHeld3
import Derived.Test.YtckjlliobebodaaGreatDoorRows
import Derived.Deep.DeepLaidRun
import Derived.ProofKit
import Derived.Test.YtckjlliobebodaaGreatDoorCards
import Derived.Test.YtckjlliobebodaaGreatDoorTie
import Derived.OpenShut
import Derived.Deep.DeepHandedRow
import Derived.Stop.LaidErr
import Derived.LaidLaws
import Derived.ChangeMaps5
import Derived.Deep.Slices
import Derived.Test.YtckjlliobebodaaGreatDoorBd3
set_option linter.unusedVariables false
set_option linter.unusedSimpArgs false
namespace Go.Proofs.YtckjlliobebodaaGreatDoor
open Go.RowKit
theorem sz69 : (Tryz.prog.info? 69).map (·.size) = some 2 := by kernel_rfl
theorem lies71 : liesAt Tryz.prog Tryz.prog.depth 71 (2 / Tryz.prog.cellsOf 71) 0 69 1 = true := by kernel_rfl
theorem info5 : (Tryz.prog.info? 5).map (fun i => (i.zero, i.size, i.bytes)) = some (some (.int .u8 0), 1, 1) := by kernel_rfl
theorem cells5 : Tryz.prog.cellsOf 5 = 1 := by kernel_rfl
set_option maxHeartbeats 1000000 in
set_option maxRecDepth 100000 in
theorem cc_used (b : Nat) (w : World) (h0 : w.cell? ⟨b, 0, none⟩ = some (.pointer (some ⟨b, 0, none⟩))) :
    Calls Tryz.prog 139 #[.pointer (some ⟨b, 0, none⟩)] w fun e w' => e = .returned (.tuple #[]) ∧ w = w' := by
  obtain ⟨j, hj, _⟩ := Option.map_eq_some_iff.1 sz69
  have hne := fun W => Lib.run_neq_ptr_same W ⟨b, 0, none⟩ Tryz.underlying66 hj
  go_enter Tryz.func139, Tryz.ntmps139
  go_wp2_with fail
  go_end0
  exact ⟨rfl, rfl⟩
set_option maxHeartbeats 1000000 in
set_option maxRecDepth 100000 in
theorem cc_fresh (b : Nat) (w : World) (h0 : w.cell? ⟨b, 0, none⟩ = some (.pointer none)) (hsh : w.shape? b = some (71, 2)) (hfz : w.frozen? ⟨b, 0, none⟩ = false) :
    Calls Tryz.prog 139 #[.pointer (some ⟨b, 0, none⟩)] w fun e w' => e = .returned (.tuple #[]) ∧ w' = w.setCell ⟨b, 0, none⟩ (.pointer (some ⟨b, 0, none⟩)) := by
  obtain ⟨j, hj, hjs⟩ := Option.map_eq_some_iff.1 sz69
  go_enter Tryz.func139, Tryz.ntmps139
  go_wp2
  rw [Lib.run_to_unsafe w ⟨b, 0, none⟩ Tryz.underlying66 Tryz.underlying144 hj (by rw [hjs]; decide) hsh (Nat.zero_lt_succ 1)]
  simp only [Result.andThen]
  rw [Oper.upon_value]
  go_wp2
  rw [run_callFunc_extern Tryz.func161 (by kernel_rfl) (by kernel_rfl) (by kernel_rfl) (e := Extern.AbiNoEscape.same) (by kernel_rfl)]
  rw [Lib.run_noEscape]
  simp only [Result.andThen]
  rw [Oper.upon_value]
  go_wp2
  rw [Lib.run_from_unsafe w ⟨b, 0, none⟩ Tryz.underlying144 Tryz.underlying66 hj hsh lies71]
  simp only [Result.andThen]
  rw [Oper.upon_value]
  go_wp2
  go_end0
  exact ⟨rfl, rfl⟩
def SB (b B : Nat) (w : World) (k : Nat) : Prop := k = b ∨ (B ≤ k ∧ ∃ cur, w.heap[k]? = some (.cells cur 5 (0, 0)))
def KB (b B : Nat) (w w' : World) : Prop := Kept (SB b B w) w w'
theorem KB.refl (b B : Nat) (w : World) : KB b B w w := Kept.refl _ _
theorem KB.trans {b B : Nat} {w w' w'' : World} (h : KB b B w w') (k : KB b B w' w'') : KB b B w w'' :=
  ⟨k.os.trans h.os, k.tape.trans h.tape, k.output.trans h.output, Nat.le_trans h.size k.size, fun i hi hs => by
    have e := h.block i hi hs
    rw [k.block i (Nat.lt_of_lt_of_le hi h.size) (fun hS => hs (by
      rcases hS with rfl | ⟨hB, cur, hc⟩
      · exact Or.inl rfl
      · exact Or.inr ⟨hB, cur, by rw [← e]; exact hc⟩)), e]⟩
theorem KB.of_kept {b B : Nat} {w w' : World} (h : Kept (fun _ => False) w w') : KB b B w w' := h.mono (fun _ _ h => h.elim)
theorem KB.alloc {b B : Nat} {w w' : World} (h : KB b B w w') (o : Obj) : KB b B w (w'.alloc o) := Kept.alloc h o
theorem KB.drew {b B : Nat} {w w' : World} (h : KB b B w w') : KB b B w w'.drew := Kept.drew h
theorem Blk.kb {b B x : Nat} {t : TypeId} {l : List Value} {w w' : World} (h : Blk w x t l) (k : KB b B w w') (hx : x ≠ b) (ht : t ≠ 5) : Blk w' x t l := h.kept k (by
  rintro (rfl | ⟨_, cur, hc⟩)
  · exact hx rfl
  · rw [show w.heap[x]? = _ from h] at hc
    cases hc
    exact ht rfl)
theorem Same.kb {b B : Nat} {w w' : World} (k : KB b B w w') (hb : B ≤ b) : Same (fun q => q < B) w w' := Same.of_kept k (fun q h e => by
  rcases e with rfl | ⟨hB, _⟩
  · omega
  · omega)
abbrev Bu (B b : Nat) (l : List UInt8) (w : World) : Prop := Lib.IsBuilder 71 5 B b (Lib.byteCells l) w
theorem Bu.lt {B b : Nat} {l : List UInt8} {w : World} (h : Bu B b l w) : b < w.heap.size := by rcases h with h | h <;> exact h.lt
theorem Bu.le {B b : Nat} {l : List UInt8} {w : World} (h : Bu B b l w) : B ≤ b := by rcases h with h | h <;> exact h.1
def BuP (B b : Nat) (l : List UInt8) (w w' : World) : Prop := Bu B b l w' ∧ KB b B w w'
theorem cc_any {B b : Nat} {bs : List Value} {w : World} (h : Lib.IsBuilder 71 5 B b bs w) :
    Calls Tryz.prog 139 #[.pointer (some ⟨b, 0, none⟩)] w fun e w' => e = .returned (.tuple #[]) ∧ (Lib.BuilderAt 71 5 B b (.pointer (some ⟨b, 0, none⟩)) bs w' ∧ KB b B w w') := by
  rcases h with h | h
  · refine (cc_fresh b w h.cell0 h.shape h.frozen0).mono ?_
    rintro e w' ⟨rfl, rfl⟩
    exact ⟨rfl, h.used _, (Kept.refl (SB b B w) w).setCell (p := ⟨b, 0, none⟩) (Or.inl (Or.inl rfl)) _⟩
  · refine (cc_used b w h.cell0).mono ?_
    rintro e w' ⟨rfl, rfl⟩
    exact ⟨rfl, h, KB.refl _ _ _⟩
theorem own_sb {B b : Nat} {v : Value} {n : Nat} {xs : List Value} {w : World} (h : w.ownsRow B 5 1 v n xs) : ∀ k, v.ownBlock = some k → SB b B w k := by
  intro k hk
  rcases h.2 with ⟨rfl, _⟩ | ⟨g, cap, cur, rfl, hg, hh, _⟩
  · cases hk
  · cases hk; exact Or.inr ⟨hg, cur, hh⟩
set_option maxHeartbeats 2000000 in
set_option maxRecDepth 100000 in
theorem wb_any {B b : Nat} {l : List UInt8} {w : World} (c : UInt8) {ci : Int} (hc : ci = c.toNat) (h : Bu B b l w) (hlen : l.length ≤ 1000000000) (hBw : B ≤ w.heap.size) :
    Calls Tryz.prog 98 #[.pointer (some ⟨b, 0, none⟩), .int .u8 ci] w fun e w' => e = .returned .nilIface ∧ BuP B b (l ++ [c]) w w' := by
  have HCI := Lib.hid hc
  clear hc
  obtain ⟨i0, hi, hz0, hz1, hz2⟩ : ∃ i, Tryz.prog.info? 5 = some i ∧ i.zero = some (.int .u8 0) ∧ i.size = 1 ∧ i.bytes = 1 := by
    have := info5
    cases hh : Tryz.prog.info? 5 with
    | none => rw [hh] at this; cases this
    | some i => rw [hh] at this; simp only [Option.map_some, Option.some.injEq, Prod.mk.injEq] at this; exact ⟨i, rfl, this.1, this.2.1, this.2.2⟩
  have HI := Lib.hid hi
  have HZ := Lib.hid hz0
  have HS := Lib.hid hz1
  have HY := Lib.hid hz2
  clear hi hz0 hz1 hz2
  go_enter Tryz.func98, Tryz.ntmps98
  go_wp2_with (go_at_call 139; refine (cc_any h).mono ?_)
  rintro e w1 ⟨rfl, h1, hb1⟩
  obtain ⟨hB, v, hbk, hown, hne⟩ := h1
  have c0 : w1.cell? ⟨b, 0, none⟩ = some (.pointer (some ⟨b, 0, none⟩)) := by rw [Lib.cell_of_heap hbk]; rfl
  have c1 : w1.cell? ⟨b, 1, none⟩ = some v := by rw [Lib.cell_of_heap hbk]; rfl
  have hsz := hb1.size
  rw [Lib.byteCells_length] at hown
  have HOWN := Lib.hid hown
  have HBK := Lib.hid hbk
  clear hown hbk
  go_wp2_with (at_builtin; refine wpList_append_own _ rfl _ _ 67 rfl B 5 i0 (.int .u8 0) 1 1 Tryz.underlying67 HI.out HZ.out HS.out HY.out rfl (by decide) _ _ _ rfl (HOWN.out.alloc _) ⟨w1.heap.size, 0, none⟩ 1 1 [.int .u8 ci] rfl rfl ?c1 ?c2 ?c3 ?c4 ?c5 ?_)
  case c1 =>
    intro j u hj
    match j, hj with
    | 0, hj => simp at hj; subst hj; simp [Addr.add]
  case c2 => intro u hu; simp at hu; subst hu; rfl
  case c3 => unfold maxLen; omega
  case c4 => omega
  case c5 => simp; omega
  intro v' w2 hown' hgrow _
  have hbk := HBK.out
  have hlt : b < w1.heap.size := by
    rcases Nat.lt_or_ge b w1.heap.size with h' | h'
    · exact h'
    · simp [Array.getElem?_eq_none h'] at hbk
  have hb2 : w2.heap[b]? = some (.cells #[.pointer (some ⟨b, 0, none⟩), v] 71 (0, 0)) := by
    rw [hgrow.block b (by simp; omega) (fun e => hne e.symm), Lib.alloc_old w1 _ b hlt]
    exact hbk
  have d0 : w2.cell? ⟨b, 0, none⟩ = some (.pointer (some ⟨b, 0, none⟩)) := by rw [Lib.cell_of_heap hb2]; rfl
  have d1 : w2.cell? ⟨b, 1, none⟩ = some v := by rw [Lib.cell_of_heap hb2]; rfl
  have f1 : w2.frozen? ⟨b, 1, none⟩ = false := Lib.frozen_of_heap hb2 1
  obtain ⟨g, cap, rfl⟩ : ∃ g cap, v' = .slice (some ⟨g, 0, none⟩) (l.length + 1) cap := by
    rcases hown'.2 with ⟨_, h0⟩ | ⟨g, cap, cur, hv, _⟩
    · omega
    · exact ⟨g, cap, hv⟩
  have HO' := Lib.hid hown'
  have KG : KB b B w1 w2 := ((Kept.refl (SB b B w1) w1).alloc _).via (kept_grown hgrow) (fun x hx hk => own_sb HOWN.out x hk)
  have HG := Lib.hid KG
  have HB2 := Lib.hid hb2
  have HB1 := Lib.hid hb1
  clear hown' KG hb2 hgrow hbk hb1
  go_wp2_with fail
  go_ret
  refine ⟨rfl, Or.inr ?_, ?_⟩
  · refine Lib.BuilderAt.put (T := 71) (e := 5) hB HB2.out (bs' := Lib.byteCells (l ++ [c])) ?_ (by decide)
    have := HO'.out
    rw [HCI.out] at this
    simpa [Lib.byteCells] using this
  · exact HB1.out.trans ((Kept.setCell HG.out (p := ⟨b, 1, none⟩) (Or.inl (Or.inl rfl)) _))
set_option maxHeartbeats 2000000 in
set_option maxRecDepth 100000 in
theorem ws_any {B b : Nat} {l : List UInt8} {w : World} (s : ByteArray) (h : Bu B b l w) (hlen : l.length + s.size ≤ 1000000000) (hBw : B ≤ w.heap.size) :
    Calls Tryz.prog 96 #[.pointer (some ⟨b, 0, none⟩), .string s] w fun e w' => e = .returned (.tuple #[.int .i64 s.size, .nilIface]) ∧ BuP B b (l ++ s.data.toList) w w' := by
  obtain ⟨i0, hi, hz0, hz1, hz2⟩ : ∃ i, Tryz.prog.info? 5 = some i ∧ i.zero = some (.int .u8 0) ∧ i.size = 1 ∧ i.bytes = 1 := by
    have := info5
    cases hh : Tryz.prog.info? 5 with
    | none => rw [hh] at this; cases this
    | some i => rw [hh] at this; simp only [Option.map_some, Option.some.injEq, Prod.mk.injEq] at this; exact ⟨i, rfl, this.1, this.2.1, this.2.2⟩
  have HI := Lib.hid hi
  have HZ := Lib.hid hz0
  have HS := Lib.hid hz1
  have HY := Lib.hid hz2
  clear hi hz0 hz1 hz2
  go_enter Tryz.func96, Tryz.ntmps96
  go_wp2_with (go_at_call 139; refine (cc_any h).mono ?_)
  rintro e w1 ⟨rfl, h1, hb1⟩
  obtain ⟨hB, v, hbk, hown, hne⟩ := h1
  have c0 : w1.cell? ⟨b, 0, none⟩ = some (.pointer (some ⟨b, 0, none⟩)) := by rw [Lib.cell_of_heap hbk]; rfl
  have c1 : w1.cell? ⟨b, 1, none⟩ = some v := by rw [Lib.cell_of_heap hbk]; rfl
  have hsz := hb1.size
  rw [Lib.byteCells_length] at hown
  have HOWN := Lib.hid hown
  have HBK := Lib.hid hbk
  clear hown hbk
  go_wp2_with (at_builtin; refine Lib.wpList_append_own_string _ rfl _ _ 67 9 rfl B 5 i0 Tryz.underlying67 Tryz.underlying9 HI.out HZ.out HS.out HY.out _ _ _ rfl HOWN.out s rfl ?c3 ?c4 ?c5 ?_)
  case c3 => unfold maxLen; omega
  case c4 => omega
  case c5 => omega
  intro v' w2 hown' hgrow _
  have hbk := HBK.out
  have hlt : b < w1.heap.size := by
    rcases Nat.lt_or_ge b w1.heap.size with h' | h'
    · exact h'
    · simp [Array.getElem?_eq_none h'] at hbk
  have hb2 : w2.heap[b]? = some (.cells #[.pointer (some ⟨b, 0, none⟩), v] 71 (0, 0)) := by
    rw [hgrow.block b hlt (fun e => hne e.symm)]
    exact hbk
  have d0 : w2.cell? ⟨b, 0, none⟩ = some (.pointer (some ⟨b, 0, none⟩)) := by rw [Lib.cell_of_heap hb2]; rfl
  have d1 : w2.cell? ⟨b, 1, none⟩ = some v := by rw [Lib.cell_of_heap hb2]; rfl
  have f1 : w2.frozen? ⟨b, 1, none⟩ = false := Lib.frozen_of_heap hb2 1
  obtain ⟨ao, n', cap, rfl⟩ : ∃ ao n' cap, v' = .slice ao n' cap := by
    rcases hown'.2 with ⟨hv, _⟩ | ⟨g, cap, cur, hv, _⟩
    · exact ⟨_, _, _, hv⟩
    · exact ⟨_, _, _, hv⟩
  have HO' := Lib.hid hown'
  have KG : KB b B w1 w2 := (Kept.refl (SB b B w1) w1).via (kept_grown hgrow) (fun x hx hk => own_sb HOWN.out x hk)
  have HG := Lib.hid KG
  have HB2 := Lib.hid hb2
  have HB1 := Lib.hid hb1
  clear hown' KG hb2 hgrow hbk hb1
  go_wp2_with fail
  go_ret2
  refine ⟨rfl, Or.inr ?_, ?_⟩
  · refine Lib.BuilderAt.put (T := 71) (e := 5) hB HB2.out (bs' := Lib.byteCells (l ++ s.data.toList)) ?_ (by decide)
    have e1 : Lib.byteCells (l ++ s.data.toList) = Lib.byteCells l ++ Lib.strCells s := by unfold Lib.byteCells Lib.strCells; rw [List.map_append]
    rw [e1, List.length_append, Lib.byteCells_length, Lib.strCells_length]
    exact HO'.out
  · exact HB1.out.trans ((Kept.setCell HG.out (p := ⟨b, 1, none⟩) (Or.inl (Or.inl rfl)) _))
set_option maxHeartbeats 1000000 in
set_option maxRecDepth 100000 in
theorem bstr_any {B b : Nat} {l : List UInt8} {w : World} (h : Bu B b l w) (h0 : l ≠ []) :
    Calls Tryz.prog 53 #[.pointer (some ⟨b, 0, none⟩)] w fun e w' => e = .returned (.string ⟨l.toArray⟩) ∧ Below B w w' := by
  obtain ⟨p, hB, v, hbk, hown, hne⟩ : ∃ p, Lib.BuilderAt 71 5 B b p (Lib.byteCells l) w := by
    rcases h with h | h
    · exact ⟨_, h⟩
    · exact ⟨_, h⟩
  have hl0 : l.length ≠ 0 := by simpa using h0
  rw [Lib.byteCells_length] at hown
  obtain ⟨g, cap, cur, rfl, hbg, hg, hnc, hcm, hcs, htake⟩ : ∃ g cap cur, v = .slice (some ⟨g, 0, none⟩) l.length cap ∧ B ≤ g ∧ w.heap[g]? = some (.cells cur 5 (0, 0)) ∧ l.length ≤ cap ∧ cap ≤ maxLen ∧ cur.size = cap * 1 ∧ cur.toList.take (l.length * 1) = Lib.byteCells l := by
    rcases hown.2 with ⟨_, hz⟩ | ⟨g, cap, cur, hv, r⟩
    · exact absurd hz hl0
    · exact ⟨g, cap, cur, hv, r⟩
  have c1 : w.drew.cell? ⟨b, 1, none⟩ = some (.slice (some ⟨g, 0, none⟩) l.length cap) := by
    have : w.drew.heap[b]? = some (.cells #[p, .slice (some ⟨g, 0, none⟩) l.length cap] 71 (0, 0)) := hbk
    rw [Lib.cell_of_heap this]; rfl
  have hSD : (Builtin.unsafeSliceData_ #[67] 106 #[.slice (some ⟨g, 0, none⟩) l.length cap]).run Tryz.prog w.drew = .ok (.pointer (some ⟨g, 0, none⟩)) w.drew :=
    Lib.run_unsafeSliceData_row _ _ _ _ _ _ (by omega)
  have hUS : (Builtin.unsafeString_ #[106, 3] 9 #[.pointer (some ⟨g, 0, none⟩), .int .i64 l.length]).run Tryz.prog w.drew = .ok (.string ⟨l.toArray⟩) (w.drew.freeze ⟨g, 0, none⟩ l.length) := by
    refine Lib.run_unsafeString_row w.drew 106 3 9 5 Tryz.underlying106 cells5 g cur.size (by have hg' : w.drew.heap[g]? = some (.cells cur 5 (0, 0)) := hg; simp [World.shape?, hg']) l h0 (by omega) (by unfold maxLen at hcm; omega) ?_
    intro j x hx
    have := hown.cells (g := g) rfl j (.int .u8 x.toNat) (by simp [Lib.byteCells, hx])
    exact this
  have mixed : Tryz.prog.follows .mixedOrders = true := by kernel_rfl
  go_enter Tryz.func53, Tryz.ntmps53
  go_wp2
  go_region_o
  all_goals (go_wp2; go_ret; exact ⟨rfl, Lib.below_freeze (Below.drew (Below.refl B w)) (p := ⟨g, 0, none⟩) hbg _⟩)
def RowOk (w W : World) (A : Array Value) (n : Nat) : Prop := ∃ vs vo, (∀ W', (Instr.index 118 (.agg A) (.int .i64 n)).run Tryz.prog W' = .ok (.agg #[.int .i64 (lvGroup n), vs, vo]) W') ∧
  ((lvOps n = [] ∧ vs = .slice none 0 0 ∧ vo = .slice none 0 0) ∨ ∃ g g', vs = .slice (some ⟨g, 0, none⟩) (lvSigns n).length (lvSigns n).length ∧ vo = .slice (some ⟨g', 0, none⟩) (lvOps n).length (lvOps n).length ∧ Blk W g 9 ((lvSigns n).map Value.string) ∧ Blk W g' 3 ((lvOps n).map (Value.int .i64)))
def lvW (w : World) : World := (lvObjs.foldl World.alloc w).setCells w.heap.size 0 (lvGo lvTab (w.heap.size + 1))
def lvA (w : World) : Array Value := (lvGo lvTab (w.heap.size + 1)).toArray
theorem lvrow_0 (w : World) : RowOk w (lvW w) (lvA w) 0 := ⟨_, _, fun _ => by kernel_rfl, Or.inl ⟨rfl, rfl, rfl⟩⟩
theorem lvrow_1 (w : World) : RowOk w (lvW w) (lvA w) 1 := ⟨.slice (some ⟨w.heap.size + (0 + 1), 0, none⟩) (lvSigns 1).length (lvSigns 1).length, .slice (some ⟨w.heap.size + (1 + 1), 0, none⟩) (lvOps 1).length (lvOps 1).length, fun _ => by kernel_rfl, Or.inr ⟨_, _, rfl, rfl, lv_new w 0 9 _ rfl, lv_new w 1 3 _ rfl⟩⟩
theorem lvrow_2 (w : World) : RowOk w (lvW w) (lvA w) 2 := ⟨.slice (some ⟨w.heap.size + (2 + 1), 0, none⟩) (lvSigns 2).length (lvSigns 2).length, .slice (some ⟨w.heap.size + (3 + 1), 0, none⟩) (lvOps 2).length (lvOps 2).length, fun _ => by kernel_rfl, Or.inr ⟨_, _, rfl, rfl, lv_new w 2 9 _ rfl, lv_new w 3 3 _ rfl⟩⟩
theorem lvrow_3 (w : World) : RowOk w (lvW w) (lvA w) 3 := ⟨.slice (some ⟨w.heap.size + (4 + 1), 0, none⟩) (lvSigns 3).length (lvSigns 3).length, .slice (some ⟨w.heap.size + (5 + 1), 0, none⟩) (lvOps 3).length (lvOps 3).length, fun _ => by kernel_rfl, Or.inr ⟨_, _, rfl, rfl, lv_new w 4 9 _ rfl, lv_new w 5 3 _ rfl⟩⟩
theorem lvrow_4 (w : World) : RowOk w (lvW w) (lvA w) 4 := ⟨.slice (some ⟨w.heap.size + (6 + 1), 0, none⟩) (lvSigns 4).length (lvSigns 4).length, .slice (some ⟨w.heap.size + (7 + 1), 0, none⟩) (lvOps 4).length (lvOps 4).length, fun _ => by kernel_rfl, Or.inr ⟨_, _, rfl, rfl, lv_new w 6 9 _ rfl, lv_new w 7 3 _ rfl⟩⟩
theorem lvrow_5 (w : World) : RowOk w (lvW w) (lvA w) 5 := ⟨_, _, fun _ => by kernel_rfl, Or.inl ⟨rfl, rfl, rfl⟩⟩
theorem lvrow_6 (w : World) : RowOk w (lvW w) (lvA w) 6 := ⟨.slice (some ⟨w.heap.size + (8 + 1), 0, none⟩) (lvSigns 6).length (lvSigns 6).length, .slice (some ⟨w.heap.size + (9 + 1), 0, none⟩) (lvOps 6).length (lvOps 6).length, fun _ => by kernel_rfl, Or.inr ⟨_, _, rfl, rfl, lv_new w 8 9 _ rfl, lv_new w 9 3 _ rfl⟩⟩
theorem lvrow_7 (w : World) : RowOk w (lvW w) (lvA w) 7 := ⟨.slice (some ⟨w.heap.size + (10 + 1), 0, none⟩) (lvSigns 7).length (lvSigns 7).length, .slice (some ⟨w.heap.size + (11 + 1), 0, none⟩) (lvOps 7).length (lvOps 7).length, fun _ => by kernel_rfl, Or.inr ⟨_, _, rfl, rfl, lv_new w 10 9 _ rfl, lv_new w 11 3 _ rfl⟩⟩
theorem lvrow_8 (w : World) : RowOk w (lvW w) (lvA w) 8 := ⟨.slice (some ⟨w.heap.size + (12 + 1), 0, none⟩) (lvSigns 8).length (lvSigns 8).length, .slice (some ⟨w.heap.size + (13 + 1), 0, none⟩) (lvOps 8).length (lvOps 8).length, fun _ => by kernel_rfl, Or.inr ⟨_, _, rfl, rfl, lv_new w 12 9 _ rfl, lv_new w 13 3 _ rfl⟩⟩
theorem lvrow_9 (w : World) : RowOk w (lvW w) (lvA w) 9 := ⟨.slice (some ⟨w.heap.size + (14 + 1), 0, none⟩) (lvSigns 9).length (lvSigns 9).length, .slice (some ⟨w.heap.size + (15 + 1), 0, none⟩) (lvOps 9).length (lvOps 9).length, fun _ => by kernel_rfl, Or.inr ⟨_, _, rfl, rfl, lv_new w 14 9 _ rfl, lv_new w 15 3 _ rfl⟩⟩
theorem lvrow_10 (w : World) : RowOk w (lvW w) (lvA w) 10 := ⟨.slice (some ⟨w.heap.size + (16 + 1), 0, none⟩) (lvSigns 10).length (lvSigns 10).length, .slice (some ⟨w.heap.size + (17 + 1), 0, none⟩) (lvOps 10).length (lvOps 10).length, fun _ => by kernel_rfl, Or.inr ⟨_, _, rfl, rfl, lv_new w 16 9 _ rfl, lv_new w 17 3 _ rfl⟩⟩
theorem lvrow_11 (w : World) : RowOk w (lvW w) (lvA w) 11 := ⟨.slice (some ⟨w.heap.size + (18 + 1), 0, none⟩) (lvSigns 11).length (lvSigns 11).length, .slice (some ⟨w.heap.size + (19 + 1), 0, none⟩) (lvOps 11).length (lvOps 11).length, fun _ => by kernel_rfl, Or.inr ⟨_, _, rfl, rfl, lv_new w 18 9 _ rfl, lv_new w 19 3 _ rfl⟩⟩
theorem lvrow_12 (w : World) : RowOk w (lvW w) (lvA w) 12 := ⟨.slice (some ⟨w.heap.size + (20 + 1), 0, none⟩) (lvSigns 12).length (lvSigns 12).length, .slice (some ⟨w.heap.size + (21 + 1), 0, none⟩) (lvOps 12).length (lvOps 12).length, fun _ => by kernel_rfl, Or.inr ⟨_, _, rfl, rfl, lv_new w 20 9 _ rfl, lv_new w 21 3 _ rfl⟩⟩
theorem lvrow_any (w : World) (n : Nat) (h : n < 13) : RowOk w (lvW w) (lvA w) n := by
  rcases (show n = 0 ∨ n = 1 ∨ n = 2 ∨ n = 3 ∨ n = 4 ∨ n = 5 ∨ n = 6 ∨ n = 7 ∨ n = 8 ∨ n = 9 ∨ n = 10 ∨ n = 11 ∨ n = 12 by omega) with rfl | rfl | rfl | rfl | rfl | rfl | rfl | rfl | rfl | rfl | rfl | rfl | rfl
  · exact lvrow_0 w
  · exact lvrow_1 w
  · exact lvrow_2 w
  · exact lvrow_3 w
  · exact lvrow_4 w
  · exact lvrow_5 w
  · exact lvrow_6 w
  · exact lvrow_7 w
  · exact lvrow_8 w
  · exact lvrow_9 w
  · exact lvrow_10 w
  · exact lvrow_11 w
  · exact lvrow_12 w
theorem levels_w (w : World) : Calls Tryz.prog 120 #[] w fun e w' => e = .returned (.agg (lvA w)) ∧ w' = lvW w := levels_any w
theorem lvW_kept (w : World) : Kept (fun _ => False) w (lvW w) := Kept.of_below (lv_below w)
theorem idx_from (x : Int) : ∀ (zs : List Int) (i : Nat), Lib.idxFrom zs x i = -1 ∨ ∃ m, m < zs.length ∧ Lib.idxFrom zs x i = ((i + m : Nat) : Int)
  | [], i => Or.inl rfl
  | z :: zs, i => by
    by_cases h : z = x
    · exact Or.inr ⟨0, by simp, by simp [Lib.idxFrom, h]⟩
    · rcases idx_from x zs (i + 1) with h' | ⟨m, hm, h'⟩
      · left; simp [Lib.idxFrom, h, h']
      · right; exact ⟨m + 1, by simp; omega, by simp only [Lib.idxFrom, h, if_false, h']; congr 1; omega⟩
theorem idx_lt (zs : List Int) (x : Int) (h : 0 ≤ Lib.idxOf zs x) : ∃ m, m < zs.length ∧ Lib.idxOf zs x = (m : Int) := by
  rcases idx_from x zs 0 with h' | ⟨m, hm, h'⟩
  · unfold Lib.idxOf at h; rw [h'] at h; exact absurd h (by decide)
  · exact ⟨m, hm, by unfold Lib.idxOf; rw [h', Nat.zero_add]⟩
def binG (op : Int) : List Nat → ByteArray
  | [] => ⟨#[]⟩
  | n :: r => if 0 ≤ Lib.idxOf (lvOps n) op then (lvSigns n).getD (Lib.idxOf (lvOps n) op).toNat ⟨#[]⟩ else binG op r
def binS (op : Int) : ByteArray := binG op (List.range 13)
theorem lv_lens' (n : Nat) (h : n < 13) : (lvSigns n).length = (lvOps n).length ∧ (lvOps n).length ≤ 1000 := by
  rcases (show n = 0 ∨ n = 1 ∨ n = 2 ∨ n = 3 ∨ n = 4 ∨ n = 5 ∨ n = 6 ∨ n = 7 ∨ n = 8 ∨ n = 9 ∨ n = 10 ∨ n = 11 ∨ n = 12 by omega) with rfl | rfl | rfl | rfl | rfl | rfl | rfl | rfl | rfl | rfl | rfl | rfl | rfl <;> decide
set_option maxRecDepth 100000 in
set_option maxHeartbeats 4000000 in
theorem binary_any (op : Int) (w : World) : Calls Tryz.prog 94 #[.int .i64 op] w fun e w' => e = .returned (.string (binS op)) ∧ Kept (fun _ => False) w w' := by
  go_enter Tryz.func94, Tryz.ntmps94
  go_wp2_with (go_at_call 120; refine (levels_w w).mono ?_; rintro e w' ⟨rfl, rfl⟩)
  have HR := Lib.hid (lvrow_any w)
  have HKW := Lib.hid (lvW_kept w)
  generalize lvA w = A at *
  generalize lvW w = W at *
  go_loopw [7] (fun i wr => ∃ k : Nat, k ≤ 13 ∧ i = .int .i64 k ∧ Hid (binS op = binG op ((List.range 13).drop k)) ∧ Hid (Kept (fun _ => False) W wr)) (fun i _ => 13 - (intOf i).toNat)
  case atStart => exact ⟨0, Nat.zero_le _, rfl, Lib.hid rfl, Lib.hid (Kept.refl _ _)⟩
  case round =>
    obtain ⟨k, hk, rfl, hq, hkr⟩ := hrel
    by_cases hlt : k < 13
    · have i1 : (k : Int) < 13 := by omega
      have hdrop : Hid ((List.range 13).drop k = k :: (List.range 13).drop (k + 1)) := Lib.hid (by
        rw [drop_cons (List.range 13) k (by simpa using hlt)]; simp)
      have hl := lv_lens' k hlt
      obtain ⟨vs, vo, hidx, hrow⟩ := HR.out k hlt
      rcases hrow with ⟨he, rfl, rfl⟩ | ⟨g, g', rfl, rfl, bg, bg'⟩
      · have hq' : Hid (binS op = binG op ((List.range 13).drop (k + 1))) := Lib.hid (by rw [hq.out, hdrop.out, binG, he, if_neg (by rw [Lib.idxOf_nonneg_iff]; simp)])
        have hi := Lib.hid (Tryz.slices_Index_int_empty none 0 op)
        have HX := Lib.hid hidx
        clear he hl
        go_wp2_with (go_at_call 137; refine (hi.out _).mono ?_; rintro e w' ⟨rfl, rfl⟩)
        go_roundw
        case rel => exact ⟨k + 1, by omega, by go_num, hq', Lib.hid (hkr.out.alloc _)⟩
        case measure => simp [intOf]; omega
      · have bgr := bg.kept hkr.out (fun h => h)
        have bgr' := bg'.kept hkr.out (fun h => h)
        have HX := Lib.hid hidx
        have hl2 := hl.2
        have HL := Lib.hid hl
        have hcon : Hid (∀ o : Obj, Calls Tryz.prog 137 #[.slice (some ⟨g', 0, none⟩) (lvOps k).length (lvOps k).length, .int .i64 op] (wr.alloc o) fun e w' => e = .returned (.int .i64 (Lib.idxOf (lvOps k) op)) ∧ wr.alloc o = w') := Lib.hid (by
          intro o
          refine (Tryz.slices_Index_int g' 0 _ _ (lvOps k) op _ (Nat.le_refl _) (by omega) (fun j hj => ?_)).mono fun e w' ⟨h1, h2⟩ => ⟨by rw [h1, List.take_length], h2.symm⟩
          rw [Nat.zero_add, (bgr'.alloc o).cell j, List.getElem?_map, List.getElem?_eq_getElem hj, List.getD_eq_getElem?_getD, List.getElem?_eq_getElem hj]; rfl)
        by_cases hge : 0 ≤ Lib.idxOf (lvOps k) op
        · obtain ⟨m, hm, hmi⟩ := idx_lt _ _ hge
          have hq' : Hid (binS op = (lvSigns k).getD m ⟨#[]⟩) := Lib.hid (by rw [hq.out, hdrop.out, binG, if_pos hge, hmi]; rfl)
          have hms : m < (lvSigns k).length := by have := HL.out.1; omega
          have cg : wr.cell? ⟨g, m, none⟩ = some (.string ((lvSigns k).getD m ⟨#[]⟩)) := by
            rw [bgr.cell m, List.getElem?_map, List.getElem?_eq_getElem hms, List.getD_eq_getElem?_getD, List.getElem?_eq_getElem hms]; rfl
          have lg := bgr.lt
          have ng : g ≠ wr.heap.size := by omega
          have i2 : (m : Int) < ((lvSigns k).length : Int) := by omega
          clear hge
          go_wp2_with (go_at_call 137; refine (hcon.out _).mono ?_; rintro e w' ⟨rfl, rfl⟩)
          go_ret
          exact ⟨by rw [hq'.out, List.getD_eq_getElem?_getD, List.getElem?_eq_getElem hms]; rfl, HKW.out.trans (hkr.out.alloc _)⟩
        · have hq' : Hid (binS op = binG op ((List.range 13).drop (k + 1))) := Lib.hid (by rw [hq.out, hdrop.out, binG, if_neg hge])
          have hd : decide (0 ≤ Lib.idxOf (lvOps k) op) = false := by simp; omega
          clear hge
          go_wp2_with (go_at_call 137; refine (hcon.out _).mono ?_; rintro e w' ⟨rfl, rfl⟩)
          go_roundw
          case rel => exact ⟨k + 1, by omega, by go_num, hq', Lib.hid (hkr.out.alloc _)⟩
          case measure => simp [intOf]; omega
    · have hz : Hid (binS op = ⟨#[]⟩) := Lib.hid (by rw [hq.out, List.drop_eq_nil_of_le (by simp; omega), binG])
      go_wp2_with fail
      go_ret
      exact ⟨by rw [hz.out]; rfl, HKW.out.trans hkr.out⟩
def keyT : List ByteArray := [⟨#[]⟩, ⟨#[116, 114, 117, 101]⟩, ⟨#[102, 97, 108, 115, 101]⟩, ⟨#[]⟩, ⟨#[]⟩, ⟨#[]⟩, ⟨#[]⟩, ⟨#[]⟩, ⟨#[102, 111, 114, 97, 108, 108, 32]⟩, ⟨#[101, 120, 105, 115, 116, 115, 32]⟩, ⟨#[]⟩, ⟨#[]⟩, ⟨#[]⟩, ⟨#[]⟩, ⟨#[]⟩, ⟨#[]⟩, ⟨#[]⟩, ⟨#[]⟩, ⟨#[]⟩, ⟨#[]⟩, ⟨#[]⟩, ⟨#[]⟩, ⟨#[]⟩, ⟨#[]⟩, ⟨#[]⟩, ⟨#[]⟩, ⟨#[]⟩, ⟨#[]⟩, ⟨#[]⟩, ⟨#[]⟩, ⟨#[]⟩, ⟨#[]⟩, ⟨#[]⟩, ⟨#[]⟩, ⟨#[]⟩, ⟨#[]⟩, ⟨#[]⟩, ⟨#[]⟩, ⟨#[]⟩, ⟨#[]⟩, ⟨#[]⟩, ⟨#[]⟩, ⟨#[]⟩, ⟨#[]⟩, ⟨#[]⟩, ⟨#[]⟩, ⟨#[80, 79, 87]⟩, ⟨#[99, 97, 114, 100]⟩, ⟨#[109, 105, 110]⟩, ⟨#[109, 97, 120]⟩, ⟨#[100, 111, 109]⟩, ⟨#[114, 97, 110]⟩, ⟨#[]⟩, ⟨#[]⟩, ⟨#[]⟩, ⟨#[]⟩, ⟨#[102, 117, 110, 32]⟩]
def keyS (op : Int) : ByteArray := if op < 57 then keyT.getD op.toNat ⟨#[]⟩ else ⟨#[]⟩
def keyA : List Value := keyT.map Value.string
theorem wpList_build {P : Program} {w : World} {ops : Array Oper} {rest : List Oper} {o : Oper} {a : Act} {Q : Exit → Act → World → Prop} (hgd : o.guard = none) (t : TypeId) (parts : Array (Nat × Operand)) (ho : o.op = .build t parts) {v : Value}
    (hr : (Instr.build t (parts.map fun (i, x) => (i, a.eval x))).run P w = .ok v w) (h : wpList P ops Q rest (a.put o.dst v) w) : wpList P ops Q (o :: rest) a w := by
  refine wpList_plain hgd fun K hK => ?_
  unfold Oper.wp execOp
  simp only [ho, Sem.run_bind, Sem.run_pure, Result.andThen_ok, hr]
  exact hK _ _ h
def keyZ : List Value := List.replicate 57 (.string ⟨#[]⟩)
theorem wpList_alloc {P : Program} {w w' : World} {ops : Array Oper} {rest : List Oper} {o : Oper} {a : Act} {Q : Exit → Act → World → Prop} (hgd : o.guard = none) (t : TypeId) (ho : o.op = .alloc t) {v : Value}
    (hr : (Instr.alloc t true (.tuple #[])).run P w = .ok v w') (h : wpList P ops Q rest (a.put o.dst v) w') : wpList P ops Q (o :: rest) a w := by
  refine wpList_plain hgd fun K hK => ?_
  unfold Oper.wp execOp
  simp only [ho, Sem.run_bind, Sem.run_pure, Result.andThen_ok, hr]
  exact hK _ _ h
theorem wpList_gen {P : Program} {ops : Array Oper} {l : List Oper} {Q : Exit → Act → World → Prop} {a : Act} {W : World} (F : World → Prop) (hF : F W) (h : ∀ w6, F w6 → wpList P ops Q l a w6) : wpList P ops Q l a W := h W hF
def KeyF (w w' : World) : Prop := Blk w' w.heap.size 132 keyA ∧ Kept (fun _ => False) w w'
theorem keyF (w : World) : KeyF w ((w.alloc (.cells keyZ.toArray 132)).setCells w.heap.size 0 keyA.toArray.toList) :=
  ⟨(Blk.new w 132 keyZ).setCells rfl, ((Kept.refl (fun _ => False) w).alloc _).setCells (Or.inr (Nat.le_refl _))⟩
theorem key_there (w : World) : (w.alloc (.cells keyZ.toArray 132)).there w.heap.size 0 keyA.toArray.size := (Blk.new w 132 keyZ).there
theorem key_len : keyT.length = 57 := rfl
theorem key_at (op : Nat) (h : op < 57) : keyA[op]? = some (.string (keyS op)) := by
  unfold keyA keyS
  rw [List.getElem?_map, if_pos (by omega), Int.toNat_natCast, List.getD_eq_getElem?_getD]
  rw [List.getElem?_eq_getElem (by rw [key_len]; exact h)]
  rfl
set_option maxRecDepth 100000 in
set_option maxHeartbeats 2000000 in
theorem keyed_any (op : Nat) (w : World) : Calls Tryz.prog 97 #[.int .i64 op] w fun e w' => e = .returned (.string (keyS op)) ∧ Kept (fun _ => False) w w' := by
  by_cases h : op < 57
  · have i1 : (op : Int) < 57 := by omega
    have HA := Lib.hid (key_at op h)
    clear h
    go_enter Tryz.func97, Tryz.ntmps97
    go_wp2_with (first | (refine wpList_build rfl 132 _ rfl (v := .agg keyA.toArray) (by kernel_rfl) ?_) | (refine wpList_alloc rfl 132 rfl (v := .pointer (some ⟨w.heap.size, 0, none⟩)) (w' := w.alloc (.cells keyZ.toArray 132)) (by kernel_rfl) ?_) | (refine wpList_store_mid rfl 132 _ _ rfl w.heap.size 0 keyA.toArray rfl rfl (key_there w) (by kernel_rfl) (by kernel_rfl) ?_; refine wpList_gen (KeyF w) (keyF w) ?_; rintro W ⟨bW, kW⟩; have cW : W.cell? ⟨w.heap.size, op, none⟩ = some (.string (keyS op)) := (by rw [bW.cell]; exact HA.out)))
    go_ret
    exact ⟨rfl, kW⟩
  · have i1 : ((57 : Int) ≤ op) := by omega
    have HS : Hid (keyS op = ⟨#[]⟩) := Lib.hid (by unfold keyS; rw [if_neg (by omega)])
    clear h
    go_enter Tryz.func97, Tryz.ntmps97
    go_wp2_with (first | (refine wpList_build rfl 132 _ rfl (v := .agg keyA.toArray) (by kernel_rfl) ?_) | (refine wpList_alloc rfl 132 rfl (v := .pointer (some ⟨w.heap.size, 0, none⟩)) (w' := w.alloc (.cells keyZ.toArray 132)) (by kernel_rfl) ?_) | (refine wpList_store_mid rfl 132 _ _ rfl w.heap.size 0 keyA.toArray rfl rfl (key_there w) (by kernel_rfl) (by kernel_rfl) ?_; refine wpList_gen (KeyF w) (keyF w) ?_; rintro W ⟨bW, kW⟩))
    go_ret
    exact ⟨by rw [HS.out]; rfl, kW⟩
def compB (op : Int) : Bool := op == 3 || op == 21 || op == 8 || op == 9 || op == 56 || !((binS op).toList == [])
set_option maxHeartbeats 4000000 in
theorem compound_any {op : Int} {nm : ByteArray} {N : Int} {tkd : Int} {tnm : ByteArray} {tk kk : Value} {ta : Option Addr} {tn tc : Nat} {ma : Option Addr} {mn mc : Nat} (h1 : tk = .slice ta tn tc) (h2 : kk = .slice ma mn mc) (w : World) :
    Calls Tryz.prog 138 #[.agg #[.int .i64 op, .string nm, .int .i64 N, .int .i64 tkd, .string tnm, tk, kk]] w fun e w' => e = .returned (.bool (compB op)) ∧ Kept (fun _ => False) w w' := by
  subst h1 h2
  have K0 : Kept (fun _ => False) w (w.alloc (.cells #[.int .i64 op, .string nm, .int .i64 N, .int .i64 tkd, .string tnm, .slice ta tn tc, .slice ma mn mc] 27)) := (Kept.refl _ _).alloc _
  by_cases h : op = 3 ∨ op = 21 ∨ op = 8 ∨ op = 9 ∨ op = 56
  · rcases h with rfl | rfl | rfl | rfl | rfl
    all_goals
      go_enter Tryz.func138, Tryz.ntmps138
      go_wp2_with fail
      go_ret
      exact ⟨rfl, K0⟩
  · have q3 : (op == 3) = false := beq_false_of_ne (fun e => h (by simp [e]))
    have q21 : (op == 21) = false := beq_false_of_ne (fun e => h (by simp [e]))
    have q8 : (op == 8) = false := beq_false_of_ne (fun e => h (by simp [e]))
    have q9 : (op == 9) = false := beq_false_of_ne (fun e => h (by simp [e]))
    have q56 : (op == 56) = false := beq_false_of_ne (fun e => h (by simp [e]))
    have HQ : Hid (compB op = !((binS op).toList == [])) := Lib.hid (by unfold compB; rw [q3, q21, q8, q9, q56]; rfl)
    clear h
    have HB := Lib.hid (binary_any op)
    go_enter Tryz.func138, Tryz.ntmps138
    go_wp2_with (go_at_call 94; refine (HB.out _).mono ?_; rintro e w1 ⟨rfl, k1⟩)
    go_ret
    exact ⟨by rw [HQ.out]; first | rfl | simp [bne], K0.trans k1⟩
def PP (B b : Nat) (l : List UInt8) (w : World) (e : Ending) (w' : World) : Prop := e = .returned (.tuple #[]) ∧ BuP B b l w w'
def PC (t : Tm) (out : List UInt8) : Prop := ∀ (B b : Nat) (l : List UInt8) (w : World) (tk kk : Value), Bu B b l w → B ≤ w.heap.size → TyL (fun q => q < B) w t.ty.kids tk → TmL (fun q => q < B) w t.kids kk → l.length + out.length ≤ 1000000000 →
  Calls Tryz.prog 52 #[.pointer (some ⟨b, 0, none⟩), tmVal t tk kk] w (PP B b (l ++ out) w)
def OC (t : Tm) (out : List UInt8) : Prop := ∀ (B b : Nat) (l : List UInt8) (w : World) (tk kk : Value), Bu B b l w → B ≤ w.heap.size → TyL (fun q => q < B) w t.ty.kids tk → TmL (fun q => q < B) w t.kids kk → l.length + out.length ≤ 1000000000 →
  Calls Tryz.prog 95 #[.pointer (some ⟨b, 0, none⟩), tmVal t tk kk] w (PP B b (l ++ out) w)
theorem Bu.kept {B b : Nat} {l : List UInt8} {w w' : World} (h : Bu B b l w) (k : Kept (fun _ => False) w w') : Bu B b l w' := by
  have go : ∀ p, Lib.BuilderAt 71 5 B b p (Lib.byteCells l) w → Lib.BuilderAt 71 5 B b p (Lib.byteCells l) w' := by
    rintro p ⟨hB, v, hb, hown, hne⟩
    have hlt : b < w.heap.size := by
      rcases Nat.lt_or_ge b w.heap.size with h' | h'
      · exact h'
      · simp [Array.getElem?_eq_none h'] at hb
    refine ⟨hB, v, by rw [k.block b hlt (fun h => h)]; exact hb, ?_, hne⟩
    refine ⟨hown.1, ?_⟩
    rcases hown.2 with h | ⟨g, cap, cur, hv, hg, hh, r⟩
    · exact Or.inl h
    · have hl : g < w.heap.size := by
        rcases Nat.lt_or_ge g w.heap.size with h' | h'
        · exact h'
        · simp [Array.getElem?_eq_none h'] at hh
      exact Or.inr ⟨g, cap, cur, hv, hg, by rw [k.block g hl (fun h => h)]; exact hh, r⟩
  rcases h with h | h
  · exact Or.inl (go _ h)
  · exact Or.inr (go _ h)
def parS (op : Int) (out : List UInt8) : List UInt8 := if compB op then [40] ++ out ++ [41] else out
set_option maxRecDepth 100000 in
set_option maxHeartbeats 4000000 in
theorem operand_any {t : Tm} {out : List UInt8} (hp : PC t out) : OC t (parS t.op out) := by
  intro B b l w tk kk hb hB hty htm hlen
  obtain ⟨ta, tn, tc, rfl⟩ := hty.slice
  obtain ⟨ma, mn, mc, rfl⟩ := htm.slice
  unfold tmVal
  have K0 : Kept (fun _ => False) w (w.alloc (.cells #[.int .i64 t.op, .string t.name, .int .i64 t.n, .int .i64 t.ty.kind, .string t.ty.name, .slice ta tn tc, .slice ma mn mc] 27)) := (Kept.refl _ _).alloc _
  have bX : Blk (w.alloc (.cells #[.int .i64 t.op, .string t.name, .int .i64 t.n, .int .i64 t.ty.kind, .string t.ty.name, .slice ta tn tc, .slice ma mn mc] 27)) w.heap.size 27 (tmCells t (.slice ta tn tc) (.slice ma mn mc)) := Blk.new w 27 _
  have hbl := hb.lt
  have hbB := hb.le
  have HP := Lib.hid hp
  have HCO := Lib.hid (fun W => compound_any (op := t.op) (nm := t.name) (N := t.n) (tkd := t.ty.kind) (tnm := t.ty.name) (ta := ta) (tn := tn) (tc := tc) (ma := ma) (mn := mn) (mc := mc) rfl rfl W)
  clear hp
  cases hc : compB t.op
  · have hps : parS t.op out = out := by unfold parS; rw [hc]; rfl
    rw [hps] at hlen ⊢
    have HL := Lib.hid hlen
    clear hlen hps
    go_enter Tryz.func95, Tryz.ntmps95
    go_wp2_with fail
    refine (HCO.out _).mono ?_
    rintro e w1 ⟨rfl, k1⟩
    rw [hc]
    have K1 := K0.trans k1
    have b1 := bX.kept k1 (fun h => h)
    have g0 : w1.cell? ⟨w.heap.size, 0, none⟩ = some (.int .i64 t.op) := b1.cell 0
    have g1 : w1.cell? ⟨w.heap.size, 1, none⟩ = some (.string t.name) := b1.cell 1
    have g2 : w1.cell? ⟨w.heap.size, 2, none⟩ = some (.int .i64 t.n) := b1.cell 2
    have g3 : w1.cell? ⟨w.heap.size, 3, none⟩ = some (.int .i64 t.ty.kind) := b1.cell 3
    have g4 : w1.cell? ⟨w.heap.size, 4, none⟩ = some (.string t.ty.name) := b1.cell 4
    have g5 : w1.cell? ⟨w.heap.size, 5, none⟩ = some (.slice ta tn tc) := b1.cell 5
    have g6 : w1.cell? ⟨w.heap.size, 6, none⟩ = some (.slice ma mn mc) := b1.cell 6
    have HC := Lib.hid (HP.out B b l w1 _ _ (hb.kept K1) (Nat.le_trans hB K1.size) (hty.frame (Same.of_kept K1 (fun _ _ e => e))) (htm.frame (Same.of_kept K1 (fun _ _ e => e))) HL.out)
    go_wp2_with fail
    refine HC.out.mono ?_
    rintro e w2 ⟨rfl, h1, h2⟩
    go_wp2_with fail
    first | go_end0 | refine bodyPost_ret (results_none rfl _ _ _) rfl ?_
    exact ⟨rfl, h1, (KB.of_kept K1).trans h2⟩
  · have hps : parS t.op out = [40] ++ out ++ [41] := by unfold parS; rw [hc]; rfl
    rw [hps] at hlen ⊢
    have HL : Hid (l.length + out.length + 2 ≤ 1000000000) := Lib.hid (by simp at hlen; omega)
    clear hlen hps
    go_enter Tryz.func95, Tryz.ntmps95
    go_wp2_with fail
    refine (HCO.out _).mono ?_
    rintro e w1 ⟨rfl, k1⟩
    rw [hc]
    have K1 := K0.trans k1
    have b1 := bX.kept k1 (fun h => h)
    have HW1 := Lib.hid (wb_any (40 : UInt8) (ci := 40) rfl (hb.kept K1) (by have := HL.out; omega) (Nat.le_trans hB K1.size))
    go_wp2_with fail
    refine HW1.out.mono ?_
    rintro e w2 ⟨rfl, u2, k2⟩
    have K2 : KB b B w w2 := (KB.of_kept K1).trans k2
    have b2 := b1.kb k2 (by omega) (by decide)
    have g0 : w2.cell? ⟨w.heap.size, 0, none⟩ = some (.int .i64 t.op) := b2.cell 0
    have g1 : w2.cell? ⟨w.heap.size, 1, none⟩ = some (.string t.name) := b2.cell 1
    have g2 : w2.cell? ⟨w.heap.size, 2, none⟩ = some (.int .i64 t.n) := b2.cell 2
    have g3 : w2.cell? ⟨w.heap.size, 3, none⟩ = some (.int .i64 t.ty.kind) := b2.cell 3
    have g4 : w2.cell? ⟨w.heap.size, 4, none⟩ = some (.string t.ty.name) := b2.cell 4
    have g5 : w2.cell? ⟨w.heap.size, 5, none⟩ = some (.slice ta tn tc) := b2.cell 5
    have g6 : w2.cell? ⟨w.heap.size, 6, none⟩ = some (.slice ma mn mc) := b2.cell 6
    have HC := Lib.hid (HP.out B b (l ++ [40]) w2 _ _ u2 (Nat.le_trans hB K2.size) (hty.frame (Same.kb K2 hbB)) (htm.frame (Same.kb K2 hbB)) (by have := HL.out; simp; omega))
    go_wp2_with fail
    refine HC.out.mono ?_
    rintro e w3 ⟨rfl, u3, k3⟩
    have K3 := K2.trans k3
    have HW3 := Lib.hid (wb_any (41 : UInt8) (ci := 41) rfl u3 (by have := HL.out; simp; omega) (Nat.le_trans hB K3.size))
    go_wp2_with fail
    refine HW3.out.mono ?_
    rintro e w4 ⟨rfl, u4, k4⟩
    go_wp2_with fail
    first | go_end0 | refine bodyPost_ret (results_none rfl _ _ _) rfl ?_
    exact ⟨rfl, by simpa using u4, K3.trans k4⟩
theorem ba_len (s : ByteArray) : s.data.toList.length = s.size := Array.length_toList
theorem TmL.two' {B : Nat} {w : World} {x y : Tm} {v : Value} (h : TmL (fun q => q < B) w [x, y] v) : ∃ g off cap k0 m0 k1 m1, v = .slice (some ⟨g, off, none⟩) 2 cap ∧ g < B ∧ (∀ j u, (tmCells x k0 m0 ++ tmCells y k1 m1)[j]? = some u → w.cell? ⟨g, off + j, none⟩ = some u) ∧ TyL (fun q => q < B) w x.ty.kids k0 ∧ TmL (fun q => q < B) w x.kids m0 ∧ TyL (fun q => q < B) w y.ty.kids k1 ∧ TmL (fun q => q < B) w y.kids m1 := by
  generalize hl : [x, y] = l at h
  cases h with
  | nil h => cases hl
  | mk K M hne hb hc hcell hk hm =>
    rename_i g off cap
    subst hl
    have h0 := hcell 0 (by simp)
    have h1 := hcell 1 (by simp)
    simp only [Nat.zero_mul, Nat.add_zero, Nat.one_mul, List.getElem_cons_zero, List.getElem_cons_succ] at h0 h1
    refine ⟨g, off, cap, K 0, M 0, K 1, M 1, rfl, hb, fun j u hj => ?_, hk 0 (by simp), hm 0 (by simp), hk 1 (by simp), hm 1 (by simp)⟩
    have hlt : j < 14 := (List.getElem?_eq_some_iff.1 hj).1
    rcases (show j = 0 ∨ j = 1 ∨ j = 2 ∨ j = 3 ∨ j = 4 ∨ j = 5 ∨ j = 6 ∨ j = 7 ∨ j = 8 ∨ j = 9 ∨ j = 10 ∨ j = 11 ∨ j = 12 ∨ j = 13 by omega) with rfl | rfl | rfl | rfl | rfl | rfl | rfl | rfl | rfl | rfl | rfl | rfl | rfl | rfl
    · cases hj; exact h0.1
    · cases hj; exact h0.2.1
    · cases hj; exact h0.2.2.1
    · cases hj; exact h0.2.2.2.1
    · cases hj; exact h0.2.2.2.2.1
    · cases hj; exact h0.2.2.2.2.2.1
    · cases hj; exact h0.2.2.2.2.2.2
    · cases hj; exact h1.1
    · cases hj; exact h1.2.1
    · cases hj; exact h1.2.2.1
    · cases hj; exact h1.2.2.2.1
    · cases hj; exact h1.2.2.2.2.1
    · cases hj; exact h1.2.2.2.2.2.1
    · cases hj; exact h1.2.2.2.2.2.2
set_option maxRecDepth 100000 in
set_option maxHeartbeats 8000000 in
theorem pt_bin {t x y : Tm} {ox oy : List UInt8} (hkids : t.kids = [x, y]) (hbin : ((binS t.op).toList == []) = false) (hx : OC x ox) (hy : OC y oy) : PC t (ox ++ ([32] ++ (binS t.op).data.toList ++ [32]) ++ oy) := by
  intro B b l w tk kk hb hB hty htm hlen
  obtain ⟨ta, tn, tc, rfl⟩ := hty.slice
  rw [hkids] at htm
  obtain ⟨g, off, cap, k0, m0, k1, m1, rfl, hgB, hcl, hx5, hx6, hy5, hy6⟩ := htm.two'
  obtain ⟨xa, xn, xc, rfl⟩ := hx5.slice
  obtain ⟨xb, xo, xd, rfl⟩ := hx6.slice
  obtain ⟨ya, yn, yc, rfl⟩ := hy5.slice
  obtain ⟨yb, yo, yd, rfl⟩ := hy6.slice
  unfold tmVal
  have K0 : Kept (fun _ => False) w (w.alloc (.cells #[.int .i64 t.op, .string t.name, .int .i64 t.n, .int .i64 t.ty.kind, .string t.ty.name, .slice ta tn tc, .slice (some ⟨g, off, none⟩) 2 cap] 27)) := (Kept.refl _ _).alloc _
  have bX : Blk (w.alloc (.cells #[.int .i64 t.op, .string t.name, .int .i64 t.n, .int .i64 t.ty.kind, .string t.ty.name, .slice ta tn tc, .slice (some ⟨g, off, none⟩) 2 cap] 27)) w.heap.size 27 (tmCells t (.slice ta tn tc) (.slice (some ⟨g, off, none⟩) 2 cap)) := Blk.new w 27 _
  have hbl := hb.lt
  have hbB := hb.le
  have HBI := Lib.hid (binary_any t.op)
  have HL : Hid (l.length + ox.length + (binS t.op).size + oy.length + 2 ≤ 1000000000) := Lib.hid (by simp at hlen; have : (binS t.op).data.size = (binS t.op).size := rfl; omega)
  have HX := Lib.hid hx
  have HY := Lib.hid hy
  have HCL := Lib.hid hcl
  have HGB := Lib.hid hgB
  clear hlen hx hy hcl hkids htm hgB
  go_enter Tryz.func52, Tryz.ntmps52
  go_wp2_with fail
  refine (HBI.out _).mono ?_
  rintro e w1 ⟨rfl, k1'⟩
  have K1 := K0.trans k1'
  have b1 := bX.kept k1' (fun h => h)
  have g6 : w1.cell? ⟨w.heap.size, 6, none⟩ = some (.slice (some ⟨g, off, none⟩) 2 cap) := b1.cell 6
  have S1 : Same (fun q => q < B) w w1 := Same.of_kept K1 (fun _ _ e => e)
  have hc1 : Hid (∀ j u, (tmCells x (.slice xa xn xc) (.slice xb xo xd) ++ tmCells y (.slice ya yn yc) (.slice yb yo yd))[j]? = some u → w1.cell? ⟨g, off + j, none⟩ = some u) := Lib.hid (fun j u h => S1.cell HGB.out (HCL.out j u h))
  have c0 : w1.cell? ⟨g, off, none⟩ = some (.int .i64 x.op) := hc1.out 0 _ rfl
  have c1 : w1.cell? ⟨g, off + 1, none⟩ = some (.string x.name) := hc1.out 1 _ rfl
  have c2 : w1.cell? ⟨g, off + 2, none⟩ = some (.int .i64 x.n) := hc1.out 2 _ rfl
  have c3 : w1.cell? ⟨g, off + 3, none⟩ = some (.int .i64 x.ty.kind) := hc1.out 3 _ rfl
  have c4 : w1.cell? ⟨g, off + 4, none⟩ = some (.string x.ty.name) := hc1.out 4 _ rfl
  have c5 : w1.cell? ⟨g, off + 5, none⟩ = some (.slice xa xn xc) := hc1.out 5 _ rfl
  have c6 : w1.cell? ⟨g, off + 6, none⟩ = some (.slice xb xo xd) := hc1.out 6 _ rfl
  have HC1 := Lib.hid (HX.out B b l w1 _ _ (hb.kept K1) (Nat.le_trans hB K1.size) (hx5.frame S1) (hx6.frame S1) (by have := HL.out; omega))
  go_wp2_with fail
  refine HC1.out.mono ?_
  rintro e w2 ⟨rfl, u2, k2⟩
  have K2 : KB b B w w2 := (KB.of_kept K1).trans k2
  have b2 := b1.kb k2 (by omega) (by decide)
  have y6 : w2.cell? ⟨w.heap.size, 6, none⟩ = some (.slice (some ⟨g, off, none⟩) 2 cap) := b2.cell 6
  clear c0 c1 c2 c3 c4 c5 c6 g6
  have hsz : (⟨#[32]⟩ ++ binS t.op ++ ⟨#[32]⟩ : ByteArray).size = (binS t.op).size + 2 := by simp [ByteArray.size_append]; show 1 + (binS t.op).size + 1 = _; omega
  have HS := Lib.hid (ws_any (⟨#[32]⟩ ++ binS t.op ++ ⟨#[32]⟩) u2 (by have := HL.out; rw [hsz, List.length_append]; omega) (Nat.le_trans hB K2.size))
  clear hsz
  have hbz : (binS t.op).size ≤ 1000000000 := by have := HL.out; omega
  go_wp2_with fail
  refine HS.out.mono ?_
  rintro e w3 ⟨rfl, u3, k3⟩
  have K3 := K2.trans k3
  have b3 := b2.kb k3 (by omega) (by decide)
  have z6 : w3.cell? ⟨w.heap.size, 6, none⟩ = some (.slice (some ⟨g, off, none⟩) 2 cap) := b3.cell 6
  have S3 : Same (fun q => q < B) w w3 := Same.kb K3 hbB
  have hc3 : Hid (∀ j u, (tmCells x (.slice xa xn xc) (.slice xb xo xd) ++ tmCells y (.slice ya yn yc) (.slice yb yo yd))[j]? = some u → w3.cell? ⟨g, off + j, none⟩ = some u) := Lib.hid (fun j u h => S3.cell HGB.out (HCL.out j u h))
  have c0 : w3.cell? ⟨g, off + 7, none⟩ = some (.int .i64 y.op) := hc3.out 7 _ rfl
  have c1 : w3.cell? ⟨g, off + 8, none⟩ = some (.string y.name) := hc3.out 8 _ rfl
  have c2 : w3.cell? ⟨g, off + 9, none⟩ = some (.int .i64 y.n) := hc3.out 9 _ rfl
  have c3 : w3.cell? ⟨g, off + 10, none⟩ = some (.int .i64 y.ty.kind) := hc3.out 10 _ rfl
  have c4 : w3.cell? ⟨g, off + 11, none⟩ = some (.string y.ty.name) := hc3.out 11 _ rfl
  have c5 : w3.cell? ⟨g, off + 12, none⟩ = some (.slice ya yn yc) := hc3.out 12 _ rfl
  have c6 : w3.cell? ⟨g, off + 13, none⟩ = some (.slice yb yo yd) := hc3.out 13 _ rfl
  have hdl : (⟨#[32]⟩ ++ binS t.op ++ ⟨#[32]⟩ : ByteArray).data.toList = [32] ++ (binS t.op).data.toList ++ [32] := by simp [ByteArray.data_append]
  rw [hdl] at u3
  have HC3 := Lib.hid (HY.out B b _ w3 _ _ u3 (Nat.le_trans hB K3.size) (hy5.frame S3) (hy6.frame S3) (by have := HL.out; simp only [List.length_append, List.length_cons, List.length_nil, ba_len]; omega))
  clear hdl y6
  go_wp2_with fail
  refine HC3.out.mono ?_
  rintro e w4 ⟨rfl, u4, k4⟩
  go_wp2_with fail
  first | go_end0 | refine bodyPost_ret (results_none rfl _ _ _) rfl ?_
  exact ⟨rfl, by simpa using u4, K3.trans k4⟩
set_option maxRecDepth 100000 in
set_option maxHeartbeats 8000000 in
theorem pt_name {nm : ByteArray} {N : Int} {ty : Ty} {kl : List Tm}  : PC (.mk 20 nm N ty kl) nm.data.toList := by
  intro B b l w tk kk hb hB hty htm hlen
  have HB0 : Hid (binS 20 = ⟨#[]⟩) := Lib.hid (by decide)
  have HKY : Hid (∀ W, Calls Tryz.prog 97 #[.int .i64 20] W fun e w' => e = .returned (.string ⟨#[]⟩) ∧ Kept (fun _ => False) W w') := Lib.hid (fun W => keyed_any 20 W)
  obtain ⟨ta, tn, tc, rfl⟩ := hty.slice
  obtain ⟨ma, mn, mc, rfl⟩ := htm.slice
  unfold tmVal
  have hty' : TyL (fun q => q < B) w ty.kids (.slice ta tn tc) := hty
  have htm' : TmL (fun q => q < B) w kl (.slice ma mn mc) := htm
  clear hty htm
  simp only [Tm.op, Tm.name, Tm.n, Tm.ty, Tm.kids]
  have K0 : Kept (fun _ => False) w (w.alloc (.cells #[.int .i64 20, .string nm, .int .i64 N, .int .i64 ty.kind, .string ty.name, .slice ta tn tc, .slice ma mn mc] 27)) := (Kept.refl _ _).alloc _
  have bX : Blk (w.alloc (.cells #[.int .i64 20, .string nm, .int .i64 N, .int .i64 ty.kind, .string ty.name, .slice ta tn tc, .slice ma mn mc] 27)) w.heap.size 27 [.int .i64 20, .string nm, .int .i64 N, .int .i64 ty.kind, .string ty.name, .slice ta tn tc, .slice ma mn mc] := Blk.new w 27 _
  have hbl := hb.lt
  have hbB := hb.le
  have HBI : Hid (∀ W, Calls Tryz.prog 94 #[.int .i64 20] W fun e w' => e = .returned (.string ⟨#[]⟩) ∧ Kept (fun _ => False) W w') := Lib.hid (fun W => (binary_any 20 W).mono fun e w' ⟨h1, h2⟩ => ⟨by rw [h1, HB0.out], h2⟩)
  have HL := Lib.hid hlen
  clear hlen
  go_enter Tryz.func52, Tryz.ntmps52
  go_wp2_with fail
  refine (HBI.out _).mono ?_
  rintro e w1 ⟨rfl, k1⟩
  have K1 := K0.trans k1
  have b1 := bX.kept k1 (fun h => h)
  have g0 : w1.cell? ⟨w.heap.size, 0, none⟩ = some (.int .i64 20) := b1.cell 0
  go_wp2_with fail
  go_region_held3 (fun w' => w'.cell? ⟨w.heap.size, 0, none⟩ = some (.int .i64 20)) (go_keep)
    (first | (go_at_call 97; refine (HKY.out w1.drew).mono ?_; rintro e w2 ⟨rfl, k2'⟩; have k2 : Kept (fun _ => False) w1 w2 := ((Kept.refl _ _).drew).trans k2'; have b2 := b1.kept k2 (fun h => h); have g2 : w2.cell? ⟨w.heap.size, 0, none⟩ = some (.int .i64 20) := b2.cell 0; have K2 := K1.trans k2; have u2 := hb.kept K2) | (go_at_call 96; refine (ws_any _ u2 (by have := HL.out; simp only [ByteArray.size]; simp at this ⊢; omega) (Nat.le_trans hB K2.size)).mono ?_; rintro e w3 ⟨rfl, u3, k3⟩; have b3 := b2.kb k3 (by omega) (by decide); have g3 : w3.cell? ⟨w.heap.size, 0, none⟩ = some (.int .i64 20) := b3.cell 0))
  have K3 : KB b B w w3 := (KB.of_kept K2).trans k3
  have V3 := Lib.hid u3
  have g1x : w3.cell? ⟨w.heap.size, 1, none⟩ = some (.string nm) := b3.cell 1
  clear g0 g2 g3
  go_wp2_with fail
  go_region_held3 (fun w' => w'.cell? ⟨w.heap.size, 1, none⟩ = some (.string nm)) (go_keep)
    (first | (go_at_call 96; refine (ws_any nm (l := l) (w := w3.drew) (by have := V3.out.kept ((Kept.refl _ _).drew); simpa using this) (by have := HL.out; rw [ba_len] at this; exact this) (Nat.le_trans hB K3.size)).mono ?_; rintro e w4 ⟨rfl, u4, k4⟩; have b4 := b3.kb (((KB.refl b B w3).drew).trans k4) (by omega) (by decide); have g4x : w4.cell? ⟨w.heap.size, 1, none⟩ = some (.string nm) := b4.cell 1))
  go_wp2_with fail
  first | go_end0 | refine bodyPost_ret (results_none rfl _ _ _) rfl ?_
  exact ⟨rfl, u4, K3.trans (((KB.refl b B w3).drew).trans k4)⟩
set_option maxRecDepth 100000 in
set_option maxHeartbeats 8000000 in
theorem pt_int {nm : ByteArray} {N : Int} {ty : Ty} {kl : List Tm} {ds : ByteArray} (hIT : ∀ W : World, Calls Tryz.prog 83 #[.int .i64 N] W fun e w' => e = .returned (.string ds) ∧ W = w') : PC (.mk 19 nm N ty kl) ds.data.toList := by
  intro B b l w tk kk hb hB hty htm hlen
  have HB0 : Hid (binS 19 = ⟨#[]⟩) := Lib.hid (by decide)
  have HKY : Hid (∀ W, Calls Tryz.prog 97 #[.int .i64 19] W fun e w' => e = .returned (.string ⟨#[]⟩) ∧ Kept (fun _ => False) W w') := Lib.hid (fun W => keyed_any 19 W)
  have HIT := Lib.hid hIT
  clear hIT
  obtain ⟨ta, tn, tc, rfl⟩ := hty.slice
  obtain ⟨ma, mn, mc, rfl⟩ := htm.slice
  unfold tmVal
  have hty' : TyL (fun q => q < B) w ty.kids (.slice ta tn tc) := hty
  have htm' : TmL (fun q => q < B) w kl (.slice ma mn mc) := htm
  clear hty htm
  simp only [Tm.op, Tm.name, Tm.n, Tm.ty, Tm.kids]
  have K0 : Kept (fun _ => False) w (w.alloc (.cells #[.int .i64 19, .string nm, .int .i64 N, .int .i64 ty.kind, .string ty.name, .slice ta tn tc, .slice ma mn mc] 27)) := (Kept.refl _ _).alloc _
  have bX : Blk (w.alloc (.cells #[.int .i64 19, .string nm, .int .i64 N, .int .i64 ty.kind, .string ty.name, .slice ta tn tc, .slice ma mn mc] 27)) w.heap.size 27 [.int .i64 19, .string nm, .int .i64 N, .int .i64 ty.kind, .string ty.name, .slice ta tn tc, .slice ma mn mc] := Blk.new w 27 _
  have hbl := hb.lt
  have hbB := hb.le
  have HBI : Hid (∀ W, Calls Tryz.prog 94 #[.int .i64 19] W fun e w' => e = .returned (.string ⟨#[]⟩) ∧ Kept (fun _ => False) W w') := Lib.hid (fun W => (binary_any 19 W).mono fun e w' ⟨h1, h2⟩ => ⟨by rw [h1, HB0.out], h2⟩)
  have HL := Lib.hid hlen
  clear hlen
  go_enter Tryz.func52, Tryz.ntmps52
  go_wp2_with fail
  refine (HBI.out _).mono ?_
  rintro e w1 ⟨rfl, k1⟩
  have K1 := K0.trans k1
  have b1 := bX.kept k1 (fun h => h)
  have g0 : w1.cell? ⟨w.heap.size, 0, none⟩ = some (.int .i64 19) := b1.cell 0
  go_wp2_with fail
  go_region_held3 (fun w' => w'.cell? ⟨w.heap.size, 0, none⟩ = some (.int .i64 19)) (go_keep)
    (first | (go_at_call 97; refine (HKY.out w1.drew).mono ?_; rintro e w2 ⟨rfl, k2'⟩; have k2 : Kept (fun _ => False) w1 w2 := ((Kept.refl _ _).drew).trans k2'; have b2 := b1.kept k2 (fun h => h); have g2 : w2.cell? ⟨w.heap.size, 0, none⟩ = some (.int .i64 19) := b2.cell 0; have K2 := K1.trans k2; have u2 := hb.kept K2) | (go_at_call 96; refine (ws_any _ u2 (by have := HL.out; simp only [ByteArray.size]; simp at this ⊢; omega) (Nat.le_trans hB K2.size)).mono ?_; rintro e w3 ⟨rfl, u3, k3⟩; have b3 := b2.kb k3 (by omega) (by decide); have g3 : w3.cell? ⟨w.heap.size, 0, none⟩ = some (.int .i64 19) := b3.cell 0))
  have K3 : KB b B w w3 := (KB.of_kept K2).trans k3
  have V3 := Lib.hid u3
  have g2x : w3.cell? ⟨w.heap.size, 2, none⟩ = some (.int .i64 N) := b3.cell 2
  clear g0 g2 g3
  go_wp2_with fail
  go_region_held3 (fun w' => w'.cell? ⟨w.heap.size, 2, none⟩ = some (.int .i64 N)) (go_keep)
    (first | (go_at_call 83; refine (HIT.out _).mono ?_; rintro e w' ⟨rfl, rfl⟩) | (go_at_call 96; refine (ws_any ds (l := l) (w := w3.drew) (by have := V3.out.kept ((Kept.refl _ _).drew); simpa using this) (by have := HL.out; rw [ba_len] at this; exact this) (Nat.le_trans hB K3.size)).mono ?_; rintro e w4 ⟨rfl, u4, k4⟩; have b4 := b3.kb (((KB.refl b B w3).drew).trans k4) (by omega) (by decide); have g4x : w4.cell? ⟨w.heap.size, 2, none⟩ = some (.int .i64 N) := b4.cell 2))
  go_wp2_with fail
  first | go_end0 | refine bodyPost_ret (results_none rfl _ _ _) rfl ?_
  exact ⟨rfl, u4, K3.trans (((KB.refl b B w3).drew).trans k4)⟩
def joinO (O : Nat → List UInt8) : Nat → List UInt8
  | 0 => []
  | k + 1 => joinO O k ++ (if k = 0 then [] else [44, 32]) ++ O k
theorem join_le (O : Nat → List UInt8) (n : Nat) : ∀ k, k ≤ n → (joinO O k).length ≤ (joinO O n).length := by
  induction n with
  | zero => intro k h; have : k = 0 := by omega
            subst this; exact Nat.le_refl _
  | succ n ih =>
    intro k h
    by_cases e : k = n + 1
    · subst e; exact Nat.le_refl _
    · have := ih k (by omega)
      rw [joinO]; simp only [List.length_append]; omega
def LC (kl : List Tm) (out : List UInt8) : Prop := ∀ (B b : Nat) (l : List UInt8) (w : World) (kk : Value), Bu B b l w → B ≤ w.heap.size → TmL (fun q => q < B) w kl kk → l.length + out.length ≤ 1000000000 →
  Calls Tryz.prog 101 #[.pointer (some ⟨b, 0, none⟩), kk] w (PP B b (l ++ out) w)
set_option maxRecDepth 100000 in
set_option maxHeartbeats 8000000 in
theorem list_one {kl : List Tm} {O : Nat → List UInt8} (hp : ∀ i (h : i < kl.length), PC kl[i] (O i)) (hkl : kl.length ≤ 1) : LC kl (joinO O kl.length) := by
  intro B b l w kk hb hB htm hlen
  have HP := Lib.hid hp
  have HL := Lib.hid hlen
  clear hp hlen
  have hbl := hb.lt
  have hbB := hb.le
  cases htm with
  | nil he =>
    rcases he with rfl | ⟨ad, c, rfl⟩
    all_goals
      go_enter Tryz.func101, Tryz.ntmps101
      go_wp2_with fail
      go_loop [8] (fun i => i = .int .i64 0) (fun i => 0)
      case atStart => rfl
      case round =>
        subst hrel
        go_wp2_with fail
        first | go_end0 | refine bodyPost_ret (results_none rfl _ _ _) rfl ?_
        exact ⟨rfl, by simpa [joinO] using hb, KB.refl _ _ _⟩
  | mk K M hne hgB hcap hcell hk hm =>
    rename_i g off cap
    have HC := Lib.hid hcell
    have HK := Lib.hid hk
    have HM := Lib.hid hm
    have HGB := Lib.hid hgB
    clear hcell hk hm hgB
    go_enter Tryz.func101, Tryz.ntmps101
    go_wp2_with fail
    go_loopw [8] (fun i wr => ∃ k : Nat, k ≤ kl.length ∧ i = .int .i64 k ∧ Hid (Bu B b (l ++ joinO O k) wr) ∧ Hid (KB b B w wr)) (fun i _ => kl.length - (intOf i).toNat)
    case atStart => exact ⟨0, Nat.zero_le _, rfl, Lib.hid (by simpa [joinO] using hb), Lib.hid (KB.refl _ _ _)⟩
    case round =>
      obtain ⟨k, hkl2, rfl, HU, HKB⟩ := hrel
      by_cases hlt : k < kl.length
      · have Sr : Same (fun q => q < B) w wr := Same.kb HKB.out hbB
        obtain ⟨xa, xn, xc, hKk⟩ := (HK.out k hlt).slice
        obtain ⟨ya, yn, yc, hMk⟩ := (HM.out k hlt).slice
        have c0 : wr.cell? ⟨g, off + k * 7, none⟩ = some (.int .i64 kl[k].op) := by have cc := Sr.cell HGB.out (HC.out k hlt).1; exact cc
        have c1 : wr.cell? ⟨g, off + k * 7 + 1, none⟩ = some (.string kl[k].name) := by have cc := Sr.cell HGB.out (HC.out k hlt).2.1; exact cc
        have c2 : wr.cell? ⟨g, off + k * 7 + 2, none⟩ = some (.int .i64 kl[k].n) := by have cc := Sr.cell HGB.out (HC.out k hlt).2.2.1; exact cc
        have c3 : wr.cell? ⟨g, off + k * 7 + 3, none⟩ = some (.int .i64 kl[k].ty.kind) := by have cc := Sr.cell HGB.out (HC.out k hlt).2.2.2.1; exact cc
        have c4 : wr.cell? ⟨g, off + k * 7 + 4, none⟩ = some (.string kl[k].ty.name) := by have cc := Sr.cell HGB.out (HC.out k hlt).2.2.2.2.1; exact cc
        have c5 : wr.cell? ⟨g, off + k * 7 + 5, none⟩ = some (.slice xa xn xc) := by have cc := Sr.cell HGB.out (HC.out k hlt).2.2.2.2.2.1; rw [hKk] at cc; exact cc
        have c6 : wr.cell? ⟨g, off + k * 7 + 6, none⟩ = some (.slice ya yn yc) := by have cc := Sr.cell HGB.out (HC.out k hlt).2.2.2.2.2.2; rw [hMk] at cc; exact cc
        have hx5 : TyL (fun q => q < B) wr kl[k].ty.kids (.slice xa xn xc) := by rw [← hKk]; exact (HK.out k hlt).frame Sr
        have hx6 : TmL (fun q => q < B) wr kl[k].kids (.slice ya yn yc) := by rw [← hMk]; exact (HM.out k hlt).frame Sr
        clear hKk hMk
        have i1 : (k : Int) < (kl.length : Int) := by omega
        have i2 : (k : Int) < 2000000 := by omega
        have hsz := HKB.out.size
        have bL : Blk (wr.alloc (.cells #[.int .i64 kl[k].op, .string kl[k].name, .int .i64 kl[k].n, .int .i64 kl[k].ty.kind, .string kl[k].ty.name, .slice xa xn xc, .slice ya yn yc] 27)) wr.heap.size 27 (tmCells kl[k] (.slice xa xn xc) (.slice ya yn yc)) := Blk.new wr 27 _
        have KL : KB b B wr (wr.alloc (.cells #[.int .i64 kl[k].op, .string kl[k].name, .int .i64 kl[k].n, .int .i64 kl[k].ty.kind, .string kl[k].ty.name, .slice xa xn xc, .slice ya yn yc] 27)) := (KB.refl _ _ _).alloc _
        have uL : Bu B b (l ++ joinO O k) (wr.alloc (.cells #[.int .i64 kl[k].op, .string kl[k].name, .int .i64 kl[k].n, .int .i64 kl[k].ty.kind, .string kl[k].ty.name, .slice xa xn xc, .slice ya yn yc] 27)) := HU.out.kept ((Kept.refl _ _).alloc _)
        have lb := HU.out.lt
        have zL : B ≤ (wr.alloc (.cells #[.int .i64 kl[k].op, .string kl[k].name, .int .i64 kl[k].n, .int .i64 kl[k].ty.kind, .string kl[k].ty.name, .slice xa xn xc, .slice ya yn yc] 27)).heap.size := by simp; omega
        have jl : Hid (l.length + (joinO O k).length + (if k = 0 then 0 else 2) + (O k).length ≤ 1000000000) := Lib.hid (by
          have h1 := HL.out
          have h2 := join_le O kl.length (k + 1) (by omega)
          rw [joinO] at h2
          simp only [List.length_append] at h2
          split
          · rename_i e; rw [if_pos e] at h2; simp at h2; omega
          · rename_i e; rw [if_neg e] at h2; simp at h2; omega)
        have S5 := hx5.frame (Same.alloc wr (.cells #[.int .i64 kl[k].op, .string kl[k].name, .int .i64 kl[k].n, .int .i64 kl[k].ty.kind, .string kl[k].ty.name, .slice xa xn xc, .slice ya yn yc] 27))
        have S6 := hx6.frame (Same.alloc wr (.cells #[.int .i64 kl[k].op, .string kl[k].name, .int .i64 kl[k].n, .int .i64 kl[k].ty.kind, .string kl[k].ty.name, .slice xa xn xc, .slice ya yn yc] 27))
        have HPk := Lib.hid (HP.out k hlt)
        by_cases hk0 : k = 0
        · subst hk0
          simp only [Nat.zero_mul, Nat.add_zero] at c0 c1 c2 c3 c4 c5 c6
          have HC0 := Lib.hid (HPk.out B b _ _ _ _ uL zL S5 S6 (by have := jl.out; simp [joinO] at this ⊢; omega))
          go_wp2_with fail
          refine HC0.out.mono ?_
          rintro e w2 ⟨rfl, u2, k2⟩
          have HU2 : Hid (Bu B b (l ++ joinO O (0 + 1)) w2) := Lib.hid (by simpa [joinO] using u2)
          have HK2 := Lib.hid (HKB.out.trans (KL.trans k2))
          go_wp2_with fail
          go_roundw
          case rel => exact ⟨0 + 1, by omega, by go_num, HU2, HK2⟩
          case measure => simp [intOf]; omega
        · exact absurd hlt (by omega)
      · have hkk : k = kl.length := by omega
        subst hkk
        go_wp2_with fail
        first | go_end0 | refine bodyPost_ret (results_none rfl _ _ _) rfl ?_
        exact ⟨rfl, HU.out, HKB.out⟩
set_option maxRecDepth 100000 in
set_option maxHeartbeats 8000000 in
theorem pt_card {nm : ByteArray} {N : Int} {ty : Ty} {kl : List Tm} {out : List UInt8} (hl : LC kl out) : PC (.mk 47 nm N ty kl) ([99, 97, 114, 100] ++ ([40] ++ out ++ [41])) := by
  intro B b l w tk kk hb hB hty htm hlen
  have HB0 : Hid (binS 47 = ⟨#[]⟩) := Lib.hid (by decide)
  have HKY : Hid (∀ W, Calls Tryz.prog 97 #[.int .i64 47] W fun e w' => e = .returned (.string ⟨#[99, 97, 114, 100]⟩) ∧ Kept (fun _ => False) W w') := Lib.hid (fun W => keyed_any 47 W)
  have HLC := Lib.hid hl
  clear hl
  obtain ⟨ta, tn, tc, rfl⟩ := hty.slice
  obtain ⟨ma, mn, mc, rfl⟩ := htm.slice
  unfold tmVal
  have hty' : TyL (fun q => q < B) w ty.kids (.slice ta tn tc) := hty
  have htm' : TmL (fun q => q < B) w kl (.slice ma mn mc) := htm
  clear hty htm
  simp only [Tm.op, Tm.name, Tm.n, Tm.ty, Tm.kids]
  have K0 : Kept (fun _ => False) w (w.alloc (.cells #[.int .i64 47, .string nm, .int .i64 N, .int .i64 ty.kind, .string ty.name, .slice ta tn tc, .slice ma mn mc] 27)) := (Kept.refl _ _).alloc _
  have bX : Blk (w.alloc (.cells #[.int .i64 47, .string nm, .int .i64 N, .int .i64 ty.kind, .string ty.name, .slice ta tn tc, .slice ma mn mc] 27)) w.heap.size 27 [.int .i64 47, .string nm, .int .i64 N, .int .i64 ty.kind, .string ty.name, .slice ta tn tc, .slice ma mn mc] := Blk.new w 27 _
  have hbl := hb.lt
  have hbB := hb.le
  have HBI : Hid (∀ W, Calls Tryz.prog 94 #[.int .i64 47] W fun e w' => e = .returned (.string ⟨#[]⟩) ∧ Kept (fun _ => False) W w') := Lib.hid (fun W => (binary_any 47 W).mono fun e w' ⟨h1, h2⟩ => ⟨by rw [h1, HB0.out], h2⟩)
  have HL := Lib.hid hlen
  clear hlen
  go_enter Tryz.func52, Tryz.ntmps52
  go_wp2_with fail
  refine (HBI.out _).mono ?_
  rintro e w1 ⟨rfl, k1⟩
  have K1 := K0.trans k1
  have b1 := bX.kept k1 (fun h => h)
  have g0 : w1.cell? ⟨w.heap.size, 0, none⟩ = some (.int .i64 47) := b1.cell 0
  go_wp2_with fail
  go_region_held3 (fun w' => w'.cell? ⟨w.heap.size, 0, none⟩ = some (.int .i64 47)) (go_keep)
    (first | (go_at_call 97; refine (HKY.out w1.drew).mono ?_; rintro e w2 ⟨rfl, k2'⟩; have k2 : Kept (fun _ => False) w1 w2 := ((Kept.refl _ _).drew).trans k2'; have b2 := b1.kept k2 (fun h => h); have g2 : w2.cell? ⟨w.heap.size, 0, none⟩ = some (.int .i64 47) := b2.cell 0; have K2 := K1.trans k2; have u2 := hb.kept K2) | (go_at_call 96; refine (ws_any _ u2 (by have := HL.out; simp only [ByteArray.size]; simp at this ⊢; omega) (Nat.le_trans hB K2.size)).mono ?_; rintro e w3 ⟨rfl, u3, k3⟩; have b3 := b2.kb k3 (by omega) (by decide); have g3 : w3.cell? ⟨w.heap.size, 0, none⟩ = some (.int .i64 47) := b3.cell 0))
  have K3 : KB b B w w3 := (KB.of_kept K2).trans k3
  have hlen2 : Hid (l.length + out.length + 10 ≤ 1000000010) := Lib.hid (by have := HL.out; simp at this; omega)
  have HL2 : Hid (l.length + 4 + out.length + 2 ≤ 1000000000) := Lib.hid (by have := HL.out; simp at this; omega)
  have V3 := Lib.hid u3
  have HW := Lib.hid (wb_any (40 : UInt8) (ci := 40) rfl u3 (by have := HL2.out; simp; omega) (Nat.le_trans hB K3.size))
  clear u3
  go_wp2_with fail
  refine HW.out.mono ?_
  rintro e w4 ⟨rfl, u4, k4⟩
  have K4 := K3.trans k4
  have b4 := b3.kb k4 (by omega) (by decide)
  have g46 : w4.cell? ⟨w.heap.size, 6, none⟩ = some (.slice ma mn mc) := b4.cell 6
  have HC := Lib.hid (HLC.out B b _ w4 _ u4 (Nat.le_trans hB K4.size) (htm'.frame (Same.kb K4 hbB)) (by have := HL2.out; simp; omega))
  clear g0 g2 g3
  go_wp2_with fail
  refine HC.out.mono ?_
  rintro e w5 ⟨rfl, u5, k5⟩
  have K5 := K4.trans k5
  have HW5 := Lib.hid (wb_any (41 : UInt8) (ci := 41) rfl u5 (by have := HL2.out; simp; omega) (Nat.le_trans hB K5.size))
  go_wp2_with fail
  refine HW5.out.mono ?_
  rintro e w6 ⟨rfl, u6, k6⟩
  go_wp2_with fail
  first | go_end0 | refine bodyPost_ret (results_none rfl _ _ _) rfl ?_
  exact ⟨rfl, by simpa using u6, K5.trans k6⟩
set_option maxRecDepth 100000 in
set_option maxHeartbeats 4000000 in
theorem format_ok {t : Tm} {out : List UInt8} {ok : Nat → Prop} {w : World} {ta : Option Addr} {tn tc : Nat} {ma : Option Addr} {mn mc : Nat} (hty : TyL ok w t.ty.kids (.slice ta tn tc)) (htm : TmL ok w t.kids (.slice ma mn mc)) (hp : PC t out) (hv : validB t = true) (hs : SmTm big t) (h0 : out ≠ []) (hlen : out.length ≤ 1000000000) :
    Calls Tryz.prog 21 #[.agg #[.int .i64 t.op, .string t.name, .int .i64 t.n, .int .i64 t.ty.kind, .string t.ty.name, .slice ta tn tc, .slice ma mn mc]] w fun e w' => e = .returned (.string ⟨out.toArray⟩) ∧ Kept (fun _ => False) w w' := by
  have K0 : Kept (fun _ => False) w (w.alloc (.cells #[.int .i64 t.op, .string t.name, .int .i64 t.n, .int .i64 t.ty.kind, .string t.ty.name, .slice ta tn tc, .slice ma mn mc] 27)) := (Kept.refl _ _).alloc _
  have bX : Blk (w.alloc (.cells #[.int .i64 t.op, .string t.name, .int .i64 t.n, .int .i64 t.ty.kind, .string t.ty.name, .slice ta tn tc, .slice ma mn mc] 27)) w.heap.size 27 (tmCells t (.slice ta tn tc) (.slice ma mn mc)) := Blk.new w 27 _
  have HV := Lib.hid (valid_any (hty.frame (Same.alloc w (.cells #[.int .i64 t.op, .string t.name, .int .i64 t.n, .int .i64 t.ty.kind, .string t.ty.name, .slice ta tn tc, .slice ma mn mc] 27))) (htm.frame (Same.alloc w (.cells #[.int .i64 t.op, .string t.name, .int .i64 t.n, .int .i64 t.ty.kind, .string t.ty.name, .slice ta tn tc, .slice ma mn mc] 27))) hs)
  have HP := Lib.hid hp
  have H0 := Lib.hid h0
  have HL := Lib.hid hlen
  clear hp h0 hlen hs
  go_enter Tryz.func21, Tryz.ntmps21
  go_wp2_with fail
  refine HV.out.mono ?_
  rintro e w1 ⟨rfl, k1⟩
  rw [hv]
  have K1 := K0.trans k1
  have b1 := bX.kept k1 (fun h => h)
  have bB : Blk (w1.alloc (.cells #[.pointer none, .slice none 0 0] 71)) w1.heap.size 71 [.pointer none, .slice none 0 0] := Blk.new w1 71 _
  have K2 : Kept (fun _ => False) w1 (w1.alloc (.cells #[.pointer none, .slice none 0 0] 71)) := (Kept.refl _ _).alloc _
  have hU : Bu w1.heap.size w1.heap.size [] (w1.alloc (.cells #[.pointer none, .slice none 0 0] 71)) := Or.inl ⟨Nat.le_refl _, .slice none 0 0, bB, World.ownsRow_nil _ _ _ _, by simp [Value.ownBlock]⟩
  have t5 := ((hty.frame (Same.of_kept K1 (fun _ _ e => e))).mono (ok' := fun q => q < w1.heap.size) (fun q h _ => h)).frame (Same.of_kept K2 (fun _ _ e => e))
  have t6 := ((htm.frame (Same.of_kept K1 (fun _ _ e => e))).mono (ok' := fun q => q < w1.heap.size) (fun q h _ => h)).frame (Same.of_kept K2 (fun _ _ e => e))
  have HC := Lib.hid (HP.out w1.heap.size w1.heap.size [] _ _ _ hU (by simp) t5 t6 (by have := HL.out; simpa using this))
  have b2 := b1.alloc (.cells #[.pointer none, .slice none 0 0] 71)
  have l1 := b1.lt
  have n1 : w.heap.size ≠ w1.heap.size := by omega
  have g0 : w1.cell? ⟨w.heap.size, 0, none⟩ = some (.int .i64 t.op) := b1.cell 0
  have g1 : w1.cell? ⟨w.heap.size, 1, none⟩ = some (.string t.name) := b1.cell 1
  have g2 : w1.cell? ⟨w.heap.size, 2, none⟩ = some (.int .i64 t.n) := b1.cell 2
  have g3 : w1.cell? ⟨w.heap.size, 3, none⟩ = some (.int .i64 t.ty.kind) := b1.cell 3
  have g4 : w1.cell? ⟨w.heap.size, 4, none⟩ = some (.string t.ty.name) := b1.cell 4
  have g5 : w1.cell? ⟨w.heap.size, 5, none⟩ = some (.slice ta tn tc) := b1.cell 5
  have g6 : w1.cell? ⟨w.heap.size, 6, none⟩ = some (.slice ma mn mc) := b1.cell 6
  go_wp2_with fail
  refine HC.out.mono ?_
  rintro e w3 ⟨rfl, u3, k3⟩
  rw [List.nil_append] at u3
  have HS := Lib.hid (bstr_any u3 H0.out)
  have K3 : Kept (fun k => w1.heap.size ≤ k) w1 w3 := (K2.mono (fun _ _ h => h.elim)).via k3 (fun x hx e => by
    rcases e with rfl | ⟨h, _⟩
    · exact Nat.le_refl _
    · exact h)
  go_wp2_with fail
  refine HS.out.mono ?_
  rintro e w4 ⟨rfl, k4⟩
  go_wp2_with fail
  go_ret
  refine ⟨rfl, K1.via (S' := fun k => w1.heap.size ≤ k) (K3.via (S' := fun k => w1.heap.size ≤ k) ⟨k4.os, k4.tape, k4.output, k4.size, fun q hq hn => k4.block q (by omega)⟩ (fun _ _ h => h)) (fun x hx h => ?_)⟩
  have := K1.size
  omega
def digS : ByteArray := ⟨#[48, 49, 50, 51, 52, 53, 54, 55, 56, 57]⟩
def digL : List Value := (Lib.setCells digS.data.toList).toList
theorem dig_zero : ∀ w, (zeroValue 126).run Tryz.prog w = .ok (.agg (Array.replicate 256 (.bool false))) w := fun w => by kernel_rfl
theorem dig_set (w : World) : Calls Tryz.prog 128 #[.string digS] w fun e w' => e = .returned (.tuple #[.agg digL.toArray, .bool true]) ∧ w' = w.alloc (.cells digL.toArray 126) := by
  refine (Tryz.strings_makeASCIISet dig_zero digS w (by decide) ?_).mono fun e w' ⟨h1, h2⟩ => ⟨by rw [h1]; unfold digL; rw [Array.toArray_toList], by rw [h2]; unfold digL; rw [Array.toArray_toList]⟩
  intro j b hj
  have hlt : j < 10 := (List.getElem?_eq_some_iff.1 hj).1
  rcases (show j = 0 ∨ j = 1 ∨ j = 2 ∨ j = 3 ∨ j = 4 ∨ j = 5 ∨ j = 6 ∨ j = 7 ∨ j = 8 ∨ j = 9 by omega) with rfl | rfl | rfl | rfl | rfl | rfl | rfl | rfl | rfl | rfl <;> (cases hj; decide)
theorem dig_50 : digL[50]? = some (.bool true) := by kernel_rfl
theorem dig_49 : digL[49]? = some (.bool true) := by kernel_rfl
theorem dig_120 : digL[120]? = some (.bool false) := by kernel_rfl
def strSz : Value → Nat
  | .string s => s.size
  | _ => 0
set_option maxRecDepth 100000 in
set_option maxHeartbeats 2000000 in
theorem trimR (w : World) (X : Nat) (h50 : w.cell? ⟨X, 50, none⟩ = some (.bool true)) (h49 : w.cell? ⟨X, 49, none⟩ = some (.bool true)) (h120 : w.cell? ⟨X, 120, none⟩ = some (.bool false)) :
    Calls Tryz.prog 129 #[.string ⟨#[120, 49, 50]⟩, .pointer (some ⟨X, 0, none⟩)] w fun e w' => e = .returned (.string ⟨#[120]⟩) ∧ w = w' := by
  have c50 := Lib.hid (Tryz.asciiSet_contains X 50 true w h50)
  have c49 := Lib.hid (Tryz.asciiSet_contains X 49 true w h49)
  have c120 := Lib.hid (Tryz.asciiSet_contains X 120 false w h120)
  clear h50 h49 h120
  go_enter Tryz.func129, Tryz.ntmps129
  go_wp2_with fail
  go_loop [0] (fun v => v = .string ⟨#[120, 49, 50]⟩ ∨ v = .string ⟨#[120, 49]⟩ ∨ v = .string ⟨#[120]⟩) (fun v => strSz v)
  case atStart => exact Or.inl rfl
  case round =>
    rcases hrel with rfl | rfl | rfl
    · go_wp2_with (go_at_call 156; refine c50.out.mono ?_; rintro e w' ⟨rfl, rfl⟩)
      go_round
      case rel => exact Or.inr (Or.inl rfl)
      case measure => decide
    · go_wp2_with (go_at_call 156; refine c49.out.mono ?_; rintro e w' ⟨rfl, rfl⟩)
      go_round
      case rel => exact Or.inr (Or.inr rfl)
      case measure => decide
    · go_wp2_with (go_at_call 156; refine c120.out.mono ?_; rintro e w' ⟨rfl, rfl⟩)
      go_ret
      exact ⟨rfl, rfl⟩
theorem wpList_store_at {P : Program} {ops : Array Oper} {rest : List Oper} {o : Oper} {a : Act} {Q : Exit → Act → World → Prop} {w0 w : World} {ty : TypeId} {Z L : List Value} (hb : Blk w w0.heap.size ty Z) (hk : Kept (fun _ => False) w0 w) (hgd : o.guard = none) (x y : Operand) (ho : o.op = .store ty x y) (hx : a.eval x = .pointer (some ⟨w0.heap.size, 0, none⟩)) (hy : a.eval y = .agg L.toArray)
    (hi : (P.info? ty).map (·.size) = some L.length) (hZ : Z.length = L.length) (h1 : L.toArray.all (·.oneCell') = true)
    (h : ∀ W, Blk W w0.heap.size ty L → Kept (fun _ => False) w0 W → wpList P ops Q rest (a.put o.dst undef) W) : wpList P ops Q (o :: rest) a w := by
  refine wpList_store_mid hgd ty x y ho w0.heap.size 0 L.toArray hx hy ?_ (by simpa using hi) h1 ?_
  · have := hb.there; rw [hZ] at this; simpa using this
  · refine h _ ?_ ?_
    · have := hb.setCells (l' := L) hZ.symm; simpa using this
    · exact hk.setCells (Or.inr (Nat.le_refl _))
theorem dig_blk (w : World) : Blk (w.alloc (.cells Tryz.zeroCells126 126)) w.heap.size 126 Tryz.zeroCells126.toList := by
  have := Blk.new w 126 Tryz.zeroCells126.toList
  rwa [Array.toArray_toList] at this
theorem dig_zl : Tryz.zeroCells126.toList.length = digL.length := by kernel_rfl
set_option maxRecDepth 100000 in
set_option maxHeartbeats 2000000 in
theorem trimRight_x (w : World) : Calls Tryz.prog 81 #[.string ⟨#[120, 49, 50]⟩, .string digS] w fun e w' => e = .returned (.string ⟨#[120]⟩) ∧ Kept (fun _ => False) w w' := by
  have i1 : digS.toList.isEmpty = false := by kernel_rfl
  have i2 : digS.size = 10 := rfl
  have i3 : (digS.toList == []) = false := by kernel_rfl
  have HD := Lib.hid dig_set
  go_enter Tryz.func81, Tryz.ntmps81
  go_wp2_with (first | (go_at_call 128; refine (HD.out _).mono ?_; rintro e w1 ⟨rfl, hw1⟩; have k1 : Kept (fun _ => False) w w1 := (by rw [hw1]; exact (Kept.refl _ _).alloc _); clear hw1) | (refine wpList_store_at (w0 := w1) (L := digL) (dig_blk w1) ((Kept.refl _ _).alloc _) rfl _ _ rfl rfl rfl (by kernel_rfl) dig_zl (by kernel_rfl) ?_; intro W bW kW; have h50 : W.cell? ⟨w1.heap.size, 50, none⟩ = some (.bool true) := (by rw [bW.cell]; exact dig_50); have h49 : W.cell? ⟨w1.heap.size, 49, none⟩ = some (.bool true) := (by rw [bW.cell]; exact dig_49); have h120 : W.cell? ⟨w1.heap.size, 120, none⟩ = some (.bool false) := (by rw [bW.cell]; exact dig_120); have HT := Lib.hid (trimR W w1.heap.size h50 h49 h120)) | (go_at_call 129; refine HT.out.mono ?_; rintro e w' ⟨rfl, rfl⟩))
  go_ret
  exact ⟨rfl, k1.trans kW⟩
def sX12 : ByteArray := ⟨#[120, 49, 50]⟩
def sX1 : ByteArray := ⟨#[120, 49]⟩
def sX2 : ByteArray := ⟨#[120, 50]⟩
theorem fx1 : Lib.containsS (List.take 2 [sX12, sX1]) sX12 = true := by rw [Lib.containsS_iff]; simp [sX12]
theorem fx2 : Lib.containsS (List.take 2 [sX12, sX1]) sX1 = true := by rw [Lib.containsS_iff]; simp [sX1]
theorem fx3 : Lib.containsS (List.take 2 [sX12, sX1]) sX2 = false := by
  cases h : Lib.containsS (List.take 2 [sX12, sX1]) sX2
  · rfl
  · rw [Lib.containsS_iff] at h; simp [sX12, sX1, sX2] at h
theorem fx4 : namedB ⟨#[120, 49, 50]⟩ = true := by kernel_rfl
theorem fx5 : Lib.decDigits 1 = [49] := by unfold Lib.decDigits; rfl
theorem fx6 : Lib.decDigits 2 = [50] := by unfold Lib.decDigits; rfl
theorem fx7 : keywordB ⟨#[120, 49]⟩ = false := by kernel_rfl
theorem fx8 : keywordB ⟨#[120, 50]⟩ = false := by kernel_rfl
set_option maxRecDepth 100000 in
set_option maxHeartbeats 2000000 in
theorem fresh_x (w : World) (g : Nat) (h0 : w.cell? ⟨g, 0, none⟩ = some (.string ⟨#[120, 49, 50]⟩)) (h1 : w.cell? ⟨g, 1, none⟩ = some (.string ⟨#[120, 49]⟩)) :
    Calls Tryz.prog 40 #[.string ⟨#[120, 49, 50]⟩, .slice (some ⟨g, 0, none⟩) 2 2] w fun e w' => e = .returned (.string ⟨#[120, 50]⟩) ∧ Kept (fun _ => False) w w' := by
  have hcl : ∀ W : World, Kept (fun _ => False) w W → ∀ j, j < [sX12, sX1].length → W.cell? ⟨g, 0 + j, none⟩ = some (.string ([sX12, sX1].getD j ByteArray.empty)) := by
    intro W k j hj
    have : j = 0 ∨ j = 1 := by simp at hj; omega
    rcases this with rfl | rfl
    · rw [k.cell (p := ⟨g, 0 + 0, none⟩) (cell_lt h0) (fun h => h)]; exact h0
    · rw [k.cell (p := ⟨g, 0 + 1, none⟩) (cell_lt h1) (fun h => h)]; exact h1
  have cA : Hid (∀ W : World, Kept (fun _ => False) w W → Calls Tryz.prog 80 #[.slice (some ⟨g, 0, none⟩) 2 2, .string ⟨#[120, 49, 50]⟩] W fun e w' => e = .returned (.bool true) ∧ W = w') := Lib.hid (fun W k => (Tryz.slices_Contains_string g 0 2 2 [sX12, sX1] sX12 W (by decide) (by decide) (hcl W k)).mono fun e w' ⟨q1, q2⟩ => ⟨by rw [q1, fx1], q2.symm⟩)
  have cB : Hid (∀ W : World, Kept (fun _ => False) w W → Calls Tryz.prog 80 #[.slice (some ⟨g, 0, none⟩) 2 2, .string ⟨#[120, 49]⟩] W fun e w' => e = .returned (.bool true) ∧ W = w') := Lib.hid (fun W k => (Tryz.slices_Contains_string g 0 2 2 [sX12, sX1] sX1 W (by decide) (by decide) (hcl W k)).mono fun e w' ⟨q1, q2⟩ => ⟨by rw [q1, fx2], q2.symm⟩)
  have cC : Hid (∀ W : World, Kept (fun _ => False) w W → Calls Tryz.prog 80 #[.slice (some ⟨g, 0, none⟩) 2 2, .string ⟨#[120, 50]⟩] W fun e w' => e = .returned (.bool false) ∧ W = w') := Lib.hid (fun W k => (Tryz.slices_Contains_string g 0 2 2 [sX12, sX1] sX2 W (by decide) (by decide) (hcl W k)).mono fun e w' ⟨q1, q2⟩ => ⟨by rw [q1, fx3], q2.symm⟩)
  have HN : Hid (∀ W, Calls Tryz.prog 79 #[.string ⟨#[120, 49, 50]⟩] W fun e w' => e = .returned (.bool true) ∧ W = w') := Lib.hid (fun W => (named_any _ W (by decide)).mono fun e w' ⟨q1, q2⟩ => ⟨by rw [q1, fx4], q2⟩)
  have HT : Hid (∀ W, Calls Tryz.prog 82 #[.string ⟨#[120, 49, 50]⟩, .string ⟨#[39]⟩] W fun e w' => e = .returned (.string ⟨#[120, 49, 50]⟩) ∧ W = w') := Lib.hid (fun W => (Tryz.strings_TrimSuffix _ _ W (by decide)).mono fun e w' ⟨q1, q2⟩ => ⟨by rw [q1]; rfl, q2.symm⟩)
  have HI1 : Hid (∀ W, Calls Tryz.prog 83 #[.int .i64 1] W fun e w' => e = .returned (.string ⟨#[49]⟩) ∧ W = w') := Lib.hid (fun W => (Tryz.strconv_Itoa_small 1 (by decide) W).mono fun e w' ⟨q1, q2⟩ => ⟨by rw [q1, fx5], q2.symm⟩)
  have HI2 : Hid (∀ W, Calls Tryz.prog 83 #[.int .i64 2] W fun e w' => e = .returned (.string ⟨#[50]⟩) ∧ W = w') := Lib.hid (fun W => (Tryz.strconv_Itoa_small 2 (by decide) W).mono fun e w' ⟨q1, q2⟩ => ⟨by rw [q1, fx6], q2.symm⟩)
  have HK1 : Hid (∀ W, Calls Tryz.prog 46 #[.string ⟨#[120, 49]⟩] W fun e w' => e = .returned (.bool false) ∧ W = w') := Lib.hid (fun W => (keyword_any _ W).mono fun e w' ⟨q1, q2⟩ => ⟨by rw [q1, fx7], q2⟩)
  have HK2 : Hid (∀ W, Calls Tryz.prog 46 #[.string ⟨#[120, 50]⟩] W fun e w' => e = .returned (.bool false) ∧ W = w') := Lib.hid (fun W => (keyword_any _ W).mono fun e w' ⟨q1, q2⟩ => ⟨by rw [q1, fx8], q2⟩)
  have HR := Lib.hid trimRight_x
  clear hcl
  go_enter Tryz.func40, Tryz.ntmps40
  go_wp2_with (first | (go_at_call 79; refine (HN.out _).mono ?_; rintro e w' ⟨rfl, rfl⟩) | (go_at_call 80; refine (cA.out w (Kept.refl _ _)).mono ?_; rintro e w' ⟨rfl, rfl⟩) | (go_at_call 82; refine (HT.out _).mono ?_; rintro e w' ⟨rfl, rfl⟩) | (go_at_call 81; refine (HR.out _).mono ?_; rintro e w1 ⟨rfl, k1⟩))
  have hcu : digS = digS := rfl
  go_loop [6] (fun i => i = .int .i64 1 ∨ i = .int .i64 2) (fun i => 2 - (intOf i).toNat)
  case atStart => exact Or.inl rfl
  case round =>
    rcases hrel with rfl | rfl
    · go_wp2_with (first | (go_at_call 83; refine (HI1.out _).mono ?_; rintro e w' ⟨rfl, rfl⟩) | (go_at_call 46; refine (HK1.out _).mono ?_; rintro e w' ⟨rfl, rfl⟩) | (go_at_call 80; refine (cB.out w1 k1).mono ?_; rintro e w' ⟨rfl, rfl⟩))
      go_round
      case rel => exact Or.inr rfl
      case measure => decide
    · go_wp2_with (first | (go_at_call 83; refine (HI2.out _).mono ?_; rintro e w' ⟨rfl, rfl⟩) | (go_at_call 46; refine (HK2.out _).mono ?_; rintro e w' ⟨rfl, rfl⟩) | (go_at_call 80; refine (cC.out w1 k1).mono ?_; rintro e w' ⟨rfl, rfl⟩))
      go_ret
      exact ⟨rfl, k1⟩
def awkS : ByteArray := ⟨#[120, 32, 43, 32, 49, 32, 60, 61, 32, 99, 97, 114, 100, 40, 115, 41]⟩
def awX : Tm := .mk 20 ⟨#[120]⟩ 0 ty0 []
def aw1 : Tm := .mk 19 nil0 1 ty0 []
def awS : Tm := .mk 20 ⟨#[115]⟩ 0 ty0 []
def awAdd : Tm := nd 22 [awX, aw1]
def awCard : Tm := nd 47 [awS]
def awT : Tm := nd 13 [awAdd, awCard]
theorem awk_T : parseT 300 awkS = awT := by kernel_rfl
theorem awk_A : parseA 300 awkS = 0 := by kernel_rfl
theorem awk_E : parseE 300 awkS = 0 := by kernel_rfl
theorem awk_V : validB awT = true := by kernel_rfl
def awOut : List UInt8 := [40, 120, 32, 43, 32, 49, 41, 32, 60, 61, 32, 99, 97, 114, 100, 40, 115, 41]
theorem pc_x : PC awX [120] := pt_name (nm := ⟨#[120]⟩) (N := 0) (ty := ty0) (kl := [])
theorem pc_s : PC awS [115] := pt_name (nm := ⟨#[115]⟩) (N := 0) (ty := ty0) (kl := [])
theorem pc_1 : PC aw1 [49] := pt_int (nm := nil0) (N := 1) (ty := ty0) (kl := []) (ds := ⟨#[49]⟩) (fun W => (Tryz.strconv_Itoa_small 1 (by decide) W).mono fun e w' ⟨q1, q2⟩ => ⟨by rw [q1, fx5], q2.symm⟩)
theorem oc_x : OC awX [120] := by
  have h := operand_any pc_x
  rw [show parS awX.op [120] = [120] by kernel_rfl] at h
  exact h
theorem oc_1 : OC aw1 [49] := by
  have h := operand_any pc_1
  rw [show parS aw1.op [49] = [49] by kernel_rfl] at h
  exact h
theorem pc_add : PC awAdd [120, 32, 43, 32, 49] := pt_bin (t := awAdd) rfl (by kernel_rfl) oc_x oc_1
theorem oc_add : OC awAdd [40, 120, 32, 43, 32, 49, 41] := by
  have h := operand_any pc_add
  rw [show parS awAdd.op [120, 32, 43, 32, 49] = [40, 120, 32, 43, 32, 49, 41] by kernel_rfl] at h
  exact h
theorem pc_kid : ∀ i (h : i < [awS].length), PC [awS][i] ((fun _ => [115] : Nat → List UInt8) i) := by
  intro i h
  have h1 : i = 0 := by have : i < 1 := h; omega
  subst h1
  exact pc_s
theorem pc_card : PC awCard [99, 97, 114, 100, 40, 115, 41] := pt_card (nm := nil0) (N := 0) (ty := ty0) (kl := [awS]) (list_one (kl := [awS]) (O := fun _ => [115]) pc_kid (by decide))
theorem oc_card : OC awCard [99, 97, 114, 100, 40, 115, 41] := by
  have h := operand_any pc_card
  rw [show parS awCard.op [99, 97, 114, 100, 40, 115, 41] = [99, 97, 114, 100, 40, 115, 41] by kernel_rfl] at h
  exact h
theorem pc_aw : PC awT awOut := pt_bin (t := awT) rfl (by kernel_rfl) oc_add oc_card
theorem sm_aw : SmTm big awT := by
  have h0 : ∀ (n : ByteArray), n.size ≤ big → ∀ (o i : Int), SmTm big (.mk o n i ty0 []) := fun n hn o i => .mk hn (sm_ty0 _) (fun k h => by cases h)
  exact sm_nd (all2 (sm_nd (all2 (h0 _ (by decide) _ _) (h0 _ (by decide) _ _))) (sm_nd (all1 (h0 _ (by decide) _ _))))
set_option maxRecDepth 100000 in
set_option maxHeartbeats 4000000 in
theorem awake_any (w : World) (hgl : Gl w) : Calls Tryz.prog 14 #[] w fun e w' => e = .returned (.bool true) ∧ Kept (fun _ => False) w w' := by
  have HP : Hid (Calls Tryz.prog 11 #[.string ⟨#[120, 32, 43, 32, 49, 32, 60, 61, 32, 99, 97, 114, 100, 40, 115, 41]⟩] w fun e w' => ∃ tv, e = .returned (.tuple #[tv, .int .i64 0, .int .i64 0]) ∧ VTm w.heap.size awT w' tv ∧ Kept (fun _ => False) w w') := Lib.hid ((parse_any (f := 300) (s := awkS) (by decide) (by decide) hgl).mono fun e w' ⟨tv, h1, h2, h3⟩ => ⟨tv, by rw [h1, awk_A, awk_E], by rw [← awk_T]; exact h2, h3⟩)
  go_enter Tryz.func14, Tryz.ntmps14
  go_wp2_with fail
  refine HP.out.mono ?_
  rintro e w1 ⟨tv, rfl, ⟨tk, kk, rfl, hty, htm⟩, k1⟩
  obtain ⟨ta, tn, tc, rfl⟩ := hty.slice
  obtain ⟨ma, mn, mc, rfl⟩ := htm.slice
  have hmn : mn = 2 := htm.len
  subst hmn
  have HF : Hid (Calls Tryz.prog 21 #[.agg #[.int .i64 13, .string nil0, .int .i64 0, .int .i64 0, .string ⟨#[]⟩, .slice ta tn tc, .slice ma 2 mc]] (w1.alloc (.cells #[.int .i64 13, .string nil0, .int .i64 0, .int .i64 0, .string ⟨#[]⟩, .slice ta tn tc, .slice ma 2 mc] 27)) fun e w' => e = .returned (.string ⟨awOut.toArray⟩) ∧ Kept (fun _ => False) (w1.alloc (.cells #[.int .i64 13, .string nil0, .int .i64 0, .int .i64 0, .string ⟨#[]⟩, .slice ta tn tc, .slice ma 2 mc] 27)) w') := Lib.hid (format_ok (t := awT) (hty.frame (Same.alloc w1 _)) (htm.frame (Same.alloc w1 _)) pc_aw awk_V sm_aw (by decide) (by decide))
  have K1 : Kept (fun _ => False) w (w1.alloc (.cells #[.int .i64 13, .string nil0, .int .i64 0, .int .i64 0, .string ⟨#[]⟩, .slice ta tn tc, .slice ma 2 mc] 27)) := k1.alloc _
  clear hty htm
  have htv : tmVal awT (.slice ta tn tc) (.slice ma 2 mc) = .agg #[.int .i64 13, .string nil0, .int .i64 0, .int .i64 0, .string ⟨#[]⟩, .slice ta tn tc, .slice ma 2 mc] := rfl
  rw [htv]
  clear htv
  have HN : Hid (nil0 = ⟨#[]⟩) := Lib.hid rfl
  generalize nil0 = nl at *
  go_wp2_with fail
  refine HF.out.mono ?_
  rintro e w2 ⟨rfl, k2⟩
  have K2 := K1.trans k2
  have e1 : ((⟨awOut.toArray⟩ : ByteArray).toList == [40, 120, 32, 43, 32, 49, 41, 32, 60, 61, 32, 99, 97, 114, 100, 40, 115, 41]) = true := by kernel_rfl
  generalize (⟨awOut.toArray⟩ : ByteArray) = ao at *
  have bS : Blk (w2.alloc (.cells #[.string ⟨#[120, 49, 50]⟩, .string ⟨#[120, 49]⟩] 9)) w2.heap.size 9 [.string ⟨#[120, 49, 50]⟩, .string ⟨#[120, 49]⟩] := Blk.new w2 9 _
  have HX := Lib.hid (fresh_x _ w2.heap.size (bS.cell 0) (bS.cell 1))
  go_wp2_with fail
  refine HX.out.mono ?_
  rintro e w3 ⟨rfl, k3⟩
  go_wp2_with fail
  go_ret
  exact ⟨rfl, (K2.alloc _).trans k3⟩
end Go.Proofs.YtckjlliobebodaaGreatDoor
namespace Go.Proofs.YtckjlliobebodaaGreatDoor
open Go.ChangeShapes Go.WideShapes Go.ChangeAt Go.RowKit
def litV : DataW Unit → Value
  | .lit (.int k n) => .int k n
  | _ => undef
def flat1 : DataW Unit → List Value
  | .agg l => l.map litV
  | _ => []
def flat2 : DataW Unit → List Value
  | .agg l => (l.map flat1).flatten
  | _ => []
abbrev ranS : ByteArray := { data := #[118, 97, 108, 117, 101, 32, 111, 117, 116, 32, 111, 102, 32, 114, 97, 110, 103, 101] }
abbrev synS : ByteArray := { data := #[105, 110, 118, 97, 108, 105, 100, 32, 115, 121, 110, 116, 97, 120] }
noncomputable def low0 : Nat := (World.holding Tryz.prog default ⟨#[], #[], []⟩).heap.size
def putC (c : Array Value) : Obj → Obj
  | .cells _ t frozen => .cells c t frozen
  | o => o
noncomputable def laidWorld (os : Os) : World :=
  let w0 := World.holding Tryz.prog os ⟨#[.cells #[.string synS] 177, .cells #[.string ranS] 177], #[], []⟩
  { w0 with heap := ((((((w0.heap.modify 0 (putC #[.iface 175 (.pointer (some ⟨low0, 0, none⟩))])).modify 1 (putC #[.iface 175 (.pointer (some ⟨low0 + 1, 0, none⟩))])).modify 2 (putC (flat1 Rows.laid_internal_strconv_uint64pow10).toArray)).modify 3 (putC (flat1 Rows.laid_unicode_utf8_first).toArray)).modify 4 (putC (flat2 Rows.laid_unicode_utf8_acceptRanges).toArray)).modify 6 (putC (flat1 Rows.laid_math_bits_deBruijn32tab).toArray)).modify 7 (putC (flat1 Rows.laid_math_bits_deBruijn64tab).toArray) }
theorem own0 : ownKnob Tryz.prog.godebug = none := by kernel_rfl
theorem gSyn : Tryz.prog.globalNamed "strconv.ErrSyntax" = some 0 := by kernel_rfl
theorem gRan : Tryz.prog.globalNamed "strconv.ErrRange" = some 1 := by kernel_rfl
theorem gSynT : (Tryz.prog.globals[0]?).map (·.type) = some 100 := by kernel_rfl
theorem gRanT : (Tryz.prog.globals[1]?).map (·.type) = some 100 := by kernel_rfl
theorem cells177 : Tryz.prog.cellsOf 177 = 1 := by kernel_rfl
theorem cells9 : Tryz.prog.cellsOf 9 = 1 := by kernel_rfl
theorem star0 : "*" ++ "errors.errorString" = "*errors.errorString" := by decide
theorem row175 (u : TypeId) (h : Tryz.prog.typeName? 3 u = some "*errors.errorString") : u = 175 :=
  typeName_ptr_named (nm := "errors.errorString") (by rw [star0]; kernel_rfl) (by kernel_rfl) (by decide) u (by rw [star0]; exact h)
def EsOk (w : World) (e : Ending) (w' : World) : Prop := e = .returned (.bool true) ∧ Kept (fun _ => False) w w'
theorem gl_of_laid {W : World} (h : laidMetH Tryz.prog Rows.termErrorStaysRow.laid W) : Gl W := by
  have h0 : laidMet Tryz.prog Rows.termErrorStaysRow.laid W := h
  have h4 := h0.tail.tail.tail.tail
  obtain ⟨a1, s1, hv1, _⟩ := laid_sentinel h4 gRan gRanT Tryz.underlying100 row175 Tryz.underlying175 Tryz.underlying177 rfl rfl Tryz.underlying9 cells177 cells9
  obtain ⟨a0, s0, hv0, _⟩ := laid_sentinel h4.tail gSyn gSynT Tryz.underlying100 row175 Tryz.underlying175 Tryz.underlying177 rfl rfl Tryz.underlying9 cells177 cells9
  exact ⟨⟨175, _, by simpa using World.var?_cell gSyn hv0 0⟩, ⟨175, _, by simpa using World.var?_cell gRan hv1 0⟩⟩
theorem keptBut_of_kept {w w' : World} (h : Kept (fun _ => False) w w') (may : MemPlace → Prop) : w.keptBut w' may := by
  refine ⟨h.os, h.output, fun i hi => ?_⟩
  have := (World.keptBut_refl w may).2.2 i hi
  rw [h.block i hi (fun h => h)]
  exact this
end Go.Proofs.YtckjlliobebodaaGreatDoor
namespace Go.Proofs.YtckjlliobebodaaGreatDoor
open Go.RowKit
section
variable {H : Type} {enc : TypeId × Value → H} {w : World} {spare : Nat → Bool} {held : Bool}
theorem cells_3 : Tryz.prog.cellsOf 3 = 1 := by kernel_rfl
theorem cells_9 : Tryz.prog.cellsOf 9 = 1 := by kernel_rfl
theorem cells_22 : Tryz.prog.cellsOf 22 = 1 := by kernel_rfl
theorem cells_24 : Tryz.prog.cellsOf 24 = 3 := by kernel_rfl
theorem cells_25 : Tryz.prog.cellsOf 25 = 1 := by kernel_rfl
theorem cells_27 : Tryz.prog.cellsOf 27 = 7 := by kernel_rfl
theorem at_some {α : Type} {x : Option α} {l : List α} {i : Nat} (h : x = l[i]?) (hi : i < l.length) : ∃ y, x = some y := ⟨l[i], by rw [h, List.getElem?_eq_getElem hi]⟩
theorem cell_plain {a : Addr} {v : Value} (h : w.cell? a = some v) : a = ⟨a.block, a.off, none⟩ := by
  obtain ⟨b, o, sp⟩ := a
  cases sp with
  | none => rfl
  | some k =>
    unfold World.cell? at h
    cases hb : w.heap[b]? with
    | none => simp [hb] at h
    | some ob => cases ob <;> simp [hb] at h
theorem add_plain (b o n : Nat) : (⟨b, o, none⟩ : Addr).add n = ⟨b, o + n, none⟩ := by unfold Addr.add; split <;> simp_all
theorem add_zero (a : Addr) : a.add 0 = a := rfl
theorem elems_at {α : Type} {a : Addr} {len k : Nat} {f : List Value → Option α} {elems : List α} (hl : elems.length = len) (hk : 0 < k) (h : ∀ i, i < len → (w.cells? 0 (a.add (i * k)) k).bind f = elems[i]?) (h0 : 0 < len) :
    ∃ b o, a = ⟨b, o, none⟩ ∧ ∀ i, i < len → ∃ cs y, cs.length = k ∧ (∀ j, j < k → w.cell? ⟨b, o + i * k + j, none⟩ = cs[j]?) ∧ f cs = some y := by
  have hc : ∀ i, i < len → ∃ cs y, w.cells? 0 (a.add (i * k)) k = some cs ∧ f cs = some y := by
    intro i hi
    obtain ⟨y, hy⟩ := at_some (h i hi) (by omega)
    obtain ⟨cs, h1, h2⟩ := Option.bind_eq_some_iff.1 hy
    exact ⟨cs, y, h1, h2⟩
  obtain ⟨cs, y, h1, h2⟩ := hc 0 h0
  obtain ⟨_, hl', hcell⟩ := World.cells?_some h1
  have h3 := hcell 0 hk
  rw [Nat.zero_mul, add_zero, add_zero, List.getElem?_eq_getElem (by omega)] at h3
  have ha := cell_plain h3
  refine ⟨a.block, a.off, ha, fun i hi => ?_⟩
  obtain ⟨cs, y, h1, h2⟩ := hc i hi
  obtain ⟨_, hl', hcell⟩ := World.cells?_some h1
  refine ⟨cs, y, hl', fun j hj => ?_, h2⟩
  rw [← hcell j hj]
  rw [ha, add_plain, add_plain]
theorem list3 {α : Type} {l : List α} (h : l.length = 3) : ∃ a b c, l = [a, b, c] := by
  match l, h with
  | [a, b, c], _ => exact ⟨a, b, c, rfl⟩
theorem list7 {α : Type} {l : List α} (h : l.length = 7) : ∃ a b c d e f g, l = [a, b, c, d, e, f, g] := by
  match l, h with
  | [a, b, c, d, e, f, g], _ => exact ⟨a, b, c, d, e, f, g, rfl⟩
theorem open_ty (fuel : Nat) : ∀ {cs : List Value} {x : DataW H × List MemPlace}, DataW.trod enc Tryz.prog w 0 spare held fuel 24 cs = some x →
    ∃ (t : Ty) (tk : Value), cs = [.int .i64 t.kind, .string t.name, tk] ∧ TyL (fun _ => True) w t.kids tk ∧ SmTy big t := by
  induction fuel using Nat.strongRecOn with
  | _ fuel ih =>
    intro cs x h
    obtain ⟨xs, n, rfl, -, hlen, hxl, hf⟩ := DataW.trod_struct Tryz.underlying24 h
    rw [cells_24] at hlen
    obtain ⟨c0, c1, c2, rfl⟩ := list3 hlen
    have hx3 : xs.length = 3 := hxl
    obtain ⟨y0, e0⟩ := at_some (hf 0 _ rfl) (by omega)
    obtain ⟨y1, e1⟩ := at_some (hf 1 _ rfl) (by omega)
    obtain ⟨y2, e2⟩ := at_some (hf 2 _ rfl) (by omega)
    have e0 : DataW.trod enc Tryz.prog w 0 spare held n 3 ((([c0, c1, c2] : List Value).drop 0).take (Tryz.prog.cellsOf 3)) = some y0 := e0
    have e1 : DataW.trod enc Tryz.prog w 0 spare held n 9 ((([c0, c1, c2] : List Value).drop 1).take (Tryz.prog.cellsOf 9)) = some y1 := e1
    have e2 : DataW.trod enc Tryz.prog w 0 spare held n 22 ((([c0, c1, c2] : List Value).drop 2).take (Tryz.prog.cellsOf 22)) = some y2 := e2
    rw [cells_3] at e0
    rw [cells_9] at e1
    rw [cells_22] at e2
    obtain ⟨k, hk, -, -⟩ := DataW.trod_int Tryz.underlying3 e0
    obtain ⟨s, hs, -, hsz⟩ := DataW.trod_string Tryz.underlying9 e1
    obtain rfl : c0 = _ := List.head_eq_of_cons_eq hk
    obtain rfl : c1 = _ := List.head_eq_of_cons_eq hs
    have hsz : s.size ≤ big := by unfold maxLen at hsz; unfold big; omega
    rcases DataW.trod_slice Tryz.underlying22 e2 with ⟨hc, -⟩ | ⟨a, len, cap, elems, rest, m, rfl, hc, -, -, hl, hm, hel, helt, -, -⟩
    · obtain rfl : c2 = _ := List.head_eq_of_cons_eq hc
      exact ⟨.mk k s [], _, rfl, .nil (Or.inl rfl), .mk hsz (fun t h => by cases h)⟩
    · obtain rfl : c2 = _ := List.head_eq_of_cons_eq hc
      by_cases h0 : len = 0
      · subst h0
        exact ⟨.mk k s [], _, rfl, .nil (Or.inr ⟨_, _, rfl⟩), .mk hsz (fun t h => by cases h)⟩
      · rw [cells_24] at helt
        obtain ⟨b, o, rfl, hat⟩ := elems_at hel (by decide) helt (by omega)
        have iTy : Inhabited (Ty × Value) := ⟨(ty0, .slice none 0 0)⟩
        obtain ⟨F, hF⟩ := Go.Deep.choose_lt (α := Ty × Value) (n := len) (p := fun i q => (w.cell? ⟨b, o + i * 3, none⟩ = some (.int .i64 q.1.kind) ∧ w.cell? ⟨b, o + i * 3 + 1, none⟩ = some (.string q.1.name) ∧ w.cell? ⟨b, o + i * 3 + 2, none⟩ = some q.2) ∧ TyL (fun _ => True) w q.1.kids q.2 ∧ SmTy big q.1) (fun i hi => by
          obtain ⟨cs, y, hcl, hcell, hy⟩ := hat i hi
          obtain ⟨t, tk, rfl, ht, hst⟩ := ih m (by omega) hy
          exact ⟨(t, tk), ⟨hcell 0 (by decide), hcell 1 (by decide), hcell 2 (by decide)⟩, ht, hst⟩)
        have hlen2 : ((List.range len).map fun i => (F i).1).length = len := by simp
        have hget : ∀ i (h : i < ((List.range len).map fun i => (F i).1).length), ((List.range len).map fun i => (F i).1)[i] = (F i).1 := by intro i h; simp
        have hT : TyL (fun _ => True) w ((List.range len).map fun i => (F i).1) (.slice (some ⟨b, o, none⟩) ((List.range len).map fun i => (F i).1).length cap) := by
          refine TyL.mk (fun i => (F i).2) (by intro e; rw [e] at hlen2; simp at hlen2; omega) trivial (by omega) (fun i h => ?_) (fun i h => ?_)
          · rw [hget i h]; exact (hF i (by omega)).1
          · rw [hget i h]; exact (hF i (by omega)).2.1
        rw [hlen2] at hT
        refine ⟨.mk k s ((List.range len).map fun i => (F i).1), _, rfl, hT, .mk hsz (fun t ht => ?_)⟩
        obtain ⟨i, hi, rfl⟩ := List.mem_map.1 ht
        exact (hF i (List.mem_range.1 hi)).2.2
theorem open_tm (fuel : Nat) : ∀ {cs : List Value} {x : DataW H × List MemPlace}, DataW.trod enc Tryz.prog w 0 spare held fuel 27 cs = some x →
    ∃ (t : Tm) (tk kk : Value), cs = tmCells t tk kk ∧ TyL (fun _ => True) w t.ty.kids tk ∧ TmL (fun _ => True) w t.kids kk ∧ SmTm big t := by
  induction fuel using Nat.strongRecOn with
  | _ fuel ih =>
    intro cs x h
    obtain ⟨xs, n, rfl, -, hlen, hxl, hf⟩ := DataW.trod_struct Tryz.underlying27 h
    rw [cells_27] at hlen
    obtain ⟨c0, c1, c2, c3, c4, c5, c6, rfl⟩ := list7 hlen
    have hx3 : xs.length = 5 := hxl
    obtain ⟨y0, e0⟩ := at_some (hf 0 _ rfl) (by omega)
    obtain ⟨y1, e1⟩ := at_some (hf 1 _ rfl) (by omega)
    obtain ⟨y2, e2⟩ := at_some (hf 2 _ rfl) (by omega)
    obtain ⟨y3, e3⟩ := at_some (hf 3 _ rfl) (by omega)
    obtain ⟨y4, e4⟩ := at_some (hf 4 _ rfl) (by omega)
    have e0 : DataW.trod enc Tryz.prog w 0 spare held n 3 ((([c0, c1, c2, c3, c4, c5, c6] : List Value).drop 0).take (Tryz.prog.cellsOf 3)) = some y0 := e0
    have e1 : DataW.trod enc Tryz.prog w 0 spare held n 9 ((([c0, c1, c2, c3, c4, c5, c6] : List Value).drop 1).take (Tryz.prog.cellsOf 9)) = some y1 := e1
    have e2 : DataW.trod enc Tryz.prog w 0 spare held n 3 ((([c0, c1, c2, c3, c4, c5, c6] : List Value).drop 2).take (Tryz.prog.cellsOf 3)) = some y2 := e2
    have e3 : DataW.trod enc Tryz.prog w 0 spare held n 24 ((([c0, c1, c2, c3, c4, c5, c6] : List Value).drop 3).take (Tryz.prog.cellsOf 24)) = some y3 := e3
    have e4 : DataW.trod enc Tryz.prog w 0 spare held n 25 ((([c0, c1, c2, c3, c4, c5, c6] : List Value).drop 6).take (Tryz.prog.cellsOf 25)) = some y4 := e4
    rw [cells_3] at e0 e2
    rw [cells_9] at e1
    rw [cells_24] at e3
    rw [cells_25] at e4
    obtain ⟨k, hk, -, -⟩ := DataW.trod_int Tryz.underlying3 e0
    obtain ⟨s, hs, -, hsz⟩ := DataW.trod_string Tryz.underlying9 e1
    obtain ⟨N, hN, -, -⟩ := DataW.trod_int Tryz.underlying3 e2
    obtain ⟨ty, tk, hty, htl, hts⟩ := open_ty n e3
    obtain rfl : c0 = _ := List.head_eq_of_cons_eq hk
    obtain rfl : c1 = _ := List.head_eq_of_cons_eq hs
    obtain rfl : c2 = _ := List.head_eq_of_cons_eq hN
    have hty : [c3, c4, c5] = [.int .i64 ty.kind, .string ty.name, tk] := hty
    simp only [List.cons.injEq, and_true] at hty
    obtain ⟨rfl, rfl, rfl⟩ := hty
    have hsz : s.size ≤ big := by unfold maxLen at hsz; unfold big; omega
    rcases DataW.trod_slice Tryz.underlying25 e4 with ⟨hc, -⟩ | ⟨a, len, cap, elems, rest, m, rfl, hc, -, -, hl, hm, hel, helt, -, -⟩
    · obtain rfl : c6 = _ := List.head_eq_of_cons_eq hc
      exact ⟨.mk k s N ty [], _, _, rfl, htl, .nil (Or.inl rfl), .mk hsz hts (fun t h => by cases h)⟩
    · obtain rfl : c6 = _ := List.head_eq_of_cons_eq hc
      by_cases h0 : len = 0
      · subst h0
        exact ⟨.mk k s N ty [], _, _, rfl, htl, .nil (Or.inr ⟨_, _, rfl⟩), .mk hsz hts (fun t h => by cases h)⟩
      · rw [cells_27] at helt
        obtain ⟨b, o, rfl, hat⟩ := elems_at hel (by decide) helt (by omega)
        have iTm : Inhabited (Tm × Value × Value) := ⟨(.mk 0 ⟨#[]⟩ 0 ty0 [], .slice none 0 0, .slice none 0 0)⟩
        obtain ⟨F, hF⟩ := Go.Deep.choose_lt (α := Tm × Value × Value) (n := len) (p := fun i q => (w.cell? ⟨b, o + i * 7, none⟩ = some (.int .i64 q.1.op) ∧ w.cell? ⟨b, o + i * 7 + 1, none⟩ = some (.string q.1.name) ∧ w.cell? ⟨b, o + i * 7 + 2, none⟩ = some (.int .i64 q.1.n) ∧ w.cell? ⟨b, o + i * 7 + 3, none⟩ = some (.int .i64 q.1.ty.kind) ∧ w.cell? ⟨b, o + i * 7 + 4, none⟩ = some (.string q.1.ty.name) ∧ w.cell? ⟨b, o + i * 7 + 5, none⟩ = some q.2.1 ∧ w.cell? ⟨b, o + i * 7 + 6, none⟩ = some q.2.2) ∧ TyL (fun _ => True) w q.1.ty.kids q.2.1 ∧ TmL (fun _ => True) w q.1.kids q.2.2 ∧ SmTm big q.1) (fun i hi => by
          obtain ⟨cs, y, hcl, hcell, hy⟩ := hat i hi
          obtain ⟨t, tk, kk, rfl, ht, hm, hst⟩ := ih m (by omega) hy
          exact ⟨(t, tk, kk), ⟨hcell 0 (by decide), hcell 1 (by decide), hcell 2 (by decide), hcell 3 (by decide), hcell 4 (by decide), hcell 5 (by decide), hcell 6 (by decide)⟩, ht, hm, hst⟩)
        have hlen2 : ((List.range len).map fun i => (F i).1).length = len := by simp
        have hget : ∀ i (h : i < ((List.range len).map fun i => (F i).1).length), ((List.range len).map fun i => (F i).1)[i] = (F i).1 := by intro i h; simp
        have hT : TmL (fun _ => True) w ((List.range len).map fun i => (F i).1) (.slice (some ⟨b, o, none⟩) ((List.range len).map fun i => (F i).1).length cap) := by
          refine TmL.mk (fun i => (F i).2.1) (fun i => (F i).2.2) (by intro e; rw [e] at hlen2; simp at hlen2; omega) trivial (by omega) (fun i h => ?_) (fun i h => ?_) (fun i h => ?_)
          · rw [hget i h]; exact (hF i (by omega)).1
          · rw [hget i h]; exact (hF i (by omega)).2.1
          · rw [hget i h]; exact (hF i (by omega)).2.2.1
        rw [hlen2] at hT
        refine ⟨.mk k s N ty ((List.range len).map fun i => (F i).1), _, _, rfl, htl, hT, .mk hsz hts (fun t ht => ?_)⟩
        obtain ⟨i, hi, rfl⟩ := List.mem_map.1 ht
        exact (hF i (List.mem_range.1 hi)).2.2.2
end
theorem ba_tl (y : ByteArray) : y.toList = y.data.toList := by rw [Go.ByteArray.toList_eq]
theorem bno {b : Bool} (h : b = false) : ¬ b = true := by rw [h]; simp
structure TK where
  k : Int
  tx : ByteArray
  n : Int
def tkS (x : ByteArray) : TK := ⟨3, x, 0⟩
def tkW (x : ByteArray) : TK := ⟨1, x, 0⟩
def tkN (n : Int) : TK := ⟨2, ⟨#[]⟩, n⟩
inductive LexS (s : ByteArray) : Nat → List TK → Prop
  | nil {p : Nat} (hp : p ≤ s.size) (h : skip s p = s.size) : LexS s p []
  | cons {p q : Nat} {t : TK} {L : List TK} (hp : p ≤ s.size) (h : tokAt s (skip s p) = some (q, t.k, t.tx, t.n)) (hk : t.k ≠ 0) (hl : LexS s q L) : LexS s p (t :: L)
theorem LexS.le {s : ByteArray} {p : Nat} {L : List TK} (h : LexS s p L) : p ≤ s.size := by cases h <;> assumption
def AtT (s : ByteArray) (σ : PS) (L : List TK) : Prop := σ.nest ≤ 64 ∧ match L with
  | [] => σ.p ≤ s.size ∧ σ.k = 0
  | t :: L => σ.k = t.k ∧ σ.tx = t.tx ∧ σ.n = t.n ∧ t.k ≠ 0 ∧ LexS s σ.p L
theorem AtT.le {s : ByteArray} {σ : PS} {L : List TK} (h : AtT s σ L) : σ.p ≤ s.size := by
  cases L with
  | nil => exact h.2.1
  | cons t L => exact h.2.2.2.2.2.le
theorem AtT.tx {s : ByteArray} {σ : PS} {t : TK} {L : List TK} (h : AtT s σ (t :: L)) : σ.tx = t.tx := h.2.2.1
theorem AtT.k {s : ByteArray} {σ : PS} {t : TK} {L : List TK} (h : AtT s σ (t :: L)) : σ.k = t.k := h.2.1
theorem AtT.nested {s : ByteArray} {σ : PS} {L : List TK} (h : AtT s σ L) (m : Nat) (hm : m ≤ 64) : AtT s { σ with nest := m } L := by
  cases L with
  | nil => exact ⟨hm, h.2⟩
  | cons t L => exact ⟨hm, h.2⟩
theorem adv_at {s : ByteArray} {σ : PS} {t : TK} {L : List TK} (h : AtT s σ (t :: L)) : ∃ σ', advS s σ = .ok σ' ∧ AtT s σ' L ∧ σ'.nest = σ.nest ∧ mu s σ' < mu s σ := by
  have hp := h.le
  obtain ⟨h0, h1, h2, h3, h4, h5⟩ := h
  have fin : ∀ σ', advS s σ = .ok σ' → AtT s σ' L → ∃ σ', advS s σ = .ok σ' ∧ AtT s σ' L ∧ σ'.nest = σ.nest ∧ mu s σ' < mu s σ := fun σ' e ha => ⟨σ', e, ha, adv_nest e, mu_adv hp (by rw [h1]; exact h4) e⟩
  cases h5 with
  | nil hp hs =>
    have e : tokAt s (skip s σ.p) = some (s.size, 0, ⟨#[]⟩, 0) := by rw [hs]; unfold tokAt; rw [dif_neg (by omega)]
    refine fin ⟨s.size, 0, ⟨#[]⟩, 0, skip s σ.p, σ.nest⟩ (by unfold advS; rw [e]) ⟨h0, Nat.le_refl _, rfl⟩
  | cons hp ht hk hl =>
    rename_i q t2 L2
    exact fin ⟨q, t2.k, t2.tx, t2.n, skip s σ.p, σ.nest⟩ (by unfold advS; rw [ht]) ⟨h0, rfl, rfl, rfl, hk, hl⟩
def isT (t : TK) (x : ByteArray) : Bool := isB t.k t.tx x
def isL : List TK → ByteArray → Bool
  | [], _ => false
  | t :: _, x => isT t x
theorem is_at {s : ByteArray} {σ : PS} {L : List TK} (h : AtT s σ L) (x : ByteArray) : isS σ x = isL L x := by
  unfold isS
  cases L with
  | nil => rw [h.2.2]; rfl
  | cons t L => rw [h.k, h.tx]; rfl
def nestT (t : TK) : Int := if t.k = 3 then (if t.tx.toList = [40] ∨ t.tx.toList = [91] ∨ t.tx.toList = [123] then 1 else if t.tx.toList = [41] ∨ t.tx.toList = [93] ∨ t.tx.toList = [125] then -1 else 0) else 0
def nst (L : List TK) : Int := (L.map nestT).sum
theorem nst_nil : nst [] = 0 := rfl
theorem nst_cons (t : TK) (L : List TK) : nst (t :: L) = nestT t + nst L := by unfold nst; simp
theorem nst_app (A B : List TK) : nst (A ++ B) = nst A + nst B := by unfold nst; simp
def Deep (m : Int) (L : List TK) : Prop := ∃ A o B, L = A ++ o :: B ∧ nestT o = 1 ∧ m + nst A = 64
theorem Deep.left {m : Int} {A : List TK} (h : Deep m A) (B : List TK) : Deep m (A ++ B) := by
  obtain ⟨P, o, Q, rfl, ho, hn⟩ := h
  exact ⟨P, o, Q ++ B, by simp, ho, hn⟩
theorem Deep.right {m k : Int} {B : List TK} (h : Deep k B) (A : List TK) (hk : k = m + nst A) : Deep m (A ++ B) := by
  obtain ⟨P, o, Q, rfl, ho, hn⟩ := h
  exact ⟨A ++ P, o, Q, by simp, ho, by rw [nst_app]; omega⟩
def RdP (s : ByteArray) (σ : PS) (A L : List TK) (q : Except ER PS) : Prop :=
  (∃ σ', q = .ok σ' ∧ AtT s σ' L ∧ (σ'.nest : Int) = σ.nest + nst A ∧ mu s σ' + A.length ≤ mu s σ) ∨ (Deep σ.nest A ∧ ∃ p, q = .error (true, p))
def RdT {α : Type} (s : ByteArray) (σ : PS) (A L : List TK) (q : Except ER (α × PS)) (a : α) : Prop :=
  (∃ σ', q = .ok (a, σ') ∧ AtT s σ' L ∧ (σ'.nest : Int) = σ.nest + nst A ∧ mu s σ' + A.length ≤ mu s σ) ∨ (Deep σ.nest A ∧ ∃ p, q = .error (true, p))
theorem RdT.done {α : Type} {s : ByteArray} {σ : PS} {L : List TK} {a : α} (h : AtT s σ L) : RdT s σ [] L (.ok (a, σ)) a :=
  Or.inl ⟨σ, rfl, h, by rw [nst_nil]; omega, Nat.le_refl _⟩
theorem RdP.bindT {β : Type} {s : ByteArray} {σ : PS} {A B L : List TK} {q : Except ER PS} {k : PS → Except ER (β × PS)} {b : β} (h : RdP s σ A (B ++ L) q)
    (hk : ∀ σ', AtT s σ' (B ++ L) → (σ'.nest : Int) = σ.nest + nst A → mu s σ' + A.length ≤ mu s σ → RdT s σ' B L (k σ') b) : RdT s σ (A ++ B) L (bP q k) b := by
  rcases h with ⟨σ', rfl, ha, hn, hm⟩ | ⟨hd, p, rfl⟩
  · rcases hk σ' ha hn hm with ⟨σ2, e, ha2, hn2, hm2⟩ | ⟨hd, p, e⟩
    · exact Or.inl ⟨σ2, e, ha2, by rw [nst_app]; omega, by rw [List.length_append]; omega⟩
    · exact Or.inr ⟨hd.right A hn, p, e⟩
  · exact Or.inr ⟨hd.left B, p, rfl⟩
theorem RdT.bindT {α β : Type} {s : ByteArray} {σ : PS} {A B L : List TK} {q : Except ER (α × PS)} {k : α → PS → Except ER (β × PS)} {a : α} {b : β} (h : RdT s σ A (B ++ L) q a)
    (hk : ∀ σ', AtT s σ' (B ++ L) → (σ'.nest : Int) = σ.nest + nst A → mu s σ' + A.length ≤ mu s σ → RdT s σ' B L (k a σ') b) : RdT s σ (A ++ B) L (bT q k) b := by
  rcases h with ⟨σ', rfl, ha, hn, hm⟩ | ⟨hd, p, rfl⟩
  · rcases hk σ' ha hn hm with ⟨σ2, e, ha2, hn2, hm2⟩ | ⟨hd, p, e⟩
    · exact Or.inl ⟨σ2, e, ha2, by rw [nst_app]; omega, by rw [List.length_append]; omega⟩
    · exact Or.inr ⟨hd.right A hn, p, e⟩
  · exact Or.inr ⟨hd.left B, p, rfl⟩
theorem RdT.cast {α : Type} {s : ByteArray} {σ : PS} {A B L : List TK} {q : Except ER (α × PS)} {a : α} (h : RdT s σ A L q a) (e : A = B) : RdT s σ B L q a := e ▸ h
theorem AtT.cast {s : ByteArray} {σ : PS} {A B : List TK} (h : AtT s σ A) (e : A = B) : AtT s σ B := e ▸ h
theorem adv_rd {s : ByteArray} {σ : PS} {t : TK} {L : List TK} (h : AtT s σ (t :: L)) (hn : nestT t = 0) : RdP s σ [t] L (advS s σ) := by
  obtain ⟨σ', e, ha, h1, h2⟩ := adv_at h
  exact Or.inl ⟨σ', e, ha, by rw [nst_cons, nst_nil, hn, h1]; omega, by simp; omega⟩
theorem want_rd {s : ByteArray} {σ : PS} {t : TK} {L : List TK} {x : ByteArray} (h : AtT s σ (t :: L)) (hi : isT t x = true) (hn : nestT t = 0) : RdP s σ [t] L (wantS s σ x) := by
  have e : wantS s σ x = advS s σ := by
    unfold wantS eatS
    rw [if_pos (show isS σ x = true by rw [is_at h]; exact hi)]
    cases advS s σ <;> rfl
  rw [e]; exact adv_rd h hn
def opn (o : ByteArray) : Prop := o = kLpar ∨ o = kLbr ∨ o = kLcu
def cls (c : ByteArray) : Prop := c = kRpar ∨ c = kRbr ∨ c = kRcu
theorem opn_is {o : ByteArray} (h : opn o) : isT (tkS o) o = true ∧ nestT (tkS o) = 1 := by
  rcases h with rfl | rfl | rfl <;> exact ⟨by kernel_rfl, by kernel_rfl⟩
theorem cls_is {o : ByteArray} (h : cls o) : isT (tkS o) o = true ∧ nestT (tkS o) = -1 := by
  rcases h with rfl | rfl | rfl <;> exact ⟨by kernel_rfl, by kernel_rfl⟩
theorem open_rd {s : ByteArray} {σ : PS} {o : ByteArray} {L : List TK} (h : AtT s σ (tkS o :: L)) (ho : opn o) : RdP s σ [tkS o] L (openS s σ o) := by
  obtain ⟨h1, h2⟩ := opn_is ho
  have h64 := h.1
  unfold openS
  rw [if_pos (show isS σ o = true by rw [is_at h]; exact h1)]
  by_cases hn : σ.nest = 64
  · rw [if_pos hn]
    exact Or.inr ⟨⟨[], tkS o, [], rfl, h2, by rw [nst_nil, hn]; rfl⟩, σ.ta, rfl⟩
  · rw [if_neg hn]
    obtain ⟨σ', e, ha, h3, h4⟩ := adv_at (h.nested (σ.nest + 1) (by omega))
    exact Or.inl ⟨σ', e, ha, by rw [nst_cons, nst_nil, h2, h3]; simp, by
      have : mu s { σ with nest := σ.nest + 1 } = mu s σ := rfl
      simp; omega⟩
theorem shut_rd {s : ByteArray} {σ : PS} {c : ByteArray} {L : List TK} (h : AtT s σ (tkS c :: L)) (hc : cls c) (h1 : 1 ≤ σ.nest) : RdP s σ [tkS c] L (shutS s σ c) := by
  obtain ⟨h2, h3⟩ := cls_is hc
  obtain ⟨σ', e, ha, h4, h5⟩ := adv_at h
  have e' : wantS s σ c = .ok σ' := by
    unfold wantS eatS
    rw [if_pos (show isS σ c = true by rw [is_at h]; exact h2), e]
  unfold shutS
  rw [e']
  exact Or.inl ⟨_, rfl, ha.nested _ (by have := ha.1; omega), by rw [nst_cons, nst_nil, h3]; show ((σ'.nest - 1 : Nat) : Int) = _; rw [h4]; omega, by
    have : mu s { σ' with nest := σ'.nest - 1 } = mu s σ' := rfl
    simp; omega⟩
theorem name_rd {s : ByteArray} {σ : PS} {x : ByteArray} {L : List TK} (h : AtT s σ (tkW x :: L)) (hx : identB x = true) : RdT s σ [tkW x] L (nameS s σ) x := by
  obtain ⟨σ', e, ha, h1, h2⟩ := adv_at h
  have ht : σ.tx = x := h.tx
  unfold nameS
  rw [if_pos ⟨h.k, by rw [ht]; exact hx⟩, e]
  exact Or.inl ⟨σ', by rw [ht], ha, by rw [nst_cons, nst_nil, h1]; show _ = _ + ((0 : Int) + 0); omega, by simp; omega⟩
theorem inside_rd {s : ByteArray} {σ : PS} {T : TF} {A L : List TK} {o c : ByteArray} {t : Tm} (ho : opn o) (hc : cls c) (h : AtT s σ ([tkS o] ++ (A ++ [tkS c]) ++ L)) (hA : nst A = 0)
    (hT : ∀ σ1, AtT s σ1 (A ++ (tkS c :: L)) → mu s σ1 + 1 ≤ mu s σ → RdT s σ1 A (tkS c :: L) (T 1 σ1) t) : RdT s σ ([tkS o] ++ (A ++ [tkS c])) L (insideS T s o c σ) t := by
  rw [inside_eq]
  have h2 := (opn_is ho).2
  refine RdP.bindT (open_rd (L := A ++ [tkS c] ++ L) (by simpa using h) ho) (fun σ1 h1 n1 m1 => ?_)
  rw [nst_cons, nst_nil, h2] at n1
  refine RdT.bindT (B := [tkS c]) (hT σ1 (by simpa using h1) (by simpa using m1)) (fun σ2 h2 n2 m2 => ?_)
  have := RdP.bindT (B := []) (L := L) (k := fun σ3 => Except.ok (t, σ3)) (b := t) (shut_rd (by simpa using h2) hc (by omega)) (fun σ3 h3 n3 m3 => RdT.done (by simpa using h3))
  exact this.cast (by simp)
/-! Types. -/
mutual
def tyToks : Ty → List TK
  | .mk k nm l => if k = 1 then [tkW kInt] else if k = 3 then [tkW nm] else if k = 5 then [tkW kSet, tkS kLpar] ++ (tyTokss l).getD 0 [] ++ [tkS kRpar] else if k = 4 then [tkW kPair, tkS kLpar] ++ (tyTokss l).getD 0 [] ++ [tkS kComma] ++ (tyTokss l).getD 1 [] ++ [tkS kRpar] else []
def tyTokss : List Ty → List (List TK)
  | [] => []
  | t :: l => tyToks t :: tyTokss l
end
inductive RdTy : Ty → Prop
  | int : RdTy (.mk 1 ⟨#[]⟩ [])
  | car {nm : ByteArray} (h : identB nm = true) : RdTy (.mk 3 nm [])
  | set {t : Ty} (h : RdTy t) : RdTy (.mk 5 ⟨#[]⟩ [t])
  | pair {t u : Ty} (h : RdTy t) (h' : RdTy u) : RdTy (.mk 4 ⟨#[]⟩ [t, u])
theorem toks_set (t : Ty) (nm : ByteArray) : tyToks (.mk 5 nm [t]) = [tkW kSet] ++ ([tkS kLpar] ++ (tyToks t ++ [tkS kRpar])) := by simp [tyToks, tyTokss]
theorem toks_pair (t u : Ty) (nm : ByteArray) : tyToks (.mk 4 nm [t, u]) = [tkW kPair] ++ ([tkS kLpar] ++ (tyToks t ++ ([tkS kComma] ++ (tyToks u ++ [tkS kRpar])))) := by simp [tyToks, tyTokss]
theorem nest_w (x : ByteArray) : nestT (tkW x) = 0 := rfl
theorem nest_comma : nestT (tkS kComma) = 0 := by kernel_rfl
theorem nest_lpar : nestT (tkS kLpar) = 1 := by kernel_rfl
theorem nest_rpar : nestT (tkS kRpar) = -1 := by kernel_rfl
theorem nest_lbr : nestT (tkS kLbr) = 1 := by kernel_rfl
theorem nest_rbr : nestT (tkS kRbr) = -1 := by kernel_rfl
theorem nest_lcu : nestT (tkS kLcu) = 1 := by kernel_rfl
theorem nest_rcu : nestT (tkS kRcu) = -1 := by kernel_rfl
theorem ty_nst {t : Ty} (h : RdTy t) : nst (tyToks t) = 0 := by
  induction h with
  | int => rfl
  | car h => rfl
  | set h ih => rw [toks_set]; simp only [nst_app, nst_cons, nst_nil, ih, nest_w, nest_lpar, nest_rpar]; rfl
  | pair h h' ih ih' => rw [toks_pair]; simp only [nst_app, nst_cons, nst_nil, ih, ih', nest_w, nest_lpar, nest_rpar, nest_comma]; rfl
theorem ident_kw {x : ByteArray} (h : identB x = true) : keywordB x = false := by
  unfold identB at h
  simp only [Bool.and_eq_true, Bool.not_eq_true'] at h
  exact h.1.2
theorem isT_name {x y : ByteArray} (h : keywordB x = false) (hy : keywordB y = true) : isT (tkW x) y = false := by
  unfold isT isB tkW
  have : (x.toList == y.toList) = false := by
    cases he : (x.toList == y.toList)
    · rfl
    · have e := eq_of_beq he
      unfold keywordB at h hy
      rw [e, hy] at h; cases h
  simp [this]
theorem typed_rd {s : ByteArray} {t : Ty} (h : RdTy t) : ∀ (f : Nat) (σ : PS) (L : List TK), AtT s σ (tyToks t ++ L) → mu s σ < f → RdT s σ (tyToks t) L (typedS f s σ) t := by
  induction h with
  | int =>
    intro f σ L ha hf
    obtain ⟨f, rfl⟩ : ∃ k, f = k + 1 := ⟨f - 1, by omega⟩
    have ha : AtT s σ (tkW kInt :: L) := ha
    rw [typed_eq, if_neg (by rw [ha.tx]; intro q; have : identB kInt = false := by kernel_rfl
                             have q2 := q.2; unfold tkW at q2; simp only at q2; rw [this] at q2; cases q2), if_pos (by rw [is_at ha]; kernel_rfl)]
    exact (RdP.bindT (B := []) (adv_rd ha rfl) fun σ1 h1 _ _ => RdT.done h1)
  | car hi =>
    rename_i nm
    intro f σ L ha hf
    obtain ⟨f, rfl⟩ : ∃ k, f = k + 1 := ⟨f - 1, by omega⟩
    have ha : AtT s σ (tkW nm :: L) := ha
    have htx : σ.tx = nm := ha.tx
    rw [typed_eq, if_pos ⟨ha.k, by rw [htx]; exact hi⟩, htx]
    exact (RdP.bindT (B := []) (adv_rd ha rfl) fun σ1 h1 _ _ => RdT.done h1)
  | set h ih =>
    rename_i t
    intro f σ L ha hf
    obtain ⟨f, rfl⟩ : ∃ k, f = k + 1 := ⟨f - 1, by omega⟩
    rw [toks_set] at ha ⊢
    have hi : ∀ x, isS σ x = isT (tkW kSet) x := fun x => is_at ha x
    have htx : σ.tx = kSet := ha.tx
    rw [typed_eq, if_neg (by rw [htx, show identB kSet = false by kernel_rfl]; intro q; cases q.2), if_neg (by rw [hi, show isT (tkW kSet) kInt = false by kernel_rfl]; simp), if_pos (by rw [hi]; kernel_rfl)]
    unfold setK
    refine RdP.bindT (adv_rd ha rfl) fun σ1 h1 n1 m1 => ?_
    rw [nst_cons, nst_nil, nest_w] at n1
    refine RdP.bindT (open_rd (L := tyToks t ++ [tkS kRpar] ++ L) (by simpa using h1) (Or.inl rfl)) fun σ2 h2 n2 m2 => ?_
    rw [nst_cons, nst_nil, nest_lpar] at n2
    refine RdT.bindT (B := [tkS kRpar]) (ih f σ2 _ (by simpa using h2) (by simp at m1 m2; omega)) fun σ3 h3 n3 m3 => ?_
    rw [ty_nst h] at n3
    exact RdP.bindT (B := []) (shut_rd h3 (Or.inl rfl) (by omega)) fun σ4 h4 _ _ => RdT.done h4
  | pair h h' ih ih' =>
    rename_i t u
    intro f σ L ha hf
    obtain ⟨f, rfl⟩ : ∃ k, f = k + 1 := ⟨f - 1, by omega⟩
    rw [toks_pair] at ha ⊢
    have hi : ∀ x, isS σ x = isT (tkW kPair) x := fun x => is_at ha x
    have htx : σ.tx = kPair := ha.tx
    rw [typed_eq, if_neg (by rw [htx, show identB kPair = false by kernel_rfl]; intro q; cases q.2), if_neg (by rw [hi, show isT (tkW kPair) kInt = false by kernel_rfl]; simp), if_neg (by rw [hi, show isT (tkW kPair) kSet = false by kernel_rfl]; simp), if_pos (by rw [hi]; kernel_rfl)]
    unfold pairK
    refine RdP.bindT (adv_rd ha rfl) fun σ1 h1 n1 m1 => ?_
    rw [nst_cons, nst_nil, nest_w] at n1
    refine RdP.bindT (open_rd (L := tyToks t ++ ([tkS kComma] ++ (tyToks u ++ [tkS kRpar])) ++ L) (by simpa using h1) (Or.inl rfl)) fun σ2 h2 n2 m2 => ?_
    rw [nst_cons, nst_nil, nest_lpar] at n2
    simp at m1 m2
    refine RdT.bindT (ih f σ2 _ (by simpa using h2) (by omega)) fun σ3 h3 n3 m3 => ?_
    rw [ty_nst h] at n3
    refine RdP.bindT (want_rd (L := tyToks u ++ [tkS kRpar] ++ L) (by simpa using h3) (by kernel_rfl) nest_comma) fun σ4 h4 n4 m4 => ?_
    rw [nst_cons, nst_nil, nest_comma] at n4
    simp at m4
    refine RdT.bindT (B := [tkS kRpar]) (ih' f σ4 _ (by simpa using h4) (by omega)) fun σ5 h5 n5 m5 => ?_
    rw [ty_nst h'] at n5
    exact RdP.bindT (B := []) (shut_rd h5 (Or.inl rfl) (by omega)) fun σ6 h6 _ _ => RdT.done h6
end Go.Proofs.YtckjlliobebodaaGreatDoor
