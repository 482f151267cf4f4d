/- levels(): the table of the binary operators as it lies in new memory. -/
import Derived.Test.YtckjlliobebodaaGreatDoorBase
import Derived.Deep.MidRow
namespace Go.Proofs.YtckjlliobebodaaGreatDoor
open Go.RowKit
theorem heap_allocs (os : List Obj) (w : World) (i : Nat) (h : i < os.length) : (os.foldl World.alloc w).heap[w.heap.size + i]? = os[i]? := by
  induction os generalizing w i with
  | nil => simp at h
  | cons o os ih =>
    have hb : ∀ (l : List Obj) (u : World) (k : Nat), k < u.heap.size → (l.foldl World.alloc u).heap[k]? = u.heap[k]? := by
      intro l
      induction l with
      | nil => intro u k _; rfl
      | cons x l ihl =>
        intro u k hk
        rw [List.foldl_cons, ihl (u.alloc x) k (by simp; omega), Below.heap_alloc _ _ _ hk]
    rw [List.foldl_cons]
    cases i with
    | zero =>
      rw [Nat.add_zero, hb os (w.alloc o) w.heap.size (by simp)]
      show (w.heap.push o)[w.heap.size]? = _
      simp
    | succ i =>
      have := ih (w.alloc o) i (by simpa using h)
      rw [show (w.alloc o).heap.size = w.heap.size + 1 by simp] at this
      rw [show w.heap.size + (i + 1) = w.heap.size + 1 + i by omega, this]
      simp
theorem below_allocs (os : List Obj) (w : World) : Below w.heap.size w (os.foldl World.alloc w) := by
  induction os generalizing w with
  | nil => exact Below.refl _ _
  | cons o os ih =>
    rw [List.foldl_cons]
    exact ((Below.refl _ _).alloc (Nat.le_refl _) o).trans ((ih (w.alloc o)).mono (by simp))
theorem heap_setCells (l : List Value) (w : World) (b o : Nat) (k : Nat) (h : k ≠ b) : (w.setCells b o l).heap[k]? = w.heap[k]? := by
  induction l generalizing w o with
  | nil => rfl
  | cons v l ih =>
    rw [World.setCells, ih, Below.heap_setCell _ _ _ _ h]
theorem size_setCells (l : List Value) (w : World) (b o : Nat) : (w.setCells b o l).heap.size = w.heap.size := by
  induction l generalizing w o with
  | nil => rfl
  | cons v l ih => rw [World.setCells, ih]; simp
theorem Blk.setCells_at (l' : List Value) : ∀ {w : World} {b : Nat} {t : TypeId} {l : List Value} (o : Nat), Blk w b t l → o + l'.length ≤ l.length → Blk (w.setCells b o l') b t (l.take o ++ l' ++ l.drop (o + l'.length)) := by
  induction l' with
  | nil => intro w b t l o h _; simpa [World.setCells] using h
  | cons v l' ih =>
    intro w b t l o h ho
    rw [List.length_cons] at ho
    have := ih (o + 1) (h.set o v) (by rw [List.length_set]; omega)
    rw [World.setCells]
    have e : (l.set o v).take (o + 1) ++ l' ++ (l.set o v).drop (o + 1 + l'.length) = l.take o ++ (v :: l') ++ l.drop (o + (v :: l').length) := by
      rw [List.take_set, List.drop_set_of_lt (by omega), List.length_cons, show o + (l'.length + 1) = o + 1 + l'.length by omega]
      congr 1
      rw [List.take_succ_eq_append_getElem (by omega), List.set_append_right _ _ (by simp; omega)]
      simp [Nat.min_eq_left (show o ≤ l.length by omega)]
    rw [← e]
    exact this
theorem Blk.setCells {w : World} {b : Nat} {t : TypeId} {l l' : List Value} (h : Blk w b t l) (hl : l'.length = l.length) : Blk (w.setCells b 0 l') b t l' := by
  have := Blk.setCells_at l' 0 h (by omega)
  simpa [hl] using this
theorem Blk.there {w : World} {b : Nat} {t : TypeId} {l : List Value} (h : Blk w b t l) : w.there b 0 l.length := by
  intro j hj
  rw [Nat.zero_add, h.cell j, List.getElem?_eq_getElem hj]
  exact ⟨rfl, h.frozen j⟩
theorem Blk.rangeAt {w : World} {b : Nat} {t : TypeId} {l : List Value} (h : Blk w b t l) : w.rangeAt b 0 l := by
  intro j v hv
  rw [Nat.zero_add, h.cell j, hv]
theorem Blk.setCells_other {w : World} {b c : Nat} {t : TypeId} {l l' : List Value} {o : Nat} (h : Blk w b t l) (hc : b ≠ c) : Blk (w.setCells c o l') b t l := by
  unfold Blk; rw [heap_setCells _ _ _ _ _ hc]; exact h
theorem Kept.setCells {S : Nat → Prop} {a w : World} {b o : Nat} {l : List Value} (h : Kept S a w) (hp : S b ∨ a.heap.size ≤ b) : Kept S a (w.setCells b o l) := by
  induction l generalizing w o with
  | nil => exact h
  | cons v l ih => rw [World.setCells]; exact ih (h.setCell hp v)
def lvTab : List (Int × List ByteArray × List Int) := [(0, [], []), (0, [⟨#[60, 61, 62]⟩], [7]), (2, [⟨#[61, 62]⟩], [6]), (1, [⟨#[111, 114]⟩], [5]), (1, [⟨#[38]⟩], [4]), (0, [], []), (0, [⟨#[61]⟩, ⟨#[47, 61]⟩, ⟨#[60]⟩, ⟨#[60, 61]⟩, ⟨#[62]⟩, ⟨#[62, 61]⟩, ⟨#[105, 110]⟩, ⟨#[110, 111, 116, 105, 110]⟩, ⟨#[115, 117, 98]⟩], [10, 11, 12, 13, 14, 15, 16, 17, 18]), (0, [⟨#[60, 45, 62]⟩, ⟨#[43, 45, 62]⟩, ⟨#[45, 45, 62]⟩, ⟨#[62, 45, 62]⟩, ⟨#[62, 45, 62, 62]⟩], [41, 42, 43, 44, 45]), (1, [⟨#[124, 45, 62]⟩], [27]), (1, [⟨#[92, 47]⟩, ⟨#[47, 92]⟩, ⟨#[92]⟩, ⟨#[62, 60]⟩, ⟨#[60, 43]⟩, ⟨#[59]⟩, ⟨#[60, 124]⟩, ⟨#[60, 60, 124]⟩, ⟨#[124, 62]⟩, ⟨#[124, 62, 62]⟩], [31, 32, 33, 34, 35, 36, 37, 38, 39, 40]), (0, [⟨#[46, 46]⟩], [30]), (1, [⟨#[43]⟩, ⟨#[45]⟩], [22, 23]), (1, [⟨#[42]⟩, ⟨#[47]⟩, ⟨#[109, 111, 100]⟩], [24, 25, 26])]
def lvGroup (n : Nat) : Int := (lvTab.getD n (0, [], [])).1
def lvSigns (n : Nat) : List ByteArray := (lvTab.getD n (0, [], [])).2.1
def lvOps (n : Nat) : List Int := (lvTab.getD n (0, [], [])).2.2
def sl (b n : Nat) : Value := .slice (some ⟨b, 0, none⟩) n n
/-- The cells of the array, from the number of its first new block on. -/
def lvGo : List (Int × List ByteArray × List Int) → Nat → List Value
  | [], _ => []
  | (g, [], _) :: r, b => .int .i64 g :: .slice none 0 0 :: .slice none 0 0 :: lvGo r b
  | (g, s :: ss, os) :: r, b => .int .i64 g :: sl b (s :: ss).length :: sl (b + 1) os.length :: lvGo r (b + 1 + 1)
def lvBlocks : List (Int × List ByteArray × List Int) → List Obj
  | [] => []
  | (_, [], _) :: r => lvBlocks r
  | (_, s :: ss, os) :: r => .cells ((s :: ss).map Value.string).toArray 9 :: .cells (os.map (Value.int .i64)).toArray 3 :: lvBlocks r
def lvZero : List Value := [.int .i64 0, .slice none 0 0, .slice none 0 0, .int .i64 0, .slice none 0 0, .slice none 0 0, .int .i64 0, .slice none 0 0, .slice none 0 0, .int .i64 0, .slice none 0 0, .slice none 0 0, .int .i64 0, .slice none 0 0, .slice none 0 0, .int .i64 0, .slice none 0 0, .slice none 0 0, .int .i64 0, .slice none 0 0, .slice none 0 0, .int .i64 0, .slice none 0 0, .slice none 0 0, .int .i64 0, .slice none 0 0, .slice none 0 0, .int .i64 0, .slice none 0 0, .slice none 0 0, .int .i64 0, .slice none 0 0, .slice none 0 0, .int .i64 0, .slice none 0 0, .slice none 0 0, .int .i64 0, .slice none 0 0, .slice none 0 0]
def lvObjs : List Obj := .cells lvZero.toArray 118 :: lvBlocks lvTab
theorem lv_blk (w : World) : Blk (lvObjs.foldl World.alloc w) w.heap.size 118 lvZero := heap_allocs lvObjs w 0 (by decide)
theorem lv_len (b : Nat) : (lvGo lvTab b).length = 39 := rfl
/-- A function whose one result lies in a variable. -/
theorem results_one {P : Program} {fn : Func} {p : Tmp} {ty : TypeId} (h : fn.results = #[.cell p ty]) {tmps : Array Value} {a : Addr} (ha : tmps.getD p undef = .pointer (some a)) {v : Value} {W : World}
    (hl : (loadVar ty a).run P W = .ok v W) : (results fn tmps).run P W = .ok v W := by
  have e : (results fn tmps) = (do let v ← (do loadVar ty (← asAddr (tmps.getD p undef))); pure v) := by
    unfold results; rw [h]; simp
  rw [e, ha]
  exact hl
theorem lv_res (w : World) (tmps : Array Value) (h : tmps.getD 0 undef = .pointer (some ⟨w.heap.size, 0, none⟩)) (W : World) (hb : Blk W w.heap.size 118 (lvGo lvTab (w.heap.size + 1))) :
    (results Tryz.f120 tmps).run Tryz.prog W = .ok (.agg (lvGo lvTab (w.heap.size + 1)).toArray) W :=
  results_one Tryz.results120 h (run_loadVar_mid W _ 0 118 _ _ hb.rangeAt Tryz.underlying118 rfl (by kernel_rfl))
set_option maxRecDepth 100000 in
set_option maxHeartbeats 4000000 in
theorem levels_any (w : World) : Calls Tryz.prog 120 #[] w fun e w' => e = .returned (.agg (lvGo lvTab (w.heap.size + 1)).toArray) ∧ w' = (lvObjs.foldl World.alloc w).setCells w.heap.size 0 (lvGo lvTab (w.heap.size + 1)) := by
  have hb := lv_blk w
  have HB := Lib.hid hb
  clear hb
  go_enter Tryz.func120, Tryz.ntmps120
  go_wp2_with (refine wpList_store_mid rfl 118 _ _ rfl _ 0 _ rfl rfl ?ht ?hi ?h1 ?_)
  case ht => exact HB.out.there
  case hi => kernel_rfl
  case h1 => kernel_rfl
  exact bodyPost_ret (lv_res w _ rfl _ (HB.out.setCells rfl)) rfl ⟨rfl, rfl⟩
end Go.Proofs.YtckjlliobebodaaGreatDoor
