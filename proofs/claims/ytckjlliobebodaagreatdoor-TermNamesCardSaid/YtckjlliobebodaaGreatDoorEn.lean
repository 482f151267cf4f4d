/- Valid's small functions: enter, zeroType, named. -/
import Derived.Test.YtckjlliobebodaaGreatDoorRead
set_option linter.unusedVariables false
set_option linter.unusedSimpArgs false
namespace Go.Proofs.YtckjlliobebodaaGreatDoor
open Go.RowKit
def mcells (c most deep : Nat) : List Value := [.int .i64 c, .int .i64 most, .int .i64 deep]
set_option maxHeartbeats 1000000 in
theorem enter_any {w : World} {m c most deep d : Nat} (hb : Blk w m 76 (mcells c most deep)) (hc : c ≤ 1000000) {v : Bool} (hv : (decide (c + 1 ≤ most) && decide (d ≤ deep)) = v) :
    Calls Tryz.prog 105 #[.pointer (some ⟨m, 0, none⟩), .int .i64 d] w fun e w' => e = .returned (.bool v) ∧ Blk w' m 76 (mcells (c + 1) most deep) ∧ Kept (· = m) w w' := by
  have g0 : w.cell? ⟨m, 0, none⟩ = some (.int .i64 c) := hb.cell 0
  have g1 : w.cell? ⟨m, 1, none⟩ = some (.int .i64 most) := hb.cell 1
  have g2 : w.cell? ⟨m, 2, none⟩ = some (.int .i64 deep) := hb.cell 2
  have f0 : w.frozen? ⟨m, 0, none⟩ = false := hb.frozen 0
  have h1 := hb.set 0 (.int .i64 ((c : Int) + 1))
  have k1 : Kept (· = m) w (w.setCell ⟨m, 0, none⟩ (.int .i64 ((c : Int) + 1))) := (Kept.refl (fun x => x = m) w).setCell (p := ⟨m, 0, none⟩) (Or.inl rfl) _
  by_cases a : c + 1 ≤ most
  · by_cases e : d ≤ deep
    · have i1 : (c : Int) + 1 ≤ most := by omega
      have i2 : (d : Int) ≤ deep := by omega
      have HV : Hid (v = true) := Lib.hid (by rw [← hv, decide_eq_true a, decide_eq_true e]; rfl)
      clear hv
      go_enter Tryz.func105, Tryz.ntmps105
      go_wp2_with fail
      go_quiet (fail)
      go_wp2_with fail
      go_ret
      exact ⟨by rw [HV.out]; rfl, h1.drewN nq, k1.drewN nq⟩
    · have i1 : (c : Int) + 1 ≤ most := by omega
      have i2 : decide ((d : Int) ≤ deep) = false := by simp; omega
      have HV : Hid (v = false) := Lib.hid (by rw [← hv, decide_eq_false e]; simp)
      clear hv
      go_enter Tryz.func105, Tryz.ntmps105
      go_wp2_with fail
      go_quiet (fail)
      go_wp2_with fail
      go_ret
      exact ⟨by rw [HV.out]; rfl, h1.drewN nq, k1.drewN nq⟩
  · have i1 : decide ((c : Int) + 1 ≤ most) = false := by simp; omega
    have HV : Hid (v = false) := Lib.hid (by rw [← hv, decide_eq_false a]; simp)
    clear hv
    go_enter Tryz.func105, Tryz.ntmps105
    go_wp2_with fail
    go_quiet (fail)
    go_wp2_with fail
    go_ret
    exact ⟨by rw [HV.out]; rfl, h1.drewN nq, k1.drewN nq⟩
def zeroTyB (t : Ty) : Bool := t.kind == 0 && (t.name.toList == []) && t.kids.isEmpty
theorem TyL.len {ok : Nat → Prop} {w : World} {l : List Ty} {a : Option Addr} {n c : Nat} (h : TyL ok w l (.slice a n c)) : n = l.length := by
  cases h with
  | nil h => rcases h with h | ⟨a, c, h⟩ <;> cases h <;> rfl
  | mk => rfl
theorem TmL.len {ok : Nat → Prop} {w : World} {l : List Tm} {a : Option Addr} {n c : Nat} (h : TmL ok w l (.slice a n c)) : n = l.length := by
  cases h with
  | nil h => rcases h with h | ⟨a, c, h⟩ <;> cases h <;> rfl
  | mk => rfl
set_option maxHeartbeats 1000000 in
theorem zeroTy_any {w : World} (k : Int) (nm : ByteArray) (a : Option Addr) (n c : Nat) {v : Bool} (hv : ((k == 0) && (nm.toList == []) && decide (n = 0)) = v) :
    Calls Tryz.prog 143 #[.agg #[.int .i64 k, .string nm, .slice a n c]] w fun e w' => e = .returned (.bool v) ∧ w' = w.alloc (.cells #[.int .i64 k, .string nm, .slice a n c] 24) := by
  cases h1 : (k == 0) <;> cases h2 : (nm.toList == []) <;> by_cases h3 : n = 0
  all_goals
    (rw [h1, h2] at hv)
    (first | subst h3 | have h4 : decide ((n : Int) = 0) = false := by simp; omega)
    have HV := Lib.hid hv
    clear hv
    go_enter Tryz.func143, Tryz.ntmps143
    go_wp2_with fail
    go_ret
    exact ⟨by rw [← HV.out]; simp [*], rfl⟩
def trimQ (s : ByteArray) : ByteArray := ⟨(Lib.trimSuffix s.data.toList [39]).toArray⟩
def namedB (s : ByteArray) : Bool := identB (trimQ s)
theorem trimQ_le (s : ByteArray) : (trimQ s).size ≤ s.size := by
  unfold trimQ Lib.trimSuffix
  show (if _ then _ else _ : List UInt8).toArray.size ≤ s.data.size
  split <;> simp
set_option maxHeartbeats 1000000 in
theorem named_any (s : ByteArray) (w : World) (hs : s.size ≤ 9223372036854775807) :
    Calls Tryz.prog 79 #[.string s] w fun e w' => e = .returned (.bool (namedB s)) ∧ w = w' := by
  have hq := trimQ_le s
  go_enter Tryz.func79, Tryz.ntmps79
  go_wp2_with (first | (go_at_call 82; refine (Tryz.strings_TrimSuffix s _ _ hs).mono ?_; rintro e w' ⟨rfl, rfl⟩) | (go_at_call 18; refine (ident_any (trimQ s) _ (by omega)).mono ?_; rintro e w' ⟨rfl, rfl⟩))
  go_ret
  exact ⟨rfl, rfl⟩
end Go.Proofs.YtckjlliobebodaaGreatDoor
