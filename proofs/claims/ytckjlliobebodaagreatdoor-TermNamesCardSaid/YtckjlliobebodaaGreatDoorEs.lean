/- The law TermErrorStays returns true. -/
import Derived.Test.YtckjlliobebodaaGreatDoorAwk
import Derived.Test.YtckjlliobebodaaGreatDoorPos
set_option linter.unusedVariables false
set_option linter.unusedSimpArgs false
namespace Go.Proofs.YtckjlliobebodaaGreatDoor
open Go.RowKit
theorem ba_get (s : ByteArray) (l : List UInt8) (hl : s.data.toList = l) (p : Nat) (h : p < s.size) (h' : p < l.length) : s[p] = l[p] := by
  subst hl
  show s.data[p] = _
  rw [Array.getElem_toList]
theorem ext_app (s m : ByteArray) : Ext s (s ++ ⟨#[32]⟩ ++ m) := by
  have hl : (s ++ ⟨#[32]⟩ ++ m : ByteArray).data.toList = s.data.toList ++ (32 :: m.data.toList) := by simp [ByteArray.data_append]
  have hsz : (s ++ ⟨#[32]⟩ ++ m : ByteArray).size = s.size + (m.size + 1) := by
    rw [← ba_len, hl, List.length_append, List.length_cons, ba_len, ba_len]
  have h1 : s.data.toList.length = s.size := ba_len s
  refine ⟨by omega, fun p h h' => ?_, ?_, ⟨_, hl⟩⟩
  · rw [ba_get _ _ hl p h' (by rw [List.length_append]; omega), ba_get s _ rfl p h (by omega), List.getElem_append_left (by omega)]
  · rw [ba_get _ _ hl s.size (by omega) (by rw [List.length_append, List.length_cons]; omega), List.getElem_append_right (by omega)]
    simp only [h1, Nat.sub_self]
    rfl
def EsOk (w : World) (e : Ending) (w' : World) : Prop := e = .returned (.bool true) ∧ Kept (fun _ => False) w w'
set_option maxRecDepth 100000 in
set_option maxHeartbeats 4000000 in
theorem es_big (s m : ByteArray) (w : World) (hgl : Gl w) (hs : s.size ≤ 140737488355328) (hm : m.size ≤ 140737488355328) (hb : 20000 < s.size + m.size) : Calls Tryz.prog 6 #[.string s, .string m] w (EsOk w) := by
  have i1 : (20000 : Int) < (s.size : Int) + (m.size : Int) := by omega
  have HA := Lib.hid (awake_any w hgl)
  go_enter Tryz.func6, Tryz.ntmps6
  go_wp2_with fail
  refine HA.out.mono ?_
  rintro e w1 ⟨rfl, k1⟩
  go_wp2_with fail
  go_ret
  exact ⟨rfl, k1⟩
set_option maxRecDepth 100000 in
set_option maxHeartbeats 8000000 in
theorem es_small (s m : ByteArray) (w : World) (hgl : Gl w) (hb : s.size + m.size ≤ 20000) : Calls Tryz.prog 6 #[.string s, .string m] w (EsOk w) := by
  have i1 : decide ((20000 : Int) < (s.size : Int) + (m.size : Int)) = false := by simp; omega
  have hsz : (s ++ ⟨#[32]⟩ ++ m : ByteArray).size = s.size + 1 + m.size := by
    have := (ext_app s m).pre
    obtain ⟨x, hx⟩ := this
    rw [← ba_len, ByteArray.data_append, ByteArray.data_append]; simp; omega
  have z1 : s.size ≤ 20000 := by omega
  have z2 : m.size ≤ 20000 := by omega
  have HP1 := Lib.hid (parse_any (f := 300000) (s := s) (w := w) (by omega) (by omega) hgl)
  have HX := Lib.hid (stays_plain (ext_app s m) (f := 300000) (by omega) (by omega))
  have HF2 : Hid (14 * ((s ++ ⟨#[32]⟩ ++ m : ByteArray).size + 2) < 300000 ∧ (s ++ ⟨#[32]⟩ ++ m : ByteArray).size ≤ 9223372036854775807) := Lib.hid ⟨by omega, by omega⟩
  have HGL := Lib.hid hgl
  clear hsz hb hgl
  go_enter Tryz.func6, Tryz.ntmps6
  go_wp2_with fail
  refine HP1.out.mono ?_
  rintro e w1 ⟨tv, rfl, ⟨tk, kk, rfl, hty, htm⟩, k1⟩
  obtain ⟨ta, tn, tc, rfl⟩ := hty.slice
  obtain ⟨ma, mn, mc, rfl⟩ := htm.slice
  clear hty htm
  unfold tmVal
  generalize parseT 300000 s = t1 at *
  have K1 : Kept (fun _ => False) w (w1.alloc (.cells #[.int .i64 t1.op, .string t1.name, .int .i64 t1.n, .int .i64 t1.ty.kind, .string t1.ty.name, .slice ta tn tc, .slice ma mn mc] 27)) := k1.alloc _
  have G1 := HGL.out.kept K1 (fun h => h) (fun h => h)
  have HP2 := Lib.hid (parse_any (f := 300000) (s := s ++ ⟨#[32]⟩ ++ m) HF2.out.1 HF2.out.2 G1)
  go_wp2_with fail
  refine HP2.out.mono ?_
  rintro e w2 ⟨tv, rfl, ⟨tk, kk, rfl, hty, htm⟩, k2⟩
  obtain ⟨tb, tm, td, rfl⟩ := hty.slice
  obtain ⟨mb, mm, md, rfl⟩ := htm.slice
  clear hty htm
  unfold tmVal
  generalize parseT 300000 (s ++ ⟨#[32]⟩ ++ m) = t2 at *
  have K2 := K1.trans k2
  have K3 : Kept (fun _ => False) w (w2.alloc (.cells #[.int .i64 t2.op, .string t2.name, .int .i64 t2.n, .int .i64 t2.ty.kind, .string t2.ty.name, .slice tb tm td, .slice mb mm md] 27)) := K2.alloc _
  have HA := Lib.hid (awake_any _ (HGL.out.kept K3 (fun h => h) (fun h => h)))
  have X := HX.out
  clear HX HP1 HP2 HF2
  generalize parseE 300000 s = e1 at *
  generalize parseE 300000 (s ++ ⟨#[32]⟩ ++ m) = e2 at *
  generalize parseA 300000 s = a1 at *
  generalize parseA 300000 (s ++ ⟨#[32]⟩ ++ m) = a2 at *
  rcases X with ⟨rfl, h2, rfl, rfl⟩ | ⟨rfl, rfl⟩ | ⟨rfl, rfl, rfl, h4⟩ | ⟨h0, rfl⟩
  · have h5 : a2 ≤ (s.size : Int) := by omega
    go_wp2_with fail
    refine HA.out.mono ?_
    rintro e w3 ⟨rfl, k3⟩
    go_wp2_with fail
    go_ret
    exact ⟨rfl, K3.trans k3⟩
  · have h5 : decide ((s.size : Int) < s.size) = false := by simp
    go_wp2_with fail
    refine HA.out.mono ?_
    rintro e w3 ⟨rfl, k3⟩
    go_wp2_with fail
    go_ret
    exact ⟨rfl, K3.trans k3⟩
  · go_wp2_with fail
    refine HA.out.mono ?_
    rintro e w3 ⟨rfl, k3⟩
    go_wp2_with fail
    go_ret
    exact ⟨rfl, K3.trans k3⟩
  · rcases h0 with rfl | rfl
    · go_wp2_with fail
      refine HA.out.mono ?_
      rintro e w3 ⟨rfl, k3⟩
      go_wp2_with fail
      go_ret
      exact ⟨rfl, K3.trans k3⟩
    · have h5 : (0 : Int) ≤ (s.size : Int) := by omega
      go_wp2_with fail
      refine HA.out.mono ?_
      rintro e w3 ⟨rfl, k3⟩
      go_wp2_with fail
      go_ret
      exact ⟨rfl, K3.trans k3⟩
theorem es_any (s m : ByteArray) (w : World) (hgl : Gl w) (hs : s.size ≤ 140737488355328) (hm : m.size ≤ 140737488355328) : Calls Tryz.prog 6 #[.string s, .string m] w (EsOk w) := by
  by_cases hb : 20000 < s.size + m.size
  · exact es_big s m w hgl hs hm hb
  · exact es_small s m w hgl (by omega)
end Go.Proofs.YtckjlliobebodaaGreatDoor
