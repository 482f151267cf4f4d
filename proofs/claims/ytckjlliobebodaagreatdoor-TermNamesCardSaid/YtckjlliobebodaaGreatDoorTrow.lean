/- A row of terms that the call itself owns. -/
import Derived.Test.YtckjlliobebodaaGreatDoorSeven
import Derived.Maps.AppendAt
namespace Go.Proofs.YtckjlliobebodaaGreatDoor
open Go.RowKit
abbrev E3 := Tm × Value × Value
def flat : List E3 → List Value
  | [] => []
  | e :: E => tmCells e.1 e.2.1 e.2.2 ++ flat E
def EL (ok : Nat → Prop) (w : World) (E : List E3) : Prop := ∀ e ∈ E, TyL ok w e.1.ty.kids e.2.1 ∧ TmL ok w e.1.kids e.2.2
theorem flat_len : ∀ (E : List E3), (flat E).length = E.length * 7
  | [] => rfl
  | e :: E => by rw [flat, List.length_append, flat_len E, List.length_cons]; show 7 + _ = _; omega
theorem flat_snoc : ∀ (E : List E3) (e : E3), flat (E ++ [e]) = flat E ++ tmCells e.1 e.2.1 e.2.2
  | [], e => by simp [flat]
  | x :: E, e => by rw [List.cons_append, flat, flat_snoc E e, flat, List.append_assoc]
theorem flat_get : ∀ (E : List E3) (i j : Nat) (h : i < E.length), j < 7 → (flat E)[i * 7 + j]? = (tmCells E[i].1 E[i].2.1 E[i].2.2)[j]?
  | e :: E, 0, j, _, hj => by
    rw [flat, Nat.zero_mul, Nat.zero_add, List.getElem?_append_left (by show j < 7; exact hj)]; rfl
  | e :: E, i + 1, j, h, hj => by
    rw [flat, List.getElem?_append_right (by show 7 ≤ _; omega)]
    have := flat_get E i j (by simpa using h) hj
    rw [show (i + 1) * 7 + j - (tmCells e.1 e.2.1 e.2.2).length = i * 7 + j by show (i + 1) * 7 + j - 7 = _; omega, this]
    rfl
theorem tml_of_row {ok : Nat → Prop} {w : World} {base : Nat} {v : Value} {E : List E3} (hE : E ≠ []) (hown : w.ownsRow base 27 7 v E.length (flat E)) (hl : EL ok w E) (hok : ∀ g, v.ownBlock = some g → ok g) : TmL ok w (E.map (·.1)) v := by
  have h0 : 0 < E.length := List.length_pos_iff.2 hE
  obtain ⟨_, hv⟩ := hown
  rcases hv with ⟨_, hn⟩ | ⟨g, cap, cur, rfl, hbg, hg, hnc, hcm, hcs, htake⟩
  · omega
  · have hb : Blk w g 27 cur.toList := by show w.heap[g]? = _; rw [hg]
    have hc : ∀ i j, i < E.length → j < 7 → w.cell? ⟨g, 0 + i * 7 + j, none⟩ = (flat E)[i * 7 + j]? := by
      intro i j hi hj
      rw [hb.cell, ← htake, List.getElem?_take, if_pos (by omega), Nat.zero_add]
    have := TmL.mk (ok := ok) (w := w) (l := E.map (·.1)) (b := g) (off := 0) (cap := cap) (fun i => (E.getD i (.mk 0 ⟨#[]⟩ 0 ty0 [], undef, undef)).2.1) (fun i => (E.getD i (.mk 0 ⟨#[]⟩ 0 ty0 [], undef, undef)).2.2) (by simpa using hE) (hok g rfl) (by simpa using hnc) (fun i h => ?_) (fun i h => ?_) (fun i h => ?_)
    · rw [List.length_map] at this; exact this
    all_goals
      have hi : i < E.length := by simpa using h
      have e1 : (E.map (·.1))[i] = E[i].1 := List.getElem_map ..
      have e2 : E.getD i (.mk 0 ⟨#[]⟩ 0 ty0 [], undef, undef) = E[i] := by rw [List.getD_eq_getElem?_getD, List.getElem?_eq_getElem hi]; rfl
      rw [e1]
      try rw [e2]
    · exact ⟨(hc i 0 hi (by omega)).trans (flat_get E i 0 hi (by omega)), (hc i 1 hi (by omega)).trans (flat_get E i 1 hi (by omega)), (hc i 2 hi (by omega)).trans (flat_get E i 2 hi (by omega)), (hc i 3 hi (by omega)).trans (flat_get E i 3 hi (by omega)), (hc i 4 hi (by omega)).trans (flat_get E i 4 hi (by omega)), (hc i 5 hi (by omega)).trans (flat_get E i 5 hi (by omega)), (hc i 6 hi (by omega)).trans (flat_get E i 6 hi (by omega))⟩
    · exact (hl _ (List.getElem_mem hi)).1
    · exact (hl _ (List.getElem_mem hi)).2
theorem EL.frame {ok : Nat → Prop} {w w' : World} {E : List E3} (h : EL ok w E) (hs : Same ok w w') : EL ok w' E := fun e he => ⟨(h e he).1.frame hs, (h e he).2.frame hs⟩
theorem EL.mono {ok ok' : Nat → Prop} {w : World} {E : List E3} (h : EL ok w E) (ho : ∀ k, k < w.heap.size → ok k → ok' k) : EL ok' w E := fun e he => ⟨(h e he).1.mono ho, (h e he).2.mono ho⟩
theorem EL.snoc {ok : Nat → Prop} {w : World} {E : List E3} {e : E3} (h : EL ok w E) (ha : TyL ok w e.1.ty.kids e.2.1) (hc : TmL ok w e.1.kids e.2.2) : EL ok w (E ++ [e]) := by
  intro x hx
  rcases List.mem_append.1 hx with hx | hx
  · exact h x hx
  · rw [List.mem_singleton.1 hx]; exact ⟨ha, hc⟩
theorem own_one {w : World} {base g : Nat} {t : Tm} {tk kk : Value} (hb : Blk w g 27 (tmCells t tk kk)) (hg : base ≤ g) : w.ownsRow base 27 7 (.slice (some ⟨g, 0, none⟩) 1 1) 1 (flat [(t, tk, kk)]) :=
  ⟨rfl, .inr ⟨g, 1, _, rfl, hg, hb, by omega, by unfold maxLen; omega, rfl, rfl⟩⟩
theorem own_kept {S : Nat → Prop} {w w' : World} {base : Nat} {v : Value} {n : Nat} {xs : List Value} (h : w.ownsRow base 27 7 v n xs) (hk : Kept S w w') (hS : ∀ g, v.ownBlock = some g → ¬ S g) : w'.ownsRow base 27 7 v n xs := by
  obtain ⟨h1, h2⟩ := h
  refine ⟨h1, ?_⟩
  rcases h2 with h2 | ⟨g, cap, cur, hv, hbg, hg, r⟩
  · exact .inl h2
  · refine .inr ⟨g, cap, cur, hv, hbg, ?_, r⟩
    rw [hk.block g (Array.getElem?_eq_some_iff.1 hg).1 (hS g (by rw [hv]; rfl))]
    exact hg
theorem info27 : (Tryz.prog.info? 27).map (fun i => (i.zero, i.size, i.bytes)) = some (some (.agg #[.int .i64 0, .string ⟨#[]⟩, .int .i64 0, .int .i64 0, .string ⟨#[]⟩, .slice none 0 0, .slice none 0 0]), 7, 104) := by kernel_rfl
end Go.Proofs.YtckjlliobebodaaGreatDoor
