/- A region that draws its order: a load, a move, a call that waits for the move, and a tail that waits for all. -/
import Derived.Test.YtckjlliobebodaaGreatDoorBase
import Derived.StillTail
namespace Go.Proofs.YtckjlliobebodaaGreatDoor
open Go.RowKit
theorem wp_region_lmc {P : Program} {id : Nat} {o0 o1 o2 : Oper} {tl : List Oper} {Q : Exit → Act → World → Prop} {a : Act} {w : World} (x1 : Operand) (hm : P.follows .mixedOrders = true) (h1 : o1.op = .move x1) (hg1 : o1.guard = none)
    (r0 : Region.ready .any (o0 :: o1 :: o2 :: tl).toArray (Array.replicate (tl.length + 3) false) = [0, 1])
    (s0 : Region.seqB .any (o0 :: o1 :: o2 :: tl).toArray (tl.length + 2) 1 ((Array.replicate (tl.length + 3) false).setIfInBounds 0 true) = true)
    (r1 : Region.ready .any (o0 :: o1 :: o2 :: tl).toArray ((Array.replicate (tl.length + 3) false).setIfInBounds 1 true) = [0, 2])
    (s10 : Region.seqB .any (o0 :: o1 :: o2 :: tl).toArray (tl.length + 1) 2 (((Array.replicate (tl.length + 3) false).setIfInBounds 1 true).setIfInBounds 0 true) = true)
    (r12 : Region.ready .any (o0 :: o1 :: o2 :: tl).toArray (((Array.replicate (tl.length + 3) false).setIfInBounds 1 true).setIfInBounds 2 true) = [0])
    (s120 : Region.seqB .any (o0 :: o1 :: o2 :: tl).toArray tl.length 3 ((((Array.replicate (tl.length + 3) false).setIfInBounds 1 true).setIfInBounds 2 true).setIfInBounds 0 true) = true)
    (hA : wpList P (o0 :: o1 :: o2 :: tl).toArray Q (o0 :: o1 :: o2 :: tl) a w.drew)
    (hB0 : wpList P (o0 :: o1 :: o2 :: tl).toArray Q (o0 :: o2 :: tl) (a.put o1.dst (a.eval x1)) w.drew)
    (hB2 : wpList P (o0 :: o1 :: o2 :: tl).toArray Q (o2 :: o0 :: tl) (a.put o1.dst (a.eval x1)) w.drew) : (Code.region id (o0 :: o1 :: o2 :: tl).toArray true).wp P Q a w := by
  refine wp_region_any hm ?_
  have hsz : (o0 :: o1 :: o2 :: tl).toArray.size = tl.length + 3 := by simp
  rw [hsz]
  generalize hops : (o0 :: o1 :: o2 :: tl).toArray = ops at *
  have e0 : ops[0]? = some o0 := by rw [← hops]; rfl
  have e1 : ops[1]? = some o1 := by rw [← hops]; rfl
  have e2 : ops[2]? = some o2 := by rw [← hops]; rfl
  have et : ∀ k j, (o0 :: o1 :: o2 :: tl)[k + j]? = ops[k + j]? := fun k j => by subst hops; exact List.getElem?_toArray.symm
  refine ⟨fun h => (by rw [r0] at h; cases h), fun i hi => ?_⟩
  rw [r0] at hi
  have hi' : i = 0 ∨ i = 1 := by simpa using hi
  rcases hi' with rfl | rfl
  · have hw : wpOp P ops Q 0 (wpList P ops Q (o1 :: o2 :: tl)) a w.drew := by unfold wpOp; simp only [e0]; exact hA
    exact wpOp_mono (fun a' w' h' => wpAny_of_seq (o1 :: o2 :: tl) 1 _ a' w' (fun j => by have := et 1 j; rw [← this, Nat.add_comm]; rfl) s0 h') hw
  · have hw : wpOp P ops Q 1 (fun a' w' => wpAny P .any ops Q (tl.length + 2) ((Array.replicate (tl.length + 3) false).setIfInBounds 1 true) a' w') a w.drew := by
      unfold wpOp
      simp only [e1]
      rw [if_pos (by unfold Region.wanted; rw [hg1])]
      refine Or.inl (BigFrame.wp_move x1 h1 ?_)
      refine ⟨fun h => (by rw [r1] at h; cases h), fun j hj => ?_⟩
      rw [r1] at hj
      have hj' : j = 0 ∨ j = 2 := by simpa using hj
      rcases hj' with rfl | rfl
      · have hw : wpOp P ops Q 0 (wpList P ops Q (o2 :: tl)) (a.put o1.dst (a.eval x1)) w.drew := by unfold wpOp; simp only [e0]; exact hB0
        exact wpOp_mono (fun a' w' h' => wpAny_of_seq (o2 :: tl) 2 _ a' w' (fun j => by have := et 2 j; rw [← this, Nat.add_comm]; rfl) s10 h') hw
      · have hw : wpOp P ops Q 2 (wpList P ops Q (o0 :: tl)) (a.put o1.dst (a.eval x1)) w.drew := by unfold wpOp; simp only [e2]; exact hB2
        refine wpOp_mono (fun a' w' h' => ?_) hw
        refine ⟨fun h => (by rw [r12] at h; cases h), fun k hk => ?_⟩
        rw [r12] at hk
        have hk' : k = 0 := by simpa using hk
        subst hk'
        have hw : wpOp P ops Q 0 (wpList P ops Q tl) a' w' := by unfold wpOp; simp only [e0]; exact h'
        exact wpOp_mono (fun a' w' h' => wpAny_of_seq tl 3 _ a' w' (fun j => by have := et 3 j; rw [← this, Nat.add_comm]; rfl) s120 h') hw
    exact hw
end Go.Proofs.YtckjlliobebodaaGreatDoor
