/- A part. -/
import Derived.Test.YtdmebjbkccjhbaaGreatDoorU3
set_option linter.unusedVariables false
set_option linter.unusedSimpArgs false
set_option maxRecDepth 100000
set_option maxHeartbeats 32000000
namespace Go.Proofs.YtdmebjbkccjhbaaGreatDoor
open Go.RowKit
theorem kept_grown {w w':World} {row:Option Nat} (h:w.grownBy w' row):Kept (fun k=>row=some k) w w':=⟨h.os,h.tape,h.output,h.size,fun k hk hn=>h.block k hk (fun e=>hn e.symm)⟩
theorem Kept.via {S S':Nat→Prop} {w w1 w2:World} (h:Kept S w w1) (k:Kept S' w1 w2) (hS:∀ x,x<w.heap.size→S' x→S x):Kept S w w2:=
 ⟨k.os.trans h.os,k.tape.trans h.tape,k.output.trans h.output,Nat.le_trans h.size k.size,fun i hi hs=>(k.block i (Nat.lt_of_lt_of_le hi h.size) (fun q=>hs (hS i hi q))).trans (h.block i hi hs)⟩
end Go.Proofs.YtdmebjbkccjhbaaGreatDoor
