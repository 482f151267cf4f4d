/- Texts Inv RAlk of this proof, in one. -/
import Derived.Test.YtfhedienjnfdcaaGreatDoorS0
import Derived.Test.YtfhedienjnfdcaaGreatDoorS1
import Derived.Test.YtfhedienjnfdcaaGreatDoorS2
import Derived.Test.YtfhedienjnfdcaaGreatDoorS3
import Derived.Test.YtfhedienjnfdcaaGreatDoorS4
import Derived.Test.YtfhedienjnfdcaaGreatDoorS5
import Derived.Test.YtfhedienjnfdcaaGreatDoorS6
import Derived.Test.YtfhedienjnfdcaaGreatDoorS7
import Derived.Test.YtfhedienjnfdcaaGreatDoorS8
import Derived.Test.YtfhedienjnfdcaaGreatDoorS9
import Derived.Test.YtfhedienjnfdcaaGreatDoorS10
import Derived.Test.YtfhedienjnfdcaaGreatDoorS11
import Derived.Test.YtfhedienjnfdcaaGreatDoorS14
import Derived.Test.YtfhedienjnfdcaaGreatDoorS15
import Derived.Deep.RegionHeld3
import Derived.Deep.QuietTactic
import Derived.BigQuiet
set_option linter.unusedVariables false
set_option linter.unusedSimpArgs false
namespace Go.Proofs.YtfhedienjnfdcaaGreatDoor
open Go.RowKit
theorem Inv1.inv {s : ByteArray} {σ σ' : PS} (h : Inv1 s σ σ') : Inv s σ σ' := ⟨Nat.le_of_lt h.1, h.2.1, h.2.2⟩
theorem alikeK_drop {bi : Bool} {nm nm' : ByteArray} {l l' : List Tm} {k : Nat} {X Y : List ByteArray} (h : k < l.length) (h' : k < l'.length) : alikeK bi nm nm' k (l.drop k) (l'.drop k) X Y = (alikeT l[k] l'[k] (if bi && k == 1 then X ++ [nm] else X) (if bi && k == 1 then Y ++ [nm'] else Y) && alikeK bi nm nm' (k + 1) (l.drop (k + 1)) (l'.drop (k + 1)) X Y) := by
  rw [List.drop_eq_getElem_cons h, List.drop_eq_getElem_cons h', alikeK]
theorem alikeK_end {bi : Bool} {nm nm' : ByteArray} {l l' : List Tm} {k : Nat} {X Y : List ByteArray} (h : l.length ≤ k) : alikeK bi nm nm' k (l.drop k) (l'.drop k) X Y = true := by
  rw [List.drop_eq_nil_of_le h]; simp [alikeK]
theorem tmDs_mem {u : Tm} : ∀ {l : List Tm}, u ∈ l → tmD u ≤ tmDs l
  | a :: l, h => by
    rw [tmDs]
    rcases List.mem_cons.1 h with rfl | h
    · exact Nat.le_max_left _ _
    · exact Nat.le_trans (tmDs_mem h) (Nat.le_max_right _ _)
end Go.Proofs.YtfhedienjnfdcaaGreatDoor
