/-
  Layer 11: objects of both kinds out of plain data; speaks.
-/
import Derived.Test.YtedgndhbieeffaaDoorOb12
import Derived.Test.YtedgndhbieeffaaDoorWde
namespace Go.Proofs.YtedgndhbieeffaaDoor
open Go Go.SL Go.RowKit

theorem entsX_next {x : OX} {i : Nat} (h : i < x.ents.2.length) : entsX x (i + 1) = entsX x i ++ [(x.ents.2[i]!.1, idE x.raw x.ents.2[i]!.2)] := by
  unfold entsX; rw [List.take_add_one, get!_of_lt h, List.map_append]; rfl
theorem parsX_next {x : OX} {i : Nat} (h : i < x.pars.2.length) : parsX x (i + 1) = parsX x i ++ [idE x.raw x.pars.2[i]!] := by
  unfold parsX; rw [List.take_add_one, get!_of_lt h, List.map_append]; rfl
theorem entsX_len (x : OX) (i : Nat) (h : i ≤ x.ents.2.length) : (entsX x i).length = i := by unfold entsX; rw [List.length_map, List.length_take]; omega
theorem parsX_len (x : OX) (i : Nat) (h : i ≤ x.pars.2.length) : (parsX x i).length = i := by unfold parsX; rw [List.length_map, List.length_take]; omega
theorem entsX_all {x : OX} {i : Nat} (h : i = 20 ∨ i = x.ents.2.length) (hi : i ≤ 20) : entsX x i = entsX x 20 := by
  rcases h with h | h
  · rw [h]
  · unfold entsX; rw [h, List.take_length, List.take_of_length_le (by omega)]
theorem parsX_all {x : OX} {i : Nat} (h : i = 20 ∨ i = x.pars.2.length) (hi : i ≤ 20) : parsX x i = parsX x 20 := by
  rcases h with h | h
  · rw [h]
  · unfold parsX; rw [h, List.take_length, List.take_of_length_le (by omega)]
section
variable {R : List RO} {O : List Own} {POST : Value → List RO → List Own → Prop} {b : Nat}
end
end Go.Proofs.YtedgndhbieeffaaDoor
