/-
  Layer 11: the document's Decode.
-/
import Derived.Test.YtedgndhbieeffaaDoorOb9
namespace Go.Proofs.YtedgndhbieeffaaDoor
open Go Go.SL Go.RowKit

theorem parts_pos {s r : List UInt8} {l : List (List UInt8)} (h : Parts s l r) : r.length ≤ s.length ∧ r = s.drop (s.length - r.length) := by
  obtain ⟨e, _, _⟩ := h.join
  have hl : s.length = (joinE l).length + r.length := by rw [e, List.length_append]
  refine ⟨by omega, ?_⟩
  rw [show s.length - r.length = (joinE l).length from by omega, e, List.drop_left]
section
variable {R : List RO} {O : List Own} {POST : Value → List RO → List Own → Prop} {b : Nat} {o : Ob} {ev pv : Value}
end
end Go.Proofs.YtedgndhbieeffaaDoor
