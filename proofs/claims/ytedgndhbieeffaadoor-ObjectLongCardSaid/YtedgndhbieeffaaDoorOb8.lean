/-
  Layer 11: the document's Right and Encode.
-/
import Derived.Test.YtedgndhbieeffaaDoorOb7
namespace Go.Proofs.YtedgndhbieeffaaDoor
open Go Go.SL Go.RowKit

theorem joinE_app (l m : List (List UInt8)) : joinE (l ++ m) = joinE l ++ joinE m := by unfold joinE; rw [List.flatMap_append]
theorem joinE_one (t : List UInt8) : joinE [t] = putI t.length ++ t := by simp [joinE]
section
variable {R : List RO} {O : List Own} {POST : Value → List RO → List Own → Prop} {b : Nat} {o : Ob} {ev pv : Value}
end
end Go.Proofs.YtedgndhbieeffaaDoor
