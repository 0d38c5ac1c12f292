/-
  A closed fact on the program: no condition.
-/
import Derived.Test.YtebpkhlifcffnaaGreatDoorCards
import Derived.KernelRfl
namespace Go.Proofs.YtebpkhlifcffnaaGreatDoor.lawTopTogether
open Go
theorem QC : Rows.topTogetherRow.wfByText (OpenSpec.ofChange Rows.topTogetherSpec) = true := by kernel_rfl
end Go.Proofs.YtebpkhlifcffnaaGreatDoor.lawTopTogether
