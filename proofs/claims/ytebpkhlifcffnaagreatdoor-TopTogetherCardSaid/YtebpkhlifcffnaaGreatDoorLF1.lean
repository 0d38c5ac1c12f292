/-
  A closed fact on the program: no condition.
-/
import Derived.Test.YtebpkhlifcffnaaGreatDoorCards
import Derived.KernelRfl
namespace Go.Proofs.YtebpkhlifcffnaaGreatDoor.lawTopTogether
open Go
theorem Qx : (Rows.topTogetherRow.inPlace == Tryz.prog.inPlace 3) = true := by kernel_rfl
end Go.Proofs.YtebpkhlifcffnaaGreatDoor.lawTopTogether
