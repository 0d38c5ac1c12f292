/-
  A closed fact on the program: no condition.
-/
import Derived.Test.YtebpkhlifcffnaaGreatDoorCards
import Derived.KernelRfl
namespace Go.Proofs.YtebpkhlifcffnaaGreatDoor.lawTopTogether
open Go
theorem Ru : Tryz.pinned.checked.prog.mainIs = some (Rows.topTogetherCard.stood.harness.1, Rows.topTogetherCard.stood.harness.2.toList) := by kernel_rfl
end Go.Proofs.YtebpkhlifcffnaaGreatDoor.lawTopTogether
