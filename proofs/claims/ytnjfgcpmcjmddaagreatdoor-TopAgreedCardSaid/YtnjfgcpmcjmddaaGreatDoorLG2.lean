/-
  A closed fact on the program: no condition.
-/
import Derived.Test.YtnjfgcpmcjmddaaGreatDoorCards
import Derived.KernelRfl
namespace Go.Proofs.YtnjfgcpmcjmddaaGreatDoor.lawTopAgreed
open Go
theorem tied2 : Tryz.pinned.checked.prog.mainIs = some (Rows.topAgreedCard.stood.harness.1, Rows.topAgreedCard.stood.harness.2.toList) := by kernel_rfl
end Go.Proofs.YtnjfgcpmcjmddaaGreatDoor.lawTopAgreed
