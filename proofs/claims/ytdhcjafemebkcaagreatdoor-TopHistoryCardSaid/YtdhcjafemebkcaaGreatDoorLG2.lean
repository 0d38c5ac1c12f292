/-
  A closed fact on the program: no condition.
-/
import Derived.Test.YtdhcjafemebkcaaGreatDoorCards
import Derived.KernelRfl
namespace Go.Proofs.YtdhcjafemebkcaaGreatDoor.lawTopHistory
open Go
theorem tied2 : Tryz.pinned.checked.prog.mainIs = some (Rows.topHistoryCard.stood.harness.1, Rows.topHistoryCard.stood.harness.2.toList) := by kernel_rfl
end Go.Proofs.YtdhcjafemebkcaaGreatDoor.lawTopHistory
