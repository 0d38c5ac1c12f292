/-
  A closed fact on the program: no condition.
-/
import Derived.Test.YtdhcjafemebkcaaGreatDoorCards
import Derived.KernelRfl
namespace Go.Proofs.YtdhcjafemebkcaaGreatDoor.lawTopHistory
open Go
theorem tied1 : Rows.topHistoryRow.wfByText (OpenSpec.ofChange Rows.topHistorySpec) = true := by kernel_rfl
end Go.Proofs.YtdhcjafemebkcaaGreatDoor.lawTopHistory
