/-
  A closed fact on the program: no condition.
-/
import Derived.Test.YtdhcjafemebkcaaGreatDoorCards
import Derived.KernelRfl
namespace Go.Proofs.YtdhcjafemebkcaaGreatDoor.lawTopHistory
open Go
theorem fact3 : (Rows.topHistoryRow.recurses == Tryz.prog.recurses 3) = true := by kernel_rfl
end Go.Proofs.YtdhcjafemebkcaaGreatDoor.lawTopHistory
