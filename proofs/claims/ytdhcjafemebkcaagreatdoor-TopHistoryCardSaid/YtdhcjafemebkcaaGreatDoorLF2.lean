/-
  A closed fact on the program: no condition.
-/
import Derived.Test.YtdhcjafemebkcaaGreatDoorCards
import Derived.KernelRfl
namespace Go.Proofs.YtdhcjafemebkcaaGreatDoor.lawTopHistory
open Go
theorem fact2 : (Rows.topHistoryRow.unfollowed == Tryz.prog.unfollowed 3) = true := by kernel_rfl
end Go.Proofs.YtdhcjafemebkcaaGreatDoor.lawTopHistory
