/-
  A closed fact on the program: no condition.
-/
import Derived.Test.YtdhcjafemebkcaaGreatDoorCards
import Derived.KernelRfl
namespace Go.Proofs.YtdhcjafemebkcaaGreatDoor.lawTopHistory
open Go
theorem fact4 : (Rows.topHistoryRow.named == Tryz.prog.varsNamed 3) = true := by kernel_rfl
end Go.Proofs.YtdhcjafemebkcaaGreatDoor.lawTopHistory
