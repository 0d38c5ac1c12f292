/-
  The closed facts on the program together: no condition.
-/
import Derived.Test.YtdhcjafemebkcaaGreatDoorLF1
import Derived.Test.YtdhcjafemebkcaaGreatDoorLF2
import Derived.Test.YtdhcjafemebkcaaGreatDoorLF3
import Derived.Test.YtdhcjafemebkcaaGreatDoorLF4
import Derived.JoinedCond
import Derived.KernelRfl
namespace Go.Proofs.YtdhcjafemebkcaaGreatDoor.lawTopHistory
open Go
set_option maxRecDepth 100000 in
theorem closed : joinedFacts Tryz.pinned.checked.prog 3 Tryz.f3 (OpenSpec.ofChange Rows.topHistorySpec).bare Rows.topHistoryRow = true := by
  unfold joinedFacts
  rw [show (Rows.topHistoryRow.inPlace == Tryz.pinned.checked.prog.inPlace 3) = true from fact1, show (Rows.topHistoryRow.unfollowed == Tryz.pinned.checked.prog.unfollowed 3) = true from fact2, show (Rows.topHistoryRow.recurses == Tryz.pinned.checked.prog.recurses 3) = true from fact3, show (Rows.topHistoryRow.named == Tryz.pinned.checked.prog.varsNamed 3) = true from fact4]
  kernel_rfl
end Go.Proofs.YtdhcjafemebkcaaGreatDoor.lawTopHistory
