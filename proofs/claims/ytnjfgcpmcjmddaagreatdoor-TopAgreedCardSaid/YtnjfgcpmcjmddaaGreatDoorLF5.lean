/-
  The closed facts on the program together: no condition.
-/
import Derived.Test.YtnjfgcpmcjmddaaGreatDoorLF1
import Derived.Test.YtnjfgcpmcjmddaaGreatDoorLF2
import Derived.Test.YtnjfgcpmcjmddaaGreatDoorLF3
import Derived.Test.YtnjfgcpmcjmddaaGreatDoorLF4
import Derived.JoinedCond
import Derived.KernelRfl
namespace Go.Proofs.YtnjfgcpmcjmddaaGreatDoor.lawTopAgreed
open Go
set_option maxRecDepth 100000 in
theorem closed : joinedFacts Tryz.pinned.checked.prog 3 Tryz.f3 (OpenSpec.ofChange Rows.topAgreedSpec).bare Rows.topAgreedRow = true := by
  unfold joinedFacts
  rw [show (Rows.topAgreedRow.inPlace == Tryz.pinned.checked.prog.inPlace 3) = true from fact1, show (Rows.topAgreedRow.unfollowed == Tryz.pinned.checked.prog.unfollowed 3) = true from fact2, show (Rows.topAgreedRow.recurses == Tryz.pinned.checked.prog.recurses 3) = true from fact3, show (Rows.topAgreedRow.named == Tryz.pinned.checked.prog.varsNamed 3) = true from fact4]
  kernel_rfl
end Go.Proofs.YtnjfgcpmcjmddaaGreatDoor.lawTopAgreed
