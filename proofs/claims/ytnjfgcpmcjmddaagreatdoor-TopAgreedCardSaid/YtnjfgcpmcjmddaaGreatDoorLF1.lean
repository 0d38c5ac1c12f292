/-
  A closed fact on the program: no condition.
-/
import Derived.Test.YtnjfgcpmcjmddaaGreatDoorCards
import Derived.KernelRfl
namespace Go.Proofs.YtnjfgcpmcjmddaaGreatDoor.lawTopAgreed
open Go
theorem fact1 : (Rows.topAgreedRow.inPlace == Tryz.prog.inPlace 3) = true := by kernel_rfl
end Go.Proofs.YtnjfgcpmcjmddaaGreatDoor.lawTopAgreed
