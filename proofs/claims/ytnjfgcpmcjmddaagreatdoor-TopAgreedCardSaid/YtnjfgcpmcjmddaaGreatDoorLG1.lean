/-
  A closed fact on the program: no condition.
-/
import Derived.Test.YtnjfgcpmcjmddaaGreatDoorCards
import Derived.KernelRfl
namespace Go.Proofs.YtnjfgcpmcjmddaaGreatDoor.lawTopAgreed
open Go
theorem tied1 : Rows.topAgreedRow.wfByText (OpenSpec.ofChange Rows.topAgreedSpec) = true := by kernel_rfl
end Go.Proofs.YtnjfgcpmcjmddaaGreatDoor.lawTopAgreed
