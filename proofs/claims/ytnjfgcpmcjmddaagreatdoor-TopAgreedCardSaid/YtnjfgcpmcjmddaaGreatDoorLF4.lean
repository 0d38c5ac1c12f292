/-
  A closed fact on the program: no condition.
-/
import Derived.Test.YtnjfgcpmcjmddaaGreatDoorCards
import Derived.KernelRfl
namespace Go.Proofs.YtnjfgcpmcjmddaaGreatDoor.lawTopAgreed
open Go
theorem fact4 : (Rows.topAgreedRow.named == Tryz.prog.varsNamed 3) = true := by kernel_rfl
end Go.Proofs.YtnjfgcpmcjmddaaGreatDoor.lawTopAgreed
