/-
  The closed facts on the program together: no condition.
-/
import Derived.Test.YtebpkhlifcffnaaGreatDoorLF1
import Derived.Test.YtebpkhlifcffnaaGreatDoorLF2
import Derived.Test.YtebpkhlifcffnaaGreatDoorLF3
import Derived.Test.YtebpkhlifcffnaaGreatDoorLF4
import Derived.JoinedCond
import Derived.KernelRfl
namespace Go.Proofs.YtebpkhlifcffnaaGreatDoor.lawTopTogether
open Go
set_option maxRecDepth 100000 in
theorem closed : joinedFacts Tryz.pinned.checked.prog 3 Tryz.f3 (OpenSpec.ofChange Rows.topTogetherSpec).bare Rows.topTogetherRow = true := by
  unfold joinedFacts
  rw [show (Rows.topTogetherRow.inPlace == Tryz.pinned.checked.prog.inPlace 3) = true from Qx, show (Rows.topTogetherRow.unfollowed == Tryz.pinned.checked.prog.unfollowed 3) = true from QZ, show (Rows.topTogetherRow.recurses == Tryz.pinned.checked.prog.recurses 3) = true from QP, show (Rows.topTogetherRow.named == Tryz.pinned.checked.prog.varsNamed 3) = true from QQ]
  kernel_rfl
end Go.Proofs.YtebpkhlifcffnaaGreatDoor.lawTopTogether
