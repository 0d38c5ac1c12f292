/-
  What the types of the program are, for the rules of the Mem text.
-/
import Derived.Test.YtdeofenojcmbaaaRows
import Derived.Test.YtdeofenojcmbaaaMem
namespace Go.Proofs.Ytdeofenojcmbaaa
open Go Go.SL

theorem mixed : Try.prog.follows .mixedOrders = true := by kernel_rfl
theorem I3 : Try.prog.info? 3 = some Try.t3 := by kernel_rfl
theorem I5 : Try.prog.info? 5 = some Try.t5 := by kernel_rfl
theorem I9 : Try.prog.info? 9 = some Try.t9 := by kernel_rfl
theorem I48 : Try.prog.info? 48 = some Try.t48 := by kernel_rfl
theorem C3 : Cell1 Try.prog 3 := Try.isAgg3
theorem C42 : Cell1 Try.prog 42 := Try.isAgg42
theorem C46 : Cell1 Try.prog 46 := Try.isAgg46
theorem C5 : Cell1 Try.prog 5 := Try.isAgg5
theorem C9 : Cell1 Try.prog 9 := Try.isAgg9
theorem F48_0 : FieldAt Try.prog 48 0 0 := ⟨_, _, 0, Try.underlying48, rfl, rfl, Try.sizeOf46⟩
theorem F48_1 : FieldAt Try.prog 48 1 1 := ⟨_, _, 0, Try.underlying48, rfl, rfl, Try.sizeOf42⟩
theorem S36 : SlT Try.prog 36 9 1 16 (.string ⟨#[]⟩) := ⟨Try.underlying36, ⟨_, I9, rfl, rfl, rfl⟩, by kernel_rfl, by decide⟩
theorem S42 : SlT Try.prog 42 5 1 1 (.int .u8 0) := ⟨Try.underlying42, ⟨_, I5, rfl, rfl, rfl⟩, by kernel_rfl, by decide⟩
theorem S44 : SlT Try.prog 44 3 1 8 (.int .i64 0) := ⟨Try.underlying44, ⟨_, I3, rfl, rfl, rfl⟩, by kernel_rfl, by decide⟩
theorem Z42 : ∀ w, (sizeOf 42).run Try.prog w = .ok 1 w := Try.sizeOf42
theorem Z46 : ∀ w, (sizeOf 46).run Try.prog w = .ok 1 w := Try.sizeOf46
theorem Z5 : ∀ w, (sizeOf 5).run Try.prog w = .ok 1 w := Try.sizeOf5

end Go.Proofs.Ytdeofenojcmbaaa
