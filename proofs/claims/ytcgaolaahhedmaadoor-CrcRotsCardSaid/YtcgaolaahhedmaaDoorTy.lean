/-
  What the types of the program are, for the rules of the Mem text.
-/
import Derived.Test.YtcgaolaahhedmaaDoorRows
import Derived.Test.YtcgaolaahhedmaaDoorMem
import Derived.Test.YtcgaolaahhedmaaDoorMap
import Derived.Test.YtcgaolaahhedmaaDoorArr
import Derived.Test.YtcgaolaahhedmaaDoorByc
namespace Go.Proofs.YtcgaolaahhedmaaDoor
open Go Go.SL

theorem mixed : Tryd.prog.follows .mixedOrders = true := by kernel_rfl
theorem I3 : Tryd.prog.info? 3 = some Tryd.t3 := by kernel_rfl
theorem I5 : Tryd.prog.info? 5 = some Tryd.t5 := by kernel_rfl
theorem I9 : Tryd.prog.info? 9 = some Tryd.t9 := by kernel_rfl
theorem I23 : Tryd.prog.info? 23 = some Tryd.t23 := by kernel_rfl
theorem I27 : Tryd.prog.info? 27 = some Tryd.t27 := by kernel_rfl
theorem I33 : Tryd.prog.info? 33 = some Tryd.t33 := by kernel_rfl
theorem I54 : Tryd.prog.info? 54 = some Tryd.t54 := by kernel_rfl
theorem A27 : ArT Tryd.prog 27 2 3 1 := ⟨Tryd.underlying27, Tryd.sizeOf3⟩
theorem A33 : ArT Tryd.prog 33 2 9 1 := ⟨Tryd.underlying33, Tryd.sizeOf9⟩
theorem A44 : ArT Tryd.prog 44 16 23 1 := ⟨Tryd.underlying44, Tryd.sizeOf23⟩
theorem C23 : Cell1 Tryd.prog 23 := Tryd.isAgg23
theorem C28 : Cell1 Tryd.prog 28 := Tryd.isAgg28
theorem C3 : Cell1 Tryd.prog 3 := Tryd.isAgg3
theorem C5 : Cell1 Tryd.prog 5 := Tryd.isAgg5
theorem C52 : Cell1 Tryd.prog 52 := Tryd.isAgg52
theorem C9 : Cell1 Tryd.prog 9 := Tryd.isAgg9
theorem F54_0 : FieldAt Tryd.prog 54 0 0 := ⟨_, _, 0, Tryd.underlying54, rfl, rfl, Tryd.sizeOf52⟩
theorem F54_1 : FieldAt Tryd.prog 54 1 1 := ⟨_, _, 0, Tryd.underlying54, rfl, rfl, Tryd.sizeOf28⟩
theorem G44 : Agg Tryd.prog 44 16 := ⟨Tryd.isAgg44, Tryd.sizeOf44⟩
theorem S28 : SlT Tryd.prog 28 5 1 1 (.int .u8 0) := ⟨Tryd.underlying28, ⟨_, I5, rfl, rfl, rfl⟩, by kernel_rfl, by decide⟩
theorem S40 : SlT Tryd.prog 40 9 1 16 (.string ⟨#[]⟩) := ⟨Tryd.underlying40, ⟨_, I9, rfl, rfl, rfl⟩, by kernel_rfl, by decide⟩
theorem S41 : SlT Tryd.prog 41 3 1 8 (.int .i64 0) := ⟨Tryd.underlying41, ⟨_, I3, rfl, rfl, rfl⟩, by kernel_rfl, by decide⟩
theorem Z28 : ∀ w, (sizeOf 28).run Tryd.prog w = .ok 1 w := Tryd.sizeOf28
theorem Z5 : ∀ w, (sizeOf 5).run Tryd.prog w = .ok 1 w := Tryd.sizeOf5
theorem Z52 : ∀ w, (sizeOf 52).run Tryd.prog w = .ok 1 w := Tryd.sizeOf52

end Go.Proofs.YtcgaolaahhedmaaDoor
