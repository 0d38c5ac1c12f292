/-
  What the types of the program are, for the rules of the Mem text.
-/
import Derived.Test.YtcojkjalpkagoaaDoorRows
import Derived.Test.YtcojkjalpkagoaaDoorMem
import Derived.Test.YtcojkjalpkagoaaDoorMap
import Derived.Test.YtcojkjalpkagoaaDoorArr
import Derived.Test.YtcojkjalpkagoaaDoorByc
import Derived.Test.YtcojkjalpkagoaaDoorLib
namespace Go.Proofs.YtcojkjalpkagoaaDoor
open Go Go.SL

theorem mixed : Tryd.prog.follows .mixedOrders = true := by kernel_rfl
theorem I3 : Tryd.prog.info? 3 = some Tryd.t3 := by kernel_rfl
theorem I5 : Tryd.prog.info? 5 = some Tryd.t5 := by kernel_rfl
theorem I9 : Tryd.prog.info? 9 = some Tryd.t9 := by kernel_rfl
theorem I25 : Tryd.prog.info? 25 = some Tryd.t25 := by kernel_rfl
theorem I27 : Tryd.prog.info? 27 = some Tryd.t27 := by kernel_rfl
theorem I29 : Tryd.prog.info? 29 = some Tryd.t29 := by kernel_rfl
theorem I50 : Tryd.prog.info? 50 = some Tryd.t50 := by kernel_rfl
theorem I52 : Tryd.prog.info? 52 = some Tryd.t52 := by kernel_rfl
theorem I60 : Tryd.prog.info? 60 = some Tryd.t60 := by kernel_rfl
theorem A27 : ArT Tryd.prog 27 8 25 1 := ⟨Tryd.underlying27, Tryd.sizeOf25⟩
theorem A50 : ArT Tryd.prog 50 8 5 1 := ⟨Tryd.underlying50, Tryd.sizeOf5⟩
theorem A52 : ArT Tryd.prog 52 64 25 1 := ⟨Tryd.underlying52, Tryd.sizeOf25⟩
theorem C25 : Cell1 Tryd.prog 25 := Tryd.isAgg25
theorem C3 : Cell1 Tryd.prog 3 := Tryd.isAgg3
theorem C4 : Cell1 Tryd.prog 4 := Tryd.isAgg4
theorem C43 : Cell1 Tryd.prog 43 := Tryd.isAgg43
theorem C5 : Cell1 Tryd.prog 5 := Tryd.isAgg5
theorem C58 : Cell1 Tryd.prog 58 := Tryd.isAgg58
theorem C9 : Cell1 Tryd.prog 9 := Tryd.isAgg9
theorem F29_0 : FieldAt Tryd.prog 29 0 0 := ⟨_, _, 7, Tryd.underlying29, rfl, rfl, Tryd.sizeOf27⟩
theorem F29_1 : FieldAt Tryd.prog 29 1 8 := ⟨_, _, 0, Tryd.underlying29, rfl, rfl, Tryd.sizeOf4⟩
theorem F29_2 : FieldAt Tryd.prog 29 2 9 := ⟨_, _, 0, Tryd.underlying29, rfl, rfl, Tryd.sizeOf9⟩
theorem F29_3 : FieldAt Tryd.prog 29 3 10 := ⟨_, _, 0, Tryd.underlying29, rfl, rfl, Tryd.sizeOf3⟩
theorem F60_0 : FieldAt Tryd.prog 60 0 0 := ⟨_, _, 0, Tryd.underlying60, rfl, rfl, Tryd.sizeOf58⟩
theorem F60_1 : FieldAt Tryd.prog 60 1 1 := ⟨_, _, 0, Tryd.underlying60, rfl, rfl, Tryd.sizeOf43⟩
theorem G27 : Agg Tryd.prog 27 8 := ⟨Tryd.isAgg27, Tryd.sizeOf27⟩
theorem G29 : Agg Tryd.prog 29 11 := ⟨Tryd.isAgg29, Tryd.sizeOf29⟩
theorem G52 : Agg Tryd.prog 52 64 := ⟨Tryd.isAgg52, Tryd.sizeOf52⟩
theorem S22 : SlT Tryd.prog 22 3 1 8 (.int .i64 0) := ⟨Tryd.underlying22, ⟨_, I3, rfl, rfl, rfl⟩, by kernel_rfl, by decide⟩
theorem S30 : SlT Tryd.prog 30 9 1 16 (.string ⟨#[]⟩) := ⟨Tryd.underlying30, ⟨_, I9, rfl, rfl, rfl⟩, by kernel_rfl, by decide⟩
theorem S41 : SlT Tryd.prog 41 25 1 4 (.int .u32 0) := ⟨Tryd.underlying41, ⟨_, I25, rfl, rfl, rfl⟩, by kernel_rfl, by decide⟩
theorem S43 : SlT Tryd.prog 43 5 1 1 (.int .u8 0) := ⟨Tryd.underlying43, ⟨_, I5, rfl, rfl, rfl⟩, by kernel_rfl, by decide⟩
theorem Z25 : ∀ w, (sizeOf 25).run Tryd.prog w = .ok 1 w := Tryd.sizeOf25
theorem Z3 : ∀ w, (sizeOf 3).run Tryd.prog w = .ok 1 w := Tryd.sizeOf3
theorem Z4 : ∀ w, (sizeOf 4).run Tryd.prog w = .ok 1 w := Tryd.sizeOf4
theorem Z43 : ∀ w, (sizeOf 43).run Tryd.prog w = .ok 1 w := Tryd.sizeOf43
theorem Z5 : ∀ w, (sizeOf 5).run Tryd.prog w = .ok 1 w := Tryd.sizeOf5
theorem Z58 : ∀ w, (sizeOf 58).run Tryd.prog w = .ok 1 w := Tryd.sizeOf58
theorem Z9 : ∀ w, (sizeOf 9).run Tryd.prog w = .ok 1 w := Tryd.sizeOf9

end Go.Proofs.YtcojkjalpkagoaaDoor
