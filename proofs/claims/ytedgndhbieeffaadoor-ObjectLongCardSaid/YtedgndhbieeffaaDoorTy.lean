/-
  What the types of the program are, for the rules of the Mem text.
-/
import Derived.Test.YtedgndhbieeffaaDoorRows
import Derived.Test.YtedgndhbieeffaaDoorMem
import Derived.Test.YtedgndhbieeffaaDoorMap
import Derived.Test.YtedgndhbieeffaaDoorArr
import Derived.Test.YtedgndhbieeffaaDoorByc
import Derived.Test.YtedgndhbieeffaaDoorLib
namespace Go.Proofs.YtedgndhbieeffaaDoor
open Go Go.SL

theorem mixed : Tryd.prog.follows .mixedOrders = true := by kernel_rfl
theorem I3 : Tryd.prog.info? 3 = some Tryd.t3 := by kernel_rfl
theorem I5 : Tryd.prog.info? 5 = some Tryd.t5 := by kernel_rfl
theorem I9 : Tryd.prog.info? 9 = some Tryd.t9 := by kernel_rfl
theorem I23 : Tryd.prog.info? 23 = some Tryd.t23 := by kernel_rfl
theorem I24 : Tryd.prog.info? 24 = some Tryd.t24 := by kernel_rfl
theorem I26 : Tryd.prog.info? 26 = some Tryd.t26 := by kernel_rfl
theorem I30 : Tryd.prog.info? 30 = some Tryd.t30 := by kernel_rfl
theorem I38 : Tryd.prog.info? 38 = some Tryd.t38 := by kernel_rfl
theorem I40 : Tryd.prog.info? 40 = some Tryd.t40 := by kernel_rfl
theorem I42 : Tryd.prog.info? 42 = some Tryd.t42 := by kernel_rfl
theorem I45 : Tryd.prog.info? 45 = some Tryd.t45 := by kernel_rfl
theorem I46 : Tryd.prog.info? 46 = some Tryd.t46 := by kernel_rfl
theorem I47 : Tryd.prog.info? 47 = some Tryd.t47 := by kernel_rfl
theorem I49 : Tryd.prog.info? 49 = some Tryd.t49 := by kernel_rfl
theorem I61 : Tryd.prog.info? 61 = some Tryd.t61 := by kernel_rfl
theorem I65 : Tryd.prog.info? 65 = some Tryd.t65 := by kernel_rfl
theorem I73 : Tryd.prog.info? 73 = some Tryd.t73 := by kernel_rfl
theorem A40 : ArT Tryd.prog 40 8 38 1 := ⟨Tryd.underlying40, Tryd.sizeOf38⟩
theorem A61 : ArT Tryd.prog 61 8 5 1 := ⟨Tryd.underlying61, Tryd.sizeOf5⟩
theorem A73 : ArT Tryd.prog 73 64 38 1 := ⟨Tryd.underlying73, Tryd.sizeOf38⟩
theorem Bs26 : FieldPlaces Tryd.prog 26 [(0, 1), (1, 1), (2, 1), (3, 1), (4, 1), (5, 1), (6, 1), (7, 1), (8, 1), (9, 1)] := ⟨_, Tryd.underlying26, fun w => by simp [Tryd.sizeOf23, Tryd.sizeOf24, Tryd.sizeOf3, Tryd.sizeOf9]⟩
theorem Bs30 : FieldPlaces Tryd.prog 30 [(0, 1), (1, 1)] := ⟨_, Tryd.underlying30, fun w => by simp [Tryd.sizeOf9]⟩
theorem Bs49 : FieldPlaces Tryd.prog 49 [(0, 1), (1, 1), (2, 1)] := ⟨_, Tryd.underlying49, fun w => by simp [Tryd.sizeOf45, Tryd.sizeOf46, Tryd.sizeOf47]⟩
theorem C23 : Cell1 Tryd.prog 23 := Tryd.isAgg23
theorem C24 : Cell1 Tryd.prog 24 := Tryd.isAgg24
theorem C27 : Cell1 Tryd.prog 27 := Tryd.isAgg27
theorem C3 : Cell1 Tryd.prog 3 := Tryd.isAgg3
theorem C38 : Cell1 Tryd.prog 38 := Tryd.isAgg38
theorem C4 : Cell1 Tryd.prog 4 := Tryd.isAgg4
theorem C45 : Cell1 Tryd.prog 45 := Tryd.isAgg45
theorem C46 : Cell1 Tryd.prog 46 := Tryd.isAgg46
theorem C47 : Cell1 Tryd.prog 47 := Tryd.isAgg47
theorem C5 : Cell1 Tryd.prog 5 := Tryd.isAgg5
theorem C63 : Cell1 Tryd.prog 63 := Tryd.isAgg63
theorem C9 : Cell1 Tryd.prog 9 := Tryd.isAgg9
theorem F26_0 : FieldAt Tryd.prog 26 0 0 := ⟨_, _, 0, Tryd.underlying26, rfl, rfl, Tryd.sizeOf3⟩
theorem F26_1 : FieldAt Tryd.prog 26 1 1 := ⟨_, _, 0, Tryd.underlying26, rfl, rfl, Tryd.sizeOf9⟩
theorem F26_2 : FieldAt Tryd.prog 26 2 2 := ⟨_, _, 0, Tryd.underlying26, rfl, rfl, Tryd.sizeOf23⟩
theorem F26_3 : FieldAt Tryd.prog 26 3 3 := ⟨_, _, 0, Tryd.underlying26, rfl, rfl, Tryd.sizeOf9⟩
theorem F26_4 : FieldAt Tryd.prog 26 4 4 := ⟨_, _, 0, Tryd.underlying26, rfl, rfl, Tryd.sizeOf24⟩
theorem F26_5 : FieldAt Tryd.prog 26 5 5 := ⟨_, _, 0, Tryd.underlying26, rfl, rfl, Tryd.sizeOf9⟩
theorem F26_6 : FieldAt Tryd.prog 26 6 6 := ⟨_, _, 0, Tryd.underlying26, rfl, rfl, Tryd.sizeOf9⟩
theorem F26_7 : FieldAt Tryd.prog 26 7 7 := ⟨_, _, 0, Tryd.underlying26, rfl, rfl, Tryd.sizeOf3⟩
theorem F26_8 : FieldAt Tryd.prog 26 8 8 := ⟨_, _, 0, Tryd.underlying26, rfl, rfl, Tryd.sizeOf9⟩
theorem F26_9 : FieldAt Tryd.prog 26 9 9 := ⟨_, _, 0, Tryd.underlying26, rfl, rfl, Tryd.sizeOf9⟩
theorem F30_0 : FieldAt Tryd.prog 30 0 0 := ⟨_, _, 0, Tryd.underlying30, rfl, rfl, Tryd.sizeOf9⟩
theorem F30_1 : FieldAt Tryd.prog 30 1 1 := ⟨_, _, 0, Tryd.underlying30, rfl, rfl, Tryd.sizeOf9⟩
theorem F42_0 : FieldAt Tryd.prog 42 0 0 := ⟨_, _, 7, Tryd.underlying42, rfl, rfl, Tryd.sizeOf40⟩
theorem F42_1 : FieldAt Tryd.prog 42 1 8 := ⟨_, _, 0, Tryd.underlying42, rfl, rfl, Tryd.sizeOf4⟩
theorem F42_2 : FieldAt Tryd.prog 42 2 9 := ⟨_, _, 0, Tryd.underlying42, rfl, rfl, Tryd.sizeOf9⟩
theorem F42_3 : FieldAt Tryd.prog 42 3 10 := ⟨_, _, 0, Tryd.underlying42, rfl, rfl, Tryd.sizeOf3⟩
theorem F49_0 : FieldAt Tryd.prog 49 0 0 := ⟨_, _, 0, Tryd.underlying49, rfl, rfl, Tryd.sizeOf45⟩
theorem F49_1 : FieldAt Tryd.prog 49 1 1 := ⟨_, _, 0, Tryd.underlying49, rfl, rfl, Tryd.sizeOf46⟩
theorem F49_2 : FieldAt Tryd.prog 49 2 2 := ⟨_, _, 0, Tryd.underlying49, rfl, rfl, Tryd.sizeOf47⟩
theorem F65_0 : FieldAt Tryd.prog 65 0 0 := ⟨_, _, 0, Tryd.underlying65, rfl, rfl, Tryd.sizeOf63⟩
theorem F65_1 : FieldAt Tryd.prog 65 1 1 := ⟨_, _, 0, Tryd.underlying65, rfl, rfl, Tryd.sizeOf27⟩
theorem G26 : Agg Tryd.prog 26 10 := ⟨Tryd.isAgg26, Tryd.sizeOf26⟩
theorem G30 : Agg Tryd.prog 30 2 := ⟨Tryd.isAgg30, Tryd.sizeOf30⟩
theorem G40 : Agg Tryd.prog 40 8 := ⟨Tryd.isAgg40, Tryd.sizeOf40⟩
theorem G42 : Agg Tryd.prog 42 11 := ⟨Tryd.isAgg42, Tryd.sizeOf42⟩
theorem G49 : Agg Tryd.prog 49 3 := ⟨Tryd.isAgg49, Tryd.sizeOf49⟩
theorem G73 : Agg Tryd.prog 73 64 := ⟨Tryd.isAgg73, Tryd.sizeOf73⟩
theorem S23 : SlT Tryd.prog 23 30 2 32 (.agg #[(.string ⟨#[]⟩), (.string ⟨#[]⟩)]) := ⟨Tryd.underlying23, ⟨_, I30, rfl, rfl, rfl⟩, by kernel_rfl, by decide⟩
theorem S24 : SlT Tryd.prog 24 9 1 16 (.string ⟨#[]⟩) := ⟨Tryd.underlying24, ⟨_, I9, rfl, rfl, rfl⟩, by kernel_rfl, by decide⟩
theorem S27 : SlT Tryd.prog 27 5 1 1 (.int .u8 0) := ⟨Tryd.underlying27, ⟨_, I5, rfl, rfl, rfl⟩, by kernel_rfl, by decide⟩
theorem Z23 : ∀ w, (sizeOf 23).run Tryd.prog w = .ok 1 w := Tryd.sizeOf23
theorem Z24 : ∀ w, (sizeOf 24).run Tryd.prog w = .ok 1 w := Tryd.sizeOf24
theorem Z27 : ∀ w, (sizeOf 27).run Tryd.prog w = .ok 1 w := Tryd.sizeOf27
theorem Z3 : ∀ w, (sizeOf 3).run Tryd.prog w = .ok 1 w := Tryd.sizeOf3
theorem Z38 : ∀ w, (sizeOf 38).run Tryd.prog w = .ok 1 w := Tryd.sizeOf38
theorem Z4 : ∀ w, (sizeOf 4).run Tryd.prog w = .ok 1 w := Tryd.sizeOf4
theorem Z5 : ∀ w, (sizeOf 5).run Tryd.prog w = .ok 1 w := Tryd.sizeOf5
theorem Z63 : ∀ w, (sizeOf 63).run Tryd.prog w = .ok 1 w := Tryd.sizeOf63
theorem Z9 : ∀ w, (sizeOf 9).run Tryd.prog w = .ok 1 w := Tryd.sizeOf9

end Go.Proofs.YtedgndhbieeffaaDoor
