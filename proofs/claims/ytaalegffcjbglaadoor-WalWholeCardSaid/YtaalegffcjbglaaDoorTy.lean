/-
  What the types of the program are, for the rules of the Mem text.
-/
import Derived.Test.YtaalegffcjbglaaDoorRows
import Derived.Test.YtaalegffcjbglaaDoorMem
import Derived.Test.YtaalegffcjbglaaDoorMap
import Derived.Test.YtaalegffcjbglaaDoorArr
import Derived.Test.YtaalegffcjbglaaDoorByc
import Derived.Test.YtaalegffcjbglaaDoorLib
namespace Go.Proofs.YtaalegffcjbglaaDoor
open Go Go.SL

theorem mixed : Tryd.prog.follows .mixedOrders = true := by kernel_rfl
theorem I3 : Tryd.prog.info? 3 = some Tryd.t3 := by kernel_rfl
theorem I4 : Tryd.prog.info? 4 = some Tryd.t4 := by kernel_rfl
theorem I5 : Tryd.prog.info? 5 = some Tryd.t5 := by kernel_rfl
theorem I9 : Tryd.prog.info? 9 = some Tryd.t9 := by kernel_rfl
theorem I22 : Tryd.prog.info? 22 = some Tryd.t22 := by kernel_rfl
theorem I25 : Tryd.prog.info? 25 = some Tryd.t25 := by kernel_rfl
theorem I32 : Tryd.prog.info? 32 = some Tryd.t32 := by kernel_rfl
theorem I38 : Tryd.prog.info? 38 = some Tryd.t38 := by kernel_rfl
theorem I39 : Tryd.prog.info? 39 = some Tryd.t39 := by kernel_rfl
theorem I41 : Tryd.prog.info? 41 = some Tryd.t41 := by kernel_rfl
theorem I48 : Tryd.prog.info? 48 = some Tryd.t48 := by kernel_rfl
theorem I49 : Tryd.prog.info? 49 = some Tryd.t49 := by kernel_rfl
theorem I51 : Tryd.prog.info? 51 = some Tryd.t51 := by kernel_rfl
theorem I55 : Tryd.prog.info? 55 = some Tryd.t55 := by kernel_rfl
theorem I57 : Tryd.prog.info? 57 = some Tryd.t57 := by kernel_rfl
theorem I63 : Tryd.prog.info? 63 = some Tryd.t63 := by kernel_rfl
theorem I73 : Tryd.prog.info? 73 = some Tryd.t73 := by kernel_rfl
theorem I74 : Tryd.prog.info? 74 = some Tryd.t74 := by kernel_rfl
theorem I79 : Tryd.prog.info? 79 = some Tryd.t79 := by kernel_rfl
theorem I81 : Tryd.prog.info? 81 = some Tryd.t81 := by kernel_rfl
theorem I84 : Tryd.prog.info? 84 = some Tryd.t84 := by kernel_rfl
theorem I96 : Tryd.prog.info? 96 = some Tryd.t96 := by kernel_rfl
theorem I98 : Tryd.prog.info? 98 = some Tryd.t98 := by kernel_rfl
theorem I101 : Tryd.prog.info? 101 = some Tryd.t101 := by kernel_rfl
theorem I105 : Tryd.prog.info? 105 = some Tryd.t105 := by kernel_rfl
theorem I113 : Tryd.prog.info? 113 = some Tryd.t113 := by kernel_rfl
theorem I118 : Tryd.prog.info? 118 = some Tryd.t118 := by kernel_rfl
theorem I133 : Tryd.prog.info? 133 = some Tryd.t133 := by kernel_rfl
theorem A133 : ArT Tryd.prog 133 16 113 1 := ⟨Tryd.underlying133, Tryd.sizeOf113⟩
theorem A22 : ArT Tryd.prog 22 3 3 1 := ⟨Tryd.underlying22, Tryd.sizeOf3⟩
theorem A63 : ArT Tryd.prog 63 2 39 1 := ⟨Tryd.underlying63, Tryd.sizeOf39⟩
theorem Bs101 : FieldPlaces Tryd.prog 101 [(0, 1), (1, 1)] := ⟨_, Tryd.underlying101, fun w => by simp [Tryd.sizeOf3, Tryd.sizeOf39]⟩
theorem Bs105 : FieldPlaces Tryd.prog 105 [(0, 1), (1, 1)] := ⟨_, Tryd.underlying105, fun w => by simp [Tryd.sizeOf3, Tryd.sizeOf9]⟩
theorem Bs32 : FieldPlaces Tryd.prog 32 [(0, 1), (1, 1)] := ⟨_, Tryd.underlying32, fun w => by simp [Tryd.sizeOf3]⟩
theorem Bs51 : FieldPlaces Tryd.prog 51 [(0, 1), (1, 1), (2, 1), (3, 1), (4, 1), (5, 1)] := ⟨_, Tryd.underlying51, fun w => by simp [Tryd.sizeOf3, Tryd.sizeOf39, Tryd.sizeOf4, Tryd.sizeOf48, Tryd.sizeOf49]⟩
theorem Bs55 : FieldPlaces Tryd.prog 55 [(0, 1), (1, 1)] := ⟨_, Tryd.underlying55, fun w => by simp [Tryd.sizeOf3, Tryd.sizeOf9]⟩
theorem Bs57 : FieldPlaces Tryd.prog 57 [(0, 1), (1, 1)] := ⟨_, Tryd.underlying57, fun w => by simp [Tryd.sizeOf3, Tryd.sizeOf9]⟩
theorem Bs81 : FieldPlaces Tryd.prog 81 [(0, 1), (1, 1), (2, 1), (3, 1), (4, 1)] := ⟨_, Tryd.underlying81, fun w => by simp [Tryd.sizeOf4, Tryd.sizeOf48, Tryd.sizeOf73, Tryd.sizeOf74, Tryd.sizeOf79]⟩
theorem Bs84 : FieldPlaces Tryd.prog 84 [(0, 1), (1, 1), (2, 1)] := ⟨_, Tryd.underlying84, fun w => by simp [Tryd.sizeOf25, Tryd.sizeOf3]⟩
theorem Bs98 : FieldPlaces Tryd.prog 98 [(0, 1), (1, 1)] := ⟨_, Tryd.underlying98, fun w => by simp [Tryd.sizeOf3, Tryd.sizeOf9]⟩
theorem C112 : Cell1 Tryd.prog 112 := Tryd.isAgg112
theorem C113 : Cell1 Tryd.prog 113 := Tryd.isAgg113
theorem C116 : Cell1 Tryd.prog 116 := Tryd.isAgg116
theorem C25 : Cell1 Tryd.prog 25 := Tryd.isAgg25
theorem C3 : Cell1 Tryd.prog 3 := Tryd.isAgg3
theorem C38 : Cell1 Tryd.prog 38 := Tryd.isAgg38
theorem C39 : Cell1 Tryd.prog 39 := Tryd.isAgg39
theorem C4 : Cell1 Tryd.prog 4 := Tryd.isAgg4
theorem C48 : Cell1 Tryd.prog 48 := Tryd.isAgg48
theorem C49 : Cell1 Tryd.prog 49 := Tryd.isAgg49
theorem C73 : Cell1 Tryd.prog 73 := Tryd.isAgg73
theorem C74 : Cell1 Tryd.prog 74 := Tryd.isAgg74
theorem C9 : Cell1 Tryd.prog 9 := Tryd.isAgg9
theorem F101_0 : FieldAt Tryd.prog 101 0 0 := ⟨_, _, 0, Tryd.underlying101, rfl, rfl, Tryd.sizeOf3⟩
theorem F101_1 : FieldAt Tryd.prog 101 1 1 := ⟨_, _, 0, Tryd.underlying101, rfl, rfl, Tryd.sizeOf39⟩
theorem F105_0 : FieldAt Tryd.prog 105 0 0 := ⟨_, _, 0, Tryd.underlying105, rfl, rfl, Tryd.sizeOf3⟩
theorem F105_1 : FieldAt Tryd.prog 105 1 1 := ⟨_, _, 0, Tryd.underlying105, rfl, rfl, Tryd.sizeOf9⟩
theorem F118_0 : FieldAt Tryd.prog 118 0 0 := ⟨_, _, 0, Tryd.underlying118, rfl, rfl, Tryd.sizeOf116⟩
theorem F118_1 : FieldAt Tryd.prog 118 1 1 := ⟨_, _, 0, Tryd.underlying118, rfl, rfl, Tryd.sizeOf112⟩
theorem F32_0 : FieldAt Tryd.prog 32 0 0 := ⟨_, _, 0, Tryd.underlying32, rfl, rfl, Tryd.sizeOf3⟩
theorem F32_1 : FieldAt Tryd.prog 32 1 1 := ⟨_, _, 0, Tryd.underlying32, rfl, rfl, Tryd.sizeOf3⟩
theorem F41_0 : FieldAt Tryd.prog 41 0 0 := ⟨_, _, 0, Tryd.underlying41, rfl, rfl, Tryd.sizeOf3⟩
theorem F41_1 : FieldAt Tryd.prog 41 1 1 := ⟨_, _, 0, Tryd.underlying41, rfl, rfl, Tryd.sizeOf3⟩
theorem F41_2 : FieldAt Tryd.prog 41 2 2 := ⟨_, _, 0, Tryd.underlying41, rfl, rfl, Tryd.sizeOf38⟩
theorem F41_3 : FieldAt Tryd.prog 41 3 3 := ⟨_, _, 0, Tryd.underlying41, rfl, rfl, Tryd.sizeOf39⟩
theorem F51_0 : FieldAt Tryd.prog 51 0 0 := ⟨_, _, 0, Tryd.underlying51, rfl, rfl, Tryd.sizeOf48⟩
theorem F51_1 : FieldAt Tryd.prog 51 1 1 := ⟨_, _, 0, Tryd.underlying51, rfl, rfl, Tryd.sizeOf49⟩
theorem F51_2 : FieldAt Tryd.prog 51 2 2 := ⟨_, _, 0, Tryd.underlying51, rfl, rfl, Tryd.sizeOf3⟩
theorem F51_3 : FieldAt Tryd.prog 51 3 3 := ⟨_, _, 0, Tryd.underlying51, rfl, rfl, Tryd.sizeOf39⟩
theorem F51_4 : FieldAt Tryd.prog 51 4 4 := ⟨_, _, 0, Tryd.underlying51, rfl, rfl, Tryd.sizeOf4⟩
theorem F51_5 : FieldAt Tryd.prog 51 5 5 := ⟨_, _, 0, Tryd.underlying51, rfl, rfl, Tryd.sizeOf3⟩
theorem F55_0 : FieldAt Tryd.prog 55 0 0 := ⟨_, _, 0, Tryd.underlying55, rfl, rfl, Tryd.sizeOf3⟩
theorem F55_1 : FieldAt Tryd.prog 55 1 1 := ⟨_, _, 0, Tryd.underlying55, rfl, rfl, Tryd.sizeOf9⟩
theorem F57_0 : FieldAt Tryd.prog 57 0 0 := ⟨_, _, 0, Tryd.underlying57, rfl, rfl, Tryd.sizeOf3⟩
theorem F57_1 : FieldAt Tryd.prog 57 1 1 := ⟨_, _, 0, Tryd.underlying57, rfl, rfl, Tryd.sizeOf9⟩
theorem F79_2 : FieldAt Tryd.prog 79 2 0 := ⟨_, _, 0, Tryd.underlying79, rfl, rfl, Tryd.sizeOf2⟩
theorem F81_0 : FieldAt Tryd.prog 81 0 0 := ⟨_, _, 0, Tryd.underlying81, rfl, rfl, Tryd.sizeOf48⟩
theorem F81_1 : FieldAt Tryd.prog 81 1 1 := ⟨_, _, 0, Tryd.underlying81, rfl, rfl, Tryd.sizeOf73⟩
theorem F81_2 : FieldAt Tryd.prog 81 2 2 := ⟨_, _, 0, Tryd.underlying81, rfl, rfl, Tryd.sizeOf74⟩
theorem F81_3 : FieldAt Tryd.prog 81 3 3 := ⟨_, _, 0, Tryd.underlying81, rfl, rfl, Tryd.sizeOf4⟩
theorem F81_4 : FieldAt Tryd.prog 81 4 4 := ⟨_, _, 0, Tryd.underlying81, rfl, rfl, Tryd.sizeOf79⟩
theorem F84_0 : FieldAt Tryd.prog 84 0 0 := ⟨_, _, 0, Tryd.underlying84, rfl, rfl, Tryd.sizeOf25⟩
theorem F84_1 : FieldAt Tryd.prog 84 1 1 := ⟨_, _, 0, Tryd.underlying84, rfl, rfl, Tryd.sizeOf3⟩
theorem F84_2 : FieldAt Tryd.prog 84 2 2 := ⟨_, _, 0, Tryd.underlying84, rfl, rfl, Tryd.sizeOf3⟩
theorem F96_0 : FieldAt Tryd.prog 96 0 0 := ⟨_, _, 0, Tryd.underlying96, rfl, rfl, Tryd.sizeOf3⟩
theorem F96_1 : FieldAt Tryd.prog 96 1 1 := ⟨_, _, 0, Tryd.underlying96, rfl, rfl, Tryd.sizeOf9⟩
theorem F98_0 : FieldAt Tryd.prog 98 0 0 := ⟨_, _, 0, Tryd.underlying98, rfl, rfl, Tryd.sizeOf3⟩
theorem F98_1 : FieldAt Tryd.prog 98 1 1 := ⟨_, _, 0, Tryd.underlying98, rfl, rfl, Tryd.sizeOf9⟩
theorem G105 : Agg Tryd.prog 105 2 := ⟨Tryd.isAgg105, Tryd.sizeOf105⟩
theorem G133 : Agg Tryd.prog 133 16 := ⟨Tryd.isAgg133, Tryd.sizeOf133⟩
theorem G32 : Agg Tryd.prog 32 2 := ⟨Tryd.isAgg32, Tryd.sizeOf32⟩
theorem G41 : Agg Tryd.prog 41 4 := ⟨Tryd.isAgg41, Tryd.sizeOf41⟩
theorem G55 : Agg Tryd.prog 55 2 := ⟨Tryd.isAgg55, Tryd.sizeOf55⟩
theorem G57 : Agg Tryd.prog 57 2 := ⟨Tryd.isAgg57, Tryd.sizeOf57⟩
theorem S112 : SlT Tryd.prog 112 5 1 1 (.int .u8 0) := ⟨Tryd.underlying112, ⟨_, I5, rfl, rfl, rfl⟩, by kernel_rfl, by decide⟩
theorem S23 : SlT Tryd.prog 23 41 4 64 (.agg #[(.int .i64 0), (.int .i64 0), (.slice none 0 0), (.slice none 0 0)]) := ⟨Tryd.underlying23, ⟨_, I41, rfl, rfl, rfl⟩, by kernel_rfl, by decide⟩
theorem S38 : SlT Tryd.prog 38 96 2 24 (.agg #[(.int .i64 0), (.string ⟨#[]⟩)]) := ⟨Tryd.underlying38, ⟨_, I96, rfl, rfl, rfl⟩, by kernel_rfl, by decide⟩
theorem S39 : SlT Tryd.prog 39 3 1 8 (.int .i64 0) := ⟨Tryd.underlying39, ⟨_, I3, rfl, rfl, rfl⟩, by kernel_rfl, by decide⟩
theorem S42 : SlT Tryd.prog 42 55 2 24 (.agg #[(.int .i64 0), (.string ⟨#[]⟩)]) := ⟨Tryd.underlying42, ⟨_, I55, rfl, rfl, rfl⟩, by kernel_rfl, by decide⟩
theorem S43 : SlT Tryd.prog 43 57 2 24 (.agg #[(.int .i64 0), (.string ⟨#[]⟩)]) := ⟨Tryd.underlying43, ⟨_, I57, rfl, rfl, rfl⟩, by kernel_rfl, by decide⟩
theorem S48 : SlT Tryd.prog 48 9 1 16 (.string ⟨#[]⟩) := ⟨Tryd.underlying48, ⟨_, I9, rfl, rfl, rfl⟩, by kernel_rfl, by decide⟩
theorem S49 : SlT Tryd.prog 49 98 2 24 (.agg #[(.int .i64 0), (.string ⟨#[]⟩)]) := ⟨Tryd.underlying49, ⟨_, I98, rfl, rfl, rfl⟩, by kernel_rfl, by decide⟩
theorem S62 : SlT Tryd.prog 62 38 1 24 (.slice none 0 0) := ⟨Tryd.underlying62, ⟨_, I38, rfl, rfl, rfl⟩, by kernel_rfl, by decide⟩
theorem S73 : SlT Tryd.prog 73 105 2 24 (.agg #[(.int .i64 0), (.string ⟨#[]⟩)]) := ⟨Tryd.underlying73, ⟨_, I105, rfl, rfl, rfl⟩, by kernel_rfl, by decide⟩
theorem Z112 : ∀ w, (sizeOf 112).run Tryd.prog w = .ok 1 w := Tryd.sizeOf112
theorem Z116 : ∀ w, (sizeOf 116).run Tryd.prog w = .ok 1 w := Tryd.sizeOf116
theorem Z3 : ∀ w, (sizeOf 3).run Tryd.prog w = .ok 1 w := Tryd.sizeOf3
theorem Z39 : ∀ w, (sizeOf 39).run Tryd.prog w = .ok 1 w := Tryd.sizeOf39
theorem Z4 : ∀ w, (sizeOf 4).run Tryd.prog w = .ok 1 w := Tryd.sizeOf4
theorem Z48 : ∀ w, (sizeOf 48).run Tryd.prog w = .ok 1 w := Tryd.sizeOf48
theorem Z49 : ∀ w, (sizeOf 49).run Tryd.prog w = .ok 1 w := Tryd.sizeOf49
theorem Z73 : ∀ w, (sizeOf 73).run Tryd.prog w = .ok 1 w := Tryd.sizeOf73
theorem Z74 : ∀ w, (sizeOf 74).run Tryd.prog w = .ok 1 w := Tryd.sizeOf74
theorem Z9 : ∀ w, (sizeOf 9).run Tryd.prog w = .ok 1 w := Tryd.sizeOf9

end Go.Proofs.YtaalegffcjbglaaDoor
