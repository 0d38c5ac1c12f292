/-
  What the types of the program are, for the rules of the Mem text.
-/
import Derived.Test.YtodedkoebcdejaaDoorRows
import Derived.Test.YtodedkoebcdejaaDoorMem
import Derived.Test.YtodedkoebcdejaaDoorMap
import Derived.Test.YtodedkoebcdejaaDoorArr
import Derived.Test.YtodedkoebcdejaaDoorByc
import Derived.Test.YtodedkoebcdejaaDoorLib
namespace Go.Proofs.YtodedkoebcdejaaDoor
open Go Go.SL

theorem mixed : Tryd.prog.follows .mixedOrders = true := by kernel_rfl
theorem I3 : Tryd.prog.info? 3 = some Tryd.t3 := by kernel_rfl
theorem I4 : Tryd.prog.info? 4 = some Tryd.t4 := by kernel_rfl
theorem I5 : Tryd.prog.info? 5 = some Tryd.t5 := by kernel_rfl
theorem I9 : Tryd.prog.info? 9 = some Tryd.t9 := by kernel_rfl
theorem I24 : Tryd.prog.info? 24 = some Tryd.t24 := by kernel_rfl
theorem I49 : Tryd.prog.info? 49 = some Tryd.t49 := by kernel_rfl
theorem I56 : Tryd.prog.info? 56 = some Tryd.t56 := by kernel_rfl
theorem I57 : Tryd.prog.info? 57 = some Tryd.t57 := by kernel_rfl
theorem I62 : Tryd.prog.info? 62 = some Tryd.t62 := by kernel_rfl
theorem I64 : Tryd.prog.info? 64 = some Tryd.t64 := by kernel_rfl
theorem I67 : Tryd.prog.info? 67 = some Tryd.t67 := by kernel_rfl
theorem I72 : Tryd.prog.info? 72 = some Tryd.t72 := by kernel_rfl
theorem I74 : Tryd.prog.info? 74 = some Tryd.t74 := by kernel_rfl
theorem I76 : Tryd.prog.info? 76 = some Tryd.t76 := by kernel_rfl
theorem I86 : Tryd.prog.info? 86 = some Tryd.t86 := by kernel_rfl
theorem I93 : Tryd.prog.info? 93 = some Tryd.t93 := by kernel_rfl
theorem I95 : Tryd.prog.info? 95 = some Tryd.t95 := by kernel_rfl
theorem I109 : Tryd.prog.info? 109 = some Tryd.t109 := by kernel_rfl
theorem A109 : ArT Tryd.prog 109 64 72 1 := ⟨Tryd.underlying109, Tryd.sizeOf72⟩
theorem A74 : ArT Tryd.prog 74 8 72 1 := ⟨Tryd.underlying74, Tryd.sizeOf72⟩
theorem A93 : ArT Tryd.prog 93 8 5 1 := ⟨Tryd.underlying93, Tryd.sizeOf5⟩
theorem A95 : ArT Tryd.prog 95 16 72 1 := ⟨Tryd.underlying95, Tryd.sizeOf72⟩
theorem Bs64 : FieldPlaces Tryd.prog 64 [(0, 1), (1, 1), (2, 1), (3, 1), (4, 1)] := ⟨_, Tryd.underlying64, fun w => by simp [Tryd.sizeOf24, Tryd.sizeOf4, Tryd.sizeOf56, Tryd.sizeOf57, Tryd.sizeOf62]⟩
theorem Bs67 : FieldPlaces Tryd.prog 67 [(0, 1), (1, 1)] := ⟨_, Tryd.underlying67, fun w => by simp [Tryd.sizeOf3, Tryd.sizeOf9]⟩
theorem C24 : Cell1 Tryd.prog 24 := Tryd.isAgg24
theorem C3 : Cell1 Tryd.prog 3 := Tryd.isAgg3
theorem C4 : Cell1 Tryd.prog 4 := Tryd.isAgg4
theorem C45 : Cell1 Tryd.prog 45 := Tryd.isAgg45
theorem C47 : Cell1 Tryd.prog 47 := Tryd.isAgg47
theorem C5 : Cell1 Tryd.prog 5 := Tryd.isAgg5
theorem C56 : Cell1 Tryd.prog 56 := Tryd.isAgg56
theorem C57 : Cell1 Tryd.prog 57 := Tryd.isAgg57
theorem C68 : Cell1 Tryd.prog 68 := Tryd.isAgg68
theorem C72 : Cell1 Tryd.prog 72 := Tryd.isAgg72
theorem C9 : Cell1 Tryd.prog 9 := Tryd.isAgg9
theorem F49_0 : FieldAt Tryd.prog 49 0 0 := ⟨_, _, 0, Tryd.underlying49, rfl, rfl, Tryd.sizeOf47⟩
theorem F49_1 : FieldAt Tryd.prog 49 1 1 := ⟨_, _, 0, Tryd.underlying49, rfl, rfl, Tryd.sizeOf45⟩
theorem F62_2 : FieldAt Tryd.prog 62 2 0 := ⟨_, _, 0, Tryd.underlying62, rfl, rfl, Tryd.sizeOf2⟩
theorem F64_0 : FieldAt Tryd.prog 64 0 0 := ⟨_, _, 0, Tryd.underlying64, rfl, rfl, Tryd.sizeOf24⟩
theorem F64_1 : FieldAt Tryd.prog 64 1 1 := ⟨_, _, 0, Tryd.underlying64, rfl, rfl, Tryd.sizeOf56⟩
theorem F64_2 : FieldAt Tryd.prog 64 2 2 := ⟨_, _, 0, Tryd.underlying64, rfl, rfl, Tryd.sizeOf57⟩
theorem F64_3 : FieldAt Tryd.prog 64 3 3 := ⟨_, _, 0, Tryd.underlying64, rfl, rfl, Tryd.sizeOf4⟩
theorem F64_4 : FieldAt Tryd.prog 64 4 4 := ⟨_, _, 0, Tryd.underlying64, rfl, rfl, Tryd.sizeOf62⟩
theorem F67_0 : FieldAt Tryd.prog 67 0 0 := ⟨_, _, 0, Tryd.underlying67, rfl, rfl, Tryd.sizeOf3⟩
theorem F67_1 : FieldAt Tryd.prog 67 1 1 := ⟨_, _, 0, Tryd.underlying67, rfl, rfl, Tryd.sizeOf9⟩
theorem F76_0 : FieldAt Tryd.prog 76 0 0 := ⟨_, _, 7, Tryd.underlying76, rfl, rfl, Tryd.sizeOf74⟩
theorem F76_1 : FieldAt Tryd.prog 76 1 8 := ⟨_, _, 0, Tryd.underlying76, rfl, rfl, Tryd.sizeOf4⟩
theorem F76_2 : FieldAt Tryd.prog 76 2 9 := ⟨_, _, 0, Tryd.underlying76, rfl, rfl, Tryd.sizeOf9⟩
theorem F76_3 : FieldAt Tryd.prog 76 3 10 := ⟨_, _, 0, Tryd.underlying76, rfl, rfl, Tryd.sizeOf3⟩
theorem F86_0 : FieldAt Tryd.prog 86 0 0 := ⟨_, _, 0, Tryd.underlying86, rfl, rfl, Tryd.sizeOf3⟩
theorem F86_1 : FieldAt Tryd.prog 86 1 1 := ⟨_, _, 0, Tryd.underlying86, rfl, rfl, Tryd.sizeOf68⟩
theorem G109 : Agg Tryd.prog 109 64 := ⟨Tryd.isAgg109, Tryd.sizeOf109⟩
theorem G67 : Agg Tryd.prog 67 2 := ⟨Tryd.isAgg67, Tryd.sizeOf67⟩
theorem G74 : Agg Tryd.prog 74 8 := ⟨Tryd.isAgg74, Tryd.sizeOf74⟩
theorem G76 : Agg Tryd.prog 76 11 := ⟨Tryd.isAgg76, Tryd.sizeOf76⟩
theorem G95 : Agg Tryd.prog 95 16 := ⟨Tryd.isAgg95, Tryd.sizeOf95⟩
theorem S22 : SlT Tryd.prog 22 24 1 24 (.slice none 0 0) := ⟨Tryd.underlying22, ⟨_, I24, rfl, rfl, rfl⟩, by kernel_rfl, by decide⟩
theorem S24 : SlT Tryd.prog 24 9 1 16 (.string ⟨#[]⟩) := ⟨Tryd.underlying24, ⟨_, I9, rfl, rfl, rfl⟩, by kernel_rfl, by decide⟩
theorem S45 : SlT Tryd.prog 45 5 1 1 (.int .u8 0) := ⟨Tryd.underlying45, ⟨_, I5, rfl, rfl, rfl⟩, by kernel_rfl, by decide⟩
theorem S56 : SlT Tryd.prog 56 67 2 24 (.agg #[(.int .i64 0), (.string ⟨#[]⟩)]) := ⟨Tryd.underlying56, ⟨_, I67, rfl, rfl, rfl⟩, by kernel_rfl, by decide⟩
theorem S68 : SlT Tryd.prog 68 3 1 8 (.int .i64 0) := ⟨Tryd.underlying68, ⟨_, I3, rfl, rfl, rfl⟩, by kernel_rfl, by decide⟩
theorem Z3 : ∀ w, (sizeOf 3).run Tryd.prog w = .ok 1 w := Tryd.sizeOf3
theorem Z4 : ∀ w, (sizeOf 4).run Tryd.prog w = .ok 1 w := Tryd.sizeOf4
theorem Z45 : ∀ w, (sizeOf 45).run Tryd.prog w = .ok 1 w := Tryd.sizeOf45
theorem Z47 : ∀ w, (sizeOf 47).run Tryd.prog w = .ok 1 w := Tryd.sizeOf47
theorem Z5 : ∀ w, (sizeOf 5).run Tryd.prog w = .ok 1 w := Tryd.sizeOf5
theorem Z56 : ∀ w, (sizeOf 56).run Tryd.prog w = .ok 1 w := Tryd.sizeOf56
theorem Z57 : ∀ w, (sizeOf 57).run Tryd.prog w = .ok 1 w := Tryd.sizeOf57
theorem Z72 : ∀ w, (sizeOf 72).run Tryd.prog w = .ok 1 w := Tryd.sizeOf72
theorem Z9 : ∀ w, (sizeOf 9).run Tryd.prog w = .ok 1 w := Tryd.sizeOf9

end Go.Proofs.YtodedkoebcdejaaDoor
