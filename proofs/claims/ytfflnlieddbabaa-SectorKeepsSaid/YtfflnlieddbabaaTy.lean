/-
  What the types of the program are, for the rules of the Mem text.
-/
import Derived.Test.YtfflnlieddbabaaRows
import Derived.Test.YtfflnlieddbabaaMem
import Derived.Test.YtfflnlieddbabaaMap
import Derived.Test.YtfflnlieddbabaaArr
import Derived.Test.YtfflnlieddbabaaByc
import Derived.Test.YtfflnlieddbabaaLib
namespace Go.Proofs.Ytfflnlieddbabaa
open Go Go.SL

theorem mixed : Try.prog.follows .mixedOrders = true := by kernel_rfl
theorem I3 : Try.prog.info? 3 = some Try.t3 := by kernel_rfl
theorem I4 : Try.prog.info? 4 = some Try.t4 := by kernel_rfl
theorem I5 : Try.prog.info? 5 = some Try.t5 := by kernel_rfl
theorem I9 : Try.prog.info? 9 = some Try.t9 := by kernel_rfl
theorem I23 : Try.prog.info? 23 = some Try.t23 := by kernel_rfl
theorem I31 : Try.prog.info? 31 = some Try.t31 := by kernel_rfl
theorem I34 : Try.prog.info? 34 = some Try.t34 := by kernel_rfl
theorem I35 : Try.prog.info? 35 = some Try.t35 := by kernel_rfl
theorem I48 : Try.prog.info? 48 = some Try.t48 := by kernel_rfl
theorem I50 : Try.prog.info? 50 = some Try.t50 := by kernel_rfl
theorem I59 : Try.prog.info? 59 = some Try.t59 := by kernel_rfl
theorem I60 : Try.prog.info? 60 = some Try.t60 := by kernel_rfl
theorem I65 : Try.prog.info? 65 = some Try.t65 := by kernel_rfl
theorem I67 : Try.prog.info? 67 = some Try.t67 := by kernel_rfl
theorem I70 : Try.prog.info? 70 = some Try.t70 := by kernel_rfl
theorem I74 : Try.prog.info? 74 = some Try.t74 := by kernel_rfl
theorem I77 : Try.prog.info? 77 = some Try.t77 := by kernel_rfl
theorem I101 : Try.prog.info? 101 = some Try.t101 := by kernel_rfl
theorem A35 : ArT Try.prog 35 4 34 1 := ⟨Try.underlying35, Try.sizeOf34⟩
theorem Bs50 : FieldPlaces Try.prog 50 [(0, 1), (1, 1), (2, 1), (3, 1), (4, 1), (5, 1)] := ⟨_, Try.underlying50, fun w => by simp [Try.sizeOf23, Try.sizeOf3, Try.sizeOf34, Try.sizeOf4, Try.sizeOf48]⟩
theorem Bs67 : FieldPlaces Try.prog 67 [(0, 1), (1, 1), (2, 1), (3, 1), (4, 1)] := ⟨_, Try.underlying67, fun w => by simp [Try.sizeOf34, Try.sizeOf4, Try.sizeOf59, Try.sizeOf60, Try.sizeOf65]⟩
theorem Bs70 : FieldPlaces Try.prog 70 [(0, 1), (1, 1)] := ⟨_, Try.underlying70, fun w => by simp [Try.sizeOf3, Try.sizeOf9]⟩
theorem Bs74 : FieldPlaces Try.prog 74 [(0, 1), (1, 1)] := ⟨_, Try.underlying74, fun w => by simp [Try.sizeOf3, Try.sizeOf9]⟩
theorem Bs77 : FieldPlaces Try.prog 77 [(0, 1), (1, 1)] := ⟨_, Try.underlying77, fun w => by simp [Try.sizeOf23, Try.sizeOf3]⟩
theorem C23 : Cell1 Try.prog 23 := Try.isAgg23
theorem C3 : Cell1 Try.prog 3 := Try.isAgg3
theorem C34 : Cell1 Try.prog 34 := Try.isAgg34
theorem C4 : Cell1 Try.prog 4 := Try.isAgg4
theorem C48 : Cell1 Try.prog 48 := Try.isAgg48
theorem C59 : Cell1 Try.prog 59 := Try.isAgg59
theorem C60 : Cell1 Try.prog 60 := Try.isAgg60
theorem C9 : Cell1 Try.prog 9 := Try.isAgg9
theorem C90 : Cell1 Try.prog 90 := Try.isAgg90
theorem C99 : Cell1 Try.prog 99 := Try.isAgg99
theorem F101_0 : FieldAt Try.prog 101 0 0 := ⟨_, _, 0, Try.underlying101, rfl, rfl, Try.sizeOf99⟩
theorem F101_1 : FieldAt Try.prog 101 1 1 := ⟨_, _, 0, Try.underlying101, rfl, rfl, Try.sizeOf90⟩
theorem F31_0 : FieldAt Try.prog 31 0 0 := ⟨_, _, 0, Try.underlying31, rfl, rfl, Try.sizeOf3⟩
theorem F31_1 : FieldAt Try.prog 31 1 1 := ⟨_, _, 0, Try.underlying31, rfl, rfl, Try.sizeOf3⟩
theorem F31_2 : FieldAt Try.prog 31 2 2 := ⟨_, _, 0, Try.underlying31, rfl, rfl, Try.sizeOf9⟩
theorem F31_3 : FieldAt Try.prog 31 3 3 := ⟨_, _, 0, Try.underlying31, rfl, rfl, Try.sizeOf23⟩
theorem F50_0 : FieldAt Try.prog 50 0 0 := ⟨_, _, 0, Try.underlying50, rfl, rfl, Try.sizeOf34⟩
theorem F50_1 : FieldAt Try.prog 50 1 1 := ⟨_, _, 0, Try.underlying50, rfl, rfl, Try.sizeOf48⟩
theorem F50_2 : FieldAt Try.prog 50 2 2 := ⟨_, _, 0, Try.underlying50, rfl, rfl, Try.sizeOf3⟩
theorem F50_3 : FieldAt Try.prog 50 3 3 := ⟨_, _, 0, Try.underlying50, rfl, rfl, Try.sizeOf23⟩
theorem F50_4 : FieldAt Try.prog 50 4 4 := ⟨_, _, 0, Try.underlying50, rfl, rfl, Try.sizeOf4⟩
theorem F50_5 : FieldAt Try.prog 50 5 5 := ⟨_, _, 0, Try.underlying50, rfl, rfl, Try.sizeOf3⟩
theorem F65_2 : FieldAt Try.prog 65 2 0 := ⟨_, _, 0, Try.underlying65, rfl, rfl, Try.sizeOf2⟩
theorem F67_0 : FieldAt Try.prog 67 0 0 := ⟨_, _, 0, Try.underlying67, rfl, rfl, Try.sizeOf34⟩
theorem F67_1 : FieldAt Try.prog 67 1 1 := ⟨_, _, 0, Try.underlying67, rfl, rfl, Try.sizeOf59⟩
theorem F67_2 : FieldAt Try.prog 67 2 2 := ⟨_, _, 0, Try.underlying67, rfl, rfl, Try.sizeOf60⟩
theorem F67_3 : FieldAt Try.prog 67 3 3 := ⟨_, _, 0, Try.underlying67, rfl, rfl, Try.sizeOf4⟩
theorem F67_4 : FieldAt Try.prog 67 4 4 := ⟨_, _, 0, Try.underlying67, rfl, rfl, Try.sizeOf65⟩
theorem F70_0 : FieldAt Try.prog 70 0 0 := ⟨_, _, 0, Try.underlying70, rfl, rfl, Try.sizeOf3⟩
theorem F70_1 : FieldAt Try.prog 70 1 1 := ⟨_, _, 0, Try.underlying70, rfl, rfl, Try.sizeOf9⟩
theorem F74_0 : FieldAt Try.prog 74 0 0 := ⟨_, _, 0, Try.underlying74, rfl, rfl, Try.sizeOf3⟩
theorem F74_1 : FieldAt Try.prog 74 1 1 := ⟨_, _, 0, Try.underlying74, rfl, rfl, Try.sizeOf9⟩
theorem F77_0 : FieldAt Try.prog 77 0 0 := ⟨_, _, 0, Try.underlying77, rfl, rfl, Try.sizeOf3⟩
theorem F77_1 : FieldAt Try.prog 77 1 1 := ⟨_, _, 0, Try.underlying77, rfl, rfl, Try.sizeOf23⟩
theorem G31 : Agg Try.prog 31 4 := ⟨Try.isAgg31, Try.sizeOf31⟩
theorem G70 : Agg Try.prog 70 2 := ⟨Try.isAgg70, Try.sizeOf70⟩
theorem G74 : Agg Try.prog 74 2 := ⟨Try.isAgg74, Try.sizeOf74⟩
theorem S22 : SlT Try.prog 22 31 4 56 (.agg #[(.int .i64 0), (.int .i64 0), (.string ⟨#[]⟩), (.slice none 0 0)]) := ⟨Try.underlying22, ⟨_, I31, rfl, rfl, rfl⟩, by kernel_rfl, by decide⟩
theorem S23 : SlT Try.prog 23 3 1 8 (.int .i64 0) := ⟨Try.underlying23, ⟨_, I3, rfl, rfl, rfl⟩, by kernel_rfl, by decide⟩
theorem S34 : SlT Try.prog 34 9 1 16 (.string ⟨#[]⟩) := ⟨Try.underlying34, ⟨_, I9, rfl, rfl, rfl⟩, by kernel_rfl, by decide⟩
theorem S40 : SlT Try.prog 40 23 1 24 (.slice none 0 0) := ⟨Try.underlying40, ⟨_, I23, rfl, rfl, rfl⟩, by kernel_rfl, by decide⟩
theorem S48 : SlT Try.prog 48 74 2 24 (.agg #[(.int .i64 0), (.string ⟨#[]⟩)]) := ⟨Try.underlying48, ⟨_, I74, rfl, rfl, rfl⟩, by kernel_rfl, by decide⟩
theorem S59 : SlT Try.prog 59 70 2 24 (.agg #[(.int .i64 0), (.string ⟨#[]⟩)]) := ⟨Try.underlying59, ⟨_, I70, rfl, rfl, rfl⟩, by kernel_rfl, by decide⟩
theorem S90 : SlT Try.prog 90 5 1 1 (.int .u8 0) := ⟨Try.underlying90, ⟨_, I5, rfl, rfl, rfl⟩, by kernel_rfl, by decide⟩
theorem Z23 : ∀ w, (sizeOf 23).run Try.prog w = .ok 1 w := Try.sizeOf23
theorem Z3 : ∀ w, (sizeOf 3).run Try.prog w = .ok 1 w := Try.sizeOf3
theorem Z34 : ∀ w, (sizeOf 34).run Try.prog w = .ok 1 w := Try.sizeOf34
theorem Z4 : ∀ w, (sizeOf 4).run Try.prog w = .ok 1 w := Try.sizeOf4
theorem Z48 : ∀ w, (sizeOf 48).run Try.prog w = .ok 1 w := Try.sizeOf48
theorem Z59 : ∀ w, (sizeOf 59).run Try.prog w = .ok 1 w := Try.sizeOf59
theorem Z60 : ∀ w, (sizeOf 60).run Try.prog w = .ok 1 w := Try.sizeOf60
theorem Z9 : ∀ w, (sizeOf 9).run Try.prog w = .ok 1 w := Try.sizeOf9
theorem Z90 : ∀ w, (sizeOf 90).run Try.prog w = .ok 1 w := Try.sizeOf90
theorem Z99 : ∀ w, (sizeOf 99).run Try.prog w = .ok 1 w := Try.sizeOf99

end Go.Proofs.Ytfflnlieddbabaa
