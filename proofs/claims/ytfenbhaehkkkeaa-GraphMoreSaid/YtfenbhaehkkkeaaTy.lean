/-
  What the types of the program are, for the rules of the Mem text.
-/
import Derived.Test.YtfenbhaehkkkeaaRows
import Derived.Test.YtfenbhaehkkkeaaMem
import Derived.Test.YtfenbhaehkkkeaaMap
import Derived.Test.YtfenbhaehkkkeaaArr
import Derived.Test.YtfenbhaehkkkeaaByc
import Derived.Test.YtfenbhaehkkkeaaLib
namespace Go.Proofs.Ytfenbhaehkkkeaa
open Go Go.SL

theorem mixed : Try.prog.follows .mixedOrders = true := by kernel_rfl
theorem I3 : Try.prog.info? 3 = some Try.t3 := by kernel_rfl
theorem I4 : Try.prog.info? 4 = some Try.t4 := by kernel_rfl
theorem I5 : Try.prog.info? 5 = some Try.t5 := by kernel_rfl
theorem I9 : Try.prog.info? 9 = some Try.t9 := by kernel_rfl
theorem I28 : Try.prog.info? 28 = some Try.t28 := by kernel_rfl
theorem I30 : Try.prog.info? 30 = some Try.t30 := by kernel_rfl
theorem I31 : Try.prog.info? 31 = some Try.t31 := by kernel_rfl
theorem I32 : Try.prog.info? 32 = some Try.t32 := by kernel_rfl
theorem I38 : Try.prog.info? 38 = some Try.t38 := by kernel_rfl
theorem I56 : Try.prog.info? 56 = some Try.t56 := by kernel_rfl
theorem I57 : Try.prog.info? 57 = some Try.t57 := by kernel_rfl
theorem I59 : Try.prog.info? 59 = some Try.t59 := by kernel_rfl
theorem I69 : Try.prog.info? 69 = some Try.t69 := by kernel_rfl
theorem I75 : Try.prog.info? 75 = some Try.t75 := by kernel_rfl
theorem I107 : Try.prog.info? 107 = some Try.t107 := by kernel_rfl
theorem A38 : ArT Try.prog 38 2 3 1 := ⟨Try.underlying38, Try.sizeOf3⟩
theorem Bs30 : FieldPlaces Try.prog 30 [(0, 1), (1, 1), (2, 1)] := ⟨_, Try.underlying30, fun w => by simp [Try.sizeOf28, Try.sizeOf3, Try.sizeOf9]⟩
theorem Bs31 : FieldPlaces Try.prog 31 [(0, 1), (1, 1), (2, 1)] := ⟨_, Try.underlying31, fun w => by simp [Try.sizeOf28, Try.sizeOf3, Try.sizeOf9]⟩
theorem Bs59 : FieldPlaces Try.prog 59 [(0, 1)] := ⟨_, Try.underlying59, fun w => by simp [Try.sizeOf57]⟩
theorem C107 : Cell1 Try.prog 107 := Try.isAgg107
theorem C28 : Cell1 Try.prog 28 := Try.isAgg28
theorem C3 : Cell1 Try.prog 3 := Try.isAgg3
theorem C32 : Cell1 Try.prog 32 := Try.isAgg32
theorem C4 : Cell1 Try.prog 4 := Try.isAgg4
theorem C44 : Cell1 Try.prog 44 := Try.isAgg44
theorem C57 : Cell1 Try.prog 57 := Try.isAgg57
theorem C69 : Cell1 Try.prog 69 := Try.isAgg69
theorem C75 : Cell1 Try.prog 75 := Try.isAgg75
theorem C9 : Cell1 Try.prog 9 := Try.isAgg9
theorem F30_0 : FieldAt Try.prog 30 0 0 := ⟨_, _, 0, Try.underlying30, rfl, rfl, Try.sizeOf9⟩
theorem F30_1 : FieldAt Try.prog 30 1 1 := ⟨_, _, 0, Try.underlying30, rfl, rfl, Try.sizeOf28⟩
theorem F30_2 : FieldAt Try.prog 30 2 2 := ⟨_, _, 0, Try.underlying30, rfl, rfl, Try.sizeOf3⟩
theorem F31_0 : FieldAt Try.prog 31 0 0 := ⟨_, _, 0, Try.underlying31, rfl, rfl, Try.sizeOf9⟩
theorem F31_1 : FieldAt Try.prog 31 1 1 := ⟨_, _, 0, Try.underlying31, rfl, rfl, Try.sizeOf28⟩
theorem F31_2 : FieldAt Try.prog 31 2 2 := ⟨_, _, 0, Try.underlying31, rfl, rfl, Try.sizeOf3⟩
theorem F56_0 : FieldAt Try.prog 56 0 0 := ⟨_, _, 0, Try.underlying56, rfl, rfl, Try.sizeOf44⟩
theorem F56_1 : FieldAt Try.prog 56 1 1 := ⟨_, _, 0, Try.underlying56, rfl, rfl, Try.sizeOf3⟩
theorem F56_2 : FieldAt Try.prog 56 2 2 := ⟨_, _, 0, Try.underlying56, rfl, rfl, Try.sizeOf4⟩
theorem F59_0 : FieldAt Try.prog 59 0 0 := ⟨_, _, 0, Try.underlying59, rfl, rfl, Try.sizeOf57⟩
theorem G30 : Agg Try.prog 30 3 := ⟨Try.isAgg30, Try.sizeOf30⟩
theorem G31 : Agg Try.prog 31 3 := ⟨Try.isAgg31, Try.sizeOf31⟩
theorem K9 : KeyT Try.prog 9 vs := KeyT.string Try.underlying9
theorem M57 : MapT Try.prog 57 9 30 (.agg #[(.string ⟨#[]⟩), (.slice none 0 0), (.int .i64 0)]) := MapT.mk' Try.underlying57 I30 rfl
theorem M69 : MapT Try.prog 69 9 4 (.bool false) := MapT.mk' Try.underlying69 I4 rfl
theorem M74 : MapT Try.prog 74 9 3 (.int .i64 0) := MapT.mk' Try.underlying74 I3 rfl
theorem S22 : SlT Try.prog 22 56 3 40 (.agg #[(.slice none 0 0), (.int .i64 0), (.bool false)]) := ⟨Try.underlying22, ⟨_, I56, rfl, rfl, rfl⟩, by kernel_rfl, by decide⟩
theorem S24 : SlT Try.prog 24 30 3 48 (.agg #[(.string ⟨#[]⟩), (.slice none 0 0), (.int .i64 0)]) := ⟨Try.underlying24, ⟨_, I30, rfl, rfl, rfl⟩, by kernel_rfl, by decide⟩
theorem S25 : SlT Try.prog 25 31 3 48 (.agg #[(.string ⟨#[]⟩), (.slice none 0 0), (.int .i64 0)]) := ⟨Try.underlying25, ⟨_, I31, rfl, rfl, rfl⟩, by kernel_rfl, by decide⟩
theorem S28 : SlT Try.prog 28 9 1 16 (.string ⟨#[]⟩) := ⟨Try.underlying28, ⟨_, I9, rfl, rfl, rfl⟩, by kernel_rfl, by decide⟩
theorem S44 : SlT Try.prog 44 3 1 8 (.int .i64 0) := ⟨Try.underlying44, ⟨_, I3, rfl, rfl, rfl⟩, by kernel_rfl, by decide⟩
theorem S45 : SlT Try.prog 45 4 1 1 (.bool false) := ⟨Try.underlying45, ⟨_, I4, rfl, rfl, rfl⟩, by kernel_rfl, by decide⟩
theorem S68 : SlT Try.prog 68 5 1 1 (.int .u8 0) := ⟨Try.underlying68, ⟨_, I5, rfl, rfl, rfl⟩, by kernel_rfl, by decide⟩
theorem S75 : SlT Try.prog 75 30 3 48 (.agg #[(.string ⟨#[]⟩), (.slice none 0 0), (.int .i64 0)]) := ⟨Try.underlying75, ⟨_, I30, rfl, rfl, rfl⟩, by kernel_rfl, by decide⟩
theorem Z107 : ∀ w, (sizeOf 107).run Try.prog w = .ok 1 w := Try.sizeOf107
theorem Z28 : ∀ w, (sizeOf 28).run Try.prog w = .ok 1 w := Try.sizeOf28
theorem Z3 : ∀ w, (sizeOf 3).run Try.prog w = .ok 1 w := Try.sizeOf3
theorem Z32 : ∀ w, (sizeOf 32).run Try.prog w = .ok 1 w := Try.sizeOf32
theorem Z4 : ∀ w, (sizeOf 4).run Try.prog w = .ok 1 w := Try.sizeOf4
theorem Z69 : ∀ w, (sizeOf 69).run Try.prog w = .ok 1 w := Try.sizeOf69
theorem Z75 : ∀ w, (sizeOf 75).run Try.prog w = .ok 1 w := Try.sizeOf75
theorem Z9 : ∀ w, (sizeOf 9).run Try.prog w = .ok 1 w := Try.sizeOf9

end Go.Proofs.Ytfenbhaehkkkeaa
