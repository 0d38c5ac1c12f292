/-
  What the types of the program are, for the rules of the Mem text.
-/
import Derived.Test.YtedgndhbieeffaaRows
import Derived.Test.YtedgndhbieeffaaMem
import Derived.Test.YtedgndhbieeffaaMap
import Derived.Test.YtedgndhbieeffaaArr
import Derived.Test.YtedgndhbieeffaaByc
import Derived.Test.YtedgndhbieeffaaLib
namespace Go.Proofs.Ytedgndhbieeffaa
open Go Go.SL

theorem mixed : Try.prog.follows .mixedOrders = true := by kernel_rfl
theorem I3 : Try.prog.info? 3 = some Try.t3 := by kernel_rfl
theorem I5 : Try.prog.info? 5 = some Try.t5 := by kernel_rfl
theorem I9 : Try.prog.info? 9 = some Try.t9 := by kernel_rfl
theorem I23 : Try.prog.info? 23 = some Try.t23 := by kernel_rfl
theorem I25 : Try.prog.info? 25 = some Try.t25 := by kernel_rfl
theorem I28 : Try.prog.info? 28 = some Try.t28 := by kernel_rfl
theorem I30 : Try.prog.info? 30 = some Try.t30 := by kernel_rfl
theorem I31 : Try.prog.info? 31 = some Try.t31 := by kernel_rfl
theorem I33 : Try.prog.info? 33 = some Try.t33 := by kernel_rfl
theorem I49 : Try.prog.info? 49 = some Try.t49 := by kernel_rfl
theorem I51 : Try.prog.info? 51 = some Try.t51 := by kernel_rfl
theorem I52 : Try.prog.info? 52 = some Try.t52 := by kernel_rfl
theorem I53 : Try.prog.info? 53 = some Try.t53 := by kernel_rfl
theorem I54 : Try.prog.info? 54 = some Try.t54 := by kernel_rfl
theorem I55 : Try.prog.info? 55 = some Try.t55 := by kernel_rfl
theorem I57 : Try.prog.info? 57 = some Try.t57 := by kernel_rfl
theorem I77 : Try.prog.info? 77 = some Try.t77 := by kernel_rfl
theorem A49 : ArT Try.prog 49 2 9 1 := ⟨Try.underlying49, Try.sizeOf9⟩
theorem Bs30 : FieldPlaces Try.prog 30 [(0, 1), (1, 1), (2, 1), (3, 1), (4, 1), (5, 1), (6, 1), (7, 1), (8, 1), (9, 1)] := ⟨_, Try.underlying30, fun w => by simp [Try.sizeOf23, Try.sizeOf28, Try.sizeOf3, Try.sizeOf9]⟩
theorem Bs33 : FieldPlaces Try.prog 33 [(0, 1), (1, 1), (2, 1), (3, 1), (4, 1), (5, 1), (6, 1), (7, 1), (8, 1), (9, 1)] := ⟨_, Try.underlying33, fun w => by simp [Try.sizeOf23, Try.sizeOf3, Try.sizeOf31, Try.sizeOf9]⟩
theorem Bs51 : FieldPlaces Try.prog 51 [(0, 1), (1, 1)] := ⟨_, Try.underlying51, fun w => by simp [Try.sizeOf9]⟩
theorem Bs52 : FieldPlaces Try.prog 52 [(0, 1), (1, 1)] := ⟨_, Try.underlying52, fun w => by simp [Try.sizeOf9]⟩
theorem Bs57 : FieldPlaces Try.prog 57 [(0, 1), (1, 1), (2, 1)] := ⟨_, Try.underlying57, fun w => by simp [Try.sizeOf53, Try.sizeOf54, Try.sizeOf55]⟩
theorem C22 : Cell1 Try.prog 22 := Try.isAgg22
theorem C23 : Cell1 Try.prog 23 := Try.isAgg23
theorem C28 : Cell1 Try.prog 28 := Try.isAgg28
theorem C3 : Cell1 Try.prog 3 := Try.isAgg3
theorem C31 : Cell1 Try.prog 31 := Try.isAgg31
theorem C4 : Cell1 Try.prog 4 := Try.isAgg4
theorem C5 : Cell1 Try.prog 5 := Try.isAgg5
theorem C53 : Cell1 Try.prog 53 := Try.isAgg53
theorem C54 : Cell1 Try.prog 54 := Try.isAgg54
theorem C55 : Cell1 Try.prog 55 := Try.isAgg55
theorem C61 : Cell1 Try.prog 61 := Try.isAgg61
theorem C75 : Cell1 Try.prog 75 := Try.isAgg75
theorem C9 : Cell1 Try.prog 9 := Try.isAgg9
theorem E52 (a0 b0 : List UInt8) (a1 b1 : List UInt8) : EqS Try.prog 52 #[vs a0, vs a1] #[vs b0, vs b1] (a0 = b0 ∧ a1 = b1) := ⟨fun w => by
  simp [go_sem, run_equalIn_agg, Op.eqFields, part, Try.underlying9, Try.underlying52, Try.isAgg9, Try.isAgg52, Try.stoodInHeld52, Try.sizeOf9, Try.sizeOf52]
  all_goals (try (repeat' split)) <;> simp_all, Try.eqGuardType52⟩
theorem F25_0 : FieldAt Try.prog 25 0 0 := ⟨_, _, 0, Try.underlying25, rfl, rfl, Try.sizeOf3⟩
theorem F25_1 : FieldAt Try.prog 25 1 1 := ⟨_, _, 0, Try.underlying25, rfl, rfl, Try.sizeOf9⟩
theorem F25_10 : FieldAt Try.prog 25 10 10 := ⟨_, _, 0, Try.underlying25, rfl, rfl, Try.sizeOf4⟩
theorem F25_2 : FieldAt Try.prog 25 2 2 := ⟨_, _, 0, Try.underlying25, rfl, rfl, Try.sizeOf22⟩
theorem F25_3 : FieldAt Try.prog 25 3 3 := ⟨_, _, 0, Try.underlying25, rfl, rfl, Try.sizeOf9⟩
theorem F25_4 : FieldAt Try.prog 25 4 4 := ⟨_, _, 0, Try.underlying25, rfl, rfl, Try.sizeOf23⟩
theorem F25_5 : FieldAt Try.prog 25 5 5 := ⟨_, _, 0, Try.underlying25, rfl, rfl, Try.sizeOf9⟩
theorem F25_6 : FieldAt Try.prog 25 6 6 := ⟨_, _, 0, Try.underlying25, rfl, rfl, Try.sizeOf9⟩
theorem F25_7 : FieldAt Try.prog 25 7 7 := ⟨_, _, 0, Try.underlying25, rfl, rfl, Try.sizeOf3⟩
theorem F25_8 : FieldAt Try.prog 25 8 8 := ⟨_, _, 0, Try.underlying25, rfl, rfl, Try.sizeOf9⟩
theorem F25_9 : FieldAt Try.prog 25 9 9 := ⟨_, _, 0, Try.underlying25, rfl, rfl, Try.sizeOf9⟩
theorem F30_0 : FieldAt Try.prog 30 0 0 := ⟨_, _, 0, Try.underlying30, rfl, rfl, Try.sizeOf3⟩
theorem F30_1 : FieldAt Try.prog 30 1 1 := ⟨_, _, 0, Try.underlying30, rfl, rfl, Try.sizeOf9⟩
theorem F30_2 : FieldAt Try.prog 30 2 2 := ⟨_, _, 0, Try.underlying30, rfl, rfl, Try.sizeOf28⟩
theorem F30_3 : FieldAt Try.prog 30 3 3 := ⟨_, _, 0, Try.underlying30, rfl, rfl, Try.sizeOf9⟩
theorem F30_4 : FieldAt Try.prog 30 4 4 := ⟨_, _, 0, Try.underlying30, rfl, rfl, Try.sizeOf23⟩
theorem F30_5 : FieldAt Try.prog 30 5 5 := ⟨_, _, 0, Try.underlying30, rfl, rfl, Try.sizeOf9⟩
theorem F30_6 : FieldAt Try.prog 30 6 6 := ⟨_, _, 0, Try.underlying30, rfl, rfl, Try.sizeOf9⟩
theorem F30_7 : FieldAt Try.prog 30 7 7 := ⟨_, _, 0, Try.underlying30, rfl, rfl, Try.sizeOf3⟩
theorem F30_8 : FieldAt Try.prog 30 8 8 := ⟨_, _, 0, Try.underlying30, rfl, rfl, Try.sizeOf9⟩
theorem F30_9 : FieldAt Try.prog 30 9 9 := ⟨_, _, 0, Try.underlying30, rfl, rfl, Try.sizeOf9⟩
theorem F33_0 : FieldAt Try.prog 33 0 0 := ⟨_, _, 0, Try.underlying33, rfl, rfl, Try.sizeOf3⟩
theorem F33_1 : FieldAt Try.prog 33 1 1 := ⟨_, _, 0, Try.underlying33, rfl, rfl, Try.sizeOf9⟩
theorem F33_2 : FieldAt Try.prog 33 2 2 := ⟨_, _, 0, Try.underlying33, rfl, rfl, Try.sizeOf31⟩
theorem F33_3 : FieldAt Try.prog 33 3 3 := ⟨_, _, 0, Try.underlying33, rfl, rfl, Try.sizeOf9⟩
theorem F33_4 : FieldAt Try.prog 33 4 4 := ⟨_, _, 0, Try.underlying33, rfl, rfl, Try.sizeOf23⟩
theorem F33_5 : FieldAt Try.prog 33 5 5 := ⟨_, _, 0, Try.underlying33, rfl, rfl, Try.sizeOf9⟩
theorem F33_6 : FieldAt Try.prog 33 6 6 := ⟨_, _, 0, Try.underlying33, rfl, rfl, Try.sizeOf9⟩
theorem F33_7 : FieldAt Try.prog 33 7 7 := ⟨_, _, 0, Try.underlying33, rfl, rfl, Try.sizeOf3⟩
theorem F33_8 : FieldAt Try.prog 33 8 8 := ⟨_, _, 0, Try.underlying33, rfl, rfl, Try.sizeOf9⟩
theorem F33_9 : FieldAt Try.prog 33 9 9 := ⟨_, _, 0, Try.underlying33, rfl, rfl, Try.sizeOf9⟩
theorem F51_0 : FieldAt Try.prog 51 0 0 := ⟨_, _, 0, Try.underlying51, rfl, rfl, Try.sizeOf9⟩
theorem F51_1 : FieldAt Try.prog 51 1 1 := ⟨_, _, 0, Try.underlying51, rfl, rfl, Try.sizeOf9⟩
theorem F52_0 : FieldAt Try.prog 52 0 0 := ⟨_, _, 0, Try.underlying52, rfl, rfl, Try.sizeOf9⟩
theorem F52_1 : FieldAt Try.prog 52 1 1 := ⟨_, _, 0, Try.underlying52, rfl, rfl, Try.sizeOf9⟩
theorem F57_0 : FieldAt Try.prog 57 0 0 := ⟨_, _, 0, Try.underlying57, rfl, rfl, Try.sizeOf53⟩
theorem F57_1 : FieldAt Try.prog 57 1 1 := ⟨_, _, 0, Try.underlying57, rfl, rfl, Try.sizeOf54⟩
theorem F57_2 : FieldAt Try.prog 57 2 2 := ⟨_, _, 0, Try.underlying57, rfl, rfl, Try.sizeOf55⟩
theorem F77_0 : FieldAt Try.prog 77 0 0 := ⟨_, _, 0, Try.underlying77, rfl, rfl, Try.sizeOf75⟩
theorem F77_1 : FieldAt Try.prog 77 1 1 := ⟨_, _, 0, Try.underlying77, rfl, rfl, Try.sizeOf61⟩
theorem G25 : Agg Try.prog 25 11 := ⟨Try.isAgg25, Try.sizeOf25⟩
theorem G30 : Agg Try.prog 30 10 := ⟨Try.isAgg30, Try.sizeOf30⟩
theorem G33 : Agg Try.prog 33 10 := ⟨Try.isAgg33, Try.sizeOf33⟩
theorem G51 : Agg Try.prog 51 2 := ⟨Try.isAgg51, Try.sizeOf51⟩
theorem G52 : Agg Try.prog 52 2 := ⟨Try.isAgg52, Try.sizeOf52⟩
theorem G57 : Agg Try.prog 57 3 := ⟨Try.isAgg57, Try.sizeOf57⟩
theorem S22 : SlT Try.prog 22 49 2 32 (.agg #[(.string ⟨#[]⟩), (.string ⟨#[]⟩)]) := ⟨Try.underlying22, ⟨_, I49, rfl, rfl, rfl⟩, by kernel_rfl, by decide⟩
theorem S23 : SlT Try.prog 23 9 1 16 (.string ⟨#[]⟩) := ⟨Try.underlying23, ⟨_, I9, rfl, rfl, rfl⟩, by kernel_rfl, by decide⟩
theorem S28 : SlT Try.prog 28 51 2 32 (.agg #[(.string ⟨#[]⟩), (.string ⟨#[]⟩)]) := ⟨Try.underlying28, ⟨_, I51, rfl, rfl, rfl⟩, by kernel_rfl, by decide⟩
theorem S31 : SlT Try.prog 31 52 2 32 (.agg #[(.string ⟨#[]⟩), (.string ⟨#[]⟩)]) := ⟨Try.underlying31, ⟨_, I52, rfl, rfl, rfl⟩, by kernel_rfl, by decide⟩
theorem S61 : SlT Try.prog 61 5 1 1 (.int .u8 0) := ⟨Try.underlying61, ⟨_, I5, rfl, rfl, rfl⟩, by kernel_rfl, by decide⟩
theorem S72 : SlT Try.prog 72 3 1 8 (.int .i64 0) := ⟨Try.underlying72, ⟨_, I3, rfl, rfl, rfl⟩, by kernel_rfl, by decide⟩
theorem Z23 : ∀ w, (sizeOf 23).run Try.prog w = .ok 1 w := Try.sizeOf23
theorem Z28 : ∀ w, (sizeOf 28).run Try.prog w = .ok 1 w := Try.sizeOf28
theorem Z3 : ∀ w, (sizeOf 3).run Try.prog w = .ok 1 w := Try.sizeOf3
theorem Z31 : ∀ w, (sizeOf 31).run Try.prog w = .ok 1 w := Try.sizeOf31
theorem Z5 : ∀ w, (sizeOf 5).run Try.prog w = .ok 1 w := Try.sizeOf5
theorem Z61 : ∀ w, (sizeOf 61).run Try.prog w = .ok 1 w := Try.sizeOf61
theorem Z75 : ∀ w, (sizeOf 75).run Try.prog w = .ok 1 w := Try.sizeOf75
theorem Z9 : ∀ w, (sizeOf 9).run Try.prog w = .ok 1 w := Try.sizeOf9

end Go.Proofs.Ytedgndhbieeffaa
