/-
  What the types of the program are, for the rules of the Mem text.
-/
import Derived.Test.YtdcnlfooopjbaaaRows
import Derived.Test.YtdcnlfooopjbaaaMem
import Derived.Test.YtdcnlfooopjbaaaMap
namespace Go.Proofs.Ytdcnlfooopjbaaa
open Go Go.SL

theorem mixed : Try.prog.follows .mixedOrders = true := by kernel_rfl
theorem I3 : Try.prog.info? 3 = some Try.t3 := by kernel_rfl
theorem I9 : Try.prog.info? 9 = some Try.t9 := by kernel_rfl
theorem I22 : Try.prog.info? 22 = some Try.t22 := by kernel_rfl
theorem I26 : Try.prog.info? 26 = some Try.t26 := by kernel_rfl
theorem I28 : Try.prog.info? 28 = some Try.t28 := by kernel_rfl
theorem I29 : Try.prog.info? 29 = some Try.t29 := by kernel_rfl
theorem I37 : Try.prog.info? 37 = some Try.t37 := by kernel_rfl
theorem I49 : Try.prog.info? 49 = some Try.t49 := by kernel_rfl
theorem I52 : Try.prog.info? 52 = some Try.t52 := by kernel_rfl
theorem I60 : Try.prog.info? 60 = some Try.t60 := by kernel_rfl
theorem I61 : Try.prog.info? 61 = some Try.t61 := by kernel_rfl
theorem Bs28 : FieldPlaces Try.prog 28 [(0, 1), (1, 1)] := ⟨_, Try.underlying28, fun w => by simp [Try.sizeOf3, Try.sizeOf9]⟩
theorem Bs49 : FieldPlaces Try.prog 49 [(0, 1), (1, 1)] := ⟨_, Try.underlying49, fun w => by simp [Try.sizeOf3, Try.sizeOf9]⟩
theorem Bs52 : FieldPlaces Try.prog 52 [(0, 1), (1, 1), (2, 1)] := ⟨_, Try.underlying52, fun w => by simp [Try.sizeOf3, Try.sizeOf9]⟩
theorem C22 : Cell1 Try.prog 22 := Try.isAgg22
theorem C26 : Cell1 Try.prog 26 := Try.isAgg26
theorem C3 : Cell1 Try.prog 3 := Try.isAgg3
theorem C37 : Cell1 Try.prog 37 := Try.isAgg37
theorem C60 : Cell1 Try.prog 60 := Try.isAgg60
theorem C61 : Cell1 Try.prog 61 := Try.isAgg61
theorem C9 : Cell1 Try.prog 9 := Try.isAgg9
theorem E28 (a0 b0 : Int) (a1 b1 : List UInt8) : EqS Try.prog 28 #[.int .i64 a0, vs a1] #[.int .i64 b0, vs b1] (a0 = b0 ∧ a1 = b1) := ⟨fun w => by
  simp [go_sem, run_equalIn_agg, Op.eqFields, part, Try.underlying3, Try.underlying9, Try.underlying28, Try.isAgg3, Try.isAgg9, Try.isAgg28, Try.stoodInHeld28, Try.sizeOf3, Try.sizeOf9, Try.sizeOf28]
  all_goals (try (repeat' split)) <;> simp_all, Try.eqGuardType28⟩
theorem E49 (a0 b0 : Int) (a1 b1 : List UInt8) : EqS Try.prog 49 #[.int .i64 a0, vs a1] #[.int .i64 b0, vs b1] (a0 = b0 ∧ a1 = b1) := ⟨fun w => by
  simp [go_sem, run_equalIn_agg, Op.eqFields, part, Try.underlying3, Try.underlying9, Try.underlying49, Try.isAgg3, Try.isAgg9, Try.isAgg49, Try.stoodInHeld49, Try.sizeOf3, Try.sizeOf9, Try.sizeOf49]
  all_goals (try (repeat' split)) <;> simp_all, Try.eqGuardType49⟩
theorem E52 (a0 b0 : List UInt8) (a1 b1 : Int) (a2 b2 : Int) : EqS Try.prog 52 #[vs a0, .int .i64 a1, .int .i64 a2] #[vs b0, .int .i64 b1, .int .i64 b2] (a0 = b0 ∧ a1 = b1 ∧ a2 = b2) := ⟨fun w => by
  simp [go_sem, run_equalIn_agg, Op.eqFields, part, Try.underlying3, Try.underlying9, Try.underlying52, Try.isAgg3, Try.isAgg9, Try.isAgg52, Try.stoodInHeld52, Try.sizeOf3, Try.sizeOf9, Try.sizeOf52]
  all_goals (try (repeat' split)) <;> simp_all, Try.eqGuardType52⟩
theorem F28_0 : FieldAt Try.prog 28 0 0 := ⟨_, _, 0, Try.underlying28, rfl, rfl, Try.sizeOf3⟩
theorem F28_1 : FieldAt Try.prog 28 1 1 := ⟨_, _, 0, Try.underlying28, rfl, rfl, Try.sizeOf9⟩
theorem F49_0 : FieldAt Try.prog 49 0 0 := ⟨_, _, 0, Try.underlying49, rfl, rfl, Try.sizeOf3⟩
theorem G28 : Agg Try.prog 28 2 := ⟨Try.isAgg28, Try.sizeOf28⟩
theorem G29 : Agg Try.prog 29 2 := ⟨Try.isAgg29, Try.sizeOf29⟩
theorem G49 : Agg Try.prog 49 2 := ⟨Try.isAgg49, Try.sizeOf49⟩
theorem G52 : Agg Try.prog 52 3 := ⟨Try.isAgg52, Try.sizeOf52⟩
theorem K9 : KeyT Try.prog 9 vs := KeyT.string Try.underlying9
theorem M55 : MapT Try.prog 55 9 3 (.int .i64 0) := MapT.mk' Try.underlying55 I3 rfl
theorem S22 : SlT Try.prog 22 9 1 16 (.string ⟨#[]⟩) := ⟨Try.underlying22, ⟨_, I9, rfl, rfl, rfl⟩, by kernel_rfl, by decide⟩
theorem S23 : SlT Try.prog 23 29 2 24 (.agg #[(.int .i64 0), (.string ⟨#[]⟩)]) := ⟨Try.underlying23, ⟨_, I29, rfl, rfl, rfl⟩, by kernel_rfl, by decide⟩
theorem S26 : SlT Try.prog 26 28 2 24 (.agg #[(.int .i64 0), (.string ⟨#[]⟩)]) := ⟨Try.underlying26, ⟨_, I28, rfl, rfl, rfl⟩, by kernel_rfl, by decide⟩
theorem S37 : SlT Try.prog 37 3 1 8 (.int .i64 0) := ⟨Try.underlying37, ⟨_, I3, rfl, rfl, rfl⟩, by kernel_rfl, by decide⟩
theorem S38 : SlT Try.prog 38 37 1 24 (.slice none 0 0) := ⟨Try.underlying38, ⟨_, I37, rfl, rfl, rfl⟩, by kernel_rfl, by decide⟩
theorem S43 : SlT Try.prog 43 52 3 32 (.agg #[(.string ⟨#[]⟩), (.int .i64 0), (.int .i64 0)]) := ⟨Try.underlying43, ⟨_, I52, rfl, rfl, rfl⟩, by kernel_rfl, by decide⟩
theorem S46 : SlT Try.prog 46 49 2 24 (.agg #[(.int .i64 0), (.string ⟨#[]⟩)]) := ⟨Try.underlying46, ⟨_, I49, rfl, rfl, rfl⟩, by kernel_rfl, by decide⟩
theorem S58 : SlT Try.prog 58 61 1 24 (.slice none 0 0) := ⟨Try.underlying58, ⟨_, I61, rfl, rfl, rfl⟩, by kernel_rfl, by decide⟩
theorem S61 : SlT Try.prog 61 60 1 2 (.int .u16 0) := ⟨Try.underlying61, ⟨_, I60, rfl, rfl, rfl⟩, by kernel_rfl, by decide⟩
theorem Z26 : ∀ w, (sizeOf 26).run Try.prog w = .ok 1 w := Try.sizeOf26
theorem Z3 : ∀ w, (sizeOf 3).run Try.prog w = .ok 1 w := Try.sizeOf3
theorem Z37 : ∀ w, (sizeOf 37).run Try.prog w = .ok 1 w := Try.sizeOf37
theorem Z60 : ∀ w, (sizeOf 60).run Try.prog w = .ok 1 w := Try.sizeOf60
theorem Z61 : ∀ w, (sizeOf 61).run Try.prog w = .ok 1 w := Try.sizeOf61

end Go.Proofs.Ytdcnlfooopjbaaa
