/-
  What the types of the program are, for the rules of the Mem text.
-/
import Derived.Test.YtnpnjebogmfdkaaRows
import Derived.Test.YtnpnjebogmfdkaaMem
import Derived.Test.YtnpnjebogmfdkaaMap
import Derived.Test.YtnpnjebogmfdkaaArr
import Derived.Test.YtnpnjebogmfdkaaByc
import Derived.Test.YtnpnjebogmfdkaaLib
namespace Go.Proofs.Ytnpnjebogmfdkaa
open Go Go.SL

theorem mixed : Try.prog.follows .mixedOrders = true := by kernel_rfl
theorem I3 : Try.prog.info? 3 = some Try.t3 := by kernel_rfl
theorem I5 : Try.prog.info? 5 = some Try.t5 := by kernel_rfl
theorem I9 : Try.prog.info? 9 = some Try.t9 := by kernel_rfl
theorem I26 : Try.prog.info? 26 = some Try.t26 := by kernel_rfl
theorem I40 : Try.prog.info? 40 = some Try.t40 := by kernel_rfl
theorem I43 : Try.prog.info? 43 = some Try.t43 := by kernel_rfl
theorem I45 : Try.prog.info? 45 = some Try.t45 := by kernel_rfl
theorem I69 : Try.prog.info? 69 = some Try.t69 := by kernel_rfl
theorem Bs45 : FieldPlaces Try.prog 45 [(0, 1), (1, 1), (2, 1), (3, 2), (5, 1)] := ⟨_, Try.underlying45, fun w => by simp [Try.sizeOf3, Try.sizeOf40, Try.sizeOf43, Try.sizeOf9]⟩
theorem Bs69 : FieldPlaces Try.prog 69 [(0, 1), (1, 1)] := ⟨_, Try.underlying69, fun w => by simp [Try.sizeOf26, Try.sizeOf9]⟩
theorem C26 : Cell1 Try.prog 26 := Try.isAgg26
theorem C3 : Cell1 Try.prog 3 := Try.isAgg3
theorem C32 : Cell1 Try.prog 32 := Try.isAgg32
theorem C40 : Cell1 Try.prog 40 := Try.isAgg40
theorem C41 : Cell1 Try.prog 41 := Try.isAgg41
theorem C5 : Cell1 Try.prog 5 := Try.isAgg5
theorem C9 : Cell1 Try.prog 9 := Try.isAgg9
theorem F43_0 : FieldAt Try.prog 43 0 0 := ⟨_, _, 0, Try.underlying43, rfl, rfl, Try.sizeOf41⟩
theorem F43_1 : FieldAt Try.prog 43 1 1 := ⟨_, _, 0, Try.underlying43, rfl, rfl, Try.sizeOf32⟩
theorem F45_0 : FieldAt Try.prog 45 0 0 := ⟨_, _, 0, Try.underlying45, rfl, rfl, Try.sizeOf9⟩
theorem F45_1 : FieldAt Try.prog 45 1 1 := ⟨_, _, 0, Try.underlying45, rfl, rfl, Try.sizeOf9⟩
theorem F45_2 : FieldAt Try.prog 45 2 2 := ⟨_, _, 0, Try.underlying45, rfl, rfl, Try.sizeOf40⟩
theorem F45_3 : FieldAt Try.prog 45 3 3 := ⟨_, _, 1, Try.underlying45, rfl, rfl, Try.sizeOf43⟩
theorem F45_4 : FieldAt Try.prog 45 4 5 := ⟨_, _, 0, Try.underlying45, rfl, rfl, Try.sizeOf3⟩
theorem F69_0 : FieldAt Try.prog 69 0 0 := ⟨_, _, 0, Try.underlying69, rfl, rfl, Try.sizeOf9⟩
theorem F69_1 : FieldAt Try.prog 69 1 1 := ⟨_, _, 0, Try.underlying69, rfl, rfl, Try.sizeOf26⟩
theorem K9 : KeyT Try.prog 9 vs := KeyT.string Try.underlying9
theorem M40 : MapT Try.prog 40 9 3 (.int .i64 0) := MapT.mk' Try.underlying40 I3 rfl
theorem S32 : SlT Try.prog 32 5 1 1 (.int .u8 0) := ⟨Try.underlying32, ⟨_, I5, rfl, rfl, rfl⟩, by kernel_rfl, by decide⟩
theorem S66 : SlT Try.prog 66 3 1 8 (.int .i64 0) := ⟨Try.underlying66, ⟨_, I3, rfl, rfl, rfl⟩, by kernel_rfl, by decide⟩
theorem S71 : SlT Try.prog 71 9 1 16 (.string ⟨#[]⟩) := ⟨Try.underlying71, ⟨_, I9, rfl, rfl, rfl⟩, by kernel_rfl, by decide⟩
theorem Z26 : ∀ w, (sizeOf 26).run Try.prog w = .ok 1 w := Try.sizeOf26
theorem Z3 : ∀ w, (sizeOf 3).run Try.prog w = .ok 1 w := Try.sizeOf3
theorem Z32 : ∀ w, (sizeOf 32).run Try.prog w = .ok 1 w := Try.sizeOf32
theorem Z41 : ∀ w, (sizeOf 41).run Try.prog w = .ok 1 w := Try.sizeOf41
theorem Z5 : ∀ w, (sizeOf 5).run Try.prog w = .ok 1 w := Try.sizeOf5
theorem Z9 : ∀ w, (sizeOf 9).run Try.prog w = .ok 1 w := Try.sizeOf9

end Go.Proofs.Ytnpnjebogmfdkaa
