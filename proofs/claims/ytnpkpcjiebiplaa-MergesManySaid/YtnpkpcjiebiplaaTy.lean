/-
  What the types of the program are, for the rules of the Mem text.
-/
import Derived.Test.YtnpkpcjiebiplaaRows
import Derived.Test.YtnpkpcjiebiplaaMem
import Derived.Test.YtnpkpcjiebiplaaMap
import Derived.Test.YtnpkpcjiebiplaaArr
import Derived.Test.YtnpkpcjiebiplaaByc
import Derived.Test.YtnpkpcjiebiplaaLib
namespace Go.Proofs.Ytnpkpcjiebiplaa
open Go Go.SL

theorem mixed : Try.prog.follows .mixedOrders = true := by kernel_rfl
theorem I3 : Try.prog.info? 3 = some Try.t3 := by kernel_rfl
theorem I4 : Try.prog.info? 4 = some Try.t4 := by kernel_rfl
theorem I5 : Try.prog.info? 5 = some Try.t5 := by kernel_rfl
theorem I9 : Try.prog.info? 9 = some Try.t9 := by kernel_rfl
theorem I24 : Try.prog.info? 24 = some Try.t24 := by kernel_rfl
theorem I38 : Try.prog.info? 38 = some Try.t38 := by kernel_rfl
theorem I42 : Try.prog.info? 42 = some Try.t42 := by kernel_rfl
theorem I48 : Try.prog.info? 48 = some Try.t48 := by kernel_rfl
theorem I53 : Try.prog.info? 53 = some Try.t53 := by kernel_rfl
theorem I54 : Try.prog.info? 54 = some Try.t54 := by kernel_rfl
theorem I55 : Try.prog.info? 55 = some Try.t55 := by kernel_rfl
theorem I56 : Try.prog.info? 56 = some Try.t56 := by kernel_rfl
theorem I57 : Try.prog.info? 57 = some Try.t57 := by kernel_rfl
theorem I59 : Try.prog.info? 59 = some Try.t59 := by kernel_rfl
theorem I61 : Try.prog.info? 61 = some Try.t61 := by kernel_rfl
theorem I72 : Try.prog.info? 72 = some Try.t72 := by kernel_rfl
theorem I83 : Try.prog.info? 83 = some Try.t83 := by kernel_rfl
theorem A53 : ArT Try.prog 53 2 9 1 := ⟨Try.underlying53, Try.sizeOf9⟩
theorem Bs42 : FieldPlaces Try.prog 42 [(0, 1), (1, 1)] := ⟨_, Try.underlying42, fun w => by simp [Try.sizeOf9]⟩
theorem Bs48 : FieldPlaces Try.prog 48 [(0, 1), (1, 1)] := ⟨_, Try.underlying48, fun w => by simp [Try.sizeOf9]⟩
theorem Bs61 : FieldPlaces Try.prog 61 [(0, 1), (1, 1), (2, 1), (3, 1), (4, 1)] := ⟨_, Try.underlying61, fun w => by simp [Try.sizeOf38, Try.sizeOf56, Try.sizeOf57, Try.sizeOf59]⟩
theorem Bs83 : FieldPlaces Try.prog 83 [(0, 1), (1, 1), (2, 1), (3, 1)] := ⟨_, Try.underlying83, fun w => by simp [Try.sizeOf3, Try.sizeOf9]⟩
theorem C23 : Cell1 Try.prog 23 := Try.isAgg23
theorem C24 : Cell1 Try.prog 24 := Try.isAgg24
theorem C3 : Cell1 Try.prog 3 := Try.isAgg3
theorem C38 : Cell1 Try.prog 38 := Try.isAgg38
theorem C54 : Cell1 Try.prog 54 := Try.isAgg54
theorem C55 : Cell1 Try.prog 55 := Try.isAgg55
theorem C56 : Cell1 Try.prog 56 := Try.isAgg56
theorem C57 : Cell1 Try.prog 57 := Try.isAgg57
theorem C59 : Cell1 Try.prog 59 := Try.isAgg59
theorem C70 : Cell1 Try.prog 70 := Try.isAgg70
theorem C9 : Cell1 Try.prog 9 := Try.isAgg9
theorem E48 (a0 b0 : List UInt8) (a1 b1 : List UInt8) : EqS Try.prog 48 #[vs a0, vs a1] #[vs b0, vs b1] (a0 = b0 ∧ a1 = b1) := ⟨fun w => by
  simp [go_sem, run_equalIn_agg, Op.eqFields, part, Try.underlying9, Try.underlying48, Try.isAgg9, Try.isAgg48, Try.stoodInHeld48, Try.sizeOf9, Try.sizeOf48]
  all_goals (try (repeat' split)) <;> simp_all, Try.eqGuardType48⟩
theorem F42_0 : FieldAt Try.prog 42 0 0 := ⟨_, _, 0, Try.underlying42, rfl, rfl, Try.sizeOf9⟩
theorem F42_1 : FieldAt Try.prog 42 1 1 := ⟨_, _, 0, Try.underlying42, rfl, rfl, Try.sizeOf9⟩
theorem F48_0 : FieldAt Try.prog 48 0 0 := ⟨_, _, 0, Try.underlying48, rfl, rfl, Try.sizeOf9⟩
theorem F48_1 : FieldAt Try.prog 48 1 1 := ⟨_, _, 0, Try.underlying48, rfl, rfl, Try.sizeOf9⟩
theorem F61_0 : FieldAt Try.prog 61 0 0 := ⟨_, _, 0, Try.underlying61, rfl, rfl, Try.sizeOf38⟩
theorem F61_1 : FieldAt Try.prog 61 1 1 := ⟨_, _, 0, Try.underlying61, rfl, rfl, Try.sizeOf57⟩
theorem F61_2 : FieldAt Try.prog 61 2 2 := ⟨_, _, 0, Try.underlying61, rfl, rfl, Try.sizeOf57⟩
theorem F61_3 : FieldAt Try.prog 61 3 3 := ⟨_, _, 0, Try.underlying61, rfl, rfl, Try.sizeOf56⟩
theorem F61_4 : FieldAt Try.prog 61 4 4 := ⟨_, _, 0, Try.underlying61, rfl, rfl, Try.sizeOf59⟩
theorem F72_0 : FieldAt Try.prog 72 0 0 := ⟨_, _, 0, Try.underlying72, rfl, rfl, Try.sizeOf70⟩
theorem F72_1 : FieldAt Try.prog 72 1 1 := ⟨_, _, 0, Try.underlying72, rfl, rfl, Try.sizeOf23⟩
theorem F83_0 : FieldAt Try.prog 83 0 0 := ⟨_, _, 0, Try.underlying83, rfl, rfl, Try.sizeOf3⟩
theorem F83_1 : FieldAt Try.prog 83 1 1 := ⟨_, _, 0, Try.underlying83, rfl, rfl, Try.sizeOf3⟩
theorem F83_2 : FieldAt Try.prog 83 2 2 := ⟨_, _, 0, Try.underlying83, rfl, rfl, Try.sizeOf9⟩
theorem F83_3 : FieldAt Try.prog 83 3 3 := ⟨_, _, 0, Try.underlying83, rfl, rfl, Try.sizeOf9⟩
theorem G42 : Agg Try.prog 42 2 := ⟨Try.isAgg42, Try.sizeOf42⟩
theorem G48 : Agg Try.prog 48 2 := ⟨Try.isAgg48, Try.sizeOf48⟩
theorem G83 : Agg Try.prog 83 4 := ⟨Try.isAgg83, Try.sizeOf83⟩
theorem K3 : KeyT Try.prog 3 (fun n : Int => .int .i64 n) := KeyT.int Try.underlying3
-- K42 not printed
theorem K9 : KeyT Try.prog 9 vs := KeyT.string Try.underlying9
theorem M43 : MapT Try.prog 43 3 4 (.bool false) := MapT.mk' Try.underlying43 I4 rfl
theorem M50 : MapT Try.prog 50 42 4 (.bool false) := MapT.mk' Try.underlying50 I4 rfl
theorem M54 : MapT Try.prog 54 9 4 (.bool false) := MapT.mk' Try.underlying54 I4 rfl
theorem M56 : MapT Try.prog 56 42 3 (.int .i64 0) := MapT.mk' Try.underlying56 I3 rfl
theorem S23 : SlT Try.prog 23 5 1 1 (.int .u8 0) := ⟨Try.underlying23, ⟨_, I5, rfl, rfl, rfl⟩, by kernel_rfl, by decide⟩
theorem S24 : SlT Try.prog 24 42 2 32 (.agg #[(.string ⟨#[]⟩), (.string ⟨#[]⟩)]) := ⟨Try.underlying24, ⟨_, I42, rfl, rfl, rfl⟩, by kernel_rfl, by decide⟩
theorem S29 : SlT Try.prog 29 53 2 32 (.agg #[(.string ⟨#[]⟩), (.string ⟨#[]⟩)]) := ⟨Try.underlying29, ⟨_, I53, rfl, rfl, rfl⟩, by kernel_rfl, by decide⟩
theorem S30 : SlT Try.prog 30 48 2 32 (.agg #[(.string ⟨#[]⟩), (.string ⟨#[]⟩)]) := ⟨Try.underlying30, ⟨_, I48, rfl, rfl, rfl⟩, by kernel_rfl, by decide⟩
theorem S38 : SlT Try.prog 38 9 1 16 (.string ⟨#[]⟩) := ⟨Try.underlying38, ⟨_, I9, rfl, rfl, rfl⟩, by kernel_rfl, by decide⟩
theorem S57 : SlT Try.prog 57 3 1 8 (.int .i64 0) := ⟨Try.underlying57, ⟨_, I3, rfl, rfl, rfl⟩, by kernel_rfl, by decide⟩
theorem S59 : SlT Try.prog 59 83 4 48 (.agg #[(.int .i64 0), (.int .i64 0), (.string ⟨#[]⟩), (.string ⟨#[]⟩)]) := ⟨Try.underlying59, ⟨_, I83, rfl, rfl, rfl⟩, by kernel_rfl, by decide⟩
theorem Z23 : ∀ w, (sizeOf 23).run Try.prog w = .ok 1 w := Try.sizeOf23
theorem Z3 : ∀ w, (sizeOf 3).run Try.prog w = .ok 1 w := Try.sizeOf3
theorem Z38 : ∀ w, (sizeOf 38).run Try.prog w = .ok 1 w := Try.sizeOf38
theorem Z54 : ∀ w, (sizeOf 54).run Try.prog w = .ok 1 w := Try.sizeOf54
theorem Z55 : ∀ w, (sizeOf 55).run Try.prog w = .ok 1 w := Try.sizeOf55
theorem Z57 : ∀ w, (sizeOf 57).run Try.prog w = .ok 1 w := Try.sizeOf57
theorem Z59 : ∀ w, (sizeOf 59).run Try.prog w = .ok 1 w := Try.sizeOf59
theorem Z70 : ∀ w, (sizeOf 70).run Try.prog w = .ok 1 w := Try.sizeOf70
theorem Z9 : ∀ w, (sizeOf 9).run Try.prog w = .ok 1 w := Try.sizeOf9

end Go.Proofs.Ytnpkpcjiebiplaa
