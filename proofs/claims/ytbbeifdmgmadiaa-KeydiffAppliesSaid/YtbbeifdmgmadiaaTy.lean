/-
  What the types of the program are, for the rules of the Mem text.
-/
import Derived.Test.YtbbeifdmgmadiaaRows
import Derived.Test.YtbbeifdmgmadiaaMem
import Derived.Test.YtbbeifdmgmadiaaMap
import Derived.Test.YtbbeifdmgmadiaaArr
import Derived.Test.YtbbeifdmgmadiaaByc
import Derived.Test.YtbbeifdmgmadiaaLib
namespace Go.Proofs.Ytbbeifdmgmadiaa
open Go Go.SL

theorem mixed : Try.prog.follows .mixedOrders = true := by kernel_rfl
theorem I3 : Try.prog.info? 3 = some Try.t3 := by kernel_rfl
theorem I4 : Try.prog.info? 4 = some Try.t4 := by kernel_rfl
theorem I9 : Try.prog.info? 9 = some Try.t9 := by kernel_rfl
theorem I24 : Try.prog.info? 24 = some Try.t24 := by kernel_rfl
theorem I33 : Try.prog.info? 33 = some Try.t33 := by kernel_rfl
theorem I36 : Try.prog.info? 36 = some Try.t36 := by kernel_rfl
theorem I38 : Try.prog.info? 38 = some Try.t38 := by kernel_rfl
theorem I40 : Try.prog.info? 40 = some Try.t40 := by kernel_rfl
theorem I42 : Try.prog.info? 42 = some Try.t42 := by kernel_rfl
theorem I45 : Try.prog.info? 45 = some Try.t45 := by kernel_rfl
theorem I49 : Try.prog.info? 49 = some Try.t49 := by kernel_rfl
theorem I51 : Try.prog.info? 51 = some Try.t51 := by kernel_rfl
theorem I59 : Try.prog.info? 59 = some Try.t59 := by kernel_rfl
theorem I61 : Try.prog.info? 61 = some Try.t61 := by kernel_rfl
theorem I65 : Try.prog.info? 65 = some Try.t65 := by kernel_rfl
theorem I94 : Try.prog.info? 94 = some Try.t94 := by kernel_rfl
theorem A59 : ArT Try.prog 59 2 9 1 := ⟨Try.underlying59, Try.sizeOf9⟩
theorem Bs36 : FieldPlaces Try.prog 36 [(0, 1), (1, 1)] := ⟨_, Try.underlying36, fun w => by simp [Try.sizeOf4, Try.sizeOf9]⟩
theorem Bs38 : FieldPlaces Try.prog 38 [(0, 1), (1, 1)] := ⟨_, Try.underlying38, fun w => by simp [Try.sizeOf4, Try.sizeOf9]⟩
theorem Bs40 : FieldPlaces Try.prog 40 [(0, 1), (1, 2), (3, 2), (5, 2)] := ⟨_, Try.underlying40, fun w => by simp [Try.sizeOf38, Try.sizeOf9]⟩
theorem Bs42 : FieldPlaces Try.prog 42 [(0, 1), (1, 1)] := ⟨_, Try.underlying42, fun w => by simp [Try.sizeOf9]⟩
theorem Bs45 : FieldPlaces Try.prog 45 [(0, 1), (1, 1)] := ⟨_, Try.underlying45, fun w => by simp [Try.sizeOf9]⟩
theorem Bs51 : FieldPlaces Try.prog 51 [(0, 1), (1, 2), (3, 2)] := ⟨_, Try.underlying51, fun w => by simp [Try.sizeOf38, Try.sizeOf9]⟩
theorem C24 : Cell1 Try.prog 24 := Try.isAgg24
theorem C3 : Cell1 Try.prog 3 := Try.isAgg3
theorem C33 : Cell1 Try.prog 33 := Try.isAgg33
theorem C4 : Cell1 Try.prog 4 := Try.isAgg4
theorem C61 : Cell1 Try.prog 61 := Try.isAgg61
theorem C65 : Cell1 Try.prog 65 := Try.isAgg65
theorem C9 : Cell1 Try.prog 9 := Try.isAgg9
theorem C94 : Cell1 Try.prog 94 := Try.isAgg94
theorem E36 (a0 b0 : List UInt8) (a1 b1 : Bool) : EqS Try.prog 36 #[vs a0, .bool a1] #[vs b0, .bool b1] (a0 = b0 ∧ a1 = b1) := ⟨fun w => by
  simp [go_sem, run_equalIn_agg, Op.eqFields, part, Try.underlying4, Try.underlying9, Try.underlying36, Try.isAgg4, Try.isAgg9, Try.isAgg36, Try.stoodInHeld36, Try.sizeOf4, Try.sizeOf9, Try.sizeOf36]
  all_goals (try (repeat' split)) <;> simp_all, Try.eqGuardType36⟩
theorem E38 (a0 b0 : List UInt8) (a1 b1 : Bool) : EqS Try.prog 38 #[vs a0, .bool a1] #[vs b0, .bool b1] (a0 = b0 ∧ a1 = b1) := ⟨fun w => by
  simp [go_sem, run_equalIn_agg, Op.eqFields, part, Try.underlying4, Try.underlying9, Try.underlying38, Try.isAgg4, Try.isAgg9, Try.isAgg38, Try.stoodInHeld38, Try.sizeOf4, Try.sizeOf9, Try.sizeOf38]
  all_goals (try (repeat' split)) <;> simp_all, Try.eqGuardType38⟩
theorem E40 (a0 b0 : List UInt8) (a1 b1 : List UInt8) (a2 b2 : Bool) (a3 b3 : List UInt8) (a4 b4 : Bool) (a5 b5 : List UInt8) (a6 b6 : Bool) : EqS Try.prog 40 #[vs a0, vs a1, .bool a2, vs a3, .bool a4, vs a5, .bool a6] #[vs b0, vs b1, .bool b2, vs b3, .bool b4, vs b5, .bool b6] (a0 = b0 ∧ a1 = b1 ∧ a2 = b2 ∧ a3 = b3 ∧ a4 = b4 ∧ a5 = b5 ∧ a6 = b6) := ⟨fun w => by
  simp [go_sem, run_equalIn_agg, Op.eqFields, part, Try.underlying4, Try.underlying9, Try.underlying38, Try.underlying40, Try.isAgg4, Try.isAgg9, Try.isAgg38, Try.isAgg40, Try.stoodInHeld38, Try.stoodInHeld40, Try.sizeOf4, Try.sizeOf9, Try.sizeOf38, Try.sizeOf40]
  all_goals (try (repeat' split)) <;> simp_all, Try.eqGuardType40⟩
theorem E42 (a0 b0 : List UInt8) (a1 b1 : List UInt8) : EqS Try.prog 42 #[vs a0, vs a1] #[vs b0, vs b1] (a0 = b0 ∧ a1 = b1) := ⟨fun w => by
  simp [go_sem, run_equalIn_agg, Op.eqFields, part, Try.underlying9, Try.underlying42, Try.isAgg9, Try.isAgg42, Try.stoodInHeld42, Try.sizeOf9, Try.sizeOf42]
  all_goals (try (repeat' split)) <;> simp_all, Try.eqGuardType42⟩
theorem E45 (a0 b0 : List UInt8) (a1 b1 : List UInt8) : EqS Try.prog 45 #[vs a0, vs a1] #[vs b0, vs b1] (a0 = b0 ∧ a1 = b1) := ⟨fun w => by
  simp [go_sem, run_equalIn_agg, Op.eqFields, part, Try.underlying9, Try.underlying45, Try.isAgg9, Try.isAgg45, Try.stoodInHeld45, Try.sizeOf9, Try.sizeOf45]
  all_goals (try (repeat' split)) <;> simp_all, Try.eqGuardType45⟩
theorem E51 (a0 b0 : List UInt8) (a1 b1 : List UInt8) (a2 b2 : Bool) (a3 b3 : List UInt8) (a4 b4 : Bool) : EqS Try.prog 51 #[vs a0, vs a1, .bool a2, vs a3, .bool a4] #[vs b0, vs b1, .bool b2, vs b3, .bool b4] (a0 = b0 ∧ a1 = b1 ∧ a2 = b2 ∧ a3 = b3 ∧ a4 = b4) := ⟨fun w => by
  simp [go_sem, run_equalIn_agg, Op.eqFields, part, Try.underlying4, Try.underlying9, Try.underlying38, Try.underlying51, Try.isAgg4, Try.isAgg9, Try.isAgg38, Try.isAgg51, Try.stoodInHeld38, Try.stoodInHeld51, Try.sizeOf4, Try.sizeOf9, Try.sizeOf38, Try.sizeOf51]
  all_goals (try (repeat' split)) <;> simp_all, Try.eqGuardType51⟩
theorem F36_0 : FieldAt Try.prog 36 0 0 := ⟨_, _, 0, Try.underlying36, rfl, rfl, Try.sizeOf9⟩
theorem F36_1 : FieldAt Try.prog 36 1 1 := ⟨_, _, 0, Try.underlying36, rfl, rfl, Try.sizeOf4⟩
theorem F38_0 : FieldAt Try.prog 38 0 0 := ⟨_, _, 0, Try.underlying38, rfl, rfl, Try.sizeOf9⟩
theorem F38_1 : FieldAt Try.prog 38 1 1 := ⟨_, _, 0, Try.underlying38, rfl, rfl, Try.sizeOf4⟩
theorem F40_0 : FieldAt Try.prog 40 0 0 := ⟨_, _, 0, Try.underlying40, rfl, rfl, Try.sizeOf9⟩
theorem F40_1 : FieldAt Try.prog 40 1 1 := ⟨_, _, 1, Try.underlying40, rfl, rfl, Try.sizeOf38⟩
theorem F40_2 : FieldAt Try.prog 40 2 3 := ⟨_, _, 1, Try.underlying40, rfl, rfl, Try.sizeOf38⟩
theorem F40_3 : FieldAt Try.prog 40 3 5 := ⟨_, _, 1, Try.underlying40, rfl, rfl, Try.sizeOf38⟩
theorem F42_0 : FieldAt Try.prog 42 0 0 := ⟨_, _, 0, Try.underlying42, rfl, rfl, Try.sizeOf9⟩
theorem F42_1 : FieldAt Try.prog 42 1 1 := ⟨_, _, 0, Try.underlying42, rfl, rfl, Try.sizeOf9⟩
theorem F45_0 : FieldAt Try.prog 45 0 0 := ⟨_, _, 0, Try.underlying45, rfl, rfl, Try.sizeOf9⟩
theorem F45_1 : FieldAt Try.prog 45 1 1 := ⟨_, _, 0, Try.underlying45, rfl, rfl, Try.sizeOf9⟩
theorem F49_0 : FieldAt Try.prog 49 0 0 := ⟨_, _, 0, Try.underlying49, rfl, rfl, Try.sizeOf9⟩
theorem F49_1 : FieldAt Try.prog 49 1 1 := ⟨_, _, 0, Try.underlying49, rfl, rfl, Try.sizeOf9⟩
theorem F49_2 : FieldAt Try.prog 49 2 2 := ⟨_, _, 0, Try.underlying49, rfl, rfl, Try.sizeOf9⟩
theorem F49_3 : FieldAt Try.prog 49 3 3 := ⟨_, _, 0, Try.underlying49, rfl, rfl, Try.sizeOf4⟩
theorem F49_4 : FieldAt Try.prog 49 4 4 := ⟨_, _, 0, Try.underlying49, rfl, rfl, Try.sizeOf4⟩
theorem F51_0 : FieldAt Try.prog 51 0 0 := ⟨_, _, 0, Try.underlying51, rfl, rfl, Try.sizeOf9⟩
theorem F51_1 : FieldAt Try.prog 51 1 1 := ⟨_, _, 1, Try.underlying51, rfl, rfl, Try.sizeOf38⟩
theorem F51_2 : FieldAt Try.prog 51 2 3 := ⟨_, _, 1, Try.underlying51, rfl, rfl, Try.sizeOf38⟩
theorem G36 : Agg Try.prog 36 2 := ⟨Try.isAgg36, Try.sizeOf36⟩
theorem G38 : Agg Try.prog 38 2 := ⟨Try.isAgg38, Try.sizeOf38⟩
theorem G40 : Agg Try.prog 40 7 := ⟨Try.isAgg40, Try.sizeOf40⟩
theorem G42 : Agg Try.prog 42 2 := ⟨Try.isAgg42, Try.sizeOf42⟩
theorem G45 : Agg Try.prog 45 2 := ⟨Try.isAgg45, Try.sizeOf45⟩
theorem G51 : Agg Try.prog 51 5 := ⟨Try.isAgg51, Try.sizeOf51⟩
theorem K9 : KeyT Try.prog 9 vs := KeyT.string Try.underlying9
theorem M61 : MapT Try.prog 61 9 38 (.agg #[(.string ⟨#[]⟩), (.bool false)]) := MapT.mk' Try.underlying61 I38 rfl
theorem S22 : SlT Try.prog 22 59 2 32 (.agg #[(.string ⟨#[]⟩), (.string ⟨#[]⟩)]) := ⟨Try.underlying22, ⟨_, I59, rfl, rfl, rfl⟩, by kernel_rfl, by decide⟩
theorem S24 : SlT Try.prog 24 45 2 32 (.agg #[(.string ⟨#[]⟩), (.string ⟨#[]⟩)]) := ⟨Try.underlying24, ⟨_, I45, rfl, rfl, rfl⟩, by kernel_rfl, by decide⟩
theorem S25 : SlT Try.prog 25 42 2 32 (.agg #[(.string ⟨#[]⟩), (.string ⟨#[]⟩)]) := ⟨Try.underlying25, ⟨_, I42, rfl, rfl, rfl⟩, by kernel_rfl, by decide⟩
theorem S28 : SlT Try.prog 28 40 7 88 (.agg #[(.string ⟨#[]⟩), (.string ⟨#[]⟩), (.bool false), (.string ⟨#[]⟩), (.bool false), (.string ⟨#[]⟩), (.bool false)]) := ⟨Try.underlying28, ⟨_, I40, rfl, rfl, rfl⟩, by kernel_rfl, by decide⟩
theorem S33 : SlT Try.prog 33 9 1 16 (.string ⟨#[]⟩) := ⟨Try.underlying33, ⟨_, I9, rfl, rfl, rfl⟩, by kernel_rfl, by decide⟩
theorem S46 : SlT Try.prog 46 49 5 56 (.agg #[(.string ⟨#[]⟩), (.string ⟨#[]⟩), (.string ⟨#[]⟩), (.bool false), (.bool false)]) := ⟨Try.underlying46, ⟨_, I49, rfl, rfl, rfl⟩, by kernel_rfl, by decide⟩
theorem S47 : SlT Try.prog 47 51 5 64 (.agg #[(.string ⟨#[]⟩), (.string ⟨#[]⟩), (.bool false), (.string ⟨#[]⟩), (.bool false)]) := ⟨Try.underlying47, ⟨_, I51, rfl, rfl, rfl⟩, by kernel_rfl, by decide⟩
theorem S68 : SlT Try.prog 68 24 1 24 (.slice none 0 0) := ⟨Try.underlying68, ⟨_, I24, rfl, rfl, rfl⟩, by kernel_rfl, by decide⟩
theorem Z3 : ∀ w, (sizeOf 3).run Try.prog w = .ok 1 w := Try.sizeOf3
theorem Z65 : ∀ w, (sizeOf 65).run Try.prog w = .ok 1 w := Try.sizeOf65
theorem Z9 : ∀ w, (sizeOf 9).run Try.prog w = .ok 1 w := Try.sizeOf9
theorem Z94 : ∀ w, (sizeOf 94).run Try.prog w = .ok 1 w := Try.sizeOf94

end Go.Proofs.Ytbbeifdmgmadiaa
