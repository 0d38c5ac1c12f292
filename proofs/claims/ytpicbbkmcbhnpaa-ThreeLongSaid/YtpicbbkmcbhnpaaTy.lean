/-
  What the types of the program are, for the rules of the Mem text.
-/
import Derived.Test.YtpicbbkmcbhnpaaRows
import Derived.Test.YtpicbbkmcbhnpaaMem
import Derived.Test.YtpicbbkmcbhnpaaMap
import Derived.Test.YtpicbbkmcbhnpaaArr
import Derived.Test.YtpicbbkmcbhnpaaByc
import Derived.Test.YtpicbbkmcbhnpaaLib
namespace Go.Proofs.Ytpicbbkmcbhnpaa
open Go Go.SL

theorem mixed : Try.prog.follows .mixedOrders = true := by kernel_rfl
theorem I3 : Try.prog.info? 3 = some Try.t3 := by kernel_rfl
theorem I4 : Try.prog.info? 4 = some Try.t4 := by kernel_rfl
theorem I9 : Try.prog.info? 9 = some Try.t9 := by kernel_rfl
theorem I22 : Try.prog.info? 22 = some Try.t22 := by kernel_rfl
theorem I32 : Try.prog.info? 32 = some Try.t32 := by kernel_rfl
theorem I39 : Try.prog.info? 39 = some Try.t39 := by kernel_rfl
theorem I40 : Try.prog.info? 40 = some Try.t40 := by kernel_rfl
theorem I45 : Try.prog.info? 45 = some Try.t45 := by kernel_rfl
theorem I50 : Try.prog.info? 50 = some Try.t50 := by kernel_rfl
theorem I56 : Try.prog.info? 56 = some Try.t56 := by kernel_rfl
theorem I60 : Try.prog.info? 60 = some Try.t60 := by kernel_rfl
theorem I62 : Try.prog.info? 62 = some Try.t62 := by kernel_rfl
theorem I71 : Try.prog.info? 71 = some Try.t71 := by kernel_rfl
theorem I77 : Try.prog.info? 77 = some Try.t77 := by kernel_rfl
theorem I78 : Try.prog.info? 78 = some Try.t78 := by kernel_rfl
theorem A60 : ArT Try.prog 60 3 3 1 := ⟨Try.underlying60, Try.sizeOf3⟩
theorem Bs39 : FieldPlaces Try.prog 39 [(0, 1), (1, 1), (2, 1)] := ⟨_, Try.underlying39, fun w => by simp [Try.sizeOf22]⟩
theorem Bs40 : FieldPlaces Try.prog 40 [(0, 1), (1, 1), (2, 1)] := ⟨_, Try.underlying40, fun w => by simp [Try.sizeOf22]⟩
theorem Bs62 : FieldPlaces Try.prog 62 [(0, 1), (1, 1), (2, 1), (3, 3), (6, 1), (7, 1)] := ⟨_, Try.underlying62, fun w => by simp [Try.sizeOf22, Try.sizeOf32, Try.sizeOf60]⟩
theorem Bs71 : FieldPlaces Try.prog 71 [(0, 1), (1, 1)] := ⟨_, Try.underlying71, fun w => by simp [Try.sizeOf3, Try.sizeOf9]⟩
theorem C22 : Cell1 Try.prog 22 := Try.isAgg22
theorem C3 : Cell1 Try.prog 3 := Try.isAgg3
theorem C32 : Cell1 Try.prog 32 := Try.isAgg32
theorem C45 : Cell1 Try.prog 45 := Try.isAgg45
theorem C50 : Cell1 Try.prog 50 := Try.isAgg50
theorem C56 : Cell1 Try.prog 56 := Try.isAgg56
theorem C77 : Cell1 Try.prog 77 := Try.isAgg77
theorem C78 : Cell1 Try.prog 78 := Try.isAgg78
theorem C9 : Cell1 Try.prog 9 := Try.isAgg9
theorem F39_0 : FieldAt Try.prog 39 0 0 := ⟨_, _, 0, Try.underlying39, rfl, rfl, Try.sizeOf22⟩
theorem F39_1 : FieldAt Try.prog 39 1 1 := ⟨_, _, 0, Try.underlying39, rfl, rfl, Try.sizeOf22⟩
theorem F39_2 : FieldAt Try.prog 39 2 2 := ⟨_, _, 0, Try.underlying39, rfl, rfl, Try.sizeOf22⟩
theorem F40_0 : FieldAt Try.prog 40 0 0 := ⟨_, _, 0, Try.underlying40, rfl, rfl, Try.sizeOf22⟩
theorem F40_1 : FieldAt Try.prog 40 1 1 := ⟨_, _, 0, Try.underlying40, rfl, rfl, Try.sizeOf22⟩
theorem F40_2 : FieldAt Try.prog 40 2 2 := ⟨_, _, 0, Try.underlying40, rfl, rfl, Try.sizeOf22⟩
theorem F62_0 : FieldAt Try.prog 62 0 0 := ⟨_, _, 0, Try.underlying62, rfl, rfl, Try.sizeOf22⟩
theorem F62_1 : FieldAt Try.prog 62 1 1 := ⟨_, _, 0, Try.underlying62, rfl, rfl, Try.sizeOf22⟩
theorem F62_2 : FieldAt Try.prog 62 2 2 := ⟨_, _, 0, Try.underlying62, rfl, rfl, Try.sizeOf22⟩
theorem F62_3 : FieldAt Try.prog 62 3 3 := ⟨_, _, 2, Try.underlying62, rfl, rfl, Try.sizeOf60⟩
theorem F62_4 : FieldAt Try.prog 62 4 6 := ⟨_, _, 0, Try.underlying62, rfl, rfl, Try.sizeOf22⟩
theorem F62_5 : FieldAt Try.prog 62 5 7 := ⟨_, _, 0, Try.underlying62, rfl, rfl, Try.sizeOf32⟩
theorem F71_0 : FieldAt Try.prog 71 0 0 := ⟨_, _, 0, Try.underlying71, rfl, rfl, Try.sizeOf3⟩
theorem G60 : Agg Try.prog 60 3 := ⟨Try.isAgg60, Try.sizeOf60⟩
theorem K9 : KeyT Try.prog 9 vs := KeyT.string Try.underlying9
theorem M45 : MapT Try.prog 45 9 4 (.bool false) := MapT.mk' Try.underlying45 I4 rfl
theorem S22 : SlT Try.prog 22 9 1 16 (.string ⟨#[]⟩) := ⟨Try.underlying22, ⟨_, I9, rfl, rfl, rfl⟩, by kernel_rfl, by decide⟩
theorem S32 : SlT Try.prog 32 39 3 72 (.agg #[(.slice none 0 0), (.slice none 0 0), (.slice none 0 0)]) := ⟨Try.underlying32, ⟨_, I39, rfl, rfl, rfl⟩, by kernel_rfl, by decide⟩
theorem S35 : SlT Try.prog 35 40 3 72 (.agg #[(.slice none 0 0), (.slice none 0 0), (.slice none 0 0)]) := ⟨Try.underlying35, ⟨_, I40, rfl, rfl, rfl⟩, by kernel_rfl, by decide⟩
theorem S41 : SlT Try.prog 41 22 1 24 (.slice none 0 0) := ⟨Try.underlying41, ⟨_, I22, rfl, rfl, rfl⟩, by kernel_rfl, by decide⟩
theorem S56 : SlT Try.prog 56 3 1 8 (.int .i64 0) := ⟨Try.underlying56, ⟨_, I3, rfl, rfl, rfl⟩, by kernel_rfl, by decide⟩
theorem S68 : SlT Try.prog 68 71 2 24 (.agg #[(.int .i64 0), (.string ⟨#[]⟩)]) := ⟨Try.underlying68, ⟨_, I71, rfl, rfl, rfl⟩, by kernel_rfl, by decide⟩
theorem S75 : SlT Try.prog 75 78 1 24 (.slice none 0 0) := ⟨Try.underlying75, ⟨_, I78, rfl, rfl, rfl⟩, by kernel_rfl, by decide⟩
theorem S78 : SlT Try.prog 78 77 1 2 (.int .u16 0) := ⟨Try.underlying78, ⟨_, I77, rfl, rfl, rfl⟩, by kernel_rfl, by decide⟩
theorem S79 : SlT Try.prog 79 56 1 24 (.slice none 0 0) := ⟨Try.underlying79, ⟨_, I56, rfl, rfl, rfl⟩, by kernel_rfl, by decide⟩
theorem Z22 : ∀ w, (sizeOf 22).run Try.prog w = .ok 1 w := Try.sizeOf22
theorem Z3 : ∀ w, (sizeOf 3).run Try.prog w = .ok 1 w := Try.sizeOf3
theorem Z32 : ∀ w, (sizeOf 32).run Try.prog w = .ok 1 w := Try.sizeOf32
theorem Z45 : ∀ w, (sizeOf 45).run Try.prog w = .ok 1 w := Try.sizeOf45
theorem Z56 : ∀ w, (sizeOf 56).run Try.prog w = .ok 1 w := Try.sizeOf56
theorem Z77 : ∀ w, (sizeOf 77).run Try.prog w = .ok 1 w := Try.sizeOf77
theorem Z78 : ∀ w, (sizeOf 78).run Try.prog w = .ok 1 w := Try.sizeOf78
theorem Z9 : ∀ w, (sizeOf 9).run Try.prog w = .ok 1 w := Try.sizeOf9

end Go.Proofs.Ytpicbbkmcbhnpaa
