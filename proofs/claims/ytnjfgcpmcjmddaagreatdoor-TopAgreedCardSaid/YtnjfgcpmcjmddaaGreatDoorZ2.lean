/-
  Part 2 of the texts that the law TopAgreed is proved with: Ty, Ld1, Ld2, Lcs, Ld3, Ld4, Ld5, Ld6, Ld7, Ld8, Ld9, Ld10, Ld11, Ld12, Th1, Th2, Acc, Th3, Th4, Th5, Grow, Th6, Th7, Th18, Rng, Opa, Kd1, Iter, Kd2, Kd3, Kd4, Kd5. No premise.
-/
import Derived.Test.YtnjfgcpmcjmddaaGreatDoorZ1
import Derived.Test.YtnjfgcpmcjmddaaGreatDoorRows
import Derived.Lib.SliceRun
import Derived.Lib.AppendZerosOnto
import Derived.Maps.RangeRun
import Derived.Maps.Own
import Derived.Sort.KeysCollected
import Derived.Shelf.SlGeneric
import Derived.Shelf.SlIter.Nil
import Derived.Shelf.SortM.Plain
import Derived.Shelf.SortM.SortNone
import Derived.Ground.GgzProg
import Derived.Ground.SlgmProg
import Derived.Test.YtnjfgcpmcjmddaaGreatDoorProg
namespace Go.Proofs.YtnjfgcpmcjmddaaGreatDoor
open Go Go.SL
theorem mixed : Tryz.prog.follows .mixedOrders = true := by kernel_rfl
theorem I3 : Tryz.prog.info? 3 = some Tryz.t3 := by kernel_rfl
theorem I4 : Tryz.prog.info? 4 = some Tryz.t4 := by kernel_rfl
theorem I5 : Tryz.prog.info? 5 = some Tryz.t5 := by kernel_rfl
theorem I9 : Tryz.prog.info? 9 = some Tryz.t9 := by kernel_rfl
theorem I24 : Tryz.prog.info? 24 = some Tryz.t24 := by kernel_rfl
theorem I25 : Tryz.prog.info? 25 = some Tryz.t25 := by kernel_rfl
theorem I35 : Tryz.prog.info? 35 = some Tryz.t35 := by kernel_rfl
theorem I37 : Tryz.prog.info? 37 = some Tryz.t37 := by kernel_rfl
theorem I54 : Tryz.prog.info? 54 = some Tryz.t54 := by kernel_rfl
theorem I56 : Tryz.prog.info? 56 = some Tryz.t56 := by kernel_rfl
theorem I58 : Tryz.prog.info? 58 = some Tryz.t58 := by kernel_rfl
theorem I62 : Tryz.prog.info? 62 = some Tryz.t62 := by kernel_rfl
theorem I64 : Tryz.prog.info? 64 = some Tryz.t64 := by kernel_rfl
theorem I82 : Tryz.prog.info? 82 = some Tryz.t82 := by kernel_rfl
theorem I90 : Tryz.prog.info? 90 = some Tryz.t90 := by kernel_rfl
theorem I113 : Tryz.prog.info? 113 = some Tryz.t113 := by kernel_rfl
theorem I120 : Tryz.prog.info? 120 = some Tryz.t120 := by kernel_rfl
theorem I121 : Tryz.prog.info? 121 = some Tryz.t121 := by kernel_rfl
theorem I207 : Tryz.prog.info? 207 = some Tryz.t207 := by kernel_rfl
theorem I314 : Tryz.prog.info? 314 = some Tryz.t314 := by kernel_rfl
theorem I316 : Tryz.prog.info? 316 = some Tryz.t316 := by kernel_rfl
theorem I382 : Tryz.prog.info? 382 = some Tryz.t382 := by kernel_rfl
theorem I424 : Tryz.prog.info? 424 = some Tryz.t424 := by kernel_rfl
theorem A314 : ArT Tryz.prog 314 8 272 1 := ⟨Tryz.underlying314, Tryz.sizeOf272⟩
theorem A355 : ArT Tryz.prog 355 16 272 1 := ⟨Tryz.underlying355, Tryz.sizeOf272⟩
theorem A382 : ArT Tryz.prog 382 8 5 1 := ⟨Tryz.underlying382, Tryz.sizeOf5⟩
theorem A424 : ArT Tryz.prog 424 64 272 1 := ⟨Tryz.underlying424, Tryz.sizeOf272⟩
theorem Bs35 : FieldPlaces Tryz.prog 35 [(0, 1), (1, 1)] := ⟨_, Tryz.underlying35, fun w => by simp [Tryz.sizeOf9]⟩
theorem Bs54 : FieldPlaces Tryz.prog 54 [(0, 1), (1, 1)] := ⟨_, Tryz.underlying54, fun w => by simp [Tryz.sizeOf4, Tryz.sizeOf9]⟩
theorem Bs56 : FieldPlaces Tryz.prog 56 [(0, 1), (1, 2), (3, 2), (5, 2)] := ⟨_, Tryz.underlying56, fun w => by simp [Tryz.sizeOf54, Tryz.sizeOf9]⟩
theorem Bs62 : FieldPlaces Tryz.prog 62 [(0, 1), (1, 1), (2, 1)] := ⟨_, Tryz.underlying62, fun w => by simp [Tryz.sizeOf24, Tryz.sizeOf3, Tryz.sizeOf9]⟩
theorem Bs82 : FieldPlaces Tryz.prog 82 [(0, 1)] := ⟨_, Tryz.underlying82, fun w => by simp [Tryz.sizeOf80]⟩
theorem Bs90 : FieldPlaces Tryz.prog 90 [(0, 1), (1, 1)] := ⟨_, Tryz.underlying90, fun w => by simp [Tryz.sizeOf3, Tryz.sizeOf9]⟩
theorem C113 : Cell1 Tryz.prog 113 := Tryz.isAgg113
theorem C120 : Cell1 Tryz.prog 120 := Tryz.isAgg120
theorem C121 : Cell1 Tryz.prog 121 := Tryz.isAgg121
theorem C205 : Cell1 Tryz.prog 205 := Tryz.isAgg205
theorem C24 : Cell1 Tryz.prog 24 := Tryz.isAgg24
theorem C25 : Cell1 Tryz.prog 25 := Tryz.isAgg25
theorem C272 : Cell1 Tryz.prog 272 := Tryz.isAgg272
theorem C3 : Cell1 Tryz.prog 3 := Tryz.isAgg3
theorem C37 : Cell1 Tryz.prog 37 := Tryz.isAgg37
theorem C38 : Cell1 Tryz.prog 38 := Tryz.isAgg38
theorem C4 : Cell1 Tryz.prog 4 := Tryz.isAgg4
theorem C44 : Cell1 Tryz.prog 44 := Tryz.isAgg44
theorem C5 : Cell1 Tryz.prog 5 := Tryz.isAgg5
theorem C58 : Cell1 Tryz.prog 58 := Tryz.isAgg58
theorem C64 : Cell1 Tryz.prog 64 := Tryz.isAgg64
theorem C80 : Cell1 Tryz.prog 80 := Tryz.isAgg80
theorem C9 : Cell1 Tryz.prog 9 := Tryz.isAgg9
theorem E54 (a0 b0 : List UInt8) (a1 b1 : Bool) : EqS Tryz.prog 54 #[vs a0, .bool a1] #[vs b0, .bool b1] (a0 = b0 ∧ a1 = b1) := ⟨fun w => by
 simp [go_sem, run_equalIn_agg, Op.eqFields, part, Tryz.underlying4, Tryz.underlying9, Tryz.underlying54, Tryz.isAgg4, Tryz.isAgg9, Tryz.isAgg54, Tryz.stoodInHeld54, Tryz.sizeOf4, Tryz.sizeOf9, Tryz.sizeOf54]
 all_goals (try (repeat' split)) <;> simp_all, Tryz.eqGuardType54⟩
theorem F207_0 : FieldAt Tryz.prog 207 0 0 := ⟨_, _, 0, Tryz.underlying207, rfl, rfl, Tryz.sizeOf205⟩
theorem F207_1 : FieldAt Tryz.prog 207 1 1 := ⟨_, _, 0, Tryz.underlying207, rfl, rfl, Tryz.sizeOf38⟩
theorem F316_0 : FieldAt Tryz.prog 316 0 0 := ⟨_, _, 7, Tryz.underlying316, rfl, rfl, Tryz.sizeOf314⟩
theorem F316_1 : FieldAt Tryz.prog 316 1 8 := ⟨_, _, 0, Tryz.underlying316, rfl, rfl, Tryz.sizeOf4⟩
theorem F316_2 : FieldAt Tryz.prog 316 2 9 := ⟨_, _, 0, Tryz.underlying316, rfl, rfl, Tryz.sizeOf9⟩
theorem F316_3 : FieldAt Tryz.prog 316 3 10 := ⟨_, _, 0, Tryz.underlying316, rfl, rfl, Tryz.sizeOf3⟩
theorem F35_0 : FieldAt Tryz.prog 35 0 0 := ⟨_, _, 0, Tryz.underlying35, rfl, rfl, Tryz.sizeOf9⟩
theorem F35_1 : FieldAt Tryz.prog 35 1 1 := ⟨_, _, 0, Tryz.underlying35, rfl, rfl, Tryz.sizeOf9⟩
theorem F62_0 : FieldAt Tryz.prog 62 0 0 := ⟨_, _, 0, Tryz.underlying62, rfl, rfl, Tryz.sizeOf9⟩
theorem F62_1 : FieldAt Tryz.prog 62 1 1 := ⟨_, _, 0, Tryz.underlying62, rfl, rfl, Tryz.sizeOf24⟩
theorem F62_2 : FieldAt Tryz.prog 62 2 2 := ⟨_, _, 0, Tryz.underlying62, rfl, rfl, Tryz.sizeOf3⟩
theorem F82_0 : FieldAt Tryz.prog 82 0 0 := ⟨_, _, 0, Tryz.underlying82, rfl, rfl, Tryz.sizeOf80⟩
theorem G314 : Agg Tryz.prog 314 8 := ⟨Tryz.isAgg314, Tryz.sizeOf314⟩
theorem G316 : Agg Tryz.prog 316 11 := ⟨Tryz.isAgg316, Tryz.sizeOf316⟩
theorem G35 : Agg Tryz.prog 35 2 := ⟨Tryz.isAgg35, Tryz.sizeOf35⟩
theorem G424 : Agg Tryz.prog 424 64 := ⟨Tryz.isAgg424, Tryz.sizeOf424⟩
theorem G54 : Agg Tryz.prog 54 2 := ⟨Tryz.isAgg54, Tryz.sizeOf54⟩
theorem G62 : Agg Tryz.prog 62 3 := ⟨Tryz.isAgg62, Tryz.sizeOf62⟩
-- K409 not printed
theorem K9 : KeyT Tryz.prog 9 vs := KeyT.string Tryz.underlying9
theorem M112 : MapT Tryz.prog 112 9 3 (.int .i64 0) := MapT.mk' Tryz.underlying112 I3 rfl
theorem M37 : MapT Tryz.prog 37 9 4 (.bool false) := MapT.mk' Tryz.underlying37 I4 rfl
theorem M50 : MapT Tryz.prog 50 9 54 (.agg #[(.string ⟨#[]⟩), (.bool false)]) := MapT.mk' Tryz.underlying50 I54 rfl
theorem M80 : MapT Tryz.prog 80 9 62 (.agg #[(.string ⟨#[]⟩), (.slice none 0 0), (.int .i64 0)]) := MapT.mk' Tryz.underlying80 I62 rfl
theorem S113 : SlT Tryz.prog 113 62 3 48 (.agg #[(.string ⟨#[]⟩), (.slice none 0 0), (.int .i64 0)]) := ⟨Tryz.underlying113, ⟨_, I62, rfl, rfl, rfl⟩, by kernel_rfl, by decide⟩
theorem S118 : SlT Tryz.prog 118 121 1 24 (.slice none 0 0) := ⟨Tryz.underlying118, ⟨_, I121, rfl, rfl, rfl⟩, by kernel_rfl, by decide⟩
theorem S121 : SlT Tryz.prog 121 120 1 2 (.int .u16 0) := ⟨Tryz.underlying121, ⟨_, I120, rfl, rfl, rfl⟩, by kernel_rfl, by decide⟩
theorem S22 : SlT Tryz.prog 22 3 1 8 (.int .i64 0) := ⟨Tryz.underlying22, ⟨_, I3, rfl, rfl, rfl⟩, by kernel_rfl, by decide⟩
theorem S24 : SlT Tryz.prog 24 9 1 16 (.string ⟨#[]⟩) := ⟨Tryz.underlying24, ⟨_, I9, rfl, rfl, rfl⟩, by kernel_rfl, by decide⟩
theorem S25 : SlT Tryz.prog 25 35 2 32 (.agg #[(.string ⟨#[]⟩), (.string ⟨#[]⟩)]) := ⟨Tryz.underlying25, ⟨_, I35, rfl, rfl, rfl⟩, by kernel_rfl, by decide⟩
theorem S31 : SlT Tryz.prog 31 56 7 88 (.agg #[(.string ⟨#[]⟩), (.string ⟨#[]⟩), (.bool false), (.string ⟨#[]⟩), (.bool false), (.string ⟨#[]⟩), (.bool false)]) := ⟨Tryz.underlying31, ⟨_, I56, rfl, rfl, rfl⟩, by kernel_rfl, by decide⟩
theorem S38 : SlT Tryz.prog 38 5 1 1 (.int .u8 0) := ⟨Tryz.underlying38, ⟨_, I5, rfl, rfl, rfl⟩, by kernel_rfl, by decide⟩
theorem S63 : SlT Tryz.prog 63 62 3 48 (.agg #[(.string ⟨#[]⟩), (.slice none 0 0), (.int .i64 0)]) := ⟨Tryz.underlying63, ⟨_, I62, rfl, rfl, rfl⟩, by kernel_rfl, by decide⟩
theorem S64 : SlT Tryz.prog 64 90 2 24 (.agg #[(.int .i64 0), (.string ⟨#[]⟩)]) := ⟨Tryz.underlying64, ⟨_, I90, rfl, rfl, rfl⟩, by kernel_rfl, by decide⟩
theorem S68 : SlT Tryz.prog 68 24 1 24 (.slice none 0 0) := ⟨Tryz.underlying68, ⟨_, I24, rfl, rfl, rfl⟩, by kernel_rfl, by decide⟩
theorem S74 : SlT Tryz.prog 74 25 1 24 (.slice none 0 0) := ⟨Tryz.underlying74, ⟨_, I25, rfl, rfl, rfl⟩, by kernel_rfl, by decide⟩
theorem Z113 : ∀ w, (sizeOf 113).run Tryz.prog w = .ok 1 w := Tryz.sizeOf113
theorem Z120 : ∀ w, (sizeOf 120).run Tryz.prog w = .ok 1 w := Tryz.sizeOf120
theorem Z121 : ∀ w, (sizeOf 121).run Tryz.prog w = .ok 1 w := Tryz.sizeOf121
theorem Z205 : ∀ w, (sizeOf 205).run Tryz.prog w = .ok 1 w := Tryz.sizeOf205
theorem Z24 : ∀ w, (sizeOf 24).run Tryz.prog w = .ok 1 w := Tryz.sizeOf24
theorem Z272 : ∀ w, (sizeOf 272).run Tryz.prog w = .ok 1 w := Tryz.sizeOf272
theorem Z3 : ∀ w, (sizeOf 3).run Tryz.prog w = .ok 1 w := Tryz.sizeOf3
theorem Z37 : ∀ w, (sizeOf 37).run Tryz.prog w = .ok 1 w := Tryz.sizeOf37
theorem Z38 : ∀ w, (sizeOf 38).run Tryz.prog w = .ok 1 w := Tryz.sizeOf38
theorem Z4 : ∀ w, (sizeOf 4).run Tryz.prog w = .ok 1 w := Tryz.sizeOf4
theorem Z5 : ∀ w, (sizeOf 5).run Tryz.prog w = .ok 1 w := Tryz.sizeOf5
theorem Z58 : ∀ w, (sizeOf 58).run Tryz.prog w = .ok 1 w := Tryz.sizeOf58
theorem Z64 : ∀ w, (sizeOf 64).run Tryz.prog w = .ok 1 w := Tryz.sizeOf64
theorem Z9 : ∀ w, (sizeOf 9).run Tryz.prog w = .ok 1 w := Tryz.sizeOf9
end Go.Proofs.YtnjfgcpmcjmddaaGreatDoor
namespace Go.Proofs.YtnjfgcpmcjmddaaGreatDoor.Ld
open Go Go.SL
abbrev Strs (v : Value) (xs : List (List UInt8)) : RO := SlE (SL.one vs) v xs
end Go.Proofs.YtnjfgcpmcjmddaaGreatDoor.Ld
namespace Go.Proofs.YtnjfgcpmcjmddaaGreatDoor.Ld
open Go Go.SL
abbrev Ed := Int × List UInt8
def encE : Ed → List Value | (k, s) => [vi k, vs s]
abbrev Eds (v : Value) (l : List Ed) : RO := SlE encE v l
theorem drop_get {α : Type} [Inhabited α] {l : List α} {k : Nat} (h : k < l.length) : l.drop k = l[k]! :: l.drop (k + 1) := by
 rw [List.drop_eq_getElem_cons h]; simp [h]
end Go.Proofs.YtnjfgcpmcjmddaaGreatDoor.Ld
namespace Go.Lcs
variable {α : Type} [DecidableEq α]
def row (f : List α → Nat) (a : α) : List α → Nat
 | [] => 0
 | b :: y => if a = b then f y + 1 else max (f (b :: y)) (row f a y)
def lcs : List α → List α → Nat
 | [], _ => 0
 | a :: x, y => row (lcs x) a y
@[simp] theorem lcs_nil_left (y : List α) : lcs [] y = 0 := rfl
@[simp] theorem lcs_nil_right (x : List α) : lcs x [] = 0 := by cases x <;> rfl
theorem lcs_cons (a b : α) (x y : List α) : lcs (a :: x) (b :: y) = if a = b then lcs x y + 1 else max (lcs x (b :: y)) (lcs (a :: x) y) := rfl
theorem lcs_le_left : ∀ (x y : List α), lcs x y ≤ x.length
 | [], _ => Nat.zero_le _
 | a :: x, [] => by simp
 | a :: x, b :: y => by
   rw [lcs_cons]
   have h1 := lcs_le_left x y
   have h2 := lcs_le_left x (b :: y)
   have h3 := lcs_le_left (a :: x) y
   simp only [List.length_cons] at *
   split <;> omega
theorem lcs_le_right : ∀ (x y : List α), lcs x y ≤ y.length
 | [], _ => Nat.zero_le _
 | a :: x, [] => by simp
 | a :: x, b :: y => by
   rw [lcs_cons]
   have h1 := lcs_le_right x y
   have h2 := lcs_le_right x (b :: y)
   have h3 := lcs_le_right (a :: x) y
   simp only [List.length_cons] at *
   split <;> omega
def lrow (x y : List α) : List Nat := (List.range (y.length + 1)).map fun q => lcs x (y.drop q)
theorem lrow_length (x y : List α) : (lrow x y).length = y.length + 1 := by simp [lrow]
theorem lrow_get (x y : List α) {q : Nat} (h : q ≤ y.length) : (lrow x y)[q]? = some (lcs x (y.drop q)) := by
 simp [lrow, show q < y.length + 1 from by omega]
def trace : Nat → Nat → List α → List α → List (Nat × Nat × Nat)
 | _, _, [], [] => []
 | i, j, _ :: x, [] => (1, i, j) :: trace (i + 1) j x []
 | i, j, [], _ :: y => (2, i, j) :: trace i (j + 1) [] y
 | i, j, a :: x, b :: y =>
   if a = b then (0, i, j) :: trace (i + 1) (j + 1) x y
   else if lcs (a :: x) y ≤ lcs x (b :: y) then (1, i, j) :: trace (i + 1) j x (b :: y)
   else (2, i, j) :: trace i (j + 1) (a :: x) y
termination_by _ _ x y => x.length + y.length
theorem trace_length_le (i j : Nat) (x y : List α) : (trace i j x y).length ≤ x.length + y.length := by
 fun_induction trace i j x y <;> simp_all <;> omega
end Go.Lcs
namespace Go.Proofs.YtnjfgcpmcjmddaaGreatDoor.Ld
open Go Go.SL Go.Lcs
abbrev vu (n : Nat) : Value := .int .u16 n
abbrev vid (v : Value) : Value := v
def Rows (vsl : List Value) (xs ys : List (List UInt8)) (m : Nat) : RO := fun w => ∀ j, j < vsl.length → SlE (SL.one vu) vsl[j]! (lrow (xs.drop (m + j)) ys) w
def part (x ys : List (List UInt8)) (p : Nat) : List Value := List.replicate p (.int .u16 0) ++ ((lrow x ys).drop p).map vu
theorem part_length (x ys : List (List UInt8)) {p : Nat} (h : p ≤ ys.length + 1) : (part x ys p).length = ys.length + 1 := by simp [part, lrow_length]; omega
theorem part_get (x ys : List (List UInt8)) {p q : Nat} (h : p ≤ q) (hq : q ≤ ys.length) : (part x ys p)[q]? = some (vu (lcs x (ys.drop q))) := by
 rw [part, List.getElem?_append_right (by simp; exact h)]
 simp only [List.length_replicate, List.getElem?_map, List.getElem?_drop]
 rw [show p + (q - p) = q from by omega, lrow_get x ys hq]; rfl
theorem part_step (x ys : List (List UInt8)) {p : Nat} (h : p ≤ ys.length) : (part x ys (p + 1)).set p (vu (lcs x (ys.drop p))) = part x ys p := by
 unfold part
 have h1 : (lrow x ys).drop p = lcs x (ys.drop p) :: (lrow x ys).drop (p + 1) := by
  have := lrow_get x ys h
  rw [List.drop_eq_getElem_cons (by rw [lrow_length]; omega)]
  rw [List.getElem?_eq_getElem (by rw [lrow_length]; omega), Option.some.injEq] at this
  rw [this]
 rw [h1, List.replicate_succ', List.append_assoc, List.set_append_right _ _ (by simp)]
 simp
theorem app_get {l1 l2 : List Value} {m : Nat} (hl : l1.length = m) (h : 0 < l2.length) : (l1 ++ l2)[m]? = some l2[0]! := by
 rw [List.getElem?_append_right Z.W, hl, Nat.sub_self]; exact get!_of_lt h
theorem drop_get' {xs : List (List UInt8)} {m : Nat} (h0 : 1 ≤ m) (h : m ≤ xs.length) : xs.drop (m - 1) = xs[m - 1]! :: xs.drop m := by
 have := drop_get (l := xs) (k := m - 1) Z.W
 rwa [show m - 1 + 1 = m from by omega] at this
theorem part_step' (x ys : List (List UInt8)) {p n : Nat} (h0 : 1 ≤ p) (h : p ≤ ys.length) (hn : n = lcs x (ys.drop (p - 1))) : (part x ys p).set (p - 1) (vu n) = part x ys (p - 1) := by
 have := part_step x ys (p := p - 1) Z.W
 rw [show p - 1 + 1 = p from by omega] at this
 rw [hn, this]
theorem lrow_last (x ys : List (List UInt8)) : (lrow x ys).drop ys.length = [0] := by
 have := lrow_get x ys (Nat.le_refl ys.length)
 rw [List.drop_eq_getElem_cons (by rw [lrow_length]; omega), List.drop_of_length_le (by rw [lrow_length]; omega)]
 rw [List.getElem?_eq_getElem (by rw [lrow_length]; omega), Option.some.injEq] at this
 rw [this]; simp
theorem part_start (x ys : List (List UInt8)) : List.replicate (ys.length + 1) (Value.int .u16 0) = part x ys ys.length := by
 rw [part, lrow_last, List.replicate_succ']; rfl
theorem part_zero (x ys : List (List UInt8)) : (lrow x ys).flatMap (SL.one vu) = part x ys 0 := by rw [flat_one]; simp [part]
theorem lrow_nil (ys : List (List UInt8)) : (lrow ([] : List (List UInt8)) ys).flatMap (SL.one vu) = List.replicate (ys.length + 1) (Value.int .u16 0) := by
 rw [flat_one]; apply List.ext_getElem <;> simp [lrow]
theorem set_last (n : Nat) (v x : Value) (l : List Value) : (List.replicate (n + 1) v ++ l).set n x = List.replicate n v ++ x :: l := by
 rw [List.set_append_left _ _ (by simp), List.replicate_succ', List.set_append_right _ _ (by simp)]; simp
set_option maxRecDepth 20000 in
set_option maxHeartbeats 1000000 in
theorem common_spec {R : List RO} {O : List Own} {POST : Value → List RO → List Own → Prop} {xs ys : List (List UInt8)} {av bv : Value} (ha : Strs av xs ∈ R) (hb : Strs bv ys ∈ R) (hla : xs.length ≤ 4096) (hlb : ys.length ≤ 4096)
 (hk : ∀ v vsl, vsl.length = xs.length + 1 → POST v (SlE (SL.one vid) v vsl :: Rows vsl xs ys 0 :: R) O) : Fun Tryz.prog 61 #[av, bv] R O POST := by
 refine Fun.enter (l := [_, _]) Tryz.func61 rfl Tryz.ntmps61 rfl (L0 := [(0, _), (1, _)]) rfl ?_
 refine Z.s1 <| Z.a1 rfl <| Z.q1 <| Z.m1 rfl <| Z.r1 rfl (by exact Rd.lenE rfl rfl Tryz.underlying24 Z.M) ?_
 refine Z.r1 rfl (Rd.add rfl rfl rfl Z.W) ?_
 refine WL.op rfl ?_
 refine OpW.make1 (m := xs.length + 1) (c := xs.length + 1) rfl S118 rfl rfl rfl rfl rfl Z.W Z.W Z.W rfl rfl ?_; intro b13
 refine Z.a1 rfl <| Z.q1 <| Z.m1 rfl <| Z.m1 rfl <| Z.r1 rfl (by exact Rd.lenE rfl rfl Tryz.underlying24 Z.M) ?_
 refine Z.m1 rfl <| Z.r1 rfl (by exact Rd.lenE rfl rfl Tryz.underlying24 Z.M) ?_
 refine Z.r1 rfl (Rd.add rfl rfl rfl Z.W) ?_
 refine WL.op rfl ?_
 refine OpW.make1 (m := ys.length + 1) (c := ys.length + 1) rfl S121 rfl rfl rfl rfl rfl Z.W Z.W Z.W rfl rfl ?_; intro b20
 refine Z.r1 rfl (by exact Rd.idxR1 rfl S118 rfl rfl rfl Z.W) ?_
 refine WL.op rfl ?_
 refine OpW.store1 rfl Z121 rfl rfl (by exact ⟨rfl, rfl⟩) Z.T (by (simp; done)) rfl ?_
 refine Z.n1 <| Z.s2 <| Z.m1 rfl <| Z.r1 rfl (by exact Rd.lenE rfl rfl Tryz.underlying24 Z.M) ?_
 refine Z.r1 rfl (Rd.sub rfl rfl rfl Z.W) ?_
 refine Z.a1 rfl <| Z.n1 ?_
 refine WC.block ?_
 refine WC.pick [6, 0, 1, 5] Z.P ?_
 refine WC.loop2r 1 (fun (m : Nat) (vsl : List Value) => [(6, .int .i64 ((m : Int) - 1))]) (fun (m : Nat) (vsl : List Value) => Rows vsl xs ys m :: R) (fun (m : Nat) (vsl : List Value) => rowC b13 121 (List.replicate m (.slice none 0 0) ++ vsl) :: O) (fun (m : Nat) (vsl : List Value) => m ≤ xs.length ∧ vsl.length + m = xs.length + 1) (fun (m : Nat) (vsl : List Value) => m) (xs.length) ([.slice (some ⟨b20, 0, none⟩) (ys.length + 1) (ys.length + 1)]) Z.L ?hinv1 (by repeat (first | exact Sub.nil | refine Sub.cons rfl (by rfl) ?_)) (fun w h => by
 have h1 := Sat.shareRow (enc := SL.one vu) (xs := lrow ([] : List (List UInt8)) ys) Z.T (lrow_nil ys) (lrow_length _ _) Z.W h
 have h2 := h1.weaken List.mem_cons_self (q := Rows [.slice (some ⟨b20, 0, none⟩) (ys.length + 1) (ys.length + 1)] xs ys xs.length) (fun w hp j hj => by
 obtain rfl : j = 0 := by simp at hj; exact hj
 show SlE (SL.one vu) _ (lrow (xs.drop (xs.length + 0)) ys) w
 simp only [Nat.add_zero, List.drop_length]; exact hp)
 have e := set_last xs.length (.slice none 0 0) (.slice (some ⟨b20, 0, none⟩) (ys.length + 1) (ys.length + 1)) []
 rw [List.append_nil] at e
 rw [e] at h2
 exact h2.thin (SubL.mem Z.S)) ?_
 case hinv1 =>
  exact ⟨Nat.le_refl _, by simp; omega⟩
 intro m vsl
 rintro ⟨h1, h2⟩
 refine Z.s2 <| Z.m1 rfl <| Z.r1 rfl (Rd.geq rfl rfl rfl) <| Z.n1 ?_
 refine WC.ite rfl (fun hc1 => ?_) (fun hc1 => ?_)
 ·
  refine WC.skip ?_
  refine thenQ.normal ?_
  refine WC.seq ?_
  refine WC.block ?_
  refine WC.seq ?_
  refine WC.drawnA 11 rfl mixed ?_
  refine WD.take 0 rfl Z.K Held.all rfl rfl rfl (Rd.move rfl rfl) ?_
  refine WD.take 1 rfl Z.K Held.all rfl rfl rfl ((by exact Rd.lenE rfl rfl Tryz.underlying24 Z.M)) ?_
  refine WD.take 2 rfl Z.K Held.all rfl rfl rfl (Rd.add rfl rfl rfl Z.W) ?_
  refine WD.take 4 rfl Z.K Held.all rfl rfl rfl (Rd.move rfl rfl) ?_
  refine WD.take 5 rfl Z.K Held.all rfl rfl rfl (Rd.move rfl rfl) ?_
  refine WD.take 6 rfl Z.K Held.all rfl rfl rfl (Rd.add rfl rfl rfl Z.W) ?_
  refine WD.take 7 rfl Z.K Held.all rfl rfl rfl (Rd.idxR1 (k := m) rfl S118 rfl rfl Z.W Z.W) ?_
  refine WD.take 8 rfl Z.K Held.all rfl rfl rfl (Rd.row1 (u := vsl[0]!) rfl C121 rfl Z.M (app_get (by simp) Z.W)) ?_
  refine WD.heap (fun w h => h.weaken List.mem_cons_self (q := SlE (SL.one vu) vsl[0]! (lrow (xs.drop m) ys)) (fun w hp => hp 0 Z.W)) ?_
  refine WD.one 3 rfl Z.K rfl ?_
  refine OpW.make1 (m := ys.length + 1) (c := ys.length + 1) rfl S121 rfl rfl rfl rfl rfl Z.W Z.W Z.W rfl rfl ?_; intro b32
  refine ⟨Z.H, ?_⟩
  refine WD.take 9 rfl Z.K Z.H rfl rfl rfl (Rd.assign rfl rfl) ?_
  refine WD.take 10 rfl Z.K Z.H rfl rfl rfl (Rd.assign rfl rfl) ?_
  refine WD.done Z.K ?_
  refine thenQ.normal ?_
  refine Z.s2 <| Z.m1 rfl <| Z.r1 rfl (by exact Rd.lenE rfl rfl Tryz.underlying24 Z.M) ?_
  refine Z.r1 rfl (Rd.sub rfl rfl rfl Z.W) ?_
  refine Z.a1 rfl <| Z.n1 ?_
  refine WC.block ?_
  refine WC.pick [9, 0, 1, 5, 6, 7, 8] Z.P ?_
  refine WC.loop1 1 (fun (p : Nat) => [(9, .int .i64 ((p : Int) - 1))]) (fun (p : Nat) => rowC b32 120 (part (xs.drop (m - 1)) ys p) :: rowC b13 121 (List.replicate m (.slice none 0 0) ++ vsl) :: O) (fun (p : Nat) => p ≤ ys.length) (fun (p : Nat) => p) (ys.length) Z.L ?hinv2 (by repeat (first | exact Sub.nil | refine Sub.cons rfl (by rfl) ?_)) (fun w h => by rw [part_start (xs.drop (m - 1)) ys] at h; exact h) ?_
  case hinv2 =>
   exact Nat.le_refl _
  intro p
  rintro h3
  have hlr := lrow_length (xs.drop m) ys; have hpl := part_length (xs.drop (m - 1)) ys (p := p) Z.W
  refine Z.s2 <| Z.m1 rfl <| Z.r1 rfl (Rd.geq rfl rfl rfl) <| Z.n1 ?_
  refine WC.ite rfl (fun hc2 => ?_) (fun hc2 => ?_)
  ·
   have hp0 := drop_get' (xs := ys) (m := p) Z.W h3; have hm0 := drop_get' (xs := xs) (m := m) Z.W h1
   refine WC.skip ?_
   refine thenQ.normal ?_
   refine WC.seq ?_
   refine WC.block ?_
   refine WC.seq ?_
   refine WC.still mixed Z.K ?_
   refine Z.b1 rfl (Rd.move rfl rfl) <| Z.b1 rfl (Rd.move rfl rfl) <| Z.b1 rfl (by exact Rd.idx1 (k := m - 1) rfl S24 rfl rfl Z.W Z.M Z.W) ?_
   refine Z.b1 rfl (by exact Rd.get rfl C9 rfl Z.M (by exact get!_of_lt Z.W)) ?_
   refine Z.b1 rfl (Rd.move rfl rfl) <| Z.b1 rfl (Rd.move rfl rfl) <| Z.b1 rfl (by exact Rd.idx1 (k := p - 1) rfl S24 rfl rfl Z.W Z.M Z.W) ?_
   refine Z.b1 rfl (by exact Rd.get rfl C9 rfl Z.M (by exact get!_of_lt Z.W)) ?_
   refine Z.b1 rfl (Rd.seql rfl rfl rfl) ?_
   refine WA.nil ?_
   refine thenQ.normal ?_
   refine WC.ite rfl (fun hc3 => ?_) (fun hc3 => ?_)
   ·
    refine WC.region ?_
    refine Z.m1 rfl <| Z.m1 rfl <| Z.m1 rfl <| Z.m1 rfl <| Z.r1 rfl (Rd.add rfl rfl rfl Z.W) ?_
    refine Z.r1 rfl (by exact Rd.idx1 (k := p) rfl S121 rfl rfl Z.W Z.M Z.W) ?_
    refine Z.r1 rfl (Rd.get (k := p) (a := lcs (xs.drop m) (ys.drop p)) rfl C120 rfl Z.M (lrow_get _ _ h3)) ?_
    refine Z.r1 rfl (Rd.addk (r := ((lcs (xs.drop m) (ys.drop p) + 1 : Nat) : Int)) rfl rfl rfl (by have := lcs_le_right (xs.drop m) (ys.drop p); rw [List.length_drop] at this; rw [wrap_u16 Z.W]; omega)) ?_
    refine Z.r1 rfl (by exact Rd.idxR1 (k := p - 1) rfl S121 rfl rfl Z.W Z.W) ?_
    refine WL.op rfl ?_
    refine OpW.store1 rfl Z120 rfl rfl (by exact ⟨rfl, rfl⟩) Z.T Z.W rfl ?_
    refine WL.heap (fun w h => by rw [part_step' _ _ Z.W h3 (by rw [hp0, hm0, lcs_cons, if_pos hc3])] at h; exact h) ?_
    refine WL.nil ?_
    refine blockQ.normal ?_
    refine thenQ.normal ?_
    refine WC.region ?_
    refine Z.m1 rfl <| Z.r1 rfl (Rd.sub rfl rfl rfl Z.W) ?_
    refine Z.a1 rfl ?_
    refine WL.nil ?_
    exact loopQ1.mk (p - 1) Z.W Z.W (by repeat (first | exact Sub.nil | refine Sub.cons rfl (by first | rfl | (congr 1; omega)) ?_)) Z.F
   ·
    refine WC.tail 13 mixed Z.K ?_
    refine Z.d1 rfl (Rd.move rfl rfl) <| Z.d1 rfl (Rd.move rfl rfl) <| Z.d1 rfl (Rd.move rfl rfl) <| Z.d1 rfl (Rd.move rfl rfl) <| Z.d1 rfl (by exact Rd.idx1 (k := p - 1) rfl S121 rfl rfl Z.W Z.M Z.W) ?_
    refine Z.d1 rfl (Rd.get (k := p - 1) (a := lcs (xs.drop m) (ys.drop (p - 1))) rfl C120 rfl Z.M (lrow_get _ _ Z.W)) ?_
    refine Z.d1 rfl (Rd.move rfl rfl) <| Z.d1 rfl (Rd.move rfl rfl) <| Z.d1 rfl (Rd.add rfl rfl rfl Z.W) ?_
    refine Z.d1 rfl (by exact Rd.idxR1 (k := p) rfl S121 rfl rfl Z.W Z.W) ?_
    refine Z.d1 rfl (Rd.row1 (u := vu (lcs (xs.drop (m - 1)) (ys.drop p))) rfl C120 rfl Z.M (part_get _ _ (Nat.le_refl _) h3)) ?_
    refine Z.d1 rfl (Rd.max2 rfl rfl rfl) ?_
    refine WS.say 74 (u := vu (max (lcs (xs.drop m) (ys.drop (p - 1))) (lcs (xs.drop (m - 1)) (ys.drop p)))) rfl (by congr 1; split <;> omega) ?_
    refine Z.d1 rfl (by exact Rd.idxR1 (k := p - 1) rfl S121 rfl rfl Z.W Z.W) ?_
    refine WS.switch ?_
    refine WL.op rfl ?_
    refine OpW.store1 rfl Z120 rfl rfl (by exact ⟨rfl, rfl⟩) Z.T Z.W rfl ?_
    refine WL.heap (fun w h => by rw [part_step' _ _ Z.W h3 (by rw [hp0, hm0, lcs_cons, if_neg hc3, ← hp0, ← hm0])] at h; exact h) ?_
    refine WL.nil ?_
    refine blockQ.normal ?_
    refine thenQ.normal ?_
    refine WC.region ?_
    refine Z.m1 rfl <| Z.r1 rfl (Rd.sub rfl rfl rfl Z.W) ?_
    refine Z.a1 rfl ?_
    refine WL.nil ?_
    exact loopQ1.mk (p - 1) Z.W Z.W (by repeat (first | exact Sub.nil | refine Sub.cons rfl (by first | rfl | (congr 1; omega)) ?_)) Z.F
  ·
   refine WC.exit ?_
   refine thenQ.exit ?_
   refine loopQ1.exit ?_
   refine blockQ.exit ?_
   refine thenQ.normal ?_
   refine WC.region ?_
   refine Z.m1 rfl <| Z.m1 rfl <| Z.m1 rfl <| Z.r1 rfl (by exact Rd.idxR1 (k := m - 1) rfl S118 rfl rfl Z.W Z.W) ?_
   refine WL.op rfl ?_
   refine OpW.store1 rfl Z121 rfl rfl (by exact ⟨rfl, rfl⟩) Z.T (by (simp only [List.length_append, List.length_replicate, List.length_map, List.length_set]; omega)) rfl ?_
   refine WL.nil ?_
   refine blockQ.normal ?_
   refine thenQ.normal ?_
   refine WC.region ?_
   refine Z.m1 rfl <| Z.r1 rfl (Rd.sub rfl rfl rfl Z.W) ?_
   refine Z.a1 rfl ?_
   refine WL.nil ?_
   exact loopQ2.mk (m - 1) (.slice (some ⟨b32, 0, none⟩) (ys.length + 1) (ys.length + 1) :: vsl) ⟨by omega, by simp; omega⟩ Z.W (by repeat (first | exact Sub.nil | refine Sub.cons rfl (by first | rfl | (congr 1; omega)) ?_)) (fun w h => by
   obtain rfl : p = 0 := by omega
   have h1 := Sat.shareRow (enc := SL.one vu) (xs := lrow (xs.drop (m - 1)) ys) Z.T (part_zero _ ys) (lrow_length _ _) Z.W h
   have e := set_last (m - 1) (.slice none 0 0) (.slice (some ⟨b32, 0, none⟩) (ys.length + 1) (ys.length + 1)) vsl
   rw [show m - 1 + 1 = m from by omega] at e
   rw [e] at h1
   have h2 := h1.derive (q := Rows (.slice (some ⟨b32, 0, none⟩) (ys.length + 1) (ys.length + 1) :: vsl) xs ys (m - 1)) (fun w hr j hj => by
    cases j with
    | zero => exact hr _ List.mem_cons_self
    | succ j =>
      have := hr (Rows vsl xs ys m) Z.M j (by simpa using hj)
      rw [show m - 1 + (j + 1) = m + j from by omega]
      exact this)
   exact h2.thin (SubL.mem Z.S))
 ·
  refine WC.exit ?_
  refine thenQ.exit ?_
  refine loopQ2.exit ?_
  refine blockQ.exit ?_
  refine thenQ.normal ?_
  refine Z.s1 <| Z.m1 rfl <| Z.a1 rfl <| Z.n1 ?_
  refine WC.heap (R' := SlE (SL.one vid) (.slice (some ⟨b13, 0, none⟩) (xs.length + 1) (xs.length + 1)) vsl :: Rows vsl xs ys 0 :: R) (O' := O) (fun w h => by
  obtain rfl : m = 0 := by omega
  rw [List.replicate_zero, List.nil_append] at h
  exact h.shareRow (enc := SL.one vid) (xs := vsl) Z.T (by rw [flat_one]; simp) Z.W Z.W) ?_
  refine WC.ret (Ret.one Tryz.results61 rfl ?_)
  exact hk _ vsl Z.W
end Go.Proofs.YtnjfgcpmcjmddaaGreatDoor.Ld
namespace Go.Proofs.YtnjfgcpmcjmddaaGreatDoor.Ld
open Go Go.SL Go.Lcs
def Tell (f : FuncId) (caps : List Value) (R0 : List RO) (n m : Nat) (St : List (Nat × Nat × Nat) → List Own → Prop) : Prop :=
 ∀ R, (∀ p ∈ R0, p ∈ R) → ∀ (es : List (Nat × Nat × Nat)) (O : List Own) (op i j : Nat), St es O → es.length ≤ 8192 → ((op = 0 ∧ i < n ∧ j < m) ∨ (op = 1 ∧ i < n ∧ j ≤ m) ∨ (op = 2 ∧ i ≤ n ∧ j < m)) → ∀ POST : Value → List RO → List Own → Prop,
  (∀ O', St (es ++ [(op, i, j)]) O' → POST (.tuple #[]) R O') → Fun Tryz.prog f (.int .i64 op :: .int .i64 i :: .int .i64 j :: caps).toArray R O POST
theorem trace_same {xs ys : List (List UInt8)} {i j : Nat} (hi : i < xs.length) (hj : j < ys.length) (he : xs[i]! = ys[j]!) : trace i j (xs.drop i) (ys.drop j) = (0, i, j) :: trace (i + 1) (j + 1) (xs.drop (i + 1)) (ys.drop (j + 1)) := by
 rw [drop_get hi, drop_get hj, trace, if_pos he]
theorem trace_drop {xs ys : List (List UInt8)} {i j : Nat} (hi : i < xs.length) (hne : j < ys.length → xs[i]! ≠ ys[j]!) (h : j = ys.length ∨ lcs (xs.drop i) (ys.drop (j + 1)) ≤ lcs (xs.drop (i + 1)) (ys.drop j)) (hjl : j ≤ ys.length) :
 trace i j (xs.drop i) (ys.drop j) = (1, i, j) :: trace (i + 1) j (xs.drop (i + 1)) (ys.drop j) := by
 rcases Nat.lt_or_ge j ys.length with hj | hj
 · rw [drop_get hi, drop_get hj, trace, if_neg (hne hj), if_pos]
   rw [drop_get hi, drop_get hj] at h
   exact h.resolve_left Z.W
 · rw [drop_get hi, List.drop_of_length_le hj, trace]
theorem trace_add {xs ys : List (List UInt8)} {i j : Nat} (hj : j < ys.length) (hil : i ≤ xs.length) (hne : i < xs.length → xs[i]! ≠ ys[j]!) (h : i < xs.length → ¬ lcs (xs.drop i) (ys.drop (j + 1)) ≤ lcs (xs.drop (i + 1)) (ys.drop j)) :
 trace i j (xs.drop i) (ys.drop j) = (2, i, j) :: trace i (j + 1) (xs.drop i) (ys.drop (j + 1)) := by
 rcases Nat.lt_or_ge i xs.length with hi | hi
 · rw [drop_get hi, drop_get hj, trace, if_neg (hne hi), if_neg]
   have := h hi
   rw [drop_get hi, drop_get hj] at this
   exact this
 · rw [drop_get hj, List.drop_of_length_le hi, trace]
theorem trace_end {xs ys : List (List UInt8)} {i j : Nat} (hi : xs.length ≤ i) (hj : ys.length ≤ j) : trace i j (xs.drop i) (ys.drop j) = [] := by
 rw [List.drop_of_length_le hi, List.drop_of_length_le hj, trace]
theorem tlen {es : List (Nat × Nat × Nat)} {a b : List (Nat × Nat × Nat)} {n : Nat} (h : es ++ a = b) (hb : b.length ≤ n) : es.length ≤ n := by
 have := congrArg List.length h
 rw [List.length_append] at this
 omega
set_option maxRecDepth 20000 in
set_option maxHeartbeats 2000000 in
theorem walk_spec {R : List RO} {O : List Own} {POST : Value → List RO → List Own → Prop} {xs ys : List (List UInt8)} {av bv : Value} {f : FuncId} {caps : List Value} {St : List (Nat × Nat × Nat) → List Own → Prop} (ha : Strs av xs ∈ R) (hb : Strs bv ys ∈ R) (hla : xs.length ≤ 4096) (hlb : ys.length ≤ 4096)
 (hf : hasBody Tryz.prog f = true) (hT : Tell f caps R xs.length ys.length St) (h0 : St [] O) (hk : ∀ O', St (trace 0 0 xs ys) O' → POST (.int .i64 0) R O') :
 Fun Tryz.prog 41 #[av, bv, .func (.func f) #[] caps.toArray] R O POST := by
 have htl : (trace 0 0 xs ys).length ≤ 8192 := Nat.le_trans (trace_length_le 0 0 xs ys) Z.W
 refine Fun.enter (l := [_, _, _]) Tryz.func41 rfl Tryz.ntmps41 rfl (L0 := [(0, _), (1, _), (2, _)]) rfl ?_
 refine Z.s1 <| Z.a1 rfl <| Z.n1 ?_
 refine WC.seq ?_
 refine WC.pick [0, 1, 2] Z.P ?_
 refine WC.val 19 (.bool (decide (4096 < xs.length ∨ 4096 < ys.length))) ?_ ?_
 ·
  refine WC.region ?_
  refine Z.m1 rfl <| Z.r1 rfl (by exact Rd.lenE rfl rfl Tryz.underlying24 Z.M) ?_
  refine Z.r1 rfl (Rd.gtr rfl rfl rfl) <| Z.m1 rfl ?_
  refine WL.case 15 rfl (fun hg15 => ?_) (fun hg15 => ?_)
  ·
   refine Z.o1 rfl <| Z.o1 rfl <| Z.o1 rfl <| Z.r1 rfl (Rd.pick_t rfl rfl rfl) ?_
   refine WL.nil ?_
   exact ⟨by repeat (first | exact Sub.nil | refine Sub.cons rfl (by first | rfl | (exact vb_t Z.W)) ?_), by exact (fun _ h => h.thin (SubL.mem Z.S))⟩
  ·
   refine Z.y1 rfl (Rd.move rfl rfl) <| Z.y1 rfl (by exact Rd.lenE rfl rfl Tryz.underlying24 Z.M) ?_
   refine Z.y1 rfl (Rd.gtr rfl rfl rfl) <| Z.r1 rfl (Rd.pick_f rfl rfl rfl) ?_
   refine WL.nil ?_
   exact ⟨by repeat (first | exact Sub.nil | refine Sub.cons rfl (by first | rfl | (exact vb Z.W)) ?_), by exact (fun _ h => h.thin (SubL.mem Z.S))⟩
 ·
  refine WC.ite rfl (fun hc1 => ?_) (fun hc1 => ?_)
  ·
   exfalso; omega
  ·
   refine WC.skip ?_
   refine thenQ.normal ?_
   refine Z.s1 <| Z.a1 rfl <| Z.a1 rfl <| Z.n1 ?_
   refine WC.seq ?_
   refine WC.block ?_
   refine WC.pick [7, 8, 0, 1, 2] Z.P ?_
   refine WC.loop3 2 (fun (k : Nat) (es : List (Nat × Nat × Nat)) (O1 : List Own) => [(7, .int .i64 k), (8, .int .i64 k)]) (fun (k : Nat) (es : List (Nat × Nat × Nat)) (O1 : List Own) => O1) (fun (k : Nat) (es : List (Nat × Nat × Nat)) (O1 : List Own) => k ≤ xs.length ∧ k ≤ ys.length ∧ St es O1 ∧ es ++ trace k k (xs.drop k) (ys.drop k) = trace 0 0 xs ys) (fun (k : Nat) (es : List (Nat × Nat × Nat)) (O1 : List Own) => xs.length - k) (0) ([]) (O) Z.L ?hinv1 (by repeat (first | exact Sub.nil | refine Sub.cons rfl (by rfl) ?_)) (fun _ h => h) ?_
   case hinv1 =>
    exact ⟨Nat.zero_le _, Nat.zero_le _, h0, rfl⟩
   intro k es O1
   rintro ⟨h1, h2, hS, hE⟩
   refine WC.seq ?_
   refine WC.pick [0, 1, 2, 7, 8] Z.P ?_
   refine WC.val 40 (.bool (decide ((k < xs.length ∧ k < ys.length) ∧ xs[k]! = ys[k]!))) ?_ ?_
   ·
    refine WC.still mixed Z.K ?_
    refine Z.b1 rfl (Rd.move rfl rfl) <| Z.b1 rfl (Rd.move rfl rfl) <| Z.b1 rfl (by exact Rd.lenE rfl rfl Tryz.underlying24 Z.M) ?_
    refine Z.b1 rfl (Rd.lss rfl rfl rfl) <| Z.b1 rfl (Rd.move rfl rfl) ?_
    refine WA.case 24 rfl (fun hg24 => ?_) (fun hg24 => ?_)
    ·
     refine Z.c1 rfl (Rd.move rfl rfl) <| Z.c1 rfl (Rd.move rfl rfl) <| Z.c1 rfl (by exact Rd.lenE rfl rfl Tryz.underlying24 Z.M) ?_
     refine Z.c1 rfl (Rd.lss rfl rfl rfl) <| Z.b1 rfl (Rd.pick_t rfl rfl rfl) <| Z.b1 rfl (Rd.move rfl rfl) ?_
     refine WA.case 30 rfl (fun hg30 => ?_) (fun hg30 => ?_)
     ·
      refine Z.c1 rfl (Rd.move rfl rfl) <| Z.c1 rfl (Rd.move rfl rfl) <| Z.c1 rfl (by exact Rd.idx1 rfl S24 rfl rfl rfl Z.M Z.W) ?_
      refine Z.c1 rfl (by exact Rd.get rfl C9 rfl Z.M (by exact get!_of_lt Z.W)) ?_
      refine Z.c1 rfl (Rd.move rfl rfl) <| Z.c1 rfl (Rd.move rfl rfl) <| Z.c1 rfl (by exact Rd.idx1 rfl S24 rfl rfl rfl Z.M Z.W) ?_
      refine Z.c1 rfl (by exact Rd.get rfl C9 rfl Z.M (by exact get!_of_lt Z.W)) ?_
      refine Z.c1 rfl (Rd.seql rfl rfl rfl) <| Z.b1 rfl (Rd.pick_t rfl rfl rfl) ?_
      refine WA.nil ?_
      exact ⟨by repeat (first | exact Sub.nil | refine Sub.cons rfl (by first | rfl | (exact vb ⟨fun h => ⟨by omega, h⟩, fun h => h.2⟩)) ?_), by exact (fun _ h => h.thin (SubL.mem Z.S))⟩
     ·
      refine Z.p1 rfl <| Z.p1 rfl <| Z.p1 rfl <| Z.p1 rfl <| Z.p1 rfl <| Z.p1 rfl <| Z.p1 rfl <| Z.p1 rfl <| Z.p1 rfl <| Z.b1 rfl (Rd.pick_f rfl rfl rfl) ?_
      refine WA.nil ?_
      exact ⟨by repeat (first | exact Sub.nil | refine Sub.cons rfl (by first | rfl | (exact vb_f Z.W)) ?_), by exact (fun _ h => h.thin (SubL.mem Z.S))⟩
    ·
     refine Z.p1 rfl <| Z.p1 rfl <| Z.p1 rfl <| Z.p1 rfl <| Z.b1 rfl (Rd.pick_f rfl rfl rfl) <| Z.b1 rfl (Rd.move rfl rfl) <| Z.p1 rfl <| Z.p1 rfl <| Z.p1 rfl <| Z.p1 rfl ?_
     refine Z.p1 rfl <| Z.p1 rfl <| Z.p1 rfl <| Z.p1 rfl <| Z.p1 rfl <| Z.b1 rfl (Rd.pick_f rfl rfl rfl) ?_
     refine WA.nil ?_
     exact ⟨by repeat (first | exact Sub.nil | refine Sub.cons rfl (by first | rfl | (exact vb_f Z.W)) ?_), by exact (fun _ h => h.thin (SubL.mem Z.S))⟩
   ·
    refine WC.ite rfl (fun hc2 => ?_) (fun hc2 => ?_)
    ·
     refine WC.skip ?_
     refine thenQ.normal ?_
     refine WC.block ?_
     refine Z.s1 <| Z.m1 rfl <| Z.m1 rfl <| Z.m1 rfl ?_
     refine WL.op rfl ?_
     refine OpW.call rfl rfl Z.E hf rfl rfl rfl ?_
     refine hT R (fun _ h => h) es O1 0 k k hS (tlen hE htl) Z.W _ ?_
     intro O2 hS2
     refine Z.g1 <| Z.m1 rfl <| Z.r1 rfl (Rd.add rfl rfl rfl Z.W) ?_
     refine Z.m1 rfl <| Z.r1 rfl (Rd.add rfl rfl rfl Z.W) ?_
     refine Z.a1 rfl <| Z.a1 rfl ?_
     refine WL.nil ?_
     refine blockQ.normal ?_
     exact loopQ3.mk (k + 1) (es ++ [(0, k, k)]) O2 ⟨by omega, by omega, hS2, by rw [List.append_assoc, ← hE, trace_same hc2.1.1 hc2.1.2 hc2.2]; rfl⟩ Z.W (by repeat (first | exact Sub.nil | refine Sub.cons rfl (by rfl) ?_)) Z.F
    ·
     refine WC.exit ?_
     refine thenQ.exit ?_
     refine loopQ3.exit ?_
     refine blockQ.exit ?_
     refine thenQ.normal ?_
     refine WC.seq ?_
     refine WC.tail 6 mixed Z.K ?_
     refine Z.d1 rfl (Rd.move rfl rfl) <| Z.d1 rfl (Rd.move rfl rfl) <| Z.d1 rfl (Rd.cut_l rfl S24 rfl rfl rfl Z.M Z.W) ?_
     refine Z.d1 rfl (Rd.move rfl rfl) <| Z.d1 rfl (Rd.move rfl rfl) <| Z.d1 rfl (Rd.cut_l rfl S24 rfl rfl rfl Z.M Z.W) ?_
     refine WS.switch ?_
     refine WL.heap (fun w h => h.weaken ha (fun w hp => SlE.subl (size := 1) (lo := k) (fun _ => rfl) h1 hp)) ?_
     refine WL.heap (fun w h => h.weaken (List.mem_cons_of_mem _ hb) (fun w hp => SlE.subl (size := 1) (lo := k) (fun _ => rfl) h2 hp)) ?_
     refine WL.op rfl ?_
     refine OpW.call rfl rfl Z.E Z.K rfl rfl rfl ?_
     refine common_spec (xs := xs.drop k) (ys := ys.drop k) Z.M Z.M (by rw [List.length_drop]; omega) (by rw [List.length_drop]; omega) ?_
     intro cv vsl hvl
     refine Z.a1 rfl <| Z.q1 <| Z.m1 rfl <| Z.m1 rfl <| Z.a1 rfl <| Z.a1 rfl <| Z.n1 ?_
     refine WC.seq ?_
     refine WC.block ?_
     refine WC.pick [7, 8, 0, 1, 2, 9, 10, 11] Z.P ?_
     refine WC.loop4r 2 (fun (i : Nat) (j : Nat) (fs : List (Nat × Nat × Nat)) (O2 : List Own) => [(7, .int .i64 i), (8, .int .i64 j)]) (fun (i : Nat) (j : Nat) (fs : List (Nat × Nat × Nat)) (O2 : List Own) => SlE (SL.one vid) cv vsl :: Rows vsl (xs.drop k) (ys.drop k) 0 :: R) (fun (i : Nat) (j : Nat) (fs : List (Nat × Nat × Nat)) (O2 : List Own) => O2) (fun (i : Nat) (j : Nat) (fs : List (Nat × Nat × Nat)) (O2 : List Own) => (k ≤ i ∧ i ≤ xs.length) ∧ (k ≤ j ∧ j ≤ ys.length) ∧ St fs O2 ∧ fs ++ trace i j (xs.drop i) (ys.drop j) = trace 0 0 xs ys) (fun (i : Nat) (j : Nat) (fs : List (Nat × Nat × Nat)) (O2 : List Own) => xs.length - i + (ys.length - j)) (k) (k) (es) (O1) Z.L ?hinv2 (by repeat (first | exact Sub.nil | refine Sub.cons rfl (by rfl) ?_)) (fun _ h => h.thin (SubL.mem Z.S)) ?_
     case hinv2 =>
      exact ⟨⟨Nat.le_refl _, h1⟩, ⟨Nat.le_refl _, h2⟩, hS, hE⟩
     intro i j fs O2
     rintro ⟨⟨i1, i2⟩, ⟨j1, j2⟩, hS2, hE2⟩
     have hvl' : vsl.length = xs.length - k + 1 := by rw [hvl, List.length_drop]
     refine WC.seq ?_
     refine WC.pick [0, 1, 2, 7, 8, 9, 10, 11] Z.P ?_
     refine WC.val 67 (.bool (decide (i < xs.length ∨ j < ys.length))) ?_ ?_
     ·
      refine WC.region ?_
      refine Z.m1 rfl <| Z.m1 rfl <| Z.r1 rfl (by exact Rd.lenE rfl rfl Tryz.underlying24 Z.M) ?_
      refine Z.r1 rfl (Rd.lss rfl rfl rfl) <| Z.m1 rfl ?_
      refine WL.case 62 rfl (fun hg62 => ?_) (fun hg62 => ?_)
      ·
       refine Z.o1 rfl <| Z.o1 rfl <| Z.o1 rfl <| Z.o1 rfl <| Z.r1 rfl (Rd.pick_t rfl rfl rfl) ?_
       refine WL.nil ?_
       exact ⟨by repeat (first | exact Sub.nil | refine Sub.cons rfl (by first | rfl | (exact vb_t Z.W)) ?_), by exact (fun _ h => h.thin (SubL.mem Z.S))⟩
      ·
       refine Z.y1 rfl (Rd.move rfl rfl) <| Z.y1 rfl (Rd.move rfl rfl) <| Z.y1 rfl (by exact Rd.lenE rfl rfl Tryz.underlying24 Z.M) ?_
       refine Z.y1 rfl (Rd.lss rfl rfl rfl) <| Z.r1 rfl (Rd.pick_f rfl rfl rfl) ?_
       refine WL.nil ?_
       exact ⟨by repeat (first | exact Sub.nil | refine Sub.cons rfl (by first | rfl | (exact vb Z.W)) ?_), by exact (fun _ h => h.thin (SubL.mem Z.S))⟩
     ·
      refine WC.ite rfl (fun hc3 => ?_) (fun hc3 => ?_)
      ·
       refine WC.skip ?_
       refine thenQ.normal ?_
       refine WC.block ?_
       refine WC.block ?_
       refine WC.pick [0, 1, 2, 7, 8, 9, 10, 11] Z.P ?_
       refine WC.val 74 (.bool (decide ((i < xs.length ∧ j < ys.length) ∧ xs[i]! = ys[j]!))) ?_ ?_
       ·
        refine WC.still mixed Z.K ?_
        refine Z.b1 rfl (Rd.move rfl rfl) <| Z.b1 rfl (Rd.move rfl rfl) <| Z.b1 rfl (by exact Rd.lenE rfl rfl Tryz.underlying24 Z.M) ?_
        refine Z.b1 rfl (Rd.lss rfl rfl rfl) <| Z.b1 rfl (Rd.move rfl rfl) ?_
        refine WA.case 79 rfl (fun hg79 => ?_) (fun hg79 => ?_)
        ·
         refine Z.c1 rfl (Rd.move rfl rfl) <| Z.c1 rfl (Rd.move rfl rfl) <| Z.c1 rfl (by exact Rd.lenE rfl rfl Tryz.underlying24 Z.M) ?_
         refine Z.c1 rfl (Rd.lss rfl rfl rfl) <| Z.b1 rfl (Rd.pick_t rfl rfl rfl) <| Z.b1 rfl (Rd.move rfl rfl) ?_
         refine WA.case 85 rfl (fun hg85 => ?_) (fun hg85 => ?_)
         ·
          refine Z.c1 rfl (Rd.move rfl rfl) <| Z.c1 rfl (Rd.move rfl rfl) <| Z.c1 rfl (by exact Rd.idx1 rfl S24 rfl rfl rfl Z.M Z.W) ?_
          refine Z.c1 rfl (by exact Rd.get rfl C9 rfl Z.M (by exact get!_of_lt Z.W)) ?_
          refine Z.c1 rfl (Rd.move rfl rfl) <| Z.c1 rfl (Rd.move rfl rfl) <| Z.c1 rfl (by exact Rd.idx1 rfl S24 rfl rfl rfl Z.M Z.W) ?_
          refine Z.c1 rfl (by exact Rd.get rfl C9 rfl Z.M (by exact get!_of_lt Z.W)) ?_
          refine Z.c1 rfl (Rd.seql rfl rfl rfl) <| Z.b1 rfl (Rd.pick_t rfl rfl rfl) <| Z.b1 rfl (Rd.assign rfl rfl) ?_
          refine WA.nil ?_
          exact ⟨by repeat (first | exact Sub.nil | refine Sub.cons rfl (by first | rfl | (exact vb ⟨fun h => ⟨by omega, h⟩, fun h => h.2⟩)) ?_), by exact (fun _ h => h.thin (SubL.mem Z.S))⟩
         ·
          refine Z.p1 rfl <| Z.p1 rfl <| Z.p1 rfl <| Z.p1 rfl <| Z.p1 rfl <| Z.p1 rfl <| Z.p1 rfl <| Z.p1 rfl <| Z.p1 rfl <| Z.b1 rfl (Rd.pick_f rfl rfl rfl) ?_
          refine Z.b1 rfl (Rd.assign rfl rfl) ?_
          refine WA.nil ?_
          exact ⟨by repeat (first | exact Sub.nil | refine Sub.cons rfl (by first | rfl | (exact vb_f Z.W)) ?_), by exact (fun _ h => h.thin (SubL.mem Z.S))⟩
        ·
         refine Z.p1 rfl <| Z.p1 rfl <| Z.p1 rfl <| Z.p1 rfl <| Z.b1 rfl (Rd.pick_f rfl rfl rfl) <| Z.b1 rfl (Rd.move rfl rfl) <| Z.p1 rfl <| Z.p1 rfl <| Z.p1 rfl <| Z.p1 rfl ?_
         refine Z.p1 rfl <| Z.p1 rfl <| Z.p1 rfl <| Z.p1 rfl <| Z.p1 rfl <| Z.b1 rfl (Rd.pick_f rfl rfl rfl) <| Z.b1 rfl (Rd.assign rfl rfl) ?_
         refine WA.nil ?_
         exact ⟨by repeat (first | exact Sub.nil | refine Sub.cons rfl (by first | rfl | (exact vb_f Z.W)) ?_), by exact (fun _ h => h.thin (SubL.mem Z.S))⟩
       ·
        refine WC.ite rfl (fun hc4 => ?_) (fun hc4 => ?_)
        ·
         refine Z.s1 <| Z.m1 rfl <| Z.m1 rfl <| Z.m1 rfl ?_
         refine WL.op rfl ?_
         refine OpW.call rfl rfl Z.E hf rfl rfl rfl ?_
         refine hT _ (SubL.mem Z.S) fs O2 0 i j hS2 (tlen hE2 htl) Z.W _ ?_
         intro O3 hS3
         refine Z.g1 <| Z.m1 rfl <| Z.r1 rfl (Rd.add rfl rfl rfl Z.W) ?_
         refine Z.m1 rfl <| Z.r1 rfl (Rd.add rfl rfl rfl Z.W) ?_
         refine Z.a1 rfl <| Z.a1 rfl ?_
         refine WL.nil ?_
         refine blockQ.normal ?_
         refine blockQ.normal ?_
         exact loopQ4.mk (i + 1) (j + 1) (fs ++ [(0, i, j)]) O3 ⟨by omega, by omega, hS3, by rw [List.append_assoc, ← hE2, trace_same hc4.1.1 hc4.1.2 hc4.2]; rfl⟩ Z.W (by repeat (first | exact Sub.nil | refine Sub.cons rfl (by rfl) ?_)) Z.F
        ·
         refine WC.pick [0, 1, 2, 7, 8, 9, 10, 11] Z.P ?_
         refine WC.val 104 (.bool (decide (i < xs.length ∧ (j = ys.length ∨ lcs (xs.drop i) (ys.drop (j + 1)) ≤ lcs (xs.drop (i + 1)) (ys.drop j))))) ?_ ?_
         ·
          refine WC.still mixed Z.K ?_
          refine Z.b1 rfl (Rd.move rfl rfl) <| Z.b1 rfl (Rd.move rfl rfl) <| Z.b1 rfl (by exact Rd.lenE rfl rfl Tryz.underlying24 Z.M) ?_
          refine Z.b1 rfl (Rd.lss rfl rfl rfl) <| Z.b1 rfl (Rd.move rfl rfl) ?_
          refine WA.case 109 rfl (fun hg109 => ?_) (fun hg109 => ?_)
          ·
           refine Z.c1 rfl (Rd.move rfl rfl) <| Z.c1 rfl (Rd.move rfl rfl) <| Z.c1 rfl (by exact Rd.lenE rfl rfl Tryz.underlying24 Z.M) ?_
           refine Z.c1 rfl (Rd.eql rfl rfl rfl) <| Z.c1 rfl (Rd.move rfl rfl) ?_
           refine WA.case 114 rfl (fun hg114 => ?_) (fun hg114 => ?_)
           ·
            refine Z.p1 rfl <| Z.p1 rfl <| Z.p1 rfl <| Z.p1 rfl <| Z.p1 rfl <| Z.p1 rfl <| Z.p1 rfl <| Z.p1 rfl <| Z.p1 rfl <| Z.p1 rfl ?_
            refine Z.p1 rfl <| Z.p1 rfl <| Z.p1 rfl <| Z.p1 rfl <| Z.p1 rfl <| Z.p1 rfl <| Z.p1 rfl <| Z.p1 rfl <| Z.p1 rfl <| Z.p1 rfl ?_
            refine Z.p1 rfl <| Z.p1 rfl <| Z.p1 rfl <| Z.p1 rfl <| Z.p1 rfl <| Z.c1 rfl (Rd.pick_t rfl rfl rfl) <| Z.b1 rfl (Rd.pick_t rfl rfl rfl) <| Z.b1 rfl (Rd.assign rfl rfl) ?_
            refine WA.nil ?_
            exact ⟨by repeat (first | exact Sub.nil | refine Sub.cons rfl (by first | rfl | (exact vb_t ⟨by omega, .inl Z.W⟩)) ?_), by exact (fun _ h => h.thin (SubL.mem Z.S))⟩
           ·
            have r1 := lrow_length ((xs.drop k).drop (0 + (i + 1 - k))) (ys.drop k)
            have r2 := lrow_length ((xs.drop k).drop (0 + (i - k))) (ys.drop k)
            rw [List.length_drop] at r1 r2
            have hRows : Rows vsl (xs.drop k) (ys.drop k) 0 ∈ SlE (SL.one vid) cv vsl :: Rows vsl (xs.drop k) (ys.drop k) 0 :: R := Z.M
            refine WA.heap (fun w h => h.weaken hRows (fun w hp => hp (i + 1 - k) Z.W)) ?_
            refine WA.heap (fun w h => h.weaken (List.mem_cons_of_mem _ hRows) (fun w hp => hp (i - k) Z.W)) ?_
            refine Z.c1 rfl (Rd.move rfl rfl) <| Z.c1 rfl (Rd.move rfl rfl) <| Z.c1 rfl (Rd.add rfl rfl rfl Z.W) ?_
            refine Z.c1 rfl (Rd.move rfl rfl) <| Z.c1 rfl (Rd.sub rfl rfl rfl Z.W) ?_
            refine Z.c1 rfl (by exact Rd.idx1 (k := i + 1 - k) rfl S118 rfl rfl Z.W Z.M Z.W) ?_
            refine Z.c1 rfl (by exact Rd.get rfl C121 rfl Z.M (by exact get!_of_lt Z.W)) ?_
            refine Z.c1 rfl (Rd.move rfl rfl) <| Z.c1 rfl (Rd.move rfl rfl) <| Z.c1 rfl (Rd.sub rfl rfl rfl Z.W) ?_
            refine Z.c1 rfl (by exact Rd.idx1 (k := j - k) rfl S121 rfl rfl Z.W Z.M Z.W) ?_
            refine Z.c1 rfl (Rd.get (k := j - k) (a := lcs (xs.drop (i + 1)) (ys.drop j)) rfl C120 rfl Z.M (by rw [lrow_get _ _ (by rw [List.length_drop]; omega), List.drop_drop, List.drop_drop, show k + (0 + (i + 1 - k)) = i + 1 from by omega, show k + (j - k) = j from by omega])) ?_
            refine Z.c1 rfl (Rd.move rfl rfl) <| Z.c1 rfl (Rd.move rfl rfl) <| Z.c1 rfl (Rd.move rfl rfl) <| Z.c1 rfl (Rd.sub rfl rfl rfl Z.W) ?_
            refine Z.c1 rfl (by exact Rd.idx1 (k := i - k) rfl S118 rfl rfl Z.W Z.M Z.W) ?_
            refine Z.c1 rfl (by exact Rd.get rfl C121 rfl Z.M (by exact get!_of_lt Z.W)) ?_
            refine Z.c1 rfl (Rd.move rfl rfl) <| Z.c1 rfl (Rd.add rfl rfl rfl Z.W) ?_
            refine Z.c1 rfl (Rd.move rfl rfl) <| Z.c1 rfl (Rd.sub rfl rfl rfl Z.W) ?_
            refine Z.c1 rfl (by exact Rd.idx1 (k := j + 1 - k) rfl S121 rfl rfl Z.W Z.M Z.W) ?_
            refine Z.c1 rfl (Rd.get (k := j + 1 - k) (a := lcs (xs.drop i) (ys.drop (j + 1))) rfl C120 rfl Z.M (by rw [lrow_get _ _ (by rw [List.length_drop]; omega), List.drop_drop, List.drop_drop, show k + (0 + (i - k)) = i from by omega, show k + (j + 1 - k) = j + 1 from by omega])) ?_
            refine Z.c1 rfl (Rd.geq rfl rfl rfl) <| Z.c1 rfl (Rd.pick_f rfl rfl rfl) <| Z.b1 rfl (Rd.pick_t rfl rfl rfl) <| Z.b1 rfl (Rd.assign rfl rfl) ?_
            refine WA.nil ?_
            exact ⟨by repeat (first | exact Sub.nil | refine Sub.cons rfl (by first | rfl | (exact vb ⟨fun h => ⟨by omega, .inr Z.W⟩, fun h => by omega⟩)) ?_), by exact (fun _ h => h.thin (SubL.mem Z.S))⟩
          ·
           refine Z.p1 rfl <| Z.p1 rfl <| Z.p1 rfl <| Z.p1 rfl <| Z.p1 rfl ?_
           refine WA.noU rfl rfl rfl rfl rfl rfl ?_
           refine WA.noU rfl rfl rfl rfl rfl rfl ?_
           refine WA.noU rfl rfl rfl rfl rfl rfl ?_
           refine WA.noU rfl rfl rfl rfl rfl rfl ?_
           refine WA.noU rfl rfl rfl rfl rfl rfl ?_
           refine WA.noU rfl rfl rfl rfl rfl rfl ?_
           refine WA.noU rfl rfl rfl rfl rfl rfl ?_
           refine WA.noU rfl rfl rfl rfl rfl rfl ?_
           refine WA.noU rfl rfl rfl rfl rfl rfl ?_
           refine WA.noU rfl rfl rfl rfl rfl rfl ?_
           refine WA.noU rfl rfl rfl rfl rfl rfl ?_
           refine WA.noU rfl rfl rfl rfl rfl rfl ?_
           refine WA.noU rfl rfl rfl rfl rfl rfl ?_
           refine WA.noU rfl rfl rfl rfl rfl rfl ?_
           refine WA.noU rfl rfl rfl rfl rfl rfl ?_
           refine WA.noU rfl rfl rfl rfl rfl rfl ?_
           refine WA.noU rfl rfl rfl rfl rfl rfl ?_
           refine WA.noU rfl rfl rfl rfl rfl rfl ?_
           refine WA.noU rfl rfl rfl rfl rfl rfl ?_
           refine WA.noU rfl rfl rfl rfl rfl rfl ?_
           refine WA.noU rfl rfl rfl rfl rfl rfl ?_
           refine WA.noU rfl rfl rfl rfl rfl rfl ?_
           refine WA.noU rfl rfl rfl rfl rfl rfl ?_
           refine WA.noU rfl rfl rfl rfl rfl rfl ?_
           refine WA.noU rfl rfl rfl rfl rfl rfl ?_
           refine Z.p1 rfl <| Z.b1 rfl (Rd.pick_f rfl rfl rfl) <| Z.b1 rfl (Rd.assign rfl rfl) ?_
           refine WA.nil ?_
           exact ⟨by repeat (first | exact Sub.nil | refine Sub.cons rfl (by first | rfl | (exact vb_f Z.W)) ?_), by exact (fun _ h => h.thin (SubL.mem Z.S))⟩
         ·
          refine WC.ite rfl (fun hc5 => ?_) (fun hc5 => ?_)
          ·
           refine Z.s1 <| Z.m1 rfl <| Z.m1 rfl <| Z.m1 rfl ?_
           refine WL.op rfl ?_
           refine OpW.call rfl rfl Z.E hf rfl rfl rfl ?_
           refine hT _ (SubL.mem Z.S) fs O2 1 i j hS2 (tlen hE2 htl) Z.W _ ?_
           intro O3 hS3
           refine Z.g1 <| Z.m1 rfl <| Z.r1 rfl (Rd.add rfl rfl rfl Z.W) ?_
           refine Z.a1 rfl ?_
           refine WL.nil ?_
           refine blockQ.normal ?_
           refine blockQ.normal ?_
           exact loopQ4.mk (i + 1) j (fs ++ [(1, i, j)]) O3 ⟨by omega, by omega, hS3, by rw [List.append_assoc, ← hE2, trace_drop hc5.1 (fun hj he => hc4 ⟨⟨hc5.1, hj⟩, he⟩) hc5.2 Z.W]; rfl⟩ Z.W (by repeat (first | exact Sub.nil | refine Sub.cons rfl (by rfl) ?_)) Z.F
          ·
           refine Z.s1 <| Z.m1 rfl <| Z.m1 rfl <| Z.m1 rfl ?_
           refine WL.op rfl ?_
           refine OpW.call rfl rfl Z.E hf rfl rfl rfl ?_
           refine hT _ (SubL.mem Z.S) fs O2 2 i j hS2 (tlen hE2 htl) Z.W _ ?_
           intro O3 hS3
           refine Z.g1 <| Z.m1 rfl <| Z.r1 rfl (Rd.add rfl rfl rfl Z.W) ?_
           refine Z.a1 rfl ?_
           refine WL.nil ?_
           refine blockQ.normal ?_
           refine blockQ.normal ?_
           exact loopQ4.mk i (j + 1) (fs ++ [(2, i, j)]) O3 ⟨by omega, by omega, hS3, by rw [List.append_assoc, ← hE2, trace_add Z.W Z.W (fun hi he => hc4 ⟨⟨hi, by omega⟩, he⟩) (fun hi h => hc5 ⟨hi, .inr h⟩)]; rfl⟩ Z.W (by repeat (first | exact Sub.nil | refine Sub.cons rfl (by rfl) ?_)) Z.F
      ·
       refine WC.exit ?_
       refine thenQ.exit ?_
       refine loopQ4.exit ?_
       refine blockQ.exit ?_
       refine thenQ.normal ?_
       refine Z.s1 <| Z.a1 rfl <| Z.n1 ?_
       have hfin := trace_end (xs := xs) (ys := ys) (i := i) (j := j) Z.W Z.W
       rw [hfin, List.append_nil] at hE2
       refine WC.heap (R' := R) (O' := O2) Z.F ?_
       refine WC.ret (Ret.one Tryz.results41 rfl ?_)
       exact hk O2 (hE2 ▸ hS2)
end Go.Proofs.YtnjfgcpmcjmddaaGreatDoor.Ld
namespace Go.Proofs.YtnjfgcpmcjmddaaGreatDoor.Ld
open Go Go.SL Go.Lcs
def edit (xs ys : List (List UInt8)) (t : Nat × Nat × Nat) : Ed := ((t.1 : Int), if t.1 = 2 then ys[t.2.2]! else xs[t.2.1]!)
set_option maxRecDepth 20000 in
set_option maxHeartbeats 1000000 in
theorem diff1_spec {R : List RO} {O : List Own} {POST : Value → List RO → List Own → Prop} {xs ys : List (List UInt8)} {av bv v : Value} {l : List Ed} {b6 b3 b2 op i j : Nat} (ha : Strs av xs ∈ R) (hb : Strs bv ys ∈ R) (hl : l.length ≤ 8192)
 (hij : (op = 0 ∧ i < xs.length ∧ j < ys.length) ∨ (op = 1 ∧ i < xs.length ∧ j ≤ ys.length) ∨ (op = 2 ∧ i ≤ xs.length ∧ j < ys.length))
 (hk : ∀ v', OneV v' → POST (.tuple #[]) R (rowC b6 64 [v'] :: accC 90 2 encE v' (l ++ [edit xs ys (op, i, j)]) :: rowC b3 24 [bv] :: rowC b2 24 [av] :: O)) :
 Fun Tryz.prog 42 #[.int .i64 op, .int .i64 i, .int .i64 j, .pointer (some ⟨b6, 0, none⟩), .pointer (some ⟨b3, 0, none⟩), .pointer (some ⟨b2, 0, none⟩)] R (rowC b6 64 [v] :: accC 90 2 encE v l :: rowC b3 24 [bv] :: rowC b2 24 [av] :: O) POST := by
 refine Fun.enter (l := [_, _, _, _, _, _]) Tryz.func42 rfl Tryz.ntmps42 rfl (L0 := [(0, _), (1, _), (2, _), (3, _), (4, _), (5, _)]) rfl ?_
 refine Z.s1 <| Z.m1 rfl <| Z.r1 rfl (Rd.eql rfl rfl rfl) <| Z.n1 ?_
 refine WC.ite rfl (fun hc1 => ?_) (fun hc1 => ?_)
 ·
  have e : edit xs ys (op, i, j) = ((op : Int), ys[j]!) := by simp only [edit]; rw [if_pos Z.W]
  refine WC.drawn (rowC b3 24 [bv] :: rowC b2 24 [av] :: O) 10 rfl mixed ?_
  refine WD.take 1 rfl Z.K Z.H rfl rfl rfl (Rd.move rfl rfl) ?_
  refine WD.take 2 rfl Z.K Z.H rfl rfl rfl ((by exact Rd.row1 rfl C24 rfl Z.M (by rfl))) ?_
  refine WD.take 3 rfl Z.K Z.H rfl rfl rfl (Rd.move rfl rfl) ?_
  refine WD.take 4 rfl Z.K Z.H rfl rfl rfl ((by exact Rd.idx1 rfl S24 rfl rfl rfl Z.M Z.W)) ?_
  refine WD.take 5 rfl Z.K Z.H rfl rfl rfl ((by exact Rd.get rfl C9 rfl Z.M (by exact get!_of_lt Z.W))) ?_
  refine WD.take 6 rfl Z.K Z.H rfl rfl rfl (Rd.buildN (ps := [(0, _), (1, _)]) rfl Bs90 I90 rfl Z.E Z.C (by apply NFo.mk; repeat (first | exact NF.nil | apply NF.cons))) ?_
  refine WD.two 0 7 rfl rfl Z.K rfl rfl ?_ ?_
  ·
   refine OpW.rd rfl rfl ((by exact Rd.row1 rfl C64 rfl Z.M (by rfl))) ?_
   refine ⟨Z.H, ?_⟩
   refine WD.one 7 rfl Z.K rfl ?_
   refine OpW.buildSl (ps := [(0, _)]) rfl S64 Z.E rfl rfl Z.C Z.K rfl rfl rfl ?_; intro b18
   refine ⟨Z.H, ?_⟩
   refine WD.one 8 rfl Z.K rfl ?_
   refine OpW.appendRow (enc := encE) rfl S64 rfl rfl Z.T Z.T [((op : Int), ys[j]!)] rfl (by rfl) rfl (by intro x; rfl) (by intro x; rfl) (by exact ⟨by simp only [maxLen, List.length_append, List.length_nil, List.length_cons, List.length_drop, List.length_take, List.length_map]; omega, by omega⟩) rfl rfl ?_; intro v19 hv19
   refine ⟨Z.H, ?_⟩
   refine WD.one 9 rfl Z.K rfl ?_
   refine OpW.store1 rfl Z64 rfl rfl (by assumption) Z.T (by (simp; done)) rfl ?_
   refine ⟨Z.H, ?_⟩
   refine WD.done Z.K ?_
   refine Ret.normal (Ret.zero Tryz.results42 ?_)
   rw [e] at hk; exact hk _ hv19
  ·
   refine OpW.buildSl (ps := [(0, _)]) rfl S64 Z.E rfl rfl Z.C Z.K rfl rfl rfl ?_; intro b18
   refine ⟨Z.H, ?_⟩
   refine WD.one 0 rfl Z.K rfl ?_
   refine OpW.rd rfl rfl ((by exact Rd.row1 rfl C64 rfl Z.M (by rfl))) ?_
   refine ⟨Z.H, ?_⟩
   refine WD.one 8 rfl Z.K rfl ?_
   refine OpW.appendRow (enc := encE) rfl S64 rfl rfl Z.T Z.T [((op : Int), ys[j]!)] rfl (by rfl) rfl (by intro x; rfl) (by intro x; rfl) (by exact ⟨by simp only [maxLen, List.length_append, List.length_nil, List.length_cons, List.length_drop, List.length_take, List.length_map]; omega, by omega⟩) rfl rfl ?_; intro v19 hv19
   refine ⟨Z.H, ?_⟩
   refine WD.one 9 rfl Z.K rfl ?_
   refine OpW.store1 rfl Z64 rfl rfl (by assumption) Z.T (by (simp; done)) rfl ?_
   refine ⟨Z.H, ?_⟩
   refine WD.done Z.K ?_
   refine Ret.normal (Ret.zero Tryz.results42 ?_)
   rw [e] at hk; exact hk _ hv19
 ·
  have e : edit xs ys (op, i, j) = ((op : Int), xs[i]!) := by simp only [edit]; rw [if_neg Z.W]
  refine WC.drawn (rowC b3 24 [bv] :: rowC b2 24 [av] :: O) 10 rfl mixed ?_
  refine WD.take 1 rfl Z.K Z.H rfl rfl rfl (Rd.move rfl rfl) ?_
  refine WD.take 2 rfl Z.K Z.H rfl rfl rfl ((by exact Rd.row1 rfl C24 rfl Z.M (by rfl))) ?_
  refine WD.take 3 rfl Z.K Z.H rfl rfl rfl (Rd.move rfl rfl) ?_
  refine WD.take 4 rfl Z.K Z.H rfl rfl rfl ((by exact Rd.idx1 rfl S24 rfl rfl rfl Z.M Z.W)) ?_
  refine WD.take 5 rfl Z.K Z.H rfl rfl rfl ((by exact Rd.get rfl C9 rfl Z.M (by exact get!_of_lt Z.W))) ?_
  refine WD.take 6 rfl Z.K Z.H rfl rfl rfl (Rd.buildN (ps := [(0, _), (1, _)]) rfl Bs90 I90 rfl Z.E Z.C (by apply NFo.mk; repeat (first | exact NF.nil | apply NF.cons))) ?_
  refine WD.two 0 7 rfl rfl Z.K rfl rfl ?_ ?_
  ·
   refine OpW.rd rfl rfl ((by exact Rd.row1 rfl C64 rfl Z.M (by rfl))) ?_
   refine ⟨Z.H, ?_⟩
   refine WD.one 7 rfl Z.K rfl ?_
   refine OpW.buildSl (ps := [(0, _)]) rfl S64 Z.E rfl rfl Z.C Z.K rfl rfl rfl ?_; intro b27
   refine ⟨Z.H, ?_⟩
   refine WD.one 8 rfl Z.K rfl ?_
   refine OpW.appendRow (enc := encE) rfl S64 rfl rfl Z.T Z.T [((op : Int), xs[i]!)] rfl (by rfl) rfl (by intro x; rfl) (by intro x; rfl) (by exact ⟨by simp only [maxLen, List.length_append, List.length_nil, List.length_cons, List.length_drop, List.length_take, List.length_map]; omega, by omega⟩) rfl rfl ?_; intro v28 hv28
   refine ⟨Z.H, ?_⟩
   refine WD.one 9 rfl Z.K rfl ?_
   refine OpW.store1 rfl Z64 rfl rfl (by assumption) Z.T (by (simp; done)) rfl ?_
   refine ⟨Z.H, ?_⟩
   refine WD.done Z.K ?_
   refine Ret.normal (Ret.zero Tryz.results42 ?_)
   rw [e] at hk; exact hk _ hv28
  ·
   refine OpW.buildSl (ps := [(0, _)]) rfl S64 Z.E rfl rfl Z.C Z.K rfl rfl rfl ?_; intro b27
   refine ⟨Z.H, ?_⟩
   refine WD.one 0 rfl Z.K rfl ?_
   refine OpW.rd rfl rfl ((by exact Rd.row1 rfl C64 rfl Z.M (by rfl))) ?_
   refine ⟨Z.H, ?_⟩
   refine WD.one 8 rfl Z.K rfl ?_
   refine OpW.appendRow (enc := encE) rfl S64 rfl rfl Z.T Z.T [((op : Int), xs[i]!)] rfl (by rfl) rfl (by intro x; rfl) (by intro x; rfl) (by exact ⟨by simp only [maxLen, List.length_append, List.length_nil, List.length_cons, List.length_drop, List.length_take, List.length_map]; omega, by omega⟩) rfl rfl ?_; intro v28 hv28
   refine ⟨Z.H, ?_⟩
   refine WD.one 9 rfl Z.K rfl ?_
   refine OpW.store1 rfl Z64 rfl rfl (by assumption) Z.T (by (simp; done)) rfl ?_
   refine ⟨Z.H, ?_⟩
   refine WD.done Z.K ?_
   refine Ret.normal (Ret.zero Tryz.results42 ?_)
   rw [e] at hk; exact hk _ hv28
def diffE (xs ys : List (List UInt8)) : List Ed := (trace 0 0 xs ys).map (edit xs ys)
def DiffSt (b6 b3 b2 : Nat) (av bv : Value) (xs ys : List (List UInt8)) (O0 : List Own) (es : List (Nat × Nat × Nat)) (O : List Own) : Prop :=
 ∃ v, OneV v ∧ O = rowC b6 64 [v] :: accC 90 2 encE v (es.map (edit xs ys)) :: rowC b3 24 [bv] :: rowC b2 24 [av] :: O0
theorem diff_tell {R : List RO} {xs ys : List (List UInt8)} {av bv : Value} {b6 b3 b2 : Nat} {O0 : List Own} (ha : Strs av xs ∈ R) (hb : Strs bv ys ∈ R) :
 Tell 42 [.pointer (some ⟨b6, 0, none⟩), .pointer (some ⟨b3, 0, none⟩), .pointer (some ⟨b2, 0, none⟩)] R xs.length ys.length (DiffSt b6 b3 b2 av bv xs ys O0) := by
 rintro R' hR es O op i j ⟨v, hv, rfl⟩ hl hij POST hk
 refine diff1_spec (hR _ ha) (hR _ hb) (by simpa using hl) hij ?_
 intro v' hv'
 exact hk _ ⟨v', hv', by simp⟩
set_option maxRecDepth 20000 in
set_option maxHeartbeats 1000000 in
theorem diff_spec {R : List RO} {O : List Own} {POST : Value → List RO → List Own → Prop} {xs ys : List (List UInt8)} {av bv : Value} (ha : Strs av xs ∈ R) (hb : Strs bv ys ∈ R) (hla : xs.length ≤ 4096) (hlb : ys.length ≤ 4096)
 (hk : ∀ v, POST (.tuple #[v, .int .i64 0]) (Eds v (diffE xs ys) :: R) O) : Fun Tryz.prog 20 #[av, bv] R O POST := by
 refine Fun.oneV ha fun hva => ?_
 refine Fun.oneV hb fun hvb => ?_
 refine Fun.enter (l := [_, _]) Tryz.func20 rfl Tryz.ntmps20 rfl (L0 := [(0, _), (1, _)]) rfl ?_
 refine Z.s1 ?_
 refine WL.op rfl ?_
 refine OpW.box1 rfl rfl (by assumption) rfl rfl ?_; intro b2
 refine WL.op rfl ?_
 refine OpW.box1 rfl rfl (by assumption) rfl rfl ?_; intro b3
 refine Z.a1 rfl <| Z.a1 rfl <| Z.q1 ?_
 refine WL.op rfl ?_
 refine OpW.alloc rfl I64 rfl Z.N rfl rfl ?_; intro b6
 refine Z.n1 ?_
 refine WC.seq ?_
 refine WC.heap (fun w h => (h.accNil (α := Ed) (e := 90) (size := 2) (enc := encE)).swap) ?_
 refine WC.region ?_
 refine Z.r1 rfl (by exact Rd.row1 rfl C24 rfl Z.M (by rfl)) ?_
 refine Z.r1 rfl (by exact Rd.row1 rfl C24 rfl Z.M (by rfl)) ?_
 refine Z.r1 rfl (Rd.func rfl Z.E Z.E ⟨_, rfl⟩) ?_
 refine WL.op rfl ?_
 refine OpW.call rfl rfl Z.E Z.K rfl rfl rfl ?_
 refine walk_spec (St := DiffSt b6 b3 b2 av bv xs ys O) ha hb hla hlb Z.K (diff_tell ha hb) ⟨_, OneV.sl, rfl⟩ ?_
 rintro O1 ⟨v, hv, rfl⟩
 refine Z.a1 rfl <| Z.q1 <| Z.r1 rfl (by exact Rd.row1 rfl C64 rfl Z.M (by rfl)) ?_
 refine Z.m1 rfl <| Z.a1 rfl <| Z.a1 rfl <| Z.n1 ?_
 refine WC.heap (fun w h => h.shareA (e := 90) (size := 2) (enc := encE) (v := v) (xs := (trace 0 0 xs ys).map (edit xs ys)) Z.T) ?_
 refine WC.heap (R' := Eds v (diffE xs ys) :: R) (O' := O) Z.F ?_
 refine WC.ret (Ret.two Tryz.results20 rfl rfl ?_)
 exact hk v
end Go.Proofs.YtnjfgcpmcjmddaaGreatDoor.Ld
namespace Go.Proofs.YtnjfgcpmcjmddaaGreatDoor.Ld
open Go Go.SL Go.Lcs
def pos (l : List (List UInt8)) (s : List UInt8) (n : Nat) : List Nat := (List.range n).filter fun i => decide (l[i]! = s)
def atE : List Nat → Int
 | [k] => (k : Int)
 | _ => -1
def onceE (l : List (List UInt8)) (s : List UInt8) : Int := atE (pos l s l.length)
end Go.Proofs.YtnjfgcpmcjmddaaGreatDoor.Ld
namespace Go.SL
open Go
section
variable {P : Program} {o : Oper} {L : Env} {R : List RO} {O : List Own} {t t' e : TypeId} {x y : Operand}
theorem Rd.eqNil {a : Option Addr} {n c : Nat} (ho : o.op = .binOp .eql t x y t') (hT : P.underlying t = some (.slice e)) (hx : ev L x = some (.slice a n c)) (hy : ev L y = some (.slice none 0 0)) : Rd P o L R O (.bool a.isNone) := fun ρ w hρ _ _ => by
 have e0 : (eqGuard .eql t x y (.slice a n c) (.slice none 0 0)).run P w = .ok () w := by
  unfold eqGuard
  split <;> rfl
 simp only [execOp, ho, hρ _ _ hx, hρ _ _ hy, Sem.run_bind, e0, Result.andThen_ok, Lib.run_eql_slice_nil w t e a n c 0 0 hT, Sem.run_pure]
end
end Go.SL
namespace Go.Proofs.YtnjfgcpmcjmddaaGreatDoor.Ld
open Go Go.SL
theorem take_nodup {l : List (List UInt8)} {i : Nat} (h : i < l.length) : (l.take (i + 1)).Nodup ↔ (l.take i).Nodup ∧ l[i]! ∉ l.take i := by
 rw [List.take_add_one, get!_of_lt h, Option.toList_some, List.nodup_append]
 simp only [List.nodup_cons, List.not_mem_nil, not_false_eq_true, List.nodup_nil, and_self, true_and, List.mem_singleton, forall_eq]
 constructor
 · rintro ⟨a, b⟩; exact ⟨a, fun hc => b _ hc rfl⟩
 · rintro ⟨a, b⟩; exact ⟨a, fun c hc e => b (e ▸ hc)⟩
theorem take_alike {xs ys : List (List UInt8)} {i : Nat} (hx : i < xs.length) (hy : i < ys.length) (h : xs.take i = ys.take i) (e : xs[i]! = ys[i]!) : xs.take (i + 1) = ys.take (i + 1) := by
 rw [List.take_add_one, List.take_add_one, get!_of_lt hx, get!_of_lt hy, h, e]
set_option maxRecDepth 20000 in
theorem equal_spec {R : List RO} {O : List Own} {POST : Value → List RO → List Own → Prop} {xs ys : List (List UInt8)} {av bv : Value} (ha : SlE (SL.one vs) av xs ∈ R) (hb : SlE (SL.one vs) bv ys ∈ R) (hk : POST (.bool (decide (xs = ys))) R O) : Fun Tryz.prog 25 #[av, bv] R O POST := by
 refine Fun.len ha fun hla => ?_
 refine Fun.len hb fun hlb => ?_
 refine Fun.enter (l := [_, _]) Tryz.func25 rfl Tryz.ntmps25 rfl (L0 := [(0, _), (1, _)]) rfl ?_
 refine Z.s1 <| Z.a1 rfl <| Z.n1 <| Z.s2 <| Z.m1 rfl <| Z.r1 rfl (by exact Rd.lenE rfl rfl Tryz.underlying24 Z.M) ?_
 refine Z.m1 rfl <| Z.r1 rfl (by exact Rd.lenE rfl rfl Tryz.underlying24 Z.M) ?_
 refine Z.r1 rfl (Rd.neq rfl rfl rfl) <| Z.n1 ?_
 refine WC.ite rfl (fun hc1 => ?_) (fun hc1 => ?_)
 ·
  refine Z.s1 <| Z.a1 rfl <| Z.n1 ?_
  refine WC.ret (Ret.one Tryz.results25 rfl ?_)
  rw [decide_eq_false (fun h => hc1 (by rw [h]))] at hk
  exact hk
 ·
  refine WC.skip ?_
  refine thenQ.normal ?_
  refine Z.s2 <| Z.m1 rfl <| Z.r1 rfl (by exact Rd.lenE rfl rfl Tryz.underlying24 Z.M) ?_
  refine Z.m1 rfl <| Z.n1 ?_
  refine WC.block ?_
  refine WC.pick [13, 0, 1, 12] Z.P ?_
  refine WC.loop1o 1 (fun (i : Nat) => [(13, .int .i64 (i : Int))]) (fun (i : Nat) => i ≤ xs.length ∧ xs.take i = ys.take i) (fun (i : Nat) => xs.length - i) (0) Z.L ?hinv1 (by repeat (first | exact Sub.nil | refine Sub.cons rfl (by rfl) ?_)) (fun _ h => h) ?_
  case hinv1 =>
   exact ⟨Nat.zero_le _, rfl⟩
  intro i
  rintro ⟨i1, i2⟩
  have hll : xs.length = ys.length := by omega
  refine Z.s1 <| Z.r1 rfl (Rd.lss rfl rfl rfl) <| Z.n1 ?_
  refine WC.seq ?_
  refine WC.ite rfl (fun hc2 => ?_) (fun hc2 => ?_)
  ·
   refine WC.skip ?_
   refine thenQ.normal ?_
   refine WC.seq ?_
   refine WC.block ?_
   refine Z.s1 <| Z.m1 rfl <| Z.a1 rfl <| Z.n1 ?_
   refine WC.seq ?_
   refine WC.still mixed Z.K ?_
   refine Z.b1 rfl (Rd.move rfl rfl) <| Z.b1 rfl (Rd.move rfl rfl) <| Z.b1 rfl (Rd.idx1 (k := i) rfl S24 rfl rfl rfl ha Z.W) ?_
   refine Z.b1 rfl (Rd.get (k := i) rfl C9 rfl ha (get!_of_lt Z.W)) ?_
   refine Z.b1 rfl (Rd.move rfl rfl) <| Z.b1 rfl (Rd.move rfl rfl) <| Z.b1 rfl (Rd.idx1 (k := i) rfl S24 rfl rfl rfl hb Z.W) ?_
   refine Z.b1 rfl (Rd.get (k := i) rfl C9 rfl hb (get!_of_lt Z.W)) ?_
   refine Z.b1 rfl (Rd.sneq rfl rfl rfl) ?_
   refine WA.nil ?_
   refine thenQ.normal ?_
   refine WC.ite rfl (fun hc3 => ?_) (fun hc3 => ?_)
   ·
    refine Z.s1 <| Z.a1 rfl <| Z.n1 ?_
    refine WC.ret (Ret.one Tryz.results25 rfl ?_)
    rw [decide_eq_false (fun h => hc3 (by rw [h]))] at hk
    exact hk
   ·
    refine WC.skip ?_
    refine blockQ.normal ?_
    refine thenQ.normal ?_
    refine WC.region ?_
    refine Z.r1 rfl (Rd.add rfl rfl rfl Z.W) ?_
    refine Z.m1 rfl ?_
    refine WL.nil ?_
    exact loopQ1.mk (i + 1) ⟨by omega, take_alike Z.W Z.W i2 (by simpa using hc3)⟩ Z.W (by repeat (first | exact Sub.nil | refine Sub.cons rfl (by rfl) ?_)) Z.F
  ·
   refine WC.exit ?_
   refine thenQ.exit ?_
   refine loopQ1.exit ?_
   refine blockQ.exit ?_
   refine thenQ.normal ?_
   refine Z.s1 <| Z.a1 rfl <| Z.n1 ?_
   refine WC.ret (Ret.one Tryz.results25 rfl ?_)
   rw [List.take_of_length_le Z.W, List.take_of_length_le Z.W] at i2
   rw [decide_eq_true i2] at hk
   exact hk
set_option maxRecDepth 20000 in
theorem clone_spec {R : List RO} {O : List Own} {POST : Value → List RO → List Own → Prop} {xs : List (List UInt8)} {av : Value} (ha : SlE (SL.one vs) av xs ∈ R) (hb : xs.length ≤ 4294967296) (hk : ∀ v, OneV v → POST v R (accC 9 1 (SL.one vs) v xs :: O)) : Fun Tryz.prog 26 #[av] R O POST := by
 refine Fun.know (φ := ∃ a c, av = .slice a xs.length c ∧ (a = none → xs.length = 0)) ha (fun w h => by
  obtain ⟨a, c, h1, _, _, h2, _⟩ := h
  exact ⟨a, c, h1, h2⟩) ?_
 rintro ⟨a, c, rfl, hn⟩
 refine Fun.enter (l := [_]) Tryz.func26 rfl Tryz.ntmps26 rfl (L0 := [(0, _)]) rfl ?_
 refine Z.s1 <| Z.a1 rfl <| Z.n1 <| Z.s2 <| Z.m1 rfl <| Z.r1 rfl (Rd.eqNil rfl Tryz.underlying24 rfl rfl) <| Z.n1 ?_
 refine WC.cond rfl (fun hc1 => ?_) (fun hc1 => ?_)
 ·
  refine Z.s1 <| Z.a1 rfl <| Z.n1 ?_
  obtain rfl : xs = [] := List.length_eq_zero_iff.1 (hn (by simpa using hc1))
  refine WC.heap (fun w h => h.accNil (α := List UInt8) (e := 9) (size := 1) (enc := SL.one vs)) ?_
  refine WC.ret (Ret.one Tryz.results26 rfl ?_)
  exact hk _ OneV.sl
 ·
  refine WC.skip ?_
  refine thenQ.normal ?_
  refine Z.s1 ?_
  refine WL.op rfl ?_
  refine OpW.buildSl (ps := []) rfl S24 Z.E rfl rfl Z.C Z.K rfl rfl rfl ?_; intro b5
  refine Z.m1 rfl ?_
  refine WL.heap (fun w h => h.accRow (α := List UInt8) (enc := SL.one vs) (xs := []) Z.T rfl rfl (fun _ => rfl) (Nat.zero_le _)) ?_
  refine WL.op rfl ?_
  refine OpW.appendE (enc := SL.one vs) rfl S24 Tryz.underlying24 rfl rfl Z.T Z.M (by intro x; rfl) (by intro x; rfl) (by exact ⟨by simp only [maxLen, List.length_append, List.length_nil, List.length_cons, List.length_drop, List.length_take, List.length_map]; omega, by (simp only [List.length_append, List.length_nil, List.length_cons, List.length_drop, List.length_take, List.length_map]; omega)⟩) rfl rfl ?_; intro v7 hv7
  refine Z.a1 rfl <| Z.n1 ?_
  refine WC.ret (Ret.one Tryz.results26 rfl ?_)
  exact hk _ hv7
end Go.Proofs.YtnjfgcpmcjmddaaGreatDoor.Ld
namespace Go.Proofs.YtnjfgcpmcjmddaaGreatDoor.Ld
open Go Go.SL
def SetOf (m : GoMap (List UInt8) Bool) (l : List (List UInt8)) : Prop := ∀ s, m.get s = if s ∈ l then some true else none
theorem SetOf.look {m : GoMap (List UInt8) Bool} {l : List (List UInt8)} (h : SetOf m l) (s : List UInt8) : ((m.get s).map vbl).getD (.bool false) = .bool (decide (s ∈ l)) := by
 rw [h s]
 by_cases e : s ∈ l
 · rw [if_pos e, decide_eq_true e]; rfl
 · rw [if_neg e, decide_eq_false e]; rfl
theorem SetOf.step {m : GoMap (List UInt8) Bool} {l : List (List UInt8)} {i : Nat} (hi : i < l.length) (h : SetOf m (l.take i)) : SetOf (m.set l[i]! true) (l.take (i + 1)) := by
 intro s
 rw [GoMap.get_set, List.take_add_one, get!_of_lt hi]
 by_cases e : s = l[i]!
 · rw [if_pos e, if_pos (by simp [e])]
 · rw [if_neg e, h s]
   have : (s ∈ l.take i ++ (some l[i]!).toList) ↔ s ∈ l.take i := by simp only [Option.toList_some, List.mem_append, List.mem_singleton, e, or_false]
   simp only [this]
set_option maxRecDepth 20000 in
set_option maxHeartbeats 1000000 in
theorem set_spec {R : List RO} {O : List Own} {POST : Value → List RO → List Own → Prop} {xs : List (List UInt8)} {av : Value} (ha : SlE (SL.one vs) av xs ∈ R)
 (hk1 : xs.Nodup → ∀ b m, SetOf m xs → POST (.tuple #[.map (some b), .bool true]) R (mapC vs vbl b m :: O)) (hk2 : ¬ xs.Nodup → POST (.tuple #[.map none, .bool false]) R O) : Fun Tryz.prog 10 #[av] R O POST := by
 refine Fun.len ha fun hla => ?_
 refine Fun.enter (l := [_]) Tryz.func10 rfl Tryz.ntmps10 rfl (L0 := [(0, _)]) rfl ?_
 refine Z.s1 <| Z.a1 rfl <| Z.a1 rfl <| Z.q1 ?_
 refine WL.op rfl ?_
 refine OpW.makeMap vs vbl rfl rfl rfl ?_; intro b7
 refine Z.a1 rfl <| Z.n1 <| Z.s2 <| Z.m1 rfl <| Z.r1 rfl (by exact Rd.lenE rfl rfl Tryz.underlying24 Z.M) ?_
 refine Z.m1 rfl <| Z.n1 ?_
 refine WC.block ?_
 refine WC.pick [10, 4, 8, 9] Z.P ?_
 refine WC.loop2 1 (fun (i : Nat) (m : GoMap (List UInt8) Bool) => [(10, .int .i64 (i : Int))]) (fun (i : Nat) (m : GoMap (List UInt8) Bool) => mapC vs vbl b7 m :: O) (fun (i : Nat) (m : GoMap (List UInt8) Bool) => i ≤ xs.length ∧ (xs.take i).Nodup ∧ SetOf m (xs.take i)) (fun (i : Nat) (m : GoMap (List UInt8) Bool) => xs.length - i) (0) (GoMap.empty) Z.L ?hinv1 (by repeat (first | exact Sub.nil | refine Sub.cons rfl (by rfl) ?_)) (fun _ h => h) ?_
 case hinv1 =>
  exact ⟨Nat.zero_le _, by simp, fun s => by simp⟩
 intro i m
 rintro ⟨i1, i2, i3⟩
 refine Z.s1 <| Z.r1 rfl (Rd.lss rfl rfl rfl) <| Z.n1 ?_
 refine WC.seq ?_
 refine WC.ite rfl (fun hc1 => ?_) (fun hc1 => ?_)
 ·
  refine WC.skip ?_
  refine thenQ.normal ?_
  refine WC.seq ?_
  refine WC.block ?_
  refine Z.s1 <| Z.r1 rfl (by exact Rd.idx1 (k := i) rfl S24 rfl rfl Z.W Z.M Z.W) ?_
  refine Z.r1 rfl (by exact Rd.get rfl C9 rfl Z.M (by exact get!_of_lt Z.W)) ?_
  refine Z.a1 rfl <| Z.n1 <| Z.s2 <| Z.m1 rfl <| Z.m1 rfl <| Z.r1 rfl (by exact Rd.lookup M37 K9 rfl rfl rfl Z.M (by rfl)) ?_
  refine WL.say 16 (u := .bool (decide (xs[i]! ∈ xs.take i))) rfl (i3.look _) ?_
  refine Z.n1 ?_
  refine WC.ite rfl (fun hc2 => ?_) (fun hc2 => ?_)
  ·
   refine Z.s1 <| Z.a1 rfl <| Z.a1 rfl <| Z.n1 ?_
   refine WC.heap (R' := R) (O' := O) Z.F ?_
   refine WC.ret (Ret.two Tryz.results10 rfl rfl ?_)
   exact hk2 fun h => ((take_nodup (l := xs) (i := i) Z.W).1 (h.sublist (List.take_sublist _ _))).2 hc2
  ·
   refine WC.skip ?_
   refine thenQ.normal ?_
   refine WC.region ?_
   refine Z.m1 rfl <| Z.m1 rfl ?_
   refine WL.op rfl ?_
   refine OpW.mapUpdate M37 K9 rfl rfl rfl rfl Z.T (by rfl) (by rfl) rfl ?_
   refine WL.nil ?_
   refine blockQ.normal ?_
   refine thenQ.normal ?_
   refine WC.region ?_
   refine Z.r1 rfl (Rd.add rfl rfl rfl Z.W) ?_
   refine Z.m1 rfl ?_
   refine WL.nil ?_
   exact loopQ2.mk (i + 1) (m.set xs[i]! true) ⟨by omega, (take_nodup Z.W).2 ⟨i2, hc2⟩, i3.step Z.W⟩ Z.W (by repeat (first | exact Sub.nil | refine Sub.cons rfl (by rfl) ?_)) Z.F
 ·
  refine WC.exit ?_
  refine thenQ.exit ?_
  refine loopQ2.exit ?_
  refine blockQ.exit ?_
  refine thenQ.normal ?_
  refine Z.s1 <| Z.m1 rfl <| Z.a1 rfl <| Z.a1 rfl <| Z.n1 ?_
  refine WC.ret (Ret.two Tryz.results10 rfl rfl ?_)
  rw [List.take_of_length_le Z.W] at i2 i3
  exact hk1 i2 b7 m i3
def oneE (base ours theirs : List (List UInt8)) : Option (List (List UInt8)) :=
 if ours = theirs ∨ theirs = base then some ours else if ours = base then some theirs else none
set_option maxRecDepth 20000 in
theorem one_spec {R : List RO} {O : List Own} {POST : Value → List RO → List Own → Prop} {base ours theirs : List (List UInt8)} {bv ov tv : Value} (hb : SlE (SL.one vs) bv base ∈ R) (ho : SlE (SL.one vs) ov ours ∈ R) (ht : SlE (SL.one vs) tv theirs ∈ R)
 (hlo : ours.length ≤ 4294967296) (hlt : theirs.length ≤ 4294967296)
 (hk1 : ∀ r v, oneE base ours theirs = some r → OneV v → POST (.tuple #[v, .bool true]) R (accC 9 1 (SL.one vs) v r :: O)) (hk2 : oneE base ours theirs = none → POST (.tuple #[.slice none 0 0, .bool false]) R O) : Fun Tryz.prog 11 #[bv, ov, tv] R O POST := by
 refine Fun.enter (l := [_, _, _]) Tryz.func11 rfl Tryz.ntmps11 rfl (L0 := [(0, _), (1, _), (2, _)]) rfl ?_
 refine Z.s1 <| Z.a1 rfl <| Z.a1 rfl <| Z.n1 ?_
 refine WC.seq ?_
 refine WC.block ?_
 refine Z.s2 <| Z.m1 rfl <| Z.m1 rfl ?_
 refine WL.op rfl ?_
 refine OpW.call rfl rfl Z.E Z.K rfl rfl rfl ?_
 refine equal_spec ho ht ?_
 refine Z.a1 rfl <| Z.n1 ?_
 refine WC.ite rfl (fun hc1 => ?_) (fun hc1 => ?_)
 ·
  refine WC.skip ?_
  refine thenQ.normal ?_
  refine WC.ite rfl (fun hc2 => ?_) (fun hc2 => ?_)
  ·
   refine Z.s1 <| Z.m1 rfl ?_
   refine WL.op rfl ?_
   refine OpW.call rfl rfl Z.E Z.K rfl rfl rfl ?_
   refine clone_spec ho hlo ?_; intro v16 hv16
   refine Z.a1 rfl <| Z.a1 rfl <| Z.n1 ?_
   refine WC.ret (Ret.two Tryz.results11 rfl rfl ?_)
   exact hk1 ours v16 (by unfold oneE; rw [if_pos (by exact .inl (by assumption))]) hv16
  ·
   refine Z.s1 <| Z.m1 rfl <| Z.m1 rfl ?_
   refine WL.op rfl ?_
   refine OpW.call rfl rfl Z.E Z.K rfl rfl rfl ?_
   refine equal_spec ho hb ?_
   refine Z.a1 rfl <| Z.n1 ?_
   refine WC.ite rfl (fun hc3 => ?_) (fun hc3 => ?_)
   ·
    refine Z.s1 <| Z.m1 rfl ?_
    refine WL.op rfl ?_
    refine OpW.call rfl rfl Z.E Z.K rfl rfl rfl ?_
    refine clone_spec ht hlt ?_; intro v22 hv22
    refine Z.a1 rfl <| Z.a1 rfl <| Z.n1 ?_
    refine WC.ret (Ret.two Tryz.results11 rfl rfl ?_)
    exact hk1 theirs v22 (by unfold oneE; rw [if_neg (by rintro (h | h) <;> contradiction), if_pos (by assumption)]) hv22
   ·
    refine WC.skip ?_
    refine blockQ.normal ?_
    refine thenQ.normal ?_
    refine Z.s1 <| Z.a1 rfl <| Z.a1 rfl <| Z.n1 ?_
    refine WC.ret (Ret.two Tryz.results11 rfl rfl ?_)
    exact hk2 (by unfold oneE; rw [if_neg (by rintro (h | h) <;> contradiction), if_neg (by assumption)])
 ·
  refine WC.region ?_
  refine Z.m1 rfl <| Z.m1 rfl ?_
  refine WL.op rfl ?_
  refine OpW.call rfl rfl Z.E Z.K rfl rfl rfl ?_
  refine equal_spec ht hb ?_
  refine Z.a1 rfl <| Z.n1 ?_
  refine WC.ite rfl (fun hc2 => ?_) (fun hc2 => ?_)
  ·
   refine Z.s1 <| Z.m1 rfl ?_
   refine WL.op rfl ?_
   refine OpW.call rfl rfl Z.E Z.K rfl rfl rfl ?_
   refine clone_spec ho hlo ?_; intro v16 hv16
   refine Z.a1 rfl <| Z.a1 rfl <| Z.n1 ?_
   refine WC.ret (Ret.two Tryz.results11 rfl rfl ?_)
   exact hk1 ours v16 (by unfold oneE; rw [if_pos (by exact .inr (by assumption))]) hv16
  ·
   refine Z.s1 <| Z.m1 rfl <| Z.m1 rfl ?_
   refine WL.op rfl ?_
   refine OpW.call rfl rfl Z.E Z.K rfl rfl rfl ?_
   refine equal_spec ho hb ?_
   refine Z.a1 rfl <| Z.n1 ?_
   refine WC.ite rfl (fun hc3 => ?_) (fun hc3 => ?_)
   ·
    refine Z.s1 <| Z.m1 rfl ?_
    refine WL.op rfl ?_
    refine OpW.call rfl rfl Z.E Z.K rfl rfl rfl ?_
    refine clone_spec ht hlt ?_; intro v22 hv22
    refine Z.a1 rfl <| Z.a1 rfl <| Z.n1 ?_
    refine WC.ret (Ret.two Tryz.results11 rfl rfl ?_)
    exact hk1 theirs v22 (by unfold oneE; rw [if_neg (by rintro (h | h) <;> contradiction), if_pos (by assumption)]) hv22
   ·
    refine WC.skip ?_
    refine blockQ.normal ?_
    refine thenQ.normal ?_
    refine Z.s1 <| Z.a1 rfl <| Z.a1 rfl <| Z.n1 ?_
    refine WC.ret (Ret.two Tryz.results11 rfl rfl ?_)
    exact hk2 (by unfold oneE; rw [if_neg (by rintro (h | h) <;> contradiction), if_neg (by assumption)])
set_option maxRecDepth 20000 in
theorem long1_spec {R : List RO} {O : List Own} {POST : Value → List RO → List Own → Prop} {xs : List (List UInt8)} {av : Value} (ha : SlE (SL.one vs) av xs ∈ R) (hk : POST (.bool (decide (4096 < xs.length))) R O) : Fun Tryz.prog 24 #[av] R O POST := by
 refine Fun.enter (l := [_]) Tryz.func24 rfl Tryz.ntmps24 rfl (L0 := [(0, _)]) rfl ?_
 refine Z.s1 <| Z.a1 rfl <| Z.q1 <| Z.m1 rfl <| Z.r1 rfl (by exact Rd.lenE rfl rfl Tryz.underlying24 Z.M) ?_
 refine Z.r1 rfl (Rd.gtr rfl rfl rfl) <| Z.a1 rfl <| Z.n1 ?_
 refine WC.ret (Ret.one Tryz.results24 rfl ?_)
 rw [show (decide ((4096 : Int) < (xs.length : Int))) = decide (4096 < xs.length) from decide_eq_decide.2 Z.W]
 exact hk
def ListsOf (vsl : List Value) (ll : List (List (List UInt8))) (R : List RO) : Prop := vsl.length = ll.length ∧ ∀ j, j < ll.length → SlE (SL.one vs) vsl[j]! ll[j]! ∈ R
set_option maxRecDepth 20000 in
theorem idx_spec {R : List RO} {O : List Own} {POST : Value → List RO → List Own → Prop} {vsl : List Value} {ll : List (List (List UInt8))} {lv : Value} (hl : SlE (SL.one vid) lv vsl ∈ R) (hL : ListsOf vsl ll R)
 (hk : ∀ k : Int, (0 ≤ k ↔ ∃ j, j < ll.length ∧ 4096 < ll[j]!.length) → POST (.int .i64 k) R O) : Fun Tryz.prog 51 #[lv, .func (.func 24) #[] #[]] R O POST := by
 refine Fun.len hl fun hll => ?_
 obtain ⟨hL1, hL2⟩ := hL
 refine Fun.enter (l := [_, _]) Tryz.func51 rfl Tryz.ntmps51 rfl (L0 := [(0, _), (1, _)]) rfl ?_
 refine Z.s1 <| Z.a1 rfl <| Z.n1 <| Z.s2 <| Z.m1 rfl <| Z.r1 rfl (by exact Rd.lenE rfl rfl Tryz.underlying68 Z.M) ?_
 refine Z.m1 rfl <| Z.n1 ?_
 refine WC.block ?_
 refine WC.pick [8, 0, 1, 7] Z.P ?_
 refine WC.loop1o 1 (fun (i : Nat) => [(8, .int .i64 (i : Int))]) (fun (i : Nat) => i ≤ vsl.length ∧ ∀ j, j < i → ¬ 4096 < ll[j]!.length) (fun (i : Nat) => vsl.length - i) (0) Z.L ?hinv1 (by repeat (first | exact Sub.nil | refine Sub.cons rfl (by rfl) ?_)) (fun _ h => h) ?_
 case hinv1 =>
  exact ⟨Nat.zero_le _, fun j hj => absurd hj (Nat.not_lt_zero _)⟩
 intro i
 rintro ⟨i1, i2⟩
 refine Z.s1 <| Z.r1 rfl (Rd.lss rfl rfl rfl) <| Z.n1 ?_
 refine WC.seq ?_
 refine WC.ite rfl (fun hc1 => ?_) (fun hc1 => ?_)
 ·
  refine WC.skip ?_
  refine thenQ.normal ?_
  refine WC.seq ?_
  refine WC.block ?_
  refine Z.s1 <| Z.m1 rfl <| Z.a1 rfl <| Z.q1 <| Z.m1 rfl <| Z.m1 rfl <| Z.m1 rfl <| Z.r1 rfl (by exact Rd.idx1 (k := i) rfl S68 rfl rfl Z.W Z.M Z.W) ?_
  refine Z.r1 rfl (Rd.get (xs := vsl) (k := i) rfl C24 rfl hl (get!_of_lt Z.W)) ?_
  refine WL.op rfl ?_
  refine OpW.call rfl rfl Z.E Z.K rfl rfl rfl ?_
  refine long1_spec (hL2 i Z.W) ?_
  refine Z.n1 ?_
  refine WC.ite rfl (fun hc2 => ?_) (fun hc2 => ?_)
  ·
   refine Z.s1 <| Z.m1 rfl <| Z.a1 rfl <| Z.n1 ?_
   refine WC.ret (Ret.one Tryz.results51 rfl ?_)
   exact hk _ ⟨fun _ => ⟨i, by omega, hc2⟩, fun _ => by omega⟩
  ·
   refine WC.skip ?_
   refine blockQ.normal ?_
   refine thenQ.normal ?_
   refine WC.region ?_
   refine Z.r1 rfl (Rd.add rfl rfl rfl Z.W) ?_
   refine Z.m1 rfl ?_
   refine WL.nil ?_
   exact loopQ1.mk (i + 1) ⟨by omega, fun j hj => by
   rcases Nat.lt_or_ge j i with h | h
   · exact i2 j h
   · obtain rfl : j = i := by omega
     exact hc2⟩ Z.W (by repeat (first | exact Sub.nil | refine Sub.cons rfl (by rfl) ?_)) Z.F
 ·
  refine WC.exit ?_
  refine thenQ.exit ?_
  refine loopQ1.exit ?_
  refine blockQ.exit ?_
  refine thenQ.normal ?_
  refine Z.s1 <| Z.a1 rfl <| Z.n1 ?_
  refine WC.ret (Ret.one Tryz.results51 rfl ?_)
  exact hk _ ⟨fun h => absurd h (by decide), fun ⟨j, h1, h2⟩ => absurd h2 (i2 j Z.W)⟩
set_option maxRecDepth 20000 in
theorem has0_spec {R : List RO} {O : List Own} {POST : Value → List RO → List Own → Prop} {vsl : List Value} {ll : List (List (List UInt8))} {lv : Value} (hl : SlE (SL.one vid) lv vsl ∈ R) (hL : ListsOf vsl ll R)
 (hk : ∀ b : Bool, (b = true ↔ ∃ j, j < ll.length ∧ 4096 < ll[j]!.length) → POST (.bool b) R O) : Fun Tryz.prog 23 #[lv, .func (.func 24) #[] #[]] R O POST := by
 refine Fun.enter (l := [_, _]) Tryz.func23 rfl Tryz.ntmps23 rfl (L0 := [(0, _), (1, _)]) rfl ?_
 refine Z.s1 <| Z.a1 rfl <| Z.q1 <| Z.m1 rfl <| Z.m1 rfl ?_
 refine WL.op rfl ?_
 refine OpW.call rfl rfl Z.E Z.K rfl rfl rfl ?_
 refine idx_spec hl hL ?_; intro k hk7
 refine Z.r1 rfl (Rd.geq rfl rfl rfl) <| Z.a1 rfl <| Z.n1 ?_
 refine WC.ret (Ret.one Tryz.results23 rfl ?_)
 exact hk _ (by rw [decide_eq_true_iff]; exact hk7)
set_option maxRecDepth 20000 in
theorem has_spec {R : List RO} {O : List Own} {POST : Value → List RO → List Own → Prop} {vsl : List Value} {ll : List (List (List UInt8))} {lv : Value} (hl : SlE (SL.one vid) lv vsl ∈ R) (hL : ListsOf vsl ll R)
 (hk : ∀ b : Bool, (b = true ↔ ∃ j, j < ll.length ∧ 4096 < ll[j]!.length) → POST (.bool b) R O) : Fun Tryz.prog 9 #[lv] R O POST := by
 refine Fun.enter (l := [_]) Tryz.func9 rfl Tryz.ntmps9 rfl (L0 := [(0, _)]) rfl ?_
 refine Z.s1 <| Z.a1 rfl <| Z.q1 <| Z.m1 rfl ?_
 refine WL.op rfl ?_
 refine OpW.call rfl rfl Z.E Z.K rfl rfl rfl ?_
 refine has0_spec hl hL ?_; intro b hb
 refine Z.a1 rfl <| Z.n1 ?_
 refine WC.ret (Ret.one Tryz.results9 rfl ?_)
 exact hk b hb
end Go.Proofs.YtnjfgcpmcjmddaaGreatDoor.Ld
namespace Go.SL
open Go
section
variable {P : Program} {n : Sz} {o : Oper} {L : Env} {R : List RO} {O O' : List Own} {K : Env → List RO → List Own → Prop} {t t' e : TypeId} {x y : Operand} {v z : Value} {α : Type} {g : α → Value} {enc : α → List Value} {xs : List α} {size bytes : Nat}
theorem OpW.storeAcc {k : Nat} {a : α} (ho : o.op = .store t x y) (hsz : ∀ w, (sizeOf t).run P w = .ok 1 w) (hx : ev L x = some (.pointer (some (elemAddr v k)))) (hy : ev L y = some (g a)) (h1 : (g a).cells = #[g a]) (h2 : (g a).oneCell' = true)
 (hT : Take (accC e 1 (one g) v xs) O O') (hlt : k < xs.length) (hd : o.dst = none) (kk : K L R (accC e 1 (one g) v (xs.set k a) :: O')) : OpW P n o L R O K := by
 intro ac w hf hs Q
 have hs' := hs.perm hT.perm
 have hp : (accC e 1 (one g) v xs).pred w := hs'.see List.mem_cons_self
 have hcell := acc_cell hp (j := k) (u := g xs[k]) (by rw [flat_one, List.getElem?_map, List.getElem?_eq_getElem hlt]; rfl)
 have hlt' := ownBlock_lt hp
 obtain ⟨hl, hv⟩ := hp
 rcases hv with ⟨rfl, h0⟩ | ⟨b, cap, cur, rfl, hb, hh, hnc, hcm, hcs, ht⟩
 · omega
 simp only [elemAddr, Nat.zero_add] at hx hcell
 have hfree : w.frozen? ⟨b, k, none⟩ = false := by
  simp only [World.frozen?, hh]; simp
 have hr : (execOp ac.eval o).run P w = .ok .skip (w.setCell ⟨b, k, none⟩ (g a)) := by
  simp [execOp, ho, hf.ev hx, hf.ev hy, Instr.storeAt, Instr.sureAddr, storeVar, hsz, h1, storeCells, Addr.add, run_store _ _ _ _ _ h2, hcell, hfree]
 unfold Oper.wp
 rw [hr, Oper.upon_skip, hd]
 have hset : (w.setCell ⟨b, k, none⟩ (g a)).heap[b]? = some (.cells (cur.setIfInBounds k (g a)) e (0, 0)) := by
  show (w.heap.modify b _)[b]? = _
  rw [Array.getElem?_modify, if_pos rfl, hh]; rfl
 have hbl : b < w.heap.size := hlt' b (by simp [Value.ownBlock])
 refine ⟨_, _, _, kk, hf.none _, hs'.update _ ⟨rfl, rfl, rfl, by simp, fun j hj hn => heap_setCell_other w _ _ (g a) (by simpa [accC, Value.ownBlock, eq_comm] using hn)⟩ (by intro j hj; left; simpa [accC, Value.ownBlock] using hj) (by intro j hj; simp [accC, Value.ownBlock] at hj; subst hj; simpa using hbl) (by simp [accC, Value.ownBlock]) (fun w'' ha _ => ?_)⟩
 refine ⟨by rw [flat_one, List.length_map, Nat.mul_one], .inr ⟨b, cap, cur.setIfInBounds k (g a), by rw [List.length_set], Nat.zero_le _, ?_, by rw [List.length_set]; exact hnc, hcm, by simpa using hcs, ?_⟩⟩
 · rw [ha.2.2.2.2 b (by simpa using hbl) (by simp [accC, Value.ownBlock])]
   exact hset
 · rw [Nat.mul_one] at ht ⊢
   rw [Array.toList_setIfInBounds, List.length_set, List.take_set, ht, flat_one, flat_one, List.map_set]
theorem Rd.cutA_l {kl : IntKind} {p : Int} {lo : Nat} {e' : TypeId} {a : Operand} (ho : o.op = .slice t x (some a) none none) (hT : SlT P t e size bytes z) (hx : ev L x = some v) (ha : ev L a = some (.int kl p)) (hp : p = (lo : Int)) (hO : accC e' size enc v xs ∈ O) (h1 : lo ≤ xs.length) : Rd P o L R O (subSl v size lo xs.length) := fun ρ w hρ _ hr => by
 rcases (hr _ hO).2 with ⟨rfl, h0⟩ | ⟨b, c, cur, rfl, _⟩
 · have h := run_cut (P := P) (m := 0) (cp := 0) (ad := none) (lo := lo) (hi := xs.length) hT (some (.int kl p)) none (bound_ok hp h1) (fun _ => by rw [h0]; rfl) w
   simp only [execOp, ho, hρ _ _ hx, hρ _ _ ha, Option.map_some, Option.map_none, Sem.run_bind, h, Result.andThen_ok, Sem.run_pure]
 · have h := run_cut (P := P) (m := xs.length) (cp := c) (ad := some ⟨b, 0, none⟩) (lo := lo) (hi := xs.length) hT (some (.int kl p)) none (bound_ok hp h1) (fun _ => rfl) w
   simp only [execOp, ho, hρ _ _ hx, hρ _ _ ha, Option.map_some, Option.map_none, Sem.run_bind, h, Result.andThen_ok, Sem.run_pure]
theorem Rd.cutA_h {kh : IntKind} {q : Int} {hi : Nat} {e' : TypeId} {b : Operand} (ho : o.op = .slice t x none (some b) none) (hT : SlT P t e size bytes z) (hx : ev L x = some v) (hb : ev L b = some (.int kh q)) (hq : q = (hi : Int)) (hO : accC e' size enc v xs ∈ O) (h2 : hi ≤ xs.length) : Rd P o L R O (subSl v size 0 hi) := fun ρ w hρ _ hr => by
 rcases (hr _ hO).2 with ⟨rfl, h0⟩ | ⟨g, c, cur, rfl, _, _, hnc, _⟩
 · have h := run_cut (P := P) (m := 0) (cp := 0) (ad := none) (lo := 0) (hi := hi) hT none (some (.int kh q)) (fun _ => rfl) (bound_ok hq Z.W) w
   simp only [execOp, ho, hρ _ _ hx, hρ _ _ hb, Option.map_some, Option.map_none, Sem.run_bind, h, Result.andThen_ok, Sem.run_pure]
 · have h := run_cut (P := P) (m := xs.length) (cp := c) (ad := some ⟨g, 0, none⟩) (lo := 0) (hi := hi) hT none (some (.int kh q)) (fun _ => rfl) (bound_ok hq Z.W) w
   simp only [execOp, ho, hρ _ _ hx, hρ _ _ hb, Option.map_some, Option.map_none, Sem.run_bind, h, Result.andThen_ok, Sem.run_pure]
theorem run_clear_row (hT : SlT P t e 1 bytes z) (hz : z.cells = #[z]) (h1 : z.oneCell' = true) (ty : TypeId) {w : World} {b lo m c : Nat} {cur : Array Value} (hg : w.heap[b]? = some (.cells cur e (0, 0))) (hn : 0 < m) (hfit : lo + m ≤ cur.size) :
 (Builtin.clear_ #[t] ty #[.slice (some ⟨b, lo, none⟩) m c]).run P w = .ok (.tuple #[]) (w.setRow b (cur.toList.take lo ++ List.replicate m z ++ cur.toList.drop (lo + m)).toArray) := by
 have hzc : (Builtin.zeroCells z.cells m).toList = List.replicate m z := by
  rw [hz]
  simp [Builtin.zeroCells]
  apply List.ext_getElem
  · simp
  · intro i h1 h2
    simp [Nat.mod_one]
 have hst := run_storeCells_at P b lo e (List.replicate m z) 0 cur w hg (by simpa using hfit) (by intro v hv'; rw [List.eq_of_mem_replicate hv']; exact h1)
 simp only [Nat.add_zero, List.length_replicate] at hst
 obtain ⟨k, rfl⟩ : ∃ k, m = k + 1 := ⟨m - 1, by omega⟩
 simp [Builtin.clear_, run_underlying hT.under, hT.zero, hzc, hst]
theorem OpW.clearAcc {lo : Nat} {a0 : α} {u : Value} (ho : o.op = .call { callee := .builtin .clear, args := #[x], argTypes := #[t] }) (hT : SlT P t e 1 bytes z) (hz : z = g a0) (hzc : (g a0).cells = #[g a0]) (h1 : (g a0).oneCell' = true)
 (hx : ev L x = some u) (hu : u = subSl v 1 lo xs.length) (hO : Take (accC e 1 (one g) v xs) O O') (hlo : lo < xs.length) (hd : o.dst = none) (kk : K L R (accC e 1 (one g) v (xs.take lo ++ List.replicate (xs.length - lo) a0) :: O')) : OpW P n o L R O K := by
 intro ac w hf hs Q
 subst hu
 have hs' := hs.perm hO.perm
 have hp : (accC e 1 (one g) v xs).pred w := hs'.see List.mem_cons_self
 have hlt' := ownBlock_lt hp
 obtain ⟨hl, hv⟩ := hp
 rcases hv with ⟨rfl, h0⟩ | ⟨b, cap, cur, rfl, hb, hh, hnc, hcm, hcs, ht⟩
 · omega
 have hsub : subSl (.slice (some ⟨b, 0, none⟩) xs.length cap) 1 lo xs.length = .slice (some ⟨b, lo, none⟩) (xs.length - lo) (cap - lo) := by
  simp only [subSl]
  rw [if_neg Z.W]
  simp [add_spot]
 rw [hsub] at hx
 have hcl := run_clear_row (P := P) hT (by rw [hz]; exact hzc) (by rw [hz]; exact h1) o.type (c := cap - lo) hh (lo := lo) (m := xs.length - lo) Z.W Z.W
 have hr : (execOp ac.eval o).run P w = .ok (.value (.tuple #[])) (w.setRow b (cur.toList.take lo ++ List.replicate (xs.length - lo) z ++ cur.toList.drop (lo + (xs.length - lo))).toArray) := by
  simp only [execOp, ho, resolve, invoke, builtin, hf.ev hx, Sem.run_bind, Sem.run_pure, Result.andThen_ok, List.map_toArray, List.map_cons, List.map_nil, hcl]
 unfold Oper.wp
 rw [hr, Oper.upon_value, hd]
 have hbl : b < w.heap.size := hlt' b (by simp [Value.ownBlock])
 refine ⟨_, _, _, kk, hf.none _, hs'.update _ ⟨rfl, rfl, rfl, by simp, fun j hj hn => setRow_other w b j _ (by simpa [accC, Value.ownBlock, eq_comm] using hn)⟩ (by intro j hj; left; simpa [accC, Value.ownBlock] using hj) (by intro j hj; simp [accC, Value.ownBlock] at hj; subst hj; simpa using hbl) (by simp [accC, Value.ownBlock]) (fun w'' ha _ => ?_)⟩
 have hlen : (xs.take lo ++ List.replicate (xs.length - lo) a0).length = xs.length := by simp; omega
 refine ⟨by rw [flat_one, List.length_map, Nat.mul_one], .inr ⟨b, cap, (cur.toList.take lo ++ List.replicate (xs.length - lo) z ++ cur.toList.drop (lo + (xs.length - lo))).toArray, by rw [hlen], Nat.zero_le _, ?_, by rw [hlen]; exact hnc, hcm, ?_, ?_⟩⟩
 · rw [ha.2.2.2.2 b (by simpa using hbl) (by simp [accC, Value.ownBlock])]
   exact setRow_heap w b cur _ e _ hh
 · simp; omega
 · have hcl2 : cur.toList.length = cap := by rw [Array.length_toList]; omega
   rw [Nat.mul_one, hlen, List.toList_toArray, List.take_append_of_le_length (by simp; omega), List.take_of_length_le (by simp; omega), flat_one, List.map_append, List.map_replicate, hz, List.map_take]
   rw [Nat.mul_one, flat_one] at ht
   rw [← ht, List.take_take, Nat.min_eq_left Z.W]
theorem subSl0 (b m cap size hi : Nat) : subSl (.slice (some ⟨b, 0, none⟩) m cap) size 0 hi = .slice (some ⟨b, 0, none⟩) hi cap := by
 simp only [subSl]
 split <;> simp [add_spot]
theorem Sat.cutAcc {hi : Nat} {w : World} (hT : Take (accC e size enc v xs) O O') (hs : ∀ x, (enc x).length = size) (h2 : hi ≤ xs.length) (h : Sat R O w) : Sat R (accC e size enc (subSl v size 0 hi) (xs.take hi) :: O') w := by
 have hs' := h.perm hT.perm
 have hp : (accC e size enc v xs).pred w := hs'.see List.mem_cons_self
 have hbk : (subSl v size 0 hi).ownBlock = v.ownBlock := by
  rcases hp.2 with ⟨rfl, h0⟩ | ⟨b, cap, cur, rfl, _⟩
  · simp [subSl, Value.ownBlock]
  · rw [subSl0]; rfl
 refine hs'.recast _ (by simp only [accC, hbk]) (fun w' hp' _ => ?_)
 obtain ⟨hl, hv⟩ := hp'
 refine ⟨by rw [flat_len hs, List.length_take], ?_⟩
 rcases hv with ⟨rfl, h0⟩ | ⟨b, cap, cur, rfl, hb, hh, hnc, hcm, hcs, ht⟩
 · left
   obtain rfl : hi = 0 := by omega
   exact ⟨by simp [subSl], by simp⟩
 · right
   refine ⟨b, cap, cur, ?_, Nat.zero_le _, hh, by rw [List.length_take]; omega, hcm, hcs, ?_⟩
   · rw [subSl0, List.length_take, Nat.min_eq_left h2]
   · have h5 : (xs.take hi).flatMap enc = (xs.flatMap enc).take (hi * size) := by
      have h6 := flat_len hs (xs.take hi)
      rw [List.length_take, Nat.min_eq_left h2] at h6
      have h7 : xs.flatMap enc = (xs.take hi).flatMap enc ++ (xs.drop hi).flatMap enc := by rw [← List.flatMap_append, List.take_append_drop]
      rw [h7, List.take_append_of_le_length (Nat.le_of_eq h6.symm)]
      exact (List.take_of_length_le (Nat.le_of_eq h6)).symm
     rw [h5, ← ht, List.take_take, List.length_take, Nat.min_eq_left h2, Nat.min_eq_left (Nat.mul_le_mul_right _ h2)]
end
section maps
variable {κ β : Type} [DecidableEq κ] {P : Program} {n : Sz} {o : Oper} {L : Env} {R : List RO} {O O' : List Own} {K : Env → List RO → List Own → Prop} {t t' kt et : TypeId} {z : Value} {x y : Operand} {kenc : κ → Value} {venc : β → Value} {m : GoMap κ β} {b : Nat} {k : κ} {kv : Value}
theorem OpW.delete (T : MapT P t kt et z) (KT : KeyT P kt kenc) (ho : o.op = .call { callee := .builtin .delete, args := #[x, y], argTypes := #[t, t'] }) (hx : ev L x = some (.map (some b))) (hy : ev L y = some kv) (hT : Take (mapC kenc venc b m) O O') (hk : kenc k = kv) (hd : o.dst = none)
 (c : K L R (mapC kenc venc b (m.del k) :: O')) : OpW P n o L R O K := by
 intro a w hf hs Q
 have hs' := hs.perm hT.perm
 have hp : mapP kenc venc b m w := hs'.see List.mem_cons_self
 unfold Oper.wp
 have hr : (execOp a.eval o).run P w = .ok (.value (.tuple #[])) { w with heap := w.heap.setIfInBounds b (.map ((m.del k).l.map (ent kenc venc)).toArray (m.del k).clock) } := by
  simp only [execOp, ho, resolve, invoke, builtin, Sem.run_bind, Sem.run_pure, hf.ev hx, hf.ev hy, ← hk, List.map_toArray, List.map_cons, List.map_nil, run_delete T KT hp, Result.andThen_ok]
 rw [hr, Oper.upon_value, hd]
 exact ⟨_, _, _, c, hf.none _, map_put hs' _ hp⟩
end maps
end Go.SL
namespace Go.Proofs.YtnjfgcpmcjmddaaGreatDoor.Ld
open Go Go.SL
structure Asks (b1 b2 b3 : Nat) (us them was : List (List UInt8)) (O : List Own) : Prop where
 a : ∃ c m, SetOf m us ∧ rowC b1 37 [.map (some c)] ∈ O ∧ mapC vs vbl c m ∈ O
 b : ∃ c m, SetOf m them ∧ rowC b2 37 [.map (some c)] ∈ O ∧ mapC vs vbl c m ∈ O
 c : ∃ c m, SetOf m was ∧ rowC b3 37 [.map (some c)] ∈ O ∧ mapC vs vbl c m ∈ O
theorem Asks.mono {b1 b2 b3 : Nat} {us them was : List (List UInt8)} {O O' : List Own} (h : Asks b1 b2 b3 us them was O) (hs : ∀ c ∈ O, c ∈ O') : Asks b1 b2 b3 us them was O' := by
 obtain ⟨⟨c1, m1, h1, h2, h3⟩, ⟨c4, m4, h4, h5, h6⟩, ⟨c7, m7, h7, h8, h9⟩⟩ := h
 exact ⟨⟨c1, m1, h1, hs _ h2, hs _ h3⟩, ⟨c4, m4, h4, hs _ h5, hs _ h6⟩, ⟨c7, m7, h7, hs _ h8, hs _ h9⟩⟩
def staysB (us them was : List (List UInt8)) (s : List UInt8) : Bool := decide ((s ∈ us ∧ s ∈ them) ∨ s ∉ was)
set_option maxRecDepth 20000 in
theorem stays_spec {R : List RO} {O : List Own} {POST : Value → List RO → List Own → Prop} {us them was : List (List UInt8)} {s : List UInt8} {b1 b2 b3 : Nat} (h : Asks b1 b2 b3 us them was O)
 (hk : POST (.bool (staysB us them was s)) R O) : Fun Tryz.prog 12 #[vs s, .pointer (some ⟨b1, 0, none⟩), .pointer (some ⟨b2, 0, none⟩), .pointer (some ⟨b3, 0, none⟩)] R O POST := by
 obtain ⟨⟨c1, m1, h1, h2, h3⟩, ⟨c4, m4, h4, h5, h6⟩, ⟨c7, m7, h7, h8, h9⟩⟩ := h
 refine Fun.enter (l := [_, _, _, _]) Tryz.func12 rfl Tryz.ntmps12 rfl (L0 := [(0, _), (1, _), (2, _), (3, _)]) rfl ?_
 refine Z.s1 <| Z.a1 rfl <| Z.q1 <| Z.r1 rfl (Rd.row1 rfl C37 rfl h2 rfl) <| Z.m1 rfl <| Z.r1 rfl (Rd.lookup M37 K9 rfl rfl rfl h3 rfl) ?_
 refine WL.say 8 (u := .bool (decide (s ∈ us))) rfl (h1.look s) ?_
 refine Z.m1 rfl ?_
 refine WL.case 9 rfl (fun hg9 => ?_) (fun hg9 => ?_)
 ·
  refine Z.y1 rfl (Rd.row1 rfl C37 rfl h5 rfl) <| Z.y1 rfl (Rd.move rfl rfl) <| Z.y1 rfl (Rd.lookup M37 K9 rfl rfl rfl h6 rfl) ?_
  refine WL.say 12 (u := .bool (decide (s ∈ them))) rfl (h4.look s) ?_
  refine Z.r1 rfl (Rd.pick_t rfl rfl rfl) <| Z.m1 rfl ?_
  refine WL.case 14 rfl (fun hg14 => ?_) (fun hg14 => ?_)
  ·
   refine Z.o1 rfl <| Z.o1 rfl <| Z.o1 rfl <| Z.o1 rfl <| Z.r1 rfl (Rd.pick_t rfl rfl rfl) <| Z.a1 rfl <| Z.n1 ?_
   refine WC.ret (Ret.one Tryz.results12 rfl ?_)
   simpa [staysB, *] using hk
  ·
   refine Z.y1 rfl (Rd.row1 rfl C37 rfl h8 rfl) <| Z.y1 rfl (Rd.move rfl rfl) <| Z.y1 rfl (Rd.lookup M37 K9 rfl rfl rfl h9 rfl) ?_
   refine WL.say 17 (u := .bool (decide (s ∈ was))) rfl (h7.look s) ?_
   refine Z.y1 rfl (by exact Rd.notd rfl rfl) ?_
   refine Z.r1 rfl (Rd.pick_f rfl rfl rfl) <| Z.a1 rfl <| Z.n1 ?_
   refine WC.ret (Ret.one Tryz.results12 rfl ?_)
   simpa [staysB, *] using hk
 ·
  refine Z.o1 rfl <| Z.o1 rfl <| Z.o1 rfl <| Z.r1 rfl (Rd.pick_f rfl rfl rfl) <| Z.m1 rfl <| Z.y1 rfl (Rd.row1 rfl C37 rfl h8 rfl) <| Z.y1 rfl (Rd.move rfl rfl) <| Z.y1 rfl (Rd.lookup M37 K9 rfl rfl rfl h9 rfl) ?_
  refine WL.say 17 (u := .bool (decide (s ∈ was))) rfl (h7.look s) ?_
  refine Z.y1 rfl (by exact Rd.notd rfl rfl) ?_
  refine Z.r1 rfl (Rd.pick_f rfl rfl rfl) <| Z.a1 rfl <| Z.n1 ?_
  refine WC.ret (Ret.one Tryz.results12 rfl ?_)
  simpa [staysB, *] using hk
set_option maxRecDepth 20000 in
theorem pick1_spec {R : List RO} {O : List Own} {POST : Value → List RO → List Own → Prop} {us them was : List (List UInt8)} {s : List UInt8} {bf b1 b2 b3 : Nat} (h : Asks b1 b2 b3 us them was O)
 (hf : rowC bf 44 [.func (.func 12) #[] #[.pointer (some ⟨b1, 0, none⟩), .pointer (some ⟨b2, 0, none⟩), .pointer (some ⟨b3, 0, none⟩)]] ∈ O)
 (hk : POST (.bool (!staysB us them was s)) R O) : Fun Tryz.prog 29 #[vs s, .pointer (some ⟨bf, 0, none⟩)] R O POST := by
 refine Fun.enter (l := [_, _]) Tryz.func29 rfl Tryz.ntmps29 rfl (L0 := [(0, _), (1, _)]) rfl ?_
 refine Z.s1 <| Z.a1 rfl <| Z.q1 <| Z.r1 rfl (Rd.row1 rfl C44 rfl hf rfl) <| Z.m1 rfl ?_
 refine WL.op rfl ?_
 refine OpW.call rfl rfl Z.E Z.K rfl rfl rfl ?_
 refine stays_spec h ?_
 refine Z.r1 rfl (by exact Rd.notd rfl rfl) ?_
 refine Z.a1 rfl <| Z.n1 ?_
 refine WC.ret (Ret.one Tryz.results29 rfl ?_)
 rw [staysB, ← decide_not] at hk
 exact hk
set_option maxRecDepth 20000 in
theorem find_spec {R : List RO} {O : List Own} {POST : Value → List RO → List Own → Prop} {us them was xs : List (List UInt8)} {v : Value} {bf b1 b2 b3 : Nat} (h : Asks b1 b2 b3 us them was O)
 (hf : rowC bf 44 [.func (.func 12) #[] #[.pointer (some ⟨b1, 0, none⟩), .pointer (some ⟨b2, 0, none⟩), .pointer (some ⟨b3, 0, none⟩)]] ∈ O)
 (hx : accC 9 1 (SL.one vs) v xs ∈ O) (hl : xs.length ≤ 4294967296)
 (hk1 : ∀ i : Nat, i < xs.length → (∀ j, j < i → staysB us them was xs[j]! = true) → staysB us them was xs[i]! = false → POST (.int .i64 i) R O)
 (hk2 : (∀ j, j < xs.length → staysB us them was xs[j]! = true) → POST (.int .i64 (-1)) R O) : Fun Tryz.prog 53 #[v, .func (.func 29) #[] #[.pointer (some ⟨bf, 0, none⟩)]] R O POST := by
 refine Fun.enter (l := [_, _]) Tryz.func53 rfl Tryz.ntmps53 rfl (L0 := [(0, _), (1, _)]) rfl ?_
 refine Z.s1 <| Z.a1 rfl <| Z.n1 <| Z.s2 <| Z.m1 rfl <| Z.r1 rfl (Rd.lenA rfl rfl Tryz.underlying24 hx) <| Z.m1 rfl <| Z.n1 ?_
 refine WC.block ?_
 refine WC.pick [8, 0, 1, 7] Z.P ?_
 refine WC.loop1o 1 (fun (i : Nat) => [(8, .int .i64 (i : Int))]) (fun (i : Nat) => i ≤ xs.length ∧ ∀ j, j < i → staysB us them was xs[j]! = true) (fun (i : Nat) => xs.length - i) (0) Z.L ?hinv1 (by repeat (first | exact Sub.nil | refine Sub.cons rfl (by rfl) ?_)) (fun _ h => h) ?_
 case hinv1 =>
  exact ⟨Nat.zero_le _, fun j hj => absurd hj (Nat.not_lt_zero _)⟩
 intro i
 rintro ⟨i1, i2⟩
 refine Z.s1 <| Z.r1 rfl (Rd.lss rfl rfl rfl) <| Z.n1 ?_
 refine WC.seq ?_
 refine WC.ite rfl (fun hc1 => ?_) (fun hc1 => ?_)
 ·
  refine WC.skip ?_
  refine thenQ.normal ?_
  refine WC.seq ?_
  refine WC.block ?_
  refine Z.s1 <| Z.m1 rfl <| Z.a1 rfl <| Z.q1 <| Z.m1 rfl <| Z.m1 rfl <| Z.m1 rfl <| Z.r1 rfl (Rd.idxA1 (k := i) rfl S24 rfl rfl rfl hx Z.W) ?_
  refine Z.r1 rfl (Rd.getA (k := i) rfl C9 rfl hx (get!_of_lt Z.W)) ?_
  refine WL.op rfl ?_
  refine OpW.call rfl rfl Z.E Z.K rfl rfl rfl ?_
  refine pick1_spec h hf ?_
  refine Z.n1 ?_
  refine WC.cond rfl (fun hc2 => ?_) (fun hc2 => ?_)
  ·
   refine Z.s1 <| Z.m1 rfl <| Z.a1 rfl <| Z.n1 ?_
   refine WC.ret (Ret.one Tryz.results53 rfl ?_)
   exact hk1 i Z.W i2 (by simpa using hc2)
  ·
   refine WC.skip ?_
   refine blockQ.normal ?_
   refine thenQ.normal ?_
   refine WC.region ?_
   refine Z.r1 rfl (Rd.add rfl rfl rfl Z.W) ?_
   refine Z.m1 rfl ?_
   refine WL.nil ?_
   exact loopQ1.mk (i + 1) ⟨by omega, fun j hj => by
   rcases Nat.lt_or_ge j i with h | h
   · exact i2 j h
   · obtain rfl : j = i := by omega
     simpa using hc2⟩ Z.W (by repeat (first | exact Sub.nil | refine Sub.cons rfl (by rfl) ?_)) Z.F
 ·
  refine WC.exit ?_
  refine thenQ.exit ?_
  refine loopQ1.exit ?_
  refine blockQ.exit ?_
  refine thenQ.normal ?_
  refine Z.s1 <| Z.a1 rfl <| Z.n1 ?_
  refine WC.ret (Ret.one Tryz.results53 rfl ?_)
  exact hk2 fun j hj => i2 j Z.W
end Go.Proofs.YtnjfgcpmcjmddaaGreatDoor.Ld
namespace Go.Proofs.YtnjfgcpmcjmddaaGreatDoor.Ld
open Go Go.SL
theorem find2_spec {R : List RO} {O : List Own} {POST : Value → List RO → List Own → Prop} {us them was xs : List (List UInt8)} {v : Value} {bf b1 b2 b3 : Nat} (h : Asks b1 b2 b3 us them was O)
 (hf : rowC bf 44 [.func (.func 12) #[] #[.pointer (some ⟨b1, 0, none⟩), .pointer (some ⟨b2, 0, none⟩), .pointer (some ⟨b3, 0, none⟩)]] ∈ O)
 (hx : accC 9 1 (SL.one vs) v xs ∈ O) (hl : xs.length ≤ 4294967296)
 (hk : ∀ k : Int, ((k = -1 ∧ ∀ j, j < xs.length → staysB us them was xs[j]! = true) ∨ ∃ i : Nat, k = i ∧ i < xs.length ∧ (∀ j, j < i → staysB us them was xs[j]! = true) ∧ staysB us them was xs[i]! = false) → POST (.int .i64 k) R O) :
 Fun Tryz.prog 53 #[v, .func (.func 29) #[] #[.pointer (some ⟨bf, 0, none⟩)]] R O POST :=
 find_spec h hf hx hl (fun i h1 h2 h3 => hk i (.inr ⟨i, rfl, h1, h2, h3⟩)) (fun h1 => hk (-1) (.inl ⟨rfl, h1⟩))
theorem filter_all {p : List UInt8 → Bool} {xs : List (List UInt8)} (h : ∀ j, j < xs.length → p xs[j]! = true) : xs.filter p = xs := by
 rw [List.filter_eq_self]
 intro a ha
 obtain ⟨j, hj, rfl⟩ := List.getElem_of_mem ha
 have := h j hj
 rwa [getElem!_pos xs j hj] at this
theorem filter_next (p : List UInt8 → Bool) {xs : List (List UInt8)} {j : Nat} (h : j < xs.length) : (xs.take (j + 1)).filter p = (xs.take j).filter p ++ if p xs[j]! then [xs[j]!] else [] := by
 rw [List.take_add_one, get!_of_lt h, List.filter_append]
 simp only [Option.toList_some, List.filter_cons, List.filter_nil]
theorem drop_at {ys xs : List (List UInt8)} {j : Nat} (hl : ys.length = xs.length) (hj : j < xs.length) (h : ys.drop j = xs.drop j) : ys[j]! = xs[j]! ∧ ys.drop (j + 1) = xs.drop (j + 1) := by
 rw [drop_get (l := ys) Z.W, drop_get hj, List.cons.injEq] at h
 exact h
set_option maxRecDepth 20000 in
set_option maxHeartbeats 1000000 in
theorem delete_spec {R : List RO} {O : List Own} {POST : Value → List RO → List Own → Prop} {us them was xs : List (List UInt8)} {v : Value} {bf b1 b2 b3 : Nat} (h : Asks b1 b2 b3 us them was O)
 (hf : rowC bf 44 [.func (.func 12) #[] #[.pointer (some ⟨b1, 0, none⟩), .pointer (some ⟨b2, 0, none⟩), .pointer (some ⟨b3, 0, none⟩)]] ∈ O)
 (hl : xs.length ≤ 4294967296) (hv : OneV v)
 (hk : ∀ u, POST u R (accC 9 1 (SL.one vs) u (xs.filter (staysB us them was)) :: O)) : Fun Tryz.prog 28 #[v, .func (.func 29) #[] #[.pointer (some ⟨bf, 0, none⟩)]] R (accC 9 1 (SL.one vs) v xs :: O) POST := by
 obtain ⟨p, hp⟩ : ∃ p, p = staysB us them was := ⟨_, rfl⟩
 refine Fun.enter (l := [_, _]) Tryz.func28 rfl Tryz.ntmps28 rfl (L0 := [(0, _), (1, _)]) rfl ?_
 refine Z.s1 <| Z.a1 rfl <| Z.q1 <| Z.m1 rfl <| Z.m1 rfl ?_
 refine WL.op rfl ?_
 refine OpW.call rfl rfl Z.E Z.K rfl rfl rfl ?_
 refine find2_spec (h.mono fun c hc => List.mem_cons_of_mem _ hc) (List.mem_cons_of_mem _ hf) List.mem_cons_self hl ?_; intro k hk10
 refine Z.a1 rfl <| Z.n1 <| Z.s2 <| Z.m1 rfl <| Z.r1 rfl (Rd.eql rfl rfl rfl) <| Z.n1 ?_
 refine WC.ite rfl (fun hc1 => ?_) (fun hc1 => ?_)
 ·
  refine Z.s1 <| Z.m1 rfl <| Z.a1 rfl <| Z.n1 ?_
  refine WC.ret (Ret.one Tryz.results28 rfl ?_)
  have e : xs.filter (staysB us them was) = xs := by
   rcases hk10 with ⟨_, h1⟩ | ⟨i, rfl, _⟩
   · exact filter_all h1
   · omega
  have hk' := hk v
  rw [e] at hk'
  exact hk'
 ·
  obtain ⟨i0, rfl, h1, h2, h3⟩ : ∃ i : Nat, k = i ∧ i < xs.length ∧ (∀ j, j < i → staysB us them was xs[j]! = true) ∧ staysB us them was xs[i]! = false := by
   rcases hk10 with ⟨h1, _⟩ | h1
   · exact absurd h1 hc1
   · exact h1
  have hf0 : (xs.take (i0 + 1)).filter p = xs.take i0 := by
   rw [filter_next p h1, hp, h3, filter_all (xs := xs.take i0) (fun j hj => by
    rw [List.length_take] at hj
    have := h2 j Z.W
    rwa [getElem!_pos _ _ (by rw [List.length_take]; omega), List.getElem_take, ← getElem!_pos xs j Z.W])]
   simp
  refine WC.skip ?_
  refine thenQ.normal ?_
  refine Z.s2 <| Z.m1 rfl <| Z.r1 rfl (Rd.add rfl rfl rfl Z.W) ?_
  refine Z.a1 rfl <| Z.n1 ?_
  refine WC.block ?_
  refine WC.pick [5, 6, 0, 1] Z.P ?_
  refine WC.loop3 2 (fun (i : Nat) (j : Nat) (ys : List (List UInt8)) => [(5, .int .i64 (i : Int)), (6, .int .i64 (j : Int))]) (fun (i : Nat) (j : Nat) (ys : List (List UInt8)) => accC 9 1 (SL.one vs) v ys :: O) (fun (i : Nat) (j : Nat) (ys : List (List UInt8)) => i < j ∧ j ≤ xs.length ∧ ys.length = xs.length ∧ ys.take i = (xs.take j).filter p ∧ ys.drop j = xs.drop j) (fun (i : Nat) (j : Nat) (ys : List (List UInt8)) => xs.length - j) (i0) (i0 + 1) (xs) Z.L ?hinv1 (by repeat (first | exact Sub.nil | refine Sub.cons rfl (by rfl) ?_)) (fun _ h => h) ?_
  case hinv1 =>
   exact ⟨by omega, by omega, rfl, hf0.symm, rfl⟩
  intro i j ys
  rintro ⟨i1, i2, i3, i4, i5⟩
  refine Z.s2 <| Z.m1 rfl <| Z.m1 rfl <| Z.r1 rfl (Rd.lenA rfl rfl Tryz.underlying24 List.mem_cons_self) <| Z.r1 rfl (Rd.lss rfl rfl rfl) <| Z.n1 ?_
  refine WC.ite rfl (fun hc2 => ?_) (fun hc2 => ?_)
  ·
   obtain ⟨d1, d2⟩ := drop_at i3 Z.W i5
   have hfn := filter_next p (xs := xs) (j := j) Z.W
   refine WC.skip ?_
   refine thenQ.normal ?_
   refine WC.seq ?_
   refine WC.block ?_
   refine Z.s1 <| Z.m1 rfl <| Z.m1 rfl <| Z.r1 rfl (Rd.idxA1 (k := j) rfl S24 rfl rfl rfl List.mem_cons_self Z.W) ?_
   refine Z.r1 rfl (Rd.getA (k := j) rfl C9 rfl List.mem_cons_self (get!_of_lt Z.W)) ?_
   refine Z.a1 rfl <| Z.q1 <| Z.m1 rfl <| Z.m1 rfl ?_
   refine WL.op rfl ?_
   refine OpW.call rfl rfl Z.E Z.K rfl rfl rfl ?_
   refine pick1_spec (h.mono fun c hc => List.mem_cons_of_mem _ hc) (List.mem_cons_of_mem _ hf) ?_
   rw [← hp, d1]
   refine Z.r1 rfl (by exact Rd.not rfl rfl) ?_
   refine Z.n1 ?_
   refine WC.cond rfl (fun hc3 => ?_) (fun hc3 => ?_)
   ·
    refine Z.s1 <| Z.m1 rfl <| Z.m1 rfl <| Z.m1 rfl <| Z.r1 rfl (Rd.idxA1 (k := i) rfl S24 rfl rfl rfl List.mem_cons_self Z.W) ?_
    refine WL.op rfl ?_
    refine OpW.storeAcc (k := i) (a := xs[j]!) rfl Z9 rfl rfl rfl rfl (Take.head _) Z.W rfl ?_
    refine Z.g1 <| Z.m1 rfl <| Z.r1 rfl (Rd.add rfl rfl rfl Z.W) ?_
    refine Z.a1 rfl ?_
    refine WL.nil ?_
    refine blockQ.normal ?_
    refine thenQ.normal ?_
    refine WC.region ?_
    refine Z.m1 rfl <| Z.r1 rfl (Rd.add rfl rfl rfl Z.W) ?_
    refine Z.a1 rfl ?_
    refine WL.nil ?_
    exact loopQ3.mk (i + 1) (j + 1) (ys.set i xs[j]!) ⟨by omega, by omega, by rw [List.length_set, i3], by
    rw [List.take_add_one, List.take_set_of_le (Nat.le_refl _), i4, hfn, if_pos (by simpa using hc3), List.getElem?_set_self Z.W]; rfl, by
    rw [List.drop_set_of_lt Z.W, d2]⟩ Z.W (by repeat (first | exact Sub.nil | refine Sub.cons rfl (by rfl) ?_)) Z.F
   ·
    refine WC.skip ?_
    refine blockQ.normal ?_
    refine thenQ.normal ?_
    refine WC.region ?_
    refine Z.m1 rfl <| Z.r1 rfl (Rd.add rfl rfl rfl Z.W) ?_
    refine Z.a1 rfl ?_
    refine WL.nil ?_
    exact loopQ3.mk i (j + 1) ys ⟨by omega, by omega, i3, by rw [i4, hfn, if_neg (by simpa using hc3), List.append_nil], d2⟩ Z.W (by repeat (first | exact Sub.nil | refine Sub.cons rfl (by rfl) ?_)) Z.F
  ·
   refine WC.exit ?_
   refine thenQ.exit ?_
   refine loopQ3.exit ?_
   refine blockQ.exit ?_
   refine thenQ.normal ?_
   refine Z.s1 <| Z.m1 rfl <| Z.m1 rfl <| Z.r1 rfl (Rd.cutA_l (lo := i) rfl S24 rfl rfl rfl List.mem_cons_self Z.W) ?_
   refine WL.op rfl ?_
   refine OpW.clearAcc (a0 := []) rfl S24 rfl rfl rfl rfl rfl (Take.head _) Z.W rfl ?_
   refine Z.q1 <| Z.m1 rfl <| Z.m1 rfl <| Z.r1 rfl (Rd.cutA_h (hi := i) rfl S24 rfl rfl rfl List.mem_cons_self (by simp; omega)) ?_
   refine Z.a1 rfl <| Z.n1 ?_
   refine WC.heap (fun w h => Sat.cutAcc (enc := SL.one vs) (size := 1) (xs := ys.take i ++ List.replicate (ys.length - i) []) (hi := i) (Take.head _) (fun _ => rfl) (by simp; omega) h) ?_
   refine WC.ret (Ret.one Tryz.results28 rfl ?_)
   have e : (ys.take i ++ List.replicate (ys.length - i) []).take i = xs.filter (staysB us them was) := by
    rw [List.take_append_of_le_length (by rw [List.length_take]; omega), List.take_take, Nat.min_self, i4, List.take_of_length_le Z.W, hp]
   rw [e]
   exact hk _
set_option maxRecDepth 20000 in
theorem pick_spec {R : List RO} {O : List Own} {POST : Value → List RO → List Own → Prop} {us them was xs : List (List UInt8)} {av : Value} {b1 b2 b3 : Nat} (ha : SlE (SL.one vs) av xs ∈ R) (h : Asks b1 b2 b3 us them was O)
 (hl : xs.length ≤ 4294967296)
 (hk : ∀ u, POST u (SlE (SL.one vs) u (xs.filter (staysB us them was)) :: R) O) : Fun Tryz.prog 14 #[av, .func (.func 12) #[] #[.pointer (some ⟨b1, 0, none⟩), .pointer (some ⟨b2, 0, none⟩), .pointer (some ⟨b3, 0, none⟩)]] R O POST := by
 refine Fun.enter (l := [_, _]) Tryz.func14 rfl Tryz.ntmps14 rfl (L0 := [(0, _), (1, _)]) rfl ?_
 refine Z.s1 ?_
 refine WL.op rfl ?_
 refine OpW.box1 rfl rfl (by exact ⟨rfl, rfl⟩) rfl rfl ?_; intro b3
 refine Z.a1 rfl <| Z.q1 <| Z.m1 rfl ?_
 refine WL.op rfl ?_
 refine OpW.call rfl rfl Z.E Z.K rfl rfl rfl ?_
 refine clone_spec ha hl ?_; intro v6 hv6
 refine Z.r1 rfl (Rd.func rfl Z.E Z.E ⟨_, rfl⟩) ?_
 refine WL.op rfl ?_
 refine OpW.call rfl rfl Z.E Z.K rfl rfl rfl ?_
 refine delete_spec (h.mono fun c hc => List.mem_cons_of_mem _ hc) List.mem_cons_self hl hv6 ?_; intro u
 refine Z.a1 rfl <| Z.n1 ?_
 refine WC.heap (fun w hh => Sat.shareA (Take.head _) hh) ?_
 refine WC.heap (R' := SlE (SL.one vs) u (xs.filter (staysB us them was)) :: R) (O' := O) Z.F ?_
 refine WC.ret (Ret.one Tryz.results14 rfl ?_)
 exact hk u
end Go.Proofs.YtnjfgcpmcjmddaaGreatDoor.Ld
namespace Go.Proofs.YtnjfgcpmcjmddaaGreatDoor.Ld
open Go Go.SL
def shufE : List (List UInt8) → List (List UInt8) → List (List UInt8) → List (List UInt8) × Option (List UInt8 × List UInt8)
 | [], y, out => (out ++ y, none)
 | a :: x, [], out => (out ++ (a :: x), none)
 | a :: x, b :: y, out =>
   if a = b then shufE x y (out ++ [a])
   else if a ∉ b :: y then shufE x (b :: y) (out ++ [a])
   else if b ∉ a :: x then shufE (a :: x) y (out ++ [b])
   else ([], some (a, b))
termination_by x y => x.length + y.length
theorem SetOf.del {m : GoMap (List UInt8) Bool} {a : List UInt8} {x : List (List UInt8)} (h : SetOf m (a :: x)) (hn : (a :: x).Nodup) : SetOf (m.del a) x := by
 intro s
 rw [GoMap.get_del, h s]
 have h1 : a ∉ x := (List.nodup_cons.1 hn).1
 by_cases e : s = a
 · subst e; rw [if_pos rfl, if_neg h1]
 · rw [if_neg e]
   have : (s ∈ a :: x) ↔ s ∈ x := by simp [e]
   simp only [this]
end Go.Proofs.YtnjfgcpmcjmddaaGreatDoor.Ld
namespace Go.SL
open Go
section
variable {P : Program} {n : Sz} {o : Oper} {L : Env} {R : List RO} {O O' : List Own} {K : Env → List RO → List Own → Prop} {t tx e : TypeId} {x y : Operand} {z : Value} {α : Type} {g : α → Value} {bytes : Nat}
theorem Rd.capSl {ad : Option Addr} {m cp : Nat} (ho : o.op = .call { callee := .builtin .cap, args := #[x], argTypes := #[t] }) (hx : ev L x = some (.slice ad m cp)) (hT : P.underlying t = some (.slice e)) : Rd P o L R O (.int .i64 cp) := fun ρ w hρ _ _ => by
 simp [execOp, ho, resolve, invoke, builtin, hρ _ _ hx, Builtin.cap_, run_underlying hT, goInt]
theorem zeroCells_one {v : Value} (hv : v.cells = #[v]) (m : Nat) : (Builtin.zeroCells v.cells m).toList = List.replicate m v := by
 rw [hv]
 simp only [Builtin.zeroCells]
 apply List.ext_getElem
 · simp
 · intro i h1 h2
   simp [Nat.mod_one]
theorem acc_oneV {enc : α → List Value} {xs : List α} {size : Nat} {v : Value} {w : World} (h : (accC e size enc v xs).pred w) : OneV v := by
 rcases h.2 with ⟨rfl, _⟩ | ⟨g, cap, cur, rfl, _⟩ <;> exact OneV.sl
theorem OpW.zerosNil {d m : Nat} {kd kn : IntKind} {p : Int} {a0 : α} (ho : o.op = .call { callee := .builtin .append, args := #[x, y], argTypes := #[t, tx] }) (hT : SlT P t e 1 bytes z) (hz : z = g a0) (hzc : (g a0).cells = #[g a0]) (htx : P.underlying tx = some (.int kn))
 (hx : ev L x = some (.slice none 0 0)) (hy : ev L y = some (.int kd p)) (hp : p = (m : Int)) (hm : 0 < m) (hroom : Room m bytes) (hd : o.dst = some d) (hn : Nat.blt d n.n = true)
 (k : ∀ v', OneV v' → K ((d, v') :: L) R (accC e 1 (one g) v' (List.replicate m a0) :: O)) : OpW P n o L R O K := by
 intro ac w hf hs Q
 obtain ⟨i, hi, hz0, hsize, hby⟩ := hT.info
 subst hby; subst hp
 have hroom1 : m ≤ 9223372036854775807 := hroom.1
 have hr := Lib.run_append_grow_zeros (P := P) w t tx o.type e i z kd kn hT.under htx hi hz0 none 0 0 [] (by simp [Builtin.firstCells]) m hm Z.W Z.W (by have := hroom1; omega) (by have := hroom.2; omega) (growslice_fits Z.W (by simpa using hroom.2))
 simp only [Nat.zero_add] at hr
 have hr' : (execOp ac.eval o).run P w = .ok (.value (.slice (some ⟨w.heap.size, 0, none⟩) m (grownCap w m 0 e))) (w.drew.alloc (.cells (([] : List Value).toArray ++ Builtin.zeroCells z.cells m ++ Builtin.zeroCells z.cells (grownCap w m 0 e - m)) e)) := by
  simp only [execOp, ho, resolve, invoke, builtin, hf.ev hx, hf.ev hy, Sem.run_bind, Sem.run_pure, Result.andThen_ok, List.map_toArray, List.map_cons, List.map_nil, hr]
 unfold Oper.wp
 rw [hr', Oper.upon_value, hd]
 refine ⟨_, _, _, k _ OneV.sl, hf.put hn _, (hs.drew _).alloc _ _ rfl (fun w'' h _ => ?_)⟩
 show w''.ownsRow 0 e 1 _ _ _
 rw [List.length_replicate]
 refine ⟨by rw [flat_one]; simp, .inr ⟨w.heap.size, _, _, rfl, Nat.zero_le _, h, grownCap_ge w m 0 e, grownCap_le_maxLen w m 0 e hroom.1, ?_, ?_⟩⟩
 · have hge := grownCap_ge w m 0 e
   simp only [Array.size_append, List.size_toArray, size_zeroCells, hT.zsize, List.length_nil]
   omega
 · subst hz
   rw [Array.toList_append, Array.toList_append, zeroCells_one hzc, zeroCells_one hzc, flat_one, List.map_replicate]
   simp
end
end Go.SL
namespace Go.Proofs.YtnjfgcpmcjmddaaGreatDoor.Ld
open Go Go.SL
set_option maxRecDepth 20000 in
theorem grow_spec {R : List RO} {O : List Own} {POST : Value → List RO → List Own → Prop} {m : Nat} (hm : m ≤ 1099511627776)
 (hk : ∀ v, OneV v → POST v R (accC 9 1 (SL.one vs) v [] :: O)) : Fun Tryz.prog 52 #[.slice none 0 0, .int .i64 (m : Int)] R O POST := by
 refine Fun.enter (l := [_, _]) Tryz.func52 rfl Tryz.ntmps52 rfl (L0 := [(0, _), (1, _)]) rfl ?_
 refine Z.s1 <| Z.a1 rfl <| Z.n1 <| Z.s2 <| Z.m1 rfl <| Z.r1 rfl (Rd.lss rfl rfl rfl) <| Z.n1 ?_
 refine WC.ite rfl (fun hc1 => ?_) (fun hc1 => ?_)
 ·
  omega
 ·
  refine WC.skip ?_
  refine thenQ.normal ?_
  refine Z.s2 <| Z.m1 rfl <| Z.m1 rfl <| Z.r1 rfl (Rd.capSl rfl rfl Tryz.underlying24) <| Z.m1 rfl <| Z.r1 rfl (by exact Rd.len rfl rfl Tryz.underlying24) ?_
  refine Z.r1 rfl (Rd.sub rfl rfl rfl Z.W) ?_
  refine Z.r1 rfl (Rd.sub rfl rfl rfl Z.W) ?_
  refine Z.a1 rfl <| Z.q1 <| Z.m1 rfl <| Z.r1 rfl (Rd.gtr rfl rfl rfl) <| Z.n1 ?_
  refine WC.ite rfl (fun hc2 => ?_) (fun hc2 => ?_)
  ·
   refine WC.heap (fun w h => h.nilE (α := List UInt8) (enc := SL.one vs)) ?_
   refine WC.region ?_
   refine Z.m1 rfl <| Z.m1 rfl <| Z.r1 rfl (Rd.capSl rfl rfl Tryz.underlying24) <| Z.r1 rfl (Rd.cut_h (hi := 0) rfl S24 rfl rfl rfl List.mem_cons_self (by simp)) ?_
   refine Z.m1 rfl ?_
   refine WL.op rfl ?_
   refine OpW.zerosNil (g := vs) (m := m) (a0 := []) rfl S24 rfl rfl Tryz.underlying3 rfl rfl Z.W Z.W (by exact ⟨by simp only [maxLen, List.length_append, List.length_nil, List.length_cons, List.length_drop, List.length_take, List.length_map]; omega, by omega⟩) rfl rfl ?_; intro v22 hv22
   refine Z.m1 rfl <| Z.r1 rfl (by exact Rd.lenE rfl rfl Tryz.underlying24 Z.M) ?_
   refine Z.r1 rfl (Rd.cutA_h (hi := 0) rfl S24 rfl rfl rfl List.mem_cons_self (by simp)) ?_
   refine Z.a1 rfl <| Z.q1 <| Z.m1 rfl <| Z.a1 rfl <| Z.n1 ?_
   refine WC.heap (fun w h => Sat.cutAcc (enc := SL.one vs) (size := 1) (xs := List.replicate m []) (hi := 0) (Take.head _) (fun _ => rfl) (Nat.zero_le _) h) ?_
   refine WC.heap (R' := R) (O' := accC 9 1 (SL.one vs) (subSl v22 1 0 0) [] :: O) Z.F ?_
   refine WC.knowO (φ := OneV (subSl v22 1 0 0)) List.mem_cons_self (fun w hp => acc_oneV hp) fun hv23 => ?_
   refine WC.ret (Ret.one Tryz.results52 rfl ?_)
   exact hk _ hv23
  ·
   refine WC.skip ?_
   refine thenQ.normal ?_
   refine Z.s1 <| Z.m1 rfl <| Z.a1 rfl <| Z.n1 ?_
   refine WC.heap (fun w h => h.accNil (α := List UInt8) (e := 9) (size := 1) (enc := SL.one vs)) ?_
   refine WC.ret (Ret.one Tryz.results52 rfl ?_)
   exact hk _ OneV.sl
theorem flat_next (ll : List (List (List UInt8))) {i : Nat} (h : i < ll.length) : (ll.take (i + 1)).flatten = (ll.take i).flatten ++ ll[i]! := by
 rw [List.take_add_one, get!_of_lt h, List.flatten_append]; simp
theorem flat_le (ll : List (List (List UInt8))) (i : Nat) : (ll.take i).flatten.length ≤ ll.flatten.length := by
 conv => rhs; rw [← List.take_append_drop i ll, List.flatten_append, List.length_append]
 omega
set_option maxRecDepth 20000 in
set_option maxHeartbeats 1000000 in
theorem concat_spec {R : List RO} {O : List Own} {POST : Value → List RO → List Own → Prop} {vsl : List Value} {ll : List (List (List UInt8))} {lv : Value} (hl : SlE (SL.one vid) lv vsl ∈ R) (hL : ListsOf vsl ll R)
 (hsz : ll.flatten.length ≤ 1099511627776)
 (hk : ∀ v, OneV v → POST v R (accC 9 1 (SL.one vs) v ll.flatten :: O)) : Fun Tryz.prog 27 #[lv] R O POST := by
 refine Fun.len hl fun hll => ?_
 obtain ⟨hL1, hL2⟩ := hL
 refine Fun.enter (l := [_]) Tryz.func27 rfl Tryz.ntmps27 rfl (L0 := [(0, _)]) rfl ?_
 refine Z.s1 <| Z.a1 rfl <| Z.q1 <| Z.a1 rfl <| Z.n1 <| Z.s2 <| Z.m1 rfl <| Z.r1 rfl (by exact Rd.lenE rfl rfl Tryz.underlying68 Z.M) ?_
 refine Z.m1 rfl <| Z.n1 ?_
 refine WC.block ?_
 refine WC.pick [11, 3, 0, 9, 10] Z.P ?_
 refine WC.loop1o 2 (fun (i : Nat) => [(11, .int .i64 (i : Int)), (3, .int .i64 (((ll.take i).flatten.length : Nat) : Int))]) (fun (i : Nat) => i ≤ vsl.length) (fun (i : Nat) => vsl.length - i) (0) Z.L ?hinv1 (by repeat (first | exact Sub.nil | refine Sub.cons rfl (by rfl) ?_)) (fun _ h => h) ?_
 case hinv1 =>
  exact Nat.zero_le _
 intro i
 rintro i1
 have hfi := flat_le ll i
 refine Z.s1 <| Z.r1 rfl (Rd.lss rfl rfl rfl) <| Z.n1 ?_
 refine WC.seq ?_
 refine WC.ite rfl (fun hc1 => ?_) (fun hc1 => ?_)
 ·
  have hfn := congrArg List.length (flat_next ll (i := i) Z.W)
  have hfi1 := flat_le ll (i + 1)
  rw [List.length_append] at hfn
  refine WC.skip ?_
  refine thenQ.normal ?_
  refine WC.seq ?_
  refine WC.block ?_
  refine Z.s1 <| Z.r1 rfl (by exact Rd.idx1 (k := i) rfl S68 rfl rfl Z.W Z.M Z.W) ?_
  refine Z.r1 rfl (Rd.get (xs := vsl) (k := i) rfl C24 rfl hl (get!_of_lt Z.W)) ?_
  refine Z.a1 rfl <| Z.q1 <| Z.m1 rfl <| Z.m1 rfl <| Z.r1 rfl (Rd.lenE rfl rfl Tryz.underlying24 (hL2 i Z.W)) ?_
  refine Z.r1 rfl (Rd.add rfl rfl rfl Z.W) ?_
  refine Z.a1 rfl <| Z.q1 <| Z.m1 rfl <| Z.r1 rfl (Rd.lss rfl rfl rfl) <| Z.n1 ?_
  refine WC.ite rfl (fun hc2 => ?_) (fun hc2 => ?_)
  ·
   omega
  ·
   refine WC.skip ?_
   refine blockQ.normal ?_
   refine thenQ.normal ?_
   refine WC.region ?_
   refine Z.r1 rfl (Rd.add rfl rfl rfl Z.W) ?_
   refine Z.m1 rfl ?_
   refine WL.nil ?_
   exact loopQ1.mk (i + 1) Z.W Z.W (by repeat (first | exact Sub.nil | refine Sub.cons rfl (by first | rfl | (congr 1; omega)) ?_)) Z.F
 ·
  refine WC.exit ?_
  refine thenQ.exit ?_
  refine loopQ1.exit ?_
  refine blockQ.exit ?_
  refine thenQ.normal ?_
  refine Z.s1 <| Z.m1 rfl ?_
  refine WL.op rfl ?_
  refine OpW.call rfl rfl Z.E Z.K rfl rfl rfl ?_
  refine grow_spec (by have := flat_le ll i; omega) ?_; intro v24 hv24
  refine Z.a1 rfl <| Z.n1 <| Z.s2 <| Z.m1 rfl <| Z.r1 rfl (by exact Rd.lenE rfl rfl Tryz.underlying68 Z.M) ?_
  refine Z.m1 rfl <| Z.n1 ?_
  refine WC.block ?_
  refine WC.pick [27, 6, 25, 26] Z.P ?_
  refine WC.loop2 2 (fun (i : Nat) (u : Value) => [(27, .int .i64 (i : Int)), (6, u)]) (fun (i : Nat) (u : Value) => accC 9 1 (SL.one vs) u (ll.take i).flatten :: O) (fun (i : Nat) (u : Value) => i ≤ vsl.length ∧ OneV u) (fun (i : Nat) (u : Value) => vsl.length - i) (0) (v24) Z.L ?hinv2 (by repeat (first | exact Sub.nil | refine Sub.cons rfl (by rfl) ?_)) (fun _ h => h) ?_
  case hinv2 =>
   exact ⟨Nat.zero_le _, hv24⟩
  intro i u
  rintro ⟨i1, i2⟩
  refine Z.s1 <| Z.r1 rfl (Rd.lss rfl rfl rfl) <| Z.n1 ?_
  refine WC.seq ?_
  refine WC.ite rfl (fun hc3 => ?_) (fun hc3 => ?_)
  ·
   have hfn := flat_next ll (i := i) Z.W
   have hfn2 := congrArg List.length hfn
   have hfi1 := flat_le ll (i + 1)
   rw [List.length_append] at hfn2
   refine WC.skip ?_
   refine thenQ.normal ?_
   refine WC.seq ?_
   refine WC.block ?_
   refine Z.s1 <| Z.r1 rfl (by exact Rd.idx1 (k := i) rfl S68 rfl rfl Z.W Z.M Z.W) ?_
   refine Z.r1 rfl (Rd.get (xs := vsl) (k := i) rfl C24 rfl hl (get!_of_lt Z.W)) ?_
   refine Z.a1 rfl <| Z.g1 <| Z.m1 rfl <| Z.m1 rfl ?_
   refine WL.op rfl ?_
   refine OpW.appendE rfl S24 Tryz.underlying24 rfl rfl Z.T (hL2 i Z.W) (fun _ => rfl) (fun _ => rfl) (by exact ⟨by simp only [maxLen, List.length_append, List.length_nil, List.length_cons, List.length_drop, List.length_take, List.length_map]; omega, by omega⟩) rfl rfl ?_; intro v33 hv33
   refine Z.a1 rfl ?_
   refine WL.nil ?_
   refine blockQ.normal ?_
   refine thenQ.normal ?_
   refine WC.region ?_
   refine Z.r1 rfl (Rd.add rfl rfl rfl Z.W) ?_
   refine Z.m1 rfl ?_
   refine WL.nil ?_
   exact loopQ2.mk (i + 1) v33 ⟨by omega, hv33⟩ Z.W (by repeat (first | exact Sub.nil | refine Sub.cons rfl (by rfl) ?_)) (fun w h => by rw [← hfn] at h; exact h)
  ·
   refine WC.exit ?_
   refine thenQ.exit ?_
   refine loopQ2.exit ?_
   refine blockQ.exit ?_
   refine thenQ.normal ?_
   refine Z.s1 <| Z.m1 rfl <| Z.a1 rfl <| Z.n1 ?_
   refine WC.heap (R' := R) (O' := accC 9 1 (SL.one vs) u ll.flatten :: O) (fun w h => by rw [List.take_of_length_le Z.W] at h; exact Z.Fw h) ?_
   refine WC.ret (Ret.one Tryz.results27 rfl ?_)
   exact hk u i2
end Go.Proofs.YtnjfgcpmcjmddaaGreatDoor.Ld
namespace Go.Proofs.YtnjfgcpmcjmddaaGreatDoor.Ld
open Go Go.SL
theorem lists3 {R : List RO} {u v w : Value} {a b c : List (List UInt8)} (h1 : SlE (SL.one vs) u a ∈ R) (h2 : SlE (SL.one vs) v b ∈ R) (h3 : SlE (SL.one vs) w c ∈ R) : ListsOf [u, v, w] [a, b, c] R := by
 refine ⟨rfl, fun j hj => ?_⟩
 match j, hj with
 | 0, _ => exact h1
 | 1, _ => exact h2
 | 2, _ => exact h3
set_option maxRecDepth 20000 in
set_option maxHeartbeats 2000000 in
theorem shuffle_spec {R : List RO} {O : List Own} {POST : Value → List RO → List Own → Prop} {xs ys : List (List UInt8)} {av bv : Value} (ha : SlE (SL.one vs) av xs ∈ R) (hb : SlE (SL.one vs) bv ys ∈ R) (hnx : xs.Nodup) (hny : ys.Nodup)
 (hlx : xs.length ≤ 4294967296) (hly : ys.length ≤ 4294967296)
 (hk1 : ∀ r v, shufE xs ys [] = (r, none) → POST (.tuple #[v, .slice none 0 0]) (SlE (SL.one vs) v r :: R) O)
 (hk2 : ∀ a b v, shufE xs ys [] = ([], some (a, b)) → POST (.tuple #[.slice none 0 0, v]) (SlE (SL.one vs) v [a, b] :: R) O) : Fun Tryz.prog 13 #[av, bv] R O POST := by
 refine Fun.enter (l := [_, _]) Tryz.func13 rfl Tryz.ntmps13 rfl (L0 := [(0, _), (1, _)]) rfl ?_
 refine Z.s1 <| Z.a1 rfl <| Z.a1 rfl <| Z.q1 <| Z.m1 rfl ?_
 refine WL.op rfl ?_
 refine OpW.call rfl rfl Z.E Z.K rfl rfl rfl ?_
 refine set_spec ha (fun _ bA mA0 hA0 => ?_) (fun hn => absurd hnx hn)
 refine Z.m1 rfl <| Z.x1 rfl <| Z.x1 rfl <| Z.a1 rfl <| Z.a1 rfl <| Z.q1 <| Z.m1 rfl ?_
 refine WL.op rfl ?_
 refine OpW.call rfl rfl Z.E Z.K rfl rfl rfl ?_
 refine set_spec hb (fun _ bB mB0 hB0 => ?_) (fun hn => absurd hny hn)
 refine Z.m1 rfl <| Z.x1 rfl <| Z.x1 rfl <| Z.a1 rfl <| Z.a1 rfl <| Z.q1 <| Z.a1 rfl <| Z.n1 ?_
 refine WC.seq ?_
 refine WC.block ?_
 refine WC.pick [0, 1, 10, 6, 8] Z.P ?_
 refine WC.loop7r 3 (fun (xv : Value) (yv : Value) (u : Value) (q : List (List UInt8) × List (List UInt8)) (out : List (List UInt8)) (mA : GoMap (List UInt8) Bool) (mB : GoMap (List UInt8) Bool) => [(0, xv), (1, yv), (10, u)]) (fun (xv : Value) (yv : Value) (u : Value) (q : List (List UInt8) × List (List UInt8)) (out : List (List UInt8)) (mA : GoMap (List UInt8) Bool) (mB : GoMap (List UInt8) Bool) => SlE (SL.one vs) xv q.1 :: SlE (SL.one vs) yv q.2 :: R) (fun (xv : Value) (yv : Value) (u : Value) (q : List (List UInt8) × List (List UInt8)) (out : List (List UInt8)) (mA : GoMap (List UInt8) Bool) (mB : GoMap (List UInt8) Bool) => accC 9 1 (SL.one vs) u out :: mapC vs vbl bA mA :: mapC vs vbl bB mB :: O) (fun (xv : Value) (yv : Value) (u : Value) (q : List (List UInt8) × List (List UInt8)) (out : List (List UInt8)) (mA : GoMap (List UInt8) Bool) (mB : GoMap (List UInt8) Bool) => q.1.Nodup ∧ q.2.Nodup ∧ SetOf mA q.1 ∧ SetOf mB q.2 ∧ shufE q.1 q.2 out = shufE xs ys [] ∧ out.length + q.1.length + q.2.length ≤ xs.length + ys.length ∧ OneV u) (fun (xv : Value) (yv : Value) (u : Value) (q : List (List UInt8) × List (List UInt8)) (out : List (List UInt8)) (mA : GoMap (List UInt8) Bool) (mB : GoMap (List UInt8) Bool) => q.1.length + q.2.length) (av) (bv) (.slice none 0 0) ((xs, ys)) ([]) (mA0) (mB0) Z.L ?hinv1 (by repeat (first | exact Sub.nil | refine Sub.cons rfl (by rfl) ?_)) (fun w h => by
 have h1 := h.accNil (α := List UInt8) (e := 9) (size := 1) (enc := SL.one vs)
 have h2 := h1.weaken hb (q := SlE (SL.one vs) bv ys) (fun w hp => hp)
 have h3 := h2.weaken (List.mem_cons_of_mem _ ha) (q := SlE (SL.one vs) av xs) (fun w hp => hp)
 exact Z.Fw h3) ?_
 case hinv1 =>
  exact ⟨hnx, hny, hA0, hB0, rfl, by simp, OneV.sl⟩
 intro xv yv u q out mA mB
 rintro ⟨i1, i2, i3, i4, i5, i6, i7⟩
 obtain ⟨x, y⟩ := q
 refine WC.seq ?_
 refine WC.pick [0, 1, 6, 8, 10] Z.P ?_
 refine WC.val 28 (.bool (decide (0 < x.length ∧ 0 < y.length))) ?_ ?_
 ·
  refine WC.region ?_
  refine Z.m1 rfl <| Z.r1 rfl (by exact Rd.lenE rfl rfl Tryz.underlying24 Z.M) ?_
  refine Z.r1 rfl (Rd.gtr rfl rfl rfl) <| Z.m1 rfl ?_
  refine WL.case 24 rfl (fun hg24 => ?_) (fun hg24 => ?_)
  ·
   refine Z.y1 rfl (Rd.move rfl rfl) <| Z.y1 rfl (by exact Rd.lenE rfl rfl Tryz.underlying24 Z.M) ?_
   refine Z.y1 rfl (Rd.gtr rfl rfl rfl) <| Z.r1 rfl (Rd.pick_t rfl rfl rfl) ?_
   refine WL.nil ?_
   exact ⟨by repeat (first | exact Sub.nil | refine Sub.cons rfl (by first | rfl | ((simp_all; done))) ?_), by exact (fun _ h => h.thin (SubL.mem Z.S))⟩
  ·
   refine Z.o1 rfl <| Z.o1 rfl <| Z.o1 rfl <| Z.r1 rfl (Rd.pick_f rfl rfl rfl) ?_
   refine WL.nil ?_
   exact ⟨by repeat (first | exact Sub.nil | refine Sub.cons rfl (by first | rfl | ((simp_all; done))) ?_), by exact (fun _ h => h.thin (SubL.mem Z.S))⟩
 ·
  refine WC.ite rfl (fun hc1 => ?_) (fun hc1 => ?_)
  ·
   obtain ⟨hc1a, hc1b⟩ := hc1
   obtain ⟨a, x, rfl⟩ : ∃ a x', x = a :: x' := by cases x with | nil => simp at hc1a | cons a x => exact ⟨a, x, rfl⟩
   obtain ⟨b, y, rfl⟩ : ∃ a x', y = a :: x' := by cases y with | nil => simp at hc1b | cons a x => exact ⟨a, x, rfl⟩
   dsimp only at i1 i2 i3 i4 i5 i6
   simp only [List.length_cons] at i6
   have hax : SlE (SL.one vs) xv (a :: x) ∈ SlE (SL.one vs) xv (a :: x) :: SlE (SL.one vs) yv (b :: y) :: R := List.mem_cons_self
   have hby : SlE (SL.one vs) yv (b :: y) ∈ SlE (SL.one vs) xv (a :: x) :: SlE (SL.one vs) yv (b :: y) :: R := List.mem_cons_of_mem _ List.mem_cons_self
   refine WC.heap (R' := SlE (SL.one vs) xv (a :: x) :: SlE (SL.one vs) yv (b :: y) :: R) (O' := accC 9 1 (SL.one vs) u out :: mapC vs vbl bA mA :: mapC vs vbl bB mB :: O) (fun w h => h) ?_
   refine WC.skip ?_
   refine thenQ.normal ?_
   refine WC.block ?_
   refine WC.block ?_
   refine WC.seq ?_
   refine WC.still mixed Z.K ?_
   refine Z.b1 rfl (Rd.move rfl rfl) <| Z.b1 rfl (Rd.idx1 (k := 0) rfl S24 rfl rfl rfl hax (by simp)) ?_
   refine Z.b1 rfl (Rd.get (k := 0) (a := a) rfl C9 rfl hax rfl) ?_
   refine Z.b1 rfl (Rd.move rfl rfl) <| Z.b1 rfl (Rd.idx1 (k := 0) rfl S24 rfl rfl rfl hby (by simp)) ?_
   refine Z.b1 rfl (Rd.get (k := 0) (a := b) rfl C9 rfl hby rfl) ?_
   refine Z.b1 rfl (Rd.seql rfl rfl rfl) <| Z.b1 rfl (Rd.assign rfl rfl) ?_
   refine WA.nil ?_
   refine thenQ.normal ?_
   refine WC.ite rfl (fun hc2 => ?_) (fun hc2 => ?_)
   ·
    refine Z.s1 <| Z.m1 rfl <| Z.m1 rfl <| Z.r1 rfl (Rd.idx1 (k := 0) rfl S24 rfl rfl rfl hax (by simp)) ?_
    refine Z.r1 rfl (Rd.get (k := 0) (a := a) rfl C9 rfl hax rfl) ?_
    refine WL.op rfl ?_
    refine OpW.buildSl (ps := [(0, _)]) rfl S24 Z.E rfl rfl Z.C Z.K rfl rfl rfl ?_; intro b48
    refine WL.op rfl ?_
    refine OpW.appendRow (enc := SL.one vs) rfl S24 rfl rfl Z.T Z.T [_] rfl (by rfl) rfl (by intro x; rfl) (by intro x; rfl) (by exact ⟨by simp only [maxLen, List.length_append, List.length_nil, List.length_cons, List.length_drop, List.length_take, List.length_map]; omega, by omega⟩) rfl rfl ?_; intro v49 hv49
    refine Z.a1 rfl <| Z.q1 <| Z.m1 rfl <| Z.m1 rfl <| Z.r1 rfl (Rd.idx1 (k := 0) rfl S24 rfl rfl rfl hax (by simp)) ?_
    refine Z.r1 rfl (Rd.get (k := 0) (a := a) rfl C9 rfl hax rfl) ?_
    refine WL.op rfl ?_
    refine OpW.delete (k := a) M37 K9 rfl rfl rfl Z.T rfl rfl ?_
    refine Z.q1 <| Z.m1 rfl <| Z.m1 rfl <| Z.r1 rfl (Rd.idx1 (k := 0) rfl S24 rfl rfl rfl hax (by simp)) ?_
    refine Z.r1 rfl (Rd.get (k := 0) (a := a) rfl C9 rfl hax rfl) ?_
    refine WL.op rfl ?_
    refine OpW.delete (k := a) M37 K9 rfl rfl rfl Z.T rfl rfl ?_
    refine Z.n1 ?_
    refine WC.still mixed Z.K ?_
    refine Z.b1 rfl (Rd.move rfl rfl) <| Z.b1 rfl (Rd.cut_l (lo := 1) rfl S24 rfl rfl rfl hax (by simp)) ?_
    refine Z.b1 rfl (Rd.move rfl rfl) <| Z.b1 rfl (Rd.cut_l (lo := 1) rfl S24 rfl rfl rfl hby (by simp)) ?_
    refine Z.b1 rfl (Rd.assign rfl rfl) <| Z.b1 rfl (Rd.assign rfl rfl) ?_
    refine WA.nil ?_
    refine blockQ.normal ?_
    refine blockQ.normal ?_
    exact loopQ7.mk (subSl xv 1 1 (a :: x).length) (subSl yv 1 1 (b :: y).length) v49 (x, y) (out ++ [a]) (mA.del a) (mB.del a) ⟨(List.nodup_cons.1 i1).2, (List.nodup_cons.1 i2).2, i3.del i1, by rw [hc2]; exact i4.del i2, by rw [← i5, shufE, if_pos hc2], by simp only [List.length_append, List.length_cons, List.length_nil]; omega, hv49⟩ (by simp only [List.length_cons]; omega) (by repeat (first | exact Sub.nil | refine Sub.cons rfl (by rfl) ?_)) (fun w h => by
     have h1 := h.weaken hax (fun w hp => SlE.subl (size := 1) (lo := 1) (fun _ => rfl) (by simp) hp)
     have h2 := h1.weaken (List.mem_cons_of_mem _ hby) (fun w hp => SlE.subl (size := 1) (lo := 1) (fun _ => rfl) (by simp) hp)
     exact Z.Fw h2)
   ·
    refine Z.s1 <| Z.m1 rfl <| Z.m1 rfl <| Z.r1 rfl (Rd.idx1 (k := 0) rfl S24 rfl rfl rfl hax (by simp)) ?_
    refine Z.r1 rfl (Rd.get (k := 0) (a := a) rfl C9 rfl hax rfl) ?_
    refine Z.r1 rfl (by exact Rd.lookup M37 K9 rfl rfl rfl Z.M (by rfl)) ?_
    refine WL.say 67 (u := .bool (decide (a ∈ b :: y))) rfl (i4.look a) ?_
    refine Z.r1 rfl (by exact Rd.notd rfl rfl) ?_
    refine Z.a1 rfl <| Z.n1 ?_
    refine WC.ite rfl (fun hc3 => ?_) (fun hc3 => ?_)
    ·
     refine Z.s1 <| Z.m1 rfl <| Z.m1 rfl <| Z.r1 rfl (Rd.idx1 (k := 0) rfl S24 rfl rfl rfl hax (by simp)) ?_
     refine Z.r1 rfl (Rd.get (k := 0) (a := a) rfl C9 rfl hax rfl) ?_
     refine WL.op rfl ?_
     refine OpW.buildSl (ps := [(0, _)]) rfl S24 Z.E rfl rfl Z.C Z.K rfl rfl rfl ?_; intro b73
     refine WL.op rfl ?_
     refine OpW.appendRow (enc := SL.one vs) rfl S24 rfl rfl Z.T Z.T [_] rfl (by rfl) rfl (by intro x; rfl) (by intro x; rfl) (by exact ⟨by simp only [maxLen, List.length_append, List.length_nil, List.length_cons, List.length_drop, List.length_take, List.length_map]; omega, by omega⟩) rfl rfl ?_; intro v74 hv74
     refine Z.a1 rfl <| Z.q1 <| Z.m1 rfl <| Z.m1 rfl <| Z.r1 rfl (Rd.idx1 (k := 0) rfl S24 rfl rfl rfl hax (by simp)) ?_
     refine Z.r1 rfl (Rd.get (k := 0) (a := a) rfl C9 rfl hax rfl) ?_
     refine WL.op rfl ?_
     refine OpW.delete (k := a) M37 K9 rfl rfl rfl Z.T rfl rfl ?_
     refine Z.g1 <| Z.m1 rfl <| Z.r1 rfl (Rd.cut_l (lo := 1) rfl S24 rfl rfl rfl hax (by simp)) ?_
     refine Z.a1 rfl ?_
     refine WL.nil ?_
     refine blockQ.normal ?_
     refine blockQ.normal ?_
     exact loopQ7.mk (subSl xv 1 1 (a :: x).length) yv v74 (x, b :: y) (out ++ [a]) (mA.del a) mB ⟨(List.nodup_cons.1 i1).2, i2, i3.del i1, i4, by rw [← i5, shufE, if_neg hc2, if_pos hc3], by simp only [List.length_append, List.length_cons, List.length_nil]; omega, hv74⟩ (by simp only [List.length_cons]; omega) (by repeat (first | exact Sub.nil | refine Sub.cons rfl (by rfl) ?_)) (fun w h => by
      have h1 := h.weaken hax (fun w hp => SlE.subl (size := 1) (lo := 1) (fun _ => rfl) (by simp) hp)
      exact Z.Fw h1)
    ·
     refine Z.s1 <| Z.m1 rfl <| Z.m1 rfl <| Z.r1 rfl (Rd.idx1 (k := 0) rfl S24 rfl rfl rfl hby (by simp)) ?_
     refine Z.r1 rfl (Rd.get (k := 0) (a := b) rfl C9 rfl hby rfl) ?_
     refine Z.r1 rfl (by exact Rd.lookup M37 K9 rfl rfl rfl Z.M (by rfl)) ?_
     refine WL.say 86 (u := .bool (decide (b ∈ a :: x))) rfl (i3.look b) ?_
     refine Z.r1 rfl (by exact Rd.notd rfl rfl) ?_
     refine Z.a1 rfl <| Z.n1 ?_
     refine WC.ite rfl (fun hc4 => ?_) (fun hc4 => ?_)
     ·
      refine Z.s1 <| Z.m1 rfl <| Z.m1 rfl <| Z.r1 rfl (Rd.idx1 (k := 0) rfl S24 rfl rfl rfl hby (by simp)) ?_
      refine Z.r1 rfl (Rd.get (k := 0) (a := b) rfl C9 rfl hby rfl) ?_
      refine WL.op rfl ?_
      refine OpW.buildSl (ps := [(0, _)]) rfl S24 Z.E rfl rfl Z.C Z.K rfl rfl rfl ?_; intro b92
      refine WL.op rfl ?_
      refine OpW.appendRow (enc := SL.one vs) rfl S24 rfl rfl Z.T Z.T [_] rfl (by rfl) rfl (by intro x; rfl) (by intro x; rfl) (by exact ⟨by simp only [maxLen, List.length_append, List.length_nil, List.length_cons, List.length_drop, List.length_take, List.length_map]; omega, by omega⟩) rfl rfl ?_; intro v93 hv93
      refine Z.a1 rfl <| Z.q1 <| Z.m1 rfl <| Z.m1 rfl <| Z.r1 rfl (Rd.idx1 (k := 0) rfl S24 rfl rfl rfl hby (by simp)) ?_
      refine Z.r1 rfl (Rd.get (k := 0) (a := b) rfl C9 rfl hby rfl) ?_
      refine WL.op rfl ?_
      refine OpW.delete (k := b) M37 K9 rfl rfl rfl Z.T rfl rfl ?_
      refine Z.g1 <| Z.m1 rfl <| Z.r1 rfl (Rd.cut_l (lo := 1) rfl S24 rfl rfl rfl hby (by simp)) ?_
      refine Z.a1 rfl ?_
      refine WL.nil ?_
      refine blockQ.normal ?_
      refine blockQ.normal ?_
      exact loopQ7.mk xv (subSl yv 1 1 (b :: y).length) v93 (a :: x, y) (out ++ [b]) mA (mB.del b) ⟨i1, (List.nodup_cons.1 i2).2, i3, i4.del i2, by rw [← i5, shufE, if_neg hc2, if_neg hc3, if_pos hc4], by simp only [List.length_append, List.length_cons, List.length_nil]; omega, hv93⟩ (by simp only [List.length_cons]; omega) (by repeat (first | exact Sub.nil | refine Sub.cons rfl (by rfl) ?_)) (fun w h => by
       have h1 := h.weaken hby (fun w hp => SlE.subl (size := 1) (lo := 1) (fun _ => rfl) (by simp) hp)
       exact Z.Fw h1)
     ·
      refine WC.seq ?_
      refine WC.drawnA 9 rfl mixed ?_
      refine WD.take 0 rfl Z.K Held.all rfl rfl rfl (Rd.move rfl rfl) ?_
      refine WD.take 1 rfl Z.K Held.all rfl rfl rfl (Rd.idx1 (k := 0) rfl S24 rfl rfl rfl hax (by simp)) ?_
      refine WD.take 2 rfl Z.K Held.all rfl rfl rfl (Rd.get (k := 0) (a := a) rfl C9 rfl hax rfl) ?_
      refine WD.take 3 rfl Z.K Held.all rfl rfl rfl (Rd.move rfl rfl) ?_
      refine WD.take 4 rfl Z.K Held.all rfl rfl rfl (Rd.idx1 (k := 0) rfl S24 rfl rfl rfl hby (by simp)) ?_
      refine WD.take 5 rfl Z.K Held.all rfl rfl rfl (Rd.get (k := 0) (a := b) rfl C9 rfl hby rfl) ?_
      refine WD.take 7 rfl Z.K Held.all rfl rfl rfl (Rd.assign rfl rfl) ?_
      refine WD.one 6 rfl Z.K rfl ?_
      refine OpW.buildSl (ps := [(0, _), (1, _)]) rfl S24 Z.E rfl rfl Z.C Z.K rfl rfl rfl ?_; intro b35
      refine ⟨Z.H, ?_⟩
      refine WD.take 8 rfl Z.K Z.H rfl rfl rfl (Rd.assign rfl rfl) ?_
      refine WD.done Z.K ?_
      refine thenQ.normal ?_
      refine WC.heap (R' := SlE (SL.one vs) (.slice (some ⟨b35, 0, none⟩) 2 2) [a, b] :: R) (O' := O) (fun w h => by
       have h1 := Sat.shareRow (enc := SL.one vs) (xs := [a, b]) (m := 2) Z.T rfl rfl (by decide) h
       exact Z.Fw h1) ?_
      refine WC.ret (Ret.two Tryz.results13 rfl rfl ?_)
      exact hk2 a b _ (by rw [← i5, shufE, if_neg hc2, if_neg hc3, if_neg hc4])
  ·
   have hfin : shufE x y out = (out ++ x ++ y, none) := by
    cases x with
    | nil => rw [shufE]; simp
    | cons a x =>
      cases y with
      | nil => rw [shufE]; simp
      | cons b y => exact absurd ⟨by simp, by simp⟩ hc1
   rw [hfin] at i5
   refine WC.heap (R' := SlE (SL.one vs) u out :: SlE (SL.one vs) xv x :: SlE (SL.one vs) yv y :: R) (O' := mapC vs vbl bA mA :: mapC vs vbl bB mB :: O) (fun w h => Sat.shareA (Take.head _) h) ?_
   refine WC.know (p := SlE (SL.one vs) xv x) Z.M (fun w h => h.oneV) fun hxv => ?_
   refine WC.know (p := SlE (SL.one vs) yv y) Z.M (fun w h => h.oneV) fun hyv => ?_
   refine WC.exit ?_
   refine thenQ.exit ?_
   refine loopQ7.exit ?_
   refine blockQ.exit ?_
   refine thenQ.normal ?_
   refine Z.s1 <| Z.m1 rfl <| Z.m1 rfl <| Z.m1 rfl ?_
   refine WL.op rfl ?_
   refine OpW.buildSl (ps := [(0, _), (1, _), (2, _)]) (cells := [u, xv, yv]) rfl S68 Z.E rfl rfl (CellsOf.cons i7.cells (CellsOf.cons hxv.cells (CellsOf.cons hyv.cells CellsOf.nil))) rfl rfl rfl rfl ?_; intro b103
   refine WL.heap (R' := SlE (SL.one vid) (.slice (some ⟨b103, 0, none⟩) 3 3) [u, xv, yv] :: SlE (SL.one vs) u out :: SlE (SL.one vs) xv x :: SlE (SL.one vs) yv y :: R) (O' := O) (fun w h => by
   have h1 := Sat.shareRow (enc := SL.one vid) (xs := [u, xv, yv]) (m := 3) Z.T rfl rfl (by decide) h
   exact Z.Fw h1) ?_
   refine WL.op rfl ?_
   refine OpW.call rfl rfl Z.E Z.K rfl rfl rfl ?_
   refine concat_spec (ll := [out, x, y]) List.mem_cons_self (lists3 Z.M Z.M Z.M) (by simp only [List.flatten_cons, List.flatten_nil, List.length_append, List.length_nil]; dsimp only at i6; omega) ?_; intro v104 hv104
   refine Z.a1 rfl <| Z.a1 rfl <| Z.n1 ?_
   refine WC.heap (R' := SlE (SL.one vs) v104 (out ++ x ++ y) :: R) (O' := O) (fun w h => by
    have h1 := Sat.shareA (Take.head _) h
    have e : [out, x, y].flatten = out ++ x ++ y := by simp
    rw [e] at h1
    exact Z.Fw h1) ?_
   refine WC.ret (Ret.two Tryz.results13 rfl rfl ?_)
   exact hk1 _ v104 i5.symm
end Go.Proofs.YtnjfgcpmcjmddaaGreatDoor.Ld
namespace Go.Proofs.YtnjfgcpmcjmddaaGreatDoor.Ld
open Go Go.SL
def optC (mo : Option Nat) (m : GoMap (List UInt8) Bool) : Own := match mo with
 | some b => mapC vs vbl b m
 | none => { blks := [], pred := fun _ => True }
theorem set2_spec {R : List RO} {O : List Own} {POST : Value → List RO → List Own → Prop} {xs : List (List UInt8)} {av : Value} (ha : SlE (SL.one vs) av xs ∈ R)
 (hk : ∀ mo m, (xs.Nodup → ∃ b, mo = some b ∧ SetOf m xs) → POST (.tuple #[.map mo, .bool (decide xs.Nodup)]) R (optC mo m :: O)) : Fun Tryz.prog 10 #[av] R O POST := by
 refine Fun.thin (post' := fun v R' O' => (∃ mo m, (xs.Nodup → ∃ b, mo = some b ∧ SetOf m xs) ∧ v = .tuple #[.map mo, .bool (decide xs.Nodup)] ∧ R' = R ∧ (O' = optC mo m :: O ∨ (O' = O ∧ mo = none)))) (set_spec ha (fun hn b m hm => ?_) (fun hn => ?_)) ?_
 · exact ⟨some b, m, fun _ => ⟨b, rfl, hm⟩, by rw [decide_eq_true hn], rfl, .inl rfl⟩
 · exact ⟨none, GoMap.empty, fun h => absurd h hn, by rw [decide_eq_false hn], rfl, .inr ⟨rfl, rfl⟩⟩
 · rintro v R' O' ⟨mo, m, h1, rfl, rfl, h2⟩
   refine ⟨_, _, hk mo m h1, ?_⟩
   rcases h2 with rfl | ⟨rfl, rfl⟩
   · exact fun w h => h
   · exact fun w h => h.emp _ rfl (fun _ => trivial)
theorem one2_spec {R : List RO} {O : List Own} {POST : Value → List RO → List Own → Prop} {base ours theirs : List (List UInt8)} {bv ov tv : Value} (hb : SlE (SL.one vs) bv base ∈ R) (ho : SlE (SL.one vs) ov ours ∈ R) (ht : SlE (SL.one vs) tv theirs ∈ R)
 (hlo : ours.length ≤ 4294967296) (hlt : theirs.length ≤ 4294967296)
 (hk : ∀ v, OneV v → POST (.tuple #[v, .bool (oneE base ours theirs).isSome]) R (accC 9 1 (SL.one vs) v ((oneE base ours theirs).getD []) :: O)) : Fun Tryz.prog 11 #[bv, ov, tv] R O POST := by
 refine Fun.thin (post' := fun v R' O' => (∃ u, OneV u ∧ v = .tuple #[u, .bool (oneE base ours theirs).isSome] ∧ R' = R ∧ (O' = accC 9 1 (SL.one vs) u ((oneE base ours theirs).getD []) :: O ∨ (O' = O ∧ u = .slice none 0 0 ∧ oneE base ours theirs = none)))) (one_spec hb ho ht hlo hlt (fun r v hr hv => ?_) (fun hn => ?_)) ?_
 · exact ⟨v, hv, by rw [hr]; rfl, rfl, .inl (by rw [hr]; rfl)⟩
 · exact ⟨_, OneV.sl, by rw [hn]; rfl, rfl, .inr ⟨rfl, rfl, hn⟩⟩
 · rintro v R' O' ⟨u, h1, rfl, rfl, h2⟩
   refine ⟨_, _, hk u h1, ?_⟩
   rcases h2 with rfl | ⟨rfl, rfl, hn⟩
   · exact fun w h => h
   · rw [hn]; exact fun w h => h.accNil
def shufR (xs ys : List (List UInt8)) : List (List UInt8) × List (List UInt8) := match shufE xs ys [] with
 | (r, none) => (r, [])
 | (_, some (a, b)) => ([], [a, b])
theorem shuffle2_spec {R : List RO} {O : List Own} {POST : Value → List RO → List Own → Prop} {xs ys : List (List UInt8)} {av bv : Value} (ha : SlE (SL.one vs) av xs ∈ R) (hb : SlE (SL.one vs) bv ys ∈ R) (hnx : xs.Nodup) (hny : ys.Nodup)
 (hlx : xs.length ≤ 4294967296) (hly : ys.length ≤ 4294967296)
 (hk : ∀ v w, POST (.tuple #[v, w]) (SlE (SL.one vs) v (shufR xs ys).1 :: SlE (SL.one vs) w (shufR xs ys).2 :: R) O) : Fun Tryz.prog 13 #[av, bv] R O POST := by
 refine Fun.thin (post' := fun v R' O' => (∃ u1 u2, v = .tuple #[u1, u2] ∧ O' = O ∧ ((u2 = .slice none 0 0 ∧ ∃ r, shufE xs ys [] = (r, none) ∧ R' = SlE (SL.one vs) u1 r :: R) ∨ (u1 = .slice none 0 0 ∧ ∃ a b, shufE xs ys [] = ([], some (a, b)) ∧ R' = SlE (SL.one vs) u2 [a, b] :: R)))) (shuffle_spec ha hb hnx hny hlx hly (fun r v h => ?_) (fun a b v h => ?_)) ?_
 · exact ⟨_, _, rfl, rfl, .inl ⟨rfl, r, h, rfl⟩⟩
 · exact ⟨_, _, rfl, rfl, .inr ⟨rfl, a, b, h, rfl⟩⟩
 · rintro v R' O' ⟨u1, u2, rfl, rfl, h⟩
   refine ⟨_, _, hk u1 u2, ?_⟩
   rcases h with ⟨rfl, r, h, rfl⟩ | ⟨rfl, a, b, h, rfl⟩ <;> unfold shufR <;> rw [h] <;> intro w hs
   · exact Z.Fw (hs.nilE (α := List UInt8) (enc := SL.one vs))
   · exact Z.Fw (hs.nilE (α := List UInt8) (enc := SL.one vs))
def listsE (base ours theirs : List (List UInt8)) : List (List UInt8) × List (List UInt8) × Nat :=
 if ¬ (base.Nodup ∧ ours.Nodup ∧ theirs.Nodup) then ([], [], 10)
 else if (oneE base ours theirs).isSome then ((oneE base ours theirs).getD [], [], 0)
 else ((shufR (ours.filter (staysB ours theirs base)) (theirs.filter (staysB ours theirs base))).1, (shufR (ours.filter (staysB ours theirs base)) (theirs.filter (staysB ours theirs base))).2, 0)
set_option maxRecDepth 20000 in
set_option maxHeartbeats 2000000 in
theorem lists_spec {R : List RO} {O : List Own} {POST : Value → List RO → List Own → Prop} {base ours theirs : List (List UInt8)} {bv ov tv : Value} (hb : SlE (SL.one vs) bv base ∈ R) (ho : SlE (SL.one vs) ov ours ∈ R) (ht : SlE (SL.one vs) tv theirs ∈ R)
 (hk6 : (4096 < base.length ∨ 4096 < ours.length ∨ 4096 < theirs.length) → POST (.tuple #[.slice none 0 0, .slice none 0 0, .int .i64 6]) R O)
 (hk : base.length ≤ 4096 → ours.length ≤ 4096 → theirs.length ≤ 4096 → ∀ u v, POST (.tuple #[u, v, .int .i64 ((listsE base ours theirs).2.2 : Nat)]) (SlE (SL.one vs) u (listsE base ours theirs).1 :: SlE (SL.one vs) v (listsE base ours theirs).2.1 :: R) O) :
 Fun Tryz.prog 6 #[bv, ov, tv] R O POST := by
 refine Fun.oneV hb fun hob => ?_
 refine Fun.oneV ho fun hoo => ?_
 refine Fun.oneV ht fun hot => ?_
 refine Fun.enter (l := [_, _, _]) Tryz.func6 rfl Tryz.ntmps6 rfl (L0 := [(0, _), (1, _), (2, _)]) rfl ?_
 refine Z.s1 <| Z.a1 rfl <| Z.a1 rfl <| Z.a1 rfl <| Z.n1 <| Z.s2 <| Z.m1 rfl <| Z.m1 rfl <| Z.m1 rfl ?_
 refine WL.op rfl ?_
 refine OpW.buildSl (ps := [(0, _), (1, _), (2, _)]) (cells := [bv, ov, tv]) rfl S68 Z.E rfl rfl (CellsOf.cons hob.cells (CellsOf.cons hoo.cells (CellsOf.cons hot.cells CellsOf.nil))) rfl rfl rfl rfl ?_; intro b23
 refine WL.heap (R' := SlE (SL.one vid) (.slice (some ⟨b23, 0, none⟩) 3 3) [bv, ov, tv] :: R) (O' := O) (fun w h => Sat.shareRow (enc := SL.one vid) (xs := [bv, ov, tv]) (m := 3) Z.T rfl rfl (by decide) h) ?_
 refine WL.op rfl ?_
 refine OpW.call rfl rfl Z.E Z.K rfl rfl rfl ?_
 refine has_spec (ll := [base, ours, theirs]) List.mem_cons_self (lists3 Z.M Z.M Z.M) ?_; intro b hb24
 refine Z.n1 ?_
 refine WC.cond rfl (fun hc1 => ?_) (fun hc1 => ?_)
 ·
  refine Z.s1 <| Z.a1 rfl <| Z.a1 rfl <| Z.a1 rfl <| Z.n1 ?_
  refine WC.heap (R' := R) (O' := O) Z.F ?_
  refine WC.ret (Ret.three Tryz.results6 rfl rfl rfl ?_)
  refine hk6 ?_
  obtain ⟨j, h1, h2⟩ := hb24.1 hc1
  match j, h1 with
  | 0, _ => exact .inl h2
  | 1, _ => exact .inr (.inl h2)
  | 2, _ => exact .inr (.inr h2)
 ·
  have l1 : base.length ≤ 4096 := Nat.le_of_not_lt fun h => by have h2 := hb24.2 ⟨0, by simp, h⟩; rw [hc1] at h2; cases h2
  have l2 : ours.length ≤ 4096 := Nat.le_of_not_lt fun h => by have h2 := hb24.2 ⟨1, by simp, h⟩; rw [hc1] at h2; cases h2
  have l3 : theirs.length ≤ 4096 := Nat.le_of_not_lt fun h => by have h2 := hb24.2 ⟨2, by simp, h⟩; rw [hc1] at h2; cases h2
  replace hk := hk l1 l2 l3
  refine WC.heap (R' := R) (O' := O) Z.F ?_
  refine WC.skip ?_
  refine thenQ.normal ?_
  refine Z.s1 <| Z.m1 rfl ?_
  refine WL.op rfl ?_
  refine OpW.call rfl rfl Z.E Z.K rfl rfl rfl ?_
  refine set2_spec hb ?_; intro mo1 m1 hm1
  refine Z.m1 rfl <| Z.x1 rfl <| Z.x1 rfl ?_
  refine WL.op rfl ?_
  refine OpW.alloc rfl I37 rfl Z.N rfl rfl ?_; intro b9
  refine WL.op rfl ?_
  refine OpW.store1 rfl Z37 rfl rfl (by exact ⟨rfl, rfl⟩) Z.T (by (simp; done)) rfl ?_
  refine Z.a1 rfl <| Z.q1 <| Z.m1 rfl ?_
  refine WL.op rfl ?_
  refine OpW.call rfl rfl Z.E Z.K rfl rfl rfl ?_
  refine set2_spec ho ?_; intro mo2 m2 hm2
  refine Z.m1 rfl <| Z.x1 rfl <| Z.x1 rfl ?_
  refine WL.op rfl ?_
  refine OpW.alloc rfl I37 rfl Z.N rfl rfl ?_; intro b11
  refine WL.op rfl ?_
  refine OpW.store1 rfl Z37 rfl rfl (by exact ⟨rfl, rfl⟩) Z.T (by (simp; done)) rfl ?_
  refine Z.a1 rfl <| Z.q1 <| Z.m1 rfl ?_
  refine WL.op rfl ?_
  refine OpW.call rfl rfl Z.E Z.K rfl rfl rfl ?_
  refine set2_spec ht ?_; intro mo3 m3 hm3
  refine Z.m1 rfl <| Z.x1 rfl <| Z.x1 rfl ?_
  refine WL.op rfl ?_
  refine OpW.alloc rfl I37 rfl Z.N rfl rfl ?_; intro b13
  refine WL.op rfl ?_
  refine OpW.store1 rfl Z37 rfl rfl (by exact ⟨rfl, rfl⟩) Z.T (by (simp; done)) rfl ?_
  refine Z.a1 rfl <| Z.n1 ?_
  refine WC.seq ?_
  refine WC.pick [0, 1, 2, 9, 10, 11, 12, 13, 14] Z.P ?_
  refine WC.val 49 (.bool (decide (¬ (base.Nodup ∧ ours.Nodup ∧ theirs.Nodup)))) ?_ ?_
  ·
   refine WC.region ?_
   refine Z.m1 rfl <| Z.r1 rfl (by exact Rd.notd rfl rfl) ?_
   refine Z.m1 rfl ?_
   refine WL.case 42 rfl (fun hg42 => ?_) (fun hg42 => ?_)
   ·
    refine Z.o1 rfl <| Z.o1 rfl <| Z.r1 rfl (Rd.pick_t rfl rfl rfl) <| Z.m1 rfl <| Z.o1 rfl <| Z.o1 rfl <| Z.r1 rfl (Rd.pick_t rfl rfl rfl) ?_
    refine WL.nil ?_
    exact ⟨by repeat (first | exact Sub.nil | refine Sub.cons rfl (by first | rfl | ((simp [*]; done))) ?_), by exact (fun _ h => h.thin (SubL.mem Z.S))⟩
   ·
    refine Z.y1 rfl (Rd.move rfl rfl) <| Z.y1 rfl (by exact Rd.notd rfl rfl) ?_
    refine Z.r1 rfl (Rd.pick_f rfl rfl rfl) <| Z.m1 rfl ?_
    refine WL.case 46 rfl (fun hg46 => ?_) (fun hg46 => ?_)
    ·
     refine Z.o1 rfl <| Z.o1 rfl <| Z.r1 rfl (Rd.pick_t rfl rfl rfl) ?_
     refine WL.nil ?_
     exact ⟨by repeat (first | exact Sub.nil | refine Sub.cons rfl (by first | rfl | ((simp [*]; done))) ?_), by exact (fun _ h => h.thin (SubL.mem Z.S))⟩
    ·
     refine Z.y1 rfl (Rd.move rfl rfl) <| Z.y1 rfl (by exact Rd.notd rfl rfl) ?_
     refine Z.r1 rfl (Rd.pick_f rfl rfl rfl) ?_
     refine WL.nil ?_
     exact ⟨by repeat (first | exact Sub.nil | refine Sub.cons rfl (by first | rfl | ((simp_all; done))) ?_), by exact (fun _ h => h.thin (SubL.mem Z.S))⟩
  ·
   refine WC.ite rfl (fun hc2 => ?_) (fun hc2 => ?_)
   ·
    refine Z.s1 <| Z.a1 rfl <| Z.a1 rfl <| Z.a1 rfl <| Z.n1 ?_
    refine WC.heap (R' := SlE (SL.one vs) (.slice none 0 0) [] :: SlE (SL.one vs) (.slice none 0 0) [] :: R) (O' := O) (fun w h => Z.Fw ((h.nilE (α := List UInt8) (enc := SL.one vs)).nilE (α := List UInt8) (enc := SL.one vs))) ?_
    refine WC.ret (Ret.three Tryz.results6 rfl rfl rfl ?_)
    have e : listsE base ours theirs = ([], [], 10) := by unfold listsE; rw [if_pos hc2]
    rw [e] at hk
    exact hk _ _
   ·
    obtain ⟨n1, n2, n3⟩ := Decidable.not_not.1 hc2
    obtain ⟨c1, rfl, hs1⟩ := hm1 n1
    obtain ⟨c2, rfl, hs2⟩ := hm2 n2
    obtain ⟨c3, rfl, hs3⟩ := hm3 n3
    refine WC.heap (R' := R) (O' := rowC b13 37 [.map (some c3)] :: mapC vs vbl c3 m3 :: rowC b11 37 [.map (some c2)] :: mapC vs vbl c2 m2 :: rowC b9 37 [.map (some c1)] :: mapC vs vbl c1 m1 :: O) (fun w h => h) ?_
    refine WC.skip ?_
    refine thenQ.normal ?_
    refine Z.s2 <| Z.m1 rfl <| Z.m1 rfl <| Z.m1 rfl ?_
    refine WL.op rfl ?_
    refine OpW.call rfl rfl Z.E Z.K rfl rfl rfl ?_
    refine one2_spec hb ho ht Z.W Z.W ?_; intro v54 hv54
    refine Z.m1 rfl <| Z.x1 rfl <| Z.x1 rfl <| Z.a1 rfl <| Z.a1 rfl <| Z.q1 <| Z.m1 rfl <| Z.n1 ?_
    refine WC.cond rfl (fun hc3 => ?_) (fun hc3 => ?_)
    ·
     refine Z.s1 <| Z.m1 rfl <| Z.a1 rfl <| Z.a1 rfl <| Z.a1 rfl <| Z.n1 ?_
     refine WC.heap (R' := SlE (SL.one vs) v54 ((oneE base ours theirs).getD []) :: SlE (SL.one vs) (.slice none 0 0) [] :: R) (O' := O) (fun w h => Z.Fw (Sat.shareA (Take.head _) (h.nilE (α := List UInt8) (enc := SL.one vs)))) ?_
     refine WC.ret (Ret.three Tryz.results6 rfl rfl rfl ?_)
     have e : listsE base ours theirs = ((oneE base ours theirs).getD [], [], 0) := by unfold listsE; rw [if_neg hc2, if_pos hc3]
     rw [e] at hk
     exact hk _ _
    ·
     refine WC.skip ?_
     refine thenQ.normal ?_
     refine Z.s1 <| Z.r1 rfl (Rd.func rfl Z.E Z.E ⟨_, rfl⟩) ?_
     refine Z.a1 rfl <| Z.q1 <| Z.m1 rfl <| Z.m1 rfl ?_
     refine WL.op rfl ?_
     refine OpW.call rfl rfl Z.E Z.K rfl rfl rfl ?_
     refine pick_spec ho (us := ours) (them := theirs) (was := base) ⟨⟨_, _, hs2, Z.M, Z.M⟩, ⟨_, _, hs3, Z.M, Z.M⟩, ⟨_, _, hs1, Z.M, Z.M⟩⟩ Z.W ?_; intro u63
     refine Z.m1 rfl <| Z.m1 rfl ?_
     refine WL.op rfl ?_
     refine OpW.call rfl rfl Z.E Z.K rfl rfl rfl ?_
     refine pick_spec (List.mem_cons_of_mem _ ht) (us := ours) (them := theirs) (was := base) ⟨⟨_, _, hs2, Z.M, Z.M⟩, ⟨_, _, hs3, Z.M, Z.M⟩, ⟨_, _, hs1, Z.M, Z.M⟩⟩ Z.W ?_; intro u66
     refine WL.op rfl ?_
     refine OpW.call rfl rfl Z.E Z.K rfl rfl rfl ?_
     refine shuffle2_spec (xs := ours.filter (staysB ours theirs base)) (ys := theirs.filter (staysB ours theirs base)) Z.M Z.M (n2.filter _) (n3.filter _) (by have := List.length_filter_le (staysB ours theirs base) ours; omega) (by have := List.length_filter_le (staysB ours theirs base) theirs; omega) ?_; intro v67 z67
     refine Z.m1 rfl <| Z.x1 rfl <| Z.x1 rfl <| Z.a1 rfl <| Z.a1 rfl <| Z.q1 <| Z.m1 rfl <| Z.m1 rfl <| Z.a1 rfl <| Z.a1 rfl ?_
     refine Z.a1 rfl <| Z.n1 ?_
     refine WC.heap (R' := SlE (SL.one vs) v67 (shufR (ours.filter (staysB ours theirs base)) (theirs.filter (staysB ours theirs base))).1 :: SlE (SL.one vs) z67 (shufR (ours.filter (staysB ours theirs base)) (theirs.filter (staysB ours theirs base))).2 :: R) (O' := O) Z.F ?_
     refine WC.ret (Ret.three Tryz.results6 rfl rfl rfl ?_)
     have e : listsE base ours theirs = ((shufR (ours.filter (staysB ours theirs base)) (theirs.filter (staysB ours theirs base))).1, (shufR (ours.filter (staysB ours theirs base)) (theirs.filter (staysB ours theirs base))).2, 0) := by unfold listsE; rw [if_neg hc2, if_neg (by rw [hc3]; simp)]
     rw [e] at hk
     exact hk _ _
end Go.Proofs.YtnjfgcpmcjmddaaGreatDoor.Ld
namespace Go.Proofs.YtnjfgcpmcjmddaaGreatDoor.Ld
open Go Go.SL Go.Lcs
theorem filt_cons_not {a : List UInt8} {x y : List (List UInt8)} (h : a ∉ x) : x.filter (fun s => decide (s ∈ a :: y)) = x.filter (fun s => decide (s ∈ y)) := by
 apply List.filter_congr
 intro s hs
 have : s ≠ a := fun e => h (e ▸ hs)
 simp [this]
theorem shufE_all (X Y out : List (List UInt8)) (hX : X.Nodup) (hY : Y.Nodup) :
 (X.filter (fun s => decide (s ∈ Y)) = Y.filter (fun s => decide (s ∈ X)) ∧ ∃ r, shufE X Y out = (r, none) ∧ (∀ s, s ∈ r ↔ s ∈ out ∨ s ∈ X ∨ s ∈ Y) ∧ r.length + (X.filter (fun s => decide (s ∈ Y))).length = out.length + X.length + Y.length) ∨
 (X.filter (fun s => decide (s ∈ Y)) ≠ Y.filter (fun s => decide (s ∈ X)) ∧ ∃ a b, shufE X Y out = ([], some (a, b))) := by
 fun_induction shufE X Y out with
 | case1 y out => exact .inl ⟨by simp, _, rfl, fun s => by simp, by simp⟩
 | case2 a x out => exact .inl ⟨by simp, _, rfl, fun s => by simp, by simp⟩
 | case3 x a y out ih =>
   have ax := (List.nodup_cons.1 hX).1
   have ay := (List.nodup_cons.1 hY).1
   have e1 : (a :: x).filter (fun s => decide (s ∈ a :: y)) = a :: x.filter (fun s => decide (s ∈ y)) := by
    rw [List.filter_cons_of_pos (by simp), filt_cons_not ax]
   have e2 : (a :: y).filter (fun s => decide (s ∈ a :: x)) = a :: y.filter (fun s => decide (s ∈ x)) := by
    rw [List.filter_cons_of_pos (by simp), filt_cons_not ay]
   rw [e1, e2]
   rcases ih (List.nodup_cons.1 hX).2 (List.nodup_cons.1 hY).2 with ⟨h1, r, h2, h3, h4⟩ | ⟨h1, a', b', h2⟩
   · refine .inl ⟨by rw [h1], r, h2, fun s => ?_, ?_⟩
     · rw [h3 s]; simp only [List.mem_append, List.mem_cons, List.not_mem_nil, or_false]
       constructor
       · rintro ((h | h) | h | h)
         · exact .inl h
         · exact .inr (.inl (.inl h))
         · exact .inr (.inl (.inr h))
         · exact .inr (.inr (.inr h))
       · rintro (h | (h | h) | (h | h))
         · exact .inl (.inl h)
         · exact .inl (.inr h)
         · exact .inr (.inl h)
         · exact .inl (.inr h)
         · exact .inr (.inr h)
     · simp only [List.length_append, List.length_cons, List.length_nil] at h4 ⊢; omega
   · exact .inr ⟨fun h => h1 (by simpa using h), a', b', h2⟩
 | case4 a x b y out hab hnot ih =>
   have ax := (List.nodup_cons.1 hX).1
   have e1 : (a :: x).filter (fun s => decide (s ∈ b :: y)) = x.filter (fun s => decide (s ∈ b :: y)) := by
    rw [List.filter_cons_of_neg (by simpa using hnot)]
   have e2 : (b :: y).filter (fun s => decide (s ∈ a :: x)) = (b :: y).filter (fun s => decide (s ∈ x)) := filt_cons_not hnot
   rw [e1, e2]
   rcases ih (List.nodup_cons.1 hX).2 hY with ⟨h1, r, h2, h3, h4⟩ | ⟨h1, a', b', h2⟩
   · refine .inl ⟨h1, r, h2, fun s => ?_, ?_⟩
     · rw [h3 s]; simp only [List.mem_append, List.mem_cons, List.not_mem_nil, or_false]
       constructor
       · rintro ((h | h) | h | h)
         · exact .inl h
         · exact .inr (.inl (.inl h))
         · exact .inr (.inl (.inr h))
         · exact .inr (.inr h)
       · rintro (h | (h | h) | h)
         · exact .inl (.inl h)
         · exact .inl (.inr h)
         · exact .inr (.inl h)
         · exact .inr (.inr h)
     · simp only [List.length_append, List.length_cons, List.length_nil] at h4 ⊢; omega
   · exact .inr ⟨h1, a', b', h2⟩
 | case5 a x b y out hab hnot hnot2 ih =>
   have e1 : (a :: x).filter (fun s => decide (s ∈ b :: y)) = (a :: x).filter (fun s => decide (s ∈ y)) := filt_cons_not hnot2
   have e2 : (b :: y).filter (fun s => decide (s ∈ a :: x)) = y.filter (fun s => decide (s ∈ a :: x)) := by
    rw [List.filter_cons_of_neg (by simpa using hnot2)]
   rw [e1, e2]
   rcases ih hX (List.nodup_cons.1 hY).2 with ⟨h1, r, h2, h3, h4⟩ | ⟨h1, a', b', h2⟩
   · refine .inl ⟨h1, r, h2, fun s => ?_, ?_⟩
     · rw [h3 s]; simp only [List.mem_append, List.mem_cons, List.not_mem_nil, or_false]
       constructor
       · rintro ((h | h) | (h | h) | h)
         · exact .inl h
         · exact .inr (.inr (.inl h))
         · exact .inr (.inl (.inl h))
         · exact .inr (.inl (.inr h))
         · exact .inr (.inr (.inr h))
       · rintro (h | (h | h) | (h | h))
         · exact .inl (.inl h)
         · exact .inr (.inl (.inl h))
         · exact .inr (.inl (.inr h))
         · exact .inl (.inr h)
         · exact .inr (.inr h)
     · simp only [List.length_append, List.length_cons, List.length_nil] at h4 ⊢; omega
   · exact .inr ⟨h1, a', b', h2⟩
 | case6 a x b y out hab hnot hnot2 =>
   refine .inr ⟨fun h => ?_, a, b, rfl⟩
   have h1 : a ∈ b :: y := Decidable.not_not.1 hnot
   have h2 : b ∈ a :: x := Decidable.not_not.1 hnot2
   rw [List.filter_cons_of_pos (by simpa using h1), List.filter_cons_of_pos (by simpa using h2), List.cons.injEq] at h
   exact hab h.1
end Go.Proofs.YtnjfgcpmcjmddaaGreatDoor.Ld
namespace Go.SL
open Go Go.RowKit Go.MapKept Go.ChangeMaps
def iterC (it b c : Nat) (seen : List Nat) : Own := { blks := [it], pred := fun w => w.heap[it]? = some (.mapIter (some b) c seen.toArray c) }
section
variable {κ β : Type} {kenc : κ → Value} {venc : β → Value}
def stepV (kenc : κ → Value) (venc : β → Value) : Option (κ × β × Nat) → Value
 | none => .tuple #[.bool false]
 | some x => .tuple #[.bool true, kenc x.1, venc x.2.1]
def StepOk (m : GoMap κ β) (seen : List Nat) : Option (κ × β × Nat) → Prop
 | none => ∀ x ∈ m.l, x.2.2 ∈ seen
 | some x => x ∈ m.l ∧ x.2.2 ∉ seen
def seenOf (seen : List Nat) : Option (κ × β × Nat) → List Nat
 | none => seen
 | some x => seen ++ [x.2.2]
variable {P : Program} {n : Sz} {o : Oper} {L : Env} {R : List RO} {O O' : List Own} {K : Env → List RO → List Own → Prop} {t kt et : TypeId} {z : Value} {x y : Operand} {m : GoMap κ β} {b d it : Nat} {seen seen1 : List Nat}
theorem OpW.rangeM (T : MapT P t kt et z) (ho : o.op = .range t x) (hx : ev L x = some (.map (some b))) (hp : mapP kenc venc b m ∈ R) (hd : o.dst = some d) (hn : Nat.blt d n.n = true)
 (k : ∀ it, K ((d, .pointer (some ⟨it, 0, none⟩)) :: L) R (iterC it b m.clock [] :: O)) : OpW P n o L R O K := by
 intro a w hf hs Q
 have h : mapP kenc venc b m w := hs.read hp
 unfold Oper.wp
 have hr : (execOp a.eval o).run P w = .ok (.value (.pointer (some ⟨w.heap.size, 0, none⟩))) (w.alloc (.mapIter (some b) m.clock #[] m.clock)) := by
  simp only [execOp, ho, Sem.run_bind, hf.ev hx, run_range_map w t kt et b _ _ T.und h, Result.andThen_ok, Sem.run_pure]
 rw [hr, Oper.upon_value, hd]
 exact ⟨_, _, _, k _, hf.put hn _, hs.alloc _ _ rfl fun w' h _ => h⟩
theorem ent_born (m : GoMap κ β) : (m.l.map (ent kenc venc)).map (·.born) = m.l.map (·.2.2) := by
 rw [List.map_map]; rfl
theorem OpW.nextM (ho : o.op = .next x false) (hx : ev L x = some (.pointer (some ⟨it, 0, none⟩))) (hp : mapP kenc venc b m ∈ R) (hT : Take (iterC it b m.clock seen) O O') (hd : o.dst = some d) (hn : Nat.blt d n.n = true)
 (k : ∀ r, StepOk m seen r → K ((d, stepV kenc venc r) :: L) R (iterC it b m.clock (seenOf seen r) :: O')) : OpW P n o L R O K := by
 intro a w hf hs Q
 have h : mapP kenc venc b m w := hs.read hp
 have hs' := hs.perm hT.perm
 have hi : w.heap[it]? = some (.mapIter (some b) m.clock seen.toArray m.clock) := hs'.see List.mem_cons_self
 unfold Oper.wp
 rcases run_next_at (P := P) w o.type it b m.clock m.clock seen.toArray _ _ hi h (by
  intro e he
  simp only [List.mem_map] at he
  obtain ⟨q, hq, rfl⟩ := he
  exact m.lt q hq) (Nat.le_refl _) with ⟨h0, hr⟩ | ⟨e, he, w1, hw1, hr⟩
 · have hr' : (execOp a.eval o).run P w = .ok (.value (.tuple #[.bool false])) w := by
    simp only [execOp, ho, Sem.run_bind, hf.ev hx, hr, Result.andThen_ok, Sem.run_pure]
   rw [hr', Oper.upon_value, hd]
   refine ⟨_, _, _, k none ?_, hf.put hn _, hs'⟩
   intro q hq
   have h1 : leftOf (m.l.map (ent kenc venc)).toArray seen.toArray = #[] := Array.eq_empty_of_size_eq_zero h0
   unfold leftOf at h1
   rw [Array.filter_eq_empty_iff] at h1
   have := h1 (ent kenc venc q) (by simpa using ⟨q.1, q.2.1, q.2.2, hq, rfl⟩)
   simpa [ent] using this
 · have hr' : (execOp a.eval o).run P w = .ok (.value (.tuple #[.bool true, e.key, e.val])) (setBlock w1 it (.mapIter (some b) m.clock (seen.toArray.push e.born) m.clock)) := by
    simp only [execOp, ho, Sem.run_bind, hf.ev hx, hr, Result.andThen_ok, Sem.run_pure]
   rw [hr', Oper.upon_value, hd]
   simp only [leftOf, Array.toList_filter, List.mem_filter, List.mem_map] at he
   obtain ⟨⟨q, hq, rfl⟩, hns⟩ := he
   have hs1 : Sat R (iterC it b m.clock seen :: O') w1 := by
    rcases hw1 with rfl | rfl
    · exact hs'
    · exact hs'.drew _
   have hi1 : w1.heap[it]? = some (.mapIter (some b) m.clock seen.toArray m.clock) := hs1.see List.mem_cons_self
   have hlt : it < w1.heap.size := (Array.getElem?_eq_some_iff.1 hi1).1
   refine ⟨_, _, _, k (some q) ⟨hq, by simpa [ent] using hns⟩, hf.put hn _, ?_⟩
   refine hs1.update (iterC it b m.clock (seen ++ [q.2.2])) ⟨rfl, rfl, rfl, by simp [setBlock], fun j hj hn => ?_⟩ (fun j hj => .inl hj) (fun j hj => ?_) (by simp [iterC]) (fun w'' ha _ => ?_)
   · have : j ≠ it := fun e => hn (by simp [iterC, e])
     exact (heap_set hi1).2 j this
   · simp only [iterC, List.mem_singleton] at hj; subst hj; simpa [setBlock] using hlt
   · show w''.heap[it]? = _
     rw [ha.2.2.2.2 it (by simpa [setBlock] using hlt) (fun h => h (by simp [iterC]))]
     refine (heap_set hi1).1.trans ?_
     simp [ent]
theorem Rd.stepOn {r : Option (κ × β × Nat)} (ho : o.op = .extract x 0) (hx : ev L x = some (stepV kenc venc r)) : Rd P o L R O (.bool (decide (r.isSome = true))) := fun ρ w hρ _ _ => by
 cases r <;> simp [execOp, ho, hρ _ _ hx, stepV, Instr.extract]
theorem Rd.entryM {q : κ × β × Nat} (ho : o.op = .entry x) (hx : ev L x = some (.pointer (some ⟨it, 0, none⟩))) (hp : mapP kenc venc b m ∈ R) (hi : iterC it b m.clock seen1 ∈ O) (hq : q ∈ m.l) (hs : seen1 = seen ++ [q.2.2]) : Rd P o L R O (.tuple #[kenc q.1, venc q.2.1]) := fun ρ w hρ hR hO => by
 have h : w.heap[b]? = _ := hR _ hp
 have h2 : w.heap[it]? = _ := hO _ hi
 subst hs
 have h3 : w.heap[it]? = some (.mapIter (some b) m.clock (seen.toArray.push (ent kenc venc q).born) m.clock) := h2.trans (by simp [ent])
 have := run_entry_at (P := P) w it b m.clock seen.toArray _ _ (ent kenc venc q) h3 h (by simpa using ⟨q.1, q.2.1, q.2.2, hq, rfl⟩) (by
  show ((m.l.map (ent kenc venc)).map (·.born)).Nodup
  rw [ent_born]; exact m.born)
 simp only [execOp, ho, Sem.run_bind, hρ _ _ hx, this, Result.andThen_ok, Sem.run_pure]
 rfl
end
theorem nodup_len {α : Type} [DecidableEq α] : ∀ {l l' : List α}, l.Nodup → (∀ x ∈ l, x ∈ l') → l.length ≤ l'.length
 | [], _, _, _ => Nat.zero_le _
 | a :: l, l', hn, hs => by
   rw [List.nodup_cons] at hn
   have h1 := nodup_len (l := l) (l' := l'.erase a) hn.2 fun x hx => (List.mem_erase_of_ne (fun e => hn.1 (by rwa [e] at hx))).2 (hs x (List.mem_cons_of_mem _ hx))
   have ha := hs a List.mem_cons_self
   rw [List.length_erase_of_mem ha] at h1
   have := List.length_pos_of_mem ha
   rw [List.length_cons]; omega
theorem Sat.belowOwn {R : List RO} {O : List Own} {w w' : World} {c : Own} (h : Sat R O w) (hb : Below w.heap.size w w') (hn : c.blks.Nodup) (hge : ∀ k ∈ c.blks, w.heap.size ≤ k ∧ k < w'.heap.size) (hc : ∀ w'', (∀ k ∈ c.blks, w''.heap[k]? = w'.heap[k]?) → c.pred w'') : Sat R (c :: O) w' := by
 have key : ∀ {S : Nat → Prop} {w'' : World}, Agree S w' w'' → Agree S w w'' := fun {S w''} ha =>
  (show Agree S w w' from ⟨hb.os, hb.tape, hb.output, hb.size, fun k hk _ => hb.block k hk⟩).trans ha
 refine ⟨?_, fun k hk => ?_, fun p hp w'' ha => h.ro p hp w'' ((key ha).mono fun k hk hx => ?_), fun d hd w'' ha => ?_⟩
 · simp only [owned, List.nodup_append]
   exact ⟨hn, h.nodup, fun x hx y hy e => by have := (hge x hx).1; have := h.lt y hy; omega⟩
 · simp only [owned, List.mem_append] at hk
   rcases hk with hk | hk
   · exact (hge k hk).2
   · exact Nat.lt_of_lt_of_le (h.lt k hk) hb.size
 · simp only [owned, List.mem_append] at hx
   rcases hx with hx | hx
   · have := (hge k hx).1; omega
   · exact hx
 · rcases List.mem_cons.1 hd with rfl | hd
   · refine hc w'' fun k hk => ha.2.2.2.2 k (hge k hk).2 (fun hx => hx.2 hk)
   · refine h.own d hd w'' ((key ha).mono fun k hk hx => ?_)
     simp only [owned, List.mem_append] at hx
     rcases hx with ⟨hx | hx, h2⟩
     · have := (hge k hx).1; omega
     · exact ⟨hx, h2⟩
theorem bless_eq : ∀ (x y : List UInt8), Op.bytesLess x y = decide (x < y)
 | [], [] => by simp [Op.bytesLess]
 | [], _ :: _ => by simp [Op.bytesLess]
 | _ :: _, [] => by simp [Op.bytesLess]
 | a :: x, b :: y => by
   rw [Op.bytesLess, bless_eq x y]
   simp only [List.cons_lt_cons_iff]
   by_cases h : a < b
   · simp [h]
   · by_cases h2 : b < a
     · have h3 : ¬ a = b := fun e => by subst e; exact absurd h2 (by simp)
       simp [h, h2, h3]
     · have h3 : a = b := UInt8.toNat_inj.1 (by simp only [UInt8.lt_iff_toNat_lt] at h h2; omega)
       subst h3
       simp
def Asc (l : List (List UInt8)) : Prop := l.Pairwise fun a b => Op.bytesLess a b = true
abbrev constR : Value → Option (DataW Unit × List MemPlace) := fun _ => some (.lit (.bool true), [])
def mapD {β : Type} (P : Program) (kt : TypeId) (venc : β → Value) (m : GoMap (List UInt8) β) : DataW Unit := .map (((m.l.map (ent vs venc)).map (Go.WideElems.rg P kt constR)).foldr DataW.insert [])
section
variable {β : Type} {venc : β → Value} {P : Program} {kt : TypeId} {m : GoMap (List UInt8) β} {b : Nat}
theorem keyOf_vs (hk : P.underlying kt = some .string) {k : List UInt8} (h : k.length ≤ maxLen) : keyOf P kt (vs k) = some (.string k) := by
 have h2 : ByteArray.size ⟨k.toArray⟩ ≤ maxLen := h
 simp [keyOf, hk, mapKey, vs, h2]
theorem rd_ent (hk : P.underlying kt = some .string) {x : List UInt8 × β × Nat} (h : x.1.length ≤ maxLen) : Go.WideElems.rd P kt constR (ent vs venc x) = some (.string x.1, .lit (.bool true)) := by
 simp [Go.WideElems.rd, ent, keyOf_vs hk h, constR]
theorem ownsMap_of {w : World} (hk : P.underlying kt = some .string) (h : mapP vs venc b m w) (hsz : m.l.length ≤ maxLen) (hl : ∀ k ∈ m.ks, k.length ≤ maxLen) : w.ownsMap P kt constR b m.l.length (mapD P kt venc m) := by
 refine ⟨_, _, h, ⟨by simpa using hsz, ⟨?_, ?_, ?_⟩, ?_⟩, by simp, rfl⟩
 · intro x hx
   simp only [List.mem_map] at hx
   obtain ⟨q, hq, rfl⟩ := hx
   exact m.lt q hq
 · show ((m.l.map (ent vs venc)).map (·.born)).Nodup
   rw [ent_born]; exact m.born
 · show ((m.l.map (ent vs venc)).map (·.key)).Nodup
   rw [List.map_map]
   have h1 : (m.l.map ((·.key) ∘ ent vs venc)) = (m.l.map (·.1)).map vs := by rw [List.map_map]; rfl
   rw [h1]
   refine List.Pairwise.map _ (fun a b h e => h ?_) m.keys
   simpa [vs] using e
 · intro x hx
   simp only [List.mem_map] at hx
   obtain ⟨q, hq, rfl⟩ := hx
   exact ⟨_, rd_ent hk (hl _ (List.mem_map_of_mem hq))⟩
theorem mapD_keys (hk : P.underlying kt = some .string) (hl : ∀ k ∈ m.ks, k.length ≤ maxLen) : (strKeys (mapD P kt venc m)).Perm m.ks := by
 show ((((m.l.map (ent vs venc)).map (Go.WideElems.rg P kt constR)).foldr DataW.insert []).map fun p => strOf p.1).Perm m.ks
 refine ((Go.WideShapes.sorted_perm _).map _).trans ?_
 rw [List.map_map, List.map_map]
 refine List.Perm.of_eq (List.map_congr_left fun q hq => ?_)
 show strOf (Go.WideElems.rg P kt constR (ent vs venc q)).1 = q.1
 rw [Go.WideElems.rg_of (rd_ent hk (hl _ (List.mem_map_of_mem hq)))]; rfl
theorem mapD_size (P : Program) (kt : TypeId) (venc : β → Value) (m : GoMap (List UInt8) β) : Go.Maps.size (mapD P kt venc m) = m.l.length := by
 show ((((m.l.map (ent vs venc)).map (Go.WideElems.rg P kt constR)).foldr DataW.insert [])).length = _
 rw [(Go.WideShapes.sorted_perm _).length_eq]; simp
theorem sort_asc {l : List (List UInt8)} (hn : l.Nodup) : Asc (l.mergeSort leB) ∧ (l.mergeSort leB).Perm l := by
 have tr : ∀ a b c : List UInt8, leB a b = true → leB b c = true → leB a c = true := fun a b c h1 h2 => by simp only [leB, decide_eq_true_eq] at *; exact List.le_trans h1 h2
 have tot : ∀ a b : List UInt8, (leB a b || leB b a) = true := fun a b => by simp only [leB, Bool.or_eq_true, decide_eq_true_eq]; exact List.le_total a b
 have hp := List.mergeSort_perm l leB
 refine ⟨?_, hp⟩
 have h1 := List.pairwise_mergeSort tr tot l
 have h2 : (l.mergeSort leB).Nodup := hp.nodup_iff.2 hn
 refine (h1.and h2).imp fun {a b} ⟨h3, h4⟩ => ?_
 rw [bless_eq, decide_eq_true_eq]
 simp only [leB, decide_eq_true_eq] at h3
 rcases Classical.em (a < b) with h5 | h5
 · exact h5
 · exact absurd (List.le_antisymm h3 (List.not_lt.1 h5)) h4
theorem Fun.sortedKeys {f : FuncId} {args : Array Value} {R : List RO} {O : List Own} {st : TypeId} {POST : Value → List RO → List Own → Prop}
 (h : ∀ w, Sat R O w → Calls P f args w fun e w' => ∃ (v : Value) (ss : List (List UInt8)), e = .returned v ∧ ss.Perm (strKeys (mapD P kt venc m)) ∧ w'.ownsRow w.heap.size st 1 v ss.length ((ss.mergeSort (fun x y => decide (x ≤ y))).map Go.Proofs.encStr) ∧ (v = .slice none 0 0 ↔ ss = []) ∧ Below w.heap.size w w')
 (hk : P.underlying kt = some .string) (hl : ∀ k ∈ m.ks, k.length ≤ maxLen)
 (c : ∀ v ks, Asc ks → (∀ k, k ∈ ks ↔ k ∈ m.ks) → ks.length = m.l.length → POST v R (accC st 1 (SL.one vs) v ks :: O)) : Fun P f args R O POST := by
 intro w hs
 refine (h w hs).mono fun e w' ⟨v, ss, he, hp, hrow, _, hb⟩ => ?_
 have hp' := hp.trans (mapD_keys hk hl)
 obtain ⟨ha, hq⟩ := sort_asc (hp'.nodup_iff.2 (show m.ks.Nodup from m.keys))
 have hlen : (ss.mergeSort leB).length = ss.length := hq.length_eq
 have hfm : (ss.mergeSort leB).flatMap (SL.one vs) = (ss.mergeSort leB).map Go.Proofs.encStr := by
  generalize ss.mergeSort leB = l
  induction l with
  | nil => rfl
  | cons a l ih => rw [List.flatMap_cons, ih, List.map_cons]; rfl
 refine ⟨v, _, _, he, c v (ss.mergeSort leB) ha (fun k => (hq.trans hp').mem_iff) ((hq.trans hp').length_eq.trans (by simp [GoMap.ks])), hs.belowOwn hb ?_ ?_ ?_⟩
 · show (v.ownBlock.toList).Nodup
   cases v.ownBlock <;> simp
 · intro k hk'
   rcases hrow.2 with ⟨rfl, _⟩ | ⟨g, cap, cur, rfl, hg, h1, _⟩
   · simp [accC, Value.ownBlock] at hk'
   · simp only [accC, Value.ownBlock, Option.toList_some, List.mem_singleton] at hk'
     subst hk'
     exact ⟨hg, (Array.getElem?_eq_some_iff.1 h1).1⟩
 · intro w'' hw
   show w''.ownsRow 0 st 1 v (ss.mergeSort leB).length ((ss.mergeSort leB).flatMap (SL.one vs))
   rw [hfm, hlen]
   refine ⟨hrow.1, ?_⟩
   rcases hrow.2 with h0 | ⟨g, cap, cur, rfl, hg, h1, hrest⟩
   · exact .inl h0
   · exact .inr ⟨g, cap, cur, rfl, Nat.zero_le _, (hw g (by simp [accC, Value.ownBlock])).trans h1, hrest⟩
end
abbrev Lt (a b : List UInt8) : Prop := Op.bytesLess a b = true
theorem Lt.iff {a b : List UInt8} : Lt a b ↔ a < b := by show Op.bytesLess a b = true ↔ _; rw [bless_eq, decide_eq_true_eq]
theorem Lt.irrefl {a : List UInt8} : ¬ Lt a a := fun h => List.lt_irrefl _ (Lt.iff.1 h)
theorem Lt.trans {a b c : List UInt8} (h : Lt a b) (h' : Lt b c) : Lt a c := Lt.iff.2 (List.lt_trans (Lt.iff.1 h) (Lt.iff.1 h'))
theorem Lt.asymm {a b : List UInt8} (h : Lt a b) (h' : Lt b a) : False := Lt.irrefl (h.trans h')
theorem Lt.total {a b : List UInt8} (h : ¬ Lt a b) (hne : a ≠ b) : Lt b a := by
 rw [Lt.iff] at h ⊢
 rcases Classical.em (b < a) with h5 | h5
 · exact h5
 · exact absurd (List.le_antisymm (List.not_lt.1 h5) (List.not_lt.1 h)) hne
theorem Lt.flip (a b : List UInt8) : (Op.bytesLess a b || a == b) = decide (¬ Lt b a) := by
 by_cases h : Lt b a
 · rw [decide_eq_false (by simpa using h)]
   have h1 : ¬ Lt a b := fun h' => h'.asymm h
   have h2 : a ≠ b := fun e => by subst e; exact h.irrefl
   simp [show Op.bytesLess a b = false from Bool.eq_false_iff.2 h1, h2]
 · rw [decide_eq_true h]
   by_cases e : a = b
   · simp [e]
   · rw [show Op.bytesLess a b = true from Lt.total h (fun h => e h.symm)]; rfl
section
variable {P : Program} {o : Oper} {L : Env} {R : List RO} {O : List Own} {t t' : TypeId} {x y : Operand} {s r : List UInt8}
theorem Rd.sleqP (ho : o.op = .binOp .leq t x y t') (hx : ev L x = some (vs s)) (hy : ev L y = some (vs r)) : Rd P o L R O (.bool (decide (¬ Lt r s))) := by
 have h := Rd.sleq (P := P) (R := R) (O := O) ho hx hy
 rwa [Lt.flip] at h
end
theorem Asc.uniq : ∀ {l l' : List (List UInt8)}, Asc l → Asc l' → (∀ x, x ∈ l ↔ x ∈ l') → l = l'
 | [], [], _, _, _ => rfl
 | [], b :: _, _, _, h => absurd ((h b).2 List.mem_cons_self) (by simp)
 | a :: _, [], _, _, h => absurd ((h a).1 List.mem_cons_self) (by simp)
 | a :: l, b :: l', h1, h2, h => by
   rw [Asc, List.pairwise_cons] at h1 h2
   have e : a = b := by
    rcases List.mem_cons.1 ((h a).1 List.mem_cons_self) with e | e
    · exact e
    · rcases List.mem_cons.1 ((h b).2 List.mem_cons_self) with e' | e'
      · exact e'.symm
      · exact (Lt.asymm (h2.1 a e) (h1.1 b e')).elim
   subst e
   rw [Asc.uniq (l := l) (l' := l') h1.2 h2.2 fun x => ?_]
   constructor
   · intro hx
     rcases List.mem_cons.1 ((h x).1 (List.mem_cons_of_mem _ hx)) with e | e
     · subst e; exact (Lt.irrefl (h1.1 _ hx)).elim
     · exact e
   · intro hx
     rcases List.mem_cons.1 ((h x).2 (List.mem_cons_of_mem _ hx)) with e | e
     · subst e; exact (Lt.irrefl (h2.1 _ hx)).elim
     · exact e
theorem Asc.nodup {l : List (List UInt8)} (h : Asc l) : l.Nodup := List.Pairwise.imp (fun h e => by subst e; exact Lt.irrefl h) h
theorem Asc.of_steps : ∀ {l : List (List UInt8)}, (∀ i, i + 1 < l.length → Lt l[i]! l[i + 1]!) → Asc l
 | [], _ => List.Pairwise.nil
 | [_], _ => List.pairwise_singleton _ _
 | a :: b :: l, h => by
   have ih : Asc (b :: l) := Asc.of_steps fun i hi => by
    have := h (i + 1) (by simp only [List.length_cons] at hi ⊢; omega)
    simpa using this
   refine List.pairwise_cons.2 ⟨fun x hx => ?_, ih⟩
   have h0 : Lt a b := by simpa using h 0 (by simp)
   rcases List.mem_cons.1 hx with e | e
   · subst e; exact h0
   · exact h0.trans ((List.pairwise_cons.1 ih).1 x e)
theorem Asc.steps {l : List (List UInt8)} (h : Asc l) {i : Nat} (hi : i + 1 < l.length) : Lt l[i]! l[i + 1]! := by
 rw [getElem!_pos l i Z.W, getElem!_pos l (i + 1) hi]
 exact List.pairwise_iff_getElem.1 h i (i + 1) Z.W hi Z.W
end Go.SL
namespace Go.Proofs.YtnjfgcpmcjmddaaGreatDoor.Kd
open Go Go.SL
abbrev vid (v : Value) : Value := v
abbrev It := List UInt8 × List UInt8
def encI (x : It) : List Value := [vs x.1, vs x.2]
abbrev Sd := List UInt8 × Bool
abbrev sdv (s : Sd) : Value := .agg #[vs s.1, .bool s.2]
structure Ch where
 key : List UInt8
 old : Sd
 new : Sd
deriving DecidableEq
structure Cf where
 key : List UInt8
 base : Sd
 ours : Sd
 theirs : Sd
deriving DecidableEq
def encF (x : Cf) : List Value := [vs x.key, vs x.base.1, .bool x.base.2, vs x.ours.1, .bool x.ours.2, vs x.theirs.1, .bool x.theirs.2]
instance : Inhabited Ch := ⟨⟨[], ([], false), ([], false)⟩⟩
instance : Inhabited Cf := ⟨⟨[], ([], false), ([], false), ([], false)⟩⟩
def RightP (l : List It) : Prop := ∀ i, i < l.length - 1 → Lt l[i]!.1 l[i + 1]!.1
instance (l : List It) : Decidable (RightP l) := by unfold RightP; infer_instance
theorem map_get! {α β : Type} [Inhabited α] [Inhabited β] (f : α → β) {l : List α} {i : Nat} (h : i < l.length) : (l.map f)[i]! = f l[i]! := by
 rw [getElem!_pos _ i (by simpa using h), getElem!_pos l i h]; simp
theorem RightP.asc {l : List It} (h : RightP l) : Asc (l.map (·.1)) := Asc.of_steps fun i hi => by
 rw [List.length_map] at hi
 rw [map_get! _ Z.W, map_get! _ hi]
 exact h i Z.W
theorem RightP.of {l : List It} (h : Asc (l.map (·.1))) : RightP l := fun i hi => by
 have := h.steps (i := i) (by rw [List.length_map]; omega)
 rwa [map_get! _ Z.W, map_get! _ Z.W] at this
theorem RightP.nodup {l : List It} (h : RightP l) : (l.map (·.1)).Nodup := h.asc.nodup
def look (l : List It) (k : List UInt8) : Option Sd := (l.find? fun x => decide (x.1 = k)).map fun x => (x.2, true)
def says (l : List It) (k : List UInt8) : Sd := (look l k).getD ([], false)
theorem look_none {l : List It} {k : List UInt8} : look l k = none ↔ k ∉ l.map (·.1) := by
 unfold look
 rw [Option.map_eq_none_iff, List.find?_eq_none]
 constructor
 · intro h hk
   obtain ⟨x, hx, rfl⟩ := List.mem_map.1 hk
   exact h x hx (by simp)
 · intro h x hx
   simp only [decide_eq_true_eq]
   rintro rfl
   exact h (List.mem_map_of_mem hx)
theorem look_snoc {l : List It} {x : It} (h : x.1 ∉ l.map (·.1)) (k : List UInt8) : look (l ++ [x]) k = if k = x.1 then some (x.2, true) else look l k := by
 by_cases e : k = x.1
 · subst e
   rw [if_pos rfl]
   have h1 := look_none.2 h
   unfold look at h1 ⊢
   rw [Option.map_eq_none_iff] at h1
   rw [List.find?_append, h1]; simp
 · rw [if_neg e]
   unfold look
   rw [List.find?_append]
   have : ([x].find? fun y => decide (y.1 = k)) = none := by simp; exact fun h => e h.symm
   rw [this, Option.or_none]
def MapOf (m : GoMap (List UInt8) Sd) (l : List It) : Prop := (∀ k, m.get k = look l k) ∧ m.l.length ≤ l.length
theorem MapOf.zero : MapOf GoMap.empty [] := ⟨fun _ => rfl, Nat.le_refl _⟩
theorem take_snoc {α : Type} [Inhabited α] {l : List α} {i : Nat} (h : i < l.length) : l.take (i + 1) = l.take i ++ [l[i]!] := by
 rw [List.take_add_one, List.getElem?_eq_getElem h, getElem!_pos l i h]; rfl
theorem nodup_take {l : List It} (hn : (l.map (·.1)).Nodup) {i : Nat} (h : i < l.length) : l[i]!.1 ∉ (l.take i).map (·.1) := by
 have : ((l.take (i + 1)).map (·.1)).Nodup := by rw [List.map_take]; exact hn.sublist (List.take_sublist _ _)
 rw [take_snoc h, List.map_append, List.nodup_append] at this
 intro hm
 exact this.2.2 _ hm _ (by simp) rfl
theorem MapOf.step {m : GoMap (List UInt8) Sd} {l : List It} {i : Nat} (hn : (l.map (·.1)).Nodup) (hi : i < l.length) (h : MapOf m (l.take i)) : MapOf (m.set l[i]!.1 (l[i]!.2, true)) (l.take (i + 1)) := by
 refine ⟨fun k => ?_, ?_⟩
 · rw [GoMap.get_set, take_snoc hi, look_snoc (nodup_take hn hi), h.1 k]
 · have h1 := h.2
   have h2 := GoMap.set_len_le m l[i]!.1 (l[i]!.2, true)
   rw [List.length_take] at h1 ⊢
   omega
theorem MapOf.ks {m : GoMap (List UInt8) Sd} {l : List It} (h : MapOf m l) (k : List UInt8) : k ∈ m.ks ↔ k ∈ l.map (·.1) := by
 rw [GoMap.mem_ks]
 constructor
 · rintro ⟨v, hv⟩
   rw [h.1 k] at hv
   rcases Classical.em (k ∈ l.map (·.1)) with e | e
   · exact e
   · rw [look_none.2 e] at hv; cases hv
 · intro hk
   rw [h.1 k]
   cases e : look l k with
   | none => exact absurd hk (look_none.1 e)
   | some v => exact ⟨v, rfl⟩
section
variable {R : List RO} {O : List Own} {POST : Value → List RO → List Own → Prop} {l : List It} {lv : Value}
set_option maxRecDepth 20000 in
theorem right_spec (hl : SlE encI lv l ∈ R) (hk : POST (.bool (decide (RightP l))) R O) : Fun Tryz.prog 15 #[lv] R O POST := by
 refine Fun.len hl fun hll => ?_
 refine Fun.enter (l := [_]) Tryz.func15 rfl Tryz.ntmps15 rfl (L0 := [(0, _)]) rfl ?_
 refine Z.s1 <| Z.a1 rfl <| Z.n1 <| Z.s2 <| Z.a1 rfl <| Z.n1 ?_
 refine WC.block ?_
 refine WC.pick [3, 0] Z.P ?_
 refine WC.loop1o 1 (fun (i : Nat) => [(3, .int .i64 ((i : Int) + 1))]) (fun (i : Nat) => (i ≤ l.length - 1) ∧ ∀ j, j < i → Lt l[j]!.1 l[j + 1]!.1) (fun (i : Nat) => l.length - i) (0) Z.L ?hinv1 (by repeat (first | exact Sub.nil | refine Sub.cons rfl (by rfl) ?_)) (fun _ h => h) ?_
 case hinv1 =>
  exact ⟨Nat.zero_le _, fun j hj => absurd hj (Nat.not_lt_zero _)⟩
 intro i
 rintro ⟨i1, i2⟩
 refine Z.s2 <| Z.m1 rfl <| Z.m1 rfl <| Z.r1 rfl (by exact Rd.lenE rfl rfl Tryz.underlying25 Z.M) ?_
 refine Z.r1 rfl (Rd.lss rfl rfl rfl) <| Z.n1 ?_
 refine WC.ite rfl (fun hc1 => ?_) (fun hc1 => ?_)
 ·
  refine WC.skip ?_
  refine thenQ.normal ?_
  refine WC.seq ?_
  refine WC.block ?_
  refine WC.seq ?_
  refine WC.still mixed Z.K ?_
  refine Z.b1 rfl (Rd.move rfl rfl) <| Z.b1 rfl (Rd.move rfl rfl) <| Z.b1 rfl (by exact Rd.idx (k := i + 1) rfl S25 rfl rfl Z.W Z.M Z.W) ?_
  refine Z.b1 rfl (by exact Rd.fieldE rfl F35_0 rfl Z.M Z.W) ?_
  refine Z.b1 rfl (by exact Rd.getF rfl C9 rfl Z.M (by intro x; rfl) rfl (by exact get!_of_lt Z.W) (by rfl)) ?_
  refine Z.b1 rfl (Rd.move rfl rfl) <| Z.b1 rfl (Rd.move rfl rfl) <| Z.b1 rfl (Rd.sub rfl rfl rfl Z.W) ?_
  refine Z.b1 rfl (by exact Rd.idx (k := i) rfl S25 rfl rfl Z.W Z.M Z.W) ?_
  refine Z.b1 rfl (by exact Rd.fieldE rfl F35_0 rfl Z.M Z.W) ?_
  refine Z.b1 rfl (by exact Rd.getF rfl C9 rfl Z.M (by intro x; rfl) rfl (by exact get!_of_lt Z.W) (by rfl)) ?_
  refine Z.b1 rfl (Rd.sleqP rfl rfl rfl) ?_
  refine WA.nil ?_
  refine thenQ.normal ?_
  refine WC.ite rfl (fun hc2 => ?_) (fun hc2 => ?_)
  ·
   refine Z.s1 <| Z.a1 rfl <| Z.n1 ?_
   refine WC.ret (Ret.one Tryz.results15 rfl ?_)
   rw [decide_eq_false (fun h => hc2 (h i Z.W))] at hk
   exact hk
  ·
   refine WC.skip ?_
   refine blockQ.normal ?_
   refine thenQ.normal ?_
   refine WC.region ?_
   refine Z.m1 rfl <| Z.r1 rfl (Rd.add rfl rfl rfl Z.W) ?_
   refine Z.a1 rfl ?_
   refine WL.nil ?_
   exact loopQ1.mk (i + 1) ⟨by omega, fun j hj => by
   rcases Nat.lt_or_ge j i with h | h
   · exact i2 j h
   · obtain rfl : j = i := by omega
     exact Decidable.not_not.1 hc2⟩ Z.W (by repeat (first | exact Sub.nil | refine Sub.cons rfl (by rfl) ?_)) Z.F
 ·
  refine WC.exit ?_
  refine thenQ.exit ?_
  refine loopQ1.exit ?_
  refine blockQ.exit ?_
  refine thenQ.normal ?_
  refine Z.s1 <| Z.a1 rfl <| Z.n1 ?_
  refine WC.ret (Ret.one Tryz.results15 rfl ?_)
  rw [decide_eq_true (show RightP l from fun j hj => i2 j Z.W)] at hk
  exact hk
set_option maxRecDepth 20000 in
theorem of_spec (hl : SlE encI lv l ∈ R) (hn : (l.map (·.1)).Nodup) (hk : ∀ b m, MapOf m l → POST (.map (some b)) R (mapC vs sdv b m :: O)) : Fun Tryz.prog 16 #[lv] R O POST := by
 refine Fun.len hl fun hll => ?_
 refine Fun.enter (l := [_]) Tryz.func16 rfl Tryz.ntmps16 rfl (L0 := [(0, _)]) rfl ?_
 refine Z.s1 <| Z.a1 rfl <| Z.q1 ?_
 refine WL.op rfl ?_
 refine OpW.makeMap vs sdv rfl rfl rfl ?_; intro b6
 refine Z.a1 rfl <| Z.n1 <| Z.s2 <| Z.m1 rfl <| Z.r1 rfl (by exact Rd.lenE rfl rfl Tryz.underlying25 Z.M) ?_
 refine Z.m1 rfl <| Z.n1 ?_
 refine WC.block ?_
 refine WC.pick [9, 3, 7, 8] Z.P ?_
 refine WC.loop2 1 (fun (i : Nat) (m : GoMap (List UInt8) Sd) => [(9, .int .i64 (i : Int))]) (fun (i : Nat) (m : GoMap (List UInt8) Sd) => mapC vs sdv b6 m :: O) (fun (i : Nat) (m : GoMap (List UInt8) Sd) => i ≤ l.length ∧ MapOf m (l.take i)) (fun (i : Nat) (m : GoMap (List UInt8) Sd) => l.length - i) (0) (GoMap.empty) Z.L ?hinv1 (by repeat (first | exact Sub.nil | refine Sub.cons rfl (by rfl) ?_)) (fun _ h => h) ?_
 case hinv1 =>
  exact ⟨Nat.zero_le _, MapOf.zero⟩
 intro i m
 rintro ⟨i1, i2⟩
 refine Z.s1 <| Z.r1 rfl (Rd.lss rfl rfl rfl) <| Z.n1 ?_
 refine WC.seq ?_
 refine WC.ite rfl (fun hc1 => ?_) (fun hc1 => ?_)
 ·
  refine WC.skip ?_
  refine thenQ.normal ?_
  refine WC.seq ?_
  refine WC.block ?_
  refine Z.s1 <| Z.r1 rfl (by exact Rd.idx (k := i) rfl S25 rfl rfl Z.W Z.M Z.W) ?_
  refine Z.r1 rfl (by exact Rd.getS rfl G35 rfl Z.M (by intro x; rfl) (by exact get!_of_lt Z.W) Z.N) ?_
  refine WL.op rfl ?_
  refine OpW.alloc rfl I35 rfl Z.N rfl rfl ?_; intro b5
  refine WL.op rfl ?_
  refine OpW.storeS rfl G35 rfl rfl Z.N Z.T rfl rfl Z.N rfl ?_
  refine Z.g1 <| Z.m1 rfl <| Z.r1 rfl (by exact Rd.field rfl F35_0 rfl rfl) ?_
  refine Z.r1 rfl (Rd.row1 (b := b5) (off := 0) (u := vs l[i]!.1) rfl C9 rfl Z.M rfl) ?_
  refine Z.r1 rfl (by exact Rd.field rfl F35_1 rfl rfl) ?_
  refine Z.r1 rfl (Rd.row1 (b := b5) (off := 1) (u := vs l[i]!.2) rfl C9 rfl Z.M rfl) ?_
  refine Z.r1 rfl (Rd.buildN (ps := [(0, _), (1, _)]) rfl Bs54 I54 rfl Z.E Z.C (by apply NFo.mk; repeat (first | exact NF.nil | apply NF.cons))) ?_
  refine WL.op rfl ?_
  refine OpW.mapUpdate (venc := sdv) (v := (l[i]!.2, true)) M50 K9 rfl rfl rfl rfl Z.T (by rfl) (by rfl) rfl ?_
  refine WL.nil ?_
  refine blockQ.normal ?_
  refine thenQ.normal ?_
  refine WC.region ?_
  refine Z.r1 rfl (Rd.add rfl rfl rfl Z.W) ?_
  refine Z.m1 rfl ?_
  refine WL.nil ?_
  exact loopQ2.mk (i + 1) (m.set l[i]!.1 (l[i]!.2, true)) ⟨by omega, i2.step hn Z.W⟩ Z.W (by repeat (first | exact Sub.nil | refine Sub.cons rfl (by rfl) ?_)) Z.F
 ·
  refine WC.exit ?_
  refine thenQ.exit ?_
  refine loopQ2.exit ?_
  refine blockQ.exit ?_
  refine thenQ.normal ?_
  refine Z.s1 <| Z.m1 rfl <| Z.a1 rfl <| Z.n1 ?_
  refine WC.ret (Ret.one Tryz.results16 rfl ?_)
  rw [List.take_of_length_le Z.W] at i2
  exact hk b6 m i2
end
end Go.Proofs.YtnjfgcpmcjmddaaGreatDoor.Kd
namespace Go.Proofs
open Go.Shelf
def Tryz.sort54_ren : Go.Shelf.Ren := ⟨fun | 6 => 54 | 8 => 90 | 9 => 89 | 19 => 157 | 20 => 158 | 21 => 148 | 22 => 149 | 23 => 150 | 24 => 151 | 25 => 152 | 26 => 153 | 27 => 154 | 28 => 155 | 29 => 156 | 36 => 223 | 31 => 224 | 32 => 225 | 37 => 226 | 38 => 227 | 39 => 228 | 41 => 280 | n => n, fun | 27 => 24 | 29 => 9 | 3 => 3 | 32 => 139 | 26 => 24 | 0 => 0 | 44 => 272 | 46 => 274 | 4 => 4 | 36 => 266 | 35 => 265 | 41 => 218 | 5 => 5 | 9 => 9 | 53 => 339 | 57 => 343 | 63 => 418 | 64 => 419 | n => n, fun | n => n⟩
theorem Tryz.sort54 : Go.Proofs.SlLaysM.n6 Tryz.prog Tryz.sort54_ren := {
 mixed := by kernel_rfl
 f6 := ⟨Tryz.f54.name, by decide, Tryz.func54.trans (congrArg some (by kernel_rfl))⟩
 f8 := Tryz.func90.trans (congrArg some (by kernel_rfl))
 f9 := ⟨Tryz.f89.name, by decide, Tryz.func89.trans (congrArg some (by kernel_rfl))⟩
 f19 := Tryz.func157.trans (congrArg some (by kernel_rfl))
 f20 := Tryz.func158.trans (congrArg some (by kernel_rfl))
 f21 := ⟨Tryz.f148.name, by decide, Tryz.func148.trans (congrArg some (by kernel_rfl))⟩
 f22 := ⟨Tryz.f149.name, by decide, Tryz.func149.trans (congrArg some (by kernel_rfl))⟩
 f23 := ⟨Tryz.f150.name, by decide, Tryz.func150.trans (congrArg some (by kernel_rfl))⟩
 f24 := ⟨Tryz.f151.name, by decide, Tryz.func151.trans (congrArg some (by kernel_rfl))⟩
 f25 := ⟨Tryz.f152.name, by decide, Tryz.func152.trans (congrArg some (by kernel_rfl))⟩
 f26 := ⟨Tryz.f153.name, by decide, Tryz.func153.trans (congrArg some (by kernel_rfl))⟩
 f27 := ⟨Tryz.f154.name, by decide, Tryz.func154.trans (congrArg some (by kernel_rfl))⟩
 f28 := ⟨Tryz.f155.name, by decide, Tryz.func155.trans (congrArg some (by kernel_rfl))⟩
 f29 := ⟨Tryz.f156.name, by decide, Tryz.func156.trans (congrArg some (by kernel_rfl))⟩
 f31 := Tryz.func224.trans (congrArg some (by kernel_rfl))
 f32 := Tryz.func225.trans (congrArg some (by kernel_rfl))
 f36 := ⟨Tryz.f223.name, by decide, Tryz.func223.trans (congrArg some (by kernel_rfl))⟩
 f37 := ⟨Tryz.f226.name, by decide, Tryz.func226.trans (congrArg some (by kernel_rfl))⟩
 f38 := ⟨Tryz.f227.name, by decide, Tryz.func227.trans (congrArg some (by kernel_rfl))⟩
 f39 := ⟨Tryz.f228.name, by decide, Tryz.func228.trans (congrArg some (by kernel_rfl))⟩
 f41 := ⟨Tryz.f280.name, by decide, Tryz.func280.trans (congrArg some (by kernel_rfl))⟩
 t0 := Tryz.underlying0
 a0 := Tryz.isAgg0
 z0 := Tryz.sizeOf0
 v0 := Tryz.zeroValue0
 t3 := Tryz.underlying3
 a3 := Tryz.isAgg3
 z3 := Tryz.sizeOf3
 v3 := Tryz.zeroValue3
 t4 := Tryz.underlying4
 a4 := Tryz.isAgg4
 z4 := Tryz.sizeOf4
 v4 := Tryz.zeroValue4
 t5 := Tryz.underlying5
 a5 := Tryz.isAgg5
 z5 := Tryz.sizeOf5
 v5 := Tryz.zeroValue5
 t9 := Tryz.underlying9
 a9 := Tryz.isAgg9
 z9 := Tryz.sizeOf9
 v9 := Tryz.zeroValue9
 t26 := Tryz.underlying24
 a26 := Tryz.isAgg24
 z26 := Tryz.sizeOf24
 v26 := Tryz.zeroValue24
 t27 := Tryz.underlying24
 a27 := Tryz.isAgg24
 z27 := Tryz.sizeOf24
 v27 := Tryz.zeroValue24
 t29 := Tryz.underlying9
 a29 := Tryz.isAgg9
 z29 := Tryz.sizeOf9
 v29 := Tryz.zeroValue9
 t32 := Tryz.underlying139
 a32 := Tryz.isAgg139
 z32 := Tryz.sizeOf139
 v32 := Tryz.zeroValue139
 t35 := Tryz.underlying265
 a35 := Tryz.isAgg265
 z35 := Tryz.sizeOf265
 v35 := Tryz.zeroValue265
 t36 := Tryz.underlying266
 a36 := Tryz.isAgg266
 z36 := Tryz.sizeOf266
 v36 := Tryz.zeroValue266
 t41 := Tryz.underlying218
 a41 := Tryz.isAgg218
 z41 := Tryz.sizeOf218
 v41 := Tryz.zeroValue218
 t44 := Tryz.underlying272
 a44 := Tryz.isAgg272
 z44 := Tryz.sizeOf272
 v44 := Tryz.zeroValue272
 t46 := Tryz.underlying274
 a46 := Tryz.isAgg274
 z46 := Tryz.sizeOf274
 v46 := Tryz.zeroValue274
 t53 := Tryz.underlying339
 a53 := Tryz.isAgg339
 z53 := Tryz.sizeOf339
 v53 := Tryz.zeroValue339
 t57 := Tryz.underlying343
 a57 := Tryz.isAgg343
 z57 := Tryz.sizeOf343
 v57 := Tryz.zeroValue343
 t63 := Tryz.underlying418
 a63 := Tryz.isAgg418
 z63 := Tryz.sizeOf418
 v63 := Tryz.zeroValue418
 t64 := Tryz.underlying419
 a64 := Tryz.isAgg419
 z64 := Tryz.sizeOf419
 v64 := Tryz.zeroValue419 }
def Tryz.sorted31_ren : Go.Shelf.Ren := ⟨fun | 6 => 31 | 8 => 39 | 9 => 54 | 11 => 59 | 13 => 90 | 12 => 89 | 23 => 157 | 24 => 158 | 14 => 148 | 15 => 149 | 16 => 150 | 17 => 151 | 18 => 152 | 19 => 153 | 20 => 154 | 21 => 155 | 22 => 156 | 25 => 223 | 26 => 224 | 27 => 225 | 28 => 226 | 29 => 227 | 30 => 228 | 31 => 280 | n => n, fun | 26 => 9 | 28 => 78 | 24 => 24 | 0 => 0 | 3 => 3 | 37 => 139 | 48 => 272 | 50 => 274 | 4 => 4 | 40 => 266 | 39 => 265 | 45 => 218 | 5 => 5 | 9 => 9 | 51 => 339 | 55 => 343 | 57 => 418 | 58 => 419 | 33 => 44 | n => n, fun | n => n⟩
theorem Tryz.sorted31 : Go.Proofs.SlLaysZ.n6 Tryz.prog Tryz.sorted31_ren := {
 mixed := by kernel_rfl
 f6 := ⟨Tryz.f31.name, by decide, Tryz.func31.trans (congrArg some (by kernel_rfl))⟩
 f8 := ⟨Tryz.f39.name, by decide, Tryz.func39.trans (congrArg some (by kernel_rfl))⟩
 f11 := ⟨Tryz.f59.name, by decide, Tryz.func59.trans (congrArg some (by kernel_rfl))⟩
 t0 := Tryz.underlying0
 a0 := Tryz.isAgg0
 z0 := Tryz.sizeOf0
 v0 := Tryz.zeroValue0
 t24 := Tryz.underlying24
 a24 := Tryz.isAgg24
 z24 := Tryz.sizeOf24
 v24 := Tryz.zeroValue24
 t26 := Tryz.underlying9
 a26 := Tryz.isAgg9
 z26 := Tryz.sizeOf9
 v26 := Tryz.zeroValue9
 t28 := Tryz.underlying78
 a28 := Tryz.isAgg78
 z28 := Tryz.sizeOf78
 v28 := Tryz.zeroValue78
 i26 := by kernel_rfl }
def Tryz.keys126_ren : Go.Shelf.Ren := ⟨fun | 7 => 126 | 10 => 197 | n => n, fun | 23 => 231 | 26 => 9 | 3 => 9 | 28 => 78 | 0 => 0 | 27 => 77 | 33 => 44 | 4 => 4 | n => n, fun | n => n⟩
def Tryz.keys32_ren : Go.Shelf.Ren := ⟨fun | 7 => 32 | 10 => 55 | n => n, fun | 23 => 50 | 26 => 9 | 3 => 54 | 28 => 78 | 0 => 0 | 27 => 77 | 33 => 44 | 4 => 4 | n => n, fun | n => n⟩
theorem Tryz.keys32 : Go.Proofs.SlLaysZ.n7 Tryz.prog Tryz.keys32_ren := {
 mixed := by kernel_rfl
 f7 := ⟨Tryz.f32.name, by decide, Tryz.func32.trans (congrArg some (by kernel_rfl))⟩
 f10 := ⟨Tryz.f55.name, by decide, Tryz.func55.trans (congrArg some (by kernel_rfl))⟩
 t0 := Tryz.underlying0
 a0 := Tryz.isAgg0
 z0 := Tryz.sizeOf0
 v0 := Tryz.zeroValue0
 t4 := Tryz.underlying4
 a4 := Tryz.isAgg4
 z4 := Tryz.sizeOf4
 v4 := Tryz.zeroValue4
 t23 := Tryz.underlying50
 a23 := Tryz.isAgg50
 z23 := Tryz.sizeOf50
 v23 := Tryz.zeroValue50
 t26 := Tryz.underlying9
 a26 := Tryz.isAgg9
 z26 := Tryz.sizeOf9
 v26 := Tryz.zeroValue9
 t27 := Tryz.underlying77
 a27 := Tryz.isAgg77
 z27 := Tryz.sizeOf77
 v27 := Tryz.zeroValue77
 t28 := Tryz.underlying78
 a28 := Tryz.isAgg78
 z28 := Tryz.sizeOf78
 v28 := Tryz.zeroValue78
 t33 := Tryz.underlying44
 a33 := Tryz.isAgg44
 z33 := Tryz.sizeOf44
 v33 := Tryz.zeroValue44 }
end Go.Proofs
namespace Go.Proofs.YtnjfgcpmcjmddaaGreatDoor.Kd
open Go Go.SL
abbrev one {α : Type} (g : α → Value) : α → List Value := Go.SL.one g
section
variable {R : List RO} {O O' : List Own} {POST : Value → List RO → List Own → Prop}
def Poured (m1 m2 m : GoMap (List UInt8) Sd) (seen : List Nat) : Prop :=
 seen.Nodup ∧ (∀ s ∈ seen, s ∈ m2.l.map (·.2.2)) ∧ m.l.length ≤ m1.l.length + seen.length ∧ ∀ k, (m.get k).isSome = ((m1.get k).isSome || m2.l.any fun x => decide (x.1 = k) && decide (x.2.2 ∈ seen))
theorem Poured.len {m1 m2 m : GoMap (List UInt8) Sd} {seen : List Nat} (h : Poured m1 m2 m seen) : seen.length ≤ m2.l.length := by
 have := nodup_len h.1 h.2.1
 simpa using this
theorem Poured.step {m1 m2 m : GoMap (List UInt8) Sd} {seen : List Nat} (h : Poured m1 m2 m seen) {x : List UInt8 × Sd × Nat} (hx : x ∈ m2.l) (hn : x.2.2 ∉ seen) : Poured m1 m2 (m.set x.1 x.2.1) (seen ++ [x.2.2]) := by
 refine ⟨?_, fun s hs => ?_, ?_, fun k => ?_⟩
 · rw [List.nodup_append]
   exact ⟨h.1, by simp, fun a ha b hb e => by simp only [List.mem_singleton] at hb; subst hb; subst e; exact hn ha⟩
 · rcases List.mem_append.1 hs with hs | hs
   · exact h.2.1 s hs
   · simp only [List.mem_singleton] at hs; subst hs; exact List.mem_map_of_mem hx
 · have := GoMap.set_len_le m x.1 x.2.1
   have := h.2.2.1
   simp only [List.length_append, List.length_singleton]; omega
 · rw [GoMap.get_set]
   by_cases e : k = x.1
   · rw [if_pos e]
     have : (m2.l.any fun y => decide (y.1 = k) && decide (y.2.2 ∈ seen ++ [x.2.2])) = true := List.any_eq_true.2 ⟨x, hx, by simp [e]⟩
     rw [this]; simp
   · rw [if_neg e, h.2.2.2 k]
     congr 1
     rw [Bool.eq_iff_iff, List.any_eq_true, List.any_eq_true]
     constructor
     · rintro ⟨y, hy, h2⟩
       simp only [Bool.and_eq_true, decide_eq_true_eq] at h2
       exact ⟨y, hy, by simp [h2.1, h2.2]⟩
     · rintro ⟨y, hy, h2⟩
       simp only [Bool.and_eq_true, decide_eq_true_eq, List.mem_append, List.mem_singleton] at h2
       refine ⟨y, hy, ?_⟩
       rcases h2.2 with h3 | h3
       · simp [h2.1, h3]
       · have := GoMap.nodup_inj m2.born hy hx h3
         subst this
         exact absurd h2.1.symm e
theorem Poured.all {m1 m2 m : GoMap (List UInt8) Sd} {seen : List Nat} (h : Poured m1 m2 m seen) (ha : ∀ x ∈ m2.l, x.2.2 ∈ seen) (k : List UInt8) : k ∈ m.ks ↔ k ∈ m1.ks ∨ k ∈ m2.ks := by
 have e : ∀ (q : GoMap (List UInt8) Sd), k ∈ q.ks ↔ (q.get k).isSome = true := fun q => by rw [GoMap.mem_ks, Option.isSome_iff_exists]
 rw [e, e, e, h.2.2.2 k, Bool.or_eq_true]
 refine or_congr Iff.rfl ?_
 rw [← e, List.any_eq_true]
 constructor
 · rintro ⟨y, hy, h2⟩
   simp only [Bool.and_eq_true, decide_eq_true_eq] at h2
   rw [← h2.1]; exact List.mem_map_of_mem hy
 · intro hk
   obtain ⟨y, hy, rfl⟩ := List.mem_map.1 hk
   exact ⟨y, hy, by simp [ha y hy]⟩
set_option maxRecDepth 20000 in
theorem copy_spec {b1 b2 : Nat} {m1 m2 : GoMap (List UInt8) Sd} (h2 : mapP vs sdv b2 m2 ∈ R) (hT : Take (mapC vs sdv b1 m1) O O') (hk : ∀ m, (∀ k, k ∈ m.ks ↔ k ∈ m1.ks ∨ k ∈ m2.ks) → m.l.length ≤ m1.l.length + m2.l.length → POST (.tuple #[]) R (mapC vs sdv b1 m :: O')) :
 Fun Tryz.prog 30 #[.map (some b1), .map (some b2)] R O POST := by
 refine Fun.enter (l := [_, _]) Tryz.func30 rfl Tryz.ntmps30 rfl (L0 := [(0, _), (1, _)]) rfl ?_
 refine WC.heap (R' := R) (O' := mapC vs sdv b1 m1 :: O') (fun w h => h.perm hT.perm) ?_
 refine Z.s1 <| Z.m1 rfl ?_
 refine WL.op rfl ?_
 refine OpW.rangeM (kenc := vs) (venc := sdv) (m := m2) M50 rfl rfl Z.M rfl rfl ?_; intro it
 refine Z.n1 ?_
 refine WC.block ?_
 refine WC.pick [0, 7] Z.P ?_
 refine WC.loop2 0 (fun (m : GoMap (List UInt8) Sd) (seen : List Nat) => []) (fun (m : GoMap (List UInt8) Sd) (seen : List Nat) => iterC it b2 m2.clock seen :: mapC vs sdv b1 m :: O') (fun (m : GoMap (List UInt8) Sd) (seen : List Nat) => Poured m1 m2 m seen) (fun (m : GoMap (List UInt8) Sd) (seen : List Nat) => m2.l.length - seen.length) (m1) ([]) Z.L ?hinv1 (by repeat (first | exact Sub.nil | refine Sub.cons rfl (by rfl) ?_)) (fun _ h => h) ?_
 case hinv1 =>
  exact ⟨List.nodup_nil, fun s hs => absurd hs (by simp), Nat.le_refl _, fun k => by simp⟩
 intro m seen
 rintro i1
 refine Z.s1 ?_
 refine WL.op rfl ?_
 refine OpW.nextM (kenc := vs) (venc := sdv) (m := m2) (seen := seen) rfl rfl Z.M Z.T rfl rfl ?_; intro r hr
 refine Z.r1 rfl (Rd.stepOn rfl rfl) <| Z.n1 ?_
 refine WC.seq ?_
 refine WC.ite rfl (fun hc1 => ?_) (fun hc1 => ?_)
 ·
  obtain ⟨x, rfl⟩ := Option.isSome_iff_exists.1 hc1
  refine WC.skip ?_
  refine thenQ.normal ?_
  refine WC.block ?_
  refine Z.s1 ?_
  refine WL.op rfl ?_
  refine OpW.rd rfl rfl (Rd.entryM (kenc := vs) (venc := sdv) (m := m2) (q := x) (seen := seen) rfl rfl Z.M Z.M hr.1 rfl) ?_
  refine Z.x1 rfl <| Z.x1 rfl ?_
  refine WL.op rfl ?_
  refine OpW.alloc rfl I54 rfl Z.N rfl rfl ?_; intro b5
  refine Z.a1 rfl ?_
  refine WL.op rfl ?_
  refine OpW.storeS rfl G54 rfl rfl Z.N Z.T rfl rfl Z.N rfl ?_
  refine Z.g1 <| Z.m1 rfl <| Z.m1 rfl <| Z.r1 rfl (by exact Rd.rowS rfl G54 rfl Z.M Z.N rfl) ?_
  refine WL.op rfl ?_
  refine OpW.mapUpdate (venc := sdv) (v := x.2.1) M50 K9 rfl rfl rfl rfl Z.T (by rfl) (by rfl) rfl ?_
  refine WL.nil ?_
  refine blockQ.normal ?_
  exact loopQ2.mk (m.set x.1 x.2.1) (seen ++ [x.2.2]) (i1.step hr.1 hr.2) (by have := (i1.step hr.1 hr.2).len; simp only [List.length_append, List.length_singleton] at this ⊢; omega) (by repeat (first | exact Sub.nil | refine Sub.cons rfl (by rfl) ?_)) Z.F
 ·
  obtain rfl : r = none := by
   cases r with
   | some x => exact absurd rfl hc1
   | none => rfl
  refine WC.heap (R' := R) (O' := mapC vs sdv b1 m :: O') Z.F ?_
  refine WC.exit ?_
  refine thenQ.exit ?_
  refine loopQ2.exit ?_
  refine blockQ.exit ?_
  refine Ret.normal (Ret.zero Tryz.results30 ?_)
  exact hk m (i1.all hr) (by have := i1.2.2.1; have := i1.len; omega)
set_option maxRecDepth 20000 in
theorem mapsKeys_spec {b : Nat} (hk : ∀ cb, POST (.func (.func 55) #[] #[.pointer (some ⟨cb, 0, none⟩)]) R (rowC cb 50 [.map (some b)] :: O)) : Fun Tryz.prog 32 #[.map (some b)] R O POST := by
 refine Fun.enter (l := [_]) Tryz.func32 rfl Tryz.ntmps32 rfl (L0 := [(0, _)]) rfl ?_
 refine Z.s1 ?_
 refine WL.op rfl ?_
 refine OpW.box1 rfl rfl (by exact ⟨rfl, rfl⟩) rfl rfl ?_; intro b1
 refine Z.a1 rfl <| Z.q1 <| Z.r1 rfl (Rd.func rfl Z.E Z.E ⟨_, rfl⟩) ?_
 refine Z.a1 rfl <| Z.n1 ?_
 refine WC.ret (Ret.one Tryz.results32 rfl ?_)
 exact hk b1
theorem sorts_at (m : Nat) : AnyZ.SortsIn Tryz.prog Tryz.sorted31_ren Fence.wide m :=
 ⟨fun blk off cap ss W hH hblk hsz => callsIn_wide.2 (AnyM.slices_Sort_string Tryz.sort54 blk off cap ss W hH hblk hsz),
  fun p cap W => callsIn_wide.2 (AnyM.slices_Sort_string_none Tryz.sort54 p cap W)⟩
theorem sortedKeys_at (b nn cb : Nat) (D0 : DataW Unit) (w : World) (hcb : cb < w.heap.size) (hm : w.cell? ⟨cb, 0, none⟩ = some (.map (some b))) (hown : w.ownsMap Tryz.prog 9 constR b nn D0) (hmax : Go.Maps.size D0 ≤ maxLen) (hbytes : Go.Maps.size D0 * 16 ≤ 140737488355328) :
 Calls Tryz.prog 31 #[.func (.func 55) #[] #[.pointer (some ⟨cb, 0, none⟩)]] w fun e w' => ∃ (v : Value) (ss : List (List UInt8)), e = .returned v ∧ ss.Perm (strKeys D0) ∧
  w'.ownsRow w.heap.size 9 1 v ss.length ((ss.mergeSort (fun x y => decide (x ≤ y))).map encStr) ∧ (v = .slice none 0 0 ↔ ss = []) ∧ Go.RowKit.Below w.heap.size w w' := by
 have hseq : SeqGives Fence.wide 2 Tryz.prog 55 #[.pointer (some ⟨cb, 0, none⟩)] encStr (fun ss => ss.Perm (strKeys D0)) (Go.Maps.size D0) w :=
  AnyZ.keys_gives (ρ := Tryz.keys32_ren) { Tryz.keys32 with } Fence.wide _ trivial rfl Z.W cb b nn D0 w hcb hm hown
 exact callsIn_wide.1 (AnyZ.sorted_in Tryz.sorted31 Fence.wide 5 trivial trivial trivial trivial rfl Z.W (sorts_at _) (enters_of Tryz.func54 Z.K rfl) 55 #[.pointer (some ⟨cb, 0, none⟩)] trivial (enters_of Tryz.func55 Z.K rfl) _ _ hmax hbytes _ hseq)
theorem sorted_spec {b cb : Nat} {m : GoMap (List UInt8) Sd} (hm : ∀ w, Sat R O w → mapP vs sdv b m w) (hc : rowC cb 50 [.map (some b)] ∈ O) (hsz : m.l.length ≤ 1000000) (hl : ∀ k ∈ m.ks, k.length ≤ maxLen)
 (hk : ∀ v ks, Asc ks → (∀ k, k ∈ ks ↔ k ∈ m.ks) → ks.length = m.l.length → POST v R (accC 9 1 (SL.one vs) v ks :: O)) : Fun Tryz.prog 31 #[.func (.func 55) #[] #[.pointer (some ⟨cb, 0, none⟩)]] R O POST := by
 refine Fun.sortedKeys (venc := sdv) (m := m) (fun w hs => ?_) Tryz.underlying9 hl hk
 have hcell := row_cell (hs.see hc) (j := 0) rfl
 have h1 : m.l.length ≤ maxLen := by show _ ≤ 9223372036854775807; omega
 exact sortedKeys_at b _ cb _ w (World.block_lt_of_cell? w _ hcell) hcell (ownsMap_of Tryz.underlying9 (hm w hs) h1 hl) (by rw [mapD_size]; exact h1) (by rw [mapD_size]; omega)
def sdOf (m : GoMap (List UInt8) Sd) (k : List UInt8) : Sd := (m.get k).getD ([], false)
theorem sdOf_v (m : GoMap (List UInt8) Sd) (k : List UInt8) : ((m.get k).map sdv).getD (.agg #[vs [], .bool false]) = sdv (sdOf m k) := by
 unfold sdOf
 cases m.get k <;> rfl
def itemsL (f : List UInt8 → Sd) (ks : List (List UInt8)) : List It := ks.filterMap fun k => if (f k).2 = true then some (k, (f k).1) else none
theorem itemsL_snoc (f : List UInt8 → Sd) {ks : List (List UInt8)} {i : Nat} (h : i < ks.length) : itemsL f (ks.take (i + 1)) = itemsL f (ks.take i) ++ (if (f ks[i]!).2 = true then [(ks[i]!, (f ks[i]!).1)] else []) := by
 rw [take_snoc h, itemsL, itemsL, List.filterMap_append]
 congr 1
 generalize ks[i]! = k
 rw [List.filterMap_cons]
 by_cases e : (f k).2 = true
 · rw [if_pos e, if_pos e]; rfl
 · rw [if_neg e, if_neg e]; rfl
theorem itemsL_len (f : List UInt8 → Sd) (ks : List (List UInt8)) : (itemsL f ks).length ≤ ks.length := List.length_filterMap_le _ _
set_option maxRecDepth 20000 in
theorem items_spec {b : Nat} {m : GoMap (List UInt8) Sd} (hm : mapP vs sdv b m ∈ R) (hsz : m.l.length ≤ 1000000) (hl : ∀ k ∈ m.ks, k.length ≤ maxLen)
 (hk : ∀ v ks, Asc ks → (∀ k, k ∈ ks ↔ k ∈ m.ks) → POST v R (accC 35 2 encI v (itemsL (sdOf m) ks) :: O)) : Fun Tryz.prog 18 #[.map (some b)] R O POST := by
 refine Fun.enter (l := [_]) Tryz.func18 rfl Tryz.ntmps18 rfl (L0 := [(0, _)]) rfl ?_
 refine Z.s1 <| Z.a1 rfl <| Z.q1 <| Z.a1 rfl <| Z.n1 <| Z.s2 <| Z.m1 rfl ?_
 refine WL.op rfl ?_
 refine OpW.call rfl rfl Z.E Z.K rfl rfl rfl ?_
 refine mapsKeys_spec ?_; intro cb
 refine WL.op rfl ?_
 refine OpW.call rfl rfl Z.E Z.K rfl rfl rfl ?_
 refine sorted_spec (m := m) (fun w h => h.read hm) Z.M hsz hl ?_; intro v8 ks ha hmem hlen
 refine WL.heap (R' := R) (O' := accC 35 2 encI (.slice none 0 0) [] :: accC 9 1 (SL.one vs) v8 ks :: O) (fun w h => Sat.accNil (h.perm (List.Perm.swap _ _ _)).drop) ?_
 refine Z.r1 rfl (by exact Rd.lenA rfl rfl Tryz.underlying24 Z.M) ?_
 refine Z.m1 rfl <| Z.n1 ?_
 refine WC.block ?_
 refine WC.pick [3, 10, 0, 8, 9] Z.P ?_
 refine WC.loop2 2 (fun (i : Nat) (v : Value) => [(3, v), (10, .int .i64 (i : Int))]) (fun (i : Nat) (v : Value) => accC 35 2 encI v (itemsL (sdOf m) (ks.take i)) :: accC 9 1 (SL.one vs) v8 ks :: O) (fun (i : Nat) (v : Value) => i ≤ ks.length) (fun (i : Nat) (v : Value) => ks.length - i) (0) (.slice none 0 0) Z.L ?hinv1 (by repeat (first | exact Sub.nil | refine Sub.cons rfl (by rfl) ?_)) (fun _ h => h) ?_
 case hinv1 =>
  exact Nat.zero_le _
 intro i v
 rintro i1
 refine Z.s1 <| Z.r1 rfl (Rd.lss rfl rfl rfl) <| Z.n1 ?_
 refine WC.seq ?_
 refine WC.ite rfl (fun hc1 => ?_) (fun hc1 => ?_)
 ·
  refine WC.skip ?_
  refine thenQ.normal ?_
  refine WC.seq ?_
  refine WC.block ?_
  refine Z.s1 <| Z.r1 rfl (by exact Rd.idxA1 (k := i) rfl S24 rfl rfl Z.W Z.M Z.W) ?_
  refine Z.r1 rfl (by exact Rd.getA rfl C9 rfl Z.M (by exact get!_of_lt Z.W)) ?_
  refine Z.a1 rfl <| Z.q1 <| Z.m1 rfl <| Z.m1 rfl <| Z.r1 rfl (by exact Rd.lookupR M50 K9 rfl rfl rfl Z.M (by rfl)) ?_
  refine WL.say 16 (u := sdv (sdOf m ks[i]!)) rfl (sdOf_v m _) ?_
  refine Z.r1 rfl (Rd.part (ft := 0) rfl Tryz.underlying54 rfl C4 rfl rfl rfl) ?_
  refine WL.say 17 (u := .bool (decide ((sdOf m ks[i]!).2 = true))) rfl (by simp) ?_
  refine Z.n1 ?_
  refine WC.ite rfl (fun hc2 => ?_) (fun hc2 => ?_)
  ·
   refine WC.region ?_
   refine Z.m1 rfl <| Z.m1 rfl <| Z.m1 rfl <| Z.m1 rfl <| Z.r1 rfl (by exact Rd.lookupR M50 K9 rfl rfl rfl Z.M (by rfl)) ?_
   refine WL.say 22 (u := sdv (sdOf m ks[i]!)) rfl (sdOf_v m _) ?_
   refine Z.r1 rfl (Rd.part (ft := 0) rfl Tryz.underlying54 rfl C9 rfl rfl rfl) ?_
   refine Z.r1 rfl (Rd.buildN (ps := [(0, _), (1, _)]) rfl Bs35 I35 rfl Z.E Z.C (by apply NFo.mk; repeat (first | exact NF.nil | apply NF.cons))) ?_
   refine WL.op rfl ?_
   refine OpW.buildSl (ps := [(0, _)]) rfl S25 Z.E rfl rfl Z.C Z.K rfl rfl rfl ?_; intro b25
   have hil := itemsL_len (sdOf m) (ks.take i); rw [List.length_take] at hil
   refine WL.op rfl ?_
   refine OpW.appendRow (enc := encI) rfl S25 rfl rfl Z.T Z.T [(ks[i]!, (sdOf m ks[i]!).1)] rfl (by rfl) rfl (by intro x; rfl) (by intro x; rfl) (by exact ⟨by simp only [maxLen, List.length_append, List.length_nil, List.length_cons, List.length_drop, List.length_take, List.length_map]; omega, by omega⟩) rfl rfl ?_; intro v26 hv26
   refine Z.a1 rfl ?_
   refine WL.nil ?_
   refine blockQ.normal ?_
   refine thenQ.normal ?_
   refine WC.region ?_
   refine Z.r1 rfl (Rd.add rfl rfl rfl Z.W) ?_
   refine Z.m1 rfl ?_
   refine WL.nil ?_
   exact loopQ2.mk (i + 1) v26 Z.W Z.W (by repeat (first | exact Sub.nil | refine Sub.cons rfl (by rfl) ?_)) (by rw [itemsL_snoc _ Z.W, if_pos hc2]; exact Z.F)
  ·
   refine WC.skip ?_
   refine blockQ.normal ?_
   refine thenQ.normal ?_
   refine WC.region ?_
   refine Z.r1 rfl (Rd.add rfl rfl rfl Z.W) ?_
   refine Z.m1 rfl ?_
   refine WL.nil ?_
   exact loopQ2.mk (i + 1) v Z.W Z.W (by repeat (first | exact Sub.nil | refine Sub.cons rfl (by rfl) ?_)) (by rw [itemsL_snoc _ Z.W, if_neg hc2, List.append_nil]; exact Z.F)
 ·
  rw [List.take_of_length_le Z.W]
  refine WC.heap (R' := R) (O' := accC 35 2 encI v (itemsL (sdOf m) ks) :: O) Z.F ?_
  refine WC.exit ?_
  refine thenQ.exit ?_
  refine loopQ2.exit ?_
  refine blockQ.exit ?_
  refine thenQ.normal ?_
  refine Z.s1 <| Z.m1 rfl <| Z.a1 rfl <| Z.n1 ?_
  refine WC.ret (Ret.one Tryz.results18 rfl ?_)
  exact hk v ks ha hmem
end
end Go.Proofs.YtnjfgcpmcjmddaaGreatDoor.Kd
namespace Go.Proofs.YtnjfgcpmcjmddaaGreatDoor.Kd
open Go Go.SL
def KL (l : List It) : Prop := l.length ≤ 1000 ∧ ∀ x ∈ l, x.1.length ≤ 9223372036854775807
def ListsOf (vsl : List Value) (ll : List (List It)) (R : List RO) : Prop := vsl.length = ll.length ∧ ∀ j, j < ll.length → SlE encI vsl[j]! ll[j]! ∈ R
theorem ListsOf.three {R : List RO} {av bv cv : Value} {a b c : List It} (ha : SlE encI av a ∈ R) (hb : SlE encI bv b ∈ R) (hc : SlE encI cv c ∈ R) : ListsOf [av, bv, cv] [a, b, c] R := ⟨rfl, fun j hj => by
 match j, hj with
 | 0, _ => exact ha
 | 1, _ => exact hb
 | 2, _ => exact hc⟩
def keysIn (ll : List (List It)) : List (List UInt8) := ll.flatMap fun l => l.map (·.1)
def KsOf (ks : List (List UInt8)) (ll : List (List It)) : Prop := Asc ks ∧ ∀ k, k ∈ ks ↔ k ∈ keysIn ll
theorem EqS.iff {P : Program} {t : TypeId} {xs ys : Array Value} {p q : Prop} [Decidable p] [Decidable q] (h : EqS P t xs ys p) (e : p ↔ q) : EqS P t xs ys q := ⟨fun w => by rw [h.1 w, decide_eq_decide.2 e], h.2⟩
theorem EqSd (s r : Sd) : EqS Tryz.prog 54 #[vs s.1, .bool s.2] #[vs r.1, .bool r.2] (s = r) := EqS.iff (E54 _ _ _ _) Prod.ext_iff.symm
theorem MapOf.v {m : GoMap (List UInt8) Sd} {l : List It} (h : MapOf m l) (k : List UInt8) : ((m.get k).map sdv).getD (.agg #[vs [], .bool false]) = sdv (says l k) := by
 rw [sdOf_v, sdOf, h.1 k]; rfl
section
variable {R : List RO} {O O' : List Own} {POST : Value → List RO → List Own → Prop}
set_option maxRecDepth 20000 in
set_option maxHeartbeats 1000000 in
theorem keys_spec {vsl : List Value} {ll : List (List It)} {lv : Value} (hl : SlE (SL.one vid) lv vsl ∈ R) (hL : ListsOf vsl ll R) (hn : ∀ j, j < ll.length → (ll[j]!.map (·.1)).Nodup) (hK : ∀ j, j < ll.length → KL ll[j]!) (hc : ll.length ≤ 3)
 (hk : ∀ v ks, KsOf ks ll → ks.length ≤ 3000 → POST v R (accC 9 1 (SL.one vs) v ks :: O)) : Fun Tryz.prog 17 #[lv] R O POST := by
 refine Fun.len hl fun hll => ?_
 obtain ⟨hL1, hL2⟩ := hL
 refine Fun.enter (l := [_]) Tryz.func17 rfl Tryz.ntmps17 rfl (L0 := [(0, _)]) rfl ?_
 refine Z.s1 <| Z.a1 rfl <| Z.q1 ?_
 refine WL.op rfl ?_
 refine OpW.makeMap vs sdv rfl rfl rfl ?_; intro b6
 refine Z.a1 rfl <| Z.n1 <| Z.s2 <| Z.m1 rfl <| Z.r1 rfl (by exact Rd.lenE rfl rfl Tryz.underlying74 Z.M) ?_
 refine Z.m1 rfl <| Z.n1 ?_
 refine WC.block ?_
 refine WC.pick [9, 3, 7, 8] Z.P ?_
 refine WC.loop2 1 (fun (i : Nat) (m : GoMap (List UInt8) Sd) => [(9, .int .i64 (i : Int))]) (fun (i : Nat) (m : GoMap (List UInt8) Sd) => mapC vs sdv b6 m :: O) (fun (i : Nat) (m : GoMap (List UInt8) Sd) => i ≤ ll.length ∧ (∀ k, k ∈ m.ks ↔ k ∈ keysIn (ll.take i)) ∧ m.l.length ≤ 1000 * i) (fun (i : Nat) (m : GoMap (List UInt8) Sd) => ll.length - i) (0) (GoMap.empty) Z.L ?hinv1 (by repeat (first | exact Sub.nil | refine Sub.cons rfl (by rfl) ?_)) (fun _ h => h) ?_
 case hinv1 =>
  exact ⟨Nat.zero_le _, fun k => by simp [GoMap.ks, GoMap.empty, keysIn], Nat.zero_le _⟩
 intro i m
 rintro ⟨i1, i2, i3⟩
 refine Z.s1 <| Z.r1 rfl (Rd.lss rfl rfl rfl) <| Z.n1 ?_
 refine WC.seq ?_
 refine WC.ite rfl (fun hc1 => ?_) (fun hc1 => ?_)
 ·
  refine WC.skip ?_
  refine thenQ.normal ?_
  refine WC.seq ?_
  refine WC.block ?_
  refine Z.s1 <| Z.r1 rfl (by exact Rd.idx1 (k := i) rfl S74 rfl rfl Z.W Z.M Z.W) ?_
  refine Z.r1 rfl (Rd.get (xs := vsl) (k := i) rfl C25 rfl hl (get!_of_lt Z.W)) ?_
  refine Z.a1 rfl <| Z.g1 <| Z.m1 rfl <| Z.m1 rfl ?_
  refine WL.op rfl ?_
  refine OpW.call rfl rfl Z.E Z.K rfl rfl rfl ?_
  refine of_spec (hL2 i Z.W) (hn i Z.W) ?_; intro b15 m15 h15
  refine WL.heap (R' := mapP vs sdv b15 m15 :: R) (O' := mapC vs sdv b6 m :: O) (fun w h => h.shareM (Take.head _)) ?_
  refine WL.op rfl ?_
  refine OpW.call rfl rfl Z.E Z.K rfl rfl rfl ?_
  refine copy_spec (b2 := b15) (m2 := m15) List.mem_cons_self Z.T ?_; intro m16 h16 l16
  refine WL.nil ?_
  refine blockQ.normal ?_
  refine thenQ.normal ?_
  refine WC.region ?_
  refine Z.r1 rfl (Rd.add rfl rfl rfl Z.W) ?_
  refine Z.m1 rfl ?_
  refine WL.nil ?_
  exact loopQ2.mk (i + 1) m16 ⟨by omega, fun k => by
  rw [h16 k, i2 k, h15.ks k, take_snoc Z.W, keysIn, keysIn, List.flatMap_append, List.mem_append]; simp, by have := h15.2; have := (hK i Z.W).1; omega⟩ Z.W (by repeat (first | exact Sub.nil | refine Sub.cons rfl (by rfl) ?_)) Z.F
 ·
  refine WC.exit ?_
  refine thenQ.exit ?_
  refine loopQ2.exit ?_
  refine blockQ.exit ?_
  refine thenQ.normal ?_
  refine Z.s1 <| Z.m1 rfl ?_
  refine WL.op rfl ?_
  refine OpW.call rfl rfl Z.E Z.K rfl rfl rfl ?_
  refine mapsKeys_spec ?_; intro cb
  refine WL.op rfl ?_
  refine OpW.call rfl rfl Z.E Z.K rfl rfl rfl ?_
  have hkm : ∀ k ∈ m.ks, k.length ≤ maxLen := fun k hk' => by
   rw [i2 k, keysIn, List.mem_flatMap] at hk'
   obtain ⟨l, hl', hkl⟩ := hk'
   obtain ⟨x, hx, rfl⟩ := List.mem_map.1 hkl
   obtain ⟨j, hj, rfl⟩ := List.getElem_of_mem (List.mem_of_mem_take hl')
   have := (hK j hj).2 x (by rw [getElem!_pos ll j hj]; exact hx)
   exact this
  refine sorted_spec (m := m) (b := b6) (fun w h => h.see (c := mapC vs sdv b6 m) Z.M) Z.M Z.W hkm ?_; intro v20 ks ha hmem hlen
  refine WL.heap (R' := R) (O' := accC 9 1 (SL.one vs) v20 ks :: O) Z.F ?_
  refine Z.a1 rfl <| Z.n1 ?_
  refine WC.ret (Ret.one Tryz.results17 rfl ?_)
  rw [List.take_of_length_le Z.W] at i2
  exact hk v20 ks ⟨ha, fun k => (hmem k).trans (i2 k)⟩ Z.W
end
end Go.Proofs.YtnjfgcpmcjmddaaGreatDoor.Kd
namespace Go.Proofs.YtnjfgcpmcjmddaaGreatDoor.Kd
open Go Go.SL
def HollowP (s : Sd) : Prop := s.2 = false ∧ s.1 ≠ []
instance (s : Sd) : Decidable (HollowP s) := by unfold HollowP; infer_instance
def BadG (x : Ch) : Prop := HollowP x.old ∨ HollowP x.new
instance (x : Ch) : Decidable (BadG x) := by unfold BadG; infer_instance
end Go.Proofs.YtnjfgcpmcjmddaaGreatDoor.Kd
namespace Go.Proofs.YtnjfgcpmcjmddaaGreatDoor.Kd
open Go Go.SL
def OrdG (l : List Ch) : Prop := ∀ i, i < l.length - 1 → Lt l[i]!.key l[i + 1]!.key
instance (l : List Ch) : Decidable (OrdG l) := by unfold OrdG; infer_instance
end Go.Proofs.YtnjfgcpmcjmddaaGreatDoor.Kd
