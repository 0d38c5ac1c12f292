/-
  Walks of layer 19: short, Apply.
-/
import Derived.Test.YtpicbbkmcbhnpaaLd1
namespace Go.Proofs.Ytpicbbkmcbhnpaa
open Go Go.SL

/-- An edit: its kind, its item. -/
abbrev Ed := Int × List UInt8
def encE : Ed → List Value | (k, s) => [vi k, vs s]
abbrev Eds (v : Value) (l : List Ed) : RO := SlE encE v l

/-- What Apply answers. -/
def applyE : List (List UInt8) → List Ed → List (List UInt8) → List (List UInt8) × Int
  | xs, [], out => if xs.length = 0 then (out, 0) else ([], 4)
  | xs, (op, it) :: r, out =>
    if op = 0 ∨ op = 1 then
      match xs with
      | [] => ([], 13)
      | x :: xs' => if x = it then applyE xs' r (if op = 1 then out else out ++ [it]) else ([], 13)
    else if op = 2 then applyE xs r (out ++ [it]) else ([], 15)
theorem applyE_nil (xs out : List (List UInt8)) : applyE xs [] out = if xs.length = 0 then (out, 0) else ([], 4) := by cases xs <;> rfl
theorem drop_get {α : Type} [Inhabited α] {l : List α} {k : Nat} (h : k < l.length) : l.drop k = l[k]! :: l.drop (k + 1) := by
  rw [List.drop_eq_getElem_cons h]; simp [h]
theorem head_get {l : List (List UInt8)} (h : 0 < l.length) : l = l[0]! :: l.drop 1 := by
  have := drop_get (l := l) (k := 0) h
  simpa using this

end Go.Proofs.Ytpicbbkmcbhnpaa
