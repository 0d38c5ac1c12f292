/-
  Layer 21: two lists as one that has both orders.
-/
import Derived.Test.YtpicbbkmcbhnpaaTh4
namespace Go.Proofs.Ytpicbbkmcbhnpaa
open Go Go.SL

/-- What comes of two lists: one list, or two items. -/
def shufE : List (List UInt8) → List (List UInt8) → List (List UInt8) → List (List UInt8) × Option (List UInt8 × List UInt8)
  | [], y, out => (out ++ y, none)
  | a :: x, [], out => (out ++ (a :: x), none)
  | a :: x, b :: y, out =>
    if a = b then shufE x y (out ++ [a])
    else if a ∉ b :: y then shufE x (b :: y) (out ++ [a])
    else if b ∉ a :: x then shufE (a :: x) y (out ++ [b])
    else ([], some (a, b))
termination_by x y => x.length + y.length
theorem SetOf.del {m : GoMap (List UInt8) Bool} {a : List UInt8} {x : List (List UInt8)} (h : SetOf m (a :: x)) (hn : (a :: x).Nodup) : SetOf (m.del a) x := by
  intro s
  rw [GoMap.get_del, h s]
  have h1 : a ∉ x := (List.nodup_cons.1 hn).1
  by_cases e : s = a
  · subst e; rw [if_pos rfl, if_neg h1]
  · rw [if_neg e]
    have : (s ∈ a :: x) ↔ s ∈ x := by simp [e]
    simp only [this]
theorem shufE_nil_right (x out : List (List UInt8)) : shufE x [] out = (out ++ x, none) := by
  cases x with
  | nil => rw [shufE]
  | cons a x => rw [shufE]
end Go.Proofs.Ytpicbbkmcbhnpaa
