/-
  Walks of layer 19: Diff and Match, over walk.
-/
import Derived.Test.YtpicbbkmcbhnpaaLd4
namespace Go.Proofs.Ytpicbbkmcbhnpaa
open Go Go.SL Go.Lcs

/-- The edit of a step. -/
def edit (xs ys : List (List UInt8)) (t : Nat × Nat × Nat) : Ed := ((t.1 : Int), if t.1 = 2 then ys[t.2.2]! else xs[t.2.1]!)

/-- The edits from a list to another one. -/
def diffE (xs ys : List (List UInt8)) : List Ed := (trace 0 0 xs ys).map (edit xs ys)
end Go.Proofs.Ytpicbbkmcbhnpaa
