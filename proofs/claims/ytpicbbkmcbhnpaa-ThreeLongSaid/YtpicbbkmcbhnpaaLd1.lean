/-
  Walks of layer 19: the small functions of the laws.
-/
import Derived.Test.YtpicbbkmcbhnpaaTy
namespace Go.Proofs.Ytpicbbkmcbhnpaa
open Go Go.SL

abbrev Strs (v : Value) (xs : List (List UInt8)) : RO := SlE (one vs) v xs

theorem texts_aux {xs ys : List (List UInt8)} {k : Nat} (hl : xs.length = ys.length) (h : xs.take k = ys.take k) (hk : k = xs.length) : xs = ys := by
  subst hk; rw [List.take_length, hl, List.take_length] at h; exact h
theorem take_step {xs ys : List (List UInt8)} {k : Nat} (hl : xs.length = ys.length) (h : xs.take k = ys.take k) (hk : k < xs.length) (he : xs[k]! = ys[k]!) : xs.take (k + 1) = ys.take (k + 1) := by
  rw [List.take_succ_eq_append_getElem hk, List.take_succ_eq_append_getElem (by omega), h]
  simp [hk, hl ▸ hk] at he
  rw [he]

end Go.Proofs.Ytpicbbkmcbhnpaa
