/-
  Layer 1: both Next, and NumsGets.
-/
import Derived.Test.YtaalegffcjbglaaDoorNm5
namespace Go.Proofs.YtaalegffcjbglaaDoor
open Go Go.SL

theorem getE_ok : ∀ {s : List UInt8}, (getE s).2.2 = 0 → ∃ n k : Nat, (getE s).1 = (n : Int) ∧ (getE s).2.1 = (k : Int) ∧ 1 ≤ k ∧ k ≤ s.length ∧ n ≤ 1099511627776
  | [], h => by simp [getE] at h
  | b :: r, h => by
    rw [getE] at h ⊢
    by_cases h1 : 5 < lead b
    · rw [if_pos h1] at h; simp at h
    · rw [if_neg h1] at h ⊢
      by_cases h2 : r.length < lead b
      · rw [if_pos h2] at h; simp at h
      · rw [if_neg h2] at h ⊢
        split at h
        · simp at h
        · next h3 =>
          rw [if_neg h3]
          exact ⟨_, lead b + 1, rfl, rfl, by omega, by rw [List.length_cons]; omega, by omega⟩
def nextE (s : List UInt8) : List UInt8 × Int × Int :=
  if (getE s).2.2 ≠ 0 then ([], 0, (getE s).2.2)
  else if 262144 < (getE s).1 then ([], 0, 6)
  else if (s.length : Int) - (getE s).2.1 < (getE s).1 then ([], 0, 3)
  else ((s.take ((getE s).2.1.toNat + (getE s).1.toNat)).drop (getE s).2.1.toNat, (getE s).2.1 + (getE s).1, 0)

end Go.Proofs.YtaalegffcjbglaaDoor
