/-
  Layer 4: Spoil.
-/
import Derived.Test.YtaalegffcjbglaaDoorSe5
namespace Go.Proofs.YtaalegffcjbglaaDoor
open Go Go.SL

abbrev Wr := Nat × List UInt8
theorem filterW_next (p : Wr → Bool) {xs : List Wr} {j : Nat} (h : j < xs.length) : (xs.take (j + 1)).filter p = (xs.take j).filter p ++ if p xs[j]! then [xs[j]!] else [] := by
  rw [List.take_add_one, get!_of_lt h, List.filter_append]
  simp only [Option.toList_some, List.filter_cons, List.filter_nil]
theorem filterW_all {p : Wr → Bool} {xs : List Wr} (h : ∀ j, j < xs.length → p xs[j]! = true) : xs.filter p = xs := by
  rw [List.filter_eq_self]
  intro a ha
  obtain ⟨j, hj, rfl⟩ := List.getElem_of_mem ha
  have := h j hj
  rwa [getElem!_pos xs j hj] at this
theorem dropW_at {ys xs : List Wr} {j : Nat} (hl : ys.length = xs.length) (hj : j < xs.length) (h : ys.drop j = xs.drop j) : ys[j]! = xs[j]! ∧ ys.drop (j + 1) = xs.drop (j + 1) := by
  have e1 : ys.drop j = ys[j]! :: ys.drop (j + 1) := by rw [List.drop_eq_getElem_cons (by omega), getElem!_pos ys j (by omega)]
  have e2 : xs.drop j = xs[j]! :: xs.drop (j + 1) := by rw [List.drop_eq_getElem_cons hj, getElem!_pos xs j hj]
  rw [e1, e2, List.cons.injEq] at h
  exact h
/-- The writes to other sectors. -/
def others (n : Nat) (w : Wr) : Bool := decide (w.1 ≠ n)
section
variable {R : List RO} {O : List Own} {POST : Value → List RO → List Own → Prop} {n b4 : Nat}
end
end Go.Proofs.YtaalegffcjbglaaDoor
