/-
  Layer 1: Get and Join of the program, and speaks.
-/
import Derived.Test.YtaalegffcjbglaaDoorNm3
namespace Go.Proofs.YtaalegffcjbglaaDoor
open Go Go.SL

/-- How many bytes stand behind a first byte. -/
def lead (b : UInt8) : Nat := 8 - blen (255 - b.toNat)
def num (n : Nat) (r : List UInt8) : Nat := r.foldl (fun n c => 256 * n + c.toNat) n
def getE : List UInt8 → Int × Int × Int
  | [] => (0, 0, 3)
  | b :: r =>
    if 5 < lead b then (0, 0, 2)
    else if r.length < lead b then (0, 0, 3)
    else if 1099511627776 < num (b.toNat - mask (lead b)) (r.take (lead b)) ∨ more (num (b.toNat - mask (lead b)) (r.take (lead b))) ≠ lead b then (0, 0, 2)
    else (num (b.toNat - mask (lead b)) (r.take (lead b)), lead b + 1, 0)
theorem and_all : ∀ b < 256, 8 - blen (255 - b) ≤ 5 → b &&& (255 / 2 ^ (8 - blen (255 - b))) = b - mask (8 - blen (255 - b)) ∧ mask (8 - blen (255 - b)) ≤ b ∧ b - mask (8 - blen (255 - b)) < 128 := by decide +kernel
theorem and_lead {b : UInt8} (h : lead b ≤ 5) : b.toNat &&& (255 / 2 ^ lead b) = b.toNat - mask (lead b) ∧ mask (lead b) ≤ b.toNat ∧ b.toNat - mask (lead b) < 128 := and_all b.toNat (UInt8.toNat_lt b) h
theorem num_lt : ∀ (r : List UInt8) (n : Nat), num n r < (n + 1) * 256 ^ r.length
  | [], n => by simp [num]
  | c :: r, n => by
    have h := num_lt r (256 * n + c.toNat)
    have hc := UInt8.toNat_lt c
    simp only [num, List.foldl_cons, List.length_cons] at *
    refine Nat.lt_of_lt_of_le h ?_
    rw [Nat.pow_succ, Nat.mul_comm (256 ^ r.length) 256, ← Nat.mul_assoc]
    exact Nat.mul_le_mul_right _ (by omega)
theorem num_snoc {r : List UInt8} {n i : Nat} {c : UInt8} (h : r[i]? = some c) : num n (r.take (i + 1)) = 256 * num n (r.take i) + c.toNat := by
  have : r.take (i + 1) = r.take i ++ [c] := by
    rw [List.take_add_one, h]; rfl
  rw [this, num, List.foldl_append]; rfl

theorem num_small {r : List UInt8} {n i : Nat} (hn : n < 128) (hi : i ≤ 5) : num n (r.take i) < 128 * 256 ^ 5 := by
  have h := num_lt (r.take i) n
  refine Nat.lt_of_lt_of_le h ?_
  refine Nat.mul_le_mul (by omega) (Nat.pow_le_pow_right (by decide) ?_)
  rw [List.length_take]; omega
theorem num_or (a : Nat) (c : UInt8) : a * 2 ^ 8 ||| c.toNat = 256 * a + c.toNat := by
  rw [Nat.mul_comm, ← Nat.two_pow_add_eq_or_of_lt (UInt8.toNat_lt c)]

/-- Texts joined. -/
def joinE (l : List (List UInt8)) : List UInt8 := l.flatMap fun s => putI s.length ++ s
theorem joinE_snoc {l : List (List UInt8)} {i : Nat} (h : i < l.length) : joinE (l.take (i + 1)) = (joinE (l.take i) ++ putI (l[i]!.length : Nat)) ++ l[i]! := by
  rw [List.take_add_one, get!_of_lt h, joinE, joinE, List.flatMap_append, List.append_assoc]
  simp
theorem joinE_take_le (l : List (List UInt8)) (i : Nat) : (joinE (l.take i)).length ≤ (joinE l).length := by
  have h : joinE l = joinE (l.take i) ++ joinE (l.drop i) := by
    rw [joinE, joinE, joinE, ← List.flatMap_append, List.take_append_drop]
  rw [h, List.length_append]; omega
end Go.Proofs.YtaalegffcjbglaaDoor
