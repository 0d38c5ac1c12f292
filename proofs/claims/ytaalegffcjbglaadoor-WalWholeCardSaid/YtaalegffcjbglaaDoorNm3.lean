/-
  Layer 1: the bytes of a number, by the program and by the document.
-/
import Derived.Test.YtaalegffcjbglaaDoorNm2
namespace Go.Proofs.YtaalegffcjbglaaDoor
open Go Go.SL

/-- The i lowest bytes of a number, the highest of them first. -/
def beb : Nat → Nat → List UInt8
  | 0, _ => []
  | i + 1, n => UInt8.ofNat (n / 256 ^ i % 256) :: beb i n
theorem beb_length : ∀ (i n : Nat), (beb i n).length = i
  | 0, _ => rfl
  | i + 1, n => by rw [beb, List.length_cons, beb_length i n]
/-- What is added to a first byte. -/
def mask (k : Nat) : Nat := 256 - 2 ^ (8 - k)
/-- The bytes of a number. -/
def putE (n : Nat) : List UInt8 := UInt8.ofNat (n / 256 ^ more n + mask (more n)) :: beb (more n) n
def putI (p : Int) : List UInt8 := if p < 0 ∨ 1099511627776 < p then [] else putE p.toNat
theorem putE_length (n : Nat) : (putE n).length = more n + 1 := by rw [putE, List.length_cons, beb_length]
theorem more_lt {n k : Nat} : n < 128 ^ (k + 1) ↔ more n ≤ k := by
  have e : (128 : Nat) ^ (k + 1) = 2 ^ (7 * (k + 1)) := by rw [Nat.pow_mul]
  rw [e]
  constructor
  · intro h
    have := blen_lt h
    unfold more; omega
  · intro h
    rcases Nat.lt_or_ge n (2 ^ (7 * (k + 1))) with h1 | h1
    · exact h1
    · have := blen_ge h1
      unfold more at h; omega
theorem more_le {n : Nat} (h : n ≤ 1099511627776) : more n ≤ 5 := more_lt.1 (Nat.lt_of_le_of_lt h (by decide))
theorem head_lt {n : Nat} (h : n ≤ 1099511627776) : n / 256 ^ more n < 2 ^ (7 - more n) := by
  have h5 := more_le h
  have h1 : n < 128 ^ (more n + 1) := more_lt.2 (Nat.le_refl _)
  generalize more n = k at *
  rw [Nat.div_lt_iff_lt_mul (Nat.pow_pos (by decide))]
  refine Nat.lt_of_lt_of_le h1 ?_
  have : ∀ k, k ≤ 5 → 128 ^ (k + 1) ≤ 2 ^ (7 - k) * 256 ^ k := by decide
  exact this k h5
theorem or_mask : ∀ k, k ≤ 5 → ∀ x, x < 2 ^ (7 - k) → x ||| (255 - 255 / 2 ^ k) = x + mask k := by decide +kernel
theorem mask_sum : ∀ k, k ≤ 5 → 2 ^ (7 - k) + mask k ≤ 256 := by decide
theorem mask_le (k : Nat) : mask k ≤ 256 := Nat.sub_le _ _
theorem u8_toNat {x : Nat} (h : x < 256) : (UInt8.ofNat x).toNat = x := by simp; omega
theorem wrap_byte (a : Nat) : IntKind.u8.wrap (a : Int) = ((UInt8.ofNat (a % 256)).toNat : Int) := by
  rw [u8_toNat (Nat.mod_lt _ (by decide))]
  simp only [IntKind.wrap, IntKind.signed, IntKind.bits, Bool.false_and, Bool.false_eq_true, if_false]; omega
theorem set_lastb {α : Type} (k : Nat) (z v : α) (l : List α) : (List.replicate (k + 1) z ++ l).set k v = List.replicate k z ++ v :: l := by
  rw [List.set_append_left _ _ (by simp), List.replicate_succ', List.set_append_right _ _ (by simp)]
  simp
theorem beb_step {n m j : Nat} (hj : j ≤ m) : (List.replicate (m + 1 - j) (Value.int .u8 0) ++ (beb j n).map vy).set (m - j) (vy (UInt8.ofNat (n / 256 ^ j % 256))) = List.replicate (m + 1 - (j + 1)) (Value.int .u8 0) ++ (beb (j + 1) n).map vy := by
  rw [show m + 1 - j = (m - j) + 1 from by omega, set_lastb, show m + 1 - (j + 1) = m - j from by omega]
  rfl
theorem div_step (n j : Nat) : n / 256 ^ j / 2 ^ 8 = n / 256 ^ (j + 1) := by rw [Nat.div_div_eq_div_mul]; rfl

theorem first_get : ∀ k, k ≤ 5 → [vi 0, vi 128, vi 192, vi 224, vi 240, vi 248][k]? = some (vi (mask k : Nat))
  | 0, _ | 1, _ | 2, _ | 3, _ | 4, _ | 5, _ => rfl
  | k + 6, h => by omega
end Go.Proofs.YtaalegffcjbglaaDoor
