/-
  Layer 3: frames, and the frame at the beginning of bytes.
-/
import Derived.Test.YtaalegffcjbglaaDoorCr1
import Derived.Test.YtaalegffcjbglaaDoorNm8
namespace Go.Proofs.YtaalegffcjbglaaDoor
open Go Go.SL

/-- The bytes of a sum, the lowest first. -/
def le4 (n : Nat) : List UInt8 := [UInt8.ofNat (n % 256), UInt8.ofNat (n / 256 % 256), UInt8.ofNat (n / 65536 % 256), UInt8.ofNat (n / 16777216 % 256)]
theorem joinE_one (b : List UInt8) : joinE [b] = putI b.length ++ b := by simp [joinE]
/-- A frame without its sum. -/
def bare (k : UInt8) (b : List UInt8) : List UInt8 := k :: (putI b.length ++ b)
def frameE (k : UInt8) (b : List UInt8) : List UInt8 := if 262144 < b.length then [] else bare k b ++ le4 (sumE (bare k b))
theorem bare_length {k : UInt8} {b : List UInt8} (h : b.length ≤ 262144) : (bare k b).length = (putE b.length).length + b.length + 1 := by
  rw [bare, List.length_cons, List.length_append, putI_len h]

/-- The kind, the body, how many bytes, the error. -/
def nextF : List UInt8 → Nat × List UInt8 × Int × Int
  | [] => (0, [], 0, 9)
  | k :: s =>
    if (nextE s).2.2 ≠ 0 then (0, [], 0, (nextE s).2.2)
    else if (s.length : Int) + 1 < (nextE s).2.1 + 5 then (0, [], 0, 3)
    else if ((k :: s).take ((nextE s).2.1.toNat + 5)).drop ((nextE s).2.1.toNat + 1) ≠ le4 (sumE ((k :: s).take ((nextE s).2.1.toNat + 1))) then (0, [], 0, 5)
    else (k.toNat, (nextE s).1, (nextE s).2.1 + 5, 0)
theorem nextE_pos {s : List UInt8} (h : (nextE s).2.2 = 0) : ∃ n : Nat, (nextE s).2.1 = n ∧ 1 ≤ n ∧ n ≤ s.length := by
  obtain ⟨rest, h1, h2, h3, h4⟩ := nextE_ok h
  refine ⟨_, h3, by rw [putE_length]; omega, ?_⟩
  have := congrArg List.length h1
  rw [List.length_append, List.length_append] at this
  omega
end Go.Proofs.YtaalegffcjbglaaDoor
