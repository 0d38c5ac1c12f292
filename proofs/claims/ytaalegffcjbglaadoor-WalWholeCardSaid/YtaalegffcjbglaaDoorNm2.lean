/-
  Layer 1: how many bits a number has; behind.
-/
import Derived.Test.YtaalegffcjbglaaDoorNm1
namespace Go.Proofs.YtaalegffcjbglaaDoor
open Go Go.SL

/-- How many bits a number has. -/
def blen (n : Nat) : Nat := if n = 0 then 0 else Nat.log2 n + 1
theorem blen_div {n k : Nat} (h : 2 ^ k ≤ n) : blen n = blen (n / 2 ^ k) + k := by
  have h1 : 0 < n / 2 ^ k := Nat.div_pos h (Nat.two_pow_pos k)
  have h0 : n ≠ 0 := by have := Nat.two_pow_pos k; omega
  unfold blen
  rw [if_neg h0, if_neg (by omega)]
  have : Nat.log2 n = Nat.log2 (n / 2 ^ k) + k := by
    rw [Nat.log2_eq_iff h0]
    have h3 := Nat.log2_self_le (n := n / 2 ^ k) (by omega)
    have h4 := Nat.lt_log2_self (n := n / 2 ^ k)
    constructor
    · rw [Nat.pow_add]
      exact (Nat.le_div_iff_mul_le (Nat.two_pow_pos k)).1 h3
    · rw [show Nat.log2 (n / 2 ^ k) + k + 1 = (Nat.log2 (n / 2 ^ k) + 1) + k from by omega, Nat.pow_add]
      exact (Nat.div_lt_iff_lt_mul (Nat.two_pow_pos k)).1 h4
  omega
theorem blen_lt {n k : Nat} (h : n < 2 ^ k) : blen n ≤ k := by
  unfold blen
  split
  · omega
  · have := (Nat.log2_lt (n := n) (k := k) (by omega)).2 h; omega
theorem blen_ge {n k : Nat} (h : 2 ^ k ≤ n) : k < blen n := by
  have h0 : n ≠ 0 := by have := Nat.two_pow_pos k; omega
  unfold blen
  rw [if_neg h0]
  have := (Nat.le_log2 h0).2 h; omega
/-- The library's table. -/
def len8tab : List UInt8 := [0, 1, 2, 2, 3, 3, 3, 3, 4, 4, 4, 4, 4, 4, 4, 4, 5, 5, 5, 5, 5, 5, 5, 5, 5, 5, 5, 5, 5, 5, 5, 5, 6, 6, 6, 6, 6, 6, 6, 6, 6, 6, 6, 6, 6, 6, 6, 6, 6, 6, 6, 6, 6, 6, 6, 6, 6, 6, 6, 6, 6, 6, 6, 6, 7, 7, 7, 7, 7, 7, 7, 7, 7, 7, 7, 7, 7, 7, 7, 7, 7, 7, 7, 7, 7, 7, 7, 7, 7, 7, 7, 7, 7, 7, 7, 7, 7, 7, 7, 7, 7, 7, 7, 7, 7, 7, 7, 7, 7, 7, 7, 7, 7, 7, 7, 7, 7, 7, 7, 7, 7, 7, 7, 7, 7, 7, 7, 7, 8, 8, 8, 8, 8, 8, 8, 8, 8, 8, 8, 8, 8, 8, 8, 8, 8, 8, 8, 8, 8, 8, 8, 8, 8, 8, 8, 8, 8, 8, 8, 8, 8, 8, 8, 8, 8, 8, 8, 8, 8, 8, 8, 8, 8, 8, 8, 8, 8, 8, 8, 8, 8, 8, 8, 8, 8, 8, 8, 8, 8, 8, 8, 8, 8, 8, 8, 8, 8, 8, 8, 8, 8, 8, 8, 8, 8, 8, 8, 8, 8, 8, 8, 8, 8, 8, 8, 8, 8, 8, 8, 8, 8, 8, 8, 8, 8, 8, 8, 8, 8, 8, 8, 8, 8, 8, 8, 8, 8, 8, 8, 8, 8, 8, 8, 8, 8, 8, 8, 8, 8, 8, 8, 8, 8, 8, 8, 8]
theorem len8_all : ∀ n < 256, len8tab[n]? = some (UInt8.ofNat (blen n)) := by decide +kernel
theorem blen_u8 {n : Nat} (h : n < 256) : (UInt8.ofNat (blen n)).toNat = blen n := by
  have := blen_lt (n := n) (k := 8) h
  simp; omega
theorem _root_.Go.SL.Rd.len8 {P : Program} {o : Oper} {t : TypeId} {x y : Operand} {L : Env} {R : List RO} {O : List Own} {kd : IntKind} {p : Int} {k : Nat} (ho : o.op = .index t x y) (hT : P.underlying t = some .string) (hx : ev L x = some (vs len8tab)) (hy : ev L y = some (.int kd p)) (hp : p = (k : Int)) (hk : k < 256) : Rd P o L R O (.int .u8 (blen k : Nat)) := by
  have h := Rd.sidx (R := R) (O := O) ho hT hx hy hp (len8_all k hk)
  rw [blen_u8 hk] at h; exact h
theorem vi_eq {POST : Value → List RO → List Own → Prop} {R : List RO} {O : List Own} {a b : Int} (h : POST (.int .i64 a) R O) (e : a = b) : POST (.int .i64 b) R O := e ▸ h
theorem len8_le (n : Nat) (h : n < 256) : blen n ≤ 8 := blen_lt (k := 8) h

/-- How many bytes stand behind the first one. -/
def more (n : Nat) : Nat := (blen n - 1) / 7
end Go.Proofs.YtaalegffcjbglaaDoor
