/-
  Layer 1: the document's Get, both Next, and NumsGets.
-/
import Derived.Test.YtedgndhbieeffaaDoorNm4
namespace Go.Proofs.YtedgndhbieeffaaDoor
open Go Go.SL

theorem bit_all : ∀ b < 256, ∀ k < 8, k ≤ 8 - blen (255 - b) → ((b / 2 ^ (7 - k)) &&& 1 = 1 ↔ k < 8 - blen (255 - b)) := by decide +kernel
theorem bit_lead {b : UInt8} {k : Nat} (h8 : k < 8) (h : k ≤ lead b) : (b.toNat / 2 ^ (7 - k)) &&& 1 = 1 ↔ k < lead b := bit_all b.toNat (UInt8.toNat_lt b) k h8 h
theorem lead_le (b : UInt8) : lead b ≤ 8 := Nat.sub_le _ _
theorem num_parts : ∀ (r : List UInt8) (n : Nat), num n r / 256 ^ r.length = n ∧ beb r.length (num n r) = r
  | [], n => by simp [num, beb]
  | c :: r, n => by
    have h := num_parts r (256 * n + c.toNat)
    have hc := UInt8.toNat_lt c
    have e : num n (c :: r) = num (256 * n + c.toNat) r := rfl
    rw [e, List.length_cons, Nat.pow_succ, ← Nat.div_div_eq_div_mul, h.1]
    refine ⟨by omega, ?_⟩
    rw [beb, h.1, h.2]
    congr 1
    rw [show (256 * n + c.toNat) % 256 = c.toNat from by omega]
    simp
theorem put_take {b : UInt8} {r : List UInt8} (h5 : lead b ≤ 5) (hr : lead b ≤ r.length) : putI (num (b.toNat - mask (lead b)) (r.take (lead b)) : Nat) = (b :: r).take (lead b + 1) ↔ ¬ (1099511627776 < num (b.toNat - mask (lead b)) (r.take (lead b)) ∨ more (num (b.toNat - mask (lead b)) (r.take (lead b))) ≠ lead b) := by
  have ht : (r.take (lead b)).length = lead b := by rw [List.length_take]; omega
  have hp := num_parts (r.take (lead b)) (b.toNat - mask (lead b))
  obtain ⟨_, hm, _⟩ := and_lead h5
  rw [ht] at hp
  generalize num (b.toNat - mask (lead b)) (r.take (lead b)) = N at *
  unfold putI
  rw [List.take_succ_cons]
  constructor
  · intro h
    split at h
    · cases h
    · next h1 =>
      have h2 := congrArg List.length h
      rw [Int.toNat_natCast, putE_length, List.length_cons, ht] at h2
      omega
  · intro h
    rw [not_or, Decidable.not_not] at h
    rw [if_neg (by omega), Int.toNat_natCast, putE, h.2, hp.1, hp.2]
    congr 1
    rw [show b.toNat - mask (lead b) + mask (lead b) = b.toNat from by omega]
    simp

theorem _root_.Go.SL.Rd.subN {P : Program} {o : Oper} {t : TypeId} {x y : Operand} {t' : TypeId} {L : Env} {R : List RO} {O : List Own} {p q : Int} {a b : Nat} (ho : o.op = .binOp .sub t x y t') (hx : ev L x = some (.int .i64 p)) (hy : ev L y = some (.int .i64 q)) (hp : p = (a : Int)) (hq : q = (b : Int)) (hb : b ≤ a) (ha : a ≤ 9223372036854775807) : Rd P o L R O (.int .i64 ((a - b : Nat) : Int)) := by
  have h := Rd.sub (R := R) (O := O) (P := P) ho hx hy (by omega)
  rw [show p - q = ((a - b : Nat) : Int) from by omega] at h
  exact h

end Go.Proofs.YtedgndhbieeffaaDoor
