/-
  Layer 1, NumsOrder: the smaller number's bytes stand ahead; no number's bytes are the beginning of another one's.
-/
import Derived.Test.YtedgndhbieeffaaNm6
namespace Go.Proofs.Ytedgndhbieeffaa
open Go Go.SL

theorem num_beb (n : Nat) : ∀ k, num (n / 256 ^ k) (beb k n) = n
  | 0 => by simp [num, beb]
  | k + 1 => by
    have h := num_beb n k
    have e : num (n / 256 ^ (k + 1)) (beb (k + 1) n) = num (256 * (n / 256 ^ (k + 1)) + (UInt8.ofNat (n / 256 ^ k % 256)).toNat) (beb k n) := rfl
    rw [e, u8_toNat (Nat.mod_lt _ (by decide)), Nat.pow_succ, ← Nat.div_div_eq_div_mul, Nat.div_add_mod, h]
theorem lead_all : ∀ k, k ≤ 5 → ∀ x, x < 2 ^ (7 - k) → 8 - blen (255 - (x + mask k)) = k := by decide +kernel
/-- What is read off the bytes of a number, whatever stands behind them. -/
theorem getE_put {n : Nat} (hn : n ≤ 1099511627776) (t : List UInt8) : getE (putE n ++ t) = ((n : Int), (more n : Int) + 1, 0) := by
  have h5 := more_le hn
  have hh := head_lt hn
  have hms := mask_sum _ h5
  have hb : (UInt8.ofNat (n / 256 ^ more n + mask (more n))).toNat = n / 256 ^ more n + mask (more n) := u8_toNat (by omega)
  have hl : lead (UInt8.ofNat (n / 256 ^ more n + mask (more n))) = more n := by rw [lead, hb]; exact lead_all _ h5 _ hh
  have htk : (beb (more n) n ++ t).take (more n) = beb (more n) n := by
    rw [List.take_append_of_le_length (by rw [beb_length]; exact Nat.le_refl _), List.take_of_length_le (by rw [beb_length]; exact Nat.le_refl _)]
  have hnum : num ((UInt8.ofNat (n / 256 ^ more n + mask (more n))).toNat - mask (more n)) ((beb (more n) n ++ t).take (more n)) = n := by
    rw [hb, htk, Nat.add_sub_cancel, num_beb]
  rw [putE, List.cons_append, getE, hl, if_neg (by omega), if_neg (by rw [List.length_append, beb_length]; omega), hnum, if_neg (by omega)]
theorem putE_inj {a b : Nat} (ha : a ≤ 1099511627776) (hb : b ≤ 1099511627776) {t : List UInt8} (h : putE b = putE a ++ t) : a = b := by
  have h1 := getE_put ha t
  rw [← h] at h1
  have h2 := getE_put hb []
  rw [List.append_nil, h1] at h2
  have := congrArg Prod.fst h2
  exact Int.natCast_inj.1 this
theorem less_same (c : UInt8) (x y : List UInt8) : Op.bytesLess (c :: x) (c :: y) = Op.bytesLess x y := by simp [Op.bytesLess]
theorem less_beb (a b : Nat) : ∀ k, a / 256 ^ k = b / 256 ^ k → Op.bytesLess (beb k a) (beb k b) = decide (a < b)
  | 0, h => by simp at h; simp [beb, Op.bytesLess, h]
  | k + 1, h => by
    rw [Nat.pow_succ, ← Nat.div_div_eq_div_mul, ← Nat.div_div_eq_div_mul] at h
    have ha := u8_toNat (Nat.mod_lt (a / 256 ^ k) (show 256 > 0 by decide))
    have hb := u8_toNat (Nat.mod_lt (b / 256 ^ k) (show 256 > 0 by decide))
    by_cases e : a / 256 ^ k = b / 256 ^ k
    · rw [beb, beb, e, less_same]
      exact less_beb a b k e
    · have hlt : a < b ↔ a / 256 ^ k < b / 256 ^ k := by
        constructor
        · intro h1
          exact Nat.lt_of_le_of_ne (Nat.div_le_div_right (Nat.le_of_lt h1)) e
        · intro h1
          rcases Nat.lt_or_ge a b with h2 | h2
          · exact h2
          · exact absurd (Nat.div_le_div_right (c := 256 ^ k) h2) (by omega)
      have hne : UInt8.ofNat (a / 256 ^ k % 256) ≠ UInt8.ofNat (b / 256 ^ k % 256) := fun h1 => by
        have := congrArg UInt8.toNat h1
        rw [ha, hb] at this; omega
      rw [beb, beb]
      simp only [Op.bytesLess, beq_eq_false_iff_ne.2 hne, Bool.false_and, Bool.or_false, UInt8.lt_iff_toNat_lt, ha, hb]
      exact decide_eq_decide.2 (by rw [hlt]; omega)
theorem mask_step : ∀ k, k ≤ 5 → ∀ k', k' ≤ 5 → k < k' → 2 ^ (7 - k) + mask k ≤ mask k' := by decide +kernel
theorem less_put {a b : Nat} (ha : a ≤ 1099511627776) (hb : b ≤ 1099511627776) : Op.bytesLess (putE a) (putE b) = decide (a < b) := by
  have a5 := more_le ha
  have b5 := more_le hb
  have ah := head_lt ha
  have bh := head_lt hb
  have asu := mask_sum _ a5
  have bsu := mask_sum _ b5
  have au := u8_toNat (x := a / 256 ^ more a + mask (more a)) (by omega)
  have bu := u8_toNat (x := b / 256 ^ more b + mask (more b)) (by omega)
  rcases Nat.lt_trichotomy (more a) (more b) with h | h | h
  · have hm := mask_step _ a5 _ b5 h
    have hab : a < b := by
      rcases Nat.lt_or_ge a b with h1 | h1
      · exact h1
      · have h2 : b < 128 ^ (more a + 1) → more b ≤ more a := more_lt.1
        have h3 : a < 128 ^ (more a + 1) := more_lt.2 (Nat.le_refl _)
        exact absurd (h2 (by omega)) (by omega)
    have hlt : UInt8.ofNat (a / 256 ^ more a + mask (more a)) < UInt8.ofNat (b / 256 ^ more b + mask (more b)) := by
      rw [UInt8.lt_iff_toNat_lt, au, bu]; generalize a / 256 ^ more a = qa at *; generalize b / 256 ^ more b = qb at *; omega
    rw [putE, putE]
    simp only [Op.bytesLess, hlt, decide_true, Bool.true_or, hab]
  · rw [putE, putE, h]
    rw [h] at au ah
    by_cases e : a / 256 ^ more b = b / 256 ^ more b
    · rw [e, less_same]; exact less_beb a b _ e
    · have hlt : a < b ↔ a / 256 ^ more b < b / 256 ^ more b := by
        constructor
        · intro h1
          exact Nat.lt_of_le_of_ne (Nat.div_le_div_right (Nat.le_of_lt h1)) e
        · intro h1
          rcases Nat.lt_or_ge a b with h2 | h2
          · exact h2
          · exact absurd (Nat.div_le_div_right (c := 256 ^ more b) h2) (by omega)
      have hne : UInt8.ofNat (a / 256 ^ more b + mask (more b)) ≠ UInt8.ofNat (b / 256 ^ more b + mask (more b)) := fun h1 => by
        have := congrArg UInt8.toNat h1
        rw [au, bu] at this; omega
      simp only [Op.bytesLess, beq_eq_false_iff_ne.2 hne, Bool.false_and, Bool.or_false, UInt8.lt_iff_toNat_lt, au, bu]
      exact decide_eq_decide.2 (by rw [hlt]; omega)
  · have hm := mask_step _ b5 _ a5 h
    have hab : ¬ a < b := fun h1 => by
      have h2 : a < 128 ^ (more b + 1) → more a ≤ more b := more_lt.1
      have h3 : b < 128 ^ (more b + 1) := more_lt.2 (Nat.le_refl _)
      exact absurd (h2 (by omega)) (by omega)
    have hne : UInt8.ofNat (a / 256 ^ more a + mask (more a)) ≠ UInt8.ofNat (b / 256 ^ more b + mask (more b)) := fun h1 => by
      have := congrArg UInt8.toNat h1
      rw [au, bu] at this; generalize a / 256 ^ more a = qa at *; generalize b / 256 ^ more b = qb at *; omega
    have hlt : ¬ UInt8.ofNat (a / 256 ^ more a + mask (more a)) < UInt8.ofNat (b / 256 ^ more b + mask (more b)) := by
      rw [UInt8.lt_iff_toNat_lt, au, bu]; generalize a / 256 ^ more a = qa at *; generalize b / 256 ^ more b = qb at *; omega
    rw [putE, putE]
    simp only [Op.bytesLess, beq_eq_false_iff_ne.2 hne, Bool.false_and, Bool.or_false, hlt, decide_false, hab]

theorem _root_.Go.SL.Rd.andq {P : Program} {o : Oper} {t : TypeId} {x y : Operand} {t' : TypeId} {L : Env} {R : List RO} {O : List Own} {k : IntKind} {p q : Int} {m r : Nat} (ho : o.op = .binOp .and t x y t') (hx : ev L x = some (.int k p)) (hy : ev L y = some (.int k q)) (hq : q = (m : Int)) (hm : m < 2 ^ (k.bits - 1)) (hr : land k p m = r) : Rd P o L R O (.int k r) := hr ▸ Rd.andm ho hx hy hq hm
theorem putI_nat {a : Nat} (ha : a ≤ 1099511627776) : putI (a : Int) = putE a := by
  rw [putI, if_neg (by omega), Int.toNat_natCast]
theorem putE_short {n : Nat} (hn : n ≤ 1099511627776) : (putE n).length ≤ 6 := by
  have := more_le hn
  rw [putE_length]; omega
end Go.Proofs.Ytedgndhbieeffaa
