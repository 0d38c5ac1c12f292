/-
  Layer 3: frames alike and apart; frames one behind the other, cut off anywhere.
-/
import Derived.Test.YtodedkoebcdejaaDoorCr3
namespace Go.Proofs.YtodedkoebcdejaaDoor
open Go Go.SL

theorem frame_eq {k : UInt8} {b : List UInt8} (h : b.length ≤ 262144) : frameE k b = k :: (putE b.length ++ (b ++ le4 (sumE (bare k b)))) := by
  rw [frameE, if_neg (by omega), bare, putI_len h, List.cons_append, List.append_assoc]
theorem frame_length {k : UInt8} {b : List UInt8} (h : b.length ≤ 262144) : (frameE k b).length = (putE b.length).length + b.length + 5 := by
  rw [frame_eq h, List.length_cons, List.length_append, List.length_append, show (le4 (sumE (bare k b))).length = 4 from rfl]; omega
theorem frame_next {k : UInt8} {b : List UInt8} (h : b.length ≤ 262144) (t : List UInt8) : nextF (frameE k b ++ t) = (k.toNat, b, ((frameE k b).length : Int), 0) := by
  have hl := frame_length (k := k) h
  have e : frameE k b ++ t = k :: (putE b.length ++ (b ++ (le4 (sumE (bare k b)) ++ t))) := by
    rw [frame_eq h, List.cons_append, List.append_assoc, List.append_assoc]
  have hn := nextE_put h (le4 (sumE (bare k b)) ++ t)
  have hbl := bare_length (k := k) h
  have e2 : frameE k b ++ t = bare k b ++ (le4 (sumE (bare k b)) ++ t) := by rw [frameE, if_neg (by omega), List.append_assoc]
  have h4 : (le4 (sumE (bare k b))).length = 4 := rfl
  have t1 : (k :: (putE b.length ++ (b ++ (le4 (sumE (bare k b)) ++ t)))).take ((putE b.length).length + b.length + 1) = bare k b := by
    rw [← e, e2, ← hbl, List.take_left]
  have t2 : ((k :: (putE b.length ++ (b ++ (le4 (sumE (bare k b)) ++ t)))).take ((putE b.length).length + b.length + 5)).drop ((putE b.length).length + b.length + 1) = le4 (sumE (bare k b)) := by
    rw [← e, e2, ← List.append_assoc, List.take_append_of_le_length (by rw [List.length_append]; omega), List.take_of_length_le (by rw [List.length_append]; omega), ← hbl, List.drop_left]
  have hlen : ((putE b.length ++ (b ++ (le4 (sumE (bare k b)) ++ t))).length : Int) = (putE b.length).length + b.length + 4 + t.length := by
    rw [List.length_append, List.length_append, List.length_append, h4]; omega
  rw [e, nextF, hn]
  simp only [ne_eq, not_true_eq_false, if_false]
  rw [if_neg (by rw [hlen]; omega), Int.toNat_natCast, t1, t2, if_neg (by simp), hl]
  refine Prod.ext rfl (Prod.ext rfl (Prod.ext ?_ rfl))
  show (((putE b.length).length + b.length : Nat) : Int) + 5 = (((putE b.length).length + b.length + 5 : Nat) : Int)
  omega
theorem frame_inj {k l : UInt8} {a b : List UInt8} (ha : a.length ≤ 262144) (hb : b.length ≤ 262144) : frameE k a = frameE l b ↔ k = l ∧ a = b := by
  constructor
  · intro h
    have h1 := frame_next (k := k) ha []
    have h2 := frame_next (k := l) hb []
    rw [h, h2] at h1
    have e1 := congrArg (·.1) h1
    have e2 := congrArg (·.2.1) h1
    exact ⟨UInt8.toNat_inj.1 e1.symm, e2.symm⟩
  · rintro ⟨rfl, rfl⟩; rfl
/-- What is left of a frame that is cut off. -/
theorem frame_cut {k : UInt8} {b : List UInt8} (h : b.length ≤ 262144) {c : Nat} (hc : c < (frameE k b).length) : (nextF ((frameE k b).take c)).2.2.2 = if c = 0 then 9 else 3 := by
  have hl := frame_length (k := k) h
  cases c with
  | zero => rfl
  | succ c =>
    rw [if_neg (by omega), frame_eq h, List.take_succ_cons, nextF]
    have hpe := putE_length b.length
    by_cases h1 : c < (putE b.length).length + b.length
    · have e : (putE b.length ++ (b ++ le4 (sumE (bare k b)))).take c = (putE b.length ++ b).take c := by
        rw [← List.append_assoc, List.take_append_of_le_length (by rw [List.length_append]; omega)]
      rw [e]
      cases c with
      | zero => rfl
      | succ c =>
        have hx := nextE_cut h (c := c + 1) (by omega) h1
        rw [if_pos (by rw [hx]; decide), hx]
    · have e : (putE b.length ++ (b ++ le4 (sumE (bare k b)))).take c = putE b.length ++ (b ++ (le4 (sumE (bare k b))).take (c - ((putE b.length).length + b.length))) := by
        rw [← List.append_assoc, List.take_append, List.length_append, List.take_of_length_le (by rw [List.length_append]; omega), List.append_assoc]
      have hx := nextE_put h ((le4 (sumE (bare k b))).take (c - ((putE b.length).length + b.length)))
      rw [e, hx]
      simp only [ne_eq, not_true_eq_false, if_false]
      have hlen : ((putE b.length ++ (b ++ (le4 (sumE (bare k b))).take (c - ((putE b.length).length + b.length)))).length : Int) ≤ (putE b.length).length + b.length + 3 := by
        rw [List.length_append, List.length_append, List.length_take]
        have : (le4 (sumE (bare k b))).length = 4 := rfl
        omega
      rw [if_pos (by omega)]

end Go.Proofs.YtodedkoebcdejaaDoor
