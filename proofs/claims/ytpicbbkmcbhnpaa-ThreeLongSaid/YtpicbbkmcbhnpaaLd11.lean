/-
  Layer 19: where items stand, and what has shifted.
-/
import Derived.Test.YtpicbbkmcbhnpaaLd10
namespace Go.Proofs.Ytpicbbkmcbhnpaa
open Go Go.SL Go.Lcs

/-- The places of an item among the first n. -/
def pos (l : List (List UInt8)) (s : List UInt8) (n : Nat) : List Nat := (List.range n).filter fun i => decide (l[i]! = s)
theorem pos_succ (l : List (List UInt8)) (s : List UInt8) (n : Nat) : pos l s (n + 1) = pos l s n ++ if l[n]! = s then [n] else [] := by
  rw [pos, List.range_succ, List.filter_append, List.filter_cons, List.filter_nil]
  by_cases h : l[n]! = s <;> simp [h, pos]
theorem pos_prefix (l : List (List UInt8)) (s : List UInt8) {n : Nat} : ∀ {m : Nat}, n ≤ m → ∃ r, pos l s m = pos l s n ++ r
  | 0, h => by obtain rfl : n = 0 := by omega
               exact ⟨[], by simp⟩
  | m + 1, h => by
    rcases Nat.lt_or_ge m n with h1 | h1
    · obtain rfl : n = m + 1 := by omega
      exact ⟨[], by simp⟩
    · obtain ⟨r, hr⟩ := pos_prefix l s h1
      exact ⟨r ++ if l[m]! = s then [m] else [], by rw [pos_succ, hr, List.append_assoc]⟩
theorem pos_mem {l : List (List UInt8)} {s : List UInt8} {n i : Nat} (h : i < n) (hi : l[i]! = s) : 0 < (pos l s n).length := by
  apply List.length_pos_of_mem (a := i)
  rw [pos, List.mem_filter]
  exact ⟨List.mem_range.2 h, by simpa using hi⟩
def oneOf : List Nat → Option Int
  | [] => none
  | [k] => some (k : Int)
  | _ => some (-1)
def atE : List Nat → Int
  | [k] => (k : Int)
  | _ => -1
def fromE : List Nat → Int
  | [] => 0
  | [k] => (k : Int)
  | _ => -1
theorem oneOf_from (p : List Nat) : ((oneOf p).map vi).getD (vi 0) = vi (fromE p) ∧ (oneOf p).isSome = decide (0 < p.length) := by
  rcases p with _ | ⟨a, _ | ⟨b, p⟩⟩ <;> simp [oneOf, fromE]
theorem from_at (p : List Nat) : (0 < p.length → fromE p = atE p) ∧ (p.length = 0 → atE p = -1) ∧ -1 ≤ atE p := by
  rcases p with _ | ⟨a, _ | ⟨b, p⟩⟩ <;> simp [fromE, atE]
theorem oneOf_more {p : List Nat} (h : p ≠ []) (i : Nat) : oneOf (p ++ [i]) = some (-1) := by
  rcases p with _ | ⟨a, _ | ⟨b, p⟩⟩ <;> simp_all [oneOf]
/-- The place of an item that stands just once. -/
def onceE (l : List (List UInt8)) (s : List UInt8) : Int := atE (pos l s l.length)
theorem atE_many {p r : List Nat} {k i : Nat} (h : p = [k] ++ [i] ++ r) : atE p = -1 := by subst h; rfl

theorem places_step {l : List (List UInt8)} {i : Nat} {m : GoMap (List UInt8) Int} (hm : ∀ s, m.get s = oneOf (pos l s i)) {v : Int} (hv : if pos l l[i]! i = [] then v = i else v = -1) : ∀ s, (m.set l[i]! v).get s = oneOf (pos l s (i + 1)) := by
  intro s
  rw [GoMap.get_set, pos_succ]
  by_cases e : s = l[i]!
  · subst e
    rw [if_pos rfl, if_pos rfl]
    by_cases h : pos l l[i]! i = []
    · rw [if_pos h] at hv; rw [h, hv]; rfl
    · rw [if_neg h] at hv; rw [oneOf_more h, hv]
  · rw [if_neg e, if_neg (Ne.symm e), List.append_nil, hm]

def encS : List UInt8 × Int × Int → List Value | (s, f, t) => [vs s, vi f, vi t]
def shiftF (a b : List (List UInt8)) (s : List UInt8) : Option (List UInt8 × Int × Int) := if 0 ≤ onceE a s ∧ 0 ≤ onceE b s ∧ onceE a s ≠ onceE b s then some (s, onceE a s, onceE b s) else none
def shiftsE (a b : List (List UInt8)) : List (List UInt8 × Int × Int) := b.filterMap (shiftF a b)
theorem shifts_step {a b : List (List UInt8)} {i : Nat} (h : i < b.length) : (b.take (i + 1)).filterMap (shiftF a b) = (b.take i).filterMap (shiftF a b) ++ (shiftF a b b[i]!).toList := by
  rw [take_snoc' (get!_of_lt h), List.filterMap_append]
  simp only [List.filterMap_cons, List.filterMap_nil]
  cases shiftF a b b[i]! <;> rfl
theorem shifts_get {a b : List (List UInt8)} {i : Nat} {x : List UInt8 × Int × Int} (h : i < b.length) (hx : shiftF a b b[i]! = some x) : (shiftsE a b)[((b.take i).filterMap (shiftF a b)).length]? = some x := by
  have e : shiftsE a b = (b.take i).filterMap (shiftF a b) ++ x :: (b.drop (i + 1)).filterMap (shiftF a b) := by
    have hb : b = b.take i ++ b[i]! :: b.drop (i + 1) := by rw [← drop_get h, List.take_append_drop]
    exact (congrArg (List.filterMap (shiftF a b)) hb).trans (by rw [List.filterMap_append, List.filterMap_cons, hx])
  rw [e, List.getElem?_append_right (Nat.le_refl _), Nat.sub_self]; rfl

end Go.Proofs.Ytpicbbkmcbhnpaa
