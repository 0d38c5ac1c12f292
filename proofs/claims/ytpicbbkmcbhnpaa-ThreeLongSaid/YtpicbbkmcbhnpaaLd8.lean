/-
  Layer 19, ListdiffBack: the edits from one list to another give the other one, and keep as much as the two have in common.
-/
import Derived.Test.YtpicbbkmcbhnpaaLd7
namespace Go.Proofs.Ytpicbbkmcbhnpaa
open Go Go.SL Go.Lcs

theorem drop_cons {xs x : List (List UInt8)} {i : Nat} {a : List UInt8} (h : xs.drop i = a :: x) : xs[i]! = a ∧ xs.drop (i + 1) = x := by
  have hi : i < xs.length := by
    rcases Nat.lt_or_ge i xs.length with h' | h'
    · exact h'
    · rw [List.drop_of_length_le h'] at h; cases h
  rw [drop_get hi, List.cons.injEq] at h
  exact h
theorem applyE_trace (xs ys : List (List UInt8)) : ∀ (i j : Nat) (x y : List (List UInt8)) (out : List (List UInt8)), xs.drop i = x → ys.drop j = y → applyE x ((trace i j x y).map (edit xs ys)) out = (out ++ y, 0) := by
  intro i j x y out
  fun_induction trace i j x y generalizing out with
  | case1 => intro _ _; simp [applyE]
  | case2 i j a x ih =>
    intro hx hy
    have h1 := drop_cons hx
    simp only [List.map_cons, edit]
    rw [if_neg (by omega), h1.1]
    simpa [applyE] using ih out h1.2 hy
  | case3 i j b y ih =>
    intro hx hy
    have h1 := drop_cons hy
    simp only [List.map_cons, edit, if_true]
    rw [h1.1]
    simpa [applyE] using ih (out ++ [b]) hx h1.2
  | case4 i j x a y ih =>
    intro hx hy
    have h1 := drop_cons hx
    have h2 := drop_cons hy
    simp only [List.map_cons, edit]
    rw [if_neg (by omega), h1.1]
    simpa [applyE] using ih (out ++ [a]) h1.2 h2.2
  | case5 i j a x b y hne hle ih =>
    intro hx hy
    have h1 := drop_cons hx
    simp only [List.map_cons, edit]
    rw [if_neg (by omega), h1.1]
    simpa [applyE] using ih out h1.2 hy
  | case6 i j a x b y hne hle ih =>
    intro hx hy
    have h1 := drop_cons hy
    simp only [List.map_cons, edit, if_true]
    rw [h1.1]
    simpa [applyE] using ih (out ++ [b]) hx h1.2
theorem applyE_diffE (xs ys : List (List UInt8)) : applyE xs (diffE xs ys) [] = (ys, 0) := by
  rw [diffE, applyE_trace xs ys 0 0 xs ys [] rfl rfl]; rfl
theorem trace_keeps {α : Type} [DecidableEq α] (i j : Nat) (x y : List α) : (trace i j x y).countP (fun t => t.1 = 0) = lcs x y := by
  fun_induction trace i j x y with
  | case1 => rfl
  | case2 i j a x ih => rw [List.countP_cons_of_neg (by simp), ih, lcs_nil_right, lcs_nil_right]
  | case3 i j b y ih => rw [List.countP_cons_of_neg (by simp), ih, lcs_nil_left, lcs_nil_left]
  | case4 i j a x y ih => rw [lcs_cons, if_pos rfl]; simp [ih]
  | case5 i j a x b y hne hle ih => rw [lcs_cons, if_neg hne]; simp [ih]; omega
  | case6 i j a x b y hne hle ih => rw [lcs_cons, if_neg hne]; simp [ih]; omega
/-- How many edits keep an item. -/
abbrev keeps (l : List Ed) : Nat := l.countP (fun e => e.1 = 0)
theorem keeps_diffE (xs ys : List (List UInt8)) : keeps (diffE xs ys) = lcs xs ys := by
  rw [← trace_keeps 0 0 xs ys, keeps, diffE, List.countP_map]
  apply List.countP_congr
  intro t _
  simp [edit]
theorem diffE_length (xs ys : List (List UInt8)) : (diffE xs ys).length ≤ xs.length + ys.length := by
  rw [diffE, List.length_map]; exact trace_length_le _ _ _ _
theorem keeps_step {l : List Ed} {k : Nat} {op : Int} {it : List UInt8} (h : l[k]? = some (op, it)) : keeps (l.take (k + 1)) = keeps (l.take k) + if op = 0 then 1 else 0 := by
  rw [take_snoc' h, keeps, List.countP_append, List.countP_singleton]; simp
theorem keeps_le (l : List Ed) (k : Nat) : keeps (l.take k) ≤ k := by
  have h1 := List.countP_le_length (p := fun e : Ed => decide (e.1 = 0)) (l := l.take k)
  rw [List.length_take] at h1
  exact Nat.le_trans h1 (Nat.min_le_left _ _)

end Go.Proofs.Ytpicbbkmcbhnpaa
