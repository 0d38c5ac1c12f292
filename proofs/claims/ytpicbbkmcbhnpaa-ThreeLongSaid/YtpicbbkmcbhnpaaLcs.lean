/-
  Plain facts on the longest common subsequence of two lists; no program is in sight.
-/
namespace Go.Lcs
variable {α : Type} [DecidableEq α]

/-- One row of the table: with one item more in front. -/
def row (f : List α → Nat) (a : α) : List α → Nat
  | [] => 0
  | b :: y => if a = b then f y + 1 else max (f (b :: y)) (row f a y)
/-- The length of a longest common subsequence. -/
def lcs : List α → List α → Nat
  | [], _ => 0
  | a :: x, y => row (lcs x) a y
@[simp] theorem lcs_nil_left (y : List α) : lcs [] y = 0 := rfl
@[simp] theorem lcs_nil_right (x : List α) : lcs x [] = 0 := by cases x <;> rfl
theorem lcs_cons (a b : α) (x y : List α) : lcs (a :: x) (b :: y) = if a = b then lcs x y + 1 else max (lcs x (b :: y)) (lcs (a :: x) y) := rfl
theorem lcs_le_left : ∀ (x y : List α), lcs x y ≤ x.length
  | [], _ => Nat.zero_le _
  | a :: x, [] => by simp
  | a :: x, b :: y => by
    rw [lcs_cons]
    have h1 := lcs_le_left x y
    have h2 := lcs_le_left x (b :: y)
    have h3 := lcs_le_left (a :: x) y
    simp only [List.length_cons] at *
    split <;> omega
theorem lcs_le_right : ∀ (x y : List α), lcs x y ≤ y.length
  | [], _ => Nat.zero_le _
  | a :: x, [] => by simp
  | a :: x, b :: y => by
    rw [lcs_cons]
    have h1 := lcs_le_right x y
    have h2 := lcs_le_right x (b :: y)
    have h3 := lcs_le_right (a :: x) y
    simp only [List.length_cons] at *
    split <;> omega
theorem lcs_symm : ∀ (x y : List α), lcs x y = lcs y x
  | [], y => by simp
  | a :: x, [] => by simp
  | a :: x, b :: y => by
    rw [lcs_cons, lcs_cons, lcs_symm x y, lcs_symm x (b :: y), lcs_symm (a :: x) y]
    by_cases h : a = b
    · simp [h]
    · simp only [h, if_false, show ¬ b = a from fun e => h e.symm]
      omega
/-- A row of the table, from each place of y on. -/
def lrow (x y : List α) : List Nat := (List.range (y.length + 1)).map fun q => lcs x (y.drop q)
theorem lrow_length (x y : List α) : (lrow x y).length = y.length + 1 := by simp [lrow]
theorem lrow_get (x y : List α) {q : Nat} (h : q ≤ y.length) : (lrow x y)[q]? = some (lcs x (y.drop q)) := by
  simp [lrow, show q < y.length + 1 from by omega]

/-- The steps of the walk through two lists: the kind of each edit, and both places. -/
def trace : Nat → Nat → List α → List α → List (Nat × Nat × Nat)
  | _, _, [], [] => []
  | i, j, _ :: x, [] => (1, i, j) :: trace (i + 1) j x []
  | i, j, [], _ :: y => (2, i, j) :: trace i (j + 1) [] y
  | i, j, a :: x, b :: y =>
    if a = b then (0, i, j) :: trace (i + 1) (j + 1) x y
    else if lcs (a :: x) y ≤ lcs x (b :: y) then (1, i, j) :: trace (i + 1) j x (b :: y)
    else (2, i, j) :: trace i (j + 1) (a :: x) y
termination_by _ _ x y => x.length + y.length

theorem trace_length_le (i j : Nat) (x y : List α) : (trace i j x y).length ≤ x.length + y.length := by
  fun_induction trace i j x y <;> simp_all <;> omega
end Go.Lcs
