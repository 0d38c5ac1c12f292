/-
  Layer 19, ListdiffLong: lists that are too long; a long one and itself.
-/
import Derived.Test.YtpicbbkmcbhnpaaLd9
namespace Go.Proofs.Ytpicbbkmcbhnpaa
open Go Go.SL Go.Lcs

theorem trace_length_lcs {α : Type} [DecidableEq α] (i j : Nat) (x y : List α) : (trace i j x y).length + lcs x y = x.length + y.length := by
  fun_induction trace i j x y with
  | case1 => rfl
  | case2 i j a x ih => rw [lcs_nil_right] at *; simp only [List.length_cons, List.length_nil] at *; omega
  | case3 i j b y ih => rw [lcs_nil_left] at *; simp only [List.length_cons, List.length_nil] at *; omega
  | case4 i j x a y ih => rw [lcs_cons, if_pos rfl]; simp only [List.length_cons] at *; omega
  | case5 i j a x b y hne hle ih => rw [lcs_cons, if_neg hne]; simp only [List.length_cons] at *; omega
  | case6 i j a x b y hne hle ih => rw [lcs_cons, if_neg hne]; simp only [List.length_cons] at *; omega
theorem lcs_apart {α : Type} [DecidableEq α] : ∀ (x y : List α), (∀ a ∈ x, a ∉ y) → lcs x y = 0
  | [], _, _ => by simp
  | a :: x, [], _ => by simp
  | a :: x, b :: y, h => by
    have h0 := h a List.mem_cons_self
    rw [List.mem_cons, not_or] at h0
    rw [lcs_cons, if_neg h0.1, lcs_apart x (b :: y) (fun c hc => h c (List.mem_cons_of_mem _ hc)), lcs_apart (a :: x) y (fun c hc => fun h2 => h c hc (List.mem_cons_of_mem _ h2))]
    rfl
theorem lcs_self {α : Type} [DecidableEq α] : ∀ (x : List α), lcs x x = x.length
  | [] => rfl
  | a :: x => by rw [lcs_cons, if_pos rfl, lcs_self x]; rfl
theorem match_len (i j : Nat) (x y : List (List UInt8)) : ((trace i j x y).filterMap mat).length = x.length := by
  fun_induction trace i j x y with
  | case1 => rfl
  | case2 i j a x ih => rw [List.filterMap_cons_some (mat1 rfl), List.length_cons, ih]; rfl
  | case3 i j b y ih => rw [List.filterMap_cons_none (mat2 rfl), ih]
  | case4 i j x a y ih => rw [List.filterMap_cons_some (mat0 rfl), List.length_cons, ih]; rfl
  | case5 i j a x b y hne hle ih => rw [List.filterMap_cons_some (mat1 rfl), List.length_cons, ih]; rfl
  | case6 i j a x b y hne hle ih => rw [List.filterMap_cons_none (mat2 rfl), ih]
theorem diffE_len (xs ys : List (List UInt8)) : (diffE xs ys).length + lcs xs ys = xs.length + ys.length := by
  rw [diffE, List.length_map]; exact trace_length_lcs _ _ _ _
theorem matchE_len (xs ys : List (List UInt8)) : (matchE xs ys).length = xs.length := match_len _ _ _ _
theorem diffE_head {xs : List (List UInt8)} (h : 0 < xs.length) : (diffE xs xs)[0]? = some ((0 : Int), xs[0]!) := by
  cases xs with
  | nil => cases h
  | cons a x => rw [diffE, trace, if_pos rfl]; rfl
/-- A long list, and one of one item: they have nothing in common. -/
theorem long_apart {n : Nat} : lcs (List.replicate n ([] : List UInt8)) [[120]] = 0 := lcs_apart _ _ fun a ha => by
  rw [List.eq_of_mem_replicate ha]; decide

theorem _root_.Go.SL.Rd.andq {P : Program} {o : Oper} {t : TypeId} {x y : Operand} {t' : TypeId} {L : Env} {R : List RO} {O : List Own} {k : IntKind} {p q : Int} {m r : Nat} (ho : o.op = .binOp .and t x y t') (hx : ev L x = some (.int k p)) (hy : ev L y = some (.int k q)) (hq : q = (m : Int)) (hm : m < 2 ^ (k.bits - 1)) (hr : land k p m = r) : Rd P o L R O (.int k r) := hr ▸ Rd.andm ho hx hy hq hm

end Go.Proofs.Ytpicbbkmcbhnpaa
