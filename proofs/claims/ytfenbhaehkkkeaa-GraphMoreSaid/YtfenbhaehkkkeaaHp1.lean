/-
  A heap in a list: sifting up, sifting down; the first is the least. Plain lists, no program.
-/
import Derived.Test.YtfenbhaehkkkeaaSl
namespace Go.Proofs.Ytfenbhaehkkkeaa
open Go
/-- A strict order, of which what is not below either way round is alike. -/
structure Ord {α : Type} (lt : α → α → Prop) : Prop where
  irrefl : ∀ a, ¬ lt a a
  asymm : ∀ a b, lt a b → ¬ lt b a
  le_trans : ∀ a b c, ¬ lt b a → ¬ lt c b → ¬ lt c a
  lt_le : ∀ a b c, lt a b → ¬ lt c b → ¬ lt c a
section
variable {α : Type} [Inhabited α] {lt : α → α → Prop}
def swapL (l : List α) (i j : Nat) : List α := (l.set i l[j]!).set j l[i]!
theorem swapL_len (l : List α) (i j : Nat) : (swapL l i j).length = l.length := by simp [swapL]
theorem set_get! {l : List α} {i : Nat} {a : α} {k : Nat} (hi : i < l.length) : (l.set i a)[k]! = if k = i then a else l[k]! := by
  by_cases hk : k < l.length
  · rw [getElem!_pos (l.set i a) k (by simpa using hk), getElem!_pos l k hk, List.getElem_set]
    by_cases e : i = k
    · rw [if_pos e, if_pos e.symm]
    · rw [if_neg e, if_neg (fun h => e h.symm)]
  · rw [if_neg (by omega), getElem!_neg (l.set i a) k (by simpa using hk), getElem!_neg l k hk]
theorem swapL_get {l : List α} {i j : Nat} (hi : i < l.length) (hj : j < l.length) (k : Nat) : (swapL l i j)[k]! = if k = j then l[i]! else if k = i then l[j]! else l[k]! := by
  unfold swapL
  rw [set_get! (by simpa using hj)]
  by_cases e : k = j
  · rw [if_pos e, if_pos e]
  · rw [if_neg e, if_neg e, set_get! hi]
theorem swapL_perm {l : List α} {i j : Nat} (hi : i < l.length) (hj : j < l.length) : (swapL l i j).Perm l := by
  unfold swapL
  rw [getElem!_pos l i hi, getElem!_pos l j hj]
  exact List.set_set_perm hi hj
theorem swapL_take {l : List α} {i j n : Nat} (hi : i < n) (hj : j < n) (hn : n ≤ l.length) : (swapL l i j).drop n = l.drop n := by
  unfold swapL
  rw [List.drop_set_of_lt hj, List.drop_set_of_lt hi]
/-- Each but those of parent 'no' is not below its parent; in the first n. -/
def HpBut (lt : α → α → Prop) (l : List α) (n : Nat) (ok : Nat → Prop) : Prop := ∀ k, 0 < k → k < n → ok k → ¬ lt l[k]! l[(k - 1) / 2]!
def Hp (lt : α → α → Prop) (l : List α) : Prop := ∀ k, 0 < k → k < l.length → ¬ lt l[k]! l[(k - 1) / 2]!
/-- Sifting up: at j alone there may be a fault. -/
def Up (lt : α → α → Prop) (l : List α) (j : Nat) : Prop := j < l.length ∧ (∀ k, 0 < k → k < l.length → k ≠ j → ¬ lt l[k]! l[(k - 1) / 2]!) ∧ (∀ c, 0 < c → c < l.length → (c - 1) / 2 = j → 0 < j → ¬ lt l[c]! l[(j - 1) / 2]!)
theorem Up.push {l : List α} (h : Hp lt l) (x : α) : Up lt (l ++ [x]) l.length := by
  refine ⟨by simp, fun k h0 hk hne => ?_, fun c h0 hc he => ?_⟩
  · rw [List.length_append, List.length_singleton] at hk
    have h1 := h k h0 (by omega)
    rw [getElem!_pos l k (by omega), getElem!_pos l ((k - 1) / 2) (by omega)] at h1
    rw [getElem!_pos (l ++ [x]) k (by simp; omega), getElem!_pos (l ++ [x]) ((k - 1) / 2) (by simp; omega), List.getElem_append_left (by omega), List.getElem_append_left (by omega)]
    exact h1
  · rw [List.length_append, List.length_singleton] at hc; omega
theorem Up.done {l : List α} {j : Nat} (h : Up lt l j) (hd : j = 0 ∨ ¬ lt l[j]! l[(j - 1) / 2]!) : Hp lt l := fun k h0 hk => by
  by_cases e : k = j
  · subst e; rcases hd with hd | hd
    · omega
    · exact hd
  · exact h.2.1 k h0 hk e
theorem Up.step (ho : Ord lt) {l : List α} {j : Nat} (h : Up lt l j) (h0 : 0 < j) (hl : lt l[j]! l[(j - 1) / 2]!) : Up lt (swapL l ((j - 1) / 2) j) ((j - 1) / 2) := by
  obtain ⟨hj, h1, h2⟩ := h
  have hi : (j - 1) / 2 < l.length := by omega
  refine ⟨by rw [swapL_len]; exact hi, fun k k0 hk hne => ?_, fun c c0 hc he g0 => ?_⟩
  · rw [swapL_len] at hk
    rw [swapL_get hi hj, swapL_get hi hj]
    by_cases e : k = j
    · subst e
      rw [if_pos rfl, if_neg (by omega), if_pos rfl]
      exact ho.asymm _ _ hl
    · rw [if_neg e, if_neg hne]
      by_cases e2 : (k - 1) / 2 = j
      · rw [if_pos e2]; exact h2 k k0 hk e2 h0
      · rw [if_neg e2]
        by_cases e3 : (k - 1) / 2 = (j - 1) / 2
        · rw [if_pos e3]
          have := h1 k k0 hk e
          rw [e3] at this
          exact ho.lt_le _ _ _ hl this
        · rw [if_neg e3]; exact h1 k k0 hk e
  · rw [swapL_len] at hc
    rw [swapL_get hi hj, swapL_get hi hj]
    have hg := h1 ((j - 1) / 2) g0 hi (by omega)
    rw [if_neg (c := ((j - 1) / 2 - 1) / 2 = j) (by omega), if_neg (c := ((j - 1) / 2 - 1) / 2 = (j - 1) / 2) (by omega)]
    by_cases e : c = j
    · rw [if_pos e]; exact hg
    · rw [if_neg e, if_neg (by omega)]
      have := h1 c c0 hc e
      rw [he] at this
      exact ho.le_trans _ _ _ hg this
/-- Sifting down among the first n: at i's children alone there may be a fault. -/
def Dn (lt : α → α → Prop) (l : List α) (i n : Nat) : Prop := n ≤ l.length ∧ (∀ k, 0 < k → k < n → (k - 1) / 2 ≠ i → ¬ lt l[k]! l[(k - 1) / 2]!) ∧ (∀ c, 0 < c → c < n → (c - 1) / 2 = i → 0 < i → ¬ lt l[c]! l[(i - 1) / 2]!)
theorem Dn.done {l : List α} {i n : Nat} (h : Dn lt l i n) (hd : ∀ c, 0 < c → c < n → (c - 1) / 2 = i → ¬ lt l[c]! l[i]!) : Hp lt (l.take n) := fun k h0 hk => by
  have hn := h.1
  rw [List.length_take] at hk
  rw [getElem!_pos (l.take n) k (by rw [List.length_take]; omega), getElem!_pos (l.take n) ((k - 1) / 2) (by rw [List.length_take]; omega), List.getElem_take, List.getElem_take]
  rw [← getElem!_pos l k (by omega), ← getElem!_pos l ((k - 1) / 2) (by omega)]
  by_cases e : (k - 1) / 2 = i
  · rw [e]; exact hd k h0 (by omega) e
  · exact h.2.1 k h0 (by omega) e
/-- j is the child of i that is not above the other one. -/
theorem Dn.step (ho : Ord lt) {l : List α} {i j n : Nat} (h : Dn lt l i n) (hj : j < n) (hji : (j - 1) / 2 = i) (j0 : 0 < j) (hmin : ∀ c, 0 < c → c < n → (c - 1) / 2 = i → ¬ lt l[c]! l[j]!) (hl : lt l[j]! l[i]!) : Dn lt (swapL l i j) j n := by
  obtain ⟨hn, h1, h2⟩ := h
  have hi : i < l.length := by omega
  have hj' : j < l.length := by omega
  refine ⟨by rw [swapL_len]; exact hn, fun k k0 hk hne => ?_, fun c c0 hc he _ => ?_⟩
  · rw [swapL_get hi hj', swapL_get hi hj']
    by_cases e : k = j
    · subst e
      rw [if_pos rfl, if_neg hne, if_pos hji]
      exact ho.asymm _ _ hl
    · rw [if_neg e, if_neg hne]
      by_cases e2 : k = i
      · subst e2
        rw [if_pos rfl, if_neg (by omega)]
        exact h2 j j0 hj hji k0
      · rw [if_neg e2]
        by_cases e3 : (k - 1) / 2 = i
        · rw [if_pos e3]; exact hmin k k0 hk e3
        · rw [if_neg e3]; exact h1 k k0 hk e3
  · rw [swapL_get hi hj', swapL_get hi hj', if_neg (by omega), if_neg (by omega), if_neg (by omega), if_pos hji]
    have := h1 c c0 hc (by omega)
    rwa [he] at this
theorem Hp.first (ho : Ord lt) {l : List α} (h : Hp lt l) : ∀ k, k < l.length → ¬ lt l[k]! l[0]! := by
  intro k
  induction k using Nat.strongRecOn with
  | _ k ih =>
    intro hk
    by_cases e : k = 0
    · subst e; exact ho.irrefl _
    · exact ho.le_trans _ _ _ (ih ((k - 1) / 2) (by omega) (by omega)) (h k (by omega) hk)
theorem Hp.least (ho : Ord lt) {l : List α} (h : Hp lt l) {x : α} (hx : x ∈ l) : ¬ lt x l[0]! := by
  obtain ⟨k, hk, rfl⟩ := List.getElem_of_mem hx
  rw [← getElem!_pos l k hk]
  exact h.first ho k hk
/-- The first goes to the end; what comes ahead of it is to be sifted down. -/
theorem Dn.start {l : List α} {m : Nat} (h : Hp lt l) (hm : l.length = m + 1) : Dn lt (swapL l 0 m) 0 m := by
  refine ⟨by rw [swapL_len]; omega, fun k k0 hk hne => ?_, fun c _ _ _ h0 => absurd h0 (Nat.lt_irrefl 0)⟩
  rw [swapL_get (by omega) (by omega), swapL_get (by omega) (by omega), if_neg (by omega), if_neg (by omega), if_neg (by omega), if_neg hne]
  exact h k k0 (by omega)
theorem hp_nil : Hp lt ([] : List α) := fun k _ hk => absurd hk (Nat.not_lt_zero _)
end
end Go.Proofs.Ytfenbhaehkkkeaa
