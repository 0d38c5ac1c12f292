/-
  Layer 13: orders that give a text, cut off anywhere; deltas that are right.
-/
import Derived.Test.YtnpnjebogmfdkaaDe3
import Derived.Lib.IndexMore
namespace Go.Proofs.Ytnpnjebogmfdkaa
open Go Go.SL

theorem getE_cut {n j : Nat} (hn : n ≤ 1099511627776) (hj : j < (putE n).length) : (getE ((putE n).take j)).2.2 ≠ 0 := by
  cases j with
  | zero => simp [getE]
  | succ k =>
    have hm := more_le hn
    have hh := head_lt hn
    have hms := mask_sum _ hm
    have hpl := putE_length n
    have hb : (UInt8.ofNat (n / 256 ^ more n + mask (more n))).toNat = n / 256 ^ more n + mask (more n) := u8_toNat (by omega)
    have hl : lead (UInt8.ofNat (n / 256 ^ more n + mask (more n))) = more n := by rw [lead, hb]; exact lead_all _ hm _ hh
    have e : (putE n).take (k + 1) = UInt8.ofNat (n / 256 ^ more n + mask (more n)) :: (beb (more n) n).take k := rfl
    rw [e, getE, hl, if_neg (by omega), if_pos (by rw [List.length_take, beb_length]; omega)]
    decide
theorem g_put {n : Nat} (hn : n ≤ 1099511627776) (t : List UInt8) : gN (putE n ++ t) = n ∧ gX (putE n ++ t) = 0 ∧ gK (putE n ++ t) = (putE n).length ∧ gR (putE n ++ t) = t := by
  have h := getE_put hn t
  have hk : gK (putE n ++ t) = (putE n).length := by unfold gK; rw [h, putE_length]; show ((more n : Int) + 1).toNat = _; omega
  refine ⟨?_, ?_, hk, ?_⟩
  · unfold gN; rw [h]; simp
  · unfold gX; rw [h]
  · unfold gR; rw [hk, List.drop_left]
/-- Bytes of one order, and what it gives. -/
def Ord (base w x : List UInt8) : Prop := ∃ c r, w = c :: r ∧ x ≠ [] ∧ (∀ rest, orderE base c (r ++ rest) = (x, rest, 0)) ∧ ∀ j, j < r.length → (orderE base c (r.take j)).2.2 ≠ 0
theorem take_past {α : Type} (a b : List α) (j : Nat) (h : a.length ≤ j) : (a ++ b).take j = a ++ b.take (j - a.length) := by
  rw [List.take_append, List.take_of_length_le h]
theorem ord_fresh {base x : List UInt8} (h0 : x ≠ []) (hl : x.length ≤ 262208) : Ord base (0 :: (putE x.length ++ x)) x := by
  have hx : x.length ≠ 0 := fun h => h0 (List.length_eq_zero_iff.1 h)
  refine ⟨0, putE x.length ++ x, rfl, h0, fun rest => ?_, fun j hj => ?_⟩
  · rw [List.append_assoc]
    obtain ⟨h1, h2, _, h4⟩ := g_put (n := x.length) (by omega) (x ++ rest)
    unfold orderE
    rw [if_pos rfl, h1, h2, h4, if_neg (by decide), if_neg hx, if_neg (by rw [List.length_append]; omega), List.take_left, List.drop_left]
  · unfold orderE
    rw [if_pos rfl]
    by_cases hj1 : j < (putE x.length).length
    · rw [List.take_append_of_le_length (by omega)]
      have : gX ((putE x.length).take j) ≠ 0 := getE_cut (n := x.length) (by omega) hj1
      rw [if_pos this]; exact this
    · rw [take_past _ _ _ (by omega)]
      obtain ⟨h1, h2, _, h4⟩ := g_put (n := x.length) (by omega) (x.take (j - (putE x.length).length))
      rw [h1, h2, h4, if_neg (by decide), if_neg hx, if_pos (by rw [List.length_append] at hj; rw [List.length_take]; omega)]
      decide
theorem ord_copy {base : List UInt8} {f n : Nat} (hn : 1 ≤ n) (hf : f + n ≤ base.length) (hb : base.length ≤ 262208) : Ord base (1 :: (putE f ++ putE n)) ((base.take (f + n)).drop f) := by
  have hl : ((base.take (f + n)).drop f).length = n := by rw [List.length_drop, List.length_take]; omega
  refine ⟨1, putE f ++ putE n, rfl, fun h => by rw [h] at hl; simp at hl; omega, fun rest => ?_, fun j hj => ?_⟩
  · rw [List.append_assoc]
    obtain ⟨h1, h2, _, h4⟩ := g_put (n := f) (by omega) (putE n ++ rest)
    obtain ⟨k1, k2, _, k4⟩ := g_put (n := n) (by omega) rest
    unfold orderE
    rw [if_neg (by decide), if_pos rfl, h1, h2, h4, k1, k2, k4, if_neg (by decide), if_neg (by decide), if_neg (by omega)]
  · unfold orderE
    rw [if_neg (by decide), if_pos rfl]
    by_cases hj1 : j < (putE f).length
    · rw [List.take_append_of_le_length (by omega)]
      have : gX ((putE f).take j) ≠ 0 := getE_cut (n := f) (by omega) hj1
      rw [if_pos this]; exact this
    · rw [take_past _ _ _ (by omega)]
      obtain ⟨h1, h2, _, h4⟩ := g_put (n := f) (by omega) ((putE n).take (j - (putE f).length))
      rw [List.length_append] at hj
      have : gX ((putE n).take (j - (putE f).length)) ≠ 0 := getE_cut (n := n) (j := j - (putE f).length) (by omega) (by omega)
      rw [h2, h4, if_neg (by decide), if_pos this]; exact this
/-- Orders one behind the other, and what they give. -/
def Enc (base o t : List UInt8) : Prop := ∃ l : List (List UInt8 × List UInt8), o = l.flatMap (·.1) ∧ t = l.flatMap (·.2) ∧ ∀ p ∈ l, Ord base p.1 p.2
theorem Enc.nil (base : List UInt8) : Enc base [] [] := ⟨[], rfl, rfl, fun _ h => absurd h List.not_mem_nil⟩
theorem Enc.add {base o t w x : List UInt8} (h : Enc base o t) (hw : Ord base w x) : Enc base (o ++ w) (t ++ x) := by
  obtain ⟨l, rfl, rfl, h3⟩ := h
  refine ⟨l ++ [(w, x)], by simp, by simp, fun p hp => ?_⟩
  rcases List.mem_append.1 hp with hp | hp
  · exact h3 p hp
  · rw [List.mem_singleton] at hp; subst hp; exact hw
theorem go_enc {base : List UInt8} {to : Nat} (rest : List UInt8) : ∀ (l : List (List UInt8 × List UInt8)) (out : List UInt8), (∀ p ∈ l, Ord base p.1 p.2) → out.length + (l.flatMap (·.2)).length ≤ to → goE base to out (l.flatMap (·.1) ++ rest) = goE base to (out ++ l.flatMap (·.2)) rest
  | [], out, _, _ => by simp
  | (w, x) :: l, out, h, hl => by
    obtain ⟨c, r, hw, hx, h1, _⟩ := h (w, x) List.mem_cons_self
    simp only at hw hx h1
    rw [List.flatMap_cons, List.length_append] at hl
    simp only at hl
    rw [List.flatMap_cons, List.flatMap_cons]
    simp only
    rw [hw, List.append_assoc, List.cons_append, goE_cons, h1, if_neg (fun h => h rfl), if_neg (by show ¬ to < out.length + x.length; omega)]
    rw [go_enc rest l (out ++ x) (fun p hp => h p (List.mem_cons_of_mem _ hp)) (by rw [List.length_append]; omega), List.append_assoc]
theorem go_cut {base : List UInt8} {to : Nat} : ∀ (l : List (List UInt8 × List UInt8)) (out : List UInt8) (j : Nat), (∀ p ∈ l, Ord base p.1 p.2) → out.length + (l.flatMap (·.2)).length = to → j < (l.flatMap (·.1)).length → (goE base to out ((l.flatMap (·.1)).take j)).2 ≠ 0 ∧ (goE base to out ((l.flatMap (·.1)).take j)).1 = []
  | [], out, j, _, _, hj => by simp at hj
  | (w, x) :: l, out, j, h, hl, hj => by
    obtain ⟨c, r, hw, hx, h1, h2⟩ := h (w, x) List.mem_cons_self
    simp only at hw hx h1 h2
    have hx0 : x.length ≠ 0 := fun h => hx (List.length_eq_zero_iff.1 h)
    rw [List.flatMap_cons, List.length_append] at hl
    rw [List.flatMap_cons, List.length_append] at hj
    simp only at hl hj
    rw [hw, List.length_cons] at hj
    rw [List.flatMap_cons]
    simp only
    rw [hw]
    cases j with
    | zero => rw [List.take_zero, goE_nil, if_pos (by omega)]; exact ⟨by decide, rfl⟩
    | succ j =>
      rw [List.cons_append, List.take_succ_cons, goE_cons]
      by_cases hj1 : j < r.length
      · rw [List.take_append_of_le_length (by omega), if_pos (h2 j hj1)]
        exact ⟨h2 j hj1, rfl⟩
      · rw [take_past _ _ _ (by omega), h1, if_neg (fun h => h rfl), if_neg (by show ¬ to < out.length + x.length; omega)]
        exact go_cut l (out ++ x) (j - r.length) (fun p hp => h p (List.mem_cons_of_mem _ hp)) (by rw [List.length_append]; omega) (by omega)
/-- A delta that is right. -/
def Right (base target d : List UInt8) : Prop := ∃ o, d = putE base.length ++ (putE target.length ++ o) ∧ Enc base o target
theorem Right.head {base target d : List UInt8} (h : Right base target d) (hb : base.length ≤ 262208) (ht : target.length ≤ 262208) : ∃ o, Enc base o target ∧ headE d = (base.length, target.length, o, 0) ∧ d = putE base.length ++ (putE target.length ++ o) := by
  obtain ⟨o, rfl, he⟩ := h
  obtain ⟨h1, h2, _, h4⟩ := g_put (n := base.length) (by omega) (putE target.length ++ o)
  obtain ⟨k1, k2, _, k4⟩ := g_put (n := target.length) (by omega) o
  refine ⟨o, he, ?_, rfl⟩
  unfold headE
  rw [h1, h2, h4, k1, k2, k4, if_neg (by decide), if_neg (by decide), if_neg (by omega)]
theorem Right.apply {base target d : List UInt8} (h : Right base target d) (hb : base.length ≤ 262208) (ht : target.length ≤ 262208) : applyE base d = (target, 0) := by
  obtain ⟨o, ⟨l, h1, h2, h3⟩, hh, _⟩ := h.head hb ht
  have hg := go_enc (base := base) (to := target.length) [] l [] h3 (by rw [← h2]; simp)
  rw [← h1, ← h2, List.append_nil, List.nil_append, goE_nil, if_neg (by omega)] at hg
  unfold applyE
  rw [hh, if_neg (fun h => h rfl), if_neg (fun h => h rfl)]
  exact hg
theorem Right.stale {base target d : List UInt8} (h : Right base target d) (hb : base.length ≤ 262208) (ht : target.length ≤ 262208) {b2 : List UInt8} (hne : b2.length ≠ base.length) : applyE b2 d = ([], 13) := by
  obtain ⟨o, _, hh, _⟩ := h.head hb ht
  unfold applyE
  rw [hh, if_neg (fun h => h rfl), if_pos hne]
theorem Right.pos {base target d : List UInt8} (h : Right base target d) : 0 < d.length := by
  obtain ⟨o, rfl, _⟩ := h
  rw [List.length_append, putE_length]; omega
theorem Right.cut {base target d : List UInt8} (h : Right base target d) (hb : base.length ≤ 262208) (ht : target.length ≤ 262208) {j : Nat} (hj : j < d.length) : (applyE base (d.take j)).2 ≠ 0 ∧ (applyE base (d.take j)).1 = [] := by
  obtain ⟨o, ⟨l, e1, e2, e3⟩, _, hd⟩ := h.head hb ht
  rw [hd] at hj ⊢
  rw [List.length_append, List.length_append] at hj
  by_cases hj1 : j < (putE base.length).length
  · rw [List.take_append_of_le_length (by omega)]
    have hx : gX ((putE base.length).take j) ≠ 0 := getE_cut (n := base.length) (by omega) hj1
    have e : headE ((putE base.length).take j) = (0, 0, [], gX ((putE base.length).take j)) := if_pos hx
    unfold applyE
    rw [e, if_pos hx]
    exact ⟨hx, rfl⟩
  · rw [take_past _ _ _ (by omega)]
    by_cases hj2 : j - (putE base.length).length < (putE target.length).length
    · rw [List.take_append_of_le_length (by omega)]
      have hx : gX ((putE target.length).take (j - (putE base.length).length)) ≠ 0 := getE_cut (n := target.length) (by omega) hj2
      obtain ⟨h1, h2, _, h4⟩ := g_put (n := base.length) (by omega) ((putE target.length).take (j - (putE base.length).length))
      have e : headE (putE base.length ++ (putE target.length).take (j - (putE base.length).length)) = (0, 0, [], gX ((putE target.length).take (j - (putE base.length).length))) := by
        unfold headE; rw [h2, h4, if_neg (by decide), if_pos hx]
      unfold applyE
      rw [e, if_pos hx]
      exact ⟨hx, rfl⟩
    · rw [take_past _ _ _ (by omega)]
      obtain ⟨h1, h2, _, h4⟩ := g_put (n := base.length) (by omega) (putE target.length ++ o.take (j - (putE base.length).length - (putE target.length).length))
      obtain ⟨k1, k2, _, k4⟩ := g_put (n := target.length) (by omega) (o.take (j - (putE base.length).length - (putE target.length).length))
      have e : headE (putE base.length ++ (putE target.length ++ o.take (j - (putE base.length).length - (putE target.length).length))) = (base.length, target.length, o.take (j - (putE base.length).length - (putE target.length).length), 0) := by
        unfold headE
        rw [h1, h2, h4, k1, k2, k4, if_neg (by decide), if_neg (by decide), if_neg (by omega)]
      unfold applyE
      rw [e, if_neg (fun h => h rfl), if_neg (fun h => h rfl)]
      rw [e1] at hj ⊢
      exact go_cut l [] _ e3 (by rw [← e2]; simp) (by omega)
theorem putE_le {n : Nat} (h : n ≤ 262208) : (putE n).length ≤ 3 := by
  rw [putE_length]
  have : more n ≤ 2 := more_lt.1 (Nat.lt_of_le_of_lt h (by decide))
  omega
theorem putI_nat' {n : Nat} (h : n ≤ 1099511627776) : putI (n : Int) = putE n := putI_nat h
end Go.Proofs.Ytnpnjebogmfdkaa
