/-
  Layer 3: frames one behind the other, cut off anywhere (CrcCuts).
-/
import Derived.Test.YtodedkoebcdejaaDoorCr4
namespace Go.Proofs.YtodedkoebcdejaaDoor
open Go Go.SL

def frm (l : List (List UInt8)) (j : Nat) : List UInt8 := frameE (UInt8.ofNat (j % 256)) l[j]!
def cat (l : List (List UInt8)) : Nat → List UInt8
  | 0 => []
  | n + 1 => cat l n ++ frm l n
def Short (l : List (List UInt8)) (n : Nat) : Prop := ∀ j, j < n → l[j]!.length ≤ 2000
def endsE (l : List (List UInt8)) (n : Nat) : List Int := (List.range n).map fun j => ((cat l (j + 1)).length : Int)
theorem frm_length {l : List (List UInt8)} {n j : Nat} (h : Short l n) (hj : j < n) : 5 ≤ (frm l j).length ∧ (frm l j).length ≤ 2011 := by
  have h1 := h j hj
  have h2 := frame_length (k := UInt8.ofNat (j % 256)) (b := l[j]!) (by omega)
  have h3 := putE_short (n := l[j]!.length) (by omega)
  rw [frm]; omega
theorem cat_length {l : List (List UInt8)} : ∀ {n : Nat}, Short l n → (cat l n).length ≤ 2011 * n ∧ n ≤ (cat l n).length
  | 0, _ => ⟨Nat.le_refl _, Nat.le_refl _⟩
  | n + 1, h => by
    obtain ⟨h1, h2⟩ := cat_length (n := n) fun j hj => h j (by omega)
    have h3 := frm_length h (j := n) (by omega)
    rw [cat, List.length_append]; omega
theorem cat_prefix (l : List (List UInt8)) {k : Nat} : ∀ {n : Nat}, k ≤ n → ∃ r, cat l n = cat l k ++ r
  | 0, h => by obtain rfl : k = 0 := by omega
               exact ⟨[], by simp⟩
  | n + 1, h => by
    rcases Nat.lt_or_ge n k with h1 | h1
    · obtain rfl : k = n + 1 := by omega
      exact ⟨[], by simp⟩
    · obtain ⟨r, hr⟩ := cat_prefix l h1
      exact ⟨r ++ frm l n, by rw [cat, hr, List.append_assoc]⟩
theorem cat_mono (l : List (List UInt8)) {k n : Nat} (h : k ≤ n) : (cat l k).length ≤ (cat l n).length := by
  obtain ⟨r, hr⟩ := cat_prefix l h
  rw [hr, List.length_append]; omega
theorem ends_get (l : List (List UInt8)) {n j : Nat} (h : j < n) : (endsE l n)[j]? = some ((cat l (j + 1)).length : Int) := by
  rw [endsE, List.getElem?_map, List.getElem?_range h]; rfl
theorem ends_snoc (l : List (List UInt8)) (n : Nat) : endsE l (n + 1) = endsE l n ++ [((cat l (n + 1)).length : Int)] := by
  rw [endsE, List.range_succ, List.map_append]; rfl
theorem ends_length (l : List (List UInt8)) (n : Nat) : (endsE l n).length = n := by simp [endsE]
theorem frm_next {l : List (List UInt8)} {n j : Nat} (h : Short l n) (hj : j < n) (t : List UInt8) : (nextF (frm l j ++ t)).2.2 = (((frm l j).length : Int), 0) := by
  have h1 := h j hj
  rw [frm, frame_next (by omega)]
theorem whole_cat {l : List (List UInt8)} {n : Nat} (h : Short l n) {p : List UInt8} (hp : (nextF p).2.2.2 ≠ 0) : wholeE (cat l n ++ p) = ((cat l n).length, n) := by
  have key : ∀ k, k ≤ n → ∀ f, wholeF (f + k) (cat l n ++ p) 0 0 = wholeF f (cat l n ++ p) (cat l k).length k := by
    intro k
    induction k with
    | zero => intro _ f; rfl
    | succ k ih =>
      intro hk f
      obtain ⟨r, hr⟩ := cat_prefix l (k := k + 1) (n := n) hk
      have hd : (cat l n ++ p).drop (cat l k).length = frm l k ++ (r ++ p) := by
        rw [hr, cat, List.append_assoc, List.append_assoc, List.drop_left]
      have hx := frm_next h (j := k) (by omega) (r ++ p)
      rw [show f + (k + 1) = (f + 1) + k from by omega, ih (by omega) (f + 1), wholeF, hd, hx, if_neg (by simp), Int.toNat_natCast, cat, List.length_append]
  have hl := (cat_length h).2
  rw [wholeE, show (cat l n ++ p).length + 1 = ((cat l n ++ p).length + 1 - n) + n from by rw [List.length_append]; omega, key n (Nat.le_refl _)]
  exact wholeF_stop (by rw [List.length_append]; omega) (by rw [List.drop_left]; exact hp)
/-- What is left behind the last whole frame. -/
theorem cat_cut {l : List (List UInt8)} {m n c : Nat} (h : Short l m) (hn : n ≤ m) (h1 : (cat l n).length ≤ c) (hc : c ≤ (cat l m).length) (h2 : n < m → c < (cat l (n + 1)).length) :
    ∃ p, (cat l m).take c = cat l n ++ p ∧ p.length = c - (cat l n).length ∧ (nextF p).2.2.2 = if p.length = 0 then 9 else 3 := by
  rcases Nat.lt_or_ge n m with h3 | h3
  · obtain ⟨r, hr⟩ := cat_prefix l (k := n + 1) (n := m) h3
    have h4 := h2 h3
    have h5 := h n h3
    rw [cat, List.length_append] at h4
    refine ⟨(frm l n).take (c - (cat l n).length), ?_, by rw [List.length_take]; omega, ?_⟩
    · rw [hr, cat, List.take_append_of_le_length (by rw [List.length_append]; omega), List.take_append, List.take_of_length_le h1]
    · have hf := frame_cut (k := UInt8.ofNat (n % 256)) (b := l[n]!) (by omega) (c := c - (cat l n).length) (by rw [← frm]; omega)
      rw [frm, hf, List.length_take, ← frm, Nat.min_eq_left (by omega)]
  · obtain rfl : n = m := by omega
    refine ⟨[], ?_, ?_, rfl⟩
    · rw [List.append_nil, List.take_of_length_le h1]
    · rw [List.length_nil]; omega

end Go.Proofs.YtodedkoebcdejaaDoor
