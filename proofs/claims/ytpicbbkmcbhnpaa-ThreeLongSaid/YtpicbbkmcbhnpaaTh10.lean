/-
  Layer 21: what Lines computes (plain).
-/
import Derived.Test.YtpicbbkmcbhnpaaTh9
namespace Go.Proofs.Ytpicbbkmcbhnpaa
open Go Go.SL Go.Lcs

theorem match_in (i j : Nat) (x y : List (List UInt8)) : ∀ v ∈ (trace i j x y).filterMap mat, 0 ≤ v → (j : Int) ≤ v ∧ v < ((j + y.length : Nat) : Int) := by
  fun_induction trace i j x y with
  | case1 => intro v hv; cases hv
  | case2 i j a x ih =>
    intro v hv h0
    rw [List.filterMap_cons, mat1 rfl] at hv
    rcases List.mem_cons.1 hv with rfl | hv
    · omega
    · exact ih v hv h0
  | case3 i j b y ih =>
    intro v hv h0
    rw [List.filterMap_cons, mat2 rfl] at hv
    have := ih v hv h0
    simp only [List.length_cons]; omega
  | case4 i j a x y ih =>
    intro v hv h0
    rw [List.filterMap_cons, mat0 rfl] at hv
    simp only [List.length_cons]
    rcases List.mem_cons.1 hv with rfl | hv
    · omega
    · have := ih v hv h0; omega
  | case5 i j a x b y hne h ih =>
    intro v hv h0
    rw [List.filterMap_cons, mat1 rfl] at hv
    rcases List.mem_cons.1 hv with rfl | hv
    · omega
    · exact ih v hv h0
  | case6 i j a x b y hne h ih =>
    intro v hv h0
    rw [List.filterMap_cons, mat2 rfl] at hv
    have := ih v hv h0
    simp only [List.length_cons]; omega
theorem match_up (i j : Nat) (x y : List (List UInt8)) : ((trace i j x y).filterMap mat).Pairwise (fun a b => 0 ≤ a → 0 ≤ b → a < b) := by
  fun_induction trace i j x y with
  | case1 => exact List.Pairwise.nil
  | case2 i j a x ih =>
    rw [List.filterMap_cons, mat1 rfl]
    exact List.Pairwise.cons (fun v hv h0 _ => by omega) ih
  | case3 i j b y ih =>
    rw [List.filterMap_cons, mat2 rfl]; exact ih
  | case4 i j a x y ih =>
    rw [List.filterMap_cons, mat0 rfl]
    exact List.Pairwise.cons (fun v hv _ h0 => by have := match_in _ _ _ _ v hv h0; omega) ih
  | case5 i j a x b y hne h ih =>
    rw [List.filterMap_cons, mat1 rfl]
    exact List.Pairwise.cons (fun v hv h0 _ => by omega) ih
  | case6 i j a x b y hne h ih =>
    rw [List.filterMap_cons, mat2 rfl]; exact ih
theorem matchE_in {x y : List (List UInt8)} {n : Nat} (h : n < x.length) (h0 : 0 ≤ (matchE x y)[n]!) : (matchE x y)[n]! < (y.length : Int) := by
  have hl := matchE_len x y
  have hm : (matchE x y)[n]! ∈ matchE x y := by rw [getElem!_pos _ n (by omega)]; exact List.getElem_mem _
  have := match_in 0 0 x y _ hm h0
  omega
theorem matchE_up {x y : List (List UInt8)} {n m : Nat} (h : n < m) (hm : m < x.length) (h0 : 0 ≤ (matchE x y)[n]!) (h1 : 0 ≤ (matchE x y)[m]!) : (matchE x y)[n]! < (matchE x y)[m]! := by
  have hl := matchE_len x y
  have hp := List.pairwise_iff_getElem.1 (match_up 0 0 x y) n m (by rw [show ((trace 0 0 x y).filterMap mat).length = x.length from hl]; omega) (by rw [show ((trace 0 0 x y).filterMap mat).length = x.length from hl]; omega) h
  rw [getElem!_pos _ n (by omega)] at h0 ⊢
  rw [getElem!_pos _ m (by omega)] at h1 ⊢
  exact hp h0 h1

/-- How far the lists are gone through, and what has come. -/
structure LSt where
  i : Nat
  j : Nat
  k : Nat
  out : List (List UInt8)
  bad : List Hl
section
variable (base ours theirs : List (List UInt8))
def lpiece (s : LSt) (i j k : Nat) : List (List UInt8) × List Hl := (s.out ++ (oneE ((base.take i).drop s.i) ((ours.take j).drop s.j) ((theirs.take k).drop s.k)).getD [], s.bad ++ pieceBad ((base.take i).drop s.i) ((ours.take j).drop s.j) ((theirs.take k).drop s.k))
def lstep (s : LSt) (n : Nat) : LSt :=
  if 0 ≤ (matchE base ours)[n]! ∧ 0 ≤ (matchE base theirs)[n]! then
    { i := n + 1, j := (matchE base ours)[n]!.toNat + 1, k := (matchE base theirs)[n]!.toNat + 1,
      out := (lpiece base ours theirs s n (matchE base ours)[n]!.toNat (matchE base theirs)[n]!.toNat).1 ++ [base[n]!],
      bad := (lpiece base ours theirs s n (matchE base ours)[n]!.toNat (matchE base theirs)[n]!.toNat).2 }
  else s
def lrun (n : Nat) : LSt := (List.range n).foldl (lstep base ours theirs) ⟨0, 0, 0, [], []⟩
def lfin : List (List UInt8) × List Hl := lpiece base ours theirs (lrun base ours theirs base.length) base.length ours.length theirs.length
/-- What Lines comes to. -/
def linesE : List (List UInt8) × List Hl := if 0 < (lfin base ours theirs).2.length then ([], (lfin base ours theirs).2) else ((lfin base ours theirs).1, [])
end
section
variable {base ours theirs : List (List UInt8)}
theorem lrun_zero : lrun base ours theirs 0 = ⟨0, 0, 0, [], []⟩ := rfl
theorem lrun_succ (n : Nat) : lrun base ours theirs (n + 1) = lstep base ours theirs (lrun base ours theirs n) n := by
  unfold lrun
  rw [List.range_succ, List.foldl_append]; rfl
structure LOk (base ours theirs : List (List UInt8)) (s : LSt) (n : Nat) : Prop where
  i : s.i ≤ n
  j : s.j ≤ ours.length
  k : s.k ≤ theirs.length
  out : s.out.length ≤ s.j + s.k
  bad : s.bad.length ≤ s.i
  next : ∀ b, n ≤ b → b < base.length → 0 ≤ (matchE base ours)[b]! → 0 ≤ (matchE base theirs)[b]! → (s.j : Int) ≤ (matchE base ours)[b]! ∧ (s.k : Int) ≤ (matchE base theirs)[b]!
theorem pieceBad_len (b o t : List (List UInt8)) : (pieceBad b o t).length ≤ 1 := by
  unfold pieceBad; split <;> simp
theorem lpiece_len {s : LSt} {i j k : Nat} (hj : s.j ≤ j) (hjl : j ≤ ours.length) (hk : s.k ≤ k) (hkl : k ≤ theirs.length) (h : s.out.length ≤ s.j + s.k) (hb : s.bad.length ≤ s.i) : (lpiece base ours theirs s i j k).1.length ≤ j + k ∧ (lpiece base ours theirs s i j k).2.length ≤ s.i + 1 := by
  have h1 := oneD_len ((base.take i).drop s.i) ((ours.take j).drop s.j) ((theirs.take k).drop s.k)
  have h2 := pieceBad_len ((base.take i).drop s.i) ((ours.take j).drop s.j) ((theirs.take k).drop s.k)
  have h3 : ((ours.take j).drop s.j).length = j - s.j := by rw [List.length_drop, List.length_take]; omega
  have h4 : ((theirs.take k).drop s.k).length = k - s.k := by rw [List.length_drop, List.length_take]; omega
  unfold lpiece
  simp only [List.length_append]
  omega
theorem lrun_ok : ∀ n, n ≤ base.length → LOk base ours theirs (lrun base ours theirs n) n
  | 0, _ => ⟨Nat.le_refl _, Nat.zero_le _, Nat.zero_le _, Nat.zero_le _, Nat.zero_le _, fun b _ _ h1 h2 => ⟨h1, h2⟩⟩
  | n + 1, h => by
    have ih := lrun_ok n (by omega)
    rw [lrun_succ]
    unfold lstep
    split
    · rename_i hm
      obtain ⟨h1, h2⟩ := hm
      have n1 := ih.next n (Nat.le_refl _) (by omega) h1 h2
      have b1 := matchE_in (y := ours) (by omega) h1
      have b2 := matchE_in (y := theirs) (by omega) h2
      have hp := lpiece_len (base := base) (ours := ours) (theirs := theirs) (s := lrun base ours theirs n) (i := n) (j := (matchE base ours)[n]!.toNat) (k := (matchE base theirs)[n]!.toNat) (by omega) (by omega) (by omega) (by omega) ih.out ih.bad
      have h3 := ih.i
      refine ⟨Nat.le_refl _, by show _ + 1 ≤ _; omega, by show _ + 1 ≤ _; omega, ?_, ?_, ?_⟩
      · simp only [List.length_append, List.length_cons, List.length_nil]; omega
      · exact Nat.le_trans hp.2 (Nat.succ_le_succ h3)
      · intro b hb hbl g1 g2
        have u1 := matchE_up (y := ours) (n := n) (m := b) (by omega) hbl h1 g1
        have u2 := matchE_up (y := theirs) (n := n) (m := b) (by omega) hbl h2 g2
        show ((_ : Nat) : Int) ≤ _ ∧ ((_ : Nat) : Int) ≤ _
        constructor
        · show (((matchE base ours)[n]!.toNat + 1 : Nat) : Int) ≤ _; omega
        · show (((matchE base theirs)[n]!.toNat + 1 : Nat) : Int) ≤ _; omega
    · exact ⟨by have := ih.i; omega, ih.j, ih.k, ih.out, ih.bad, fun b hb => ih.next b (by omega)⟩
end
end Go.Proofs.Ytpicbbkmcbhnpaa
