/-
  Layer 21: plain laws of Lines: sides that are base, sides that are alike, sides in the other order.
-/
import Derived.Test.YtpicbbkmcbhnpaaTh13
namespace Go.Proofs.Ytpicbbkmcbhnpaa
open Go Go.SL Go.Lcs

theorem oneE_comm (b o t : List (List UInt8)) : oneE b o t = oneE b t o := by
  unfold oneE
  by_cases h1 : o = t
  · subst h1; rfl
  · by_cases h2 : t = b
    · have h3 : ¬ o = b := fun h => h1 (h.trans h2.symm)
      rw [if_pos (.inr h2), if_neg (by rintro (h | h); exact h1 h.symm; exact h3 h), if_pos h2]
    · by_cases h3 : o = b
      · rw [if_neg (by rintro (h | h); exact h1 h; exact h2 h), if_pos h3, if_pos (.inr h3)]
      · rw [if_neg (by rintro (h | h); exact h1 h; exact h2 h), if_neg h3, if_neg (by rintro (h | h); exact h1 h.symm; exact h3 h), if_neg h2]
theorem pieceBad_comm (b o t : List (List UInt8)) : (pieceBad b o t).length = (pieceBad b t o).length := by
  unfold pieceBad
  rw [oneE_comm b o t]
  split <;> rfl
structure Mir (s s' : LSt) : Prop where
  i : s'.i = s.i
  j : s'.j = s.k
  k : s'.k = s.j
  out : s'.out = s.out
  bad : s'.bad.length = s.bad.length
theorem lpiece_mir {base ours theirs : List (List UInt8)} {s s' : LSt} (h : Mir s s') (i j k : Nat) : (lpiece base theirs ours s' i k j).1 = (lpiece base ours theirs s i j k).1 ∧ (lpiece base theirs ours s' i k j).2.length = (lpiece base ours theirs s i j k).2.length := by
  obtain ⟨h1, h2, h3, h4, h5⟩ := h
  unfold lpiece
  simp only [h1, h2, h3, h4, List.length_append, h5]
  rw [oneE_comm, pieceBad_comm]
  exact ⟨rfl, rfl⟩
theorem lrun_mir (base ours theirs : List (List UInt8)) : ∀ n, Mir (lrun base ours theirs n) (lrun base theirs ours n)
  | 0 => ⟨rfl, rfl, rfl, rfl, rfl⟩
  | n + 1 => by
    have ih := lrun_mir base ours theirs n
    rw [lrun_succ, lrun_succ]
    unfold lstep
    by_cases h : 0 ≤ (matchE base ours)[n]! ∧ 0 ≤ (matchE base theirs)[n]!
    · rw [if_pos h, if_pos h.symm]
      have hp := lpiece_mir (base := base) (ours := ours) (theirs := theirs) ih n (matchE base ours)[n]!.toNat (matchE base theirs)[n]!.toNat
      exact ⟨rfl, rfl, rfl, by show _ ++ _ = _ ++ _; rw [hp.1], hp.2⟩
    · rw [if_neg h, if_neg (fun hh => h hh.symm)]
      exact ih
theorem linesE_mir (base ours theirs : List (List UInt8)) : (linesE base theirs ours).1 = (linesE base ours theirs).1 ∧ (linesE base theirs ours).2.length = (linesE base ours theirs).2.length := by
  have h := lpiece_mir (base := base) (ours := ours) (theirs := theirs) (lrun_mir base ours theirs base.length) base.length ours.length theirs.length
  unfold linesE
  have h1 : (lfin base theirs ours).1 = (lfin base ours theirs).1 := h.1
  have h2 : (lfin base theirs ours).2.length = (lfin base ours theirs).2.length := h.2
  rw [h2]
  split
  · exact ⟨rfl, h2⟩
  · exact ⟨h1, rfl⟩
theorem linesE_or (base ours theirs : List (List UInt8)) : (linesE base ours theirs).2.length = 0 ∨ (linesE base ours theirs).1.length = 0 := by
  unfold linesE; split
  · exact .inr rfl
  · exact .inl rfl

theorem match_same (i j : Nat) (x y : List (List UInt8)) : ∀ (n : Nat) (v : Int), ((trace i j x y).filterMap mat)[n]? = some v → 0 ≤ v → ∃ m : Nat, v = ((j + m : Nat) : Int) ∧ m < y.length ∧ x[n]? = y[m]? := by
  fun_induction trace i j x y with
  | case1 => intro n v h; simp at h
  | case2 i j a x ih =>
    intro n v h h0
    rw [List.filterMap_cons, mat1 rfl] at h
    cases n with
    | zero => simp at h; omega
    | succ n => exact ih n v (by simpa using h) h0
  | case3 i j b y ih =>
    intro n v h h0
    rw [List.filterMap_cons, mat2 rfl] at h
    obtain ⟨m, h1, h2, h3⟩ := ih n v h h0
    exact ⟨m + 1, by omega, by simp; omega, by simpa using h3⟩
  | case4 i j a x y ih =>
    intro n v h h0
    rw [List.filterMap_cons, mat0 rfl] at h
    cases n with
    | zero => simp at h; exact ⟨0, by omega, by simp, rfl⟩
    | succ n =>
      obtain ⟨m, h1, h2, h3⟩ := ih n v (by simpa using h) h0
      exact ⟨m + 1, by omega, by simp; omega, by simpa using h3⟩
  | case5 i j a x b y hne h' ih =>
    intro n v h h0
    rw [List.filterMap_cons, mat1 rfl] at h
    cases n with
    | zero => simp at h; omega
    | succ n => exact ih n v (by simpa using h) h0
  | case6 i j a x b y hne h' ih =>
    intro n v h h0
    rw [List.filterMap_cons, mat2 rfl] at h
    obtain ⟨m, h1, h2, h3⟩ := ih n v h h0
    exact ⟨m + 1, by omega, by simp; omega, by simpa using h3⟩
theorem matchE_same {x y : List (List UInt8)} {n : Nat} (h : n < x.length) (h0 : 0 ≤ (matchE x y)[n]!) : x[n]! = y[(matchE x y)[n]!.toNat]! := by
  have hl := matchE_len x y
  obtain ⟨m, h1, h2, h3⟩ := match_same 0 0 x y n _ (get!_of_lt (by rw [show ((trace 0 0 x y).filterMap mat).length = x.length from hl]; exact h)) h0
  have h4 : (matchE x y)[n]!.toNat = m := by show (((trace 0 0 x y).filterMap mat)[n]!).toNat = m; rw [h1]; omega
  rw [h4]
  rw [get!_of_lt h, get!_of_lt h2] at h3
  simpa using h3
theorem match_self (i j : Nat) (x : List (List UInt8)) : ∀ n, n < x.length → ((trace i j x x).filterMap mat)[n]? = some ((j + n : Nat) : Int) := by
  induction x generalizing i j with
  | nil => intro n h; simp at h
  | cons a x ih =>
    intro n h
    rw [trace, if_pos rfl, List.filterMap_cons, mat0 rfl]
    cases n with
    | zero => simp
    | succ n =>
      have := ih (i + 1) (j + 1) n (by simpa using h)
      simp only [List.getElem?_cons_succ, this]
      congr 2; omega
theorem matchE_self {x : List (List UInt8)} {n : Nat} (h : n < x.length) : (matchE x x)[n]! = (n : Int) := by
  have h1 := match_self 0 0 x n h
  have h2 := get!_of_lt (xs := matchE x x) (k := n) (by rw [matchE_len]; exact h)
  rw [show (matchE x x)[n]? = some ((0 + n : Nat) : Int) from h1] at h2
  simpa using h2.symm
theorem take_more {l : List (List UInt8)} {j j' : Nat} (h : j ≤ j') : l.take j ++ (l.take j').drop j = l.take j' := by
  have h1 : (l.take j').take j = l.take j := by rw [List.take_take, Nat.min_eq_left h]
  rw [← h1, List.take_append_drop]
theorem lrun_out {base ours theirs : List (List UInt8)} (hone : ∀ n, n < base.length → 0 ≤ (matchE base ours)[n]! → 0 ≤ (matchE base theirs)[n]! →
      oneE ((base.take n).drop (lrun base ours theirs n).i) ((ours.take (matchE base ours)[n]!.toNat).drop (lrun base ours theirs n).j) ((theirs.take (matchE base theirs)[n]!.toNat).drop (lrun base ours theirs n).k) = some ((ours.take (matchE base ours)[n]!.toNat).drop (lrun base ours theirs n).j)) :
    ∀ n, n ≤ base.length → (lrun base ours theirs n).out = ours.take (lrun base ours theirs n).j ∧ (lrun base ours theirs n).bad = []
  | 0, _ => ⟨rfl, rfl⟩
  | n + 1, h => by
    have ih := lrun_out hone n (by omega)
    have hok := lrun_ok (base := base) (ours := ours) (theirs := theirs) n (by omega)
    rw [lrun_succ]
    unfold lstep
    split
    · rename_i hm
      obtain ⟨h1, h2⟩ := hm
      have nx := hok.next n (Nat.le_refl _) (by omega) h1 h2
      have b1 := matchE_in (y := ours) (by omega) h1
      have ho := hone n (by omega) h1 h2
      unfold lpiece
      simp only [pieceBad, ho, Option.getD_some, Option.isSome_some, if_true, List.append_nil, ih.2, and_true]
      rw [ih.1, take_more (by omega), matchE_same (y := ours) (by omega) h1, List.take_add_one, get!_of_lt (by omega)]; rfl
    · exact ih
theorem lines_out {base ours theirs : List (List UInt8)} (hone : ∀ n, n < base.length → 0 ≤ (matchE base ours)[n]! → 0 ≤ (matchE base theirs)[n]! →
      oneE ((base.take n).drop (lrun base ours theirs n).i) ((ours.take (matchE base ours)[n]!.toNat).drop (lrun base ours theirs n).j) ((theirs.take (matchE base theirs)[n]!.toNat).drop (lrun base ours theirs n).k) = some ((ours.take (matchE base ours)[n]!.toNat).drop (lrun base ours theirs n).j))
    (hend : oneE ((base.take base.length).drop (lrun base ours theirs base.length).i) ((ours.take ours.length).drop (lrun base ours theirs base.length).j) ((theirs.take theirs.length).drop (lrun base ours theirs base.length).k) = some ((ours.take ours.length).drop (lrun base ours theirs base.length).j)) :
    linesE base ours theirs = (ours, []) := by
  have h := lrun_out hone base.length (Nat.le_refl _)
  have hok := lrun_ok (base := base) (ours := ours) (theirs := theirs) base.length (Nat.le_refl _)
  have hf : lfin base ours theirs = (ours, []) := by
    unfold lfin lpiece
    simp only [pieceBad, hend, Option.getD_some, Option.isSome_some, if_true, List.append_nil, h.2]
    rw [h.1, take_more hok.j, List.take_length]
  unfold linesE
  rw [hf]
  rfl
theorem oneE_same (b o : List (List UInt8)) : oneE b o o = some o := oneE_a (.inl rfl)
theorem oneE_base (b o : List (List UInt8)) : oneE b o b = some o := oneE_a (.inr rfl)
theorem lrun_jk (base ours : List (List UInt8)) : ∀ n, (lrun base ours ours n).j = (lrun base ours ours n).k
  | 0 => rfl
  | n + 1 => by
    rw [lrun_succ]; unfold lstep
    split
    · rfl
    · exact lrun_jk base ours n
theorem linesE_same (base ours : List (List UInt8)) : linesE base ours ours = (ours, []) :=
  lines_out (fun n _ _ _ => by rw [lrun_jk]; exact oneE_same _ _) (by rw [lrun_jk]; exact oneE_same _ _)
theorem lrun_ki (base ours : List (List UInt8)) : ∀ n, n ≤ base.length → (lrun base ours base n).k = (lrun base ours base n).i
  | 0, _ => rfl
  | n + 1, h => by
    rw [lrun_succ]; unfold lstep
    split
    · show _ + 1 = n + 1
      rw [matchE_self (by omega)]; omega
    · exact lrun_ki base ours n (by omega)
theorem linesE_base (base ours : List (List UInt8)) : linesE base ours base = (ours, []) :=
  lines_out (fun n h _ _ => by rw [lrun_ki _ _ _ (by omega), matchE_self h]; exact oneE_base _ _) (by rw [lrun_ki _ _ _ (Nat.le_refl _)]; exact oneE_base _ _)
theorem linesE_base' (base theirs : List (List UInt8)) : (linesE base base theirs).1 = theirs ∧ (linesE base base theirs).2.length = 0 := by
  have h := linesE_mir base theirs base
  rw [linesE_base] at h
  exact ⟨h.1, h.2⟩
end Go.Proofs.Ytpicbbkmcbhnpaa
