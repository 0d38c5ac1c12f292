/-
  Layer 4: what a disk does (plain).
-/
import Derived.Test.YtaalegffcjbglaaDoorCopy
import Derived.Test.YtaalegffcjbglaaDoorLib
import Derived.Test.YtaalegffcjbglaaDoorByt
import Derived.Test.YtaalegffcjbglaaDoorByc
import Derived.Test.YtaalegffcjbglaaDoorTy
import Derived.Test.YtaalegffcjbglaaDoorShelf
namespace Go.Proofs.YtaalegffcjbglaaDoor
open Go Go.SL

structure DSt where
  lasts : List (List UInt8)
  since : List (Nat × List UInt8)
  left : Nat
  keep : List Int
  off : Bool
  done : Nat
def zs512 : List UInt8 := List.replicate 512 0
def fullE (s : List UInt8) : List UInt8 := s ++ List.replicate (512 - s.length) 0
def oddB (keep : List Int) (k : Nat) : Bool := decide (0 < keep.length ∧ keep[k % keep.length]! % 2 = 1)
/-- What lasts, behind the first n of the writes since, those that are kept. -/
def failN (since : List (Nat × List UInt8)) (keep : List Int) (lasts : List (List UInt8)) (n : Nat) : List (List UInt8) :=
  (List.range n).foldl (fun l k => if oddB keep k then l.set since[k]!.1 since[k]!.2 else l) lasts
def failS (s : DSt) (keep : List Int) : DSt := { s with lasts := failN s.since keep s.lasts s.since.length, since := [], left := 0, off := true }
def stepE (s : DSt) : Nat := if s.off then 7 else if s.left = 1 then 7 else 0
def stepS (s : DSt) : DSt := if s.off then s else if s.left = 1 then failS s s.keep else { s with left := s.left - 1, done := s.done + 1 }
def hasB (s : DSt) (i : Int) : Bool := decide (0 ≤ i ∧ i < (s.lasts.length : Int))
/-- The last of the first k writes to sector n, or what lasts. -/
def lookN (s : DSt) (n k : Nat) : List UInt8 := (List.range k).foldl (fun x j => if s.since[j]!.1 = n then s.since[j]!.2 else x) s.lasts[n]!
def readE (s : DSt) (i : Int) : List UInt8 × Nat := if ¬ hasB s i then ([], 1) else if s.off then ([], 7) else (lookN s i.toNat s.since.length, 0)
def badB (s : DSt) (i : Int) (d : List UInt8) : Bool := decide (¬ (hasB s i = true) ∨ 512 < d.length)
def dputE (s : DSt) (i : Int) (d : List UInt8) : Nat := if badB s i d then 1 else stepE s
def putS (s : DSt) (i : Int) (d : List UInt8) : DSt := if badB s i d then s else if stepE s = 0 then { stepS s with since := (stepS s).since ++ [(i.toNat, fullE d)] } else stepS s
def syncS (s : DSt) : DSt := if stepE s = 0 then { stepS s with lasts := failN (stepS s).since [1] (stepS s).lasts (stepS s).since.length, since := [] } else stepS s
def spoilE (s : DSt) (i : Int) (d : List UInt8) : Nat := if badB s i d then 1 else 0
def spoilS (s : DSt) (i : Int) (d : List UInt8) : DSt := if badB s i d then s else { s with lasts := s.lasts.set i.toNat (fullE d), since := s.since.filter (fun w => decide (w.1 ≠ i.toNat)) }
def cutS (s : DSt) (n : Int) (keep : List Int) : DSt := { s with left := (max n 1).toNat, keep := keep }
def crashS (s : DSt) (keep : List Int) : DSt := { failS s keep with off := false }
def onS (s : DSt) : DSt := { s with off := false, left := 0 }
def newS (n : Nat) : DSt := ⟨List.replicate n zs512, [], 0, [], false, 0⟩

/-- Each write is one to a sector that there is; how much there is at most. -/
structure DOk (s : DSt) (m : Nat) : Prop where
  at_ : ∀ w ∈ s.since, w.1 < s.lasts.length
  lasts : s.lasts.length ≤ 4096
  left : s.left ≤ 9223372036854775807
  since : s.since.length ≤ m
  done : s.done ≤ m
theorem failN_succ (since : List (Nat × List UInt8)) (keep : List Int) (lasts : List (List UInt8)) (n : Nat) : failN since keep lasts (n + 1) = if oddB keep n then (failN since keep lasts n).set since[n]!.1 since[n]!.2 else failN since keep lasts n := by
  unfold failN
  rw [List.range_succ, List.foldl_append]; rfl
theorem failN_len (since : List (Nat × List UInt8)) (keep : List Int) (lasts : List (List UInt8)) : ∀ n, (failN since keep lasts n).length = lasts.length
  | 0 => rfl
  | n + 1 => by rw [failN_succ]; split <;> simp [failN_len since keep lasts n]
theorem lookN_succ (s : DSt) (n k : Nat) : lookN s n (k + 1) = if s.since[k]!.1 = n then s.since[k]!.2 else lookN s n k := by
  unfold lookN
  rw [List.range_succ, List.foldl_append]; rfl
theorem DOk.mono {s : DSt} {m m' : Nat} (h : DOk s m) (hm : m ≤ m') : DOk s m' := ⟨h.at_, h.lasts, h.left, Nat.le_trans h.since hm, Nat.le_trans h.done hm⟩
theorem DOk.fail {s : DSt} {m : Nat} (h : DOk s m) (keep : List Int) : DOk (failS s keep) m :=
  ⟨fun w hw => absurd hw List.not_mem_nil, by show (failN _ _ _ _).length ≤ _; rw [failN_len]; exact h.lasts, by show 0 ≤ _; omega, by show 0 ≤ _; omega, h.done⟩
theorem DOk.step {s : DSt} {m : Nat} (h : DOk s m) : DOk (stepS s) (m + 1) := by
  unfold stepS
  split
  · exact h.mono (by omega)
  · split
    · exact (h.fail _).mono (by omega)
    · exact ⟨h.at_, h.lasts, by show _ - 1 ≤ _; have := h.left; omega, by have := h.since; show _ ≤ _; exact Nat.le_succ_of_le this, Nat.succ_le_succ h.done⟩
theorem step_lasts (s : DSt) : (stepS s).lasts.length = s.lasts.length := by
  unfold stepS
  split
  · rfl
  · split
    · exact failN_len _ _ _ _
    · rfl
theorem has_iff {s : DSt} {i : Int} (h : hasB s i = true) : i.toNat < s.lasts.length ∧ (i.toNat : Int) = i := by
  have h1 := of_decide_eq_true h
  omega
theorem bad_not {s : DSt} {i : Int} {d : List UInt8} (h : ¬ badB s i d = true) : hasB s i = true ∧ d.length ≤ 512 := by
  unfold badB at h
  rw [decide_eq_true_eq] at h
  exact ⟨Decidable.byContradiction fun h1 => h (.inl h1), by omega⟩
theorem DOk.put {s : DSt} {m : Nat} (h : DOk s m) (i : Int) (d : List UInt8) : DOk (putS s i d) (m + 1) := by
  unfold putS
  split
  · exact h.mono (by omega)
  · rename_i hb
    obtain ⟨h1, _⟩ := bad_not hb
    obtain ⟨h2, _⟩ := has_iff h1
    have hs := h.step
    split
    · rename_i h0
      refine ⟨fun w hw => ?_, hs.lasts, hs.left, ?_, hs.done⟩
      · rcases List.mem_append.1 hw with hw | hw
        · exact hs.at_ w hw
        · rw [List.mem_singleton] at hw
          subst hw
          show i.toNat < (stepS s).lasts.length
          rw [step_lasts]; exact h2
      · show ((stepS s).since ++ [_]).length ≤ _
        have hl : (stepS s).since.length ≤ m := by
          unfold stepS
          split
          · exact h.since
          · split
            · exact Nat.zero_le _
            · exact h.since
        simp; omega
    · exact hs
theorem DOk.sync {s : DSt} {m : Nat} (h : DOk s m) : DOk (syncS s) (m + 1) := by
  have hs := h.step
  unfold syncS
  split
  · exact ⟨fun w hw => absurd hw List.not_mem_nil, by show (failN _ _ _ _).length ≤ _; rw [failN_len]; exact hs.lasts, hs.left, by show 0 ≤ _; omega, hs.done⟩
  · exact hs
theorem DOk.spoil {s : DSt} {m : Nat} (h : DOk s m) (i : Int) (d : List UInt8) : DOk (spoilS s i d) m := by
  unfold spoilS
  split
  · exact h
  · exact ⟨fun w hw => by rw [List.length_set]; exact h.at_ w (List.mem_filter.1 hw).1, by rw [List.length_set]; exact h.lasts, h.left, Nat.le_trans (List.length_filter_le _ _) h.since, h.done⟩
theorem DOk.cut {s : DSt} {m : Nat} (h : DOk s m) (n : Int) (hn : n ≤ 9223372036854775807) (keep : List Int) : DOk (cutS s n keep) m :=
  ⟨h.at_, h.lasts, by show (max n 1).toNat ≤ _; omega, h.since, h.done⟩
theorem DOk.crash {s : DSt} {m : Nat} (h : DOk s m) (keep : List Int) : DOk (crashS s keep) m := ⟨(h.fail keep).at_, (h.fail keep).lasts, (h.fail keep).left, (h.fail keep).since, (h.fail keep).done⟩
theorem DOk.on {s : DSt} {m : Nat} (h : DOk s m) : DOk (onS s) m := ⟨h.at_, h.lasts, by show 0 ≤ _; omega, h.since, h.done⟩
theorem DOk.new {n : Nat} (h : n ≤ 4096) : DOk (newS n) 0 := ⟨fun w hw => absurd hw List.not_mem_nil, by simp [newS]; omega, by show 0 ≤ _; omega, Nat.le_refl _, Nat.le_refl _⟩
/-- Parity, twice. -/
theorem land1 (v : Int) : land .i64 v 1 = (v % 2).toNat := by
  unfold land
  rw [Nat.and_one_is_mod, BitVec.toNat_ofInt]
  show (v % ((2 ^ 64 : Nat) : Int)).toNat % 2 = _
  omega
theorem tmod2 (v : Int) : v.tmod ((2 : Nat) : Int) ≠ 0 ↔ v % 2 = 1 := by
  rw [show ((2 : Nat) : Int) = 2 from rfl]
  rcases Int.le_total 0 v with h | h
  · rw [Int.tmod_eq_emod_of_nonneg h]; omega
  · have h1 : v.tmod 2 = -((-v) % 2) := by
      rw [← Int.tmod_eq_emod_of_nonneg (by omega : 0 ≤ -v), Int.neg_tmod]; omega
    rw [h1]; omega
theorem odd_one (k : Nat) : oddB [1] k = true := by
  unfold oddB
  simp [Nat.mod_one]
theorem full_len {s : List UInt8} (h : s.length ≤ 512) : (fullE s).length = 512 := by simp [fullE]; omega
theorem full_of {s : List UInt8} (h : s.length ≤ 512) : s ++ zs512.drop s.length = fullE s := by
  unfold fullE zs512; rw [List.drop_replicate]
end Go.Proofs.YtaalegffcjbglaaDoor
