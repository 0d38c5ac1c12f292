/-
  Layer 18: what holds of the nodes that the laws make.
-/
import Derived.Test.YtfenbhaehkkkeaaGr16
namespace Go.Proofs.Ytfenbhaehkkkeaa
open Go Go.SL
theorem nm_inj {i j : Nat} (hi : i < 16) (hj : j < 16) (h : nm i = nm j) : i = j := by
  have key : ∀ i, i < 16 → ∀ j, j < 16 → nm i = nm j → i = j := by decide +kernel
  exact key i hi j hj h
theorem mk_len (back : Bool) (qs : List Qn) : (mk back qs).length = min qs.length 16 := mkTo_len _ _ _
theorem mk_get (back : Bool) (qs : List Qn) {j : Nat} (h : j < min qs.length 16) : (mk back qs)[j]! = ndAt (min qs.length 16) back j qs[j]! := mkTo_get _ _ h
theorem mk_id (back : Bool) (qs : List Qn) {j : Nat} (h : j < min qs.length 16) : (mk back qs)[j]!.1 = nm j := by rw [mk_get _ _ h]; rfl
theorem mk_nodup (back : Bool) (qs : List Qn) : (ids (mk back qs)).Nodup := by
  refine nodup_of fun j hj j' hj' e => ?_
  rw [mk_len] at hj
  rw [mk_id _ _ hj, mk_id _ _ (by omega)] at e
  have := nm_inj (by omega) (by omega) e
  omega
theorem mem_psOf {m : Nat} {odd : Bool} {ps : List Int} {p : T} (h : p ∈ psOf m odd ps) : (∃ j, j < m ∧ p = nm j) ∨ odd = true := by
  unfold psOf at h
  rcases List.mem_append.1 h with h | h
  · unfold psTo at h
    by_cases hm : m = 0
    · rw [if_pos hm] at h; cases h
    · rw [if_neg hm] at h
      obtain ⟨q, _, rfl⟩ := List.mem_map.1 h
      exact .inl ⟨_, up_lt (by omega), rfl⟩
  · by_cases ho : odd = true
    · exact .inr ho
    · rw [if_neg ho] at h; cases h
theorem mk_back (qs : List Qn) : Back (mk true qs) := by
  intro i hi p hp
  rw [mk_len] at hi
  rw [mk_get _ _ hi] at hp
  rcases mem_psOf hp with ⟨j, hj, rfl⟩ | h
  · have hji : j < i := hj
    exact ⟨j, hji, mk_id _ _ (by omega)⟩
  · simp at h
theorem psOf_len (m : Nat) (odd : Bool) (ps : List Int) : (psOf m odd ps).length ≤ 6 := by
  have := psTo_len m (min ps.length 5) ps
  unfold psOf
  rw [List.length_append]
  split <;> simp only [List.length_singleton, List.length_nil] <;> omega
theorem mk_small (back : Bool) (qs : List Qn) : ∀ n ∈ mk back qs, n.2.1.length ≤ 100 := fun n hn => by
  obtain ⟨j, hj, e⟩ := List.getElem_of_mem hn
  have hj' : j < min qs.length 16 := by rw [mk_len] at hj; exact hj
  have : n = ndAt (min qs.length 16) back j qs[j]! := by rw [← e, ← getElem!_pos (mk back qs) j hj, mk_get _ _ hj']
  rw [this]
  exact Nat.le_trans (psOf_len _ _ _) (by decide)
theorem mk_small2 (back : Bool) (qs : List Qn) : ∀ n ∈ mk back qs, n.2.1.length ≤ 1000 := fun n hn => Nat.le_trans (mk_small back qs n hn) (by decide)
theorem Mt.nls {back : Bool} {qs : List Qn} {na : List Nv} {v : Value} {R : List RO} (h : Mt na qs (min qs.length 16)) (h1 : SlE encN v na ∈ R) (h2 : ndsP na (mk back qs) ∈ R) : NLs v (mk back qs) R na := by
  refine ⟨h1, h2, by rw [h.1, mk_len], fun i hi => ?_⟩
  rw [mk_len] at hi
  rw [mk_get _ _ hi]
  exact h.2 i hi
theorem mk_le (back : Bool) (qs : List Qn) : (mk back qs).length ≤ 1000 := by rw [mk_len]; omega
end Go.Proofs.Ytfenbhaehkkkeaa
