/-
  An own slice of texts that a library function rearranges, by its contract. No program is in sight.
-/
import Derived.Test.YtfenbhaehkkkeaaAcc
import Derived.Test.YtfenbhaehkkkeaaLib
import Derived.Sort.Row
import Derived.Sort.Grow
import Derived.Sort.KeysCollected
import Derived.Lib.SlicesCompact
namespace Go.SL
open Go Go.RowKit Go.Sort
section
variable {R : List RO} {O O' : List Own} {e : TypeId} {xs ys : List (List UInt8)} {b cap : Nat}
theorem acc_holds {w : World} (h : (accC e 1 (SL.one vs) (.slice (some ⟨b, 0, none⟩) xs.length cap) xs).pred w) : Holds Go.Proofs.encStr w b 0 xs.toArray := by
  obtain ⟨hl, hv⟩ := h
  rcases hv with ⟨h0, _⟩ | ⟨g, c, cur, hv, _, hg, hn, hc, hs, ht⟩
  · cases h0
  · simp only [Value.slice.injEq, Option.some.injEq, Addr.mk.injEq, and_true, true_and] at hv
    obtain ⟨rfl, rfl⟩ := hv
    intro j hj
    have hj' : j < xs.length := by simpa using hj
    rw [flat_one, Nat.mul_one] at ht
    have h1 : (cur.toList.take xs.length)[j]? = some (vs xs[j]!) := by rw [ht, List.getElem?_map, get!_of_lt hj']; rfl
    rw [List.getElem?_take_of_lt hj', Array.getElem?_toList] at h1
    refine ⟨?_, ?_⟩
    · simp only [World.cell?, hg, Nat.zero_add, h1]
      congr 1
      rw [show (xs.toArray)[j]! = xs[j]! from by simp]
      rfl
    · simp [World.frozen?, hg]
theorem acc_put {w : World} {k : Nat} {os : Array Obj} (hl : ys.length = xs.length) (h : Sat R (accC e 1 (SL.one vs) (.slice (some ⟨b, 0, none⟩) xs.length cap) xs :: O) w) :
    Sat R (accC e 1 (SL.one vs) (.slice (some ⟨b, 0, none⟩) xs.length cap) ys :: O) (grow (putRow Go.Proofs.encStr (Go.Sort.ahead w k) b 0 ys.toArray) os) := by
  have hp := h.see List.mem_cons_self
  have hlt := ownBlock_lt hp b (by simp [Value.ownBlock])
  obtain ⟨hll, hv⟩ := hp
  rcases hv with ⟨h0, _⟩ | ⟨g, c, cur, hv, _, hg, hn, hc, hs, ht⟩
  · cases h0
  simp only [Value.slice.injEq, Option.some.injEq, Addr.mk.injEq, and_true, true_and] at hv
  obtain ⟨rfl, rfl⟩ := hv
  have hsz : (putRow Go.Proofs.encStr (Go.Sort.ahead w k) b 0 ys.toArray).heap.size = w.heap.size := by rw [size_putRow]; rfl
  have hheap : ∀ j, j < w.heap.size → (grow (putRow Go.Proofs.encStr (Go.Sort.ahead w k) b 0 ys.toArray) os).heap[j]? = if b = j then (w.heap[j]?).map (onCells (putCells Go.Proofs.encStr 0 ys.toArray)) else w.heap[j]? := fun j hj => by
    show ((putRow Go.Proofs.encStr (Go.Sort.ahead w k) b 0 ys.toArray).heap ++ os)[j]? = _
    rw [Array.getElem?_append_left (by rw [hsz]; exact hj)]
    show ((w.heap.modify b (onCells (putCells Go.Proofs.encStr 0 ys.toArray))))[j]? = _
    rw [Array.getElem?_modify]
  refine h.update _ ⟨rfl, rfl, rfl, ?_, fun j hj hn => ?_⟩ (fun j hj => .inl hj) (fun j hj => ?_) (by simp [accC, Value.ownBlock]) (fun w2 ha _ => ?_)
  · show w.heap.size ≤ ((putRow Go.Proofs.encStr (Go.Sort.ahead w k) b 0 ys.toArray).heap ++ os).size
    rw [Array.size_append, hsz]; omega
  · rw [hheap j hj, if_neg (fun e => hn (by simp [accC, Value.ownBlock, e]))]
  · have e : j = b := by simpa [accC, Value.ownBlock] using hj
    subst e
    show j < ((putRow Go.Proofs.encStr (Go.Sort.ahead w k) j 0 ys.toArray).heap ++ os).size
    rw [Array.size_append, hsz]; omega
  · have h2 := ha.2.2.2.2 b (by
      show b < ((putRow Go.Proofs.encStr (Go.Sort.ahead w k) b 0 ys.toArray).heap ++ os).size
      rw [Array.size_append, hsz]; omega) (fun hn => hn (by simp [accC, Value.ownBlock]))
    rw [hheap b hlt, if_pos rfl, hg] at h2
    refine ⟨by rw [flat_one, List.length_map, Nat.mul_one], .inr ⟨b, cap, putCells Go.Proofs.encStr 0 ys.toArray cur, by rw [hl], Nat.zero_le _, h2, by rw [hl]; exact hn, hc, by simp [putCells, hs], ?_⟩⟩
    rw [flat_one, Nat.mul_one]
    apply List.ext_getElem?
    intro j
    have hcs : cur.size = cap := by omega
    by_cases hj : j < ys.length
    · rw [List.getElem?_take_of_lt hj, Array.getElem?_toList, List.getElem?_map, get!_of_lt hj]
      simp only [putCells, Array.getElem?_mapIdx, Option.map_some]
      rw [Array.getElem?_eq_getElem (by omega)]
      simp only [Option.map_some, Nat.zero_le, true_and, Nat.sub_zero]
      rw [if_pos (by simpa using hj)]
      congr 1
      rw [show (ys.toArray)[j]! = ys[j]! from by simp]
    · rw [List.getElem?_eq_none (by rw [List.length_take]; omega), List.getElem?_eq_none (by rw [List.length_map]; omega)]
/-- slices.Sort. -/
theorem Fun.sorts {P : Program} {f : FuncId} {v : Value} {POST : Value → List RO → List Own → Prop}
    (hc : ∀ (blk off cap : Nat) (ss : List (List UInt8)) (w : World), Holds Go.Proofs.encStr w blk off ss.toArray → blk < w.heap.size → ss.length < 4611686018427387904 →
      Calls P f #[.slice (some ⟨blk, off, none⟩) ss.length cap] w fun e w' => e = .returned (.tuple #[]) ∧ ∃ n os, w' = grow (putRow Go.Proofs.encStr (Go.Sort.ahead w n) blk off (ss.mergeSort fun x y => decide (x ≤ y)).toArray) os)
    (hn : ∀ (p : Option Addr) (cap : Nat) (w : World), Calls P f #[.slice p 0 cap] w fun e w' => e = .returned (.tuple #[]) ∧ w' = w)
    (hl : xs.length < 4611686018427387904) (hk : POST (.tuple #[]) R (accC e 1 (SL.one vs) v (xs.mergeSort fun x y => decide (x ≤ y)) :: O)) : Fun P f #[v] R (accC e 1 (SL.one vs) v xs :: O) POST := by
  intro w hs
  have hp := hs.see List.mem_cons_self
  obtain ⟨_, hv⟩ := hp
  rcases hv with ⟨rfl, h0⟩ | ⟨g, c, cur, rfl, _⟩
  · refine (hn none 0 w).mono fun e' w' ⟨he, hw⟩ => ⟨_, R, _, he, hk, ?_⟩
    obtain rfl := List.length_eq_zero_iff.1 h0
    rw [hw]; simpa using hs
  · have hp := hs.see List.mem_cons_self
    refine (hc g 0 c xs w (acc_holds hp) (ownBlock_lt hp g (by simp [Value.ownBlock])) hl).mono fun e' w' ⟨he, k, os, hw⟩ => ⟨_, R, _, he, hk, ?_⟩
    rw [hw]
    exact acc_put (List.length_mergeSort _) hs
/-- slices.Compact. -/
theorem Fun.compacts {P : Program} {f : FuncId} {v : Value} {POST : Value → List RO → List Own → Prop}
    (hc : ∀ (blk off cap : Nat) (zs : List (List UInt8)) (w : World), Holds Go.Proofs.encStr w blk off zs.toArray → zs.length ≤ 9223372036854775807 → zs.length ≤ cap →
      Calls P f #[.slice (some ⟨blk, off, none⟩) zs.length cap] w fun e w' => e = .returned (.slice (some ⟨blk, off, none⟩) (Go.Lib.compact zs).length cap) ∧ ∃ q, w' = putRow Go.Proofs.encStr (Go.Sort.ahead w q) blk off (Go.Lib.compact zs ++ List.replicate (zs.length - (Go.Lib.compact zs).length) []).toArray)
    (hn : ∀ (a : Option Addr) (cap : Nat) (w : World), Calls P f #[.slice a 0 cap] w fun e w' => e = .returned (.slice a 0 cap) ∧ w' = w)
    (hcl : (Go.Lib.compact xs).length ≤ xs.length) (hl : xs.length ≤ 9223372036854775807) (hk : ∀ v', POST v' R (accC e 1 (SL.one vs) v' (Go.Lib.compact xs) :: O)) : Fun P f #[v] R (accC e 1 (SL.one vs) v xs :: O) POST := by
  intro w hs
  have hp := hs.see List.mem_cons_self
  have hp2 := hp
  obtain ⟨_, hv⟩ := hp2
  rcases hv with ⟨rfl, h0⟩ | ⟨g, c, cur, rfl, _, _, hnc, _⟩
  · refine (hn none 0 w).mono fun e' w' ⟨he, hw⟩ => ⟨_, R, _, he, hk _, ?_⟩
    obtain rfl := List.length_eq_zero_iff.1 h0
    rw [hw]; exact hs
  · refine (hc g 0 c xs w (acc_holds hp) hl hnc).mono fun e' w' ⟨he, q, hw⟩ => ⟨_, R, _, he, hk _, ?_⟩
    have h2 : Sat R (accC e 1 (SL.one vs) (.slice (some ⟨g, 0, none⟩) xs.length c) (Go.Lib.compact xs ++ List.replicate (xs.length - (Go.Lib.compact xs).length) []) :: O) w' := by
      have := acc_put (k := q) (os := #[]) (ys := Go.Lib.compact xs ++ List.replicate (xs.length - (Go.Lib.compact xs).length) []) (by rw [List.length_append, List.length_replicate]; omega) hs
      rw [grow_empty] at this
      rw [hw]
      exact this
    have el : xs.length = (Go.Lib.compact xs ++ List.replicate (xs.length - (Go.Lib.compact xs).length) []).length := by rw [List.length_append, List.length_replicate]; omega
    generalize hz : Go.Lib.compact xs ++ List.replicate (xs.length - (Go.Lib.compact xs).length) [] = zs at h2 el
    have h3 := Sat.cutAcc (e := e) (enc := SL.one vs) (size := 1) (hi := (Go.Lib.compact xs).length) (Take.head _) (fun _ => rfl) (by rw [← el]; exact hcl) (by rw [el] at h2; exact h2)
    rw [subSl0, ← hz, List.take_append_of_le_length (Nat.le_refl _), List.take_length] at h3
    exact h3
end
end Go.SL
