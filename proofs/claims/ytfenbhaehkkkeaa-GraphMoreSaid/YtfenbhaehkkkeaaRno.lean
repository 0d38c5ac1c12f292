/-
  Ranges over maps that are the call's own. No program is in sight.
-/
import Derived.Test.YtfenbhaehkkkeaaRng
import Derived.Test.YtfenbhaehkkkeaaAcc
namespace Go.SL
open Go Go.RowKit Go.MapKept Go.ChangeMaps
section
variable {κ β : Type} {kenc : κ → Value} {venc : β → Value}
variable {P : Program} {n : Sz} {o : Oper} {L : Env} {R : List RO} {O O' : List Own} {K : Env → List RO → List Own → Prop} {t kt et : TypeId} {z : Value} {x y : Operand} {m : GoMap κ β} {b d it : Nat} {seen seen1 : List Nat}
theorem OpW.rangeMO (T : MapT P t kt et z) (ho : o.op = .range t x) (hx : ev L x = some (.map (some b))) (hp : mapC kenc venc b m ∈ O) (hd : o.dst = some d) (hn : Nat.blt d n.n = true)
    (k : ∀ it, K ((d, .pointer (some ⟨it, 0, none⟩)) :: L) R (iterC it b m.clock [] :: O)) : OpW P n o L R O K := by
  intro a w hf hs Q
  have h : mapP kenc venc b m w := hs.see hp
  unfold Oper.wp
  have hr : (execOp a.eval o).run P w = .ok (.value (.pointer (some ⟨w.heap.size, 0, none⟩))) (w.alloc (.mapIter (some b) m.clock #[] m.clock)) := by
    simp only [execOp, ho, Sem.run_bind, hf.ev hx, run_range_map w t kt et b _ _ T.und h, Result.andThen_ok, Sem.run_pure]
  rw [hr, Oper.upon_value, hd]
  exact ⟨_, _, _, k _, hf.put hn _, hs.alloc _ _ rfl fun w' h _ => h⟩
theorem OpW.nextMO (ho : o.op = .next x false) (hx : ev L x = some (.pointer (some ⟨it, 0, none⟩))) (hp : mapC kenc venc b m ∈ O) (hT : Take (iterC it b m.clock seen) O O') (hd : o.dst = some d) (hn : Nat.blt d n.n = true)
    (k : ∀ r, StepOk m seen r → K ((d, stepV kenc venc r) :: L) R (iterC it b m.clock (seenOf seen r) :: O')) : OpW P n o L R O K := by
  intro a w hf hs Q
  have h : mapP kenc venc b m w := hs.see hp
  have hs' := hs.perm hT.perm
  have hi : w.heap[it]? = some (.mapIter (some b) m.clock seen.toArray m.clock) := hs'.see List.mem_cons_self
  unfold Oper.wp
  rcases run_next_at (P := P) w o.type it b m.clock m.clock seen.toArray _ _ hi h (by
      intro e he
      simp only [List.mem_map] at he
      obtain ⟨q, hq, rfl⟩ := he
      exact m.lt q hq) (Nat.le_refl _) with ⟨h0, hr⟩ | ⟨e, he, w1, hw1, hr⟩
  · have hr' : (execOp a.eval o).run P w = .ok (.value (.tuple #[.bool false])) w := by
      simp only [execOp, ho, Sem.run_bind, hf.ev hx, hr, Result.andThen_ok, Sem.run_pure]
    rw [hr', Oper.upon_value, hd]
    refine ⟨_, _, _, k none ?_, hf.put hn _, hs'⟩
    intro q hq
    have h1 : leftOf (m.l.map (ent kenc venc)).toArray seen.toArray = #[] := Array.eq_empty_of_size_eq_zero h0
    unfold leftOf at h1
    rw [Array.filter_eq_empty_iff] at h1
    have := h1 (ent kenc venc q) (by simpa using ⟨q.1, q.2.1, q.2.2, hq, rfl⟩)
    simpa [ent] using this
  · have hr' : (execOp a.eval o).run P w = .ok (.value (.tuple #[.bool true, e.key, e.val])) (setBlock w1 it (.mapIter (some b) m.clock (seen.toArray.push e.born) m.clock)) := by
      simp only [execOp, ho, Sem.run_bind, hf.ev hx, hr, Result.andThen_ok, Sem.run_pure]
    rw [hr', Oper.upon_value, hd]
    simp only [leftOf, Array.toList_filter, List.mem_filter, List.mem_map] at he
    obtain ⟨⟨q, hq, rfl⟩, hns⟩ := he
    have hs1 : Sat R (iterC it b m.clock seen :: O') w1 := by
      rcases hw1 with rfl | rfl
      · exact hs'
      · exact hs'.drew _
    have hi1 : w1.heap[it]? = some (.mapIter (some b) m.clock seen.toArray m.clock) := hs1.see List.mem_cons_self
    have hlt : it < w1.heap.size := (Array.getElem?_eq_some_iff.1 hi1).1
    refine ⟨_, _, _, k (some q) ⟨hq, by simpa [ent] using hns⟩, hf.put hn _, ?_⟩
    refine hs1.update (iterC it b m.clock (seen ++ [q.2.2])) ⟨rfl, rfl, rfl, by simp [setBlock], fun j hj hn => ?_⟩ (fun j hj => .inl hj) (fun j hj => ?_) (by simp [iterC]) (fun w'' ha _ => ?_)
    · have : j ≠ it := fun e => hn (by simp [iterC, e])
      exact (heap_set hi1).2 j this
    · simp only [iterC, List.mem_singleton] at hj; subst hj; simpa [setBlock] using hlt
    · show w''.heap[it]? = _
      rw [ha.2.2.2.2 it (by simpa [setBlock] using hlt) (fun h => h (by simp [iterC]))]
      refine (heap_set hi1).1.trans ?_
      simp [ent]
theorem Rd.entryMO {q : κ × β × Nat} (ho : o.op = .entry x) (hx : ev L x = some (.pointer (some ⟨it, 0, none⟩))) (hp : mapC kenc venc b m ∈ O) (hi : iterC it b m.clock seen1 ∈ O) (hq : q ∈ m.l) (hs : seen1 = seen ++ [q.2.2]) : Rd P o L R O (.tuple #[kenc q.1, venc q.2.1]) := fun ρ w hρ hR hO => by
  have h : w.heap[b]? = _ := hO _ hp
  have h2 : w.heap[it]? = _ := hO _ hi
  subst hs
  have h3 : w.heap[it]? = some (.mapIter (some b) m.clock (seen.toArray.push (ent kenc venc q).born) m.clock) := h2.trans (by simp [ent])
  have := run_entry_at (P := P) w it b m.clock seen.toArray _ _ (ent kenc venc q) h3 h (by simpa using ⟨q.1, q.2.1, q.2.2, hq, rfl⟩) (by
    show ((m.l.map (ent kenc venc)).map (·.born)).Nodup
    rw [ent_born]; exact m.born)
  simp only [execOp, ho, Sem.run_bind, hρ _ _ hx, this, Result.andThen_ok, Sem.run_pure]
  rfl
end
end Go.SL
