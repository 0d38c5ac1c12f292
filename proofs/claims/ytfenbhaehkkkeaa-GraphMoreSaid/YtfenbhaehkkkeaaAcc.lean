/-
  Slices of the call's own of which elements are stored, that are cut, of which the rest is cleared. No program is in sight.
-/
import Derived.Test.YtfenbhaehkkkeaaMem
import Derived.Test.YtfenbhaehkkkeaaMap
import Derived.Lib.SliceRun
namespace Go.SL
open Go
section
variable {P : Program} {n : Sz} {o : Oper} {L : Env} {R : List RO} {O O' : List Own} {K : Env → List RO → List Own → Prop} {t t' e : TypeId} {x y : Operand} {v z : Value} {α : Type} {g : α → Value} {enc : α → List Value} {xs : List α} {size bytes : Nat}
theorem OpW.storeAcc {k : Nat} {a : α} (ho : o.op = .store t x y) (hsz : ∀ w, (sizeOf t).run P w = .ok 1 w) (hx : ev L x = some (.pointer (some (elemAddr v k)))) (hy : ev L y = some (g a)) (h1 : (g a).cells = #[g a]) (h2 : (g a).oneCell' = true)
    (hT : Take (accC e 1 (one g) v xs) O O') (hlt : k < xs.length) (hd : o.dst = none) (kk : K L R (accC e 1 (one g) v (xs.set k a) :: O')) : OpW P n o L R O K := by
  intro ac w hf hs Q
  have hs' := hs.perm hT.perm
  have hp : (accC e 1 (one g) v xs).pred w := hs'.see List.mem_cons_self
  have hcell := acc_cell hp (j := k) (u := g xs[k]) (by rw [flat_one, List.getElem?_map, List.getElem?_eq_getElem hlt]; rfl)
  have hlt' := ownBlock_lt hp
  obtain ⟨hl, hv⟩ := hp
  rcases hv with ⟨rfl, h0⟩ | ⟨b, cap, cur, rfl, hb, hh, hnc, hcm, hcs, ht⟩
  · omega
  simp only [elemAddr, Nat.zero_add] at hx hcell
  have hfree : w.frozen? ⟨b, k, none⟩ = false := by
    simp only [World.frozen?, hh]; simp
  have hr : (execOp ac.eval o).run P w = .ok .skip (w.setCell ⟨b, k, none⟩ (g a)) := by
    simp [execOp, ho, hf.ev hx, hf.ev hy, Instr.storeAt, Instr.sureAddr, storeVar, hsz, h1, storeCells, Addr.add, run_store _ _ _ _ _ h2, hcell, hfree]
  unfold Oper.wp
  rw [hr, Oper.upon_skip, hd]
  have hset : (w.setCell ⟨b, k, none⟩ (g a)).heap[b]? = some (.cells (cur.setIfInBounds k (g a)) e (0, 0)) := by
    show (w.heap.modify b _)[b]? = _
    rw [Array.getElem?_modify, if_pos rfl, hh]; rfl
  have hbl : b < w.heap.size := hlt' b (by simp [Value.ownBlock])
  refine ⟨_, _, _, kk, hf.none _, hs'.update _ ⟨rfl, rfl, rfl, by simp, fun j hj hn => heap_setCell_other w _ _ (g a) (by simpa [accC, Value.ownBlock, eq_comm] using hn)⟩ (by intro j hj; left; simpa [accC, Value.ownBlock] using hj) (by intro j hj; simp [accC, Value.ownBlock] at hj; subst hj; simpa using hbl) (by simp [accC, Value.ownBlock]) (fun w'' ha _ => ?_)⟩
  refine ⟨by rw [flat_one, List.length_map, Nat.mul_one], .inr ⟨b, cap, cur.setIfInBounds k (g a), by rw [List.length_set], Nat.zero_le _, ?_, by rw [List.length_set]; exact hnc, hcm, by simpa using hcs, ?_⟩⟩
  · rw [ha.2.2.2.2 b (by simpa using hbl) (by simp [accC, Value.ownBlock])]
    exact hset
  · rw [Nat.mul_one] at ht ⊢
    rw [Array.toList_setIfInBounds, List.length_set, List.take_set, ht, flat_one, flat_one, List.map_set]
theorem Rd.cutA_l {kl : IntKind} {p : Int} {lo : Nat} {e' : TypeId} {a : Operand} (ho : o.op = .slice t x (some a) none none) (hT : SlT P t e size bytes z) (hx : ev L x = some v) (ha : ev L a = some (.int kl p)) (hp : p = (lo : Int)) (hO : accC e' size enc v xs ∈ O) (h1 : lo ≤ xs.length) : Rd P o L R O (subSl v size lo xs.length) := fun ρ w hρ _ hr => by
  rcases (hr _ hO).2 with ⟨rfl, h0⟩ | ⟨b, c, cur, rfl, _⟩
  · have h := run_cut (P := P) (m := 0) (cp := 0) (ad := none) (lo := lo) (hi := xs.length) hT (some (.int kl p)) none (bound_ok hp h1) (fun _ => by rw [h0]; rfl) w
    simp only [execOp, ho, hρ _ _ hx, hρ _ _ ha, Option.map_some, Option.map_none, Sem.run_bind, h, Result.andThen_ok, Sem.run_pure]
  · have h := run_cut (P := P) (m := xs.length) (cp := c) (ad := some ⟨b, 0, none⟩) (lo := lo) (hi := xs.length) hT (some (.int kl p)) none (bound_ok hp h1) (fun _ => rfl) w
    simp only [execOp, ho, hρ _ _ hx, hρ _ _ ha, Option.map_some, Option.map_none, Sem.run_bind, h, Result.andThen_ok, Sem.run_pure]
theorem Rd.cutA_h {kh : IntKind} {q : Int} {hi : Nat} {e' : TypeId} {b : Operand} (ho : o.op = .slice t x none (some b) none) (hT : SlT P t e size bytes z) (hx : ev L x = some v) (hb : ev L b = some (.int kh q)) (hq : q = (hi : Int)) (hO : accC e' size enc v xs ∈ O) (h2 : hi ≤ xs.length) : Rd P o L R O (subSl v size 0 hi) := fun ρ w hρ _ hr => by
  rcases (hr _ hO).2 with ⟨rfl, h0⟩ | ⟨g, c, cur, rfl, _, _, hnc, _⟩
  · have h := run_cut (P := P) (m := 0) (cp := 0) (ad := none) (lo := 0) (hi := hi) hT none (some (.int kh q)) (fun _ => rfl) (bound_ok hq (by omega)) w
    simp only [execOp, ho, hρ _ _ hx, hρ _ _ hb, Option.map_some, Option.map_none, Sem.run_bind, h, Result.andThen_ok, Sem.run_pure]
  · have h := run_cut (P := P) (m := xs.length) (cp := c) (ad := some ⟨g, 0, none⟩) (lo := 0) (hi := hi) hT none (some (.int kh q)) (fun _ => rfl) (bound_ok hq (by omega)) w
    simp only [execOp, ho, hρ _ _ hx, hρ _ _ hb, Option.map_some, Option.map_none, Sem.run_bind, h, Result.andThen_ok, Sem.run_pure]
/-- clear(s[lo:]): zero values from there on. -/
theorem run_clear_row (hT : SlT P t e 1 bytes z) (hz : z.cells = #[z]) (h1 : z.oneCell' = true) (ty : TypeId) {w : World} {b lo m c : Nat} {cur : Array Value} (hg : w.heap[b]? = some (.cells cur e (0, 0))) (hn : 0 < m) (hfit : lo + m ≤ cur.size) :
    (Builtin.clear_ #[t] ty #[.slice (some ⟨b, lo, none⟩) m c]).run P w = .ok (.tuple #[]) (w.setRow b (cur.toList.take lo ++ List.replicate m z ++ cur.toList.drop (lo + m)).toArray) := by
  have hzc : (Builtin.zeroCells z.cells m).toList = List.replicate m z := by
    rw [hz]
    simp [Builtin.zeroCells]
    apply List.ext_getElem
    · simp
    · intro i h1 h2
      simp [Nat.mod_one]
  have hst := run_storeCells_at P b lo e (List.replicate m z) 0 cur w hg (by simpa using hfit) (by intro v hv'; rw [List.eq_of_mem_replicate hv']; exact h1)
  simp only [Nat.add_zero, List.length_replicate] at hst
  obtain ⟨k, rfl⟩ : ∃ k, m = k + 1 := ⟨m - 1, by omega⟩
  simp [Builtin.clear_, run_underlying hT.under, hT.zero, hzc, hst]
theorem OpW.clearAcc {lo : Nat} {a0 : α} {u : Value} (ho : o.op = .call { callee := .builtin .clear, args := #[x], argTypes := #[t] }) (hT : SlT P t e 1 bytes z) (hz : z = g a0) (hzc : (g a0).cells = #[g a0]) (h1 : (g a0).oneCell' = true)
    (hx : ev L x = some u) (hu : u = subSl v 1 lo xs.length) (hO : Take (accC e 1 (one g) v xs) O O') (hlo : lo < xs.length) (hd : o.dst = none) (kk : K L R (accC e 1 (one g) v (xs.take lo ++ List.replicate (xs.length - lo) a0) :: O')) : OpW P n o L R O K := by
  intro ac w hf hs Q
  subst hu
  have hs' := hs.perm hO.perm
  have hp : (accC e 1 (one g) v xs).pred w := hs'.see List.mem_cons_self
  have hlt' := ownBlock_lt hp
  obtain ⟨hl, hv⟩ := hp
  rcases hv with ⟨rfl, h0⟩ | ⟨b, cap, cur, rfl, hb, hh, hnc, hcm, hcs, ht⟩
  · omega
  have hsub : subSl (.slice (some ⟨b, 0, none⟩) xs.length cap) 1 lo xs.length = .slice (some ⟨b, lo, none⟩) (xs.length - lo) (cap - lo) := by
    simp only [subSl]
    rw [if_neg (by omega)]
    simp [add_spot]
  rw [hsub] at hx
  have hcl := run_clear_row (P := P) hT (by rw [hz]; exact hzc) (by rw [hz]; exact h1) o.type (c := cap - lo) hh (lo := lo) (m := xs.length - lo) (by omega) (by omega)
  have hr : (execOp ac.eval o).run P w = .ok (.value (.tuple #[])) (w.setRow b (cur.toList.take lo ++ List.replicate (xs.length - lo) z ++ cur.toList.drop (lo + (xs.length - lo))).toArray) := by
    simp only [execOp, ho, resolve, invoke, builtin, hf.ev hx, Sem.run_bind, Sem.run_pure, Result.andThen_ok, List.map_toArray, List.map_cons, List.map_nil, hcl]
  unfold Oper.wp
  rw [hr, Oper.upon_value, hd]
  have hbl : b < w.heap.size := hlt' b (by simp [Value.ownBlock])
  refine ⟨_, _, _, kk, hf.none _, hs'.update _ ⟨rfl, rfl, rfl, by simp, fun j hj hn => setRow_other w b j _ (by simpa [accC, Value.ownBlock, eq_comm] using hn)⟩ (by intro j hj; left; simpa [accC, Value.ownBlock] using hj) (by intro j hj; simp [accC, Value.ownBlock] at hj; subst hj; simpa using hbl) (by simp [accC, Value.ownBlock]) (fun w'' ha _ => ?_)⟩
  have hlen : (xs.take lo ++ List.replicate (xs.length - lo) a0).length = xs.length := by simp; omega
  refine ⟨by rw [flat_one, List.length_map, Nat.mul_one], .inr ⟨b, cap, (cur.toList.take lo ++ List.replicate (xs.length - lo) z ++ cur.toList.drop (lo + (xs.length - lo))).toArray, by rw [hlen], Nat.zero_le _, ?_, by rw [hlen]; exact hnc, hcm, ?_, ?_⟩⟩
  · rw [ha.2.2.2.2 b (by simpa using hbl) (by simp [accC, Value.ownBlock])]
    exact setRow_heap w b cur _ e _ hh
  · simp; omega
  · have hcl2 : cur.toList.length = cap := by rw [Array.length_toList]; omega
    rw [Nat.mul_one, hlen, List.toList_toArray, List.take_append_of_le_length (by simp; omega), List.take_of_length_le (by simp; omega), flat_one, List.map_append, List.map_replicate, hz, List.map_take]
    rw [Nat.mul_one, flat_one] at ht
    rw [← ht, List.take_take, Nat.min_eq_left (by omega)]
theorem subSl0 (b m cap size hi : Nat) : subSl (.slice (some ⟨b, 0, none⟩) m cap) size 0 hi = .slice (some ⟨b, 0, none⟩) hi cap := by
  simp only [subSl]
  split <;> simp [add_spot]
/-- An own slice's first elements. -/
theorem Sat.cutAcc {hi : Nat} {w : World} (hT : Take (accC e size enc v xs) O O') (hs : ∀ x, (enc x).length = size) (h2 : hi ≤ xs.length) (h : Sat R O w) : Sat R (accC e size enc (subSl v size 0 hi) (xs.take hi) :: O') w := by
  have hs' := h.perm hT.perm
  have hp : (accC e size enc v xs).pred w := hs'.see List.mem_cons_self
  have hbk : (subSl v size 0 hi).ownBlock = v.ownBlock := by
    rcases hp.2 with ⟨rfl, h0⟩ | ⟨b, cap, cur, rfl, _⟩
    · simp [subSl, Value.ownBlock]
    · rw [subSl0]; rfl
  refine hs'.recast _ (by simp only [accC, hbk]) (fun w' hp' _ => ?_)
  obtain ⟨hl, hv⟩ := hp'
  refine ⟨by rw [flat_len hs, List.length_take], ?_⟩
  rcases hv with ⟨rfl, h0⟩ | ⟨b, cap, cur, rfl, hb, hh, hnc, hcm, hcs, ht⟩
  · left
    obtain rfl : hi = 0 := by omega
    exact ⟨by simp [subSl], by simp⟩
  · right
    refine ⟨b, cap, cur, ?_, Nat.zero_le _, hh, by rw [List.length_take]; omega, hcm, hcs, ?_⟩
    · rw [subSl0, List.length_take, Nat.min_eq_left h2]
    · have h5 : (xs.take hi).flatMap enc = (xs.flatMap enc).take (hi * size) := by
        have h6 := flat_len hs (xs.take hi)
        rw [List.length_take, Nat.min_eq_left h2] at h6
        have h7 : xs.flatMap enc = (xs.take hi).flatMap enc ++ (xs.drop hi).flatMap enc := by rw [← List.flatMap_append, List.take_append_drop]
        rw [h7, List.take_append_of_le_length (Nat.le_of_eq h6.symm)]
        exact (List.take_of_length_le (Nat.le_of_eq h6)).symm
      rw [h5, ← ht, List.take_take, List.length_take, Nat.min_eq_left h2, Nat.min_eq_left (Nat.mul_le_mul_right _ h2)]
end
section maps
variable {κ β : Type} [DecidableEq κ] {P : Program} {n : Sz} {o : Oper} {L : Env} {R : List RO} {O O' : List Own} {K : Env → List RO → List Own → Prop} {t t' kt et : TypeId} {z : Value} {x y : Operand} {kenc : κ → Value} {venc : β → Value} {m : GoMap κ β} {b : Nat} {k : κ} {kv : Value}
theorem OpW.delete (T : MapT P t kt et z) (KT : KeyT P kt kenc) (ho : o.op = .call { callee := .builtin .delete, args := #[x, y], argTypes := #[t, t'] }) (hx : ev L x = some (.map (some b))) (hy : ev L y = some kv) (hT : Take (mapC kenc venc b m) O O') (hk : kenc k = kv) (hd : o.dst = none)
    (c : K L R (mapC kenc venc b (m.del k) :: O')) : OpW P n o L R O K := by
  intro a w hf hs Q
  have hs' := hs.perm hT.perm
  have hp : mapP kenc venc b m w := hs'.see List.mem_cons_self
  unfold Oper.wp
  have hr : (execOp a.eval o).run P w = .ok (.value (.tuple #[])) { w with heap := w.heap.setIfInBounds b (.map ((m.del k).l.map (ent kenc venc)).toArray (m.del k).clock) } := by
    simp only [execOp, ho, resolve, invoke, builtin, Sem.run_bind, Sem.run_pure, hf.ev hx, hf.ev hy, ← hk, List.map_toArray, List.map_cons, List.map_nil, run_delete T KT hp, Result.andThen_ok]
  rw [hr, Oper.upon_value, hd]
  exact ⟨_, _, _, c, hf.none _, map_put hs' _ hp⟩
end maps
end Go.SL
