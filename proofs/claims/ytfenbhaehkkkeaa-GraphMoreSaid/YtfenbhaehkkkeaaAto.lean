/-
  Pointers against nil; atomic numbers; structs in slices of the call's own. No program is in sight.
-/
import Derived.Test.YtfenbhaehkkkeaaMem
import Derived.Test.YtfenbhaehkkkeaaAcc
import Derived.Test.YtfenbhaehkkkeaaByt
import Derived.Laws.LoneSync
namespace Go.SL
open Go
section
variable {P : Program} {n : Sz} {o : Oper} {L : Env} {R : List RO} {O O' : List Own} {K : Env → List RO → List Own → Prop} {t t' e te : TypeId} {x y u : Operand} {v z : Value}
theorem Rd.pneqN {ad : Option Addr} (ho : o.op = .binOp .neq t x y t') (hT : P.underlying t = some (.pointer te)) (hx : ev L x = some (.pointer ad)) (hy : ev L y = some (.pointer none)) : Rd P o L R O (.bool ad.isSome) :=
  run_pbin ho hx hy fun w _ _ => by
    have h : ∀ d : Nat, (Op.equalIn (d + 1) t (.pointer ad) (.pointer none)).run P w = .ok ad.isNone w := fun d => by
      cases ad <;> simp [Op.equalIn, run_underlying hT]
    simp only [binOp]
    simp [Op.equal, Op.maxDepth, h 9999]
theorem Rd.peqN {ad : Option Addr} (ho : o.op = .binOp .eql t x y t') (hT : P.underlying t = some (.pointer te)) (hx : ev L x = some (.pointer ad)) (hy : ev L y = some (.pointer none)) : Rd P o L R O (.bool ad.isNone) :=
  run_pbin ho hx hy fun w _ _ => by
    have h : ∀ d : Nat, (Op.equalIn (d + 1) t (.pointer ad) (.pointer none)).run P w = .ok ad.isNone w := fun d => by
      cases ad <;> simp [Op.equalIn, run_underlying hT]
    simp only [binOp]
    simp [Op.equal, Op.maxDepth, h 9999]
/-- s == nil -/
theorem Rd.eqNil' {a : Option Addr} {m c : Nat} (ho : o.op = .binOp .eql t x y t') (hT : P.underlying t = some (.slice e)) (hx : ev L x = some (.slice a m c)) (hy : ev L y = some (.slice none 0 0)) : Rd P o L R O (.bool a.isNone) := fun ρ w hρ _ _ => by
  have e0 : (eqGuard .eql t x y (.slice a m c) (.slice none 0 0)).run P w = .ok () w := by
    unfold eqGuard
    split <;> rfl
  simp only [execOp, ho, hρ _ _ hx, hρ _ _ hy, Sem.run_bind, e0, Result.andThen_ok, Lib.run_eql_slice_nil w t e a m c 0 0 hT, Sem.run_pure]
theorem OpW.atomicAdd {f : FuncId} {fn : Func} {ts : Array TypeId} {b off d : Nat} {cs : List Value} {p k : Int} (ho : o.op = .call { callee := .value x, args := #[y, u], argTypes := ts }) (hx : ev L x = some (.func (.func f) #[] #[])) (hy : ev L y = some (.pointer (some ⟨b, off, none⟩))) (hu : ev L u = some (.int .i64 k))
    (hf : P.funcs[f]? = some fn) (hname : (fn.name == "runtime.NumGoroutine") = false) (hb : fn.body.isNone = true) (hn0 : Extern.findNext fn = none) (he : Extern.find fn = some (Extern.Atomic.update (Op.intArith .add) .i64 true))
    (hT : Take (rowC b e cs) O O') (hc : cs[off]? = some (.int .i64 p)) (hr : -9223372036854775808 ≤ p + k ∧ p + k ≤ 9223372036854775807) (hd : o.dst = some d) (hn : Nat.blt d n.n = true)
    (kk : K ((d, .int .i64 (p + k)) :: L) R (rowC b e (cs.set off (.int .i64 (p + k))) :: O')) : OpW P n o L R O K := by
  intro a w hfr hs Q
  have hs' := hs.perm hT.perm
  have hp : (rowC b e cs).pred w := hs'.see List.mem_cons_self
  have hlt : off < cs.length := (List.getElem?_eq_some_iff.1 hc).1
  have hcell := row_cell hp hc
  have hfree := row_free hp off
  have hsum : (Op.intArith .add .i64 p k).run P w = .ok (.int .i64 (p + k)) w := by
    have : IntKind.i64.wrap (p + k) = p + k := wrap_i64 hr
    simp [Op.intArith, this]
  have hrun := run_call_add (P := P) hf hname hb hn0 .i64 he (y := k) hcell hfree hsum
  have hr' : (execOp a.eval o).run P w = .ok (.value (.int .i64 (p + k))) (w.setCell ⟨b, off, none⟩ (.int .i64 (p + k))) := by
    simp [execOp, ho, resolve, hfr.ev hx, hfr.ev hy, hfr.ev hu, Deferred.ofValue, invoke, hrun]
  unfold Oper.wp
  rw [hr', Oper.upon_value, hd]
  have hlt' : b < w.heap.size := hs'.lt b (by simp [owned, rowC])
  refine ⟨_, _, _, kk, hfr.put hn _, hs'.update _ ⟨rfl, rfl, rfl, by simp, fun j hj hne => heap_setCell_other w _ _ _ (by simpa [rowC, eq_comm] using hne)⟩ (by simp [rowC]) (by simpa [rowC] using hlt') (by simp [rowC]) (fun w'' ha _ => ?_)⟩
  show w''.heap[b]? = _
  rw [ha.2.2.2.2 b (by simpa using hlt') (by simp [rowC])]
  exact setCell_row hp off _
theorem Rd.atomicLoad {f : FuncId} {fn : Func} {ts : Array TypeId} {b off : Nat} {cs : List Value} {p : Int} (ho : o.op = .call { callee := .value x, args := #[y], argTypes := ts }) (hx : ev L x = some (.func (.func f) #[] #[])) (hy : ev L y = some (.pointer (some ⟨b, off, none⟩)))
    (hf : P.funcs[f]? = some fn) (hname : (fn.name == "runtime.NumGoroutine") = false) (hb : fn.body.isNone = true) (hn0 : Extern.findNext fn = none) (he : Extern.find fn = some (Extern.Atomic.loadT (.int .i64)))
    (hp : rowC b e cs ∈ O) (hc : cs[off]? = some (.int .i64 p)) : Rd P o L R O (.int .i64 p) := fun ρ w hρ _ hO => by
  have hrun := run_call_load (P := P) hf hname hb hn0 .i64 he (row_cell (hO _ hp) hc)
  simp [execOp, ho, resolve, hρ _ _ hx, hρ _ _ hy, Deferred.ofValue, invoke, hrun]
end
section acc
variable {P : Program} {n : Sz} {o : Oper} {L : Env} {R : List RO} {O O' : List Own} {K : Env → List RO → List Own → Prop} {t t' e : TypeId} {x y : Operand} {v z : Value} {α : Type} {enc : α → List Value} {xs : List α} {size bytes : Nat}
theorem flat_take (hs : ∀ x, (enc x).length = size) : ∀ (xs : List α) (k : Nat), (xs.flatMap enc).take (k * size) = (xs.take k).flatMap enc
  | [], k => by simp
  | a :: xs, 0 => by simp
  | a :: xs, k + 1 => by
    rw [List.flatMap_cons, List.take_succ_cons, List.flatMap_cons, List.take_append, hs, List.take_of_length_le (by rw [hs, Nat.add_mul, Nat.one_mul]; omega)]
    rw [show (k + 1) * size - size = k * size from by rw [Nat.add_mul, Nat.one_mul]; omega, flat_take hs xs k]
theorem flat_drop (hs : ∀ x, (enc x).length = size) (xs : List α) (k : Nat) (hk : k ≤ xs.length) : (xs.flatMap enc).drop (k * size) = (xs.drop k).flatMap enc := by
  have h1 : xs.flatMap enc = (xs.take k).flatMap enc ++ (xs.drop k).flatMap enc := by rw [← List.flatMap_append, List.take_append_drop]
  rw [h1, List.drop_append, flat_len hs, List.length_take, Nat.min_eq_left hk, List.drop_eq_nil_of_le (by rw [flat_len hs, List.length_take, Nat.min_eq_left hk]; exact Nat.le_refl _)]
  simp
/-- Elements of an own slice are written. -/
theorem acc_write {b cap k : Nat} {cur : Array Value} {ys : List α} {w : World} (hsz : ∀ x, (enc x).length = size) (hs : Sat R (accC e size enc (.slice (some ⟨b, 0, none⟩) xs.length cap) xs :: O) w) (hh : w.heap[b]? = some (.cells cur e (0, 0))) (hfit : k + ys.length ≤ xs.length) :
    Sat R (accC e size enc (.slice (some ⟨b, 0, none⟩) xs.length cap) (xs.take k ++ ys ++ xs.drop (k + ys.length)) :: O) (w.setRow b (cur.toList.take (k * size) ++ ys.flatMap enc ++ cur.toList.drop (k * size + (ys.flatMap enc).length)).toArray) := by
  have hp : (accC e size enc (.slice (some ⟨b, 0, none⟩) xs.length cap) xs).pred w := hs.see List.mem_cons_self
  have hlt' := ownBlock_lt hp
  obtain ⟨hl, hv⟩ := hp
  rcases hv with ⟨hc, _⟩ | ⟨b', cap', cur', hc, hb, hh', hnc, hcm, hcs, ht⟩
  · cases hc
  · simp only [Value.slice.injEq, Option.some.injEq, Addr.mk.injEq, and_true, true_and] at hc
    obtain ⟨rfl, rfl⟩ := hc
    rw [hh] at hh'
    simp only [Option.some.injEq, Obj.cells.injEq, and_true] at hh'
    subst hh'
    have hbl : b < w.heap.size := hlt' b (by simp [Value.ownBlock])
    have hyl := flat_len hsz ys
    have hlen : (xs.take k ++ ys ++ xs.drop (k + ys.length)).length = xs.length := by simp; omega
    have hk : k * size + ys.length * size ≤ xs.length * size := by rw [← Nat.add_mul]; exact Nat.mul_le_mul_right _ hfit
    refine hs.update _ ⟨rfl, rfl, rfl, by simp, fun j hj hne => setRow_other w b j _ (fun e' => hne (by simp [accC, Value.ownBlock, e']))⟩ (by intro j hj; left; simpa [accC, Value.ownBlock] using hj) (by intro j hj; simp [accC, Value.ownBlock] at hj; subst hj; simpa using hbl) (by simp [accC, Value.ownBlock]) (fun w'' ha _ => ?_)
    refine ⟨by rw [flat_len hsz, hlen], .inr ⟨b, cap, (cur.toList.take (k * size) ++ ys.flatMap enc ++ cur.toList.drop (k * size + (ys.flatMap enc).length)).toArray, by rw [hlen], hb, ?_, by rw [hlen]; exact hnc, hcm, ?_, ?_⟩⟩
    · rw [ha.2.2.2.2 b (by simpa using hbl) (by simp [accC, Value.ownBlock])]
      exact setRow_heap w b cur _ e _ hh
    · have h5 : cur.toList.length = cap * size := by rw [Array.length_toList]; exact hcs
      have h6 : xs.length * size ≤ cap * size := Nat.mul_le_mul_right _ hnc
      simp only [List.size_toArray, List.length_append, List.length_take, List.length_drop, h5, hyl]
      omega
    · have h5 : cur.toList.length = cap * size := by rw [Array.length_toList]; exact hcs
      have h6 : xs.length * size ≤ cap * size := Nat.mul_le_mul_right _ hnc
      rw [hlen, List.toList_toArray, List.flatMap_append, List.flatMap_append]
      have e1 : cur.toList.take (k * size) = (xs.take k).flatMap enc := by
        rw [← flat_take hsz xs k, ← ht, List.take_take, Nat.min_eq_left (by omega)]
      have e2 : (cur.toList.drop (k * size + (ys.flatMap enc).length)).take (xs.length * size - (k * size + (ys.flatMap enc).length)) = (xs.drop (k + ys.length)).flatMap enc := by
        rw [← flat_drop hsz xs _ hfit, ← ht, List.drop_take, hyl, Nat.add_mul]
      rw [List.take_append, List.take_of_length_le (by rw [List.length_append, List.length_take, hyl]; omega), e1, List.length_append, hyl]
      congr 1
      rw [show ((xs.take k).flatMap enc).length = k * size from by rw [flat_len hsz, List.length_take, Nat.min_eq_left (by omega)]]
      rw [hyl] at e2
      exact e2
/-- s[k] = v of a struct's type. -/
theorem OpW.storeAccS {k : Nat} {a : α} {va : Array Value} (ho : o.op = .store t x y) (hG : Agg P t size) (hx : ev L x = some (.pointer (some (elemAddr v (k * size))))) (hy : ev L y = some (.agg va)) (hva : va.toList = enc a) (hsz : ∀ x, (enc x).length = size) (h1 : ((enc a).all Value.oneCell') = true)
    (hT : Take (accC e size enc v xs) O O') (hlt : k < xs.length) (hd : o.dst = none) (kk : K L R (accC e size enc v (xs.set k a) :: O')) : OpW P n o L R O K := by
  intro ac w hf hs Q
  have hs' := hs.perm hT.perm
  have hp : (accC e size enc v xs).pred w := hs'.see List.mem_cons_self
  obtain ⟨hl, hv⟩ := hp
  rcases hv with ⟨rfl, h0⟩ | ⟨b, cap, cur, rfl, hb, hh, hnc, hcm, hcs, ht⟩
  · omega
  simp only [elemAddr, Nat.zero_add] at hx
  have hk : k * size + size ≤ cap * size := by
    have h1 : (k + 1) * size ≤ cap * size := Nat.mul_le_mul_right _ (by omega)
    rw [Nat.add_mul, Nat.one_mul] at h1; exact h1
  have hvl : va.toList.length = size := by rw [hva, hsz]
  have hst := run_storeCells_at P b (k * size) e va.toList 0 cur w hh (by rw [hvl, hcs]; omega) (fun u hu => List.all_eq_true.1 h1 u (hva ▸ hu))
  simp only [Nat.add_zero] at hst
  have hvs : va.size = size := by simpa using hvl
  have hsz2 : ∀ w, (sizeOf t).run P w = .ok va.size w := fun w => by rw [hvs]; exact hG.2 w
  have hr : (execOp ac.eval o).run P w = .ok .skip (w.setRow b (cur.toList.take (k * size) ++ va.toList ++ cur.toList.drop (k * size + va.toList.length)).toArray) := by
    simp only [execOp, ho, hf.ev hx, hf.ev hy, Instr.storeAt, Instr.sureAddr, storeVar, Value.cells, hsz2, Sem.run_bind, Result.andThen_ok, Sem.run_pure, Sem.run_ite, ne_eq, not_true_eq_false, if_false, hst]
  unfold Oper.wp
  rw [hr, Oper.upon_skip, hd]
  have hw := acc_write (k := k) (ys := [a]) hsz hs' hh (by show k + 1 ≤ _; omega)
  have e1 : xs.take k ++ [a] ++ xs.drop (k + [a].length) = xs.set k a := by
    rw [List.set_eq_take_append_cons_drop, if_pos hlt]; simp
  have e2 : [a].flatMap enc = va.toList := by simp [hva]
  rw [e1, e2] at hw
  exact ⟨_, _, _, kk, hf.none _, hw⟩
theorem rep_at (l : List Value) : ∀ m i, i < m * l.length → (List.replicate m l).flatten[i]? = some l[i % l.length]!
  | 0, i, h => by simp at h
  | m + 1, i, h => by
    rw [List.replicate_succ, List.flatten_cons]
    by_cases hi : i < l.length
    · rw [List.getElem?_append_left hi, Nat.mod_eq_of_lt hi, get!_of_lt hi]
    · rw [List.getElem?_append_right (by omega), rep_at l m (i - l.length) (by rw [Nat.add_mul, Nat.one_mul] at h; omega), ← Nat.mod_eq_sub_mod (by omega)]
theorem zeroCells_flat (l : Array Value) (m : Nat) : (Builtin.zeroCells l m).toList = (List.replicate m l.toList).flatten := by
  apply List.ext_getElem?
  intro i
  have hlen : ((List.replicate m l.toList).flatten).length = m * l.size := by simp
  by_cases h : i < m * l.size
  · rw [rep_at l.toList m i (by simpa using h)]
    simp only [Builtin.zeroCells, Array.toList_map, Array.toList_range, List.getElem?_map, List.getElem?_range h, Option.map_some, Array.length_toList]
    congr 1
    have h0 : i % l.size < l.size := Nat.mod_lt _ (Nat.pos_of_ne_zero fun h1 => by rw [h1] at h; simp at h)
    rw [getElem!_pos l _ h0, getElem!_pos l.toList _ (by simpa using h0), Array.getElem_toList]
  · rw [List.getElem?_eq_none (by simp [Builtin.zeroCells]; omega), List.getElem?_eq_none (by omega)]
/-- clear(s[lo:]) of structs. -/
theorem OpW.clearAccS {lo : Nat} {a0 : α} {u : Value} (ho : o.op = .call { callee := .builtin .clear, args := #[x], argTypes := #[t] }) (hT : SlT P t e size bytes z) (hz : z.cells.toList = enc a0) (hsz : ∀ x, (enc x).length = size) (h1 : ((enc a0).all Value.oneCell') = true)
    (hx : ev L x = some u) (hu : u = subSl v size lo xs.length) (hO : Take (accC e size enc v xs) O O') (hlo : lo < xs.length) (hd : o.dst = none) (kk : K L R (accC e size enc v (xs.take lo ++ List.replicate (xs.length - lo) a0) :: O')) : OpW P n o L R O K := by
  intro ac w hf hs Q
  subst hu
  have hs' := hs.perm hO.perm
  have hp : (accC e size enc v xs).pred w := hs'.see List.mem_cons_self
  obtain ⟨hl, hv⟩ := hp
  rcases hv with ⟨rfl, h0⟩ | ⟨b, cap, cur, rfl, hb, hh, hnc, hcm, hcs, ht⟩
  · omega
  have hsub : subSl (.slice (some ⟨b, 0, none⟩) xs.length cap) size lo xs.length = .slice (some ⟨b, lo * size, none⟩) (xs.length - lo) (cap - lo) := by
    simp only [subSl]
    rw [if_neg (by omega)]
    simp [add_spot]
  rw [hsub] at hx
  have hzl : (Builtin.zeroCells z.cells (xs.length - lo)).toList = (List.replicate (xs.length - lo) a0).flatMap enc := by
    rw [zeroCells_flat, hz, List.flatMap_def, List.map_replicate]
  have hlen : ((List.replicate (xs.length - lo) a0).flatMap enc).length = (xs.length - lo) * size := by rw [flat_len hsz, List.length_replicate]
  have hk : lo * size + (xs.length - lo) * size ≤ cap * size := by rw [← Nat.add_mul]; exact Nat.mul_le_mul_right _ (by omega)
  have hst := run_storeCells_at P b (lo * size) e ((List.replicate (xs.length - lo) a0).flatMap enc) 0 cur w hh (by rw [hlen, hcs]; omega) (by
    intro q hq
    obtain ⟨c, hc, hq⟩ := List.mem_flatMap.1 hq
    rw [List.eq_of_mem_replicate hc] at hq
    exact List.all_eq_true.1 h1 q hq)
  simp only [Nat.add_zero] at hst
  obtain ⟨k, hk'⟩ : ∃ k, xs.length - lo = k + 1 := ⟨xs.length - lo - 1, by omega⟩
  have hr : (execOp ac.eval o).run P w = .ok (.value (.tuple #[])) (w.setRow b (cur.toList.take (lo * size) ++ (List.replicate (xs.length - lo) a0).flatMap enc ++ cur.toList.drop (lo * size + ((List.replicate (xs.length - lo) a0).flatMap enc).length)).toArray) := by
    have hcl : (Builtin.clear_ #[t] o.type #[.slice (some ⟨b, lo * size, none⟩) (xs.length - lo) (cap - lo)]).run P w = .ok (.tuple #[]) (w.setRow b (cur.toList.take (lo * size) ++ (List.replicate (xs.length - lo) a0).flatMap enc ++ cur.toList.drop (lo * size + ((List.replicate (xs.length - lo) a0).flatMap enc).length)).toArray) := by
      rw [hk'] at hst hzl ⊢
      simp [Builtin.clear_, run_underlying hT.under, hT.zero, hzl, hst]
    simp only [execOp, ho, resolve, invoke, builtin, hf.ev hx, Sem.run_bind, Sem.run_pure, Result.andThen_ok, List.map_toArray, List.map_cons, List.map_nil, hcl]
  unfold Oper.wp
  rw [hr, Oper.upon_value, hd]
  have hw := acc_write (k := lo) (ys := List.replicate (xs.length - lo) a0) hsz hs' hh (by rw [List.length_replicate]; omega)
  have e1 : xs.take lo ++ List.replicate (xs.length - lo) a0 ++ xs.drop (lo + (List.replicate (xs.length - lo) a0).length) = xs.take lo ++ List.replicate (xs.length - lo) a0 := by
    rw [List.length_replicate, List.drop_eq_nil_of_le (by omega), List.append_nil]
  rw [e1] at hw
  exact ⟨_, _, _, kk, hf.none _, hw⟩
end acc
end Go.SL
