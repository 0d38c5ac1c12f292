/-
  Bytes that were made out of a string: they may be read, written and made a string again. No program is in sight.
-/
import Derived.Test.YtfenbhaehkkkeaaByt
import Derived.Laws.IdiomStrings
namespace Go.SL
open Go

/-- Block g begins with these bytes; what is marked of it lies behind all of its cells. -/
def byC (g : Nat) (e : TypeId) (bs : List UInt8) : Own := { blks := [g], pred := fun w => ∃ (C : Array Value) (fz : Nat × Nat), w.heap[g]? = some (.cells C e fz) ∧ C.size ≤ fz.1 ∧ C.toList.take bs.length = bs.map vy ∧ bs.length ≤ C.size }
section rules
variable {P : Program} {n : Sz} {o : Oper} {L : Env} {R : List RO} {O O' : List Own} {K : Env → List RO → List Own → Prop} {t t' e : TypeId} {x y : Operand} {g : Nat} {bs : List UInt8}
theorem byC_cell {w : World} (h : (byC g e bs).pred w) {j : Nat} {c : UInt8} (hj : bs[j]? = some c) : w.cell? ⟨g, j, none⟩ = some (vy c) := by
  obtain ⟨C, fz, hh, _, ht, hl⟩ := h
  have hlt := (List.getElem?_eq_some_iff.1 hj).1
  have h1 : (C.toList.take bs.length)[j]? = some (vy c) := by rw [ht, List.getElem?_map, hj]; rfl
  rw [List.getElem?_take_of_lt hlt] at h1
  simp only [World.cell?, hh]
  simpa using h1
theorem byC_free {w : World} (h : (byC g e bs).pred w) {j : Nat} (hj : j < bs.length) : w.frozen? ⟨g, j, none⟩ = false := by
  obtain ⟨C, ⟨f1, f2⟩, hh, hf, _, hl⟩ := h
  have hf' : C.size ≤ f1 := hf
  simp only [World.frozen?, hh]
  rw [Bool.and_eq_false_iff]
  left
  rw [decide_eq_false_iff_not]; omega
theorem byC_SlE {w : World} {c : Nat} (hc : bs.length ≤ c) (hm : c ≤ maxLen) (h : (byC g e bs).pred w) : SlE (one vy) (.slice (some ⟨g, 0, none⟩) bs.length c) bs w := by
  refine ⟨some ⟨g, 0, none⟩, c, rfl, hc, hm, (fun h => by cases h), fun a ha => ?_⟩
  cases ha
  refine ⟨fun _ => rfl, fun j u hj => ?_⟩
  rw [flat_one, List.getElem?_map, Option.map_eq_some_iff] at hj
  obtain ⟨b, hb, rfl⟩ := hj
  have := byC_cell h hb
  simpa using this
/-- []byte(s) -/
theorem OpW.bytesOf {d : Nat} {s : List UInt8} (ho : o.op = .convert t t' x) (h1 : P.underlying t = some .string) (h2 : P.underlying t' = some (.slice e)) (h3 : P.underlying e = some (.int .u8)) (hx : ev L x = some (vs s)) (hs : s.length ≤ maxLen) (hd : o.dst = some d) (hn : Nat.blt d n.n = true)
    (k : ∀ g c, s.length ≤ c → c ≤ maxLen → K ((d, .slice (some ⟨g, 0, none⟩) s.length c) :: L) R (byC g e s :: O)) : OpW P n o L R O K := by
  intro a w hf h0 Q
  have hr := run_bytes_of_string (P := P) w t t' e ⟨s.toArray⟩ h1 h2 h3
  have hge := grownCap_ge w (ByteArray.mk s.toArray).size 0 e
  have hle := grownCap_le_maxLen w (ByteArray.mk s.toArray).size 0 e (by rw [size_mk]; exact hs)
  rw [size_mk] at hr hge hle
  unfold Oper.wp
  have hr2 : (execOp a.eval o).run P w = .ok (.value (.slice (some ⟨w.heap.size, 0, none⟩) s.length (grownCap w s.length 0 e)))
      (w.drew.alloc (.cells (bytesRow ⟨s.toArray⟩ (grownCap w s.length 0 e)) e ((bytesRow ⟨s.toArray⟩ (grownCap w s.length 0 e)).size, (bytesRow ⟨s.toArray⟩ (grownCap w s.length 0 e)).size + 1))) := by
    simp only [execOp, ho, hf.ev hx, Sem.run_bind, hr, Result.andThen_ok, Sem.run_pure]
  rw [hr2, Oper.upon_value, hd]
  refine ⟨_, _, _, k w.heap.size _ hge hle, hf.put hn _, ?_⟩
  have hsd : Sat R O w.drew := h0.drew _
  refine hsd.alloc _ _ rfl fun w' h _ => ?_
  refine ⟨_, _, h, Nat.le_refl _, ?_, ?_⟩
  · have e1 : (bytesRow ⟨s.toArray⟩ (grownCap w s.length 0 e)).toList = s.map vy ++ List.replicate (grownCap w s.length 0 e - s.length) (.int .u8 0) := by
      simp only [bytesRow, size_mk, Array.toList_append, Array.toList_map, Array.toList_replicate]
    rw [e1, List.take_append_of_le_length (by rw [List.length_map]; exact Nat.le_refl _), List.take_of_length_le (by rw [List.length_map]; exact Nat.le_refl _)]
  · simp [bytesRow, size_mk]
theorem Rd.getBy {k : Nat} {c : UInt8} (ho : o.op = .load t x) (hc : Cell1 P t) (hx : ev L x = some (.pointer (some ⟨g, k, none⟩))) (hp : byC g e bs ∈ O) (hk : bs[k]? = some c) : Rd P o L R O (vy c) := fun ρ w hρ _ hO => by
  have h := run_load1 (P := P) hc (byC_cell (hO _ hp) hk)
  simp only [execOp, ho, hρ _ _ hx, Sem.run_bind, h, Result.andThen_ok, Sem.run_pure]
theorem Rd.strOfBy {c m : Nat} (ho : o.op = .convert t t' x) (h1 : P.underlying t = some (.slice e)) (h2 : P.underlying t' = some .string) (h3 : P.underlying e = some (.int .u8)) (hx : ev L x = some (.slice (some ⟨g, 0, none⟩) m c)) (hp : byC g e bs ∈ O) (hm : bs.length = m) (hc : bs.length ≤ c) (hcm : c ≤ maxLen) : Rd P o L R O (vs bs) := by
  subst hm
  exact Rd.strOf ho h1 h2 h3 hx fun _ _ hO => byC_SlE hc hcm (hO _ hp)
theorem OpW.storeBy {k : Nat} {c : UInt8} (ho : o.op = .store t x y) (hsz : ∀ w, (sizeOf t).run P w = .ok 1 w) (hx : ev L x = some (.pointer (some ⟨g, k, none⟩))) (hy : ev L y = some (vy c)) (hT : Take (byC g e bs) O O') (hlt : k < bs.length) (hd : o.dst = none)
    (kk : K L R (byC g e (bs.set k c) :: O')) : OpW P n o L R O K := by
  intro a w hf hs Q
  have hs' := hs.perm hT.perm
  have hp : (byC g e bs).pred w := hs'.see List.mem_cons_self
  have hcell := byC_cell hp (List.getElem?_eq_getElem hlt)
  have hfree := byC_free hp hlt
  have h1 : (vy c).cells = #[vy c] := rfl
  have h2 : (vy c).oneCell' = true := rfl
  have hr : (execOp a.eval o).run P w = .ok .skip (w.setCell ⟨g, k, none⟩ (vy c)) := by
    simp [execOp, ho, hf.ev hx, hf.ev hy, Instr.storeAt, Instr.sureAddr, storeVar, hsz, h1, storeCells, Addr.add, run_store _ _ _ _ _ h2, hcell, hfree]
  unfold Oper.wp
  rw [hr, Oper.upon_skip, hd]
  have hlt' : g < w.heap.size := hs'.lt g (by simp [owned, byC])
  obtain ⟨C, fz, hh, hfz, ht, hl⟩ := hp
  have hset : (w.setCell ⟨g, k, none⟩ (vy c)).heap[g]? = some (.cells (C.setIfInBounds k (vy c)) e fz) := by
    show (w.heap.modify g _)[g]? = _
    rw [Array.getElem?_modify, if_pos rfl, hh]; rfl
  refine ⟨_, _, _, kk, hf.none _, hs'.update _ ⟨rfl, rfl, rfl, by simp, fun j hj hn => heap_setCell_other w _ _ (vy c) (by simpa [byC] using hn)⟩ (by simp [byC]) (by simpa [byC] using hlt') (by simp [byC]) (fun w'' ha _ => ?_)⟩
  refine ⟨C.setIfInBounds k (vy c), fz, ?_, by simpa using hfz, ?_, by simpa using hl⟩
  · rw [ha.2.2.2.2 g (by simpa using hlt') (by simp [byC])]
    exact hset
  · rw [Array.toList_setIfInBounds, List.length_set, List.take_set, ht, List.map_set]
end rules
end Go.SL
