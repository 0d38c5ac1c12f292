/-
  Bytes that were made out of a string and are appended to. No program is in sight.
-/
import Derived.Test.YtcojkjalpkagoaaDoorByc
namespace Go.SL
open Go

/-- A slice of bytes of the call's own; what is marked of its block lies behind all of its cells. -/
def byV (e : TypeId) (v : Value) (bs : List UInt8) : Own := { blks := v.ownBlock.toList, pred := fun w => ∃ (g cap : Nat) (C : Array Value) (fz : Nat × Nat), v = .slice (some ⟨g, 0, none⟩) bs.length cap ∧ w.heap[g]? = some (.cells C e fz) ∧ (C.size ≤ fz.1 ∨ fz.2 = 0) ∧ C.size = cap ∧ C.toList.take bs.length = bs.map vy ∧ bs.length ≤ cap ∧ cap ≤ maxLen }
section rules
variable {P : Program} {n : Nat} {o : Oper} {L : Env} {R : List RO} {O O' : List Own} {K : Env → List RO → List Own → Prop} {t t' e : TypeId} {x y : Operand} {v z : Value} {bs : List UInt8} {bytes : Nat}
theorem byV_cell {w : World} (h : (byV e v bs).pred w) {j : Nat} {c : UInt8} (hj : bs[j]? = some c) : w.cell? (elemAddr v j) = some (vy c) := by
  obtain ⟨g, cap, C, fz, rfl, hh, _, _, ht, hl, _⟩ := h
  have hlt := (List.getElem?_eq_some_iff.1 hj).1
  have h1 : (C.toList.take bs.length)[j]? = some (vy c) := by rw [ht, List.getElem?_map, hj]; rfl
  rw [List.getElem?_take_of_lt hlt] at h1
  simp only [elemAddr, World.cell?, hh]
  simpa using h1
theorem Rd.lenV (ho : o.op = .call { callee := .builtin .len, args := #[x], argTypes := #[t] }) (hx : ev L x = some v) (hT : P.underlying t = some (.slice e)) {e' : TypeId} (hp : byV e' v bs ∈ O) : Rd P o L R O (.int .i64 bs.length) := fun ρ w hρ _ hO => by
  obtain ⟨g, cap, C, fz, rfl, _⟩ := hO _ hp
  simp [execOp, ho, resolve, invoke, builtin, hρ _ _ hx, Builtin.len_, run_underlying hT, goInt]
theorem Rd.idxV {kd : IntKind} {k : Nat} {p : Int} {e' : TypeId} (ho : o.op = .indexAddr t x y) (hT : SlT P t e 1 bytes z) (hx : ev L x = some v) (hy : ev L y = some (.int kd p)) (hk : p = (k : Int)) (hp : byV e' v bs ∈ O) (hlt : k < bs.length) : Rd P o L R O (.pointer (some (elemAddr v k))) := fun ρ w hρ _ hO => by
  subst hk
  obtain ⟨g, cap, C, fz, rfl, _⟩ := hO _ hp
  have h := run_indexAt (P := P) (a := ⟨g, 0, none⟩) rfl (len := bs.length) (cp := cap) (kd := kd) hT hlt w
  rw [Nat.mul_one] at h
  simp only [execOp, ho, hρ _ _ hx, hρ _ _ hy, Sem.run_bind, h, Result.andThen_ok, Sem.run_pure, elemAddr]
theorem Rd.getV {k : Nat} {c : UInt8} {e' : TypeId} (ho : o.op = .load t x) (hc : Cell1 P t) (hx : ev L x = some (.pointer (some (elemAddr v k)))) (hp : byV e' v bs ∈ O) (hk : bs[k]? = some c) : Rd P o L R O (vy c) := fun ρ w hρ _ hO => by
  have h := run_load1 (P := P) hc (byV_cell (hO _ hp) hk)
  simp only [execOp, ho, hρ _ _ hx, Sem.run_bind, h, Result.andThen_ok, Sem.run_pure]
/-- []byte(s) -/
theorem OpW.bytesV {d : Nat} {s : List UInt8} (ho : o.op = .convert t t' x) (h1 : P.underlying t = some .string) (h2 : P.underlying t' = some (.slice e)) (h3 : P.underlying e = some (.int .u8)) (hx : ev L x = some (vs s)) (hs : s.length ≤ maxLen) (hd : o.dst = some d) (hn : Nat.blt d n = true)
    (k : ∀ v, OneV v → K ((d, v) :: L) R (byV e v s :: O)) : OpW P n o L R O K := by
  intro a w hf h0 Q
  have hr := run_bytes_of_string (P := P) w t t' e ⟨s.toArray⟩ h1 h2 h3
  have hge := grownCap_ge w (ByteArray.mk s.toArray).size 0 e
  have hle := grownCap_le_maxLen w (ByteArray.mk s.toArray).size 0 e (by rw [size_mk]; exact hs)
  rw [size_mk] at hr hge hle
  unfold Oper.wp
  have hr2 : (execOp a.eval o).run P w = .ok (.value (.slice (some ⟨w.heap.size, 0, none⟩) s.length (grownCap w s.length 0 e)))
      (w.drew.alloc (.cells (bytesRow ⟨s.toArray⟩ (grownCap w s.length 0 e)) e ((bytesRow ⟨s.toArray⟩ (grownCap w s.length 0 e)).size, (bytesRow ⟨s.toArray⟩ (grownCap w s.length 0 e)).size + 1))) := by
    simp only [execOp, ho, hf.ev hx, Sem.run_bind, hr, Result.andThen_ok, Sem.run_pure]
  rw [hr2, Oper.upon_value, hd]
  refine ⟨_, _, _, k _ OneV.sl, hf.put hn _, ?_⟩
  have hsd : Sat R O w.drew := h0.drew _
  refine hsd.alloc _ _ rfl fun w' h _ => ?_
  refine ⟨w.heap.size, _, _, _, rfl, h, .inl (Nat.le_refl _), ?_, ?_, hge, hle⟩
  · simp [bytesRow, size_mk]; omega
  · have e1 : (bytesRow ⟨s.toArray⟩ (grownCap w s.length 0 e)).toList = s.map vy ++ List.replicate (grownCap w s.length 0 e - s.length) (.int .u8 0) := by
      simp only [bytesRow, size_mk, Array.toList_append, Array.toList_map, Array.toList_replicate]
    rw [e1, List.take_append_of_le_length (by rw [List.length_map]; exact Nat.le_refl _), List.take_of_length_le (by rw [List.length_map]; exact Nat.le_refl _)]
theorem run_append_by (hT : SlT P t e 1 bytes z) (ty : TypeId) {w : World} (h : (byV e v bs).pred w) {b : Nat} {c : UInt8} (hb : w.heap[b]? = some (.cells #[vy c] e (0, 0))) (hroom : Room (bs.length + 1) bytes) :
    ∃ v' w', (Builtin.append_ #[t, t] ty #[v, .slice (some ⟨b, 0, none⟩) 1 1]).run P w = .ok v' w' ∧ (byV e v' (bs ++ [c])).pred w' ∧ w.grownBy w' v.ownBlock ∧ (v'.ownBlock = v.ownBlock ∨ v'.ownBlock = some w.heap.size) := by
  obtain ⟨g, cap, C, fz, rfl, hh, hfz, hcs, ht, hl, hcm⟩ := h
  obtain ⟨i, hi, hz, hsize, hby⟩ := hT.info
  have hsrc : Src P i.size t (.slice (some ⟨b, 0, none⟩) 1 1) 1 [vy c] w := by
    rw [hsize]
    refine Src.ofSlice w hT.under ⟨b, 0, none⟩ 1 1 [vy c] rfl (fun j u hj => ?_) (fun u hu => ?_)
    · rw [add_spot rfl]; simp only [World.cell?, hb]; simpa using hj
    · simp only [List.mem_singleton] at hu; subst hu; rfl
  have hbl : bs.length = (bs.map vy).length := by simp
  by_cases hr : bs.length + 1 ≤ cap
  · have hk : bs.length < C.size := by omega
    have hfree : w.frozen? ⟨g, bs.length, none⟩ = false := by
      obtain ⟨f1, f2⟩ := fz
      simp only [World.frozen?, hh]
      rw [Bool.and_eq_false_iff, decide_eq_false_iff_not, decide_eq_false_iff_not]
      rcases hfz with hfz | hfz <;> simp only at hfz <;> omega
    have hcell : (w.cell? ⟨g, bs.length, none⟩).isSome = true := by
      simp only [World.cell?, hh]; simp [hk]
    have h1 := run_append_room_src (P := P) w t t ty e i hT.under hi g 0 bs.length cap _ 1 [vy c] hsrc hr
      (fun j hj => by
        have : j = 0 := by simpa using hj
        subst this
        rw [hsize]; simpa using hcell)
      (fun j hj => by
        have : j = 0 := by simpa using hj
        subst this
        rw [hsize]; simpa using hfree)
    rw [hsize, Nat.zero_add, Nat.mul_one] at h1
    refine ⟨_, _, h1, ⟨g, cap, C.setIfInBounds bs.length (vy c), fz, by rw [List.length_append]; rfl, ?_, by simpa using hfz, by simpa using hcs, ?_, by rw [List.length_append]; exact hr, hcm⟩, ⟨rfl, rfl, rfl, ?_, fun k _ hn => heap_setCell_other w _ _ (vy c) (by simpa [Value.ownBlock, eq_comm] using hn)⟩, .inl rfl⟩
    · show (w.setCell ⟨g, bs.length, none⟩ (vy c)).heap[g]? = _
      show (w.heap.modify g _)[g]? = _
      rw [Array.getElem?_modify, if_pos rfl, hh]; rfl
    · rw [Array.toList_setIfInBounds, List.length_append, List.length_singleton, List.map_append, ← ht]
      rw [List.take_set, List.take_add_one]
      have h2 : C.toList[bs.length]? = some C[bs.length] := by simp [hk]
      have hmin : (C.toList.take bs.length).length = bs.length := by rw [ht, List.length_map]
      rw [h2, List.set_append_right _ _ (Nat.le_of_eq hmin), hmin, Nat.sub_self]
      rfl
    · show w.heap.size ≤ (w.setCell ⟨g, bs.length, none⟩ (vy c)).heap.size
      show w.heap.size ≤ (w.heap.modify g _).size
      simp
  · have h63 := hroom.1
    have hge := grownCap_ge w (bs.length + 1) cap e
    have hle : grownCap w (bs.length + 1) cap e ≤ maxLen := grownCap_le_maxLen w (bs.length + 1) cap e h63
    have hfc : (Builtin.firstCells i.size bs.length (.slice (some ⟨g, 0, none⟩) bs.length cap)).run P w.drew = .ok (bs.map vy).toArray w.drew :=
      run_firstCells_some w.drew i.size bs.length ⟨g, 0, none⟩ bs.length cap (bs.map vy) (by rw [hsize]; simp) (fun j u hj => by
        rw [add_spot rfl]
        simp only [Nat.zero_add]
        have hjl : j < bs.length := by simpa using (List.getElem?_eq_some_iff.1 hj).1
        have h1 : (C.toList.take bs.length)[j]? = some u := by rw [ht]; exact hj
        rw [List.getElem?_take_of_lt hjl] at h1
        show w.cell? _ = _
        simp only [World.cell?, hh]; simpa using h1)
    have hgr := run_append_grow_src (P := P) w t t ty e i z hT.under hi hz (some ⟨g, 0, none⟩) bs.length cap (bs.map vy) hfc _ 1 [vy c] hsrc (by omega) (by simp only [maxLen] at h63; omega) (growslice_fits (by omega) (by subst hby; exact hroom.2))
    refine ⟨_, _, hgr, ⟨w.heap.size, _, _, (0, 0), by rw [List.length_append]; rfl, SL.alloc_new w.drew _, .inr rfl, ?_, ?_, by rw [List.length_append]; exact hge, hle⟩, ⟨rfl, rfl, rfl, by simp, fun k hk _ => SL.alloc_old w.drew _ hk⟩, .inr rfl⟩
    · have hzs := hT.zsize
      rw [Array.size_append, size_zeroCells, hzs]
      simp
      omega
    · rw [Array.toList_append, List.toList_toArray, List.take_append_of_le_length (by simp), List.take_of_length_le (by simp), List.map_append]
      rfl
theorem OpW.appendBy {d b : Nat} {c : UInt8} {O'' : List Own} (ho : o.op = .call { callee := .builtin .append, args := #[x, y], argTypes := #[t, t] }) (hT : SlT P t e 1 bytes z) (hx : ev L x = some v) (hy : ev L y = some (.slice (some ⟨b, 0, none⟩) 1 1))
    (hb : Take (rowC b e [vy c]) O O'') (hO : Take (byV e v bs) O'' O') (hroom : Room (bs.length + 1) bytes) (hd : o.dst = some d) (hn : Nat.blt d n = true)
    (k : ∀ v', OneV v' → K ((d, v') :: L) R (byV e v' (bs ++ [c]) :: O')) : OpW P n o L R O K := by
  refine OpW.heap (fun w hsat => (hsat.perm (hb.perm.trans (List.Perm.cons _ hO.perm))).perm (List.Perm.swap _ _ _)) (O' := byV e v bs :: rowC b e [vy c] :: O') ?_
  refine OpW.after (K' := fun L' R' O1 => ∃ v', OneV v' ∧ L' = (d, v') :: L ∧ R' = R ∧ O1 = byV e v' (bs ++ [c]) :: rowC b e [vy c] :: O') ?_ ?_
  · intro a w hf hs Q
    have hp : (byV e v bs).pred w := hs.see List.mem_cons_self
    have hrow : w.heap[b]? = some (.cells #[vy c] e (0, 0)) := hs.see (c := rowC b e [vy c]) (List.mem_cons_of_mem _ List.mem_cons_self)
    obtain ⟨v', w', hr, h1, h2, h3⟩ := run_append_by (P := P) hT o.type hp hrow hroom
    have hr' : (execOp a.eval o).run P w = .ok (.value v') w' := by
      simp only [execOp, ho, resolve, invoke, builtin, hf.ev hx, hf.ev hy, Sem.run_bind, Sem.run_pure, Result.andThen_ok, List.map_toArray, List.map_cons, List.map_nil, hr]
    unfold Oper.wp
    rw [hr', Oper.upon_value, hd]
    have hone : OneV v' := by
      obtain ⟨g, cap, C, fz, rfl, _⟩ := h1; exact OneV.sl
    have hlt : ∀ k ∈ v'.ownBlock.toList, k < w'.heap.size := by
      obtain ⟨g, cap, C, fz, rfl, hh, _⟩ := h1
      intro k hk
      have : k = g := by simpa [Value.ownBlock, eq_comm] using hk
      subst this
      exact (Array.getElem?_eq_some_iff.1 hh).1
    refine ⟨_, _, _, ⟨v', hone, rfl, rfl, rfl⟩, hf.put hn v', hs.update (byV e v' (bs ++ [c])) ⟨h2.os, h2.tape, h2.output, h2.size, fun k hk hn => h2.block k hk (fun e => hn (by simp [byV, ← e]))⟩ ?_ hlt ?_ ?_⟩
    · intro k hk
      rcases h3 with h3 | h3
      · left; simpa [byV, h3] using hk
      · right; simp [byV, h3] at hk; omega
    · simp only [byV]; cases v'.ownBlock <;> simp
    · intro w'' ha _
      obtain ⟨g, cap, C, fz, rfl, hh, rest⟩ := h1
      refine ⟨g, cap, C, fz, rfl, ?_, rest⟩
      rw [ha.2.2.2.2 g (hlt g (by simp [Value.ownBlock])) (by simp [byV, Value.ownBlock])]
      exact hh
  · rintro L' R' O1 ⟨v', hone, rfl, rfl, rfl⟩
    exact ⟨_, _, k v' hone, fun w h => (h.perm (List.Perm.swap _ _ _)).drop⟩
theorem WD.say {ops : Array Oper} {Q : Post} {S : List RO} {T : List Own} {fuel : Nat} {listed : Array Bool} (t : Nat) {v u : Value} (ht : Env.find L t = some v) (e : v = u) (k : WD P n ops Q S T fuel listed ((t, u) :: L) R O) : WD P n ops Q S T fuel listed L R O :=
  fun a w hf hs => k a w (hf.known ht e) hs
end rules
end Go.SL
