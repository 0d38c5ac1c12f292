/-
  A range over a map: the iterator's block; its rules. The keys of a map, sorted, by the library's contracts. No program is in sight.
-/
import Derived.Test.YtfenbhaehkkkeaaLib
import Derived.Test.YtfenbhaehkkkeaaMap
import Derived.Maps.RangeRun
import Derived.Maps.Own
import Derived.Sort.KeysCollected
namespace Go.SL
open Go Go.RowKit Go.MapKept Go.ChangeMaps

/-- An iterator over a map that is not written meanwhile: which stamps have come. -/
def iterC (it b c : Nat) (seen : List Nat) : Own := { blks := [it], pred := fun w => w.heap[it]? = some (.mapIter (some b) c seen.toArray c) }
section
variable {κ β : Type} {kenc : κ → Value} {venc : β → Value}
/-- What a step gives. -/
def stepV (kenc : κ → Value) (venc : β → Value) : Option (κ × β × Nat) → Value
  | none => .tuple #[.bool false]
  | some x => .tuple #[.bool true, kenc x.1, venc x.2.1]
def StepOk (m : GoMap κ β) (seen : List Nat) : Option (κ × β × Nat) → Prop
  | none => ∀ x ∈ m.l, x.2.2 ∈ seen
  | some x => x ∈ m.l ∧ x.2.2 ∉ seen
def seenOf (seen : List Nat) : Option (κ × β × Nat) → List Nat
  | none => seen
  | some x => seen ++ [x.2.2]
variable {P : Program} {n : Sz} {o : Oper} {L : Env} {R : List RO} {O O' : List Own} {K : Env → List RO → List Own → Prop} {t kt et : TypeId} {z : Value} {x y : Operand} {m : GoMap κ β} {b d it : Nat} {seen seen1 : List Nat}
theorem OpW.rangeM (T : MapT P t kt et z) (ho : o.op = .range t x) (hx : ev L x = some (.map (some b))) (hp : mapP kenc venc b m ∈ R) (hd : o.dst = some d) (hn : Nat.blt d n.n = true)
    (k : ∀ it, K ((d, .pointer (some ⟨it, 0, none⟩)) :: L) R (iterC it b m.clock [] :: O)) : OpW P n o L R O K := by
  intro a w hf hs Q
  have h : mapP kenc venc b m w := hs.read hp
  unfold Oper.wp
  have hr : (execOp a.eval o).run P w = .ok (.value (.pointer (some ⟨w.heap.size, 0, none⟩))) (w.alloc (.mapIter (some b) m.clock #[] m.clock)) := by
    simp only [execOp, ho, Sem.run_bind, hf.ev hx, run_range_map w t kt et b _ _ T.und h, Result.andThen_ok, Sem.run_pure]
  rw [hr, Oper.upon_value, hd]
  exact ⟨_, _, _, k _, hf.put hn _, hs.alloc _ _ rfl fun w' h _ => h⟩
theorem ent_born (m : GoMap κ β) : (m.l.map (ent kenc venc)).map (·.born) = m.l.map (·.2.2) := by
  rw [List.map_map]; rfl
theorem OpW.nextM (ho : o.op = .next x false) (hx : ev L x = some (.pointer (some ⟨it, 0, none⟩))) (hp : mapP kenc venc b m ∈ R) (hT : Take (iterC it b m.clock seen) O O') (hd : o.dst = some d) (hn : Nat.blt d n.n = true)
    (k : ∀ r, StepOk m seen r → K ((d, stepV kenc venc r) :: L) R (iterC it b m.clock (seenOf seen r) :: O')) : OpW P n o L R O K := by
  intro a w hf hs Q
  have h : mapP kenc venc b m w := hs.read hp
  have hs' := hs.perm hT.perm
  have hi : w.heap[it]? = some (.mapIter (some b) m.clock seen.toArray m.clock) := hs'.see List.mem_cons_self
  unfold Oper.wp
  rcases run_next_at (P := P) w o.type it b m.clock m.clock seen.toArray _ _ hi h (by
      intro e he
      simp only [List.mem_map] at he
      obtain ⟨q, hq, rfl⟩ := he
      exact m.lt q hq) (Nat.le_refl _) with ⟨h0, hr⟩ | ⟨e, he, w1, hw1, hr⟩
  · have hr' : (execOp a.eval o).run P w = .ok (.value (.tuple #[.bool false])) w := by
      simp only [execOp, ho, Sem.run_bind, hf.ev hx, hr, Result.andThen_ok, Sem.run_pure]
    rw [hr', Oper.upon_value, hd]
    refine ⟨_, _, _, k none ?_, hf.put hn _, hs'⟩
    intro q hq
    have h1 : leftOf (m.l.map (ent kenc venc)).toArray seen.toArray = #[] := Array.eq_empty_of_size_eq_zero h0
    unfold leftOf at h1
    rw [Array.filter_eq_empty_iff] at h1
    have := h1 (ent kenc venc q) (by simpa using ⟨q.1, q.2.1, q.2.2, hq, rfl⟩)
    simpa [ent] using this
  · have hr' : (execOp a.eval o).run P w = .ok (.value (.tuple #[.bool true, e.key, e.val])) (setBlock w1 it (.mapIter (some b) m.clock (seen.toArray.push e.born) m.clock)) := by
      simp only [execOp, ho, Sem.run_bind, hf.ev hx, hr, Result.andThen_ok, Sem.run_pure]
    rw [hr', Oper.upon_value, hd]
    simp only [leftOf, Array.toList_filter, List.mem_filter, List.mem_map] at he
    obtain ⟨⟨q, hq, rfl⟩, hns⟩ := he
    have hs1 : Sat R (iterC it b m.clock seen :: O') w1 := by
      rcases hw1 with rfl | rfl
      · exact hs'
      · exact hs'.drew _
    have hi1 : w1.heap[it]? = some (.mapIter (some b) m.clock seen.toArray m.clock) := hs1.see List.mem_cons_self
    have hlt : it < w1.heap.size := (Array.getElem?_eq_some_iff.1 hi1).1
    refine ⟨_, _, _, k (some q) ⟨hq, by simpa [ent] using hns⟩, hf.put hn _, ?_⟩
    refine hs1.update (iterC it b m.clock (seen ++ [q.2.2])) ⟨rfl, rfl, rfl, by simp [setBlock], fun j hj hn => ?_⟩ (fun j hj => .inl hj) (fun j hj => ?_) (by simp [iterC]) (fun w'' ha _ => ?_)
    · have : j ≠ it := fun e => hn (by simp [iterC, e])
      exact (heap_set hi1).2 j this
    · simp only [iterC, List.mem_singleton] at hj; subst hj; simpa [setBlock] using hlt
    · show w''.heap[it]? = _
      rw [ha.2.2.2.2 it (by simpa [setBlock] using hlt) (fun h => h (by simp [iterC]))]
      refine (heap_set hi1).1.trans ?_
      simp [ent]
theorem Rd.stepOn {r : Option (κ × β × Nat)} (ho : o.op = .extract x 0) (hx : ev L x = some (stepV kenc venc r)) : Rd P o L R O (.bool (decide (r.isSome = true))) := fun ρ w hρ _ _ => by
  cases r <;> simp [execOp, ho, hρ _ _ hx, stepV, Instr.extract]
theorem Rd.entryM {q : κ × β × Nat} (ho : o.op = .entry x) (hx : ev L x = some (.pointer (some ⟨it, 0, none⟩))) (hp : mapP kenc venc b m ∈ R) (hi : iterC it b m.clock seen1 ∈ O) (hq : q ∈ m.l) (hs : seen1 = seen ++ [q.2.2]) : Rd P o L R O (.tuple #[kenc q.1, venc q.2.1]) := fun ρ w hρ hR hO => by
  have h : w.heap[b]? = _ := hR _ hp
  have h2 : w.heap[it]? = _ := hO _ hi
  subst hs
  have h3 : w.heap[it]? = some (.mapIter (some b) m.clock (seen.toArray.push (ent kenc venc q).born) m.clock) := h2.trans (by simp [ent])
  have := run_entry_at (P := P) w it b m.clock seen.toArray _ _ (ent kenc venc q) h3 h (by simpa using ⟨q.1, q.2.1, q.2.2, hq, rfl⟩) (by
    show ((m.l.map (ent kenc venc)).map (·.born)).Nodup
    rw [ent_born]; exact m.born)
  simp only [execOp, ho, Sem.run_bind, hρ _ _ hx, this, Result.andThen_ok, Sem.run_pure]
  rfl
end

theorem nodup_len {α : Type} [DecidableEq α] : ∀ {l l' : List α}, l.Nodup → (∀ x ∈ l, x ∈ l') → l.length ≤ l'.length
  | [], _, _, _ => Nat.zero_le _
  | a :: l, l', hn, hs => by
    rw [List.nodup_cons] at hn
    have h1 := nodup_len (l := l) (l' := l'.erase a) hn.2 fun x hx => (List.mem_erase_of_ne (fun e => hn.1 (by rwa [e] at hx))).2 (hs x (List.mem_cons_of_mem _ hx))
    have ha := hs a List.mem_cons_self
    rw [List.length_erase_of_mem ha] at h1
    have := List.length_pos_of_mem ha
    rw [List.length_cons]; omega

/-- A contract that gives something new. -/
theorem Sat.belowOwn {R : List RO} {O : List Own} {w w' : World} {c : Own} (h : Sat R O w) (hb : Below w.heap.size w w') (hn : c.blks.Nodup) (hge : ∀ k ∈ c.blks, w.heap.size ≤ k ∧ k < w'.heap.size) (hc : ∀ w'', (∀ k ∈ c.blks, w''.heap[k]? = w'.heap[k]?) → c.pred w'') : Sat R (c :: O) w' := by
  have key : ∀ {S : Nat → Prop} {w'' : World}, Agree S w' w'' → Agree S w w'' := fun {S w''} ha =>
    (show Agree S w w' from ⟨hb.os, hb.tape, hb.output, hb.size, fun k hk _ => hb.block k hk⟩).trans ha
  refine ⟨?_, fun k hk => ?_, fun p hp w'' ha => h.ro p hp w'' ((key ha).mono fun k hk hx => ?_), fun d hd w'' ha => ?_⟩
  · simp only [owned, List.nodup_append]
    exact ⟨hn, h.nodup, fun x hx y hy e => by have := (hge x hx).1; have := h.lt y hy; omega⟩
  · simp only [owned, List.mem_append] at hk
    rcases hk with hk | hk
    · exact (hge k hk).2
    · exact Nat.lt_of_lt_of_le (h.lt k hk) hb.size
  · simp only [owned, List.mem_append] at hx
    rcases hx with hx | hx
    · have := (hge k hx).1; omega
    · exact hx
  · rcases List.mem_cons.1 hd with rfl | hd
    · refine hc w'' fun k hk => ha.2.2.2.2 k (hge k hk).2 (fun hx => hx.2 hk)
    · refine h.own d hd w'' ((key ha).mono fun k hk hx => ?_)
      simp only [owned, List.mem_append] at hx
      rcases hx with ⟨hx | hx, h2⟩
      · have := (hge k hx).1; omega
      · exact ⟨hx, h2⟩

/-! ### the keys of a map -/
theorem bless_eq : ∀ (x y : List UInt8), Op.bytesLess x y = decide (x < y)
  | [], [] => by simp [Op.bytesLess]
  | [], _ :: _ => by simp [Op.bytesLess]
  | _ :: _, [] => by simp [Op.bytesLess]
  | a :: x, b :: y => by
    rw [Op.bytesLess, bless_eq x y]
    simp only [List.cons_lt_cons_iff]
    by_cases h : a < b
    · simp [h]
    · by_cases h2 : b < a
      · have h3 : ¬ a = b := fun e => by subst e; exact absurd h2 (by simp)
        simp [h, h2, h3]
      · have h3 : a = b := UInt8.toNat_inj.1 (by simp only [UInt8.lt_iff_toNat_lt] at h h2; omega)
        subst h3
        simp
/-- Rising, none twice. -/
def Asc (l : List (List UInt8)) : Prop := l.Pairwise fun a b => Op.bytesLess a b = true
abbrev constR : Value → Option (DataW Unit × List MemPlace) := fun _ => some (.lit (.bool true), [])
def mapD {β : Type} (P : Program) (kt : TypeId) (venc : β → Value) (m : GoMap (List UInt8) β) : DataW Unit := .map (((m.l.map (ent vs venc)).map (Go.WideElems.rg P kt constR)).foldr DataW.insert [])
section
variable {β : Type} {venc : β → Value} {P : Program} {kt : TypeId} {m : GoMap (List UInt8) β} {b : Nat}
theorem keyOf_vs (hk : P.underlying kt = some .string) {k : List UInt8} (h : k.length ≤ maxLen) : keyOf P kt (vs k) = some (.string k) := by
  have h2 : ByteArray.size ⟨k.toArray⟩ ≤ maxLen := h
  simp [keyOf, hk, mapKey, vs, h2]
theorem rd_ent (hk : P.underlying kt = some .string) {x : List UInt8 × β × Nat} (h : x.1.length ≤ maxLen) : Go.WideElems.rd P kt constR (ent vs venc x) = some (.string x.1, .lit (.bool true)) := by
  simp [Go.WideElems.rd, ent, keyOf_vs hk h, constR]
theorem ownsMap_of {w : World} (hk : P.underlying kt = some .string) (h : mapP vs venc b m w) (hsz : m.l.length ≤ maxLen) (hl : ∀ k ∈ m.ks, k.length ≤ maxLen) : w.ownsMap P kt constR b m.l.length (mapD P kt venc m) := by
  refine ⟨_, _, h, ⟨by simpa using hsz, ⟨?_, ?_, ?_⟩, ?_⟩, by simp, rfl⟩
  · intro x hx
    simp only [List.mem_map] at hx
    obtain ⟨q, hq, rfl⟩ := hx
    exact m.lt q hq
  · show ((m.l.map (ent vs venc)).map (·.born)).Nodup
    rw [ent_born]; exact m.born
  · show ((m.l.map (ent vs venc)).map (·.key)).Nodup
    rw [List.map_map]
    have h1 : (m.l.map ((·.key) ∘ ent vs venc)) = (m.l.map (·.1)).map vs := by rw [List.map_map]; rfl
    rw [h1]
    refine List.Pairwise.map _ (fun a b h e => h ?_) m.keys
    simpa [vs] using e
  · intro x hx
    simp only [List.mem_map] at hx
    obtain ⟨q, hq, rfl⟩ := hx
    exact ⟨_, rd_ent hk (hl _ (List.mem_map_of_mem hq))⟩
theorem mapD_keys (hk : P.underlying kt = some .string) (hl : ∀ k ∈ m.ks, k.length ≤ maxLen) : (strKeys (mapD P kt venc m)).Perm m.ks := by
  show ((((m.l.map (ent vs venc)).map (Go.WideElems.rg P kt constR)).foldr DataW.insert []).map fun p => strOf p.1).Perm m.ks
  refine ((Go.WideShapes.sorted_perm _).map _).trans ?_
  rw [List.map_map, List.map_map]
  refine List.Perm.of_eq (List.map_congr_left fun q hq => ?_)
  show strOf (Go.WideElems.rg P kt constR (ent vs venc q)).1 = q.1
  rw [Go.WideElems.rg_of (rd_ent hk (hl _ (List.mem_map_of_mem hq)))]; rfl
theorem mapD_size (P : Program) (kt : TypeId) (venc : β → Value) (m : GoMap (List UInt8) β) : Go.Maps.size (mapD P kt venc m) = m.l.length := by
  show ((((m.l.map (ent vs venc)).map (Go.WideElems.rg P kt constR)).foldr DataW.insert [])).length = _
  rw [(Go.WideShapes.sorted_perm _).length_eq]; simp
theorem sort_asc {l : List (List UInt8)} (hn : l.Nodup) : Asc (l.mergeSort leB) ∧ (l.mergeSort leB).Perm l := by
  have tr : ∀ a b c : List UInt8, leB a b = true → leB b c = true → leB a c = true := fun a b c h1 h2 => by simp only [leB, decide_eq_true_eq] at *; exact List.le_trans h1 h2
  have to : ∀ a b : List UInt8, (leB a b || leB b a) = true := fun a b => by simp only [leB, Bool.or_eq_true, decide_eq_true_eq]; exact List.le_total a b
  have hp := List.mergeSort_perm l leB
  refine ⟨?_, hp⟩
  have h1 := List.pairwise_mergeSort tr to l
  have h2 : (l.mergeSort leB).Nodup := hp.nodup_iff.2 hn
  refine (h1.and h2).imp fun {a b} ⟨h3, h4⟩ => ?_
  rw [bless_eq, decide_eq_true_eq]
  simp only [leB, decide_eq_true_eq] at h3
  rcases Classical.em (a < b) with h5 | h5
  · exact h5
  · exact absurd (List.le_antisymm h3 (List.not_lt.1 h5)) h4
/-- Of a call that gives a map's keys, sorted. -/
theorem Fun.sortedKeys {f : FuncId} {args : Array Value} {R : List RO} {O : List Own} {st : TypeId} {POST : Value → List RO → List Own → Prop}
    (h : ∀ w, Sat R O w → Calls P f args w fun e w' => ∃ (v : Value) (ss : List (List UInt8)), e = .returned v ∧ ss.Perm (strKeys (mapD P kt venc m)) ∧ w'.ownsRow w.heap.size st 1 v ss.length ((ss.mergeSort (fun x y => decide (x ≤ y))).map Go.Proofs.encStr) ∧ (v = .slice none 0 0 ↔ ss = []) ∧ Below w.heap.size w w')
    (hk : P.underlying kt = some .string) (hl : ∀ k ∈ m.ks, k.length ≤ maxLen)
    (c : ∀ v ks, Asc ks → (∀ k, k ∈ ks ↔ k ∈ m.ks) → ks.length = m.l.length → POST v R (accC st 1 (SL.one vs) v ks :: O)) : Fun P f args R O POST := by
  intro w hs
  refine (h w hs).mono fun e w' ⟨v, ss, he, hp, hrow, _, hb⟩ => ?_
  have hp' := hp.trans (mapD_keys hk hl)
  obtain ⟨ha, hq⟩ := sort_asc (hp'.nodup_iff.2 (show m.ks.Nodup from m.keys))
  have hlen : (ss.mergeSort leB).length = ss.length := hq.length_eq
  have hfm : (ss.mergeSort leB).flatMap (SL.one vs) = (ss.mergeSort leB).map Go.Proofs.encStr := by
    generalize ss.mergeSort leB = l
    induction l with
    | nil => rfl
    | cons a l ih => rw [List.flatMap_cons, ih, List.map_cons]; rfl
  refine ⟨v, _, _, he, c v (ss.mergeSort leB) ha (fun k => (hq.trans hp').mem_iff) ((hq.trans hp').length_eq.trans (by simp [GoMap.ks])), hs.belowOwn hb ?_ ?_ ?_⟩
  · show (v.ownBlock.toList).Nodup
    cases v.ownBlock <;> simp
  · intro k hk'
    rcases hrow.2 with ⟨rfl, _⟩ | ⟨g, cap, cur, rfl, hg, h1, _⟩
    · simp [accC, Value.ownBlock] at hk'
    · simp only [accC, Value.ownBlock, Option.toList_some, List.mem_singleton] at hk'
      subst hk'
      exact ⟨hg, (Array.getElem?_eq_some_iff.1 h1).1⟩
  · intro w'' hw
    show w''.ownsRow 0 st 1 v (ss.mergeSort leB).length ((ss.mergeSort leB).flatMap (SL.one vs))
    rw [hfm, hlen]
    refine ⟨hrow.1, ?_⟩
    rcases hrow.2 with h0 | ⟨g, cap, cur, rfl, hg, h1, hrest⟩
    · exact .inl h0
    · exact .inr ⟨g, cap, cur, rfl, Nat.zero_le _, (hw g (by simp [accC, Value.ownBlock])).trans h1, hrest⟩
end
/-- The order of strings. -/
abbrev Lt (a b : List UInt8) : Prop := Op.bytesLess a b = true
theorem Lt.iff {a b : List UInt8} : Lt a b ↔ a < b := by show Op.bytesLess a b = true ↔ _; rw [bless_eq, decide_eq_true_eq]
theorem Lt.irrefl {a : List UInt8} : ¬ Lt a a := fun h => List.lt_irrefl _ (Lt.iff.1 h)
theorem Lt.trans {a b c : List UInt8} (h : Lt a b) (h' : Lt b c) : Lt a c := Lt.iff.2 (List.lt_trans (Lt.iff.1 h) (Lt.iff.1 h'))
theorem Lt.asymm {a b : List UInt8} (h : Lt a b) (h' : Lt b a) : False := Lt.irrefl (h.trans h')
theorem Lt.total {a b : List UInt8} (h : ¬ Lt a b) (hne : a ≠ b) : Lt b a := by
  rw [Lt.iff] at h ⊢
  rcases Classical.em (b < a) with h5 | h5
  · exact h5
  · exact absurd (List.le_antisymm (List.not_lt.1 h5) (List.not_lt.1 h)) hne
theorem Lt.flip (a b : List UInt8) : (Op.bytesLess a b || a == b) = decide (¬ Lt b a) := by
  by_cases h : Lt b a
  · rw [decide_eq_false (by simpa using h)]
    have h1 : ¬ Lt a b := fun h' => h'.asymm h
    have h2 : a ≠ b := fun e => by subst e; exact h.irrefl
    simp [show Op.bytesLess a b = false from Bool.eq_false_iff.2 h1, h2]
  · rw [decide_eq_true h]
    by_cases e : a = b
    · simp [e]
    · rw [show Op.bytesLess a b = true from Lt.total h (fun h => e h.symm)]; rfl
section
variable {P : Program} {o : Oper} {L : Env} {R : List RO} {O : List Own} {t t' : TypeId} {x y : Operand} {s r : List UInt8}
theorem Rd.slssP (ho : o.op = .binOp .lss t x y t') (hx : ev L x = some (vs s)) (hy : ev L y = some (vs r)) : Rd P o L R O (.bool (decide (Lt s r))) := by
  have h := Rd.slss (P := P) (R := R) (O := O) ho hx hy
  rwa [show Op.bytesLess s r = decide (Lt s r) from by simp] at h
theorem Rd.sleqP (ho : o.op = .binOp .leq t x y t') (hx : ev L x = some (vs s)) (hy : ev L y = some (vs r)) : Rd P o L R O (.bool (decide (¬ Lt r s))) := by
  have h := Rd.sleq (P := P) (R := R) (O := O) ho hx hy
  rwa [Lt.flip] at h
end
/-- Two rising lists with the same members are one. -/
theorem Asc.uniq : ∀ {l l' : List (List UInt8)}, Asc l → Asc l' → (∀ x, x ∈ l ↔ x ∈ l') → l = l'
  | [], [], _, _, _ => rfl
  | [], b :: _, _, _, h => absurd ((h b).2 List.mem_cons_self) (by simp)
  | a :: _, [], _, _, h => absurd ((h a).1 List.mem_cons_self) (by simp)
  | a :: l, b :: l', h1, h2, h => by
    rw [Asc, List.pairwise_cons] at h1 h2
    have e : a = b := by
      rcases List.mem_cons.1 ((h a).1 List.mem_cons_self) with e | e
      · exact e
      · rcases List.mem_cons.1 ((h b).2 List.mem_cons_self) with e' | e'
        · exact e'.symm
        · exact (Lt.asymm (h2.1 a e) (h1.1 b e')).elim
    subst e
    rw [Asc.uniq (l := l) (l' := l') h1.2 h2.2 fun x => ?_]
    constructor
    · intro hx
      rcases List.mem_cons.1 ((h x).1 (List.mem_cons_of_mem _ hx)) with e | e
      · subst e; exact (Lt.irrefl (h1.1 _ hx)).elim
      · exact e
    · intro hx
      rcases List.mem_cons.1 ((h x).2 (List.mem_cons_of_mem _ hx)) with e | e
      · subst e; exact (Lt.irrefl (h2.1 _ hx)).elim
      · exact e
theorem Asc.nodup {l : List (List UInt8)} (h : Asc l) : l.Nodup := List.Pairwise.imp (fun h e => by subst e; exact Lt.irrefl h) h
/-- Rising step by step. -/
theorem Asc.of_steps : ∀ {l : List (List UInt8)}, (∀ i, i + 1 < l.length → Lt l[i]! l[i + 1]!) → Asc l
  | [], _ => List.Pairwise.nil
  | [_], _ => List.pairwise_singleton _ _
  | a :: b :: l, h => by
    have ih : Asc (b :: l) := Asc.of_steps fun i hi => by
      have := h (i + 1) (by simp only [List.length_cons] at hi ⊢; omega)
      simpa using this
    refine List.pairwise_cons.2 ⟨fun x hx => ?_, ih⟩
    have h0 : Lt a b := by simpa using h 0 (by simp)
    rcases List.mem_cons.1 hx with e | e
    · subst e; exact h0
    · exact h0.trans ((List.pairwise_cons.1 ih).1 x e)
theorem Asc.steps {l : List (List UInt8)} (h : Asc l) {i : Nat} (hi : i + 1 < l.length) : Lt l[i]! l[i + 1]! := by
  rw [getElem!_pos l i (by omega), getElem!_pos l (i + 1) hi]
  exact List.pairwise_iff_getElem.1 h i (i + 1) (by omega) hi (by omega)
end Go.SL
