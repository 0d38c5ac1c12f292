/-
  How a row's arguments are opened whose elements hold slices. No program is in sight.
-/
import Derived.Test.YtfenbhaehkkkeaaOpn
namespace Go.SL
open Go Go.RowKit Go.ChangeShapes Go.WideShapes Go.ChangeAt

section
variable {H : Type} {en : TypeId × Value → H} {P : Program} {w : World} {base : Nat} {spare : Nat → Bool} {held : Bool}
/-- What is written of a value is not much. -/
def Small (P : Program) (e : TypeId) {H : Type} (d : DataW H) : Prop := ∀ m ∈ d.weights P e, m ≤ 140737488351232
theorem small_of {ts : List TypeId} {ds : List (DataW H)} (h : (DataW.weightsEach P ts ds).all (· ≤ reachBytes) = true) {j : Nat} {t : TypeId} {d : DataW H} (ht : ts[j]? = some t) (hd : ds[j]? = some d) : Small P t d := fun n hn => by
  have h1 : n ≤ reachBytes := by simpa using List.all_eq_true.1 h _ (DataW.weights_mem_each ht hd n hn)
  exact h1
theorem weightsAll_mem {e : TypeId} : ∀ {l : List (DataW H)} {d : DataW H}, d ∈ l → ∀ n ∈ d.weights P e, n ∈ DataW.weightsAll P e l
  | x :: l, d, hd, n, hn => by
    simp only [DataW.weightsAll, List.mem_append]
    rcases List.mem_cons.1 hd with rfl | hd
    · exact .inl hn
    · exact .inr (weightsAll_mem hd n hn)
/-- What a type's values read as, and what is so of the memory that they lead to. -/
def ElsW {α : Type} (P : Program) (e : TypeId) (enc : α → List Value) (Q : World → α → Prop) : Prop := ∀ ⦃H : Type⦄ ⦃en : TypeId × Value → H⦄ ⦃w : World⦄ ⦃base : Nat⦄ ⦃spare : Nat → Bool⦄ ⦃held : Bool⦄ (n : Nat) (cs : List Value) (x : DataW H × List MemPlace), DataW.trod en P w base spare held n e cs = some x → Small P e x.1 → ∃ a : α, cs = enc a ∧ Q w a
theorem elsW_of {α : Type} {e : TypeId} {enc : α → List Value} (h : Els P e enc) : ElsW P e enc (fun _ _ => True) := fun _ _ _ _ _ _ n cs x hx _ => by
  obtain ⟨a, ha⟩ := h n cs x hx
  exact ⟨a, ha, trivial⟩
def QInt (_ : World) (n : Int) : Prop := -9223372036854775808 ≤ n ∧ n ≤ 9223372036854775807
def QStr (_ : World) (s : List UInt8) : Prop := s.length ≤ 140737488351232
theorem elsW_int {e : TypeId} (he : P.underlying e = some (.int .i64)) : ElsW P e (one vi) QInt := fun _ _ _ _ _ _ n cs x h _ => by
  obtain ⟨m, rfl, _, hw⟩ := DataW.trod_int he h
  refine ⟨m, rfl, ?_⟩
  simp only [Lit.wf, IntKind.min, IntKind.max, IntKind.signed, IntKind.bits, if_true, Bool.and_eq_true, decide_eq_true_eq] at hw
  exact ⟨by omega, by omega⟩
theorem elsW_string {e : TypeId} (he : P.underlying e = some .string) : ElsW P e (one vs) QStr := fun _ _ _ _ _ _ n cs x h hz => by
  obtain ⟨s, rfl, rfl, _⟩ := DataW.trod_string he h
  exact ⟨s.data.toList, rfl, hz _ (by simp [DataW.weights])⟩
theorem elsW_map {α β : Type} {e : TypeId} {enc : α → List Value} {Q : World → α → Prop} {enc' : β → List Value} {Q' : World → β → Prop} (f : α → β) (h : ElsW P e enc Q) (he : ∀ a, enc a = enc' (f a)) (hq : ∀ w a, Q w a → Q' w (f a)) : ElsW P e enc' Q' := fun _ _ _ _ _ _ n cs x hx hz => by
  obtain ⟨a, ha, hqa⟩ := h n cs x hx hz
  exact ⟨f a, ha.trans (he a), hq _ a hqa⟩
/-- Fields one behind the other. -/
def ElsSeq {α : Type} (P : Program) (fs : List Field) (o m : Nat) (enc : α → List Value) (Q : World → α → Prop) : Prop := ∀ ⦃H : Type⦄ ⦃en : TypeId × Value → H⦄ ⦃w : World⦄ ⦃base : Nat⦄ ⦃spare : Nat → Bool⦄ ⦃held : Bool⦄ (n : Nat) (cs : List Value), cs.length = m →
  (∀ (i : Nat) (f : Field), fs[i]? = some f → ∃ y : DataW H × List MemPlace, DataW.trod en P w base spare held n f.type ((cs.drop f.offset).take (P.cellsOf f.type)) = some y ∧ Small P f.type y.1) → ∃ a : α, cs.drop o = enc a ∧ Q w a
theorem elsSeq_nil {m : Nat} : ElsSeq P [] m m (fun _ : Unit => []) (fun _ _ => True) := fun _ _ _ _ _ _ n cs hl _ => ⟨(), by rw [List.drop_of_length_le (by omega)], trivial⟩
theorem elsSeq_cons {α β : Type} {f : Field} {fs : List Field} {o o' m : Nat} {e0 : α → List Value} {Q0 : World → α → Prop} {e1 : β → List Value} {Q1 : World → β → Prop} (h0 : ElsW P f.type e0 Q0) (ho : f.offset = o) (hs : o + P.cellsOf f.type = o') (r : ElsSeq P fs o' m e1 Q1) :
    ElsSeq P (f :: fs) o m (fun x : α × β => e0 x.1 ++ e1 x.2) (fun w x => Q0 w x.1 ∧ Q1 w x.2) := fun _ _ _ _ _ _ n cs hl h => by
  obtain ⟨y, hy, hz⟩ := h 0 f rfl
  obtain ⟨a, ha, hqa⟩ := h0 _ _ _ hy hz
  obtain ⟨b, hb, hqb⟩ := r n cs hl (fun i g hg => h (i + 1) g hg)
  refine ⟨(a, b), ?_, hqa, hqb⟩
  show cs.drop o = e0 a ++ e1 b
  rw [← ha, ← hb, ho, ← hs, ← List.drop_drop, List.take_append_drop]
theorem elsW_struct {α : Type} {e : TypeId} {fs : List Field} {m : Nat} {enc : α → List Value} {Q : World → α → Prop} (he : P.underlying e = some (.struct fs.toArray)) (hm : P.cellsOf e = m) (h : ElsSeq P fs 0 m enc Q) : ElsW P e enc Q := fun _ _ _ _ _ _ n cs x hx hz => by
  obtain ⟨xs, k, _, rfl, hl, hlen, hf⟩ := DataW.trod_struct he hx
  obtain ⟨a, ha, hq⟩ := h k cs (by rw [hl, hm]) (fun i f hfi => by
    obtain ⟨y, hy⟩ : ∃ y, xs[i]? = some y := ⟨_, List.getElem?_eq_getElem (by
      have := (List.getElem?_eq_some_iff.1 hfi).1
      simp at hlen; omega)⟩
    refine ⟨y, ?_, fun m hm => hz m ?_⟩
    · have := hf i f (by simpa using hfi)
      rw [this, hy]
    · simp only [DataW.weights, he]
      exact DataW.weights_mem_each (j := i) (t := f.type) (d := y.1) (by simp [hfi]) (by simp [hy]) m hm)
  exact ⟨a, by simpa using ha, hq⟩
theorem open_SlEW {α : Type} {enc : α → List Value} {Q : World → α → Prop} {t e : TypeId} {size fuel : Nat} {cs : List Value} {x : DataW H × List MemPlace} (ht : P.underlying t = some (.slice e)) (hsz : P.cellsOf e = size) (hpos : 0 < size) (hel : ElsW P e enc Q) (hs : ∀ a, (enc a).length = size)
    (h : DataW.trod en P w base spare held fuel t cs = some x) (hsm : Small P t x.1) : ∃ v xs, cs = [v] ∧ SlE enc v xs w ∧ xs.length * P.bytesOf e ≤ 140737488351232 ∧ ∀ a ∈ xs, Q w a := by
  rcases Deep.open_slice ht h with ⟨rfl, _⟩ | ⟨a, len, cap, m, n, D, Pl, rfl, _, hlc, hcm, hm, rfl, hall⟩
  · exact ⟨_, [], rfl, ⟨none, 0, rfl, Nat.le_refl _, Nat.zero_le _, fun _ => rfl, fun a ha => by cases ha⟩, by simp, fun a ha => absurd ha List.not_mem_nil⟩
  · have hlm : len ≤ m := by rw [hm]; split <;> omega
    have hch : ∀ i, ∃ y : Option α, i < len → ∃ z, y = some z ∧ Q w z ∧ ∀ j u, (enc z)[j]? = some u → w.cell? ((a.add (i * size)).add j) = some u := by
      intro i
      by_cases hi : i < len
      · obtain ⟨cs', hc, htr⟩ := hall i (by omega)
        obtain ⟨z, hz, hzq⟩ := hel _ _ _ htr (fun k hk => hsm k (by
          simp only [DataW.weights, ht, List.mem_cons, List.mem_append]
          exact .inr (.inl (weightsAll_mem (List.mem_map.2 ⟨i, List.mem_range.2 hi, rfl⟩) k hk))))
        refine ⟨some z, fun _ => ⟨z, rfl, hzq, fun j u hj => ?_⟩⟩
        rw [hsz] at hc
        unfold World.cells? at hc
        split at hc
        · rw [← hz] at hj
          have hjs : j < size := by
            have := (List.getElem?_eq_some_iff.1 hj).1
            rw [hz, hs] at this; exact this
          obtain ⟨b, hb, hf⟩ := mapM_get hc j j (by simp [hjs])
          rw [hj] at hb
          cases hb
          exact hf
        · cases hc
      · exact ⟨none, fun h => absurd h hi⟩
    obtain ⟨g, hg⟩ := Classical.axiomOfChoice hch
    have hmap : ∃ xs : List α, xs.length = len ∧ ∀ i z, xs[i]? = some z → i < len ∧ Q w z ∧ ∀ j u, (enc z)[j]? = some u → w.cell? ((a.add (i * size)).add j) = some u := by
      have : ∀ k, k ≤ len → ∃ xs : List α, xs.length = k ∧ ∀ i z, xs[i]? = some z → i < len ∧ Q w z ∧ ∀ j u, (enc z)[j]? = some u → w.cell? ((a.add (i * size)).add j) = some u := by
        intro k
        induction k with
        | zero => exact fun _ => ⟨[], rfl, fun i z h => by simp at h⟩
        | succ k ih =>
          intro hk
          obtain ⟨xs, hl, hx⟩ := ih (by omega)
          obtain ⟨z, _, hz⟩ := hg k (by omega)
          refine ⟨xs ++ [z], by simp [hl], fun i y hy => ?_⟩
          rcases Nat.lt_or_ge i k with hi | hi
          · rw [List.getElem?_append_left (by omega)] at hy; exact hx i y hy
          · rw [List.getElem?_append_right (by omega), hl] at hy
            have : i - k = 0 := by
              rcases Nat.eq_zero_or_pos (i - k) with h | h
              · exact h
              · rw [List.getElem?_eq_none (by simp; omega)] at hy; cases hy
            rw [this] at hy
            simp at hy
            subst hy
            obtain rfl : i = k := by omega
            exact ⟨by omega, hz⟩
      exact this len (Nat.le_refl _)
    obtain ⟨xs, hxl, hx⟩ := hmap
    have hspot : 0 < xs.length → a.spot = none := by
      intro h0
      obtain ⟨z, hz⟩ : ∃ z, xs[0]? = some z := ⟨_, List.getElem?_eq_getElem h0⟩
      obtain ⟨_, _, hc⟩ := hx 0 z hz
      obtain ⟨u, hu⟩ : ∃ u, (enc z)[0]? = some u := ⟨_, List.getElem?_eq_getElem (by rw [hs]; exact hpos)⟩
      have := hc 0 u hu
      simp only [Nat.zero_mul, Addr.add, if_true] at this
      exact World.cell?_spot this
    refine ⟨_, xs, rfl, ⟨some a, cap, by rw [hxl], by omega, hcm, (fun h => by cases h), fun a' ha' => ?_⟩, ?_, fun z hz => ?_⟩
    rotate_left
    · have := hsm ((len + (m - len)) * P.bytesOf e) (by simp [DataW.weights, ht])
      exact Nat.le_trans (Nat.mul_le_mul_right _ (by omega)) this
    · obtain ⟨i, hi, rfl⟩ := List.getElem_of_mem hz
      exact (hx i _ (List.getElem?_eq_getElem hi)).2.1
    cases ha'
    refine ⟨hspot, fun j u hj => ?_⟩
    have hjl : j < xs.length * size := by rw [← flat_len hs]; exact (List.getElem?_eq_some_iff.1 hj).1
    have hdiv : j / size < xs.length := Nat.div_lt_of_lt_mul (by rwa [Nat.mul_comm] at hjl)
    have hsp := hspot (Nat.lt_of_le_of_lt (Nat.zero_le _) hdiv)
    obtain ⟨z, hz⟩ : ∃ z, xs[j / size]? = some z := ⟨_, List.getElem?_eq_getElem hdiv⟩
    obtain ⟨_, _, hc⟩ := hx _ z hz
    have hmod : j % size < size := Nat.mod_lt _ hpos
    obtain ⟨u', hu'⟩ : ∃ u', (enc z)[j % size]? = some u' := ⟨_, List.getElem?_eq_getElem (by rw [hs]; exact hmod)⟩
    have h1 := hc _ _ hu'
    have h2 := flat_get hs xs (j / size) (j % size) z u' hz hu'
    have e : j / size * size + j % size = j := by rw [Nat.mul_comm]; exact Nat.div_add_mod j size
    rw [e, hj] at h2
    cases h2
    rw [add_spot hsp, add_spot rfl] at h1
    simp only at h1
    rw [Nat.add_assoc, e] at h1
    exact h1
def QSl {α : Type} (P : Program) (e : TypeId) (enc : α → List Value) (Q : World → α → Prop) (w : World) (x : Value × List α) : Prop := SlE enc x.1 x.2 w ∧ x.2.length * P.bytesOf e ≤ 140737488351232 ∧ ∀ a ∈ x.2, Q w a
theorem elsW_slice {β : Type} {t e : TypeId} {enc : β → List Value} {Q : World → β → Prop} {size : Nat} (ht : P.underlying t = some (.slice e)) (hsz : P.cellsOf e = size) (hpos : 0 < size) (hel : ElsW P e enc Q) (hs : ∀ a, (enc a).length = size) :
    ElsW P t (fun x : Value × List β => [x.1]) (QSl P e enc Q) := fun _ _ _ _ _ _ n cs x hx hz => by
  obtain ⟨v, xs, rfl, h⟩ := open_SlEW ht hsz hpos hel hs hx hz
  exact ⟨(v, xs), rfl, h⟩
end
section
variable {W : World}
/-- Something is so of each element. -/
def AllQ {α : Type} (Q : World → α → Prop) (xs : List α) : RO := fun w => ∀ a ∈ xs, Q w a
theorem AllQ.stable {α : Type} {Q : World → α → Prop} {xs : List α} (hQ : ∀ a w', Q W a → Agree (· ∈ owned []) W w' → Q w' a) (h : ∀ a ∈ xs, Q W a) (w' : World) (ha : Agree (· ∈ owned []) W w') : AllQ Q xs w' := fun a hm => hQ a w' (h a hm) ha
end
end Go.SL
