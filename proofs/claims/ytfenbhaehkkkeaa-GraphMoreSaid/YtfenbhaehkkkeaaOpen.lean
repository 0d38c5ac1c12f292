/-
  From a row's arguments to the facts that the walks take, and back from a walk to a row of a law. No program is in sight.
-/
import Derived.Test.YtfenbhaehkkkeaaMem
import Derived.ProofKit
import Derived.OpenShut
import Derived.ShutString
import Derived.ChangeOld
import Derived.Below
import Derived.Deep.Slices
namespace Go.SL
open Go Go.RowKit Go.ChangeShapes Go.WideShapes Go.ChangeAt

section
variable {H : Type} {en : TypeId × Value → H} {P : Program} {w : World} {base : Nat} {spare : Nat → Bool} {held : Bool}

/-- What a type's values read as: of these cells each is laid out as 'enc' says of something. -/
def Els {α : Type} (P : Program) (e : TypeId) (enc : α → List Value) : Prop := ∀ {H : Type} {en : TypeId × Value → H} {w : World} {base : Nat} {spare : Nat → Bool} {held : Bool} (n : Nat) (cs : List Value) (x : DataW H × List MemPlace), DataW.trod en P w base spare held n e cs = some x → ∃ a : α, cs = enc a

theorem els_string {e : TypeId} (he : P.underlying e = some .string) : Els P e (one vs) := fun n cs x h => by
  obtain ⟨s, rfl, _⟩ := DataW.trod_string he h
  exact ⟨s.data.toList, rfl⟩
theorem els_int {e : TypeId} {k : IntKind} (he : P.underlying e = some (.int k)) : Els P e (one (fun n : Int => .int k n)) := fun n cs x h => by
  obtain ⟨m, rfl, _⟩ := DataW.trod_int he h
  exact ⟨m, rfl⟩
theorem els_struct2 {α β : Type} {e : TypeId} {f0 f1 : Field} {e0 : α → List Value} {e1 : β → List Value} (he : P.underlying e = some (.struct #[f0, f1])) (h0 : Els P f0.type e0) (h1 : Els P f1.type e1) (ho : f0.offset = 0) (hs : P.cellsOf f0.type = f1.offset) (hl : P.cellsOf e = f1.offset + P.cellsOf f1.type) :
    Els P e (fun x : α × β => e0 x.1 ++ e1 x.2) := fun n cs x h => by
  obtain ⟨y0, y1, m, _, hlen, g0, g1⟩ := trod_struct2 he h
  obtain ⟨a, ha⟩ := h0 _ _ _ g0
  obtain ⟨b, hb⟩ := h1 _ _ _ g1
  refine ⟨(a, b), ?_⟩
  show cs = e0 a ++ e1 b
  rw [← ha, ← hb, ho, hs, List.drop_zero]
  have : (cs.drop f1.offset).take (P.cellsOf f1.type) = cs.drop f1.offset := List.take_of_length_le (by rw [List.length_drop, hlen, hl]; omega)
  rw [this, List.take_append_drop]
theorem els_cast {α : Type} {e : TypeId} {e0 e1 : α → List Value} (h : Els P e e0) (he : ∀ x, e0 x = e1 x) : Els P e e1 := fun n cs x hx => by
  obtain ⟨a, ha⟩ := h n cs x hx
  exact ⟨a, ha.trans (he a)⟩

theorem mapM_get {α β : Type} {f : α → Option β} : ∀ {l : List α} {r : List β}, l.mapM f = some r → ∀ (i : Nat) (a : α), l[i]? = some a → ∃ b, r[i]? = some b ∧ f a = some b
  | [], r, h, i, a, ha => by simp at ha
  | x :: l, r, h, i, a, ha => by
    simp only [List.mapM_cons, Option.bind_eq_bind, Option.bind_eq_some_iff, Option.pure_def, Option.some.injEq] at h
    obtain ⟨b, hb, bs, hbs, rfl⟩ := h
    cases i with
    | zero => simp at ha; subst ha; exact ⟨b, by simp, hb⟩
    | succ i => simpa using mapM_get hbs i a (by simpa using ha)

theorem open_SlE {α : Type} {enc : α → List Value} {t e : TypeId} {size fuel : Nat} {cs : List Value} {x : DataW H × List MemPlace} (ht : P.underlying t = some (.slice e)) (hsz : P.cellsOf e = size) (hpos : 0 < size) (hel : Els P e enc) (hs : ∀ a, (enc a).length = size)
    (h : DataW.trod en P w base spare held fuel t cs = some x) : ∃ v xs, cs = [v] ∧ SlE enc v xs w := by
  rcases Deep.open_slice ht h with ⟨rfl, _⟩ | ⟨a, len, cap, m, n, D, Pl, rfl, _, hlc, hcm, hm, _, hall⟩
  · exact ⟨_, [], rfl, none, 0, rfl, Nat.le_refl _, Nat.zero_le _, fun _ => rfl, fun a ha => by cases ha⟩
  · have hlm : len ≤ m := by rw [hm]; split <;> omega
    have hch : ∀ i, ∃ y : Option α, i < m → ∃ z, y = some z ∧ ∀ j u, (enc z)[j]? = some u → w.cell? ((a.add (i * size)).add j) = some u := by
      intro i
      by_cases hi : i < m
      · obtain ⟨cs', hc, htr⟩ := hall i hi
        obtain ⟨z, hz⟩ := hel _ _ _ htr
        refine ⟨some z, fun _ => ⟨z, rfl, fun j u hj => ?_⟩⟩
        rw [hsz] at hc
        unfold World.cells? at hc
        split at hc
        · rw [← hz] at hj
          have hjs : j < size := by
            have := (List.getElem?_eq_some_iff.1 hj).1
            rw [hz, hs] at this; exact this
          obtain ⟨b, hb, hf⟩ := mapM_get hc j j (by simp [hjs])
          rw [hj] at hb
          cases hb
          exact hf
        · cases hc
      · exact ⟨none, fun h => absurd h hi⟩
    obtain ⟨g, hg⟩ := Classical.axiomOfChoice hch
    have hmap : ∃ xs : List α, xs.length = len ∧ ∀ i z, xs[i]? = some z → i < len ∧ ∀ j u, (enc z)[j]? = some u → w.cell? ((a.add (i * size)).add j) = some u := by
      have : ∀ k, k ≤ len → ∃ xs : List α, xs.length = k ∧ ∀ i z, xs[i]? = some z → i < len ∧ ∀ j u, (enc z)[j]? = some u → w.cell? ((a.add (i * size)).add j) = some u := by
        intro k
        induction k with
        | zero => exact fun _ => ⟨[], rfl, fun i z h => by simp at h⟩
        | succ k ih =>
          intro hk
          obtain ⟨xs, hl, hx⟩ := ih (by omega)
          obtain ⟨z, _, hz⟩ := hg k (by omega)
          refine ⟨xs ++ [z], by simp [hl], fun i y hy => ?_⟩
          rcases Nat.lt_or_ge i k with hi | hi
          · rw [List.getElem?_append_left (by omega)] at hy; exact hx i y hy
          · rw [List.getElem?_append_right (by omega), hl] at hy
            have : i - k = 0 := by
              rcases Nat.eq_zero_or_pos (i - k) with h | h
              · exact h
              · rw [List.getElem?_eq_none (by simp; omega)] at hy; cases hy
            rw [this] at hy
            simp at hy
            subst hy
            obtain rfl : i = k := by omega
            exact ⟨by omega, hz⟩
      exact this len (Nat.le_refl _)
    obtain ⟨xs, hxl, hx⟩ := hmap
    have hspot : 0 < xs.length → a.spot = none := by
      intro h0
      obtain ⟨z, hz⟩ : ∃ z, xs[0]? = some z := ⟨_, List.getElem?_eq_getElem h0⟩
      obtain ⟨_, hc⟩ := hx 0 z hz
      obtain ⟨u, hu⟩ : ∃ u, (enc z)[0]? = some u := ⟨_, List.getElem?_eq_getElem (by rw [hs]; exact hpos)⟩
      have := hc 0 u hu
      simp only [Nat.zero_mul, Addr.add, if_true] at this
      exact World.cell?_spot this
    refine ⟨_, xs, rfl, some a, cap, by rw [hxl], by omega, hcm, (fun h => by cases h), fun a' ha' => ?_⟩
    cases ha'
    refine ⟨hspot, fun j u hj => ?_⟩
    have hjl : j < xs.length * size := by rw [← flat_len hs]; exact (List.getElem?_eq_some_iff.1 hj).1
    have hdiv : j / size < xs.length := Nat.div_lt_of_lt_mul (by rwa [Nat.mul_comm] at hjl)
    have hsp := hspot (Nat.lt_of_le_of_lt (Nat.zero_le _) hdiv)
    obtain ⟨z, hz⟩ : ∃ z, xs[j / size]? = some z := ⟨_, List.getElem?_eq_getElem hdiv⟩
    obtain ⟨_, hc⟩ := hx _ z hz
    have hmod : j % size < size := Nat.mod_lt _ hpos
    obtain ⟨u', hu'⟩ : ∃ u', (enc z)[j % size]? = some u' := ⟨_, List.getElem?_eq_getElem (by rw [hs]; exact hmod)⟩
    have h1 := hc _ _ hu'
    have h2 := flat_get hs xs (j / size) (j % size) z u' hz hu'
    have e : j / size * size + j % size = j := by rw [Nat.mul_comm]; exact Nat.div_add_mod j size
    rw [e, hj] at h2
    cases h2
    rw [add_spot hsp, add_spot rfl] at h1
    simp only at h1
    rw [Nat.add_assoc, e] at h1
    exact h1
end

section
variable {P : Program} {W : World}
theorem SlE.stable {α : Type} {enc : α → List Value} {v : Value} {xs : List α} (h : SlE enc v xs W) (w' : World) (ha : Agree (· ∈ owned []) W w') : SlE enc v xs w' := by
  obtain ⟨o, c, hv, h1, h2, h3, h4⟩ := h
  refine ⟨o, c, hv, h1, h2, h3, fun a hoa => ⟨(h4 a hoa).1, fun j u hj => ?_⟩⟩
  have := (h4 a hoa).2 j u hj
  rw [← this]
  exact World.cell?_of_block (ha.2.2.2.2 _ (World.block_lt_of_cell? W _ this) (by simp [owned]))
def baseRO (W : World) : RO := fun w => Below W.heap.size W w
theorem base_stable (w' : World) (ha : Agree (· ∈ owned []) W w') : baseRO W w' := ⟨ha.1, ha.2.1, ha.2.2.1, ha.2.2.2.1, fun k hk => ha.2.2.2.2 k hk (by simp [owned])⟩
/-- A list of facts that last. -/
inductive Lasts (W : World) : List RO → Prop
  | nil : Lasts W []
  | cons {p : RO} {R : List RO} (h : ∀ w', Agree (· ∈ owned []) W w' → p w') (r : Lasts W R) : Lasts W (p :: R)
theorem Lasts.all {R : List RO} (h : Lasts W R) : ∀ p ∈ R, ∀ w', Agree (· ∈ owned []) W w' → p w' := by
  induction h with
  | nil => exact fun p hp => by cases hp
  | cons h _ ih => intro p hp; rcases List.mem_cons.1 hp with rfl | hp; exact h; exact ih p hp
/-- A law that is walked: it returns true and changes nothing that was there. -/
theorem law_calls {f : FuncId} {args : Array Value} {R : List RO} (hl : Lasts W R) (h : Fun P f args (baseRO W :: R) [] (fun v R' _ => v = .bool true ∧ R' = baseRO W :: R)) :
    Calls P f args W fun e w' => e = .returned (.bool true) ∧ Below W.heap.size W w' := by
  have hs : Sat (baseRO W :: R) [] W := by
    refine ⟨List.nodup_nil, fun k hk => by simp [owned] at hk, ?_, fun c hc => by cases hc⟩
    exact (Lasts.cons (fun w' ha => base_stable w' ha) hl).all
  refine (h W hs).mono ?_
  rintro e w' ⟨v, R', O', rfl, ⟨rfl, rfl⟩, hs'⟩
  exact ⟨rfl, hs'.read List.mem_cons_self⟩
end
end Go.SL
