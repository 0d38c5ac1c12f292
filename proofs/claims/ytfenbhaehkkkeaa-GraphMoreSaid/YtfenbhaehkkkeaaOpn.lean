/-
  More on how a row's arguments are opened: arrays. No program is in sight.
-/
import Derived.Test.YtfenbhaehkkkeaaOpen
import Derived.SizedLaws
namespace Go.SL
open Go Go.RowKit Go.ChangeShapes Go.WideShapes Go.ChangeAt

section
variable {H : Type} {en : TypeId × Value → H} {P : Program} {w : World} {base b0 : Nat} {r : Reach} {spare : Nat → Bool} {held : Bool}
theorem okWide_array {n : Nat} {e t : TypeId} {v : Value} (ht : P.underlying t = some (.array n e)) (h : Value.okWide P w r base t v) : ∃ cs, v = .agg cs ∧ cs.size = P.cellsOf t := by
  simp only [Value.okWide, ht] at h
  obtain ⟨cs, h1, h2, _⟩ := h
  exact ⟨cs, h1, h2⟩
theorem pieces {α : Type} {enc : α → List Value} {size : Nat} : ∀ (n : Nat) (cs : List Value), cs.length = n * size → (∀ i, i < n → ∃ a, (cs.drop (i * size)).take size = enc a) → ∃ xs : List α, xs.length = n ∧ cs = xs.flatMap enc
  | 0, cs, hl, _ => ⟨[], rfl, by rw [Nat.zero_mul] at hl; exact List.length_eq_zero_iff.1 hl⟩
  | n + 1, cs, hl, h => by
    obtain ⟨a, ha⟩ := h 0 (Nat.succ_pos _)
    rw [Nat.zero_mul, List.drop_zero] at ha
    obtain ⟨xs, hxl, hx⟩ := pieces (enc := enc) (size := size) n (cs.drop size) (by rw [List.length_drop, hl, Nat.succ_mul]; omega) (fun i hi => by
      obtain ⟨b, hb⟩ := h (i + 1) (by omega)
      exact ⟨b, by rw [List.drop_drop, ← hb]; congr 2; rw [Nat.succ_mul]; omega⟩)
    refine ⟨a :: xs, by rw [List.length_cons, hxl], ?_⟩
    rw [List.flatMap_cons, ← hx, ← ha, List.take_append_drop]
theorem open_arr {α : Type} {enc : α → List Value} {t e : TypeId} {n size : Nat} {v : Value} {d : DataW H} {p : List MemPlace} (ht : P.underlying t = some (.array n e)) (hsz : P.cellsOf e = size) (hct : P.cellsOf t = n * size) (hel : Els P e enc)
    (hval : Value.okWide P w r b0 t v) (h : DataW.Trod en P w base spare held t v d p) : ∃ xs : List α, xs.length = n ∧ v = .agg (xs.flatMap enc).toArray := by
  obtain ⟨cs, rfl, hcs⟩ := okWide_array ht hval
  obtain ⟨fuel, hf⟩ := h
  obtain ⟨ys, m, _, _, hlen, hyl, hall⟩ := DataW.trod_array ht hf
  have hc : (Value.agg cs).cells.toList = cs.toList := rfl
  rw [hc] at hlen hall
  obtain ⟨xs, hxl, hx⟩ := pieces (enc := enc) (size := size) n cs.toList (by rw [hlen, hct]) (fun i hi => by
    have h1 := hall i hi
    rw [hsz] at h1
    obtain ⟨y, hy⟩ : ∃ y, ys[i]? = some y := ⟨_, List.getElem?_eq_getElem (by omega)⟩
    rw [hy] at h1
    exact hel _ _ _ h1)
  exact ⟨xs, hxl, by rw [← hx]⟩
theorem two {α : Type} {xs : List α} (h : xs.length = 2) : ∃ a b, xs = [a, b] := by
  match xs, h with
  | [a, b], _ => exact ⟨a, b, rfl⟩
theorem three {α : Type} {xs : List α} (h : xs.length = 3) : ∃ a b c, xs = [a, b, c] := by
  match xs, h with
  | [a, b, c], _ => exact ⟨a, b, c, rfl⟩
end
end Go.SL
