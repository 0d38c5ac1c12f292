/-
  Arrays whose elements hold slices. No program is in sight.
-/
import Derived.Test.YtfenbhaehkkkeaaOpw
namespace Go.SL
open Go Go.RowKit Go.ChangeShapes Go.WideShapes Go.ChangeAt

section
variable {H : Type} {en : TypeId × Value → H} {P : Program} {w : World} {base b0 : Nat} {r : Reach} {spare : Nat → Bool} {held : Bool}
theorem piecesW {α : Type} {enc : α → List Value} {Q : World → α → Prop} {size : Nat} : ∀ (n : Nat) (cs : List Value), cs.length = n * size → (∀ i, i < n → ∃ a, (cs.drop (i * size)).take size = enc a ∧ Q w a) → ∃ xs : List α, xs.length = n ∧ cs = xs.flatMap enc ∧ ∀ a ∈ xs, Q w a
  | 0, cs, hl, _ => ⟨[], rfl, by rw [Nat.zero_mul] at hl; exact List.length_eq_zero_iff.1 hl, fun a ha => absurd ha List.not_mem_nil⟩
  | n + 1, cs, hl, h => by
    obtain ⟨a, ha, hq⟩ := h 0 (Nat.succ_pos _)
    rw [Nat.zero_mul, List.drop_zero] at ha
    obtain ⟨xs, hxl, hx, hxq⟩ := piecesW (enc := enc) (Q := Q) (size := size) n (cs.drop size) (by rw [List.length_drop, hl, Nat.succ_mul]; omega) (fun i hi => by
      obtain ⟨b, hb, hbq⟩ := h (i + 1) (by omega)
      exact ⟨b, by rw [List.drop_drop, ← hb]; congr 2; rw [Nat.succ_mul]; omega, hbq⟩)
    refine ⟨a :: xs, by rw [List.length_cons, hxl], ?_, fun b hb => ?_⟩
    · rw [List.flatMap_cons, ← hx, ← ha, List.take_append_drop]
    · rcases List.mem_cons.1 hb with rfl | hb
      · exact hq
      · exact hxq b hb
theorem open_arrW {α : Type} {enc : α → List Value} {Q : World → α → Prop} {t e : TypeId} {n size : Nat} {v : Value} {d : DataW H} {p : List MemPlace} (ht : P.underlying t = some (.array n e)) (hsz : P.cellsOf e = size) (hct : P.cellsOf t = n * size) (hel : ElsW P e enc Q)
    (hval : Value.okWide P w r b0 t v) (h : DataW.Trod en P w base spare held t v d p) (hsm : Small P t d) : ∃ xs : List α, xs.length = n ∧ v = .agg (xs.flatMap enc).toArray ∧ ∀ a ∈ xs, Q w a := by
  obtain ⟨cs, rfl, hcs⟩ := okWide_array ht hval
  obtain ⟨fuel, hf⟩ := h
  obtain ⟨ys, m, _, hd, hlen, hyl, hall⟩ := DataW.trod_array ht hf
  have hc : (Value.agg cs).cells.toList = cs.toList := rfl
  rw [hc] at hlen hall
  obtain ⟨xs, hxl, hx, hq⟩ := piecesW (enc := enc) (Q := Q) (size := size) n cs.toList (by rw [hlen, hct]) (fun i hi => by
    have h1 := hall i hi
    rw [hsz] at h1
    obtain ⟨y, hy⟩ : ∃ y, ys[i]? = some y := ⟨_, List.getElem?_eq_getElem (by omega)⟩
    rw [hy] at h1
    refine hel _ _ _ h1 (fun k hk => hsm k ?_)
    cases hd
    simp only [DataW.weights, ht, List.mem_cons, List.mem_append]
    first
      | exact weightsAll_mem (List.mem_map.2 ⟨y, List.mem_of_getElem? hy, rfl⟩) k hk
      | exact .inr (weightsAll_mem (List.mem_map.2 ⟨y, List.mem_of_getElem? hy, rfl⟩) k hk)
      | exact .inl (weightsAll_mem (List.mem_map.2 ⟨y, List.mem_of_getElem? hy, rfl⟩) k hk))
  exact ⟨xs, hxl, by rw [← hx], hq⟩
theorem open_structW {α : Type} {enc : α → List Value} {Q : World → α → Prop} {t : TypeId} {fs : Array Field} {v : Value} {d : DataW H} {p : List MemPlace} (ht : P.underlying t = some (.struct fs)) (hel : ElsW P t enc Q)
    (hval : Value.okWide P w r b0 t v) (h : DataW.Trod en P w base spare held t v d p) (hsm : Small P t d) : ∃ a : α, v = .agg (enc a).toArray ∧ ∀ x ∈ [a], Q w x := by
  obtain ⟨cs, rfl⟩ : ∃ cs, v = .agg cs := by
    simp only [Value.okWide, ht] at hval
    obtain ⟨cs, h1, _⟩ := hval
    exact ⟨cs, h1⟩
  obtain ⟨fuel, hf⟩ := h
  have hc : (Value.agg cs).cells.toList = cs.toList := rfl
  rw [hc] at hf
  obtain ⟨a, ha, hq⟩ := hel _ _ _ hf hsm
  exact ⟨a, by rw [← ha], fun x hx => by rw [List.mem_singleton] at hx; rw [hx]; exact hq⟩
theorem elsW_bool {e : TypeId} (he : P.underlying e = some .bool) : ElsW P e (one fun b : Bool => .bool b) (fun _ _ => True) := fun _ _ _ _ _ _ n cs x h _ => by
  obtain ⟨b, rfl, _⟩ := DataW.trod_bool he h
  exact ⟨b, rfl, trivial⟩
theorem elsW_arr2 {α : Type} {t e : TypeId} {enc : α → List Value} {Q : World → α → Prop} {size : Nat} (ht : P.underlying t = some (.array 2 e)) (hsz : P.cellsOf e = size) (hct : P.cellsOf t = 2 * size) (hel : ElsW P e enc Q) :
    ElsW P t (fun x : α × α => enc x.1 ++ enc x.2) (fun w x => Q w x.1 ∧ Q w x.2) := fun _ _ w _ _ _ n cs x hx hsm => by
  obtain ⟨ys, m, _, hd, hlen, hyl, hall⟩ := DataW.trod_array ht hx
  obtain ⟨xs, hxl, hxx, hq⟩ := piecesW (enc := enc) (Q := Q) (w := w) (size := size) 2 cs (by rw [hlen, hct]) (fun i hi => by
    have h1 := hall i hi
    rw [hsz] at h1
    obtain ⟨y, hy⟩ : ∃ y, ys[i]? = some y := ⟨_, List.getElem?_eq_getElem (by omega)⟩
    rw [hy] at h1
    refine hel _ _ _ h1 (fun k hk => hsm k ?_)
    rw [hd]
    simp only [DataW.weights, ht, List.mem_cons, List.mem_append]
    first
      | exact weightsAll_mem (List.mem_map.2 ⟨y, List.mem_of_getElem? hy, rfl⟩) k hk
      | exact .inr (weightsAll_mem (List.mem_map.2 ⟨y, List.mem_of_getElem? hy, rfl⟩) k hk))
  obtain ⟨a, b, rfl⟩ := two hxl
  exact ⟨(a, b), by rw [hxx]; simp, hq a (by simp), hq b (by simp)⟩
end
end Go.SL
