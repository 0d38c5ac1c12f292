/-
 Layer 20: KeydiffApplies.
-/
import Derived.Test.YtbbeifdmgmadiaaKd14
namespace Go.Proofs.Ytbbeifdmgmadiaa
open Go Go.SL
def encC (x : Ch) : List Value := [vs x.key, vs x.old.1, vs x.new.1, .bool x.old.2, .bool x.new.2]
def QC (_ : World) (x : Ch) : Prop := x.key.length ≤ 9223372036854775807
theorem QC.stable {W : World} {a : Ch} (w' : World) (h : QC W a) (_ : Agree (· ∈ owned []) W w') : QC w' a := h
theorem elsC : ElsW Try.prog 49 encC QC := by
 have hs := elsW_string Try.underlying9
 have hb := elsW_bool Try.underlying4
 have h := elsW_struct (m := 5) Try.underlying49 (by kernel_rfl) (elsSeq_cons hs rfl (by kernel_rfl) (elsSeq_cons hs rfl (by kernel_rfl) (elsSeq_cons hs rfl (by kernel_rfl) (elsSeq_cons hb rfl (by kernel_rfl) (elsSeq_cons hb rfl (by kernel_rfl) elsSeq_nil)))))
 refine elsW_map (fun z => (⟨z.1, (z.2.1, z.2.2.2.1), (z.2.2.1, z.2.2.2.2.1)⟩ : Ch)) h (fun _ => rfl) ?_
 rintro w a ⟨q1, _⟩
 exact Nat.le_trans q1 (by omega)
/-! ### plain -/
theorem OrdG.zero : OrdG [] := fun i hi => absurd hi (Nat.not_lt_zero _)
theorem take_get! {α : Type} [Inhabited α] {l : List α} {n j : Nat} (h : j < n) (hn : n ≤ l.length) : (l.take n)[j]! = l[j]! := by
 rw [getElem!_pos (l.take n) j (by rw [List.length_take]; omega), getElem!_pos l j (by omega), List.getElem_take]
theorem OrdG.snoc {l : List Ch} {i : Nat} (h : i < l.length) : OrdG (l.take (i + 1)) ↔ OrdG (l.take i) ∧ ¬ (0 < i ∧ ¬ Lt l[i - 1]!.key l[i]!.key) := by
 constructor
 ·
  intro g
  refine ⟨fun j hj => ?_, fun hh => hh.2 ?_⟩
  ·
   rw [List.length_take] at hj
   have := g j (by rw [List.length_take]; omega)
   rw [take_get! (by omega) (by omega), take_get! (by omega) (by omega)] at this
   rw [take_get! (by omega) (by omega), take_get! (by omega) (by omega)]; exact this
  ·
   have := g (i - 1) (by rw [List.length_take]; omega)
   rw [take_get! (by omega) (by omega), take_get! (by omega) (by omega), show i - 1 + 1 = i from by omega] at this
   exact this
 ·
  rintro ⟨g, hh⟩ j hj
  rw [List.length_take] at hj
  rw [take_get! (by omega) (by omega), take_get! (by omega) (by omega)]
  rcases Nat.lt_or_ge (j + 1) i with h1 | h1
  ·
   have := g j (by rw [List.length_take]; omega)
   rw [take_get! (by omega) (by omega), take_get! (by omega) (by omega)] at this
   exact this
  ·
   obtain rfl : i = j + 1 := by omega
   exact Classical.byContradiction fun h2 => hh ⟨by omega, h2⟩
theorem ex_snoc {α : Type} [Inhabited α] {p : α → Prop} {l : List α} {i : Nat} (h : i < l.length) : (∃ x ∈ l.take (i + 1), p x) ↔ (∃ x ∈ l.take i, p x) ∨ p l[i]! := by
 rw [take_snoc h]
 constructor
 ·
  rintro ⟨x, hx, hp⟩
  rcases List.mem_append.1 hx with hx | hx
  ·
   exact .inl ⟨x, hx, hp⟩
  ·
   rw [List.mem_singleton] at hx; subst hx; exact .inr hp
 ·
  rintro (⟨x, hx, hp⟩ | hp)
  ·
   exact ⟨x, List.mem_append.2 (.inl hx), hp⟩
  ·
   exact ⟨_, List.mem_append.2 (.inr (List.mem_singleton.2 rfl)), hp⟩
def Frm (l : List Ch) (n : Nat) : Prop := ∃ y ∈ l.take n, BadG y
instance (l : List Ch) (n : Nat) : Decidable (Frm l n) := inferInstanceAs (Decidable (∃ y ∈ l.take n, BadG y))
def Stl (U : List It) (l : List Ch) (n : Nat) : Prop := ∃ y ∈ l.take n, says U y.key ≠ y.old
instance (U : List It) (l : List Ch) (n : Nat) : Decidable (Stl U l n) := inferInstanceAs (Decidable (∃ y ∈ l.take n, says U y.key ≠ y.old))
theorem Frm.snoc {l : List Ch} {i : Nat} (h : i < l.length) : Frm l (i + 1) ↔ Frm l i ∨ BadG l[i]! := ex_snoc h
theorem Stl.snoc {U : List It} {l : List Ch} {i : Nat} (h : i < l.length) : Stl U l (i + 1) ↔ Stl U l i ∨ says U l[i]!.key ≠ l[i]!.old := ex_snoc (p := fun y : Ch => says U y.key ≠ y.old) h
theorem items_key (f : List UInt8 → Sd) (ks : List (List UInt8)) : (itemsL f ks).map (·.1) = ks.filter fun k => (f k).2 := by
 rw [itemsL_split, List.map_map]
 exact List.map_id _
theorem items_right {f : List UInt8 → Sd} {ks : List (List UInt8)} (h : Asc ks) : RightP (itemsL f ks) := RightP.of (by rw [items_key]; exact List.Pairwise.filter _ h)
theorem says_items {f : List UInt8 → Sd} {ks : List (List UInt8)} (hks : Asc ks) (hf : ∀ k, (f k).2 = false → f k = ([], false)) (hn : ∀ k, k ∉ ks → f k = ([], false)) (k : List UInt8) : says (itemsL f ks) k = f k := by
 cases h : (f k).2 with
 | true =>
  have hk : k ∈ ks := Classical.byContradiction fun g => by rw [hn k g] at h; cases h
  have hm : (k, (f k).1) ∈ itemsL f ks := List.mem_filterMap.2 ⟨k, hk, by rw [if_pos h]⟩
  have := says_mem (items_right hks).nodup hm
  rw [this, ← h]
 | false =>
  rw [says_none, hf k h]
  rw [items_key, List.mem_filter]
  rintro ⟨_, g⟩
  rw [h] at g; cases g
theorem full_false {s : Sd} (h : ¬ HollowP s) (h2 : s.2 = false) : s = ([], false) := by
 obtain ⟨a, b⟩ := s
 obtain rfl : b = false := h2
 have : a = [] := Classical.byContradiction fun g => h ⟨rfl, g⟩
 rw [this]
theorem upd_full {a : List It} {l : List Ch} (hb : ¬ ∃ x ∈ l, BadG x) (k : List UInt8) (h : (upd a l k).2 = false) : upd a l k = ([], false) := by
 refine full_false ?_ h
 unfold upd
 cases e : l.find? (fun x => decide (x.key = k)) with
 | none => exact says_full a k
 | some x => exact fun g => hb ⟨x, List.mem_of_find?_eq_some e, .inr g⟩
theorem upd_out {a : List It} {l : List Ch} {ks : List (List UInt8)} (hm : ∀ k, k ∈ ks ↔ k ∈ a.map (·.1) ∨ k ∈ l.map (·.key)) (k : List UInt8) (h : k ∉ ks) : upd a l k = ([], false) := by
 rw [hm] at h
 rw [upd_none (fun g => h (.inr g)), says_none (fun g => h (.inl g))]
theorem res_len {a : List It} {l : List Ch} {ks : List (List UInt8)} (ha : a.length ≤ 40) (hl : l.length ≤ 40) (hks : Asc ks) (hm : ∀ k, k ∈ ks ↔ k ∈ a.map (·.1) ∨ k ∈ l.map (·.key)) (f : List UInt8 → Sd) : (itemsL f ks).length ≤ 80 := by
 have h1 := nodup_len (l' := a.map (·.1) ++ l.map (·.key)) hks.nodup (fun x hx => List.mem_append.2 ((hm x).1 hx))
 have h2 := itemsL_len f ks
 rw [List.length_append, List.length_map, List.length_map] at h1
 omega
theorem at_key {l : List Ch} {j : Nat} (hn : (l.map (·.key)).Nodup) (h : j < l.length) : l[j]!.key ∉ (l.take j).map (·.key) := by
 have h1 := hn
 rw [← List.take_append_drop j l, List.map_append, List.nodup_append] at h1
 intro g
 refine h1.2.2 _ g l[j]!.key (List.mem_map.2 ⟨l[j]!, ?_, rfl⟩) rfl
 rw [List.drop_eq_getElem_cons h, getElem!_pos l j h]
 exact List.mem_cons_self
end Go.Proofs.Ytbbeifdmgmadiaa
