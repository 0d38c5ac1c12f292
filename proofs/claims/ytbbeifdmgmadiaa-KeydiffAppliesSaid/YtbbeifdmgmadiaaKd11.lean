/-
  Layer 20: plain lemmas of keyed lists: a list is what it says of its keys; a diff that is applied; two sides in the other order.
-/
import Derived.Test.YtbbeifdmgmadiaaKd9
namespace Go.Proofs.Ytbbeifdmgmadiaa
open Go Go.SL
theorem says_mem : ∀ {l : List It}, (l.map (·.1)).Nodup → ∀ {x : It}, x ∈ l → says l x.1 = (x.2, true)
  | [], _, _, h => by cases h
  | a :: r, hn, x, h => by
    rw [List.map_cons, List.nodup_cons] at hn
    rcases List.mem_cons.1 h with rfl | h
    · simp [says, look]
    · have hne : a.1 ≠ x.1 := fun e => hn.1 (by rw [e]; exact List.mem_map.2 ⟨x, h, rfl⟩)
      have ih := says_mem hn.2 h
      have e : look (a :: r) x.1 = look r x.1 := by unfold look; rw [List.find?_cons_of_neg (by simpa using hne)]
      rw [says, e]; exact ih
theorem look_two {l : List It} {k : List UInt8} {s : Sd} (h : look l k = some s) : s.2 = true := by
  unfold look at h
  obtain ⟨x, _, rfl⟩ := Option.map_eq_some_iff.1 h
  rfl
theorem says_there {l : List It} {k : List UInt8} : (says l k).2 = true ↔ k ∈ l.map (·.1) := by
  constructor
  · intro h
    refine Classical.byContradiction fun hk => ?_
    rw [says_none hk] at h; cases h
  · intro h
    cases e : look l k with
    | none => exact absurd h (look_none.1 e)
    | some s => rw [says, e]; exact look_two e
theorem itemsL_split (f : List UInt8 → Sd) (ks : List (List UInt8)) : itemsL f ks = (ks.filter fun k => (f k).2).map fun k => (k, (f k).1) := by
  unfold itemsL
  induction ks with
  | nil => rfl
  | cons k r ih =>
    rw [List.filterMap_cons]
    cases h : (f k).2 with
    | true => rw [List.filter_cons_of_pos (by exact h), List.map_cons, if_pos rfl]; simp only [ih]
    | false => rw [List.filter_cons_of_neg (by simp [h]), if_neg (by simp)]; simp only [ih]
theorem itemsL_says {l : List It} {ks : List (List UInt8)} (hr : RightP l) (hks : Asc ks) (hsub : ∀ k ∈ l.map (·.1), k ∈ ks) : itemsL (says l) ks = l := by
  rw [itemsL_split]
  have h1 : (ks.filter fun k => (says l k).2) = l.map (·.1) := by
    refine Asc.uniq (List.Pairwise.filter _ hks) hr.asc fun k => ?_
    rw [List.mem_filter]
    exact ⟨fun h => says_there.1 h.2, fun h => ⟨hsub k h, says_there.2 h⟩⟩
  rw [h1, List.map_map]
  have h2 : ∀ x ∈ l, ((fun k => (k, (says l k).1)) ∘ fun x : It => x.1) x = id x := fun x hx => by
    show (x.1, (says l x.1).1) = x
    rw [says_mem hr.nodup hx]
  rw [List.map_congr_left h2, List.map_id]
theorem dchg_key (a b : List It) (ks : List (List UInt8)) : (dchg a b ks).map (·.key) = ks.filter fun k => decide (says a k ≠ says b k) := by
  unfold dchg
  induction ks with
  | nil => rfl
  | cons k r ih =>
    rw [List.filterMap_cons]
    by_cases h : says a k = says b k
    · rw [if_pos h, List.filter_cons_of_neg (by simpa using h)]; exact ih
    · rw [if_neg h, List.filter_cons_of_pos (by simpa using h)]; exact congrArg (k :: ·) ih
theorem dchg_ord {a b : List It} {ks : List (List UInt8)} (h : Asc ks) : OrdG (dchg a b ks) := OrdG.of (by rw [dchg_key]; exact List.Pairwise.filter _ h)
theorem dchg_mem {a b : List It} {ks : List (List UInt8)} {x : Ch} (h : x ∈ dchg a b ks) : x.old = says a x.key ∧ x.new = says b x.key ∧ x.key ∈ ks ∧ says a x.key ≠ says b x.key := by
  obtain ⟨k, hk, e⟩ := List.mem_filterMap.1 h
  by_cases hh : says a k = says b k
  · rw [if_pos hh] at e; cases e
  · rw [if_neg hh] at e; cases e; exact ⟨rfl, rfl, hk, hh⟩
theorem mem_dchg {a b : List It} {ks : List (List UInt8)} {k : List UInt8} (hk : k ∈ ks) (h : says a k ≠ says b k) : (⟨k, says a k, says b k⟩ : Ch) ∈ dchg a b ks := List.mem_filterMap.2 ⟨k, hk, by rw [if_neg h]⟩
theorem says_full (l : List It) (k : List UInt8) : ¬ HollowP (says l k) := by
  by_cases hk : k ∈ l.map (·.1)
  · intro h; have := says_there.2 hk; simp [HollowP, this] at h
  · rw [says_none hk]; simp [HollowP]
theorem dchg_good (a b : List It) (ks : List (List UInt8)) : ¬ ∃ x ∈ dchg a b ks, BadG x := by
  rintro ⟨x, hx, h⟩
  obtain ⟨e1, e2, _⟩ := dchg_mem hx
  rcases h with h | h
  · rw [e1] at h; exact says_full _ _ h
  · rw [e2] at h; exact says_full _ _ h
theorem says_same {a b : List It} {ks : List (List UInt8)} (hks : KsOf ks [a, b]) {k : List UInt8} (hk : k ∉ ks) : says a k = says b k := by
  have h : k ∉ keysIn [a, b] := fun h => hk ((hks.2 k).2 h)
  simp only [keysIn, List.flatMap_cons, List.flatMap_nil, List.append_nil, List.mem_append, not_or] at h
  rw [says_none h.1, says_none h.2]
theorem upd_dchg {a b : List It} {ks : List (List UInt8)} (hks : KsOf ks [a, b]) (k : List UInt8) : upd a (dchg a b ks) k = says b k := by
  by_cases h : says a k = says b k
  · rw [upd_none, h]
    intro hk
    obtain ⟨x, hx, rfl⟩ := List.mem_map.1 hk
    exact (dchg_mem hx).2.2.2 h
  · have hk : k ∈ ks := Classical.byContradiction fun hk => h (says_same hks hk)
    exact upd_mem (x := ⟨k, says a k, says b k⟩) ((dchg_ord hks.1).asc.nodup) (mem_dchg hk h)
/-- A diff that is applied gives the other list. -/
theorem apply_dchg {a b : List It} {ks : List (List UInt8)} {r : List It} {e : Int} (ha : RightP a) (hb : RightP b) (hks : KsOf ks [a, b]) (h : ARes a (dchg a b ks) r e) : e = 0 ∧ r = b := by
  obtain ⟨rfl, ks', h1, h2, rfl⟩ := h.2.2.2 (dchg_ord hks.1) ha (dchg_good _ _ _) (fun x hx => (dchg_mem hx).1.symm)
  refine ⟨rfl, ?_⟩
  rw [itemsL_congr (g := says b) (fun k _ => upd_dchg hks k)]
  refine itemsL_says hb h1 fun k hk => (h2 k).2 ?_
  by_cases hka : k ∈ a.map (·.1)
  · exact .inl hka
  · refine .inr (List.mem_map.2 ⟨⟨k, says a k, says b k⟩, mem_dchg ((hks.2 k).2 ?_) ?_, rfl⟩)
    · simp only [keysIn, List.flatMap_cons, List.flatMap_nil, List.append_nil, List.mem_append]; exact .inr hk
    · intro e
      have h3 := says_there.2 hk
      rw [← e, says_none hka] at h3; cases h3
theorem dchg_turn (a b : List It) (ks : List (List UInt8)) : dchg b a ks = (dchg a b ks).map fun x => ⟨x.key, x.new, x.old⟩ := by
  unfold dchg
  induction ks with
  | nil => rfl
  | cons k r ih =>
    rw [List.filterMap_cons, List.filterMap_cons]
    by_cases h : says a k = says b k
    · rw [if_pos h, if_pos h.symm]; exact ih
    · rw [if_neg h, if_neg (fun e => h e.symm), List.map_cons, ← ih]
theorem dchg_self (a : List It) (ks : List (List UInt8)) : dchg a a ks = [] := by
  unfold dchg
  rw [List.filterMap_eq_nil_iff]; intro k _; rw [if_pos rfl]
/-! ### two sides in the other order -/
theorem Clash.turn {U V W : List It} {k : List UInt8} (h : Clash U V W k) : Clash U W V k := ⟨fun e => h.1 e.symm, h.2.2, h.2.1⟩
theorem mval_turn {U V W : List It} {k : List UInt8} (h : ¬ Clash U V W k) : mval U W V k = mval U V W k := by
  unfold mval
  by_cases h1 : says V k = says W k
  · rw [if_pos (Or.inl h1.symm), if_pos (Or.inl h1), h1]
  · by_cases h2 : says W k = says U k
    · rw [if_neg (c := says W k = says V k ∨ says V k = says U k) (fun g => g.elim (fun g => h1 g.symm) (fun g => h1 (g.trans h2.symm))), if_pos (Or.inr h2)]
    · by_cases h3 : says V k = says U k
      · rw [if_pos (Or.inr h3), if_neg (c := says V k = says W k ∨ says W k = says U k) (fun g => g.elim h1 h2)]
      · exact absurd ⟨h1, h2, h3⟩ h
theorem mbad_turn (U V W : List It) (ks : List (List UInt8)) : mbad U W V ks = (mbad U V W ks).map fun x => ⟨x.key, x.base, x.theirs, x.ours⟩ := by
  unfold mbad
  induction ks with
  | nil => rfl
  | cons k r ih =>
    rw [List.filterMap_cons, List.filterMap_cons]
    by_cases h : Clash U V W k
    · rw [if_pos h, if_pos h.turn, List.map_cons, ← ih]
    · rw [if_neg h, if_neg (fun e => h e.turn)]; exact ih
theorem mbad_mem {U V W : List It} {ks : List (List UInt8)} {x : Cf} (h : x ∈ mbad U V W ks) : x.ours ≠ x.theirs ∧ x.ours ≠ x.base ∧ x.theirs ≠ x.base := by
  obtain ⟨k, hk, e⟩ := List.mem_filterMap.1 h
  by_cases hh : Clash U V W k
  · rw [if_pos hh] at e; cases e; exact ⟨hh.1, hh.2.2, hh.2.1⟩
  · rw [if_neg hh] at e; cases e
def turnF (x : Cf) : Cf := ⟨x.key, x.base, x.theirs, x.ours⟩
theorem sides {U V W l m : List It} {c d : List Cf} {e f : Int} (hM : MRes U V W l c e) (hN : MRes U W V m d f) : e = f ∧ l = m ∧ d = c.map turnF ∧ (l = [] ∨ c = []) ∧ ∀ x ∈ c, x.ours ≠ x.theirs ∧ x.ours ≠ x.base ∧ x.theirs ≠ x.base := by
  by_cases h : RightP U ∧ RightP V ∧ RightP W
  · obtain ⟨rfl, ks, hks, rfl, h1, h2⟩ := hM.2 h.1 h.2.1 h.2.2
    obtain ⟨rfl, ks', hks', rfl, h3, h4⟩ := hN.2 h.1 h.2.2 h.2.1
    obtain rfl : ks = ks' := hks.uniq hks' (fun k => by
      simp only [keysIn, List.flatMap_cons, List.flatMap_nil, List.append_nil, List.mem_append]
      constructor
      · rintro (h | h | h); exact .inl h; exact .inr (.inr h); exact .inr (.inl h)
      · rintro (h | h | h); exact .inl h; exact .inr (.inr h); exact .inr (.inl h))
    have ht := mbad_turn U V W ks
    refine ⟨rfl, ?_, ht, ?_, fun x hx => mbad_mem hx⟩
    · by_cases hc : mbad U V W ks = []
      · rw [h2 hc, h4 (by rw [ht, hc]; rfl)]
        exact itemsL_congr fun k hk => (mval_turn (mbad_nil hc k hk)).symm
      · rw [h1 hc, h3 (by rw [ht]; exact fun e => hc (List.map_eq_nil_iff.1 e))]
    · by_cases hc : mbad U V W ks = []
      · exact .inr hc
      · exact .inl (h1 hc)
  · obtain ⟨rfl, rfl, rfl⟩ := hM.1 h
    obtain ⟨rfl, rfl, rfl⟩ := hN.1 (fun g => h ⟨g.1, g.2.2, g.2.1⟩)
    exact ⟨rfl, rfl, rfl, .inl rfl, fun x hx => by cases hx⟩
theorem none_bad {U V W : List It} {ks : List (List UInt8)} (h : ∀ k, ¬ Clash U V W k) : mbad U V W ks = [] := by
  unfold mbad
  rw [List.filterMap_eq_nil_iff]; intro k _; rw [if_neg (h k)]
theorem merge_base {U W l : List It} {c : List Cf} {e : Int} (hU : RightP U) (hW : RightP W) (hM : MRes U U W l c e) : l = W ∧ c = [] := by
  obtain ⟨rfl, ks, hks, rfl, h1, h2⟩ := hM.2 hU hU hW
  have hn : mbad U U W ks = [] := none_bad fun k h => h.2.2 rfl
  refine ⟨?_, hn⟩
  rw [h2 hn, itemsL_congr (g := says W) (fun k _ => by
    unfold mval
    by_cases h : says U k = says W k
    · rw [if_pos (.inl h), h]
    · rw [if_neg]; rintro (g | g)
      · exact h g
      · exact h g.symm)]
  exact itemsL_says hW hks.1 fun k hk => (hks.2 k).2 (by simp only [keysIn, List.flatMap_cons, List.flatMap_nil, List.append_nil, List.mem_append]; exact .inr (.inr hk))
theorem merge_alike {U V l : List It} {c : List Cf} {e : Int} (hU : RightP U) (hV : RightP V) (hM : MRes U V V l c e) : l = V ∧ c = [] := by
  obtain ⟨rfl, ks, hks, rfl, h1, h2⟩ := hM.2 hU hV hV
  have hn : mbad U V V ks = [] := none_bad fun k h => h.1 rfl
  refine ⟨?_, hn⟩
  rw [h2 hn, itemsL_congr (g := says V) (fun k _ => by unfold mval; rw [if_pos (.inl rfl)])]
  exact itemsL_says hV hks.1 fun k hk => (hks.2 k).2 (by simp only [keysIn, List.flatMap_cons, List.flatMap_nil, List.append_nil, List.mem_append]; exact .inr (.inr hk))
end Go.Proofs.Ytbbeifdmgmadiaa
