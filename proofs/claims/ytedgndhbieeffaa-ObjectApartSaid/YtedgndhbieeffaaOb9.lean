/-
  Layer 11: Decode by both: the plain part.
-/
import Derived.Test.YtedgndhbieeffaaOb8
namespace Go.Proofs.Ytedgndhbieeffaa
open Go Go.SL Go.RowKit

def docOb (k : Int) (l : List (List UInt8)) : Ob :=
  if k = 1 then { zOb with kind := 1, body := l[0]! } else if k = 2 then { zOb with kind := 2, ents := pairsE l (l.length / 2) }
  else if k = 3 then commitOb l else { zOb with kind := 4, target := l[0]!, name := l[1]!, text := l[2]! }
/-- There are as many texts as the kind wants. -/
def ShapeP (k : Int) (l : List (List UInt8)) : Prop := (k = 1 → l.length = 1) ∧ (k = 2 → l.length % 2 = 0) ∧ (k = 3 → l.length = 5) ∧ (k = 4 → l.length = 3)
instance (k : Int) (l : List (List UInt8)) : Decidable (ShapeP k l) := by unfold ShapeP; infer_instance
theorem pairs_flat (l : List (List UInt8)) : ∀ n, 2 * n ≤ l.length → (pairsE l n).flatMap (fun x => [x.1, x.2]) = l.take (2 * n)
  | 0, _ => rfl
  | n + 1, h => by
    rw [pairs_next, List.flatMap_append, pairs_flat l n (by omega), show 2 * (n + 1) = 2 * n + 1 + 1 from by omega, List.take_add_one, List.take_add_one, get!_of_lt (show 2 * n < l.length by omega), get!_of_lt (show 2 * n + 1 < l.length by omega)]
    simp
theorem chunks_flat (s : List UInt8) : ∀ n, 32 * n ≤ s.length → (chunks s n).flatten = s.take (32 * n)
  | 0, _ => rfl
  | n + 1, h => by
    rw [chunks_next, List.flatten_append, chunks_flat s n (by omega), show 32 * (n + 1) = 32 * n + 32 from by omega, List.take_add]
    simp
theorem chunks_32 (s : List UInt8) (n : Nat) (h : 32 * n ≤ s.length) : ∀ x ∈ chunks s n, x.length = 32 := fun x hx => by
  obtain ⟨j, hj, rfl⟩ := List.mem_map.1 hx
  have := List.mem_range.1 hj
  rw [List.length_take, List.length_drop]; omega
theorem five {l : List (List UInt8)} (h : l.length = 5) : l = [l[0]!, l[1]!, l[2]!, l[3]!, l[4]!] := by
  match l, h with
  | [a, b, c, d, e], _ => rfl
theorem three3 {l : List (List UInt8)} (h : l.length = 3) : l = [l[0]!, l[1]!, l[2]!] := by
  match l, h with
  | [a, b, c], _ => rfl
theorem one1 {l : List (List UInt8)} (h : l.length = 1) : l = [l[0]!] := by
  match l, h with
  | [a], _ => rfl
theorem shape_no {k : Int} {l : List (List UInt8)} (hk : 1 ≤ k ∧ k ≤ 4) (h : ¬ ShapeP k l) : (obOf k l).2 = false := by
  unfold obOf
  split
  · rename_i e
    unfold blobO
    rw [if_pos]
    intro h1; exact h ⟨fun _ => h1, fun h => by omega, fun h => by omega, fun h => by omega⟩
  · split
    · rename_i e1 e
      show decide (l.length % 2 = 0) = false
      refine decide_eq_false (fun h1 => h ⟨fun h => by omega, fun _ => h1, fun h => by omega, fun h => by omega⟩)
    · split
      · rename_i e
        unfold commitO
        rw [if_pos]
        refine .inl (fun h1 => h ⟨fun h => by omega, fun h => by omega, fun _ => h1, fun h => by omega⟩)
      · unfold tagO
        rw [if_pos]
        intro h1; exact h ⟨fun h => by omega, fun h => by omega, fun h => by omega, fun _ => h1⟩
theorem shape_ok {k : Int} {l : List (List UInt8)} (hk : 1 ≤ k ∧ k ≤ 4) (h : ShapeP k l) (h3 : k ≠ 3) : obOf k l = (docOb k l, true) := by
  obtain ⟨a1, a2, a3, a4⟩ := h
  unfold obOf docOb
  split
  · rename_i e
    unfold blobO
    rw [if_neg (fun h => h (a1 e))]
  · split
    · rename_i e
      unfold treeO
      rw [decide_eq_true (a2 e)]
    · unfold tagO
      rw [if_neg (fun h => h (a4 (by omega)))]
theorem get_no {k : Int} {l : List (List UInt8)} (h3 : k = 3) (h : (getE l[4]!).2.2 ≠ 0) : (obOf k l).2 = false := by
  unfold obOf
  rw [if_neg (by omega), if_neg (by omega), if_pos h3]
  unfold commitO
  split
  · rfl
  · exact decide_eq_false (fun h1 => h h1.1)
theorem docOb_kind {k : Int} {l : List (List UInt8)} (hk : 1 ≤ k ∧ k ≤ 4) : (docOb k l).kind = k := by
  unfold docOb
  split
  · rename_i e; exact e.symm
  · split
    · rename_i e; exact e.symm
    · split
      · rename_i e; exact e.symm
      · show (4 : Int) = k; omega
theorem putE_get {t : List UInt8} (h0 : (getE t).2.2 = 0) (h1 : (getE t).2.1 = (t.length : Int)) : putI (getE t).1 = t := by
  obtain ⟨n, hn, e1, e2, e3⟩ := getE_can h0
  rw [e1, putI_nat hn]
  have : t.drop (more n + 1) = [] := List.drop_of_length_le (by omega)
  rw [this, List.append_nil] at e3
  exact e3.symm
theorem texts_doc {k : Int} {l : List (List UInt8)} (hk : 1 ≤ k ∧ k ≤ 4) (h : ShapeP k l) (h32 : k = 3 → l[1]!.length % 32 = 0 ∧ (getE l[4]!).2.2 = 0 ∧ (getE l[4]!).2.1 = (l[4]!.length : Int)) : texts (docOb k l) = l := by
  obtain ⟨a1, a2, a3, a4⟩ := h
  unfold texts
  rw [docOb_kind hk]
  split
  · rename_i e
    unfold docOb; rw [if_pos e]
    exact (one1 (a1 e)).symm
  · rename_i e1
    split
    · rename_i e
      unfold docOb; rw [if_neg e1, if_pos e]
      have := a2 e
      show (pairsE l (l.length / 2)).flatMap (fun x => [x.1, x.2]) = l
      rw [pairs_flat l _ (by omega), List.take_of_length_le (by omega)]
    · rename_i e2
      split
      · rename_i e
        obtain ⟨b1, b2, b3⟩ := h32 e
        unfold docOb; rw [if_neg e1, if_neg e2, if_pos e]
        unfold commitOb
        simp only
        rw [chunks_flat _ _ (by omega), List.take_of_length_le (by omega), putE_get b2 b3]
        exact (five (a3 e)).symm
      · rename_i e3
        unfold docOb; rw [if_neg e1, if_neg e2, if_neg e3]
        exact (three3 (a4 (by omega))).symm
theorem small_texts {o : Ob} (hk : 1 ≤ o.kind ∧ o.kind ≤ 4) (hr : RightP o) : Small (texts o) := (texts_le hk hr).1
theorem head_of {s : List UInt8} (h : s ≠ []) : s = UInt8.ofNat (kOf s).toNat :: s.drop 1 := by
  cases s with
  | nil => exact absurd rfl h
  | cons a r => simp [kOf]
/-- An object's bytes are s just where the program takes s. -/
theorem doc_iff {s : List UInt8} {l : List (List UInt8)} (hs : s ≠ []) (hk : 1 ≤ kOf s ∧ kOf s ≤ 4) (hl : s.length ≤ 262208) (hP : Parts (s.drop 1) l []) (hsh : ShapeP (kOf s) l) :
    (encE (docOb (kOf s) l) = (s, 0) ↔ (obOf (kOf s) l).2 = true ∧ RightP (obOf (kOf s) l).1) ∧ ((obOf (kOf s) l).2 = true → (obOf (kOf s) l).1 = docOb (kOf s) l) := by
  obtain ⟨hj, hsm, _⟩ := hP.join
  rw [List.append_nil] at hj
  have hkd := docOb_kind (l := l) hk
  have h2 : (obOf (kOf s) l).2 = true → (obOf (kOf s) l).1 = docOb (kOf s) l := by
    intro h
    by_cases h3 : kOf s = 3
    · unfold obOf docOb
      rw [if_neg (by omega), if_neg (by omega), if_pos h3, if_neg (by omega), if_neg (by omega), if_pos h3]
      unfold obOf at h
      rw [if_neg (by omega), if_neg (by omega), if_pos h3] at h
      unfold commitO at h ⊢
      split at h
      · cases h
      · rename_i hh; rw [if_neg hh]
    · rw [shape_ok hk hsh h3]
  refine ⟨⟨fun h => ?_, fun ⟨h, hr⟩ => ?_⟩, h2⟩
  · have hr : RightP (docOb (kOf s) l) ∧ encB (docOb (kOf s) l) = s := by
      unfold encE at h
      split at h
      · simp at h
      · split at h
        · simp at h
        · rename_i g1 g2
          split at h
          · simp at h
          · exact ⟨Decidable.not_not.1 g2, (Prod.mk.inj h).1⟩
    obtain ⟨hr, he⟩ := hr
    have ht : texts (docOb (kOf s) l) = l := by
      have e1 : joinE (texts (docOb (kOf s) l)) = s.drop 1 := by
        have := congrArg (List.drop 1) he
        exact this
      have := join_uniq (p := []) (r := []) (small_texts (by rw [hkd]; exact hk) hr) hsm (.inl rfl) (.inl rfl) (by rw [List.append_nil, List.append_nil, e1, hj])
      exact this.1
    by_cases h3 : kOf s = 3
    · have hd : docOb (kOf s) l = commitOb l := by unfold docOb; rw [if_neg (by omega), if_neg (by omega), if_pos h3]
      have hl5 := hsh.2.2.1 h3
      rw [hd] at hr ht
      have ht2 : [l[0]!, (chunks l[1]! (l[1]!.length / 32)).flatten, l[2]!, l[3]!, putI (getE l[4]!).1] = l := ht
      have e5 := five hl5
      rw [e5] at ht2
      simp only [List.cons.injEq, and_true] at ht2
      have t1 : (chunks l[1]! (l[1]!.length / 32)).flatten = l[1]! := by
        have := ht2.2.1
        simpa using this
      have t4 : putI (getE l[4]!).1 = l[4]! := by
        have := ht2.2.2.2.2
        simpa using this
      have hlen := flatten_len (chunks_32 l[1]! (l[1]!.length / 32) (by omega))
      rw [t1, chunks_len] at hlen
      obtain ⟨_, _, _, r3, _⟩ := hr
      obtain ⟨_, _, _, _, _, r4, r5⟩ := r3 rfl
      have r4' : 0 ≤ (getE l[4]!).1 := r4
      have r5' : (getE l[4]!).1 ≤ 1099511627776 := r5
      obtain ⟨n, hn⟩ : ∃ n : Nat, (getE l[4]!).1 = (n : Int) := ⟨(getE l[4]!).1.toNat, by omega⟩
      have hnb : n ≤ 1099511627776 := by omega
      rw [hn, putI_nat hnb] at t4
      have hg := getE_put hnb []
      rw [List.append_nil, t4] at hg
      have hpl := putE_length n
      rw [t4] at hpl
      have hc : obOf (kOf s) l = (commitOb l, true) := by
        unfold obOf
        rw [if_neg (by omega), if_neg (by omega), if_pos h3]
        unfold commitO
        rw [if_neg (by omega), decide_eq_true]
        rw [hg]
        exact ⟨rfl, by show (more n : Int) + 1 = _; omega⟩
      rw [hc]
      exact ⟨rfl, ⟨by assumption, by assumption, by assumption, r3, by assumption⟩⟩
    · rw [shape_ok hk hsh h3]
      exact ⟨rfl, hr⟩
  · have hdo := h2 h
    rw [hdo] at hr
    have h32 : kOf s = 3 → l[1]!.length % 32 = 0 ∧ (getE l[4]!).2.2 = 0 ∧ (getE l[4]!).2.1 = (l[4]!.length : Int) := by
      intro h3
      unfold obOf at h
      rw [if_neg (by omega), if_neg (by omega), if_pos h3] at h
      unfold commitO at h
      split at h
      · cases h
      · rename_i hh
        have := of_decide_eq_true h
        exact ⟨by omega, this.1, this.2⟩
    have ht := texts_doc hk hsh h32
    have he : encB (docOb (kOf s) l) = s := by
      unfold encB
      rw [ht, hkd, ← hj, ← head_of hs]
    unfold encE
    rw [hkd, if_neg (by omega), if_neg (fun h => h hr), he, if_neg (by omega)]
end Go.Proofs.Ytedgndhbieeffaa
