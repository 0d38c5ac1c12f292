/-
  Layer 20: results in one; KeydiffMerges.
-/
import Derived.Test.YtbbeifdmgmadiaaKd8
namespace Go.Proofs.Ytbbeifdmgmadiaa
open Go Go.SL
def MRes (U V W : List It) (l : List It) (c : List Cf) (e : Int) : Prop :=
  (¬ (RightP U ∧ RightP V ∧ RightP W) → e = 12 ∧ l = [] ∧ c = []) ∧
  (RightP U → RightP V → RightP W → e = 0 ∧ ∃ ks, KsOf ks [U, V, W] ∧ c = mbad U V W ks ∧ (c ≠ [] → l = []) ∧ (c = [] → l = itemsL (mval U V W) ks))
def DRes (a b : List It) (l : List Ch) (e : Int) : Prop :=
  (¬ (RightP a ∧ RightP b) → e = 12 ∧ l = []) ∧ (RightP a → RightP b → e = 0 ∧ ∃ ks, KsOf ks [a, b] ∧ l = dchg a b ks)
def ARes (a : List It) (l : List Ch) (r : List It) (e : Int) : Prop :=
  (¬ (OrdG l ∧ RightP a) → e = 12 ∧ r = []) ∧
  (OrdG l → RightP a → (∃ x ∈ l, BadG x) → e = 2 ∧ r = []) ∧
  (OrdG l → RightP a → ¬ (∃ x ∈ l, BadG x) → (∃ x ∈ l, says a x.key ≠ x.old) → e = 13 ∧ r = []) ∧
  (OrdG l → RightP a → ¬ (∃ x ∈ l, BadG x) → (∀ x ∈ l, says a x.key = x.old) → e = 0 ∧ ∃ ks, Asc ks ∧ (∀ k, k ∈ ks ↔ k ∈ a.map (·.1) ∨ k ∈ l.map (·.key)) ∧ r = itemsL (upd a l) ks)
section
variable {R : List RO} {O O' : List Own} {POST : Value → List RO → List Own → Prop}
theorem Fun.turn {P : Program} {f : FuncId} {args : Array Value} (h : Fun P f args R O (fun v R' O' => ∃ R2 O2, POST v R2 O2 ∧ ∀ w, Sat R' O' w → Sat R2 O2 w)) : Fun P f args R O POST := Fun.thin h (fun _ _ _ h => h)
theorem merge2_spec {U V W : List It} {uv vv wv : Value} (hu : SlE encI uv U ∈ R) (hv : SlE encI vv V ∈ R) (hw : SlE encI wv W ∈ R) (hKu : KL U) (hKv : KL V) (hKw : KL W)
    (hk : ∀ l c e lv cv, MRes U V W l c e → POST (.tuple #[lv, cv, .int .i64 e]) (SlE encI lv l :: SlE encF cv c :: R) O) : Fun Try.prog 10 #[uv, vv, wv] R O POST := by
  refine Fun.turn (merge_spec hu hv hw hKu hKv hKw (fun h => ?_) (fun h1 h2 h3 x ks hks hb => ?_) (fun h1 h2 h3 x ks hks hb => ?_))
  · exact ⟨_, _, hk [] [] 12 _ _ ⟨fun _ => ⟨rfl, rfl, rfl⟩, fun h1 h2 h3 => absurd ⟨h1, h2, h3⟩ h⟩, fun w h => h.nilE.nilE⟩
  · exact ⟨_, _, hk [] (mbad U V W ks) 0 _ _ ⟨fun h => absurd ⟨h1, h2, h3⟩ h, fun _ _ _ => ⟨rfl, ks, hks, rfl, fun _ => rfl, fun h => absurd h hb⟩⟩, fun w h => (h.shareA (Take.head _)).nilE⟩
  · refine ⟨_, _, hk (itemsL (mval U V W) ks) [] 0 _ _ ⟨fun h => absurd ⟨h1, h2, h3⟩ h, fun _ _ _ => ⟨rfl, ks, hks, hb.symm, fun h => absurd rfl h, fun _ => rfl⟩⟩, fun w h => (Sat.nilE h).shareA (Take.head _)⟩
theorem diff2_spec {a b : List It} {av bv : Value} (ha : SlE encI av a ∈ R) (hb : SlE encI bv b ∈ R) (hKa : KL a) (hKb : KL b) (hk : ∀ l e lv, DRes a b l e → POST (.tuple #[lv, .int .i64 e]) (SlE encG lv l :: R) O) : Fun Try.prog 17 #[av, bv] R O POST := by
  refine Fun.turn (diff_spec ha hb hKa hKb (fun h1 h2 x ks hks => ?_) (fun h => ?_))
  · exact ⟨_, _, hk (dchg a b ks) 0 _ ⟨fun h => absurd ⟨h1, h2⟩ h, fun _ _ => ⟨rfl, ks, hks, rfl⟩⟩, fun w h => h.shareA (Take.head _)⟩
  · exact ⟨_, _, hk [] 12 _ ⟨fun _ => ⟨rfl, rfl⟩, fun h1 h2 => absurd ⟨h1, h2⟩ h⟩, fun w h => h.nilE⟩
theorem apply2_spec {a : List It} {l : List Ch} {av lv : Value} (ha : SlE encI av a ∈ R) (hl : SlE encG lv l ∈ R) (hKa : KL a) (hKl : KG l) (hk : ∀ r e rv, ARes a l r e → POST (.tuple #[rv, .int .i64 e]) (SlE encI rv r :: R) O) : Fun Try.prog 15 #[av, lv] R O POST := by
  refine Fun.turn (apply_spec ha hl hKa hKl (fun h => ?_) (fun h1 h2 h3 => ?_) (fun h1 h2 h3 h4 => ?_) (fun h1 h2 h3 h4 x ks hka hkm => ?_))
  · exact ⟨_, _, hk [] 12 _ ⟨fun _ => ⟨rfl, rfl⟩, fun h1 h2 => absurd ⟨h1, h2⟩ h, fun h1 h2 => absurd ⟨h1, h2⟩ h, fun h1 h2 => absurd ⟨h1, h2⟩ h⟩, fun w h => h.nilE⟩
  · exact ⟨_, _, hk [] 2 _ ⟨fun h => absurd ⟨h1, h2⟩ h, fun _ _ _ => ⟨rfl, rfl⟩, fun _ _ h => absurd h3 h, fun _ _ h => absurd h3 h⟩, fun w h => h.nilE⟩
  · exact ⟨_, _, hk [] 13 _ ⟨fun h => absurd ⟨h1, h2⟩ h, fun _ _ h => absurd h h3, fun _ _ _ _ => ⟨rfl, rfl⟩, fun _ _ _ h => by obtain ⟨x, hx, hne⟩ := h4; exact absurd (h x hx) hne⟩, fun w h => h.nilE⟩
  · exact ⟨_, _, hk (itemsL (upd a l) ks) 0 _ ⟨fun h => absurd ⟨h1, h2⟩ h, fun _ _ h => absurd h h3, fun _ _ _ h => by obtain ⟨x, hx, hne⟩ := h; exact absurd (h4 x hx) hne, fun _ _ _ _ => ⟨rfl, ks, hka, hkm, rfl⟩⟩, fun w h => h.shareA (Take.head _)⟩

/-! ### what the law wants -/
def wantL (U V W : List It) (ks : List (List UInt8)) : List It := ks.filterMap fun k => if Clash U V W k then none else if (mval U V W k).2 = true then some (k, (mval U V W k).1) else none
theorem wantL_snoc (U V W : List It) {ks : List (List UInt8)} {i : Nat} (h : i < ks.length) : wantL U V W (ks.take (i + 1)) = wantL U V W (ks.take i) ++ (if Clash U V W ks[i]! then [] else if (mval U V W ks[i]!).2 = true then [(ks[i]!, (mval U V W ks[i]!).1)] else []) := by
  rw [take_snoc h, wantL, wantL, List.filterMap_append]
  congr 1
  generalize ks[i]! = k
  rw [List.filterMap_cons]
  by_cases e : Clash U V W k
  · rw [if_pos e, if_pos e]; rfl
  · rw [if_neg e, if_neg e]
    by_cases e2 : (mval U V W k).2 = true
    · rw [if_pos e2, if_pos e2]; rfl
    · rw [if_neg e2, if_neg e2]; rfl
theorem wantL_len (U V W : List It) (ks : List (List UInt8)) : (wantL U V W ks).length ≤ ks.length := List.length_filterMap_le _ _
theorem wantL_items {U V W : List It} {ks : List (List UInt8)} (h : ∀ k ∈ ks, ¬ Clash U V W k) : wantL U V W ks = itemsL (mval U V W) ks := by
  induction ks with
  | nil => rfl
  | cons a r ih =>
    have h1 := ih fun k hk => h k (List.mem_cons_of_mem _ hk)
    unfold wantL itemsL at h1 ⊢
    rw [List.filterMap_cons, List.filterMap_cons, if_neg (h a List.mem_cons_self), h1]
theorem mbad_at {U V W : List It} {ks : List (List UInt8)} {i : Nat} (h : i < ks.length) (hc : Clash U V W ks[i]!) : (mbad U V W (ks.take i)).length < (mbad U V W ks).length ∧ (mbad U V W ks)[(mbad U V W (ks.take i)).length]! = ⟨ks[i]!, says U ks[i]!, says V ks[i]!, says W ks[i]!⟩ := by
  have e : mbad U V W ks = mbad U V W (ks.take i) ++ [⟨ks[i]!, says U ks[i]!, says V ks[i]!, says W ks[i]!⟩] ++ mbad U V W (ks.drop (i + 1)) := by
    have h1 := mbad_snoc U V W h
    rw [if_pos hc] at h1
    rw [← h1]
    conv => lhs; rw [← List.take_append_drop (i + 1) ks]
    rw [mbad, List.filterMap_append]; rfl
  have hlt : (mbad U V W (ks.take i)).length < (mbad U V W ks).length := by rw [e]; simp
  refine ⟨hlt, ?_⟩
  rw [getElem!_pos (mbad U V W ks) _ hlt]
  generalize hL : mbad U V W ks = L at hlt e ⊢
  subst e
  simp
end
end Go.Proofs.Ytbbeifdmgmadiaa
